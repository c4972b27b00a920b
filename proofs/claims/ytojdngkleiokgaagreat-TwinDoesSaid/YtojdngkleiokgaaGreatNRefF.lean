/- Contracts of the references: which calendars may be; quarters (layers 11, 15). -/
import Derived.Test.YtojdngkleiokgaaGreatRefA
import Derived.Test.YtojdngkleiokgaaGreatNRefP
import Derived.Test.YtojdngkleiokgaaGreatMAn
import Derived.Test.YtojdngkleiokgaaGreatMSa
namespace Go.Proofs.YtojdngkleiokgaaGreat
open Go.RowKit Qd
set_option linter.unusedSimpArgs false
set_option linter.unusedVariables false

theorem okE_cases (c : Cal) : (c.Ok ∧ okE c = 0 ∧ c.okB = true) ∨ (¬ c.Ok ∧ okE c = 1 ∧ c.okB = false) := by
  by_cases h : c.Ok
  · exact .inl ⟨h, okE_yes h, by simpa [Cal.okB] using h⟩
  · exact .inr ⟨h, okE_no h, by simpa [Cal.okB] using h⟩

set_option maxRecDepth 100000 in
set_option maxHeartbeats 3200000 in
theorem rcheck_pre (c : Cal) (w : World) (hn : c.name.size ≤ 1000) (h : ¬ (c.served ∧ c.polic ∧ nameB c.name = true)) :
    Calls Tryz.prog 57 #[calV c] w fun e w' => e = .returned (.int .i64 (okE c)) ∧ Below w.heap.size w w' := by
  have HE := hide (show okE c = 1 from okE_no (fun hk => h ⟨hk.1, hk.2.1, hk.2.2.1⟩))
  have hcase : nameB c.name = false ∨ (nameB c.name = true ∧ c.first < 1602) ∨ (nameB c.name = true ∧ 1602 ≤ c.first ∧ 9996 < c.last) ∨ (nameB c.name = true ∧ 1602 ≤ c.first ∧ c.last ≤ 9996 ∧ c.last < c.first) ∨ (nameB c.name = true ∧ 1602 ≤ c.first ∧ c.last ≤ 9996 ∧ c.first ≤ c.last ∧ 400 ≤ c.last - c.first) ∨
      (nameB c.name = true ∧ 1602 ≤ c.first ∧ c.last ≤ 9996 ∧ c.first ≤ c.last ∧ c.last - c.first < 400 ∧ c.policy < 1) ∨ (nameB c.name = true ∧ 1602 ≤ c.first ∧ c.last ≤ 9996 ∧ c.first ≤ c.last ∧ c.last - c.first < 400 ∧ 1 ≤ c.policy ∧ 4 < c.policy) ∨
      (nameB c.name = true ∧ 1602 ≤ c.first ∧ c.last ≤ 9996 ∧ c.first ≤ c.last ∧ c.last - c.first < 400 ∧ 1 ≤ c.policy ∧ c.policy ≤ 4 ∧ (c.policy == 4) = true ∧ (c.kind == 6) = false) ∨
      (nameB c.name = true ∧ 1602 ≤ c.first ∧ c.last ≤ 9996 ∧ c.first ≤ c.last ∧ c.last - c.first < 400 ∧ 1 ≤ c.policy ∧ c.policy ≤ 4 ∧ (c.policy == 4) = false ∧ (c.kind == 6) = true) := by
    cases hnm : nameB c.name
    · exact .inl rfl
    · simp only [Cal.served, Cal.polic, hnm] at h
      have h1 : (c.policy == 4) = decide (c.policy = 4) := rfl
      have h2 : (c.kind == 6) = decide (c.kind = 6) := rfl
      rw [h1, h2]
      simp only [decide_eq_true_eq, decide_eq_false_iff_not, reduceCtorEq, false_or, true_and]
      simp only [and_true] at h
      omega
  clear h
  simp only [calV]
  rcases hcase with h | ⟨h, h1⟩ | ⟨h, h1, h2⟩ | ⟨h, h1, h2, h3⟩ | ⟨h, h1, h2, h3, h4⟩ | ⟨h, h1, h2, h3, h4, h5⟩ | ⟨h, h1, h2, h3, h4, h5, h6⟩ | ⟨h, h1, h2, h3, h4, h5, h6, h7, h8⟩ | ⟨h, h1, h2, h3, h4, h5, h6, h7, h8⟩
  all_goals
    go_enter Tryz.func57, Tryz.ntmps57
    go_wp2_with fail
    refine (rname_any _ _ hn).mono ?_
    rintro e w1 ⟨rfl, rfl⟩
    rw [h]
    go_wp2_with fail
    all_goals first
      | (exfalso; omega)
      | (go_ret; exact ⟨ret_int HE.out.symm, by (repeat' exact bel)⟩)

/-- The guards hold: what is left is the rule. -/
theorem okE_rule {c : Cal} (h : c.served ∧ c.polic ∧ nameB c.name = true) : okE c = if c.ruled then 0 else 1 := by
  by_cases hr : c.ruled
  · rw [if_pos hr]; exact okE_yes ⟨h.1, h.2.1, h.2.2, hr⟩
  · rw [if_neg hr]; exact okE_no (fun hk => hr hk.2.2.2)
set_option maxRecDepth 100000 in
set_option maxHeartbeats 6400000 in
theorem rcheck_3 (c : Cal) (w : World) (hn : c.name.size ≤ 1000) (h : c.served ∧ c.polic ∧ nameB c.name = true) (hk : c.kind = 3) :
    Calls Tryz.prog 57 #[calV c] w fun e w' => e = .returned (.int .i64 (okE c)) ∧ Below w.heap.size w w' := by
  have HE := hide (okE_rule h)
  obtain ⟨⟨s1, s2, s3, s4⟩, ⟨⟨p1, p2⟩, p3⟩, hnm⟩ := h
  have hp4 : (c.policy == 4) = false := by simp; omega
  have hk6 : (c.kind == 6) = false := by simp [hk]
  have HNM := hide hnm
  obtain ⟨nm, k, d, m, sh, sp, a, b, p, cy, ex, fi, la, po⟩ := c
  obtain rfl : k = 3 := hk
  simp only at s1 s2 s3 s4 p1 p2 hp4 hk6 hn HNM
  clear p3 hnm
  simp only [calV]
  go_enter Tryz.func57, Tryz.ntmps57
  go_wp2_with fail
  refine (rname_any _ _ hn).mono ?_
  rintro e w1 ⟨rfl, rfl⟩
  rw [HNM.out]
  go_wp2_with fail
  all_goals first
    | (exfalso; omega)
    | skip
  all_goals
    go_ret
    refine ⟨ret_int ?_, by (repeat' exact bel)⟩
    subst_vars
    rw [HE.out]
    simp only [Cal.ruled, Cal.pat0, Cal.weeks, weeksP]
    first
      | rw [if_pos (by omega)]
      | rw [if_neg (by omega)]
      | (clear HE HNM; grind)

set_option maxRecDepth 100000 in
set_option maxHeartbeats 6400000 in
theorem rcheck_4 (c : Cal) (w : World) (hn : c.name.size ≤ 1000) (h : c.served ∧ c.polic ∧ nameB c.name = true) (hk : c.kind = 4) :
    Calls Tryz.prog 57 #[calV c] w fun e w' => e = .returned (.int .i64 (okE c)) ∧ Below w.heap.size w w' := by
  have HE := hide (okE_rule h)
  obtain ⟨⟨s1, s2, s3, s4⟩, ⟨⟨p1, p2⟩, p3⟩, hnm⟩ := h
  have hp4 : (c.policy == 4) = false := by simp; omega
  have hk6 : (c.kind == 6) = false := by simp [hk]
  have HNM := hide hnm
  obtain ⟨nm, k, d, m, sh, sp, a, b, p, cy, ex, fi, la, po⟩ := c
  obtain rfl : k = 4 := hk
  simp only at s1 s2 s3 s4 p1 p2 hp4 hk6 hn HNM
  clear p3 hnm
  simp only [calV]
  go_enter Tryz.func57, Tryz.ntmps57
  go_wp2_with fail
  refine (rname_any _ _ hn).mono ?_
  rintro e w1 ⟨rfl, rfl⟩
  rw [HNM.out]
  go_wp2_with fail
  all_goals first
    | (exfalso; omega)
    | skip
  all_goals
    go_ret
    refine ⟨ret_int ?_, by (repeat' exact bel)⟩
    subst_vars
    rw [HE.out]
    simp only [Cal.ruled, Cal.pat0, Cal.weeks, weeksP]
    first
      | rw [if_pos (by omega)]
      | rw [if_neg (by omega)]
      | (clear HE HNM; grind)

set_option maxRecDepth 100000 in
set_option maxHeartbeats 6400000 in
theorem rcheck_6 (c : Cal) (w : World) (hn : c.name.size ≤ 1000) (h : c.served ∧ c.polic ∧ nameB c.name = true) (hk : c.kind = 6) :
    Calls Tryz.prog 57 #[calV c] w fun e w' => e = .returned (.int .i64 (okE c)) ∧ Below w.heap.size w w' := by
  have HE := hide (okE_rule h)
  obtain ⟨⟨s1, s2, s3, s4⟩, ⟨⟨p1, p2⟩, p3⟩, hnm⟩ := h
  have hp4 : (c.policy == 4) = true := by simp; omega
  have hk6 : (c.kind == 6) = true := by simp [hk]
  have HNM := hide hnm
  obtain ⟨nm, k, d, m, sh, sp, a, b, p, cy, ex, fi, la, po⟩ := c
  obtain rfl : k = 6 := hk
  simp only at s1 s2 s3 s4 p1 p2 hp4 hk6 hn HNM
  clear p3 hnm
  simp only [calV]
  go_enter Tryz.func57, Tryz.ntmps57
  go_wp2_with fail
  refine (rname_any _ _ hn).mono ?_
  rintro e w1 ⟨rfl, rfl⟩
  rw [HNM.out]
  go_wp2_with fail
  all_goals first
    | (exfalso; omega)
    | skip
  all_goals (try (go_quiet (fail)))
  all_goals (try go_wp2)
  all_goals
    go_ret
    refine ⟨ret_int ?_, by (repeat' exact bel)⟩
    subst_vars
    rw [HE.out]
    simp only [Cal.ruled, Cal.pat0, Cal.weeks, weeksP]
    first
      | rw [if_pos (by omega)]
      | rw [if_neg (by omega)]
      | (clear HE HNM; grind)

set_option maxRecDepth 100000 in
set_option maxHeartbeats 6400000 in
theorem rcheck_n (c : Cal) (w : World) (hn : c.name.size ≤ 1000) (h : c.served ∧ c.polic ∧ nameB c.name = true) (hk : ¬ (1 ≤ c.kind ∧ c.kind ≤ 6)) :
    Calls Tryz.prog 57 #[calV c] w fun e w' => e = .returned (.int .i64 (okE c)) ∧ Below w.heap.size w w' := by
  have HE := hide (okE_rule h)
  obtain ⟨⟨s1, s2, s3, s4⟩, ⟨⟨p1, p2⟩, p3⟩, hnm⟩ := h
  have hp4 : (c.policy == 4) = false := by simp; omega
  have hk6 : (c.kind == 6) = false := by simp; omega
  have hk1 : (c.kind == 1) = false := by simp; omega
  have hk2 : (c.kind == 2) = false := by simp; omega
  have hk3 : (c.kind == 3) = false := by simp; omega
  have hk4 : (c.kind == 4) = false := by simp; omega
  have hk5 : (c.kind == 5) = false := by simp; omega
  have HNM := hide hnm
  have HK := hide hk
  have HR := hide (show okE c = 1 by rw [HE.out, if_neg (by unfold Cal.ruled; omega)])
  clear p3 hnm hk
  simp only [calV]
  go_enter Tryz.func57, Tryz.ntmps57
  go_wp2_with fail
  refine (rname_any _ _ hn).mono ?_
  rintro e w1 ⟨rfl, rfl⟩
  rw [HNM.out]
  go_wp2_with fail
  all_goals first
    | (exfalso; omega)
    | skip
  all_goals
    go_ret
    exact ⟨ret_int HR.out.symm, by (repeat' exact bel)⟩
end Go.Proofs.YtojdngkleiokgaaGreat
