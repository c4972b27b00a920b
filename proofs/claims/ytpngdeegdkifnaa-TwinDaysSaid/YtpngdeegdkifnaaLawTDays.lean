/- The walk of TwinDays. -/
import Derived.Test.YtpngdeegdkifnaaTwinC
import Derived.Test.YtpngdeegdkifnaaTwinB
namespace Go.Proofs.Ytpngdeegdkifnaa
open Go.RowKit Go.Shelf Qd
set_option linter.unusedSimpArgs false
set_option linter.unusedVariables false

/-- What is kept in the loop over the days. -/
def TdSt (c : Cal) (R : List Sp) (g2 cap2 : Nat) (S : Sp) (B BS : Nat) (w0 w : World) : Prop := CalAt w B c ∧ B < w.heap.size ∧ (SpsAt w g2 cap2 R ∧ g2 < w.heap.size) ∧ BlkIs w BS #[.int .i64 S.a, .int .i64 S.b] 35 ∧ BS < w.heap.size ∧ Below B w0 w
theorem TdSt.call {c : Cal} {R : List Sp} {g2 cap2 : Nat} {S : Sp} {B BS : Nat} {w0 w w' : World} (h : TdSt c R g2 cap2 S B BS w0 w) (hb : Below w.heap.size w w') : TdSt c R g2 cap2 S B BS w0 w' := ⟨calAt_below hb h.2.1 h.1, Nat.lt_of_lt_of_le h.2.1 hb.size, ⟨h.2.2.1.1.call hb, Nat.lt_of_lt_of_le h.2.2.1.2 hb.size⟩, h.2.2.2.1.call hb, Nat.lt_of_lt_of_le h.2.2.2.2.1 hb.size, h.2.2.2.2.2.trans (hb.mono (Nat.le_of_lt h.2.1))⟩
/-- The same without the spans. -/
def TeSt (c : Cal) (S : Sp) (B BS : Nat) (w0 w : World) : Prop := CalAt w B c ∧ B < w.heap.size ∧ BlkIs w BS #[.int .i64 S.a, .int .i64 S.b] 35 ∧ BS < w.heap.size ∧ Below B w0 w
theorem TeSt.call {c : Cal} {S : Sp} {B BS : Nat} {w0 w w' : World} (h : TeSt c S B BS w0 w) (hb : Below w.heap.size w w') : TeSt c S B BS w0 w' := ⟨calAt_below hb h.2.1 h.1, Nat.lt_of_lt_of_le h.2.1 hb.size, h.2.2.1.call hb, Nat.lt_of_lt_of_le h.2.2.2.1 hb.size, h.2.2.2.2.trans (hb.mono (Nat.le_of_lt h.2.1))⟩
theorem tw_range {c : Cal} {u : Un} {k : Int} (hU : unitE c u = 0) (hk6 : c.kind ≠ 6) (hr : ¬ (c.first ≤ u.yr + k ∧ u.yr + k ≤ c.last)) : twE c u k = 11 ∧ cdE c (spV c u).a k = 11 ∧ cdV c (spV c u).a k = 0 := by
  obtain ⟨hf, _, _, hA, _, _⟩ := un_lv hU
  obtain ⟨hok, hk, _, _, hy1, hy2, _⟩ := frame_ok hf
  have hab := cutAB hU
  have hb60 := nWk_bd c _ hA
  have hsp := sp_get hU
  rw [dayW_7 c _ hA hk6 _ (by omega), dayW_7 c _ hA hk6 _ hab.2] at hsp
  have hend := dayW_end c _ hA
  rw [dayW_7 c _ hA hk6 _ (Nat.le_refl _)] at hend
  have ha0 : (spV c u).a = startV c u.yr + 7 * (cutA c u : Int) := by rw [hsp]
  obtain ⟨s1, s2⟩ := serv_yes (day := (spV c u).a) hk ⟨hA, by omega, by omega⟩ hy1 hy2
  have h := cd_out (d := (spV c u).a) (k := k) s1 (by rw [s2]; exact hr)
  exact ⟨by rw [twE, if_pos hU, if_neg hr], h⟩
theorem tw_bad {c : Cal} {u : Un} {k : Int} (hU : ¬ unitE c u = 0) : twE c u k = unitE c u := by rw [twE, if_neg hU]
theorem tw_two {c : Cal} {u : Un} {k : Int} (hU : unitE c u = 0) (hr : c.first ≤ u.yr + k ∧ u.yr + k ≤ c.last) (hE : ¬ twE c u k = 0) : (twE c u k = 12 ∧ (twL0 c u k).length = 0) ∨ (twE c u k = 11 ∧ 0 < (twL0 c u k).length) := by
  unfold twE at hE ⊢
  rw [if_pos hU, if_pos hr] at hE ⊢
  by_cases hin : inB c (twL0 c u k) = true
  · rw [if_pos hin] at hE ⊢
    by_cases h0 : (twL0 c u k).length = 0
    · rw [if_pos h0]; exact .inl ⟨rfl, h0⟩
    · rw [if_neg h0] at hE; exact absurd rfl hE
  · rw [if_neg hin]
    refine .inr ⟨rfl, ?_⟩
    rcases Nat.eq_zero_or_pos (twL0 c u k).length with h0 | h0
    · exfalso; apply hin; rw [List.length_eq_zero_iff.1 h0]; rfl
    · exact h0
theorem sp_short {c : Cal} {u : Un} (hU : unitE c u = 0) (hk6 : c.kind ≠ 6) : (spV c u).b - (spV c u).a ≤ 371 := by
  obtain ⟨hf, _, _, hA, _, _⟩ := un_lv hU
  obtain ⟨hok, hk, _, _, hy1, hy2, _⟩ := frame_ok hf
  have hab := cutAB hU
  have hsp := sp_get hU
  rw [dayW_7 c _ hA hk6 _ (by omega), dayW_7 c _ hA hk6 _ hab.2] at hsp
  have h1 := nwk_wks hk hk6 ⟨hy1, hy2⟩
  have h2 := (wks_srv hk hk6 ⟨hy1, hy2⟩).2.2
  rw [hsp]
  simp only
  omega
/-- How many days were met: what the walk needs of it. -/
structure MetOk (MN : Int → Int) (S : Sp) (g gl m : Int) : Prop where
  zero : MN S.a = 0
  ins : ∀ d, g ≤ d → d < g + gl → MN (d + 1) = MN d
  out : ∀ d, ¬ (g ≤ d ∧ d < g + gl) → MN (d + 1) = MN d + 1
  bd : ∀ d, S.a ≤ d → 0 ≤ MN d ∧ MN d ≤ d - S.a
  lt : ∀ d, d ≤ S.b → ¬ (g ≤ d ∧ d < g + gl) → MN d < m
  last : MN (S.b + 1) = m
theorem met_ok {S : Sp} {g gl : Int} (h1 : S.a ≤ g) (h2 : g + gl ≤ S.b + 1) (h0 : 0 ≤ gl) : MetOk (metN S.a g gl) S g gl (S.b + 1 - S.a - gl) :=
  ⟨metN_start h1, fun d a b => metN_in a b, fun d h => metN_out h h0, fun d h => metN_bd h1 h0 h, fun d hd h => metN_lt h h0 h2 hd, metN_end h2 h0⟩

set_option maxRecDepth 100000 in
set_option maxHeartbeats 1600000 in
theorem td_long (c : Cal) (u : Un) (k : Int) (w : World) (hn : 100 < c.name.size) (hm : c.name.size ≤ 9223372036854775807) :
    Calls Try.prog 11 #[calV c, unitV u, .int .i64 k] w fun e w' => e = .returned (.bool true) ∧ Below w.heap.size w w' := by
  simp only [calV, unitV]
  go_enter Try.func11, Try.ntmps11
  go_wp2_with fail
  refine (live20_any _).mono ?_
  rintro e w1 ⟨rfl, hb1⟩
  have hz1 : w.heap.size + 1 < w1.heap.size := by have := hb1.size; simp at this; omega
  have HB1 := hide (show Below w.heap.size w w1 by refine Below.trans ?_ (hb1.mono (by first | omega | (simp; done) | (simp; omega))); (repeat' (first | (with_reducible exact Below.refl _ _) | (with_reducible assumption) | (with_reducible refine Below.alloc ?_ ?_ _) | (with_reducible refine below_drewN ?_ _) | (with_reducible refine Below.drew ?_) | (with_reducible refine Below.setCell ?_ ?_ _) | (with_reducible refine Below.trans ?_ (Below.mono (by assumption) ?_)) | go_size | (simp at *; omega))))
  have HQ1 := hide (calAt_below hb1 (by simp; omega) (calAt_alloc (calAt_new w c) (by simp) _))
  have HU1 := hide (unAt_below hb1 (by simp) (unAt_new w c u))
  obtain ⟨q0, q1, q2, q3, q4, q5, q6, q7, q8, q9, q10, q11, q12, q13⟩ := HQ1.out
  obtain ⟨u0, u1, u2⟩ := HU1.out
  have hy1 : w.heap.size < w1.heap.size := by omega
  clear hb1
  go_wp2
  all_goals first
    | (exfalso; omega)
    | (go_ret; exact ⟨rfl, HB1.out⟩)


set_option maxRecDepth 100000 in
set_option maxHeartbeats 3200000 in
theorem td_triv (c : Cal) (u : Un) (k : Int) (w : World) (hn : c.name.size ≤ 100) (h6 : c.kind = 6) :
    Calls Try.prog 11 #[calV c, unitV u, .int .i64 k] w fun e w' => e = .returned (.bool true) ∧ Below w.heap.size w w' := by
  have hkb : (c.kind == 6) = true := by simp [h6]
  clear h6
  simp only [calV, unitV]
  go_enter Try.func11, Try.ntmps11
  go_wp2_with fail
  refine (live20_any _).mono ?_
  rintro e w1 ⟨rfl, hb1⟩
  have hz1 : w.heap.size + 1 < w1.heap.size := by have := hb1.size; simp at this; omega
  have HB1 := hide (show Below w.heap.size w w1 by refine Below.trans ?_ (hb1.mono (by first | omega | (simp; done) | (simp; omega))); (repeat' (first | (with_reducible exact Below.refl _ _) | (with_reducible assumption) | (with_reducible refine Below.alloc ?_ ?_ _) | (with_reducible refine below_drewN ?_ _) | (with_reducible refine Below.drew ?_) | (with_reducible refine Below.setCell ?_ ?_ _) | (with_reducible refine Below.trans ?_ (Below.mono (by assumption) ?_)) | go_size | (simp at *; omega))))
  have HQ1 := hide (calAt_below hb1 (by simp; omega) (calAt_alloc (calAt_new w c) (by simp) _))
  have HU1 := hide (unAt_below hb1 (by simp) (unAt_new w c u))
  obtain ⟨q0, q1, q2, q3, q4, q5, q6, q7, q8, q9, q10, q11, q12, q13⟩ := HQ1.out
  obtain ⟨u0, u1, u2⟩ := HU1.out
  have hy1 : w.heap.size < w1.heap.size := by omega
  clear hb1
  have hBel := HB1.out
  go_wp2
  all_goals first
    | (exfalso; omega)
    | (go_ret; exact ⟨rfl, by (repeat' (first | (with_reducible exact Below.refl _ _) | (with_reducible assumption) | (with_reducible refine Below.alloc ?_ ?_ _) | (with_reducible refine below_drewN ?_ _) | (with_reducible refine Below.drew ?_) | (with_reducible refine Below.setCell ?_ ?_ _) | (with_reducible refine Below.trans ?_ (Below.mono (by assumption) ?_)) | go_size | (simp at *; omega)))⟩)

set_option maxRecDepth 100000 in
set_option maxHeartbeats 3200000 in
theorem td_bad (c : Cal) (u : Un) (k : Int) (w : World) (hn : c.name.size ≤ 100) (hk6 : c.kind ≠ 6) (hU : ¬ unitE c u = 0) :
    Calls Try.prog 11 #[calV c, unitV u, .int .i64 k] w fun e w' => e = .returned (.bool true) ∧ Below w.heap.size w w' := by
  have hkb : (c.kind == 6) = false := by simpa using hk6
  have hT := tw_bad (k := k) hU
  have HN := hide (show ¬ twE c u k = 0 by rw [hT]; exact hU)
  obtain ⟨E, hEE⟩ : ∃ E, unitE c u = E := ⟨_, rfl⟩
  rw [hEE] at hT hU
  have HEE := hide (And.intro hT hEE)
  have hEb : (E != 0) = true := by simpa using hU
  clear hU hT hEE hk6
  simp only [calV, unitV]
  go_enter Try.func11, Try.ntmps11
  go_wp2_with fail
  refine (live20_any _).mono ?_
  rintro e w1 ⟨rfl, hb1⟩
  have hz1 : w.heap.size + 1 < w1.heap.size := by have := hb1.size; simp at this; omega
  have HB1 := hide (show Below w.heap.size w w1 by refine Below.trans ?_ (hb1.mono (by first | omega | (simp; done) | (simp; omega))); (repeat' (first | (with_reducible exact Below.refl _ _) | (with_reducible assumption) | (with_reducible refine Below.alloc ?_ ?_ _) | (with_reducible refine below_drewN ?_ _) | (with_reducible refine Below.drew ?_) | (with_reducible refine Below.setCell ?_ ?_ _) | (with_reducible refine Below.trans ?_ (Below.mono (by assumption) ?_)) | go_size | (simp at *; omega))))
  have HQ1 := hide (calAt_below hb1 (by simp; omega) (calAt_alloc (calAt_new w c) (by simp) _))
  have HU1 := hide (unAt_below hb1 (by simp) (unAt_new w c u))
  obtain ⟨q0, q1, q2, q3, q4, q5, q6, q7, q8, q9, q10, q11, q12, q13⟩ := HQ1.out
  obtain ⟨u0, u1, u2⟩ := HU1.out
  have hy1 : w.heap.size < w1.heap.size := by omega
  clear hb1
  go_wp2_with fail
  all_goals first
    | (exfalso; omega)
    | skip
  refine (runs_no c u k _ (by omega) HN.out).mono ?_
  rintro e w2 ⟨rfl, hb2⟩
  rw [HEE.out.1]
  have hz2 : w.heap.size + 1 < w2.heap.size := by have := hb2.size; (try simp at this); omega
  have HB2 := hide (show Below w.heap.size w w2 by have hp := HB1.out; refine Below.trans ?_ (hb2.mono (by first | omega | (simp; done) | (simp; omega))); (repeat' (first | (with_reducible exact Below.refl _ _) | (with_reducible assumption) | (with_reducible refine Below.alloc ?_ ?_ _) | (with_reducible refine below_drewN ?_ _) | (with_reducible refine Below.drew ?_) | (with_reducible refine Below.setCell ?_ ?_ _) | (with_reducible refine Below.trans ?_ (Below.mono (by assumption) ?_)) | go_size | (simp at *; omega))))
  have HQ2 := hide (show CalAt w2 w.heap.size c from calAt_below hb2 (by first | omega | (simp; done) | (simp; omega)) (by first | exact HQ1.out | exact calAt_alloc HQ1.out (by omega) _ | exact calAt_alloc (calAt_alloc HQ1.out (by omega) _) (by simp; omega) _))
  clear q0 q1 q2 q3 q4 q5 q6 q7 q8 q9 q10 q11 q12 q13
  obtain ⟨q0, q1, q2, q3, q4, q5, q6, q7, q8, q9, q10, q11, q12, q13⟩ := HQ2.out
  have HU2 := hide (show UnAt w2 (w.heap.size + 1) u from unAt_below hb2 (by first | omega | (simp; done) | (simp; omega)) (by first | exact HU1.out | exact unAt_alloc HU1.out (by omega) _ | exact unAt_alloc (unAt_alloc HU1.out (by omega) _) (by simp; omega) _))
  clear u0 u1 u2
  obtain ⟨u0, u1, u2⟩ := HU2.out
  have hy2 : w.heap.size < w2.heap.size := by omega
  clear hb2
  go_wp2_with fail
  all_goals first
    | (exfalso; omega)
    | skip
  refine (uspan_any c u _ (by omega)).mono ?_
  rintro e w3 ⟨rfl, hb3⟩
  rw [HEE.out.2]
  obtain ⟨S, hSS⟩ : ∃ S, spV c u = S := ⟨_, rfl⟩
  rw [hSS]
  simp only [spanV]
  clear hSS
  have hz3 : w.heap.size + 1 < w3.heap.size := by have := hb3.size; (try simp at this); omega
  have HB3 := hide (show Below w.heap.size w w3 by have hp := HB2.out; refine Below.trans ?_ (hb3.mono (by first | omega | (simp; done) | (simp; omega))); (repeat' (first | (with_reducible exact Below.refl _ _) | (with_reducible assumption) | (with_reducible refine Below.alloc ?_ ?_ _) | (with_reducible refine below_drewN ?_ _) | (with_reducible refine Below.drew ?_) | (with_reducible refine Below.setCell ?_ ?_ _) | (with_reducible refine Below.trans ?_ (Below.mono (by assumption) ?_)) | go_size | (simp at *; omega))))
  have HQ3 := hide (show CalAt w3 w.heap.size c from calAt_below hb3 (by first | omega | (simp; done) | (simp; omega)) (by first | exact HQ2.out | exact calAt_alloc HQ2.out (by omega) _ | exact calAt_alloc (calAt_alloc HQ2.out (by omega) _) (by simp; omega) _))
  clear q0 q1 q2 q3 q4 q5 q6 q7 q8 q9 q10 q11 q12 q13
  obtain ⟨q0, q1, q2, q3, q4, q5, q6, q7, q8, q9, q10, q11, q12, q13⟩ := HQ3.out
  have HU3 := hide (show UnAt w3 (w.heap.size + 1) u from unAt_below hb3 (by first | omega | (simp; done) | (simp; omega)) (by first | exact HU2.out | exact unAt_alloc HU2.out (by omega) _ | exact unAt_alloc (unAt_alloc HU2.out (by omega) _) (by simp; omega) _))
  clear u0 u1 u2
  obtain ⟨u0, u1, u2⟩ := HU3.out
  have hy3 : w.heap.size < w3.heap.size := by omega
  clear hb3
  have hBel := HB3.out
  go_wp2
  all_goals first
    | (exfalso; omega)
    | (go_ret; exact ⟨rfl, by (repeat' (first | (with_reducible exact Below.refl _ _) | (with_reducible assumption) | (with_reducible refine Below.alloc ?_ ?_ _) | (with_reducible refine below_drewN ?_ _) | (with_reducible refine Below.drew ?_) | (with_reducible refine Below.setCell ?_ ?_ _) | (with_reducible refine Below.trans ?_ (Below.mono (by assumption) ?_)) | go_size | (simp at *; omega)))⟩)

set_option maxRecDepth 100000 in
set_option maxHeartbeats 3200000 in
theorem td_out (c : Cal) (u : Un) (k : Int) (w : World) (hn : c.name.size ≤ 100) (hk6 : c.kind ≠ 6) (hU : unitE c u = 0) (hr : ¬ (c.first ≤ u.yr + k ∧ u.yr + k ≤ c.last)) :
    Calls Try.prog 11 #[calV c, unitV u, .int .i64 k] w fun e w' => e = .returned (.bool true) ∧ Below w.heap.size w w' := by
  have hkb : (c.kind == 6) = false := by simpa using hk6
  obtain ⟨t1, t2, t3⟩ := tw_range (k := k) hU hk6 hr
  have hsb := sp_bd2 hU
  have hse := sp_short hU hk6
  obtain ⟨S, hS⟩ : ∃ S, spV c u = S := ⟨_, rfl⟩
  rw [hS] at hsb hse t2 t3
  have HS := hide (And.intro hS hU)
  have HN := hide (show ¬ twE c u k = 0 by omega)
  have HT := hide (And.intro t1 (And.intro t2 t3))
  clear hU hr t1 t2 t3 hS hk6
  simp only [calV, unitV]
  go_enter Try.func11, Try.ntmps11
  go_wp2_with fail
  refine (live20_any _).mono ?_
  rintro e w1 ⟨rfl, hb1⟩
  have hz1 : w.heap.size + 1 < w1.heap.size := by have := hb1.size; simp at this; omega
  have HB1 := hide (show Below w.heap.size w w1 by refine Below.trans ?_ (hb1.mono (by first | omega | (simp; done) | (simp; omega))); (repeat' (first | (with_reducible exact Below.refl _ _) | (with_reducible assumption) | (with_reducible refine Below.alloc ?_ ?_ _) | (with_reducible refine below_drewN ?_ _) | (with_reducible refine Below.drew ?_) | (with_reducible refine Below.setCell ?_ ?_ _) | (with_reducible refine Below.trans ?_ (Below.mono (by assumption) ?_)) | go_size | (simp at *; omega))))
  have HQ1 := hide (calAt_below hb1 (by simp; omega) (calAt_alloc (calAt_new w c) (by simp) _))
  have HU1 := hide (unAt_below hb1 (by simp) (unAt_new w c u))
  obtain ⟨q0, q1, q2, q3, q4, q5, q6, q7, q8, q9, q10, q11, q12, q13⟩ := HQ1.out
  obtain ⟨u0, u1, u2⟩ := HU1.out
  have hy1 : w.heap.size < w1.heap.size := by omega
  clear hb1
  go_wp2_with fail
  all_goals first
    | (exfalso; omega)
    | skip
  refine (runs_no c u k _ (by omega) HN.out).mono ?_
  rintro e w2 ⟨rfl, hb2⟩
  rw [HT.out.1]
  have hz2 : w.heap.size + 1 < w2.heap.size := by have := hb2.size; (try simp at this); omega
  have HB2 := hide (show Below w.heap.size w w2 by have hp := HB1.out; refine Below.trans ?_ (hb2.mono (by first | omega | (simp; done) | (simp; omega))); (repeat' (first | (with_reducible exact Below.refl _ _) | (with_reducible assumption) | (with_reducible refine Below.alloc ?_ ?_ _) | (with_reducible refine below_drewN ?_ _) | (with_reducible refine Below.drew ?_) | (with_reducible refine Below.setCell ?_ ?_ _) | (with_reducible refine Below.trans ?_ (Below.mono (by assumption) ?_)) | go_size | (simp at *; omega))))
  have HQ2 := hide (show CalAt w2 w.heap.size c from calAt_below hb2 (by first | omega | (simp; done) | (simp; omega)) (by first | exact HQ1.out | exact calAt_alloc HQ1.out (by omega) _ | exact calAt_alloc (calAt_alloc HQ1.out (by omega) _) (by simp; omega) _))
  clear q0 q1 q2 q3 q4 q5 q6 q7 q8 q9 q10 q11 q12 q13
  obtain ⟨q0, q1, q2, q3, q4, q5, q6, q7, q8, q9, q10, q11, q12, q13⟩ := HQ2.out
  have HU2 := hide (show UnAt w2 (w.heap.size + 1) u from unAt_below hb2 (by first | omega | (simp; done) | (simp; omega)) (by first | exact HU1.out | exact unAt_alloc HU1.out (by omega) _ | exact unAt_alloc (unAt_alloc HU1.out (by omega) _) (by simp; omega) _))
  clear u0 u1 u2
  obtain ⟨u0, u1, u2⟩ := HU2.out
  have hy2 : w.heap.size < w2.heap.size := by omega
  clear hb2
  go_wp2_with fail
  all_goals first
    | (exfalso; omega)
    | skip
  refine (uspan_any c u _ (by omega)).mono ?_
  rintro e w3 ⟨rfl, hb3⟩
  rw [HS.out.1, HS.out.2]
  simp only [spanV]
  have hz3 : w.heap.size + 1 < w3.heap.size := by have := hb3.size; (try simp at this); omega
  have HB3 := hide (show Below w.heap.size w w3 by have hp := HB2.out; refine Below.trans ?_ (hb3.mono (by first | omega | (simp; done) | (simp; omega))); (repeat' (first | (with_reducible exact Below.refl _ _) | (with_reducible assumption) | (with_reducible refine Below.alloc ?_ ?_ _) | (with_reducible refine below_drewN ?_ _) | (with_reducible refine Below.drew ?_) | (with_reducible refine Below.setCell ?_ ?_ _) | (with_reducible refine Below.trans ?_ (Below.mono (by assumption) ?_)) | go_size | (simp at *; omega))))
  have HQ3 := hide (show CalAt w3 w.heap.size c from calAt_below hb3 (by first | omega | (simp; done) | (simp; omega)) (by first | exact HQ2.out | exact calAt_alloc HQ2.out (by omega) _ | exact calAt_alloc (calAt_alloc HQ2.out (by omega) _) (by simp; omega) _))
  clear q0 q1 q2 q3 q4 q5 q6 q7 q8 q9 q10 q11 q12 q13
  obtain ⟨q0, q1, q2, q3, q4, q5, q6, q7, q8, q9, q10, q11, q12, q13⟩ := HQ3.out
  have HU3 := hide (show UnAt w3 (w.heap.size + 1) u from unAt_below hb3 (by first | omega | (simp; done) | (simp; omega)) (by first | exact HU2.out | exact unAt_alloc HU2.out (by omega) _ | exact unAt_alloc (unAt_alloc HU2.out (by omega) _) (by simp; omega) _))
  clear u0 u1 u2
  obtain ⟨u0, u1, u2⟩ := HU3.out
  have hy3 : w.heap.size < w3.heap.size := by omega
  clear hb3
  have HB := hide (BlkIs.new w3 #[.int .i64 S.a, .int .i64 S.b] 35)
  have HC := hide (show TeSt c S w.heap.size w3.heap.size w (w3.alloc (.cells #[.int .i64 S.a, .int .i64 S.b] 35)) from ⟨calAt_alloc HQ3.out (by omega) _, by simp; omega, HB.out, by simp, HB3.out.alloc (by omega) _⟩)
  go_wp2_with fail
  all_goals first
    | (exfalso; omega)
    | skip
  go_loopw [11, 12, 13, 14] (fun s11 s12 s13 s14 wr => s14 = .int .i64 S.a ∧ s12 = .int .i64 0 ∧ TeSt c S w.heap.size w3.heap.size w wr) (fun _ _ _ _ _ => 1)
  case atStart => exact ⟨rfl, rfl, HC.out⟩
  case round =>
    obtain ⟨rfl, rfl, hT⟩ := hrel
    have HTT := hide hT
    clear hT
    clear q0 q1 q2 q3 q4 q5 q6 q7 q8 q9 q10 q11 q12 q13
    obtain ⟨q0, q1, q2, q3, q4, q5, q6, q7, q8, q9, q10, q11, q12, q13⟩ := HTT.out.1
    have hB2 := HTT.out.2.1
    have hB3 := HTT.out.2.2.2.1
    have x0 : wr.cell? ⟨w3.heap.size, 0, none⟩ = some (.int .i64 S.a) := HTT.out.2.2.1.cell 0
    have x1 : wr.cell? ⟨w3.heap.size, 1, none⟩ = some (.int .i64 S.b) := HTT.out.2.2.1.cell 1
    go_wp2_with fail
    all_goals first
      | (exfalso; omega)
      | skip
    refine (cday_any c S.a k _ (by omega)).mono ?_
    rintro e w4 ⟨rfl, hb4⟩
    rw [HT.out.2.1, HT.out.2.2]
    have hBel := (HTT.out.call hb4).2.2.2.2
    go_wp2
    all_goals first
      | (exfalso; omega)
      | (go_ret; exact ⟨rfl, by (repeat' (first | (with_reducible exact Below.refl _ _) | (with_reducible assumption) | (with_reducible refine Below.alloc ?_ ?_ _) | (with_reducible refine below_drewN ?_ _) | (with_reducible refine Below.drew ?_) | (with_reducible refine Below.setCell ?_ ?_ _) | (with_reducible refine Below.trans ?_ (Below.mono (by assumption) ?_)) | go_size | (simp at *; omega)))⟩)

set_option maxRecDepth 100000 in
set_option maxHeartbeats 6400000 in
theorem td_err (c : Cal) (u : Un) (k : Int) (w : World) (hn : c.name.size ≤ 100) (hk6 : c.kind ≠ 6) (hU : unitE c u = 0) (hr : c.first ≤ u.yr + k ∧ u.yr + k ≤ c.last) (hE : ¬ twE c u k = 0) :
    Calls Try.prog 11 #[calV c, unitV u, .int .i64 k] w fun e w' => e = .returned (.bool true) ∧ Below w.heap.size w w' := by
  have hkb : (c.kind == 6) = false := by simpa using hk6
  obtain ⟨g, gl, p, m1, p2, m2, d1, d2, d3, d4, d5, d6, d7, d8⟩ := tw_days (k := k) hU hk6 hr
  have htwo := tw_two hU hr hE
  have hsb := sp_bd2 hU
  have hse := sp_short hU hk6
  obtain ⟨S, hS⟩ : ∃ S, spV c u = S := ⟨_, rfl⟩
  have HS := hide (And.intro hS hU)
  have HN := hide hE
  rw [hS] at hsb hse d2 d3 d5 d6 d7
  obtain ⟨MN, hMN⟩ : ∃ f : Int → Int, metN S.a g gl = f := ⟨_, rfl⟩
  have HM := hide (show MetOk MN S g gl (S.b + 1 - S.a - gl) from by rw [← hMN]; exact met_ok d2 d3 (by omega))
  have HD := hide d5
  obtain ⟨E, hEE⟩ : ∃ E, twE c u k = E := ⟨_, rfl⟩
  rw [hEE] at htwo
  obtain ⟨N, hNN⟩ : ∃ N, (twL0 c u k).length = N := ⟨_, rfl⟩
  rw [hNN] at htwo d6
  have HTWO := hide htwo
  have HEE := hide hEE
  have hEb : (E != 0) = true := by simpa using (show ¬ E = 0 by omega)
  clear hU hr hE hS hk6 d5 d8 hMN htwo hEE hNN d7
  simp only [calV, unitV]
  go_enter Try.func11, Try.ntmps11
  go_wp2_with fail
  refine (live20_any _).mono ?_
  rintro e w1 ⟨rfl, hb1⟩
  have hz1 : w.heap.size + 1 < w1.heap.size := by have := hb1.size; simp at this; omega
  have HB1 := hide (show Below w.heap.size w w1 by refine Below.trans ?_ (hb1.mono (by first | omega | (simp; done) | (simp; omega))); (repeat' (first | (with_reducible exact Below.refl _ _) | (with_reducible assumption) | (with_reducible refine Below.alloc ?_ ?_ _) | (with_reducible refine below_drewN ?_ _) | (with_reducible refine Below.drew ?_) | (with_reducible refine Below.setCell ?_ ?_ _) | (with_reducible refine Below.trans ?_ (Below.mono (by assumption) ?_)) | go_size | (simp at *; omega))))
  have HQ1 := hide (calAt_below hb1 (by simp; omega) (calAt_alloc (calAt_new w c) (by simp) _))
  have HU1 := hide (unAt_below hb1 (by simp) (unAt_new w c u))
  obtain ⟨q0, q1, q2, q3, q4, q5, q6, q7, q8, q9, q10, q11, q12, q13⟩ := HQ1.out
  obtain ⟨u0, u1, u2⟩ := HU1.out
  have hy1 : w.heap.size < w1.heap.size := by omega
  clear hb1
  go_wp2_with fail
  all_goals first
    | (exfalso; omega)
    | skip
  refine (runs_no c u k _ (by omega) HN.out).mono ?_
  rintro e w2 ⟨rfl, hb2⟩
  rw [HEE.out]
  have hz2 : w.heap.size + 1 < w2.heap.size := by have := hb2.size; (try simp at this); omega
  have HB2 := hide (show Below w.heap.size w w2 by have hp := HB1.out; refine Below.trans ?_ (hb2.mono (by first | omega | (simp; done) | (simp; omega))); (repeat' (first | (with_reducible exact Below.refl _ _) | (with_reducible assumption) | (with_reducible refine Below.alloc ?_ ?_ _) | (with_reducible refine below_drewN ?_ _) | (with_reducible refine Below.drew ?_) | (with_reducible refine Below.setCell ?_ ?_ _) | (with_reducible refine Below.trans ?_ (Below.mono (by assumption) ?_)) | go_size | (simp at *; omega))))
  have HQ2 := hide (show CalAt w2 w.heap.size c from calAt_below hb2 (by first | omega | (simp; done) | (simp; omega)) (by first | exact HQ1.out | exact calAt_alloc HQ1.out (by omega) _ | exact calAt_alloc (calAt_alloc HQ1.out (by omega) _) (by simp; omega) _))
  clear q0 q1 q2 q3 q4 q5 q6 q7 q8 q9 q10 q11 q12 q13
  obtain ⟨q0, q1, q2, q3, q4, q5, q6, q7, q8, q9, q10, q11, q12, q13⟩ := HQ2.out
  have HU2 := hide (show UnAt w2 (w.heap.size + 1) u from unAt_below hb2 (by first | omega | (simp; done) | (simp; omega)) (by first | exact HU1.out | exact unAt_alloc HU1.out (by omega) _ | exact unAt_alloc (unAt_alloc HU1.out (by omega) _) (by simp; omega) _))
  clear u0 u1 u2
  obtain ⟨u0, u1, u2⟩ := HU2.out
  have hy2 : w.heap.size < w2.heap.size := by omega
  clear hb2
  go_wp2_with fail
  all_goals first
    | (exfalso; omega)
    | skip
  refine (uspan_any c u _ (by omega)).mono ?_
  rintro e w3 ⟨rfl, hb3⟩
  rw [HS.out.1, HS.out.2]
  simp only [spanV]
  have hz3 : w.heap.size + 1 < w3.heap.size := by have := hb3.size; (try simp at this); omega
  have HB3 := hide (show Below w.heap.size w w3 by have hp := HB2.out; refine Below.trans ?_ (hb3.mono (by first | omega | (simp; done) | (simp; omega))); (repeat' (first | (with_reducible exact Below.refl _ _) | (with_reducible assumption) | (with_reducible refine Below.alloc ?_ ?_ _) | (with_reducible refine below_drewN ?_ _) | (with_reducible refine Below.drew ?_) | (with_reducible refine Below.setCell ?_ ?_ _) | (with_reducible refine Below.trans ?_ (Below.mono (by assumption) ?_)) | go_size | (simp at *; omega))))
  have HQ3 := hide (show CalAt w3 w.heap.size c from calAt_below hb3 (by first | omega | (simp; done) | (simp; omega)) (by first | exact HQ2.out | exact calAt_alloc HQ2.out (by omega) _ | exact calAt_alloc (calAt_alloc HQ2.out (by omega) _) (by simp; omega) _))
  clear q0 q1 q2 q3 q4 q5 q6 q7 q8 q9 q10 q11 q12 q13
  obtain ⟨q0, q1, q2, q3, q4, q5, q6, q7, q8, q9, q10, q11, q12, q13⟩ := HQ3.out
  have HU3 := hide (show UnAt w3 (w.heap.size + 1) u from unAt_below hb3 (by first | omega | (simp; done) | (simp; omega)) (by first | exact HU2.out | exact unAt_alloc HU2.out (by omega) _ | exact unAt_alloc (unAt_alloc HU2.out (by omega) _) (by simp; omega) _))
  clear u0 u1 u2
  obtain ⟨u0, u1, u2⟩ := HU3.out
  have hy3 : w.heap.size < w3.heap.size := by omega
  clear hb3
  have HB := hide (BlkIs.new w3 #[.int .i64 S.a, .int .i64 S.b] 35)
  have HC := hide (show TeSt c S w.heap.size w3.heap.size w (w3.alloc (.cells #[.int .i64 S.a, .int .i64 S.b] 35)) from ⟨calAt_alloc HQ3.out (by omega) _, by simp; omega, HB.out, by simp, HB3.out.alloc (by omega) _⟩)
  clear u0 u1 u2
  clear q0 q1 q2 q3 q4 q5 q6 q7 q8 q9 q10 q11 q12 q13
  obtain ⟨q0, q1, q2, q3, q4, q5, q6, q7, q8, q9, q10, q11, q12, q13⟩ := HQ3.out
  go_wp2_with fail
  all_goals first
    | (exfalso; omega)
    | skip
  go_loopw [11, 12, 13, 14] (fun s11 s12 s13 s14 wr => ∃ d : Int, s14 = .int .i64 d ∧ S.a ≤ d ∧ d ≤ S.b + 1 ∧ s12 = .int .i64 (MN d) ∧ s11 = .int .i64 0 ∧ s13 = .int .i64 0 ∧ TeSt c S w.heap.size w3.heap.size w wr) (fun _ _ _ s14 _ => (S.b + 1 - intOf s14).toNat)
  case atStart => exact ⟨S.a, rfl, Int.le_refl _, by omega, by rw [HM.out.zero], rfl, rfl, HC.out⟩
  case round =>
    obtain ⟨d, rfl, hd1, hd2, rfl, rfl, rfl, hT⟩ := hrel
    have HTT := hide hT
    clear hT
    clear q0 q1 q2 q3 q4 q5 q6 q7 q8 q9 q10 q11 q12 q13
    obtain ⟨q0, q1, q2, q3, q4, q5, q6, q7, q8, q9, q10, q11, q12, q13⟩ := HTT.out.1
    have hB2 := HTT.out.2.1
    have hB3 := HTT.out.2.2.2.1
    have hBel := HTT.out.2.2.2.2
    have x0 : wr.cell? ⟨w3.heap.size, 0, none⟩ = some (.int .i64 S.a) := HTT.out.2.2.1.cell 0
    have x1 : wr.cell? ⟨w3.heap.size, 1, none⟩ = some (.int .i64 S.b) := HTT.out.2.2.1.cell 1
    have hmb := HM.out.bd d hd1
    by_cases hd : d ≤ S.b
    · obtain ⟨M, hM⟩ : ∃ M, MN d = M := ⟨_, rfl⟩
      have HMM := hide hM
      rw [hM] at hmb
      rw [hM]
      clear hM
      go_wp2_with fail
      all_goals first
        | (exfalso; omega)
        | skip
      refine (cday_any c d k _ (by omega)).mono ?_
      rintro e w4 ⟨rfl, hb4⟩
      have hdd := HD.out d hd1 hd
      have HT4 := hide (HTT.out.call hb4)
      clear hb4
      by_cases hin : g ≤ d ∧ d < g + gl
      · rw [if_pos hin] at hdd
        rw [hdd]
        have HNX := hide (show MN (d + 1) = M by rw [HM.out.ins d hin.1 hin.2]; exact HMM.out)
        clear hdd
        obtain ⟨V, hV⟩ : ∃ V, cdV c d k = V := ⟨_, rfl⟩
        rw [hV]
        clear hV
        go_wp2
        all_goals first
          | (exfalso; omega)
          | skip
        go_roundw
        case rel => exact ⟨d + 1, rfl, by omega, by omega, by rw [HNX.out], rfl, rfl, HT4.out⟩
        case measure => simp [intOf]; omega
      · rw [if_neg hin] at hdd
        rw [hdd.1]
        have HNX := hide (show MN (d + 1) = M + 1 by rw [HM.out.out d hin, HMM.out])
        clear hdd
        obtain ⟨V, hV⟩ : ∃ V, cdV c d k = V := ⟨_, rfl⟩
        rw [hV]
        clear hV
        go_wp2
        all_goals first
          | (exfalso; omega)
          | skip
        go_roundw
        case rel => exact ⟨d + 1, rfl, by omega, by omega, by rw [HNX.out], rfl, rfl, HT4.out⟩
        case measure => simp [intOf]; omega
    · have hde : d = S.b + 1 := by omega
      subst hde
      have hMl := HM.out.last
      rw [hMl]
      rcases HTWO.out with ⟨rfl, hN⟩ | ⟨rfl, hN⟩
      · rw [show S.b + 1 - S.a - gl = 0 by omega]
        go_wp2
        all_goals first
          | (exfalso; omega)
          | (go_ret; exact ⟨rfl, by (repeat' (first | (with_reducible exact Below.refl _ _) | (with_reducible assumption) | (with_reducible refine Below.alloc ?_ ?_ _) | (with_reducible refine below_drewN ?_ _) | (with_reducible refine Below.drew ?_) | (with_reducible refine Below.setCell ?_ ?_ _) | (with_reducible refine Below.trans ?_ (Below.mono (by assumption) ?_)) | go_size | (simp at *; omega)))⟩)
      · obtain ⟨Z, hZ⟩ : ∃ Z, S.b + 1 - S.a - gl = Z := ⟨_, rfl⟩
        rw [hZ]
        have hZ0 : 0 < Z := by omega
        clear hMl hZ
        go_wp2
        all_goals first
          | (exfalso; omega)
          | (go_ret; exact ⟨ret_bool (by simp; omega), by (repeat' (first | (with_reducible exact Below.refl _ _) | (with_reducible assumption) | (with_reducible refine Below.alloc ?_ ?_ _) | (with_reducible refine below_drewN ?_ _) | (with_reducible refine Below.drew ?_) | (with_reducible refine Below.setCell ?_ ?_ _) | (with_reducible refine Below.trans ?_ (Below.mono (by assumption) ?_)) | go_size | (simp at *; omega)))⟩)
          | (go_ret; exact ⟨rfl, by (repeat' (first | (with_reducible exact Below.refl _ _) | (with_reducible assumption) | (with_reducible refine Below.alloc ?_ ?_ _) | (with_reducible refine below_drewN ?_ _) | (with_reducible refine Below.drew ?_) | (with_reducible refine Below.setCell ?_ ?_ _) | (with_reducible refine Below.trans ?_ (Below.mono (by assumption) ?_)) | go_size | (simp at *; omega)))⟩)

set_option maxRecDepth 100000 in
set_option maxHeartbeats 12800000 in
theorem td_yes1 (c : Cal) (u : Un) (k : Int) (w : World) (hn : c.name.size ≤ 100) (hk6 : c.kind ≠ 6) (hE : twE c u k = 0) (S : Sp) (hS : spV c u = S) (g gl p m1 p2 m2 : Int) (hgl : gl = 0 ∨ gl = 7) (hg1 : S.a ≤ g) (hg2 : g + gl ≤ S.b + 1) (hm1 : 0 < m1) (hm2 : m2 = 0) (hD : ∀ d : Int, S.a ≤ d → d ≤ S.b → if g ≤ d ∧ d < g + gl then cdE c d k = 12 else cdE c d k = 0 ∧ cdV c d k = runPos p m1 p2 (metN S.a g gl d)) (hmm : m1 + m2 = S.b - S.a + 1 - gl) (hR : rnL c u k = [⟨p, p + m1 - 1⟩]) :
    Calls Try.prog 11 #[calV c, unitV u, .int .i64 k] w fun e w' => e = .returned (.bool true) ∧ Below w.heap.size w w' := by
  have hkb : (c.kind == 6) = false := by simpa using hk6
  obtain ⟨hU, _, _, _, _⟩ := tw_ok hE
  have hsb := sp_bd2 hU
  have hse := sp_short hU hk6
  rw [hS] at hsb hse
  have hrb := (tw_runs hE).2.2.2.2.2.2.2.2
  rw [hR] at hrb
  have hb0 : 0 ≤ p ∧ p + m1 - 1 ≤ 3068037 := by have := hrb ⟨p, p + m1 - 1⟩ (by simp); simp only at this; omega
  have HS := hide (And.intro hS hU)
  have HE := hide hE
  have HR := hide hR
  obtain ⟨MN, hMN⟩ : ∃ f : Int → Int, metN S.a g gl = f := ⟨_, rfl⟩
  have HM := hide (show MetOk MN S g gl (m1 + m2) from by rw [← hMN, hmm, show S.b - S.a + 1 - gl = S.b + 1 - S.a - gl by omega]; exact met_ok hg1 hg2 (by omega))
  have HD := hide (show ∀ d : Int, S.a ≤ d → d ≤ S.b → if g ≤ d ∧ d < g + gl then cdE c d k = 12 else cdE c d k = 0 ∧ cdV c d k = runPos p m1 p2 (MN d) from by rw [← hMN]; exact hD)
  clear hU hE hS hk6 hrb hMN hD hR
  simp only [calV, unitV]
  go_enter Try.func11, Try.ntmps11
  go_wp2_with fail
  refine (live20_any _).mono ?_
  rintro e w1 ⟨rfl, hb1⟩
  have hz1 : w.heap.size + 1 < w1.heap.size := by have := hb1.size; simp at this; omega
  have HB1 := hide (show Below w.heap.size w w1 by refine Below.trans ?_ (hb1.mono (by first | omega | (simp; done) | (simp; omega))); (repeat' (first | (with_reducible exact Below.refl _ _) | (with_reducible assumption) | (with_reducible refine Below.alloc ?_ ?_ _) | (with_reducible refine below_drewN ?_ _) | (with_reducible refine Below.drew ?_) | (with_reducible refine Below.setCell ?_ ?_ _) | (with_reducible refine Below.trans ?_ (Below.mono (by assumption) ?_)) | go_size | (simp at *; omega))))
  have HQ1 := hide (calAt_below hb1 (by simp; omega) (calAt_alloc (calAt_new w c) (by simp) _))
  have HU1 := hide (unAt_below hb1 (by simp) (unAt_new w c u))
  obtain ⟨q0, q1, q2, q3, q4, q5, q6, q7, q8, q9, q10, q11, q12, q13⟩ := HQ1.out
  obtain ⟨u0, u1, u2⟩ := HU1.out
  have hy1 : w.heap.size < w1.heap.size := by omega
  clear hb1
  go_wp2_with fail
  all_goals first
    | (exfalso; omega)
    | skip
  refine (runs_yes c u k _ (by omega) HE.out).mono ?_
  rintro e w2 ⟨⟨g2, cap2, rfl, hsp⟩, hb2⟩
  rw [HR.out] at hsp ⊢
  have HSP2 := hide hsp
  have hgl2 := spsLt hsp (by simp)
  simp only [List.length_cons, List.length_nil, Nat.zero_add, Nat.reduceAdd]
  clear hsp
  have hz2 : w.heap.size + 1 < w2.heap.size := by have := hb2.size; (try simp at this); omega
  have HB2 := hide (show Below w.heap.size w w2 by have hp := HB1.out; refine Below.trans ?_ (hb2.mono (by first | omega | (simp; done) | (simp; omega))); (repeat' (first | (with_reducible exact Below.refl _ _) | (with_reducible assumption) | (with_reducible refine Below.alloc ?_ ?_ _) | (with_reducible refine below_drewN ?_ _) | (with_reducible refine Below.drew ?_) | (with_reducible refine Below.setCell ?_ ?_ _) | (with_reducible refine Below.trans ?_ (Below.mono (by assumption) ?_)) | go_size | (simp at *; omega))))
  have HQ2 := hide (show CalAt w2 w.heap.size c from calAt_below hb2 (by first | omega | (simp; done) | (simp; omega)) (by first | exact HQ1.out | exact calAt_alloc HQ1.out (by omega) _ | exact calAt_alloc (calAt_alloc HQ1.out (by omega) _) (by simp; omega) _))
  clear q0 q1 q2 q3 q4 q5 q6 q7 q8 q9 q10 q11 q12 q13
  obtain ⟨q0, q1, q2, q3, q4, q5, q6, q7, q8, q9, q10, q11, q12, q13⟩ := HQ2.out
  have HU2 := hide (show UnAt w2 (w.heap.size + 1) u from unAt_below hb2 (by first | omega | (simp; done) | (simp; omega)) (by first | exact HU1.out | exact unAt_alloc HU1.out (by omega) _ | exact unAt_alloc (unAt_alloc HU1.out (by omega) _) (by simp; omega) _))
  clear u0 u1 u2
  obtain ⟨u0, u1, u2⟩ := HU2.out
  have hy2 : w.heap.size < w2.heap.size := by omega
  clear hb2
  go_wp2_with fail
  all_goals first
    | (exfalso; omega)
    | skip
  refine (uspan_any c u _ (by omega)).mono ?_
  rintro e w3 ⟨rfl, hb3⟩
  rw [HS.out.1, HS.out.2]
  simp only [spanV]
  have HSP3 := hide (HSP2.out.call hb3)
  have hg3 : g2 < w3.heap.size := by have := hb3.size; (try simp at this); omega
  have hz3 : w.heap.size + 1 < w3.heap.size := by have := hb3.size; (try simp at this); omega
  have HB3 := hide (show Below w.heap.size w w3 by have hp := HB2.out; refine Below.trans ?_ (hb3.mono (by first | omega | (simp; done) | (simp; omega))); (repeat' (first | (with_reducible exact Below.refl _ _) | (with_reducible assumption) | (with_reducible refine Below.alloc ?_ ?_ _) | (with_reducible refine below_drewN ?_ _) | (with_reducible refine Below.drew ?_) | (with_reducible refine Below.setCell ?_ ?_ _) | (with_reducible refine Below.trans ?_ (Below.mono (by assumption) ?_)) | go_size | (simp at *; omega))))
  have HQ3 := hide (show CalAt w3 w.heap.size c from calAt_below hb3 (by first | omega | (simp; done) | (simp; omega)) (by first | exact HQ2.out | exact calAt_alloc HQ2.out (by omega) _ | exact calAt_alloc (calAt_alloc HQ2.out (by omega) _) (by simp; omega) _))
  clear q0 q1 q2 q3 q4 q5 q6 q7 q8 q9 q10 q11 q12 q13
  obtain ⟨q0, q1, q2, q3, q4, q5, q6, q7, q8, q9, q10, q11, q12, q13⟩ := HQ3.out
  have HU3 := hide (show UnAt w3 (w.heap.size + 1) u from unAt_below hb3 (by first | omega | (simp; done) | (simp; omega)) (by first | exact HU2.out | exact unAt_alloc HU2.out (by omega) _ | exact unAt_alloc (unAt_alloc HU2.out (by omega) _) (by simp; omega) _))
  clear u0 u1 u2
  obtain ⟨u0, u1, u2⟩ := HU3.out
  have hy3 : w.heap.size < w3.heap.size := by omega
  clear hb3
  have HB := hide (BlkIs.new w3 #[.int .i64 S.a, .int .i64 S.b] 35)
  have HC := hide (show TdSt c [⟨p, p + m1 - 1⟩] g2 cap2 S w.heap.size w3.heap.size w (w3.alloc (.cells #[.int .i64 S.a, .int .i64 S.b] 35)) from ⟨calAt_alloc HQ3.out (by omega) _, by simp; omega, ⟨HSP3.out.call ((Below.refl _ _).alloc (Nat.le_refl _) _), by simp; omega⟩, HB.out, by simp, HB3.out.alloc (by omega) _⟩)
  obtain ⟨r0, r1⟩ := SpsAt.cell HSP3.out (i := 0) (s := ⟨p, p + m1 - 1⟩) rfl
  simp only [Nat.zero_mul, Nat.zero_add] at r0 r1
  go_wp2_with fail
  all_goals first
    | (exfalso; omega)
    | skip
  clear r0 r1 u0 u1 u2
  clear q0 q1 q2 q3 q4 q5 q6 q7 q8 q9 q10 q11 q12 q13
  go_loopw [11, 12, 13, 14] (fun s11 s12 s13 s14 wr => ∃ d : Int, s14 = .int .i64 d ∧ S.a ≤ d ∧ d ≤ S.b + 1 ∧ s12 = .int .i64 (MN d) ∧ ((MN d ≤ m1 ∧ s11 = .int .i64 0 ∧ s13 = .int .i64 (p + MN d)) ∨ (m1 < MN d ∧ s11 = .int .i64 1 ∧ s13 = .int .i64 (p2 + (MN d - m1)))) ∧ MN d ≤ m1 + m2 ∧ TdSt c [⟨p, p + m1 - 1⟩] g2 cap2 S w.heap.size w3.heap.size w wr) (fun _ _ _ s14 _ => (S.b + 1 - intOf s14).toNat)
  case atStart => exact ⟨S.a, rfl, Int.le_refl _, by omega, by rw [HM.out.zero], .inl ⟨by rw [HM.out.zero]; omega, rfl, by rw [HM.out.zero, Int.add_zero]⟩, by rw [HM.out.zero]; omega, HC.out⟩
  case round =>
    obtain ⟨d, rfl, hd1, hd2, rfl, hat, hMle, hT⟩ := hrel
    have HTT := hide hT
    clear hT
    obtain ⟨q0, q1, q2, q3, q4, q5, q6, q7, q8, q9, q10, q11, q12, q13⟩ := HTT.out.1
    have hB2 := HTT.out.2.1
    have hG2 := HTT.out.2.2.1.2
    have hB3 := HTT.out.2.2.2.2.1
    have hBel := HTT.out.2.2.2.2.2
    have x0 : wr.cell? ⟨w3.heap.size, 0, none⟩ = some (.int .i64 S.a) := HTT.out.2.2.2.1.cell 0
    have x1 : wr.cell? ⟨w3.heap.size, 1, none⟩ = some (.int .i64 S.b) := HTT.out.2.2.2.1.cell 1
    have hmb := HM.out.bd d hd1
    by_cases hd : d ≤ S.b
    · obtain ⟨M, hM⟩ : ∃ M, MN d = M := ⟨_, rfl⟩
      have HMM := hide hM
      rw [hM] at hmb hat hMle
      rw [hM]
      clear hM
      have HAT := hide hat
      clear hat
      go_wp2_with fail
      all_goals first
        | (exfalso; omega)
        | skip
      refine (cday_any c d k _ (by omega)).mono ?_
      rintro e w4 ⟨rfl, hb4⟩
      have hdd := HD.out d hd1 hd
      have HT4 := hide (HTT.out.call hb4)
      have hsz4 := hb4.size
      clear hb4 x0 x1
      clear q0 q1 q2 q3 q4 q5 q6 q7 q8 q9 q10 q11 q12 q13
      by_cases hin : g ≤ d ∧ d < g + gl
      · rw [if_pos hin] at hdd
        rw [hdd]
        have HNX := hide (show MN (d + 1) = M by rw [HM.out.ins d hin.1 hin.2]; exact HMM.out)
        clear hdd
        obtain ⟨V, hV⟩ : ∃ V, cdV c d k = V := ⟨_, rfl⟩
        rw [hV]
        clear hV
        go_wp2
        all_goals first
          | (exfalso; omega)
          | skip
        go_roundw
        case rel => exact ⟨d + 1, rfl, by omega, by omega, by rw [HNX.out], by rw [HNX.out]; exact HAT.out, by rw [HNX.out]; exact hMle, HT4.out⟩
        case measure => simp [intOf]; omega
      · rw [if_neg hin] at hdd
        have HNX := hide (show MN (d + 1) = M + 1 by rw [HM.out.out d hin, HMM.out])
        have hlt : M < m1 + m2 := by have := HM.out.lt d hd hin; rw [HMM.out] at this; exact this
        rw [HMM.out] at hdd
        rw [hdd.1, hdd.2]
        clear hdd
        obtain ⟨r0, r1⟩ := SpsAt.cell HT4.out.2.2.1.1 (i := 0) (s := ⟨p, p + m1 - 1⟩) rfl
        simp only [Nat.zero_mul, Nat.zero_add] at r0 r1
        rcases HAT.out with ⟨ha, rfl, rfl⟩ | ⟨ha, rfl, rfl⟩
        · have hMm : M < m1 := by omega
          rw [show runPos p m1 p2 M = p + M by rw [runPos, if_pos (by omega)]]
          go_wp2_with fail
          all_goals first
            | (exfalso; omega)
            | skip
          go_loopw [11, 13] (fun s11 s13 wq => (s11 = .int .i64 0 ∧ s13 = .int .i64 (p + M)) ∧ TdSt c [⟨p, p + m1 - 1⟩] g2 cap2 S w.heap.size w3.heap.size w wq) (fun s11 _ _ => (5 - intOf s11).toNat)
          case atStart => exact ⟨⟨rfl, rfl⟩, HT4.out⟩
          case round =>
            clear r0 r1 hBel hsz4
            obtain ⟨hrel, hT5⟩ := hrel
            have HT5 := hide hT5
            clear hT5
            have hG5 := HT5.out.2.2.1.2
            obtain ⟨r0, r1⟩ := SpsAt.cell HT5.out.2.2.1.1 (i := 0) (s := ⟨p, p + m1 - 1⟩) rfl
            simp only [Nat.zero_mul, Nat.zero_add] at r0 r1
            obtain ⟨rfl, rfl⟩ := hrel
            go_wp2
            all_goals first
              | (exfalso; omega)
              | skip
            go_roundw
            case rel => exact ⟨d + 1, rfl, by omega, by omega, by (rw [HNX.out]) <;> first | rfl | (go_num; omega) | (congr 1; omega), by rw [HNX.out]; exact .inl ⟨by omega, rfl, by go_num⟩, by rw [HNX.out]; omega, HT5.out⟩
            case measure => simp [intOf]; omega
        · exfalso; omega
    · have hde : d = S.b + 1 := by omega
      subst hde
      have hMl := HM.out.last
      obtain ⟨r0, r1⟩ := SpsAt.cell HTT.out.2.2.1.1 (i := 0) (s := ⟨p, p + m1 - 1⟩) rfl
      simp only [Nat.zero_mul, Nat.zero_add] at r0 r1
      rw [hMl] at hat ⊢
      rcases hat with ⟨ha, rfl, rfl⟩ | ⟨ha, rfl, rfl⟩
      · go_wp2
        all_goals first
          | (exfalso; omega)
          | (go_ret; exact ⟨ret_bool (by simp; omega), by (repeat' (first | (with_reducible exact Below.refl _ _) | (with_reducible assumption) | (with_reducible refine Below.alloc ?_ ?_ _) | (with_reducible refine below_drewN ?_ _) | (with_reducible refine Below.drew ?_) | (with_reducible refine Below.setCell ?_ ?_ _) | (with_reducible refine Below.trans ?_ (Below.mono (by assumption) ?_)) | go_size | (simp at *; omega)))⟩)
          | (go_ret; exact ⟨rfl, by (repeat' (first | (with_reducible exact Below.refl _ _) | (with_reducible assumption) | (with_reducible refine Below.alloc ?_ ?_ _) | (with_reducible refine below_drewN ?_ _) | (with_reducible refine Below.drew ?_) | (with_reducible refine Below.setCell ?_ ?_ _) | (with_reducible refine Below.trans ?_ (Below.mono (by assumption) ?_)) | go_size | (simp at *; omega)))⟩)
      · exfalso; omega

set_option maxRecDepth 100000 in
set_option maxHeartbeats 12800000 in
theorem td_yes2 (c : Cal) (u : Un) (k : Int) (w : World) (hn : c.name.size ≤ 100) (hk6 : c.kind ≠ 6) (hE : twE c u k = 0) (S : Sp) (hS : spV c u = S) (g gl p m1 p2 m2 : Int) (hgl : gl = 0 ∨ gl = 7) (hg1 : S.a ≤ g) (hg2 : g + gl ≤ S.b + 1) (hm1 : 0 < m1) (hm2 : 0 < m2) (hpp : p + m1 < p2) (hD : ∀ d : Int, S.a ≤ d → d ≤ S.b → if g ≤ d ∧ d < g + gl then cdE c d k = 12 else cdE c d k = 0 ∧ cdV c d k = runPos p m1 p2 (metN S.a g gl d)) (hmm : m1 + m2 = S.b - S.a + 1 - gl) (hR : rnL c u k = [⟨p, p + m1 - 1⟩, ⟨p2, p2 + m2 - 1⟩]) :
    Calls Try.prog 11 #[calV c, unitV u, .int .i64 k] w fun e w' => e = .returned (.bool true) ∧ Below w.heap.size w w' := by
  have hkb : (c.kind == 6) = false := by simpa using hk6
  obtain ⟨hU, _, _, _, _⟩ := tw_ok hE
  have hsb := sp_bd2 hU
  have hse := sp_short hU hk6
  rw [hS] at hsb hse
  have hrb := (tw_runs hE).2.2.2.2.2.2.2.2
  rw [hR] at hrb
  have hb0 : 0 ≤ p ∧ p + m1 - 1 ≤ 3068037 := by have := hrb ⟨p, p + m1 - 1⟩ (by simp); simp only at this; omega
  have hb1 : 0 ≤ p2 ∧ p2 + m2 - 1 ≤ 3068037 := by have := hrb ⟨p2, p2 + m2 - 1⟩ (by simp); simp only at this; omega
  have HS := hide (And.intro hS hU)
  have HE := hide hE
  have HR := hide hR
  obtain ⟨MN, hMN⟩ : ∃ f : Int → Int, metN S.a g gl = f := ⟨_, rfl⟩
  have HM := hide (show MetOk MN S g gl (m1 + m2) from by rw [← hMN, hmm, show S.b - S.a + 1 - gl = S.b + 1 - S.a - gl by omega]; exact met_ok hg1 hg2 (by omega))
  have HD := hide (show ∀ d : Int, S.a ≤ d → d ≤ S.b → if g ≤ d ∧ d < g + gl then cdE c d k = 12 else cdE c d k = 0 ∧ cdV c d k = runPos p m1 p2 (MN d) from by rw [← hMN]; exact hD)
  clear hU hE hS hk6 hrb hMN hD hR
  simp only [calV, unitV]
  go_enter Try.func11, Try.ntmps11
  go_wp2_with fail
  refine (live20_any _).mono ?_
  rintro e w1 ⟨rfl, hb1⟩
  have hz1 : w.heap.size + 1 < w1.heap.size := by have := hb1.size; simp at this; omega
  have HB1 := hide (show Below w.heap.size w w1 by refine Below.trans ?_ (hb1.mono (by first | omega | (simp; done) | (simp; omega))); (repeat' (first | (with_reducible exact Below.refl _ _) | (with_reducible assumption) | (with_reducible refine Below.alloc ?_ ?_ _) | (with_reducible refine below_drewN ?_ _) | (with_reducible refine Below.drew ?_) | (with_reducible refine Below.setCell ?_ ?_ _) | (with_reducible refine Below.trans ?_ (Below.mono (by assumption) ?_)) | go_size | (simp at *; omega))))
  have HQ1 := hide (calAt_below hb1 (by simp; omega) (calAt_alloc (calAt_new w c) (by simp) _))
  have HU1 := hide (unAt_below hb1 (by simp) (unAt_new w c u))
  obtain ⟨q0, q1, q2, q3, q4, q5, q6, q7, q8, q9, q10, q11, q12, q13⟩ := HQ1.out
  obtain ⟨u0, u1, u2⟩ := HU1.out
  have hy1 : w.heap.size < w1.heap.size := by omega
  clear hb1
  go_wp2_with fail
  all_goals first
    | (exfalso; omega)
    | skip
  refine (runs_yes c u k _ (by omega) HE.out).mono ?_
  rintro e w2 ⟨⟨g2, cap2, rfl, hsp⟩, hb2⟩
  rw [HR.out] at hsp ⊢
  have HSP2 := hide hsp
  have hgl2 := spsLt hsp (by simp)
  simp only [List.length_cons, List.length_nil, Nat.zero_add, Nat.reduceAdd]
  clear hsp
  have hz2 : w.heap.size + 1 < w2.heap.size := by have := hb2.size; (try simp at this); omega
  have HB2 := hide (show Below w.heap.size w w2 by have hp := HB1.out; refine Below.trans ?_ (hb2.mono (by first | omega | (simp; done) | (simp; omega))); (repeat' (first | (with_reducible exact Below.refl _ _) | (with_reducible assumption) | (with_reducible refine Below.alloc ?_ ?_ _) | (with_reducible refine below_drewN ?_ _) | (with_reducible refine Below.drew ?_) | (with_reducible refine Below.setCell ?_ ?_ _) | (with_reducible refine Below.trans ?_ (Below.mono (by assumption) ?_)) | go_size | (simp at *; omega))))
  have HQ2 := hide (show CalAt w2 w.heap.size c from calAt_below hb2 (by first | omega | (simp; done) | (simp; omega)) (by first | exact HQ1.out | exact calAt_alloc HQ1.out (by omega) _ | exact calAt_alloc (calAt_alloc HQ1.out (by omega) _) (by simp; omega) _))
  clear q0 q1 q2 q3 q4 q5 q6 q7 q8 q9 q10 q11 q12 q13
  obtain ⟨q0, q1, q2, q3, q4, q5, q6, q7, q8, q9, q10, q11, q12, q13⟩ := HQ2.out
  have HU2 := hide (show UnAt w2 (w.heap.size + 1) u from unAt_below hb2 (by first | omega | (simp; done) | (simp; omega)) (by first | exact HU1.out | exact unAt_alloc HU1.out (by omega) _ | exact unAt_alloc (unAt_alloc HU1.out (by omega) _) (by simp; omega) _))
  clear u0 u1 u2
  obtain ⟨u0, u1, u2⟩ := HU2.out
  have hy2 : w.heap.size < w2.heap.size := by omega
  clear hb2
  go_wp2_with fail
  all_goals first
    | (exfalso; omega)
    | skip
  refine (uspan_any c u _ (by omega)).mono ?_
  rintro e w3 ⟨rfl, hb3⟩
  rw [HS.out.1, HS.out.2]
  simp only [spanV]
  have HSP3 := hide (HSP2.out.call hb3)
  have hg3 : g2 < w3.heap.size := by have := hb3.size; (try simp at this); omega
  have hz3 : w.heap.size + 1 < w3.heap.size := by have := hb3.size; (try simp at this); omega
  have HB3 := hide (show Below w.heap.size w w3 by have hp := HB2.out; refine Below.trans ?_ (hb3.mono (by first | omega | (simp; done) | (simp; omega))); (repeat' (first | (with_reducible exact Below.refl _ _) | (with_reducible assumption) | (with_reducible refine Below.alloc ?_ ?_ _) | (with_reducible refine below_drewN ?_ _) | (with_reducible refine Below.drew ?_) | (with_reducible refine Below.setCell ?_ ?_ _) | (with_reducible refine Below.trans ?_ (Below.mono (by assumption) ?_)) | go_size | (simp at *; omega))))
  have HQ3 := hide (show CalAt w3 w.heap.size c from calAt_below hb3 (by first | omega | (simp; done) | (simp; omega)) (by first | exact HQ2.out | exact calAt_alloc HQ2.out (by omega) _ | exact calAt_alloc (calAt_alloc HQ2.out (by omega) _) (by simp; omega) _))
  clear q0 q1 q2 q3 q4 q5 q6 q7 q8 q9 q10 q11 q12 q13
  obtain ⟨q0, q1, q2, q3, q4, q5, q6, q7, q8, q9, q10, q11, q12, q13⟩ := HQ3.out
  have HU3 := hide (show UnAt w3 (w.heap.size + 1) u from unAt_below hb3 (by first | omega | (simp; done) | (simp; omega)) (by first | exact HU2.out | exact unAt_alloc HU2.out (by omega) _ | exact unAt_alloc (unAt_alloc HU2.out (by omega) _) (by simp; omega) _))
  clear u0 u1 u2
  obtain ⟨u0, u1, u2⟩ := HU3.out
  have hy3 : w.heap.size < w3.heap.size := by omega
  clear hb3
  have HB := hide (BlkIs.new w3 #[.int .i64 S.a, .int .i64 S.b] 35)
  have HC := hide (show TdSt c [⟨p, p + m1 - 1⟩, ⟨p2, p2 + m2 - 1⟩] g2 cap2 S w.heap.size w3.heap.size w (w3.alloc (.cells #[.int .i64 S.a, .int .i64 S.b] 35)) from ⟨calAt_alloc HQ3.out (by omega) _, by simp; omega, ⟨HSP3.out.call ((Below.refl _ _).alloc (Nat.le_refl _) _), by simp; omega⟩, HB.out, by simp, HB3.out.alloc (by omega) _⟩)
  obtain ⟨r0, r1⟩ := SpsAt.cell HSP3.out (i := 0) (s := ⟨p, p + m1 - 1⟩) rfl
  simp only [Nat.zero_mul, Nat.zero_add] at r0 r1
  go_wp2_with fail
  all_goals first
    | (exfalso; omega)
    | skip
  clear r0 r1 u0 u1 u2
  clear q0 q1 q2 q3 q4 q5 q6 q7 q8 q9 q10 q11 q12 q13
  go_loopw [11, 12, 13, 14] (fun s11 s12 s13 s14 wr => ∃ d : Int, s14 = .int .i64 d ∧ S.a ≤ d ∧ d ≤ S.b + 1 ∧ s12 = .int .i64 (MN d) ∧ ((MN d ≤ m1 ∧ s11 = .int .i64 0 ∧ s13 = .int .i64 (p + MN d)) ∨ (m1 < MN d ∧ s11 = .int .i64 1 ∧ s13 = .int .i64 (p2 + (MN d - m1)))) ∧ MN d ≤ m1 + m2 ∧ TdSt c [⟨p, p + m1 - 1⟩, ⟨p2, p2 + m2 - 1⟩] g2 cap2 S w.heap.size w3.heap.size w wr) (fun _ _ _ s14 _ => (S.b + 1 - intOf s14).toNat)
  case atStart => exact ⟨S.a, rfl, Int.le_refl _, by omega, by rw [HM.out.zero], .inl ⟨by rw [HM.out.zero]; omega, rfl, by rw [HM.out.zero, Int.add_zero]⟩, by rw [HM.out.zero]; omega, HC.out⟩
  case round =>
    obtain ⟨d, rfl, hd1, hd2, rfl, hat, hMle, hT⟩ := hrel
    have HTT := hide hT
    clear hT
    obtain ⟨q0, q1, q2, q3, q4, q5, q6, q7, q8, q9, q10, q11, q12, q13⟩ := HTT.out.1
    have hB2 := HTT.out.2.1
    have hG2 := HTT.out.2.2.1.2
    have hB3 := HTT.out.2.2.2.2.1
    have hBel := HTT.out.2.2.2.2.2
    have x0 : wr.cell? ⟨w3.heap.size, 0, none⟩ = some (.int .i64 S.a) := HTT.out.2.2.2.1.cell 0
    have x1 : wr.cell? ⟨w3.heap.size, 1, none⟩ = some (.int .i64 S.b) := HTT.out.2.2.2.1.cell 1
    have hmb := HM.out.bd d hd1
    by_cases hd : d ≤ S.b
    · obtain ⟨M, hM⟩ : ∃ M, MN d = M := ⟨_, rfl⟩
      have HMM := hide hM
      rw [hM] at hmb hat hMle
      rw [hM]
      clear hM
      have HAT := hide hat
      clear hat
      go_wp2_with fail
      all_goals first
        | (exfalso; omega)
        | skip
      refine (cday_any c d k _ (by omega)).mono ?_
      rintro e w4 ⟨rfl, hb4⟩
      have hdd := HD.out d hd1 hd
      have HT4 := hide (HTT.out.call hb4)
      have hsz4 := hb4.size
      clear hb4 x0 x1
      clear q0 q1 q2 q3 q4 q5 q6 q7 q8 q9 q10 q11 q12 q13
      by_cases hin : g ≤ d ∧ d < g + gl
      · rw [if_pos hin] at hdd
        rw [hdd]
        have HNX := hide (show MN (d + 1) = M by rw [HM.out.ins d hin.1 hin.2]; exact HMM.out)
        clear hdd
        obtain ⟨V, hV⟩ : ∃ V, cdV c d k = V := ⟨_, rfl⟩
        rw [hV]
        clear hV
        go_wp2
        all_goals first
          | (exfalso; omega)
          | skip
        go_roundw
        case rel => exact ⟨d + 1, rfl, by omega, by omega, by rw [HNX.out], by rw [HNX.out]; exact HAT.out, by rw [HNX.out]; exact hMle, HT4.out⟩
        case measure => simp [intOf]; omega
      · rw [if_neg hin] at hdd
        have HNX := hide (show MN (d + 1) = M + 1 by rw [HM.out.out d hin, HMM.out])
        have hlt : M < m1 + m2 := by have := HM.out.lt d hd hin; rw [HMM.out] at this; exact this
        rw [HMM.out] at hdd
        rw [hdd.1, hdd.2]
        clear hdd
        obtain ⟨r0, r1⟩ := SpsAt.cell HT4.out.2.2.1.1 (i := 0) (s := ⟨p, p + m1 - 1⟩) rfl
        obtain ⟨r2, r3⟩ := SpsAt.cell HT4.out.2.2.1.1 (i := 1) (s := ⟨p2, p2 + m2 - 1⟩) rfl
        simp only [Nat.zero_mul, Nat.zero_add, Nat.one_mul, Nat.reduceAdd] at r0 r1 r2 r3
        rcases HAT.out with ⟨ha, rfl, rfl⟩ | ⟨ha, rfl, rfl⟩
        · by_cases hMm : M < m1
          · skip
            rw [show runPos p m1 p2 M = p + M by rw [runPos, if_pos (by omega)]]
            go_wp2_with fail
            all_goals first
              | (exfalso; omega)
              | skip
            go_loopw [11, 13] (fun s11 s13 wq => (s11 = .int .i64 0 ∧ s13 = .int .i64 (p + M)) ∧ TdSt c [⟨p, p + m1 - 1⟩, ⟨p2, p2 + m2 - 1⟩] g2 cap2 S w.heap.size w3.heap.size w wq) (fun s11 _ _ => (5 - intOf s11).toNat)
            case atStart => exact ⟨⟨rfl, rfl⟩, HT4.out⟩
            case round =>
              clear r0 r1 r2 r3 hBel hsz4
              obtain ⟨hrel, hT5⟩ := hrel
              have HT5 := hide hT5
              clear hT5
              have hG5 := HT5.out.2.2.1.2
              obtain ⟨r0, r1⟩ := SpsAt.cell HT5.out.2.2.1.1 (i := 0) (s := ⟨p, p + m1 - 1⟩) rfl
              obtain ⟨r2, r3⟩ := SpsAt.cell HT5.out.2.2.1.1 (i := 1) (s := ⟨p2, p2 + m2 - 1⟩) rfl
              simp only [Nat.zero_mul, Nat.zero_add, Nat.one_mul, Nat.reduceAdd] at r0 r1 r2 r3
              obtain ⟨rfl, rfl⟩ := hrel
              go_wp2
              all_goals first
                | (exfalso; omega)
                | skip
              go_roundw
              case rel => exact ⟨d + 1, rfl, by omega, by omega, by (rw [HNX.out]) <;> first | rfl | (go_num; omega) | (congr 1; omega), by rw [HNX.out]; exact .inl ⟨by omega, rfl, by go_num⟩, by rw [HNX.out]; omega, HT5.out⟩
              case measure => simp [intOf]; omega
          · skip
            have hMe : M = m1 := by omega
            rw [show runPos p m1 p2 M = p2 by rw [runPos, if_neg (by omega)]; omega]
            go_wp2_with fail
            all_goals first
              | (exfalso; omega)
              | skip
            go_loopw [11, 13] (fun s11 s13 wq => ((s11 = .int .i64 0 ∧ s13 = .int .i64 (p + m1)) ∨ (s11 = .int .i64 1 ∧ s13 = .int .i64 p2)) ∧ TdSt c [⟨p, p + m1 - 1⟩, ⟨p2, p2 + m2 - 1⟩] g2 cap2 S w.heap.size w3.heap.size w wq) (fun s11 _ _ => (5 - intOf s11).toNat)
            case atStart => exact ⟨.inl ⟨rfl, by first | rfl | rw [hMe]⟩, HT4.out⟩
            case round =>
              clear r0 r1 r2 r3 hBel hsz4
              obtain ⟨hrel, hT5⟩ := hrel
              have HT5 := hide hT5
              clear hT5
              have hG5 := HT5.out.2.2.1.2
              obtain ⟨r0, r1⟩ := SpsAt.cell HT5.out.2.2.1.1 (i := 0) (s := ⟨p, p + m1 - 1⟩) rfl
              obtain ⟨r2, r3⟩ := SpsAt.cell HT5.out.2.2.1.1 (i := 1) (s := ⟨p2, p2 + m2 - 1⟩) rfl
              simp only [Nat.zero_mul, Nat.zero_add, Nat.one_mul, Nat.reduceAdd] at r0 r1 r2 r3
              rcases hrel with ⟨rfl, rfl⟩ | ⟨rfl, rfl⟩
              · go_wp2
                all_goals first
                  | (exfalso; omega)
                  | skip
                go_roundw
                case rel => exact ⟨.inr ⟨rfl, rfl⟩, HT5.out⟩
                case measure => simp [intOf]
              · skip
                go_wp2
                all_goals first
                  | (exfalso; omega)
                  | skip
                go_roundw
                case rel => exact ⟨d + 1, rfl, by omega, by omega, by (rw [HNX.out]) <;> first | rfl | (go_num; omega) | (congr 1; omega), by rw [HNX.out]; exact .inr ⟨by omega, rfl, by first | (rw [hMe]; go_num) | (congr 1; omega)⟩, by rw [HNX.out]; omega, HT5.out⟩
                case measure => simp [intOf]; omega
        · skip
          rw [show runPos p m1 p2 M = p2 + (M - m1) by rw [runPos, if_neg (by omega)]]
          go_wp2_with fail
          all_goals first
            | (exfalso; omega)
            | skip
          go_loopw [11, 13] (fun s11 s13 wq => (s11 = .int .i64 1 ∧ s13 = .int .i64 (p2 + (M - m1))) ∧ TdSt c [⟨p, p + m1 - 1⟩, ⟨p2, p2 + m2 - 1⟩] g2 cap2 S w.heap.size w3.heap.size w wq) (fun s11 _ _ => (5 - intOf s11).toNat)
          case atStart => exact ⟨⟨rfl, rfl⟩, HT4.out⟩
          case round =>
            clear r0 r1 r2 r3 hBel hsz4
            obtain ⟨hrel, hT5⟩ := hrel
            have HT5 := hide hT5
            clear hT5
            have hG5 := HT5.out.2.2.1.2
            obtain ⟨r0, r1⟩ := SpsAt.cell HT5.out.2.2.1.1 (i := 0) (s := ⟨p, p + m1 - 1⟩) rfl
            obtain ⟨r2, r3⟩ := SpsAt.cell HT5.out.2.2.1.1 (i := 1) (s := ⟨p2, p2 + m2 - 1⟩) rfl
            simp only [Nat.zero_mul, Nat.zero_add, Nat.one_mul, Nat.reduceAdd] at r0 r1 r2 r3
            obtain ⟨rfl, rfl⟩ := hrel
            go_wp2
            all_goals first
              | (exfalso; omega)
              | skip
            go_roundw
            case rel => exact ⟨d + 1, rfl, by omega, by omega, by (rw [HNX.out]) <;> first | rfl | (go_num; omega) | (congr 1; omega), by rw [HNX.out]; exact .inr ⟨by omega, rfl, by go_num⟩, by rw [HNX.out]; omega, HT5.out⟩
            case measure => simp [intOf]; omega
    · have hde : d = S.b + 1 := by omega
      subst hde
      have hMl := HM.out.last
      obtain ⟨r0, r1⟩ := SpsAt.cell HTT.out.2.2.1.1 (i := 0) (s := ⟨p, p + m1 - 1⟩) rfl
      obtain ⟨r2, r3⟩ := SpsAt.cell HTT.out.2.2.1.1 (i := 1) (s := ⟨p2, p2 + m2 - 1⟩) rfl
      simp only [Nat.zero_mul, Nat.zero_add, Nat.one_mul, Nat.reduceAdd] at r0 r1 r2 r3
      rw [hMl] at hat ⊢
      rcases hat with ⟨ha, rfl, rfl⟩ | ⟨ha, rfl, rfl⟩
      · exfalso; omega
      · go_wp2
        all_goals first
          | (exfalso; omega)
          | (go_ret; exact ⟨ret_bool (by simp; omega), by (repeat' (first | (with_reducible exact Below.refl _ _) | (with_reducible assumption) | (with_reducible refine Below.alloc ?_ ?_ _) | (with_reducible refine below_drewN ?_ _) | (with_reducible refine Below.drew ?_) | (with_reducible refine Below.setCell ?_ ?_ _) | (with_reducible refine Below.trans ?_ (Below.mono (by assumption) ?_)) | go_size | (simp at *; omega)))⟩)
          | (go_ret; exact ⟨rfl, by (repeat' (first | (with_reducible exact Below.refl _ _) | (with_reducible assumption) | (with_reducible refine Below.alloc ?_ ?_ _) | (with_reducible refine below_drewN ?_ _) | (with_reducible refine Below.drew ?_) | (with_reducible refine Below.setCell ?_ ?_ _) | (with_reducible refine Below.trans ?_ (Below.mono (by assumption) ?_)) | go_size | (simp at *; omega)))⟩)

theorem td_walk (c : Cal) (hn : c.name.size ≤ 9223372036854775807) (u : Un) (k : Int) (w : World) :
    Calls Try.prog 11 #[calV c, unitV u, .int .i64 k] w fun e w' => e = .returned (.bool true) ∧ Below w.heap.size w w' := by
  by_cases h : 100 < c.name.size
  · exact td_long c u k w h hn
  · have h' : c.name.size ≤ 100 := by omega
    by_cases h6 : c.kind = 6
    · exact td_triv c u k w h' h6
    · by_cases hU : unitE c u = 0
      · by_cases hr : c.first ≤ u.yr + k ∧ u.yr + k ≤ c.last
        · by_cases hE : twE c u k = 0
          · obtain ⟨g, gl, p, m1, p2, m2, d1, d2, d3, d4, d5, d6, d7, d8⟩ := tw_days (k := k) hU h6 hr
            obtain ⟨e1, e2, e3⟩ := d8 hE
            by_cases hm : m2 = 0
            · rw [if_pos hm] at e3
              exact td_yes1 c u k w h' h6 hE _ rfl g gl p m1 p2 m2 d1 d2 d3 e1 hm d5 d7 e3
            · rw [if_neg hm] at e3
              exact td_yes2 c u k w h' h6 hE _ rfl g gl p m1 p2 m2 d1 d2 d3 e1 (by omega) (e2 (by omega)) d5 d7 e3
          · exact td_err c u k w h' h6 hU hr hE
        · exact td_out c u k w h' h6 hU hr
      · exact td_bad c u k w h' h6 hU
end Go.Proofs.Ytpngdeegdkifnaa
