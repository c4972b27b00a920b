/- Contracts of shape.Added. -/
import Derived.Test.YtojdngkleiokgaaYearC
namespace Go.Proofs.Ytojdngkleiokgaa
open Go.RowKit Qd
set_option linter.unusedSimpArgs false
set_option linter.unusedVariables false

/-- The week that was added; 0: none was. -/
def addedV (c : Cal) (y : Int) : Int := if wksE c y = 0 ∧ wksV c y = 53 then (endAt c y (c.extra - 1).toNat - startV c y + 1) / 7 else 0

theorem wks_ok {c : Cal} {y : Int} (h : wksE c y = 0) : c.Ok ∧ c.okB = true ∧ c.kind ≠ 6 ∧ askE c y 1601 = 0 ∧ wksV c y = daysV c y / 7 ∧ (wksV c y = 52 ∨ wksV c y = 53) ∧ daysV c y = 7 * wksV c y := by
  unfold wksE at h
  split at h
  · rename_i hb
    have hk6 : c.kind ≠ 6 := by
      simp only [wksB, Bool.and_eq_true, decide_eq_true_eq] at hb; exact hb.2
    have hok := (ask_ok h).1
    have hv : wksV c y = daysV c y / 7 := by simp [wksV, hb]
    have hd := days_weeks c y h hk6
    refine ⟨hok, by simpa [Cal.okB] using hok, hk6, h, hv, by omega, by omega⟩
  · omega
theorem wks_no {c : Cal} {y : Int} (h : ¬ wksE c y = 0) : wksV c y = 0 := by
  unfold wksE at h
  split at h
  · rename_i hb
    simp [wksV, hb, daysV, h]
  · rename_i hb
    simp [wksV, hb]
theorem extra_bd {c : Cal} (hok : c.Ok) (hk : c.kind ≠ 6) : 1 ≤ c.extra ∧ c.extra ≤ perV c := by
  have hok2 : c.okB = true := by simpa [Cal.okB] using hok
  have hper : perV c = manyP c.shape c.cycle := by simp [perV, hok2]
  obtain ⟨_, _, _, hr⟩ := hok
  unfold Cal.ruled Cal.weeks weeksP Cal.pat0 at hr
  have m1 : c.shape = 1 → manyP c.shape c.cycle = 12 := by intro h; simp [manyP, h]
  have m4 : c.shape = 4 → manyP c.shape c.cycle = 12 := by intro h; simp [manyP, h]
  rw [hper]
  omega

set_option maxRecDepth 100000 in
set_option maxHeartbeats 1600000 in
theorem added_any (c : Cal) (y : Int) (w : World) (hn : c.name.size ≤ 1000) :
    Calls Try.prog 14 #[calV c, .int .i64 y] w fun e w' => e = .returned (.tuple #[.int .i64 (addedV c y), .int .i64 (wksE c y)]) ∧ Below w.heap.size w w' := by
  by_cases hE : wksE c y = 0
  · obtain ⟨hok, hok2, hk6, hA, hv, hv2, hd⟩ := wks_ok hE
    obtain ⟨hx1, hx2⟩ := extra_bd hok hk6
    have hlen := ends_len c y hok2
    have hpb := per_bounds c hok2
    rcases hv2 with h52 | h53
    · have H1 := hide (show addedV c y = 0 by simp [addedV, h52])
      have H2 := hide hE
      have H3 := hide h52
      clear hE h52 hv hd hok hok2 hA hx1 hx2 hlen hpb hk6
      simp only [calV]
      go_enter Try.func14, Try.ntmps14
      go_wp2_with fail
      refine (aweeks_any c y _ hn).mono ?_
      rintro e w1 ⟨rfl, hb1⟩
      rw [H2.out, H3.out]
      go_wp2
      go_ret2
      exact ⟨ret_int2 H1.out.symm H2.out.symm, ((Below.refl _ _).alloc (Nat.le_refl _) _).trans (hb1.mono (by simp))⟩
    · obtain ⟨x, hx⟩ : ∃ x : Nat, c.extra = (x : Int) + 1 := ⟨(c.extra - 1).toNat, by omega⟩
      have hxl : x < (endsL c y).length := by omega
      have hn52 : (endsL c y).length ≤ 52 := by omega
      have H1 := hide (show addedV c y = (endAt c y x - startV c y + 1) / 7 by
        have : (c.extra - 1).toNat = x := by omega
        simp [addedV, h53, hE, this])
      have hfb := from_bd c y hA (x + 1) (by omega)
      rw [from_succ] at hfb
      have hyb := year_bd c y hA
      have H2 := hide hE
      have H3 := hide h53
      have H4 := hide hA
      have HX := hide hx
      clear hE h53 hv hd hok hok2 hA hx1 hx2 hlen hpb hk6 hx
      obtain ⟨n, hnn⟩ : ∃ n, n = (endsL c y).length := ⟨_, rfl⟩
      have HN := hide hnn
      have hxn : x < n := by omega
      have hxn2 : n ≤ 52 := by omega
      clear hnn hxl hn52
      simp only [calV]
      go_enter Try.func14, Try.ntmps14
      go_wp2_with fail
      refine (aweeks_any c y _ hn).mono ?_
      rintro e w1 ⟨rfl, hb1⟩
      have hz1 : w.heap.size < w1.heap.size := by have := hb1.size; simp at this; omega
      have HB1 := hide (Below.trans ((Below.refl _ _).alloc (Nat.le_refl _) _) (hb1.mono (by simp)) : Below w.heap.size w w1)
      have HQ := hide (calAt_below hb1 (by simp) (calAt_new w c))
      obtain ⟨q0, q1, q2, q3, q4, q5, q6, q7, q8, q9, q10, q11, q12, q13⟩ := HQ.out
      clear hb1
      rw [H2.out, H3.out]
      go_wp2_with fail
      refine (ends_any c y _ hn H4.out).mono ?_
      rintro e w2 ⟨g, hg, rfl, hI, hb2⟩
      clear q0 q1 q2 q3 q4 q5 q6 q7 q8 q9 q10 q11 q12 q13
      have HQ2 := hide (calAt_below hb2 hz1 HQ.out)
      obtain ⟨q0, q1, q2, q3, q4, q5, q6, q7, q8, q9, q10, q11, q12, q13⟩ := HQ2.out
      have hz2 : w.heap.size < w2.heap.size := Nat.lt_of_lt_of_le hz1 hb2.size
      have HB2 := hide (HB1.out.trans (hb2.mono (Nat.le_of_lt hz1)))
      have HI := hide hI
      clear hI hb2 hg
      rw [← HN.out]
      go_wp2_with fail
      refine (start_any c y _ hn).mono ?_
      rintro e w3 ⟨rfl, hb3⟩
      clear q0 q1 q2 q3 q4 q5 q6 q7 q8 q9 q10 q11 q12 q13
      rw [H4.out]
      have q10 : w3.cell? ⟨w.heap.size, 10, none⟩ = some (.int .i64 ((x : Int) + 1)) := by
        have := (calAt_below hb3 hz2 HQ2.out).2.2.2.2.2.2.2.2.2.2.1
        rw [HX.out] at this
        exact this
      have c1 : w3.cell? ⟨g, x, none⟩ = some (.int .i64 (endAt c y x)) := (HI.out.call hb3).cell (k := x) (by rw [← HN.out]; exact hxn)
      have HB3 := hide (HB2.out.trans (hb3.mono (Nat.le_of_lt hz2)))
      clear hb3
      go_wp2
      go_ret2
      exact ⟨ret_int2 H1.out.symm H2.out.symm, HB3.out⟩
  · have H1 := hide (show addedV c y = 0 by simp [addedV, hE])
    have hE' : (wksE c y != 0) = true := by simpa using hE
    clear hE
    simp only [calV]
    go_enter Try.func14, Try.ntmps14
    go_wp2_with fail
    refine (aweeks_any c y _ hn).mono ?_
    rintro e w1 ⟨rfl, hb1⟩
    go_wp2
    go_ret2
    exact ⟨ret_int2 H1.out.symm rfl, ((Below.refl _ _).alloc (Nat.le_refl _) _).trans (hb1.mono (by simp))⟩
end Go.Proofs.Ytojdngkleiokgaa
