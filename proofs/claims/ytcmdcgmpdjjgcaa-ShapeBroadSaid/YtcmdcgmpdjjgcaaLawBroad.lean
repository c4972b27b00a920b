/- The walk of ShapeBroad. -/
import Derived.Test.YtcmdcgmpdjjgcaaEndsB
import Derived.Test.YtcmdcgmpdjjgcaaLive15
namespace Go.Proofs.Ytcmdcgmpdjjgcaa
open Go.RowKit Qd
set_option linter.unusedSimpArgs false
set_option linter.unusedVariables false

theorem sun_get (y : Int) (k : Nat) (hk : k < 12) : (sunL y)[k]?.getD 0 = lastV y ((k : Int) + 1) 7 := by
  simp [sunL, hk, sunF]

set_option maxRecDepth 100000 in
set_option maxHeartbeats 1600000 in
theorem broad_long (c : Cal) (y : Int) (w : World) (hn : 100 < c.name.size) (hm : c.name.size ≤ 9223372036854775807) :
    Calls Try.prog 5 #[calV c, .int .i64 y] w fun e w' => e = .returned (.bool true) ∧ Below w.heap.size w w' := by
  simp only [calV]
  go_enter Try.func5, Try.ntmps5
  go_wp2_with fail
  refine (live15_any _).mono ?_
  rintro e w1 ⟨rfl, hb1⟩
  obtain ⟨hc, hf⟩ := bcell hb1
  go_wp2
  all_goals first
    | (exfalso; omega)
    | (go_ret; refine ⟨rfl, ?_⟩; refine Below.trans ?_ (hb1.mono (by simp)); (repeat' (first | (with_reducible exact Below.refl _ _) | (with_reducible assumption) | (with_reducible refine Below.alloc ?_ ?_ _) | (with_reducible refine below_drewN ?_ _) | (with_reducible refine Below.drew ?_) | (with_reducible refine Below.setCell ?_ ?_ _) | (with_reducible refine Below.trans ?_ (Below.mono (by assumption) ?_)) | go_size | (simp at *; omega))))

set_option maxRecDepth 100000 in
set_option maxHeartbeats 1600000 in
theorem broad_other (c : Cal) (y : Int) (w : World) (hn : c.name.size ≤ 100) (hs : ¬ c.shape = 4) :
    Calls Try.prog 5 #[calV c, .int .i64 y] w fun e w' => e = .returned (.bool true) ∧ Below w.heap.size w w' := by
  have hs' : (c.shape != 4) = true := by simp [hs]
  have hs'' : (c.shape == 4) = false := by simp [hs]
  clear hs
  simp only [calV]
  go_enter Try.func5, Try.ntmps5
  go_wp2_with fail
  refine (live15_any _).mono ?_
  rintro e w1 ⟨rfl, hb1⟩
  obtain ⟨hc, hf⟩ := bcell hb1
  go_wp2_with fail
  all_goals first
    | (exfalso; omega)
    | (go_ret; refine ⟨rfl, ?_⟩; refine Below.trans ?_ (hb1.mono (by simp)); (repeat' (first | (with_reducible exact Below.refl _ _) | (with_reducible assumption) | (with_reducible refine Below.alloc ?_ ?_ _) | (with_reducible refine below_drewN ?_ _) | (with_reducible refine Below.drew ?_) | (with_reducible refine Below.setCell ?_ ?_ _) | (with_reducible refine Below.trans ?_ (Below.mono (by assumption) ?_)) | go_size | (simp at *; omega))))

set_option maxRecDepth 100000 in
set_option maxHeartbeats 1600000 in
theorem broad_no (c : Cal) (y : Int) (w : World) (hn : c.name.size ≤ 100) (hs : c.shape = 4) (hE : ¬ askE c y 1601 = 0) :
    Calls Try.prog 5 #[calV c, .int .i64 y] w fun e w' => e = .returned (.bool true) ∧ Below w.heap.size w w' := by
  have hs' : (c.shape == 4) = true := by simp [hs]
  have hE' : (askE c y 1601 != 0) = true := by simpa using hE
  have HE := hide hE
  clear hs hE
  simp only [calV]
  go_enter Try.func5, Try.ntmps5
  go_wp2_with fail
  refine (live15_any _).mono ?_
  rintro e w1 ⟨rfl, hb1⟩
  have hz1 : w.heap.size < w1.heap.size := by have := hb1.size; simp at this; omega
  have HB1 := hide (Below.trans ((Below.refl _ _).alloc (Nat.le_refl _) _) (hb1.mono (by simp)) : Below w.heap.size w w1)
  have HQ := hide (calAt_below hb1 (by simp) (calAt_new w c))
  obtain ⟨q0, q1, q2, q3, q4, q5, q6, q7, q8, q9, q10, q11, q12, q13⟩ := HQ.out
  clear hb1
  go_wp2_with fail
  all_goals first
    | (exfalso; omega)
    | skip
  refine (ends_no c y _ (by omega) HE.out).mono ?_
  rintro e w2 ⟨rfl, hb2⟩
  clear q0 q1 q2 q3 q4 q5 q6 q7 q8 q9 q10 q11 q12 q13
  go_wp2
  go_ret
  exact ⟨rfl, HB1.out.trans (hb2.mono (Nat.le_of_lt hz1))⟩

set_option maxRecDepth 100000 in
set_option maxHeartbeats 1600000 in
theorem broad_yes (c : Cal) (y : Int) (w : World) (hn : c.name.size ≤ 100) (hs : c.shape = 4) (hE : askE c y 1601 = 0) :
    Calls Try.prog 5 #[calV c, .int .i64 y] w fun e w' => e = .returned (.bool true) ∧ Below w.heap.size w w' := by
  have hs' : (c.shape == 4) = true := by simp [hs]
  have HL := hide (show endsL c y = sunL y by simp [endsL, hs])
  have HLL := hide (show (endsL c y).length = 12 by simp [endsL, hs, sunL])
  obtain ⟨hok, hy1, hy2⟩ := ask_ok hE
  have HE := hide hE
  have HS := hide hs
  clear hs hE hok
  simp only [calV]
  go_enter Try.func5, Try.ntmps5
  go_wp2_with fail
  refine (live15_any _).mono ?_
  rintro e w1 ⟨rfl, hb1⟩
  have hz1 : w.heap.size < w1.heap.size := by have := hb1.size; simp at this; omega
  have HB1 := hide (Below.trans ((Below.refl _ _).alloc (Nat.le_refl _) _) (hb1.mono (by simp)) : Below w.heap.size w w1)
  have HQ := hide (calAt_below hb1 (by simp) (calAt_new w c))
  obtain ⟨q0, q1, q2, q3, q4, q5, q6, q7, q8, q9, q10, q11, q12, q13⟩ := HQ.out
  clear hb1
  go_wp2_with fail
  all_goals first
    | (exfalso; omega)
    | skip
  refine (ends_broad c y _ (by omega) HE.out HS.out).mono ?_
  rintro e w2 ⟨g, hg, rfl, hI, hb2⟩
  rw [HLL.out]
  rw [HL.out] at hI
  have HI := hide hI
  have HB2 := hide (HB1.out.trans (hb2.mono (Nat.le_of_lt hz1)))
  have hz2 : w.heap.size ≤ w2.heap.size := HB2.out.size
  clear hI hb2
  clear q0 q1 q2 q3 q4 q5 q6 q7 q8 q9 q10 q11 q12 q13
  go_wp2
  go_loopw [38] (fun s wr => ∃ k : Nat, s = .int .i64 k ∧ k ≤ 12 ∧ Below w2.heap.size w2 wr) (fun s _ => (13 - intOf s).toNat)
  case atStart => exact ⟨0, rfl, by omega, Below.refl _ _⟩
  case round =>
    obtain ⟨k, rfl, hk, hB⟩ := hrel
    by_cases hlt : k < 12
    · have c1 : wr.cell? ⟨g, k, none⟩ = some (.int .i64 (lastV y ((k : Int) + 1) 7)) := by
        have h1 := ((HI.out).call hB).cell (k := k) (by simp [sunL]; exact hlt)
        rw [sun_get y k hlt] at h1
        exact h1
      have HE7 := hide (show wkE y ((k : Int) + 1) 7 = 0 by simp [wkE, thereB]; omega)
      go_wp2_with fail
      refine (last_any _ _ _ _).mono ?_
      rintro e w3 ⟨rfl, hb3⟩
      rw [HE7.out]
      clear c1
      go_wp2
      all_goals first
        | (exact ⟨⟨k + 1, by go_num, by omega, hB.trans (hb3.mono hB.size)⟩, by simp [intOf]; omega⟩)
        | (exfalso; simp_all; done)
    · obtain rfl : k = 12 := by omega
      go_wp2
      go_ret
      exact ⟨rfl, HB2.out.trans (hB.mono hz2)⟩

theorem broad_walk (c : Cal) (hn : c.name.size ≤ 9223372036854775807) (y : Int) (w : World) :
    Calls Try.prog 5 #[calV c, .int .i64 y] w fun e w' => e = .returned (.bool true) ∧ Below w.heap.size w w' := by
  by_cases h : 100 < c.name.size
  · exact broad_long c y w h hn
  · by_cases hs : c.shape = 4
    · by_cases hE : askE c y 1601 = 0
      · exact broad_yes c y w (by omega) hs hE
      · exact broad_no c y w (by omega) hs hE
    · exact broad_other c y w (by omega) hs
end Go.Proofs.Ytcmdcgmpdjjgcaa
