/- The walk of ShapeMonths. -/
import Derived.Test.YtcmdcgmpdjjgcaaShapeW
import Derived.Test.YtcmdcgmpdjjgcaaLive15
namespace Go.Proofs.Ytcmdcgmpdjjgcaa
open Go.RowKit Qd
set_option linter.unusedSimpArgs false
set_option linter.unusedVariables false

set_option maxRecDepth 100000 in
set_option maxHeartbeats 1600000 in
theorem smonths_long (c : Cal) (y : Int) (w : World) (hn : 100 < c.name.size) (hm : c.name.size ≤ 9223372036854775807) :
    Calls Try.prog 8 #[calV c, .int .i64 y] w fun e w' => e = .returned (.bool true) ∧ Below w.heap.size w w' := by
  simp only [calV]
  go_enter Try.func8, Try.ntmps8
  go_wp2_with fail
  refine (live15_any _).mono ?_
  rintro e w1 ⟨rfl, hb1⟩
  obtain ⟨hc, hf⟩ := bcell hb1
  go_wp2
  all_goals first
    | (exfalso; omega)
    | (go_ret; refine ⟨rfl, ?_⟩; refine Below.trans ?_ (hb1.mono (by simp)); (repeat' (first | (with_reducible exact Below.refl _ _) | (with_reducible assumption) | (with_reducible refine Below.alloc ?_ ?_ _) | (with_reducible refine below_drewN ?_ _) | (with_reducible refine Below.drew ?_) | (with_reducible refine Below.setCell ?_ ?_ _) | (with_reducible refine Below.trans ?_ (Below.mono (by assumption) ?_)) | go_size | (simp at *; omega))))

set_option maxRecDepth 100000 in
set_option maxHeartbeats 1600000 in
theorem smonths_other (c : Cal) (y : Int) (w : World) (hn : c.name.size ≤ 100) (hs : ¬ c.kind = 6) :
    Calls Try.prog 8 #[calV c, .int .i64 y] w fun e w' => e = .returned (.bool true) ∧ Below w.heap.size w w' := by
  have hs' : (c.kind != 6) = true := by simp [hs]
  have hs'' : (c.kind == 6) = false := by simp [hs]
  clear hs
  simp only [calV]
  go_enter Try.func8, Try.ntmps8
  go_wp2_with fail
  refine (live15_any _).mono ?_
  rintro e w1 ⟨rfl, hb1⟩
  obtain ⟨hc, hf⟩ := bcell hb1
  go_wp2_with fail
  all_goals first
    | (exfalso; omega)
    | (go_ret; refine ⟨rfl, ?_⟩; refine Below.trans ?_ (hb1.mono (by simp)); (repeat' (first | (with_reducible exact Below.refl _ _) | (with_reducible assumption) | (with_reducible refine Below.alloc ?_ ?_ _) | (with_reducible refine below_drewN ?_ _) | (with_reducible refine Below.drew ?_) | (with_reducible refine Below.setCell ?_ ?_ _) | (with_reducible refine Below.trans ?_ (Below.mono (by assumption) ?_)) | go_size | (simp at *; omega))))

set_option maxRecDepth 100000 in
set_option maxHeartbeats 1600000 in
theorem smonths_no (c : Cal) (y : Int) (w : World) (hn : c.name.size ≤ 100) (hs : c.kind = 6) (hE : ¬ askE c y 1601 = 0) :
    Calls Try.prog 8 #[calV c, .int .i64 y] w fun e w' => e = .returned (.bool true) ∧ Below w.heap.size w w' := by
  have hs' : (c.kind == 6) = true := by simp [hs]
  have hE' : (askE c y 1601 != 0) = true := by simpa using hE
  have HE := hide hE
  clear hs hE
  simp only [calV]
  go_enter Try.func8, Try.ntmps8
  go_wp2_with fail
  refine (live15_any _).mono ?_
  rintro e w1 ⟨rfl, hb1⟩
  have hz1 : w.heap.size < w1.heap.size := by have := hb1.size; simp at this; omega
  have HB1 := hide (Below.trans ((Below.refl _ _).alloc (Nat.le_refl _) _) (hb1.mono (by simp)) : Below w.heap.size w w1)
  have HQ := hide (calAt_below hb1 (by simp) (calAt_new w c))
  obtain ⟨q0, q1, q2, q3, q4, q5, q6, q7, q8, q9, q10, q11, q12, q13⟩ := HQ.out
  clear hb1
  go_wp2_with fail
  all_goals first
    | (exfalso; omega)
    | skip
  refine (ends_no c y _ (by omega) HE.out).mono ?_
  rintro e w2 ⟨rfl, hb2⟩
  clear q0 q1 q2 q3 q4 q5 q6 q7 q8 q9 q10 q11 q12 q13
  have HQ2 := hide (calAt_below hb2 hz1 HQ.out)
  obtain ⟨q0, q1, q2, q3, q4, q5, q6, q7, q8, q9, q10, q11, q12, q13⟩ := HQ2.out
  have hz2 : w.heap.size < w2.heap.size := Nat.lt_of_lt_of_le hz1 hb2.size
  go_wp2_with fail
  refine (sweeks_no c y _ (by omega) HE.out).mono ?_
  rintro e w3 ⟨rfl, hb3⟩
  clear q0 q1 q2 q3 q4 q5 q6 q7 q8 q9 q10 q11 q12 q13
  go_wp2
  go_ret
  exact ⟨rfl, (HB1.out.trans (hb2.mono (Nat.le_of_lt hz1))).trans (hb3.mono (Nat.le_of_lt hz2))⟩
end Go.Proofs.Ytcmdcgmpdjjgcaa
