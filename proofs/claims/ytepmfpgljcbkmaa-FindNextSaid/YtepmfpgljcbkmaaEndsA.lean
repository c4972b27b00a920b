/- Contracts of shape.Ends: years that are not told, broadcast years, years by months. -/
import Derived.Test.YtepmfpgljcbkmaaShapeC
namespace Go.Proofs.Ytepmfpgljcbkmaa
open Go.RowKit Qd
set_option linter.unusedSimpArgs false
set_option linter.unusedVariables false

/-- The day behind the first k periods of a year of weeks. -/
def wkDay (c : Cal) (y : Int) : Nat → Int
  | 0 => startV c y
  | k + 1 => wkDay c y k + 7 * lenAt c (wksV c y) k
/-- The last days of a year's periods. -/
def endsL (c : Cal) (y : Int) : List Int :=
  if c.shape = 4 then sunL y else if c.shape = 5 then monL (startV c y) else (List.range (perV c).toNat).map fun i => wkDay c y (i + 1) - 1
def EndsPost (c : Cal) (y : Int) (w : World) (e : Ending) (w' : World) : Prop :=
  ∃ g, w.heap.size ≤ g ∧ e = .returned (.tuple #[.slice (some ⟨g, 0, none⟩) (endsL c y).length (endsL c y).length, .int .i64 0]) ∧ IntsAt w' g (endsL c y) ∧ Below w.heap.size w w'

theorem ok_shape {c : Cal} (h : c.Ok) : (c.kind = 4 ↔ c.shape = 4) ∧ (c.kind = 6 ↔ c.shape = 5) ∧ 1 ≤ c.shape ∧ c.shape ≤ 5 := by
  obtain ⟨_, _, _, hr⟩ := h
  unfold Cal.ruled Cal.weeks weeksP at hr
  omega

set_option maxRecDepth 100000 in
set_option maxHeartbeats 1600000 in
theorem ends_no (c : Cal) (y : Int) (w : World) (hn : c.name.size ≤ 1000) (hE : ¬ askE c y 1601 = 0) :
    Calls Try.prog 48 #[calV c, .int .i64 y] w fun e w' => e = .returned (.tuple #[.slice none 0 0, .int .i64 (askE c y 1601)]) ∧ Below w.heap.size w w' := by
  have hE' : (askE c y 1601 != 0) = true := by simpa using hE
  clear hE
  simp only [calV]
  go_enter Try.func48, Try.ntmps48
  go_wp2_with fail
  refine (start_any c _ _ hn).mono ?_
  rintro e w1 ⟨rfl, hb1⟩
  go_wp2
  go_ret2
  exact ⟨rfl, by refine Below.alloc (((Below.refl _ _).alloc (Nat.le_refl _) _).trans (hb1.mono (by simp))) ?_ _; have := hb1.size; simp at this; omega⟩

set_option maxRecDepth 100000 in
set_option maxHeartbeats 1600000 in
theorem ends_broad (c : Cal) (y : Int) (w : World) (hn : c.name.size ≤ 1000) (hE : askE c y 1601 = 0) (hs : c.shape = 4) :
    Calls Try.prog 48 #[calV c, .int .i64 y] w (EndsPost c y w) := by
  have HL := hide (show endsL c y = sunL y by simp [endsL, hs])
  obtain ⟨hok, hy1, hy2⟩ := ask_ok hE
  have hs' : (c.shape == 4) = true := by simp [hs]
  have H2 := hide hE
  clear hE hs hok
  simp only [calV]
  go_enter Try.func48, Try.ntmps48
  go_wp2_with fail
  refine (start_any c _ _ hn).mono ?_
  rintro e w1 ⟨rfl, hb1⟩
  have hz1 : w.heap.size < w1.heap.size := by have := hb1.size; simp at this; omega
  have HB1 := hide (Below.trans ((Below.refl _ _).alloc (Nat.le_refl _) _) (hb1.mono (by simp)) : Below w.heap.size w w1)
  have HQ := hide (calAt_below hb1 (by simp) (calAt_new w c))
  obtain ⟨q0, q1, q2, q3, q4, q5, q6, q7, q8, q9, q10, q11, q12, q13⟩ := HQ.out
  clear hb1
  rw [H2.out]
  go_wp2_with fail
  refine (sundays_any y _ (by omega) (by omega)).mono ?_
  rintro e w2 ⟨g, hg, rfl, hI, hb2⟩
  clear q0 q1 q2 q3 q4 q5 q6 q7 q8 q9 q10 q11 q12 q13
  go_wp2
  go_ret2
  refine ⟨g, ?_, ?_, by rw [HL.out]; exact hI, (HB1.out.alloc (Nat.le_of_lt hz1) _).trans (hb2.mono (by simp; omega))⟩
  · simp at hg; omega
  · rw [HL.out]; simp [sunL]

set_option maxRecDepth 100000 in
set_option maxHeartbeats 1600000 in
theorem ends_month (c : Cal) (y : Int) (w : World) (hn : c.name.size ≤ 1000) (hE : askE c y 1601 = 0) (hs : c.shape = 5) :
    Calls Try.prog 48 #[calV c, .int .i64 y] w (EndsPost c y w) := by
  have HL := hide (show endsL c y = monL (startV c y) by simp [endsL, hs])
  obtain ⟨hok, hy1, hy2⟩ := ask_ok hE
  have hs' : (c.shape == 5) = true := by simp [hs]
  have hs4 : (c.shape == 4) = false := by simp [hs]
  have hst : 0 ≤ startV c y ∧ startV c y + 400 < 3068037 := by
    obtain ⟨hm, hsh, hk, hd⟩ := ok_rule hok
    have t1 := ask_there1 hE
    have b0 := fin_bd c (y - 1 + c.shift) hok t1 (by omega)
    have e0 : startV c y = finV c (y - 1 + c.shift) + 1 := by simp [startV, hE]
    have hk6 : c.kind = 6 := (ok_shape hok).2.1.2 hs
    have e1 : finV c (y - 1 + c.shift) = endN (y - 1 + c.shift) c.month := by simp [finV, hk6]
    have h3 : thereB (y - 1 + c.shift + 1) c.month = true := by simp [thereB]; omega
    have h4 := endN_next (y - 1 + c.shift) c.month t1 (by omega)
    have h5 := end_hi (y - 1 + c.shift + 1) c.month h3 (by omega)
    omega
  have H2 := hide hE
  clear hE hs hok
  simp only [calV]
  go_enter Try.func48, Try.ntmps48
  go_wp2_with fail
  refine (start_any c _ _ hn).mono ?_
  rintro e w1 ⟨rfl, hb1⟩
  have hz1 : w.heap.size < w1.heap.size := by have := hb1.size; simp at this; omega
  have HB1 := hide (Below.trans ((Below.refl _ _).alloc (Nat.le_refl _) _) (hb1.mono (by simp)) : Below w.heap.size w w1)
  have HQ := hide (calAt_below hb1 (by simp) (calAt_new w c))
  obtain ⟨q0, q1, q2, q3, q4, q5, q6, q7, q8, q9, q10, q11, q12, q13⟩ := HQ.out
  clear hb1
  rw [H2.out]
  go_wp2_with fail
  refine (months_any (startV c y) _ (by omega) (by omega)).mono ?_
  rintro e w2 ⟨g, hg, rfl, hI, hb2⟩
  clear q0 q1 q2 q3 q4 q5 q6 q7 q8 q9 q10 q11 q12 q13
  go_wp2
  go_ret2
  refine ⟨g, ?_, ?_, by rw [HL.out]; exact hI, (HB1.out.alloc (Nat.le_of_lt hz1) _).trans (hb2.mono (by simp; omega))⟩
  · simp at hg; omega
  · rw [HL.out]; simp [monL]
end Go.Proofs.Ytepmfpgljcbkmaa
