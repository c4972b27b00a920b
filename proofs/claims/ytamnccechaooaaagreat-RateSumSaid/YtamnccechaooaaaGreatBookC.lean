/- Package book: what of all accruals falls to the weeks, as a map. -/
import Derived.Test.YtamnccechaooaaaGreatBookB
import Derived.Test.YtamnccechaooaaaGreatMWi
import Derived.Test.YtamnccechaooaaaGreatMUn
import Derived.WideKeyRuns
namespace Go.Proofs.YtamnccechaooaaaGreat
open Go.RowKit Qd
set_option linter.unusedSimpArgs false
set_option linter.unusedVariables false

/-- A map by units, as a list. -/
abbrev UMap := List (Un × Value × Nat)
def esOf (L : UMap) : Array MapEntry := (L.map fun e => ({ key := unitV e.1, val := e.2.1, born := e.2.2 } : MapEntry)).toArray
def lookV : UMap → Un → Option Value
  | [], _ => none
  | e :: L, x => if unB x.lv x.yr x.ix e.1.lv e.1.yr e.1.ix = true then some e.2.1 else lookV L x
theorem run_asking (L : UMap) (x : Un) (i : Nat) (w : World) : ∃ j, (Instr.findAsking 27 (unitV x) (esOf L).toList i).run Tryz.prog w = .ok ((lookV L x).map fun v => (j, v)) w := by
  induction L generalizing i with
  | nil => exact ⟨0, by simp [esOf, Instr.findAsking, lookV]⟩
  | cons e L ih =>
    obtain ⟨j, hj⟩ := ih (i + 1)
    have he : (Op.equal 27 (unitV x) (unitV e.1)).run Tryz.prog w = .ok (unB x.lv x.yr x.ix e.1.lv e.1.yr e.1.ix) w := eqUnit 9998 x.lv x.yr x.ix e.1.lv e.1.yr e.1.ix w
    have e1 : (esOf (e :: L)).toList = ({ key := unitV e.1, val := e.2.1, born := e.2.2 } : MapEntry) :: (esOf L).toList := by simp [esOf]
    rw [e1]
    cases hb : unB x.lv x.yr x.ix e.1.lv e.1.yr e.1.ix
    · refine ⟨j, ?_⟩
      rw [hb] at he
      have hl : lookV (e :: L) x = lookV L x := by simp [lookV, hb]
      rw [hl]
      simp only [Instr.findAsking, Sem.run_bind, he, Result.andThen_ok, Bool.false_eq_true, if_false]
      exact hj
    · refine ⟨i, ?_⟩
      rw [hb] at he
      have hl : lookV (e :: L) x = some e.2.1 := by simp [lookV, hb]
      rw [hl]
      simp only [Instr.findAsking, Sem.run_bind, he, Result.andThen_ok, if_true]
      rfl
theorem run_find (L : UMap) (x : Un) (w : World) : ∃ j, (Instr.findKey 27 (unitV x) (esOf L).toList).run Tryz.prog w = .ok ((lookV L x).map fun v => (j, v)) w := by
  obtain ⟨j, hj⟩ := run_asking L x 0 w
  refine ⟨j, ?_⟩
  rw [run_findKey_eq (P := Tryz.prog) (w := w) (k := 27) (by simp [Tryz.underlying27]) (unitV x) (esOf L).toList]
  exact hj
theorem run_key (x : Un) (e : Bool) (w : World) : (Instr.checkKey e 10000 27 (unitV x)).run Tryz.prog w = .ok () w := by
  have u3 := Tryz.underlying3
  have a3 := Tryz.isAgg3
  have z3 := Tryz.sizeOf3
  have uu := Tryz.underlying27
  have hc := fun a => MapKept.run_checkKey (P := Tryz.prog) (w := w) (k := .int .i64 a) u3 (by simp [MapKept.IsKey]) e 9998
  show (Instr.checkKey e (9999 + 1) 27 (unitV x)).run Tryz.prog w = .ok () w
  rw [Instr.checkKey]
  simp only [Sem.run_bind, run_underlying uu, Result.andThen_ok]
  go_simp
theorem run_lookU (L : UMap) (M clk : Nat) (x : Un) (w : World) (hM : w.heap[M]? = some (.map (esOf L) clk)) :
    (Instr.lookup 131 (.map (some M)) (unitV x) false).run Tryz.prog w = .ok ((lookV L x).getD (.slice none 0 0)) w := by
  have um := Tryz.underlying131
  obtain ⟨j, hj⟩ := run_find L x w
  have hz : (zeroValue 45).run Tryz.prog w = .ok (.slice none 0 0) w := by kernel_rfl
  simp only [Instr.lookup, Sem.run_bind, run_underlying um, Result.andThen_ok, MapKept.run_getObj_map hM, Sem.run_pure, run_key, hj]
  cases lookV L x <;> simp [hz, Result.andThen]
/-- A map that tells numbers of each unit. -/
def PMap (w : World) (m : Value) (f : Un → List Int) : Prop := ∃ (M : Nat) (L : UMap) (clk : Nat), m = .map (some M) ∧ w.heap[M]? = some (.map (esOf L) clk) ∧ ∀ x, NumsN w ((lookV L x).getD (.slice none 0 0)) (f x)
theorem PMap.call {w w' : World} {m : Value} {f : Un → List Int} (h : PMap w m f) (hb : Below w.heap.size w w') : PMap w' m f := by
  obtain ⟨M, L, clk, h1, h2, h3⟩ := h
  exact ⟨M, L, clk, h1, (hb.block M (Array.getElem?_eq_some_iff.1 h2).1).trans h2, fun x => (h3 x).call hb⟩
theorem PMap.look {w : World} {m : Value} {f : Un → List Int} (h : PMap w m f) (x : Un) : ∃ v, (Instr.lookup 131 m (unitV x) false).run Tryz.prog w = .ok v w ∧ NumsN w v (f x) := by
  obtain ⟨M, L, clk, rfl, h2, h3⟩ := h
  exact ⟨_, run_lookU L M clk x w h2, h3 x⟩
theorem unit_year {c : Cal} {u : Un} (h : unitE c u = 0) : unitE c ⟨1, u.yr, 1⟩ = 0 := by
  have hf := frame_lv (un_lv h).1 1 (by omega) (by omega)
  have hA := (un_lv h).2.2.2.1
  exact unit_is (u := ⟨1, u.yr, 1⟩) hf (Int.le_refl 1) (by simp [cntL])

set_option maxRecDepth 100000 in
set_option maxHeartbeats 1600000 in
theorem bparts_nil (c : Cal) (y : Int) (cap : Nat) (ad : Option Addr) (w : World) (hn : c.name.size ≤ 1000) (hU : unitE c ⟨1, y, 1⟩ = 0) :
    Calls Tryz.prog 68 #[calV c, .int .i64 y, .slice ad 0 cap] w fun e w' => (∃ m, e = .returned (.tuple #[m, .int .i64 0]) ∧ PMap w' m fun _ => []) ∧ Below w.heap.size w w' := by
  have HU := hide hU
  have hmm := @run_makeMap Tryz.prog
  clear hU
  simp only [calV]
  go_enter Tryz.func68, Tryz.ntmps68
  go_wp2_with fail
  refine (uspan_any c ⟨1, y, 1⟩ _ hn).mono ?_
  rintro e w1 ⟨rfl, hb1⟩
  rw [HU.out]
  simp only [spanV]
  have hz1 : w.heap.size < w1.heap.size := by have := hb1.size; simp at this; omega
  have HB1 : Hid (Below w.heap.size w w1) := ww hb1
  have HQ1 := hide (calAt_below hb1 (by simp) (calAt_new w c))
  obtain ⟨q0, q1, q2, q3, q4, q5, q6, q7, q8, q9, q10, q11, q12, q13⟩ := HQ1.out
  clear hb1
  go_wp2_with fail
  go_loopw [30] (fun s wr => s = .int .i64 0 ∧ wr.heap[w1.heap.size + 1]? = some (.map (esOf []) 0) ∧ Below w.heap.size w wr) (fun s _ => (5 - intOf s).toNat)
  case atStart =>
    have hBel := HB1.out
    refine ⟨rfl, ?_, by (repeat' exact bel)⟩
    have h := heap_alloc_new (w1.alloc (.cells #[.int .i64 (spV c ⟨1, y, 1⟩).a, .int .i64 (spV c ⟨1, y, 1⟩).b] 35)) (.map #[] 0)
    simpa [esOf] using h
  case round =>
    obtain ⟨rfl, hM, hBel⟩ := hrel
    have HM := hide (show PMap wr (.map (some (w1.heap.size + 1))) (fun _ => []) from ⟨_, [], 0, rfl, hM, fun x => .inl ⟨rfl, rfl⟩⟩)
    clear hM
    go_wp2
    go_ret2
    exact ⟨⟨_, rfl, HM.out⟩, hBel⟩
end Go.Proofs.YtamnccechaooaaaGreat
