/- Contracts of frame.Make: words, years that are not told. -/
import Derived.Test.YtojdngkleiokgaaYearF
import Derived.Outline
namespace Go.Proofs.Ytojdngkleiokgaa
open Go.RowKit Qd
set_option linter.unusedSimpArgs false
set_option linter.unusedVariables false

/-- Why a year's units of a level are not told. -/
def frameE (c : Cal) (lv y : Int) : Int := if c.okB then (if 1 ≤ lv ∧ lv ≤ 5 then (if c.first ≤ y ∧ y ≤ c.last then 0 else 11) else 1) else 1
theorem frame_ok {c : Cal} {lv y : Int} (h : frameE c lv y = 0) : c.Ok ∧ c.okB = true ∧ 1 ≤ lv ∧ lv ≤ 5 ∧ c.first ≤ y ∧ y ≤ c.last ∧ askE c y 1601 = 0 := by
  unfold frameE at h
  split at h
  · rename_i hk
    split at h
    · rename_i hl
      split at h
      · rename_i hy
        have hok : c.Ok := by simpa [Cal.okB] using hk
        have hs := hok.1
        unfold Cal.served at hs
        exact ⟨hok, hk, hl.1, hl.2, hy.1, hy.2, ask_2 hok (by omega) (by omega)⟩
      · omega
    · omega
  · omega
theorem frame_is {c : Cal} {lv y : Int} (hok : c.Ok) (h1 : 1 ≤ lv) (h5 : lv ≤ 5) (a : c.first ≤ y) (b : y ≤ c.last) : frameE c lv y = 0 := by
  have : c.okB = true := by simpa [Cal.okB] using hok
  simp [frameE, this, h1, h5, a, b]

/-- Spans that lie in a block. -/
def SpansAt (w : World) (g : Nat) (l : List (Int × Int)) : Prop :=
  g < w.heap.size ∧ ∀ i, i < l.length → w.cell? ⟨g, 2 * i, none⟩ = some (.int .i64 (l[i]?.getD (0, 0)).1) ∧ w.cell? ⟨g, 2 * i + 1, none⟩ = some (.int .i64 (l[i]?.getD (0, 0)).2)
theorem block_lt {w w' : World} {K g : Nat} (hb : Below K w w') (hg : g < K) (h : g < w.heap.size) : g < w'.heap.size := by
  have e := hb.block g hg
  by_cases h2 : g < w'.heap.size
  · exact h2
  · exfalso
    rw [Array.getElem?_eq_none (by omega), Array.getElem?_eq_getElem h] at e
    cases e
theorem SpansAt.below {w w' : World} {K g : Nat} {l : List (Int × Int)} (h : SpansAt w g l) (hb : Below K w w') (hg : g < K) : SpansAt w' g l :=
  ⟨block_lt hb hg h.1, fun i hi => ⟨(hb.cell (p := ⟨g, 2 * i, none⟩) hg).trans (h.2 i hi).1, (hb.cell (p := ⟨g, 2 * i + 1, none⟩) hg).trans (h.2 i hi).2⟩⟩
theorem SpansAt.call {w w' : World} {g : Nat} {l : List (Int × Int)} (h : SpansAt w g l) (hb : Below w.heap.size w w') : SpansAt w' g l := h.below hb h.1
theorem SpansAt.alloc {w : World} {g : Nat} {l : List (Int × Int)} (h : SpansAt w g l) (o : Obj) : SpansAt (w.alloc o) g l :=
  h.below ((Below.refl _ _).alloc (Nat.le_refl _) o) h.1
/-- Spans as cells. -/
def flat (l : List (Int × Int)) : List Value := l.flatMap fun x => [.int .i64 x.1, .int .i64 x.2]
theorem flat_len (l : List (Int × Int)) : (flat l).length = l.length * 2 := by
  induction l with
  | nil => rfl
  | cons x l ih => simp [flat] at ih ⊢; omega
theorem flat_append (a b : List (Int × Int)) : flat (a ++ b) = flat a ++ flat b := by simp [flat]
theorem flat_get (l : List (Int × Int)) (i : Nat) (hi : i < l.length) : (flat l)[2 * i]? = some (.int .i64 (l[i]?.getD (0, 0)).1) ∧ (flat l)[2 * i + 1]? = some (.int .i64 (l[i]?.getD (0, 0)).2) := by
  induction l generalizing i with
  | nil => simp at hi
  | cons x l ih =>
    cases i with
    | zero => simp [flat]
    | succ i =>
      have := ih i (by simpa using hi)
      have e1 : 2 * (i + 1) = 2 * i + 1 + 1 := by omega
      rw [e1]
      simpa [flat] using this
theorem owns_spans {w : World} {base n : Nat} {v : Value} {l : List (Int × Int)} {e : TypeId} (h : w.ownsRow base e 2 v n (flat l)) (hn : 0 < n) :
    ∃ g cap, v = .slice (some ⟨g, 0, none⟩) n cap ∧ n ≤ cap ∧ cap ≤ maxLen ∧ base ≤ g ∧ SpansAt w g l := by
  have h0 := h
  obtain ⟨hl, h1 | ⟨g, cap, cur, rfl, hg, hb, hc, hm, hs, ht⟩⟩ := h
  · exact absurd h1.2 (by omega)
  · refine ⟨g, cap, rfl, hc, hm, hg, (Array.getElem?_eq_some_iff.1 hb).1, fun i hi => ?_⟩
    have hcs := h0.cells (g := g) rfl
    have e1 : ∀ j, (⟨g, 0, none⟩ : Addr).add j = ⟨g, j, none⟩ := fun j => by simp [Addr.add]; omega
    have := flat_get l i hi
    exact ⟨by rw [← e1]; exact hcs _ _ this.1, by rw [← e1]; exact hcs _ _ this.2⟩

/-- How many weeks there are up to the end of each period. -/
def perL (c : Cal) (y : Int) : List Int := upto (fun k => (cumW c y (k + 1) : Int)) (nPer c y)
/-- A year's weeks and periods lie in two blocks. -/
def FrameAt (w : World) (g1 g2 : Nat) (c : Cal) (y : Int) : Prop := SpansAt w g1 (spL c y) ∧ IntsAt w g2 (perL c y)
theorem FrameAt.below {w w' : World} {K g1 g2 : Nat} {c : Cal} {y : Int} (h : FrameAt w g1 g2 c y) (hb : Below K w w') (h1 : g1 < K) (h2 : g2 < K) : FrameAt w' g1 g2 c y := ⟨h.1.below hb h1, h.2.below hb h2⟩
theorem FrameAt.call {w w' : World} {g1 g2 : Nat} {c : Cal} {y : Int} (h : FrameAt w g1 g2 c y) (hb : Below w.heap.size w w') : FrameAt w' g1 g2 c y := ⟨h.1.call hb, h.2.call hb⟩
theorem FrameAt.alloc {w : World} {g1 g2 : Nat} {c : Cal} {y : Int} (h : FrameAt w g1 g2 c y) (o : Obj) : FrameAt (w.alloc o) g1 g2 c y := ⟨h.1.alloc o, h.2.alloc o⟩
abbrev yearV (y : Int) (n cap g1 m g2 : Nat) : Value := .agg #[.int .i64 y, .slice (some ⟨g1, 0, none⟩) n cap, .slice (some ⟨g2, 0, none⟩) m m]
def MakePost (c : Cal) (y : Int) (w : World) (e : Ending) (w' : World) : Prop :=
  ∃ g1 cap g2, w.heap.size ≤ g1 ∧ w.heap.size ≤ g2 ∧ e = .returned (.tuple #[yearV y (nWk c y) cap g1 (nPer c y) g2, .int .i64 0]) ∧ nWk c y ≤ cap ∧ cap ≤ maxLen ∧ FrameAt w' g1 g2 c y ∧ Below w.heap.size w w'


set_option maxRecDepth 100000 in
set_option maxHeartbeats 1600000 in
theorem make_no (c : Cal) (lv y : Int) (w : World) (hn : c.name.size ≤ 1000) (hE : ¬ frameE c lv y = 0) :
    Calls Try.prog 47 #[calV c, .int .i64 lv, .int .i64 y] w fun e w' => e = .returned (.tuple #[.agg #[.int .i64 0, .slice none 0 0, .slice none 0 0], .int .i64 (frameE c lv y)]) ∧ Below w.heap.size w w' := by
  simp only [calV]
  cases hk : c.okB
  · have HE := hide (show frameE c lv y = 1 by simp [frameE, hk])
    have hoE : okE c = 1 := by simp [okE, hk]
    clear hE
    go_enter Try.func47, Try.ntmps47
    go_wp2_with fail
    refine (check_any c _ hn).mono ?_
    rintro e w1 ⟨rfl, hb1⟩
    rw [hoE]
    have hz1 : w.heap.size + 1 < w1.heap.size := by have := hb1.size; simp at this; omega
    have hz0 : w.heap.size < w1.heap.size := by omega
    obtain ⟨hc, hf⟩ := bcell hb1
    go_wp2
    exact bodyPost_ret (v := .tuple #[.agg #[.int .i64 0, .slice none 0 0, .slice none 0 0], .int .i64 1]) (by simp [results, Try.results47, go_sem, hc, hz1, hz0]) rfl ⟨by rw [HE.out], by (repeat' (first | (with_reducible exact Below.refl _ _) | (with_reducible assumption) | (with_reducible refine Below.alloc ?_ ?_ _) | (with_reducible refine below_drewN ?_ _) | (with_reducible refine Below.drew ?_) | (with_reducible refine Below.setCell ?_ ?_ _) | (with_reducible refine Below.trans ?_ (Below.mono (by assumption) ?_)) | go_size | (simp at *; omega)))⟩
  · have hoE : okE c = 0 := by simp [okE, hk]
    by_cases hl : 1 ≤ lv ∧ lv ≤ 5
    · have HE := hide (show frameE c lv y = 11 by
        have h2 : ¬ (c.first ≤ y ∧ y ≤ c.last) := fun h => hE (by simp [frameE, hk, hl, h])
        simp [frameE, hk, hl]
        omega)
      have hy : y < c.first ∨ c.last < y := by
        have h2 : ¬ (c.first ≤ y ∧ y ≤ c.last) := fun h => hE (by simp [frameE, hk, hl, h])
        omega
      clear hE
      go_enter Try.func47, Try.ntmps47
      go_wp2_with fail
      refine (check_any c _ hn).mono ?_
      rintro e w1 ⟨rfl, hb1⟩
      rw [hoE]
      have hz1 : w.heap.size + 1 < w1.heap.size := by have := hb1.size; simp at this; omega
      have hz0 : w.heap.size < w1.heap.size := by omega
      obtain ⟨hc, hf⟩ := bcell hb1
      go_wp2
      all_goals first
        | (exfalso; omega)
        | (exact bodyPost_ret (v := .tuple #[.agg #[.int .i64 0, .slice none 0 0, .slice none 0 0], .int .i64 11]) (by simp [results, Try.results47, go_sem, hc, hz1, hz0]) rfl ⟨by rw [HE.out], by (repeat' (first | (with_reducible exact Below.refl _ _) | (with_reducible assumption) | (with_reducible refine Below.alloc ?_ ?_ _) | (with_reducible refine below_drewN ?_ _) | (with_reducible refine Below.drew ?_) | (with_reducible refine Below.setCell ?_ ?_ _) | (with_reducible refine Below.trans ?_ (Below.mono (by assumption) ?_)) | go_size | (simp at *; omega)))⟩)
    · have HE := hide (show frameE c lv y = 1 by simp [frameE, hk]; omega)
      clear hE
      go_enter Try.func47, Try.ntmps47
      go_wp2_with fail
      refine (check_any c _ hn).mono ?_
      rintro e w1 ⟨rfl, hb1⟩
      rw [hoE]
      have hz1 : w.heap.size + 1 < w1.heap.size := by have := hb1.size; simp at this; omega
      have hz0 : w.heap.size < w1.heap.size := by omega
      obtain ⟨hc, hf⟩ := bcell hb1
      go_wp2
      all_goals first
        | (exfalso; omega)
        | (exact bodyPost_ret (v := .tuple #[.agg #[.int .i64 0, .slice none 0 0, .slice none 0 0], .int .i64 1]) (by simp [results, Try.results47, go_sem, hc, hz1, hz0]) rfl ⟨by rw [HE.out], by (repeat' (first | (with_reducible exact Below.refl _ _) | (with_reducible assumption) | (with_reducible refine Below.alloc ?_ ?_ _) | (with_reducible refine below_drewN ?_ _) | (with_reducible refine Below.drew ?_) | (with_reducible refine Below.setCell ?_ ?_ _) | (with_reducible refine Below.trans ?_ (Below.mono (by assumption) ?_)) | go_size | (simp at *; omega)))⟩)

end Go.Proofs.Ytojdngkleiokgaa
