/- In which fiscal year a day lies: the plain law behind package year. Contracts of frame.Make: words, years that are not told. Contracts of frame.Make: years that are told. Contracts of frames: which weeks are the last ones of units. Contracts of frames: lasts. Contracts of frames: looking up in sorted numbers. Contracts of frames: Span. Contracts of frames: Weeks, Span, Unit. Contracts of frames: Unit, Week. -/
import Derived.Test.YtjhhmeoibfdcmaaGreatDoorMSa
import Derived.Outline
import Derived.Laws.EntriesVeiled
import Derived.Test.YtjhhmeoibfdcmaaGreatDoorUnitV
namespace Go.Proofs.YtjhhmeoibfdcmaaGreatDoor
open Go.RowKit Qd
set_option linter.unusedSimpArgs false
set_option linter.unusedVariables false

/-- The day lies in that year, which is told. -/
def yrOk (c : Cal) (day y : Int) : Prop := askE c y 1601 = 0 ∧ startV c y ≤ day ∧ day ≤ endV c y
theorem ask_2 {c : Cal} {y a : Int} (h : c.Ok) (h1 : a ≤ y) (h2 : y ≤ 9997) : askE c y a = 0 := by
  have : c.okB = true := by simpa [Cal.okB] using h
  simp [askE, this, h1, h2]
theorem start_next (c : Cal) (y : Int) (h : askE c (y + 1) 1601 = 0) : startV c (y + 1) = endV c y + 1 := by
  obtain ⟨hok, h1, h2⟩ := ask_ok h
  have h3 : askE c y 1600 = 0 := ask_2 hok (by omega) (by omega)
  have e : y + 1 - 1 + c.shift = y + c.shift := by omega
  simp [startV, h, endV, h3, e]
theorem end_mono (c : Cal) (y : Int) (hok : c.Ok) (h1 : 1600 ≤ y) (m : Nat) (h2 : y + m ≤ 9997) : endV c y + 358 * m ≤ endV c (y + m) := by
  induction m with
  | zero => simp
  | succ m ih =>
    have h3 := ih (by omega)
    have e : y + ((m + 1 : Nat) : Int) = y + m + 1 := by omega
    rw [e]
    have hA : askE c (y + m + 1) 1601 = 0 := ask_2 hok (by omega) (by omega)
    have h4 := start_next c (y + m) hA
    have h5 := year_bd c (y + m + 1) hA
    have h6 : daysV c (y + m + 1) = endV c (y + m + 1) - startV c (y + m + 1) + 1 := by simp [daysV, hA]
    omega
theorem end_le (c : Cal) {y z : Int} (hok : c.Ok) (h1 : 1600 ≤ y) (h : y ≤ z) (h2 : z ≤ 9997) : endV c y ≤ endV c z := by
  obtain ⟨m, rfl⟩ : ∃ m : Nat, z = y + m := ⟨(z - y).toNat, by omega⟩
  have := end_mono c y hok h1 m h2
  omega
theorem start_le (c : Cal) {y z : Int} (hok : c.Ok) (h1 : 1601 ≤ y) (h : y ≤ z) (h2 : z ≤ 9997) : startV c y ≤ startV c z := by
  have e1 := start_next c (y - 1) (by rw [show y - 1 + 1 = y by omega]; exact ask_2 hok h1 (by omega))
  have e2 := start_next c (z - 1) (by rw [show z - 1 + 1 = z by omega]; exact ask_2 hok (by omega) h2)
  rw [show y - 1 + 1 = y by omega] at e1
  rw [show z - 1 + 1 = z by omega] at e2
  have := end_le c hok (show 1600 ≤ y - 1 by omega) (show y - 1 ≤ z - 1 by omega) (by omega)
  omega
theorem end_lt_start (c : Cal) {y z : Int} (hok : c.Ok) (h1 : 1600 ≤ y) (h : y < z) (h2 : z ≤ 9997) : endV c y < startV c z := by
  have e1 := start_next c y (ask_2 hok (by omega) (by omega))
  have := start_le c hok (show 1601 ≤ y + 1 by omega) (show y + 1 ≤ z by omega) h2
  omega
/-- A day lies in one year. -/
theorem yr_one {c : Cal} {day y z : Int} (h : yrOk c day y) (h2 : yrOk c day z) : y = z := by
  obtain ⟨a1, a2, a3⟩ := h
  obtain ⟨b1, b2, b3⟩ := h2
  obtain ⟨hok, y1, y2⟩ := ask_ok a1
  obtain ⟨_, z1, z2⟩ := ask_ok b1
  rcases Int.lt_trichotomy y z with h5 | h5 | h5
  · have := end_lt_start c hok (by omega) h5 z2; omega
  · exact h5
  · have := end_lt_start c hok (by omega) h5 y2; omega
/-- The year lies beside the civil one. -/
theorem yr_near {c : Cal} {day y : Int} (h : yrOk c day y) (hd : isB day = true) : ofY day - c.shift - 2 ≤ y ∧ y ≤ ofY day - c.shift + 2 := by
  obtain ⟨a1, a2, a3⟩ := h
  obtain ⟨hok, y1, y2⟩ := ask_ok a1
  obtain ⟨hm, hs, hk, hd2⟩ := ok_rule hok
  have t1 := ask_there1 a1
  have t2 := ask_there a1 (by omega)
  have eS : startV c y = finV c (y - 1 + c.shift) + 1 := by simp [startV, a1]
  have eE : endV c y = finV c (y + c.shift) := by simp [endV, ask_mono a1]
  have hdd : 0 ≤ day ∧ day < 3068037 := by simpa [isB] using hd
  obtain ⟨o1, o2, o3, o4⟩ := ofY_ok day hdd.1 hdd.2
  have w1 := endW_bd (y - 1 + c.shift) c.month
  have w2 := endW_bd (y + c.shift) c.month
  have e1 := endN_eq _ _ t1
  have e2 := endN_eq _ _ t2
  have b1 := ahead_bd (y - 1 + c.shift) (c.month + 1)
  have b2 := ahead_bd (y + c.shift) (c.month + 1)
  have f1 : endN (y - 1 + c.shift) c.month - 7 ≤ finV c (y - 1 + c.shift) := by
    unfold finV nearD
    split
    · omega
    · split <;> omega
  have f2 : finV c (y + c.shift) ≤ endN (y + c.shift) c.month + 3 := by
    unfold finV nearD
    split
    · omega
    · split <;> omega
  constructor
  · rcases Int.lt_or_le y (ofY day - c.shift - 2) with h5 | h5
    · exfalso
      have h6 := years_lt (y + c.shift) (y + c.shift + 1) (by omega) (by omega)
      have h7 := years_lt (y + c.shift + 1) (ofY day) (by omega) (by omega)
      omega
    · exact h5
  · rcases Int.lt_or_le (ofY day - c.shift + 2) y with h5 | h5
    · exfalso
      have h7 := years_lt (ofY day + 1) (y - 1 + c.shift) (by omega) (by omega)
      have h8 := years_mono (ofY day + 1) (ofY day + 1) (by omega) (by omega)
      omega
    · exact h5

open Classical in
/-- The year of a day; 0: there is none. -/
noncomputable def foundY (c : Cal) (day : Int) : Int := if h : isB day = true ∧ ∃ y, yrOk c day y then h.2.choose else 0
open Classical in
/-- Which day of it. -/
noncomputable def foundN (c : Cal) (day : Int) : Int := if isB day = true ∧ ∃ y, yrOk c day y then day - startV c (foundY c day) + 1 else 0
open Classical in
noncomputable def foundE (c : Cal) (day : Int) : Int := if c.okB = false then 1 else if isB day = false then 4 else if ∃ y, yrOk c day y then 0 else 11
theorem found_yes {c : Cal} {day y : Int} (hd : isB day = true) (h : yrOk c day y) : foundY c day = y ∧ foundN c day = day - startV c y + 1 ∧ foundE c day = 0 := by
  have hok := (ask_ok h.1).1
  have hok2 : c.okB = true := by simpa [Cal.okB] using hok
  have hex : isB day = true ∧ ∃ y, yrOk c day y := ⟨hd, y, h⟩
  have e1 : foundY c day = y := by
    unfold foundY
    rw [dif_pos hex]
    exact yr_one hex.2.choose_spec h
  refine ⟨e1, ?_, ?_⟩
  · unfold foundN
    rw [if_pos hex, e1]
  · unfold foundE
    rw [if_neg (by simp [hok2]), if_neg (by simp [hd]), if_pos hex.2]
theorem found_none {c : Cal} {day : Int} (h : ¬ ∃ y, yrOk c day y) : foundY c day = 0 ∧ foundN c day = 0 ∧ (c.okB = true → isB day = true → foundE c day = 11) := by
  refine ⟨?_, ?_, ?_⟩
  · unfold foundY
    rw [dif_neg (fun h2 => h h2.2)]
  · unfold foundN
    rw [if_neg (fun h2 => h h2.2)]
  · intro h1 h2
    unfold foundE
    rw [if_neg (by simp [h1]), if_neg (by simp [h2]), if_neg h]
theorem found_ok {c : Cal} {day : Int} (h : foundE c day = 0) : c.Ok ∧ isB day = true ∧ yrOk c day (foundY c day) := by
  unfold foundE at h
  split at h
  · omega
  · rename_i h1
    split at h
    · omega
    · rename_i h2
      split at h
      · rename_i h3
        obtain ⟨y, hy⟩ := h3
        have hd : isB day = true := by simpa using h2
        rw [(found_yes hd hy).1]
        exact ⟨(ask_ok hy.1).1, hd, hy⟩
      · omega
theorem found_not_ok {c : Cal} {day : Int} (h : c.okB = false) : foundY c day = 0 ∧ foundN c day = 0 ∧ foundE c day = 1 := by
  have hne : ¬ ∃ y, yrOk c day y := by
    rintro ⟨y, hy⟩
    have := (ask_ok hy.1).1
    have : c.okB = true := by simpa [Cal.okB] using this
    rw [h] at this; cases this
  have := found_none hne
  exact ⟨this.1, this.2.1, by unfold foundE; rw [if_pos h]⟩
theorem found_no_day {c : Cal} {day : Int} (h : isB day = false) : foundY c day = 0 ∧ foundN c day = 0 ∧ (c.okB = true → foundE c day = 4) := by
  refine ⟨?_, ?_, ?_⟩
  · unfold foundY; rw [dif_neg (fun h2 => by rw [h] at h2; cases h2.1)]
  · unfold foundN; rw [if_neg (fun h2 => by rw [h] at h2; cases h2.1)]
  · intro h1
    unfold foundE
    rw [if_neg (by simp [h1]), if_pos h]

/-- Why a year's units of a level are not told. -/
def frameE (c : Cal) (lv y : Int) : Int := if c.okB then (if 1 ≤ lv ∧ lv ≤ 5 then (if c.first ≤ y ∧ y ≤ c.last then 0 else 11) else 1) else 1
theorem frame_ok {c : Cal} {lv y : Int} (h : frameE c lv y = 0) : c.Ok ∧ c.okB = true ∧ 1 ≤ lv ∧ lv ≤ 5 ∧ c.first ≤ y ∧ y ≤ c.last ∧ askE c y 1601 = 0 := by
  unfold frameE at h
  split at h
  · rename_i hk
    split at h
    · rename_i hl
      split at h
      · rename_i hy
        have hok : c.Ok := by simpa [Cal.okB] using hk
        have hs := hok.1
        unfold Cal.served at hs
        exact ⟨hok, hk, hl.1, hl.2, hy.1, hy.2, ask_2 hok (by omega) (by omega)⟩
      · omega
    · omega
  · omega
theorem frame_is {c : Cal} {lv y : Int} (hok : c.Ok) (h1 : 1 ≤ lv) (h5 : lv ≤ 5) (a : c.first ≤ y) (b : y ≤ c.last) : frameE c lv y = 0 := by
  have : c.okB = true := by simpa [Cal.okB] using hok
  simp [frameE, this, h1, h5, a, b]

/-- Spans that lie in a block. -/
def SpansAt (w : World) (g : Nat) (l : List (Int × Int)) : Prop :=
  g < w.heap.size ∧ ∀ i, i < l.length → w.cell? ⟨g, 2 * i, none⟩ = some (.int .i64 (l[i]?.getD (0, 0)).1) ∧ w.cell? ⟨g, 2 * i + 1, none⟩ = some (.int .i64 (l[i]?.getD (0, 0)).2)
theorem block_lt {w w' : World} {K g : Nat} (hb : Below K w w') (hg : g < K) (h : g < w.heap.size) : g < w'.heap.size := by
  have e := hb.block g hg
  by_cases h2 : g < w'.heap.size
  · exact h2
  · exfalso
    rw [Array.getElem?_eq_none (by omega), Array.getElem?_eq_getElem h] at e
    cases e
theorem SpansAt.below {w w' : World} {K g : Nat} {l : List (Int × Int)} (h : SpansAt w g l) (hb : Below K w w') (hg : g < K) : SpansAt w' g l :=
  ⟨block_lt hb hg h.1, fun i hi => ⟨(hb.cell (p := ⟨g, 2 * i, none⟩) hg).trans (h.2 i hi).1, (hb.cell (p := ⟨g, 2 * i + 1, none⟩) hg).trans (h.2 i hi).2⟩⟩
theorem SpansAt.call {w w' : World} {g : Nat} {l : List (Int × Int)} (h : SpansAt w g l) (hb : Below w.heap.size w w') : SpansAt w' g l := h.below hb h.1
theorem SpansAt.alloc {w : World} {g : Nat} {l : List (Int × Int)} (h : SpansAt w g l) (o : Obj) : SpansAt (w.alloc o) g l :=
  h.below ((Below.refl _ _).alloc (Nat.le_refl _) o) h.1
/-- Spans as cells. -/
def flat (l : List (Int × Int)) : List Value := l.flatMap fun x => [.int .i64 x.1, .int .i64 x.2]
theorem flat_len (l : List (Int × Int)) : (flat l).length = l.length * 2 := by
  induction l with
  | nil => rfl
  | cons x l ih => simp [flat] at ih ⊢; omega
theorem flat_append (a b : List (Int × Int)) : flat (a ++ b) = flat a ++ flat b := by simp [flat]
theorem flat_get (l : List (Int × Int)) (i : Nat) (hi : i < l.length) : (flat l)[2 * i]? = some (.int .i64 (l[i]?.getD (0, 0)).1) ∧ (flat l)[2 * i + 1]? = some (.int .i64 (l[i]?.getD (0, 0)).2) := by
  induction l generalizing i with
  | nil => simp at hi
  | cons x l ih =>
    cases i with
    | zero => simp [flat]
    | succ i =>
      have := ih i (by simpa using hi)
      have e1 : 2 * (i + 1) = 2 * i + 1 + 1 := by omega
      rw [e1]
      simpa [flat] using this
theorem owns_spans {w : World} {base n : Nat} {v : Value} {l : List (Int × Int)} {e : TypeId} (h : w.ownsRow base e 2 v n (flat l)) (hn : 0 < n) :
    ∃ g cap, v = .slice (some ⟨g, 0, none⟩) n cap ∧ n ≤ cap ∧ cap ≤ maxLen ∧ base ≤ g ∧ SpansAt w g l := by
  have h0 := h
  obtain ⟨hl, h1 | ⟨g, cap, cur, rfl, hg, hb, hc, hm, hs, ht⟩⟩ := h
  · exact absurd h1.2 (by omega)
  · refine ⟨g, cap, rfl, hc, hm, hg, (Array.getElem?_eq_some_iff.1 hb).1, fun i hi => ?_⟩
    have hcs := h0.cells (g := g) rfl
    have e1 : ∀ j, (⟨g, 0, none⟩ : Addr).add j = ⟨g, j, none⟩ := fun j => by simp [Addr.add]; omega
    have := flat_get l i hi
    exact ⟨by rw [← e1]; exact hcs _ _ this.1, by rw [← e1]; exact hcs _ _ this.2⟩

/-- How many weeks there are up to the end of each period. -/
def perL (c : Cal) (y : Int) : List Int := upto (fun k => (cumW c y (k + 1) : Int)) (nPer c y)
/-- A year's weeks and periods lie in two blocks. -/
def FrameAt (w : World) (g1 g2 : Nat) (c : Cal) (y : Int) : Prop := SpansAt w g1 (spL c y) ∧ IntsAt w g2 (perL c y)
theorem FrameAt.below {w w' : World} {K g1 g2 : Nat} {c : Cal} {y : Int} (h : FrameAt w g1 g2 c y) (hb : Below K w w') (h1 : g1 < K) (h2 : g2 < K) : FrameAt w' g1 g2 c y := ⟨h.1.below hb h1, h.2.below hb h2⟩
theorem FrameAt.call {w w' : World} {g1 g2 : Nat} {c : Cal} {y : Int} (h : FrameAt w g1 g2 c y) (hb : Below w.heap.size w w') : FrameAt w' g1 g2 c y := ⟨h.1.call hb, h.2.call hb⟩
theorem FrameAt.alloc {w : World} {g1 g2 : Nat} {c : Cal} {y : Int} (h : FrameAt w g1 g2 c y) (o : Obj) : FrameAt (w.alloc o) g1 g2 c y := ⟨h.1.alloc o, h.2.alloc o⟩
abbrev yearV (y : Int) (n cap g1 m g2 : Nat) : Value := .agg #[.int .i64 y, .slice (some ⟨g1, 0, none⟩) n cap, .slice (some ⟨g2, 0, none⟩) m m]
def MakePost (c : Cal) (y : Int) (w : World) (e : Ending) (w' : World) : Prop :=
  ∃ g1 cap g2, w.heap.size ≤ g1 ∧ w.heap.size ≤ g2 ∧ e = .returned (.tuple #[yearV y (nWk c y) cap g1 (nPer c y) g2, .int .i64 0]) ∧ nWk c y ≤ cap ∧ cap ≤ maxLen ∧ FrameAt w' g1 g2 c y ∧ Below w.heap.size w w'


set_option maxRecDepth 100000 in
set_option maxHeartbeats 1600000 in
theorem make_no (c : Cal) (lv y : Int) (w : World) (hn : c.name.size ≤ 1000) (hE : ¬ frameE c lv y = 0) :
    Calls Tryz.prog 28 #[calV c, .int .i64 lv, .int .i64 y] w fun e w' => e = .returned (.tuple #[.agg #[.int .i64 0, .slice none 0 0, .slice none 0 0], .int .i64 (frameE c lv y)]) ∧ Below w.heap.size w w' := by
  simp only [calV]
  cases hk : c.okB
  · have HE := hide (show frameE c lv y = 1 by simp [frameE, hk])
    have hoE : okE c = 1 := by simp [okE, hk]
    clear hE
    go_enter Tryz.func28, Tryz.ntmps28
    go_wp2_with fail
    refine (check_any c _ hn).mono ?_
    rintro e w1 ⟨rfl, hb1⟩
    rw [hoE]
    have hz1 : w.heap.size + 1 < w1.heap.size := by have := hb1.size; simp at this; omega
    have hz0 : w.heap.size < w1.heap.size := by omega
    obtain ⟨hc, hf⟩ := bcell hb1
    go_wp2
    exact bodyPost_ret (v := .tuple #[.agg #[.int .i64 0, .slice none 0 0, .slice none 0 0], .int .i64 1]) (by simp [results, Tryz.results28, go_sem, hc, hz1, hz0]) rfl ⟨by rw [HE.out], by (repeat' exact bel)⟩
  · have hoE : okE c = 0 := by simp [okE, hk]
    by_cases hl : 1 ≤ lv ∧ lv ≤ 5
    · have HE := hide (show frameE c lv y = 11 by
        have h2 : ¬ (c.first ≤ y ∧ y ≤ c.last) := fun h => hE (by simp [frameE, hk, hl, h])
        simp [frameE, hk, hl]
        omega)
      have hy : y < c.first ∨ c.last < y := by
        have h2 : ¬ (c.first ≤ y ∧ y ≤ c.last) := fun h => hE (by simp [frameE, hk, hl, h])
        omega
      clear hE
      go_enter Tryz.func28, Tryz.ntmps28
      go_wp2_with fail
      refine (check_any c _ hn).mono ?_
      rintro e w1 ⟨rfl, hb1⟩
      rw [hoE]
      have hz1 : w.heap.size + 1 < w1.heap.size := by have := hb1.size; simp at this; omega
      have hz0 : w.heap.size < w1.heap.size := by omega
      obtain ⟨hc, hf⟩ := bcell hb1
      go_wp2
      all_goals first
        | (exfalso; omega)
        | (exact bodyPost_ret (v := .tuple #[.agg #[.int .i64 0, .slice none 0 0, .slice none 0 0], .int .i64 11]) (by simp [results, Tryz.results28, go_sem, hc, hz1, hz0]) rfl ⟨by rw [HE.out], by (repeat' exact bel)⟩)
    · have HE := hide (show frameE c lv y = 1 by simp [frameE, hk]; omega)
      clear hE
      go_enter Tryz.func28, Tryz.ntmps28
      go_wp2_with fail
      refine (check_any c _ hn).mono ?_
      rintro e w1 ⟨rfl, hb1⟩
      rw [hoE]
      have hz1 : w.heap.size + 1 < w1.heap.size := by have := hb1.size; simp at this; omega
      have hz0 : w.heap.size < w1.heap.size := by omega
      obtain ⟨hc, hf⟩ := bcell hb1
      go_wp2
      all_goals first
        | (exfalso; omega)
        | (exact bodyPost_ret (v := .tuple #[.agg #[.int .i64 0, .slice none 0 0, .slice none 0 0], .int .i64 1]) (by simp [results, Tryz.results28, go_sem, hc, hz1, hz0]) rfl ⟨by rw [HE.out], by (repeat' exact bel)⟩)

theorem spans_info : (Tryz.prog.info? 26).map (fun i => (i.zero, i.size, i.bytes)) = some (some (.agg #[.int .i64 0, .int .i64 0]), 2, 16) := by kernel_rfl

theorem BlkIs.own {w w' : World} {row : Option Nat} {B : Nat} {cs : Array Value} {t : TypeId} (h : BlkIs w B cs t) (hg : w.grownBy w' row) (hne : row ≠ some B) : BlkIs w' B cs t := (hg.block B h.lt (fun e => hne e.symm)).trans h
theorem IntsAt.own {w w' : World} {row : Option Nat} {B : Nat} {xs : List Int} (h : IntsAt w B xs) (hg : w.grownBy w' row) (hne : row ≠ some B) : IntsAt w' B xs := (hg.block B h.lt (fun e => hne e.symm)).trans h
theorem BlkIs.frozen {w : World} {B : Nat} {cs : Array Value} {t : TypeId} (h : BlkIs w B cs t) (k : Nat) : w.frozen? ⟨B, k, none⟩ = false := by
  unfold BlkIs at h
  simp [World.frozen?, h]
theorem BlkIs.set3 {w : World} {B : Nat} {a b c : Value} {t : TypeId} (h : BlkIs w B #[a, b, c] t) (u : Value) : BlkIs (w.setCell ⟨B, 1, none⟩ u) B #[a, u, c] t := by
  unfold BlkIs at h ⊢
  simp [World.setCell, Array.getElem?_modify, h]
theorem own_ne {w : World} {base : Nat} {e : TypeId} {size n : Nat} {v : Value} {xs : List Value} (h : w.ownsRow base e size v n xs) {B : Nat} (hB : B < base) : v.ownBlock ≠ some B := fun e => by have := h.lt B e; omega

theorem owns_slice {w : World} {base n : Nat} {v : Value} {xs : List Value} {e : TypeId} {size : Nat} (h : w.ownsRow base e size v n xs) (hn : 0 < n) : ∃ g cap, v = .slice (some ⟨g, 0, none⟩) n cap ∧ n ≤ cap ∧ cap ≤ maxLen ∧ base ≤ g := by
  obtain ⟨hl, h1 | ⟨g, cap, cur, rfl, hg, hb, hc, hm, hs, ht⟩⟩ := h
  · exact absurd h1.2 (by omega)
  · exact ⟨g, cap, rfl, hc, hm, hg⟩
theorem SpansAt.same {w w' : World} {g : Nat} {l : List (Int × Int)} (h : SpansAt w g l) (e : w'.heap[g]? = w.heap[g]?) : SpansAt w' g l := by
  refine ⟨?_, fun i hi => ⟨(World.cell?_of_block (a := ⟨g, 2 * i, none⟩) e).trans (h.2 i hi).1, (World.cell?_of_block (a := ⟨g, 2 * i + 1, none⟩) e).trans (h.2 i hi).2⟩⟩
  by_cases h2 : g < w'.heap.size
  · exact h2
  · exfalso
    rw [Array.getElem?_eq_none (by omega), Array.getElem?_eq_getElem h.1] at e
    cases e
theorem FrameAt.far {w : World} {g1 g2 : Nat} {c : Cal} {y : Int} (h : FrameAt w g1 g2 c y) {p : Addr} (h1 : g1 ≠ p.block) (h2 : g2 ≠ p.block) (u : Value) : FrameAt (w.setCell p u) g1 g2 c y :=
  ⟨h.1.same (Below.heap_setCell w p u g1 h1), h.2.far h2 u⟩
/-- The blocks of the loop: what has been made so far. -/
def MkSt (c : Cal) (y : Int) (F g2 base : Nat) (wr : World) (k j : Nat) : Prop :=
  ∃ v, BlkIs wr F #[.int .i64 y, v, .slice (some ⟨g2, 0, none⟩) (nPer c y) (nPer c y)] 67 ∧
    wr.ownsRow base 26 2 v (cumW c y k + j) (flat (spUp c y k ++ upto (spAt c y k) j))

set_option maxRecDepth 100000 in
set_option maxHeartbeats 3200000 in
theorem make_yes (c : Cal) (lv y : Int) (w : World) (hn : c.name.size ≤ 1000) (hE : frameE c lv y = 0) :
    Calls Tryz.prog 28 #[calV c, .int .i64 lv, .int .i64 y] w (MakePost c y w) := by
  obtain ⟨hok, hok2, hl1, hl5, hy1, hy2, hA⟩ := frame_ok hE
  have hoE : okE c = 0 := by simp [okE, hok2]
  have HA := hide hA
  have HNB := hide (nPer_bd c y hA)
  obtain ⟨n, hnn⟩ : ∃ n, n = nPer c y := ⟨_, rfl⟩
  have hn52 : 12 ≤ n ∧ n ≤ 52 := by have := nPer_bd c y hA; omega
  have HN := hide (show n = (endsL c y).length from hnn)
  have HN2 := hide hnn
  have hmk := fun W => make_ints n (by omega) W
  clear hE hok hok2 hA hnn
  simp only [calV]
  go_enter Tryz.func28, Tryz.ntmps28
  go_wp2_with fail
  refine (check_any c _ hn).mono ?_
  rintro e w1 ⟨rfl, hb1⟩
  rw [hoE]
  have hz1 : w.heap.size + 1 < w1.heap.size := by have := hb1.size; simp at this; omega
  have hz0 : w.heap.size < w1.heap.size := by omega
  have HB1 := hide (show Below w.heap.size w w1 by (repeat' exact bel))
  have HQ := hide (calAt_below (B := w.heap.size) (c := c) hb1 (by simp; omega) (calAt_alloc (calAt_new w c) (by simp) _))
  have HR := hide (BlkIs.call (BlkIs.new (w.alloc (calObj c)) #[.int .i64 0, .slice none 0 0, .slice none 0 0] 67) hb1)
  obtain ⟨q0, q1, q2, q3, q4, q5, q6, q7, q8, q9, q10, q11, q12, q13⟩ := HQ.out
  clear hb1
  go_wp2_with fail
  all_goals first
    | (exfalso; omega)
    | skip
  refine (start_any c y _ hn).mono ?_
  rintro e w2 ⟨rfl, hb2⟩
  clear q0 q1 q2 q3 q4 q5 q6 q7 q8 q9 q10 q11 q12 q13
  rw [HA.out]
  have hz2 : w.heap.size < w2.heap.size := Nat.lt_of_lt_of_le hz0 hb2.size
  have HQ2 := hide (calAt_below hb2 hz0 HQ.out)
  have HR2 := hide (HR.out.call hb2)
  have HB2 := hide (HB1.out.trans (hb2.mono (Nat.le_of_lt hz0)))
  have hz2' : w.heap.size + 1 < w2.heap.size := Nat.lt_of_lt_of_le hz1 hb2.size
  obtain ⟨q0, q1, q2, q3, q4, q5, q6, q7, q8, q9, q10, q11, q12, q13⟩ := HQ2.out
  clear hb2
  go_wp2_with fail
  refine (ends_any c y _ hn HA.out).mono ?_
  rintro e w3 ⟨g, hg, rfl, hI, hb3⟩
  clear q0 q1 q2 q3 q4 q5 q6 q7 q8 q9 q10 q11 q12 q13
  have HI := hide hI
  have HR3 := hide (HR2.out.call hb3)
  have HB3 := hide (HB2.out.trans (hb3.mono (Nat.le_of_lt hz2)))
  have hz3' : w.heap.size + 1 < w3.heap.size := Nat.lt_of_lt_of_le hz2' hb3.size
  have hglt := hI.lt
  clear hb3 hI
  rw [← HN.out]
  go_wp2_with fail
  obtain ⟨i0, hi, hz0, hz1, hz2⟩ := info_parts spans_info
  obtain ⟨G, hG⟩ : ∃ G, G = w3.heap.size := ⟨_, rfl⟩
  rw [← hG] at hz3' hglt ⊢
  have HG := hide hG
  clear hG
  have HP := hide (fun k hk => nwk_pos c y HA.out k hk)
  have HCW := hide (fun k m (h : k ≤ m) => cumW_le c y h)
  have HNW := hide (nWk_bd c y HA.out)
  have HFB := hide (fun k hk => from_bd c y HA.out k hk)
  have HPB := hide (fun k hk => period_1 c y HA.out k hk)
  have hyb := year_bd c y HA.out
  go_loopw [9, 66] (fun s9 s wr => ∃ k : Nat, s = .int .i64 k ∧ s9 = .int .i64 (fromAt c y k) ∧ k ≤ n ∧ MkSt c y (G + 1) G (G + 2) wr k 0 ∧ IntsAt wr G (upTo n k fun i => (cumW c y (i + 1) : Int)) ∧ Below G w3 wr ∧ G + 2 ≤ wr.heap.size) (fun _ s _ => (60 - intOf s).toNat)
  case atStart =>
    refine ⟨0, rfl, by simp [fromAt], by omega, ⟨.slice none 0 0, ?_, ?_⟩, ?_, ?_, ?_⟩
    · have := BlkIs.new (w3.alloc (zeroObj n)) #[.int .i64 y, .slice none 0 0, .slice (some ⟨G, 0, none⟩) n n] 67
      rw [← HN2.out]
      simpa [HG.out] using this
    · simpa [cumW, spUp, upto, flat] using World.ownsRow_nil _ _ _ _
    · rw [upTo_zero, HG.out]; exact (IntsAt.new w3 n).alloc _
    · rw [HG.out]; exact ((Below.refl _ _).alloc (Nat.le_refl _) _).alloc (by simp) _
    · simp [HG.out]
  case round =>
    obtain ⟨k, rfl, rfl, hk, hS, hJ, hB, hGs⟩ := hrel
    by_cases hlt : k < n
    · have hke : k < (endsL c y).length := by rw [← HN.out]; exact hlt
      have c1 : wr.cell? ⟨g, k, none⟩ = some (.int .i64 (endAt c y k)) := ((HI.out).below hB hglt).cell (k := k) hke
      have hp := HPB.out k hke
      have hf := HFB.out k (Nat.le_of_lt hke)
      have hwk := HP.out k (by rw [← HN2.out]; exact hlt)
      have hnwk : ((nwk c y k : Nat) : Int) = (endAt c y k - fromAt c y k) / 7 + 1 := by unfold nwk wkAt; omega
      obtain ⟨wo, rfl⟩ : ∃ wo : World, wo = wr := ⟨_, rfl⟩
      go_wp2_with fail
      go_loopw [9] (fun s9 wr => ∃ j : Nat, s9 = .int .i64 (fromAt c y k + 7 * (j : Int)) ∧ j ≤ nwk c y k ∧ MkSt c y (G + 1) G (G + 2) wr k j ∧ IntsAt wr G (upTo n k fun i => (cumW c y (i + 1) : Int)) ∧ Below G w3 wr ∧ G + 2 ≤ wr.heap.size) (fun s9 _ => (endAt c y k + 7 - intOf s9).toNat)
      case atStart => exact ⟨0, by simp, Nat.zero_le _, hS, hJ, hB, hGs⟩
      case round =>
        clear hS hJ hB hGs c1
        obtain ⟨j, rfl, hj, ⟨v, hF, hown⟩, hJ, hB, hGs⟩ := hrel
        have kF1 : wr.cell? ⟨G + 1, 1, none⟩ = some v := hF.cell 1
        by_cases hjl : j < nwk c y k
        · have hle : fromAt c y k + 7 * (j : Int) ≤ endAt c y k := by omega
          have hcum : cumW c y k + j + 1 ≤ 100 := by
            have h1 := HCW.out (k + 1) n (by omega)
            have h2 := HNW.out.2
            rw [nWk, ← HN2.out] at h2
            rw [cumW] at h1
            omega
          rcases (show endAt c y k < fromAt c y k + 7 * (j : Int) + 6 ∨ fromAt c y k + 7 * (j : Int) + 6 ≤ endAt c y k by omega) with hmin | hmin
          · have HV := hide (show (spAt c y k j).2 = endAt c y k by simp [spAt]; omega)
            go_wp2_with ((at_builtin; refine wpList_append_own _ rfl _ _ 64 rfl (G + 2) 26 i0 (.agg #[.int .i64 0, .int .i64 0]) 2 16 Tryz.underlying64 hi hz0 hz1 hz2 rfl (by decide) _ _ _ rfl (hown.alloc _) ⟨wr.heap.size, 0, none⟩ 1 1 [.int .i64 (fromAt c y k + 7 * (j : Int)), .int .i64 (endAt c y k)] rfl rfl ?c1 ?c2 ?c3 ?c4 ?c5 ?_))
            case c1 =>
              intro i u hu
              match i, hu with
              | 0, hu => simp at hu; subst hu; simp [Addr.add]
              | 1, hu => simp at hu; subst hu; simp [Addr.add]
              | i + 2, hu => simp at hu
            case c2 => intro u hu; simp at hu; rcases hu with rfl | rfl <;> rfl
            case c3 => unfold maxLen; omega
            case c4 => omega
            case c5 => have := hGs; simp; omega
            · intro v' w' hown' hgrow _
              have hne := own_ne hown (B := G + 1) (by omega)
              have hne2 := own_ne hown (B := G) (by omega)
              have hF' := (hF.alloc (.cells #[.int .i64 (fromAt c y k + 7 * (j : Int)), .int .i64 (endAt c y k)] 26)).own hgrow hne
              have hJ' := hide ((hJ.alloc (.cells #[.int .i64 (fromAt c y k + 7 * (j : Int)), .int .i64 (endAt c y k)] 26)).own hgrow hne2)
              have hB' := hide ((hB.alloc (by omega) (.cells #[.int .i64 (fromAt c y k + 7 * (j : Int)), .int .i64 (endAt c y k)] 26)).grown hgrow (by simp; omega) (fun k hk => by have := (hown.lt k hk).1; omega))
              have hGs' : G + 2 ≤ w'.heap.size := by have := hgrow.size; simp at this; omega
              have kF1' : w'.cell? ⟨G + 1, 1, none⟩ = some v := hF'.cell 1
              have kFf := hF'.frozen 1
              have hF'' := hide hF'
              have hown'' := hide hown'
              obtain ⟨g1, cap1, rfl, _, _, _⟩ := owns_slice hown' (by omega)
              clear hF hown hJ hB hgrow hown' hF' kF1 hne hne2 hnwk
              go_wp2
              refine ⟨⟨j + 1, by rw [show fromAt c y k + 7 * ((j + 1 : Nat) : Int) = fromAt c y k + 7 * (j : Int) + 7 by omega], by omega, ⟨_, hF''.out.set3 _, ?_⟩, hJ'.out.far (by simp) _, hB'.out.setCell (by simp) _, by simpa using hGs'⟩, by simp [intOf]; omega⟩
              have h1 := ownsRow_setCell_below hown''.out (a := ⟨G + 1, 1, none⟩) (by simp) (.slice (some ⟨g1, 0, none⟩) (cumW c y k + j + 1) cap1)
              rw [upto_succ, ← List.append_assoc, flat_append]
              have e2 : flat [spAt c y k j] = [.int .i64 (fromAt c y k + 7 * (j : Int)), .int .i64 (spAt c y k j).2] := rfl
              rw [e2, HV.out]
              exact h1
          · have HV := hide (show (spAt c y k j).2 = fromAt c y k + 7 * (j : Int) + 6 by simp [spAt]; omega)
            go_wp2_with ((at_builtin; refine wpList_append_own _ rfl _ _ 64 rfl (G + 2) 26 i0 (.agg #[.int .i64 0, .int .i64 0]) 2 16 Tryz.underlying64 hi hz0 hz1 hz2 rfl (by decide) _ _ _ rfl (hown.alloc _) ⟨wr.heap.size, 0, none⟩ 1 1 [.int .i64 (fromAt c y k + 7 * (j : Int)), .int .i64 (fromAt c y k + 7 * (j : Int) + 6)] rfl rfl ?c1 ?c2 ?c3 ?c4 ?c5 ?_))
            case c1 =>
              intro i u hu
              match i, hu with
              | 0, hu => simp at hu; subst hu; simp [Addr.add]
              | 1, hu => simp at hu; subst hu; simp [Addr.add]
              | i + 2, hu => simp at hu
            case c2 => intro u hu; simp at hu; rcases hu with rfl | rfl <;> rfl
            case c3 => unfold maxLen; omega
            case c4 => omega
            case c5 => have := hGs; simp; omega
            · intro v' w' hown' hgrow _
              have hne := own_ne hown (B := G + 1) (by omega)
              have hne2 := own_ne hown (B := G) (by omega)
              have hF' := (hF.alloc (.cells #[.int .i64 (fromAt c y k + 7 * (j : Int)), .int .i64 (fromAt c y k + 7 * (j : Int) + 6)] 26)).own hgrow hne
              have hJ' := hide ((hJ.alloc (.cells #[.int .i64 (fromAt c y k + 7 * (j : Int)), .int .i64 (fromAt c y k + 7 * (j : Int) + 6)] 26)).own hgrow hne2)
              have hB' := hide ((hB.alloc (by omega) (.cells #[.int .i64 (fromAt c y k + 7 * (j : Int)), .int .i64 (fromAt c y k + 7 * (j : Int) + 6)] 26)).grown hgrow (by simp; omega) (fun k hk => by have := (hown.lt k hk).1; omega))
              have hGs' : G + 2 ≤ w'.heap.size := by have := hgrow.size; simp at this; omega
              have kF1' : w'.cell? ⟨G + 1, 1, none⟩ = some v := hF'.cell 1
              have kFf := hF'.frozen 1
              have hF'' := hide hF'
              have hown'' := hide hown'
              obtain ⟨g1, cap1, rfl, _, _, _⟩ := owns_slice hown' (by omega)
              clear hF hown hJ hB hgrow hown' hF' kF1 hne hne2 hnwk
              go_wp2
              refine ⟨⟨j + 1, by rw [show fromAt c y k + 7 * ((j + 1 : Nat) : Int) = fromAt c y k + 7 * (j : Int) + 7 by omega], by omega, ⟨_, hF''.out.set3 _, ?_⟩, hJ'.out.far (by simp) _, hB'.out.setCell (by simp) _, by simpa using hGs'⟩, by simp [intOf]; omega⟩
              have h1 := ownsRow_setCell_below hown''.out (a := ⟨G + 1, 1, none⟩) (by simp) (.slice (some ⟨g1, 0, none⟩) (cumW c y k + j + 1) cap1)
              rw [upto_succ, ← List.append_assoc, flat_append]
              have e2 : flat [spAt c y k j] = [.int .i64 (fromAt c y k + 7 * (j : Int)), .int .i64 (spAt c y k j).2] := rfl
              rw [e2, HV.out]
              exact h1
        · have hgt : endAt c y k < fromAt c y k + 7 * (j : Int) := by omega
          obtain rfl : j = nwk c y k := by omega
          obtain ⟨g1, cap, rfl, hcap1, hcap2, hg1, hsp⟩ := owns_spans hown (by omega)
          have kF2 : wr.cell? ⟨G + 1, 2, none⟩ = some (.slice (some ⟨G, 0, none⟩) n n) := by rw [HN2.out]; exact hF.cell 2
          have kJ := hJ.cell (k := k) (by rw [upTo_len]; exact hlt)
          have kJf := hJ.frozen k
          have hF' := hide hF
          have hJ' := hide hJ
          have hown' := hide hown
          clear hF hJ hown hsp hnwk
          go_wp2
          refine ⟨⟨k + 1, by go_num, by rw [from_succ], by omega, ⟨_, hF'.out.far (by simp) _, ?_⟩, ?_, hB.setCell (by simp) _, by simpa using hGs⟩, by simp [intOf]; omega⟩
          · have h1 := ownsRow_setCell_below hown'.out (a := ⟨G, k, none⟩) (by simp) (.int .i64 ((cumW c y k + nwk c y k : Nat) : Int))
            simpa [cumW, spUp, upto] using h1
          · rw [← upTo_set]
            exact hJ'.out.set k _
    · obtain rfl : k = n := by omega
      obtain ⟨v, hF, hown⟩ := hS
      have hpos := HNW.out
      rw [nWk, ← HN2.out] at hpos
      obtain ⟨g1, cap, rfl, hcap1, hcap2, hg1, hsp⟩ := owns_spans hown (by omega)
      have k0 : wr.cell? ⟨G + 1, 0, none⟩ = some (.int .i64 y) := hF.cell 0
      have k1 : wr.cell? ⟨G + 1, 1, none⟩ = some (.slice (some ⟨g1, 0, none⟩) (cumW c y k + 0) cap) := hF.cell 1
      have k2 : wr.cell? ⟨G + 1, 2, none⟩ = some (.slice (some ⟨G, 0, none⟩) k k) := by rw [HN2.out]; exact hF.cell 2
      have hR := HR3.out.below hB (by simpa using hz3')
      have r0 : wr.cell? ⟨w.heap.size + 1, 0, none⟩ = some (.int .i64 0) := by have := hR.cell 0; simpa using this
      have r1 : wr.cell? ⟨w.heap.size + 1, 1, none⟩ = some (.slice none 0 0) := by have := hR.cell 1; simpa using this
      have r2 : wr.cell? ⟨w.heap.size + 1, 2, none⟩ = some (.slice none 0 0) := by have := hR.cell 2; simpa using this
      have f0 : wr.frozen? ⟨w.heap.size + 1, 0, none⟩ = false := by have := hR.frozen 0; simpa using this
      have f1 : wr.frozen? ⟨w.heap.size + 1, 1, none⟩ = false := by have := hR.frozen 1; simpa using this
      have f2 : wr.frozen? ⟨w.heap.size + 1, 2, none⟩ = false := by have := hR.frozen 2; simpa using this
      have hsp' := hide hsp
      have hown' := hide hown
      have hJ' := hide hJ
      clear hF hown hsp hR hJ
      have hsz : w.heap.size + 1 < wr.heap.size := by omega
      go_wp2
      have hN : cumW c y k + 0 = nWk c y := by rw [nWk, ← HN2.out]; rfl
      have hN' : cumW c y k = nWk c y := hN
      have hD := hsp'.out
      have hfull : spUp c y k ++ upto (spAt c y k) 0 = spL c y := by simp [spL, upto, ← HN2.out]
      rw [hfull] at hD
      have hJ2 := hJ'.out
      rw [upTo_full] at hJ2
      have hper : (List.range k).map (fun i => (cumW c y (i + 1) : Int)) = perL c y := by rw [perL, upto, ← HN2.out]
      rw [hper] at hJ2
      have hFin : FrameAt wr g1 G c y := ⟨hD, hJ2⟩
      have hFin2 : FrameAt (((wr.setCell ⟨w.heap.size + 1, 0, none⟩ (.int .i64 y)).setCell ⟨w.heap.size + 1, 1, none⟩ (.slice (some ⟨g1, 0, none⟩) (cumW c y k + 0) cap)).setCell ⟨w.heap.size + 1, 2, none⟩ (.slice (some ⟨G, 0, none⟩) k k)) g1 G c y :=
        ((hFin.far (by simp; omega) (by simp; omega) _).far (by simp; omega) (by simp; omega) _).far (by simp; omega) (by simp; omega) _
      refine bodyPost_ret (v := .tuple #[yearV y (nWk c y) cap g1 k G, .int .i64 0]) (by simp [results, Tryz.results28, go_sem, r0, r1, r2, f0, f1, f2, hsz, hN']) rfl ⟨g1, cap, G, by omega, by omega, by rw [HN2.out], by omega, hcap2, by simpa using hFin2, ?_⟩
      have hb2 : Below w.heap.size w wr := HB3.out.trans (hB.mono (by omega))
      exact ((hb2.setCell (by simp) _).setCell (by simp) _).setCell (by simp) _

theorem make_4 (w : World) : (Instr.makeSlice 65 (.int .i64 4) (.int .i64 4)).run Tryz.prog w = .ok (.slice (some ⟨w.heap.size, 0, none⟩) 4 4) (w.alloc (zeroObj 4)) := make_ints 4 (by omega) w
def LastsPost (c : Cal) (y lv : Int) (w : World) (e : Ending) (w' : World) : Prop :=
  ∃ g, e = .returned (.slice (some ⟨g, 0, none⟩) (cntL c y lv) (cntL c y lv)) ∧ IntsAt w' g (lastsL c y lv) ∧ Below w.heap.size w w'

set_option maxHeartbeats 800000 in
theorem fyear_any (c : Cal) (y : Int) (w : World) (cap g1 g2 : Nat) (hE : askE c y 1601 = 0) :
    Calls Tryz.prog 77 #[yearV y (nWk c y) cap g1 (nPer c y) g2] w (LastsPost c y 1 w) := by
  have H := hide (show lastsL c y 1 = [(nWk c y : Int)] by simp [lastsL, upto, cntL, cutN, pcut, nWk])
  have H1 := hide (show cntL c y 1 = 1 by simp [cntL])
  clear hE
  simp only [yearV]
  go_enter Tryz.func77, Tryz.ntmps77
  go_wp2
  go_ret
  refine ⟨w.heap.size + 1, by rw [H1.out]; rfl, ?_, by (repeat' exact bel)⟩
  rw [H.out]
  have h := BlkIs.new (w.alloc (.cells #[.int .i64 y, .slice (some ⟨g1, 0, none⟩) (nWk c y) cap, .slice (some ⟨g2, 0, none⟩) (nPer c y) (nPer c y)] 67)) #[.int .i64 (nWk c y : Int)] 3
  simp at h
  exact h

set_option maxHeartbeats 800000 in
theorem fmonths_any (c : Cal) (y : Int) (w : World) (cap g1 g2 : Nat) (hI : IntsAt w g2 (perL c y)) :
    Calls Tryz.prog 80 #[yearV y (nWk c y) cap g1 (nPer c y) g2] w (LastsPost c y 4 w) := by
  have H := hide (show lastsL c y 4 = perL c y by simp [lastsL, upto, cntL, cutN, pcut, perL])
  have H1 := hide (show cntL c y 4 = nPer c y by simp [cntL])
  have HI := hide hI
  clear hI
  simp only [yearV]
  go_enter Tryz.func80, Tryz.ntmps80
  go_wp2
  go_ret
  exact ⟨g2, by rw [H1.out]; rfl, by rw [H.out]; exact HI.out.alloc _, by (repeat' exact bel)⟩

set_option maxRecDepth 100000 in
set_option maxHeartbeats 1600000 in
theorem fweekly_any (c : Cal) (y : Int) (w : World) (cap g1 g2 : Nat) (hE : askE c y 1601 = 0) :
    Calls Tryz.prog 81 #[yearV y (nWk c y) cap g1 (nPer c y) g2] w (LastsPost c y 5 w) := by
  have hb := nWk_bd c y hE
  have H := hide (show lastsL c y 5 = (List.range (nWk c y)).map (fun i : Nat => ((i : Int) + 1)) by simp [lastsL, upto, cntL, cutN])
  have H1 := hide (show cntL c y 5 = nWk c y by simp [cntL])
  clear hE
  generalize nWk c y = n at *
  have hmk := fun W => make_ints n (by omega) W
  simp only [yearV]
  go_enter Tryz.func81, Tryz.ntmps81
  go_wp2_with fail
  go_loopw [11] (fun s wr => ∃ k : Nat, s = .int .i64 k ∧ k ≤ n ∧ IntsAt wr (w.heap.size + 1) (upTo n k fun i => (i : Int) + 1) ∧ Below w.heap.size w wr) (fun s _ => (100 - intOf s).toNat)
  case atStart => exact ⟨0, rfl, by omega, by rw [upTo_zero]; simpa using IntsAt.new (w.alloc _) n, by (repeat' exact bel)⟩
  case round =>
    obtain ⟨k, rfl, hk, hJ, hB⟩ := hrel
    by_cases hlt : k < n
    · have hJf := hJ.frozen k
      have hJc := hJ.cell (k := k) (by rw [upTo_len]; exact hlt)
      have HJ := hide hJ
      clear hJ
      go_wp2
      refine ⟨⟨k + 1, by go_num, by omega, ?_, hB.setCell (by simp) _⟩, by simp [intOf]; omega⟩
      rw [← upTo_set]
      exact HJ.out.set k _
    · obtain rfl : k = n := by omega
      go_wp2
      go_ret
      rw [upTo_full] at hJ
      exact ⟨w.heap.size + 1, by rw [H1.out]; rfl, by rw [H.out]; exact hJ, hB⟩

set_option maxRecDepth 100000 in
set_option maxHeartbeats 1600000 in
theorem fquarters_any (c : Cal) (y : Int) (w : World) (cap g1 g2 : Nat) (hE : askE c y 1601 = 0) (hI : IntsAt w g2 (perL c y)) :
    Calls Tryz.prog 79 #[yearV y (nWk c y) cap g1 (nPer c y) g2] w (LastsPost c y 3 w) := by
  have hb := nPer_bd c y hE
  have H := hide (show lastsL c y 3 = (List.range 4).map (fun i => (cutN c y 3 (i + 1) : Int)) by simp [lastsL, upto, cntL])
  have H1 := hide (show cntL c y 3 = 4 by simp [cntL])
  have HI := hide hI
  have HC := hide (show ∀ i, cutN c y 3 i = cumW c y (nPer c y * i / 4) from fun i => by simp [cutN, pcut])
  have HP := hide (show ∀ i, i < nPer c y → (perL c y)[i]?.getD 0 = (cumW c y (i + 1) : Int) from fun i hi => by simp [perL, upto, hi])
  have HL := hide (show (perL c y).length = nPer c y by simp [perL, upto])
  clear hE hI
  generalize nPer c y = n at *
  have hmk := make_4
  simp only [yearV]
  go_enter Tryz.func79, Tryz.ntmps79
  go_wp2_with fail
  go_loopw [8] (fun s wr => ∃ k : Nat, s = .int .i64 k ∧ k ≤ 4 ∧ IntsAt wr (w.heap.size + 1) (upTo 4 k fun i => (cutN c y 3 (i + 1) : Int)) ∧ Below (w.heap.size + 1) (w.alloc (.cells #[.int .i64 y, .slice (some ⟨g1, 0, none⟩) (nWk c y) cap, .slice (some ⟨g2, 0, none⟩) n n] 67)) wr) (fun s _ => (5 - intOf s).toNat)
  case atStart => exact ⟨0, rfl, by omega, by rw [upTo_zero]; simpa using IntsAt.new (w.alloc _) 4, (Below.refl _ _).alloc (by simp) _⟩
  case round =>
    obtain ⟨k, rfl, hk, hJ, hB⟩ := hrel
    by_cases hlt : k < 4
    · have q2 : wr.cell? ⟨w.heap.size, 2, none⟩ = some (.slice (some ⟨g2, 0, none⟩) n n) := by
        rw [hB.cell (p := ⟨w.heap.size, 2, none⟩) (by simp)]; simp
      have hBs := hB.size
      simp at hBs
      have hJf := hJ.frozen k
      have hJc := hJ.cell (k := k) (by rw [upTo_len]; exact hlt)
      have HJ := hide hJ
      have hcell : ∀ i, i < n → wr.cell? ⟨g2, i, none⟩ = some (.int .i64 (cumW c y (i + 1))) := by
        intro i hi
        have h1 := (((HI.out).alloc (.cells #[.int .i64 y, .slice (some ⟨g1, 0, none⟩) (nWk c y) cap, .slice (some ⟨g2, 0, none⟩) n n] 67)).below hB (by have := HI.out.lt; omega)).cell (k := i) (by rw [HL.out]; exact hi)
        rw [h1, HP.out i hi]
      have HCE := hide hcell
      clear hJ hcell
      have h4 : k = 0 ∨ k = 1 ∨ k = 2 ∨ k = 3 := by omega
      rcases h4 with rfl | rfl | rfl | rfl
      · have c1 : wr.cell? ⟨g2, n / 4 - 1, none⟩ = some (.int .i64 (cutN c y 3 (0 + 1) : Int)) := by
          rw [HCE.out _ (by omega), HC.out]
          congr 4
          omega
        rw [show ((0 : Nat) : Int) = 0 from rfl]
        go_wp2
        refine ⟨⟨1, by first | rfl | go_num | simp, by omega, ?_, hB.setCell (by simp) _⟩, by simp [intOf]⟩
        rw [← upTo_set]
        exact HJ.out.set 0 _
      · have c1 : wr.cell? ⟨g2, n * 2 / 4 - 1, none⟩ = some (.int .i64 (cutN c y 3 (1 + 1) : Int)) := by
          rw [HCE.out _ (by omega), HC.out]
          congr 4
          omega
        rw [show ((1 : Nat) : Int) = 1 from rfl]
        go_wp2
        refine ⟨⟨2, by first | rfl | go_num | simp, by omega, ?_, hB.setCell (by simp) _⟩, by simp [intOf]⟩
        rw [← upTo_set]
        exact HJ.out.set 1 _
      · have c1 : wr.cell? ⟨g2, n * 3 / 4 - 1, none⟩ = some (.int .i64 (cutN c y 3 (2 + 1) : Int)) := by
          rw [HCE.out _ (by omega), HC.out]
          congr 4
          omega
        rw [show ((2 : Nat) : Int) = 2 from rfl]
        go_wp2
        refine ⟨⟨3, by first | rfl | go_num | simp, by omega, ?_, hB.setCell (by simp) _⟩, by simp [intOf]⟩
        rw [← upTo_set]
        exact HJ.out.set 2 _
      · have c1 : wr.cell? ⟨g2, n - 1, none⟩ = some (.int .i64 (cutN c y 3 (3 + 1) : Int)) := by
          rw [HCE.out _ (by omega), HC.out]
          congr 4
          omega
        rw [show ((3 : Nat) : Int) = 3 from rfl]
        go_wp2
        refine ⟨⟨4, by first | rfl | go_num | simp, by omega, ?_, hB.setCell (by simp) _⟩, by simp [intOf]⟩
        rw [← upTo_set]
        exact HJ.out.set 3 _
    · obtain rfl : k = 4 := by omega
      go_wp2
      go_ret
      rw [upTo_full] at hJ
      exact ⟨w.heap.size + 1, by rw [H1.out]; rfl, by rw [H.out]; exact hJ, Below.trans ((Below.refl _ _).alloc (Nat.le_refl _) _) (hB.mono (by omega))⟩

set_option maxHeartbeats 800000 in
theorem fhalves_any (c : Cal) (y : Int) (w : World) (cap g1 g2 : Nat) (hE : askE c y 1601 = 0) (hI : IntsAt w g2 (perL c y)) :
    Calls Tryz.prog 78 #[yearV y (nWk c y) cap g1 (nPer c y) g2] w (LastsPost c y 2 w) := by
  have H := hide (show lastsL c y 2 = [(cutN c y 2 1 : Int), (cutN c y 2 2 : Int)] by simp [lastsL, upto, cntL, List.range_succ])
  have H1 := hide (show cntL c y 2 = 2 by simp [cntL])
  have H3 := hide (show cntL c y 3 = 4 by simp [cntL])
  have HA := hide (show (lastsL c y 3)[1]?.getD 0 = (cutN c y 2 1 : Int) by rw [lasts_get c y 3 1 (by simp [cntL])]; simp [cutN, pcut])
  have HB := hide (show (lastsL c y 3)[3]?.getD 0 = (cutN c y 2 2 : Int) by rw [lasts_get c y 3 3 (by simp [cntL])]; simp [cutN, pcut])
  have HL := hide (lasts_len c y 3)
  have HE := hide hE
  have HI := hide hI
  clear hE hI
  simp only [yearV]
  go_enter Tryz.func78, Tryz.ntmps78
  go_wp2_with fail
  refine (fquarters_any c y _ cap g1 g2 HE.out (HI.out.alloc _)).mono ?_
  rintro e w1 ⟨g, rfl, hJ, hb1⟩
  rw [H3.out]
  have c1 : w1.cell? ⟨g, 1, none⟩ = some (.int .i64 (cutN c y 2 1 : Int)) := by rw [hJ.cell (by rw [HL.out, H3.out]; omega), HA.out]
  have c3 : w1.cell? ⟨g, 3, none⟩ = some (.int .i64 (cutN c y 2 2 : Int)) := by rw [hJ.cell (by rw [HL.out, H3.out]; omega), HB.out]
  have hz := hb1.size
  simp at hz
  have HJ := hide hJ
  clear hJ
  go_wp2
  go_region
  all_goals go_wp2
  go_ret
  refine ⟨w1.heap.size, by rw [H1.out]; rfl, ?_, ((Below.trans ((Below.refl _ _).alloc (Nat.le_refl _) _) (hb1.mono (by simp))).alloc (by omega) _).drew⟩
  rw [H.out]
  exact heap_alloc_new w1 _

set_option maxRecDepth 100000 in
set_option maxHeartbeats 1600000 in
theorem lasts_1 (c : Cal) (y : Int) (w : World) (cap g1 g2 : Nat) (hE : askE c y 1601 = 0) (hI : IntsAt w g2 (perL c y)) :
    Calls Tryz.prog 51 #[yearV y (nWk c y) cap g1 (nPer c y) g2, .int .i64 1] w (LastsPost c y 1 w) := by
  have HI := hide hI
  clear hI
  simp only [yearV]
  go_enter Tryz.func51, Tryz.ntmps51
  go_wp2
  generalize hW : ((w.alloc (.cells #[.int .i64 y, .slice (some ⟨g1, 0, none⟩) (nWk c y) cap, .slice (some ⟨g2, 0, none⟩) (nPer c y) (nPer c y)] 67)).alloc (.cells _ _)) = W
  have k0 : W.cell? ⟨w.heap.size + 1, 0, none⟩ = some (.func (.func 77) #[] #[]) := by rw [← hW]; simp
  have b0 : W.cell? ⟨w.heap.size, 0, none⟩ = some (.int .i64 y) := by rw [← hW]; simp
  have b1 : W.cell? ⟨w.heap.size, 1, none⟩ = some (.slice (some ⟨g1, 0, none⟩) (nWk c y) cap) := by rw [← hW]; simp
  have b2 : W.cell? ⟨w.heap.size, 2, none⟩ = some (.slice (some ⟨g2, 0, none⟩) (nPer c y) (nPer c y)) := by rw [← hW]; simp
  have HW := hide (show Below w.heap.size w W by rw [← hW]; (repeat' exact bel))
  have HIW := hide (show IntsAt W g2 (perL c y) by rw [← hW]; exact (HI.out.alloc _).alloc _)
  clear hW
  go_region_with (go_at_call 77; refine (fyear_any c y _ cap g1 g2 hE).mono ?_; rintro e w1 ⟨g, rfl, hJ, hb1⟩)
  all_goals
    go_simp
    go_wp2
    go_ret
    exact ⟨g, rfl, hJ, Below.trans (by first | exact HW.out | exact HW.out.drew | exact below_drewN HW.out _) (hb1.mono (by have := HW.out.size; simpa using this))⟩

set_option maxRecDepth 100000 in
set_option maxHeartbeats 1600000 in
theorem lasts_2 (c : Cal) (y : Int) (w : World) (cap g1 g2 : Nat) (hE : askE c y 1601 = 0) (hI : IntsAt w g2 (perL c y)) :
    Calls Tryz.prog 51 #[yearV y (nWk c y) cap g1 (nPer c y) g2, .int .i64 2] w (LastsPost c y 2 w) := by
  have HI := hide hI
  clear hI
  simp only [yearV]
  go_enter Tryz.func51, Tryz.ntmps51
  go_wp2
  generalize hW : ((w.alloc (.cells #[.int .i64 y, .slice (some ⟨g1, 0, none⟩) (nWk c y) cap, .slice (some ⟨g2, 0, none⟩) (nPer c y) (nPer c y)] 67)).alloc (.cells _ _)) = W
  have k0 : W.cell? ⟨w.heap.size + 1, 1, none⟩ = some (.func (.func 78) #[] #[]) := by rw [← hW]; simp
  have b0 : W.cell? ⟨w.heap.size, 0, none⟩ = some (.int .i64 y) := by rw [← hW]; simp
  have b1 : W.cell? ⟨w.heap.size, 1, none⟩ = some (.slice (some ⟨g1, 0, none⟩) (nWk c y) cap) := by rw [← hW]; simp
  have b2 : W.cell? ⟨w.heap.size, 2, none⟩ = some (.slice (some ⟨g2, 0, none⟩) (nPer c y) (nPer c y)) := by rw [← hW]; simp
  have HW := hide (show Below w.heap.size w W by rw [← hW]; (repeat' exact bel))
  have HIW := hide (show IntsAt W g2 (perL c y) by rw [← hW]; exact (HI.out.alloc _).alloc _)
  clear hW
  go_region_with (go_at_call 78; refine (fhalves_any c y _ cap g1 g2 hE (by exact HIW.out)).mono ?_; rintro e w1 ⟨g, rfl, hJ, hb1⟩)
  all_goals
    go_simp
    go_wp2
    go_ret
    exact ⟨g, rfl, hJ, Below.trans (by first | exact HW.out | exact HW.out.drew | exact below_drewN HW.out _) (hb1.mono (by have := HW.out.size; simpa using this))⟩

set_option maxRecDepth 100000 in
set_option maxHeartbeats 1600000 in
theorem lasts_3 (c : Cal) (y : Int) (w : World) (cap g1 g2 : Nat) (hE : askE c y 1601 = 0) (hI : IntsAt w g2 (perL c y)) :
    Calls Tryz.prog 51 #[yearV y (nWk c y) cap g1 (nPer c y) g2, .int .i64 3] w (LastsPost c y 3 w) := by
  have HI := hide hI
  clear hI
  simp only [yearV]
  go_enter Tryz.func51, Tryz.ntmps51
  go_wp2
  generalize hW : ((w.alloc (.cells #[.int .i64 y, .slice (some ⟨g1, 0, none⟩) (nWk c y) cap, .slice (some ⟨g2, 0, none⟩) (nPer c y) (nPer c y)] 67)).alloc (.cells _ _)) = W
  have k0 : W.cell? ⟨w.heap.size + 1, 2, none⟩ = some (.func (.func 79) #[] #[]) := by rw [← hW]; simp
  have b0 : W.cell? ⟨w.heap.size, 0, none⟩ = some (.int .i64 y) := by rw [← hW]; simp
  have b1 : W.cell? ⟨w.heap.size, 1, none⟩ = some (.slice (some ⟨g1, 0, none⟩) (nWk c y) cap) := by rw [← hW]; simp
  have b2 : W.cell? ⟨w.heap.size, 2, none⟩ = some (.slice (some ⟨g2, 0, none⟩) (nPer c y) (nPer c y)) := by rw [← hW]; simp
  have HW := hide (show Below w.heap.size w W by rw [← hW]; (repeat' exact bel))
  have HIW := hide (show IntsAt W g2 (perL c y) by rw [← hW]; exact (HI.out.alloc _).alloc _)
  clear hW
  go_region_with (go_at_call 79; refine (fquarters_any c y _ cap g1 g2 hE (by exact HIW.out)).mono ?_; rintro e w1 ⟨g, rfl, hJ, hb1⟩)
  all_goals
    go_simp
    go_wp2
    go_ret
    exact ⟨g, rfl, hJ, Below.trans (by first | exact HW.out | exact HW.out.drew | exact below_drewN HW.out _) (hb1.mono (by have := HW.out.size; simpa using this))⟩

set_option maxRecDepth 100000 in
set_option maxHeartbeats 1600000 in
theorem lasts_4 (c : Cal) (y : Int) (w : World) (cap g1 g2 : Nat) (hE : askE c y 1601 = 0) (hI : IntsAt w g2 (perL c y)) :
    Calls Tryz.prog 51 #[yearV y (nWk c y) cap g1 (nPer c y) g2, .int .i64 4] w (LastsPost c y 4 w) := by
  have HI := hide hI
  clear hI
  simp only [yearV]
  go_enter Tryz.func51, Tryz.ntmps51
  go_wp2
  generalize hW : ((w.alloc (.cells #[.int .i64 y, .slice (some ⟨g1, 0, none⟩) (nWk c y) cap, .slice (some ⟨g2, 0, none⟩) (nPer c y) (nPer c y)] 67)).alloc (.cells _ _)) = W
  have k0 : W.cell? ⟨w.heap.size + 1, 3, none⟩ = some (.func (.func 80) #[] #[]) := by rw [← hW]; simp
  have b0 : W.cell? ⟨w.heap.size, 0, none⟩ = some (.int .i64 y) := by rw [← hW]; simp
  have b1 : W.cell? ⟨w.heap.size, 1, none⟩ = some (.slice (some ⟨g1, 0, none⟩) (nWk c y) cap) := by rw [← hW]; simp
  have b2 : W.cell? ⟨w.heap.size, 2, none⟩ = some (.slice (some ⟨g2, 0, none⟩) (nPer c y) (nPer c y)) := by rw [← hW]; simp
  have HW := hide (show Below w.heap.size w W by rw [← hW]; (repeat' exact bel))
  have HIW := hide (show IntsAt W g2 (perL c y) by rw [← hW]; exact (HI.out.alloc _).alloc _)
  clear hW
  go_region_with (go_at_call 80; refine (fmonths_any c y _ cap g1 g2 (by exact HIW.out)).mono ?_; rintro e w1 ⟨g, rfl, hJ, hb1⟩)
  all_goals
    go_simp
    go_wp2
    go_ret
    exact ⟨g, rfl, hJ, Below.trans (by first | exact HW.out | exact HW.out.drew | exact below_drewN HW.out _) (hb1.mono (by have := HW.out.size; simpa using this))⟩

set_option maxRecDepth 100000 in
set_option maxHeartbeats 1600000 in
theorem lasts_5 (c : Cal) (y : Int) (w : World) (cap g1 g2 : Nat) (hE : askE c y 1601 = 0) (hI : IntsAt w g2 (perL c y)) :
    Calls Tryz.prog 51 #[yearV y (nWk c y) cap g1 (nPer c y) g2, .int .i64 5] w (LastsPost c y 5 w) := by
  have HI := hide hI
  clear hI
  simp only [yearV]
  go_enter Tryz.func51, Tryz.ntmps51
  go_wp2
  generalize hW : ((w.alloc (.cells #[.int .i64 y, .slice (some ⟨g1, 0, none⟩) (nWk c y) cap, .slice (some ⟨g2, 0, none⟩) (nPer c y) (nPer c y)] 67)).alloc (.cells _ _)) = W
  have k0 : W.cell? ⟨w.heap.size + 1, 4, none⟩ = some (.func (.func 81) #[] #[]) := by rw [← hW]; simp
  have b0 : W.cell? ⟨w.heap.size, 0, none⟩ = some (.int .i64 y) := by rw [← hW]; simp
  have b1 : W.cell? ⟨w.heap.size, 1, none⟩ = some (.slice (some ⟨g1, 0, none⟩) (nWk c y) cap) := by rw [← hW]; simp
  have b2 : W.cell? ⟨w.heap.size, 2, none⟩ = some (.slice (some ⟨g2, 0, none⟩) (nPer c y) (nPer c y)) := by rw [← hW]; simp
  have HW := hide (show Below w.heap.size w W by rw [← hW]; (repeat' exact bel))
  have HIW := hide (show IntsAt W g2 (perL c y) by rw [← hW]; exact (HI.out.alloc _).alloc _)
  clear hW
  go_region_with (go_at_call 81; refine (fweekly_any c y _ cap g1 g2 hE).mono ?_; rintro e w1 ⟨g, rfl, hJ, hb1⟩)
  all_goals
    go_simp
    go_wp2
    go_ret
    exact ⟨g, rfl, hJ, Below.trans (by first | exact HW.out | exact HW.out.drew | exact below_drewN HW.out _) (hb1.mono (by have := HW.out.size; simpa using this))⟩

theorem lasts_any (c : Cal) (y lv : Int) (w : World) (cap g1 g2 : Nat) (h1 : 1 ≤ lv) (h5 : lv ≤ 5) (hE : askE c y 1601 = 0) (hI : IntsAt w g2 (perL c y)) :
    Calls Tryz.prog 51 #[yearV y (nWk c y) cap g1 (nPer c y) g2, .int .i64 lv] w (LastsPost c y lv w) := by
  have h : lv = 1 ∨ lv = 2 ∨ lv = 3 ∨ lv = 4 ∨ lv = 5 := by omega
  rcases h with rfl | rfl | rfl | rfl | rfl
  · exact lasts_1 c y w cap g1 g2 hE hI
  · exact lasts_2 c y w cap g1 g2 hE hI
  · exact lasts_3 c y w cap g1 g2 hE hI
  · exact lasts_4 c y w cap g1 g2 hE hI
  · exact lasts_5 c y w cap g1 g2 hE hI

set_option maxHeartbeats 800000 in
theorem fcount_any (c : Cal) (y lv : Int) (w : World) (cap g1 g2 : Nat) (h1 : 1 ≤ lv) (h5 : lv ≤ 5) (hE : askE c y 1601 = 0) (hI : IntsAt w g2 (perL c y)) :
    Calls Tryz.prog 96 #[yearV y (nWk c y) cap g1 (nPer c y) g2, .int .i64 lv] w fun e w' => e = .returned (.int .i64 (cntL c y lv : Int)) ∧ Below w.heap.size w w' := by
  have HI := hide hI
  clear hI
  have HE := hide hE
  clear hE
  simp only [yearV]
  go_enter Tryz.func96, Tryz.ntmps96
  go_wp2_with fail
  refine (lasts_any c y lv _ cap g1 g2 h1 h5 HE.out (HI.out.alloc _)).mono ?_
  rintro e w1 ⟨g, rfl, hJ, hb1⟩
  go_wp2
  go_ret
  exact ⟨rfl, ((Below.refl _ _).alloc (Nat.le_refl _) _).trans (hb1.mono (by simp))⟩

theorem nan_int (a : Int) (w : World) : Calls Tryz.prog 112 #[.int .i64 a] w fun e w' => e = .returned (.bool false) ∧ w = w' := by
  go_enter Tryz.func112, Tryz.ntmps112
  go_wp2
  go_ret
  exact ⟨ret_bool (by simp), rfl⟩
theorem nan_int2 (a : Int) (w : World) : Calls Tryz.prog 121 #[.int .i64 a] w fun e w' => e = .returned (.bool false) ∧ w = w' := by
  go_enter Tryz.func121, Tryz.ntmps121
  go_wp2
  go_ret
  exact ⟨ret_bool (by simp), rfl⟩
theorem less_int (a b : Int) (w : World) : Calls Tryz.prog 111 #[.int .i64 a, .int .i64 b] w fun e w' => e = .returned (.bool (decide (a < b))) ∧ w = w' := by
  go_enter Tryz.func111, Tryz.ntmps111
  go_wp2_with (go_at_call 121; refine (nan_int2 _ _).mono ?_; rintro e w' ⟨rfl, rfl⟩)
  all_goals (go_ret; exact ⟨ret_bool (by simp), rfl⟩)

def BsPost (l : List Int) (x : Int) (w : World) (e : Ending) (w' : World) : Prop := ∃ b, e = .returned (.tuple #[.int .i64 (bsL l x : Int), .bool b]) ∧ w = w'
set_option maxRecDepth 100000 in
set_option maxHeartbeats 1600000 in
theorem bsearch_any (g : Nat) (l : List Int) (x : Int) (w : World) (hl : l.length ≤ 100000) (hI : IntsAt w g l) (hs : ∀ i j, i ≤ j → j < l.length → l[i]?.getD 0 ≤ l[j]?.getD 0) :
    Calls Tryz.prog 93 #[.slice (some ⟨g, 0, none⟩) l.length l.length, .int .i64 x] w (BsPost l x w) := by
  have HS := hide hs
  have HI := hide hI
  obtain ⟨n, hn⟩ : ∃ n, n = l.length := ⟨_, rfl⟩
  have hn2 : n ≤ 100000 := by omega
  have HN := hide hn
  rw [← hn]
  clear hs hI hn hl
  go_enter Tryz.func93, Tryz.ntmps93
  go_wp2_with fail
  go_loop [7, 8] (fun s7 s8 => ∃ a b : Nat, s7 = .int .i64 a ∧ s8 = .int .i64 b ∧ a ≤ b ∧ b ≤ n ∧ Hid (∀ t, t < a → l[t]?.getD 0 < x) ∧ Hid (∀ t, b ≤ t → t < n → x ≤ l[t]?.getD 0)) (fun s7 s8 => (intOf s8 - intOf s7).toNat)
  case atStart => exact ⟨0, n, rfl, rfl, by omega, by omega, hide (fun t ht => by omega), hide (fun t h1 h2 => by omega)⟩
  case round =>
    obtain ⟨a, b, rfl, rfl, hab, hbn, HA, HB⟩ := hrel
    by_cases hlt : a < b
    · have c1 : w.cell? ⟨g, (a + b) / 2, none⟩ = some (.int .i64 (l[(a + b) / 2]?.getD 0)) := HI.out.cell (by rw [← HN.out]; omega)
      by_cases hx : l[(a + b) / 2]?.getD 0 < x
      · have hxb : decide (l[(a + b) / 2]?.getD 0 < x) = true := by simpa using hx
        have HX := hide hx
        clear hx
        go_wp2_with (go_at_call 111; refine (less_int _ _ _).mono ?_; rintro e w' ⟨rfl, rfl⟩)
        refine ⟨⟨(a + b) / 2 + 1, b, ?_, rfl, by omega, hbn, hide (fun t ht => ?_), HB⟩, by simp [intOf]; omega⟩
        · congr 1
        · have h1 := HS.out t ((a + b) / 2) (by omega) (by rw [← HN.out]; omega)
          have h2 := HX.out
          omega
      · have hxb : decide (l[(a + b) / 2]?.getD 0 < x) = false := by simpa using hx
        have HX := hide hx
        clear hx
        go_wp2_with (go_at_call 111; refine (less_int _ _ _).mono ?_; rintro e w' ⟨rfl, rfl⟩)
        refine ⟨⟨a, (a + b) / 2, rfl, ?_, by omega, by omega, HA, hide (fun t ht1 ht2 => ?_)⟩, by simp [intOf]; omega⟩
        · congr 1
        · have h1 := HS.out ((a + b) / 2) t (by omega) (by rw [← HN.out]; omega)
          have h2 := HX.out
          omega
    · obtain rfl : a = b := by omega
      have HR := hide (show bsL l x = a from bsL_eq l x a (by rw [← HN.out]; omega) (fun j hj => HA.out j hj) (fun h => HB.out a (Nat.le_refl _) (by rw [HN.out]; exact h)))
      by_cases hn : a < n
      · have c1 : w.cell? ⟨g, a, none⟩ = some (.int .i64 (l[a]?.getD 0)) := HI.out.cell (by rw [← HN.out]; omega)
        go_wp2_with (go_at_call 112; refine (nan_int _ _).mono ?_; rintro e w' ⟨rfl, rfl⟩)
        all_goals
          go_ret2
          exact ⟨_, by rw [HR.out]; rfl, rfl⟩
      · go_wp2_with (go_at_call 112; refine (nan_int _ _).mono ?_; rintro e w' ⟨rfl, rfl⟩)
        all_goals
          go_ret2
          exact ⟨_, by rw [HR.out]; rfl, rfl⟩

set_option maxRecDepth 100000 in
set_option maxHeartbeats 1600000 in
theorem fspan_any (c : Cal) (y : Int) (w : World) (cap g1 g2 : Nat) (hE : askE c y 1601 = 0) (hcap : nWk c y ≤ cap) (hF : FrameAt w g1 g2 c y) (a b : Nat) (ha : a < nWk c y) (hb : b < nWk c y) :
    Calls Tryz.prog 25 #[yearV y (nWk c y) cap g1 (nPer c y) g2, .int .i64 ((a : Int) + 1), .int .i64 ((b : Int) + 1)] w fun e w' => e = .returned (spanV ⟨dayW c y a, dayW c y (b + 1) - 1⟩) ∧ Below w.heap.size w w' := by
  have hnb := nWk_bd c y hE
  have hsa := (hF.1.2 a (by rw [spL_len]; exact ha)).1
  have hsb := (hF.1.2 b (by rw [spL_len]; exact hb)).2
  rw [(dayW_get c y hE a ha).1] at hsa
  rw [(dayW_get c y hE b hb).1] at hsb
  have hlt := hF.1.1
  simp only [Option.getD_some] at hsa hsb
  have HA := hide hsa
  have HB := hide hsb
  clear hE hF hsa hsb
  generalize nWk c y = n at *
  simp only [yearV, spanV]
  go_enter Tryz.func25, Tryz.ntmps25
  go_wp2
  generalize hW : ((w.alloc (.cells #[.int .i64 y, .slice (some ⟨g1, 0, none⟩) n cap, .slice (some ⟨g2, 0, none⟩) (nPer c y) (nPer c y)] 67)).alloc (.cells _ _)) = W
  have b1 : W.cell? ⟨w.heap.size, 1, none⟩ = some (.slice (some ⟨g1, 0, none⟩) n cap) := by rw [← hW]; simp
  have c1 : W.cell? ⟨g1, a * 2, none⟩ = some (.int .i64 (dayW c y a)) := by
    rw [← hW, World.cell?_alloc_lt _ _ _ (by simp; omega), World.cell?_alloc_lt _ _ _ hlt, Nat.mul_comm]; exact HA.out
  have c2 : W.cell? ⟨g1, b * 2 + 1, none⟩ = some (.int .i64 (dayW c y (b + 1) - 1)) := by
    rw [← hW, World.cell?_alloc_lt _ _ _ (by simp; omega), World.cell?_alloc_lt _ _ _ hlt, Nat.mul_comm]; exact HB.out
  have r0 : W.cell? ⟨w.heap.size + 1, 0, none⟩ = some (.int .i64 0) := by rw [← hW]; simp
  have r1 : W.cell? ⟨w.heap.size + 1, 1, none⟩ = some (.int .i64 0) := by rw [← hW]; simp
  have f0 : W.frozen? ⟨w.heap.size + 1, 0, none⟩ = false := by rw [← hW]; simp
  have f1 : W.frozen? ⟨w.heap.size + 1, 1, none⟩ = false := by rw [← hW]; simp
  have hsz : w.heap.size + 1 < W.heap.size := by rw [← hW]; simp
  have HW := hide (show Below w.heap.size w W by rw [← hW]; (repeat' exact bel))
  clear hW
  go_region
  all_goals
    go_wp2
    exact bodyPost_ret (v := .agg #[.int .i64 (dayW c y a), .int .i64 (dayW c y (b + 1) - 1)]) (by simp [results, Tryz.results25, go_sem, r0, r1, f0, f1, hsz]) rfl ⟨rfl, ((HW.out.setCell (by simp) _).setCell (by simp) _).drew⟩

set_option maxRecDepth 100000 in
set_option maxHeartbeats 1600000 in
theorem fweeks_no (c : Cal) (y : Int) (u : Un) (w : World) (cap g1 g2 : Nat) (h1 : 1 ≤ u.lv) (h5 : u.lv ≤ 5) (hE : askE c y 1601 = 0) (hI : IntsAt w g2 (perL c y)) (hx : u.ix < 1 ∨ (cntL c y u.lv : Int) < u.ix) :
    Calls Tryz.prog 29 #[yearV y (nWk c y) cap g1 (nPer c y) g2, unitV u] w fun e w' => e = .returned (.tuple #[.int .i64 0, .int .i64 0, .bool false]) ∧ Below w.heap.size w w' := by
  have HE := hide hE
  have HI := hide hI
  clear hE hI
  simp only [yearV, unitV]
  go_enter Tryz.func29, Tryz.ntmps29
  go_wp2_with fail
  refine (lasts_any c y u.lv _ cap g1 g2 h1 h5 HE.out ((HI.out.alloc _).alloc _)).mono ?_
  rintro e w1 ⟨g, rfl, hJ, hb1⟩
  have q2 : w1.cell? ⟨w.heap.size + 1, 2, none⟩ = some (.int .i64 u.ix) := by rw [hb1.cell (p := ⟨w.heap.size + 1, 2, none⟩) (by simp)]; simp
  go_wp2
  all_goals first
    | (exfalso; omega)
    | (go_ret3; exact ⟨rfl, by (repeat' exact bel)⟩)

set_option maxRecDepth 100000 in
set_option maxHeartbeats 1600000 in
theorem fweeks_yes (c : Cal) (y : Int) (u : Un) (w : World) (cap g1 g2 : Nat) (h1 : 1 ≤ u.lv) (h5 : u.lv ≤ 5) (hE : askE c y 1601 = 0) (hI : IntsAt w g2 (perL c y)) (i : Nat) (hx : u.ix = (i : Int) + 1) (hi : i < cntL c y u.lv) :
    Calls Tryz.prog 29 #[yearV y (nWk c y) cap g1 (nPer c y) g2, unitV u] w fun e w' => e = .returned (.tuple #[.int .i64 ((cutN c y u.lv i : Int) + 1), .int .i64 (cutN c y u.lv (i + 1) : Int), .bool true]) ∧ Below w.heap.size w w' := by
  obtain ⟨lv, yr, ix⟩ := u
  obtain rfl : ix = (i : Int) + 1 := hx
  simp only at h1 h5 hi ⊢
  have hcb := cnt_bd c y hE lv
  have hcut := cut_le_nWk c y hE lv h1 h5 i (by omega)
  have hcut2 := cut_le_nWk c y hE lv h1 h5 (i + 1) (by omega)
  have hnb := nWk_bd c y hE
  have HL := hide (lasts_len c y lv)
  have HG := hide (fun i hi => lasts_get c y lv i hi)
  have HC0 := hide (cut_0 c y lv)
  have HE := hide hE
  have HI := hide hI
  clear hE hI
  obtain ⟨n, hn⟩ : ∃ n, n = cntL c y lv := ⟨_, rfl⟩
  have HN := hide hn
  have hin : i < n := by omega
  have hn60 : n ≤ 60 := by omega
  clear hcb hi hn
  simp only [yearV, unitV]
  cases i with
  | zero =>
    go_enter Tryz.func29, Tryz.ntmps29
    rw [show ((0 : Nat) : Int) + 1 = 1 from rfl]
    go_wp2_with fail
    refine (lasts_any c y lv _ cap g1 g2 h1 h5 HE.out ((HI.out.alloc _).alloc _)).mono ?_
    rintro e w1 ⟨g, rfl, hJ, hb1⟩
    rw [← HN.out]
    have q2 : w1.cell? ⟨w.heap.size + 1, 2, none⟩ = some (.int .i64 1) := by rw [hb1.cell (p := ⟨w.heap.size + 1, 2, none⟩) (by simp)]; simp
    have c0 : w1.cell? ⟨g, 0, none⟩ = some (.int .i64 (cutN c y lv 1 : Int)) := by rw [hJ.cell (by rw [HL.out, ← HN.out]; omega), HG.out 0 (by rw [← HN.out]; omega)]
    have HB := hide (show Below w.heap.size w w1 by (repeat' exact bel))
    clear hJ hb1
    go_wp2
    all_goals first
      | (exfalso; omega)
      | skip
    go_quiet (fail)
    go_wp2
    go_ret3
    refine ⟨by rw [HC0.out]; rfl, ?_⟩
    first | exact HB.out | exact below_drewN HB.out _
  | succ j =>
    go_enter Tryz.func29, Tryz.ntmps29
    rw [show ((j + 1 : Nat) : Int) + 1 = (j : Int) + 2 by omega]
    go_wp2_with fail
    refine (lasts_any c y lv _ cap g1 g2 h1 h5 HE.out ((HI.out.alloc _).alloc _)).mono ?_
    rintro e w1 ⟨g, rfl, hJ, hb1⟩
    rw [← HN.out]
    have q2 : w1.cell? ⟨w.heap.size + 1, 2, none⟩ = some (.int .i64 ((j : Int) + 2)) := by rw [hb1.cell (p := ⟨w.heap.size + 1, 2, none⟩) (by simp)]; simp
    have c0 : w1.cell? ⟨g, j, none⟩ = some (.int .i64 (cutN c y lv (j + 1) : Int)) := by rw [hJ.cell (by rw [HL.out, ← HN.out]; omega), HG.out j (by rw [← HN.out]; omega)]
    have c1 : w1.cell? ⟨g, j + 1, none⟩ = some (.int .i64 (cutN c y lv (j + 1 + 1) : Int)) := by rw [hJ.cell (by rw [HL.out, ← HN.out]; omega), HG.out (j + 1) (by rw [← HN.out]; omega)]
    have HB := hide (show Below w.heap.size w w1 by (repeat' exact bel))
    clear hJ hb1
    go_wp2
    all_goals first
      | (exfalso; omega)
      | skip
    go_quiet (fail)
    go_wp2
    go_ret3
    refine ⟨rfl, ?_⟩
    first | exact HB.out | exact below_drewN HB.out _

theorem lasts_sorted (c : Cal) (y : Int) (hE : askE c y 1601 = 0) (lv : Int) (h1 : 1 ≤ lv) (h5 : lv ≤ 5) (i j : Nat) (h : i ≤ j) (hj : j < (lastsL c y lv).length) : (lastsL c y lv)[i]?.getD 0 ≤ (lastsL c y lv)[j]?.getD 0 := by
  rw [lasts_len] at hj
  rw [lasts_get c y lv i (by omega), lasts_get c y lv j hj]
  have := cut_mono c y hE lv h1 h5 (show i + 1 ≤ j + 1 by omega) (by omega)
  omega

set_option maxRecDepth 100000 in
set_option maxHeartbeats 1600000 in
theorem funit_any (c : Cal) (y lv : Int) (w : World) (cap g1 g2 : Nat) (h1 : 1 ≤ lv) (h5 : lv ≤ 5) (hE : askE c y 1601 = 0) (hI : IntsAt w g2 (perL c y)) (a : Nat) :
    Calls Tryz.prog 66 #[yearV y (nWk c y) cap g1 (nPer c y) g2, .int .i64 lv, .int .i64 ((a : Int) + 1)] w fun e w' => e = .returned (unitV ⟨lv, y, (ixN c y lv a : Int) + 1⟩) ∧ Below w.heap.size w w' := by
  have hcb := cnt_bd c y hE lv
  have hix : ixN c y lv a ≤ 60 := by
    have := bsL_le (lastsL c y lv) ((a : Int) + 1)
    rw [lasts_len] at this
    unfold ixN
    omega
  have HS := hide (fun i j h hj => lasts_sorted c y hE lv h1 h5 i j h hj)
  have HL := hide (lasts_len c y lv)
  have HX := hide (show bsL (lastsL c y lv) ((a : Int) + 1) = ixN c y lv a from rfl)
  have HE := hide hE
  have HI := hide hI
  clear hE hI
  simp only [yearV, unitV]
  go_enter Tryz.func66, Tryz.ntmps66
  go_wp2_with fail
  refine (lasts_any c y lv _ cap g1 g2 h1 h5 HE.out ((HI.out.alloc _).alloc _)).mono ?_
  rintro e w1 ⟨g, rfl, hJ, hb1⟩
  have r0 : w1.cell? ⟨w.heap.size + 1, 0, none⟩ = some (.int .i64 0) := by rw [hb1.cell (p := ⟨w.heap.size + 1, 0, none⟩) (by simp)]; simp
  have r1 : w1.cell? ⟨w.heap.size + 1, 1, none⟩ = some (.int .i64 0) := by rw [hb1.cell (p := ⟨w.heap.size + 1, 1, none⟩) (by simp)]; simp
  have r2 : w1.cell? ⟨w.heap.size + 1, 2, none⟩ = some (.int .i64 0) := by rw [hb1.cell (p := ⟨w.heap.size + 1, 2, none⟩) (by simp)]; simp
  have f0 : w1.frozen? ⟨w.heap.size + 1, 0, none⟩ = false := by rw [hb1.frozen (p := ⟨w.heap.size + 1, 0, none⟩) (by simp)]; simp
  have f1 : w1.frozen? ⟨w.heap.size + 1, 1, none⟩ = false := by rw [hb1.frozen (p := ⟨w.heap.size + 1, 1, none⟩) (by simp)]; simp
  have f2 : w1.frozen? ⟨w.heap.size + 1, 2, none⟩ = false := by rw [hb1.frozen (p := ⟨w.heap.size + 1, 2, none⟩) (by simp)]; simp
  have b0 : w1.cell? ⟨w.heap.size, 0, none⟩ = some (.int .i64 y) := by rw [hb1.cell (p := ⟨w.heap.size, 0, none⟩) (by simp; omega)]; simp
  have hsz : w.heap.size + 1 < w1.heap.size := by have := hb1.size; simp at this; omega
  have HW := hide (show Below w.heap.size w w1 by (repeat' exact bel))
  clear hb1
  rw [← HL.out]
  go_wp2_with fail
  refine (bsearch_any g (lastsL c y lv) _ _ (by rw [HL.out]; omega) hJ HS.out).mono ?_
  rintro e w2 ⟨bb, rfl, rfl⟩
  rw [HX.out]
  clear hJ
  go_wp2
  exact bodyPost_ret (v := .agg #[.int .i64 lv, .int .i64 y, .int .i64 ((ixN c y lv a : Int) + 1)]) (by simp [results, Tryz.results66, go_sem, r0, r1, r2, f0, f1, f2, hsz]) rfl ⟨rfl, ((HW.out.setCell (by simp) _).setCell (by simp) _).setCell (by simp) _⟩
end Go.Proofs.YtjhhmeoibfdcmaaGreatDoor
