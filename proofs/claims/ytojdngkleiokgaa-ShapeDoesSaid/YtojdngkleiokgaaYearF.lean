/- In which fiscal year a day lies: the plain law behind package year. -/
import Derived.Test.YtojdngkleiokgaaFrameA
namespace Go.Proofs.Ytojdngkleiokgaa
open Go.RowKit Qd
set_option linter.unusedSimpArgs false
set_option linter.unusedVariables false

/-- The day lies in that year, which is told. -/
def yrOk (c : Cal) (day y : Int) : Prop := askE c y 1601 = 0 ∧ startV c y ≤ day ∧ day ≤ endV c y
theorem ask_2 {c : Cal} {y a : Int} (h : c.Ok) (h1 : a ≤ y) (h2 : y ≤ 9997) : askE c y a = 0 := by
  have : c.okB = true := by simpa [Cal.okB] using h
  simp [askE, this, h1, h2]
theorem start_next (c : Cal) (y : Int) (h : askE c (y + 1) 1601 = 0) : startV c (y + 1) = endV c y + 1 := by
  obtain ⟨hok, h1, h2⟩ := ask_ok h
  have h3 : askE c y 1600 = 0 := ask_2 hok (by omega) (by omega)
  have e : y + 1 - 1 + c.shift = y + c.shift := by omega
  simp [startV, h, endV, h3, e]
theorem end_mono (c : Cal) (y : Int) (hok : c.Ok) (h1 : 1600 ≤ y) (m : Nat) (h2 : y + m ≤ 9997) : endV c y + 358 * m ≤ endV c (y + m) := by
  induction m with
  | zero => simp
  | succ m ih =>
    have h3 := ih (by omega)
    have e : y + ((m + 1 : Nat) : Int) = y + m + 1 := by omega
    rw [e]
    have hA : askE c (y + m + 1) 1601 = 0 := ask_2 hok (by omega) (by omega)
    have h4 := start_next c (y + m) hA
    have h5 := year_bd c (y + m + 1) hA
    have h6 : daysV c (y + m + 1) = endV c (y + m + 1) - startV c (y + m + 1) + 1 := by simp [daysV, hA]
    omega
theorem end_le (c : Cal) {y z : Int} (hok : c.Ok) (h1 : 1600 ≤ y) (h : y ≤ z) (h2 : z ≤ 9997) : endV c y ≤ endV c z := by
  obtain ⟨m, rfl⟩ : ∃ m : Nat, z = y + m := ⟨(z - y).toNat, by omega⟩
  have := end_mono c y hok h1 m h2
  omega
theorem start_le (c : Cal) {y z : Int} (hok : c.Ok) (h1 : 1601 ≤ y) (h : y ≤ z) (h2 : z ≤ 9997) : startV c y ≤ startV c z := by
  have e1 := start_next c (y - 1) (by rw [show y - 1 + 1 = y by omega]; exact ask_2 hok h1 (by omega))
  have e2 := start_next c (z - 1) (by rw [show z - 1 + 1 = z by omega]; exact ask_2 hok (by omega) h2)
  rw [show y - 1 + 1 = y by omega] at e1
  rw [show z - 1 + 1 = z by omega] at e2
  have := end_le c hok (show 1600 ≤ y - 1 by omega) (show y - 1 ≤ z - 1 by omega) (by omega)
  omega
theorem end_lt_start (c : Cal) {y z : Int} (hok : c.Ok) (h1 : 1600 ≤ y) (h : y < z) (h2 : z ≤ 9997) : endV c y < startV c z := by
  have e1 := start_next c y (ask_2 hok (by omega) (by omega))
  have := start_le c hok (show 1601 ≤ y + 1 by omega) (show y + 1 ≤ z by omega) h2
  omega
/-- A day lies in one year. -/
theorem yr_one {c : Cal} {day y z : Int} (h : yrOk c day y) (h2 : yrOk c day z) : y = z := by
  obtain ⟨a1, a2, a3⟩ := h
  obtain ⟨b1, b2, b3⟩ := h2
  obtain ⟨hok, y1, y2⟩ := ask_ok a1
  obtain ⟨_, z1, z2⟩ := ask_ok b1
  rcases Int.lt_trichotomy y z with h5 | h5 | h5
  · have := end_lt_start c hok (by omega) h5 z2; omega
  · exact h5
  · have := end_lt_start c hok (by omega) h5 y2; omega
/-- The year lies beside the civil one. -/
theorem yr_near {c : Cal} {day y : Int} (h : yrOk c day y) (hd : isB day = true) : ofY day - c.shift - 2 ≤ y ∧ y ≤ ofY day - c.shift + 2 := by
  obtain ⟨a1, a2, a3⟩ := h
  obtain ⟨hok, y1, y2⟩ := ask_ok a1
  obtain ⟨hm, hs, hk, hd2⟩ := ok_rule hok
  have t1 := ask_there1 a1
  have t2 := ask_there a1 (by omega)
  have eS : startV c y = finV c (y - 1 + c.shift) + 1 := by simp [startV, a1]
  have eE : endV c y = finV c (y + c.shift) := by simp [endV, ask_mono a1]
  have hdd : 0 ≤ day ∧ day < 3068037 := by simpa [isB] using hd
  obtain ⟨o1, o2, o3, o4⟩ := ofY_ok day hdd.1 hdd.2
  have w1 := endW_bd (y - 1 + c.shift) c.month
  have w2 := endW_bd (y + c.shift) c.month
  have e1 := endN_eq _ _ t1
  have e2 := endN_eq _ _ t2
  have b1 := ahead_bd (y - 1 + c.shift) (c.month + 1)
  have b2 := ahead_bd (y + c.shift) (c.month + 1)
  have f1 : endN (y - 1 + c.shift) c.month - 7 ≤ finV c (y - 1 + c.shift) := by
    unfold finV nearD
    split
    · omega
    · split <;> omega
  have f2 : finV c (y + c.shift) ≤ endN (y + c.shift) c.month + 3 := by
    unfold finV nearD
    split
    · omega
    · split <;> omega
  constructor
  · rcases Int.lt_or_le y (ofY day - c.shift - 2) with h5 | h5
    · exfalso
      have h6 := years_lt (y + c.shift) (y + c.shift + 1) (by omega) (by omega)
      have h7 := years_lt (y + c.shift + 1) (ofY day) (by omega) (by omega)
      omega
    · exact h5
  · rcases Int.lt_or_le (ofY day - c.shift + 2) y with h5 | h5
    · exfalso
      have h7 := years_lt (ofY day + 1) (y - 1 + c.shift) (by omega) (by omega)
      have h8 := years_mono (ofY day + 1) (ofY day + 1) (by omega) (by omega)
      omega
    · exact h5

open Classical in
/-- The year of a day; 0: there is none. -/
noncomputable def foundY (c : Cal) (day : Int) : Int := if h : isB day = true ∧ ∃ y, yrOk c day y then h.2.choose else 0
open Classical in
/-- Which day of it. -/
noncomputable def foundN (c : Cal) (day : Int) : Int := if isB day = true ∧ ∃ y, yrOk c day y then day - startV c (foundY c day) + 1 else 0
open Classical in
noncomputable def foundE (c : Cal) (day : Int) : Int := if c.okB = false then 1 else if isB day = false then 4 else if ∃ y, yrOk c day y then 0 else 11
theorem found_yes {c : Cal} {day y : Int} (hd : isB day = true) (h : yrOk c day y) : foundY c day = y ∧ foundN c day = day - startV c y + 1 ∧ foundE c day = 0 := by
  have hok := (ask_ok h.1).1
  have hok2 : c.okB = true := by simpa [Cal.okB] using hok
  have hex : isB day = true ∧ ∃ y, yrOk c day y := ⟨hd, y, h⟩
  have e1 : foundY c day = y := by
    unfold foundY
    rw [dif_pos hex]
    exact yr_one hex.2.choose_spec h
  refine ⟨e1, ?_, ?_⟩
  · unfold foundN
    rw [if_pos hex, e1]
  · unfold foundE
    rw [if_neg (by simp [hok2]), if_neg (by simp [hd]), if_pos hex.2]
theorem found_none {c : Cal} {day : Int} (h : ¬ ∃ y, yrOk c day y) : foundY c day = 0 ∧ foundN c day = 0 ∧ (c.okB = true → isB day = true → foundE c day = 11) := by
  refine ⟨?_, ?_, ?_⟩
  · unfold foundY
    rw [dif_neg (fun h2 => h h2.2)]
  · unfold foundN
    rw [if_neg (fun h2 => h h2.2)]
  · intro h1 h2
    unfold foundE
    rw [if_neg (by simp [h1]), if_neg (by simp [h2]), if_neg h]
theorem found_ok {c : Cal} {day : Int} (h : foundE c day = 0) : c.Ok ∧ isB day = true ∧ yrOk c day (foundY c day) := by
  unfold foundE at h
  split at h
  · omega
  · rename_i h1
    split at h
    · omega
    · rename_i h2
      split at h
      · rename_i h3
        obtain ⟨y, hy⟩ := h3
        have hd : isB day = true := by simpa using h2
        rw [(found_yes hd hy).1]
        exact ⟨(ask_ok hy.1).1, hd, hy⟩
      · omega
theorem found_not_ok {c : Cal} {day : Int} (h : c.okB = false) : foundY c day = 0 ∧ foundN c day = 0 ∧ foundE c day = 1 := by
  have hne : ¬ ∃ y, yrOk c day y := by
    rintro ⟨y, hy⟩
    have := (ask_ok hy.1).1
    have : c.okB = true := by simpa [Cal.okB] using this
    rw [h] at this; cases this
  have := found_none hne
  exact ⟨this.1, this.2.1, by unfold foundE; rw [if_pos h]⟩
theorem found_no_day {c : Cal} {day : Int} (h : isB day = false) : foundY c day = 0 ∧ foundN c day = 0 ∧ (c.okB = true → foundE c day = 4) := by
  refine ⟨?_, ?_, ?_⟩
  · unfold foundY; rw [dif_neg (fun h2 => by rw [h] at h2; cases h2.1)]
  · unfold foundN; rw [if_neg (fun h2 => by rw [h] at h2; cases h2.1)]
  · intro h1
    unfold foundE
    rw [if_neg (by simp [h1]), if_pos h]
end Go.Proofs.Ytojdngkleiokgaa
