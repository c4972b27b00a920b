/- Twin: a unit and its parts. -/
import Derived.Test.YtamnccechaooaaaGreatMNt
namespace Go.Proofs.YtamnccechaooaaaGreat
open Go.RowKit Qd

/-- The weeks with which the units of a level are compared, from one on. -/
def partsL (c : Cal) (y k lv a : Int) (n : Nat) : List Un := (upto (fun j : Nat => twL c ⟨lv, y, a + (j : Int)⟩ k) n).flatten
theorem partsL_zero (c : Cal) (y k lv a : Int) : partsL c y k lv a 0 = [] := rfl
theorem partsL_succ (c : Cal) (y k lv a : Int) (n : Nat) : partsL c y k lv a (n + 1) = partsL c y k lv a n ++ twL c ⟨lv, y, a + (n : Int)⟩ k := by
  have e : upto (fun j : Nat => twL c ⟨lv, y, a + (j : Int)⟩ k) (n + 1) = upto (fun j : Nat => twL c ⟨lv, y, a + (j : Int)⟩ k) n ++ [twL c ⟨lv, y, a + (n : Int)⟩ k] := upto_succ _ _
  unfold partsL
  rw [e, List.flatten_append]
  simp
theorem flat_succ {α : Type} (f : Nat → List α) (n : Nat) : (upto f (n + 1)).flatten = (upto f n).flatten ++ f n := by
  have e : upto f (n + 1) = upto f n ++ [f n] := upto_succ _ _
  rw [e, List.flatten_append]
  simp
theorem cmp_flat (c : Cal) (y t : Int) (f : Nat → List Un) (n : Nat) : (upto (fun j => cmpL c y t (f j)) n).flatten = cmpL c y t (upto f n).flatten := by
  induction n with
  | zero => rfl
  | succ n ih => rw [flat_succ, flat_succ, cmp_app, ih]
/-- The units of a finer level that lie in a unit. -/
theorem dn_parts {c : Cal} {u : Un} {lv : Int} (hU : unitE c u = 0) (h1 : u.lv ≤ lv) (h5 : lv ≤ 5) : ∃ i n : Nat, 0 < n ∧ i + n ≤ cntL c u.yr lv ∧ dnA c u lv = ⟨lv, u.yr, (i : Int) + 1⟩ ∧ dnB c u lv = ⟨lv, u.yr, (i : Int) + n⟩ ∧ cutN c u.yr lv i = cutA c u ∧ cutN c u.yr lv (i + n) = cutB c u := by
  obtain ⟨hf, l1, l5, hA, hx, hi⟩ := un_lv hU
  obtain ⟨i, hi1, e1⟩ := cut_finer c u.yr hA u.lv lv l1 h1 h5 (uI u) (by omega)
  obtain ⟨j, hj1, e2⟩ := cut_finer c u.yr hA u.lv lv l1 h1 h5 (uI u + 1) (by omega)
  have hab := cutAB hU
  have ea : cutN c u.yr lv i = cutA c u := e1.symm
  have eb : cutN c u.yr lv j = cutB c u := e2.symm
  have hlt : i < j := by
    rcases Nat.lt_or_ge i j with h | h
    · exact h
    · have := cut_mono c u.yr hA lv (by omega) h5 h hi1
      omega
  have hE : dnE c u lv = 0 := by rw [dnE, if_pos hU, if_pos ⟨h1, h5⟩]
  have x1 := cut_lt c u.yr hA lv (by omega) h5 i (by omega)
  have x2 := cut_lt c u.yr hA lv (by omega) h5 (j - 1) (by omega)
  rw [show j - 1 + 1 = j by omega] at x2
  refine ⟨i, j - i, by omega, by omega, ?_, ?_, ea, by rw [show i + (j - i) = j by omega]; exact eb⟩
  · rw [dnA, if_pos hE, ix_eq c u.yr hA lv (by omega) h5 (cutA c u) i (by omega) (by omega) (by omega)]
  · rw [dnB, if_pos hE, ix_eq c u.yr hA lv (by omega) h5 (cutB c u - 1) (j - 1) (by omega) (by omega) (by rw [show j - 1 + 1 = j by omega]; omega)]
    simp only [Un.mk.injEq, true_and]
    omega
theorem wks_parts {c : Cal} {lv y : Int} (hf : frameE c lv y = 0) (i : Nat) : ∀ m : Nat, i + m ≤ cntL c y lv → (upto (fun j : Nat => wksL c ⟨lv, y, (i : Int) + 1 + (j : Int)⟩) m).flatten = wkU ⟨5, y, (cutN c y lv i : Int) + 1⟩ (cutN c y lv (i + m) - cutN c y lv i) := by
  obtain ⟨hok, hk, l1, l5, _, _, hA⟩ := frame_ok hf
  intro m
  induction m with
  | zero => intro _; simp [upto_zero, wkU]
  | succ m ih =>
    intro h
    rw [flat_succ, ih (by omega)]
    obtain ⟨_, ca, cb⟩ := un_mk hf (i + m) (by omega)
    have e : (⟨lv, y, (i : Int) + 1 + (m : Int)⟩ : Un) = ⟨lv, y, ((i + m : Nat) : Int) + 1⟩ := by
      simp only [Un.mk.injEq, true_and]; omega
    have h1 := cut_mono c y hA lv l1 l5 (show i ≤ i + m by omega) (by omega)
    have h2 := cut_lt c y hA lv l1 l5 (i + m) (by omega)
    rw [e, wksL, ca, cb, show i + (m + 1) = i + m + 1 by omega, show cutN c y lv (i + m + 1) - cutN c y lv i = (cutN c y lv (i + m) - cutN c y lv i) + (cutN c y lv (i + m + 1) - cutN c y lv (i + m)) by omega, wkU_add]
    simp only
    rw [show (cutN c y lv i : Int) + 1 + ((cutN c y lv (i + m) - cutN c y lv i : Nat) : Int) = (cutN c y lv (i + m) : Int) + 1 by omega]
theorem pcut_le (c : Cal) (y lv : Int) (h12 : 12 ≤ nPer c y) (h1 : 1 ≤ lv) (h4 : lv ≤ 4) (i : Nat) (hi : i ≤ cntL c y lv) : pcut (nPer c y) lv i ≤ nPer c y := by
  have := pcut_mono (nPer c y) lv h12 i _ hi
  rwa [pcut_end (nPer c y) _ _ _ h1 h4] at this
theorem cut_year {c : Cal} {y t a b : Int} (hA : askE c y 1601 = 0) (hk : c.okB = true) (h12 : 12 ≤ nPer c y) (ha : 1 ≤ a ∧ a ≤ 4) (hb : 1 ≤ b ∧ b ≤ 4) {i j : Nat} (hi : i ≤ cntL c y a) (hj : j ≤ cntL c y b) (h : cutN c y a i = cutN c y b j) : cutN c t a i = cutN c t b j := by
  have e : ∀ (z lv : Int) (x : Nat), lv ≤ 4 → cutN c z lv x = cumW c z (pcut (nPer c z) lv x) := fun z lv x h => by rw [cutN, if_neg (by omega)]
  rw [e _ _ _ ha.2, e _ _ _ hb.2] at h
  have p1 := pcut_le c y a h12 ha.1 ha.2 i hi
  have p2 := pcut_le c y b h12 hb.1 hb.2 j hj
  have hp : pcut (nPer c y) a i = pcut (nPer c y) b j := by
    rcases Nat.lt_trichotomy (pcut (nPer c y) a i) (pcut (nPer c y) b j) with h1 | h1 | h1
    · have := cumW_lt c y hA h1 p2; omega
    · exact h1
    · have := cumW_lt c y hA h1 p1; omega
  rw [e _ _ _ ha.2, e _ _ _ hb.2, per_same hk t y, hp]
theorem twE_part {c : Cal} {v : Un} {k : Int} (hU : unitE c v = 0) (hr : c.first ≤ v.yr + k ∧ v.yr + k ≤ c.last) (hin : ∀ w ∈ twL0 c v k, srv c w.yr) : (twE c v k = 0 ∨ twE c v k = 12) ∧ twL c v k = twL0 c v k := by
  have hI : inB c (twL0 c v k) = true := by
    unfold inB
    rw [List.all_eq_true]
    intro w hw
    have := hin w hw
    simp [this.1, this.2]
  have e : twE c v k = if (twL0 c v k).length = 0 then 12 else 0 := by rw [twE, if_pos hU, if_pos hr, if_pos hI]
  by_cases h : (twL0 c v k).length = 0
  · rw [if_pos h] at e
    refine ⟨.inr e, ?_⟩
    rw [twL, if_neg (by omega), List.length_eq_zero_iff.1 h]
  · rw [if_neg h] at e
    exact ⟨.inl e, by rw [twL, if_pos e]⟩
theorem mem_flat {α : Type} {f : Nat → List α} {n j : Nat} (hj : j < n) {x : α} (hx : x ∈ f j) : x ∈ (upto f n).flatten := by
  rw [List.mem_flatten]
  exact ⟨f j, List.mem_of_getElem? (upto_get f n j hj), hx⟩
/-- A unit is compared with the weeks with which its parts are. -/
theorem tw_parts {c : Cal} {u : Un} {k lv : Int} (hE : twE c u k = 0) (h1 : u.lv ≤ lv) (h5 : lv ≤ 5) (h6 : c.kind = 6 → lv ≠ 5) : ∃ i n : Nat, dnA c u lv = ⟨lv, u.yr, (i : Int) + 1⟩ ∧ dnB c u lv = ⟨lv, u.yr, (i : Int) + n⟩ ∧ 0 < n ∧ i + n ≤ 60 ∧ (∀ j : Nat, j < n → twE c ⟨lv, u.yr, (i : Int) + 1 + (j : Int)⟩ k = 0 ∨ twE c ⟨lv, u.yr, (i : Int) + 1 + (j : Int)⟩ k = 12) ∧ partsL c u.yr k lv ((i : Int) + 1) n = twL c u k := by
  obtain ⟨hU, ht, hin, hlen, hL⟩ := tw_ok hE
  obtain ⟨hf, l1, l5, hA, hx, hi⟩ := un_lv hU
  obtain ⟨hok, hk, _, _, hy1, hy2, _⟩ := frame_ok hf
  have hy : srv c u.yr := ⟨hy1, hy2⟩
  have hts : srv c (u.yr + k) := ht
  obtain ⟨i, n, hn, hin2, ea, eb, ca, cb⟩ := dn_parts hU h1 h5
  have hcb := (cnt_bd c u.yr hA lv).2
  have hfl : frameE c lv u.yr = 0 := frame_lv hf lv (by omega) h5
  have hwk := wks_parts hfl i n hin2
  rw [ca, cb] at hwk
  have hpu : ∀ j : Nat, j < n → unitE c ⟨lv, u.yr, (i : Int) + 1 + (j : Int)⟩ = 0 := by
    intro j hj
    have := (un_mk hfl (i + j) (by omega)).1
    rwa [show (((i + j : Nat) : Int) + 1) = (i : Int) + 1 + (j : Int) by omega] at this
  have key : (upto (fun j : Nat => twL0 c ⟨lv, u.yr, (i : Int) + 1 + (j : Int)⟩ k) n).flatten = twL0 c u k := by
    by_cases hk6 : c.kind = 6
    · have hlv := h6 hk6
      have hu5 : ¬ u.lv = 5 := by omega
      have e1 : twL0 c u k = wksL c ⟨u.lv, u.yr + k, u.ix⟩ := by rw [twL0, if_pos hk6, monthL, if_neg hu5]
      have e2 : (fun j : Nat => twL0 c ⟨lv, u.yr, (i : Int) + 1 + (j : Int)⟩ k) = fun j : Nat => wksL c ⟨lv, u.yr + k, (i : Int) + 1 + (j : Int)⟩ := by
        funext j
        rw [twL0, if_pos hk6, monthL, if_neg hlv]
      have hcnt : cntL c (u.yr + k) lv = cntL c u.yr lv := by
        unfold cntL
        rw [per_same hk (u.yr + k) u.yr]
        repeat' split
        all_goals first | rfl | (exfalso; omega)
      have h12 : 12 ≤ nPer c u.yr := (nPer_bd c u.yr hA).1
      have f1 := cut_year (t := u.yr + k) hA hk h12 ⟨by omega, by omega⟩ ⟨l1, by omega⟩ (show i ≤ cntL c u.yr lv by omega) (show uI u ≤ cntL c u.yr u.lv by omega) ca
      have f2 := cut_year (t := u.yr + k) hA hk h12 ⟨by omega, by omega⟩ ⟨l1, by omega⟩ (show i + n ≤ cntL c u.yr lv by omega) (show uI u + 1 ≤ cntL c u.yr u.lv by omega) cb
      rw [e1, e2, wks_parts (srv_frame hk hts (by omega) h5) i n (by omega), f1, f2]
      rfl
    · have e1 : twL0 c u k = cmpL c u.yr (u.yr + k) (wksL c u) := by rw [twL0, if_neg hk6]
      have e2 : (fun j : Nat => twL0 c ⟨lv, u.yr, (i : Int) + 1 + (j : Int)⟩ k) = fun j : Nat => cmpL c u.yr (u.yr + k) (wksL c ⟨lv, u.yr, (i : Int) + 1 + (j : Int)⟩) := by
        funext j
        rw [twL0, if_neg hk6]
      rw [e1, e2, cmp_flat, hwk]
      rfl
  have hpt : ∀ j : Nat, j < n → (twE c ⟨lv, u.yr, (i : Int) + 1 + (j : Int)⟩ k = 0 ∨ twE c ⟨lv, u.yr, (i : Int) + 1 + (j : Int)⟩ k = 12) ∧ twL c ⟨lv, u.yr, (i : Int) + 1 + (j : Int)⟩ k = twL0 c ⟨lv, u.yr, (i : Int) + 1 + (j : Int)⟩ k := by
    intro j hj
    refine twE_part (hpu j hj) ht fun w hw => inB_mem hin ?_
    rw [← key]
    exact mem_flat (f := fun j : Nat => twL0 c ⟨lv, u.yr, (i : Int) + 1 + (j : Int)⟩ k) hj hw
  refine ⟨i, n, ea, eb, hn, by omega, fun j hj => (hpt j hj).1, ?_⟩
  rw [hL, ← key, partsL]
  congr 1
  exact upto_congr fun j hj => (hpt j hj).2
theorem parts_len {c : Cal} {u : Un} {k lv a : Int} {n : Nat} (h : partsL c u.yr k lv a n = twL c u k) (hl : (twL c u k).length ≤ 60) (m : Nat) (hm : m ≤ n) : (partsL c u.yr k lv a m).length ≤ 60 := by
  obtain ⟨d, rfl⟩ := Nat.le.dest hm
  have key : ∀ d : Nat, (partsL c u.yr k lv a m).length ≤ (partsL c u.yr k lv a (m + d)).length := by
    intro d
    induction d with
    | zero => exact Nat.le_refl _
    | succ d ih => rw [← Nat.add_assoc, partsL_succ, List.length_append]; omega
  have := key d
  rw [h] at this
  omega
end Go.Proofs.YtamnccechaooaaaGreat
