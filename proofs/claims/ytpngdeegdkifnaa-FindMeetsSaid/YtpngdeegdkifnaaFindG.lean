/- Plain facts of the units of some years; units that lie in a row. -/
import Derived.Test.YtpngdeegdkifnaaFindF
import Derived.Test.YtpngdeegdkifnaaLawFNext
namespace Go.Proofs.Ytpngdeegdkifnaa
open Go.RowKit Qd
set_option linter.unusedSimpArgs false
set_option linter.unusedVariables false

/-- Each unit of a list is the one behind the one ahead. -/
def ChainU (c : Cal) (l : List Un) : Prop := ∀ (j : Nat) (u v : Un), l[j]? = some u → l[j + 1]? = some v → nxE c u = 0 ∧ nxU c u = v
theorem chain_app {c : Cal} {l1 l2 : List Un} (h1 : ChainU c l1) (h2 : ChainU c l2) (h : ∀ u v, l1[l1.length - 1]? = some u → l2[0]? = some v → nxE c u = 0 ∧ nxU c u = v) : ChainU c (l1 ++ l2) := by
  intro j u v hu hv
  by_cases hj : j + 1 < l1.length
  · rw [List.getElem?_append_left (by omega)] at hu
    rw [List.getElem?_append_left (by omega)] at hv
    exact h1 j u v hu hv
  · by_cases hj2 : j + 1 = l1.length
    · rw [List.getElem?_append_left (by omega)] at hu
      rw [List.getElem?_append_right (by omega)] at hv
      refine h u v ?_ ?_
      · rw [show l1.length - 1 = j by omega]; exact hu
      · rw [show j + 1 - l1.length = 0 by omega] at hv; exact hv
    · rw [List.getElem?_append_right (by omega)] at hu
      rw [List.getElem?_append_right (by omega)] at hv
      rw [show j + 1 - l1.length = (j - l1.length) + 1 by omega] at hv
      exact h2 _ u v hu hv
theorem yU_get (lv y : Int) (n j : Nat) (hj : j < n) : (yU lv y n)[j]? = some ⟨lv, y, (j : Int) + 1⟩ := by
  induction n with
  | zero => omega
  | succ n ih =>
    rw [yU_lt lv y n (n + 1) (by omega)]
    by_cases h : j < n
    · rw [List.getElem?_append_left (by rw [yU_len]; exact h)]
      exact ih h
    · obtain rfl : j = n := by omega
      rw [List.getElem?_append_right (by rw [yU_len]; omega), yU_len]
      simp
theorem yU_some {lv y : Int} {n j : Nat} {u : Un} (h : (yU lv y n)[j]? = some u) : j < n ∧ u = ⟨lv, y, (j : Int) + 1⟩ := by
  have hj : j < n := by
    have := (List.getElem?_eq_some_iff.1 h).1
    rwa [yU_len] at this
  rw [yU_get lv y n j hj] at h
  exact ⟨hj, (Option.some.inj h).symm⟩
theorem un_here {c : Cal} {lv y : Int} {j : Nat} (hf : frameE c lv y = 0) (hj : j < cntL c y lv) : unitE c ⟨lv, y, (j : Int) + 1⟩ = 0 := by
  have h1 : (1 : Int) ≤ (j : Int) + 1 ∧ (j : Int) + 1 ≤ (cntL c y lv : Int) := by omega
  simp only [unitE]
  rw [if_pos hf, if_pos h1]
theorem yU_chain {c : Cal} {lv y : Int} (hf : frameE c lv y = 0) : ChainU c (yU lv y (cntL c y lv)) := by
  intro j u v hu hv
  obtain ⟨h1, rfl⟩ := yU_some hu
  obtain ⟨h2, rfl⟩ := yU_some hv
  have e1 := un_here hf h1
  have e2 := un_here hf h2
  have e3 : nxU0 ⟨lv, y, (j : Int) + 1⟩ = ⟨lv, y, ((j + 1 : Nat) : Int) + 1⟩ := by simp [nxU0]
  simp only [nxE, nxU, e1, e3, e2, if_true, and_self]
theorem link_ok {c : Cal} {lv y : Int} (hf : frameE c lv y = 0) (hf2 : frameE c lv (y + 1) = 0) (n : Nat) (hn : n + 1 = cntL c y lv) (h0 : 0 < cntL c (y + 1) lv) :
    nxE c ⟨lv, y, (n : Int) + 1⟩ = 0 ∧ nxU c ⟨lv, y, (n : Int) + 1⟩ = ⟨lv, y + 1, ((0 : Nat) : Int) + 1⟩ := by
  have e1 := un_here hf (show n < cntL c y lv by omega)
  have e2 := un_here hf2 h0
  have e3 : nxU1 ⟨lv, y, (n : Int) + 1⟩ = ⟨lv, y + 1, ((0 : Nat) : Int) + 1⟩ := by simp [nxU1]
  have e4 : ¬ unitE c (nxU0 ⟨lv, y, (n : Int) + 1⟩) = 0 := by
    have h1 : ¬ ((1 : Int) ≤ (n : Int) + 1 + 1 ∧ (n : Int) + 1 + 1 ≤ (cntL c y lv : Int)) := by omega
    have h2 : unitE c (nxU0 ⟨lv, y, (n : Int) + 1⟩) = 13 := by
      show (if frameE c lv y = 0 then (if 1 ≤ (n : Int) + 1 + 1 ∧ (n : Int) + 1 + 1 ≤ (cntL c y lv : Int) then (0 : Int) else 13) else frameE c lv y) = 13
      rw [if_pos hf, if_neg h1]
    omega
  simp only [nxE, nxU, e1, e3, e2, if_true, if_neg e4, and_self]

/-- The units of some years: their first one, their last one, and that they are a chain. -/
theorem all_facts (c : Cal) (lv f : Int) (ny : Nat) (h0 : 0 < ny) (hE : ∀ a : Nat, a < ny → frameE c lv (f + a) = 0) :
    ChainU c (allUp c lv f ny) ∧ (allUp c lv f ny)[0]? = some ⟨lv, f, 1⟩ ∧ (allUp c lv f ny)[(allUp c lv f ny).length - 1]? = some ⟨lv, f + (ny : Int) - 1, (cntL c (f + (ny : Int) - 1) lv : Int)⟩ := by
  induction ny with
  | zero => omega
  | succ n ih =>
    have hfn := hE n (by omega)
    have hb := cnt_bd c (f + n) (frame_ok hfn).2.2.2.2.2.2 lv
    have hl : (allUp c lv f (n + 1)).length = (allUp c lv f n).length + cntL c (f + n) lv := by rw [allUp, List.length_append, yU_len]
    have hlast : (allUp c lv f (n + 1))[(allUp c lv f (n + 1)).length - 1]? = some ⟨lv, f + ((n + 1 : Nat) : Int) - 1, (cntL c (f + ((n + 1 : Nat) : Int) - 1) lv : Int)⟩ := by
      rw [hl, allUp, List.getElem?_append_right (by omega), yU_get _ _ _ _ (by omega)]
      rw [show f + ((n + 1 : Nat) : Int) - 1 = f + n by omega]
      congr 2
      omega
    by_cases hn : n = 0
    · subst hn
      refine ⟨?_, ?_, hlast⟩
      · have h := yU_chain hfn
        simpa [allUp] using h
      · rw [allUp, List.getElem?_append_right (by simp [allUp]), yU_get _ _ _ _ (by simp only [allUp, List.length_nil] at hb ⊢; omega)]
        simp [allUp]
    · obtain ⟨i1, i2, i3⟩ := ih (by omega) (fun a ha => hE a (by omega))
      refine ⟨?_, ?_, hlast⟩
      · rw [allUp]
        refine chain_app i1 (yU_chain hfn) ?_
        intro u v hu hv
        rw [i3] at hu
        cases hu
        obtain ⟨h1, rfl⟩ := yU_some hv
        have hfp := hE (n - 1) (by omega)
        have e1 : f + ((n - 1 : Nat) : Int) = f + (n : Int) - 1 := by omega
        rw [e1] at hfp
        have hbp := cnt_bd c (f + (n : Int) - 1) (frame_ok hfp).2.2.2.2.2.2 lv
        have hk := link_ok (y := f + (n : Int) - 1) hfp (by rw [show f + (n : Int) - 1 + 1 = f + n by omega]; exact hfn) (cntL c (f + (n : Int) - 1) lv - 1) (by omega) (by rw [show f + (n : Int) - 1 + 1 = f + n by omega]; exact h1)
        rw [show f + (n : Int) - 1 + 1 = f + n by omega, show (((cntL c (f + (n : Int) - 1) lv - 1 : Nat) : Int)) + 1 = (cntL c (f + (n : Int) - 1) lv : Int) by omega] at hk
        exact hk
      · rw [allUp, List.getElem?_append_left ?_]
        · exact i2
        · exact (List.getElem?_eq_some_iff.1 i2).1

theorem flatU_get (l : List Un) (i : Nat) (u : Un) (h : l[i]? = some u) : (flatU l)[i * 3]? = some (.int .i64 u.lv) ∧ (flatU l)[i * 3 + 1]? = some (.int .i64 u.yr) ∧ (flatU l)[i * 3 + 2]? = some (.int .i64 u.ix) := by
  induction l generalizing i with
  | nil => simp at h
  | cons a l ih =>
    cases i with
    | zero => simp at h; subst h; simp [flatU]
    | succ i =>
      have h2 := ih i (by simpa using h)
      have e : flatU (a :: l) = .int .i64 a.lv :: .int .i64 a.yr :: .int .i64 a.ix :: flatU l := rfl
      rw [e, show (i + 1) * 3 = i * 3 + 1 + 1 + 1 by omega]
      simp only [List.getElem?_cons_succ, show i * 3 + 1 + 1 + 1 + 1 = (i * 3 + 1) + 1 + 1 + 1 by omega, show i * 3 + 1 + 1 + 1 + 2 = (i * 3 + 2) + 1 + 1 + 1 by omega]
      exact h2
theorem UnsAt.cell {w : World} {g cap : Nat} {l : List Un} (h : UnsAt w g cap l) {i : Nat} {u : Un} (hi : l[i]? = some u) :
    w.cell? ⟨g, i * 3, none⟩ = some (.int .i64 u.lv) ∧ w.cell? ⟨g, i * 3 + 1, none⟩ = some (.int .i64 u.yr) ∧ w.cell? ⟨g, i * 3 + 2, none⟩ = some (.int .i64 u.ix) := by
  have hil := (List.getElem?_eq_some_iff.1 hi).1
  rcases h.2 with ⟨h1, _⟩ | ⟨g', cap', cur, he, _, hg, hn, _, hs, ht⟩
  · cases h1
  · cases he
    obtain ⟨f0, f1, f2⟩ := flatU_get l i u hi
    have hc : ∀ k, k < l.length * 3 → w.cell? ⟨g, k, none⟩ = (flatU l)[k]? := by
      intro k hk
      rw [cell_of_row w g k cur _ (0, 0) hg, ← ht, List.getElem?_take, if_pos hk]
      simp
    exact ⟨(hc _ (by omega)).trans f0, (hc _ (by omega)).trans f1, (hc _ (by omega)).trans f2⟩
theorem UnsAt.call {w w' : World} {g cap : Nat} {l : List Un} (h : UnsAt w g cap l) (hb : Below w.heap.size w w') : UnsAt w' g cap l := by
  refine ⟨h.1, ?_⟩
  rcases h.2 with h1 | ⟨g', cap', cur, he, h2, hg, h3⟩
  · exact .inl h1
  · exact .inr ⟨g', cap', cur, he, h2, (hb.block g' (Array.getElem?_eq_some_iff.1 hg).1).trans hg, h3⟩
theorem UnsAt.alloc {w : World} {g cap : Nat} {l : List Un} (h : UnsAt w g cap l) (o : Obj) : UnsAt (w.alloc o) g cap l := h.call (((Below.refl _ w).alloc (Nat.le_refl _) o))
theorem UnsAt.lt {w : World} {g cap : Nat} {l : List Un} (h : UnsAt w g cap l) (h0 : 0 < l.length) : g < w.heap.size ∧ l.length ≤ cap := by
  rcases h.2 with ⟨h1, _⟩ | ⟨g', cap', cur, he, h2, hg, h3, _⟩
  · cases h1
  · cases he
    exact ⟨(Array.getElem?_eq_some_iff.1 hg).1, h3⟩
end Go.Proofs.Ytpngdeegdkifnaa
