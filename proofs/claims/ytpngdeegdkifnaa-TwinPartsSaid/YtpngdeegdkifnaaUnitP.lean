/- Units: the plain law of their weeks and days. -/
import Derived.Test.YtpngdeegdkifnaaUnitD
namespace Go.Proofs.Ytpngdeegdkifnaa
open Go.RowKit Qd
set_option linter.unusedSimpArgs false
set_option linter.unusedVariables false

theorem un_lv {c : Cal} {u : Un} (h : unitE c u = 0) : frameE c u.lv u.yr = 0 ∧ 1 ≤ u.lv ∧ u.lv ≤ 5 ∧ askE c u.yr 1601 = 0 ∧ u.ix = (uI u : Int) + 1 ∧ uI u < cntL c u.yr u.lv := by
  obtain ⟨hf, hx, hi⟩ := unit_ok h
  obtain ⟨hok, hok2, h1, h5, hy1, hy2, hA⟩ := frame_ok hf
  exact ⟨hf, h1, h5, hA, hx, hi⟩
theorem frame_lv {c : Cal} {lv y : Int} (h : frameE c lv y = 0) (lv2 : Int) (h1 : 1 ≤ lv2) (h5 : lv2 ≤ 5) : frameE c lv2 y = 0 := by
  obtain ⟨hok, hok2, _, _, hy1, hy2, hA⟩ := frame_ok h
  exact frame_is hok h1 h5 hy1 hy2
theorem sp_get {c : Cal} {u : Un} (h : unitE c u = 0) : spV c u = ⟨dayW c u.yr (cutA c u), dayW c u.yr (cutB c u) - 1⟩ := by
  simp [spV, h, spanF, spanT]
theorem un_mk {c : Cal} {lv y : Int} (hf : frameE c lv y = 0) (i : Nat) (hi : i < cntL c y lv) :
    unitE c ⟨lv, y, (i : Int) + 1⟩ = 0 ∧ cutA c ⟨lv, y, (i : Int) + 1⟩ = cutN c y lv i ∧ cutB c ⟨lv, y, (i : Int) + 1⟩ = cutN c y lv (i + 1) := by
  have e : uI ⟨lv, y, (i : Int) + 1⟩ = i := by simp [uI]
  exact ⟨unit_is hf (by simp; omega) (by simp; omega), by simp [cutA, e], by simp [cutB, e]⟩
/-- The days of the unit behind i of them. -/
theorem sp_mk {c : Cal} {lv y : Int} (hf : frameE c lv y = 0) (i : Nat) (hi : i < cntL c y lv) :
    spV c ⟨lv, y, (i : Int) + 1⟩ = ⟨dayW c y (cutN c y lv i), dayW c y (cutN c y lv (i + 1)) - 1⟩ := by
  obtain ⟨h, ha, hb⟩ := un_mk hf i hi
  rw [sp_get h, ha, hb]
theorem up_facts {c : Cal} {u : Un} {lv : Int} (h : unitE c u = 0) (h1 : 1 ≤ lv) (h2 : lv ≤ u.lv) :
    ∃ k : Nat, upE c u lv = 0 ∧ upV c u lv = ⟨lv, u.yr, (k : Int) + 1⟩ ∧ k < cntL c u.yr lv ∧ cutN c u.yr lv k ≤ cutA c u ∧ cutB c u ≤ cutN c u.yr lv (k + 1) := by
  obtain ⟨hf, hl1, hl5, hA, hx, hi⟩ := un_lv h
  obtain ⟨e1, e2, e3⟩ := up_ok c u.yr hA lv u.lv h1 h2 hl5 (uI u) hi
  have h0 : upE c u lv = 0 := by unfold upE; rw [if_pos h, if_pos ⟨h1, h2⟩]
  exact ⟨_, h0, by rw [upV, if_pos h0]; rfl, e1, e2, e3⟩
theorem up_bad_arg {c : Cal} {u : Un} {lv : Int} (h : unitE c u = 0) (hl : ¬ (1 ≤ lv ∧ lv ≤ u.lv)) : upE c u lv = 1 ∧ upV c u lv = ⟨0, 0, 0⟩ := by
  have h0 : upE c u lv = 1 := by unfold upE; rw [if_pos h, if_neg hl]
  exact ⟨h0, by rw [upV, if_neg (by omega)]⟩
theorem up_bad_unit {c : Cal} {u : Un} {lv : Int} (h : ¬ unitE c u = 0) : upE c u lv = unitE c u ∧ upV c u lv = ⟨0, 0, 0⟩ := by
  have h0 : upE c u lv = unitE c u := by unfold upE; rw [if_neg h]
  exact ⟨h0, by rw [upV, if_neg (by omega)]⟩
/-- The unit of a level in which weeks lie is one. -/
theorem ix_uniq {c : Cal} {y lv : Int} (hA : askE c y 1601 = 0) (h1 : 1 ≤ lv) (h5 : lv ≤ 5) {i j a b : Nat} (hab : a < b) (hi : i < cntL c y lv) (hj : j < cntL c y lv) (hb : b ≤ nWk c y)
    (ha : cutN c y lv i ≤ a) (ha2 : b ≤ cutN c y lv (i + 1)) (hc : cutN c y lv j ≤ a) (hc2 : b ≤ cutN c y lv (j + 1)) : i = j := by
  have e1 := ix_eq c y hA lv h1 h5 a i hi ha (by omega)
  have e2 := ix_eq c y hA lv h1 h5 a j hj hc (by omega)
  omega
theorem cnt_5 (c : Cal) (y : Int) : cntL c y 5 = nWk c y := by simp [cntL]
theorem cnt_4 (c : Cal) (y : Int) : cntL c y 4 = nPer c y := by simp [cntL]
theorem count_yes {c : Cal} {lv y : Int} (h : frameE c lv y = 0) : countV c lv y = (cntL c y lv : Int) := by simp [countV, h]
theorem count_no {c : Cal} {lv y : Int} (h : ¬ frameE c lv y = 0) : countV c lv y = 0 := by simp [countV, h]
end Go.Proofs.Ytpngdeegdkifnaa
