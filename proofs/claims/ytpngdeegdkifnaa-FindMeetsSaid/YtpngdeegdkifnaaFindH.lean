/- Plain facts of the units that meet a span. -/
import Derived.Test.YtpngdeegdkifnaaFindG
namespace Go.Proofs.Ytpngdeegdkifnaa
open Go.RowKit Qd
set_option linter.unusedSimpArgs false
set_option linter.unusedVariables false

theorem filter_win {α : Type} (l : List α) (K : α → Bool) (m n : Nat) (h : ∀ (p : Nat) (u : α), l[p]? = some u → (K u = true ↔ m ≤ p ∧ p < m + n)) : l.filter K = (l.drop m).take n := by
  induction l generalizing m n with
  | nil => simp
  | cons x l ih =>
    have h0 := h 0 x (by simp)
    have hs : ∀ (p : Nat) (u : α), l[p]? = some u → (K u = true ↔ m ≤ p + 1 ∧ p + 1 < m + n) := fun p u hp => h (p + 1) u (by simpa using hp)
    cases m with
    | zero =>
      cases n with
      | zero =>
        have : K x = false := by cases hk : K x <;> simp_all
        rw [List.filter_cons_of_neg (by simp [this]), ih 0 0 (fun p u hp => by rw [hs p u hp]; omega)]
        simp
      | succ n =>
        have : K x = true := h0.2 (by omega)
        rw [List.filter_cons_of_pos this, ih 0 n (fun p u hp => by rw [hs p u hp]; omega)]
        simp
    | succ m =>
      have : ¬ K x = true := fun hk => by have := h0.1 hk; omega
      rw [List.filter_cons_of_neg this, ih m n (fun p u hp => by rw [hs p u hp]; omega)]
      simp
theorem fd_serv {c : Cal} {d lv : Int} (h1 : 1 ≤ lv) (h5 : lv ≤ 5) : fdE c d lv = servE c d := by
  unfold fdE
  cases hk : c.okB
  · simp [servE, hk]
  · simp [h1, h5]
theorem fd_not {c : Cal} {d lv : Int} (h : ¬ fdE c d lv = 0) : fdU c d lv = ⟨0, 0, 0⟩ := by rw [fdU, if_neg h]

/-- Where a unit stands among those of some years. -/
theorem allUp_at (c : Cal) (lv f : Int) (ny p : Nat) (u : Un) (h : (allUp c lv f ny)[p]? = some u) : ∃ a i : Nat, a < ny ∧ i < cntL c (f + a) lv ∧ u = ⟨lv, f + a, (i : Int) + 1⟩ ∧ p = (allUp c lv f a).length + i := by
  induction ny with
  | zero => simp [allUp] at h
  | succ n ih =>
    by_cases hp : p < (allUp c lv f n).length
    · rw [allUp, List.getElem?_append_left hp] at h
      obtain ⟨a, i, h1, h2, h3, h4⟩ := ih h
      exact ⟨a, i, by omega, h2, h3, h4⟩
    · rw [allUp, List.getElem?_append_right (by omega)] at h
      obtain ⟨h1, h2⟩ := yU_some h
      exact ⟨n, p - (allUp c lv f n).length, by omega, h1, h2, by omega⟩
theorem allUp_get (c : Cal) (lv f : Int) (ny a i : Nat) (ha : a < ny) (hi : i < cntL c (f + a) lv) : (allUp c lv f ny)[(allUp c lv f a).length + i]? = some ⟨lv, f + a, (i : Int) + 1⟩ := by
  induction ny with
  | zero => omega
  | succ n ih =>
    by_cases h : a < n
    · have h1 := pre_lt c lv f a n i h hi
      rw [List.length_append, yU_len] at h1
      rw [allUp, List.getElem?_append_left h1]
      exact ih h
    · obtain rfl : a = n := by omega
      rw [allUp, List.getElem?_append_right (by omega), Nat.add_sub_cancel_left]
      exact yU_get _ _ _ _ hi

/-- Whether a unit lies between two. -/
def keepU (a b u : Un) : Bool := !((u.yr == a.yr && decide (u.ix < a.ix)) || (u.yr == b.yr && decide (b.ix < u.ix)))
theorem keep_iff (a b u : Un) : keepU a b u = true ↔ ¬ (u.yr = a.yr ∧ u.ix < a.ix) ∧ ¬ (u.yr = b.yr ∧ b.ix < u.ix) := by
  simp only [keepU, Bool.not_eq_true', Bool.or_eq_false_iff, Bool.and_eq_false_imp, beq_iff_eq, decide_eq_false_iff_not, not_and]
/-- Why those that meet a span are not told, how many years they are of, and which they are. -/
noncomputable def meetsE (c : Cal) (lv : Int) (s : Sp) : Int := if c.okB = true ∧ (1 ≤ lv ∧ lv ≤ 5) ∧ s.a ≤ s.b then (if fdE c s.a lv = 0 then fdE c s.b lv else fdE c s.a lv) else 1
noncomputable def meetsN (c : Cal) (lv : Int) (s : Sp) : Nat := (servY c s.b - servY c s.a + 1).toNat
noncomputable def meetsL (c : Cal) (lv : Int) (s : Sp) : List Un := if meetsE c lv s = 0 then (allUp c lv (servY c s.a) (meetsN c lv s)).filter (keepU (fdU c s.a lv) (fdU c s.b lv)) else []
theorem meets_ok {c : Cal} {lv : Int} {s : Sp} (h : meetsE c lv s = 0) : c.okB = true ∧ 1 ≤ lv ∧ lv ≤ 5 ∧ s.a ≤ s.b ∧ fdE c s.a lv = 0 ∧ fdE c s.b lv = 0 := by
  unfold meetsE at h
  split at h
  · rename_i hk
    split at h
    · rename_i h1; exact ⟨hk.1, hk.2.1.1, hk.2.1.2, hk.2.2, h1, h⟩
    · exact absurd h (by assumption)
  · omega
theorem yr_mono {c : Cal} {d n : Int} (h : servE c d = 0) (k : servE c n = 0) (hd : d ≤ n) : servY c d ≤ servY c n := by
  obtain ⟨hk, _, y1, _⟩ := serv_ok h
  obtain ⟨_, _, y2, _⟩ := serv_ok k
  have hok : c.Ok := by simpa [Cal.okB] using hk
  have a1 := (ask_ok y1.1).2
  have a2 := (ask_ok y2.1).2
  rcases Int.lt_or_le (servY c n) (servY c d) with hlt | hle
  · have := end_lt_start c hok (y := servY c n) (z := servY c d) (by omega) hlt (by omega)
    have b1 := y1.2.1
    have b2 := y2.2.2
    omega
  · exact hle
theorem meets_facts {c : Cal} {lv : Int} {s : Sp} (h : meetsE c lv s = 0) :
    0 < meetsN c lv s ∧ servY c s.a + (meetsN c lv s : Int) = servY c s.b + 1 ∧ (∀ j : Nat, j < meetsN c lv s → frameE c lv (servY c s.a + j) = 0) ∧
    ∃ m n : Nat, 0 < n ∧ meetsL c lv s = ((allUp c lv (servY c s.a) (meetsN c lv s)).drop m).take n ∧ m + n ≤ (allUp c lv (servY c s.a) (meetsN c lv s)).length ∧
      (allUp c lv (servY c s.a) (meetsN c lv s))[m]? = some (fdU c s.a lv) ∧ (allUp c lv (servY c s.a) (meetsN c lv s))[m + n - 1]? = some (fdU c s.b lv) := by
  obtain ⟨hk, h1, h5, hab, ha, hb⟩ := meets_ok h
  obtain ⟨_, _, _, sa, _, ya, fa⟩ := fd_ok ha
  obtain ⟨_, _, _, sb, _, yb, fb⟩ := fd_ok hb
  have hm := yr_mono sa sb hab
  obtain ⟨ia, ea, ca, da1, da2⟩ := fd_in ha
  obtain ⟨ib, eb, cb, db1, db2⟩ := fd_in hb
  obtain ⟨hok, _, _, _, fa1, _, aA⟩ := frame_ok fa
  obtain ⟨_, _, _, _, _, fb2, aB⟩ := frame_ok fb
  obtain ⟨ny, hN⟩ : ∃ ny, meetsN c lv s = ny + 1 := ⟨(servY c s.b - servY c s.a).toNat, by unfold meetsN; omega⟩
  have hL : meetsL c lv s = (allUp c lv (servY c s.a) (meetsN c lv s)).filter (keepU (fdU c s.a lv) (fdU c s.b lv)) := by rw [meetsL, if_pos h]
  have hy : servY c s.a + (ny : Int) = servY c s.b := by unfold meetsN at hN; omega
  rw [hL, hN]
  have hF : ∀ j : Nat, j < ny + 1 → frameE c lv (servY c s.a + j) = 0 := fun j hj => frame_is hok h1 h5 (by omega) (by omega)
  have c0 : (allUp c lv (servY c s.a) 0).length = 0 := rfl
  have c1 : (allUp c lv (servY c s.a) 1).length = cntL c (servY c s.a) lv := by simp [allUp, yU_len]
  have cl : (allUp c lv (servY c s.a) (ny + 1)).length = (allUp c lv (servY c s.a) ny).length + cntL c (servY c s.b) lv := by rw [allUp, List.length_append, yU_len, hy]
  have big : ∀ a : Nat, 0 < a → ia < (allUp c lv (servY c s.a) a).length := fun a h0 => by
    have := allUp_mono c lv (servY c s.a) 1 (a - 1)
    rw [show 1 + (a - 1) = a by omega] at this
    omega
  have key : ia ≤ (allUp c lv (servY c s.a) ny).length + ib := by
    by_cases h0 : 0 < ny
    · have := big ny h0; omega
    · obtain rfl : ny = 0 := by omega
      have hyy : servY c s.b = servY c s.a := by omega
      rw [hyy] at db1 db2 cb
      rcases Nat.lt_or_ge ib ia with hlt | hge
      · have m1 := cut_mono c (servY c s.a) ya.1 lv h1 h5 (show ib + 1 ≤ ia by omega) (by omega)
        have m2 := dayW_le c (servY c s.a) ya.1 m1 (cut_le_nWk c _ ya.1 lv h1 h5 ia (by omega))
        omega
      · omega
  refine ⟨by omega, by omega, hF, ia, (allUp c lv (servY c s.a) ny).length + ib + 1 - ia, by omega, ?_, by omega, ?_, ?_⟩
  · refine filter_win _ _ _ _ fun p u hp => ?_
    obtain ⟨a, i, l1, l2, rfl, hpa⟩ := allUp_at c lv _ _ p u hp
    rw [keep_iff, ea, eb]
    simp only
    have g1 : a = 0 ∨ ia < (allUp c lv (servY c s.a) a).length := by
      by_cases h0 : 0 < a
      · exact .inr (big a h0)
      · left; omega
    have g2 : a = ny ∨ (allUp c lv (servY c s.a) a).length + i < (allUp c lv (servY c s.a) ny).length := by
      by_cases h0 : a = ny
      · exact .inl h0
      · have := pre_lt c lv (servY c s.a) a ny i (by omega) l2
        rw [List.length_append, yU_len] at this
        exact .inr this
    have g3 : a = 0 → (allUp c lv (servY c s.a) a).length = 0 := by rintro rfl; exact c0
    have g4 : a = ny → (allUp c lv (servY c s.a) a).length = (allUp c lv (servY c s.a) ny).length := by rintro rfl; rfl
    generalize (allUp c lv (servY c s.a) a).length = X at *
    generalize (allUp c lv (servY c s.a) ny).length = Y at *
    generalize servY c s.a = F at *
    generalize servY c s.b = G at *
    clear hp hF big cl c0 c1 hL hN
    subst hpa
    have e1 : (F + (a : Int) = F) ↔ a = 0 := by omega
    have e2 : (F + (a : Int) = G) ↔ a = ny := by omega
    rw [e1, e2]
    rcases g1 with g1 | g1 <;> rcases g2 with g2 | g2 <;> omega
  · rw [ea]
    have := allUp_get c lv (servY c s.a) (ny + 1) 0 ia (by omega) (by simpa using ca)
    simpa [allUp] using this
  · rw [eb]
    have := allUp_get c lv (servY c s.a) (ny + 1) ny ib (by omega) (by rw [hy]; exact cb)
    rw [hy] at this
    rw [show ia + ((allUp c lv (servY c s.a) ny).length + ib + 1 - ia) - 1 = (allUp c lv (servY c s.a) ny).length + ib by omega]
    exact this
/-- They are a chain, from the unit of the first day to that of the last one. -/
theorem meets_chain {c : Cal} {lv : Int} {s : Sp} (h : meetsE c lv s = 0) :
    ChainU c (meetsL c lv s) ∧ (meetsL c lv s)[0]? = some (fdU c s.a lv) ∧ (meetsL c lv s)[(meetsL c lv s).length - 1]? = some (fdU c s.b lv) ∧ 0 < (meetsL c lv s).length ∧ (meetsL c lv s).length ≤ 60 * meetsN c lv s := by
  obtain ⟨n0, hy, hF, m, n, hn, hL, hlen, g0, g1⟩ := meets_facts h
  obtain ⟨k0, k1, k2⟩ := all_facts c lv (servY c s.a) (meetsN c lv s) n0 hF
  have al := (all_len c lv (servY c s.a) (meetsN c lv s) hF).1
  have hl : (meetsL c lv s).length = n := by rw [hL, List.length_take, List.length_drop]; omega
  have hg : ∀ j, j < n → (meetsL c lv s)[j]? = (allUp c lv (servY c s.a) (meetsN c lv s))[m + j]? := fun j hj => by
    rw [hL, List.getElem?_take, if_pos hj, List.getElem?_drop]
  refine ⟨?_, ?_, ?_, by omega, by omega⟩
  · intro j u v hu hv
    have j1 : j + 1 < n := by rw [← hl]; exact (List.getElem?_eq_some_iff.1 hv).1
    rw [hg j (by omega)] at hu
    rw [hg (j + 1) j1] at hv
    exact k0 (m + j) u v hu hv
  · rw [hg 0 hn]; exact g0
  · rw [hl, hg (n - 1) (by omega), ← g1]
    congr 1
    omega
theorem meets_no {c : Cal} {lv : Int} {s : Sp} (h : ¬ meetsE c lv s = 0) : meetsL c lv s = [] := by rw [meetsL, if_neg h]
/-- Few years, if the span is short. -/
theorem meets_few {c : Cal} {lv : Int} {s : Sp} (h : meetsE c lv s = 0) (hs : s.b - s.a ≤ 2000) : meetsN c lv s ≤ 7 := by
  obtain ⟨hk, h1, h5, hab, ha, hb⟩ := meets_ok h
  obtain ⟨_, _, _, sa, _, ya, fa⟩ := fd_ok ha
  obtain ⟨_, _, _, sb, _, yb, fb⟩ := fd_ok hb
  have hm := yr_mono sa sb hab
  obtain ⟨n0, hy, _⟩ := meets_facts h
  obtain ⟨hok, a1, a2⟩ := ask_ok ya.1
  obtain ⟨_, b1, b2⟩ := ask_ok yb.1
  rcases Nat.lt_or_ge 7 (meetsN c lv s) with hlt | hge
  · have hge : servY c s.a + 7 ≤ servY c s.b := by omega
    have e1 := end_mono c (servY c s.a) hok (by omega) (servY c s.b - 1 - servY c s.a).toNat (by omega)
    rw [show servY c s.a + ((servY c s.b - 1 - servY c s.a).toNat : Int) = servY c s.b - 1 by omega] at e1
    have e2 := end_lt_start c hok (y := servY c s.b - 1) (z := servY c s.b) (by omega) (by omega) (by omega)
    have := ya.2.2
    have := yb.2.1
    omega
  · exact hge
end Go.Proofs.Ytpngdeegdkifnaa
