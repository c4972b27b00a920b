/- Twin, plain: a unit compared with its own year, and units of years by months. -/
import Derived.Test.YtamnccechaooaaaGreatMTq
namespace Go.Proofs.YtamnccechaooaaaGreat
open Go.RowKit Qd
set_option linter.unusedSimpArgs false
set_option linter.unusedVariables false

/-- The weeks of a unit are together its days. -/
theorem wks_run {c : Cal} {v : Un} (hv : unitE c v = 0) : runsL ((wksL c v).map (spV c)) = [spV c v] ∧ 0 < (wksL c v).length ∧ inB c (wksL c v) = true := by
  obtain ⟨hf, l1, l5, hA, hx, hi⟩ := un_lv hv
  obtain ⟨hok, hk, _, _, hy1, hy2, _⟩ := frame_ok hf
  have hab := cutAB hv
  have hf5 : frameE c 5 v.yr = 0 := srv_frame hk ⟨hy1, hy2⟩ (by decide) (by decide)
  obtain ⟨q1, q2⟩ := wk_map (cutA c v) (cutB c v - cutA c v) hf5 (by omega)
  refine ⟨?_, by rw [wksL, wkU_len]; omega, ?_⟩
  · rw [wksL, q1, adjS, runs_one _ _ (by omega), sp_get hv]
    simp only [Nat.add_zero]
    rw [show cutA c v + (cutB c v - cutA c v) = cutB c v by omega]
  · refine List.all_eq_true.2 fun w hw => ?_
    obtain ⟨j, hj, rfl⟩ := List.mem_map.1 hw
    simp [hy1, hy2]
theorem cmp_self {c : Cal} {u : Un} (hU : unitE c u = 0) (hk6 : c.kind ≠ 6) : cmpL c u.yr u.yr (wksL c u) = wksL c u := by
  obtain ⟨hf, l1, l5, hA, hx, hi⟩ := un_lv hU
  obtain ⟨hok, hk, _, _, hy1, hy2, _⟩ := frame_ok hf
  have hy : srv c u.yr := ⟨hy1, hy2⟩
  have hab := cutAB hU
  have hw := nwk_wks hk hk6 hy
  rcases cmp_shape hU hk6 hy with ⟨s, _, _, h, e2, _⟩ | ⟨a, _, _, _, h1, h2, _⟩ | ⟨a, _, _, _, h1, h2, _⟩
  · have hx1 := h ((cutA c u : Int) + 1) (by omega) (by omega)
    have hs : s = 0 := by
      rcases cw_shift hk hk6 hy hy (x := (cutA c u : Int) + 1) ⟨by omega, by omega⟩ with g | g | g | g | g | g <;> omega
    subst hs
    rw [e2, segL, wksL, wkU]
    refine upto_congr fun j hj => ?_
    rw [plU, if_neg (by omega), if_pos (by omega)]
    simp only [Un.mk.injEq, true_and]
    omega
  · omega
  · omega
theorem mon_self {c : Cal} {u : Un} (hU : unitE c u = 0) : monthL c u u.yr = wksL c u := by
  obtain ⟨hf, l1, l5, hA, hx, hi⟩ := un_lv hU
  obtain ⟨hok, hk, _, _, hy1, hy2, _⟩ := frame_ok hf
  unfold monthL
  by_cases h5 : u.lv = 5
  · rw [if_pos h5]
    obtain ⟨i, e1, e0, hg, hgt, e3, e4, e5, e6⟩ := mon_week (t := u.yr) hU ⟨hy1, hy2⟩ h5
    rw [e1]
    simp only
    rw [wksL, show ((cutA c ⟨4, u.yr, (i : Int) + 1⟩ : Int) + 1 + (u.ix - ((cutA c ⟨4, u.yr, (i : Int) + 1⟩ : Int) + 1))) = (cutA c u : Int) + 1 by omega, show (min (cutB c ⟨4, u.yr, (i : Int) + 1⟩ : Int) ((cutA c u : Int) + 1) + 1 - ((cutA c u : Int) + 1)).toNat = cutB c u - cutA c u by omega]
  · rw [if_neg h5]
/-- In its own year a unit is compared with itself. -/
theorem tw_self {c : Cal} {u : Un} (hU : unitE c u = 0) : twE c u 0 = 0 ∧ rnL c u 0 = [spV c u] := by
  obtain ⟨hf, l1, l5, hA, hx, hi⟩ := un_lv hU
  obtain ⟨hok, hk, _, _, hy1, hy2, _⟩ := frame_ok hf
  obtain ⟨w1, w2, w3⟩ := wks_run hU
  have e : twL0 c u 0 = wksL c u := by
    rw [twL0, Int.add_zero]
    split
    · exact mon_self hU
    · rename_i h6; exact cmp_self hU h6
  have hE : twE c u 0 = 0 := by
    rw [twE, if_pos hU, if_pos ⟨by omega, by omega⟩, e, if_pos w3, if_neg (by omega)]
  refine ⟨hE, ?_⟩
  rw [rnL, (tw_ok hE).2.2.2.2, e, w1]
/-- By months a unit is compared with that of the same number, a week with that of its place. -/
theorem mon_run {c : Cal} {u : Un} {k : Int} (h : twE c u k = 0) (h6 : c.kind = 6) :
    (¬ u.lv = 5 ∧ unitE c ⟨u.lv, u.yr + k, u.ix⟩ = 0 ∧ rnL c u k = [spV c ⟨u.lv, u.yr + k, u.ix⟩]) ∨
    (u.lv = 5 ∧ ∃ i : Nat, upV c u 4 = ⟨4, u.yr, (i : Int) + 1⟩ ∧ upE c u 4 = 0 ∧ unitE c ⟨4, u.yr, (i : Int) + 1⟩ = 0 ∧ unitE c ⟨4, u.yr + k, (i : Int) + 1⟩ = 0 ∧
      unitE c ⟨5, u.yr + k, u.ix - ((cutA c ⟨4, u.yr, (i : Int) + 1⟩ : Int) + 1) + ((cutA c ⟨4, u.yr + k, (i : Int) + 1⟩ : Int) + 1)⟩ = 0 ∧
      rnL c u k = [spV c ⟨5, u.yr + k, u.ix - ((cutA c ⟨4, u.yr, (i : Int) + 1⟩ : Int) + 1) + ((cutA c ⟨4, u.yr + k, (i : Int) + 1⟩ : Int) + 1)⟩]) := by
  obtain ⟨hU, ht, hin, hlen, hL⟩ := tw_ok h
  obtain ⟨hf, l1, l5, hA, hx, hi⟩ := un_lv hU
  obtain ⟨hok, hk, _, _, hy1, hy2, _⟩ := frame_ok hf
  have hst : srv c (u.yr + k) := ht
  have e : twL0 c u k = monthL c u (u.yr + k) := by rw [twL0, if_pos h6]
  rw [e] at hlen hL
  by_cases h5 : u.lv = 5
  · right
    obtain ⟨i, e1, e0, hg, hgt, e3, e4, e5, e6⟩ := mon_week hU hst h5
    refine ⟨h5, i, e1, e0, hg, hgt, ?_⟩
    have hb := cutAB hgt
    simp only at hb
    have hm : monthL c u (u.yr + k) = wkU ⟨5, u.yr + k, (cutA c ⟨4, u.yr + k, (i : Int) + 1⟩ : Int) + 1 + (u.ix - ((cutA c ⟨4, u.yr, (i : Int) + 1⟩ : Int) + 1))⟩ (min (cutB c ⟨4, u.yr + k, (i : Int) + 1⟩ : Int) ((cutA c ⟨4, u.yr + k, (i : Int) + 1⟩ : Int) + 1 + (u.ix - ((cutA c ⟨4, u.yr, (i : Int) + 1⟩ : Int) + 1))) + 1 - ((cutA c ⟨4, u.yr + k, (i : Int) + 1⟩ : Int) + 1 + (u.ix - ((cutA c ⟨4, u.yr, (i : Int) + 1⟩ : Int) + 1)))).toNat := by rw [monthL, if_pos h5, e1]
    rw [hm] at hlen hL
    rw [wkU_len] at hlen
    generalize hA1 : cutA c ⟨4, u.yr + k, (i : Int) + 1⟩ = A1 at *
    generalize hA0 : cutA c ⟨4, u.yr, (i : Int) + 1⟩ = A0 at *
    generalize hB1 : cutB c ⟨4, u.yr + k, (i : Int) + 1⟩ = B1 at *
    obtain ⟨j, hj⟩ : ∃ j : Nat, (A1 : Int) + 1 + (u.ix - ((A0 : Int) + 1)) = (j : Int) + 1 := ⟨A1 + (cutA c u - A0), by omega⟩
    rw [show u.ix - ((A0 : Int) + 1) + ((A1 : Int) + 1) = (j : Int) + 1 by omega]
    rw [hj] at hL hlen
    have hm1 : (min (B1 : Int) ((j : Int) + 1) + 1 - ((j : Int) + 1)).toNat = 1 := by omega
    rw [hm1] at hL
    have hjn : j < nWk c (u.yr + k) := by omega
    have hs := wk_span (srv_frame hk hst (by decide) (by decide) : frameE c 5 (u.yr + k) = 0) j hjn
    refine ⟨hs.1, ?_⟩
    rw [rnL, hL]
    simp [wkU, upto, runsL, runAdd]
  · left
    have hU2 := mon_same hU hst h5
    obtain ⟨w1, _, _⟩ := wks_run hU2
    refine ⟨h5, hU2, ?_⟩
    rw [rnL, hL, monthL, if_neg h5, w1]
theorem unit_codes (c : Cal) (u : Un) : unitE c u = 0 ∨ unitE c u = 13 ∨ unitE c u = 11 ∨ unitE c u = 1 := by
  unfold unitE frameE
  repeat' split
  all_goals omega
/-- By months only a week may have none. -/
theorem mon_gone {c : Cal} {u : Un} {k : Int} (h6 : c.kind = 6) (h : twE c u k = 12) : u.lv = 5 := by
  by_cases hU : unitE c u = 0
  · by_cases ht : c.first ≤ u.yr + k ∧ u.yr + k ≤ c.last
    · by_cases h5 : u.lv = 5
      · exact h5
      · have hU2 := mon_same hU (show srv c (u.yr + k) from ht) h5
        obtain ⟨_, w2, _⟩ := wks_run hU2
        rw [twE, if_pos hU, if_pos ht] at h
        have e : twL0 c u k = wksL c ⟨u.lv, u.yr + k, u.ix⟩ := by rw [twL0, if_pos h6, monthL, if_neg h5]
        rw [e, if_neg (show ¬ (wksL c ⟨u.lv, u.yr + k, u.ix⟩).length = 0 by omega)] at h
        split at h <;> omega
    · rw [twE, if_pos hU, if_neg ht] at h; omega
  · rw [twE, if_neg hU] at h
    have := unit_codes c u
    omega
/-- How many weeks a unit is compared with. -/
theorem tw_count {c : Cal} {u : Un} {k : Int} (h : twE c u k = 0) (hk6 : c.kind ≠ 6) :
    (c.policy = 3 ∧ 0 < addedV c u.yr ∧ addedV c (u.yr + k) = 0 ∧ (cutA c u : Int) + 1 ≤ addedV c u.yr ∧ addedV c u.yr ≤ cutB c u ∧ ((twL c u k).length : Int) = (cutB c u : Int) - cutA c u - 1) ∨
    (¬ (c.policy = 3 ∧ 0 < addedV c u.yr ∧ addedV c (u.yr + k) = 0 ∧ (cutA c u : Int) + 1 ≤ addedV c u.yr ∧ addedV c u.yr ≤ cutB c u) ∧ ((twL c u k).length : Int) = (cutB c u : Int) - cutA c u) := by
  obtain ⟨hU, ht, hin, hlen, hL⟩ := tw_ok h
  obtain ⟨hf, l1, l5, hA, hx, hi⟩ := un_lv hU
  obtain ⟨hok, hk, _, _, hy1, hy2, _⟩ := frame_ok hf
  have hst : srv c (u.yr + k) := ht
  have hab := cutAB hU
  have ad := added_two hk hk6 ⟨hy1, hy2⟩ hst
  have e : twL0 c u k = cmpL c u.yr (u.yr + k) (wksL c u) := by rw [twL0, if_neg hk6]
  rw [hL, e]
  rcases cmp_shape hU hk6 hst with ⟨s, s1, s2, _, e2, hno⟩ | ⟨a, a1, a2, p, wy, wt, rfl, _, _, e2⟩ | ⟨a, a1, a2, p, wy, wt, rfl, _, e2⟩
  · right
    rw [e2, segL_len]
    refine ⟨fun hq => ?_, by omega⟩
    omega
  · left
    rw [e2, segL_len]
    omega
  · right
    rw [e2, List.length_append, segL_len, segL_len]
    refine ⟨fun hq => ?_, by omega⟩
    omega

/-- The runs of days of a unit of a year of weeks. -/
theorem tw_week {c : Cal} {u : Un} {k : Int} (h : twE c u k = 0) (hk6 : c.kind ≠ 6) :
    ∃ (a b : Int) (m n : Nat), 0 < m ∧ m + n ≤ 60 ∧ (twL c u k).length = m + n ∧ (rnL c u k = if n = 0 then [⟨a, a + 7 * m - 1⟩] else [⟨a, a + 7 * m - 1⟩, ⟨b, b + 7 * n - 1⟩]) ∧ (0 < n → a + 7 * m < b) ∧ 0 ≤ a ∧ a ≤ 3068037 ∧ (0 < n → b ≤ 3068037) := by
  obtain ⟨hU, ht, hin, hlen, hL⟩ := tw_ok h
  obtain ⟨hf, l1, l5, hA, hx, hi⟩ := un_lv hU
  obtain ⟨hok, hk, _, _, hy1, hy2, _⟩ := frame_ok hf
  have hst : srv c (u.yr + k) := ht
  have hab := cutAB hU
  have hb60 := nWk_bd c _ hA
  have e : twL0 c u k = cmpL c u.yr (u.yr + k) (wksL c u) := by rw [twL0, if_neg hk6]
  have key : ∀ (n : Int) (m : Nat), 0 < m → (∀ w ∈ segL c (u.yr + k) n m, w ∈ twL c u k) → -40 ≤ n ∧ n + m ≤ 100 → 0 ≤ startV c (u.yr + k) + 7 * (n - 1) ∧ startV c (u.yr + k) + 7 * (n - 1) ≤ 3068037 := by
    intro n m hm hmem hn
    have hw : plU c (u.yr + k) n ∈ segL c (u.yr + k) n m := List.mem_map.2 ⟨0, List.mem_range.2 hm, by simp⟩
    have hz : srv c (plU c (u.yr + k) n).yr := inB_mem hin (by rw [← hL]; exact hmem _ hw)
    obtain ⟨p1, _, p2⟩ := pl_span hk hk6 hst (n := n) (by omega) hz
    have := sp_bd2 p1
    rw [p2] at this
    simp only at this
    omega
  rw [rnL]
  rw [hL] at key ⊢
  rw [e] at hlen hin key ⊢
  rcases cmp_shape hU hk6 hst with ⟨s, s1, s2, _, e2, _⟩ | ⟨a, a1, a2, _, _, _, _, _, _, e2⟩ | ⟨a, a1, a2, _, _, _, _, _, e2⟩
  · rw [e2] at hlen hin key ⊢
    rw [segL_len] at hlen ⊢
    obtain ⟨q1, q2⟩ := seg_map (n := (cutA c u : Int) + 1 + s) (cutB c u - cutA c u) hk hk6 hst (by omega) (fun w hw => inB_mem hin hw)
    have hb := key _ _ hlen (fun w hw => hw) (by omega)
    refine ⟨startV c (u.yr + k) + 7 * ((cutA c u : Int) + 1 + s - 1), 0, _, 0, hlen, by omega, rfl, ?_, fun h0 => absurd h0 (by omega), hb.1, hb.2, fun h0 => absurd h0 (by omega)⟩
    rw [q1, if_pos rfl, adjS, runs_one _ _ hlen]
    simp only [List.cons.injEq, Sp.mk.injEq, and_true]
    constructor <;> omega
  · rw [e2] at hlen hin key ⊢
    rw [segL_len] at hlen ⊢
    obtain ⟨q1, q2⟩ := seg_map (n := (cutA c u : Int) + 1) (cutB c u - cutA c u - 1) hk hk6 hst (by omega) (fun w hw => inB_mem hin hw)
    have hb := key _ _ hlen (fun w hw => hw) (by omega)
    refine ⟨startV c (u.yr + k) + 7 * ((cutA c u : Int) + 1 - 1), 0, _, 0, hlen, by omega, rfl, ?_, fun h0 => absurd h0 (by omega), hb.1, hb.2, fun h0 => absurd h0 (by omega)⟩
    rw [q1, if_pos rfl, adjS, runs_one _ _ hlen]
    simp only [List.cons.injEq, Sp.mk.injEq, and_true]
    constructor <;> omega
  · rw [e2] at hlen hin key ⊢
    rw [List.length_append, segL_len, segL_len] at hlen ⊢
    obtain ⟨q1, q2⟩ := seg_map (n := (cutA c u : Int) + 1) (a - 1 - cutA c u).toNat hk hk6 hst (by omega) (fun w hw => inB_mem hin (List.mem_append.2 (.inl hw)))
    obtain ⟨r1, r2⟩ := seg_map (n := a + 1) (cutB c u - a + 1).toNat hk hk6 hst (by omega) (fun w hw => inB_mem hin (List.mem_append.2 (.inr hw)))
    have hb := key _ _ (show 0 < (a - 1 - cutA c u).toNat by omega) (fun w hw => List.mem_append.2 (.inl hw)) (by omega)
    have hc := key _ _ (show 0 < (cutB c u - a + 1).toNat by omega) (fun w hw => List.mem_append.2 (.inr hw)) (by omega)
    refine ⟨startV c (u.yr + k) + 7 * ((cutA c u : Int) + 1 - 1), startV c (u.yr + k) + 7 * (a + 1 - 1), (a - 1 - cutA c u).toNat, (cutB c u - a + 1).toNat, by omega, by omega, rfl, ?_, fun h0 => by omega, hb.1, hb.2, fun _ => hc.2⟩
    rw [List.map_append, q1, r1, rn_form (by omega) (fun _ => by omega), if_neg (by omega), if_neg (by omega)]
    simp only [List.cons.injEq, Sp.mk.injEq, and_true]
    refine ⟨⟨?_, ?_⟩, ?_, ?_⟩ <;> omega
/-- The days of some spans, together. -/
def sumR (R : List Sp) : Int := (R.map fun s => s.b - s.a + 1).sum
theorem sumR_snoc (R : List Sp) (s : Sp) : sumR (R ++ [s]) = sumR R + (s.b - s.a + 1) := by simp [sumR]
/-- A year that is compared, where weeks are dropped, has as many days as the shorter one. -/
theorem year_sum {c : Cal} {u : Un} {k : Int} (h : twE c u k = 0) (h1 : u.lv = 1) (hp : c.policy = 3) : c.kind ≠ 6 ∧ sumR (rnL c u k) = min (daysV c u.yr) (daysV c (u.yr + k)) ∧ askE c u.yr 1601 = 0 ∧ askE c (u.yr + k) 1601 = 0 ∧ (rnL c u k).length ≤ 2 ∧ (∀ j, 0 ≤ sumR ((rnL c u k).take j) ∧ sumR ((rnL c u k).take j) ≤ 420) ∧ ∀ s ∈ rnL c u k, 0 ≤ s.a ∧ s.a ≤ s.b ∧ s.b ≤ 3068500 := by
  obtain ⟨hU, ht, hin, hlen, hL⟩ := tw_ok h
  obtain ⟨hf, l1, l5, hA, hx, hi⟩ := un_lv hU
  obtain ⟨hok, hk, _, _, hy1, hy2, _⟩ := frame_ok hf
  have hst : srv c (u.yr + k) := ht
  have hk6 : c.kind ≠ 6 := fun h6 => by
    have := hok.2.1.2.2 h6
    omega
  have hcn := tw_count h hk6
  obtain ⟨a, b, m, n, g1, g2, g3, g4, g5, g6, g7, g8⟩ := tw_week h hk6
  have ad := added_two hk hk6 ⟨hy1, hy2⟩ hst
  obtain ⟨_, aY, wY, dY⟩ := wks_beside hk hk6 ⟨hy1, hy2⟩ u.yr (by omega) (by omega)
  obtain ⟨_, aT, wT, dT⟩ := wks_beside hk hk6 hst (u.yr + k) (by omega) (by omega)
  have hw := nwk_wks hk hk6 (show srv c u.yr from ⟨hy1, hy2⟩)
  have hu0 : uI u = 0 := by rw [h1] at hi; simp [cntL] at hi; exact hi
  have hcA : cutA c u = 0 := by rw [cutA, hu0, cut_0]
  have hcB : cutB c u = nWk c u.yr := by
    rw [cutB, hu0, h1]
    have := cut_end c u.yr 1 (by decide) (by decide)
    simpa [cntL] using this
  have had := added_bd hk hk6 ⟨hy1, hy2⟩
  rw [hcA, hcB] at hcn
  have hsum : sumR (rnL c u k) = 7 * ((m : Int) + n) := by
    rw [g4]
    split
    · simp [sumR]; omega
    · simp [sumR]; omega
  refine ⟨hk6, ?_, aY, aT, ?_, ?_, ?_⟩
  · rw [hsum, dY, dT]
    omega
  · rw [g4]; split <;> simp
  · intro j
    rw [g4]
    split
    · rcases j with _ | j
      · simp [sumR]
      · simp [sumR]; omega
    · rcases j with _ | _ | j
      · simp [sumR]
      · simp [sumR]; omega
      · simp [sumR]; omega
  · intro s hs
    rw [g4] at hs
    split at hs
    · simp only [List.mem_singleton] at hs
      subst hs
      simp only
      omega
    · simp only [List.mem_cons, List.not_mem_nil, or_false] at hs
      rcases hs with rfl | rfl
      · simp only; omega
      · simp only; omega
/-- A year has weeks to be compared with. -/
theorem year_gone {c : Cal} {u : Un} {k : Int} (hU : unitE c u = 0) (h1 : u.lv = 1) (hp : c.policy = 3) : ¬ twE c u k = 12 := by
  obtain ⟨hf, l1, l5, hA, hx, hi⟩ := un_lv hU
  obtain ⟨hok, hk, _, _, hy1, hy2, _⟩ := frame_ok hf
  have hk6 : c.kind ≠ 6 := fun h6 => by
    have := hok.2.1.2.2 h6
    omega
  intro h
  rw [twE, if_pos hU] at h
  split at h
  · rename_i ht
    have hst : srv c (u.yr + k) := ht
    have hu0 : uI u = 0 := by rw [h1] at hi; simp [cntL] at hi; exact hi
    have hcA : cutA c u = 0 := by rw [cutA, hu0, cut_0]
    have hcB : cutB c u = nWk c u.yr := by
      rw [cutB, hu0, h1]
      have := cut_end c u.yr 1 (by decide) (by decide)
      simpa [cntL] using this
    have hb := nWk_bd c _ hA
    have e : 0 < (twL0 c u k).length := by
      rw [twL0, if_neg hk6]
      rcases cmp_shape hU hk6 hst with ⟨s, _, _, _, e2, _⟩ | ⟨a, _, _, _, _, _, _, _, _, e2⟩ | ⟨a, _, _, _, _, _, _, _, e2⟩
      · rw [e2, segL_len]; omega
      · rw [e2, segL_len]; omega
      · rw [e2, List.length_append, segL_len, segL_len]; omega
    rw [if_neg (show ¬ (twL0 c u k).length = 0 by omega)] at h
    split at h <;> omega
  · omega
end Go.Proofs.YtamnccechaooaaaGreat
