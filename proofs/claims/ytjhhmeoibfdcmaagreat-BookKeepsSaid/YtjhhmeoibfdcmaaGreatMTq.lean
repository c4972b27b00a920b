/- Twin, plain: what twin.Weeks tells, and which days these weeks have. Twin, fourth part: the contract of twin.monthly. -/
import Derived.Test.YtjhhmeoibfdcmaaGreatMTw
namespace Go.Proofs.YtjhhmeoibfdcmaaGreat
open Go.RowKit Qd
set_option linter.unusedSimpArgs false
set_option linter.unusedVariables false

theorem wk_span {c : Cal} {y : Int} (hf : frameE c 5 y = 0) (i : Nat) (hi : i < nWk c y) : unitE c ⟨5, y, (i : Int) + 1⟩ = 0 ∧ spV c ⟨5, y, (i : Int) + 1⟩ = ⟨dayW c y i, dayW c y (i + 1) - 1⟩ := by
  have h1 := un_mk hf i (by rw [cnt_5]; exact hi)
  have h2 := sp_mk hf i (by rw [cnt_5]; exact hi)
  refine ⟨h1.1, ?_⟩
  rw [h2]
  simp [cutN]
theorem start_adj {c : Cal} {z : Int} (hA : askE c z 1601 = 0) (hA2 : askE c (z + 1) 1601 = 0) (h7 : daysV c z = 7 * wksV c z) : startV c (z + 1) = startV c z + 7 * wksV c z := by
  have h1 := start_next c z hA2
  have h2 : daysV c z = endV c z - startV c z + 1 := by simp [daysV, hA]
  omega
theorem srv_frame {c : Cal} {z : Int} (hk : c.okB = true) (hz : srv c z) {lv : Int} (h1 : 1 ≤ lv) (h5 : lv ≤ 5) : frameE c lv z = 0 := frame_is (by simpa [Cal.okB] using hk) h1 h5 hz.1 hz.2
/-- The days of a week that is counted from a year's first one. -/
theorem pl_span {c : Cal} {t n : Int} (hk : c.okB = true) (hk6 : c.kind ≠ 6) (ht : srv c t) (hn : -40 ≤ n ∧ n ≤ 100) (hz : srv c (plU c t n).yr) :
    unitE c (plU c t n) = 0 ∧ (plU c t n).lv = 5 ∧ spV c (plU c t n) = ⟨startV c t + 7 * (n - 1), startV c t + 7 * n - 1⟩ := by
  obtain ⟨_, a0, w0, d0⟩ := wks_beside hk hk6 ht t (by omega) (by omega)
  obtain ⟨_, a1, w1, d1⟩ := wks_beside hk hk6 ht (t - 1) (by omega) (by omega)
  obtain ⟨_, a2, w2, d2⟩ := wks_beside hk hk6 ht (t + 1) (by omega) (by omega)
  have s1 := start_adj a1 (by rw [show t - 1 + 1 = t by omega]; exact a0) d1
  rw [show t - 1 + 1 = t by omega] at s1
  have s2 := start_adj a0 a2 d0
  unfold plU at hz ⊢
  split at hz
  · rename_i h
    rw [if_pos h]
    simp only at hz ⊢
    have hw := nwk_wks hk hk6 hz
    obtain ⟨i, hi⟩ : ∃ i : Nat, n + wksV c (t - 1) = (i : Int) + 1 := ⟨(n + wksV c (t - 1) - 1).toNat, by omega⟩
    obtain ⟨g1, g2⟩ := wk_span (srv_frame hk hz (by decide) (by decide)) i (by omega)
    rw [hi]
    refine ⟨g1, trivial, ?_⟩
    rw [g2, dayW_7 c _ a1 hk6 i (by omega), dayW_7 c _ a1 hk6 (i + 1) (by omega)]
    simp only [Sp.mk.injEq]
    constructor <;> omega
  · rename_i h
    split at hz
    · rename_i h2
      rw [if_neg h, if_pos h2]
      simp only at hz ⊢
      have hw := nwk_wks hk hk6 hz
      obtain ⟨i, hi⟩ : ∃ i : Nat, n = (i : Int) + 1 := ⟨(n - 1).toNat, by omega⟩
      obtain ⟨g1, g2⟩ := wk_span (srv_frame hk hz (by decide) (by decide)) i (by omega)
      rw [hi]
      refine ⟨g1, trivial, ?_⟩
      rw [g2, dayW_7 c _ a0 hk6 i (by omega), dayW_7 c _ a0 hk6 (i + 1) (by omega)]
      simp only [Sp.mk.injEq]
      constructor <;> omega
    · rename_i h2
      rw [if_neg h, if_neg h2]
      simp only at hz ⊢
      have hw := nwk_wks hk hk6 hz
      obtain ⟨i, hi⟩ : ∃ i : Nat, n - wksV c t = (i : Int) + 1 := ⟨(n - wksV c t - 1).toNat, by omega⟩
      obtain ⟨g1, g2⟩ := wk_span (srv_frame hk hz (by decide) (by decide)) i (by omega)
      rw [hi]
      refine ⟨g1, trivial, ?_⟩
      rw [g2, dayW_7 c _ a2 hk6 i (by omega), dayW_7 c _ a2 hk6 (i + 1) (by omega)]
      simp only [Sp.mk.injEq]
      constructor <;> omega

/-- With which weeks a unit of a year by months is compared. -/
def monthL (c : Cal) (u : Un) (t : Int) : List Un :=
  if u.lv = 5 then wkU ⟨5, t, (cutA c ⟨4, t, (upV c u 4).ix⟩ : Int) + 1 + (u.ix - ((cutA c (upV c u 4) : Int) + 1))⟩ (min (cutB c ⟨4, t, (upV c u 4).ix⟩ : Int) ((cutA c ⟨4, t, (upV c u 4).ix⟩ : Int) + 1 + (u.ix - ((cutA c (upV c u 4) : Int) + 1))) + 1 - ((cutA c ⟨4, t, (upV c u 4).ix⟩ : Int) + 1 + (u.ix - ((cutA c (upV c u 4) : Int) + 1)))).toNat
  else wksL c ⟨u.lv, t, u.ix⟩
def twL0 (c : Cal) (u : Un) (k : Int) : List Un := if c.kind = 6 then monthL c u (u.yr + k) else cmpL c u.yr (u.yr + k) (wksL c u)
/-- Whether all are of served years. -/
def inB (c : Cal) (l : List Un) : Bool := l.all fun w => decide (c.first ≤ w.yr) && decide (w.yr ≤ c.last)
theorem inB_mem {c : Cal} {l : List Un} (h : inB c l = true) {w : Un} (hw : w ∈ l) : srv c w.yr := by
  have := List.all_eq_true.1 h w hw
  simpa [srv] using this
def twE (c : Cal) (u : Un) (k : Int) : Int := if unitE c u = 0 then (if c.first ≤ u.yr + k ∧ u.yr + k ≤ c.last then (if inB c (twL0 c u k) = true then (if (twL0 c u k).length = 0 then 12 else 0) else 11) else 11) else unitE c u
def twL (c : Cal) (u : Un) (k : Int) : List Un := if twE c u k = 0 then twL0 c u k else []
theorem tw_ok {c : Cal} {u : Un} {k : Int} (h : twE c u k = 0) : unitE c u = 0 ∧ (c.first ≤ u.yr + k ∧ u.yr + k ≤ c.last) ∧ inB c (twL0 c u k) = true ∧ 0 < (twL0 c u k).length ∧ twL c u k = twL0 c u k := by
  have e : twL c u k = twL0 c u k := by rw [twL, if_pos h]
  unfold twE at h
  split at h
  · rename_i h1
    split at h
    · rename_i h2
      split at h
      · rename_i h3
        split at h
        · omega
        · rename_i h4; exact ⟨h1, h2, h3, by omega, e⟩
      · omega
    · omega
  · rename_i h1; exact absurd h h1
theorem tw_no {c : Cal} {u : Un} {k : Int} (h : ¬ twE c u k = 0) : twL c u k = [] := by rw [twL, if_neg h]

/-- Spans one behind the other. -/
def adjS (f : Nat → Int) (m : Nat) : List Sp := upto (fun j => (⟨f j, f (j + 1) - 1⟩ : Sp)) m
theorem seg_map {c : Cal} {t n : Int} (m : Nat) (hk : c.okB = true) (hk6 : c.kind ≠ 6) (ht : srv c t) (hn : -40 ≤ n ∧ n + m ≤ 100) (hz : ∀ w ∈ segL c t n m, srv c w.yr) :
    (segL c t n m).map (spV c) = adjS (fun j => startV c t + 7 * (n + j - 1)) m ∧ ∀ w ∈ segL c t n m, unitE c w = 0 ∧ w.lv = 5 := by
  have key : ∀ j : Nat, j < m → unitE c (plU c t (n + j)) = 0 ∧ (plU c t (n + j)).lv = 5 ∧ spV c (plU c t (n + j)) = ⟨startV c t + 7 * (n + j - 1), startV c t + 7 * (n + j) - 1⟩ := fun j hj =>
    pl_span hk hk6 ht (by omega) (hz _ (List.mem_map.2 ⟨j, List.mem_range.2 hj, rfl⟩))
  refine ⟨?_, ?_⟩
  · have e0 : (segL c t n m).map (spV c) = upto (fun j : Nat => spV c (plU c t (n + j))) m := by simp [segL, upto, List.map_map, Function.comp_def]
    rw [e0]
    refine upto_congr fun j hj => ?_
    rw [(key j hj).2.2]
    have e1 : startV c t + 7 * (n + (j : Int)) - 1 = startV c t + 7 * (n + ((j + 1 : Nat) : Int) - 1) - 1 := by omega
    rw [e1]
  · intro w hw
    obtain ⟨j, hj, rfl⟩ := List.mem_map.1 hw
    have := key j (List.mem_range.1 hj)
    exact ⟨this.1, this.2.1⟩
theorem wk_map {c : Cal} {t : Int} (i m : Nat) (hf : frameE c 5 t = 0) (h : i + m ≤ nWk c t) :
    (wkU ⟨5, t, (i : Int) + 1⟩ m).map (spV c) = adjS (fun j => dayW c t (i + j)) m ∧ ∀ w ∈ wkU ⟨5, t, (i : Int) + 1⟩ m, unitE c w = 0 ∧ w.lv = 5 := by
  have key : ∀ j : Nat, j < m → unitE c ⟨5, t, (i : Int) + 1 + j⟩ = 0 ∧ spV c ⟨5, t, (i : Int) + 1 + j⟩ = ⟨dayW c t (i + j), dayW c t (i + j + 1) - 1⟩ := fun j hj => by
    have := wk_span hf (i + j) (by omega)
    rw [show ((i + j : Nat) : Int) + 1 = (i : Int) + 1 + j by omega] at this
    exact this
  refine ⟨?_, ?_⟩
  · have : (wkU ⟨5, t, (i : Int) + 1⟩ m).map (spV c) = upto (fun j : Nat => spV c ⟨5, t, (i : Int) + 1 + j⟩) m := by simp [wkU, upto, List.map_map, Function.comp_def]
    rw [this]
    exact upto_congr fun j hj => (key j hj).2
  · intro w hw
    obtain ⟨j, hj, rfl⟩ := List.mem_map.1 hw
    exact ⟨(key j (List.mem_range.1 hj)).1, rfl⟩

/-- A unit of a year by months has one of the same number in any other year. -/
theorem mon_same {c : Cal} {u : Un} {t : Int} (hU : unitE c u = 0) (ht : srv c t) (h4 : ¬ u.lv = 5) : unitE c ⟨u.lv, t, u.ix⟩ = 0 := by
  obtain ⟨hf, l1, l5, hA, hx, hi⟩ := un_lv hU
  obtain ⟨hok, hk, _, _, hy1, hy2, _⟩ := frame_ok hf
  have e : cntL c t u.lv = cntL c u.yr u.lv := by
    unfold cntL
    rw [per_same hk t u.yr]
    repeat' split
    all_goals first | rfl | (exfalso; omega)
  have := (un_mk (srv_frame hk ht l1 l5) (uI u) (by rw [e]; exact hi)).1
  rw [hx]
  exact this
/-- Of a week of a year by months. -/
theorem mon_week {c : Cal} {u : Un} {t : Int} (hU : unitE c u = 0) (ht : srv c t) (h5 : u.lv = 5) :
    ∃ i : Nat, upV c u 4 = ⟨4, u.yr, (i : Int) + 1⟩ ∧ upE c u 4 = 0 ∧ unitE c ⟨4, u.yr, (i : Int) + 1⟩ = 0 ∧ unitE c ⟨4, t, (i : Int) + 1⟩ = 0 ∧ cutA c ⟨4, u.yr, (i : Int) + 1⟩ ≤ cutA c u ∧ cutB c u ≤ cutB c ⟨4, u.yr, (i : Int) + 1⟩ ∧ u.ix = (cutA c u : Int) + 1 ∧ cutB c u = cutA c u + 1 := by
  obtain ⟨hf, l1, l5, hA, hx, hi⟩ := un_lv hU
  obtain ⟨hok, hk, _, _, hy1, hy2, _⟩ := frame_ok hf
  obtain ⟨i, e0, e1, e2, e3, e4⟩ := up_facts hU (lv := 4) (by decide) (by omega)
  have hf4 : frameE c 4 u.yr = 0 := srv_frame hk ⟨hy1, hy2⟩ (by decide) (by decide)
  have g := un_mk hf4 i e2
  have gt := un_mk (srv_frame hk ht (by decide) (by decide) : frameE c 4 t = 0) i (by rw [cnt_4] at e2 ⊢; rw [per_same hk t u.yr]; exact e2)
  refine ⟨i, e1, e0, g.1, gt.1, by rw [g.2.1]; exact e3, by rw [g.2.2]; exact e4, ?_, ?_⟩
  · rw [cutA, h5]; simp [cutN]; exact hx
  · rw [cutA, cutB, h5]; simp [cutN]
theorem mon_form {c : Cal} {u : Un} {t : Int} (hU : unitE c u = 0) (ht : srv c t) : ∃ i m : Nat, monthL c u t = wkU ⟨5, t, (i : Int) + 1⟩ m ∧ (0 < m → i + m ≤ nWk c t) := by
  obtain ⟨hf, l1, l5, hA, hx, hi⟩ := un_lv hU
  unfold monthL
  by_cases h5 : u.lv = 5
  · rw [if_pos h5]
    obtain ⟨i, e1, e0, g, gt, e3, e4, e5, e6⟩ := mon_week hU ht h5
    rw [e1]
    simp only
    have hb := cutAB gt
    simp only at hb
    refine ⟨cutA c ⟨4, t, (i : Int) + 1⟩ + (cutA c u - cutA c ⟨4, u.yr, (i : Int) + 1⟩), (min (cutB c ⟨4, t, (i : Int) + 1⟩ : Int) ((cutA c ⟨4, t, (i : Int) + 1⟩ : Int) + 1 + (u.ix - ((cutA c ⟨4, u.yr, (i : Int) + 1⟩ : Int) + 1))) + 1 - ((cutA c ⟨4, t, (i : Int) + 1⟩ : Int) + 1 + (u.ix - ((cutA c ⟨4, u.yr, (i : Int) + 1⟩ : Int) + 1)))).toNat, ?_, ?_⟩
    · rw [show ((cutA c ⟨4, t, (i : Int) + 1⟩ : Int) + 1 + (u.ix - ((cutA c ⟨4, u.yr, (i : Int) + 1⟩ : Int) + 1))) = ((cutA c ⟨4, t, (i : Int) + 1⟩ + (cutA c u - cutA c ⟨4, u.yr, (i : Int) + 1⟩) : Nat) : Int) + 1 by omega]
    · intro h
      omega
  · rw [if_neg h5]
    have hU2 := mon_same hU ht h5
    have hb := cutAB hU2
    exact ⟨cutA c ⟨u.lv, t, u.ix⟩, cutB c ⟨u.lv, t, u.ix⟩ - cutA c ⟨u.lv, t, u.ix⟩, rfl, fun _ => by simp only at hb; omega⟩

/-- The days of what a unit is compared with: one run of weeks, or two. -/
theorem tw_form {c : Cal} {u : Un} {k : Int} (h : twE c u k = 0) :
    ∃ (f g : Nat → Int) (m n : Nat), 0 < m ∧ m + n ≤ 60 ∧ (twL c u k).length = m + n ∧ (twL c u k).map (spV c) = adjS f m ++ adjS g n ∧ (∀ j, j < m → f j < f (j + 1)) ∧ (∀ j, j < n → g j < g (j + 1)) ∧ (0 < n → f m < g 0) ∧ ∀ w ∈ twL c u k, unitE c w = 0 ∧ w.lv = 5 := by
  obtain ⟨hU, ht, hin, hlen, hL⟩ := tw_ok h
  obtain ⟨hf, l1, l5, hA, hx, hi⟩ := un_lv hU
  obtain ⟨hok, hk, _, _, hy1, hy2, _⟩ := frame_ok hf
  have hst : srv c (u.yr + k) := ht
  rw [hL]
  by_cases hk6 : c.kind = 6
  · have e : twL0 c u k = monthL c u (u.yr + k) := by rw [twL0, if_pos hk6]
    rw [e] at hlen ⊢
    obtain ⟨i, m, e2, hb⟩ := mon_form hU hst
    rw [e2] at hlen ⊢
    rw [wkU_len] at hlen ⊢
    have hft : frameE c 5 (u.yr + k) = 0 := srv_frame hk hst (by decide) (by decide)
    have hA2 := (frame_ok hft).2.2.2.2.2.2
    obtain ⟨q1, q2⟩ := wk_map i m hft (hb hlen)
    have hb60 := nWk_bd c _ hA2
    have := hb hlen
    refine ⟨fun j => dayW c (u.yr + k) (i + j), fun _ => 0, m, 0, hlen, by omega, rfl, by rw [q1]; simp [adjS, upto], fun j hj => ?_, fun j hj => absurd hj (by omega), fun h0 => absurd h0 (by omega), q2⟩
    have := dayW_lt c (u.yr + k) hA2 (show i + j < i + (j + 1) by omega) (by omega)
    simp only
    omega
  · have e : twL0 c u k = cmpL c u.yr (u.yr + k) (wksL c u) := by rw [twL0, if_neg hk6]
    rw [e] at hlen hin ⊢
    have hab := cutAB hU
    have hb60 := nWk_bd c _ hA
    rcases cmp_shape hU hk6 hst with ⟨s, s1, s2, _, e2, _⟩ | ⟨a, a1, a2, _, _, _, _, _, _, e2⟩ | ⟨a, a1, a2, _, _, _, _, _, e2⟩
    · rw [e2] at hlen hin ⊢
      rw [segL_len] at hlen ⊢
      obtain ⟨q1, q2⟩ := seg_map (n := (cutA c u : Int) + 1 + s) (cutB c u - cutA c u) hk hk6 hst (by omega) (fun w hw => inB_mem hin hw)
      exact ⟨fun j => startV c (u.yr + k) + 7 * ((cutA c u : Int) + 1 + s + j - 1), fun _ => 0, _, 0, hlen, by omega, rfl, by rw [q1]; simp [adjS, upto], fun j hj => by simp only; omega, fun j hj => absurd hj (by omega), fun h0 => absurd h0 (by omega), q2⟩
    · rw [e2] at hlen hin ⊢
      rw [segL_len] at hlen ⊢
      obtain ⟨q1, q2⟩ := seg_map (n := (cutA c u : Int) + 1) (cutB c u - cutA c u - 1) hk hk6 hst (by omega) (fun w hw => inB_mem hin hw)
      exact ⟨fun j => startV c (u.yr + k) + 7 * ((cutA c u : Int) + 1 + j - 1), fun _ => 0, _, 0, hlen, by omega, rfl, by rw [q1]; simp [adjS, upto], fun j hj => by simp only; omega, fun j hj => absurd hj (by omega), fun h0 => absurd h0 (by omega), q2⟩
    · rw [e2] at hlen hin ⊢
      rw [List.length_append, segL_len, segL_len] at hlen ⊢
      obtain ⟨q1, q2⟩ := seg_map (n := (cutA c u : Int) + 1) (a - 1 - cutA c u).toNat hk hk6 hst (by omega) (fun w hw => inB_mem hin (List.mem_append.2 (.inl hw)))
      obtain ⟨r1, r2⟩ := seg_map (n := a + 1) (cutB c u - a + 1).toNat hk hk6 hst (by omega) (fun w hw => inB_mem hin (List.mem_append.2 (.inr hw)))
      refine ⟨fun j => startV c (u.yr + k) + 7 * ((cutA c u : Int) + 1 + j - 1), fun j => startV c (u.yr + k) + 7 * (a + 1 + j - 1), _, _, by omega, by omega, rfl, by rw [List.map_append, q1, r1], fun j hj => by simp only; omega, fun j hj => by simp only; omega, fun h0 => by simp only; omega, fun w hw => ?_⟩
      rcases List.mem_append.1 hw with hw | hw
      · exact q2 w hw
      · exact r2 w hw
/-- The runs of days. -/
def rnL (c : Cal) (u : Un) (k : Int) : List Sp := runsL ((twL c u k).map (spV c))
theorem rn_form {f g : Nat → Int} {m n : Nat} (h : 0 < m) (hg : 0 < n → f m < g 0) : runsL (adjS f m ++ adjS g n) = if n = 0 then [⟨f 0, f m - 1⟩] else [⟨f 0, f m - 1⟩, ⟨g 0, g n - 1⟩] := by
  split
  · rename_i h0
    subst h0
    rw [show adjS g 0 = [] by simp [adjS, upto], List.append_nil]
    exact runs_one f m h
  · exact runs_two f g m n h (by omega) (by have := hg (by omega); omega)
theorem tw0_len {c : Cal} {u : Un} {k : Int} (hU : unitE c u = 0) (ht : c.first ≤ u.yr + k ∧ u.yr + k ≤ c.last) : (twL0 c u k).length ≤ 60 := by
  obtain ⟨hf, l1, l5, hA, hx, hi⟩ := un_lv hU
  obtain ⟨hok, hk, _, _, hy1, hy2, _⟩ := frame_ok hf
  have hb60 := nWk_bd c _ hA
  unfold twL0
  split
  · obtain ⟨i, m, e, hm⟩ := mon_form (t := u.yr + k) hU ht
    rw [e, wkU_len]
    have hft : frameE c 5 (u.yr + k) = 0 := srv_frame hk ht (by decide) (by decide)
    have := nWk_bd c _ (frame_ok hft).2.2.2.2.2.2
    rcases Nat.eq_zero_or_pos m with h | h
    · omega
    · have := hm h; omega
  · have h1 := cmpL_le c u.yr (u.yr + k) (wksL c u)
    have h2 : (wksL c u).length = cutB c u - cutA c u := wkU_len _ _
    have hab := cutAB hU
    omega
end Go.Proofs.YtjhhmeoibfdcmaaGreat

namespace Go.Proofs.YtjhhmeoibfdcmaaGreat
open Go.RowKit Go.Shelf Qd
set_option linter.unusedSimpArgs false
set_option linter.unusedVariables false
attribute [local go_sem] Oper.semAt_some

theorem res_monthly {tmps : Array Value} {W : World} {v : Value} {e : Int} (h6 : tmps[6]? = some v) (h7 : tmps[7]? = some (.int .i64 e)) :
    (results Tryz.f193 tmps).run Tryz.prog W = .ok (.tuple #[v, .int .i64 e]) W := by
  simp [results, Tryz.results193, go_sem, h6, h7]
theorem sz_alloc (w : World) (o : Obj) : (w.alloc o).heap.size = w.heap.size + 1 := by simp
theorem blk_three {w : World} {B : Nat} {a b c : Value} {t : TypeId} (h : BlkIs w B #[a, b, c] t) :
    (w.cell? ⟨B, 0, none⟩ = some a ∧ w.cell? ⟨B, 1, none⟩ = some b ∧ w.cell? ⟨B, 2, none⟩ = some c) ∧ (w.frozen? ⟨B, 0, none⟩ = false ∧ w.frozen? ⟨B, 1, none⟩ = false ∧ w.frozen? ⟨B, 2, none⟩ = false) := ⟨⟨h.cell 0, h.cell 1, h.cell 2⟩, h.frozen 0, h.frozen 1, h.frozen 2⟩
/-- The frame of twin.monthly: the calendar, the unit, and what it goes by. -/
def MnSt (c : Cal) (u p : Un) (B : Nat) (w : World) : Prop := BlkIs w B (calCs c) 24 ∧ BlkIs w (B + 1) #[.int .i64 u.lv, .int .i64 u.yr, .int .i64 u.ix] 26 ∧ BlkIs w (B + 2) #[.int .i64 p.lv, .int .i64 p.yr, .int .i64 p.ix] 26
theorem MnSt.call {c : Cal} {u p : Un} {B : Nat} {w w' : World} (h : MnSt c u p B w) (hb : Below w.heap.size w w') : MnSt c u p B w' := ⟨h.1.call hb, h.2.1.call hb, h.2.2.call hb⟩
theorem MnSt.alloc {c : Cal} {u p : Un} {B : Nat} {w : World} (h : MnSt c u p B w) (o : Obj) : MnSt c u p B (w.alloc o) := ⟨h.1.alloc o, h.2.1.alloc o, h.2.2.alloc o⟩
theorem MnSt.lt {c : Cal} {u p : Un} {B : Nat} {w : World} (h : MnSt c u p B w) : B + 2 < w.heap.size := h.2.2.lt
theorem MnSt.un {c : Cal} {u p : Un} {B : Nat} {w : World} (h : MnSt c u p B w) : (w.cell? ⟨B + 1, 0, none⟩ = some (.int .i64 u.lv) ∧ w.cell? ⟨B + 1, 1, none⟩ = some (.int .i64 u.yr) ∧ w.cell? ⟨B + 1, 2, none⟩ = some (.int .i64 u.ix)) := ⟨h.2.1.cell 0, h.2.1.cell 1, h.2.1.cell 2⟩
theorem MnSt.pn {c : Cal} {u p : Un} {B : Nat} {w : World} (h : MnSt c u p B w) : (w.cell? ⟨B + 1 + 1, 0, none⟩ = some (.int .i64 p.lv) ∧ w.cell? ⟨B + 1 + 1, 1, none⟩ = some (.int .i64 p.yr) ∧ w.cell? ⟨B + 1 + 1, 2, none⟩ = some (.int .i64 p.ix)) ∧ (w.frozen? ⟨B + 1 + 1, 0, none⟩ = false ∧ w.frozen? ⟨B + 1 + 1, 1, none⟩ = false ∧ w.frozen? ⟨B + 1 + 1, 2, none⟩ = false) := blk_three (B := B + 1 + 1) h.2.2
theorem mnSt_new (c : Cal) (u : Un) (w : World) : MnSt c u u w.heap.size (((w.alloc (.cells (calCs c) 24)).alloc (.cells #[.int .i64 u.lv, .int .i64 u.yr, .int .i64 u.ix] 26)).alloc (.cells #[.int .i64 u.lv, .int .i64 u.yr, .int .i64 u.ix] 26)) := by
  refine ⟨((BlkIs.new w _ _).alloc _).alloc _, ?_, ?_⟩
  · have := (BlkIs.new (w.alloc (.cells (calCs c) 24)) #[.int .i64 u.lv, .int .i64 u.yr, .int .i64 u.ix] 26).alloc (.cells #[.int .i64 u.lv, .int .i64 u.yr, .int .i64 u.ix] 26)
    simpa using this
  · have := BlkIs.new ((w.alloc (.cells (calCs c) 24)).alloc (.cells #[.int .i64 u.lv, .int .i64 u.yr, .int .i64 u.ix] 26)) #[.int .i64 u.lv, .int .i64 u.yr, .int .i64 u.ix] 26
    simpa using this
theorem MnSt.year {c : Cal} {u p : Un} {B : Nat} {w : World} (h : MnSt c u p B w) (y : Int) : MnSt c u ⟨p.lv, y, p.ix⟩ B (w.setCell ⟨B + 1 + 1, 1, none⟩ (.int .i64 y)) := ⟨h.1.far (by simp; omega) _, h.2.1.far (by simp) _, BlkIs.set3 (B := B + 1 + 1) h.2.2 _⟩

theorem MnSt.setp {c : Cal} {u p : Un} {B : Nat} {w : World} (h : MnSt c u p B w) (x y z : Int) : MnSt c u ⟨x, y, z⟩ B (((w.setCell ⟨B + 1 + 1, 0, none⟩ (.int .i64 x)).setCell ⟨B + 1 + 1, 1, none⟩ (.int .i64 y)).setCell ⟨B + 1 + 1, 2, none⟩ (.int .i64 z)) :=
  ⟨((h.1.far (by simp; omega) _).far (by simp; omega) _).far (by simp; omega) _, ((h.2.1.far (by simp) _).far (by simp) _).far (by simp) _, BlkIs.set123 (B := B + 1 + 1) h.2.2 _ _ _⟩

set_option maxRecDepth 100000 in
set_option maxHeartbeats 8000000 in
theorem monthly_n (c : Cal) (u : Un) (t : Int) (w : World) (hn : c.name.size ≤ 1000) (hU : unitE c u = 0) (ht : srv c t) (h5 : ¬ u.lv = 5) :
    Calls Tryz.prog 193 #[calV c, unitV u, .int .i64 t] w fun e w' => ∃ v, e = .returned (.tuple #[v, .int .i64 0]) ∧ TwV w' v (monthL c u t) ∧ Below w.heap.size w w' := by
  have hU2 := mon_same hU ht h5
  have hab := cutAB hU2
  have hb60 := nWk_bd c t (un_lv hU2).2.2.2.1
  have hd1 := dn_5 hU
  have hd2 := dn_5 hU2
  have hwl : monthL c u t = wkU ⟨5, t, (cutA c ⟨u.lv, t, u.ix⟩ : Int) + 1⟩ (cutB c ⟨u.lv, t, u.ix⟩ - cutA c ⟨u.lv, t, u.ix⟩) := by rw [monthL, if_neg h5]; rfl
  rw [hwl]
  clear hwl
  simp only at hab hd2
  have h5b : (u.lv == 5) = false := by simpa using h5
  obtain ⟨i0, hi, hi0, hi1, hi2⟩ := info_parts unit_info
  obtain ⟨A0, hA0⟩ : ∃ A, cutA c u = A := ⟨_, rfl⟩
  obtain ⟨B0, hB0⟩ : ∃ B, cutB c u = B := ⟨_, rfl⟩
  obtain ⟨A, hAA⟩ : ∃ A, cutA c ⟨u.lv, t, u.ix⟩ = A := ⟨_, rfl⟩
  obtain ⟨B, hBB⟩ : ∃ B, cutB c ⟨u.lv, t, u.ix⟩ = B := ⟨_, rfl⟩
  obtain ⟨N, hNN⟩ : ∃ N, nWk c t = N := ⟨_, rfl⟩
  rw [hA0, hB0] at hd1
  rw [hAA, hBB] at hd2 hab ⊢
  rw [hNN] at hab hb60
  have HD1 := hide hd1
  have HD2 := hide hd2
  clear hd1 hd2 hU hU2 ht h5 hA0 hB0 hAA hBB hNN
  simp only [calV, unitV]
  refine (callsIn_wide (n := 5)).1 ?_
  refine callsIn_of_wp_marks Tryz.func193 rfl trivial ?_ rfl
  simp only [Tryz.ntmps193, List.size_toArray, List.length_cons, List.length_nil, Nat.reduceAdd, Nat.reduceSub, Array.replicate_succ, Array.replicate_zero, List.push_toArray, List.append_toArray, List.nil_append, List.cons_append]
  gi_wp2_with fail
  have HM0 := hide (mnSt_new c u w)
  have HB0 := hide (show Below w.heap.size w (((w.alloc (.cells (calCs c) 24)).alloc (.cells #[.int .i64 u.lv, .int .i64 u.yr, .int .i64 u.ix] 26)).alloc (.cells #[.int .i64 u.lv, .int .i64 u.yr, .int .i64 u.ix] 26)) by (repeat' exact bel))
  refine ⟨trivial, (callsIn_wide.2 (down_any c u 5 _ hn)).mono ?_⟩
  rintro e w1 ⟨rfl, hb1⟩
  rw [HD1.out.1, HD1.out.2.1, HD1.out.2.2]
  simp only [unitV]
  have HM1 := hide (HM0.out.call (by exact hb1))
  have HB1 := hide (HB0.out.trans (hb1.mono (by simp; omega)))
  clear hb1
  have hz1 : w.heap.size + 2 < w1.heap.size := HM1.out.lt
  have hzA : w.heap.size < w1.heap.size := by omega
  have hzB : w.heap.size + 1 < w1.heap.size := by omega
  have hzC : w.heap.size + 1 + 1 < w1.heap.size := by omega
  obtain ⟨q0, q1, q2, q3, q4, q5, q6, q7, q8, q9, q10, q11, q12, q13⟩ := HM1.out.1.cal
  obtain ⟨u0, u1, u2⟩ := HM1.out.un
  obtain ⟨⟨p0, p1, p2⟩, p3, p4, p5⟩ := HM1.out.pn
  gi_wp2_with fail
  refine ⟨trivial, (callsIn_wide.2 (down_any c ⟨u.lv, t, u.ix⟩ 5 _ hn)).mono ?_⟩
  rintro e w2 ⟨rfl, hb2⟩
  rw [HD2.out.1, HD2.out.2.1, HD2.out.2.2]
  simp only [unitV]
  have HM2 := hide ((((HM1.out.year t).alloc _).alloc _).call (by exact hb2))
  have HB2 := hide (((((HB1.out.setCell (p := ⟨w.heap.size + 1 + 1, 1, none⟩) (by simp; omega) (.int .i64 t)).alloc (by simp; omega) _).alloc (by simp; omega) _)).trans (hb2.mono (by simp; omega)))
  clear hb2
  clear q0 q1 q2 q3 q4 q5 q6 q7 q8 q9 q10 q11 q12 q13
  clear u0 u1 u2 p0 p1 p2 p3 p4 p5 hzA hzB hzC
  have hz2 : w.heap.size + 2 < w2.heap.size := HM2.out.lt
  have hzA : w.heap.size < w2.heap.size := by omega
  have hzB : w.heap.size + 1 < w2.heap.size := by omega
  have hzC : w.heap.size + 1 + 1 < w2.heap.size := by omega
  obtain ⟨q0, q1, q2, q3, q4, q5, q6, q7, q8, q9, q10, q11, q12, q13⟩ := HM2.out.1.cal
  obtain ⟨u0, u1, u2⟩ := HM2.out.un
  obtain ⟨⟨p0, p1, p2⟩, p3, p4, p5⟩ := HM2.out.pn
  gi_wp2_with fail
  refine ⟨trivial, (weeks_fn _ ⟨5, t, (A : Int) + 1⟩ ⟨5, t, (B : Int)⟩ _).mono ?_⟩
  rintro e w3 ⟨rfl, rfl⟩
  simp only
  gi_wp2_with fail
  have HBZ := hide HB2.out
  have hzz2 : w.heap.size < w2.heap.size := hzA
  obtain ⟨W5, hW5⟩ : ∃ W5 : World, W5 = ((((w2.alloc (.cells #[.int .i64 5, .int .i64 t, .int .i64 ((A : Int) + 1)] 26)).alloc (.cells #[.int .i64 5, .int .i64 t, .int .i64 (B : Int)] 26)).alloc (.cells #[.slice none 0 0] 115)).alloc (.cells #[.int .i64 5, .int .i64 t, .int .i64 ((A : Int) + 1)] 26)).alloc (.cells #[.int .i64 5, .int .i64 t, .int .i64 (B : Int)] 26) := ⟨_, rfl⟩
  have s0 : BlkIs W5 (w2.heap.size + 3) #[.int .i64 5, .int .i64 t, .int .i64 ((A : Int) + 1)] 26 := by
    rw [hW5]
    have := (BlkIs.new (((w2.alloc (.cells #[.int .i64 5, .int .i64 t, .int .i64 ((A : Int) + 1)] 26)).alloc (.cells #[.int .i64 5, .int .i64 t, .int .i64 (B : Int)] 26)).alloc (.cells #[.slice none 0 0] 115)) #[.int .i64 5, .int .i64 t, .int .i64 ((A : Int) + 1)] 26).alloc (.cells #[.int .i64 5, .int .i64 t, .int .i64 (B : Int)] 26)
    simpa using this
  have s1 : BlkIs W5 (w2.heap.size + 4) #[.int .i64 5, .int .i64 t, .int .i64 (B : Int)] 26 := by
    rw [hW5]
    have := BlkIs.new ((((w2.alloc (.cells #[.int .i64 5, .int .i64 t, .int .i64 ((A : Int) + 1)] 26)).alloc (.cells #[.int .i64 5, .int .i64 t, .int .i64 (B : Int)] 26)).alloc (.cells #[.slice none 0 0] 115)).alloc (.cells #[.int .i64 5, .int .i64 t, .int .i64 ((A : Int) + 1)] 26)) #[.int .i64 5, .int .i64 t, .int .i64 (B : Int)] 26
    simpa using this
  have sO : Boxed W5 (w2.heap.size + 2) 115 (.slice none 0 0) := by
    rw [hW5]
    have := ((Boxed.new ((w2.alloc (.cells #[.int .i64 5, .int .i64 t, .int .i64 ((A : Int) + 1)] 26)).alloc (.cells #[.int .i64 5, .int .i64 t, .int .i64 (B : Int)] 26)) 115 (.slice none 0 0)).alloc (.cells #[.int .i64 5, .int .i64 t, .int .i64 ((A : Int) + 1)] 26)).alloc (.cells #[.int .i64 5, .int .i64 t, .int .i64 (B : Int)] 26)
    simpa using this
  have hzz : w.heap.size ≤ w2.heap.size + 2 := by omega
  have hBW : Below w.heap.size w W5 := by
    have b1 := HBZ.out
    rw [hW5]
    refine Below.alloc (Below.alloc (Below.alloc (Below.alloc (Below.alloc b1 ?_ _) ?_ _) ?_ _) ?_ _) ?_ _ <;> first | omega | (simp; omega)
  have hsz : W5.heap.size = w2.heap.size + 5 := by rw [hW5]; simp
  rw [← hW5]
  clear hW5
  simp only [sz_alloc]
  refine wpIn_rangeFunc_ownH (α := Wk ⟨5, t, ((A : Int) + 1)⟩ (B - A)) rfl (by omega) (gf := 236) (lb := #[.pointer (some ⟨w2.heap.size + 3, 0, none⟩), .pointer (some ⟨w2.heap.size + 4, 0, none⟩)]) rfl trivial (enters_of Tryz.func236 (by kernel_rfl) rfl)
    (weeks_stops ⟨5, t, ((A : Int) + 1)⟩ ⟨5, t, (B : Int)⟩ (B - A) (by simp only; omega) (by simp only; omega) (w2.heap.size + 3) (w2.heap.size + 4) W5 s0 s1)
    KeepBx.trans (fun W l o o' _ h1 h2 _ => keepBx_putObj W l o o' h1 h2) (Below.refl _ _) (fun _ => rfl)
    (fun (pre : List (Wk ⟨5, t, ((A : Int) + 1)⟩ (B - A))) W => (∃ v, Boxed W (w2.heap.size + 2) 115 v ∧ W.ownsRow (w2.heap.size + 2) 26 3 v (valW pre).length (flatU (valW pre)) ∧ (v = .slice none 0 0 ↔ valW pre = [])) ∧ Below w.heap.size w W)
    (fun _ _ _ => False)
    (OwnFrom.and (Own.from (holdsRow_own (w2.heap.size + 2) (w2.heap.size + 2) _ _ 3 (fun (pre : List (Wk ⟨5, t, ((A : Int) + 1)⟩ (B - A))) => (valW pre).length) (fun pre => flatU (valW pre)) (fun pre v => v = .slice none 0 0 ↔ valW pre = [])) _) (ownFrom_below (Nat.le_refl _) (by omega)))
    (fun _ _ _ _ _ hs _ _ => hs)
    ⟨⟨_, sO, World.ownsRow_nil _ _ _ _, by simp [valW]⟩, hBW⟩
    (AxW (w2.heap.size + 2) ?a1) (fun x a' => axW_own _ _ x a' _)
    ?assign ?body ?done ?stop
  case assign =>
    rintro l pre x W K ⟨⟨v, hv, hrow, hnil⟩, hB⟩ hK
    have hK2 := hide hK
    clear hK
    obtain ⟨Bx, hBx⟩ : ∃ Bx, Bx = W.heap.size := ⟨_, rfl⟩
    simp only [encW, unitV]
    gi_wp2
    rw [← hBx]
    have hK3 := fun a' (h : a' = _) => hK2.out a' _ ((KeepsOthers.alloc _ _).from _) (KeepBx.alloc _ _) ⟨⟨v, hv.alloc _, hrow.alloc _, hnil⟩, hB.alloc hB.size _⟩ ⟨Bx, by rw [hBx]; exact hv.lt, by rw [hBx]; exact BlkIs.new W #[.int .i64 x.1.lv, .int .i64 x.1.yr, .int .i64 x.1.ix] 26, h⟩
    have hK4 := hK3 _ rfl
    exact hK4
  case body =>
    rintro l pre ⟨x, hxx⟩ a' W hl ⟨r, hr⟩ ⟨⟨v, hv, hrow, hnil⟩, hB⟩ ⟨Bx, hBx, bX, rfl⟩ hlt
    simp only at bX ⊢
    have hbx0 : W.cell? ⟨Bx, 0, none⟩ = some (.int .i64 x.lv) := bX.cell 0
    have hbx1 : W.cell? ⟨Bx, 1, none⟩ = some (.int .i64 x.yr) := bX.cell 1
    have hbx2 : W.cell? ⟨Bx, 2, none⟩ = some (.int .i64 x.ix) := bX.cell 2
    have hc := hv.cell
    have hWz : w2.heap.size + 2 ≤ W.heap.size := Nat.le_of_lt hv.lt
    have hpl : (valW pre).length + 1 ≤ 2000000 := by rw [valW_len]; omega
    gi_wp2_with (gi_at_builtin; refine wpListIn_append_or _ rfl _ _ 115 rfl (w2.heap.size + 2) 26 i0 (.agg #[.int .i64 0, .int .i64 0, .int .i64 0]) 3 24 Tryz.underlying115 hi hi0 hi1 hi2 rfl (by decide) _ _ _ rfl (hrow.alloc _) ⟨W.heap.size, 0, none⟩ 1 1 [.int .i64 x.lv, .int .i64 x.yr, .int .i64 x.ix] rfl rfl (cells_new3 _ _ _ _ _) (by simp [Value.oneCell']) (by unfold maxLen; omega) (by omega) (by simp; omega) (by omega) ?_; intro v' w6 hown' hgrow hor; obtain ⟨g', cap', rfl⟩ := ownsRow_succ hown'; obtain ⟨hv3, hv4, hr4, hk4, hb4⟩ := hv.appended (by decide) hrow hWz (by omega) hown' hgrow; have hc1 := hv3.cell; have hf1 := hv3.frozen)
    have hbx := app_bx (v' := .slice (some ⟨g', 0, none⟩) ((valW pre).length + 1) cap') hv hrow (by rcases Nat.eq_zero_or_pos (valW pre).length with h | h; exact .inl (hnil.2 (List.length_eq_zero_iff.1 h)); exact .inr h) hgrow hor
    refine ⟨hk4.from _, hbx, ⟨_, hv4, ?_, ?_⟩, hB.trans (hb4.mono (by omega))⟩
    · rw [valW_snoc, flatU_snoc]
      simpa using hr4
    · rw [valW_snoc]
      simp
  case done =>
    rintro D xs W hD hxs ⟨⟨v, hv, hrow, hnil⟩, hB⟩ hK
    rw [show valW xs = wkU ⟨5, t, ((A : Int) + 1)⟩ (B - A) from hxs] at hrow hnil
    clear hxs
    have hc := hv.cell
    have HRW := hide hrow
    have HNL := hide hnil
    clear hrow hnil hv
    gi_wp2
    refine ⟨by simp, .inl ⟨_, _, rfl, run_takeDeferred hK, ?_⟩⟩
    refine ⟨_, res_monthly rfl rfl, v, rfl, ?_, ?_⟩
    · exact twV_of (b := 0) (ownsRow_putObj (HRW.out.base (Nat.zero_le _)) _ hK rfl) HNL.out
    · exact hB.trans (belowK_b (w := w) (Nat.le_refl _) _ D _ _ (by omega) hK rfl rfl)
  case stop =>
    rintro D cc pre W _ _ h _
    exact h.elim
end Go.Proofs.YtjhhmeoibfdcmaaGreat
