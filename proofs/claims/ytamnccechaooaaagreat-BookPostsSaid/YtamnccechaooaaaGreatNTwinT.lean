/- Twin: the days of a unit, and those with which they are compared. -/
import Derived.Test.YtamnccechaooaaaGreatNTwinR
namespace Go.Proofs.YtamnccechaooaaaGreat
open Go.RowKit Qd

/-- The day at a place of one run, or of two. -/
def runPos (p m1 p2 M : Int) : Int := if M < m1 then p + M else p2 + (M - m1)
/-- How many days ahead of a day have one, if those of a gap have none. -/
def metN (S g gl d : Int) : Int := if d ≤ g then d - S else if d ≤ g + gl then g - S else d - S - gl
theorem metN_in {S g gl d : Int} (h1 : g ≤ d) (h2 : d < g + gl) : metN S g gl (d + 1) = metN S g gl d := by
  unfold metN
  repeat' split
  all_goals omega
theorem metN_out {S g gl d : Int} (h : ¬ (g ≤ d ∧ d < g + gl)) (h0 : 0 ≤ gl) : metN S g gl (d + 1) = metN S g gl d + 1 := by
  unfold metN
  repeat' split
  all_goals omega
theorem metN_start {S g gl : Int} (h : S ≤ g) : metN S g gl S = 0 := by
  unfold metN
  rw [if_pos h]; omega
theorem metN_end {S g gl E : Int} (h : g + gl ≤ E + 1) (h0 : 0 ≤ gl) : metN S g gl (E + 1) = E + 1 - S - gl := by
  unfold metN
  repeat' split
  all_goals omega
theorem metN_bd {S g gl d : Int} (h : S ≤ g) (h0 : 0 ≤ gl) (hd : S ≤ d) : 0 ≤ metN S g gl d ∧ metN S g gl d ≤ d - S := by
  unfold metN
  repeat' split
  all_goals omega
theorem metN_lt {S g gl d E : Int} (h : ¬ (g ≤ d ∧ d < g + gl)) (h0 : 0 ≤ gl) (hg : g + gl ≤ E + 1) (hd : d ≤ E) : metN S g gl d < E + 1 - S - gl := by
  unfold metN
  repeat' split
  all_goals omega
/-- A unit of a year of weeks: its days, and those with which they are compared. -/
theorem tw_days {c : Cal} {u : Un} {k : Int} (hU : unitE c u = 0) (hk6 : c.kind ≠ 6) (ht : c.first ≤ u.yr + k ∧ u.yr + k ≤ c.last) :
    ∃ g gl p m1 p2 m2 : Int, (gl = 0 ∨ gl = 7) ∧ (spV c u).a ≤ g ∧ g + gl ≤ (spV c u).b + 1 ∧ 0 ≤ m2 ∧
      (∀ d : Int, (spV c u).a ≤ d → d ≤ (spV c u).b → if g ≤ d ∧ d < g + gl then cdE c d k = 12 else cdE c d k = 0 ∧ cdV c d k = runPos p m1 p2 (metN (spV c u).a g gl d)) ∧
      ((spV c u).b - (spV c u).a + 1 - gl = 7 * ((twL0 c u k).length : Int)) ∧ m1 + m2 = (spV c u).b - (spV c u).a + 1 - gl ∧
      (twE c u k = 0 → 0 < m1 ∧ (0 < m2 → p + m1 < p2) ∧ rnL c u k = (if m2 = 0 then [⟨p, p + m1 - 1⟩] else [⟨p, p + m1 - 1⟩, ⟨p2, p2 + m2 - 1⟩])) := by
  obtain ⟨hf, l1, l5, hA, _, _⟩ := un_lv hU
  obtain ⟨hok, hk, _, _, hy1, hy2, _⟩ := frame_ok hf
  have hy : srv c u.yr := ⟨hy1, hy2⟩
  have hts : srv c (u.yr + k) := ht
  have hab := cutAB hU
  have hb60 := nWk_bd c _ hA
  have hsp := sp_get hU
  rw [dayW_7 c _ hA hk6 _ (by omega), dayW_7 c _ hA hk6 _ hab.2] at hsp
  have hend := dayW_end c _ hA
  rw [dayW_7 c _ hA hk6 _ (Nat.le_refl _)] at hend
  have ha0 : (spV c u).a = startV c u.yr + 7 * (cutA c u : Int) := by rw [hsp]
  have hb0 : (spV c u).b = startV c u.yr + 7 * (cutB c u : Int) - 1 := by rw [hsp]
  have hl0 : twL0 c u k = cmpL c u.yr (u.yr + k) (wksL c u) := by rw [twL0, if_neg hk6]
  have hday : ∀ d : Int, (spV c u).a ≤ d → d ≤ (spV c u).b → ∃ x : Int, x = (d - startV c u.yr) / 7 + 1 ∧ (cutA c u : Int) < x ∧ x ≤ cutB c u ∧ cdE c d k = cwE c u.yr (u.yr + k) x ∧ (cdE c d k = 0 → cdV c d k = startV c (u.yr + k) + (d - startV c u.yr) + 7 * (cwV c u.yr (u.yr + k) x - x)) := by
    intro d h1 h2
    obtain ⟨s1, s2⟩ := serv_yes (day := d) hk ⟨hA, by omega, by omega⟩ hy1 hy2
    have h3 := cd_week (d := d) (k := k) s1 hk6 (by rw [s2]; exact ht)
    rw [s2] at h3
    exact ⟨_, rfl, by omega, by omega, h3.1, h3.2⟩
  rcases cmp_shape hU hk6 hts with ⟨s, s1, s2, hw, hL, _⟩ | ⟨a, a1, a2, _, _, _, _, hg12, hw, hL⟩ | ⟨a, a1, a2, _, _, _, _, hw, hL⟩
  · refine ⟨(spV c u).a, 0, startV c (u.yr + k) + 7 * ((cutA c u : Int) + s), 7 * ((cutB c u : Int) - cutA c u), 0, 0, .inl rfl, by omega, by omega, by omega, ?_, ?_, by omega, ?_⟩
    · intro d h1 h2
      obtain ⟨x, hx, x1, x2, e1, e2⟩ := hday d h1 h2
      obtain ⟨w1, w2⟩ := hw x x1 x2
      rw [if_neg (by omega)]
      refine ⟨by rw [e1, w1], ?_⟩
      rw [e2 (by rw [e1, w1]), w2]
      unfold runPos metN
      repeat' split
      all_goals omega
    · rw [hl0, hL, segL_len]; omega
    · intro hE
      obtain ⟨_, _, hin, _, hLe⟩ := tw_ok hE
      rw [hl0, hL] at hin hLe
      obtain ⟨hm, _⟩ := seg_map (c := c) (t := u.yr + k) (n := (cutA c u : Int) + 1 + s) (cutB c u - cutA c u) hk hk6 hts ⟨by omega, by omega⟩ (fun w hw => inB_mem hin hw)
      have hr := rn_form (f := fun j => startV c (u.yr + k) + 7 * ((cutA c u : Int) + 1 + s + j - 1)) (g := fun _ => 0) (m := cutB c u - cutA c u) (n := 0) (by omega) (by omega)
      refine ⟨by omega, by omega, ?_⟩
      rw [if_pos rfl, rnL, hLe, hm]
      have e0 : adjS (fun _ => (0 : Int)) 0 = [] := rfl
      rw [e0, List.append_nil, if_pos rfl] at hr
      rw [hr]
      simp only [List.cons.injEq, Sp.mk.injEq, and_true]
      constructor <;> omega
  · refine ⟨startV c u.yr + 7 * (a - 1), 7, startV c (u.yr + k) + 7 * (cutA c u : Int), 7 * ((cutB c u : Int) - cutA c u - 1), 0, 0, .inr rfl, by omega, by omega, by omega, ?_, ?_, by omega, ?_⟩
    · intro d h1 h2
      obtain ⟨x, hx, x1, x2, e1, e2⟩ := hday d h1 h2
      split
      · have : x = a := by omega
        rw [e1, this, hg12]
      · obtain ⟨w1, w2⟩ := hw x x1 x2 (by omega)
        refine ⟨by rw [e1, w1], ?_⟩
        rw [e2 (by rw [e1, w1]), w2]
        unfold runPos metN
        repeat' split
        all_goals omega
    · rw [hl0, hL, segL_len]; omega
    · intro hE
      obtain ⟨_, _, hin, hlen, hLe⟩ := tw_ok hE
      rw [hl0, hL] at hin hLe hlen
      rw [segL_len] at hlen
      obtain ⟨hm, _⟩ := seg_map (c := c) (t := u.yr + k) (n := (cutA c u : Int) + 1) (cutB c u - cutA c u - 1) hk hk6 hts ⟨by omega, by omega⟩ (fun w hw => inB_mem hin hw)
      have hr := rn_form (f := fun j => startV c (u.yr + k) + 7 * ((cutA c u : Int) + 1 + j - 1)) (g := fun _ => 0) (m := cutB c u - cutA c u - 1) (n := 0) (by omega) (by omega)
      refine ⟨by omega, by omega, ?_⟩
      rw [if_pos rfl, rnL, hLe, hm]
      have e0 : adjS (fun _ => (0 : Int)) 0 = [] := rfl
      rw [e0, List.append_nil, if_pos rfl] at hr
      rw [hr]
      simp only [List.cons.injEq, Sp.mk.injEq, and_true]
      constructor <;> omega
  · refine ⟨(spV c u).a, 0, startV c (u.yr + k) + 7 * (cutA c u : Int), 7 * (a - 1 - cutA c u), startV c (u.yr + k) + 7 * a, 7 * ((cutB c u : Int) - a + 1), .inl rfl, by omega, by omega, by omega, ?_, ?_, by omega, ?_⟩
    · intro d h1 h2
      obtain ⟨x, hx, x1, x2, e1, e2⟩ := hday d h1 h2
      obtain ⟨w1, w2⟩ := hw x x1 x2
      rw [if_neg (by omega)]
      refine ⟨by rw [e1, w1], ?_⟩
      rw [e2 (by rw [e1, w1]), w2]
      unfold runPos metN
      repeat' split
      all_goals omega
    · rw [hl0, hL, List.length_append, segL_len, segL_len]; omega
    · intro hE
      obtain ⟨_, _, hin, _, hLe⟩ := tw_ok hE
      rw [hl0, hL] at hin hLe
      obtain ⟨hm, _⟩ := seg_map (c := c) (t := u.yr + k) (n := (cutA c u : Int) + 1) (a - 1 - cutA c u).toNat hk hk6 hts ⟨by omega, by omega⟩ (fun w hw => inB_mem hin (List.mem_append_left _ hw))
      obtain ⟨hm2, _⟩ := seg_map (c := c) (t := u.yr + k) (n := a + 1) (cutB c u - a + 1).toNat hk hk6 hts ⟨by omega, by omega⟩ (fun w hw => inB_mem hin (List.mem_append_right _ hw))
      have hr := rn_form (f := fun j => startV c (u.yr + k) + 7 * ((cutA c u : Int) + 1 + j - 1)) (g := fun j => startV c (u.yr + k) + 7 * (a + 1 + (j : Nat) - 1)) (m := (a - 1 - cutA c u).toNat) (n := (cutB c u - a + 1).toNat) (by omega) (by intro _; (try simp only); omega)
      refine ⟨by omega, by omega, ?_⟩
      rw [if_neg (by omega), rnL, hLe, List.map_append, hm, hm2, hr, if_neg (by omega)]
      simp only [List.cons.injEq, Sp.mk.injEq, and_true]
      refine ⟨⟨?_, ?_⟩, ?_, ?_⟩ <;> omega
end Go.Proofs.YtamnccechaooaaaGreat
