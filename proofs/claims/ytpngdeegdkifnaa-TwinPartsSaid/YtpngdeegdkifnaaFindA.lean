/- Contracts of find.Day. Contracts of stamp.Parse on the text of layer 17's example. -/
import Derived.Test.YtpngdeegdkifnaaYearG
import Derived.Test.YtpngdeegdkifnaaUnitP
import Derived.Test.YtpngdeegdkifnaaCivilC
import Derived.WalkSmall
namespace Go.Proofs.Ytpngdeegdkifnaa
open Go.RowKit Qd
set_option linter.unusedSimpArgs false
set_option linter.unusedVariables false

/-- In which week, counted from 0, a day of the year lies. -/
def wkN (c : Cal) (y d : Int) : Nat := bsL ((spL c y).map Prod.snd) d
theorem spL_snd (c : Cal) (y : Int) (hE : askE c y 1601 = 0) (i : Nat) (hi : i < nWk c y) : ((spL c y).map Prod.snd)[i]?.getD 0 = dayW c y (i + 1) - 1 := by
  rw [snd_get _ i (by rw [spL_len]; exact hi), (dayW_get c y hE i hi).1]
  rfl
theorem wk_eq (c : Cal) (y d : Int) (hE : askE c y 1601 = 0) (i : Nat) (hi : i < nWk c y) (h1 : dayW c y i ≤ d) (h2 : d < dayW c y (i + 1)) : wkN c y d = i := by
  refine bsL_eq _ _ i (by rw [List.length_map, spL_len]; omega) (fun j hj => ?_) (fun _ => ?_)
  · rw [spL_snd c y hE j (by omega)]
    have := dayW_le c y hE (show j + 1 ≤ i by omega) (by omega)
    omega
  · rw [spL_snd c y hE i hi]
    omega
theorem wk_find (c : Cal) (y d : Int) (hE : askE c y 1601 = 0) (h1 : startV c y ≤ d) (h2 : d ≤ endV c y) : ∃ i, i < nWk c y ∧ dayW c y i ≤ d ∧ d < dayW c y (i + 1) := by
  have key : ∀ m, m ≤ nWk c y → d < dayW c y m → ∃ i, i < nWk c y ∧ dayW c y i ≤ d ∧ d < dayW c y (i + 1) := by
    intro m
    induction m with
    | zero => intro _ h; rw [dayW_0] at h; omega
    | succ m ih =>
      intro hm h
      rcases Int.lt_or_le d (dayW c y m) with h3 | h3
      · exact ih (by omega) h3
      · exact ⟨m, by omega, h3, h⟩
  exact key _ (Nat.le_refl _) (by rw [dayW_end c y hE]; omega)
theorem wk_ok (c : Cal) (y d : Int) (hE : askE c y 1601 = 0) (h1 : startV c y ≤ d) (h2 : d ≤ endV c y) : wkN c y d < nWk c y ∧ dayW c y (wkN c y d) ≤ d ∧ d < dayW c y (wkN c y d + 1) := by
  obtain ⟨i, hi, ha, hb⟩ := wk_find c y d hE h1 h2
  rw [wk_eq c y d hE i hi ha hb]
  exact ⟨hi, ha, hb⟩

/-- Why a day's unit is not told, and which it is. -/
noncomputable def fdE (c : Cal) (d lv : Int) : Int := if c.okB = true ∧ 1 ≤ lv ∧ lv ≤ 5 then servE c d else 1
noncomputable def fdU (c : Cal) (d lv : Int) : Un := if fdE c d lv = 0 then ⟨lv, servY c d, (ixN c (servY c d) lv (wkN c (servY c d) d) : Int) + 1⟩ else ⟨0, 0, 0⟩
theorem fd_ok {c : Cal} {d lv : Int} (h : fdE c d lv = 0) : c.okB = true ∧ 1 ≤ lv ∧ lv ≤ 5 ∧ servE c d = 0 ∧ isB d = true ∧ yrOk c d (servY c d) ∧ frameE c lv (servY c d) = 0 := by
  unfold fdE at h
  split at h
  · rename_i hk
    obtain ⟨a1, a2, a3, a4, a5⟩ := serv_ok h
    exact ⟨hk.1, hk.2.1, hk.2.2, h, a2, a3, frame_is (ask_ok a3.1).1 hk.2.1 hk.2.2 a4 a5⟩
  · omega
/-- The unit that is told has the day. -/
theorem fd_in {c : Cal} {d lv : Int} (h : fdE c d lv = 0) : ∃ i : Nat, fdU c d lv = ⟨lv, servY c d, (i : Int) + 1⟩ ∧ i < cntL c (servY c d) lv ∧ dayW c (servY c d) (cutN c (servY c d) lv i) ≤ d ∧ d < dayW c (servY c d) (cutN c (servY c d) lv (i + 1)) := by
  obtain ⟨hk, h1, h5, hs, hd, hy, hf⟩ := fd_ok h
  obtain ⟨w1, w2, w3⟩ := wk_ok c (servY c d) d hy.1 hy.2.1 hy.2.2
  obtain ⟨e1, e2, e3⟩ := ix_ok c (servY c d) hy.1 lv h1 h5 _ w1
  refine ⟨_, by rw [fdU, if_pos h], e1, ?_, ?_⟩
  · have := dayW_le c _ hy.1 e2 (by omega); omega
  · have := dayW_le c _ hy.1 (show wkN c (servY c d) d + 1 ≤ cutN c (servY c d) lv (ixN c (servY c d) lv (wkN c (servY c d) d) + 1) from e3) (cut_le_nWk c _ hy.1 lv h1 h5 _ e1); omega
/-- A day of a unit is told to lie in it. -/
theorem fd_of {c : Cal} {lv y d : Int} (hf : frameE c lv y = 0) (i : Nat) (hi : i < cntL c y lv) (h1 : dayW c y (cutN c y lv i) ≤ d) (h2 : d < dayW c y (cutN c y lv (i + 1))) :
    fdE c d lv = 0 ∧ servE c d = 0 ∧ servY c d = y ∧ fdU c d lv = ⟨lv, y, (i : Int) + 1⟩ := by
  obtain ⟨hok, hk, l1, l5, hy1, hy2, hA⟩ := frame_ok hf
  have hc := cut_le_nWk c y hA lv l1 l5 (i + 1) hi
  have hlt := cut_lt c y hA lv l1 l5 i hi
  have b1 := dayW_le c y hA (Nat.zero_le (cutN c y lv i)) (by omega)
  have b2 := dayW_le c y hA hc (Nat.le_refl _)
  rw [dayW_0] at b1
  rw [dayW_end c y hA] at b2
  have hyr : yrOk c d y := ⟨hA, by omega, by omega⟩
  obtain ⟨s1, s2⟩ := serv_yes hk hyr hy1 hy2
  have e : fdE c d lv = 0 := by unfold fdE; rw [if_pos ⟨hk, l1, l5⟩]; exact s1
  refine ⟨e, s1, s2, ?_⟩
  rw [fdU, if_pos e, s2]
  obtain ⟨w1, w2, w3⟩ := wk_ok c y d hA hyr.2.1 hyr.2.2
  have hge : cutN c y lv i ≤ wkN c y d := by
    rcases Nat.lt_or_ge (wkN c y d) (cutN c y lv i) with h | h
    · have := dayW_le c y hA (show wkN c y d + 1 ≤ cutN c y lv i from h) (by omega); omega
    · exact h
  have hlt2 : wkN c y d < cutN c y lv (i + 1) := by
    rcases Nat.lt_or_ge (wkN c y d) (cutN c y lv (i + 1)) with h | h
    · exact h
    · have := dayW_le c y hA h (by omega); omega
  rw [ix_eq c y hA lv l1 l5 _ i hi hge hlt2]

set_option maxRecDepth 100000 in
set_option maxHeartbeats 1600000 in
theorem levelled_any (lv : Int) (w : World) : Calls Try.prog 38 #[.int .i64 lv] w fun e w' => e = .returned (.bool (decide (1 ≤ lv ∧ lv ≤ 5))) ∧ w = w' := by
  go_enter Try.func38, Try.ntmps38
  go_wp2
  all_goals (go_ret; refine ⟨ret_bool ?_, rfl⟩; simp; try omega)

set_option maxRecDepth 100000 in
set_option maxHeartbeats 1600000 in
theorem fweek_any (c : Cal) (y d : Int) (w : World) (cap g1 g2 : Nat) (hE : askE c y 1601 = 0) (hS : SpansAt w g1 (spL c y)) (hd : -100000000 ≤ d ∧ d ≤ 100000000) :
    Calls Try.prog 41 #[yearV y (nWk c y) cap g1 (nPer c y) g2, .int .i64 d] w fun e w' => e = .returned (.int .i64 ((wkN c y d : Int) + 1)) ∧ Below w.heap.size w w' := by
  have hnb := nWk_bd c y hE
  have hyb := year_bd c y hE
  have hle : bsL ((spL c y).map Prod.snd) d ≤ 100 := by
    have := bsL_le ((spL c y).map Prod.snd) d
    rw [List.length_map, spL_len] at this
    omega
  have hval : ∀ i, i < (spL c y).length → -100000000 ≤ ((spL c y)[i]?.getD (0, 0)).2 ∧ ((spL c y)[i]?.getD (0, 0)).2 ≤ 100000000 := by
    intro i hi
    rw [spL_len] at hi
    rw [(dayW_get c y hE i hi).1]
    have b1 := dayW_le c y hE (Nat.zero_le (i + 1)) hi
    have b2 := dayW_le c y hE (show i + 1 ≤ nWk c y from hi) (Nat.le_refl _)
    rw [dayW_0] at b1
    rw [dayW_end c y hE] at b2
    simp only [Option.getD_some]
    omega
  have hsort : ∀ i j, i ≤ j → j < (spL c y).length → ((spL c y)[i]?.getD (0, 0)).2 ≤ ((spL c y)[j]?.getD (0, 0)).2 := by
    intro i j hij hj
    rw [spL_len] at hj
    rw [(dayW_get c y hE i (by omega)).1, (dayW_get c y hE j hj).1]
    have := dayW_le c y hE (show i + 1 ≤ j + 1 by omega) (by omega)
    simp only [Option.getD_some]
    omega
  have HL := hide (spL_len c y)
  have HX := hide (show bsL ((spL c y).map Prod.snd) d = wkN c y d from rfl)
  have HS := hide hS
  have hl := HL.out
  clear hS
  simp only [yearV]
  go_enter Try.func41, Try.ntmps41
  go_wp2_with fail
  rw [← HL.out]
  refine (bsearch2_any g1 cap (spL c y) d _ (by omega) (HS.out.alloc _) hd hval hsort).mono ?_
  rintro e w1 ⟨b, rfl, hb1⟩
  rw [HX.out]
  have HW := hide (show Below w.heap.size w w1 by (repeat' (first | (with_reducible exact Below.refl _ _) | (with_reducible assumption) | (with_reducible refine Below.alloc ?_ ?_ _) | (with_reducible refine below_drewN ?_ _) | (with_reducible refine Below.drew ?_) | (with_reducible refine Below.setCell ?_ ?_ _) | (with_reducible refine Below.trans ?_ (Below.mono (by assumption) ?_)) | go_size | (simp at *; omega))))
  clear hb1 hval hsort
  have hle2 : wkN c y d ≤ 100 := by rw [← HX.out]; exact hle
  go_wp2
  go_ret
  exact ⟨rfl, HW.out⟩

set_option maxRecDepth 100000 in
set_option maxHeartbeats 1600000 in
theorem fday_cal (c : Cal) (d lv : Int) (w : World) (hn : c.name.size ≤ 1000) (hk : c.okB = false) :
    Calls Try.prog 16 #[calV c, .int .i64 d, .int .i64 lv] w fun e w' => e = .returned (.tuple #[.agg #[.int .i64 0, .int .i64 0, .int .i64 0], .int .i64 1]) ∧ Below w.heap.size w w' := by
  have HO := hide (show okE c = 1 by simp [okE, hk])
  clear hk
  simp only [calV]
  go_enter Try.func16, Try.ntmps16
  go_wp2_with fail
  refine (check_any c _ hn).mono ?_
  rintro e w1 ⟨rfl, hb1⟩
  rw [HO.out]
  have r0 : w1.cell? ⟨w.heap.size + 1, 0, none⟩ = some (.int .i64 0) := by rw [hb1.cell (p := ⟨w.heap.size + 1, 0, none⟩) (by simp; try omega)]; simp [World.cell?_alloc_at, World.cell?_alloc_past, World.frozen?_alloc_at, World.frozen?_alloc_past]
  have f0 : w1.frozen? ⟨w.heap.size + 1, 0, none⟩ = false := by rw [hb1.frozen (p := ⟨w.heap.size + 1, 0, none⟩) (by simp; try omega)]; simp [World.cell?_alloc_at, World.cell?_alloc_past, World.frozen?_alloc_at, World.frozen?_alloc_past]
  have r1 : w1.cell? ⟨w.heap.size + 1, 1, none⟩ = some (.int .i64 0) := by rw [hb1.cell (p := ⟨w.heap.size + 1, 1, none⟩) (by simp; try omega)]; simp [World.cell?_alloc_at, World.cell?_alloc_past, World.frozen?_alloc_at, World.frozen?_alloc_past]
  have f1 : w1.frozen? ⟨w.heap.size + 1, 1, none⟩ = false := by rw [hb1.frozen (p := ⟨w.heap.size + 1, 1, none⟩) (by simp; try omega)]; simp [World.cell?_alloc_at, World.cell?_alloc_past, World.frozen?_alloc_at, World.frozen?_alloc_past]
  have r2 : w1.cell? ⟨w.heap.size + 1, 2, none⟩ = some (.int .i64 0) := by rw [hb1.cell (p := ⟨w.heap.size + 1, 2, none⟩) (by simp; try omega)]; simp [World.cell?_alloc_at, World.cell?_alloc_past, World.frozen?_alloc_at, World.frozen?_alloc_past]
  have f2 : w1.frozen? ⟨w.heap.size + 1, 2, none⟩ = false := by rw [hb1.frozen (p := ⟨w.heap.size + 1, 2, none⟩) (by simp; try omega)]; simp [World.cell?_alloc_at, World.cell?_alloc_past, World.frozen?_alloc_at, World.frozen?_alloc_past]
  have hsz : w.heap.size + 1 < w1.heap.size := by have := hb1.size; simp at this; omega
  have hBel := (show Below w.heap.size w w1 by (repeat' (first | (with_reducible exact Below.refl _ _) | (with_reducible assumption) | (with_reducible refine Below.alloc ?_ ?_ _) | (with_reducible refine below_drewN ?_ _) | (with_reducible refine Below.drew ?_) | (with_reducible refine Below.setCell ?_ ?_ _) | (with_reducible refine Below.trans ?_ (Below.mono (by assumption) ?_)) | go_size | (simp at *; omega))))
  clear hb1
  go_wp2
  exact bodyPost_ret (v := .tuple #[.agg #[.int .i64 0, .int .i64 0, .int .i64 0], .int .i64 1]) (by simp (maxDischargeDepth := 9) [results, Try.results16, go_sem, r0, r1, r2, f0, f1, f2, hsz]) rfl ⟨rfl, by (repeat' (first | (with_reducible exact Below.refl _ _) | (with_reducible assumption) | (with_reducible refine Below.alloc ?_ ?_ _) | (with_reducible refine below_drewN ?_ _) | (with_reducible refine Below.drew ?_) | (with_reducible refine Below.setCell ?_ ?_ _) | (with_reducible refine Below.trans ?_ (Below.mono (by assumption) ?_)) | go_size | (simp at *; omega)))⟩

set_option maxRecDepth 100000 in
set_option maxHeartbeats 1600000 in
theorem fday_lv (c : Cal) (d lv : Int) (w : World) (hn : c.name.size ≤ 1000) (hk : c.okB = true) (hl : ¬ (1 ≤ lv ∧ lv ≤ 5)) :
    Calls Try.prog 16 #[calV c, .int .i64 d, .int .i64 lv] w fun e w' => e = .returned (.tuple #[.agg #[.int .i64 0, .int .i64 0, .int .i64 0], .int .i64 1]) ∧ Below w.heap.size w w' := by
  have HO := hide (show okE c = 0 by simp [okE, hk])
  have hlb : decide (1 ≤ lv ∧ lv ≤ 5) = false := by simpa using hl
  clear hk hl
  simp only [calV]
  go_enter Try.func16, Try.ntmps16
  go_wp2_with fail
  refine (check_any c _ hn).mono ?_
  rintro e w1 ⟨rfl, hb1⟩
  rw [HO.out]
  have r0 : w1.cell? ⟨w.heap.size + 1, 0, none⟩ = some (.int .i64 0) := by rw [hb1.cell (p := ⟨w.heap.size + 1, 0, none⟩) (by simp; try omega)]; simp [World.cell?_alloc_at, World.cell?_alloc_past, World.frozen?_alloc_at, World.frozen?_alloc_past]
  have f0 : w1.frozen? ⟨w.heap.size + 1, 0, none⟩ = false := by rw [hb1.frozen (p := ⟨w.heap.size + 1, 0, none⟩) (by simp; try omega)]; simp [World.cell?_alloc_at, World.cell?_alloc_past, World.frozen?_alloc_at, World.frozen?_alloc_past]
  have r1 : w1.cell? ⟨w.heap.size + 1, 1, none⟩ = some (.int .i64 0) := by rw [hb1.cell (p := ⟨w.heap.size + 1, 1, none⟩) (by simp; try omega)]; simp [World.cell?_alloc_at, World.cell?_alloc_past, World.frozen?_alloc_at, World.frozen?_alloc_past]
  have f1 : w1.frozen? ⟨w.heap.size + 1, 1, none⟩ = false := by rw [hb1.frozen (p := ⟨w.heap.size + 1, 1, none⟩) (by simp; try omega)]; simp [World.cell?_alloc_at, World.cell?_alloc_past, World.frozen?_alloc_at, World.frozen?_alloc_past]
  have r2 : w1.cell? ⟨w.heap.size + 1, 2, none⟩ = some (.int .i64 0) := by rw [hb1.cell (p := ⟨w.heap.size + 1, 2, none⟩) (by simp; try omega)]; simp [World.cell?_alloc_at, World.cell?_alloc_past, World.frozen?_alloc_at, World.frozen?_alloc_past]
  have f2 : w1.frozen? ⟨w.heap.size + 1, 2, none⟩ = false := by rw [hb1.frozen (p := ⟨w.heap.size + 1, 2, none⟩) (by simp; try omega)]; simp [World.cell?_alloc_at, World.cell?_alloc_past, World.frozen?_alloc_at, World.frozen?_alloc_past]
  have hsz : w.heap.size + 1 < w1.heap.size := by have := hb1.size; simp at this; omega
  have hBel := (show Below w.heap.size w w1 by (repeat' (first | (with_reducible exact Below.refl _ _) | (with_reducible assumption) | (with_reducible refine Below.alloc ?_ ?_ _) | (with_reducible refine below_drewN ?_ _) | (with_reducible refine Below.drew ?_) | (with_reducible refine Below.setCell ?_ ?_ _) | (with_reducible refine Below.trans ?_ (Below.mono (by assumption) ?_)) | go_size | (simp at *; omega))))
  clear hb1
  go_wp2_with (go_at_call 38; refine (levelled_any _ _).mono ?_; rintro e w' ⟨rfl, rfl⟩; rw [hlb])
  exact bodyPost_ret (v := .tuple #[.agg #[.int .i64 0, .int .i64 0, .int .i64 0], .int .i64 1]) (by simp (maxDischargeDepth := 9) [results, Try.results16, go_sem, r0, r1, r2, f0, f1, f2, hsz]) rfl ⟨rfl, by (repeat' (first | (with_reducible exact Below.refl _ _) | (with_reducible assumption) | (with_reducible refine Below.alloc ?_ ?_ _) | (with_reducible refine below_drewN ?_ _) | (with_reducible refine Below.drew ?_) | (with_reducible refine Below.setCell ?_ ?_ _) | (with_reducible refine Below.trans ?_ (Below.mono (by assumption) ?_)) | go_size | (simp at *; omega)))⟩

set_option maxRecDepth 100000 in
set_option maxHeartbeats 1600000 in
theorem fday_day (c : Cal) (d lv : Int) (w : World) (hn : c.name.size ≤ 1000) (hk : c.okB = true) (hl : 1 ≤ lv ∧ lv ≤ 5) (hs : ¬ servE c d = 0) :
    Calls Try.prog 16 #[calV c, .int .i64 d, .int .i64 lv] w fun e w' => e = .returned (.tuple #[.agg #[.int .i64 0, .int .i64 0, .int .i64 0], .int .i64 (servE c d)]) ∧ Below w.heap.size w w' := by
  have HO := hide (show okE c = 0 by simp [okE, hk])
  have hlb : decide (1 ≤ lv ∧ lv ≤ 5) = true := by simpa using hl
  have hs' : (servE c d != 0) = true := by simpa using hs
  clear hk hl hs
  simp only [calV]
  go_enter Try.func16, Try.ntmps16
  go_wp2_with fail
  refine (check_any c _ hn).mono ?_
  rintro e w1 ⟨rfl, hb1⟩
  rw [HO.out]
  have r0 : w1.cell? ⟨w.heap.size + 1, 0, none⟩ = some (.int .i64 0) := by rw [hb1.cell (p := ⟨w.heap.size + 1, 0, none⟩) (by simp; try omega)]; simp [World.cell?_alloc_at, World.cell?_alloc_past, World.frozen?_alloc_at, World.frozen?_alloc_past]
  have f0 : w1.frozen? ⟨w.heap.size + 1, 0, none⟩ = false := by rw [hb1.frozen (p := ⟨w.heap.size + 1, 0, none⟩) (by simp; try omega)]; simp [World.cell?_alloc_at, World.cell?_alloc_past, World.frozen?_alloc_at, World.frozen?_alloc_past]
  have r1 : w1.cell? ⟨w.heap.size + 1, 1, none⟩ = some (.int .i64 0) := by rw [hb1.cell (p := ⟨w.heap.size + 1, 1, none⟩) (by simp; try omega)]; simp [World.cell?_alloc_at, World.cell?_alloc_past, World.frozen?_alloc_at, World.frozen?_alloc_past]
  have f1 : w1.frozen? ⟨w.heap.size + 1, 1, none⟩ = false := by rw [hb1.frozen (p := ⟨w.heap.size + 1, 1, none⟩) (by simp; try omega)]; simp [World.cell?_alloc_at, World.cell?_alloc_past, World.frozen?_alloc_at, World.frozen?_alloc_past]
  have r2 : w1.cell? ⟨w.heap.size + 1, 2, none⟩ = some (.int .i64 0) := by rw [hb1.cell (p := ⟨w.heap.size + 1, 2, none⟩) (by simp; try omega)]; simp [World.cell?_alloc_at, World.cell?_alloc_past, World.frozen?_alloc_at, World.frozen?_alloc_past]
  have f2 : w1.frozen? ⟨w.heap.size + 1, 2, none⟩ = false := by rw [hb1.frozen (p := ⟨w.heap.size + 1, 2, none⟩) (by simp; try omega)]; simp [World.cell?_alloc_at, World.cell?_alloc_past, World.frozen?_alloc_at, World.frozen?_alloc_past]
  have hz1 : w.heap.size + 1 < w1.heap.size := by have := hb1.size; simp at this; omega
  have hz0 : w.heap.size < w1.heap.size := by omega
  have HB1 := hide (show Below w.heap.size w w1 by (repeat' (first | (with_reducible exact Below.refl _ _) | (with_reducible assumption) | (with_reducible refine Below.alloc ?_ ?_ _) | (with_reducible refine below_drewN ?_ _) | (with_reducible refine Below.drew ?_) | (with_reducible refine Below.setCell ?_ ?_ _) | (with_reducible refine Below.trans ?_ (Below.mono (by assumption) ?_)) | go_size | (simp at *; omega))))
  have HQ1 := hide (show CalAt w1 w.heap.size c from calAt_below hb1 (by simp; omega) (calAt_alloc (calAt_new w c) (by simp) _))
  clear hb1
  obtain ⟨q0, q1, q2, q3, q4, q5, q6, q7, q8, q9, q10, q11, q12, q13⟩ := HQ1.out
  go_wp2_with (go_at_call 38; refine (levelled_any _ _).mono ?_; rintro e w' ⟨rfl, rfl⟩; rw [hlb])
  refine (served_any c d _ hn).mono ?_
  rintro e w2 ⟨rfl, hb2⟩
  clear q0 q1 q2 q3 q4 q5 q6 q7 q8 q9 q10 q11 q12 q13
  have s0 : w2.cell? ⟨w.heap.size + 1, 0, none⟩ = some (.int .i64 0) := by rw [hb2.cell (p := ⟨w.heap.size + 1, 0, none⟩) hz1]; exact r0
  have k0 : w2.frozen? ⟨w.heap.size + 1, 0, none⟩ = false := by rw [hb2.frozen (p := ⟨w.heap.size + 1, 0, none⟩) hz1]; exact f0
  have s1 : w2.cell? ⟨w.heap.size + 1, 1, none⟩ = some (.int .i64 0) := by rw [hb2.cell (p := ⟨w.heap.size + 1, 1, none⟩) hz1]; exact r1
  have k1 : w2.frozen? ⟨w.heap.size + 1, 1, none⟩ = false := by rw [hb2.frozen (p := ⟨w.heap.size + 1, 1, none⟩) hz1]; exact f1
  have s2 : w2.cell? ⟨w.heap.size + 1, 2, none⟩ = some (.int .i64 0) := by rw [hb2.cell (p := ⟨w.heap.size + 1, 2, none⟩) hz1]; exact r2
  have k2 : w2.frozen? ⟨w.heap.size + 1, 2, none⟩ = false := by rw [hb2.frozen (p := ⟨w.heap.size + 1, 2, none⟩) hz1]; exact f2
  clear r0 r1 r2 f0 f1 f2
  have hsz : w.heap.size + 1 < w2.heap.size := Nat.lt_of_lt_of_le hz1 hb2.size
  have hBel := HB1.out.trans (hb2.mono (Nat.le_of_lt hz0))
  clear hb2
  go_wp2
  exact bodyPost_ret (v := .tuple #[.agg #[.int .i64 0, .int .i64 0, .int .i64 0], .int .i64 (servE c d)]) (by simp (maxDischargeDepth := 9) [results, Try.results16, go_sem, s0, s1, s2, k0, k1, k2, hsz]) rfl ⟨rfl, by (repeat' (first | (with_reducible exact Below.refl _ _) | (with_reducible assumption) | (with_reducible refine Below.alloc ?_ ?_ _) | (with_reducible refine below_drewN ?_ _) | (with_reducible refine Below.drew ?_) | (with_reducible refine Below.setCell ?_ ?_ _) | (with_reducible refine Below.trans ?_ (Below.mono (by assumption) ?_)) | go_size | (simp at *; omega)))⟩

/-- The frame, and the block of the result. -/
def FdSt (c : Cal) (y : Int) (F g1 cap g2 B : Nat) (w : World) : Prop := BlkIs w F #[.int .i64 y, .slice (some ⟨g1, 0, none⟩) (nWk c y) cap, .slice (some ⟨g2, 0, none⟩) (nPer c y) (nPer c y)] 67 ∧ FrameAt w g1 g2 c y ∧ BlkIs w B #[.int .i64 0, .int .i64 0, .int .i64 0] 31
theorem FdSt.call {c : Cal} {y : Int} {F g1 cap g2 B : Nat} {w w' : World} (h : FdSt c y F g1 cap g2 B w) (hb : Below w.heap.size w w') : FdSt c y F g1 cap g2 B w' :=
  ⟨h.1.call hb, h.2.1.call hb, h.2.2.call hb⟩
theorem FdSt.drew {c : Cal} {y : Int} {F g1 cap g2 B : Nat} {w : World} (h : FdSt c y F g1 cap g2 B w) : FdSt c y F g1 cap g2 B w.drew := h
theorem FdSt.load {c : Cal} {y : Int} {F g1 cap g2 B : Nat} {w' : World} (h : FdSt c y F g1 cap g2 B w') : w'.cell? ⟨F, 0, none⟩ = some (.int .i64 y) ∧ w'.cell? ⟨F, 1, none⟩ = some (.slice (some ⟨g1, 0, none⟩) (nWk c y) cap) ∧ w'.cell? ⟨F, 2, none⟩ = some (.slice (some ⟨g2, 0, none⟩) (nPer c y) (nPer c y)) :=
  ⟨h.1.cell 0, h.1.cell 1, h.1.cell 2⟩
theorem FdSt.res {c : Cal} {y : Int} {F g1 cap g2 B : Nat} {w' : World} (h : FdSt c y F g1 cap g2 B w') :
    (w'.cell? ⟨B, 0, none⟩ = some (.int .i64 0) ∧ w'.cell? ⟨B, 1, none⟩ = some (.int .i64 0) ∧ w'.cell? ⟨B, 2, none⟩ = some (.int .i64 0)) ∧
    (w'.frozen? ⟨B, 0, none⟩ = false ∧ w'.frozen? ⟨B, 1, none⟩ = false ∧ w'.frozen? ⟨B, 2, none⟩ = false) :=
  ⟨⟨h.2.2.cell 0, h.2.2.cell 1, h.2.2.cell 2⟩, ⟨h.2.2.frozen 0, h.2.2.frozen 1, h.2.2.frozen 2⟩⟩
theorem res_fday {tmps : Array Value} {W : World} {B : Nat} {a0 a1 a2 e : Int} (h6 : tmps[6]? = some (.pointer (some ⟨B, 0, none⟩))) (h7 : tmps[7]? = some (.int .i64 e))
    (g6 : BlkIs W B #[.int .i64 a0, .int .i64 a1, .int .i64 a2] 31) :
    (results Try.f16 tmps).run Try.prog W = .ok (.tuple #[.agg #[.int .i64 a0, .int .i64 a1, .int .i64 a2], .int .i64 e]) W := by
  have c0 := g6.cell 0
  have c1 := g6.cell 1
  have c2 := g6.cell 2
  simp at c0 c1 c2
  simp [results, Try.results16, go_sem, h6, h7, c0, c1, c2]

set_option maxRecDepth 100000 in
set_option maxHeartbeats 1600000 in
theorem fday_yes (c : Cal) (d lv : Int) (w : World) (hn : c.name.size ≤ 1000) (hE : fdE c d lv = 0) :
    Calls Try.prog 16 #[calV c, .int .i64 d, .int .i64 lv] w fun e w' => e = .returned (.tuple #[.agg #[.int .i64 lv, .int .i64 (servY c d), .int .i64 ((ixN c (servY c d) lv (wkN c (servY c d) d) : Int) + 1)], .int .i64 0]) ∧ Below w.heap.size w w' := by
  obtain ⟨hk, h1, h5, hs, hd, hy, hf⟩ := fd_ok hE
  have hdd : 0 ≤ d ∧ d < 3068037 := by simpa [isB] using hd
  have HO := hide (show okE c = 0 by simp [okE, hk])
  have hlb : decide (1 ≤ lv ∧ lv ≤ 5) = true := by simp; omega
  obtain ⟨y, hyy⟩ : ∃ y, y = servY c d := ⟨_, rfl⟩
  rw [← hyy] at hy hf ⊢
  have HYY := hide hyy
  have HS := hide hs
  have HA := hide hy.1
  have HF := hide hf
  clear hE hk hs hd hy hf hyy
  simp only [calV]
  go_enter Try.func16, Try.ntmps16
  go_wp2_with fail
  refine (check_any c _ hn).mono ?_
  rintro e w1 ⟨rfl, hb1⟩
  rw [HO.out]
  have r0 : w1.cell? ⟨w.heap.size + 1, 0, none⟩ = some (.int .i64 0) := by rw [hb1.cell (p := ⟨w.heap.size + 1, 0, none⟩) (by simp; try omega)]; simp [World.cell?_alloc_at, World.cell?_alloc_past, World.frozen?_alloc_at, World.frozen?_alloc_past]
  have f0 : w1.frozen? ⟨w.heap.size + 1, 0, none⟩ = false := by rw [hb1.frozen (p := ⟨w.heap.size + 1, 0, none⟩) (by simp; try omega)]; simp [World.cell?_alloc_at, World.cell?_alloc_past, World.frozen?_alloc_at, World.frozen?_alloc_past]
  have r1 : w1.cell? ⟨w.heap.size + 1, 1, none⟩ = some (.int .i64 0) := by rw [hb1.cell (p := ⟨w.heap.size + 1, 1, none⟩) (by simp; try omega)]; simp [World.cell?_alloc_at, World.cell?_alloc_past, World.frozen?_alloc_at, World.frozen?_alloc_past]
  have f1 : w1.frozen? ⟨w.heap.size + 1, 1, none⟩ = false := by rw [hb1.frozen (p := ⟨w.heap.size + 1, 1, none⟩) (by simp; try omega)]; simp [World.cell?_alloc_at, World.cell?_alloc_past, World.frozen?_alloc_at, World.frozen?_alloc_past]
  have r2 : w1.cell? ⟨w.heap.size + 1, 2, none⟩ = some (.int .i64 0) := by rw [hb1.cell (p := ⟨w.heap.size + 1, 2, none⟩) (by simp; try omega)]; simp [World.cell?_alloc_at, World.cell?_alloc_past, World.frozen?_alloc_at, World.frozen?_alloc_past]
  have f2 : w1.frozen? ⟨w.heap.size + 1, 2, none⟩ = false := by rw [hb1.frozen (p := ⟨w.heap.size + 1, 2, none⟩) (by simp; try omega)]; simp [World.cell?_alloc_at, World.cell?_alloc_past, World.frozen?_alloc_at, World.frozen?_alloc_past]
  have hz1 : w.heap.size + 1 < w1.heap.size := by have := hb1.size; simp at this; omega
  have hz0 : w.heap.size < w1.heap.size := by omega
  have HB1 := hide (show Below w.heap.size w w1 by (repeat' (first | (with_reducible exact Below.refl _ _) | (with_reducible assumption) | (with_reducible refine Below.alloc ?_ ?_ _) | (with_reducible refine below_drewN ?_ _) | (with_reducible refine Below.drew ?_) | (with_reducible refine Below.setCell ?_ ?_ _) | (with_reducible refine Below.trans ?_ (Below.mono (by assumption) ?_)) | go_size | (simp at *; omega))))
  have HQ1 := hide (show CalAt w1 w.heap.size c from calAt_below hb1 (by simp; omega) (calAt_alloc (calAt_new w c) (by simp) _))
  have G1 : BlkIs w1 (w.heap.size + 1) #[.int .i64 0, .int .i64 0, .int .i64 0] 31 := BlkIs.below (by simpa using BlkIs.new (w.alloc (calObj c)) #[.int .i64 0, .int .i64 0, .int .i64 0] 31) hb1 (by simp)
  clear hb1
  obtain ⟨q0, q1, q2, q3, q4, q5, q6, q7, q8, q9, q10, q11, q12, q13⟩ := HQ1.out
  go_wp2_with (go_at_call 38; refine (levelled_any _ _).mono ?_; rintro e w' ⟨rfl, rfl⟩; rw [hlb])
  refine (served_any c d _ hn).mono ?_
  rintro e w2 ⟨rfl, hb2⟩
  clear q0 q1 q2 q3 q4 q5 q6 q7 q8 q9 q10 q11 q12 q13
  rw [HS.out, ← HYY.out]
  have GB1 : BlkIs w1 (w.heap.size + 1) #[.int .i64 0, .int .i64 0, .int .i64 0] 31 := G1
  have GB := hide (GB1.call hb2)
  have HQ2 := hide (show CalAt w2 w.heap.size c from calAt_below hb2 hz0 HQ1.out)
  have hz2 : w.heap.size + 1 < w2.heap.size := Nat.lt_of_lt_of_le hz1 hb2.size
  have hz20 : w.heap.size < w2.heap.size := by omega
  have HB2 := hide (HB1.out.trans (hb2.mono (Nat.le_of_lt hz0)))
  clear hb2 r0 r1 r2 f0 f1 f2
  obtain ⟨q0, q1, q2, q3, q4, q5, q6, q7, q8, q9, q10, q11, q12, q13⟩ := HQ2.out
  go_wp2_with fail
  refine (make_yes c lv y _ hn HF.out).mono ?_
  rintro e w3 ⟨g1, cap, g2, hG1, hG2, rfl, hc1, hc2, hFr, hb3⟩
  clear q0 q1 q2 q3 q4 q5 q6 q7 q8 q9 q10 q11 q12 q13
  have GB3 := hide (GB.out.call hb3)
  have HFr := hide hFr
  have hz3 : w.heap.size + 1 < w3.heap.size := Nat.lt_of_lt_of_le hz2 hb3.size
  have HB3 := hide (HB2.out.trans (hb3.mono (Nat.le_of_lt hz20)))
  clear hb3 hFr hG1 hG2
  have hne : w.heap.size + 1 ≠ w3.heap.size := by omega
  have hkB : w.heap.size ≤ w.heap.size + 1 := by omega
  clear GB1 G1
  generalize w.heap.size + 1 = B at *
  obtain ⟨F, hF⟩ : ∃ F, F = w3.heap.size := ⟨_, rfl⟩
  have HD := hide (show FdSt c y F g1 cap g2 B (w3.alloc (.cells #[.int .i64 y, .slice (some ⟨g1, 0, none⟩) (nWk c y) cap, .slice (some ⟨g2, 0, none⟩) (nPer c y) (nPer c y)] 67)) from ⟨by rw [hF]; exact BlkIs.new w3 _ _, HFr.out.alloc _, GB3.out.alloc _⟩)
  have HW1 := hide (show Below w.heap.size w (w3.alloc (.cells #[.int .i64 y, .slice (some ⟨g1, 0, none⟩) (nWk c y) cap, .slice (some ⟨g2, 0, none⟩) (nPer c y) (nPer c y)] 67)) from HB3.out.alloc (by omega) _)
  go_wp2_with fail
  rw [← hF]
  generalize w3.alloc (.cells #[.int .i64 y, .slice (some ⟨g1, 0, none⟩) (nWk c y) cap, .slice (some ⟨g2, 0, none⟩) (nPer c y) (nPer c y)] 67) = W at *
  obtain ⟨k0, k1, k2⟩ := HD.out.load
  have hzW : w.heap.size ≤ W.heap.size := HW1.out.size
  have HKB := hide hkB
  clear HFr hF HB3 GB3 hkB hne hz3 hz2 hz1
  go_region_with (first
    | (go_at_call 41; refine (fweek_any c y d _ cap g1 g2 HA.out ?_ (by omega)).mono ?_; exact HD.out.2.1.1; rintro e w4 ⟨rfl, hb4⟩; have HD2 := hide (HD.out.drew.call (by exact hb4)); have HW2 := hide (HW1.out.drew.trans (hb4.mono (by exact hzW)) : Below w.heap.size w w4); obtain ⟨m0, m1, m2⟩ := HD2.out.load; have hz4 : w.heap.size ≤ w4.heap.size := HW2.out.size; clear hb4)
    | (go_at_call 40; refine (funit_any c y lv _ cap g1 g2 h1 h5 HA.out ?_ _).mono ?_; exact HD2.out.2.1.2; rintro e w5 ⟨rfl, hb5⟩; have HD3 := hide (HD2.out.call (by exact hb5)); have HW3 := hide (HW2.out.trans (hb5.mono (by exact hz4)) : Below w.heap.size w w5); obtain ⟨⟨p0, p1, p2⟩, ⟨p6, p7, p8⟩⟩ := HD3.out.res; clear hb5))
  all_goals
    have hkB := HKB.out
    go_simp
    go_wp2
    exact bodyPost_ret (v := .tuple #[.agg #[.int .i64 lv, .int .i64 y, .int .i64 ((ixN c y lv (wkN c y d) : Int) + 1)], .int .i64 0]) (by exact res_fday rfl rfl (HD3.out.2.2.set123 _ _ _)) rfl ⟨rfl, ((HW3.out.setCell hkB _).setCell hkB _).setCell hkB _⟩

theorem fday_any (c : Cal) (d lv : Int) (w : World) (hn : c.name.size ≤ 1000) :
    Calls Try.prog 16 #[calV c, .int .i64 d, .int .i64 lv] w fun e w' => e = .returned (.tuple #[unitV (fdU c d lv), .int .i64 (fdE c d lv)]) ∧ Below w.heap.size w w' := by
  by_cases hE : fdE c d lv = 0
  · refine (fday_yes c d lv w hn hE).mono ?_
    rintro e w1 ⟨rfl, hb⟩
    exact ⟨by rw [fdU, if_pos hE, hE], hb⟩
  · have hU : fdU c d lv = ⟨0, 0, 0⟩ := by rw [fdU, if_neg hE]
    rw [hU]
    cases hk : c.okB
    · have h0 : fdE c d lv = 1 := by unfold fdE; rw [if_neg (by rw [hk]; simp)]
      rw [h0]
      exact fday_cal c d lv w hn hk
    · by_cases hl : 1 ≤ lv ∧ lv ≤ 5
      · have h0 : fdE c d lv = servE c d := by unfold fdE; rw [if_pos ⟨hk, hl⟩]
        rw [h0]
        exact fday_day c d lv w hn hk hl (by rw [← h0]; exact hE)
      · have h0 : fdE c d lv = 1 := by unfold fdE; rw [if_neg (fun h => hl h.2)]
        rw [h0]
        exact fday_lv c d lv w hn hk hl
end Go.Proofs.Ytpngdeegdkifnaa

namespace Go.Proofs.Ytpngdeegdkifnaa
open Go.RowKit Qd
set_option linter.unusedSimpArgs false
set_option linter.unusedVariables false

abbrev txt : ByteArray := ⟨#[50, 48, 50, 52, 45, 48, 50, 45, 48, 51]⟩
abbrev frm : ByteArray := ⟨#[35, 35, 35, 35, 45, 35, 35, 45, 35, 35]⟩
/-- The numbers read of k bytes, and whether one is open. -/
def nL : Nat → List Int
  | 1 => [2] | 2 => [20] | 3 => [202] | 4 => [2024] | 5 => [2024] | 6 => [2024, 0] | 7 => [2024, 2] | 8 => [2024, 2] | 9 => [2024, 2, 0] | 10 => [2024, 2, 3] | _ => []
def nO : Nat → Bool
  | 0 => false | 5 => false | 8 => false | _ => true
theorem int_info : (Try.prog.info? 3).map (fun i => (i.zero, i.size, i.bytes)) = some (some (.int .i64 0), 1, 8) := by kernel_rfl
/-- What the loop keeps. -/
def NuSt (w wr : World) (k : Nat) (v : Value) : Prop :=
  wr.ownsRow (w.heap.size + 1) 3 1 v (nL k).length ((nL k).map (Value.int .i64)) ∧ wr.heap[w.heap.size]? = some (.stringIter frm k) ∧ Below w.heap.size w wr
theorem NuSt.step {w wr : World} {k : Nat} {v : Value} (h : NuSt w wr k v) (p : Nat) :
    (wr.iterAt w.heap.size frm p).ownsRow (w.heap.size + 1) 3 1 v (nL k).length ((nL k).map (Value.int .i64)) ∧ (wr.iterAt w.heap.size frm p).heap[w.heap.size]? = some (.stringIter frm p) ∧ Below w.heap.size w (wr.iterAt w.heap.size frm p) ∧ w.heap.size + 1 ≤ (wr.iterAt w.heap.size frm p).heap.size :=
  ⟨ownsRow_iterAt h.1 (Nat.lt_succ_self _) _ _, Lib.iterAt_heap _ _ _ _ _ h.2.1, Lib.below_iterAt h.2.2 (Nat.le_refl _) _ _, by rw [Lib.iterAt_size]; exact (Array.getElem?_eq_some_iff.1 h.2.1).1⟩
theorem NuSt.stored {w W : World} {k n g cap : Nat} {xs : List Int} (h1 : W.ownsRow (w.heap.size + 1) 3 1 (.slice (some ⟨g, 0, none⟩) n cap) n (xs.map (Value.int .i64))) (h2 : W.heap[w.heap.size]? = some (.stringIter frm k)) (h3 : Below w.heap.size w W)
    (j : Nat) (x : Int) (hy : nL k = xs.set j x) (hn : (nL k).length = n) (hg : w.heap.size < g) : NuSt w (W.setCell ⟨g, j, none⟩ (.int .i64 x)) k (.slice (some ⟨g, 0, none⟩) n cap) := by
  have h := (h1.stored j (.int .i64 x)).1
  have e : (xs.map (Value.int .i64)).set j (Value.int .i64 x) = (nL k).map (Value.int .i64) := by rw [hy, List.map_set]
  rw [e] at h
  refine ⟨by rw [hn]; exact h, ?_, h3.setCell (by simp; omega) _⟩
  rw [Below.heap_setCell W ⟨g, j, none⟩ _ w.heap.size (by simp; omega)]
  exact h2
theorem owns_pos {w : World} {base n : Nat} {v : Value} {xs : List Value} {e : TypeId} {size : Nat} (h : w.ownsRow base e size v n xs) (hn : 0 < n) : ∃ g cap, v = .slice (some ⟨g, 0, none⟩) n cap ∧ base ≤ g := by
  obtain ⟨g, cap, h1, _, _, h2⟩ := owns_slice h hn
  exact ⟨g, cap, h1, h2⟩

theorem day_num : dayV 2024 2 3 = 154896 ∧ dateE 2024 2 3 = 0 := by decide +kernel

set_option maxRecDepth 100000 in
set_option maxHeartbeats 3200000 in
theorem nums_any (w : World) : Calls Try.prog 66 #[.string txt, .string frm] w fun e w' => (∃ g cap, e = .returned (.tuple #[.slice (some ⟨g, 0, none⟩) 3 cap, .bool true]) ∧ w'.cell? ⟨g, 0, none⟩ = some (.int .i64 2024) ∧ w'.cell? ⟨g, 1, none⟩ = some (.int .i64 2) ∧ w'.cell? ⟨g, 2, none⟩ = some (.int .i64 3)) ∧ Below w.heap.size w w' := by
  obtain ⟨i0, hi, hz0, hz1, hz2⟩ := info_parts int_info
  go_enter Try.func66, Try.ntmps66
  go_wp2_with fail
  go_loopw [4, 6] (fun s4 s6 wr => ∃ (k : Nat) (v : Value), k ≤ 10 ∧ v = s4 ∧ s6 = .bool (nO k) ∧ NuSt w wr k v) (fun _ _ w' => 10 - w'.iterPos w.heap.size)
  case atStart => exact ⟨0, _, by omega, rfl, rfl, World.ownsRow_nil _ _ _ _, World.iter_heap _ _ _, (Below.refl _ _).alloc (Nat.le_refl _) _⟩
  case round =>
    obtain ⟨k, v, hk, hs4, hs6, hN⟩ := hrel
    subst hs6
    subst hs4
    have HI := hide (iterPos_of hN.2.1)
    have hks : k = 0 ∨ k = 1 ∨ k = 2 ∨ k = 3 ∨ k = 4 ∨ k = 5 ∨ k = 6 ∨ k = 7 ∨ k = 8 ∨ k = 9 ∨ k = 10 := by omega
    rcases hks with rfl | rfl | rfl | rfl | rfl | rfl | rfl | rfl | rfl | rfl | rfl
    · have tk : ((txt[0]'(by decide)).toNat : Int) = 50 := rfl
      have fk : ((frm[0]'(by decide)).toNat : Int) = 35 := rfl
      have hnext := fun ty => Lib.run_next_ascii_at (P := Try.prog) wr w.heap.size frm 0 ty hN.2.1 (by decide) (by decide)
      obtain ⟨h1, h2, h3, h4⟩ := hN.step 1
      generalize wr.iterAt w.heap.size frm (0 + 1) = W at *
      have h1 : W.ownsRow (w.heap.size + 1) 3 1 v 0 (([] : List Int).map (Value.int .i64)) := h1
      have ho : nO 0 = false := rfl
      rw [ho]
      have H := hide (And.intro h1 (And.intro h2 h3))
      clear h2 h3 hN
      go_wp2_with ((at_builtin; refine wpList_append_own _ rfl _ _ 65 rfl (w.heap.size + 1) 3 i0 (.int .i64 0) 1 8 Try.underlying65 hi hz0 hz1 hz2 rfl (by decide) _ _ _ rfl (h1.alloc _) ⟨W.heap.size, 0, none⟩ 1 1 [.int .i64 0] rfl rfl ?c1 ?c2 ?c3 ?c4 ?c5 ?_))
      case c1 =>
        intro i u hu
        match i, hu with
        | 0, hu => simp at hu; subst hu; simp [Addr.add]
        | i + 1, hu => simp at hu
      case c2 => intro u hu; simp at hu; subst hu; rfl
      case c3 => decide
      case c4 => decide
      case c5 => simp; omega
      intro v' W2 hown hgr _
      have hown : W2.ownsRow (w.heap.size + 1) 3 1 v' 1 (([0] : List Int).map (Value.int .i64)) := hown
      have hh2 : W2.heap[w.heap.size]? = some (.stringIter frm 1) := by
        rw [hgr.block w.heap.size (by simp; omega) (fun e => by have := (h1.lt _ e.symm).1; omega), Below.heap_alloc _ _ _ (by omega)]
        exact H.out.2.1
      have hh3 : Below w.heap.size w W2 := (H.out.2.2.alloc (by omega) _).grown hgr (by simp; omega) (fun b hb => by have := (h1.lt b hb).1; omega)
      obtain ⟨g, cap, rfl, hg⟩ := owns_pos hown (by decide)
      have c1 : W2.cell? ⟨g, 0, none⟩ = some (.int .i64 0) := hown.cellAt 0 (by decide)
      have f1 : W2.frozen? ⟨g, 0, none⟩ = false := hown.frozenAt 0
      have H2 := hide (And.intro hown (And.intro hh2 hh3))
      clear hown hh2 hh3 hgr h1
      go_wp2
      have HN := NuSt.stored (k := 1) H2.out.1 H2.out.2.1 H2.out.2.2 0 2 rfl rfl (by omega)
      exact ⟨⟨1, _, by omega, rfl, rfl, HN⟩, by rw [HI.out, iterPos_of HN.2.1]; omega⟩
    · have tk : ((txt[1]'(by decide)).toNat : Int) = 48 := rfl
      have fk : ((frm[1]'(by decide)).toNat : Int) = 35 := rfl
      have hnext := fun ty => Lib.run_next_ascii_at (P := Try.prog) wr w.heap.size frm 1 ty hN.2.1 (by decide) (by decide)
      obtain ⟨h1, h2, h3, h4⟩ := hN.step 2
      generalize wr.iterAt w.heap.size frm (1 + 1) = W at *
      have h1 : W.ownsRow (w.heap.size + 1) 3 1 v 1 (([2] : List Int).map (Value.int .i64)) := h1
      have ho : nO 1 = true := rfl
      rw [ho]
      obtain ⟨g, cap, rfl, hg⟩ := owns_pos h1 (by decide)
      have c1 : W.cell? ⟨g, 0, none⟩ = some (.int .i64 2) := h1.cellAt 0 (by decide)
      have f1 : W.frozen? ⟨g, 0, none⟩ = false := h1.frozenAt 0
      have H := hide (And.intro h1 (And.intro h2 h3))
      clear h1 h2 h3 hN
      go_wp2
      have HN := NuSt.stored (k := 2) H.out.1 H.out.2.1 H.out.2.2 0 20 rfl rfl (by omega)
      exact ⟨⟨2, _, by omega, rfl, rfl, HN⟩, by rw [HI.out, iterPos_of HN.2.1]; omega⟩
    · have tk : ((txt[2]'(by decide)).toNat : Int) = 50 := rfl
      have fk : ((frm[2]'(by decide)).toNat : Int) = 35 := rfl
      have hnext := fun ty => Lib.run_next_ascii_at (P := Try.prog) wr w.heap.size frm 2 ty hN.2.1 (by decide) (by decide)
      obtain ⟨h1, h2, h3, h4⟩ := hN.step 3
      generalize wr.iterAt w.heap.size frm (2 + 1) = W at *
      have h1 : W.ownsRow (w.heap.size + 1) 3 1 v 1 (([20] : List Int).map (Value.int .i64)) := h1
      have ho : nO 2 = true := rfl
      rw [ho]
      obtain ⟨g, cap, rfl, hg⟩ := owns_pos h1 (by decide)
      have c1 : W.cell? ⟨g, 0, none⟩ = some (.int .i64 20) := h1.cellAt 0 (by decide)
      have f1 : W.frozen? ⟨g, 0, none⟩ = false := h1.frozenAt 0
      have H := hide (And.intro h1 (And.intro h2 h3))
      clear h1 h2 h3 hN
      go_wp2
      have HN := NuSt.stored (k := 3) H.out.1 H.out.2.1 H.out.2.2 0 202 rfl rfl (by omega)
      exact ⟨⟨3, _, by omega, rfl, rfl, HN⟩, by rw [HI.out, iterPos_of HN.2.1]; omega⟩
    · have tk : ((txt[3]'(by decide)).toNat : Int) = 52 := rfl
      have fk : ((frm[3]'(by decide)).toNat : Int) = 35 := rfl
      have hnext := fun ty => Lib.run_next_ascii_at (P := Try.prog) wr w.heap.size frm 3 ty hN.2.1 (by decide) (by decide)
      obtain ⟨h1, h2, h3, h4⟩ := hN.step 4
      generalize wr.iterAt w.heap.size frm (3 + 1) = W at *
      have h1 : W.ownsRow (w.heap.size + 1) 3 1 v 1 (([202] : List Int).map (Value.int .i64)) := h1
      have ho : nO 3 = true := rfl
      rw [ho]
      obtain ⟨g, cap, rfl, hg⟩ := owns_pos h1 (by decide)
      have c1 : W.cell? ⟨g, 0, none⟩ = some (.int .i64 202) := h1.cellAt 0 (by decide)
      have f1 : W.frozen? ⟨g, 0, none⟩ = false := h1.frozenAt 0
      have H := hide (And.intro h1 (And.intro h2 h3))
      clear h1 h2 h3 hN
      go_wp2
      have HN := NuSt.stored (k := 4) H.out.1 H.out.2.1 H.out.2.2 0 2024 rfl rfl (by omega)
      exact ⟨⟨4, _, by omega, rfl, rfl, HN⟩, by rw [HI.out, iterPos_of HN.2.1]; omega⟩
    · have tk : ((txt[4]'(by decide)).toNat : Int) = 45 := rfl
      have fk : ((frm[4]'(by decide)).toNat : Int) = 45 := rfl
      have hnext := fun ty => Lib.run_next_ascii_at (P := Try.prog) wr w.heap.size frm 4 ty hN.2.1 (by decide) (by decide)
      obtain ⟨h1, h2, h3, h4⟩ := hN.step 5
      generalize wr.iterAt w.heap.size frm (4 + 1) = W at *
      have H := hide (And.intro h1 (And.intro h2 h3))
      clear h1 h2 h3 hN
      go_wp2
      exact ⟨⟨5, _, by omega, rfl, rfl, H.out⟩, by rw [HI.out, iterPos_of H.out.2.1]; omega⟩
    · have tk : ((txt[5]'(by decide)).toNat : Int) = 48 := rfl
      have fk : ((frm[5]'(by decide)).toNat : Int) = 35 := rfl
      have hnext := fun ty => Lib.run_next_ascii_at (P := Try.prog) wr w.heap.size frm 5 ty hN.2.1 (by decide) (by decide)
      obtain ⟨h1, h2, h3, h4⟩ := hN.step 6
      generalize wr.iterAt w.heap.size frm (5 + 1) = W at *
      have h1 : W.ownsRow (w.heap.size + 1) 3 1 v 1 (([2024] : List Int).map (Value.int .i64)) := h1
      have ho : nO 5 = false := rfl
      rw [ho]
      have H := hide (And.intro h1 (And.intro h2 h3))
      clear h2 h3 hN
      go_wp2_with ((at_builtin; refine wpList_append_own _ rfl _ _ 65 rfl (w.heap.size + 1) 3 i0 (.int .i64 0) 1 8 Try.underlying65 hi hz0 hz1 hz2 rfl (by decide) _ _ _ rfl (h1.alloc _) ⟨W.heap.size, 0, none⟩ 1 1 [.int .i64 0] rfl rfl ?c1 ?c2 ?c3 ?c4 ?c5 ?_))
      case c1 =>
        intro i u hu
        match i, hu with
        | 0, hu => simp at hu; subst hu; simp [Addr.add]
        | i + 1, hu => simp at hu
      case c2 => intro u hu; simp at hu; subst hu; rfl
      case c3 => decide
      case c4 => decide
      case c5 => simp; omega
      intro v' W2 hown hgr _
      have hown : W2.ownsRow (w.heap.size + 1) 3 1 v' 2 (([2024, 0] : List Int).map (Value.int .i64)) := hown
      have hh2 : W2.heap[w.heap.size]? = some (.stringIter frm 6) := by
        rw [hgr.block w.heap.size (by simp; omega) (fun e => by have := (h1.lt _ e.symm).1; omega), Below.heap_alloc _ _ _ (by omega)]
        exact H.out.2.1
      have hh3 : Below w.heap.size w W2 := (H.out.2.2.alloc (by omega) _).grown hgr (by simp; omega) (fun b hb => by have := (h1.lt b hb).1; omega)
      obtain ⟨g, cap, rfl, hg⟩ := owns_pos hown (by decide)
      have c1 : W2.cell? ⟨g, 1, none⟩ = some (.int .i64 0) := hown.cellAt 1 (by decide)
      have f1 : W2.frozen? ⟨g, 1, none⟩ = false := hown.frozenAt 1
      have H2 := hide (And.intro hown (And.intro hh2 hh3))
      clear hown hh2 hh3 hgr h1
      go_wp2
      have HN := NuSt.stored (k := 6) H2.out.1 H2.out.2.1 H2.out.2.2 1 0 rfl rfl (by omega)
      exact ⟨⟨6, _, by omega, rfl, rfl, HN⟩, by rw [HI.out, iterPos_of HN.2.1]; omega⟩
    · have tk : ((txt[6]'(by decide)).toNat : Int) = 50 := rfl
      have fk : ((frm[6]'(by decide)).toNat : Int) = 35 := rfl
      have hnext := fun ty => Lib.run_next_ascii_at (P := Try.prog) wr w.heap.size frm 6 ty hN.2.1 (by decide) (by decide)
      obtain ⟨h1, h2, h3, h4⟩ := hN.step 7
      generalize wr.iterAt w.heap.size frm (6 + 1) = W at *
      have h1 : W.ownsRow (w.heap.size + 1) 3 1 v 2 (([2024, 0] : List Int).map (Value.int .i64)) := h1
      have ho : nO 6 = true := rfl
      rw [ho]
      obtain ⟨g, cap, rfl, hg⟩ := owns_pos h1 (by decide)
      have c1 : W.cell? ⟨g, 1, none⟩ = some (.int .i64 0) := h1.cellAt 1 (by decide)
      have f1 : W.frozen? ⟨g, 1, none⟩ = false := h1.frozenAt 1
      have H := hide (And.intro h1 (And.intro h2 h3))
      clear h1 h2 h3 hN
      go_wp2
      have HN := NuSt.stored (k := 7) H.out.1 H.out.2.1 H.out.2.2 1 2 rfl rfl (by omega)
      exact ⟨⟨7, _, by omega, rfl, rfl, HN⟩, by rw [HI.out, iterPos_of HN.2.1]; omega⟩
    · have tk : ((txt[7]'(by decide)).toNat : Int) = 45 := rfl
      have fk : ((frm[7]'(by decide)).toNat : Int) = 45 := rfl
      have hnext := fun ty => Lib.run_next_ascii_at (P := Try.prog) wr w.heap.size frm 7 ty hN.2.1 (by decide) (by decide)
      obtain ⟨h1, h2, h3, h4⟩ := hN.step 8
      generalize wr.iterAt w.heap.size frm (7 + 1) = W at *
      have H := hide (And.intro h1 (And.intro h2 h3))
      clear h1 h2 h3 hN
      go_wp2
      exact ⟨⟨8, _, by omega, rfl, rfl, H.out⟩, by rw [HI.out, iterPos_of H.out.2.1]; omega⟩
    · have tk : ((txt[8]'(by decide)).toNat : Int) = 48 := rfl
      have fk : ((frm[8]'(by decide)).toNat : Int) = 35 := rfl
      have hnext := fun ty => Lib.run_next_ascii_at (P := Try.prog) wr w.heap.size frm 8 ty hN.2.1 (by decide) (by decide)
      obtain ⟨h1, h2, h3, h4⟩ := hN.step 9
      generalize wr.iterAt w.heap.size frm (8 + 1) = W at *
      have h1 : W.ownsRow (w.heap.size + 1) 3 1 v 2 (([2024, 2] : List Int).map (Value.int .i64)) := h1
      have ho : nO 8 = false := rfl
      rw [ho]
      have H := hide (And.intro h1 (And.intro h2 h3))
      clear h2 h3 hN
      go_wp2_with ((at_builtin; refine wpList_append_own _ rfl _ _ 65 rfl (w.heap.size + 1) 3 i0 (.int .i64 0) 1 8 Try.underlying65 hi hz0 hz1 hz2 rfl (by decide) _ _ _ rfl (h1.alloc _) ⟨W.heap.size, 0, none⟩ 1 1 [.int .i64 0] rfl rfl ?c1 ?c2 ?c3 ?c4 ?c5 ?_))
      case c1 =>
        intro i u hu
        match i, hu with
        | 0, hu => simp at hu; subst hu; simp [Addr.add]
        | i + 1, hu => simp at hu
      case c2 => intro u hu; simp at hu; subst hu; rfl
      case c3 => decide
      case c4 => decide
      case c5 => simp; omega
      intro v' W2 hown hgr _
      have hown : W2.ownsRow (w.heap.size + 1) 3 1 v' 3 (([2024, 2, 0] : List Int).map (Value.int .i64)) := hown
      have hh2 : W2.heap[w.heap.size]? = some (.stringIter frm 9) := by
        rw [hgr.block w.heap.size (by simp; omega) (fun e => by have := (h1.lt _ e.symm).1; omega), Below.heap_alloc _ _ _ (by omega)]
        exact H.out.2.1
      have hh3 : Below w.heap.size w W2 := (H.out.2.2.alloc (by omega) _).grown hgr (by simp; omega) (fun b hb => by have := (h1.lt b hb).1; omega)
      obtain ⟨g, cap, rfl, hg⟩ := owns_pos hown (by decide)
      have c1 : W2.cell? ⟨g, 2, none⟩ = some (.int .i64 0) := hown.cellAt 2 (by decide)
      have f1 : W2.frozen? ⟨g, 2, none⟩ = false := hown.frozenAt 2
      have H2 := hide (And.intro hown (And.intro hh2 hh3))
      clear hown hh2 hh3 hgr h1
      go_wp2
      have HN := NuSt.stored (k := 9) H2.out.1 H2.out.2.1 H2.out.2.2 2 0 rfl rfl (by omega)
      exact ⟨⟨9, _, by omega, rfl, rfl, HN⟩, by rw [HI.out, iterPos_of HN.2.1]; omega⟩
    · have tk : ((txt[9]'(by decide)).toNat : Int) = 51 := rfl
      have fk : ((frm[9]'(by decide)).toNat : Int) = 35 := rfl
      have hnext := fun ty => Lib.run_next_ascii_at (P := Try.prog) wr w.heap.size frm 9 ty hN.2.1 (by decide) (by decide)
      obtain ⟨h1, h2, h3, h4⟩ := hN.step 10
      generalize wr.iterAt w.heap.size frm (9 + 1) = W at *
      have h1 : W.ownsRow (w.heap.size + 1) 3 1 v 3 (([2024, 2, 0] : List Int).map (Value.int .i64)) := h1
      have ho : nO 9 = true := rfl
      rw [ho]
      obtain ⟨g, cap, rfl, hg⟩ := owns_pos h1 (by decide)
      have c1 : W.cell? ⟨g, 2, none⟩ = some (.int .i64 0) := h1.cellAt 2 (by decide)
      have f1 : W.frozen? ⟨g, 2, none⟩ = false := h1.frozenAt 2
      have H := hide (And.intro h1 (And.intro h2 h3))
      clear h1 h2 h3 hN
      go_wp2
      have HN := NuSt.stored (k := 10) H.out.1 H.out.2.1 H.out.2.2 2 3 rfl rfl (by omega)
      exact ⟨⟨10, _, by omega, rfl, rfl, HN⟩, by rw [HI.out, iterPos_of HN.2.1]; omega⟩
    · have hnext := fun ty => Lib.run_next_end_at (P := Try.prog) wr w.heap.size frm 10 ty hN.2.1 (by decide)
      have h1 : wr.ownsRow (w.heap.size + 1) 3 1 v 3 (([2024, 2, 3] : List Int).map (Value.int .i64)) := hN.1
      obtain ⟨g, cap, rfl, hg⟩ := owns_pos h1 (by decide)
      have H := hide (And.intro h1 hN.2)
      clear hN h1
      go_wp2
      go_ret2
      exact ⟨⟨g, cap, rfl, H.out.1.cellAt 0 (by decide), H.out.1.cellAt 1 (by decide), H.out.1.cellAt 2 (by decide)⟩, H.out.2.2⟩

set_option maxRecDepth 100000 in
set_option maxHeartbeats 1600000 in
theorem parse_any (w : World) : Calls Try.prog 44 #[.string txt] w fun e w' => e = .returned (.tuple #[.int .i64 154896, .int .i64 0]) ∧ Below w.heap.size w w' := by
  go_enter Try.func44, Try.ntmps44
  go_wp2_with fail
  refine (nums_any _).mono ?_
  rintro e w1 ⟨⟨g, cap, rfl, c0, c1, c2⟩, hb1⟩
  have HB1 := hide hb1
  clear hb1
  go_wp2_with fail
  go_region_with (go_at_call 67; refine (day_any 2024 2 3 _).mono ?_; rintro e w2 ⟨rfl, hb2⟩; rw [day_num.1, day_num.2]; have HB2 := hide (HB1.out.drew.trans (hb2.mono (by exact HB1.out.size)) : Below w.heap.size w w2); clear hb2)
  all_goals
    go_simp
    go_wp2
    go_ret2
    exact ⟨rfl, HB2.out⟩
end Go.Proofs.Ytpngdeegdkifnaa
