/- The walk of CompEnds. -/
import Derived.Test.YtpngdeegdkifnaaCompQ
namespace Go.Proofs.Ytpngdeegdkifnaa
open Go.RowKit Qd
set_option linter.unusedSimpArgs false
set_option linter.unusedVariables false

theorem cdv_bd {c : Cal} {d k : Int} (hs : servE c d = 0) (hk6 : c.kind ≠ 6) : -1000 ≤ cdV c d k ∧ cdV c d k ≤ 3100000 := by
  by_cases hx : c.first ≤ servY c d + k ∧ servY c d + k ≤ c.last
  · obtain ⟨hk, hd, hsy, o1, o2, x1, x2⟩ := sv_week hs hk6
    obtain ⟨hE, hV⟩ := cd_week hs hk6 hx
    have hcb := cw_bd hk hk6 hsy hx ⟨x1, x2⟩
    have w1 := (wks_srv hk hk6 hsy).2.2
    have sb := start_b c (servY c d + k)
    by_cases h0 : cdE c d k = 0
    · have := hV h0; omega
    · rw [cdV, if_neg h0]; omega
  · rw [(cd_out hs hx).2]; omega
theorem day_bd {c : Cal} {d : Int} (hs : servE c d = 0) : 0 ≤ d ∧ d < 3068037 := by
  obtain ⟨hk, hd, _⟩ := serv_ok hs
  simpa [isB] using hd
theorem kind_b {c : Cal} (h : c.kind ≠ 6) : (c.kind == 6) = false := by simpa using h
/-- How many weeks k periods have, of a year of so many weeks. -/
def offW (c : Cal) (wk : Int) : Nat → Int
  | 0 => 0
  | k + 1 => offW c wk k + lenAt c wk k
theorem wkDay_off (c : Cal) (z : Int) (k : Nat) : wkDay c z k = startV c z + 7 * offW c (wksV c z) k := by
  induction k with
  | zero => simp [wkDay, offW]
  | succ k ih =>
    have e1 : wkDay c z (k + 1) = wkDay c z k + 7 * lenAt c (wksV c z) k := rfl
    rw [e1, ih, offW]
    omega
theorem off_53 (c : Cal) (hx : 1 ≤ c.extra) (k : Nat) : offW c 53 k = offW c 52 k + if c.extra ≤ k then 1 else 0 := by
  induction k with
  | zero => simp [offW]; omega
  | succ k ih =>
    rw [offW, offW, ih]
    unfold lenAt
    repeat' split
    all_goals omega
/-- A period's first and last day. -/
theorem per_off {c : Cal} {z : Int} (hk : c.okB = true) (hk6 : c.kind ≠ 6) (h4 : ¬ c.shape = 4) (i : Nat) (hi : i < nPer c z) :
    fromAt c z i = startV c z + 7 * offW c (wksV c z) i ∧ endAt c z i = startV c z + 7 * offW c (wksV c z) (i + 1) - 1 := by
  have hok : c.Ok := by simpa [Cal.okB] using hk
  have h5 : ¬ c.shape = 5 := fun h => hk6 ((ok_shape hok).2.1.2 h)
  have hl : ((nPer c z : Nat) : Int) = perV c := ends_len c z hk
  have eA : ∀ j : Nat, (j : Int) < perV c → endAt c z j = wkDay c z (j + 1) - 1 := by
    intro j hj
    have eL : endsL c z = (List.range (perV c).toNat).map fun i => wkDay c z (i + 1) - 1 := by simp [endsL, h4, h5]
    unfold endAt
    rw [eL]
    simp [hj]
  refine ⟨?_, by rw [eA i (by omega), wkDay_off]⟩
  cases i with
  | zero => simp [fromAt, offW]
  | succ i =>
    rw [from_succ, eA i (by omega), wkDay_off]
    omega
theorem off_mono (c : Cal) {z : Int} (hk : c.okB = true) (hk6 : c.kind ≠ 6) (h4 : ¬ c.shape = 4) (hA : askE c z 1601 = 0) (i m : Nat) (h : i + m ≤ nPer c z) : offW c (wksV c z) i ≤ offW c (wksV c z) (i + m) := by
  induction m with
  | zero => simp
  | succ m ih =>
    have h1 := ih (by omega)
    have h2 := period_1 c z hA (i + m) (show i + m < (endsL c z).length from by have : nPer c z = (endsL c z).length := rfl; omega)
    obtain ⟨p1, p2⟩ := per_off hk hk6 h4 (i + m) (z := z) (by omega)
    rw [p1, p2] at h2
    rw [← Nat.add_assoc]
    omega
/-- The added week ends its period. -/
theorem added_off {c : Cal} {z : Int} (hk : c.okB = true) (hk6 : c.kind ≠ 6) (h4 : ¬ c.shape = 4) (hz : srv c z) (h53 : wksV c z = 53) : addedV c z = offW c 53 c.extra.toNat ∧ 1 ≤ c.extra ∧ c.extra.toNat ≤ nPer c z := by
  obtain ⟨ez, az, _⟩ := wks_srv hk hk6 hz
  have hok : c.Ok := by simpa [Cal.okB] using hk
  obtain ⟨x1, x2⟩ := extra_bd hok hk6
  have hl : ((nPer c z : Nat) : Int) = perV c := ends_len c z hk
  obtain ⟨p1, p2⟩ := per_off hk hk6 h4 (z := z) (c.extra - 1).toNat (by omega)
  unfold addedV
  rw [if_pos ⟨ez, h53⟩, p2, h53]
  have : (c.extra - 1).toNat + 1 = c.extra.toNat := by omega
  rw [this]
  omega
/-- Dropped weeks: the period, and the place in it, stay. -/
theorem ends_drop {c : Cal} {d k : Int} (hs : servE c d = 0) (hk6 : c.kind ≠ 6) (hp : c.policy = 3) (hx : c.first ≤ servY c d + k ∧ servY c d + k ≤ c.last) (hE : cdE c d k = 0) :
    ∃ i j : Nat, fdE c d 4 = 0 ∧ fdU c d 4 = ⟨4, servY c d, (i : Int) + 1⟩ ∧ unitE c ⟨4, servY c d, (i : Int) + 1⟩ = 0 ∧ fdE c (cdV c d k) 4 = 0 ∧ fdU c (cdV c d k) 4 = ⟨4, servY c d + k, (j : Int) + 1⟩ ∧ unitE c ⟨4, servY c d + k, (j : Int) + 1⟩ = 0 ∧
      (c.shape = 4 ∨ (i = j ∧ d - (spV c ⟨4, servY c d, (i : Int) + 1⟩).a = cdV c d k - (spV c ⟨4, servY c d + k, (j : Int) + 1⟩).a)) ∧ i < 60 ∧ j < 60 := by
  obtain ⟨hk, hd, hsy, o1, o2, x1, x2⟩ := sv_week hs hk6
  obtain ⟨hEE, hV⟩ := cd_week hs hk6 hx
  have v1 := hV hE
  have hst : srv c (servY c d + k) := hx
  obtain ⟨ey, ay, wy1, wy2, _, _⟩ := yr_week hk hk6 hsy
  obtain ⟨et, at', wt1, wt2, _, _⟩ := yr_week hk hk6 hst
  have c1 := cw_shift hk hk6 hsy hst ⟨x1, x2⟩
  have hin : startV c (servY c d + k) ≤ cdV c d k ∧ cdV c d k ≤ endV c (servY c d + k) := by
    generalize hX1 : (d - startV c (servY c d)) / 7 + 1 = X1 at *
    rcases c1 with c1 | c1 | c1 | c1 | c1 | c1 <;> omega
  have hs2 := serv_yes (c := c) (day := cdV c d k) (y := servY c d + k) hk ⟨at', hin.1, hin.2⟩ hx.1 hx.2
  obtain ⟨i, _, e2, e3, e4, e5⟩ := fd_month hs
  obtain ⟨j, _, f2, f3, f4, f5⟩ := fd_month hs2.1
  have hf4 := fd_served hs 4 (by omega) (by omega)
  have hg4 := fd_served hs2.1 4 (by omega) (by omega)
  have hfy := (fd_ok hf4).2.2.2.2.2.2
  have hft := (fd_ok hg4).2.2.2.2.2.2
  rw [hs2.2] at f2 f3 f4 f5 hft
  have hU := (un_mk hfy i (by rw [cnt_4]; exact e3)).1
  have hW := (un_mk hft j (by rw [cnt_4]; exact f3)).1
  have b1 := nPer_bd c _ ay
  have b2 := nPer_bd c _ at'
  refine ⟨i, j, hf4, e2, hU, hg4, f2, hW, ?_, by omega, by omega⟩
  by_cases h4 : c.shape = 4
  · left; exact h4
  · right
    have hps := per_same hk (servY c d) (servY c d + k)
    rw [sp_period hfy i e3, sp_period hft j f3]
    simp only
    obtain ⟨p1, p2⟩ := per_off hk hk6 h4 i e3
    obtain ⟨q1, q2⟩ := per_off hk hk6 h4 (z := servY c d + k) i (by rw [← hps]; exact e3)
    rw [p1] at e4
    rw [p2] at e5
    -- the same period holds the comparable day
    have hx0 : 1 ≤ c.extra := (extra_bd (by simpa [Cal.okB] using hk) hk6).1
    have m53 := off_53 c hx0 i
    have m53' := off_53 c hx0 (i + 1)
    have key : fromAt c (servY c d + k) i ≤ cdV c d k ∧ cdV c d k ≤ endAt c (servY c d + k) i ∧ d - fromAt c (servY c d) i = cdV c d k - fromAt c (servY c d + k) i := by
      rw [q1, q2, p1]
      generalize hX1 : (d - startV c (servY c d)) / 7 + 1 = X1 at *
      rcases c1 with c1 | c1 | c1 | c1 | c1 | c1
      · omega
      · omega
      · omega
      · rw [c1.2.2.1] at e4 e5 ⊢
        omega
      · obtain ⟨_, _, hny, hnt, _, _, _, hc⟩ := c1
        obtain ⟨ao, _, ae⟩ := added_off hk hk6 h4 hst hnt
        have me := off_53 c hx0 c.extra.toNat
        rw [hny] at e4 e5 ⊢
        rw [hnt]
        by_cases hie : c.extra ≤ i
        · have mm := off_mono c hk hk6 h4 ay c.extra.toNat (i - c.extra.toNat) (by omega)
          rw [hny, show c.extra.toNat + (i - c.extra.toNat) = i by omega] at mm
          rw [if_pos (by omega)] at m53 m53' me
          omega
        · have mm := off_mono c hk hk6 h4 ay (i + 1) (c.extra.toNat - (i + 1)) (by omega)
          rw [hny, show i + 1 + (c.extra.toNat - (i + 1)) = c.extra.toNat by omega] at mm
          rw [if_neg (by omega)] at m53
          rw [if_pos (by omega)] at me
          have : offW c 52 (i + 1) ≤ offW c 53 (i + 1) := by rw [m53']; split <;> omega
          omega
      · obtain ⟨_, _, hny, hnt, _, _, _, hc⟩ := c1
        obtain ⟨ao, _, ae⟩ := added_off hk hk6 h4 hsy hny
        have me := off_53 c hx0 c.extra.toNat
        rw [hny] at e4 e5 ⊢
        rw [hnt]
        by_cases hie : c.extra ≤ i
        · have mm := off_mono c hk hk6 h4 ay c.extra.toNat (i - c.extra.toNat) (by omega)
          rw [hny, show c.extra.toNat + (i - c.extra.toNat) = i by omega] at mm
          rw [if_pos (by omega)] at m53 m53' me
          omega
        · have mm := off_mono c hk hk6 h4 ay (i + 1) (c.extra.toNat - (i + 1)) (by omega)
          rw [hny, show i + 1 + (c.extra.toNat - (i + 1)) = c.extra.toNat by omega] at mm
          rw [if_neg (by omega)] at m53
          by_cases hie2 : c.extra = i + 1
          · have : c.extra.toNat = i + 1 := by omega
            rw [this] at ao
            rw [if_pos (by omega)] at m53'
            omega
          · rw [if_neg (by omega)] at m53'
            omega
    have hj : i = j := by
      have hcut : ∀ r, cutN c (servY c d + k) 4 r = cumW c (servY c d + k) r := fun r => by simp [cutN, pcut]
      have hi' : i < nPer c (servY c d + k) := by rw [← hps]; exact e3
      have := fd_of hft i (by rw [cnt_4]; exact hi') (d := cdV c d k) (by rw [hcut, dayW_cum c _ at' i (by omega)]; exact key.1) (by rw [hcut, dayW_cum c _ at' (i + 1) (by omega), from_succ]; have := key.2.1; omega)
      have h9 := this.2.2.2
      rw [f2] at h9
      injection h9 with _ _ h10
      omega
    subst hj
    exact ⟨rfl, key.2.2⟩

theorem sp_bdc {c : Cal} {u : Un} (h : unitE c u = 0) : 0 ≤ (spV c u).a ∧ (spV c u).a ≤ (spV c u).b ∧ (spV c u).b ≤ 3068037 := sp_bd2 h

set_option maxRecDepth 100000 in
set_option maxHeartbeats 1600000 in
theorem ce_long (c : Cal) (y t at' : Int) (w : World) (hn : 100 < c.name.size) (hm : c.name.size ≤ 9223372036854775807) :
    Calls Try.prog 3 #[calV c, .int .i64 y, .int .i64 t, .int .i64 at'] w fun e w' => e = .returned (.bool true) ∧ Below w.heap.size w w' := by
  simp only [calV]
  go_enter Try.func3, Try.ntmps3
  go_wp2_with fail
  refine (live19_any _).mono ?_
  rintro e w1 ⟨rfl, hb1⟩
  have hz1 : w.heap.size < w1.heap.size := by have := hb1.size; simp at this; omega
  have HB1 := hide (show Below w.heap.size w w1 by refine Below.trans ?_ (hb1.mono (by first | omega | (simp; done) | (simp; omega))); (repeat' (first | (with_reducible exact Below.refl _ _) | (with_reducible assumption) | (with_reducible refine Below.alloc ?_ ?_ _) | (with_reducible refine below_drewN ?_ _) | (with_reducible refine Below.drew ?_) | (with_reducible refine Below.setCell ?_ ?_ _) | (with_reducible refine Below.trans ?_ (Below.mono (by assumption) ?_)) | go_size | (simp at *; omega))))
  have HQ1 := hide (calAt_below hb1 (by simp) (calAt_new w c))
  obtain ⟨q0, q1, q2, q3, q4, q5, q6, q7, q8, q9, q10, q11, q12, q13⟩ := HQ1.out
  clear hb1
  go_wp2
  all_goals first
    | (exfalso; omega)
    | (go_ret; exact ⟨rfl, HB1.out⟩)


set_option maxRecDepth 100000 in
set_option maxHeartbeats 3200000 in
theorem ce_triv (c : Cal) (y t at' : Int) (w : World) (hn : c.name.size ≤ 100) (h : c.kind = 6 ∨ (c.kind ≠ 6 ∧ y < c.first) ∨ (c.kind ≠ 6 ∧ c.first ≤ y ∧ c.last < y) ∨ (c.kind ≠ 6 ∧ c.first ≤ y ∧ y ≤ c.last ∧ t < c.first) ∨ (c.kind ≠ 6 ∧ c.first ≤ y ∧ y ≤ c.last ∧ c.first ≤ t ∧ c.last < t)) :
    Calls Try.prog 3 #[calV c, .int .i64 y, .int .i64 t, .int .i64 at'] w fun e w' => e = .returned (.bool true) ∧ Below w.heap.size w w' := by
  rcases h with h | ⟨h, h2⟩ | ⟨h, h2, h3⟩ | ⟨h, h2, h3, h4⟩ | ⟨h, h2, h3, h4, h5⟩
  · have hkb : (c.kind == 6) = true := by simp [h]
    clear h
    simp only [calV]
    go_enter Try.func3, Try.ntmps3
    go_wp2_with fail
    refine (live19_any _).mono ?_
    rintro e w1 ⟨rfl, hb1⟩
    have hz1 : w.heap.size < w1.heap.size := by have := hb1.size; simp at this; omega
    have HB1 := hide (show Below w.heap.size w w1 by refine Below.trans ?_ (hb1.mono (by first | omega | (simp; done) | (simp; omega))); (repeat' (first | (with_reducible exact Below.refl _ _) | (with_reducible assumption) | (with_reducible refine Below.alloc ?_ ?_ _) | (with_reducible refine below_drewN ?_ _) | (with_reducible refine Below.drew ?_) | (with_reducible refine Below.setCell ?_ ?_ _) | (with_reducible refine Below.trans ?_ (Below.mono (by assumption) ?_)) | go_size | (simp at *; omega))))
    have HQ1 := hide (calAt_below hb1 (by simp) (calAt_new w c))
    obtain ⟨q0, q1, q2, q3, q4, q5, q6, q7, q8, q9, q10, q11, q12, q13⟩ := HQ1.out
    clear hb1
    have hBel := HB1.out
    go_wp2
    all_goals first
      | (exfalso; omega)
      | (go_ret; exact ⟨ret_bool (by simp), by (repeat' (first | (with_reducible exact Below.refl _ _) | (with_reducible assumption) | (with_reducible refine Below.alloc ?_ ?_ _) | (with_reducible refine below_drewN ?_ _) | (with_reducible refine Below.drew ?_) | (with_reducible refine Below.setCell ?_ ?_ _) | (with_reducible refine Below.trans ?_ (Below.mono (by assumption) ?_)) | go_size | (simp at *; omega)))⟩)
      | (go_ret; exact ⟨ret_bool (by simp; omega), by (repeat' (first | (with_reducible exact Below.refl _ _) | (with_reducible assumption) | (with_reducible refine Below.alloc ?_ ?_ _) | (with_reducible refine below_drewN ?_ _) | (with_reducible refine Below.drew ?_) | (with_reducible refine Below.setCell ?_ ?_ _) | (with_reducible refine Below.trans ?_ (Below.mono (by assumption) ?_)) | go_size | (simp at *; omega)))⟩)
  · have hkb := kind_b h
    clear h
    simp only [calV]
    go_enter Try.func3, Try.ntmps3
    go_wp2_with fail
    refine (live19_any _).mono ?_
    rintro e w1 ⟨rfl, hb1⟩
    have hz1 : w.heap.size < w1.heap.size := by have := hb1.size; simp at this; omega
    have HB1 := hide (show Below w.heap.size w w1 by refine Below.trans ?_ (hb1.mono (by first | omega | (simp; done) | (simp; omega))); (repeat' (first | (with_reducible exact Below.refl _ _) | (with_reducible assumption) | (with_reducible refine Below.alloc ?_ ?_ _) | (with_reducible refine below_drewN ?_ _) | (with_reducible refine Below.drew ?_) | (with_reducible refine Below.setCell ?_ ?_ _) | (with_reducible refine Below.trans ?_ (Below.mono (by assumption) ?_)) | go_size | (simp at *; omega))))
    have HQ1 := hide (calAt_below hb1 (by simp) (calAt_new w c))
    obtain ⟨q0, q1, q2, q3, q4, q5, q6, q7, q8, q9, q10, q11, q12, q13⟩ := HQ1.out
    clear hb1
    have hBel := HB1.out
    go_wp2
    all_goals first
      | (exfalso; omega)
      | (go_ret; exact ⟨ret_bool (by simp), by (repeat' (first | (with_reducible exact Below.refl _ _) | (with_reducible assumption) | (with_reducible refine Below.alloc ?_ ?_ _) | (with_reducible refine below_drewN ?_ _) | (with_reducible refine Below.drew ?_) | (with_reducible refine Below.setCell ?_ ?_ _) | (with_reducible refine Below.trans ?_ (Below.mono (by assumption) ?_)) | go_size | (simp at *; omega)))⟩)
      | (go_ret; exact ⟨ret_bool (by simp; omega), by (repeat' (first | (with_reducible exact Below.refl _ _) | (with_reducible assumption) | (with_reducible refine Below.alloc ?_ ?_ _) | (with_reducible refine below_drewN ?_ _) | (with_reducible refine Below.drew ?_) | (with_reducible refine Below.setCell ?_ ?_ _) | (with_reducible refine Below.trans ?_ (Below.mono (by assumption) ?_)) | go_size | (simp at *; omega)))⟩)
  · have hkb := kind_b h
    clear h
    simp only [calV]
    go_enter Try.func3, Try.ntmps3
    go_wp2_with fail
    refine (live19_any _).mono ?_
    rintro e w1 ⟨rfl, hb1⟩
    have hz1 : w.heap.size < w1.heap.size := by have := hb1.size; simp at this; omega
    have HB1 := hide (show Below w.heap.size w w1 by refine Below.trans ?_ (hb1.mono (by first | omega | (simp; done) | (simp; omega))); (repeat' (first | (with_reducible exact Below.refl _ _) | (with_reducible assumption) | (with_reducible refine Below.alloc ?_ ?_ _) | (with_reducible refine below_drewN ?_ _) | (with_reducible refine Below.drew ?_) | (with_reducible refine Below.setCell ?_ ?_ _) | (with_reducible refine Below.trans ?_ (Below.mono (by assumption) ?_)) | go_size | (simp at *; omega))))
    have HQ1 := hide (calAt_below hb1 (by simp) (calAt_new w c))
    obtain ⟨q0, q1, q2, q3, q4, q5, q6, q7, q8, q9, q10, q11, q12, q13⟩ := HQ1.out
    clear hb1
    have hBel := HB1.out
    go_wp2
    all_goals first
      | (exfalso; omega)
      | (go_ret; exact ⟨ret_bool (by simp), by (repeat' (first | (with_reducible exact Below.refl _ _) | (with_reducible assumption) | (with_reducible refine Below.alloc ?_ ?_ _) | (with_reducible refine below_drewN ?_ _) | (with_reducible refine Below.drew ?_) | (with_reducible refine Below.setCell ?_ ?_ _) | (with_reducible refine Below.trans ?_ (Below.mono (by assumption) ?_)) | go_size | (simp at *; omega)))⟩)
      | (go_ret; exact ⟨ret_bool (by simp; omega), by (repeat' (first | (with_reducible exact Below.refl _ _) | (with_reducible assumption) | (with_reducible refine Below.alloc ?_ ?_ _) | (with_reducible refine below_drewN ?_ _) | (with_reducible refine Below.drew ?_) | (with_reducible refine Below.setCell ?_ ?_ _) | (with_reducible refine Below.trans ?_ (Below.mono (by assumption) ?_)) | go_size | (simp at *; omega)))⟩)
  · have hkb := kind_b h
    clear h
    simp only [calV]
    go_enter Try.func3, Try.ntmps3
    go_wp2_with fail
    refine (live19_any _).mono ?_
    rintro e w1 ⟨rfl, hb1⟩
    have hz1 : w.heap.size < w1.heap.size := by have := hb1.size; simp at this; omega
    have HB1 := hide (show Below w.heap.size w w1 by refine Below.trans ?_ (hb1.mono (by first | omega | (simp; done) | (simp; omega))); (repeat' (first | (with_reducible exact Below.refl _ _) | (with_reducible assumption) | (with_reducible refine Below.alloc ?_ ?_ _) | (with_reducible refine below_drewN ?_ _) | (with_reducible refine Below.drew ?_) | (with_reducible refine Below.setCell ?_ ?_ _) | (with_reducible refine Below.trans ?_ (Below.mono (by assumption) ?_)) | go_size | (simp at *; omega))))
    have HQ1 := hide (calAt_below hb1 (by simp) (calAt_new w c))
    obtain ⟨q0, q1, q2, q3, q4, q5, q6, q7, q8, q9, q10, q11, q12, q13⟩ := HQ1.out
    clear hb1
    have hBel := HB1.out
    go_wp2
    all_goals first
      | (exfalso; omega)
      | (go_ret; exact ⟨ret_bool (by simp), by (repeat' (first | (with_reducible exact Below.refl _ _) | (with_reducible assumption) | (with_reducible refine Below.alloc ?_ ?_ _) | (with_reducible refine below_drewN ?_ _) | (with_reducible refine Below.drew ?_) | (with_reducible refine Below.setCell ?_ ?_ _) | (with_reducible refine Below.trans ?_ (Below.mono (by assumption) ?_)) | go_size | (simp at *; omega)))⟩)
      | (go_ret; exact ⟨ret_bool (by simp; omega), by (repeat' (first | (with_reducible exact Below.refl _ _) | (with_reducible assumption) | (with_reducible refine Below.alloc ?_ ?_ _) | (with_reducible refine below_drewN ?_ _) | (with_reducible refine Below.drew ?_) | (with_reducible refine Below.setCell ?_ ?_ _) | (with_reducible refine Below.trans ?_ (Below.mono (by assumption) ?_)) | go_size | (simp at *; omega)))⟩)
  · have hkb := kind_b h
    clear h
    simp only [calV]
    go_enter Try.func3, Try.ntmps3
    go_wp2_with fail
    refine (live19_any _).mono ?_
    rintro e w1 ⟨rfl, hb1⟩
    have hz1 : w.heap.size < w1.heap.size := by have := hb1.size; simp at this; omega
    have HB1 := hide (show Below w.heap.size w w1 by refine Below.trans ?_ (hb1.mono (by first | omega | (simp; done) | (simp; omega))); (repeat' (first | (with_reducible exact Below.refl _ _) | (with_reducible assumption) | (with_reducible refine Below.alloc ?_ ?_ _) | (with_reducible refine below_drewN ?_ _) | (with_reducible refine Below.drew ?_) | (with_reducible refine Below.setCell ?_ ?_ _) | (with_reducible refine Below.trans ?_ (Below.mono (by assumption) ?_)) | go_size | (simp at *; omega))))
    have HQ1 := hide (calAt_below hb1 (by simp) (calAt_new w c))
    obtain ⟨q0, q1, q2, q3, q4, q5, q6, q7, q8, q9, q10, q11, q12, q13⟩ := HQ1.out
    clear hb1
    have hBel := HB1.out
    go_wp2
    all_goals first
      | (exfalso; omega)
      | (go_ret; exact ⟨ret_bool (by simp), by (repeat' (first | (with_reducible exact Below.refl _ _) | (with_reducible assumption) | (with_reducible refine Below.alloc ?_ ?_ _) | (with_reducible refine below_drewN ?_ _) | (with_reducible refine Below.drew ?_) | (with_reducible refine Below.setCell ?_ ?_ _) | (with_reducible refine Below.trans ?_ (Below.mono (by assumption) ?_)) | go_size | (simp at *; omega)))⟩)
      | (go_ret; exact ⟨ret_bool (by simp; omega), by (repeat' (first | (with_reducible exact Below.refl _ _) | (with_reducible assumption) | (with_reducible refine Below.alloc ?_ ?_ _) | (with_reducible refine below_drewN ?_ _) | (with_reducible refine Below.drew ?_) | (with_reducible refine Below.setCell ?_ ?_ _) | (with_reducible refine Below.trans ?_ (Below.mono (by assumption) ?_)) | go_size | (simp at *; omega)))⟩)

set_option maxRecDepth 100000 in
set_option maxHeartbeats 3200000 in
theorem ce_bad (c : Cal) (y t at' : Int) (w : World) (hn : c.name.size ≤ 100) (hk6 : c.kind ≠ 6) (hy1 : c.first ≤ y) (hy2 : y ≤ c.last) (ht1 : c.first ≤ t) (ht2 : t ≤ c.last) (hk : c.okB = false) :
    Calls Try.prog 3 #[calV c, .int .i64 y, .int .i64 t, .int .i64 at'] w fun e w' => e = .returned (.bool true) ∧ Below w.heap.size w w' := by
  have hkb := kind_b hk6
  have H1 := hide (show startV c y = 0 ∧ askE c y 1601 = 1 from ⟨by simp [startV, askE, hk], by simp [askE, hk]⟩)
  clear hk hk6
  simp only [calV]
  go_enter Try.func3, Try.ntmps3
  go_wp2_with fail
  refine (live19_any _).mono ?_
  rintro e w1 ⟨rfl, hb1⟩
  have hz1 : w.heap.size < w1.heap.size := by have := hb1.size; simp at this; omega
  have HB1 := hide (show Below w.heap.size w w1 by refine Below.trans ?_ (hb1.mono (by first | omega | (simp; done) | (simp; omega))); (repeat' (first | (with_reducible exact Below.refl _ _) | (with_reducible assumption) | (with_reducible refine Below.alloc ?_ ?_ _) | (with_reducible refine below_drewN ?_ _) | (with_reducible refine Below.drew ?_) | (with_reducible refine Below.setCell ?_ ?_ _) | (with_reducible refine Below.trans ?_ (Below.mono (by assumption) ?_)) | go_size | (simp at *; omega))))
  have HQ1 := hide (calAt_below hb1 (by simp) (calAt_new w c))
  obtain ⟨q0, q1, q2, q3, q4, q5, q6, q7, q8, q9, q10, q11, q12, q13⟩ := HQ1.out
  clear hb1
  go_wp2_with fail
  all_goals first
    | (exfalso; omega)
    | skip
  refine (start_any c y _ (by omega)).mono ?_
  rintro e w2 ⟨rfl, hb2⟩
  rw [H1.out.1, H1.out.2]
  have hz2 : w.heap.size < w2.heap.size := by have := hb2.size; (try simp at this); omega
  have HB2 := hide (show Below w.heap.size w w2 by have hp := HB1.out; refine Below.trans ?_ (hb2.mono (by first | omega | (simp; done) | (simp; omega))); (repeat' (first | (with_reducible exact Below.refl _ _) | (with_reducible assumption) | (with_reducible refine Below.alloc ?_ ?_ _) | (with_reducible refine below_drewN ?_ _) | (with_reducible refine Below.drew ?_) | (with_reducible refine Below.setCell ?_ ?_ _) | (with_reducible refine Below.trans ?_ (Below.mono (by assumption) ?_)) | go_size | (simp at *; omega))))
  have HQ2 := hide (show CalAt w2 w.heap.size c from calAt_below hb2 (by first | omega | (simp; done) | (simp; omega)) (by first | exact HQ1.out | exact calAt_alloc HQ1.out (by omega) _ | exact calAt_alloc (calAt_alloc HQ1.out (by omega) _) (by simp; omega) _))
  clear q0 q1 q2 q3 q4 q5 q6 q7 q8 q9 q10 q11 q12 q13
  obtain ⟨q0, q1, q2, q3, q4, q5, q6, q7, q8, q9, q10, q11, q12, q13⟩ := HQ2.out
  clear hb2
  go_wp2_with fail
  all_goals first
    | (exfalso; omega)
    | skip
  refine (end_any c y _ (by omega)).mono ?_
  rintro e w3 ⟨rfl, hb3⟩
  skip
  have hz3 : w.heap.size < w3.heap.size := by have := hb3.size; (try simp at this); omega
  have HB3 := hide (show Below w.heap.size w w3 by have hp := HB2.out; refine Below.trans ?_ (hb3.mono (by first | omega | (simp; done) | (simp; omega))); (repeat' (first | (with_reducible exact Below.refl _ _) | (with_reducible assumption) | (with_reducible refine Below.alloc ?_ ?_ _) | (with_reducible refine below_drewN ?_ _) | (with_reducible refine Below.drew ?_) | (with_reducible refine Below.setCell ?_ ?_ _) | (with_reducible refine Below.trans ?_ (Below.mono (by assumption) ?_)) | go_size | (simp at *; omega))))
  have HQ3 := hide (show CalAt w3 w.heap.size c from calAt_below hb3 (by first | omega | (simp; done) | (simp; omega)) (by first | exact HQ2.out | exact calAt_alloc HQ2.out (by omega) _ | exact calAt_alloc (calAt_alloc HQ2.out (by omega) _) (by simp; omega) _))
  clear q0 q1 q2 q3 q4 q5 q6 q7 q8 q9 q10 q11 q12 q13
  obtain ⟨q0, q1, q2, q3, q4, q5, q6, q7, q8, q9, q10, q11, q12, q13⟩ := HQ3.out
  clear hb3
  go_wp2_with fail
  all_goals first
    | (exfalso; omega)
    | skip
  refine (start_any c t _ (by omega)).mono ?_
  rintro e w4 ⟨rfl, hb4⟩
  skip
  have hz4 : w.heap.size < w4.heap.size := by have := hb4.size; (try simp at this); omega
  have HB4 := hide (show Below w.heap.size w w4 by have hp := HB3.out; refine Below.trans ?_ (hb4.mono (by first | omega | (simp; done) | (simp; omega))); (repeat' (first | (with_reducible exact Below.refl _ _) | (with_reducible assumption) | (with_reducible refine Below.alloc ?_ ?_ _) | (with_reducible refine below_drewN ?_ _) | (with_reducible refine Below.drew ?_) | (with_reducible refine Below.setCell ?_ ?_ _) | (with_reducible refine Below.trans ?_ (Below.mono (by assumption) ?_)) | go_size | (simp at *; omega))))
  have HQ4 := hide (show CalAt w4 w.heap.size c from calAt_below hb4 (by first | omega | (simp; done) | (simp; omega)) (by first | exact HQ3.out | exact calAt_alloc HQ3.out (by omega) _ | exact calAt_alloc (calAt_alloc HQ3.out (by omega) _) (by simp; omega) _))
  clear q0 q1 q2 q3 q4 q5 q6 q7 q8 q9 q10 q11 q12 q13
  obtain ⟨q0, q1, q2, q3, q4, q5, q6, q7, q8, q9, q10, q11, q12, q13⟩ := HQ4.out
  clear hb4
  go_wp2_with fail
  all_goals first
    | (exfalso; omega)
    | skip
  refine (end_any c t _ (by omega)).mono ?_
  rintro e w5 ⟨rfl, hb5⟩
  skip
  have hz5 : w.heap.size < w5.heap.size := by have := hb5.size; (try simp at this); omega
  have HB5 := hide (show Below w.heap.size w w5 by have hp := HB4.out; refine Below.trans ?_ (hb5.mono (by first | omega | (simp; done) | (simp; omega))); (repeat' (first | (with_reducible exact Below.refl _ _) | (with_reducible assumption) | (with_reducible refine Below.alloc ?_ ?_ _) | (with_reducible refine below_drewN ?_ _) | (with_reducible refine Below.drew ?_) | (with_reducible refine Below.setCell ?_ ?_ _) | (with_reducible refine Below.trans ?_ (Below.mono (by assumption) ?_)) | go_size | (simp at *; omega))))
  have HQ5 := hide (show CalAt w5 w.heap.size c from calAt_below hb5 (by first | omega | (simp; done) | (simp; omega)) (by first | exact HQ4.out | exact calAt_alloc HQ4.out (by omega) _ | exact calAt_alloc (calAt_alloc HQ4.out (by omega) _) (by simp; omega) _))
  clear q0 q1 q2 q3 q4 q5 q6 q7 q8 q9 q10 q11 q12 q13
  obtain ⟨q0, q1, q2, q3, q4, q5, q6, q7, q8, q9, q10, q11, q12, q13⟩ := HQ5.out
  clear hb5
  have hBel := HB5.out
  go_wp2
  all_goals first
    | (exfalso; omega)
    | (go_ret; exact ⟨ret_bool (by simp), by (repeat' (first | (with_reducible exact Below.refl _ _) | (with_reducible assumption) | (with_reducible refine Below.alloc ?_ ?_ _) | (with_reducible refine below_drewN ?_ _) | (with_reducible refine Below.drew ?_) | (with_reducible refine Below.setCell ?_ ?_ _) | (with_reducible refine Below.trans ?_ (Below.mono (by assumption) ?_)) | go_size | (simp at *; omega)))⟩)
    | (go_ret; exact ⟨ret_bool (by simp; omega), by (repeat' (first | (with_reducible exact Below.refl _ _) | (with_reducible assumption) | (with_reducible refine Below.alloc ?_ ?_ _) | (with_reducible refine below_drewN ?_ _) | (with_reducible refine Below.drew ?_) | (with_reducible refine Below.setCell ?_ ?_ _) | (with_reducible refine Below.trans ?_ (Below.mono (by assumption) ?_)) | go_size | (simp at *; omega)))⟩)

end Go.Proofs.Ytpngdeegdkifnaa
