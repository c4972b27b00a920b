/- Contract of comp.Day. -/
import Derived.Test.YtpngdeegdkifnaaCompW
namespace Go.Proofs.Ytpngdeegdkifnaa
open Go.RowKit Qd
set_option linter.unusedSimpArgs false
set_option linter.unusedVariables false

/-- Why a week has no comparable one, and which it is. -/
def cwE (c : Cal) (y t x : Int) : Int := if c.okB = true ∧ c.kind ≠ 6 then (if (c.first ≤ y ∧ y ≤ c.last) ∧ (c.first ≤ t ∧ t ≤ c.last) then (if 1 ≤ x ∧ x ≤ wksV c y then (if c.policy = 3 then dropE (addedV c y) (addedV c t) x else 0) else 13) else 11) else 1
def cwV (c : Cal) (y t x : Int) : Int := if cwE c y t x = 0 then (if c.policy = 1 then x else if c.policy = 2 then x + wksV c t - wksV c y else dropV (addedV c y) (addedV c t) x) else 0
theorem ok_pol {c : Cal} (hk : c.okB = true) (hk6 : c.kind ≠ 6) : c.policy = 1 ∨ c.policy = 2 ∨ c.policy = 3 := by
  have hok : c.Ok := by simpa [Cal.okB] using hk
  have hp := hok.2.1
  unfold Cal.polic at hp
  omega
theorem cw_in {c : Cal} {y t x : Int} (hk : c.okB = true) (hk6 : c.kind ≠ 6) (hy : srv c y) (ht : srv c t) (hx : 1 ≤ x ∧ x ≤ wksV c y) : cwE c y t x = if c.policy = 3 then dropE (addedV c y) (addedV c t) x else 0 := by
  unfold cwE
  rw [if_pos ⟨hk, hk6⟩, if_pos ⟨hy, ht⟩, if_pos hx]
theorem drop_bd (a b x : Int) (ha : 0 ≤ a ∧ a ≤ 53) (hb : 0 ≤ b ∧ b ≤ 53) (hx : 1 ≤ x ∧ x ≤ 53) : 0 ≤ dropV a b x ∧ dropV a b x ≤ 54 := by
  unfold dropV
  repeat' split
  all_goals omega
theorem cw_bd {c : Cal} {y t x : Int} (hk : c.okB = true) (hk6 : c.kind ≠ 6) (hy : srv c y) (ht : srv c t) (hx : 1 ≤ x ∧ x ≤ wksV c y) : 0 ≤ cwV c y t x ∧ cwV c y t x ≤ 60 := by
  have h1 := (wks_srv hk hk6 hy).2.2
  have h2 := (wks_srv hk hk6 ht).2.2
  have h3 := added_bd hk hk6 hy
  have h4 := added_bd hk hk6 ht
  have := drop_bd (addedV c y) (addedV c t) x (by omega) (by omega) (by omega)
  unfold cwV
  repeat' split
  all_goals omega
theorem week_any (c : Cal) (y t x : Int) (w : World) (hn : c.name.size ≤ 1000) :
    Calls Try.prog 34 #[calV c, .int .i64 y, .int .i64 t, .int .i64 x] w fun e w' => e = .returned (.tuple #[.int .i64 (cwV c y t x), .int .i64 (cwE c y t x)]) ∧ Below w.heap.size w w' := by
  have zero : ∀ e, cwE c y t x = e → e ≠ 0 → cwV c y t x = 0 := fun e h1 h2 => by rw [cwV, if_neg (by omega)]
  cases hk : c.okB
  · have hE : cwE c y t x = 1 := by unfold cwE; rw [if_neg (by rw [hk]; simp)]
    rw [zero 1 hE (by omega), hE]
    exact cpweek_cal c y t x w hn hk
  · by_cases hk6 : c.kind = 6
    · have hE : cwE c y t x = 1 := by unfold cwE; rw [if_neg (fun h => h.2 hk6)]
      rw [zero 1 hE (by omega), hE]
      exact cpweek_mon c y t x w hn hk hk6
    · by_cases hy : srv c y
      · by_cases ht : srv c t
        · by_cases hx : 1 ≤ x ∧ x ≤ wksV c y
          · have hE := cw_in hk hk6 hy ht hx
            rcases ok_pol hk hk6 with hp | hp | hp
            · have hE0 : cwE c y t x = 0 := by rw [hE, if_neg (by omega)]
              rw [cwV, if_pos hE0, hE0, if_pos hp]
              exact cpweek_1 c y t x w hn hk hk6 hy ht hx hp
            · have hE0 : cwE c y t x = 0 := by rw [hE, if_neg (by omega)]
              rw [cwV, if_pos hE0, hE0, if_neg (by omega), if_pos hp]
              exact cpweek_2 c y t x w hn hk hk6 hy ht hx hp
            · rw [if_pos hp] at hE
              have hV : cwV c y t x = dropV (addedV c y) (addedV c t) x := by
                unfold cwV
                rw [hE]
                by_cases hd : dropE (addedV c y) (addedV c t) x = 0
                · rw [if_pos hd, if_neg (by omega), if_neg (by omega)]
                · rw [if_neg hd]
                  unfold dropE at hd
                  split at hd
                  · rename_i h
                    unfold dropV
                    rw [if_pos h.1, h.2]
                  · exact absurd rfl hd
              rw [hV, hE]
              exact cpweek_3 c y t x w hn hk hk6 hy ht hx hp
          · have hE : cwE c y t x = 13 := by unfold cwE; rw [if_pos ⟨hk, hk6⟩, if_pos ⟨hy, ht⟩, if_neg hx]
            rw [zero 13 hE (by omega), hE]
            exact cpweek_none c y t x w hn hk hk6 hy ht (by omega)
        · have hE : cwE c y t x = 11 := by unfold cwE; rw [if_pos ⟨hk, hk6⟩, if_neg (fun h => ht h.2)]
          rw [zero 11 hE (by omega), hE]
          exact cpweek_t c y t x w hn hk hk6 hy ht
      · have hE : cwE c y t x = 11 := by unfold cwE; rw [if_pos ⟨hk, hk6⟩, if_neg (fun h => hy h.1)]
        rw [zero 11 hE (by omega), hE]
        exact cpweek_y c y t x w hn hk hk6 hy

theorem fd_served {c : Cal} {d : Int} (hs : servE c d = 0) (lv : Int) (h1 : 1 ≤ lv) (h5 : lv ≤ 5) : fdE c d lv = 0 := by
  have := serv_ok hs
  unfold fdE
  rw [if_pos ⟨this.1, h1, h5⟩]
  exact hs
/-- The week of a served day. -/
theorem fd_week {c : Cal} {d : Int} (hs : servE c d = 0) (hk6 : c.kind ≠ 6) :
    fdU c d 5 = ⟨5, servY c d, (d - startV c (servY c d)) / 7 + 1⟩ ∧ unitE c ⟨5, servY c d, (d - startV c (servY c d)) / 7 + 1⟩ = 0 ∧ (spV c ⟨5, servY c d, (d - startV c (servY c d)) / 7 + 1⟩).a = d - (d - startV c (servY c d)) % 7 ∧
      1 ≤ (d - startV c (servY c d)) / 7 + 1 ∧ (d - startV c (servY c d)) / 7 + 1 ≤ wksV c (servY c d) ∧ (spV c ⟨5, servY c d, (d - startV c (servY c d)) / 7 + 1⟩).b ≤ 3068038 := by
  have hf5 := fd_served hs 5 (by omega) (by omega)
  obtain ⟨hk, h1, h5, _, hd, hy, hf⟩ := fd_ok hf5
  obtain ⟨i, e, hi, ha, hb⟩ := fd_in hf5
  have hcut : ∀ j, cutN c (servY c d) 5 j = j := fun j => by simp [cutN]
  rw [hcut] at ha hb
  rw [cnt_5] at hi
  have hA := hy.1
  have d1 := dayW_7 c _ hA hk6 i (Nat.le_of_lt hi)
  have d2 := dayW_7 c _ hA hk6 (i + 1) hi
  have hq : (d - startV c (servY c d)) / 7 = (i : Int) := by omega
  obtain ⟨g0, _, _⟩ := un_mk hf i (by rw [cnt_5]; exact hi)
  have hsp := sp_mk hf i (by rw [cnt_5]; exact hi)
  rw [hcut, hcut, d1, d2] at hsp
  have hE : wksE c (servY c d) = 0 := by simp [wksE, wksB, hk, hk6, hA]
  have h7 := nWk_7 c _ hA hk6
  have hw := (wks_ok hE).2.2.2.2.2.2
  have hyb := year_bd c _ hA
  have hdv : daysV c (servY c d) = endV c (servY c d) - startV c (servY c d) + 1 := by simp [daysV, hA]
  rw [hq]
  refine ⟨e, g0, ?_, by omega, by omega, ?_⟩
  · rw [hsp]; simp only; omega
  · rw [hsp]; simp only; omega
/-- The months of a served day's period, and of that of the same number. -/
theorem sp_period {c : Cal} {y : Int} (hf : frameE c 4 y = 0) (i : Nat) (hi : i < nPer c y) : spV c ⟨4, y, (i : Int) + 1⟩ = ⟨fromAt c y i, endAt c y i⟩ := by
  obtain ⟨hok, hk, _, _, hy1, hy2, hA⟩ := frame_ok hf
  have hsp := sp_mk hf i (by rw [cnt_4]; exact hi)
  have c4 : ∀ j, cutN c y 4 j = cumW c y j := fun j => by simp [cutN, pcut]
  rw [c4, c4, dayW_cum c y hA i (Nat.le_of_lt hi), dayW_cum c y hA (i + 1) hi, from_succ] at hsp
  rw [hsp]
  congr 1
  omega
theorem fd_month {c : Cal} {d : Int} (hs : servE c d = 0) : ∃ i : Nat, uI (fdU c d 4) = i ∧ fdU c d 4 = ⟨4, servY c d, (i : Int) + 1⟩ ∧ i < nPer c (servY c d) ∧ fromAt c (servY c d) i ≤ d ∧ d ≤ endAt c (servY c d) i := by
  have hf4 := fd_served hs 4 (by omega) (by omega)
  obtain ⟨hk, h1, h5, _, hd, hy, hf⟩ := fd_ok hf4
  obtain ⟨i, e, hi, ha, hb⟩ := fd_in hf4
  rw [cnt_4] at hi
  have c4 : ∀ j, cutN c (servY c d) 4 j = cumW c (servY c d) j := fun j => by simp [cutN, pcut]
  rw [c4, dayW_cum c _ hy.1 i (Nat.le_of_lt hi)] at ha
  rw [c4, dayW_cum c _ hy.1 (i + 1) hi, from_succ] at hb
  exact ⟨i, by rw [e]; simp [uI], e, hi, ha, by omega⟩
theorem per_same {c : Cal} (hk : c.okB = true) (y t : Int) : nPer c y = nPer c t := by
  have h1 : ((nPer c y : Nat) : Int) = perV c := ends_len c y hk
  have h2 : ((nPer c t : Nat) : Int) = perV c := ends_len c t hk
  omega

theorem sp_bd2 {c : Cal} {u : Un} (h : unitE c u = 0) : 0 ≤ (spV c u).a ∧ (spV c u).a ≤ (spV c u).b ∧ (spV c u).b ≤ 3068037 := by
  obtain ⟨hf, hl1, hl5, hA, hx, hi⟩ := un_lv h
  have hab := cutAB h
  rw [sp_get h]
  have b1 := dayW_le c u.yr hA (Nat.zero_le (cutA c u)) (by omega)
  have b2 := dayW_le c u.yr hA hab.2 (Nat.le_refl _)
  have b3 := dayW_lt c u.yr hA hab.1 hab.2
  rw [dayW_0] at b1
  rw [dayW_end c u.yr hA] at b2
  have := year_bd c u.yr hA
  simp only
  omega
noncomputable def cdE (c : Cal) (d k : Int) : Int := if servE c d = 0 then (if c.first - servY c d ≤ k ∧ k ≤ c.last - servY c d then (if c.kind = 6 then 0 else cwE c (servY c d) (servY c d + k) ((d - startV c (servY c d)) / 7 + 1)) else 11) else servE c d
noncomputable def cdV (c : Cal) (d k : Int) : Int := if cdE c d k = 0 then (if c.kind = 6 then min (fromAt c (servY c d + k) (uI (fdU c d 4)) + (d - fromAt c (servY c d) (uI (fdU c d 4)))) (endAt c (servY c d + k) (uI (fdU c d 4))) else startV c (servY c d + k) + 7 * (cwV c (servY c d) (servY c d + k) ((d - startV c (servY c d)) / 7 + 1) - 1) + (d - startV c (servY c d)) % 7) else 0

set_option maxRecDepth 100000 in
set_option maxHeartbeats 3200000 in
theorem cday_no (c : Cal) (d k : Int) (w : World) (hn : c.name.size ≤ 1000) (hs : ¬ servE c d = 0) :
    Calls Try.prog 15 #[calV c, .int .i64 d, .int .i64 k] w fun e w' => e = .returned (.tuple #[.int .i64 0, .int .i64 (servE c d)]) ∧ Below w.heap.size w w' := by
  have hs' : (servE c d != 0) = true := by simpa using hs
  clear hs
  simp only [calV]
  go_enter Try.func15, Try.ntmps15
  go_wp2_with fail
  refine (served_any c d _ hn).mono ?_
  rintro e w1 ⟨rfl, hb1⟩
  skip
  have hz1 : w.heap.size < w1.heap.size := by have := hb1.size; simp at this; omega
  have HB1 := hide (show Below w.heap.size w w1 by refine Below.trans ?_ (hb1.mono (by first | omega | (simp; done) | (simp; omega))); (repeat' (first | (with_reducible exact Below.refl _ _) | (with_reducible assumption) | (with_reducible refine Below.alloc ?_ ?_ _) | (with_reducible refine below_drewN ?_ _) | (with_reducible refine Below.drew ?_) | (with_reducible refine Below.setCell ?_ ?_ _) | (with_reducible refine Below.trans ?_ (Below.mono (by assumption) ?_)) | go_size | (simp at *; omega))))
  have HQ1 := hide (calAt_below hb1 (by simp) (calAt_new w c))
  obtain ⟨q0, q1, q2, q3, q4, q5, q6, q7, q8, q9, q10, q11, q12, q13⟩ := HQ1.out
  clear hb1
  clear q0 q1 q2 q3 q4 q5 q6 q7 q8 q9 q10 q11 q12 q13
  go_wp2
  go_ret2
  exact ⟨rfl, HB1.out⟩

set_option maxRecDepth 100000 in
set_option maxHeartbeats 3200000 in
theorem cday_far (c : Cal) (d k : Int) (w : World) (hn : c.name.size ≤ 1000) (hs : servE c d = 0) (hx : ¬ (c.first - servY c d ≤ k ∧ k ≤ c.last - servY c d)) :
    Calls Try.prog 15 #[calV c, .int .i64 d, .int .i64 k] w fun e w' => e = .returned (.tuple #[.int .i64 0, .int .i64 11]) ∧ Below w.heap.size w w' := by
  obtain ⟨hk, hd, hyr, hy1, hy2⟩ := serv_ok hs
  obtain ⟨_, _, b1, b2, b3⟩ := ok_years hk
  obtain ⟨y, hyy⟩ : ∃ y, y = servY c d := ⟨_, rfl⟩
  rw [← hyy] at hyr hy1 hy2 hx
  have HS := hide hs
  have HY := hide hyy
  clear hs hd hyr hyy hk
  simp only [calV]
  go_enter Try.func15, Try.ntmps15
  go_wp2_with fail
  refine (served_any c d _ hn).mono ?_
  rintro e w1 ⟨rfl, hb1⟩
  rw [HS.out, ← HY.out]
  have hz1 : w.heap.size < w1.heap.size := by have := hb1.size; simp at this; omega
  have HB1 := hide (show Below w.heap.size w w1 by refine Below.trans ?_ (hb1.mono (by first | omega | (simp; done) | (simp; omega))); (repeat' (first | (with_reducible exact Below.refl _ _) | (with_reducible assumption) | (with_reducible refine Below.alloc ?_ ?_ _) | (with_reducible refine below_drewN ?_ _) | (with_reducible refine Below.drew ?_) | (with_reducible refine Below.setCell ?_ ?_ _) | (with_reducible refine Below.trans ?_ (Below.mono (by assumption) ?_)) | go_size | (simp at *; omega))))
  have HQ1 := hide (calAt_below hb1 (by simp) (calAt_new w c))
  obtain ⟨q0, q1, q2, q3, q4, q5, q6, q7, q8, q9, q10, q11, q12, q13⟩ := HQ1.out
  clear hb1
  rcases (show k < c.first - y ∨ (c.first - y ≤ k ∧ c.last - y < k) by omega) with h | ⟨h, h'⟩
  · go_wp2
    all_goals first
      | (exfalso; omega)
      | (go_ret2; exact ⟨rfl, HB1.out⟩)
  · go_wp2
    all_goals first
      | (exfalso; omega)
      | (go_ret2; exact ⟨rfl, HB1.out⟩)

set_option maxRecDepth 100000 in
set_option maxHeartbeats 3200000 in
theorem cday_gone (c : Cal) (d k : Int) (w : World) (hn : c.name.size ≤ 1000) (hs : servE c d = 0) (hx : c.first - servY c d ≤ k ∧ k ≤ c.last - servY c d) (hk6 : c.kind ≠ 6) (hc : ¬ cwE c (servY c d) (servY c d + k) ((d - startV c (servY c d)) / 7 + 1) = 0) :
    Calls Try.prog 15 #[calV c, .int .i64 d, .int .i64 k] w fun e w' => e = .returned (.tuple #[.int .i64 0, .int .i64 (cwE c (servY c d) (servY c d + k) ((d - startV c (servY c d)) / 7 + 1))]) ∧ Below w.heap.size w w' := by
  obtain ⟨hk, hd, hyr, hy1, hy2⟩ := serv_ok hs
  obtain ⟨_, _, b1, b2, b3⟩ := ok_years hk
  obtain ⟨y, hyy⟩ : ∃ y, y = servY c d := ⟨_, rfl⟩
  obtain ⟨f1, f2, f3, f4, f5, f6⟩ := fd_week hs hk6
  have hf5 := fd_served hs 5 (by omega) (by omega)
  have hdd : 0 ≤ d ∧ d < 3068037 := by simpa [isB] using hd
  clear hyy
  clear y
  generalize hyy0 : servY c d = y at *
  have hyy := hyy0.symm
  clear hyy0
  have hsy : srv c y := ⟨hy1, hy2⟩
  have hst : srv c (y + k) := ⟨by omega, by omega⟩
  have hcb := cw_bd hk hk6 hsy hst ⟨f4, f5⟩
  have hA2 := (wks_srv hk hk6 hst).2.1
  have hyb := year_bd c (y + k) hA2
  have hkb : (c.kind == 6) = false := by simpa using hk6
  obtain ⟨x, hxx⟩ : ∃ x, x = (d - startV c y) / 7 + 1 := ⟨_, rfl⟩
  obtain ⟨m, hmm⟩ : ∃ m, m = (d - startV c y) % 7 := ⟨_, rfl⟩
  have hm7 : 0 ≤ m ∧ m < 7 := by omega
  rw [← hxx] at f1 f2 f3 f4 f5 f6 hc hcb ⊢
  rw [← hmm] at f3
  obtain ⟨S, hS⟩ : ∃ S, S = spV c ⟨5, y, x⟩ := ⟨_, rfl⟩
  rw [← hS] at f3 f6
  have HSP := hide hS
  obtain ⟨sa, sb⟩ := S
  simp only at f3 f6
  obtain rfl : sa = d - m := f3
  have HS := hide hs
  have HY := hide hyy
  have HF5 := hide hf5
  have HFU := hide f1
  have HUE := hide f2
  have HA2 := hide hA2
  have HC := hide (show (cwE c y (y + k) x != 0) = true by simpa using hc)
  obtain ⟨V, hV⟩ : ∃ V, V = cwV c y (y + k) x := ⟨_, rfl⟩
  rw [← hV] at hcb
  have HV := hide hV
  obtain ⟨hx1, hx2⟩ := hx
  clear hs hd hyr hyy hk hk6 f1 f2 hf5 hc hS hA2 hsy hst hxx hmm hV
  simp only [calV]
  go_enter Try.func15, Try.ntmps15
  go_wp2_with fail
  refine (served_any c d _ hn).mono ?_
  rintro e w1 ⟨rfl, hb1⟩
  rw [HS.out, ← HY.out]
  have hz1 : w.heap.size < w1.heap.size := by have := hb1.size; simp at this; omega
  have HB1 := hide (show Below w.heap.size w w1 by refine Below.trans ?_ (hb1.mono (by first | omega | (simp; done) | (simp; omega))); (repeat' (first | (with_reducible exact Below.refl _ _) | (with_reducible assumption) | (with_reducible refine Below.alloc ?_ ?_ _) | (with_reducible refine below_drewN ?_ _) | (with_reducible refine Below.drew ?_) | (with_reducible refine Below.setCell ?_ ?_ _) | (with_reducible refine Below.trans ?_ (Below.mono (by assumption) ?_)) | go_size | (simp at *; omega))))
  have HQ1 := hide (calAt_below hb1 (by simp) (calAt_new w c))
  obtain ⟨q0, q1, q2, q3, q4, q5, q6, q7, q8, q9, q10, q11, q12, q13⟩ := HQ1.out
  clear hb1
  go_wp2_with fail
  all_goals first
    | (exfalso; omega)
    | skip
  refine (fday_any c d 5 _ hn).mono ?_
  rintro e w2 ⟨rfl, hb2⟩
  rw [HF5.out, HFU.out]
  simp only [unitV]
  have hz2 : w.heap.size < w2.heap.size := by have := hb2.size; (try simp at this); omega
  have HB2 := hide (show Below w.heap.size w w2 by have hp := HB1.out; refine Below.trans ?_ (hb2.mono (by first | omega | (simp; done) | (simp; omega))); (repeat' (first | (with_reducible exact Below.refl _ _) | (with_reducible assumption) | (with_reducible refine Below.alloc ?_ ?_ _) | (with_reducible refine below_drewN ?_ _) | (with_reducible refine Below.drew ?_) | (with_reducible refine Below.setCell ?_ ?_ _) | (with_reducible refine Below.trans ?_ (Below.mono (by assumption) ?_)) | go_size | (simp at *; omega))))
  have HQ2 := hide (show CalAt w2 w.heap.size c from calAt_below hb2 (by first | omega | (simp; done) | (simp; omega)) (by first | exact HQ1.out | exact calAt_alloc HQ1.out (by omega) _ | exact calAt_alloc (calAt_alloc HQ1.out (by omega) _) (by simp; omega) _))
  clear q0 q1 q2 q3 q4 q5 q6 q7 q8 q9 q10 q11 q12 q13
  obtain ⟨q0, q1, q2, q3, q4, q5, q6, q7, q8, q9, q10, q11, q12, q13⟩ := HQ2.out
  clear hb2
  go_wp2_with fail
  refine (uspan_any c ⟨5, y, x⟩ _ hn).mono ?_
  rintro e w3 ⟨rfl, hb3⟩
  rw [HUE.out, ← HSP.out]
  simp only [spanV]
  have HX3 := hide (show UnAt w3 w2.heap.size ⟨5, y, x⟩ from unAt_below hb3 (by simp) (unAt_fresh w2 ⟨5, y, x⟩))
  have hX3 : w2.heap.size < w3.heap.size := by have := hb3.size; (try simp at this); omega
  have hz3 : w.heap.size < w3.heap.size := by have := hb3.size; (try simp at this); omega
  have HB3 := hide (show Below w.heap.size w w3 by have hp := HB2.out; refine Below.trans ?_ (hb3.mono (by first | omega | (simp; done) | (simp; omega))); (repeat' (first | (with_reducible exact Below.refl _ _) | (with_reducible assumption) | (with_reducible refine Below.alloc ?_ ?_ _) | (with_reducible refine below_drewN ?_ _) | (with_reducible refine Below.drew ?_) | (with_reducible refine Below.setCell ?_ ?_ _) | (with_reducible refine Below.trans ?_ (Below.mono (by assumption) ?_)) | go_size | (simp at *; omega))))
  have HQ3 := hide (show CalAt w3 w.heap.size c from calAt_below hb3 (by first | omega | (simp; done) | (simp; omega)) (by first | exact HQ2.out | exact calAt_alloc HQ2.out (by omega) _ | exact calAt_alloc (calAt_alloc HQ2.out (by omega) _) (by simp; omega) _))
  clear q0 q1 q2 q3 q4 q5 q6 q7 q8 q9 q10 q11 q12 q13
  obtain ⟨q0, q1, q2, q3, q4, q5, q6, q7, q8, q9, q10, q11, q12, q13⟩ := HQ3.out
  clear hb3
  obtain ⟨x0, x1, x2⟩ := HX3.out
  go_wp2_with fail
  all_goals first
    | (exfalso; omega)
    | skip
  refine (week_any c y (y + k) x _ hn).mono ?_
  rintro e w4 ⟨rfl, hb4⟩
  rw [← HV.out]
  clear x0 x1 x2
  have hz4 : w.heap.size < w4.heap.size := by have := hb4.size; (try simp at this); omega
  have HB4 := hide (show Below w.heap.size w w4 by have hp := HB3.out; refine Below.trans ?_ (hb4.mono (by first | omega | (simp; done) | (simp; omega))); (repeat' (first | (with_reducible exact Below.refl _ _) | (with_reducible assumption) | (with_reducible refine Below.alloc ?_ ?_ _) | (with_reducible refine below_drewN ?_ _) | (with_reducible refine Below.drew ?_) | (with_reducible refine Below.setCell ?_ ?_ _) | (with_reducible refine Below.trans ?_ (Below.mono (by assumption) ?_)) | go_size | (simp at *; omega))))
  have HQ4 := hide (show CalAt w4 w.heap.size c from calAt_below hb4 (by first | omega | (simp; done) | (simp; omega)) (by first | exact HQ3.out | exact calAt_alloc HQ3.out (by omega) _ | exact calAt_alloc (calAt_alloc HQ3.out (by omega) _) (by simp; omega) _))
  clear q0 q1 q2 q3 q4 q5 q6 q7 q8 q9 q10 q11 q12 q13
  obtain ⟨q0, q1, q2, q3, q4, q5, q6, q7, q8, q9, q10, q11, q12, q13⟩ := HQ4.out
  clear hb4
  have hcc := HC.out
  clear q0 q1 q2 q3 q4 q5 q6 q7 q8 q9 q10 q11 q12 q13
  go_wp2
  all_goals first
    | (exfalso; omega)
    | (go_ret2; exact ⟨rfl, HB4.out⟩)

set_option maxRecDepth 100000 in
set_option maxHeartbeats 3200000 in
theorem cday_week (c : Cal) (d k : Int) (w : World) (hn : c.name.size ≤ 1000) (hs : servE c d = 0) (hx : c.first - servY c d ≤ k ∧ k ≤ c.last - servY c d) (hk6 : c.kind ≠ 6) (hc : cwE c (servY c d) (servY c d + k) ((d - startV c (servY c d)) / 7 + 1) = 0) :
    Calls Try.prog 15 #[calV c, .int .i64 d, .int .i64 k] w fun e w' => e = .returned (.tuple #[.int .i64 (startV c (servY c d + k) + 7 * (cwV c (servY c d) (servY c d + k) ((d - startV c (servY c d)) / 7 + 1) - 1) + (d - startV c (servY c d)) % 7), .int .i64 0]) ∧ Below w.heap.size w w' := by
  obtain ⟨hk, hd, hyr, hy1, hy2⟩ := serv_ok hs
  obtain ⟨_, _, b1, b2, b3⟩ := ok_years hk
  obtain ⟨y, hyy⟩ : ∃ y, y = servY c d := ⟨_, rfl⟩
  obtain ⟨f1, f2, f3, f4, f5, f6⟩ := fd_week hs hk6
  have hf5 := fd_served hs 5 (by omega) (by omega)
  have hdd : 0 ≤ d ∧ d < 3068037 := by simpa [isB] using hd
  clear hyy
  clear y
  generalize hyy0 : servY c d = y at *
  have hyy := hyy0.symm
  clear hyy0
  have hsy : srv c y := ⟨hy1, hy2⟩
  have hst : srv c (y + k) := ⟨by omega, by omega⟩
  have hcb := cw_bd hk hk6 hsy hst ⟨f4, f5⟩
  have hA2 := (wks_srv hk hk6 hst).2.1
  have hyb := year_bd c (y + k) hA2
  have hkb : (c.kind == 6) = false := by simpa using hk6
  obtain ⟨x, hxx⟩ : ∃ x, x = (d - startV c y) / 7 + 1 := ⟨_, rfl⟩
  obtain ⟨m, hmm⟩ : ∃ m, m = (d - startV c y) % 7 := ⟨_, rfl⟩
  have hm7 : 0 ≤ m ∧ m < 7 := by omega
  rw [← hxx] at f1 f2 f3 f4 f5 f6 hc hcb ⊢
  rw [← hmm] at f3
  rw [← hmm]
  obtain ⟨S, hS⟩ : ∃ S, S = spV c ⟨5, y, x⟩ := ⟨_, rfl⟩
  rw [← hS] at f3 f6
  have HSP := hide hS
  obtain ⟨sa, sb⟩ := S
  simp only at f3 f6
  obtain rfl : sa = d - m := f3
  have HS := hide hs
  have HY := hide hyy
  have HF5 := hide hf5
  have HFU := hide f1
  have HUE := hide f2
  have HA2 := hide hA2
  have HC := hide hc
  obtain ⟨V, hV⟩ : ∃ V, V = cwV c y (y + k) x := ⟨_, rfl⟩
  rw [← hV] at hcb ⊢
  have HV := hide hV
  obtain ⟨hx1, hx2⟩ := hx
  clear hs hd hyr hyy hk hk6 f1 f2 hf5 hc hS hA2 hsy hst hxx hmm hV
  simp only [calV]
  go_enter Try.func15, Try.ntmps15
  go_wp2_with fail
  refine (served_any c d _ hn).mono ?_
  rintro e w1 ⟨rfl, hb1⟩
  rw [HS.out, ← HY.out]
  have hz1 : w.heap.size < w1.heap.size := by have := hb1.size; simp at this; omega
  have HB1 := hide (show Below w.heap.size w w1 by refine Below.trans ?_ (hb1.mono (by first | omega | (simp; done) | (simp; omega))); (repeat' (first | (with_reducible exact Below.refl _ _) | (with_reducible assumption) | (with_reducible refine Below.alloc ?_ ?_ _) | (with_reducible refine below_drewN ?_ _) | (with_reducible refine Below.drew ?_) | (with_reducible refine Below.setCell ?_ ?_ _) | (with_reducible refine Below.trans ?_ (Below.mono (by assumption) ?_)) | go_size | (simp at *; omega))))
  have HQ1 := hide (calAt_below hb1 (by simp) (calAt_new w c))
  obtain ⟨q0, q1, q2, q3, q4, q5, q6, q7, q8, q9, q10, q11, q12, q13⟩ := HQ1.out
  clear hb1
  go_wp2_with fail
  all_goals first
    | (exfalso; omega)
    | skip
  refine (fday_any c d 5 _ hn).mono ?_
  rintro e w2 ⟨rfl, hb2⟩
  rw [HF5.out, HFU.out]
  simp only [unitV]
  have hz2 : w.heap.size < w2.heap.size := by have := hb2.size; (try simp at this); omega
  have HB2 := hide (show Below w.heap.size w w2 by have hp := HB1.out; refine Below.trans ?_ (hb2.mono (by first | omega | (simp; done) | (simp; omega))); (repeat' (first | (with_reducible exact Below.refl _ _) | (with_reducible assumption) | (with_reducible refine Below.alloc ?_ ?_ _) | (with_reducible refine below_drewN ?_ _) | (with_reducible refine Below.drew ?_) | (with_reducible refine Below.setCell ?_ ?_ _) | (with_reducible refine Below.trans ?_ (Below.mono (by assumption) ?_)) | go_size | (simp at *; omega))))
  have HQ2 := hide (show CalAt w2 w.heap.size c from calAt_below hb2 (by first | omega | (simp; done) | (simp; omega)) (by first | exact HQ1.out | exact calAt_alloc HQ1.out (by omega) _ | exact calAt_alloc (calAt_alloc HQ1.out (by omega) _) (by simp; omega) _))
  clear q0 q1 q2 q3 q4 q5 q6 q7 q8 q9 q10 q11 q12 q13
  obtain ⟨q0, q1, q2, q3, q4, q5, q6, q7, q8, q9, q10, q11, q12, q13⟩ := HQ2.out
  clear hb2
  go_wp2_with fail
  refine (uspan_any c ⟨5, y, x⟩ _ hn).mono ?_
  rintro e w3 ⟨rfl, hb3⟩
  rw [HUE.out, ← HSP.out]
  simp only [spanV]
  have HX3 := hide (show UnAt w3 w2.heap.size ⟨5, y, x⟩ from unAt_below hb3 (by simp) (unAt_fresh w2 ⟨5, y, x⟩))
  have hX3 : w2.heap.size < w3.heap.size := by have := hb3.size; (try simp at this); omega
  have hz3 : w.heap.size < w3.heap.size := by have := hb3.size; (try simp at this); omega
  have HB3 := hide (show Below w.heap.size w w3 by have hp := HB2.out; refine Below.trans ?_ (hb3.mono (by first | omega | (simp; done) | (simp; omega))); (repeat' (first | (with_reducible exact Below.refl _ _) | (with_reducible assumption) | (with_reducible refine Below.alloc ?_ ?_ _) | (with_reducible refine below_drewN ?_ _) | (with_reducible refine Below.drew ?_) | (with_reducible refine Below.setCell ?_ ?_ _) | (with_reducible refine Below.trans ?_ (Below.mono (by assumption) ?_)) | go_size | (simp at *; omega))))
  have HQ3 := hide (show CalAt w3 w.heap.size c from calAt_below hb3 (by first | omega | (simp; done) | (simp; omega)) (by first | exact HQ2.out | exact calAt_alloc HQ2.out (by omega) _ | exact calAt_alloc (calAt_alloc HQ2.out (by omega) _) (by simp; omega) _))
  clear q0 q1 q2 q3 q4 q5 q6 q7 q8 q9 q10 q11 q12 q13
  obtain ⟨q0, q1, q2, q3, q4, q5, q6, q7, q8, q9, q10, q11, q12, q13⟩ := HQ3.out
  clear hb3
  obtain ⟨x0, x1, x2⟩ := HX3.out
  go_wp2_with fail
  all_goals first
    | (exfalso; omega)
    | skip
  refine (week_any c y (y + k) x _ hn).mono ?_
  rintro e w4 ⟨rfl, hb4⟩
  rw [← HV.out]
  clear x0 x1 x2
  have hz4 : w.heap.size < w4.heap.size := by have := hb4.size; (try simp at this); omega
  have HB4 := hide (show Below w.heap.size w w4 by have hp := HB3.out; refine Below.trans ?_ (hb4.mono (by first | omega | (simp; done) | (simp; omega))); (repeat' (first | (with_reducible exact Below.refl _ _) | (with_reducible assumption) | (with_reducible refine Below.alloc ?_ ?_ _) | (with_reducible refine below_drewN ?_ _) | (with_reducible refine Below.drew ?_) | (with_reducible refine Below.setCell ?_ ?_ _) | (with_reducible refine Below.trans ?_ (Below.mono (by assumption) ?_)) | go_size | (simp at *; omega))))
  have HQ4 := hide (show CalAt w4 w.heap.size c from calAt_below hb4 (by first | omega | (simp; done) | (simp; omega)) (by first | exact HQ3.out | exact calAt_alloc HQ3.out (by omega) _ | exact calAt_alloc (calAt_alloc HQ3.out (by omega) _) (by simp; omega) _))
  clear q0 q1 q2 q3 q4 q5 q6 q7 q8 q9 q10 q11 q12 q13
  obtain ⟨q0, q1, q2, q3, q4, q5, q6, q7, q8, q9, q10, q11, q12, q13⟩ := HQ4.out
  clear hb4
  rw [HC.out]
  go_wp2_with fail
  refine (start_any c (y + k) _ hn).mono ?_
  rintro e w5 ⟨rfl, hb5⟩
  rw [HA2.out]
  have hz5 : w.heap.size < w5.heap.size := by have := hb5.size; (try simp at this); omega
  have HB5 := hide (show Below w.heap.size w w5 by have hp := HB4.out; refine Below.trans ?_ (hb5.mono (by first | omega | (simp; done) | (simp; omega))); (repeat' (first | (with_reducible exact Below.refl _ _) | (with_reducible assumption) | (with_reducible refine Below.alloc ?_ ?_ _) | (with_reducible refine below_drewN ?_ _) | (with_reducible refine Below.drew ?_) | (with_reducible refine Below.setCell ?_ ?_ _) | (with_reducible refine Below.trans ?_ (Below.mono (by assumption) ?_)) | go_size | (simp at *; omega))))
  have HQ5 := hide (show CalAt w5 w.heap.size c from calAt_below hb5 (by first | omega | (simp; done) | (simp; omega)) (by first | exact HQ4.out | exact calAt_alloc HQ4.out (by omega) _ | exact calAt_alloc (calAt_alloc HQ4.out (by omega) _) (by simp; omega) _))
  clear q0 q1 q2 q3 q4 q5 q6 q7 q8 q9 q10 q11 q12 q13
  obtain ⟨q0, q1, q2, q3, q4, q5, q6, q7, q8, q9, q10, q11, q12, q13⟩ := HQ5.out
  clear hb5
  clear q0 q1 q2 q3 q4 q5 q6 q7 q8 q9 q10 q11 q12 q13
  go_wp2
  all_goals first
    | (exfalso; omega)
    | (go_ret2; exact ⟨ret_int2 (by first | rfl | omega) rfl, HB5.out⟩)

set_option maxRecDepth 100000 in
set_option maxHeartbeats 3200000 in
theorem cday_month (c : Cal) (d k : Int) (w : World) (hn : c.name.size ≤ 1000) (hs : servE c d = 0) (hx : c.first - servY c d ≤ k ∧ k ≤ c.last - servY c d) (hk6 : c.kind = 6) :
    Calls Try.prog 15 #[calV c, .int .i64 d, .int .i64 k] w fun e w' => e = .returned (.tuple #[.int .i64 (min (fromAt c (servY c d + k) (uI (fdU c d 4)) + (d - fromAt c (servY c d) (uI (fdU c d 4)))) (endAt c (servY c d + k) (uI (fdU c d 4)))), .int .i64 0]) ∧ Below w.heap.size w w' := by
  obtain ⟨hk, hd, hyr, hy1, hy2⟩ := serv_ok hs
  obtain ⟨_, _, b1, b2, b3⟩ := ok_years hk
  obtain ⟨y, hyy⟩ : ∃ y, y = servY c d := ⟨_, rfl⟩
  obtain ⟨i, e1, e2, e3, e4, e5⟩ := fd_month hs
  have hf4 := fd_served hs 4 (by omega) (by omega)
  have hdd : 0 ≤ d ∧ d < 3068037 := by simpa [isB] using hd
  have hfy := (fd_ok hf4).2.2.2.2.2.2
  rw [e1]
  clear hyy
  clear y
  generalize hyy0 : servY c d = y at *
  have hyy := hyy0.symm
  clear hyy0
  have hft : frameE c 4 (y + k) = 0 := frame_is (ask_ok hyr.1).1 (by omega) (by omega) (by omega) (by omega)
  have hit : i < nPer c (y + k) := by rw [← per_same hk y (y + k)]; exact e3
  have hS := sp_period hfy i e3
  have hT := sp_period hft i hit
  have hU := (un_mk hfy i (by rw [cnt_4]; exact e3)).1
  have hV := (un_mk hft i (by rw [cnt_4]; exact hit)).1
  have bS := sp_bd2 hU
  have bT := sp_bd2 hV
  rw [hS] at bS
  rw [hT] at bT
  simp only at bS bT
  generalize hsa : fromAt c y i = sa at *
  generalize hsb : endAt c y i = sb at *
  generalize hta : fromAt c (y + k) i = ta at *
  generalize htb : endAt c (y + k) i = tb at *
  have hkb : (c.kind == 6) = true := by simp [hk6]
  have HS := hide hs
  have HY := hide hyy
  have HF4 := hide hf4
  have HFU := hide e2
  have HUE := hide hU
  have HVE := hide hV
  have HSS := hide hS
  have HTT := hide hT
  obtain ⟨hx1, hx2⟩ := hx
  obtain ⟨m, hm⟩ : ∃ m, m = min (ta + (d - sa)) tb := ⟨_, rfl⟩
  rw [← hm]
  have HM := hide hm
  have hi52 : i < 60 := by have := nPer_bd c y hyr.1; omega
  clear hs hd hyr hyy hk hk6 e1 e2 hf4 hfy hft hit hS hT hU hV hsa hsb hta htb e3 hm
  simp only [calV]
  go_enter Try.func15, Try.ntmps15
  go_wp2_with fail
  refine (served_any c d _ hn).mono ?_
  rintro e w1 ⟨rfl, hb1⟩
  rw [HS.out, ← HY.out]
  have hz1 : w.heap.size < w1.heap.size := by have := hb1.size; simp at this; omega
  have HB1 := hide (show Below w.heap.size w w1 by refine Below.trans ?_ (hb1.mono (by first | omega | (simp; done) | (simp; omega))); (repeat' (first | (with_reducible exact Below.refl _ _) | (with_reducible assumption) | (with_reducible refine Below.alloc ?_ ?_ _) | (with_reducible refine below_drewN ?_ _) | (with_reducible refine Below.drew ?_) | (with_reducible refine Below.setCell ?_ ?_ _) | (with_reducible refine Below.trans ?_ (Below.mono (by assumption) ?_)) | go_size | (simp at *; omega))))
  have HQ1 := hide (calAt_below hb1 (by simp) (calAt_new w c))
  obtain ⟨q0, q1, q2, q3, q4, q5, q6, q7, q8, q9, q10, q11, q12, q13⟩ := HQ1.out
  clear hb1
  go_wp2_with fail
  all_goals first
    | (exfalso; omega)
    | skip
  refine (fday_any c d 4 _ hn).mono ?_
  rintro e w2 ⟨rfl, hb2⟩
  rw [HF4.out, HFU.out]
  simp only [unitV]
  have hz2 : w.heap.size < w2.heap.size := by have := hb2.size; (try simp at this); omega
  have HB2 := hide (show Below w.heap.size w w2 by have hp := HB1.out; refine Below.trans ?_ (hb2.mono (by first | omega | (simp; done) | (simp; omega))); (repeat' (first | (with_reducible exact Below.refl _ _) | (with_reducible assumption) | (with_reducible refine Below.alloc ?_ ?_ _) | (with_reducible refine below_drewN ?_ _) | (with_reducible refine Below.drew ?_) | (with_reducible refine Below.setCell ?_ ?_ _) | (with_reducible refine Below.trans ?_ (Below.mono (by assumption) ?_)) | go_size | (simp at *; omega))))
  have HQ2 := hide (show CalAt w2 w.heap.size c from calAt_below hb2 (by first | omega | (simp; done) | (simp; omega)) (by first | exact HQ1.out | exact calAt_alloc HQ1.out (by omega) _ | exact calAt_alloc (calAt_alloc HQ1.out (by omega) _) (by simp; omega) _))
  clear q0 q1 q2 q3 q4 q5 q6 q7 q8 q9 q10 q11 q12 q13
  obtain ⟨q0, q1, q2, q3, q4, q5, q6, q7, q8, q9, q10, q11, q12, q13⟩ := HQ2.out
  clear hb2
  go_wp2_with fail
  refine (uspan_any c ⟨4, y, (i : Int) + 1⟩ _ hn).mono ?_
  rintro e w3 ⟨rfl, hb3⟩
  rw [HUE.out, HSS.out]
  simp only [spanV]
  have G3 := (BlkIs.new w2 #[.int .i64 4, .int .i64 y, .int .i64 ((i : Int) + 1)] 31).call hb3
  have hz3 : w.heap.size < w3.heap.size := by have := hb3.size; (try simp at this); omega
  have HB3 := hide (show Below w.heap.size w w3 by have hp := HB2.out; refine Below.trans ?_ (hb3.mono (by first | omega | (simp; done) | (simp; omega))); (repeat' (first | (with_reducible exact Below.refl _ _) | (with_reducible assumption) | (with_reducible refine Below.alloc ?_ ?_ _) | (with_reducible refine below_drewN ?_ _) | (with_reducible refine Below.drew ?_) | (with_reducible refine Below.setCell ?_ ?_ _) | (with_reducible refine Below.trans ?_ (Below.mono (by assumption) ?_)) | go_size | (simp at *; omega))))
  have HQ3 := hide (show CalAt w3 w.heap.size c from calAt_below hb3 (by first | omega | (simp; done) | (simp; omega)) (by first | exact HQ2.out | exact calAt_alloc HQ2.out (by omega) _ | exact calAt_alloc (calAt_alloc HQ2.out (by omega) _) (by simp; omega) _))
  clear q0 q1 q2 q3 q4 q5 q6 q7 q8 q9 q10 q11 q12 q13
  obtain ⟨q0, q1, q2, q3, q4, q5, q6, q7, q8, q9, q10, q11, q12, q13⟩ := HQ3.out
  clear hb3
  have hX3 : w2.heap.size < w3.heap.size := G3.lt
  obtain ⟨x0, x1, x2⟩ : w3.cell? ⟨w2.heap.size, 0, none⟩ = some (.int .i64 4) ∧ w3.cell? ⟨w2.heap.size, 1, none⟩ = some (.int .i64 y) ∧ w3.cell? ⟨w2.heap.size, 2, none⟩ = some (.int .i64 ((i : Int) + 1)) := ⟨G3.cell 0, G3.cell 1, G3.cell 2⟩
  have xf := G3.frozen 1
  have hne : w.heap.size ≠ w2.heap.size := by omega
  clear G3
  go_wp2_with fail
  all_goals first
    | (exfalso; omega)
    | skip
  refine (uspan_any c ⟨4, y + k, (i : Int) + 1⟩ _ hn).mono ?_
  rintro e w4 ⟨rfl, hb4⟩
  rw [HVE.out, HTT.out]
  simp only [spanV]
  have hB4 : Below w.heap.size w w4 := by
    refine Below.trans ?_ (hb4.mono (by simp; omega))
    have := HB3.out
    (repeat' (first | (with_reducible exact Below.refl _ _) | (with_reducible assumption) | (with_reducible refine Below.alloc ?_ ?_ _) | (with_reducible refine below_drewN ?_ _) | (with_reducible refine Below.drew ?_) | (with_reducible refine Below.setCell ?_ ?_ _) | (with_reducible refine Below.trans ?_ (Below.mono (by assumption) ?_)) | go_size | (simp at *; omega)))
  have hz4 : w.heap.size ≤ w4.heap.size := hB4.size
  clear q0 q1 q2 q3 q4 q5 q6 q7 q8 q9 q10 q11 q12 q13
  clear hb4 x0 x1 x2 xf
  rcases Int.le_total (ta + (d - sa)) tb with hmin | hmin
  · have HM2 := hide (show m = ta + (d - sa) by rw [HM.out]; omega)
    rcases (show ta + (d - sa) < tb ∨ ta + (d - sa) = tb by omega) with hmin2 | hmin2
    · go_wp2
      all_goals first
        | (exfalso; omega)
        | (go_ret2; exact ⟨ret_int2 (by rw [HM2.out]; try omega) rfl, by (repeat' (first | (with_reducible exact Below.refl _ _) | (with_reducible assumption) | (with_reducible refine Below.alloc ?_ ?_ _) | (with_reducible refine below_drewN ?_ _) | (with_reducible refine Below.drew ?_) | (with_reducible refine Below.setCell ?_ ?_ _) | (with_reducible refine Below.trans ?_ (Below.mono (by assumption) ?_)) | go_size | (simp at *; omega)))⟩)
    · go_wp2
      all_goals first
        | (exfalso; omega)
        | (go_ret2; exact ⟨ret_int2 (by rw [HM2.out]; try omega) rfl, by (repeat' (first | (with_reducible exact Below.refl _ _) | (with_reducible assumption) | (with_reducible refine Below.alloc ?_ ?_ _) | (with_reducible refine below_drewN ?_ _) | (with_reducible refine Below.drew ?_) | (with_reducible refine Below.setCell ?_ ?_ _) | (with_reducible refine Below.trans ?_ (Below.mono (by assumption) ?_)) | go_size | (simp at *; omega)))⟩)
  · have HM2 := hide (show m = tb by rw [HM.out]; omega)
    rcases (show tb < ta + (d - sa) ∨ ta + (d - sa) = tb by omega) with hmin2 | hmin2
    · go_wp2
      all_goals first
        | (exfalso; omega)
        | (go_ret2; exact ⟨ret_int2 (by rw [HM2.out]; try omega) rfl, by (repeat' (first | (with_reducible exact Below.refl _ _) | (with_reducible assumption) | (with_reducible refine Below.alloc ?_ ?_ _) | (with_reducible refine below_drewN ?_ _) | (with_reducible refine Below.drew ?_) | (with_reducible refine Below.setCell ?_ ?_ _) | (with_reducible refine Below.trans ?_ (Below.mono (by assumption) ?_)) | go_size | (simp at *; omega)))⟩)
    · go_wp2
      all_goals first
        | (exfalso; omega)
        | (go_ret2; exact ⟨ret_int2 (by rw [HM2.out]; try omega) rfl, by (repeat' (first | (with_reducible exact Below.refl _ _) | (with_reducible assumption) | (with_reducible refine Below.alloc ?_ ?_ _) | (with_reducible refine below_drewN ?_ _) | (with_reducible refine Below.drew ?_) | (with_reducible refine Below.setCell ?_ ?_ _) | (with_reducible refine Below.trans ?_ (Below.mono (by assumption) ?_)) | go_size | (simp at *; omega)))⟩)

theorem cday_any (c : Cal) (d k : Int) (w : World) (hn : c.name.size ≤ 1000) :
    Calls Try.prog 15 #[calV c, .int .i64 d, .int .i64 k] w fun e w' => e = .returned (.tuple #[.int .i64 (cdV c d k), .int .i64 (cdE c d k)]) ∧ Below w.heap.size w w' := by
  by_cases hs : servE c d = 0
  · by_cases hx : c.first - servY c d ≤ k ∧ k ≤ c.last - servY c d
    · by_cases hk6 : c.kind = 6
      · have hE : cdE c d k = 0 := by rw [cdE, if_pos hs, if_pos hx, if_pos hk6]
        rw [cdV, if_pos hE, if_pos hk6, hE]
        exact cday_month c d k w hn hs hx hk6
      · have hE : cdE c d k = cwE c (servY c d) (servY c d + k) ((d - startV c (servY c d)) / 7 + 1) := by rw [cdE, if_pos hs, if_pos hx, if_neg hk6]
        by_cases hc : cwE c (servY c d) (servY c d + k) ((d - startV c (servY c d)) / 7 + 1) = 0
        · rw [cdV, if_pos (by rw [hE]; exact hc), if_neg hk6, hE, hc]
          exact cday_week c d k w hn hs hx hk6 hc
        · rw [cdV, if_neg (by rw [hE]; exact hc), hE]
          exact cday_gone c d k w hn hs hx hk6 hc
    · have hE : cdE c d k = 11 := by rw [cdE, if_pos hs, if_neg hx]
      rw [cdV, if_neg (by omega), hE]
      exact cday_far c d k w hn hs hx
  · have hE : cdE c d k = servE c d := by rw [cdE, if_neg hs]
    rw [cdV, if_neg (by rw [hE]; exact hs), hE]
    exact cday_no c d k w hn hs
end Go.Proofs.Ytpngdeegdkifnaa
