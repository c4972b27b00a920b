/- Contracts of the references: on which days the periods of a year of weeks end (layer 15). -/
import Derived.Test.YtojdngkleiokgaaRefJ
import Derived.Test.YtojdngkleiokgaaAdded
namespace Go.Proofs.Ytojdngkleiokgaa
open Go.RowKit Qd
set_option linter.unusedSimpArgs false
set_option linter.unusedVariables false

theorem pat_bd {c : Cal} (hok : c.Ok) (h4 : ¬ c.shape = 4) (h5 : ¬ c.shape = 5) (k : Nat) : 1 ≤ patN c k ∧ patN c k ≤ 5 := by
  obtain ⟨_, _, _, hr⟩ := hok
  simp only [Cal.ruled, Cal.weeks, weeksP, Cal.pat0] at hr
  unfold patN pat0 pat1 pat2
  repeat' split
  all_goals omega
theorem len_bd2 {c : Cal} (hok : c.Ok) (h4 : ¬ c.shape = 4) (h5 : ¬ c.shape = 5) {wk : Int} (hw : wk = 52 ∨ wk = 53) (k : Nat) : 1 ≤ lenAt c wk k ∧ lenAt c wk k ≤ 6 := by
  have := pat_bd hok h4 h5 k
  unfold lenAt
  split <;> omega
theorem wkDay_bd {c : Cal} {y : Int} (hok : c.Ok) (h4 : ¬ c.shape = 4) (h5 : ¬ c.shape = 5) (hw : wksV c y = 52 ∨ wksV c y = 53) (k : Nat) : startV c y ≤ wkDay c y k ∧ wkDay c y k ≤ startV c y + 42 * k := by
  induction k with
  | zero => simp [wkDay]
  | succ k ih =>
    have := len_bd2 hok h4 h5 hw k
    rw [wkDay]
    omega
set_option maxRecDepth 100000 in
set_option maxHeartbeats 25600000 in
theorem r15ends_1 (c : Cal) (y : Int) (w : World) (hn : c.name.size ≤ 1000) (hE : askE c y 1601 = 0) (hsh : c.shape = 1) :
    Calls Try.prog 13 #[calV c, .int .i64 y] w (REndsPost c y w) := by
  obtain ⟨hok, hy1, hy2⟩ := ask_ok hE
  have hokB : c.okB = true := by simpa [Cal.okB] using hok
  have hk6 : c.kind ≠ 6 := fun h => by have := (ok_shape hok).2.1.1 h; omega
  have h4 : ¬ c.shape = 4 := by omega
  have h5 : ¬ c.shape = 5 := by omega
  have hwE : wksE c y = 0 := by simp [wksE, wksB, hokB, hk6, hE]
  have hwv := (wks_ok hwE).2.2.2.2.2.1
  have HE := hide hE
  have h4b : (c.shape == 4) = false := by simpa using h4
  have h5b : (c.shape == 5) = false := by simpa using h5
  have hpb := per_bounds c hokB
  obtain ⟨N, hN⟩ : ∃ N : Nat, (perV c) = (N : Int) := ⟨(perV c).toNat, by omega⟩
  have hL : endsL c y = upto (fun i => wkDay c y (i + 1) - 1) N := by rw [endsL, if_neg h4, if_neg h5, hN]; rfl
  have HW := hide (fun k => wkDay_bd hok h4 h5 hwv k)
  have HLB := hide (fun k => len_bd2 hok h4 h5 hwv k)
  have HPB := hide (fun k => pat_bd hok h4 h5 k)
  have HWS := hide (fun k => (show wkDay c y (k + 1) = wkDay c y k + 7 * lenAt c (wksV c y) k from rfl))
  have HLEN := hide (fun k => (show lenAt c (wksV c y) k = patN c k + if (k : Int) + 1 = c.extra then wksV c y - 52 else 0 from rfl))
  have HPAT := hide (fun k => (show patN c k = if k % 3 = 0 then pat0 c else if k % 3 = 1 then pat1 c else pat2 c from rfl))
  have hyb := year_bd c y hE
  have H0 := hide (show wkDay c y 0 = startV c y from rfl)
  obtain ⟨D, hD⟩ : ∃ D, startV c y = D := ⟨_, rfl⟩
  obtain ⟨wk, hwk⟩ : ∃ D, wksV c y = D := ⟨_, rfl⟩
  rw [hD] at HW hyb H0
  rw [hwk] at hwv HWS HLEN HLB
  rw [hN] at hpb
  have HD := hide hD
  have HWK := hide (And.intro hwk hwE)
  have HN := hide (And.intro hN (show okE c = 0 from okE_yes hok))
  have HL := hide hL
  have hDb : 0 ≤ D ∧ D ≤ 3068037 := ⟨hyb.1, hyb.2.1⟩
  have hNb : 12 ≤ N ∧ N ≤ 52 := by omega
  obtain ⟨F, hF⟩ : ∃ F : Nat → Int, wkDay c y = F := ⟨_, rfl⟩
  rw [hF] at HW HWS H0 HL
  obtain ⟨i0, hi, hi0, hi1, hi2⟩ := info_parts rint_info
  have hs1 : (c.shape == 1) = true := by simp [hsh]
  have hs3 : (c.shape == 3) = false := by simp [hsh]
  have HP0 := hide (And.intro (show pat0 c = c.p0 by simp [pat0, hsh]) (And.intro (show pat1 c = c.p1 by simp [pat1, hsh]) (show pat2 c = c.p2 by simp [pat2, hsh])))
  clear hsh
  clear hE hok hokB hk6 h4 h5 hwE hL hyb hD hwk hN hpb hF
  simp only [calV]
  go_enter Try.func13, Try.ntmps13
  go_wp2_with fail
  refine (r15told_any c y _ hn).mono ?_
  rintro e w1 ⟨rfl, hb1⟩
  rw [HE.out]
  have hz1 : w.heap.size < w1.heap.size := by have := hb1.size; simp at this; omega
  have HB1 := hide (show Below w.heap.size w w1 by refine Below.trans ?_ (hb1.mono (by first | omega | (simp; done) | (simp; omega))); (repeat' (first | (with_reducible exact Below.refl _ _) | (with_reducible assumption) | (with_reducible refine Below.alloc ?_ ?_ _) | (with_reducible refine below_drewN ?_ _) | (with_reducible refine Below.drew ?_) | (with_reducible refine Below.setCell ?_ ?_ _) | (with_reducible refine Below.trans ?_ (Below.mono (by assumption) ?_)) | go_size | (simp at *; omega))))
  have HQ1 := hide (calAt_below hb1 (by simp) (calAt_new w c))
  obtain ⟨q0, q1, q2, q3, q4, q5, q6, q7, q8, q9, q10, q11, q12, q13⟩ := HQ1.out
  clear hb1
  go_wp2_with fail
  refine (r11per_any c _ hn).mono ?_
  rintro e w2 ⟨rfl, hb2⟩
  rw [HN.out.1, HN.out.2]
  have hz2 : w.heap.size < w2.heap.size := by have := hb2.size; (try simp at this); omega
  have HB2 := hide (show Below w.heap.size w w2 by have hp := HB1.out; refine Below.trans ?_ (hb2.mono (by first | omega | (simp; done) | (simp; omega))); (repeat' (first | (with_reducible exact Below.refl _ _) | (with_reducible assumption) | (with_reducible refine Below.alloc ?_ ?_ _) | (with_reducible refine below_drewN ?_ _) | (with_reducible refine Below.drew ?_) | (with_reducible refine Below.setCell ?_ ?_ _) | (with_reducible refine Below.trans ?_ (Below.mono (by assumption) ?_)) | go_size | (simp at *; omega))))
  have HQ2 := hide (show CalAt w2 w.heap.size c from calAt_below hb2 (by first | omega | (simp; done) | (simp; omega)) (by first | exact HQ1.out | exact calAt_alloc HQ1.out (by omega) _ | exact calAt_alloc (calAt_alloc HQ1.out (by omega) _) (by simp; omega) _))
  clear q0 q1 q2 q3 q4 q5 q6 q7 q8 q9 q10 q11 q12 q13
  obtain ⟨q0, q1, q2, q3, q4, q5, q6, q7, q8, q9, q10, q11, q12, q13⟩ := HQ2.out
  clear hb2
  go_wp2_with fail
  refine (r13weeks_any c y _ hn).mono ?_
  rintro e w3 ⟨rfl, hb3⟩
  rw [HWK.out.1, HWK.out.2]
  have hz3 : w.heap.size < w3.heap.size := by have := hb3.size; (try simp at this); omega
  have HB3 := hide (show Below w.heap.size w w3 by have hp := HB2.out; refine Below.trans ?_ (hb3.mono (by first | omega | (simp; done) | (simp; omega))); (repeat' (first | (with_reducible exact Below.refl _ _) | (with_reducible assumption) | (with_reducible refine Below.alloc ?_ ?_ _) | (with_reducible refine below_drewN ?_ _) | (with_reducible refine Below.drew ?_) | (with_reducible refine Below.setCell ?_ ?_ _) | (with_reducible refine Below.trans ?_ (Below.mono (by assumption) ?_)) | go_size | (simp at *; omega))))
  have HQ3 := hide (show CalAt w3 w.heap.size c from calAt_below hb3 (by first | omega | (simp; done) | (simp; omega)) (by first | exact HQ2.out | exact calAt_alloc HQ2.out (by omega) _ | exact calAt_alloc (calAt_alloc HQ2.out (by omega) _) (by simp; omega) _))
  clear q0 q1 q2 q3 q4 q5 q6 q7 q8 q9 q10 q11 q12 q13
  obtain ⟨q0, q1, q2, q3, q4, q5, q6, q7, q8, q9, q10, q11, q12, q13⟩ := HQ3.out
  clear hb3
  go_wp2_with fail
  refine (r13start_any c y _ hn).mono ?_
  rintro e w4 ⟨rfl, hb4⟩
  rw [HE.out, HD.out]
  have hz4 : w.heap.size < w4.heap.size := by have := hb4.size; (try simp at this); omega
  have HB4 := hide (show Below w.heap.size w w4 by have hp := HB3.out; refine Below.trans ?_ (hb4.mono (by first | omega | (simp; done) | (simp; omega))); (repeat' (first | (with_reducible exact Below.refl _ _) | (with_reducible assumption) | (with_reducible refine Below.alloc ?_ ?_ _) | (with_reducible refine below_drewN ?_ _) | (with_reducible refine Below.drew ?_) | (with_reducible refine Below.setCell ?_ ?_ _) | (with_reducible refine Below.trans ?_ (Below.mono (by assumption) ?_)) | go_size | (simp at *; omega))))
  have HQ4 := hide (show CalAt w4 w.heap.size c from calAt_below hb4 (by first | omega | (simp; done) | (simp; omega)) (by first | exact HQ3.out | exact calAt_alloc HQ3.out (by omega) _ | exact calAt_alloc (calAt_alloc HQ3.out (by omega) _) (by simp; omega) _))
  clear q0 q1 q2 q3 q4 q5 q6 q7 q8 q9 q10 q11 q12 q13
  obtain ⟨q0, q1, q2, q3, q4, q5, q6, q7, q8, q9, q10, q11, q12, q13⟩ := HQ4.out
  clear hb4
  have HS1 := hide (show IlSt c w.heap.size w4.heap.size [] (.slice none 0 0) w w4 from ⟨HQ4.out, hz4, Nat.le_refl _, ⟨World.ownsRow_nil _ _ _ _, by simp⟩, HB4.out⟩)
  go_wp2_with fail
  go_loopw [7, 21, 23] (fun s7 s21 s23 wr => ∃ k : Nat, s23 = .int .i64 ((k : Int) + 1) ∧ s21 = .int .i64 (F k) ∧ k ≤ N ∧ IlSt c w.heap.size w4.heap.size (upto (fun i => F (i + 1) - 1) k) s7 w wr) (fun _ _ s _ => (60 - intOf s).toNat)
  case atStart => exact ⟨0, rfl, by rw [H0.out], by omega, HS1.out⟩
  case round =>
    obtain ⟨k, rfl, rfl, hk, hS⟩ := hrel
    have HS := hide hS
    have hBo := hS.2.2.1
    have hBz := hS.2.1
    clear hS
    clear q0 q1 q2 q3 q4 q5 q6 q7 q8 q9 q10 q11 q12 q13
    have hfb := HW.out k
    by_cases hlt : k < N
    · have hfb1 := HW.out (k + 1)
      have hws := HWS.out k
      have hle := HLEN.out k
      have hpa := HPAT.out k
      have hpb := HPB.out k
      have HSN := hide (upto_succ (fun i => F (i + 1) - 1) k)
      have hul : (upto (fun i => F (i + 1) - 1) k).length = k := upto_length _ _
      obtain ⟨F1, hF1⟩ : ∃ X, F (k + 1) = X := ⟨_, rfl⟩
      rw [hF1] at hfb1 hws
      have HF1 := hide hF1
      obtain ⟨F0, hF0⟩ : ∃ X, F k = X := ⟨_, rfl⟩
      rw [hF0] at hfb hws
      rw [hF0]
      obtain ⟨U, hU⟩ : ∃ U, upto (fun i => F (i + 1) - 1) k = U := ⟨_, rfl⟩
      rw [hU] at HS HSN hul
      rw [hF1] at HSN
      obtain ⟨P, hP⟩ : ∃ X, patN c k = X := ⟨_, rfl⟩
      rw [hP] at hle hpa hpb
      obtain ⟨G, hG⟩ : ∃ X, lenAt c wk k = X := ⟨_, rfl⟩
      rw [hG] at hle hws
      have HWSE := hide hws
      clear hF1 hF0 hU hP hG hws
      obtain ⟨q0, q1, q2, q3, q4, q5, q6, q7, q8, q9, q10, q11, q12, q13⟩ := HS.out.1
      rw [HP0.out.1, HP0.out.2.1, HP0.out.2.2] at hpa
      rcases (show k % 3 = 0 ∨ k % 3 = 1 ∨ k % 3 = 2 by omega) with hr | hr | hr
      · have hrr : ((k : Int)).tmod 3 = 0 := by rw [Int.tmod_eq_emod_of_nonneg (by omega)]; omega
        have hPv : P = c.p0 := by rw [hpa]; simp [hr]
        rw [hPv] at hle hpb
        clear hpa hPv
        rcases (show ((k : Int) + 1 = c.extra ∧ wk = 53) ∨ ((k : Int) + 1 = c.extra ∧ wk = 52) ∨ ¬ (k : Int) + 1 = c.extra by omega) with ⟨hx, hw⟩ | ⟨hx, hw⟩ | hx
        · skip
          have hxb : ((k : Int) + 1 == c.extra) = true := by simp; omega
          have hwb : (wk == 53) = true := by simp [hw]
          have hGv : G = c.p0 + 1 := by rw [hle]; rw [if_pos hx, hw]; omega
          have HX := hide (show F0 + 7 * (c.p0 + 1) = F1 by rw [HWSE.out, hGv])
          clear hle hx hw hGv
          go_wp2_with ((at_builtin; refine wpList_append_own _ rfl _ _ 30 rfl w4.heap.size 3 i0 (.int .i64 0) 1 8 Try.underlying30 hi hi0 hi1 hi2 rfl (by decide) _ _ _ rfl (HS.out.2.2.2.1.1.alloc _) ⟨wr.heap.size, 0, none⟩ 1 1 [.int .i64 (F0 + 7 * (c.p0 + 1) - 1)] rfl rfl ?c1k11 ?c2k11 ?c3k11 ?c4k11 ?c5k11 ?_))
          case c1k11 =>
            intro i u hu
            match i, hu with
            | 0, hu => simp at hu; subst hu; simp [Addr.add]
            | i + 1, hu => simp at hu
          case c2k11 => intro u hu; simp at hu; subst hu; rfl
          case c3k11 => unfold maxLen; omega
          case c4k11 => omega
          case c5k11 => simp; omega
          · intro v' w' hown' hgrow _
            rw [show F0 + 7 * (c.p0 + 1) - 1 = F1 - 1 by have := HX.out; omega] at hown'
            have HG := hide (HS.out.grow (x := F1 - 1) _ (by rw [hul]; exact hown') hgrow)
            clear hown' hgrow
            go_wp2
            go_roundw
            case rel => exact ⟨k + 1, by go_num, by (rw [HF1.out]) <;> (congr 1) <;> (have := HX.out; omega), by omega, by rw [HSN.out]; exact HG.out⟩
            case measure => simp [intOf]; omega
        · skip
          have hxb : ((k : Int) + 1 == c.extra) = true := by simp; omega
          have hwb : (wk == 53) = false := by simp [hw]
          have hGv : G = c.p0 + 0 := by rw [hle]; rw [if_pos hx, hw]; omega
          have HX := hide (show F0 + 7 * (c.p0 + 0) = F1 by rw [HWSE.out, hGv])
          clear hle hx hw hGv
          go_wp2_with ((at_builtin; refine wpList_append_own _ rfl _ _ 30 rfl w4.heap.size 3 i0 (.int .i64 0) 1 8 Try.underlying30 hi hi0 hi1 hi2 rfl (by decide) _ _ _ rfl (HS.out.2.2.2.1.1.alloc _) ⟨wr.heap.size, 0, none⟩ 1 1 [.int .i64 (F0 + 7 * c.p0 - 1)] rfl rfl ?c1k12 ?c2k12 ?c3k12 ?c4k12 ?c5k12 ?_))
          case c1k12 =>
            intro i u hu
            match i, hu with
            | 0, hu => simp at hu; subst hu; simp [Addr.add]
            | i + 1, hu => simp at hu
          case c2k12 => intro u hu; simp at hu; subst hu; rfl
          case c3k12 => unfold maxLen; omega
          case c4k12 => omega
          case c5k12 => simp; omega
          · intro v' w' hown' hgrow _
            rw [show F0 + 7 * c.p0 - 1 = F1 - 1 by have := HX.out; omega] at hown'
            have HG := hide (HS.out.grow (x := F1 - 1) _ (by rw [hul]; exact hown') hgrow)
            clear hown' hgrow
            go_wp2
            go_roundw
            case rel => exact ⟨k + 1, by go_num, by (rw [HF1.out]) <;> (congr 1) <;> (have := HX.out; omega), by omega, by rw [HSN.out]; exact HG.out⟩
            case measure => simp [intOf]; omega
        · skip
          have hxb : ((k : Int) + 1 == c.extra) = false := by simp; omega
          have hGv : G = c.p0 + 0 := by rw [hle]; rw [if_neg hx]
          have HX := hide (show F0 + 7 * (c.p0 + 0) = F1 by rw [HWSE.out, hGv])
          clear hle hx hGv
          go_wp2_with ((at_builtin; refine wpList_append_own _ rfl _ _ 30 rfl w4.heap.size 3 i0 (.int .i64 0) 1 8 Try.underlying30 hi hi0 hi1 hi2 rfl (by decide) _ _ _ rfl (HS.out.2.2.2.1.1.alloc _) ⟨wr.heap.size, 0, none⟩ 1 1 [.int .i64 (F0 + 7 * c.p0 - 1)] rfl rfl ?c1k13 ?c2k13 ?c3k13 ?c4k13 ?c5k13 ?_))
          case c1k13 =>
            intro i u hu
            match i, hu with
            | 0, hu => simp at hu; subst hu; simp [Addr.add]
            | i + 1, hu => simp at hu
          case c2k13 => intro u hu; simp at hu; subst hu; rfl
          case c3k13 => unfold maxLen; omega
          case c4k13 => omega
          case c5k13 => simp; omega
          · intro v' w' hown' hgrow _
            rw [show F0 + 7 * c.p0 - 1 = F1 - 1 by have := HX.out; omega] at hown'
            have HG := hide (HS.out.grow (x := F1 - 1) _ (by rw [hul]; exact hown') hgrow)
            clear hown' hgrow
            go_wp2
            go_roundw
            case rel => exact ⟨k + 1, by go_num, by (rw [HF1.out]) <;> (congr 1) <;> (have := HX.out; omega), by omega, by rw [HSN.out]; exact HG.out⟩
            case measure => simp [intOf]; omega
      · have hrr : ((k : Int)).tmod 3 = 1 := by rw [Int.tmod_eq_emod_of_nonneg (by omega)]; omega
        have hPv : P = c.p1 := by rw [hpa]; simp [hr]
        rw [hPv] at hle hpb
        clear hpa hPv
        rcases (show ((k : Int) + 1 = c.extra ∧ wk = 53) ∨ ((k : Int) + 1 = c.extra ∧ wk = 52) ∨ ¬ (k : Int) + 1 = c.extra by omega) with ⟨hx, hw⟩ | ⟨hx, hw⟩ | hx
        · skip
          have hxb : ((k : Int) + 1 == c.extra) = true := by simp; omega
          have hwb : (wk == 53) = true := by simp [hw]
          have hGv : G = c.p1 + 1 := by rw [hle]; rw [if_pos hx, hw]; omega
          have HX := hide (show F0 + 7 * (c.p1 + 1) = F1 by rw [HWSE.out, hGv])
          clear hle hx hw hGv
          go_wp2_with ((at_builtin; refine wpList_append_own _ rfl _ _ 30 rfl w4.heap.size 3 i0 (.int .i64 0) 1 8 Try.underlying30 hi hi0 hi1 hi2 rfl (by decide) _ _ _ rfl (HS.out.2.2.2.1.1.alloc _) ⟨wr.heap.size, 0, none⟩ 1 1 [.int .i64 (F0 + 7 * (c.p1 + 1) - 1)] rfl rfl ?c1k14 ?c2k14 ?c3k14 ?c4k14 ?c5k14 ?_))
          case c1k14 =>
            intro i u hu
            match i, hu with
            | 0, hu => simp at hu; subst hu; simp [Addr.add]
            | i + 1, hu => simp at hu
          case c2k14 => intro u hu; simp at hu; subst hu; rfl
          case c3k14 => unfold maxLen; omega
          case c4k14 => omega
          case c5k14 => simp; omega
          · intro v' w' hown' hgrow _
            rw [show F0 + 7 * (c.p1 + 1) - 1 = F1 - 1 by have := HX.out; omega] at hown'
            have HG := hide (HS.out.grow (x := F1 - 1) _ (by rw [hul]; exact hown') hgrow)
            clear hown' hgrow
            go_wp2
            go_roundw
            case rel => exact ⟨k + 1, by go_num, by (rw [HF1.out]) <;> (congr 1) <;> (have := HX.out; omega), by omega, by rw [HSN.out]; exact HG.out⟩
            case measure => simp [intOf]; omega
        · skip
          have hxb : ((k : Int) + 1 == c.extra) = true := by simp; omega
          have hwb : (wk == 53) = false := by simp [hw]
          have hGv : G = c.p1 + 0 := by rw [hle]; rw [if_pos hx, hw]; omega
          have HX := hide (show F0 + 7 * (c.p1 + 0) = F1 by rw [HWSE.out, hGv])
          clear hle hx hw hGv
          go_wp2_with ((at_builtin; refine wpList_append_own _ rfl _ _ 30 rfl w4.heap.size 3 i0 (.int .i64 0) 1 8 Try.underlying30 hi hi0 hi1 hi2 rfl (by decide) _ _ _ rfl (HS.out.2.2.2.1.1.alloc _) ⟨wr.heap.size, 0, none⟩ 1 1 [.int .i64 (F0 + 7 * c.p1 - 1)] rfl rfl ?c1k15 ?c2k15 ?c3k15 ?c4k15 ?c5k15 ?_))
          case c1k15 =>
            intro i u hu
            match i, hu with
            | 0, hu => simp at hu; subst hu; simp [Addr.add]
            | i + 1, hu => simp at hu
          case c2k15 => intro u hu; simp at hu; subst hu; rfl
          case c3k15 => unfold maxLen; omega
          case c4k15 => omega
          case c5k15 => simp; omega
          · intro v' w' hown' hgrow _
            rw [show F0 + 7 * c.p1 - 1 = F1 - 1 by have := HX.out; omega] at hown'
            have HG := hide (HS.out.grow (x := F1 - 1) _ (by rw [hul]; exact hown') hgrow)
            clear hown' hgrow
            go_wp2
            go_roundw
            case rel => exact ⟨k + 1, by go_num, by (rw [HF1.out]) <;> (congr 1) <;> (have := HX.out; omega), by omega, by rw [HSN.out]; exact HG.out⟩
            case measure => simp [intOf]; omega
        · skip
          have hxb : ((k : Int) + 1 == c.extra) = false := by simp; omega
          have hGv : G = c.p1 + 0 := by rw [hle]; rw [if_neg hx]
          have HX := hide (show F0 + 7 * (c.p1 + 0) = F1 by rw [HWSE.out, hGv])
          clear hle hx hGv
          go_wp2_with ((at_builtin; refine wpList_append_own _ rfl _ _ 30 rfl w4.heap.size 3 i0 (.int .i64 0) 1 8 Try.underlying30 hi hi0 hi1 hi2 rfl (by decide) _ _ _ rfl (HS.out.2.2.2.1.1.alloc _) ⟨wr.heap.size, 0, none⟩ 1 1 [.int .i64 (F0 + 7 * c.p1 - 1)] rfl rfl ?c1k16 ?c2k16 ?c3k16 ?c4k16 ?c5k16 ?_))
          case c1k16 =>
            intro i u hu
            match i, hu with
            | 0, hu => simp at hu; subst hu; simp [Addr.add]
            | i + 1, hu => simp at hu
          case c2k16 => intro u hu; simp at hu; subst hu; rfl
          case c3k16 => unfold maxLen; omega
          case c4k16 => omega
          case c5k16 => simp; omega
          · intro v' w' hown' hgrow _
            rw [show F0 + 7 * c.p1 - 1 = F1 - 1 by have := HX.out; omega] at hown'
            have HG := hide (HS.out.grow (x := F1 - 1) _ (by rw [hul]; exact hown') hgrow)
            clear hown' hgrow
            go_wp2
            go_roundw
            case rel => exact ⟨k + 1, by go_num, by (rw [HF1.out]) <;> (congr 1) <;> (have := HX.out; omega), by omega, by rw [HSN.out]; exact HG.out⟩
            case measure => simp [intOf]; omega
      · have hrr : ((k : Int)).tmod 3 = 2 := by rw [Int.tmod_eq_emod_of_nonneg (by omega)]; omega
        have hPv : P = c.p2 := by rw [hpa]; simp [hr]
        rw [hPv] at hle hpb
        clear hpa hPv
        rcases (show ((k : Int) + 1 = c.extra ∧ wk = 53) ∨ ((k : Int) + 1 = c.extra ∧ wk = 52) ∨ ¬ (k : Int) + 1 = c.extra by omega) with ⟨hx, hw⟩ | ⟨hx, hw⟩ | hx
        · skip
          have hxb : ((k : Int) + 1 == c.extra) = true := by simp; omega
          have hwb : (wk == 53) = true := by simp [hw]
          have hGv : G = c.p2 + 1 := by rw [hle]; rw [if_pos hx, hw]; omega
          have HX := hide (show F0 + 7 * (c.p2 + 1) = F1 by rw [HWSE.out, hGv])
          clear hle hx hw hGv
          go_wp2_with ((at_builtin; refine wpList_append_own _ rfl _ _ 30 rfl w4.heap.size 3 i0 (.int .i64 0) 1 8 Try.underlying30 hi hi0 hi1 hi2 rfl (by decide) _ _ _ rfl (HS.out.2.2.2.1.1.alloc _) ⟨wr.heap.size, 0, none⟩ 1 1 [.int .i64 (F0 + 7 * (c.p2 + 1) - 1)] rfl rfl ?c1k17 ?c2k17 ?c3k17 ?c4k17 ?c5k17 ?_))
          case c1k17 =>
            intro i u hu
            match i, hu with
            | 0, hu => simp at hu; subst hu; simp [Addr.add]
            | i + 1, hu => simp at hu
          case c2k17 => intro u hu; simp at hu; subst hu; rfl
          case c3k17 => unfold maxLen; omega
          case c4k17 => omega
          case c5k17 => simp; omega
          · intro v' w' hown' hgrow _
            rw [show F0 + 7 * (c.p2 + 1) - 1 = F1 - 1 by have := HX.out; omega] at hown'
            have HG := hide (HS.out.grow (x := F1 - 1) _ (by rw [hul]; exact hown') hgrow)
            clear hown' hgrow
            go_wp2
            go_roundw
            case rel => exact ⟨k + 1, by go_num, by (rw [HF1.out]) <;> (congr 1) <;> (have := HX.out; omega), by omega, by rw [HSN.out]; exact HG.out⟩
            case measure => simp [intOf]; omega
        · skip
          have hxb : ((k : Int) + 1 == c.extra) = true := by simp; omega
          have hwb : (wk == 53) = false := by simp [hw]
          have hGv : G = c.p2 + 0 := by rw [hle]; rw [if_pos hx, hw]; omega
          have HX := hide (show F0 + 7 * (c.p2 + 0) = F1 by rw [HWSE.out, hGv])
          clear hle hx hw hGv
          go_wp2_with ((at_builtin; refine wpList_append_own _ rfl _ _ 30 rfl w4.heap.size 3 i0 (.int .i64 0) 1 8 Try.underlying30 hi hi0 hi1 hi2 rfl (by decide) _ _ _ rfl (HS.out.2.2.2.1.1.alloc _) ⟨wr.heap.size, 0, none⟩ 1 1 [.int .i64 (F0 + 7 * c.p2 - 1)] rfl rfl ?c1k18 ?c2k18 ?c3k18 ?c4k18 ?c5k18 ?_))
          case c1k18 =>
            intro i u hu
            match i, hu with
            | 0, hu => simp at hu; subst hu; simp [Addr.add]
            | i + 1, hu => simp at hu
          case c2k18 => intro u hu; simp at hu; subst hu; rfl
          case c3k18 => unfold maxLen; omega
          case c4k18 => omega
          case c5k18 => simp; omega
          · intro v' w' hown' hgrow _
            rw [show F0 + 7 * c.p2 - 1 = F1 - 1 by have := HX.out; omega] at hown'
            have HG := hide (HS.out.grow (x := F1 - 1) _ (by rw [hul]; exact hown') hgrow)
            clear hown' hgrow
            go_wp2
            go_roundw
            case rel => exact ⟨k + 1, by go_num, by (rw [HF1.out]) <;> (congr 1) <;> (have := HX.out; omega), by omega, by rw [HSN.out]; exact HG.out⟩
            case measure => simp [intOf]; omega
        · skip
          have hxb : ((k : Int) + 1 == c.extra) = false := by simp; omega
          have hGv : G = c.p2 + 0 := by rw [hle]; rw [if_neg hx]
          have HX := hide (show F0 + 7 * (c.p2 + 0) = F1 by rw [HWSE.out, hGv])
          clear hle hx hGv
          go_wp2_with ((at_builtin; refine wpList_append_own _ rfl _ _ 30 rfl w4.heap.size 3 i0 (.int .i64 0) 1 8 Try.underlying30 hi hi0 hi1 hi2 rfl (by decide) _ _ _ rfl (HS.out.2.2.2.1.1.alloc _) ⟨wr.heap.size, 0, none⟩ 1 1 [.int .i64 (F0 + 7 * c.p2 - 1)] rfl rfl ?c1k19 ?c2k19 ?c3k19 ?c4k19 ?c5k19 ?_))
          case c1k19 =>
            intro i u hu
            match i, hu with
            | 0, hu => simp at hu; subst hu; simp [Addr.add]
            | i + 1, hu => simp at hu
          case c2k19 => intro u hu; simp at hu; subst hu; rfl
          case c3k19 => unfold maxLen; omega
          case c4k19 => omega
          case c5k19 => simp; omega
          · intro v' w' hown' hgrow _
            rw [show F0 + 7 * c.p2 - 1 = F1 - 1 by have := HX.out; omega] at hown'
            have HG := hide (HS.out.grow (x := F1 - 1) _ (by rw [hul]; exact hown') hgrow)
            clear hown' hgrow
            go_wp2
            go_roundw
            case rel => exact ⟨k + 1, by go_num, by (rw [HF1.out]) <;> (congr 1) <;> (have := HX.out; omega), by omega, by rw [HSN.out]; exact HG.out⟩
            case measure => simp [intOf]; omega
    · obtain rfl : k = N := by omega
      have HI := hide (HS.out.ints (by rw [upto_length]; omega))
      have hBel := HS.out.2.2.2.2
      obtain ⟨U, hU⟩ : ∃ U, upto (fun i => F (i + 1) - 1) k = U := ⟨_, rfl⟩
      have HU := hide hU
      rw [hU] at HI
      obtain ⟨F0, hF0⟩ : ∃ X, F k = X := ⟨_, rfl⟩
      rw [hF0]
      clear hU hF0 hfb
      go_wp2
      all_goals first
        | (exfalso; omega)
        | (go_ret2; exact ⟨_, rfl, by rw [HL.out, HU.out]; exact HI.out, by (repeat' (first | (with_reducible exact Below.refl _ _) | (with_reducible assumption) | (with_reducible refine Below.alloc ?_ ?_ _) | (with_reducible refine below_drewN ?_ _) | (with_reducible refine Below.drew ?_) | (with_reducible refine Below.setCell ?_ ?_ _) | (with_reducible refine Below.trans ?_ (Below.mono (by assumption) ?_)) | go_size | (simp at *; omega)))⟩)

set_option maxRecDepth 100000 in
set_option maxHeartbeats 25600000 in
theorem r15ends_2 (c : Cal) (y : Int) (w : World) (hn : c.name.size ≤ 1000) (hE : askE c y 1601 = 0) (hsh : c.shape = 2) :
    Calls Try.prog 13 #[calV c, .int .i64 y] w (REndsPost c y w) := by
  obtain ⟨hok, hy1, hy2⟩ := ask_ok hE
  have hokB : c.okB = true := by simpa [Cal.okB] using hok
  have hk6 : c.kind ≠ 6 := fun h => by have := (ok_shape hok).2.1.1 h; omega
  have h4 : ¬ c.shape = 4 := by omega
  have h5 : ¬ c.shape = 5 := by omega
  have hwE : wksE c y = 0 := by simp [wksE, wksB, hokB, hk6, hE]
  have hwv := (wks_ok hwE).2.2.2.2.2.1
  have HE := hide hE
  have h4b : (c.shape == 4) = false := by simpa using h4
  have h5b : (c.shape == 5) = false := by simpa using h5
  have hpb := per_bounds c hokB
  obtain ⟨N, hN⟩ : ∃ N : Nat, (perV c) = (N : Int) := ⟨(perV c).toNat, by omega⟩
  have hL : endsL c y = upto (fun i => wkDay c y (i + 1) - 1) N := by rw [endsL, if_neg h4, if_neg h5, hN]; rfl
  have HW := hide (fun k => wkDay_bd hok h4 h5 hwv k)
  have HLB := hide (fun k => len_bd2 hok h4 h5 hwv k)
  have HPB := hide (fun k => pat_bd hok h4 h5 k)
  have HWS := hide (fun k => (show wkDay c y (k + 1) = wkDay c y k + 7 * lenAt c (wksV c y) k from rfl))
  have HLEN := hide (fun k => (show lenAt c (wksV c y) k = patN c k + if (k : Int) + 1 = c.extra then wksV c y - 52 else 0 from rfl))
  have HPAT := hide (fun k => (show patN c k = if k % 3 = 0 then pat0 c else if k % 3 = 1 then pat1 c else pat2 c from rfl))
  have hyb := year_bd c y hE
  have H0 := hide (show wkDay c y 0 = startV c y from rfl)
  obtain ⟨D, hD⟩ : ∃ D, startV c y = D := ⟨_, rfl⟩
  obtain ⟨wk, hwk⟩ : ∃ D, wksV c y = D := ⟨_, rfl⟩
  rw [hD] at HW hyb H0
  rw [hwk] at hwv HWS HLEN HLB
  rw [hN] at hpb
  have HD := hide hD
  have HWK := hide (And.intro hwk hwE)
  have HN := hide (And.intro hN (show okE c = 0 from okE_yes hok))
  have HL := hide hL
  have hDb : 0 ≤ D ∧ D ≤ 3068037 := ⟨hyb.1, hyb.2.1⟩
  have hNb : 12 ≤ N ∧ N ≤ 52 := by omega
  obtain ⟨F, hF⟩ : ∃ F : Nat → Int, wkDay c y = F := ⟨_, rfl⟩
  rw [hF] at HW HWS H0 HL
  obtain ⟨i0, hi, hi0, hi1, hi2⟩ := info_parts rint_info
  have hs1 : (c.shape == 1) = false := by simp [hsh]
  have hs3 : (c.shape == 3) = false := by simp [hsh]
  have HP0 := hide (And.intro (show pat0 c = 4 by simp [pat0, hsh]) (And.intro (show pat1 c = 4 by simp [pat1, hsh]) (show pat2 c = 4 by simp [pat2, hsh])))
  clear hsh
  clear hE hok hokB hk6 h4 h5 hwE hL hyb hD hwk hN hpb hF
  simp only [calV]
  go_enter Try.func13, Try.ntmps13
  go_wp2_with fail
  refine (r15told_any c y _ hn).mono ?_
  rintro e w1 ⟨rfl, hb1⟩
  rw [HE.out]
  have hz1 : w.heap.size < w1.heap.size := by have := hb1.size; simp at this; omega
  have HB1 := hide (show Below w.heap.size w w1 by refine Below.trans ?_ (hb1.mono (by first | omega | (simp; done) | (simp; omega))); (repeat' (first | (with_reducible exact Below.refl _ _) | (with_reducible assumption) | (with_reducible refine Below.alloc ?_ ?_ _) | (with_reducible refine below_drewN ?_ _) | (with_reducible refine Below.drew ?_) | (with_reducible refine Below.setCell ?_ ?_ _) | (with_reducible refine Below.trans ?_ (Below.mono (by assumption) ?_)) | go_size | (simp at *; omega))))
  have HQ1 := hide (calAt_below hb1 (by simp) (calAt_new w c))
  obtain ⟨q0, q1, q2, q3, q4, q5, q6, q7, q8, q9, q10, q11, q12, q13⟩ := HQ1.out
  clear hb1
  go_wp2_with fail
  refine (r11per_any c _ hn).mono ?_
  rintro e w2 ⟨rfl, hb2⟩
  rw [HN.out.1, HN.out.2]
  have hz2 : w.heap.size < w2.heap.size := by have := hb2.size; (try simp at this); omega
  have HB2 := hide (show Below w.heap.size w w2 by have hp := HB1.out; refine Below.trans ?_ (hb2.mono (by first | omega | (simp; done) | (simp; omega))); (repeat' (first | (with_reducible exact Below.refl _ _) | (with_reducible assumption) | (with_reducible refine Below.alloc ?_ ?_ _) | (with_reducible refine below_drewN ?_ _) | (with_reducible refine Below.drew ?_) | (with_reducible refine Below.setCell ?_ ?_ _) | (with_reducible refine Below.trans ?_ (Below.mono (by assumption) ?_)) | go_size | (simp at *; omega))))
  have HQ2 := hide (show CalAt w2 w.heap.size c from calAt_below hb2 (by first | omega | (simp; done) | (simp; omega)) (by first | exact HQ1.out | exact calAt_alloc HQ1.out (by omega) _ | exact calAt_alloc (calAt_alloc HQ1.out (by omega) _) (by simp; omega) _))
  clear q0 q1 q2 q3 q4 q5 q6 q7 q8 q9 q10 q11 q12 q13
  obtain ⟨q0, q1, q2, q3, q4, q5, q6, q7, q8, q9, q10, q11, q12, q13⟩ := HQ2.out
  clear hb2
  go_wp2_with fail
  refine (r13weeks_any c y _ hn).mono ?_
  rintro e w3 ⟨rfl, hb3⟩
  rw [HWK.out.1, HWK.out.2]
  have hz3 : w.heap.size < w3.heap.size := by have := hb3.size; (try simp at this); omega
  have HB3 := hide (show Below w.heap.size w w3 by have hp := HB2.out; refine Below.trans ?_ (hb3.mono (by first | omega | (simp; done) | (simp; omega))); (repeat' (first | (with_reducible exact Below.refl _ _) | (with_reducible assumption) | (with_reducible refine Below.alloc ?_ ?_ _) | (with_reducible refine below_drewN ?_ _) | (with_reducible refine Below.drew ?_) | (with_reducible refine Below.setCell ?_ ?_ _) | (with_reducible refine Below.trans ?_ (Below.mono (by assumption) ?_)) | go_size | (simp at *; omega))))
  have HQ3 := hide (show CalAt w3 w.heap.size c from calAt_below hb3 (by first | omega | (simp; done) | (simp; omega)) (by first | exact HQ2.out | exact calAt_alloc HQ2.out (by omega) _ | exact calAt_alloc (calAt_alloc HQ2.out (by omega) _) (by simp; omega) _))
  clear q0 q1 q2 q3 q4 q5 q6 q7 q8 q9 q10 q11 q12 q13
  obtain ⟨q0, q1, q2, q3, q4, q5, q6, q7, q8, q9, q10, q11, q12, q13⟩ := HQ3.out
  clear hb3
  go_wp2_with fail
  refine (r13start_any c y _ hn).mono ?_
  rintro e w4 ⟨rfl, hb4⟩
  rw [HE.out, HD.out]
  have hz4 : w.heap.size < w4.heap.size := by have := hb4.size; (try simp at this); omega
  have HB4 := hide (show Below w.heap.size w w4 by have hp := HB3.out; refine Below.trans ?_ (hb4.mono (by first | omega | (simp; done) | (simp; omega))); (repeat' (first | (with_reducible exact Below.refl _ _) | (with_reducible assumption) | (with_reducible refine Below.alloc ?_ ?_ _) | (with_reducible refine below_drewN ?_ _) | (with_reducible refine Below.drew ?_) | (with_reducible refine Below.setCell ?_ ?_ _) | (with_reducible refine Below.trans ?_ (Below.mono (by assumption) ?_)) | go_size | (simp at *; omega))))
  have HQ4 := hide (show CalAt w4 w.heap.size c from calAt_below hb4 (by first | omega | (simp; done) | (simp; omega)) (by first | exact HQ3.out | exact calAt_alloc HQ3.out (by omega) _ | exact calAt_alloc (calAt_alloc HQ3.out (by omega) _) (by simp; omega) _))
  clear q0 q1 q2 q3 q4 q5 q6 q7 q8 q9 q10 q11 q12 q13
  obtain ⟨q0, q1, q2, q3, q4, q5, q6, q7, q8, q9, q10, q11, q12, q13⟩ := HQ4.out
  clear hb4
  have HS1 := hide (show IlSt c w.heap.size w4.heap.size [] (.slice none 0 0) w w4 from ⟨HQ4.out, hz4, Nat.le_refl _, ⟨World.ownsRow_nil _ _ _ _, by simp⟩, HB4.out⟩)
  go_wp2_with fail
  go_loopw [7, 21, 23] (fun s7 s21 s23 wr => ∃ k : Nat, s23 = .int .i64 ((k : Int) + 1) ∧ s21 = .int .i64 (F k) ∧ k ≤ N ∧ IlSt c w.heap.size w4.heap.size (upto (fun i => F (i + 1) - 1) k) s7 w wr) (fun _ _ s _ => (60 - intOf s).toNat)
  case atStart => exact ⟨0, rfl, by rw [H0.out], by omega, HS1.out⟩
  case round =>
    obtain ⟨k, rfl, rfl, hk, hS⟩ := hrel
    have HS := hide hS
    have hBo := hS.2.2.1
    have hBz := hS.2.1
    clear hS
    clear q0 q1 q2 q3 q4 q5 q6 q7 q8 q9 q10 q11 q12 q13
    have hfb := HW.out k
    by_cases hlt : k < N
    · have hfb1 := HW.out (k + 1)
      have hws := HWS.out k
      have hle := HLEN.out k
      have hpa := HPAT.out k
      have hpb := HPB.out k
      have HSN := hide (upto_succ (fun i => F (i + 1) - 1) k)
      have hul : (upto (fun i => F (i + 1) - 1) k).length = k := upto_length _ _
      obtain ⟨F1, hF1⟩ : ∃ X, F (k + 1) = X := ⟨_, rfl⟩
      rw [hF1] at hfb1 hws
      have HF1 := hide hF1
      obtain ⟨F0, hF0⟩ : ∃ X, F k = X := ⟨_, rfl⟩
      rw [hF0] at hfb hws
      rw [hF0]
      obtain ⟨U, hU⟩ : ∃ U, upto (fun i => F (i + 1) - 1) k = U := ⟨_, rfl⟩
      rw [hU] at HS HSN hul
      rw [hF1] at HSN
      obtain ⟨P, hP⟩ : ∃ X, patN c k = X := ⟨_, rfl⟩
      rw [hP] at hle hpa hpb
      obtain ⟨G, hG⟩ : ∃ X, lenAt c wk k = X := ⟨_, rfl⟩
      rw [hG] at hle hws
      have HWSE := hide hws
      clear hF1 hF0 hU hP hG hws
      obtain ⟨q0, q1, q2, q3, q4, q5, q6, q7, q8, q9, q10, q11, q12, q13⟩ := HS.out.1
      rw [HP0.out.1, HP0.out.2.1, HP0.out.2.2] at hpa
      · skip
        have hPv : P = 4 := by rw [hpa]; simp
        subst hPv
        clear hpa
        rcases (show ((k : Int) + 1 = c.extra ∧ wk = 53) ∨ ((k : Int) + 1 = c.extra ∧ wk = 52) ∨ ¬ (k : Int) + 1 = c.extra by omega) with ⟨hx, hw⟩ | ⟨hx, hw⟩ | hx
        · skip
          have hxb : ((k : Int) + 1 == c.extra) = true := by simp; omega
          have hwb : (wk == 53) = true := by simp [hw]
          have hGv : G = 4 + 1 := by rw [hle]; rw [if_pos hx, hw]; omega
          have HX := hide (show F0 + 7 * (4 + 1) = F1 by rw [HWSE.out, hGv])
          clear hle hx hw hGv
          go_wp2_with ((at_builtin; refine wpList_append_own _ rfl _ _ 30 rfl w4.heap.size 3 i0 (.int .i64 0) 1 8 Try.underlying30 hi hi0 hi1 hi2 rfl (by decide) _ _ _ rfl (HS.out.2.2.2.1.1.alloc _) ⟨wr.heap.size, 0, none⟩ 1 1 [.int .i64 (F0 + 35 - 1)] rfl rfl ?c1k21 ?c2k21 ?c3k21 ?c4k21 ?c5k21 ?_))
          case c1k21 =>
            intro i u hu
            match i, hu with
            | 0, hu => simp at hu; subst hu; simp [Addr.add]
            | i + 1, hu => simp at hu
          case c2k21 => intro u hu; simp at hu; subst hu; rfl
          case c3k21 => unfold maxLen; omega
          case c4k21 => omega
          case c5k21 => simp; omega
          · intro v' w' hown' hgrow _
            rw [show F0 + 35 - 1 = F1 - 1 by have := HX.out; omega] at hown'
            have HG := hide (HS.out.grow (x := F1 - 1) _ (by rw [hul]; exact hown') hgrow)
            clear hown' hgrow
            go_wp2
            go_roundw
            case rel => exact ⟨k + 1, by go_num, by (rw [HF1.out]) <;> (congr 1) <;> (have := HX.out; omega), by omega, by rw [HSN.out]; exact HG.out⟩
            case measure => simp [intOf]; omega
        · skip
          have hxb : ((k : Int) + 1 == c.extra) = true := by simp; omega
          have hwb : (wk == 53) = false := by simp [hw]
          have hGv : G = 4 + 0 := by rw [hle]; rw [if_pos hx, hw]; omega
          have HX := hide (show F0 + 7 * (4 + 0) = F1 by rw [HWSE.out, hGv])
          clear hle hx hw hGv
          go_wp2_with ((at_builtin; refine wpList_append_own _ rfl _ _ 30 rfl w4.heap.size 3 i0 (.int .i64 0) 1 8 Try.underlying30 hi hi0 hi1 hi2 rfl (by decide) _ _ _ rfl (HS.out.2.2.2.1.1.alloc _) ⟨wr.heap.size, 0, none⟩ 1 1 [.int .i64 (F0 + 28 - 1)] rfl rfl ?c1k22 ?c2k22 ?c3k22 ?c4k22 ?c5k22 ?_))
          case c1k22 =>
            intro i u hu
            match i, hu with
            | 0, hu => simp at hu; subst hu; simp [Addr.add]
            | i + 1, hu => simp at hu
          case c2k22 => intro u hu; simp at hu; subst hu; rfl
          case c3k22 => unfold maxLen; omega
          case c4k22 => omega
          case c5k22 => simp; omega
          · intro v' w' hown' hgrow _
            rw [show F0 + 28 - 1 = F1 - 1 by have := HX.out; omega] at hown'
            have HG := hide (HS.out.grow (x := F1 - 1) _ (by rw [hul]; exact hown') hgrow)
            clear hown' hgrow
            go_wp2
            go_roundw
            case rel => exact ⟨k + 1, by go_num, by (rw [HF1.out]) <;> (congr 1) <;> (have := HX.out; omega), by omega, by rw [HSN.out]; exact HG.out⟩
            case measure => simp [intOf]; omega
        · skip
          have hxb : ((k : Int) + 1 == c.extra) = false := by simp; omega
          have hGv : G = 4 + 0 := by rw [hle]; rw [if_neg hx]
          have HX := hide (show F0 + 7 * (4 + 0) = F1 by rw [HWSE.out, hGv])
          clear hle hx hGv
          go_wp2_with ((at_builtin; refine wpList_append_own _ rfl _ _ 30 rfl w4.heap.size 3 i0 (.int .i64 0) 1 8 Try.underlying30 hi hi0 hi1 hi2 rfl (by decide) _ _ _ rfl (HS.out.2.2.2.1.1.alloc _) ⟨wr.heap.size, 0, none⟩ 1 1 [.int .i64 (F0 + 28 - 1)] rfl rfl ?c1k23 ?c2k23 ?c3k23 ?c4k23 ?c5k23 ?_))
          case c1k23 =>
            intro i u hu
            match i, hu with
            | 0, hu => simp at hu; subst hu; simp [Addr.add]
            | i + 1, hu => simp at hu
          case c2k23 => intro u hu; simp at hu; subst hu; rfl
          case c3k23 => unfold maxLen; omega
          case c4k23 => omega
          case c5k23 => simp; omega
          · intro v' w' hown' hgrow _
            rw [show F0 + 28 - 1 = F1 - 1 by have := HX.out; omega] at hown'
            have HG := hide (HS.out.grow (x := F1 - 1) _ (by rw [hul]; exact hown') hgrow)
            clear hown' hgrow
            go_wp2
            go_roundw
            case rel => exact ⟨k + 1, by go_num, by (rw [HF1.out]) <;> (congr 1) <;> (have := HX.out; omega), by omega, by rw [HSN.out]; exact HG.out⟩
            case measure => simp [intOf]; omega
    · obtain rfl : k = N := by omega
      have HI := hide (HS.out.ints (by rw [upto_length]; omega))
      have hBel := HS.out.2.2.2.2
      obtain ⟨U, hU⟩ : ∃ U, upto (fun i => F (i + 1) - 1) k = U := ⟨_, rfl⟩
      have HU := hide hU
      rw [hU] at HI
      obtain ⟨F0, hF0⟩ : ∃ X, F k = X := ⟨_, rfl⟩
      rw [hF0]
      clear hU hF0 hfb
      go_wp2
      all_goals first
        | (exfalso; omega)
        | (go_ret2; exact ⟨_, rfl, by rw [HL.out, HU.out]; exact HI.out, by (repeat' (first | (with_reducible exact Below.refl _ _) | (with_reducible assumption) | (with_reducible refine Below.alloc ?_ ?_ _) | (with_reducible refine below_drewN ?_ _) | (with_reducible refine Below.drew ?_) | (with_reducible refine Below.setCell ?_ ?_ _) | (with_reducible refine Below.trans ?_ (Below.mono (by assumption) ?_)) | go_size | (simp at *; omega)))⟩)

set_option maxRecDepth 100000 in
set_option maxHeartbeats 25600000 in
theorem r15ends_3 (c : Cal) (y : Int) (w : World) (hn : c.name.size ≤ 1000) (hE : askE c y 1601 = 0) (hsh : c.shape = 3) :
    Calls Try.prog 13 #[calV c, .int .i64 y] w (REndsPost c y w) := by
  obtain ⟨hok, hy1, hy2⟩ := ask_ok hE
  have hokB : c.okB = true := by simpa [Cal.okB] using hok
  have hk6 : c.kind ≠ 6 := fun h => by have := (ok_shape hok).2.1.1 h; omega
  have h4 : ¬ c.shape = 4 := by omega
  have h5 : ¬ c.shape = 5 := by omega
  have hwE : wksE c y = 0 := by simp [wksE, wksB, hokB, hk6, hE]
  have hwv := (wks_ok hwE).2.2.2.2.2.1
  have HE := hide hE
  have h4b : (c.shape == 4) = false := by simpa using h4
  have h5b : (c.shape == 5) = false := by simpa using h5
  have hpb := per_bounds c hokB
  obtain ⟨N, hN⟩ : ∃ N : Nat, (perV c) = (N : Int) := ⟨(perV c).toNat, by omega⟩
  have hL : endsL c y = upto (fun i => wkDay c y (i + 1) - 1) N := by rw [endsL, if_neg h4, if_neg h5, hN]; rfl
  have HW := hide (fun k => wkDay_bd hok h4 h5 hwv k)
  have HLB := hide (fun k => len_bd2 hok h4 h5 hwv k)
  have HPB := hide (fun k => pat_bd hok h4 h5 k)
  have HWS := hide (fun k => (show wkDay c y (k + 1) = wkDay c y k + 7 * lenAt c (wksV c y) k from rfl))
  have HLEN := hide (fun k => (show lenAt c (wksV c y) k = patN c k + if (k : Int) + 1 = c.extra then wksV c y - 52 else 0 from rfl))
  have HPAT := hide (fun k => (show patN c k = if k % 3 = 0 then pat0 c else if k % 3 = 1 then pat1 c else pat2 c from rfl))
  have hyb := year_bd c y hE
  have H0 := hide (show wkDay c y 0 = startV c y from rfl)
  obtain ⟨D, hD⟩ : ∃ D, startV c y = D := ⟨_, rfl⟩
  obtain ⟨wk, hwk⟩ : ∃ D, wksV c y = D := ⟨_, rfl⟩
  rw [hD] at HW hyb H0
  rw [hwk] at hwv HWS HLEN HLB
  rw [hN] at hpb
  have HD := hide hD
  have HWK := hide (And.intro hwk hwE)
  have HN := hide (And.intro hN (show okE c = 0 from okE_yes hok))
  have HL := hide hL
  have hDb : 0 ≤ D ∧ D ≤ 3068037 := ⟨hyb.1, hyb.2.1⟩
  have hNb : 12 ≤ N ∧ N ≤ 52 := by omega
  obtain ⟨F, hF⟩ : ∃ F : Nat → Int, wkDay c y = F := ⟨_, rfl⟩
  rw [hF] at HW HWS H0 HL
  obtain ⟨i0, hi, hi0, hi1, hi2⟩ := info_parts rint_info
  have hs1 : (c.shape == 1) = false := by simp [hsh]
  have hs3 : (c.shape == 3) = true := by simp [hsh]
  have HP0 := hide (And.intro (show pat0 c = c.cycle by simp [pat0, hsh]) (And.intro (show pat1 c = c.cycle by simp [pat1, hsh]) (show pat2 c = c.cycle by simp [pat2, hsh])))
  clear hsh
  clear hE hok hokB hk6 h4 h5 hwE hL hyb hD hwk hN hpb hF
  simp only [calV]
  go_enter Try.func13, Try.ntmps13
  go_wp2_with fail
  refine (r15told_any c y _ hn).mono ?_
  rintro e w1 ⟨rfl, hb1⟩
  rw [HE.out]
  have hz1 : w.heap.size < w1.heap.size := by have := hb1.size; simp at this; omega
  have HB1 := hide (show Below w.heap.size w w1 by refine Below.trans ?_ (hb1.mono (by first | omega | (simp; done) | (simp; omega))); (repeat' (first | (with_reducible exact Below.refl _ _) | (with_reducible assumption) | (with_reducible refine Below.alloc ?_ ?_ _) | (with_reducible refine below_drewN ?_ _) | (with_reducible refine Below.drew ?_) | (with_reducible refine Below.setCell ?_ ?_ _) | (with_reducible refine Below.trans ?_ (Below.mono (by assumption) ?_)) | go_size | (simp at *; omega))))
  have HQ1 := hide (calAt_below hb1 (by simp) (calAt_new w c))
  obtain ⟨q0, q1, q2, q3, q4, q5, q6, q7, q8, q9, q10, q11, q12, q13⟩ := HQ1.out
  clear hb1
  go_wp2_with fail
  refine (r11per_any c _ hn).mono ?_
  rintro e w2 ⟨rfl, hb2⟩
  rw [HN.out.1, HN.out.2]
  have hz2 : w.heap.size < w2.heap.size := by have := hb2.size; (try simp at this); omega
  have HB2 := hide (show Below w.heap.size w w2 by have hp := HB1.out; refine Below.trans ?_ (hb2.mono (by first | omega | (simp; done) | (simp; omega))); (repeat' (first | (with_reducible exact Below.refl _ _) | (with_reducible assumption) | (with_reducible refine Below.alloc ?_ ?_ _) | (with_reducible refine below_drewN ?_ _) | (with_reducible refine Below.drew ?_) | (with_reducible refine Below.setCell ?_ ?_ _) | (with_reducible refine Below.trans ?_ (Below.mono (by assumption) ?_)) | go_size | (simp at *; omega))))
  have HQ2 := hide (show CalAt w2 w.heap.size c from calAt_below hb2 (by first | omega | (simp; done) | (simp; omega)) (by first | exact HQ1.out | exact calAt_alloc HQ1.out (by omega) _ | exact calAt_alloc (calAt_alloc HQ1.out (by omega) _) (by simp; omega) _))
  clear q0 q1 q2 q3 q4 q5 q6 q7 q8 q9 q10 q11 q12 q13
  obtain ⟨q0, q1, q2, q3, q4, q5, q6, q7, q8, q9, q10, q11, q12, q13⟩ := HQ2.out
  clear hb2
  go_wp2_with fail
  refine (r13weeks_any c y _ hn).mono ?_
  rintro e w3 ⟨rfl, hb3⟩
  rw [HWK.out.1, HWK.out.2]
  have hz3 : w.heap.size < w3.heap.size := by have := hb3.size; (try simp at this); omega
  have HB3 := hide (show Below w.heap.size w w3 by have hp := HB2.out; refine Below.trans ?_ (hb3.mono (by first | omega | (simp; done) | (simp; omega))); (repeat' (first | (with_reducible exact Below.refl _ _) | (with_reducible assumption) | (with_reducible refine Below.alloc ?_ ?_ _) | (with_reducible refine below_drewN ?_ _) | (with_reducible refine Below.drew ?_) | (with_reducible refine Below.setCell ?_ ?_ _) | (with_reducible refine Below.trans ?_ (Below.mono (by assumption) ?_)) | go_size | (simp at *; omega))))
  have HQ3 := hide (show CalAt w3 w.heap.size c from calAt_below hb3 (by first | omega | (simp; done) | (simp; omega)) (by first | exact HQ2.out | exact calAt_alloc HQ2.out (by omega) _ | exact calAt_alloc (calAt_alloc HQ2.out (by omega) _) (by simp; omega) _))
  clear q0 q1 q2 q3 q4 q5 q6 q7 q8 q9 q10 q11 q12 q13
  obtain ⟨q0, q1, q2, q3, q4, q5, q6, q7, q8, q9, q10, q11, q12, q13⟩ := HQ3.out
  clear hb3
  go_wp2_with fail
  refine (r13start_any c y _ hn).mono ?_
  rintro e w4 ⟨rfl, hb4⟩
  rw [HE.out, HD.out]
  have hz4 : w.heap.size < w4.heap.size := by have := hb4.size; (try simp at this); omega
  have HB4 := hide (show Below w.heap.size w w4 by have hp := HB3.out; refine Below.trans ?_ (hb4.mono (by first | omega | (simp; done) | (simp; omega))); (repeat' (first | (with_reducible exact Below.refl _ _) | (with_reducible assumption) | (with_reducible refine Below.alloc ?_ ?_ _) | (with_reducible refine below_drewN ?_ _) | (with_reducible refine Below.drew ?_) | (with_reducible refine Below.setCell ?_ ?_ _) | (with_reducible refine Below.trans ?_ (Below.mono (by assumption) ?_)) | go_size | (simp at *; omega))))
  have HQ4 := hide (show CalAt w4 w.heap.size c from calAt_below hb4 (by first | omega | (simp; done) | (simp; omega)) (by first | exact HQ3.out | exact calAt_alloc HQ3.out (by omega) _ | exact calAt_alloc (calAt_alloc HQ3.out (by omega) _) (by simp; omega) _))
  clear q0 q1 q2 q3 q4 q5 q6 q7 q8 q9 q10 q11 q12 q13
  obtain ⟨q0, q1, q2, q3, q4, q5, q6, q7, q8, q9, q10, q11, q12, q13⟩ := HQ4.out
  clear hb4
  have HS1 := hide (show IlSt c w.heap.size w4.heap.size [] (.slice none 0 0) w w4 from ⟨HQ4.out, hz4, Nat.le_refl _, ⟨World.ownsRow_nil _ _ _ _, by simp⟩, HB4.out⟩)
  go_wp2_with fail
  go_loopw [7, 21, 23] (fun s7 s21 s23 wr => ∃ k : Nat, s23 = .int .i64 ((k : Int) + 1) ∧ s21 = .int .i64 (F k) ∧ k ≤ N ∧ IlSt c w.heap.size w4.heap.size (upto (fun i => F (i + 1) - 1) k) s7 w wr) (fun _ _ s _ => (60 - intOf s).toNat)
  case atStart => exact ⟨0, rfl, by rw [H0.out], by omega, HS1.out⟩
  case round =>
    obtain ⟨k, rfl, rfl, hk, hS⟩ := hrel
    have HS := hide hS
    have hBo := hS.2.2.1
    have hBz := hS.2.1
    clear hS
    clear q0 q1 q2 q3 q4 q5 q6 q7 q8 q9 q10 q11 q12 q13
    have hfb := HW.out k
    by_cases hlt : k < N
    · have hfb1 := HW.out (k + 1)
      have hws := HWS.out k
      have hle := HLEN.out k
      have hpa := HPAT.out k
      have hpb := HPB.out k
      have HSN := hide (upto_succ (fun i => F (i + 1) - 1) k)
      have hul : (upto (fun i => F (i + 1) - 1) k).length = k := upto_length _ _
      obtain ⟨F1, hF1⟩ : ∃ X, F (k + 1) = X := ⟨_, rfl⟩
      rw [hF1] at hfb1 hws
      have HF1 := hide hF1
      obtain ⟨F0, hF0⟩ : ∃ X, F k = X := ⟨_, rfl⟩
      rw [hF0] at hfb hws
      rw [hF0]
      obtain ⟨U, hU⟩ : ∃ U, upto (fun i => F (i + 1) - 1) k = U := ⟨_, rfl⟩
      rw [hU] at HS HSN hul
      rw [hF1] at HSN
      obtain ⟨P, hP⟩ : ∃ X, patN c k = X := ⟨_, rfl⟩
      rw [hP] at hle hpa hpb
      obtain ⟨G, hG⟩ : ∃ X, lenAt c wk k = X := ⟨_, rfl⟩
      rw [hG] at hle hws
      have HWSE := hide hws
      clear hF1 hF0 hU hP hG hws
      obtain ⟨q0, q1, q2, q3, q4, q5, q6, q7, q8, q9, q10, q11, q12, q13⟩ := HS.out.1
      rw [HP0.out.1, HP0.out.2.1, HP0.out.2.2] at hpa
      · skip
        have hPv : P = c.cycle := by rw [hpa]; simp
        rw [hPv] at hle hpb
        clear hpa hPv
        rcases (show ((k : Int) + 1 = c.extra ∧ wk = 53) ∨ ((k : Int) + 1 = c.extra ∧ wk = 52) ∨ ¬ (k : Int) + 1 = c.extra by omega) with ⟨hx, hw⟩ | ⟨hx, hw⟩ | hx
        · skip
          have hxb : ((k : Int) + 1 == c.extra) = true := by simp; omega
          have hwb : (wk == 53) = true := by simp [hw]
          have hGv : G = c.cycle + 1 := by rw [hle]; rw [if_pos hx, hw]; omega
          have HX := hide (show F0 + 7 * (c.cycle + 1) = F1 by rw [HWSE.out, hGv])
          clear hle hx hw hGv
          go_wp2_with ((at_builtin; refine wpList_append_own _ rfl _ _ 30 rfl w4.heap.size 3 i0 (.int .i64 0) 1 8 Try.underlying30 hi hi0 hi1 hi2 rfl (by decide) _ _ _ rfl (HS.out.2.2.2.1.1.alloc _) ⟨wr.heap.size, 0, none⟩ 1 1 [.int .i64 (F0 + 7 * (c.cycle + 1) - 1)] rfl rfl ?c1k31 ?c2k31 ?c3k31 ?c4k31 ?c5k31 ?_))
          case c1k31 =>
            intro i u hu
            match i, hu with
            | 0, hu => simp at hu; subst hu; simp [Addr.add]
            | i + 1, hu => simp at hu
          case c2k31 => intro u hu; simp at hu; subst hu; rfl
          case c3k31 => unfold maxLen; omega
          case c4k31 => omega
          case c5k31 => simp; omega
          · intro v' w' hown' hgrow _
            rw [show F0 + 7 * (c.cycle + 1) - 1 = F1 - 1 by have := HX.out; omega] at hown'
            have HG := hide (HS.out.grow (x := F1 - 1) _ (by rw [hul]; exact hown') hgrow)
            clear hown' hgrow
            go_wp2
            go_roundw
            case rel => exact ⟨k + 1, by go_num, by (rw [HF1.out]) <;> (congr 1) <;> (have := HX.out; omega), by omega, by rw [HSN.out]; exact HG.out⟩
            case measure => simp [intOf]; omega
        · skip
          have hxb : ((k : Int) + 1 == c.extra) = true := by simp; omega
          have hwb : (wk == 53) = false := by simp [hw]
          have hGv : G = c.cycle + 0 := by rw [hle]; rw [if_pos hx, hw]; omega
          have HX := hide (show F0 + 7 * (c.cycle + 0) = F1 by rw [HWSE.out, hGv])
          clear hle hx hw hGv
          go_wp2_with ((at_builtin; refine wpList_append_own _ rfl _ _ 30 rfl w4.heap.size 3 i0 (.int .i64 0) 1 8 Try.underlying30 hi hi0 hi1 hi2 rfl (by decide) _ _ _ rfl (HS.out.2.2.2.1.1.alloc _) ⟨wr.heap.size, 0, none⟩ 1 1 [.int .i64 (F0 + 7 * c.cycle - 1)] rfl rfl ?c1k32 ?c2k32 ?c3k32 ?c4k32 ?c5k32 ?_))
          case c1k32 =>
            intro i u hu
            match i, hu with
            | 0, hu => simp at hu; subst hu; simp [Addr.add]
            | i + 1, hu => simp at hu
          case c2k32 => intro u hu; simp at hu; subst hu; rfl
          case c3k32 => unfold maxLen; omega
          case c4k32 => omega
          case c5k32 => simp; omega
          · intro v' w' hown' hgrow _
            rw [show F0 + 7 * c.cycle - 1 = F1 - 1 by have := HX.out; omega] at hown'
            have HG := hide (HS.out.grow (x := F1 - 1) _ (by rw [hul]; exact hown') hgrow)
            clear hown' hgrow
            go_wp2
            go_roundw
            case rel => exact ⟨k + 1, by go_num, by (rw [HF1.out]) <;> (congr 1) <;> (have := HX.out; omega), by omega, by rw [HSN.out]; exact HG.out⟩
            case measure => simp [intOf]; omega
        · skip
          have hxb : ((k : Int) + 1 == c.extra) = false := by simp; omega
          have hGv : G = c.cycle + 0 := by rw [hle]; rw [if_neg hx]
          have HX := hide (show F0 + 7 * (c.cycle + 0) = F1 by rw [HWSE.out, hGv])
          clear hle hx hGv
          go_wp2_with ((at_builtin; refine wpList_append_own _ rfl _ _ 30 rfl w4.heap.size 3 i0 (.int .i64 0) 1 8 Try.underlying30 hi hi0 hi1 hi2 rfl (by decide) _ _ _ rfl (HS.out.2.2.2.1.1.alloc _) ⟨wr.heap.size, 0, none⟩ 1 1 [.int .i64 (F0 + 7 * c.cycle - 1)] rfl rfl ?c1k33 ?c2k33 ?c3k33 ?c4k33 ?c5k33 ?_))
          case c1k33 =>
            intro i u hu
            match i, hu with
            | 0, hu => simp at hu; subst hu; simp [Addr.add]
            | i + 1, hu => simp at hu
          case c2k33 => intro u hu; simp at hu; subst hu; rfl
          case c3k33 => unfold maxLen; omega
          case c4k33 => omega
          case c5k33 => simp; omega
          · intro v' w' hown' hgrow _
            rw [show F0 + 7 * c.cycle - 1 = F1 - 1 by have := HX.out; omega] at hown'
            have HG := hide (HS.out.grow (x := F1 - 1) _ (by rw [hul]; exact hown') hgrow)
            clear hown' hgrow
            go_wp2
            go_roundw
            case rel => exact ⟨k + 1, by go_num, by (rw [HF1.out]) <;> (congr 1) <;> (have := HX.out; omega), by omega, by rw [HSN.out]; exact HG.out⟩
            case measure => simp [intOf]; omega
    · obtain rfl : k = N := by omega
      have HI := hide (HS.out.ints (by rw [upto_length]; omega))
      have hBel := HS.out.2.2.2.2
      obtain ⟨U, hU⟩ : ∃ U, upto (fun i => F (i + 1) - 1) k = U := ⟨_, rfl⟩
      have HU := hide hU
      rw [hU] at HI
      obtain ⟨F0, hF0⟩ : ∃ X, F k = X := ⟨_, rfl⟩
      rw [hF0]
      clear hU hF0 hfb
      go_wp2
      all_goals first
        | (exfalso; omega)
        | (go_ret2; exact ⟨_, rfl, by rw [HL.out, HU.out]; exact HI.out, by (repeat' (first | (with_reducible exact Below.refl _ _) | (with_reducible assumption) | (with_reducible refine Below.alloc ?_ ?_ _) | (with_reducible refine below_drewN ?_ _) | (with_reducible refine Below.drew ?_) | (with_reducible refine Below.setCell ?_ ?_ _) | (with_reducible refine Below.trans ?_ (Below.mono (by assumption) ?_)) | go_size | (simp at *; omega)))⟩)

theorem r15ends_any (c : Cal) (y : Int) (w : World) (hn : c.name.size ≤ 1000) (hE : askE c y 1601 = 0) :
    Calls Try.prog 13 #[calV c, .int .i64 y] w (REndsPost c y w) := by
  have hs := (ok_shape (ask_ok hE).1).2.2
  by_cases h4 : c.shape = 4
  · exact r15ends_broad c y w hn hE h4
  by_cases h5 : c.shape = 5
  · exact r15ends_month c y w hn hE h5
  by_cases h1 : c.shape = 1
  · exact r15ends_1 c y w hn hE h1
  by_cases h2 : c.shape = 2
  · exact r15ends_2 c y w hn hE h2
  · exact r15ends_3 c y w hn hE (by omega)
end Go.Proofs.Ytojdngkleiokgaa
