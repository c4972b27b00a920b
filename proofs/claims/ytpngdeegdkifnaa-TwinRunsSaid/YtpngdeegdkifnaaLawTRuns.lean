/- The walk of TwinRuns. -/
import Derived.Test.YtpngdeegdkifnaaTwinC
import Derived.Test.YtpngdeegdkifnaaTwinB
namespace Go.Proofs.Ytpngdeegdkifnaa
open Go.RowKit Go.Shelf Qd
set_option linter.unusedSimpArgs false
set_option linter.unusedVariables false

def sumT (S : List Sp) (j : Nat) : Int := sumR (S.take j)
def lastT (d : Int) (S : List Sp) (j : Nat) : Int := lastS d (S.take j)
theorem sumT_zero (S : List Sp) : sumT S 0 = 0 := by simp [sumT, sumR]
theorem lastT_zero (d : Int) (S : List Sp) : lastT d S 0 = d := by simp [lastT, lastS]
theorem sumT_succ {S : List Sp} {j : Nat} {s : Sp} (h : S[j]? = some s) : sumT S (j + 1) = sumT S j + (s.b - s.a + 1) := by rw [sumT, List.take_add_one, h, Option.toList_some, sumR_snoc]; rfl
theorem lastT_succ (d : Int) {S : List Sp} {j : Nat} {s : Sp} (h : S[j]? = some s) : lastT d S (j + 1) = s.b := by rw [lastT, List.take_add_one, h, Option.toList_some, lastS_snoc]
theorem sumT_all (S : List Sp) (j : Nat) (h : S.length ≤ j) : sumT S j = sumR S := by rw [sumT, List.take_of_length_le h]
def TrSt (c : Cal) (L : List Un) (R : List Sp) (g cap g2 cap2 B : Nat) (w0 w : World) : Prop := CalAt w B c ∧ B < w.heap.size ∧ UnsAt w g cap L ∧ g < w.heap.size ∧ SpsAt w g2 cap2 R ∧ g2 < w.heap.size ∧ Below B w0 w
theorem TrSt.call {c : Cal} {L : List Un} {R : List Sp} {g cap g2 cap2 B : Nat} {w0 w w' : World} (h : TrSt c L R g cap g2 cap2 B w0 w) (hb : Below w.heap.size w w') : TrSt c L R g cap g2 cap2 B w0 w' := ⟨calAt_below hb h.2.1 h.1, Nat.lt_of_lt_of_le h.2.1 hb.size, h.2.2.1.call hb, Nat.lt_of_lt_of_le h.2.2.2.1 hb.size, h.2.2.2.2.1.call hb, Nat.lt_of_lt_of_le h.2.2.2.2.2.1 hb.size, h.2.2.2.2.2.2.trans (hb.mono (Nat.le_of_lt h.2.1))⟩
theorem TrSt.alloc {c : Cal} {L : List Un} {R : List Sp} {g cap g2 cap2 B : Nat} {w0 w : World} (h : TrSt c L R g cap g2 cap2 B w0 w) (o : Obj) : TrSt c L R g cap g2 cap2 B w0 (w.alloc o) := h.call ((Below.refl _ _).alloc (Nat.le_refl _) _)

set_option maxRecDepth 100000 in
set_option maxHeartbeats 1600000 in
theorem tr_long (c : Cal) (u : Un) (k : Int) (w : World) (hn : 100 < c.name.size) (hm : c.name.size ≤ 9223372036854775807) :
    Calls Try.prog 8 #[calV c, unitV u, .int .i64 k] w fun e w' => e = .returned (.bool true) ∧ Below w.heap.size w w' := by
  simp only [calV, unitV]
  go_enter Try.func8, Try.ntmps8
  go_wp2_with fail
  refine (live20_any _).mono ?_
  rintro e w1 ⟨rfl, hb1⟩
  have hz1 : w.heap.size + 1 < w1.heap.size := by have := hb1.size; simp at this; omega
  have HB1 := hide (show Below w.heap.size w w1 by refine Below.trans ?_ (hb1.mono (by first | omega | (simp; done) | (simp; omega))); (repeat' (first | (with_reducible exact Below.refl _ _) | (with_reducible assumption) | (with_reducible refine Below.alloc ?_ ?_ _) | (with_reducible refine below_drewN ?_ _) | (with_reducible refine Below.drew ?_) | (with_reducible refine Below.setCell ?_ ?_ _) | (with_reducible refine Below.trans ?_ (Below.mono (by assumption) ?_)) | go_size | (simp at *; omega))))
  have HQ1 := hide (calAt_below hb1 (by simp; omega) (calAt_alloc (calAt_new w c) (by simp) _))
  have HU1 := hide (unAt_below hb1 (by simp) (unAt_new w c u))
  obtain ⟨q0, q1, q2, q3, q4, q5, q6, q7, q8, q9, q10, q11, q12, q13⟩ := HQ1.out
  obtain ⟨u0, u1, u2⟩ := HU1.out
  have hy1 : w.heap.size < w1.heap.size := by omega
  clear hb1
  go_wp2
  all_goals first
    | (exfalso; omega)
    | (go_ret; exact ⟨rfl, HB1.out⟩)


set_option maxRecDepth 100000 in
set_option maxHeartbeats 3200000 in
theorem tr_no (c : Cal) (u : Un) (k : Int) (w : World) (hn : c.name.size ≤ 100) (hE : ¬ twE c u k = 0) :
    Calls Try.prog 8 #[calV c, unitV u, .int .i64 k] w fun e w' => e = .returned (.bool true) ∧ Below w.heap.size w w' := by
  have HL := hide (tw_no hE)
  have HN := hide hE
  obtain ⟨E, hEE⟩ : ∃ E, twE c u k = E := ⟨_, rfl⟩
  have HEE := hide hEE
  rw [hEE] at hE
  have hEb : (E != 0) = true := by simpa using hE
  clear hE hEE
  simp only [calV, unitV]
  go_enter Try.func8, Try.ntmps8
  go_wp2_with fail
  refine (live20_any _).mono ?_
  rintro e w1 ⟨rfl, hb1⟩
  have hz1 : w.heap.size + 1 < w1.heap.size := by have := hb1.size; simp at this; omega
  have HB1 := hide (show Below w.heap.size w w1 by refine Below.trans ?_ (hb1.mono (by first | omega | (simp; done) | (simp; omega))); (repeat' (first | (with_reducible exact Below.refl _ _) | (with_reducible assumption) | (with_reducible refine Below.alloc ?_ ?_ _) | (with_reducible refine below_drewN ?_ _) | (with_reducible refine Below.drew ?_) | (with_reducible refine Below.setCell ?_ ?_ _) | (with_reducible refine Below.trans ?_ (Below.mono (by assumption) ?_)) | go_size | (simp at *; omega))))
  have HQ1 := hide (calAt_below hb1 (by simp; omega) (calAt_alloc (calAt_new w c) (by simp) _))
  have HU1 := hide (unAt_below hb1 (by simp) (unAt_new w c u))
  obtain ⟨q0, q1, q2, q3, q4, q5, q6, q7, q8, q9, q10, q11, q12, q13⟩ := HQ1.out
  obtain ⟨u0, u1, u2⟩ := HU1.out
  have hy1 : w.heap.size < w1.heap.size := by omega
  clear hb1
  go_wp2_with fail
  all_goals first
    | (exfalso; omega)
    | skip
  refine (tweeks_any c u k _ (by omega)).mono ?_
  rintro e w2 ⟨⟨v, rfl, hv⟩, hb2⟩
  obtain rfl := twV_nil HL.out hv
  rw [HEE.out]
  clear hv
  have hz2 : w.heap.size + 1 < w2.heap.size := by have := hb2.size; (try simp at this); omega
  have HB2 := hide (show Below w.heap.size w w2 by have hp := HB1.out; refine Below.trans ?_ (hb2.mono (by first | omega | (simp; done) | (simp; omega))); (repeat' (first | (with_reducible exact Below.refl _ _) | (with_reducible assumption) | (with_reducible refine Below.alloc ?_ ?_ _) | (with_reducible refine below_drewN ?_ _) | (with_reducible refine Below.drew ?_) | (with_reducible refine Below.setCell ?_ ?_ _) | (with_reducible refine Below.trans ?_ (Below.mono (by assumption) ?_)) | go_size | (simp at *; omega))))
  have HQ2 := hide (show CalAt w2 w.heap.size c from calAt_below hb2 (by first | omega | (simp; done) | (simp; omega)) (by first | exact HQ1.out | exact calAt_alloc HQ1.out (by omega) _ | exact calAt_alloc (calAt_alloc HQ1.out (by omega) _) (by simp; omega) _))
  clear q0 q1 q2 q3 q4 q5 q6 q7 q8 q9 q10 q11 q12 q13
  obtain ⟨q0, q1, q2, q3, q4, q5, q6, q7, q8, q9, q10, q11, q12, q13⟩ := HQ2.out
  have HU2 := hide (show UnAt w2 (w.heap.size + 1) u from unAt_below hb2 (by first | omega | (simp; done) | (simp; omega)) (by first | exact HU1.out | exact unAt_alloc HU1.out (by omega) _ | exact unAt_alloc (unAt_alloc HU1.out (by omega) _) (by simp; omega) _))
  clear u0 u1 u2
  obtain ⟨u0, u1, u2⟩ := HU2.out
  have hy2 : w.heap.size < w2.heap.size := by omega
  clear hb2
  go_wp2_with fail
  all_goals first
    | (exfalso; omega)
    | skip
  refine (runs_no c u k _ (by omega) HN.out).mono ?_
  rintro e w3 ⟨rfl, hb3⟩
  rw [HEE.out]
  have hz3 : w.heap.size + 1 < w3.heap.size := by have := hb3.size; (try simp at this); omega
  have HB3 := hide (show Below w.heap.size w w3 by have hp := HB2.out; refine Below.trans ?_ (hb3.mono (by first | omega | (simp; done) | (simp; omega))); (repeat' (first | (with_reducible exact Below.refl _ _) | (with_reducible assumption) | (with_reducible refine Below.alloc ?_ ?_ _) | (with_reducible refine below_drewN ?_ _) | (with_reducible refine Below.drew ?_) | (with_reducible refine Below.setCell ?_ ?_ _) | (with_reducible refine Below.trans ?_ (Below.mono (by assumption) ?_)) | go_size | (simp at *; omega))))
  have HQ3 := hide (show CalAt w3 w.heap.size c from calAt_below hb3 (by first | omega | (simp; done) | (simp; omega)) (by first | exact HQ2.out | exact calAt_alloc HQ2.out (by omega) _ | exact calAt_alloc (calAt_alloc HQ2.out (by omega) _) (by simp; omega) _))
  clear q0 q1 q2 q3 q4 q5 q6 q7 q8 q9 q10 q11 q12 q13
  obtain ⟨q0, q1, q2, q3, q4, q5, q6, q7, q8, q9, q10, q11, q12, q13⟩ := HQ3.out
  have HU3 := hide (show UnAt w3 (w.heap.size + 1) u from unAt_below hb3 (by first | omega | (simp; done) | (simp; omega)) (by first | exact HU2.out | exact unAt_alloc HU2.out (by omega) _ | exact unAt_alloc (unAt_alloc HU2.out (by omega) _) (by simp; omega) _))
  clear u0 u1 u2
  obtain ⟨u0, u1, u2⟩ := HU3.out
  have hy3 : w.heap.size < w3.heap.size := by omega
  clear hb3
  have hBel := HB3.out
  go_wp2
  all_goals first
    | (exfalso; omega)
    | (go_ret; exact ⟨rfl, by (repeat' (first | (with_reducible exact Below.refl _ _) | (with_reducible assumption) | (with_reducible refine Below.alloc ?_ ?_ _) | (with_reducible refine below_drewN ?_ _) | (with_reducible refine Below.drew ?_) | (with_reducible refine Below.setCell ?_ ?_ _) | (with_reducible refine Below.trans ?_ (Below.mono (by assumption) ?_)) | go_size | (simp at *; omega)))⟩)

set_option maxRecDepth 100000 in
set_option maxHeartbeats 6400000 in
theorem tr_yes (c : Cal) (u : Un) (k : Int) (w : World) (hn : c.name.size ≤ 100) (hE : twE c u k = 0) :
    Calls Try.prog 8 #[calV c, unitV u, .int .i64 k] w fun e w' => e = .returned (.bool true) ∧ Below w.heap.size w w' := by
  obtain ⟨r1, r2, r3, r4, r5, r6, r7, r8, r9⟩ := tw_runs hE
  have rs1 := ris_sum r1 (by omega)
  have HE := hide hE
  obtain ⟨L, hL⟩ : ∃ L, twL c u k = L := ⟨_, rfl⟩
  obtain ⟨R, hR⟩ : ∃ R, rnL c u k = R := ⟨_, rfl⟩
  rw [hL] at r1 r3 r6 r7 r8 rs1
  rw [hR] at r2 r3 r4 r5 r9
  obtain ⟨Z, hZ⟩ : ∃ Z, L.map (spV c) = Z := ⟨_, rfl⟩
  have hZl : Z.length = L.length := by rw [← hZ, List.length_map]
  have HZG := hide (show ∀ (j : Nat) (x : Un), L[j]? = some x → Z[j]? = some (spV c x) from fun j x h => by rw [← hZ, List.getElem?_map, h]; rfl)
  rw [hZ] at r1 r3 rs1
  have H1 := hide r1
  have H2 := hide r2
  have H8 := hide (show ∀ (j : Nat) (x : Un), L[j]? = some x → unitE c x = 0 ∧ x.lv = 5 ∧ 0 ≤ (spV c x).a ∧ (spV c x).a ≤ (spV c x).b ∧ (spV c x).b ≤ 3068037 from fun j x h => r8 x (List.mem_of_getElem? h))
  have H9 := hide (show ∀ (j : Nat) (x : Sp), R[j]? = some x → 0 ≤ x.a ∧ x.a ≤ x.b ∧ x.b ≤ 3068037 from fun j x h => r9 x (List.mem_of_getElem? h))
  have HS1 := hide (show ∀ j, j ≤ Z.length → 0 ≤ sumT Z j ∧ sumT Z j ≤ lastT (-1) Z j + 1 from rs1)
  have HLAST := hide (show ∀ j, j ≤ Z.length → -1 ≤ lastT (-1) Z j ∧ lastT (-1) Z j ≤ 3068037 from fun j hj => by
    rcases j with _ | j
    · rw [lastT_zero]; omega
    · obtain ⟨x, hx⟩ : ∃ x, L[j]? = some x := ⟨_, List.getElem?_eq_getElem (by omega)⟩
      have h8 := r8 x (List.mem_of_getElem? hx)
      rw [lastT_succ _ (HZG.out j x hx)]
      omega)
  have HRS := hide (show ∀ j, j ≤ R.length → 0 ≤ sumT R j ∧ sumT R j ≤ 6136078 from fun j hj => by
    have key : ∀ j, j ≤ R.length → 0 ≤ sumT R j ∧ sumT R j ≤ 3068038 * (j : Int) := by
      intro j
      induction j with
      | zero => intro _; rw [sumT_zero]; omega
      | succ j ih =>
        intro h
        obtain ⟨x, hx⟩ : ∃ x, R[j]? = some x := ⟨_, List.getElem?_eq_getElem (by omega)⟩
        have h9 := r9 x (List.mem_of_getElem? hx)
        have hi := ih (by omega)
        rw [sumT_succ hx]
        omega
    have := key j hj
    omega)
  have HEQ := hide r3
  have HLL := hide hL
  have HRR := hide hR
  clear r1 r2 r3 r8 r9 rs1 hE hL hR hZ
  simp only [calV, unitV]
  go_enter Try.func8, Try.ntmps8
  go_wp2_with fail
  refine (live20_any _).mono ?_
  rintro e w1 ⟨rfl, hb1⟩
  have hz1 : w.heap.size + 1 < w1.heap.size := by have := hb1.size; simp at this; omega
  have HB1 := hide (show Below w.heap.size w w1 by refine Below.trans ?_ (hb1.mono (by first | omega | (simp; done) | (simp; omega))); (repeat' (first | (with_reducible exact Below.refl _ _) | (with_reducible assumption) | (with_reducible refine Below.alloc ?_ ?_ _) | (with_reducible refine below_drewN ?_ _) | (with_reducible refine Below.drew ?_) | (with_reducible refine Below.setCell ?_ ?_ _) | (with_reducible refine Below.trans ?_ (Below.mono (by assumption) ?_)) | go_size | (simp at *; omega))))
  have HQ1 := hide (calAt_below hb1 (by simp; omega) (calAt_alloc (calAt_new w c) (by simp) _))
  have HU1 := hide (unAt_below hb1 (by simp) (unAt_new w c u))
  obtain ⟨q0, q1, q2, q3, q4, q5, q6, q7, q8, q9, q10, q11, q12, q13⟩ := HQ1.out
  obtain ⟨u0, u1, u2⟩ := HU1.out
  have hy1 : w.heap.size < w1.heap.size := by omega
  clear hb1
  go_wp2_with fail
  all_goals first
    | (exfalso; omega)
    | skip
  refine (tweeks_any c u k _ (by omega)).mono ?_
  rintro e w2 ⟨⟨v, rfl, hv⟩, hb2⟩
  rw [HE.out]
  rw [HLL.out] at hv
  obtain ⟨g, cap, rfl, _, hun⟩ := twV_some r7 hv
  have HUN2 := hide hun
  clear hv hun
  have hz2 : w.heap.size + 1 < w2.heap.size := by have := hb2.size; (try simp at this); omega
  have HB2 := hide (show Below w.heap.size w w2 by have hp := HB1.out; refine Below.trans ?_ (hb2.mono (by first | omega | (simp; done) | (simp; omega))); (repeat' (first | (with_reducible exact Below.refl _ _) | (with_reducible assumption) | (with_reducible refine Below.alloc ?_ ?_ _) | (with_reducible refine below_drewN ?_ _) | (with_reducible refine Below.drew ?_) | (with_reducible refine Below.setCell ?_ ?_ _) | (with_reducible refine Below.trans ?_ (Below.mono (by assumption) ?_)) | go_size | (simp at *; omega))))
  have HQ2 := hide (show CalAt w2 w.heap.size c from calAt_below hb2 (by first | omega | (simp; done) | (simp; omega)) (by first | exact HQ1.out | exact calAt_alloc HQ1.out (by omega) _ | exact calAt_alloc (calAt_alloc HQ1.out (by omega) _) (by simp; omega) _))
  clear q0 q1 q2 q3 q4 q5 q6 q7 q8 q9 q10 q11 q12 q13
  obtain ⟨q0, q1, q2, q3, q4, q5, q6, q7, q8, q9, q10, q11, q12, q13⟩ := HQ2.out
  have HU2 := hide (show UnAt w2 (w.heap.size + 1) u from unAt_below hb2 (by first | omega | (simp; done) | (simp; omega)) (by first | exact HU1.out | exact unAt_alloc HU1.out (by omega) _ | exact unAt_alloc (unAt_alloc HU1.out (by omega) _) (by simp; omega) _))
  clear u0 u1 u2
  obtain ⟨u0, u1, u2⟩ := HU2.out
  have hy2 : w.heap.size < w2.heap.size := by omega
  clear hb2
  go_wp2_with fail
  all_goals first
    | (exfalso; omega)
    | skip
  refine (runs_yes c u k _ (by omega) HE.out).mono ?_
  rintro e w3 ⟨⟨g2, cap2, rfl, hsp⟩, hb3⟩
  rw [HRR.out] at hsp ⊢
  have hun3 := HUN2.out.call hb3
  have hgl := hun3.lt r7
  have hg2 := spsLt hsp r4
  have HT3 := hide (show TrSt c L R g cap g2 cap2 w.heap.size w w3 from ⟨calAt_below hb3 (by omega) HQ2.out, by have := hb3.size; omega, hun3, hgl.1, hsp, hg2.1, HB2.out.trans (hb3.mono (by omega))⟩)
  clear hb3 hsp hun3 u0 u1 u2
  clear q0 q1 q2 q3 q4 q5 q6 q7 q8 q9 q10 q11 q12 q13
  go_wp2_with fail
  all_goals first
    | (exfalso; omega)
    | skip
  go_loopw [11, 12, 52] (fun s11 s12 s wr => ∃ j : Nat, s = .int .i64 j ∧ j ≤ L.length ∧ s11 = .int .i64 (sumT Z j) ∧ s12 = .int .i64 (lastT (-1) Z j) ∧ TrSt c L R g cap g2 cap2 w.heap.size w wr) (fun _ _ s _ => (500 - intOf s).toNat)
  case atStart => exact ⟨0, rfl, Nat.zero_le _, by rw [sumT_zero], by rw [lastT_zero], HT3.out⟩
  case round =>
    obtain ⟨j, rfl, hj, rfl, rfl, hT⟩ := hrel
    have HT := hide hT
    clear hT
    obtain ⟨q0, q1, q2, q3, q4, q5, q6, q7, q8, q9, q10, q11, q12, q13⟩ := HT.out.1
    have hB2 := HT.out.2.1
    have hG2 := HT.out.2.2.2.1
    have hG3 := HT.out.2.2.2.2.2.1
    have hs1 := HS1.out j (by omega)
    have hl1 := HLAST.out j (by omega)
    by_cases hlt : j < L.length
    · obtain ⟨x, hx⟩ : ∃ x, L[j]? = some x := ⟨_, List.getElem?_eq_getElem hlt⟩
      have hxs := H8.out j x hx
      have hzx := HZG.out j x hx
      have hrx := H1.out j _ hzx
      obtain ⟨a0, a1, a2⟩ := UnsAt.cell HT.out.2.2.1 hx
      have HSU := hide (sumT_succ hzx)
      have HLA := hide (lastT_succ (-1) hzx)
      change lastT (-1) Z j + 0 < (spV c x).a ∧ (spV c x).a ≤ (spV c x).b at hrx
      clear hx hzx
      obtain ⟨S, hSS⟩ : ∃ S, spV c x = S := ⟨_, rfl⟩
      rw [hSS] at hxs hrx HSU HLA
      have HSS := hide hSS
      have HXE := hide hxs.1
      have HX5 := hide hxs.2.1
      have hxb := hxs.2.2
      clear hSS hxs
      obtain ⟨T, hTT⟩ : ∃ T, sumT Z j = T := ⟨_, rfl⟩
      obtain ⟨D, hDD⟩ : ∃ D, lastT (-1) Z j = D := ⟨_, rfl⟩
      rw [hTT] at HSU
      rw [hDD] at hrx
      rw [hTT, hDD] at hs1
      rw [hDD] at hl1
      rw [hTT, hDD]
      clear hTT hDD
      have hi3 : (0 : Int) ≤ (j : Int) := by omega
      have hi4 : (j : Int) < (L.length : Int) := by omega
      go_wp2_with fail
      refine (uspan_any c x _ (by omega)).mono ?_
      rintro e w4 ⟨rfl, hb4⟩
      rw [HSS.out, HXE.out]
      simp only [spanV]
      have HT4 := hide ((HT.out.alloc _).call hb4)
      have GX := hide ((BlkIs.new wr #[.int .i64 x.lv, .int .i64 x.yr, .int .i64 x.ix] 31).call hb4)
      have hwr4 : wr.heap.size < w4.heap.size := by have := hb4.size; simp at this; omega
      clear hb4
      clear q0 q1 q2 q3 q4 q5 q6 q7 q8 q9 q10 q11 q12 q13
      clear a0 a1 a2
      have x0 : w4.cell? ⟨wr.heap.size, 0, none⟩ = some (.int .i64 x.lv) := GX.out.cell 0
      have h5b : (x.lv != 5) = false := by simp [HX5.out]
      go_wp2
      all_goals first
        | (exfalso; omega)
        | skip
      go_roundw
      case rel => exact ⟨j + 1, by go_num, by omega, by (rw [HSU.out]) <;> rfl, by rw [HLA.out], HT4.out.alloc _⟩
      case measure => simp [intOf]; omega
    · have hjl : j = L.length := by omega
      have hsa : sumT Z j = sumT Z j := rfl
      have HSA := hide (show sumT Z j = sumR R by rw [sumT_all Z j (by omega)]; exact HEQ.out)
      obtain ⟨T, hTT⟩ : ∃ T, sumT Z j = T := ⟨_, rfl⟩
      obtain ⟨D, hDD⟩ : ∃ D, lastT (-1) Z j = D := ⟨_, rfl⟩
      rw [hTT] at HSA
      rw [hTT, hDD] at hs1
      rw [hDD] at hl1
      rw [hTT, hDD]
      clear hTT hDD hsa
      go_wp2_with fail
      all_goals first
        | (exfalso; omega)
        | skip
      go_loopw [11, 12, 88] (fun s11 s12 s wr => ∃ i : Nat, s = .int .i64 i ∧ i ≤ R.length ∧ s11 = .int .i64 (T - sumT R i) ∧ s12 = .int .i64 (lastT (-2) R i) ∧ TrSt c L R g cap g2 cap2 w.heap.size w wr) (fun _ _ s _ => (500 - intOf s).toNat)
      case atStart => exact ⟨0, rfl, Nat.zero_le _, by rw [sumT_zero, Int.sub_zero], by rw [lastT_zero], HT.out⟩
      case round =>
        obtain ⟨i, rfl, hi, rfl, rfl, hT⟩ := hrel
        have HTr := hide hT
        clear hT
        clear q0 q1 q2 q3 q4 q5 q6 q7 q8 q9 q10 q11 q12 q13
        obtain ⟨q0, q1, q2, q3, q4, q5, q6, q7, q8, q9, q10, q11, q12, q13⟩ := HTr.out.1
        have hB2' := HTr.out.2.1
        have hG2' := HTr.out.2.2.2.1
        have hG3' := HTr.out.2.2.2.2.2.1
        have hBel := HTr.out.2.2.2.2.2.2
        have hrs := HRS.out i hi
        by_cases hlt2 : i < R.length
        · obtain ⟨y, hy⟩ : ∃ y, R[i]? = some y := ⟨_, List.getElem?_eq_getElem hlt2⟩
          have hyb := H9.out i y hy
          have hry := H2.out i y hy
          change lastT (-2) R i + 1 < y.a ∧ y.a ≤ y.b at hry
          obtain ⟨a0, a1⟩ := SpsAt.cell HTr.out.2.2.2.2.1 hy
          have hrs2 := HRS.out (i + 1) hlt2
          have hsu := sumT_succ hy
          rw [hsu] at hrs2
          have HSU := hide hsu
          have HLA := hide (lastT_succ (-2) hy)
          have hld : -2 ≤ lastT (-2) R i ∧ lastT (-2) R i ≤ 3068037 := by
            rcases i with _ | i
            · rw [lastT_zero]; omega
            · obtain ⟨z, hz⟩ : ∃ z, R[i]? = some z := ⟨_, List.getElem?_eq_getElem (by omega)⟩
              have h9 := H9.out i z hz
              rw [lastT_succ _ hz]
              omega
          clear hy hsu
          obtain ⟨T2, hTT⟩ : ∃ T, sumT R i = T := ⟨_, rfl⟩
          obtain ⟨D2, hDD⟩ : ∃ D, lastT (-2) R i = D := ⟨_, rfl⟩
          rw [hTT] at HSU hrs hrs2
          rw [hDD] at hry hld
          rw [hTT, hDD]
          clear hTT hDD
          have hi5 : (0 : Int) ≤ (i : Int) := by omega
          have hi6 : (i : Int) < (R.length : Int) := by omega
          go_wp2
          all_goals first
            | (exfalso; omega)
            | skip
          go_roundw
          case rel => exact ⟨i + 1, by go_num, by omega, by (rw [HSU.out]) <;> first | rfl | (congr 1; omega), by rw [HLA.out], HTr.out.alloc _⟩
          case measure => simp [intOf]; omega
        · have hil : i = R.length := by omega
          have hz : T - sumT R i = 0 := by rw [HSA.out, sumT_all R i (by omega)]; omega
          rw [hz]
          clear hz
          go_wp2
          all_goals first
            | (exfalso; omega)
            | (go_ret; exact ⟨ret_bool (by simp; omega), by (repeat' (first | (with_reducible exact Below.refl _ _) | (with_reducible assumption) | (with_reducible refine Below.alloc ?_ ?_ _) | (with_reducible refine below_drewN ?_ _) | (with_reducible refine Below.drew ?_) | (with_reducible refine Below.setCell ?_ ?_ _) | (with_reducible refine Below.trans ?_ (Below.mono (by assumption) ?_)) | go_size | (simp at *; omega)))⟩)
            | (go_ret; exact ⟨rfl, by (repeat' (first | (with_reducible exact Below.refl _ _) | (with_reducible assumption) | (with_reducible refine Below.alloc ?_ ?_ _) | (with_reducible refine below_drewN ?_ _) | (with_reducible refine Below.drew ?_) | (with_reducible refine Below.setCell ?_ ?_ _) | (with_reducible refine Below.trans ?_ (Below.mono (by assumption) ?_)) | go_size | (simp at *; omega)))⟩)

theorem tr_walk (c : Cal) (hn : c.name.size ≤ 9223372036854775807) (u : Un) (k : Int) (w : World) :
    Calls Try.prog 8 #[calV c, unitV u, .int .i64 k] w fun e w' => e = .returned (.bool true) ∧ Below w.heap.size w w' := by
  by_cases h : 100 < c.name.size
  · exact tr_long c u k w h hn
  · have h' : c.name.size ≤ 100 := by omega
    by_cases hE : twE c u k = 0
    · exact tr_yes c u k w h' hE
    · exact tr_no c u k w h' hE
end Go.Proofs.Ytpngdeegdkifnaa
