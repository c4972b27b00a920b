/- Package share: exact shares. Package rate: exact shares. -/
import Derived.Test.YtjhhmeoibfdcmaaGreatDoorRtE
import Derived.Test.YtjhhmeoibfdcmaaGreatDoorRtF
import Derived.Test.YtjhhmeoibfdcmaaGreatDoorMRt
namespace Go.Proofs.YtjhhmeoibfdcmaaGreatDoor
open Go.RowKit Qd
set_option linter.unusedSimpArgs false
set_option linter.unusedVariables false

/-- What a call that yields exact shares leaves. -/
def ExPost (a : Int) (ws : List Int) (w : World) (e : Ending) (w' : World) : Prop := (∃ v, e = .returned (.tuple #[v, .int .i64 (exsE a ws)]) ∧ (exsE a ws = 0 → Rts w' v (exsL a ws)) ∧ (¬ exsE a ws = 0 → v = .slice none 0 0)) ∧ Below w.heap.size w w'

set_option maxRecDepth 100000 in
set_option maxHeartbeats 6400000 in
theorem sexact_any (a : Int) (v : Value) (ws : List Int) (w : World) (ha : in64 a) (hv : Nums w v ws) (hl : ∀ x ∈ ws, 0 ≤ x) (hn : ws.length ≤ 4096) (h0 : 0 < ws.sum) (hs : ws.sum < 4294967296) :
    Calls Tryz.prog 15 #[.int .i64 a, v] w (ExPost a ws w) := by
  have hle := pos_sum hl
  have h64 : ∀ x ∈ ws, in64 x := fun x hx => by have h1 := hl x hx; have h2 := hle x hx; unfold in64; omega
  have HAL := hide (fun W (h : Nums W v ws) => shall_yes v ws W h hl hn h64 (by unfold in64; omega) h0)
  have HF := hide (fun x (hx : x ∈ ws) => ex_facts (hl x hx) (hle x hx) h0 hs)
  have HV := hide hv
  obtain ⟨ad, cap, rfl, hc⟩ := hv
  have HE0 := hide (show exsE a ws = exsR a ws.sum ws from rfl)
  have HLN := hide (exsL_len a ws)
  have HG := hide (fun (j : Nat) (x : Int) (h : ws[j]? = some x) => show (exsL a ws)[j]? = some (exQ a ws.sum x) by simp [exsL, h])
  have HMK := hide (fun (x : Int) (hx : x ∈ ws) (W : World) => show Calls Tryz.prog 9 #[.int .i64 x, .int .i64 ws.sum] W fun e w' => e = .returned (.tuple #[ratV ((x.toNat / Nat.gcd x.toNat ws.sum.toNat : Nat) : Int) ((ws.sum.toNat / Nat.gcd x.toNat ws.sum.toNat : Nat) : Int), .int .i64 0]) ∧ Below W.heap.size W w' from by
    obtain ⟨e1, e2, f1, f2, f3, f4, f5, f6, f7⟩ := HF.out x hx
    have h := rmake_yes x.toNat ws.sum.toNat W f1 (by omega) (by omega)
    rwa [← e1, ← e2] at h)
  have HML := hide (fun (x : Int) (hx : x ∈ ws) (W : World) => show Calls Tryz.prog 10 #[ratV a 1, ratV ((x.toNat / Nat.gcd x.toNat ws.sum.toNat : Nat) : Int) ((ws.sum.toNat / Nat.gcd x.toNat ws.sum.toNat : Nat) : Int)] W fun e w' => e = .returned (.tuple #[exV a (x.toNat / Nat.gcd x.toNat ws.sum.toNat) (ws.sum.toNat / Nat.gcd x.toNat ws.sum.toNat), .int .i64 (fitE (exQ a ws.sum x).1)]) ∧ Below W.heap.size W w' from by
    obtain ⟨e1, e2, f1, f2, f3, f4, f5, f6, f7⟩ := HF.out x hx
    exact rmul_any a _ _ W ha (by omega) f4 (by omega) f7)
  have HEV := hide (fun (x : Int) => exV_get a ws.sum x)
  have HEN := hide (fun (x : Int) (h : ¬ fitE (exQ a ws.sum x).1 = 0) => show exV a (x.toNat / Nat.gcd x.toNat ws.sum.toNat) (ws.sum.toNat / Nat.gcd x.toNat ws.sum.toNat) = .agg #[.int .i64 0, .int .i64 0] from by
    have h' : ¬ fitE (exN a (x.toNat / Nat.gcd x.toNat ws.sum.toNat) (ws.sum.toNat / Nat.gcd x.toNat ws.sum.toNat)) = 0 := h
    unfold exV
    rw [if_neg h']; rfl)
  obtain ⟨S, hS⟩ : ∃ S, ws.sum = S := ⟨_, rfl⟩
  rw [hS] at HAL HE0 HG HMK HML HEV HEN
  obtain ⟨L, hL⟩ : ∃ L, exsL a ws = L := ⟨_, rfl⟩
  rw [hL] at HG HLN
  obtain ⟨EE, hEE⟩ : ∃ E, exsE a ws = E := ⟨_, rfl⟩
  rw [hEE] at HE0
  unfold ExPost
  rw [hL, hEE]
  clear hc hl h64 hs h0 hle hS hL hEE HF
  have hmk := fun w => make_rt ws.length (by omega) w
  simp only [ratV] at HMK HML
  go_enter Tryz.func15, Tryz.ntmps15
  go_wp2_with fail
  refine (HAL.out _ HV.out).mono ?_
  rintro e w1 ⟨rfl, hb1⟩
  have HB1 := hide hb1
  have HV1 := hide (HV.out.call hb1)
  have hle1 := hb1.size
  clear hb1
  have H4 := hide (show RtsAt (w1.alloc (rtObj ws.length)) w1.heap.size (fillL rtZ L 0) ∧ Below w1.heap.size w1 (w1.alloc (rtObj ws.length)) from ⟨by rw [fill_zero, HLN.out]; exact RtsAt.new w1 ws.length, (Below.refl _ _).alloc (Nat.le_refl _) _⟩)
  go_wp2_with fail
  go_loopw [26] (fun s26 wr => ∃ j : Nat, s26 = .int .i64 j ∧ j ≤ ws.length ∧ exsR a S (ws.take j) = 0 ∧ Hid (RtsAt wr w1.heap.size (fillL rtZ L j) ∧ Below w1.heap.size w1 wr)) (fun s26 _ => (ws.length + 5 - intOf s26).toNat)
  case atStart => exact ⟨0, rfl, Nat.zero_le _, rfl, H4⟩
  case round =>
    obtain ⟨j, rfl, hj, htt, HQ⟩ := hrel
    have HTT := hide htt
    have hgl := HQ.out.1.lt
    clear htt
    by_cases hlt : j < ws.length
    · obtain ⟨x, hx⟩ : ∃ x, ws[j]? = some x := ⟨_, List.getElem?_eq_getElem hlt⟩
      obtain ⟨ad', cap', e, hc⟩ := HV1.out.call HQ.out.2
      cases e
      obtain ⟨g, o, rfl, hg, a0⟩ := hc j x hx
      have hi1 : (0 : Int) ≤ (j : Int) := by omega
      have hi3 : (j : Int) < (ws.length : Int) := by omega
      have HX := hide (List.mem_of_getElem? hx)
      have HXX := hide hx
      have HGX := hide (HG.out j x hx)
      have HMKx := hide (HMK.out x HX.out)
      have HMLx := hide (HML.out x HX.out)
      have HEVx := hide (HEV.out x)
      have HENx := hide (HEN.out x)
      have HTK := hide (fun h => exsR_take hx HTT.out h)
      have HNO := hide (fun h => HE0.out.trans (exsR_no hx HTT.out h))
      obtain ⟨X, hXX⟩ : ∃ X, x.toNat / Nat.gcd x.toNat S.toNat = X := ⟨_, rfl⟩
      obtain ⟨D, hDD⟩ : ∃ X, S.toNat / Nat.gcd x.toNat S.toNat = X := ⟨_, rfl⟩
      rw [hXX, hDD] at HMKx HMLx HEVx HENx
      clear hc hx hXX hDD
      go_wp2_with fail
      all_goals first
        | (exfalso; omega)
        | skip
      refine (HMKx.out _).mono ?_
      rintro e w2 ⟨rfl, hb2⟩
      have HQ2 := hide (show RtsAt w2 w1.heap.size (fillL rtZ L j) ∧ Below w1.heap.size w1 w2 from ⟨HQ.out.1.call hb2, HQ.out.2.trans (hb2.mono HQ.out.2.size)⟩)
      clear hb2 a0 hg
      go_wp2_with fail
      refine (HMLx.out _).mono ?_
      rintro e w3 ⟨rfl, hb3⟩
      have HQ3 := hide (show RtsAt w3 w1.heap.size (fillL rtZ L j) ∧ Below w1.heap.size w1 w3 from by
        have h := (ww (n := w2.heap.size) (w := w2) hb3).out
        exact ⟨HQ2.out.1.call h, HQ2.out.2.trans (h.mono HQ2.out.2.size)⟩)
      clear hb3
      have hgl3 := HQ3.out.1.lt
      obtain ⟨s0, s1⟩ := HQ3.out.1.cell (fill_at rtZ L j (by rw [HLN.out]; exact hlt))
      have n0 := HQ3.out.1.frozen (j * 2)
      have n1 := HQ3.out.1.frozen (j * 2 + 1)
      by_cases hT : fitE (exQ a S x).1 = 0
      rotate_left
      · have HE := hide (HNO.out hT)
        have hE : (fitE (exQ a S x).1 != 0) = true := by simpa using hT
        have hev := HENx.out hT
        have HBN := hide (show Below w.heap.size w (rtPut w3 w1.heap.size j (0, 0)) from HB1.out.trans ((rtPut_below HQ3.out.2 (Nat.le_refl _)).mono hle1))
        unfold rtPut at HBN
        have HT := hide hT
        rw [hev]
        obtain ⟨E, hEE⟩ : ∃ E, fitE (exQ a S x).1 = E := ⟨_, rfl⟩
        rw [hEE] at HE hE HT ⊢
        clear hT hEE hev
        go_wp2
        go_ret2
        exact ⟨⟨.slice none 0 0, by rw [HE.out]; rfl, fun h => absurd (HE.out.symm.trans h) HT.out, fun _ => rfl⟩, HBN.out⟩
      have HT2 := hide (HTK.out hT)
      rw [hT, HEVx.out hT]
      have HN := hide (show RtsAt (rtPut w3 w1.heap.size j (exQ a S x)) w1.heap.size (fillL rtZ L (j + 1)) ∧ Below w1.heap.size w1 (rtPut w3 w1.heap.size j (exQ a S x)) from by
        have h := HQ3.out.1.put j (exQ a S x) (by rw [fill_len _ _ _ (by rw [HLN.out]; omega), HLN.out]; exact hlt)
        rw [fill_set _ _ _ _ HGX.out] at h
        exact ⟨h, rtPut_below HQ3.out.2 (Nat.le_refl _)⟩)
      unfold rtPut at HN
      generalize (exQ a S x).1 = y1 at *
      generalize (exQ a S x).2 = y2 at *
      clear hT
      go_wp2
      go_roundw
      case rel => exact ⟨j + 1, by go_num, by omega, HT2.out, HN⟩
      case measure => simp [intOf]; omega
    · obtain rfl : j = ws.length := by omega
      have hE : EE = 0 := by
        have h := HTT.out
        rw [List.take_of_length_le (Nat.le_refl _)] at h
        exact HE0.out.trans h
      have HFI := hide (show Rts wr (.slice (some ⟨w1.heap.size, 0, none⟩) ws.length ws.length) L from by
        have h := HQ.out.1
        rw [← HLN.out, fill_full] at h
        have h2 := h.rts ws.length
        rwa [HLN.out] at h2)
      have HBF := hide (show Below w.heap.size w wr from HB1.out.trans (HQ.out.2.mono hle1))
      have HE := hide hE
      clear hE
      go_wp2
      all_goals first
        | (exfalso; omega)
        | skip
      go_ret2
      exact ⟨⟨.slice (some ⟨w1.heap.size, 0, none⟩) ws.length ws.length, by rw [HE.out]; rfl, fun _ => HFI.out, fun h => absurd HE.out h⟩, HBF.out⟩

set_option maxRecDepth 100000 in
set_option maxHeartbeats 3200000 in
theorem rexact_no (c : Cal) (lv a : Int) (s : Sp) (w : World) (hn : c.name.size ≤ 1000) (h : ¬ meetsE c lv s = 0) :
    Calls Tryz.prog 6 #[calV c, .int .i64 lv, .int .i64 a, spanV s] w fun e w' => e = .returned (.tuple #[.slice none 0 0, .int .i64 (meetsE c lv s)]) ∧ Below w.heap.size w w' := by
  have HM := hide (fun w => pieces_no c lv s w hn h)
  have hE : (meetsE c lv s != 0) = true := by simpa using h
  obtain ⟨E, hEE⟩ : ∃ E, meetsE c lv s = E := ⟨_, rfl⟩
  rw [hEE] at HM hE ⊢
  clear h hEE
  simp only [calV, spanV] at HM ⊢
  go_enter Tryz.func6, Tryz.ntmps6
  go_wp2_with fail
  refine (HM.out _).mono ?_
  rintro e w1 ⟨rfl, hb1⟩
  have HB1 : Hid (Below w.heap.size w w1) := ww hb1
  clear hb1
  go_wp2
  go_ret2
  exact ⟨rfl, HB1.out⟩

set_option maxRecDepth 100000 in
set_option maxHeartbeats 3200000 in
theorem rexact_yes (c : Cal) (lv a : Int) (s : Sp) (w : World) (hn : c.name.size ≤ 1000) (h : meetsE c lv s = 0) (hl : (meetsL c lv s).length ≤ 4096) (ha : in64 a) :
    Calls Tryz.prog 6 #[calV c, .int .i64 lv, .int .i64 a, spanV s] w (ExPost a (dysL c lv s) w) := by
  have HM := hide (fun w => pieces_yes c lv s w hn h (by omega))
  have hdf := dys_facts h
  have hok := meets_ok h
  have hsd : s.b - s.a + 1 ≤ 3068037 := by
    have h1 := (fd_ok hok.2.2.2.2.1).2.2.2.2.1
    have h2 := (fd_ok hok.2.2.2.2.2).2.2.2.2.1
    simp [isB] at h1 h2
    omega
  have HSP := hide (fun v w (hv : Nums w v (dysL c lv s)) => sexact_any a v (dysL c lv s) w ha hv (fun x hx => by have := hdf.2 x hx; omega) (by rw [dysL_len]; exact hl) (by rw [hdf.1]; omega) (by rw [hdf.1]; omega))
  obtain ⟨L, hL⟩ : ∃ n, (meetsL c lv s).length = n := ⟨_, rfl⟩
  have HDL := hide (dysL_len c lv s)
  rw [hL] at HM HDL
  obtain ⟨ws, hws⟩ : ∃ x, dysL c lv s = x := ⟨_, rfl⟩
  rw [hws] at HM HSP HDL ⊢
  unfold ExPost at HSP ⊢
  obtain ⟨EE, hEE⟩ : ∃ E, exsE a ws = E := ⟨_, rfl⟩
  obtain ⟨XL, hXL⟩ : ∃ E, exsL a ws = E := ⟨_, rfl⟩
  rw [hEE, hXL] at HSP ⊢
  clear h hL hdf hok hsd hl hws hEE hXL
  simp only [calV, spanV] at HM ⊢
  go_enter Tryz.func6, Tryz.ntmps6
  go_wp2_with fail
  refine (HM.out _).mono ?_
  rintro e w1 ⟨⟨g1, g2, rfl, hP, hD, hg1, hg2, hne⟩, hb1⟩
  have HB1 : Hid (Below w.heap.size w w1) := ww hb1
  have HD1 := hide hD
  have hz1 : w.heap.size ≤ w1.heap.size := by have := hb1.size; simp at this; omega
  clear hb1 hP hD hg1 hg2 hne
  go_wp2_with fail
  refine (HSP.out _ _ (by have h := HD1.out.nums (cap := L); rwa [HDL.out] at h)).mono ?_
  rintro e w2 ⟨⟨v, rfl, hv1, hv2⟩, hb2⟩
  have HV := hide (And.intro hv1 hv2)
  have HB2 : Hid (Below w.heap.size w w2) := by have hp := HB1.out; exact ww hb2
  have hvf : ∃ ad n cap, v = .slice ad n cap := by
    by_cases h0 : EE = 0
    · obtain ⟨ad, cap, h, _⟩ := hv1 h0
      exact ⟨_, _, _, h⟩
    · exact ⟨_, _, _, hv2 h0⟩
  obtain ⟨ad5, n5, cap5, rfl⟩ := hvf
  clear hv1 hv2 hb2
  go_wp2
  go_ret2
  exact ⟨⟨.slice ad5 n5 cap5, rfl, HV.out.1, HV.out.2⟩, HB2.out⟩
end Go.Proofs.YtjhhmeoibfdcmaaGreatDoor
