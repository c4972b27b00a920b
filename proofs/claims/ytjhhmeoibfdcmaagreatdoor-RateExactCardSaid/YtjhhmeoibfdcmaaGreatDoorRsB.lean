/- Package ratio: Add. -/
import Derived.Test.YtjhhmeoibfdcmaaGreatDoorRsA
namespace Go.Proofs.YtjhhmeoibfdcmaaGreatDoor
open Go.RowKit Qd
set_option linter.unusedSimpArgs false
set_option linter.unusedVariables false

set_option maxRecDepth 100000 in
set_option maxHeartbeats 3200000 in
theorem radd1_any (P N : Int) (Q D B1 B2 : Nat) (w : World) (hS : RtD2 P N Q D B1 B2 w) (hP : in64 P) (hN : in64 N) (hQ : 1 ≤ Q) (hQ2 : Q < 2147483648) (hD : 1 ≤ D) (hD2 : D < 2147483648) (hT : TabW w) :
    Calls Tryz.prog 22 #[.pointer (some ⟨B1, 0, none⟩), .pointer (some ⟨B2, 0, none⟩)] w fun e w' => e = .returned (.tuple #[adV P N Q D, .int .i64 (fitE (adN P N Q D))]) ∧ Below w.heap.size w w' := by
  have HK := hide (fun W h => rsum_any P N Q D W hP hN hQ hQ2 hD hD2 h)
  have HT := hide hT
  obtain ⟨x, y, hxy⟩ := ad_form P N Q D
  rw [hxy] at HK ⊢
  obtain ⟨E, hE⟩ : ∃ E, fitE (adN P N Q D) = E := ⟨_, rfl⟩
  rw [hE] at HK ⊢
  obtain ⟨⟨b0, b1⟩, c0, c1⟩ := hS.cells
  have hl1 := hS.1.lt
  have hl2 := hS.2.lt
  have K0 := hide (BlkIs.new w #[.int .i64 0, .int .i64 0] 37)
  clear hS hxy hE hT
  simp only [ratV] at HK
  go_enter Tryz.func22, Tryz.ntmps22
  go_wp2_with fail
  refine (HK.out _ (HT.out.call (by (repeat' exact bel)))).mono ?_
  rintro e w3 ⟨rfl, hb3⟩
  obtain ⟨⟨r0, r1⟩, f0, f1, hsz⟩ := rat_blk (K0.out.call hb3)
  have HB3 := hide (show Below w.heap.size w w3 from (ww (n := w.heap.size) (w := w) hb3).out)
  clear hb3
  have hBel := HB3.out
  have hle := hBel.size
  go_wp2
  exact bodyPost_ret (v := .tuple #[.agg #[.int .i64 x, .int .i64 y], .int .i64 E]) (by simp (maxDischargeDepth := 9) [results, Tryz.results22, go_sem, r0, r1, f0, f1, hsz]) rfl ⟨rfl, by (repeat' exact bel)⟩

set_option maxRecDepth 100000 in
set_option maxHeartbeats 3200000 in
theorem rcountedA_any (P N : Int) (Q D B1 B2 : Nat) (w : World) (hS : RtD2 P N Q D B1 B2 w) (hP : in64 P) (hN : in64 N) (hQ : 1 ≤ Q) (hQ2 : Q < 2147483648) (hD : 1 ≤ D) (hD2 : D < 2147483648) (hg1 : Nat.gcd P.natAbs Q = 1) (hg2 : Nat.gcd N.natAbs D = 1) (hT : TabW w) :
    Calls Tryz.prog 19 #[ratV P Q, ratV N D, .func (.func 22) #[] #[.pointer (some ⟨B1, 0, none⟩), .pointer (some ⟨B2, 0, none⟩)]] w fun e w' => e = .returned (.tuple #[adV P N Q D, .int .i64 (fitE (adN P N Q D))]) ∧ Below w.heap.size w w' := by
  have HC1 := hide (fun W => rcheck_yes P Q W hP hQ (by omega) hg1)
  have HC2 := hide (fun W => rcheck_yes N D W hN hD (by omega) hg2)
  have HK := hide (fun W (h : RtD2 P N Q D B1 B2 W) (h2 : TabW W) => radd1_any P N Q D B1 B2 W h hP hN hQ hQ2 hD hD2 h2)
  obtain ⟨x, y, hxy⟩ := ad_form P N Q D
  rw [hxy] at HK ⊢
  obtain ⟨E, hE⟩ : ∃ E, fitE (adN P N Q D) = E := ⟨_, rfl⟩
  rw [hE] at HK ⊢
  have HS := hide hS
  have HT := hide hT
  have H0 := hide (suS_new P N Q D w)
  clear hS hxy hE hg1 hg2 hT
  simp only [ratV] at HC1 HC2 ⊢
  go_enter Tryz.func19, Tryz.ntmps19
  go_wp2_with fail
  refine (HC1.out _).mono ?_
  rintro e w1 ⟨rfl, hb1⟩
  have HS1 := hide (H0.out.call hb1)
  clear hb1
  obtain ⟨⟨c0, c1⟩, _, _, hz⟩ := rat_blk HS1.out.1.2
  go_wp2_with fail
  refine (HC2.out _).mono ?_
  rintro e w2 ⟨rfl, hb2⟩
  have HS2 := hide (HS1.out.call hb2)
  clear hb2 c0 c1 hz
  go_wp2_with fail
  refine (HK.out _ (HS.out.call HS2.out.2.2) (HT.out.call HS2.out.2.2)).mono ?_
  rintro e w3 ⟨rfl, hb3⟩
  have HS3 := hide (HS2.out.call hb3)
  clear hb3
  obtain ⟨⟨r0, r1⟩, f0, f1, hsz⟩ := rat_blk HS3.out.2.1
  have hBel := HS3.out.2.2
  have hle := hBel.size
  go_wp2
  exact bodyPost_ret (v := .tuple #[.agg #[.int .i64 x, .int .i64 y], .int .i64 E]) (by simp (maxDischargeDepth := 9) [results, Tryz.results19, go_sem, r0, r1, f0, f1, hsz]) rfl ⟨rfl, by (repeat' exact bel)⟩

set_option maxRecDepth 100000 in
set_option maxHeartbeats 3200000 in
theorem radd_any (P N : Int) (Q D : Nat) (w : World) (hP : in64 P) (hN : in64 N) (hQ : 1 ≤ Q) (hQ2 : Q < 2147483648) (hD : 1 ≤ D) (hD2 : D < 2147483648) (hg1 : Nat.gcd P.natAbs Q = 1) (hg2 : Nat.gcd N.natAbs D = 1) (hT : TabW w) :
    Calls Tryz.prog 11 #[ratV P Q, ratV N D] w fun e w' => e = .returned (.tuple #[adV P N Q D, .int .i64 (fitE (adN P N Q D))]) ∧ Below w.heap.size w w' := by
  have H0 := hide (suS_new P N Q D w)
  have HK := hide (fun W (h : RtD2 P N Q D w.heap.size (w.heap.size + 1) W) (h2 : TabW W) => rcountedA_any P N Q D w.heap.size (w.heap.size + 1) W h hP hN hQ hQ2 hD hD2 hg1 hg2 h2)
  have HT := hide hT
  obtain ⟨x, y, hxy⟩ := ad_form P N Q D
  rw [hxy] at HK ⊢
  obtain ⟨E, hE⟩ : ∃ E, fitE (adN P N Q D) = E := ⟨_, rfl⟩
  rw [hE] at HK ⊢
  clear hxy hE hg1 hg2 hT
  simp only [ratV] at HK ⊢
  go_enter Tryz.func11, Tryz.ntmps11
  go_wp2_with fail
  refine (HK.out _ H0.out.1 (HT.out.call (by (repeat' exact bel)))).mono ?_
  rintro e w3 ⟨rfl, hb3⟩
  have HS3 := hide (H0.out.call hb3)
  clear hb3
  obtain ⟨⟨r0, r1⟩, f0, f1, hsz⟩ := rat_blk HS3.out.2.1
  have hBel := HS3.out.2.2
  have hle := hBel.size
  go_wp2
  exact bodyPost_ret (v := .tuple #[.agg #[.int .i64 x, .int .i64 y], .int .i64 E]) (by simp (maxDischargeDepth := 9) [results, Tryz.results11, go_sem, r0, r1, f0, f1, hsz]) rfl ⟨rfl, by (repeat' exact bel)⟩
end Go.Proofs.YtjhhmeoibfdcmaaGreatDoor
