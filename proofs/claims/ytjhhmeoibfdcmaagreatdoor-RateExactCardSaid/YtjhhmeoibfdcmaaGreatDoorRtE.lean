/- Package ratio: Mul. -/
import Derived.Test.YtjhhmeoibfdcmaaGreatDoorRtD
namespace Go.Proofs.YtjhhmeoibfdcmaaGreatDoor
open Go.RowKit Qd
set_option linter.unusedSimpArgs false
set_option linter.unusedVariables false

/-- Two ratios that came in, and one that goes out. -/
def CtS (a : Int) (X D : Nat) (w0 w : World) : Prop := BlkIs w w0.heap.size #[.int .i64 a, .int .i64 1] 37 ∧ BlkIs w (w0.heap.size + 1) #[.int .i64 (X : Int), .int .i64 (D : Int)] 37 ∧ BlkIs w (w0.heap.size + 1 + 1) #[.int .i64 0, .int .i64 0] 37 ∧ Below w0.heap.size w0 w
theorem ctS_new (a : Int) (X D : Nat) (w : World) : CtS a X D w (((w.alloc (.cells #[.int .i64 a, .int .i64 1] 37)).alloc (.cells #[.int .i64 (X : Int), .int .i64 (D : Int)] 37)).alloc (.cells #[.int .i64 0, .int .i64 0] 37)) := by
  refine ⟨((BlkIs.new w _ _).alloc _).alloc _, ?_, ?_, by (repeat' exact bel)⟩
  · have h := (BlkIs.new (w.alloc (.cells #[.int .i64 a, .int .i64 1] 37)) #[.int .i64 (X : Int), .int .i64 (D : Int)] 37).alloc (.cells #[.int .i64 0, .int .i64 0] 37)
    simpa using h
  · have h := BlkIs.new ((w.alloc (.cells #[.int .i64 a, .int .i64 1] 37)).alloc (.cells #[.int .i64 (X : Int), .int .i64 (D : Int)] 37)) #[.int .i64 0, .int .i64 0] 37
    simpa using h
theorem CtS.call {a : Int} {X D : Nat} {w0 w w' : World} (h : CtS a X D w0 w) (hb : Below w.heap.size w w') : CtS a X D w0 w' := by
  refine ⟨h.1.call hb, h.2.1.call hb, h.2.2.1.call hb, h.2.2.2.trans (hb.mono h.2.2.2.size)⟩

set_option maxRecDepth 100000 in
set_option maxHeartbeats 3200000 in
theorem rcounted_any (a : Int) (X D B1 B2 : Nat) (w : World) (hS : RtS a X D B1 B2 w) (ha : in64 a) (hX : X ≤ 9223372036854775807) (h1 : 1 ≤ D) (h2 : D ≤ 9223372036854775807) (hg : Nat.gcd X D = 1) :
    Calls Tryz.prog 19 #[ratV a 1, ratV X D, .func (.func 20) #[] #[.pointer (some ⟨B1, 0, none⟩), .pointer (some ⟨B2, 0, none⟩)]] w fun e w' => e = .returned (.tuple #[exV a X D, .int .i64 (fitE (exN a X D))]) ∧ Below w.heap.size w w' := by
  have HC1 := hide (fun W => rcheck_yes a 1 W ha (by omega) (by omega) (Nat.gcd_one_right _))
  have HC2 := hide (fun W => rcheck_yes X D W (by unfold in64; omega) h1 h2 (by simpa using hg))
  have HK := hide (fun W (h : RtS a X D B1 B2 W) => rmul1_any a X D B1 B2 W h ha hX h1 h2)
  obtain ⟨x, y, hxy⟩ := ex_form a X D
  rw [hxy] at HK ⊢
  obtain ⟨E, hE⟩ : ∃ E, fitE (exN a X D) = E := ⟨_, rfl⟩
  rw [hE] at HK ⊢
  have HS := hide hS
  have H0 := hide (ctS_new a X D w)
  clear hS hxy hE hg
  simp only [ratV, Int.natCast_one] at HC1 HC2 ⊢
  go_enter Tryz.func19, Tryz.ntmps19
  go_wp2_with fail
  refine (HC1.out _).mono ?_
  rintro e w1 ⟨rfl, hb1⟩
  have HS1 := hide (H0.out.call hb1)
  clear hb1
  obtain ⟨⟨c0, c1⟩, _, _, hz⟩ := rat_blk HS1.out.2.1
  go_wp2_with fail
  refine (HC2.out _).mono ?_
  rintro e w2 ⟨rfl, hb2⟩
  have HS2 := hide (HS1.out.call hb2)
  clear hb2 c0 c1 hz
  go_wp2_with fail
  refine (HK.out _ (HS.out.call HS2.out.2.2.2)).mono ?_
  rintro e w3 ⟨rfl, hb3⟩
  have HS3 := hide (HS2.out.call hb3)
  clear hb3
  obtain ⟨⟨r0, r1⟩, f0, f1, hsz⟩ := rat_blk HS3.out.2.2.1
  have hBel := HS3.out.2.2.2
  have hle := hBel.size
  go_wp2
  exact bodyPost_ret (v := .tuple #[.agg #[.int .i64 x, .int .i64 y], .int .i64 E]) (by simp (maxDischargeDepth := 9) [results, Tryz.results19, go_sem, r0, r1, f0, f1, hsz]) rfl ⟨rfl, by (repeat' exact bel)⟩

set_option maxRecDepth 100000 in
set_option maxHeartbeats 3200000 in
theorem rmul_any (a : Int) (X D : Nat) (w : World) (ha : in64 a) (hX : X ≤ 9223372036854775807) (h1 : 1 ≤ D) (h2 : D ≤ 9223372036854775807) (hg : Nat.gcd X D = 1) :
    Calls Tryz.prog 10 #[ratV a 1, ratV X D] w fun e w' => e = .returned (.tuple #[exV a X D, .int .i64 (fitE (exN a X D))]) ∧ Below w.heap.size w w' := by
  have H0 := hide (ctS_new a X D w)
  have HK := hide (fun W (h : RtS a X D w.heap.size (w.heap.size + 1) W) => rcounted_any a X D w.heap.size (w.heap.size + 1) W h ha hX h1 h2 hg)
  obtain ⟨x, y, hxy⟩ := ex_form a X D
  rw [hxy] at HK ⊢
  obtain ⟨E, hE⟩ : ∃ E, fitE (exN a X D) = E := ⟨_, rfl⟩
  rw [hE] at HK ⊢
  clear hxy hE hg
  simp only [ratV, Int.natCast_one] at HK ⊢
  go_enter Tryz.func10, Tryz.ntmps10
  go_wp2_with fail
  refine (HK.out _ ⟨H0.out.1, H0.out.2.1⟩).mono ?_
  rintro e w3 ⟨rfl, hb3⟩
  have HS3 := hide (H0.out.call hb3)
  clear hb3
  obtain ⟨⟨r0, r1⟩, f0, f1, hsz⟩ := rat_blk HS3.out.2.2.1
  have hBel := HS3.out.2.2.2
  have hle := hBel.size
  go_wp2
  exact bodyPost_ret (v := .tuple #[.agg #[.int .i64 x, .int .i64 y], .int .i64 E]) (by simp (maxDischargeDepth := 9) [results, Tryz.results10, go_sem, r0, r1, f0, f1, hsz]) rfl ⟨rfl, by (repeat' exact bel)⟩
end Go.Proofs.YtjhhmeoibfdcmaaGreatDoor
