/- Package ratio: the product of a whole number and a ratio. Package ratio: the product: the walks. -/
import Derived.Deep.RegionHeld3
import Derived.Test.YtjhhmeoibfdcmaaGreatUq47
set_option linter.unusedSimpArgs false
set_option linter.unusedVariables false
set_option maxRecDepth 100000
set_option maxHeartbeats 12800000
namespace Go.Proofs.YtjhhmeoibfdcmaaGreat
open Go.RowKit Qd
theorem mk_bd (b:Bool) (n d high:Nat):∃ x y:Int,mkV b n d high=.agg #[.int .i64 x,.int .i64 y]:=by
  unfold mkV ratV
  split <;> exact ⟨_,_,rfl⟩
theorem rcross_one (b:Bool) (n m c:Nat) (w:World) (hn:n<18446744073709551616) (hm:m≤9223372036854775807) (hc:1≤c) (hc2:c≤9223372036854775807) :
    Calls Tryz.prog 183 #[.bool b,.int .u64 n,.int .u64 1,.int .u64 m,.int .u64 c] w fun e w'=>e=.returned (.tuple #[mkV (b&&decide (0<n / Nat.gcd n c*m % 18446744073709551616)) (n / Nat.gcd n c*m % 18446744073709551616) (c / Nat.gcd n c) (n / Nat.gcd n c*m / 18446744073709551616),.int .i64 (mkE (b&&decide (0<n / Nat.gcd n c*m % 18446744073709551616)) (n / Nat.gcd n c*m % 18446744073709551616) (c / Nat.gcd n c) (n / Nat.gcd n c*m / 18446744073709551616))])∧Below w.heap.size w w':=by
  have hg0:0<Nat.gcd n c:=Nat.gcd_pos_of_pos_right _ (by omega)
  have HC1:=hide (fun W=>rcommon_any n c W (by omega) (by omega))
  have HC2:=hide (fun W=>show Calls Tryz.prog 178 #[.int .u64 (m:Int),.int .u64 1] W fun e w'=>e=.returned (.int .u64 1)∧Below W.heap.size W w' from (rcommon_any m 1 W (by omega) (by omega)).mono fun _ _ h=>by rw [Nat.gcd_one_right] at h;exact h)
  have hN:n / Nat.gcd n c<18446744073709551616:=Nat.lt_of_le_of_lt (Nat.div_le_self _ _) hn
  have hC:c / Nat.gcd n c≤9223372036854775807:=Nat.le_trans (Nat.div_le_self _ _) hc2
  have hm2:=nat_tdiv m 1
  rw [Nat.div_one] at hm2
  have hnd:=nat_tdiv n (Nat.gcd n c)
  have hcd:=nat_tdiv c (Nat.gcd n c)
  generalize Nat.gcd n c=g at *
  generalize n / g=N at *
  generalize c / g=D at *
  have HM1:=hide (fun W=>mul64_any N m hN (by omega) W)
  have HM2:=hide (fun W=>show Calls Tryz.prog 216 #[.int .u64 1,.int .u64 (D:Int)] W fun e w'=>e=.returned (.tuple #[.int .u64 0,.int .u64 (D:Int)])∧W=w' from (mul64_any 1 D (by omega) (by omega) W).mono fun _ _ h=>by
    rw [show 1*D / 18446744073709551616=0 by omega,show 1*D % 18446744073709551616=D by omega] at h;exact h)
  obtain ⟨num,hnum⟩:∃ x,N*m % 18446744073709551616=x:=⟨_,rfl⟩
  obtain ⟨ov,hov⟩:∃ x,N*m / 18446744073709551616=x:=⟨_,rfl⟩
  have hnl:num<18446744073709551616:=by rw [← hnum];exact Nat.mod_lt _ (by decide)
  have hol:ov<18446744073709551616:=by
    rw [← hov]
    refine Nat.div_lt_of_lt_mul ?_
    exact Nat.lt_of_lt_of_le (Nat.mul_lt_mul_of_lt_of_le hN (show m≤18446744073709551616 by omega) (by decide)) (by decide)
  rw [hnum,hov] at HM1 ⊢
  have HK:=hide (fun W=>rmade_any (b&&decide (0<num)) num D ov W hnl (by omega) hol)
  obtain ⟨x,y,hxy⟩:=mk_bd (b&&decide (0<num)) num D ov
  rw [hxy] at HK ⊢
  obtain ⟨E,hE⟩:∃ E,mkE (b&&decide (0<num)) num D ov=E:=⟨_,rfl⟩
  rw [hE] at HK ⊢
  clear hnum hov hxy hE
  have hg1:¬ (g:Int)=0:=by omega
  have hg2:¬ g=0:=by omega
  have hwN:=m64_wrap N (by omega)
  have hwD:=m64_wrap D (by omega)
  have hwm:=m64_wrap m (by omega)
  go_enter Tryz.func183,Tryz.ntmps183
  go_wp2_with fail
  refine (HC1.out _).mono ?_
  rintro e w1 ⟨rfl,hb1⟩
  have K1:=hide (BlkIs.call (BlkIs.new w #[.int .i64 0,.int .i64 0] 125) hb1)
  have HB1:=hide (show Below w.heap.size w w1 from (ww (n:=w.heap.size) (w:=w) hb1).out)
  clear hb1
  go_wp2_with fail
  refine (HC2.out _).mono ?_
  rintro e w2 ⟨rfl,hb2⟩
  have K2:=hide (K1.out.call hb2)
  have HB2:=hide (show Below w.heap.size w w2 from HB1.out.trans (hb2.mono HB1.out.size))
  clear hb2
  go_wp2_with fail
  refine wp_region_any (by kernel_rfl) ?_
  change wpAny _ _ _ _ _ _ _ (World.drew w2)
  have K3:=hide (K2.out.call (by (repeat' exact bel):Below w2.heap.size w2 w2.drew))
  have HB3:=hide (show Below w.heap.size w w2.drew from by have h:=HB2.out;(repeat' exact bel))
  generalize w2.drew=w3 at *
  refine wpAny_take (i:=0) (v:=?_) rfl (by kernel_rfl) (by kernel_rfl) (by kernel_rfl) (fun _ _ _ h=>h) (Or.inl ⟨by rfl,?_⟩) ?_
  rotate_left
  · (intro wz;go_simp;try with_reducible rfl)
  refine wpAny_take (i:=1) (v:=?_) rfl (by kernel_rfl) (by kernel_rfl) (by kernel_rfl) (fun _ _ _ h=>h) (Or.inl ⟨by rfl,?_⟩) ?_
  rotate_left
  · (intro wz;go_simp;try with_reducible rfl)
  refine wpAny_take (i:=2) (v:=?_) rfl (by kernel_rfl) (by kernel_rfl) (by kernel_rfl) (fun _ _ _ h=>h) (Or.inl ⟨by rfl,?_⟩) ?_
  rotate_left
  · (intro wz;go_simp;try with_reducible rfl)
  refine wpAny_take (i:=3) (v:=?_) rfl (by kernel_rfl) (by kernel_rfl) (by kernel_rfl) (fun _ _ _ h=>h) (Or.inl ⟨by rfl,?_⟩) ?_
  rotate_left
  · (intro wz;go_simp;try with_reducible rfl)
  refine wpAny_take (i:=4) (v:=?_) rfl (by kernel_rfl) (by kernel_rfl) (by kernel_rfl) (fun _ _ _ h=>h) (Or.inl ⟨by rfl,?_⟩) ?_
  rotate_left
  · (intro wz;go_simp;try with_reducible rfl)
  refine wpAny_take (i:=5) (v:=?_) rfl (by kernel_rfl) (by kernel_rfl) (by kernel_rfl) (fun _ _ _ h=>h) (Or.inl ⟨by rfl,?_⟩) ?_
  rotate_left
  · (intro wz;go_simp;try with_reducible rfl)
  refine wpAny_ready (rs:=[6]) (by kernel_rfl) (by simp) ?_
  refine AllReady.cons rfl (fun K hK=>?_) AllReady.nil
  go_simp
  refine (HM1.out _).mono ?_
  rintro e w4 ⟨rfl,rfl⟩
  refine hK _ _ ?_
  clear hK K
  refine wpAny_take (i:=7) (v:=?_) rfl (by kernel_rfl) (by kernel_rfl) (by kernel_rfl) (fun _ _ _ h=>h) (Or.inl ⟨by rfl,?_⟩) ?_
  rotate_left
  · (intro wz;go_simp;try with_reducible rfl)
  refine wpAny_take (i:=8) (v:=?_) rfl (by kernel_rfl) (by kernel_rfl) (by kernel_rfl) (fun _ _ _ h=>h) (Or.inl ⟨by rfl,?_⟩) ?_
  rotate_left
  · (intro wz;go_simp;try with_reducible rfl)
  refine wpAny_take (i:=9) (v:=?_) rfl (by kernel_rfl) (by kernel_rfl) (by kernel_rfl) (fun _ _ _ h=>h) (Or.inl ⟨by rfl,?_⟩) ?_
  rotate_left
  · (intro wz;go_simp;try with_reducible rfl)
  refine wpAny_take (i:=10) (v:=?_) rfl (by kernel_rfl) (by kernel_rfl) (by kernel_rfl) (fun _ _ _ h=>h) (Or.inl ⟨by rfl,?_⟩) ?_
  rotate_left
  · (intro wz;go_simp;try with_reducible rfl)
  refine wpAny_take (i:=11) (v:=?_) rfl (by kernel_rfl) (by kernel_rfl) (by kernel_rfl) (fun _ _ _ h=>h) (Or.inl ⟨by rfl,?_⟩) ?_
  rotate_left
  · (intro wz;go_simp;try with_reducible rfl)
  refine wpAny_done (by kernel_rfl) ?_ _
  go_simp
  go_wp2_with fail
  refine wp_region_any (by kernel_rfl) ?_
  change wpAny _ _ _ _ _ _ _ (World.drew w3)
  have K4:=hide (K3.out.call (by (repeat' exact bel):Below w3.heap.size w3 w3.drew))
  have HB4:=hide (show Below w.heap.size w w3.drew from by have h:=HB3.out;(repeat' exact bel))
  generalize w3.drew=w4 at *
  refine wpAny_take (i:=0) (v:=?_) rfl (by kernel_rfl) (by kernel_rfl) (by kernel_rfl) (fun _ _ _ h=>h) (Or.inl ⟨by rfl,?_⟩) ?_
  rotate_left
  · (intro wz;go_simp;try with_reducible rfl)
  refine wpAny_take (i:=1) (v:=?_) rfl (by kernel_rfl) (by kernel_rfl) (by kernel_rfl) (fun _ _ _ h=>h) (Or.inl ⟨by rfl,?_⟩) ?_
  rotate_left
  · (intro wz;go_simp;try with_reducible rfl)
  refine wpAny_take (i:=2) (v:=?_) rfl (by kernel_rfl) (by kernel_rfl) (by kernel_rfl) (fun _ _ _ h=>h) (Or.inl ⟨by rfl,?_⟩) ?_
  rotate_left
  · (intro wz;go_simp;try with_reducible rfl)
  refine wpAny_take (i:=3) (v:=?_) rfl (by kernel_rfl) (by kernel_rfl) (by kernel_rfl) (fun _ _ _ h=>h) (Or.inl ⟨by rfl,?_⟩) ?_
  rotate_left
  · (intro wz;go_simp;try with_reducible rfl)
  refine wpAny_take (i:=4) (v:=?_) rfl (by kernel_rfl) (by kernel_rfl) (by kernel_rfl) (fun _ _ _ h=>h) (Or.inl ⟨by rfl,?_⟩) ?_
  rotate_left
  · (intro wz;go_simp;try with_reducible rfl)
  refine wpAny_take (i:=5) (v:=?_) rfl (by kernel_rfl) (by kernel_rfl) (by kernel_rfl) (fun _ _ _ h=>h) (Or.inl ⟨by rfl,?_⟩) ?_
  rotate_left
  · (intro wz;go_simp;try with_reducible rfl)
  refine wpAny_ready (rs:=[6]) (by kernel_rfl) (by simp) ?_
  refine AllReady.cons rfl (fun K hK=>?_) AllReady.nil
  go_simp
  refine (HM2.out _).mono ?_
  rintro e w5 ⟨rfl,rfl⟩
  refine hK _ _ ?_
  clear hK K
  refine wpAny_take (i:=7) (v:=?_) rfl (by kernel_rfl) (by kernel_rfl) (by kernel_rfl) (fun _ _ _ h=>h) (Or.inl ⟨by rfl,?_⟩) ?_
  rotate_left
  · (intro wz;go_simp;try with_reducible rfl)
  refine wpAny_take (i:=8) (v:=?_) rfl (by kernel_rfl) (by kernel_rfl) (by kernel_rfl) (fun _ _ _ h=>h) (Or.inl ⟨by rfl,?_⟩) ?_
  rotate_left
  · (intro wz;go_simp;try with_reducible rfl)
  refine wpAny_take (i:=9) (v:=?_) rfl (by kernel_rfl) (by kernel_rfl) (by kernel_rfl) (fun _ _ _ h=>h) (Or.inl ⟨by rfl,?_⟩) ?_
  rotate_left
  · (intro wz;go_simp;try with_reducible rfl)
  refine wpAny_take (i:=10) (v:=?_) rfl (by kernel_rfl) (by kernel_rfl) (by kernel_rfl) (fun _ _ _ h=>h) (Or.inl ⟨by rfl,?_⟩) ?_
  rotate_left
  · (intro wz;go_simp;try with_reducible rfl)
  refine wpAny_take (i:=11) (v:=?_) rfl (by kernel_rfl) (by kernel_rfl) (by kernel_rfl) (fun _ _ _ h=>h) (Or.inl ⟨by rfl,?_⟩) ?_
  rotate_left
  · (intro wz;go_simp;try with_reducible rfl)
  refine wpAny_done (by kernel_rfl) ?_ _
  go_simp
  have hor:bits .or .u64 (ov:Int) 0=(ov:Int):=by
    have h:=bits_or_u64_nat ov 0 hol (by omega)
    rw [Nat.or_zero] at h
    exact h
  have HKK:=hide (fun W (q:Bool) (h:q=(b&&decide (0<num)))=>show Calls Tryz.prog 180 #[.bool q,.int .u64 num,.int .u64 D,.int .u64 ov] W fun e w'=>e=.returned (.tuple #[.agg #[.int .i64 x,.int .i64 y],.int .i64 E])∧Below W.heap.size W w' from by rw [h];exact HK.out W)
  clear HK
  cases b
  all_goals
    cases hnp:decide (0<num)
    all_goals
      go_wp2_with fail
      try rw [hor]
      refine (HKK.out _ _ (by first | rfl | (rw [hnp];rfl))).mono ?_
      rintro e w5 ⟨rfl,hb5⟩
      obtain ⟨⟨r0,r1⟩,f0,f1,hsz⟩:=rat_blk (K4.out.call hb5)
      have HB5:=hide (show Below w.heap.size w w5 from HB4.out.trans (hb5.mono HB4.out.size))
      clear hb5
      have hBel:=HB5.out
      have hle:=hBel.size
      go_wp2
      exact bodyPost_ret (v:=.tuple #[.agg #[.int .i64 x,.int .i64 y],.int .i64 E]) (by simp (maxDischargeDepth:=9) [results,Tryz.results183,go_sem,r0,r1,f0,f1,hsz]) rfl ⟨rfl,by (repeat' exact bel)⟩
end Go.Proofs.YtjhhmeoibfdcmaaGreat
namespace Go.Proofs.YtjhhmeoibfdcmaaGreat
open Go.RowKit Qd
theorem rcross_ex (a:Int) (X D:Nat) (w:World) (ha:in64 a) (hX:X≤9223372036854775807) (h1:1≤D) (h2:D≤9223372036854775807) :
    Calls Tryz.prog 183 #[.bool (decide (a<0)),.int .u64 (a.natAbs:Int),.int .u64 1,.int .u64 X,.int .u64 D] w fun e w'=>e=.returned (.tuple #[exV a X D,.int .i64 (fitE (exN a X D))])∧Below w.heap.size w w':=by
  have h:=mk_ex a X D (Nat.le_trans (exM_le a D) h2)
  unfold exM exP at h
  refine (rcross_one (decide (a<0)) a.natAbs X D w (by unfold in64 at ha;omega) hX h1 h2).mono ?_
  rintro e w' ⟨he,hb⟩
  exact ⟨by rw [he,h.1,h.2],hb⟩
def RtS (a:Int) (X D:Nat) (B1 B2:Nat) (w:World):Prop:=BlkIs w B1 #[.int .i64 a,.int .i64 1] 125∧BlkIs w B2 #[.int .i64 (X:Int),.int .i64 (D:Int)] 125
theorem RtS.call {a:Int} {X D B1 B2:Nat} {w w':World} (h:RtS a X D B1 B2 w) (hb:Below w.heap.size w w'):RtS a X D B1 B2 w':=⟨h.1.call hb,h.2.call hb⟩
theorem RtS.cells {a:Int} {X D B1 B2:Nat} {w:World} (h:RtS a X D B1 B2 w):(w.cell? ⟨B1,0,none⟩=some (.int .i64 a)∧w.cell? ⟨B1,1,none⟩=some (.int .i64 1))∧(w.cell? ⟨B2,0,none⟩=some (.int .i64 (X:Int))∧w.cell? ⟨B2,1,none⟩=some (.int .i64 (D:Int))):=
  ⟨⟨h.1.cell 0,h.1.cell 1⟩,h.2.cell 0,h.2.cell 1⟩
theorem rmul1_any (a:Int) (X D B1 B2:Nat) (w:World) (hS:RtS a X D B1 B2 w) (ha:in64 a) (hX:X≤9223372036854775807) (h1:1≤D) (h2:D≤9223372036854775807) :
    Calls Tryz.prog 182 #[.pointer (some ⟨B1,0,none⟩),.pointer (some ⟨B2,0,none⟩)] w fun e w'=>e=.returned (.tuple #[exV a X D,.int .i64 (fitE (exN a X D))])∧Below w.heap.size w w':=by
  have HSA:=hide (fun W=>rsize_any a W ha)
  have HSX:=hide (fun W=>show Calls Tryz.prog 179 #[.int .i64 (X:Int)] W fun e w'=>e=.returned (.int .u64 (X:Int))∧W=w' from rsize_any X W (by unfold in64;omega))
  have HK:=hide (fun W=>rcross_ex a X D W ha hX h1 h2)
  obtain ⟨x,y,hxy⟩:=ex_form a X D
  rw [hxy] at HK ⊢
  obtain ⟨E,hE⟩:∃ E,fitE (exN a X D)=E:=⟨_,rfl⟩
  rw [hE] at HK ⊢
  have hwD:=m64_wrap D (by omega)
  have hab:(!(decide (a<0)==decide ((X:Int)<0)))=decide (a<0):=by
    rw [show decide ((X:Int)<0)=false by simp];simp
  have hw1:IntKind.u64.wrap 1=1:=by simp only [IntKind.wrap_u64];omega
  have HS:=hide hS
  obtain ⟨⟨b0,b1⟩,c0,c1⟩:=hS.cells
  have hl1:=hS.1.lt
  have hl2:=hS.2.lt
  have K0:=hide (BlkIs.new w #[.int .i64 0,.int .i64 0] 125)
  clear hS hxy hE
  go_enter Tryz.func182,Tryz.ntmps182
  go_wp2_with fail
  have HSW:=hide (HS.out.call (by (repeat' exact bel):Below w.heap.size w (w.alloc (.cells #[.int .i64 0,.int .i64 0] 125)).drew)).cells
  have K1:=hide (K0.out.call (by (repeat' exact bel):Below (w.alloc (.cells #[.int .i64 0,.int .i64 0] 125)).heap.size (w.alloc (.cells #[.int .i64 0,.int .i64 0] 125)) (w.alloc (.cells #[.int .i64 0,.int .i64 0] 125)).drew))
  have HB1:=hide (show Below w.heap.size w (w.alloc (.cells #[.int .i64 0,.int .i64 0] 125)).drew from by (repeat' exact bel))
  refine wp_region_held_drew (S:=fun w'=>(w'.cell? ⟨B1,0,none⟩=some (.int .i64 a)∧w'.cell? ⟨B1,1,none⟩=some (.int .i64 1))∧(w'.cell? ⟨B2,0,none⟩=some (.int .i64 (X:Int))∧w'.cell? ⟨B2,1,none⟩=some (.int .i64 (D:Int)))) (by kernel_rfl) HSW.out (fun _=>?_)
  generalize (w.alloc (.cells #[.int .i64 0,.int .i64 0] 125)).drew=w1 at *
  refine wpAnyH_take (i:=0) (v:=?_) rfl (by kernel_rfl) (by kernel_rfl) (by kernel_rfl) (fun _ _ _ h=>h) (Or.inl ⟨by rfl,?_⟩) (HSW.out) ?_
  rotate_left
  · (intro wz hz;obtain ⟨⟨z0,z1⟩,z2,z3⟩:=hz;go_simp;try with_reducible rfl)
  refine wpAnyH_take (i:=1) (v:=?_) rfl (by kernel_rfl) (by kernel_rfl) (by kernel_rfl) (fun _ _ _ h=>h) (Or.inl ⟨by rfl,?_⟩) (HSW.out) ?_
  rotate_left
  · (intro wz hz;obtain ⟨⟨z0,z1⟩,z2,z3⟩:=hz;go_simp;try with_reducible rfl)
  refine wpAnyH_take (i:=2) (v:=?_) rfl (by kernel_rfl) (by kernel_rfl) (by kernel_rfl) (fun _ _ _ h=>h) (Or.inl ⟨by rfl,?_⟩) (HSW.out) ?_
  rotate_left
  · (intro wz hz;obtain ⟨⟨z0,z1⟩,z2,z3⟩:=hz;go_simp;try with_reducible rfl)
  refine wpAnyH_take (i:=3) (v:=?_) rfl (by kernel_rfl) (by kernel_rfl) (by kernel_rfl) (fun _ _ _ h=>h) (Or.inl ⟨by rfl,?_⟩) (HSW.out) ?_
  rotate_left
  · (intro wz hz;obtain ⟨⟨z0,z1⟩,z2,z3⟩:=hz;go_simp;try with_reducible rfl)
  refine wpAnyH_take (i:=4) (v:=?_) rfl (by kernel_rfl) (by kernel_rfl) (by kernel_rfl) (fun _ _ _ h=>h) (Or.inl ⟨by rfl,?_⟩) (HSW.out) ?_
  rotate_left
  · (intro wz hz;obtain ⟨⟨z0,z1⟩,z2,z3⟩:=hz;go_simp;try with_reducible rfl)
  refine wpAnyH_take (i:=5) (v:=?_) rfl (by kernel_rfl) (by kernel_rfl) (by kernel_rfl) (fun _ _ _ h=>h) (Or.inl ⟨by rfl,?_⟩) (HSW.out) ?_
  rotate_left
  · (intro wz hz;obtain ⟨⟨z0,z1⟩,z2,z3⟩:=hz;go_simp;try with_reducible rfl)
  refine wpAnyH_take (i:=6) (v:=?_) rfl (by kernel_rfl) (by kernel_rfl) (by kernel_rfl) (fun _ _ _ h=>h) (Or.inl ⟨by rfl,?_⟩) (HSW.out) ?_
  rotate_left
  · (intro wz hz;obtain ⟨⟨z0,z1⟩,z2,z3⟩:=hz;go_simp;try with_reducible rfl)
  refine wpAnyH_take (i:=7) (v:=?_) rfl (by kernel_rfl) (by kernel_rfl) (by kernel_rfl) (fun _ _ _ h=>h) (Or.inl ⟨by rfl,?_⟩) (HSW.out) ?_
  rotate_left
  · (intro wz hz;obtain ⟨⟨z0,z1⟩,z2,z3⟩:=hz;go_simp;try with_reducible rfl)
  refine wpAnyH_take (i:=8) (v:=?_) rfl (by kernel_rfl) (by kernel_rfl) (by kernel_rfl) (fun _ _ _ h=>h) (Or.inl ⟨by rfl,?_⟩) (HSW.out) ?_
  rotate_left
  · (intro wz hz;obtain ⟨⟨z0,z1⟩,z2,z3⟩:=hz;go_simp;try with_reducible rfl)
  refine wpAnyH_take (i:=10) (v:=?_) rfl (by kernel_rfl) (by kernel_rfl) (by kernel_rfl) (fun _ _ _ h=>h) (Or.inl ⟨by rfl,?_⟩) (HSW.out) ?_
  rotate_left
  · (intro wz hz;obtain ⟨⟨z0,z1⟩,z2,z3⟩:=hz;go_simp;try with_reducible rfl)
  refine wpAnyH_take (i:=11) (v:=?_) rfl (by kernel_rfl) (by kernel_rfl) (by kernel_rfl) (fun _ _ _ h=>h) (Or.inl ⟨by rfl,?_⟩) (HSW.out) ?_
  rotate_left
  · (intro wz hz;obtain ⟨⟨z0,z1⟩,z2,z3⟩:=hz;go_simp;try with_reducible rfl)
  refine wpAnyH_take (i:=12) (v:=?_) rfl (by kernel_rfl) (by kernel_rfl) (by kernel_rfl) (fun _ _ _ h=>h) (Or.inl ⟨by rfl,?_⟩) (HSW.out) ?_
  rotate_left
  · (intro wz hz;obtain ⟨⟨z0,z1⟩,z2,z3⟩:=hz;go_simp;try with_reducible rfl)
  refine wpAnyH_take (i:=13) (v:=?_) rfl (by kernel_rfl) (by kernel_rfl) (by kernel_rfl) (fun _ _ _ h=>h) (Or.inl ⟨by rfl,?_⟩) (HSW.out) ?_
  rotate_left
  · (intro wz hz;obtain ⟨⟨z0,z1⟩,z2,z3⟩:=hz;go_simp;try with_reducible rfl)
  refine wpAnyH_take (i:=14) (v:=?_) rfl (by kernel_rfl) (by kernel_rfl) (by kernel_rfl) (fun _ _ _ h=>h) (Or.inl ⟨by rfl,?_⟩) (HSW.out) ?_
  rotate_left
  · (intro wz hz;obtain ⟨⟨z0,z1⟩,z2,z3⟩:=hz;go_simp;try with_reducible rfl)
  refine wpAnyH_take (i:=16) (v:=?_) rfl (by kernel_rfl) (by kernel_rfl) (by kernel_rfl) (fun _ _ _ h=>h) (Or.inl ⟨by rfl,?_⟩) (HSW.out) ?_
  rotate_left
  · (intro wz hz;obtain ⟨⟨z0,z1⟩,z2,z3⟩:=hz;go_simp;try with_reducible rfl)
  refine wpAnyH_take (i:=17) (v:=?_) rfl (by kernel_rfl) (by kernel_rfl) (by kernel_rfl) (fun _ _ _ h=>h) (Or.inl ⟨by rfl,?_⟩) (HSW.out) ?_
  rotate_left
  · (intro wz hz;obtain ⟨⟨z0,z1⟩,z2,z3⟩:=hz;go_simp;try with_reducible rfl)
  refine wpAnyH_take (i:=18) (v:=?_) rfl (by kernel_rfl) (by kernel_rfl) (by kernel_rfl) (fun _ _ _ h=>h) (Or.inl ⟨by rfl,?_⟩) (HSW.out) ?_
  rotate_left
  · (intro wz hz;obtain ⟨⟨z0,z1⟩,z2,z3⟩:=hz;go_simp;try with_reducible rfl)
  refine wpAnyH_ready (rs:=[9]) (by kernel_rfl) (by simp) ?_
  refine AllReadyH.cons rfl (fun K hK=>?_) AllReadyH.nil
  go_simp
  refine (HSA.out _).mono ?_
  rintro e w2 ⟨rfl,rfl⟩
  refine hK.out _ _ (HSW.out) (fun _=>?_)
  clear hK K
  refine wpAnyH_ready (rs:=[15]) (by kernel_rfl) (by simp) ?_
  refine AllReadyH.cons rfl (fun K hK=>?_) AllReadyH.nil
  go_simp
  refine (HSX.out _).mono ?_
  rintro e w3 ⟨rfl,rfl⟩
  refine hK.out _ _ (HSW.out) (fun _=>?_)
  clear hK K
  refine wpAnyH_ready (rs:=[19]) (by kernel_rfl) (by simp) ?_
  refine AllReadyH.cons rfl (fun K hK=>?_) AllReadyH.nil
  go_simp
  try rw [hab,hw1]
  refine (HK.out _).mono ?_
  rintro e w2 ⟨rfl,hb2⟩
  have HSW2:=hide (show (w2.cell? ⟨B1,0,none⟩=some (.int .i64 a)∧w2.cell? ⟨B1,1,none⟩=some (.int .i64 1))∧(w2.cell? ⟨B2,0,none⟩=some (.int .i64 (X:Int))∧w2.cell? ⟨B2,1,none⟩=some (.int .i64 (D:Int))) from (HS.out.call (HB1.out.trans (hb2.mono HB1.out.size))).cells)
  obtain ⟨⟨r0,r1⟩,f0,f1,hsz⟩:=rat_blk (K1.out.call hb2)
  have HB2:=hide (show Below w.heap.size w w2 from HB1.out.trans (hb2.mono HB1.out.size))
  clear hb2
  have hBel:=HB2.out
  have hle:=hBel.size
  refine hK.out _ _ (HSW2.out) (fun _=>?_)
  clear hK K
  refine wpAnyH_take (i:=20) (v:=?_) rfl (by kernel_rfl) (by kernel_rfl) (by kernel_rfl) (fun _ _ _ h=>h) (Or.inl ⟨by rfl,?_⟩) (HSW2.out) ?_
  rotate_left
  · (intro wz hz;obtain ⟨⟨z0,z1⟩,z2,z3⟩:=hz;go_simp;try with_reducible rfl)
  refine wpAnyH_take (i:=21) (v:=?_) rfl (by kernel_rfl) (by kernel_rfl) (by kernel_rfl) (fun _ _ _ h=>h) (Or.inl ⟨by rfl,?_⟩) (HSW2.out) ?_
  rotate_left
  · (intro wz hz;obtain ⟨⟨z0,z1⟩,z2,z3⟩:=hz;go_simp;try with_reducible rfl)
  refine wpAnyH_ready (rs:=[22]) (by kernel_rfl) (by simp) ?_
  refine AllReadyH.cons rfl (fun K hK=>?_) AllReadyH.nil
  go_simp
  have HSW3:=hide (show (((w2.setCell ⟨w.heap.size,0,none⟩ (.int .i64 x)).setCell ⟨w.heap.size,1,none⟩ (.int .i64 y)).cell? ⟨B1,0,none⟩=some (.int .i64 a)∧((w2.setCell ⟨w.heap.size,0,none⟩ (.int .i64 x)).setCell ⟨w.heap.size,1,none⟩ (.int .i64 y)).cell? ⟨B1,1,none⟩=some (.int .i64 1))∧(((w2.setCell ⟨w.heap.size,0,none⟩ (.int .i64 x)).setCell ⟨w.heap.size,1,none⟩ (.int .i64 y)).cell? ⟨B2,0,none⟩=some (.int .i64 (X:Int))∧((w2.setCell ⟨w.heap.size,0,none⟩ (.int .i64 x)).setCell ⟨w.heap.size,1,none⟩ (.int .i64 y)).cell? ⟨B2,1,none⟩=some (.int .i64 (D:Int))) from (HS.out.call (by (repeat' exact bel))).cells)
  refine hK.out _ _ (HSW3.out) (fun _=>?_)
  clear hK K
  refine wpAnyH_take (i:=23) (v:=?_) rfl (by kernel_rfl) (by kernel_rfl) (by kernel_rfl) (fun _ _ _ h=>h) (Or.inl ⟨by rfl,?_⟩) (HSW3.out) ?_
  rotate_left
  · (intro wz hz;obtain ⟨⟨z0,z1⟩,z2,z3⟩:=hz;go_simp;try with_reducible rfl)
  refine wpAnyH_done (by kernel_rfl) ?_ _
  go_simp
  go_wp2
  exact bodyPost_ret (v:=.tuple #[.agg #[.int .i64 x,.int .i64 y],.int .i64 E]) (by simp (maxDischargeDepth:=9) [results,Tryz.results182,go_sem,r0,r1,f0,f1,hsz]) rfl ⟨rfl,by (repeat' exact bel)⟩
end Go.Proofs.YtjhhmeoibfdcmaaGreat
