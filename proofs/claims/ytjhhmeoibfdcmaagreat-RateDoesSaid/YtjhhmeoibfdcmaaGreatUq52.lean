/- The reference of layer 3: lowest terms, products: the walks. -/
import Derived.Test.YtjhhmeoibfdcmaaGreatUq24
import Derived.Test.YtjhhmeoibfdcmaaGreatUq49
import Derived.Test.YtjhhmeoibfdcmaaGreatUq51
set_option linter.unusedSimpArgs false
set_option linter.unusedVariables false
set_option maxRecDepth 100000
set_option maxHeartbeats 12800000
namespace Go.Proofs.YtjhhmeoibfdcmaaGreat
open Go.RowKit Qd
def LwS (M d:Int) (w0 w:World):Prop:=BlkIs w w0.heap.size (wideCs M) 103∧BlkIs w (w0.heap.size+1) #[.int .i64 0,.int .i64 0] 125∧BlkIs w (w0.heap.size+1+1) #[.int .i64 1,.int .i64 d] 243∧Below w0.heap.size w0 w
theorem lwS_new (M d:Int) (w:World):LwS M d w (((w.alloc (.cells (wideCs M) 103)).alloc (.cells #[.int .i64 0,.int .i64 0] 125)).alloc (.cells #[.int .i64 1,.int .i64 d] 243)):=by
  refine ⟨((BlkIs.new w _ _).alloc _).alloc _,?_,?_,by (repeat' exact bel)⟩
  · have h:=(BlkIs.new (w.alloc (.cells (wideCs M) 103)) #[.int .i64 0,.int .i64 0] 125).alloc (.cells #[.int .i64 1,.int .i64 d] 243)
    simpa using h
  · have h:=BlkIs.new ((w.alloc (.cells (wideCs M) 103)).alloc (.cells #[.int .i64 0,.int .i64 0] 125)) #[.int .i64 1,.int .i64 d] 243
    simpa using h
theorem LwS.call {M d:Int} {w0 w w':World} (h:LwS M d w0 w) (hb:Below w.heap.size w w'):LwS M d w0 w':=
  ⟨h.1.call hb,h.2.1.call hb,h.2.2.1.call hb,h.2.2.2.trans (hb.mono h.2.2.2.size)⟩
theorem blk2_set0 {w:World} {B:Nat} {a b:Value} {t:TypeId} (h:BlkIs w B #[a,b] t) (x:Value):BlkIs (w.setCell ⟨B,0,none⟩ x) B #[x,b] t:=by
  unfold BlkIs at h ⊢
  simp [World.setCell,Array.getElem?_modify,h]
theorem blk2_set1 {w:World} {B:Nat} {a b:Value} {t:TypeId} (h:BlkIs w B #[a,b] t) (x:Value):BlkIs (w.setCell ⟨B,1,none⟩ x) B #[a,x] t:=by
  unfold BlkIs at h ⊢
  simp [World.setCell,Array.getElem?_modify,h]
theorem blk_far2 {w:World} {B:Nat} {cs:Array Value} {t:TypeId} (h:BlkIs w B cs t) {p:Addr} (hp:B≠p.block) (x:Value):BlkIs (w.setCell p x) B cs t:=(Below.heap_setCell w p x B hp).trans h
theorem LwS.put {M d M':Int} {w0 w:World} (h:LwS M d w0 w) (j:Nat) (x:Int) (hj:j<2):LwS M' (if j=0 then d else x) w0 (((w.setCell ⟨w0.heap.size,0,none⟩ (.int .i64 (M' / 18446744073709551616))).setCell ⟨w0.heap.size,1,none⟩ (.int .u64 (M' % 18446744073709551616))).setCell ⟨w0.heap.size+1+1,j,none⟩ (.int .i64 (if j=0 then 1 else x))):=by
  obtain ⟨h1,h2,h3,h4⟩:=h
  refine ⟨blk_far2 (blk2_set1 (blk2_set0 h1 _) _) (by simp;omega) _,blk_far2 (blk_far2 (blk_far2 h2 (by simp) _) (by simp) _) (by simp) _,?_,((h4.setCell (by simp) _).setCell (by simp) _).setCell (by simp;omega) _⟩
  match j,hj with
  | 0,_=>exact blk2_set0 (blk_far2 (blk_far2 h3 (by simp;omega) _) (by simp;omega) _) _
  | 1,_=>exact blk2_set1 (blk_far2 (blk_far2 h3 (by simp;omega) _) (by simp;omega) _) _
theorem LwS.cells {M d:Int} {w0 w:World} (h:LwS M d w0 w):((w.cell? ⟨w0.heap.size,0,none⟩=some (.int .i64 (M / 18446744073709551616))∧w.cell? ⟨w0.heap.size,1,none⟩=some (.int .u64 (M % 18446744073709551616)))∧(w.frozen? ⟨w0.heap.size,0,none⟩=false∧w.frozen? ⟨w0.heap.size,1,none⟩=false)) ∧
    ((w.cell? ⟨w0.heap.size+1+1,0,none⟩=some (.int .i64 1)∧w.cell? ⟨w0.heap.size+1+1,1,none⟩=some (.int .i64 d))∧(w.frozen? ⟨w0.heap.size+1+1,0,none⟩=false∧w.frozen? ⟨w0.heap.size+1+1,1,none⟩=false))∧w0.heap.size+1+1<w.heap.size:=by
  obtain ⟨a,b,c,_⟩:=rat_blk h.1
  obtain ⟨a',b',c',z⟩:=rat_blk h.2.2.1
  exact ⟨⟨a,b,c⟩,⟨a',b',c'⟩,z⟩
theorem arr2_0 (a b:Int) (w:World):(Instr.index 243 (.agg #[.int .i64 a,.int .i64 b]) (.int .i64 0)).run Tryz.prog w=.ok (.int .i64 a) w:=by kernel_rfl
theorem arr2_1 (a b:Int) (w:World):(Instr.index 243 (.agg #[.int .i64 a,.int .i64 b]) (.int .i64 1)).run Tryz.prog w=.ok (.int .i64 b) w:=by kernel_rfl
theorem wide_quo {N:Int} (hN:wideOk N) {g:Int} (hg:0<g):wideOk (N / g):=by
  unfold wideOk at *
  have h1:=Int.emod_add_mul_ediv N g
  have h2:=Int.emod_nonneg N (show g≠0 by omega)
  have h3:=Int.emod_lt_of_pos N hg
  constructor
  · rcases Int.lt_or_le (N / g) 0 with h | h
    · have h4:g*(N / g)≤1*(N / g):=Int.mul_le_mul_of_nonpos_right (by omega) (by omega)
      have h5:N<g*(N / g)+g:=by omega
      have h6:g*(N / g)+g=g*(N / g+1):=by rw [Int.mul_add,Int.mul_one]
      rcases Int.lt_or_le (N / g+1) 0 with h7 | h7
      · have h8:g*(N / g+1)≤1*(N / g+1):=Int.mul_le_mul_of_nonpos_right (by omega) (by omega)
        omega
      · omega
    · omega
  · rcases Int.lt_or_le (N / g) 0 with h | h
    · omega
    · have h4:1*(N / g)≤g*(N / g):=Int.mul_le_mul_of_nonneg_right (by omega) h
      omega
theorem r03lowest_any (N:Int) (D:Nat) (w:World) (hN:wideOk N) (h1:1≤D) (h2:D<4294967296) :
    Calls Tryz.prog 187 #[wideV N,.int .i64 1,.int .i64 D] w fun e w'=>e=.returned (.tuple #[if fitE (N / (Nat.gcd D (N % D).toNat:Nat))=0 then ratV (N / (Nat.gcd D (N % D).toNat:Nat)) ((D / Nat.gcd D (N % D).toNat:Nat):Int) else ratV 0 0,.int .i64 (fitE (N / (Nat.gcd D (N % D).toNat:Nat)))])∧Below w.heap.size w w':=by
  have hr0:0≤N % (D:Int):=Int.emod_nonneg _ (by omega)
  have hr1:N % (D:Int)<D:=Int.emod_lt_of_pos _ (by omega)
  obtain ⟨R,hR⟩:=Int.eq_ofNat_of_zero_le hr0
  have hRl:R<D:=by omega
  rw [hR]
  simp only [Int.toNat_natCast]
  have hg0:0<Nat.gcd D R:=Nat.gcd_pos_of_pos_left _ (by omega)
  have hgl:Nat.gcd D R≤D:=Nat.le_of_dvd (by omega) (Nat.gcd_dvd_left _ _)
  have HC1:=hide (fun W=>show Calls Tryz.prog 184 #[.int .u64 1,.int .u64 0] W fun e w'=>e=.returned (.int .u64 1)∧Below W.heap.size W w' from r03common_any 1 0 W (by omega) (by omega))
  have HC2:=hide (fun W=>r03common_any D R W (by omega) (by omega))
  have HD1:=hide (fun W=>show Calls Tryz.prog 111 #[wideV N,.int .i64 1] W fun e w'=>e=.returned (.tuple #[wideV N,.int .i64 0,.int .i64 0])∧Below W.heap.size W w' from by
    have h:=r02div_any N 1 W hN (by omega) (by omega)
    rwa [Int.ediv_one,Int.emod_one] at h)
  have HDD:=hide (fun W=>show Calls Tryz.prog 111 #[wideV N,.int .i64 D] W fun e w'=>e=.returned (.tuple #[wideV (N / (D:Int)),.int .i64 (R:Int),.int .i64 0])∧Below W.heap.size W w' from by
    have h:=r02div_any N D W hN (by omega) (by omega)
    rwa [hR] at h)
  have HDG:=hide (fun W=>r02div_any N ((Nat.gcd D R:Nat):Int) W hN (by omega) (by omega))
  have hdg:=nat_tdiv D (Nat.gcd D R)
  have HF:=hide (fun W=>r02fit_any (N / ((Nat.gcd D R:Nat):Int)) W (wide_quo hN (by omega)))
  have hDl:D / Nat.gcd D R<4294967296:=Nat.lt_of_le_of_lt (Nat.div_le_self _ _) h2
  generalize Nat.gcd D R=g at *
  have HM:=hide (fun W=>r01mul_one (D / g) W hDl)
  generalize D / g=Dg at *
  obtain ⟨M,hM⟩:∃ M,N / (g:Int)=M:=⟨_,rfl⟩
  rw [hM] at HDG HF ⊢
  obtain ⟨rg,hrg⟩:∃ r,N % (g:Int)=r:=⟨_,rfl⟩
  rw [hrg] at HDG
  obtain ⟨qd,hqd⟩:∃ r,N / (D:Int)=r:=⟨_,rfl⟩
  rw [hqd] at HDD
  have H0:=hide (lwS_new N D w)
  have hfin:fitE M=0→fitV M=M:=fun h=>by
    by_cases hf:in64 M
    · exact (fit_yes hf).1
    · rw [(fit_no hf).2] at h;exact absurd h (by decide)
  have HFIN:=hide hfin
  clear hM hrg hqd hR hr0 hr1 hN hfin
  have hgz:¬ (g:Int)=0:=by omega
  have hgz2:¬ g=0:=by omega
  have hwR:=m64_wrap R (by omega)
  have hwDD:=m64_wrap D (by omega)
  have hw0:IntKind.u64.wrap 0=0:=by simp only [IntKind.wrap_u64];omega
  have hw1:IntKind.u64.wrap 1=1:=by simp only [IntKind.wrap_u64];omega
  have ht1:(1:Int).tdiv 1=1:=rfl
  obtain ⟨V,hV⟩:∃ V,(if fitE M=0 then ratV M ((Dg:Nat):Int) else ratV 0 0)=V:=⟨_,rfl⟩
  rw [hV]
  have HV:=hide hV
  clear hV
  have hx0:=arr2_0 1 (D:Int)
  have hx1:=arr2_1 1 (D:Int)
  simp only [wideV] at HD1 HDD HDG HF ⊢
  go_enter Tryz.func187,Tryz.ntmps187
  go_wp2_with fail
  go_loopw [22] (fun s wr=>∃ j:Nat,s=.int .i64 j∧j≤2∧Hid (LwS (if j=2 then M else N) (if j=2 then (Dg:Int) else D) w wr)) (fun s _=>(3-intOf s).toNat)
  case atStart=>exact ⟨0,rfl,by omega,H0⟩
  case round =>
    obtain ⟨j,rfl,hj,HS⟩:=hrel
    rcases (show j=0∨j=1∨j=2 by omega) with rfl | rfl | rfl
    · have HS0:=hide (show LwS N D w wr from HS.out)
      obtain ⟨⟨⟨a0,a1⟩,_,_⟩,_,hz⟩:=HS0.out.cells
      go_wp2_with fail
      refine (HD1.out _).mono ?_
      rintro e w1 ⟨rfl,hb1⟩
      have HS1:=hide (HS0.out.call hb1)
      clear hb1 a0 a1 hz
      go_wp2_with fail
      refine (HC1.out _).mono ?_
      rintro e w2 ⟨rfl,hb2⟩
      have HS2:=hide (HS1.out.call (ww hb2).out)
      clear hb2
      obtain ⟨⟨⟨a0,a1⟩,_,_⟩,_,hz⟩:=HS2.out.cells
      go_wp2_with fail
      refine (HD1.out _).mono ?_
      rintro e w3 ⟨rfl,hb3⟩
      have HS3:=hide (HS2.out.call (ww hb3).out)
      clear hb3 a0 a1 hz
      obtain ⟨⟨⟨a0,a1⟩,f0,f1⟩,⟨⟨b0,b1⟩,k0,k1⟩,hz⟩:=HS3.out.cells
      have HN:=hide (HS3.out.put (M':=N) 0 1 (by omega))
      go_wp2
      go_roundw
      case rel=>exact ⟨1,rfl,by omega,HN⟩
      case measure=>simp [intOf]
    · have HS0:=hide (show LwS N D w wr from HS.out)
      obtain ⟨⟨⟨a0,a1⟩,_,_⟩,_,hz⟩:=HS0.out.cells
      go_wp2_with fail
      refine (HDD.out _).mono ?_
      rintro e w1 ⟨rfl,hb1⟩
      have HS1:=hide (HS0.out.call hb1)
      clear hb1 a0 a1 hz
      go_wp2_with fail
      refine (HC2.out _).mono ?_
      rintro e w2 ⟨rfl,hb2⟩
      have HS2:=hide (HS1.out.call (ww hb2).out)
      clear hb2
      obtain ⟨⟨⟨a0,a1⟩,_,_⟩,_,hz⟩:=HS2.out.cells
      go_wp2_with fail
      refine (HDG.out _).mono ?_
      rintro e w3 ⟨rfl,hb3⟩
      have HS3:=hide (HS2.out.call (ww hb3).out)
      clear hb3 a0 a1 hz
      obtain ⟨⟨⟨a0,a1⟩,f0,f1⟩,⟨⟨b0,b1⟩,k0,k1⟩,hz⟩:=HS3.out.cells
      have HN:=hide (HS3.out.put (M':=M) 1 Dg (by omega))
      go_wp2
      go_roundw
      case rel=>exact ⟨2,rfl,by omega,HN⟩
      case measure=>simp [intOf]
    · have HS0:=hide (show LwS M Dg w wr from HS.out)
      obtain ⟨⟨⟨a0,a1⟩,_,_⟩,_,hz⟩:=HS0.out.cells
      go_wp2_with fail
      refine (HF.out _).mono ?_
      rintro e w1 ⟨rfl,hb1⟩
      have HS1:=hide (HS0.out.call hb1)
      clear hb1 a0 a1 hz
      by_cases hE:fitE M=0
      rotate_left
      · have hEb:(fitE M != 0)=true:=by simpa using hE
        have HVE:=hide (show V=.agg #[.int .i64 0,.int .i64 0] by rw [← HV.out,if_neg hE];rfl)
        obtain ⟨⟨r0,r1⟩,f0,f1,hsz⟩:=rat_blk HS1.out.2.1
        have hBel:=HS1.out.2.2.2
        have hle:=hBel.size
        clear hE
        obtain ⟨E,hEE⟩:∃ E,fitE M=E:=⟨_,rfl⟩
        have HEE:=hide hEE
        rw [hEE] at hEb ⊢
        clear hEE
        go_wp2
        exact bodyPost_ret (v:=.tuple #[.agg #[.int .i64 0,.int .i64 0],.int .i64 E]) (by simp (maxDischargeDepth:=9) [results,Tryz.results187,go_sem,r0,r1,f0,f1,hsz]) rfl ⟨by rw [HVE.out,HEE.out],by (repeat' exact bel)⟩
      have HVE:=hide (show V=.agg #[.int .i64 M,.int .i64 (Dg:Int)] by rw [← HV.out,if_pos hE];rfl)
      have HEE:=hide hE
      rw [hE,HFIN.out hE]
      clear hE
      obtain ⟨_,⟨⟨b0,b1⟩,_,_⟩,hz⟩:=HS1.out.cells
      go_wp2_with fail
      refine (HM.out _).mono ?_
      rintro e w2 ⟨rfl,hb2⟩
      have HS2:=hide (HS1.out.call (ww hb2).out)
      clear hb2 b0 b1 hz
      obtain ⟨⟨r0,r1⟩,f0,f1,hsz⟩:=rat_blk HS2.out.2.1
      have hBel:=HS2.out.2.2.2
      have hle:=hBel.size
      go_wp2
      exact bodyPost_ret (v:=.tuple #[.agg #[.int .i64 M,.int .i64 (Dg:Int)],.int .i64 0]) (by simp (maxDischargeDepth:=9) [results,Tryz.results187,go_sem,r0,r1,f0,f1,hsz]) rfl ⟨by rw [HVE.out,HEE.out],by (repeat' exact bel)⟩
theorem r03mul_any (a:Int) (X D:Nat) (w:World) (ha:in64 a) (hX:X≤9223372036854775807) (h1:1≤D) (h2:D<4294967296) (hg:Nat.gcd X D=1) :
    Calls Tryz.prog 117 #[ratV a 1,ratV X D] w fun e w'=>e=.returned (.tuple #[exV a X D,.int .i64 (fitE (exN a X D))])∧Below w.heap.size w w':=by
  have HMY:=hide (fun W=>show Calls Tryz.prog 186 #[.agg #[.int .i64 a,.int .i64 1],.agg #[.int .i64 (X:Int),.int .i64 (D:Int)]] W fun e w'=>e=.returned (.int .i64 0)∧Below W.heap.size W w' from r03may_yes a X 1 D W ha (by omega) (by omega) (Nat.gcd_one_right _) (by unfold in64;omega) h1 (by omega) (by simpa using hg))
  have HML:=hide (fun W=>r02mul_any a X W ha (by unfold in64;omega))
  have HLW:=hide (fun W=>show Calls Tryz.prog 187 #[wideV (a*X),.int .i64 1,.int .i64 D] W fun e w'=>e=.returned (.tuple #[exV a X D,.int .i64 (fitE (exN a X D))])∧Below W.heap.size W w' from by
    have h:=r03lowest_any (a*X) D W (mul_wide ha (by unfold in64;omega)) h1 h2
    rw [gcd_ex a X D (by omega) hg,ex_div a X D (by omega)] at h
    exact h)
  obtain ⟨x,y,hxy⟩:=ex_form a X D
  rw [hxy] at HLW ⊢
  obtain ⟨E,hE⟩:∃ E,fitE (exN a X D)=E:=⟨_,rfl⟩
  rw [hE] at HLW ⊢
  obtain ⟨N1,hN1⟩:∃ z,(a*X) / 18446744073709551616=z:=⟨_,rfl⟩
  obtain ⟨N2,hN2⟩:∃ z,(a*X) % 18446744073709551616=z:=⟨_,rfl⟩
  have HB:=hide (two_boxes a X 1 D w)
  have H0:=hide (show RtS a X D w.heap.size (w.heap.size+1) (((w.alloc (.cells #[.int .i64 a,.int .i64 1] 125)).alloc (.cells #[.int .i64 (X:Int),.int .i64 (D:Int)] 125)).alloc (.cells #[.int .i64 0,.int .i64 0] 125)) from ⟨HB.out.1.alloc _,HB.out.2.alloc _⟩)
  have K0:=hide (show BlkIs (((w.alloc (.cells #[.int .i64 a,.int .i64 1] 125)).alloc (.cells #[.int .i64 (X:Int),.int .i64 (D:Int)] 125)).alloc (.cells #[.int .i64 0,.int .i64 0] 125)) (w.heap.size+1+1) #[.int .i64 0,.int .i64 0] 125 from by
    have h:=BlkIs.new ((w.alloc (.cells #[.int .i64 a,.int .i64 1] 125)).alloc (.cells #[.int .i64 (X:Int),.int .i64 (D:Int)] 125)) #[.int .i64 0,.int .i64 0] 125
    simpa using h)
  simp only [wideV,hN1,hN2] at HML HLW
  simp only [ratV,Int.natCast_one]
  clear hxy hE hg hN1 hN2
  go_enter Tryz.func117,Tryz.ntmps117
  go_wp2_with fail
  refine (HMY.out _).mono ?_
  rintro e w1 ⟨rfl,hb1⟩
  have HS1:=hide (H0.out.call hb1)
  have K1:=hide (K0.out.call hb1)
  have HB1:=hide (show Below w.heap.size w w1 from (ww hb1).out)
  clear hb1
  go_wp2_with fail
  have HSW:=hide (HS1.out.call (by (repeat' exact bel):Below w1.heap.size w1 w1.drew)).cells
  have HSZ:=hide (HS1.out.call (by (repeat' exact bel):Below w1.heap.size w1 w1.drew))
  have K2:=hide (K1.out.call (by (repeat' exact bel):Below w1.heap.size w1 w1.drew))
  have HB2:=hide (show Below w.heap.size w w1.drew from by have h:=HB1.out;(repeat' exact bel))
  refine wp_region_held_drew (S:=fun w'=>(w'.cell? ⟨w.heap.size,0,none⟩=some (.int .i64 a)∧w'.cell? ⟨w.heap.size,1,none⟩=some (.int .i64 1))∧(w'.cell? ⟨w.heap.size+1,0,none⟩=some (.int .i64 (X:Int))∧w'.cell? ⟨w.heap.size+1,1,none⟩=some (.int .i64 (D:Int)))) (by kernel_rfl) HSW.out (fun _=>?_)
  generalize w1.drew=w2 at *
  refine wpAnyH_take (i:=0) (v:=?_) rfl (by kernel_rfl) (by kernel_rfl) (by kernel_rfl) (fun _ _ _ h=>h) (Or.inl ⟨by rfl,?_⟩) (HSW.out) ?_
  rotate_left
  · (intro wz hz;obtain ⟨⟨z0,z1⟩,z2,z3⟩:=hz;go_simp;try with_reducible rfl)
  refine wpAnyH_take (i:=1) (v:=?_) rfl (by kernel_rfl) (by kernel_rfl) (by kernel_rfl) (fun _ _ _ h=>h) (Or.inl ⟨by rfl,?_⟩) (HSW.out) ?_
  rotate_left
  · (intro wz hz;obtain ⟨⟨z0,z1⟩,z2,z3⟩:=hz;go_simp;try with_reducible rfl)
  refine wpAnyH_take (i:=2) (v:=?_) rfl (by kernel_rfl) (by kernel_rfl) (by kernel_rfl) (fun _ _ _ h=>h) (Or.inl ⟨by rfl,?_⟩) (HSW.out) ?_
  rotate_left
  · (intro wz hz;obtain ⟨⟨z0,z1⟩,z2,z3⟩:=hz;go_simp;try with_reducible rfl)
  refine wpAnyH_take (i:=3) (v:=?_) rfl (by kernel_rfl) (by kernel_rfl) (by kernel_rfl) (fun _ _ _ h=>h) (Or.inl ⟨by rfl,?_⟩) (HSW.out) ?_
  rotate_left
  · (intro wz hz;obtain ⟨⟨z0,z1⟩,z2,z3⟩:=hz;go_simp;try with_reducible rfl)
  refine wpAnyH_take (i:=5) (v:=?_) rfl (by kernel_rfl) (by kernel_rfl) (by kernel_rfl) (fun _ _ _ h=>h) (Or.inl ⟨by rfl,?_⟩) (HSW.out) ?_
  rotate_left
  · (intro wz hz;obtain ⟨⟨z0,z1⟩,z2,z3⟩:=hz;go_simp;try with_reducible rfl)
  refine wpAnyH_take (i:=6) (v:=?_) rfl (by kernel_rfl) (by kernel_rfl) (by kernel_rfl) (fun _ _ _ h=>h) (Or.inl ⟨by rfl,?_⟩) (HSW.out) ?_
  rotate_left
  · (intro wz hz;obtain ⟨⟨z0,z1⟩,z2,z3⟩:=hz;go_simp;try with_reducible rfl)
  refine wpAnyH_take (i:=7) (v:=?_) rfl (by kernel_rfl) (by kernel_rfl) (by kernel_rfl) (fun _ _ _ h=>h) (Or.inl ⟨by rfl,?_⟩) (HSW.out) ?_
  rotate_left
  · (intro wz hz;obtain ⟨⟨z0,z1⟩,z2,z3⟩:=hz;go_simp;try with_reducible rfl)
  refine wpAnyH_take (i:=8) (v:=?_) rfl (by kernel_rfl) (by kernel_rfl) (by kernel_rfl) (fun _ _ _ h=>h) (Or.inl ⟨by rfl,?_⟩) (HSW.out) ?_
  rotate_left
  · (intro wz hz;obtain ⟨⟨z0,z1⟩,z2,z3⟩:=hz;go_simp;try with_reducible rfl)
  refine wpAnyH_ready (rs:=[4]) (by kernel_rfl) (by simp) ?_
  refine AllReadyH.cons rfl (fun K hK=>?_) AllReadyH.nil
  go_simp
  refine (HML.out _).mono ?_
  rintro e w3 ⟨rfl,hb3⟩
  have HSZ3:=hide (HSZ.out.call hb3)
  have HSW3:=hide (HSZ.out.call hb3).cells
  have K3:=hide (K2.out.call hb3)
  have HB3:=hide (show Below w.heap.size w w3 from HB2.out.trans (hb3.mono HB2.out.size))
  clear hb3
  refine hK.out _ _ (HSW3.out) (fun _=>?_)
  clear hK K
  refine wpAnyH_ready (rs:=[9]) (by kernel_rfl) (by simp) ?_
  refine AllReadyH.cons rfl (fun K hK=>?_) AllReadyH.nil
  go_simp
  refine (HLW.out _).mono ?_
  rintro e w4 ⟨rfl,hb4⟩
  have HSZ4:=hide (HSZ3.out.call hb4)
  have HSW4:=hide (HSZ3.out.call hb4).cells
  obtain ⟨⟨r0,r1⟩,f0,f1,hsz⟩:=rat_blk (K3.out.call hb4)
  have HB4:=hide (show Below w.heap.size w w4 from HB3.out.trans (hb4.mono HB3.out.size))
  clear hb4
  have hBel:=HB4.out
  have hle:=hBel.size
  refine hK.out _ _ (HSW4.out) (fun _=>?_)
  clear hK K
  refine wpAnyH_take (i:=10) (v:=?_) rfl (by kernel_rfl) (by kernel_rfl) (by kernel_rfl) (fun _ _ _ h=>h) (Or.inl ⟨by rfl,?_⟩) (HSW4.out) ?_
  rotate_left
  · (intro wz hz;obtain ⟨⟨z0,z1⟩,z2,z3⟩:=hz;go_simp;try with_reducible rfl)
  refine wpAnyH_take (i:=11) (v:=?_) rfl (by kernel_rfl) (by kernel_rfl) (by kernel_rfl) (fun _ _ _ h=>h) (Or.inl ⟨by rfl,?_⟩) (HSW4.out) ?_
  rotate_left
  · (intro wz hz;obtain ⟨⟨z0,z1⟩,z2,z3⟩:=hz;go_simp;try with_reducible rfl)
  refine wpAnyH_ready (rs:=[12]) (by kernel_rfl) (by simp) ?_
  refine AllReadyH.cons rfl (fun K hK=>?_) AllReadyH.nil
  go_simp
  have HSW5:=hide (show RtS a X D w.heap.size (w.heap.size+1) ((w4.setCell ⟨w.heap.size+1+1,0,none⟩ (.int .i64 x)).setCell ⟨w.heap.size+1+1,1,none⟩ (.int .i64 y)) from ⟨blk_far2 (blk_far2 HSZ4.out.1 (by simp;omega) _) (by simp;omega) _,blk_far2 (blk_far2 HSZ4.out.2 (by simp) _) (by simp) _⟩).cells
  refine hK.out _ _ (HSW5.out) (fun _=>?_)
  clear hK K
  refine wpAnyH_take (i:=13) (v:=?_) rfl (by kernel_rfl) (by kernel_rfl) (by kernel_rfl) (fun _ _ _ h=>h) (Or.inl ⟨by rfl,?_⟩) (HSW5.out) ?_
  rotate_left
  · (intro wz hz;obtain ⟨⟨z0,z1⟩,z2,z3⟩:=hz;go_simp;try with_reducible rfl)
  refine wpAnyH_done (by kernel_rfl) ?_ _
  go_simp
  go_wp2
  exact bodyPost_ret (v:=.tuple #[.agg #[.int .i64 x,.int .i64 y],.int .i64 E]) (by simp (maxDischargeDepth:=9) [results,Tryz.results117,go_sem,r0,r1,f0,f1,hsz]) rfl ⟨rfl,by (repeat' exact bel)⟩
end Go.Proofs.YtjhhmeoibfdcmaaGreat
