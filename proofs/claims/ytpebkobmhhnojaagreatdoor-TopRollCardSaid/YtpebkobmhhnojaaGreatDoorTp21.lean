/- Lemmas. -/
import Derived.Lib.AppendIntMem
import Derived.Test.YtpebkobmhhnojaaGreatDoorTp01
import Derived.Test.YtpebkobmhhnojaaGreatDoorTp05
import Derived.Test.YtpebkobmhhnojaaGreatDoorTp06
import Derived.Test.YtpebkobmhhnojaaGreatDoorTp07
import Derived.Test.YtpebkobmhhnojaaGreatDoorTp08
import Derived.Test.YtpebkobmhhnojaaGreatDoorTp10
set_option linter.unusedSimpArgs false
set_option linter.unusedVariables false
set_option maxRecDepth 100000
set_option maxHeartbeats 12800000
namespace Go.Proofs.YtpebkobmhhnojaaGreatDoor
section
open Go.RowKit Qd
def GP (f:Bool) (n:Int) (s:ByteArray):Prop:=(f=true∧s=⟨#[]⟩∧0≤n∧n≤999999999)∨(f=false∧n=0∧jU s=true∧s.size≤1000)
theorem vt (f:Bool) (n E:Int) (s:ByteArray) (w:World) (h:GP f n s) :
  Calls Tryz.prog 197 #[.agg #[.bool f,n,.string s,E]] w fun e w'=>e=.returned (.bool true)∧Below w w w':=by
 rcases h with ⟨rfl,rfl,o,F⟩ | ⟨rfl,rfl,o,F⟩
 ·have H:decide (n≥0)=true:=by simpa using o
  have I:decide (n≤999999999)=true:=by simpa using F
  go_enter Tryz.func197,Tryz.ntmps197;go_wp2
  all_goals first | (exfalso;omega) | (go_ret;exact ⟨rfl,by (repeat' exact bel)⟩)
 ·have G:=hide o
  clear o;go_enter Tryz.func197,Tryz.ntmps197;go_wp2_with fail;refine (ky _ _ F).mono ?_;rintro e w' ⟨rfl,rfl⟩;rw [G.out];go_wp2_with fail;go_ret;exact ⟨rfl,by (repeat' exact bel)⟩
theorem FR (f:Bool) (n o:Int) (s:ByteArray) (w:World) (h:GP f n s) :
  Calls Tryz.prog 196 #[.agg #[.bool f,n,.string s,o]] w fun e w'=>e=.returned (.bool false)∧Below w w w':=by
 go_enter Tryz.func196,Tryz.ntmps196;go_wp2_with fail;refine (vt f n o s _ h).mono ?_;rintro e w' ⟨rfl,E⟩;have F:=hide (show Below w w w' from (ww E).out);clear E;go_wp2_with fail;go_ret;exact ⟨rfl,F.out⟩
def ei (w:World) (g n:Nat):Prop:=g<w.heap.size∧n≤8∧∀ i,i<n→∃ f k s h,GP f k s∧w.cell? ⟨g,i*4,none⟩=some (.bool f)∧w.cell? ⟨g,i*4+1,none⟩=some (.int .i64 k)∧w.cell? ⟨g,i*4+2,none⟩=some (.string s)∧w.cell? ⟨g,i*4+3,none⟩=some (.int .i64 h)
theorem ei.call {w w':World} {g n:Nat} (h:ei w g n) (o:Below w w w'):ei w' g n:=by
 obtain ⟨f,U,V⟩:=h;refine ⟨Nat.lt_of_lt_of_le f o.size,U,fun i hi=>?_⟩;obtain ⟨F,k,s,E,O,G,H,I,J⟩:=V i hi;exact ⟨F,k,s,E,O,(o.cell (p:=⟨g,i*4,none⟩) f).trans G,(o.cell (p:=⟨g,i*4+1,none⟩) f).trans H,(o.cell (p:=⟨g,i*4+2,none⟩) f).trans I,(o.cell (p:=⟨g,i*4+3,none⟩) f).trans J⟩
theorem zE (g n W:Nat) (w:World) (h:ei w g n) :
  Calls Tryz.prog 233 #[.slice (some ⟨g,0,none⟩) n W,.func (.func 196) #[] #[]] w fun e w'=>e=.returned (.int .i64 (-1))∧Below w w w':=by
 have H:=hide h;have aa:=h.2.1;clear h;go_enter Tryz.func233,Tryz.ntmps233;go_wp2_with fail;go_loopw [8] (fun x wr=>∃ i:Nat,x=.int .i64 (i:Int)∧i≤n∧Below w w wr) (fun x _=>n-(intOf x).toNat)
 case atStart=>exact ⟨0,rfl,Nat.zero_le _,Below.refl _ _⟩
 case round =>
  obtain ⟨i,rfl,hi,O⟩:=hrel;have o:=hide O;clear O;by_cases G:i<n
  ·obtain ⟨Y,-,U⟩:=H.out.call o.out
   obtain ⟨I,k,s,F,J,c0,c1,c2,c3⟩:=U i G;have V:=hide J;clear U J;go_wp2_with fail;refine (FR I k F s _ V.out).mono ?_;rintro e w3 ⟨rfl,f⟩;have E:=hide (o.out.trans (f.mono o.out.size));clear f;go_wp2_with fail;go_roundw
   case rel=>exact ⟨i+1,by go_num,by omega,E.out⟩
   case measure=>simp [intOf];omega
  ·obtain rfl:i=n:=om
   go_wp2_with fail
   all_goals first | (exfalso;omega) | (go_ret;exact ⟨rfl,o.out⟩)
theorem qv (g n f:Nat) (w:World) (h:ei w g n) :
  Calls Tryz.prog 195 #[.slice (some ⟨g,0,none⟩) n f,.func (.func 196) #[] #[]] w fun e w'=>e=.returned (.bool false)∧Below w w w':=by
 go_enter Tryz.func195,Tryz.ntmps195;go_wp2_with fail;refine (zE g n f _ h).mono ?_;rintro e w' ⟨rfl,o⟩;have E:=hide o;clear o;go_wp2_with fail;go_ret;exact ⟨rfl,E.out⟩
def Eb (w:World) (d:Int) (g i:Nat):Prop:=∃ o f F I wc E G h H,jU o=true∧o.size≤1000∧ei w F I∧(E=false→h=0) ∧
 w.cell? ⟨g,i*5,none⟩=some (.string o)∧w.cell? ⟨g,i*5+1,none⟩=some (.int .i64 f)∧w.cell? ⟨g,i*5+2,none⟩=some (.slice (some ⟨F,0,none⟩) I wc)∧w.cell? ⟨g,i*5+3,none⟩=some (.bool E)∧w.cell? ⟨g,i*5+4,none⟩=some (.slice G h H) ∧
 ∀ W,Below w w W→Calls Tryz.prog 139 #[.slice G h H,.int .i64 (d+1)] W fun e w'=>e=.returned (.int .i64 0)∧Below W W w'
theorem jM (a:Option Addr) (c:Nat) (d:Int) (w:World):Calls Tryz.prog 139 #[.slice a 0 c,d] w fun e w'=>e=.returned (.int .i64 0)∧Below w w w':=by
 go_enter Tryz.func139,Tryz.ntmps139;go_wp2_with fail;refine wp_loop_rounds 1 ?_;rw [rounds_succ];go_wp2_with fail;go_ret;exact ⟨rfl,by (repeat' exact bel)⟩
theorem nQ (g n cp:Nat) (d:Int) (w:World) (hd:0≤d∧d<6) (hg:g<w.heap.size) (hn:n≤1000) (h:∀ i,i<n→Eb w d g i) :
  Calls Tryz.prog 139 #[.slice (some ⟨g,0,none⟩) n cp,d] w fun e w'=>e=.returned (.int .i64 0)∧Below w w w':=by
 have H:=hide h;clear h;have ac:(d==6)=false:=ag;have ah:IntKind.i64.wrap (d+1)=d+1:=by simp [IntKind.wrap,IntKind.bits,IntKind.signed];omega
 go_enter Tryz.func139,Tryz.ntmps139;go_wp2_with fail;go_loopw [11] (fun x wr=>∃ i:Nat,x=.int .i64 (i:Int)∧i≤n∧Below w w wr) (fun x _=>n-(intOf x).toNat)
 case atStart=>exact ⟨0,rfl,Nat.zero_le _,by (repeat' exact bel)⟩
 case round =>
  obtain ⟨i,rfl,hi,hb⟩:=hrel;have G:=hide hb;have hz:=hb.size;clear hb;by_cases ab:i<n
  ·obtain ⟨nm,V,Y,O,wc,bl,ka,kn,kc,n1,n2,hw,hk,c0,c1,c2,c3,c4,hr⟩:=H.out i ab
   have e0:=(G.out.cell (p:=⟨g,i*5,none⟩) hg).trans c0;have e1:=(G.out.cell (p:=⟨g,i*5+1,none⟩) hg).trans c1;have e2:=(G.out.cell (p:=⟨g,i*5+2,none⟩) hg).trans c2;have e3:=(G.out.cell (p:=⟨g,i*5+3,none⟩) hg).trans c3;have e4:=(G.out.cell (p:=⟨g,i*5+4,none⟩) hg).trans c4;have HW:=hide (hw.call G.out);have HR:=hide hr;have HN:=hide n1;have al:=hw.2.1;have ad:g<wr.heap.size:=om;clear c0 c1 c2 c3 c4 hr hw n1;obtain ⟨W,hW⟩:∃ W,wr.alloc (.cells #[.string nm,V,.slice (some ⟨Y,0,none⟩) O wc,.bool bl,.slice ka kn kc] 154)=W:=⟨_,rfl⟩;have HX:=hide (show W.heap[wr.heap.size]?=some (.cells #[.string nm,V,.slice (some ⟨Y,0,none⟩) O wc,.bool bl,.slice ka kn kc] 154 (0,0)) by rw [← hW];exact heap_alloc_new _ _);have U:=hide (show Below w w W by rw [← hW];exact G.out.alloc hz _);have aa:=hide (show Below wr wr W by rw [← hW];(repeat' exact bel));have y2:W.cell? ⟨wr,2,none⟩=some (.slice (some ⟨Y,0,none⟩) O wc):=by simp [World.cell?,HX.out]
   go_wp2_with fail;clear hW e0 e1 e2 e3 e4 y2;refine (qv Y O wc W (HW.out.call aa.out)).mono ?_;rintro e I ⟨rfl,F⟩;have ao:W.heap.size≤I.heap.size:=F.size;have E:=hide ((F.block wr.heap.size (Array.getElem?_eq_some_iff.1 HX.out).1).trans HX.out);have f:=hide (U.out.trans (F.mono U.out.size));clear F;have x0:I.cell? ⟨wr,0,none⟩=some (.string nm):=by simp [World.cell?,E.out]
   have x2:I.cell? ⟨wr,2,none⟩=some (.slice (some ⟨Y,0,none⟩) O wc):=by simp [World.cell?,E.out]
   have x3:I.cell? ⟨wr,3,none⟩=some (.bool bl):=by simp [World.cell?,E.out]
   have x4:I.cell? ⟨wr,4,none⟩=some (.slice ka kn kc):=by simp [World.cell?,E.out]
   go_wp2_with fail;refine (ky nm I n2).mono ?_;rintro e w4 ⟨rfl,rfl⟩;rw [HN.out];have g8:decide ((O:Int) > 8)=false:=ag;cases bl with
   | true =>
    go_wp2_with fail;refine (HR.out I f.out).mono ?_;rintro e w5 ⟨rfl,o⟩;have J:=hide (f.out.trans (o.mono f.out.size));clear o;go_wp2_with fail;go_roundw
    case rel=>exact ⟨i+1,by go_num,by omega,J.out⟩
    case measure=>simp [intOf];omega
   | false =>
    obtain rfl:=hk rfl;go_wp2_with fail;refine (HR.out I f.out).mono ?_;rintro e w5 ⟨rfl,o⟩;have J:=hide (f.out.trans (o.mono f.out.size));clear o;go_wp2_with fail;go_roundw
    case rel=>exact ⟨i+1,by go_num,by omega,J.out⟩
    case measure=>simp [intOf];omega
  ·obtain rfl:i=n:=om
   go_wp2_with fail
   all_goals first | (exfalso;omega) | (go_ret;exact ⟨rfl,G.out⟩)
end
section
open Go.RowKit Qd
open Go.Sort (grow)
structure bQ (w:World):Prop where
 len:∃ m:Int,w.cell? ⟨0,0,none⟩=some (.int .i64 m)
 pow:Lib.TabIs Tryz.prog w "internal/strconv.uint64pow10" .u64 Lib.pow10Tab
theorem bQ.call {w w':World} (h:bQ w) (G:Below w w w'):bQ w':=by
 obtain ⟨⟨m,H⟩,f⟩:=h;refine ⟨⟨m,(G.cell (p:=⟨0,0,none⟩) (World.block_lt_of_cell? w _ H)).trans H⟩,?_⟩;have E:Tryz.prog.globalNamed "internal/strconv.uint64pow10" = some 3:=by kernel_rfl
 unfold Lib.TabIs World.var? at f ⊢;rw [E] at f ⊢;simp only [Option.bind_some] at f ⊢;have F:3<w.heap.size:=by
  rcases Nat.lt_or_ge 3 w.heap.size with o | o
  ·exact o
  ·rw [Array.getElem?_eq_none o] at f;cases f
 rw [G.block 3 F];exact f
theorem av {w w':World} {j:Nat} {o:Obj} (h:w.heap[j]?=some o) (f:Below w w w'):w'.heap[j]?=some o:=(f.block j (Array.getElem?_eq_some_iff.1 h).1).trans h
theorem ja (n:Int) (l:List UInt8) (w:World) (E:bQ w) (I:-1000000≤n∧n≤1000000) (h:Lib.itoa n=l) (F:l.length=4) :
  Calls Tryz.prog 251 #[n,.int .i64 4] w fun e w'=>e=.returned (.string ⟨l.toArray⟩)∧Below w w w':=by
 have H:=hide (Tryz.strconv_Itoa n om om w E.pow);rw [h] at H;have G:(⟨l.toArray⟩:ByteArray).size=4:=by simpa [ByteArray.size] using F
 generalize (⟨l.toArray⟩:ByteArray)=s at *;clear h;go_enter Tryz.func251,Tryz.ntmps251;go_wp2_with fail;refine (H.out).mono ?_;rintro e w' ⟨rfl,k,os,rfl⟩;obtain ⟨x,f⟩:∃ x,x=grow (w.drewN k) os:=⟨_,rfl⟩;rw [← f];have o:=hide (show Below w w x by rw [f];exact Lib.below_grow w.heap.size w (Nat.le_refl _) k os);clear f;go_wp2_with fail;refine wp_loop_rounds 1 ?_;rw [rounds_succ];go_wp2_with fail;go_ret;exact ⟨rfl,o.out⟩
theorem eM (d:Nat) (b:UInt8) (w:World) (f:d<100) (h:Lib.decDigits d=[b]) :
  Calls Tryz.prog 251 #[d,.int .i64 2] w fun e w'=>e=.returned (.string ⟨#[48,b]⟩)∧w=w':=by
 have H:=hide (Tryz.strconv_Itoa_small d f w);rw [h] at H;clear h;go_enter Tryz.func251,Tryz.ntmps251;go_wp2_with fail;refine (H.out).mono ?_;rintro e w' ⟨rfl,rfl⟩;go_wp2_with fail;refine wp_loop_rounds 2 ?_;rw [rounds_succ];go_wp2_with fail;rw [rounds_succ];go_wp2_with fail;go_ret;exact ⟨rfl,rfl⟩
theorem lW:cH 154896=true∧dr 154896=2024∧io 154896=2∧xz 154896=3:=by decide +kernel
theorem BZ (w:World) (hL:bQ w):Calls Tryz.prog 221 #[.int .i64 154896] w fun e w'=>e=.returned (.tuple #[.string ⟨#[50,48,50,52,45,48,50,45,48,51]⟩,.int .i64 0])∧Below w w w':=by
 have HO:=hide (im 154896 w lW.1);rw [lW.2.1,lW.2.2.1,lW.2.2.2] at HO;go_enter Tryz.func221,Tryz.ntmps221;go_wp2_with fail;refine (HO.out).mono ?_;rintro e J ⟨rfl,U⟩;have W:=hide U;have ab:=hide (hL.call U);clear U;go_wp2_with fail;have V:Below J J (J.alloc (.cells #[.int .i64 2024,.int .i64 2,.int .i64 3] 73)).drew:=ar;have o:=hide (show (J.alloc (.cells #[.int .i64 2024,.int .i64 2,.int .i64 3] 73)).drew.heap[J.heap.size]?=some (.cells #[.int .i64 2024,.int .i64 2,.int .i64 3] 73) from heap_alloc_new J _);have ac:=hide (ab.out.call V);have Y:=hide (W.out.trans (V.mono W.out.size));clear V;refine wp_region_held_drew (S:=fun w'=>w'.cell? ⟨J,0,none⟩=some (.int .i64 2024)∧w'.cell? ⟨J,1,none⟩=some (.int .i64 2)∧w'.cell? ⟨J,2,none⟩=some (.int .i64 3)) (by kernel_rfl) ⟨ae o.out 0,ae o.out 1,ae o.out 2⟩ (fun _=>?_);generalize (J.alloc (.cells #[.int .i64 2024,.int .i64 2,.int .i64 3] 73)).drew=x2 at *;refine wpAnyH_take (i:=0) (v:=?_) rfl (by kernel_rfl) (by kernel_rfl) (by kernel_rfl) (fun _ _ _ h=>h) (Or.inl ⟨by rfl,?_⟩) (⟨ae o.out 0,ae o.out 1,ae o.out 2⟩) ?_
 rotate_left
 ·(intro F E;obtain ⟨G,H,I⟩:=E;go_simp;try with_reducible rfl)
 refine wpAnyH_take (i:=1) (v:=?_) rfl (by kernel_rfl) (by kernel_rfl) (by kernel_rfl) (fun _ _ _ h=>h) (Or.inl ⟨by rfl,?_⟩) (⟨ae o.out 0,ae o.out 1,ae o.out 2⟩) ?_
 rotate_left
 ·(intro F E;obtain ⟨G,H,I⟩:=E;go_simp;try with_reducible rfl)
 refine wpAnyH_take (i:=4) (v:=?_) rfl (by kernel_rfl) (by kernel_rfl) (by kernel_rfl) (fun _ _ _ h=>h) (Or.inl ⟨by rfl,?_⟩) (⟨ae o.out 0,ae o.out 1,ae o.out 2⟩) ?_
 rotate_left
 ·(intro F E;obtain ⟨G,H,I⟩:=E;go_simp;try with_reducible rfl)
 refine wpAnyH_take (i:=5) (v:=?_) rfl (by kernel_rfl) (by kernel_rfl) (by kernel_rfl) (fun _ _ _ h=>h) (Or.inl ⟨by rfl,?_⟩) (⟨ae o.out 0,ae o.out 1,ae o.out 2⟩) ?_
 rotate_left
 ·(intro F E;obtain ⟨G,H,I⟩:=E;go_simp;try with_reducible rfl)
 refine wpAnyH_take (i:=9) (v:=?_) rfl (by kernel_rfl) (by kernel_rfl) (by kernel_rfl) (fun _ _ _ h=>h) (Or.inl ⟨by rfl,?_⟩) (⟨ae o.out 0,ae o.out 1,ae o.out 2⟩) ?_
 rotate_left
 ·(intro F E;obtain ⟨G,H,I⟩:=E;go_simp;try with_reducible rfl)
 refine wpAnyH_take (i:=10) (v:=?_) rfl (by kernel_rfl) (by kernel_rfl) (by kernel_rfl) (fun _ _ _ h=>h) (Or.inl ⟨by rfl,?_⟩) (⟨ae o.out 0,ae o.out 1,ae o.out 2⟩) ?_
 rotate_left
 ·(intro F E;obtain ⟨G,H,I⟩:=E;go_simp;try with_reducible rfl)
 refine wpAnyH_ready (rs:=[2]) (by kernel_rfl) af ?_;refine AllReadyH.cons rfl (fun K O=>?_) AllReadyH.nil;go_simp;refine (ja 2024 [50,48,50,52] x2 ac.out aj (by decide +kernel) rfl).mono ?_;rintro e x3 ⟨rfl,U⟩;have f:=hide (av o.out U);have aa:=hide (Y.out.trans (U.mono Y.out.size));clear U;refine O.out _ _ (⟨ae f.out 0,ae f.out 1,ae f.out 2⟩) (fun _=>?_);clear O K;refine wpAnyH_take (i:=3) (v:=?_) rfl (by kernel_rfl) (by kernel_rfl) (by kernel_rfl) (fun _ _ _ h=>h) (Or.inl ⟨by rfl,?_⟩) (⟨ae f.out 0,ae f.out 1,ae f.out 2⟩) ?_
 rotate_left
 ·(intro F E;obtain ⟨G,H,I⟩:=E;go_simp;try with_reducible rfl)
 refine wpAnyH_ready (rs:=[6]) (by kernel_rfl) af ?_;refine AllReadyH.cons rfl (fun K O=>?_) AllReadyH.nil;go_simp;refine (eM 2 50 x3 aj (by decide +kernel)).mono ?_;rintro e x4 ⟨rfl,rfl⟩;refine O.out _ _ (⟨ae f.out 0,ae f.out 1,ae f.out 2⟩) (fun _=>?_);clear O K;refine wpAnyH_take (i:=7) (v:=?_) rfl (by kernel_rfl) (by kernel_rfl) (by kernel_rfl) (fun _ _ _ h=>h) (Or.inl ⟨by rfl,?_⟩) (⟨ae f.out 0,ae f.out 1,ae f.out 2⟩) ?_
 rotate_left
 ·(intro F E;obtain ⟨G,H,I⟩:=E;go_simp;try with_reducible rfl)
 refine wpAnyH_take (i:=8) (v:=?_) rfl (by kernel_rfl) (by kernel_rfl) (by kernel_rfl) (fun _ _ _ h=>h) (Or.inl ⟨by rfl,?_⟩) (⟨ae f.out 0,ae f.out 1,ae f.out 2⟩) ?_
 rotate_left
 ·(intro F E;obtain ⟨G,H,I⟩:=E;go_simp;try with_reducible rfl)
 refine wpAnyH_ready (rs:=[11]) (by kernel_rfl) af ?_;refine AllReadyH.cons rfl (fun K O=>?_) AllReadyH.nil;go_simp;refine (eM 3 51 x3 aj (by decide +kernel)).mono ?_;rintro e x4 ⟨rfl,rfl⟩;refine O.out _ _ (⟨ae f.out 0,ae f.out 1,ae f.out 2⟩) (fun _=>?_);clear O K;refine wpAnyH_take (i:=12) (v:=?_) rfl (by kernel_rfl) (by kernel_rfl) (by kernel_rfl) (fun _ _ _ h=>h) (Or.inl ⟨by rfl,?_⟩) (⟨ae f.out 0,ae f.out 1,ae f.out 2⟩) ?_
 rotate_left
 ·(intro F E;obtain ⟨G,H,I⟩:=E;go_simp;try with_reducible rfl)
 refine wpAnyH_take (i:=13) (v:=?_) rfl (by kernel_rfl) (by kernel_rfl) (by kernel_rfl) (fun _ _ _ h=>h) (Or.inl ⟨by rfl,?_⟩) (⟨ae f.out 0,ae f.out 1,ae f.out 2⟩) ?_
 rotate_left
 ·(intro F E;obtain ⟨G,H,I⟩:=E;go_simp;try with_reducible rfl)
 refine wpAnyH_take (i:=14) (v:=?_) rfl (by kernel_rfl) (by kernel_rfl) (by kernel_rfl) (fun _ _ _ h=>h) (Or.inl ⟨by rfl,?_⟩) (⟨ae f.out 0,ae f.out 1,ae f.out 2⟩) ?_
 rotate_left
 ·(intro F E;obtain ⟨G,H,I⟩:=E;go_simp;try with_reducible rfl)
 refine wpAnyH_done (by kernel_rfl) ?_ _;go_simp;go_wp2_with fail;exact bodyPost_ret (v:=.tuple #[.string ⟨#[50,48,50,52,45,48,50,45,48,51]⟩,.int .i64 0]) (by simp (maxDischargeDepth:=9) [results,Tryz.results221,go_sem];decide +kernel) rfl ⟨rfl,aa.out⟩
theorem l9:cH 154531=true∧dr 154531=2023∧io 154531=2∧xz 154531=3:=by decide +kernel
theorem CL (w:World) (hL:bQ w):Calls Tryz.prog 221 #[.int .i64 154531] w fun e w'=>e=.returned (.tuple #[.string ⟨#[50,48,50,51,45,48,50,45,48,51]⟩,.int .i64 0])∧Below w w w':=by
 have HO:=hide (im 154531 w l9.1);rw [l9.2.1,l9.2.2.1,l9.2.2.2] at HO;go_enter Tryz.func221,Tryz.ntmps221;go_wp2_with fail;refine (HO.out).mono ?_;rintro e J ⟨rfl,U⟩;have W:=hide U;have ab:=hide (hL.call U);clear U;go_wp2_with fail;have V:Below J J (J.alloc (.cells #[.int .i64 2023,.int .i64 2,.int .i64 3] 73)).drew:=ar;have o:=hide (show (J.alloc (.cells #[.int .i64 2023,.int .i64 2,.int .i64 3] 73)).drew.heap[J.heap.size]?=some (.cells #[.int .i64 2023,.int .i64 2,.int .i64 3] 73) from heap_alloc_new J _);have ac:=hide (ab.out.call V);have Y:=hide (W.out.trans (V.mono W.out.size));clear V;refine wp_region_held_drew (S:=fun w'=>w'.cell? ⟨J,0,none⟩=some (.int .i64 2023)∧w'.cell? ⟨J,1,none⟩=some (.int .i64 2)∧w'.cell? ⟨J,2,none⟩=some (.int .i64 3)) (by kernel_rfl) ⟨ae o.out 0,ae o.out 1,ae o.out 2⟩ (fun _=>?_);generalize (J.alloc (.cells #[.int .i64 2023,.int .i64 2,.int .i64 3] 73)).drew=x2 at *;refine wpAnyH_take (i:=0) (v:=?_) rfl (by kernel_rfl) (by kernel_rfl) (by kernel_rfl) (fun _ _ _ h=>h) (Or.inl ⟨by rfl,?_⟩) (⟨ae o.out 0,ae o.out 1,ae o.out 2⟩) ?_
 rotate_left
 ·(intro F E;obtain ⟨G,H,I⟩:=E;go_simp;try with_reducible rfl)
 refine wpAnyH_take (i:=1) (v:=?_) rfl (by kernel_rfl) (by kernel_rfl) (by kernel_rfl) (fun _ _ _ h=>h) (Or.inl ⟨by rfl,?_⟩) (⟨ae o.out 0,ae o.out 1,ae o.out 2⟩) ?_
 rotate_left
 ·(intro F E;obtain ⟨G,H,I⟩:=E;go_simp;try with_reducible rfl)
 refine wpAnyH_take (i:=4) (v:=?_) rfl (by kernel_rfl) (by kernel_rfl) (by kernel_rfl) (fun _ _ _ h=>h) (Or.inl ⟨by rfl,?_⟩) (⟨ae o.out 0,ae o.out 1,ae o.out 2⟩) ?_
 rotate_left
 ·(intro F E;obtain ⟨G,H,I⟩:=E;go_simp;try with_reducible rfl)
 refine wpAnyH_take (i:=5) (v:=?_) rfl (by kernel_rfl) (by kernel_rfl) (by kernel_rfl) (fun _ _ _ h=>h) (Or.inl ⟨by rfl,?_⟩) (⟨ae o.out 0,ae o.out 1,ae o.out 2⟩) ?_
 rotate_left
 ·(intro F E;obtain ⟨G,H,I⟩:=E;go_simp;try with_reducible rfl)
 refine wpAnyH_take (i:=9) (v:=?_) rfl (by kernel_rfl) (by kernel_rfl) (by kernel_rfl) (fun _ _ _ h=>h) (Or.inl ⟨by rfl,?_⟩) (⟨ae o.out 0,ae o.out 1,ae o.out 2⟩) ?_
 rotate_left
 ·(intro F E;obtain ⟨G,H,I⟩:=E;go_simp;try with_reducible rfl)
 refine wpAnyH_take (i:=10) (v:=?_) rfl (by kernel_rfl) (by kernel_rfl) (by kernel_rfl) (fun _ _ _ h=>h) (Or.inl ⟨by rfl,?_⟩) (⟨ae o.out 0,ae o.out 1,ae o.out 2⟩) ?_
 rotate_left
 ·(intro F E;obtain ⟨G,H,I⟩:=E;go_simp;try with_reducible rfl)
 refine wpAnyH_ready (rs:=[2]) (by kernel_rfl) af ?_;refine AllReadyH.cons rfl (fun K O=>?_) AllReadyH.nil;go_simp;refine (ja 2023 [50,48,50,51] x2 ac.out aj (by decide +kernel) rfl).mono ?_;rintro e x3 ⟨rfl,U⟩;have f:=hide (av o.out U);have aa:=hide (Y.out.trans (U.mono Y.out.size));clear U;refine O.out _ _ (⟨ae f.out 0,ae f.out 1,ae f.out 2⟩) (fun _=>?_);clear O K;refine wpAnyH_take (i:=3) (v:=?_) rfl (by kernel_rfl) (by kernel_rfl) (by kernel_rfl) (fun _ _ _ h=>h) (Or.inl ⟨by rfl,?_⟩) (⟨ae f.out 0,ae f.out 1,ae f.out 2⟩) ?_
 rotate_left
 ·(intro F E;obtain ⟨G,H,I⟩:=E;go_simp;try with_reducible rfl)
 refine wpAnyH_ready (rs:=[6]) (by kernel_rfl) af ?_;refine AllReadyH.cons rfl (fun K O=>?_) AllReadyH.nil;go_simp;refine (eM 2 50 x3 aj (by decide +kernel)).mono ?_;rintro e x4 ⟨rfl,rfl⟩;refine O.out _ _ (⟨ae f.out 0,ae f.out 1,ae f.out 2⟩) (fun _=>?_);clear O K;refine wpAnyH_take (i:=7) (v:=?_) rfl (by kernel_rfl) (by kernel_rfl) (by kernel_rfl) (fun _ _ _ h=>h) (Or.inl ⟨by rfl,?_⟩) (⟨ae f.out 0,ae f.out 1,ae f.out 2⟩) ?_
 rotate_left
 ·(intro F E;obtain ⟨G,H,I⟩:=E;go_simp;try with_reducible rfl)
 refine wpAnyH_take (i:=8) (v:=?_) rfl (by kernel_rfl) (by kernel_rfl) (by kernel_rfl) (fun _ _ _ h=>h) (Or.inl ⟨by rfl,?_⟩) (⟨ae f.out 0,ae f.out 1,ae f.out 2⟩) ?_
 rotate_left
 ·(intro F E;obtain ⟨G,H,I⟩:=E;go_simp;try with_reducible rfl)
 refine wpAnyH_ready (rs:=[11]) (by kernel_rfl) af ?_;refine AllReadyH.cons rfl (fun K O=>?_) AllReadyH.nil;go_simp;refine (eM 3 51 x3 aj (by decide +kernel)).mono ?_;rintro e x4 ⟨rfl,rfl⟩;refine O.out _ _ (⟨ae f.out 0,ae f.out 1,ae f.out 2⟩) (fun _=>?_);clear O K;refine wpAnyH_take (i:=12) (v:=?_) rfl (by kernel_rfl) (by kernel_rfl) (by kernel_rfl) (fun _ _ _ h=>h) (Or.inl ⟨by rfl,?_⟩) (⟨ae f.out 0,ae f.out 1,ae f.out 2⟩) ?_
 rotate_left
 ·(intro F E;obtain ⟨G,H,I⟩:=E;go_simp;try with_reducible rfl)
 refine wpAnyH_take (i:=13) (v:=?_) rfl (by kernel_rfl) (by kernel_rfl) (by kernel_rfl) (fun _ _ _ h=>h) (Or.inl ⟨by rfl,?_⟩) (⟨ae f.out 0,ae f.out 1,ae f.out 2⟩) ?_
 rotate_left
 ·(intro F E;obtain ⟨G,H,I⟩:=E;go_simp;try with_reducible rfl)
 refine wpAnyH_take (i:=14) (v:=?_) rfl (by kernel_rfl) (by kernel_rfl) (by kernel_rfl) (fun _ _ _ h=>h) (Or.inl ⟨by rfl,?_⟩) (⟨ae f.out 0,ae f.out 1,ae f.out 2⟩) ?_
 rotate_left
 ·(intro F E;obtain ⟨G,H,I⟩:=E;go_simp;try with_reducible rfl)
 refine wpAnyH_done (by kernel_rfl) ?_ _;go_simp;go_wp2_with fail;exact bodyPost_ret (v:=.tuple #[.string ⟨#[50,48,50,51,45,48,50,45,48,51]⟩,.int .i64 0]) (by simp (maxDischargeDepth:=9) [results,Tryz.results221,go_sem];decide +kernel) rfl ⟨rfl,aa.out⟩
theorem lR:cH 154533=true∧dr 154533=2023∧io 154533=2∧xz 154533=5:=by decide +kernel
theorem Cq (w:World) (hL:bQ w):Calls Tryz.prog 221 #[.int .i64 154533] w fun e w'=>e=.returned (.tuple #[.string ⟨#[50,48,50,51,45,48,50,45,48,53]⟩,.int .i64 0])∧Below w w w':=by
 have HO:=hide (im 154533 w lR.1);rw [lR.2.1,lR.2.2.1,lR.2.2.2] at HO;go_enter Tryz.func221,Tryz.ntmps221;go_wp2_with fail;refine (HO.out).mono ?_;rintro e J ⟨rfl,U⟩;have W:=hide U;have ab:=hide (hL.call U);clear U;go_wp2_with fail;have V:Below J J (J.alloc (.cells #[.int .i64 2023,.int .i64 2,.int .i64 5] 73)).drew:=ar;have o:=hide (show (J.alloc (.cells #[.int .i64 2023,.int .i64 2,.int .i64 5] 73)).drew.heap[J.heap.size]?=some (.cells #[.int .i64 2023,.int .i64 2,.int .i64 5] 73) from heap_alloc_new J _);have ac:=hide (ab.out.call V);have Y:=hide (W.out.trans (V.mono W.out.size));clear V;refine wp_region_held_drew (S:=fun w'=>w'.cell? ⟨J,0,none⟩=some (.int .i64 2023)∧w'.cell? ⟨J,1,none⟩=some (.int .i64 2)∧w'.cell? ⟨J,2,none⟩=some (.int .i64 5)) (by kernel_rfl) ⟨ae o.out 0,ae o.out 1,ae o.out 2⟩ (fun _=>?_);generalize (J.alloc (.cells #[.int .i64 2023,.int .i64 2,.int .i64 5] 73)).drew=x2 at *;refine wpAnyH_take (i:=0) (v:=?_) rfl (by kernel_rfl) (by kernel_rfl) (by kernel_rfl) (fun _ _ _ h=>h) (Or.inl ⟨by rfl,?_⟩) (⟨ae o.out 0,ae o.out 1,ae o.out 2⟩) ?_
 rotate_left
 ·(intro F E;obtain ⟨G,H,I⟩:=E;go_simp;try with_reducible rfl)
 refine wpAnyH_take (i:=1) (v:=?_) rfl (by kernel_rfl) (by kernel_rfl) (by kernel_rfl) (fun _ _ _ h=>h) (Or.inl ⟨by rfl,?_⟩) (⟨ae o.out 0,ae o.out 1,ae o.out 2⟩) ?_
 rotate_left
 ·(intro F E;obtain ⟨G,H,I⟩:=E;go_simp;try with_reducible rfl)
 refine wpAnyH_take (i:=4) (v:=?_) rfl (by kernel_rfl) (by kernel_rfl) (by kernel_rfl) (fun _ _ _ h=>h) (Or.inl ⟨by rfl,?_⟩) (⟨ae o.out 0,ae o.out 1,ae o.out 2⟩) ?_
 rotate_left
 ·(intro F E;obtain ⟨G,H,I⟩:=E;go_simp;try with_reducible rfl)
 refine wpAnyH_take (i:=5) (v:=?_) rfl (by kernel_rfl) (by kernel_rfl) (by kernel_rfl) (fun _ _ _ h=>h) (Or.inl ⟨by rfl,?_⟩) (⟨ae o.out 0,ae o.out 1,ae o.out 2⟩) ?_
 rotate_left
 ·(intro F E;obtain ⟨G,H,I⟩:=E;go_simp;try with_reducible rfl)
 refine wpAnyH_take (i:=9) (v:=?_) rfl (by kernel_rfl) (by kernel_rfl) (by kernel_rfl) (fun _ _ _ h=>h) (Or.inl ⟨by rfl,?_⟩) (⟨ae o.out 0,ae o.out 1,ae o.out 2⟩) ?_
 rotate_left
 ·(intro F E;obtain ⟨G,H,I⟩:=E;go_simp;try with_reducible rfl)
 refine wpAnyH_take (i:=10) (v:=?_) rfl (by kernel_rfl) (by kernel_rfl) (by kernel_rfl) (fun _ _ _ h=>h) (Or.inl ⟨by rfl,?_⟩) (⟨ae o.out 0,ae o.out 1,ae o.out 2⟩) ?_
 rotate_left
 ·(intro F E;obtain ⟨G,H,I⟩:=E;go_simp;try with_reducible rfl)
 refine wpAnyH_ready (rs:=[2]) (by kernel_rfl) af ?_;refine AllReadyH.cons rfl (fun K O=>?_) AllReadyH.nil;go_simp;refine (ja 2023 [50,48,50,51] x2 ac.out aj (by decide +kernel) rfl).mono ?_;rintro e x3 ⟨rfl,U⟩;have f:=hide (av o.out U);have aa:=hide (Y.out.trans (U.mono Y.out.size));clear U;refine O.out _ _ (⟨ae f.out 0,ae f.out 1,ae f.out 2⟩) (fun _=>?_);clear O K;refine wpAnyH_take (i:=3) (v:=?_) rfl (by kernel_rfl) (by kernel_rfl) (by kernel_rfl) (fun _ _ _ h=>h) (Or.inl ⟨by rfl,?_⟩) (⟨ae f.out 0,ae f.out 1,ae f.out 2⟩) ?_
 rotate_left
 ·(intro F E;obtain ⟨G,H,I⟩:=E;go_simp;try with_reducible rfl)
 refine wpAnyH_ready (rs:=[6]) (by kernel_rfl) af ?_;refine AllReadyH.cons rfl (fun K O=>?_) AllReadyH.nil;go_simp;refine (eM 2 50 x3 aj (by decide +kernel)).mono ?_;rintro e x4 ⟨rfl,rfl⟩;refine O.out _ _ (⟨ae f.out 0,ae f.out 1,ae f.out 2⟩) (fun _=>?_);clear O K;refine wpAnyH_take (i:=7) (v:=?_) rfl (by kernel_rfl) (by kernel_rfl) (by kernel_rfl) (fun _ _ _ h=>h) (Or.inl ⟨by rfl,?_⟩) (⟨ae f.out 0,ae f.out 1,ae f.out 2⟩) ?_
 rotate_left
 ·(intro F E;obtain ⟨G,H,I⟩:=E;go_simp;try with_reducible rfl)
 refine wpAnyH_take (i:=8) (v:=?_) rfl (by kernel_rfl) (by kernel_rfl) (by kernel_rfl) (fun _ _ _ h=>h) (Or.inl ⟨by rfl,?_⟩) (⟨ae f.out 0,ae f.out 1,ae f.out 2⟩) ?_
 rotate_left
 ·(intro F E;obtain ⟨G,H,I⟩:=E;go_simp;try with_reducible rfl)
 refine wpAnyH_ready (rs:=[11]) (by kernel_rfl) af ?_;refine AllReadyH.cons rfl (fun K O=>?_) AllReadyH.nil;go_simp;refine (eM 5 53 x3 aj (by decide +kernel)).mono ?_;rintro e x4 ⟨rfl,rfl⟩;refine O.out _ _ (⟨ae f.out 0,ae f.out 1,ae f.out 2⟩) (fun _=>?_);clear O K;refine wpAnyH_take (i:=12) (v:=?_) rfl (by kernel_rfl) (by kernel_rfl) (by kernel_rfl) (fun _ _ _ h=>h) (Or.inl ⟨by rfl,?_⟩) (⟨ae f.out 0,ae f.out 1,ae f.out 2⟩) ?_
 rotate_left
 ·(intro F E;obtain ⟨G,H,I⟩:=E;go_simp;try with_reducible rfl)
 refine wpAnyH_take (i:=13) (v:=?_) rfl (by kernel_rfl) (by kernel_rfl) (by kernel_rfl) (fun _ _ _ h=>h) (Or.inl ⟨by rfl,?_⟩) (⟨ae f.out 0,ae f.out 1,ae f.out 2⟩) ?_
 rotate_left
 ·(intro F E;obtain ⟨G,H,I⟩:=E;go_simp;try with_reducible rfl)
 refine wpAnyH_take (i:=14) (v:=?_) rfl (by kernel_rfl) (by kernel_rfl) (by kernel_rfl) (fun _ _ _ h=>h) (Or.inl ⟨by rfl,?_⟩) (⟨ae f.out 0,ae f.out 1,ae f.out 2⟩) ?_
 rotate_left
 ·(intro F E;obtain ⟨G,H,I⟩:=E;go_simp;try with_reducible rfl)
 refine wpAnyH_done (by kernel_rfl) ?_ _;go_simp;go_wp2_with fail;exact bodyPost_ret (v:=.tuple #[.string ⟨#[50,48,50,51,45,48,50,45,48,53]⟩,.int .i64 0]) (by simp (maxDischargeDepth:=9) [results,Tryz.results221,go_sem];decide +kernel) rfl ⟨rfl,aa.out⟩
end
section
open Go.RowKit Qd
theorem D4 (w:World):Calls Tryz.prog 242 #[.int .i64 0,.int .i64 10] w fun e w'=>e=.returned (.tuple #[.int .i64 0,.int .i64 0])∧Below w w w':=by
 go_enter Tryz.func242,Tryz.ntmps242;go_wp2
 all_goals (go_ret2;exact ⟨rfl,by (repeat' exact bel)⟩)
theorem EH (w:World):Calls Tryz.prog 242 #[.int .i64 1,.int .i64 10] w fun e w'=>e=.returned (.tuple #[.int .i64 10,.int .i64 0])∧Below w w w':=by
 go_enter Tryz.func242,Tryz.ntmps242;go_wp2
 all_goals (go_ret2;exact ⟨rfl,by (repeat' exact bel)⟩)
theorem Ew (w:World):Calls Tryz.prog 244 #[.int .i64 0,.int .i64 1] w fun e w'=>e=.returned (.tuple #[.int .i64 1,.int .i64 0])∧w=w':=by
 go_enter Tryz.func244,Tryz.ntmps244;go_wp2;go_ret2;exact ⟨rfl,rfl⟩
theorem ED (w:World):Calls Tryz.prog 244 #[.int .i64 10,.int .i64 0] w fun e w'=>e=.returned (.tuple #[.int .i64 10,.int .i64 0])∧w=w':=by
 go_enter Tryz.func244,Tryz.ntmps244;go_wp2;go_ret2;exact ⟨rfl,rfl⟩
theorem te (w:World):Calls Tryz.prog 212 #[.string ⟨#[49,48]⟩] w fun e w'=>e=.returned (.tuple #[.int .i64 10,.int .i64 0])∧Below w w w':=by
 have H:=hide (Tryz.strings_CutPrefix ⟨#[49,48]⟩ ⟨#[45]⟩ w);rw [show (⟨(Lib.trimPrefix (⟨#[49,48]⟩:ByteArray).data.toList (⟨#[45]⟩:ByteArray).data.toList).toArray⟩:ByteArray)=⟨#[49,48]⟩ by decide +kernel,show Lib.hasPrefix (⟨#[49,48]⟩:ByteArray).data.toList (⟨#[45]⟩:ByteArray).data.toList=false by decide +kernel] at H;obtain ⟨J,cap,Y,o,I,G⟩:=ns w ⟨#[49,48]⟩;rw [show (⟨#[49,48]⟩:ByteArray).size=2 by rfl] at Y;have b0:J.cell? ⟨w,0,none⟩=some (.int .u8 49):=G 0 aj;have V:J.cell? ⟨w,1,none⟩=some (.int .u8 48):=G 1 aj;have E:w.heap.size<J.heap.size:=om;have O:=hide o;clear G o I;go_enter Tryz.func212,Tryz.ntmps212;go_wp2_with fail;refine (H.out).mono ?_;rintro e x ⟨rfl,rfl⟩;go_wp2_with fail;refine wp_loop_rounds 3 ?_;rw [rounds_succ];go_wp2_with fail;refine (D4 _).mono ?_;rintro e U ⟨rfl,f⟩;have W:U.cell? ⟨x,1,none⟩=some (.int .u8 48):=(f.cell (p:=⟨x,1,none⟩) E).trans V;have h:=hide (O.out.trans (f.mono O.out.size));have aa:x.heap.size<U.heap.size:=Nat.lt_of_lt_of_le E f.size;clear f;go_wp2_with fail;refine (Ew _).mono ?_;rintro e x3 ⟨rfl,rfl⟩;go_wp2_with fail;rw [rounds_succ];go_wp2_with fail;refine (EH _).mono ?_;rintro e x4 ⟨rfl,f⟩;have F:=hide (h.out.trans (f.mono h.out.size));clear f;go_wp2_with fail;refine (ED _).mono ?_;rintro e x5 ⟨rfl,rfl⟩;go_wp2_with fail;rw [rounds_succ];go_wp2_with fail;exact bodyPost_ret (v:=.tuple #[.int .i64 10,.int .i64 0]) (by simp (maxDischargeDepth:=9) [results,Tryz.results212,go_sem]) rfl ⟨rfl,F.out⟩
theorem qP:(Tryz.prog.info? 113).map (·.size)=some 2:=by kernel_rfl
theorem BN:(Tryz.prog.info? 5).map (fun i=>(i.zero,i.size,i.bytes))=some (some (.int .u8 0),1,1):=by kernel_rfl
abbrev BT:TypeId:=113
abbrev UT:TypeId:=5
theorem zW (b:Nat) (w:World) (h:w.cell? ⟨b,0,none⟩=some (.pointer (some ⟨b,0,none⟩))):Calls Tryz.prog 81 #[.pointer (some ⟨b,0,none⟩)] w fun e w'=>e=.returned (.tuple #[])∧w'=w:=by
 obtain ⟨j,f,_⟩:=Option.map_eq_some_iff.1 qP;have o:=Lib.run_neq_ptr_same (P:=Tryz.prog) w ⟨b,0,none⟩ Tryz.underlying110 f;go_enter Tryz.func81,Tryz.ntmps81;go_wp2;go_end0;exact ⟨rfl,rfl⟩
theorem wU (b:Nat) (w:World) (G:w.cell? ⟨b,0,none⟩=some (.pointer none)) (f:w.shape? b=some (BT,2)) (E:w.frozen? ⟨b,0,none⟩=false):Calls Tryz.prog 81 #[.pointer (some ⟨b,0,none⟩)] w fun e w'=>e=.returned (.tuple #[])∧w'=w.setCell ⟨b,0,none⟩ (.pointer (some ⟨b,0,none⟩)):=by
 obtain ⟨j,o,h⟩:=Option.map_eq_some_iff.1 qP;have F:liesAt Tryz.prog Tryz.prog.depth BT (2 / Tryz.prog.cellsOf BT) 0 BT 1=true:=by kernel_rfl
 go_enter Tryz.func81,Tryz.ntmps81;go_wp2;rw [Lib.run_to_unsafe w ⟨b,0,none⟩ Tryz.underlying110 Tryz.underlying232 o (by rw [h];decide) f (Nat.zero_lt_succ 1)];simp only [Result.andThen];rw [Oper.upon_value];go_wp2;rw [run_callFunc_extern Tryz.func120 (by kernel_rfl) (by kernel_rfl) (by kernel_rfl) (e:=Extern.AbiNoEscape.same) (by kernel_rfl)];rw [Lib.run_noEscape];simp only [Result.andThen];rw [Oper.upon_value];go_wp2;rw [Lib.run_from_unsafe w ⟨b,0,none⟩ Tryz.underlying232 Tryz.underlying110 o f F];simp only [Result.andThen];rw [Oper.upon_value];go_wp2;go_end0;exact ⟨rfl,rfl⟩
theorem Ir (B b:Nat) (f:List Value) (w:World) (h:Lib.IsBuilder BT UT B b f w) :
  Calls Tryz.prog 81 #[.pointer (some ⟨b,0,none⟩)] w fun e w'=>e=.returned (.tuple #[])∧(Lib.BuilderAt BT UT B b (.pointer (some ⟨b,0,none⟩)) f w'∧Below B w w'∧∀ j,j≠b→w'.heap[j]?=w.heap[j]?):=by
 rcases h with h | h
 ·refine (wU b w h.cell0 h.shape h.frozen0).mono ?_
  rintro e w' ⟨rfl,rfl⟩;exact ⟨rfl,h.used _,(Below.refl B w).setCell (p:=⟨b,0,none⟩) h.1 _,fun j o=>Below.heap_setCell _ _ _ j o⟩
 ·refine (zW b w h.cell0).mono ?_
  rintro e w' ⟨rfl,rfl⟩;exact ⟨rfl,h,Below.refl B _,fun j _=>rfl⟩
theorem ls (B b:Nat) (H:List Value) (s:ByteArray) (w:World) (h:Lib.IsBuilder BT UT B b H w) (al:H.length+s.size≤1000000) (aq:B≤w.heap.size) :
  Calls Tryz.prog 48 #[.pointer (some ⟨b,0,none⟩),.string s] w fun e w'=>e=.returned (.tuple #[s.size,.nilIface])∧(Lib.BuilderAt BT UT B b (.pointer (some ⟨b,0,none⟩)) (H++Lib.strCells s) w'∧Below B w w'∧∀ (j:Nat) (U:Array Value) (t:TypeId),t≠UT→j≠b→w.heap[j]?=some (.cells U t (0,0))→w'.heap[j]?=some (.cells U t (0,0))):=by
 obtain ⟨i0,hi,ab,ac,ad⟩:=info_parts BN;go_enter Tryz.func48,Tryz.ntmps48;go_wp2_with fail;refine (Ir B b H w h).mono ?_;rintro e w1 ⟨rfl,h1,I,J⟩;have O:=hide J;clear J;obtain ⟨hB,v,F,f,aa⟩:=h1;have c1:w1.cell? ⟨b,1,none⟩=some v:=ae F 1;have aA:=I.size;go_wp2_with (at_builtin;refine Lib.wpList_append_own_string _ rfl _ _ 111 9 rfl B UT i0 Tryz.underlying111 Tryz.underlying9 hi ab ac ad _ _ _ rfl f s rfl (by unfold maxLen;omega) om om ?_);intro v' w2 ho W _;have Y:b<w1.heap.size:=(Array.getElem?_eq_some_iff.1 F).1;have E:w2.heap[b]?=some (.cells #[.pointer (some ⟨b,0,none⟩),v] BT (0,0)):=(W.block b Y (fun e=>aa e.symm)).trans F;have d1:w2.cell? ⟨b,1,none⟩=some v:=ae E 1;have f1:w2.frozen? ⟨b,1,none⟩=false:=aw E 1;obtain ⟨ao,n',cap,rfl⟩:∃ ao n' cap,v'=.slice ao n' cap:=by
  rcases ho.2 with ⟨G,_⟩ | ⟨g,cap,V,G,_⟩
  ·exact ⟨_,_,_,G⟩
  ·exact ⟨_,_,_,G⟩
 go_wp2;go_ret2;refine ⟨rfl,?_,?_,fun j U t ht hj hc=>?_⟩
 ·exact Lib.BuilderAt.put (T:=BT) (e:=UT) hB E (bs':=H++Lib.strCells s) (by simpa [Lib.strCells_length] using ho) aj
 ·exact (I.grown W om (fun k hk=>(f.lt k hk).1)).setCell (p:=⟨b,1,none⟩) hB _
 ·have o:=(O.out j hj).trans hc
  refine (Below.heap_setCell _ _ _ j hj).trans ((W.block j (Array.getElem?_eq_some_iff.1 o).1 (fun e=>?_)).trans o);rcases f.2 with ⟨G,_⟩ | ⟨g',ah,V,G,_,h3,_⟩
  ·rw [G] at e;simp [Value.ownBlock] at e
  ·rw [G] at e
   obtain rfl:j=g':=by simpa [Value.ownBlock] using e
   rw [h3] at o;cases o;exact ht rfl
end
end Go.Proofs.YtpebkobmhhnojaaGreatDoor
