/- Lemmas. -/
import Derived.BigQuiet
import Derived.OpenShut
import Derived.ProofKit
import Derived.Test.YtjhhmeoibfdcmaaGreatWr05
import Derived.Test.YtjhhmeoibfdcmaaGreatWr06
set_option linter.unusedSimpArgs false
set_option linter.unusedVariables false
set_option maxRecDepth 100000
set_option maxHeartbeats 12800000
namespace Go.Proofs.YtjhhmeoibfdcmaaGreat
section
open Go.RowKit
def iP (w:World) (B:Nat) (D:List Int):Prop:=w.heap[B]?=some (.cells (D.map (Value.int .u64)).toArray 210 (0,0))
theorem iP.lt {w:World} {B:Nat} {D:List Int} (h:iP w B D):B<w.heap.size:=(Array.getElem?_eq_some_iff.1 h).1
theorem iP.cell {w:World} {B:Nat} {D:List Int} (h:iP w B D) {k:Nat} {x:Int} (f:D[k]?=some x):w.cell? ⟨B,k,none⟩=some (.int .u64 x):=by
 rw [cell_of_row w B k _ _ _ h];simp [f]
theorem iP.below {w f:World} {K B:Nat} {D:List Int} (h:iP w B D) (o:Below K w f) (E:B<K):iP f B D:=(o.block B E).trans h
theorem iP.call {w f:World} {B:Nat} {D:List Int} (h:iP w B D) (o:Below w w f):iP f B D:=h.below o h.lt
theorem iP.new (w:World) (D:List Int):iP (w.alloc (.cells (D.map (Value.int .u64)).toArray 210)) w.heap.size D:=heap_alloc_new w _
abbrev tA (N:Nat):Obj:=.cells #[.int .u64 (dg N 0:Int),.int .u64 (dg N 1:Int),.int .u64 (dg N 2:Int),.int .u64 (dg N 3:Int),.int .u64 (dg N 4:Int),.int .u64 (dg N 5:Int),.int .u64 (dg N 6:Int),.int .u64 (dg N 7:Int)] 210
theorem iP.two (w:World) (M N:Nat):iP ((w.alloc (tA M)).alloc (tA N)) w.heap.size (ga M)∧iP ((w.alloc (tA M)).alloc (tA N)) (w.heap.size+1) (ga N):=
 ⟨(show iP (w.alloc (tA M)) w.heap.size (ga M) from iP.new w (ga M)).call ((Below.refl _ _).alloc (Nat.le_refl _) _),by
  have:=show iP ((w.alloc (tA M)).alloc (tA N)) (w.alloc (tA M)).heap.size (ga N) from iP.new (w.alloc (tA M)) (ga N);simpa using this⟩
def ni (A B:Nat):Int:=if A<B then -1 else if B<A then 1 else 0
theorem F6 {A B i:Nat} (h:A / 65536 ^ (i+1)=B / 65536 ^ (i+1)) (F:dg A i<dg B i):A<B:=by
 have o:=iG A i;have E:=iG B i;rcases Nat.lt_or_ge A B with f | f
 ·exact f
 ·have:=Nat.div_le_div_right (c:=65536 ^ i) f
  rw [h] at o;omega
theorem IN {A B i:Nat} (h:A / 65536 ^ (i+1)=B / 65536 ^ (i+1)) (f:dg A i=dg B i):A / 65536 ^ i=B / 65536 ^ i:=by
 rw [iG A i,iG B i,h,f]
theorem qp (M N:Nat) (w:World) (hM:Hid (M<65536 ^ 8)) (hN:Hid (N<65536 ^ 8)) :
    Calls Tryz.prog 219 #[JQ M,JQ N] w fun e w'=>e=.returned (.int .i64 (ni M N))∧Below w w w':=by
  have R:=hide (iP.two w M N).1;have S:=hide (iP.two w M N).2;go_enter Tryz.func219,Tryz.ntmps219;go_wp2_with fail;go_loopw [5] (fun s wr=>∃ j:Nat,s=.int .i64 ((j:Int)-1)∧j≤8∧Hid (M / 65536 ^ j=N / 65536 ^ j)∧iP wr w.heap.size (ga M)∧iP wr (w.heap.size+1) (ga N)∧Below w w wr) (fun s _=>(intOf s+1).toNat)
  case atStart=>exact ⟨8,rfl,by omega,hide (by rw [Nat.div_eq_of_lt hM.out,Nat.div_eq_of_lt hN.out]),R.out,S.out,by (repeat' exact bel)⟩
  case round =>
    obtain ⟨j,rfl,hj,E,f,o,O⟩:=hrel;have F:=hide f;have G:=hide o;have ah:=f.lt;have al:=o.lt;clear f o;rcases Nat.eq_zero_or_pos j with rfl | ad
    · have W := hide (show ni M N = 0 by
        have h:=E.out;simp at h;subst h;simp [ni])
      clear E;go_wp2;go_ret;exact ⟨aZ W.out.symm,by (repeat' exact bel)⟩
    · obtain ⟨i,rfl⟩:∃ i,j=i+1:=⟨j-1,by omega⟩
      have c1:=F.out.cell (im (N:=M) (i:=i) om);have c2:=G.out.cell (im (N:=N) (i:=i) om);have U:=hide (show (dg M i:Int)<(dg N i:Int)→M<N from fun h=>F6 (i:=i) E.out om);have T:=hide (show (dg N i:Int)<(dg M i:Int)→N<M from fun h=>F6 (i:=i) E.out.symm om);have V:=hide (show (dg M i:Int)=(dg N i:Int)→M / 65536 ^ i=N / 65536 ^ i from fun h=>IN (i:=i) E.out om);clear E;generalize (dg M i:Int)=x at *;generalize (dg N i:Int)=y at *;rcases Int.lt_trichotomy x y with h | h | h
      · have H:=hide (show ni M N=-1 by unfold ni;rw [if_pos (U.out h)])
        have J:decide (x<y)=true:=by simpa using h
        go_wp2_with fail;go_quiet (fail);go_wp2
        all_goals first
          | (exfalso;omega)
          | (go_ret;exact ⟨aZ H.out.symm,by (repeat' exact bel)⟩)
      · subst h
        have H:=hide (V.out rfl);have J:decide (x<x)=false:=ac;go_wp2_with fail;go_quiet (fail);go_wp2_with fail;go_quiet (fail);go_wp2;go_roundw
        case rel=>exact ⟨i,by go_num,by omega,H,F.out,G.out,by (repeat' exact bel)⟩
        case measure=>simp [intOf]
      · have I:=T.out h
        have H:=hide (show ni M N=1 by unfold ni;rw [if_neg om,if_pos I]);have J:decide (x<y)=false:=ae;have ab:decide (y<x)=true:=by simpa using h
        clear I;go_wp2_with fail;go_quiet (fail);go_wp2_with fail;go_quiet (fail);go_wp2
        all_goals first
          | (exfalso;omega)
          | (go_ret;exact ⟨aZ H.out.symm,by (repeat' exact bel)⟩)
def fR (X Y j:Nat):List Int:=(ga X).take j++(ga Y).drop j
theorem gw (X Y:Nat):fR X Y 0=ga Y:=by simp [fR]
theorem ms (X Y:Nat):fR X Y 8=ga X:=by simp [fR,ga]
theorem kL {X Y j:Nat} (h:j<8):(fR X Y j)[j]?=some (dg Y j:Int):=by
 match j,h with
 | 0,_ | 1,_ | 2,_ | 3,_ | 4,_ | 5,_ | 6,_ | 7,_=>rfl
theorem kI {X Y j:Nat} (h:j<8):(fR X Y j).set j (dg X j:Int)=fR X Y (j+1):=by
 match j,h with
 | 0,_ | 1,_ | 2,_ | 3,_ | 4,_ | 5,_ | 6,_ | 7,_=>rfl
abbrev us (b:Bool) (N:Nat):Obj:=.cells #[.bool b,.int .u64 (dg N 0:Int),.int .u64 (dg N 1:Int),.int .u64 (dg N 2:Int),.int .u64 (dg N 3:Int),.int .u64 (dg N 4:Int),.int .u64 (dg N 5:Int),.int .u64 (dg N 6:Int),.int .u64 (dg N 7:Int)] 212
theorem bn.numO (w:World) (b:Bool) (N:Nat):bn (w.alloc (us b N)) w.heap.size b (ga N):=bn.new w b (ga N)
theorem bn.alloc {w:World} {B:Nat} {b:Bool} {D:List Int} (h:bn w B b D) (o:Obj):bn (w.alloc o) B b D:=h.call ((Below.refl _ _).alloc (Nat.le_refl _) _)
def jO (f w:World) (a:Bool) (h:List Int) (b:Bool) (o:List Int):Prop:=bn w f.heap.size a h∧bn w (f.heap.size+1) b o∧bn w (f.heap.size+1+1) false rb∧Below f f w
theorem jO.call {G w F:World} {a b:Bool} {o E:List Int} (h:jO G w a o b E) (f:Below w w F):jO G F a o b E:=⟨h.1.call f,h.2.1.call f,h.2.2.1.call f,h.2.2.2.trans (f.mono h.2.2.2.size)⟩
theorem jO.set {f w:World} {a b:Bool} {o E:List Int} (h:jO f w a o b E) (k:Nat) (v:Int):jO f (w.setCell ⟨f,1+k,none⟩ (.int .u64 v)) a (o.set k v) b E:=
 ⟨h.1.set k v,h.2.1.far ac _,h.2.2.1.far ae _,h.2.2.2.setCell (Nat.le_refl _) _⟩
theorem jO.new (w:World) (a b:Bool) (A B:Nat):jO w (((w.alloc (us a A)).alloc (us b B)).alloc (nD false)) a (ga A) b (ga B):=by
 refine ⟨((bn.numO w a A).alloc _).alloc _,bn.alloc ?_ _,?_,by (repeat' exact bel)⟩
 ·simpa using bn.numO (w.alloc (Go.Proofs.YtjhhmeoibfdcmaaGreat.us a A)) b B
 ·simpa using bn.zero ((w.alloc (Go.Proofs.YtjhhmeoibfdcmaaGreat.us a A)).alloc (Go.Proofs.YtjhhmeoibfdcmaaGreat.us b B)) false
theorem jO.drew {E w:World} {a b:Bool} {f o:List Int} {n:Nat} (h:jO E w a f b o):jO E (w.drewN n) a f b o:=h.call (below_drewN (Below.refl _ _) n)
abbrev nC (w:World) (B:Nat) (b:Bool) (N:Nat):World:=((((((((w.setCell ⟨B,0,none⟩ (.bool b)).setCell ⟨B,1,none⟩ (.int .u64 (dg N 0:Int))).setCell ⟨B,2,none⟩ (.int .u64 (dg N 1:Int))).setCell ⟨B,3,none⟩ (.int .u64 (dg N 2:Int))).setCell ⟨B,4,none⟩ (.int .u64 (dg N 3:Int))).setCell ⟨B,5,none⟩ (.int .u64 (dg N 4:Int))).setCell ⟨B,6,none⟩ (.int .u64 (dg N 5:Int))).setCell ⟨B,7,none⟩ (.int .u64 (dg N 6:Int))).setCell ⟨B,8,none⟩ (.int .u64 (dg N 7:Int))
theorem bn.sgn {w:World} {B:Nat} {b:Bool} {D:List Int} (h:bn w B b D) (c:Bool):bn (w.setCell ⟨B,0,none⟩ (.bool c)) B c D:=by
 unfold bn at h ⊢;simp [World.setCell,Array.getElem?_modify,h,Aj]
theorem bn.put {w:World} {B:Nat} {b c:Bool} {f o E F G H I J:Int} (h:bn w B b [f,o,E,F,G,H,I,J]) (N:Nat):bn (nC w B c N) B c (ga N):=
 ((((((((h.sgn c).set 0 _).set 1 _).set 2 _).set 3 _).set 4 _).set 5 _).set 6 _).set 7 _
theorem bn.putFar {w:World} {B o:Nat} {b c:Bool} {D:List Int} (h:bn w B b D) (f:B≠o) (N:Nat):bn (nC w o c N) B b D:=
 ((((((((h.far f _).far f _).far f _).far f _).far f _).far f _).far f _).far f _).far f _
theorem ig {o w:World} {K B:Nat} (h:Below K o w) (f:K≤B) (b:Bool) (N:Nat):Below K o (Go.Proofs.YtjhhmeoibfdcmaaGreat.nC w B b N):=
 ((((((((h.setCell f _).setCell f _).setCell f _).setCell f _).setCell f _).setCell f _).setCell f _).setCell f _).setCell f _
theorem jO.swap {f w:World} {a b:Bool} {A B:Nat} (h:jO f w a (ga A) b (ga B)):jO f (nC (nC w f.heap.size b B) (f.heap.size+1) a A) b (ga B) a (ga A):=
 ⟨(h.1.put B).putFar ac A,(h.2.1.putFar ac B).put A,(h.2.2.1.putFar ae B).putFar ac A,ig (ig h.2.2.2 (Nat.le_refl _) b B) ac a A⟩
theorem mN (a:Bool) (A B:Nat) (w:World) (hA:Hid (A<65536 ^ 8)) (hB:Hid (B<65536 ^ 8)) :
  Calls Tryz.prog 174 #[cU a A,cU a B] w fun e w'=>e=.returned (.tuple #[cU a (A+B),.bool (decide (A+B<65536 ^ 8))])∧Below w w w':=by
 have J:=hide (jO.new w a a A B);obtain ⟨N,hN⟩:∃ N,A+B=N:=⟨_,rfl⟩;obtain ⟨I,o⟩:∃ I,decide (A+B<65536 ^ 8)=I:=⟨_,rfl⟩;have HN:=hide hN;have O:=hide o;rw [o,hN];clear hN o;obtain ⟨⟨a0,a1,a2,a3,a4,a5,a6,a7,a8⟩,⟨R,H,S,T,U,V,W,f7,f8⟩,ab⟩:=bn.nine J.out.1;obtain ⟨⟨b0,_⟩,_⟩:=bn.nine J.out.2.1;go_enter Tryz.func174,Tryz.ntmps174;go_wp2_with fail;go_loopw [9,49] (fun s9 s wr=>∃ j:Nat,s9=.int .u64 (nZ A B j:Int)∧s=.int .i64 j∧j≤8∧jO w wr a (fR N A j) a (ga B)) (fun _ s _=>(9-intOf s).toNat)
 case atStart=>exact ⟨0,by rw [Dv];rfl,rfl,by omega,by rw [gw];exact J.out⟩
 case round =>
  obtain ⟨j,rfl,rfl,hj,G⟩:=hrel;have E:=hide G;have ad:=G.2.2.2;have ay:=G.1.lt;have aA:=G.2.1.lt;clear G a0 a1 a2 a3 a4 a5 a6 a7 a8 R H S T U V W f7 f8 b0 ab;rcases (show j=8∨j<8 by omega) with rfl | f
  ·have hD:=E.out.1
   rw [ms] at hD;obtain ⟨⟨a0,a1,a2,a3,a4,a5,a6,a7,a8⟩,_⟩:=bn.nine hD;obtain ⟨⟨r0,r1,r2,r3,r4,r5,r6,r7,r8⟩,⟨R,H,S,T,U,V,W,f7,f8⟩,hz⟩:=bn.nine E.out.2.2.1;clear hD;have HE:=hide (show ((nZ A B 8:Int)==0)=I by
    rw [← O.out];have:=GQ hA.out hB.out;by_cases h:A+B<65536 ^ 8
    ·have F:=this.2 h
     simp [h,F]
    ·have F:¬ nZ A B 8=0:=fun e=>h (this.1 e)
     simp [h];omega)
   have h0:(0:Int)≤(nZ A B 8:Int):=Int.natCast_nonneg _;generalize (nZ A B 8:Int)=X at *;go_wp2;refine bodyPost_ret (v:=.tuple #[cU a N,.bool I]) (by simp (maxDischargeDepth:=9) [results,Tryz.results174,go_sem,r0,r1,r2,r3,r4,r5,r6,r7,r8,R,H,S,T,U,V,W,f7,f8,hz];exact HE.out) rfl ⟨rfl,by (repeat' exact bel)⟩
  ·have c1:=E.out.1.cell (kL (X:=N) (Y:=A) f)
   have c2:=E.out.2.1.cell (im (N:=B) f);have H:=E.out.1.frozen (1+j);have H1:=hide (show ((nZ A B j:Int)+((dg A j:Int)+(dg B j:Int))) % 65536=(dg N j:Int) by have:=rG A B j;rw [HN.out] at this;omega);have H2:=hide (show ((nZ A B j:Int)+((dg A j:Int)+(dg B j:Int))) / 65536=(nZ A B (j+1):Int) by have:=D8 A B j;omega);have h1:0≤(nZ A B j:Int)∧(nZ A B j:Int)≤1:=by have:=DG A B j;omega
   have F:0≤(dg A j:Int)∧(dg A j:Int)<65536:=by have:=iS A j;omega
   have h3:0≤(dg B j:Int)∧(dg B j:Int)<65536:=by have:=iS B j;omega
   have HM:=hide (kI (X:=N) (Y:=A) f);generalize (nZ A B j:Int)=X at *;generalize (dg A j:Int)=Y at *;generalize (dg B j:Int)=Z at *;obtain ⟨h1,ah⟩:=h1;obtain ⟨F,al⟩:=F;obtain ⟨h3,aq⟩:=h3;go_wp2_with fail;go_quiet (fail);go_wp2;go_roundw
   case rel=>exact ⟨j+1,by rw [H2.out],by go_num,by omega,by rw [H1.out,← HM.out];exact E.out.drew.set j _⟩
   case measure=>simp [intOf];omega
theorem xQ (a b:Bool) (A B:Nat) (w:World) (W:a≠b) (hA:Hid (A<65536 ^ 8)) (hB:Hid (B<65536 ^ 8)) (ad:Hid (B≤A)) :
  Calls Tryz.prog 174 #[cU a A,cU b B] w fun e w'=>e=.returned (.tuple #[cU a (A-B),.bool true])∧Below w w w':=by
 have H0:=hide (jO.new w a b A B);obtain ⟨N,hN⟩:∃ N,A-B=N:=⟨_,rfl⟩;have HN:=hide hN;rw [hN];clear hN;have al:(a==b)=false:=by simpa using W
 clear W;obtain ⟨⟨a0,a1,a2,a3,a4,a5,a6,a7,a8⟩,⟨H,G,I,J,O,R,S,T,U⟩,o⟩:=bn.nine H0.out.1;obtain ⟨⟨b0,b1,b2,b3,b4,b5,b6,b7,b8⟩,⟨g0,g1,g2,g3,g4,g5,g6,g7,g8⟩,E⟩:=bn.nine H0.out.2.1;have HC:=hide (show ni A B=(if B<A then 1 else 0) by have:=ad.out;unfold ni;rw [if_neg om]);go_enter Tryz.func174,Tryz.ntmps174;go_wp2_with fail;refine (qp A B _ hA hB).mono ?_;rintro e w1 ⟨rfl,ab⟩;have f:=hide (H0.out.call ab);clear ab a0 a1 a2 a3 a4 a5 a6 a7 a8 H G I J O R S T U b0 b1 b2 b3 b4 b5 b6 b7 b8 g0 g1 g2 g3 g4 g5 g6 g7 g8 o E;obtain ⟨⟨a0,a1,a2,a3,a4,a5,a6,a7,a8⟩,⟨H,G,I,J,O,R,S,T,U⟩,o⟩:=bn.nine f.out.1;obtain ⟨⟨b0,b1,b2,b3,b4,b5,b6,b7,b8⟩,⟨g0,g1,g2,g3,g4,g5,g6,g7,g8⟩,E⟩:=bn.nine f.out.2.1;have aB:0≤ni A B:=by rw [HC.out];split <;> decide
 generalize ni A B=CC at *;go_wp2_with fail;go_loopw [6,24] (fun s6 s wr=>∃ j:Nat,s6=.int .u64 (nF A B j:Int)∧s=.int .i64 j∧j≤8∧jO w wr a (fR N A j) b (ga B)) (fun _ s _=>(9-intOf s).toNat)
 case atStart=>exact ⟨0,by rw [vr];rfl,rfl,by omega,by rw [gw];exact f.out⟩
 case round =>
  obtain ⟨j,rfl,rfl,hj,V⟩:=hrel;have F:=hide V;have ah:=V.2.2.2;have aF:=V.1.lt;have ba:=V.2.1.lt;clear V a0 a1 a2 a3 a4 a5 a6 a7 a8 H G I J O R S T U b0 b1 b2 b3 b4 b5 b6 b7 b8 g0 g1 g2 g3 g4 g5 g6 g7 g8 o E;rcases (show j=8∨j<8 by omega) with rfl | h
  ·have hD:=F.out.1
   rw [ms] at hD;obtain ⟨⟨a0,a1,a2,a3,a4,a5,a6,a7,a8⟩,_⟩:=bn.nine hD;obtain ⟨⟨r0,r1,r2,r3,r4,r5,r6,r7,r8⟩,⟨H,G,I,J,O,R,S,T,U⟩,hz⟩:=bn.nine F.out.2.2.1;clear hD;generalize (nF A B 8:Int)=X at *;go_wp2;refine bodyPost_ret (v:=.tuple #[cU a N,.bool true]) (by simp (maxDischargeDepth:=9) [results,Tryz.results174,go_sem,r0,r1,r2,r3,r4,r5,r6,r7,r8,H,G,I,J,O,R,S,T,U,hz]) rfl ⟨rfl,by (repeat' exact bel)⟩
  ·have c1:=F.out.1.cell (kL (X:=N) (Y:=A) h)
   have c2:=F.out.2.1.cell (im (N:=B) h);have G:=F.out.1.frozen (1+j);have h1:0≤(nF A B j:Int)∧(nF A B j:Int)≤1:=by have:=Ej A B j;omega
   have h2:0≤(dg A j:Int)∧(dg A j:Int)<65536:=by have:=iS A j;omega
   have h3:0≤(dg B j:Int)∧(dg B j:Int)<65536:=by have:=iS B j;omega
   have H1:=hide (show ((dg A j:Int)+65536-(dg B j:Int)-(nF A B j:Int)) % 65536=(dg N j:Int) by have:=rF (A:=A) (B:=B) (by have:=ad.out;omega) j;rw [HN.out] at this;omega);have H2:=hide (show 1-((dg A j:Int)+65536-(dg B j:Int)-(nF A B j:Int)) / 65536=(nF A B (j+1):Int) by have:=uF A B j;omega);have HM:=hide (kI (X:=N) (Y:=A) h);generalize (nF A B j:Int)=X at *;generalize (dg A j:Int)=Y at *;generalize (dg B j:Int)=Z at *;obtain ⟨h1,aq⟩:=h1;obtain ⟨h2,ay⟩:=h2;obtain ⟨h3,aA⟩:=h3;go_wp2_with fail;go_quiet (fail);go_wp2;go_roundw
   case rel=>exact ⟨j+1,by rw [H2.out],by go_num,by omega,by rw [H1.out,← HM.out];exact F.out.drew.set j _⟩
   case measure=>simp [intOf];omega
theorem ye (a b:Bool) (A B:Nat) (w:World) (W:a≠b) (hA:Hid (A<65536 ^ 8)) (hB:Hid (B<65536 ^ 8)) (ad:Hid (A<B)) :
  Calls Tryz.prog 174 #[cU a A,cU b B] w fun e w'=>e=.returned (.tuple #[cU b (B-A),.bool true])∧Below w w w':=by
 have H0:=hide (jO.new w a b A B);obtain ⟨N,hN⟩:∃ N,B-A=N:=⟨_,rfl⟩;have HN:=hide hN;rw [hN];clear hN;have al:(a==b)=false:=by simpa using W
 clear W;obtain ⟨⟨a0,a1,a2,a3,a4,a5,a6,a7,a8⟩,⟨H,G,I,J,O,R,S,T,U⟩,o⟩:=bn.nine H0.out.1;obtain ⟨⟨b0,b1,b2,b3,b4,b5,b6,b7,b8⟩,⟨g0,g1,g2,g3,g4,g5,g6,g7,g8⟩,E⟩:=bn.nine H0.out.2.1;have HC:=hide (show ni A B=-1 by have:=ad.out;unfold ni;rw [if_pos om]);go_enter Tryz.func174,Tryz.ntmps174;go_wp2_with fail;refine (qp A B _ hA hB).mono ?_;rintro e w1 ⟨rfl,ab⟩;have f:=hide (H0.out.call ab);clear ab a0 a1 a2 a3 a4 a5 a6 a7 a8 H G I J O R S T U b0 b1 b2 b3 b4 b5 b6 b7 b8 g0 g1 g2 g3 g4 g5 g6 g7 g8 o E;obtain ⟨⟨a0,a1,a2,a3,a4,a5,a6,a7,a8⟩,⟨H,G,I,J,O,R,S,T,U⟩,o⟩:=bn.nine f.out.1;obtain ⟨⟨b0,b1,b2,b3,b4,b5,b6,b7,b8⟩,⟨g0,g1,g2,g3,g4,g5,g6,g7,g8⟩,E⟩:=bn.nine f.out.2.1;rw [HC.out];go_wp2_with fail;go_loopw [6,24] (fun s6 s wr=>∃ j:Nat,s6=.int .u64 (nF B A j:Int)∧s=.int .i64 j∧j≤8∧jO w wr b (fR N B j) a (ga A)) (fun _ s _=>(9-intOf s).toNat)
 case atStart=>exact ⟨0,by rw [vr];rfl,rfl,by omega,by rw [gw];exact f.out.swap⟩
 case round =>
  obtain ⟨j,rfl,rfl,hj,V⟩:=hrel;have F:=hide V;have ah:=V.2.2.2;have aB:=V.1.lt;have aF:=V.2.1.lt;clear V a0 a1 a2 a3 a4 a5 a6 a7 a8 H G I J O R S T U b0 b1 b2 b3 b4 b5 b6 b7 b8 g0 g1 g2 g3 g4 g5 g6 g7 g8 o E;rcases (show j=8∨j<8 by omega) with rfl | h
  ·have hD:=F.out.1
   rw [ms] at hD;obtain ⟨⟨a0,a1,a2,a3,a4,a5,a6,a7,a8⟩,_⟩:=bn.nine hD;obtain ⟨⟨r0,r1,r2,r3,r4,r5,r6,r7,r8⟩,⟨H,G,I,J,O,R,S,T,U⟩,hz⟩:=bn.nine F.out.2.2.1;clear hD;generalize (nF B A 8:Int)=X at *;go_wp2;refine bodyPost_ret (v:=.tuple #[cU b N,.bool true]) (by simp (maxDischargeDepth:=9) [results,Tryz.results174,go_sem,r0,r1,r2,r3,r4,r5,r6,r7,r8,H,G,I,J,O,R,S,T,U,hz]) rfl ⟨rfl,by (repeat' exact bel)⟩
  ·have c1:=F.out.1.cell (kL (X:=N) (Y:=B) h)
   have c2:=F.out.2.1.cell (im (N:=A) h);have G:=F.out.1.frozen (1+j);have h1:0≤(nF B A j:Int)∧(nF B A j:Int)≤1:=by have:=Ej B A j;omega
   have h2:0≤(dg B j:Int)∧(dg B j:Int)<65536:=by have:=iS B j;omega
   have h3:0≤(dg A j:Int)∧(dg A j:Int)<65536:=by have:=iS A j;omega
   have H1:=hide (show ((dg B j:Int)+65536-(dg A j:Int)-(nF B A j:Int)) % 65536=(dg N j:Int) by have:=rF (A:=B) (B:=A) (by have:=ad.out;omega) j;rw [HN.out] at this;omega);have H2:=hide (show 1-((dg B j:Int)+65536-(dg A j:Int)-(nF B A j:Int)) / 65536=(nF B A (j+1):Int) by have:=uF B A j;omega);have HM:=hide (kI (X:=N) (Y:=B) h);generalize (nF B A j:Int)=X at *;generalize (dg B j:Int)=Y at *;generalize (dg A j:Int)=Z at *;obtain ⟨h1,aq⟩:=h1;obtain ⟨h2,ay⟩:=h2;obtain ⟨h3,aA⟩:=h3;go_wp2_with fail;go_quiet (fail);go_wp2;go_roundw
   case rel=>exact ⟨j+1,by rw [H2.out],by go_num,by omega,by rw [H1.out,← HM.out];exact F.out.drew.set j _⟩
   case measure=>simp [intOf];omega
def gB (X Y i:Nat):Nat:=(X % 65536 ^ i)*Y
def CV (X Y i j:Nat):Nat:=gB X Y i % 65536 ^ (i+j)+dg X i*65536 ^ i*(Y % 65536 ^ j)
def qQ (X Y i j:Nat):Nat:=CV X Y i j / 65536 ^ (i+j)
theorem DI (X Y:Nat):gB X Y 0=0:=by simp [gB,Nat.mod_one]
theorem pX (X Y i:Nat):gB X Y (i+1)=gB X Y i+dg X i*65536 ^ i*Y:=by
 unfold gB;rw [iH,Nat.add_mul,Nat.mul_comm (65536 ^ i) (dg X i)]
theorem En (X Y i j:Nat):CV X Y i (j+1)=CV X Y i j+65536 ^ (i+j)*(dg (gB X Y i) (i+j)+dg X i*dg Y j):=by
 unfold CV;rw [← Nat.add_assoc,iH,iH,Nat.mul_add,Nat.mul_add,Nat.pow_add];have e:dg X i*65536 ^ i*(65536 ^ j*dg Y j)=65536 ^ i*65536 ^ j*(dg X i*dg Y j):=by
  rw [Nat.mul_comm (dg X i) (65536 ^ i),Nat.mul_assoc,Nat.mul_assoc,Nat.mul_left_comm (dg X i)]
 rw [e];omega
theorem F4 (X Y i:Nat):qQ X Y i 0=0:=by
 unfold qQ CV;simp only [Nat.pow_zero,Nat.mod_one,Nat.mul_zero,Nat.add_zero];exact Nat.div_eq_of_lt (Nat.mod_lt _ (dr _))
theorem zY (X Y i j:Nat):qQ X Y i j+(dg (gB X Y i) (i+j)+dg X i*dg Y j)=CV X Y i (j+1) / 65536 ^ (i+j):=by
 rw [En,Nat.add_mul_div_left _ _ (dr _)];rfl
theorem Ec (X Y i j:Nat):(qQ X Y i j+(dg (gB X Y i) (i+j)+dg X i*dg Y j)) / 65536=qQ X Y i (j+1):=by
 rw [zY,qQ,← Nat.add_assoc,Nat.pow_succ,← Nat.div_div_eq_div_mul]
theorem Hw (X Y i j:Nat):CV X Y i j % 65536 ^ (i+j)=gB X Y (i+1) % 65536 ^ (i+j):=by
 rw [pX];have h:dg X i*65536 ^ i*Y=dg X i*65536 ^ i*(Y % 65536 ^ j)+65536 ^ (i+j)*(dg X i*(Y / 65536 ^ j)):=by
  conv=>lhs;rw [← Nat.mod_add_div Y (65536 ^ j),Nat.mul_add]
  congr 1;rw [Nat.pow_add,Nat.mul_comm (dg X i) (65536 ^ i),Nat.mul_assoc,Nat.mul_assoc,Nat.mul_left_comm (dg X i)]
 rw [h,← Nat.add_assoc,Nat.add_mul_mod_self_left];unfold CV;rw [Nat.add_mod,Nat.mod_mod,← Nat.add_mod]
theorem Cr (X Y i j:Nat):(qQ X Y i j+(dg (gB X Y i) (i+j)+dg X i*dg Y j)) % 65536=dg (gB X Y (i+1)) (i+j):=by
 rw [zY];have h:=Hw X Y i (j+1);rw [← Nat.add_assoc,Nat.pow_succ] at h;have f:∀ N:Nat,N / 65536 ^ (i+j) % 65536=N % (65536 ^ (i+j)*65536) / 65536 ^ (i+j):=fun N=>by rw [Nat.mod_mul_right_div_self]
 rw [f,h,dg,f]
theorem Fy (X Y i j:Nat):qQ X Y i j≤65536:=by
 have h:=Nat.mod_lt (gB X Y i) (dr (i+j));have o:=Nat.mod_lt Y (dr j);have E:=iS X i;have F:dg X i*65536 ^ i*(Y % 65536 ^ j)≤65535*65536 ^ (i+j):=by
  rw [Nat.pow_add,← Nat.mul_assoc];exact Nat.mul_le_mul (Nat.mul_le_mul_right _ om) om
 have f:CV X Y i j<65536 ^ (i+j)*65537:=by unfold CV;omega
 have:=Nat.div_lt_of_lt_mul f;unfold qQ;omega
theorem pm {X Y i:Nat} (h:Y<65536 ^ 4):gB X Y i<65536 ^ (i+4):=by
 unfold gB;have f:=Nat.mod_lt X (dr i);rw [Nat.pow_add];exact Nat.mul_lt_mul_of_lt_of_le f (Nat.le_of_lt h) ag
theorem JD {X Y i:Nat} (f:Y<65536 ^ 4):dg (gB X Y i) (i+4)=0:=mi (pm f)
theorem Jc {X Y i:Nat} (f:Y<65536 ^ 4):qQ X Y i 4=dg (gB X Y (i+1)) (i+4):=by
 have h:CV X Y i 4=gB X Y (i+1):=by
  unfold CV;rw [Nat.mod_eq_of_lt (pm f),Nat.mod_eq_of_lt f,pX]
 have o:gB X Y (i+1) / 65536 ^ (i+4)<65536:=by
  refine Nat.div_lt_of_lt_mul ?_;rw [← Nat.pow_succ];have:=pm (X:=X) (i:=i+1) f
  rwa [show i+1+4=i+4+1 by omega] at this
 unfold qQ dg;rw [h,Nat.mod_eq_of_lt o]
theorem IQ {X Y i:Nat} (h:Y<65536 ^ 4) (hi:i<4):fR (gB X Y (i+1)) (gB X Y i) (i+5)=ga (gB X Y (i+1)):=by
 have f:∀ k,i+5≤k→dg (gB X Y i) k=dg (gB X Y (i+1)) k:=by
  intro k o;rw [mi (Nat.lt_of_lt_of_le (pm (X:=X) (i:=i) h) (Nat.pow_le_pow_right ag om)),mi (Nat.lt_of_lt_of_le (pm (X:=X) (i:=i+1) h) (Nat.pow_le_pow_right ag om))]
 match i,hi with
 | 0,_=>simp [fR,ga,f 5 om,f 6 om,f 7 om]
 | 1,_=>simp [fR,ga,f 6 om,f 7 om]
 | 2,_=>simp [fR,ga,f 7 om]
 | 3,_=>simp [fR,ga]
theorem Do (N k:Nat):dg N k=N % 65536 ^ (k+1) / 65536 ^ k:=by rw [dg,Nat.pow_succ,Nat.mod_mul_right_div_self]
theorem nA {X Y i k:Nat} (f:k<i):dg (gB X Y (i+1)) k=dg (gB X Y i) k:=by
 rw [Do,Do,pX];obtain ⟨d,rfl⟩:∃ d,i=k+1+d:=⟨i-(k+1),by omega⟩;rw [Nat.pow_add 65536 (k+1) d,show dg X (k+1+d)*(65536 ^ (k+1)*65536 ^ d)*Y=65536 ^ (k+1)*(dg X (k+1+d)*65536 ^ d*Y) by
  rw [Nat.mul_left_comm,Nat.mul_assoc],Nat.add_mul_mod_self_left]
theorem H8 {X Y i:Nat} (hi:i<4):fR (gB X Y (i+1)) (gB X Y i) i=ga (gB X Y i):=by
 match i,hi with
 | 0,_=>simp [fR,ga]
 | 1,_=>simp [fR,ga,nA (X:=X) (Y:=Y) (i:=1) (k:=0) om]
 | 2,_=>simp [fR,ga,nA (X:=X) (Y:=Y) (i:=2) (k:=0) om,nA (X:=X) (Y:=Y) (i:=2) (k:=1) om]
 | 3,_=>simp [fR,ga,nA (X:=X) (Y:=Y) (i:=3) (k:=0) om,nA (X:=X) (Y:=Y) (i:=3) (k:=1) om,nA (X:=X) (Y:=Y) (i:=3) (k:=2) om]
theorem Ko {X Y:Nat} (f:X<65536 ^ 4):gB X Y 4=X*Y:=by unfold gB;rw [Nat.mod_eq_of_lt f]
end
section
open Go.ChangeShapes Go.WideShapes Go.ChangeAt Go.RowKit Qd
theorem own:ownKnob Tryz.prog.godebug=none:=by kernel_rfl
theorem zo:laidOutB Tryz.prog=true:=by kernel_rfl
section
variable {H:Type} {enc:TypeId × Value→H} {P:Program}
theorem lU {f:Func} {s:ChangeSpec} {o U F T:Bool} {W W':World} {E:Array Value} {v:Value} {ds gs:List (DataW H)} {h pa pv:List MemPlace}
  (hW:DataW.Whole enc P f.params.toList s.vars o W E.toList ds gs h)
  (S:∀ (b:Nat) (V:Nat→Bool) (hd:Bool),DataW.TrodAll enc P W' b V hd f.resultTypes.toList (v.resultList f.resultTypes.size) (s.fn H (ds++gs)).results [])
  (G:∀ V:Nat→Bool,(∀ p∈h,V p.block=true)→DataW.TrodAll enc P W' 0 V true f.params.toList E.toList (s.fn H (ds++gs)).args pa)
  (J:∀ V:Nat→Bool,(∀ p∈h,V p.block=true)→DataW.TrodVars enc P W' V s.vars (s.fn H (ds++gs)).vars pv)
  (O:h=pa++pv) (hb:Below W W W')
  (al:∀ (j:Nat) (t:TypeId) (r:Value),f.resultTypes[j]?=some t→(v.resultList f.resultTypes.size)[j]?=some r→Value.okWide P W' .any 0 t r) :
  s.post enc P f o U F T W E v W':=by
 have ad:∀ p∈h,p.block<W.heap.size:=fun p I=>hW.lt p I
 have R:∀ p∈h,(fun b=>decide (b<W.heap.size)) p.block=true:=fun p I=>by simpa using ad p I
 refine ⟨ds,gs,h,[],pa,pv,hW,S _ _ _,G _ R,J _ R,World.keptBut_mono (fun p I=>⟨I,?_⟩) (hb.frame (· ∈ h)),fun _=>?_⟩
 ·rw [O,List.mem_append] at I
  exact Or.inr I
 ·obtain ⟨_,_,_,_,_,hz,hn⟩:=hW
  refine ⟨al,_,_,([]++pa)++pv,⟨[]++pa,pv,trodAll_append (G _ (fun _ _=>rfl)) (S _ _ _),J _ (fun _ _=>rfl),rfl,?_,?_⟩,?_⟩
  ·intro b ah I
   have ab:MemPlace.cell b ah∈h:=by rw [O];simpa using I
   rw [hb.frozen (ad _ ab)];exact hz b ah ab
  ·intro ha
   have:=hn ha;rw [O] at this;simpa using this
  ·intro p I _
   rw [O];simpa using I
theorem jp (J:laidOutB P=true) {W G:World} {o:Nat→Bool}:∀ {F:List TypeId} {O:List Value} {I:List (DataW H)} {E:List MemPlace},
  (∀ t∈F,P.readableRec t=true∧t<P.types.size)→DataW.TrodAll enc P W 0 (fun _=>true) true F O I E→(∀ p∈E,W.sameAt G p)→(∀ p∈E,o p.block=true)→DataW.TrodAll enc P G 0 o true F O I E
 | [],[],[],_,_,h,_,_=>h
 | t::_,_::_,_::_,_,hT,⟨p,q,h1,h2,e⟩,hm,hs =>
  ⟨p,q,WideElems.Trod_stays J (hT t (List.mem_cons.2 (Or.inl rfl))).1 (hT t (List.mem_cons.2 (Or.inl rfl))).2 h1 (fun x f=>hm x (by rw [e];exact List.mem_append_left _ f)) (fun x f=>hs x (by rw [e];exact List.mem_append_left _ f)),
   jp J (fun t R=>hT t (List.mem_cons.2 (Or.inr R))) h2 (fun x f=>hm x (by rw [e];exact List.mem_append_right _ f)) (fun x f=>hs x (by rw [e];exact List.mem_append_right _ f)),e⟩
end
section
variable {H:Type} {enc:TypeId × Value→H} {w:World} {base:Nat} {spare:Nat→Bool} {held:Bool}
theorem jD:Tryz.prog.cellsOf 3=1:=by kernel_rfl
theorem BY:Tryz.prog.cellsOf 9=1:=by kernel_rfl
theorem CK:Tryz.prog.cellsOf 22=3:=by kernel_rfl
theorem Co:Tryz.prog.cellsOf 24=14:=by kernel_rfl
def kt (x:Int):Prop:=(Lit.int .i64 x).wf=true
def KB (c:ar):Prop:=kt c.kind∧kt c.day∧kt c.month∧kt c.shift∧kt c.shape∧kt c.p0∧kt c.p1∧kt c.p2∧kt c.cycle∧kt c.extra∧kt c.first∧kt c.last∧kt c.policy
theorem mZ {x:Int} (h:kt x):-9223372036854775808≤x∧x≤9223372036854775807:=by
 simpa [kt,Lit.wf,IntKind.min,IntKind.max,IntKind.signed,IntKind.bits] using h
theorem vh {r:Reach} {b0:Nat} {v:Value} {d:DataW H} {p:List MemPlace} (hv:Value.okWide Tryz.prog w r b0 24 v) (h:DataW.Trod enc Tryz.prog w base spare held 24 v d p) :
  ∃ c:ar,v=av c∧c.name.size≤9223372036854775807∧KB c:=by
 obtain ⟨cs,rfl,R⟩:=okWide_struct Tryz.underlying24 hv;rw [Co] at R;obtain ⟨l⟩:=cs
 match l,R with
 | [c0,c1,c2,c3,c4,c5,c6,c7,c8,c9,c10,c11,c12,c13],_ =>
  obtain ⟨ay,hf⟩:=h;obtain ⟨xs,n,_,hx,_,O,f⟩:=DataW.trod_struct Tryz.underlying24 hf
  match xs,O with
  | [y0,y1,y2,y3,y4,y5,y6,y7,y8,y9,y10,y11],_ =>
   have g0:=f 0 _ rfl;have g1:=f 1 _ rfl;have g2:=f 2 _ rfl;have g3:=f 3 _ rfl;have g4:=f 4 _ rfl;have g5:=f 5 _ rfl;have g6:=f 6 _ rfl;have g7:=f 7 _ rfl;have g8:=f 8 _ rfl;have g9:=f 9 _ rfl;have I:=f 10 _ rfl;have J:=f 11 _ rfl;simp [Value.cells,jD,BY,CK] at g0 g1 g2 g3 g4 g5 g6 g7 g8 g9 I J;obtain ⟨x0,e0,_,s0⟩:=DataW.trod_string Tryz.underlying9 g0;obtain ⟨x1,e1,_,s1⟩:=DataW.trod_int Tryz.underlying3 g1;obtain ⟨x2,e2,_,s2⟩:=DataW.trod_int Tryz.underlying3 g2;obtain ⟨x3,e3,_,s3⟩:=DataW.trod_int Tryz.underlying3 g3;obtain ⟨x4,e4,_,s4⟩:=DataW.trod_int Tryz.underlying3 g4;obtain ⟨x5,e5,_,s5⟩:=DataW.trod_int Tryz.underlying3 g5;obtain ⟨zs,m,_,_,_,T,S⟩:=DataW.trod_array Tryz.underlying22 g6;obtain ⟨x9,e9,_,s9⟩:=DataW.trod_int Tryz.underlying3 g7;obtain ⟨ad,o,_,U⟩:=DataW.trod_int Tryz.underlying3 g8;obtain ⟨ah,E,_,V⟩:=DataW.trod_int Tryz.underlying3 g9;obtain ⟨al,F,_,W⟩:=DataW.trod_int Tryz.underlying3 I;obtain ⟨aq,G,_,ab⟩:=DataW.trod_int Tryz.underlying3 J
   match zs,T with
   | [z0,z1,z2],_ =>
    have k0:=S 0 om;have k1:=S 1 om;have k2:=S 2 om;simp [jD] at k0 k1 k2;obtain ⟨x6,e6,_,s6⟩:=DataW.trod_int Tryz.underlying3 k0;obtain ⟨x7,e7,_,s7⟩:=DataW.trod_int Tryz.underlying3 k1;obtain ⟨x8,e8,_,s8⟩:=DataW.trod_int Tryz.underlying3 k2;simp only [List.cons.injEq,and_true] at e0 e1 e2 e3 e4 e5 e6 e7 e8 e9 o E F G;subst e0 e1 e2 e3 e4 e5 e6 e7 e8 e9 o E F G;exact ⟨⟨x0,x1,x2,x3,x4,x5,x6,x7,x8,x9,ad,ah,al,aq⟩,rfl,by simpa [maxLen] using s0,s1,s2,s3,s4,s5,s6,s7,s8,s9,U,V,W,ab⟩
end
end
section
open Go.ChangeShapes Go.WideShapes Go.ChangeAt Go.RowKit Qd
section
variable {H:Type} {enc:TypeId × Value→H} {base:Nat} {spare:Nat→Bool} {held:Bool}
theorem ym:Tryz.prog.cellsOf 26=3:=by kernel_rfl
def Lk (u:Un):Prop:=kt u.lv∧kt u.yr∧kt u.ix
theorem AP {w:World} {r:Reach} {T:Nat} {v:Value} {d:DataW H} {p:List MemPlace} (W:Value.okWide Tryz.prog w r T 26 v) (h:DataW.Trod enc Tryz.prog w base spare held 26 v d p) :
  ∃ u:Un,v=aC u∧Lk u:=by
 obtain ⟨U,rfl,o⟩:=okWide_struct Tryz.underlying26 W;rw [ym] at o;obtain ⟨l⟩:=U
 match l,o with
 | [c0,c1,c2],_ =>
  obtain ⟨J,V⟩:=h;obtain ⟨xs,n,_,hx,_,f,E⟩:=DataW.trod_struct Tryz.underlying26 V
  match xs,f with
  | [y0,y1,y2],_ =>
   have O:=E 0 _ rfl;have R:=E 1 _ rfl;have S:=E 2 _ rfl;simp [Value.cells,jD] at O R S;obtain ⟨x0,F,_,s0⟩:=DataW.trod_int Tryz.underlying3 O;obtain ⟨x1,G,_,s1⟩:=DataW.trod_int Tryz.underlying3 R;obtain ⟨x2,I,_,s2⟩:=DataW.trod_int Tryz.underlying3 S;simp only [List.cons.injEq,and_true] at F G I;subst F G I;exact ⟨⟨x0,x1,x2⟩,rfl,s0,s1,s2⟩
end
end
end Go.Proofs.YtjhhmeoibfdcmaaGreat
