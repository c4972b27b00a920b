/- Lemmas. -/
import Derived.Test.YtjhhmeoibfdcmaaGreatWr08
import Derived.Test.YtjhhmeoibfdcmaaGreatWr11
import Derived.Test.YtjhhmeoibfdcmaaGreatWr13
import Derived.Test.YtjhhmeoibfdcmaaGreatWr21
import Derived.Test.YtjhhmeoibfdcmaaGreatWr29
import Derived.Test.YtjhhmeoibfdcmaaGreatWr30
import Derived.Test.YtjhhmeoibfdcmaaGreatWr31
import Derived.Test.YtjhhmeoibfdcmaaGreatWr36
set_option linter.unusedSimpArgs false
set_option linter.unusedVariables false
set_option maxRecDepth 100000
set_option maxHeartbeats 12800000
namespace Go.Proofs.YtjhhmeoibfdcmaaGreat
section
open Go.RowKit Qd
instance KM:DecidableEq Un:=fun x y=>decidable_of_iff (tM x.lv x.yr x.ix y.lv y.yr y.ix=true) (by
 obtain ⟨a,b,c⟩:=x;obtain ⟨d,e,f⟩:=y;simp [tM])
theorem Ca {c:ar} {lv:Int} {s:Sp} (h:bg c lv s=0) (G:0≤s.a→s.a≤s.b→s.b<3068037→s.b-s.a≤1500):(0≤s.a∧s.a≤s.b∧s.b<3068037∧s.b-s.a≤1500)∧(be c lv s).length≤420:=by
 have f:=eq h;have o:=(fh f.2.2.2.2.1).2.2.2.2.1;have E:=(fh f.2.2.2.2.2).2.2.2.2.1;simp [cH] at o E;have F:=G o.1 f.2.2.2.1 E.2;have H:=AT h om;have I:=(iZ h).2.2.2.2;exact ⟨⟨o.1,f.2.2.2.1,E.2,F⟩,by omega⟩
theorem qI {c:ar} {lv:Int} {s:Sp} (h:bg c lv s=0) {u:Un} (o:u∈be c lv s):aE c u=0∧u.lv=lv∧(cd c u).a≤s.b∧s.a≤(cd c u).b∧(cd c u).a≤(cd c u).b:=by
 obtain ⟨f,E⟩:=lp h o;have F:=(lj h).2 (df s.a s.b (cd c u)) (by unfold ez;exact List.mem_map_of_mem (List.mem_map_of_mem o));have G:=we f;unfold df at F;exact ⟨f,E,by omega,by omega,G⟩
theorem l6 (v:Value) (l:List Int) (w:World) (hv:iJ w v l) (hl:∀ x∈l,aX x) (hn:l.length≤1000000):Calls Tryz.prog 72 #[v] w fun e w'=>e=.returned (.tuple #[jN l.sum,jn l.sum])∧Below w w w':=by
 obtain ⟨ad,cap,rfl,hc⟩:=hv;have HC:=hide hc;have HL:=hide hl;clear hc hl;go_enter Tryz.func72,Tryz.ntmps72;go_wp2_with fail;have H0:=hide (show gP ([]:List Int).sum w.heap.size w (w.alloc (.cells #[.int .i64 0,.int .u64 0] 103)) from ⟨by simpa [qO] using ap.new w #[.int .i64 0,.int .u64 0] 103,by simp,by (repeat' exact bel)⟩);go_loopw [10] (fun s wr=>∃ j:Nat,s=.int .i64 j∧j≤l.length∧gP (l.take j).sum w.heap.size w wr) (fun s _=>(l.length+5-intOf s).toNat)
 case atStart=>exact ⟨0,rfl,Nat.zero_le _,by simpa using H0.out⟩
 case round =>
  obtain ⟨j,rfl,hj,hS⟩:=hrel;have O:=hide hS;clear hS;have ay:=O.out.2.1;by_cases al:j<l.length
  ·obtain ⟨x,hx⟩:∃ x,l[j]?=some x:=⟨_,List.getElem?_eq_getElem al⟩
   obtain ⟨g,o,rfl,hg,a0⟩:=HC.out j x hx;have E:=HL.out x (List.mem_of_getElem? hx);have I:=hide (show (l.take (j+1)).sum=(l.take j).sum+x by rw [List.take_add_one,hx];simp);have J:=kh (l:=l.take j) (fun y hy=>HL.out y (List.mem_of_mem_take hy)) (by rw [List.length_take];omega);have F:=kh (l:=l.take (j+1)) (fun y hy=>HL.out y (List.mem_of_mem_take hy)) (by rw [List.length_take];omega);rw [I.out] at F;have ha:wr.cell? ⟨g,o+j,none⟩=some (.int .i64 x):=by
    rw [O.out.2.2.cell (p:=⟨g,o+j,none⟩) hg];exact a0
   obtain ⟨S,W⟩:∃ S,(l.take j).sum=S:=⟨_,rfl⟩;rw [W] at J F I O;have aB:(0:Int)≤(j:Int):=om;have aF:(j:Int)<(l.length:Int):=om;have T:=hide (fun w=>ow x w E);have R:=hide (fun w=>sq S x w J (mP E) F);simp only [cv] at T R;obtain ⟨⟨b0,b1⟩,f0,f1⟩:=O.out.cells;clear hx E J F W a0;go_wp2_with fail
   go_region_with (first
    | (go_at_call 124;(with_reducible refine (T.out _).mono ?_);rintro e w1 ⟨rfl,f⟩;have G:=hide (O.out.call (show Below wr wr w1 from (ww f).out));obtain ⟨⟨c0,c1⟩,g0,g1⟩:=G.out.cells;have aq:=G.out.2.1;clear f)
    | (go_at_call 123;(with_reducible refine (R.out w1).mono ?_);rintro e w2 ⟨rfl,ab⟩;have H:=hide (G.out.call ab);obtain ⟨⟨y0,y1⟩,y2,y3⟩:=H.out.cells;have aA:=H.out.2.1;clear ab))
   all_goals
    go_simp;go_wp2;go_roundw
    case rel=>exact ⟨j+1,by go_num,by omega,by rw [I.out];exact H.out.set⟩
    case measure=>simp [intOf];omega
  ·have a1:j=l.length:=om
   have U:=hide (show gP l.sum w.heap.size w wr by have h:=O.out;rwa [List.take_of_length_le om] at h);have V:=hide (fun w=>mg l.sum w (kh HL.out om));simp only [cv] at V;obtain ⟨⟨b0,b1⟩,f0,f1⟩:=U.out.cells;go_wp2_with fail;refine (V.out _).mono ?_;rintro e w1 ⟨rfl,f⟩;have ah:Hid (Below w w w1):=by have hp:=U.out.2.2;exact ww f
   clear f;go_wp2;go_ret2;exact ⟨rfl,ah.out⟩
structure oy (R Bx By Bo:Nat) (sx sy so:Bool) (X Y:Nat) (D:List Int) (w0 w:World):Prop where
 x:bn w Bx sx (ga X)
 y:bn w By sy (ga Y)
 o:bn w Bo so D
 r:ap w R #[.int .i64 0,.int .u64 0] 103
 nx:Bx≠Bo
 ny:By≠Bo
 nr:R≠Bo
 hR:w0.heap.size≤R
 hB:w0.heap.size≤Bo
 b:Below w0 w0 w
theorem oy.call {R F G E:Nat} {I J H:Bool} {X Y:Nat} {D:List Int} {S w O:World} (h:oy R F G E I J H X Y D S w) (f:Below w w O):oy R F G E I J H X Y D S O:=
 ⟨h.x.call f,h.y.call f,h.o.call f,h.r.call f,h.nx,h.ny,h.nr,h.hR,h.hB,h.b.trans (f.mono h.b.size)⟩
theorem oy.drew {R o E f:Nat} {G H F:Bool} {X Y:Nat} {D:List Int} {I w:World} {n:Nat} (h:oy R o E f G H F X Y D I w):oy R o E f G H F X Y D I (w.drewN n):=h.call (below_drewN (Below.refl _ _) n)
theorem o0 {w:World} {B:Nat} {f:Array Value} {t:TypeId} (h:ap w B f t) {p:Addr} (o:B≠p.block) (u:Value):ap (w.setCell p u) B f t:=(Below.heap_setCell w p u B o).trans h
theorem oy.set {R E F f:Nat} {H I G:Bool} {X Y:Nat} {D:List Int} {J w:World} (h:oy R E F f H I G X Y D J w) (k:Nat) (v:Int):oy R E F f H I G X Y (D.set k v) J (w.setCell ⟨f,1+k,none⟩ (.int .u64 v)):=
 ⟨h.x.far h.nx _,h.y.far h.ny _,h.o.set k v,o0 h.r h.nr _,h.nx,h.ny,h.nr,h.hR,h.hB,h.b.setCell h.hB _⟩
theorem De {a b c d e:Nat} (h:(a+(b+c*d)) % 65536=e):((a:Int)+((b:Int)+(c:Int)*(d:Int))) % 65536=(e:Int):=by
 rw [← Int.natCast_mul];omega
theorem D5 {a b c d e:Nat} (h:(a+(b+c*d)) / 65536=e):((a:Int)+((b:Int)+(c:Int)*(d:Int))) / 65536=(e:Int):=by
 rw [← Int.natCast_mul];omega
theorem xO (a b hi lo:Int) (O h:Bool) (X Y:Nat) (w:World) (ha:decide (a<0)=O) (hb:decide (b<0)=h) (hX:Hid (X<65536 ^ 4)) (hY:Hid (Y<65536 ^ 4))
  (bh:Hid (∀ w,Calls Tryz.prog 185 #[a] w fun e E=>e=.returned (.int .u64 (X:Int))∧Below w w E))
  (bl:Hid (∀ w,Calls Tryz.prog 185 #[b] w fun e E=>e=.returned (.int .u64 (Y:Int))∧Below w w E))
  (bb:Hid (∀ w,Calls Tryz.prog 175 #[.bool O,.int .u64 0,.int .u64 (X:Int)] w fun e E=>e=.returned (cU O X)∧Below w w E))
  (bc:Hid (∀ w,Calls Tryz.prog 175 #[.bool h,.int .u64 0,.int .u64 (Y:Int)] w fun e E=>e=.returned (cU h Y)∧Below w w E))
  (HK:Hid (∀ w,Calls Tryz.prog 176 #[cU (!(O==h)) (X*Y)] w fun e E=>e=.returned (.tuple #[.agg #[hi,.int .u64 lo],.bool true])∧Below w w E)) :
  Calls Tryz.prog 172 #[a,b] w fun e E=>e=.returned (.agg #[hi,.int .u64 lo])∧Below w w E:=by
 have HZ:=hide (jz w);go_enter Tryz.func172,Tryz.ntmps172;go_wp2_with fail;refine (bh.out _).mono ?_;rintro e w1 ⟨rfl,S⟩;have bx:=hide (HZ.out.call S);have aq:Hid (Below w w w1):=ww S;clear S;go_wp2_with fail;refine (bb.out _).mono ?_;rintro e w2 ⟨rfl,T⟩;have bX:=hide (bx.out.call T);have ay:Hid (Below w w w2):=by have G:=aq.out;have hs:=G.size;exact ww T
 have bp:=hide (bn.numO w2 O X);clear T;go_wp2_with fail;refine (bl.out _).mono ?_;rintro e w3 ⟨rfl,I⟩;have b0:=hide ((bX.out.alloc _).call I);have bt:=hide (bp.out.call I);have aA:Hid (Below w w w3):=by have G:=ay.out;have hs:=G.size;exact ww I
 clear I;go_wp2_with fail;refine (bc.out _).mono ?_;rintro e H ⟨rfl,J⟩;have ab:=hide (b0.out.call J);have R:=hide (bt.out.call J);have aB:Hid (Below w w H):=by have G:=aA.out;have hs:=G.size;exact ww J
 have bw:=hide (bn.numO H h Y);have cl:=R.out.lt;have cc:=ab.out.lt;have x0:=R.out.sign;clear J;obtain ⟨V,b1⟩:∃ V,(!(O==h))=V:=⟨_,rfl⟩;rw [b1] at HK;have ba:=hide (show oy w.heap.size w2.heap.size H.heap.size (H.heap.size+1) O h V X Y (ga (gB X Y 0)) w ((H.alloc (us h Y)).alloc (nD V)) by
  refine ⟨(R.out.alloc _).alloc _,bw.out.alloc _,?_,(ab.out.alloc _).alloc _,by omega,by omega,by omega,Nat.le_refl _,by omega,?_⟩
  ·have:=bn.zero (H.alloc (us h Y)) V
   rw [DI,show ga 0=rb by simp [ga,dg]];simpa using this
  ·have G:=aB.out
   have hs:=G.size;exact bel)
 go_wp2_with fail;go_loopw [29] (fun s wr=>∃ i:Nat,s=.int .i64 i∧i≤4∧oy w.heap.size w2.heap.size H.heap.size (H.heap.size+1) O h V X Y (ga (gB X Y i)) w wr) (fun s _=>(5-intOf s).toNat)
 case atStart=>exact ⟨0,rfl,by omega,ba.out⟩
 case round =>
  obtain ⟨i,rfl,b5,hS⟩:=hrel;have W:=hide hS;clear hS x0;rcases (show i=4∨i<4 by omega) with rfl | ah
  ·have hD:=W.out.o
   rw [Ko hX.out] at hD;obtain ⟨⟨a0,a1,a2,a3,a4,a5,a6,a7,a8⟩,_,hz⟩:=bn.nine hD;have f:=W.out.b;have HR:=hide W.out.r;clear hD;go_wp2_with fail;refine (HK.out _).mono ?_;rintro e w5 ⟨rfl,U⟩;have bd:=hide (HR.out.call U);have aF:Hid (Below w w w5):=by have hs:=f.size;exact ww U
   clear U f a0 a1 a2 a3 a4 a5 a6 a7 a8;obtain ⟨⟨r0,r1⟩,f0,f1,b2⟩:=cO bd.out;have f:=aF.out;have ca:=f.size;go_wp2;refine bodyPost_ret (v:=.agg #[hi,.int .u64 lo]) (by simp (maxDischargeDepth:=9) [results,Tryz.results172,go_sem,r0,r1,f0,f1,b2]) rfl ⟨rfl,by (repeat' exact bel)⟩
  ·obtain ⟨wo,al⟩:∃ wo:World,wo=wr:=⟨_,rfl⟩
   rw [← al] at W ⊢;clear al;go_wp2_with fail;go_loopw [9,32] (fun s9 s wr=>∃ j:Nat,s9=.int .u64 (qQ X Y i j:Int)∧s=.int .i64 j∧j≤4∧oy w.heap.size w2.heap.size H.heap.size (H.heap.size+1) O h V X Y (fR (gB X Y (i+1)) (gB X Y i) (i+j)) w wr) (fun _ s _=>(5-intOf s).toNat)
   case atStart =>
    refine ⟨0,by rw [F4];rfl,rfl,by omega,?_⟩;rw [show fR (gB X Y (i+1)) (gB X Y i) (i+0)=ga (gB X Y i) from H8 ah];exact W.out
   case round =>
    obtain ⟨j,rfl,rfl,b7,ad⟩:=hrel;have F:=hide ad;clear ad;rcases (show j=4∨j<4 by omega) with rfl | b6
    ·have c1:=F.out.o.cell (kL (X:=gB X Y (i+1)) (Y:=gB X Y i) (j:=i+4) om)
     rw [JD hY.out] at c1;have f1:=F.out.o.frozen (1+(i+4));have HE:=hide (Jc (X:=X) (i:=i) hY.out);have HM:=hide (kI (X:=gB X Y (i+1)) (Y:=gB X Y i) (j:=i+4) om);have HQ:=hide (IQ (X:=X) hY.out ah);have h1:0≤(qQ X Y i 4:Int)∧(qQ X Y i 4:Int)≤65536:=by have:=Fy X Y i 4;omega
     have HC:=hide (show (qQ X Y i 4:Int)=(dg (gB X Y (i+1)) (i+4):Int) by rw [HE.out]);obtain ⟨h1,h2⟩:=h1;generalize (qQ X Y i 4:Int)=Z at *;go_wp2;go_roundw
     case rel=>exact ⟨i+1,by go_num,by omega,by rw [HC.out,← HQ.out,show i+5=i+4+1 from rfl,← HM.out];exact F.out.set (i+4) _⟩
     case measure=>simp [intOf];omega
    ·have c1:=F.out.o.cell (kL (X:=gB X Y (i+1)) (Y:=gB X Y i) (j:=i+j) om)
     have c2:=F.out.x.cell (im (N:=X) (i:=i) om);have c3:=F.out.y.cell (im (N:=Y) (i:=j) om);have f1:=F.out.o.frozen (1+(i+j));have HD:=hide (show ((qQ X Y i j:Int)+((dg (gB X Y i) (i+j):Int)+(dg X i:Int)*(dg Y j:Int))) % 65536=(dg (gB X Y (i+1)) (i+j):Int) from De (Cr X Y i j));have HN:=hide (show ((qQ X Y i j:Int)+((dg (gB X Y i) (i+j):Int)+(dg X i:Int)*(dg Y j:Int))) / 65536=(qQ X Y i (j+1):Int) from D5 (Ec X Y i j));have HM:=hide (kI (X:=gB X Y (i+1)) (Y:=gB X Y i) (j:=i+j) om);have h1:0≤(qQ X Y i j:Int)∧(qQ X Y i j:Int)≤65536:=by have:=Fy X Y i j;omega
     have h2:0≤(dg (gB X Y i) (i+j):Int)∧(dg (gB X Y i) (i+j):Int)<65536:=by have:=iS (gB X Y i) (i+j);omega
     have G:0≤(dg X i:Int)*(dg Y j:Int)∧(dg X i:Int)*(dg Y j:Int)≤4294967296:=by
      have h3:=iS X i;have h4:=iS Y j;have:=Nat.mul_le_mul (Nat.le_of_lt h3) (Nat.le_of_lt h4);rw [← Int.natCast_mul];omega
     obtain ⟨h1,b3⟩:=h1;obtain ⟨h2,b4⟩:=h2;obtain ⟨G,cb⟩:=G;have b8:=F.out.o.lt;have b9:=F.out.x.lt;generalize (qQ X Y i j:Int)=Z1 at *;generalize (dg (gB X Y i) (i+j):Int)=Z2 at *;generalize (dg X i:Int)=Z3 at *;generalize (dg Y j:Int)=Z4 at *;go_wp2_with fail;go_quiet (fail);go_wp2;go_roundw
     case rel=>exact ⟨j+1,by rw [HN.out],by go_num,by omega,by rw [HD.out,show i+(j+1)=i+j+1 from rfl,← HM.out];exact F.out.drew.set (i+j) _⟩
     case measure=>simp [intOf];omega
theorem zE (a b:Int):a*b=if (!(decide (a<0)==decide (b<0))) then -((a.natAbs*b.natAbs:Nat):Int) else ((a.natAbs*b.natAbs:Nat):Int):=by
 rw [Int.natCast_mul];by_cases f:a<0 <;> by_cases h:b<0
 ·rw [show (a.natAbs:Int)=-a by omega,show (b.natAbs:Int)=-b by omega]
  simp [f,h,Int.neg_mul_neg]
 ·rw [show (a.natAbs:Int)=-a by omega,show (b.natAbs:Int)=b by omega]
  simp [f,h,Int.neg_mul]
 ·rw [show (a.natAbs:Int)=a by omega,show (b.natAbs:Int)=-b by omega]
  simp [f,h,Int.mul_neg]
 ·rw [show (a.natAbs:Int)=a by omega,show (b.natAbs:Int)=b by omega]
  simp [f,h]
theorem wm {a b:Int} (h:aX a) (o:aX b):bL (a*b):=by
 unfold aX at h o;have E:a.natAbs*b.natAbs≤9223372036854775808*9223372036854775808:=Nat.mul_le_mul om om;have f:=zE a b;unfold bL;rw [f]
 split <;> omega
theorem xB (a b:Int) (w:World) (f:aX a) (o:aX b):Calls Tryz.prog 172 #[a,b] w fun e F=>e=.returned (cv (a*b))∧Below w w F:=by
 have h:=f;have E:=o;unfold aX at h E
 exact xO a b _ _ _ _ a.natAbs b.natAbs w rfl rfl (hide om) (hide om) (hide (fun w=>kE a w f)) (hide (fun w=>kE b w o))
  (hide (fun w=>fD _ 0 _ _ w (hide om) (hide om) (hide om))) (hide (fun w=>fD _ 0 _ _ w (hide om) (hide om) (hide om)))
  (hide (fun w=>gp _ _ (a*b) w (zE a b) (wm f o)))
theorem Fu {c:ar} {day y:Int} (h:eO c day y) (H:cH day=true):dL day-c.shift-1≤y∧y≤dL day-c.shift+1:=by
 obtain ⟨f,R,S⟩:=h;obtain ⟨F,y1,y2⟩:=bo f;obtain ⟨hm,hs,hk,I⟩:=cg F;have J:=jY f;have O:=lg f om;have eS:ax c y=ct c (y-1+c.shift)+1:=by simp [ax,f]
 have eE:bv c y=ct c (y+c.shift):=by simp [bv,fo f]
 have E:0≤day∧day<3068037:=by simpa [cH] using H
 obtain ⟨o1,o2,o3,o4⟩:=nd day E.1 E.2;have w1:=gD (y-1+c.shift) c.month;have w2:=gD (y+c.shift) c.month;have W:=gE _ _ J;have e2:=gE _ _ O;have U:=jA (y-1+c.shift) 1 (c.month+1) om om om;have T:=lB (y-1+c.shift);have V:=ep (y+c.shift) (c.month+1);have f1:bK (y-1+c.shift) c.month-7≤ct c (y-1+c.shift):=by
  unfold ct dn
  split
  ·omega
  ·split <;> omega
 have f2:ct c (y+c.shift)≤bK (y+c.shift) c.month+3:=by
  unfold ct dn
  split
  ·omega
  ·split <;> omega
 constructor
 ·rcases Int.lt_or_le y (dL day-c.shift-1) with o | o
  ·exfalso
   have h6:=kV (y+c.shift) (y+c.shift+1) om om;have G:=kV (y+c.shift+1) (dL day) om om;omega
  ·exact o
 ·rcases Int.lt_or_le (dL day-c.shift+1) y with o | o
  ·exfalso
   have G:=gg (dL day+1) (y-1+c.shift) om om;omega
  ·exact o
theorem cF (c:ar) (lv y:Int) (w:World) (h:c.name.size≤1000) (f:aI c lv y=0) :
  Calls Tryz.prog 64 #[av c,lv,y] w (lG c lv y w):=by
 obtain ⟨_,_,o,E,_⟩:=a9 f;rcases (show lv=1∨lv=2∨lv=3∨lv=4∨lv=5 by omega) with rfl | rfl | rfl | rfl | rfl
 ·exact xu c y w h f
 ·exact ze c y w h f
 ·exact yT c y w h f
 ·exact yZ c y w h f
 ·exact xV c y w h f
theorem pU {c:ar} {u:Un} (h:¬ aI c u.lv u.yr=0):aE c u=aI c u.lv u.yr:=by unfold aE;rw [if_neg h]
theorem mC {c:ar} {u:Un} (h:aI c u.lv u.yr=0) (f:u.ix<1∨(1≤u.ix∧(aR c u.yr u.lv:Int)<u.ix)):aE c u=13:=by unfold aE;rw [if_pos h,if_neg om]
theorem kv {w:World} {g:Nat} {c:ar} {lv y:Int} (h:cP w g (iT c lv y)) (i:Nat) (hi:i<aR c y lv) :
  w.cell? ⟨g,i*2,none⟩=some (.int .i64 (bD c y (aW c y lv i)))∧w.cell? ⟨g,i*2+1,none⟩=some (.int .i64 (bD c y (aW c y lv (i+1))-1)):=by
 have f:=h.2 i (by rw [rS];exact hi);rw [rN c lv y i hi,Nat.mul_comm] at f;exact f
theorem tW (c:ar) (lv y:Int) (w:World) (W:c.name.size≤1000) :
  Calls Tryz.prog 74 #[av c,lv,y] w fun e w'=>e=.returned (.tuple #[ff c lv y,aI c lv y])∧Below w w w':=by
 by_cases E:aI c lv y=0
 ·have I:=hide (Ak E)
  have H:=hide E;clear E;simp only [av];go_enter Tryz.func74,Tryz.ntmps74;go_wp2_with fail;refine (cF c lv y _ W H.out).mono ?_;rintro e G ⟨g,cap,rfl,hg,V,J,f⟩;clear J;have O:w.heap.size<G.heap.size:=aj f;have h:Hid (Below w w G):=ww f;have o:=hide (aa f ac (au w c));obtain ⟨q0,q1,q2,q3,q4,q5,q6,q7,q8,q9,R,S,T,U⟩:=o.out;clear f;have F:=h.out;go_wp2;go_ret2;exact ⟨aw I.out.symm H.out.symm,by (repeat' exact bel)⟩
 ·have I:=hide (E9 E)
  have H:=hide E;clear E;simp only [av];go_enter Tryz.func74,Tryz.ntmps74;go_wp2_with fail;refine (kA c lv y _ W H.out).mono ?_;rintro e G ⟨rfl,f⟩;have O:w.heap.size<G.heap.size:=aj f;have h:Hid (Below w w G):=ww f;have o:=hide (aa f ac (au w c));obtain ⟨q0,q1,q2,q3,q4,q5,q6,q7,q8,q9,R,S,T,U⟩:=o.out;clear f;have F:=h.out;go_wp2;go_ret2;exact ⟨aw I.out.symm rfl,by (repeat' exact bel)⟩
theorem eW (c:ar) (u:Un) (w:World) (hn:c.name.size≤1000) :
  Calls Tryz.prog 127 #[av c,aC u] w fun e w'=>e=.returned (.int .i64 (aE c u))∧Below w w w':=by
 by_cases G:aI c u.lv u.yr=0
 ·rcases (show (u.ix<1)∨(1≤u.ix∧(aR c u.yr u.lv:Int)<u.ix)∨(1≤u.ix∧u.ix≤(aR c u.yr u.lv:Int)) by omega) with hx | ⟨S,hx⟩ | ⟨S,hx⟩
  ·have R:=hide (mC G (.inl hx))
   have O:=hide G;clear G;simp only [av,aC];go_enter Tryz.func127,Tryz.ntmps127;go_wp2_with fail;refine (cF c u.lv u.yr _ hn O.out).mono ?_;rintro e F ⟨g,cap,rfl,hg,J,I,f⟩;clear I;have U:w.heap.size+1<F.heap.size:=aj f;have h:Hid (Below w w F):=ww f;have o:=hide (aa f ae (az (au w c) ac _));have E:=hide (aS f ac (cA w c u));obtain ⟨q0,q1,q2,q3,q4,q5,q6,q7,q8,q9,V,W,ab,ad⟩:=o.out;obtain ⟨u0,u1,u2⟩:=E.out;have T:w.heap.size<F.heap.size:=om;clear f;have H:=h.out;go_wp2
   all_goals first
    | (exfalso;omega)
    | (go_ret;exact ⟨by rw [R.out];rfl,by (repeat' exact bel)⟩)
  ·have R:=hide (mC G (.inr ⟨S,hx⟩))
   have O:=hide G;clear G;simp only [av,aC];go_enter Tryz.func127,Tryz.ntmps127;go_wp2_with fail;refine (cF c u.lv u.yr _ hn O.out).mono ?_;rintro e F ⟨g,cap,rfl,hg,J,I,f⟩;clear I;have U:w.heap.size+1<F.heap.size:=aj f;have h:Hid (Below w w F):=ww f;have o:=hide (aa f ae (az (au w c) ac _));have E:=hide (aS f ac (cA w c u));obtain ⟨q0,q1,q2,q3,q4,q5,q6,q7,q8,q9,V,W,ab,ad⟩:=o.out;obtain ⟨u0,u1,u2⟩:=E.out;have T:w.heap.size<F.heap.size:=om;clear f;have H:=h.out;go_wp2
   all_goals first
    | (exfalso;omega)
    | (go_ret;exact ⟨by rw [R.out];rfl,by (repeat' exact bel)⟩)
  ·have R:=hide (oO G S hx)
   have O:=hide G;clear G;simp only [av,aC];go_enter Tryz.func127,Tryz.ntmps127;go_wp2_with fail;refine (cF c u.lv u.yr _ hn O.out).mono ?_;rintro e F ⟨g,cap,rfl,hg,J,I,f⟩;clear I;have U:w.heap.size+1<F.heap.size:=aj f;have h:Hid (Below w w F):=ww f;have o:=hide (aa f ae (az (au w c) ac _));have E:=hide (aS f ac (cA w c u));obtain ⟨q0,q1,q2,q3,q4,q5,q6,q7,q8,q9,V,W,ab,ad⟩:=o.out;obtain ⟨u0,u1,u2⟩:=E.out;have T:w.heap.size<F.heap.size:=om;clear f;have H:=h.out;go_wp2
   all_goals first
    | (exfalso;omega)
    | (go_ret;exact ⟨by rw [R.out];rfl,by (repeat' exact bel)⟩)
 ·have R:=hide (pU G)
  have O:=hide G;have ah:(aI c u.lv u.yr != 0)=true:=by simpa using G
  clear G;simp only [av,aC];go_enter Tryz.func127,Tryz.ntmps127;go_wp2_with fail;refine (kA c u.lv u.yr _ hn O.out).mono ?_;rintro e F ⟨rfl,f⟩;have U:w.heap.size+1<F.heap.size:=aj f;have h:Hid (Below w w F):=ww f;have o:=hide (aa f ae (az (au w c) ac _));have E:=hide (aS f ac (cA w c u));obtain ⟨q0,q1,q2,q3,q4,q5,q6,q7,q8,q9,V,W,ab,ad⟩:=o.out;obtain ⟨u0,u1,u2⟩:=E.out;have T:w.heap.size<F.heap.size:=om;clear f;have H:=h.out;go_wp2;go_ret;exact ⟨by rw [R.out];rfl,by (repeat' exact bel)⟩
theorem mc (c:ar) (u:Un) (w:World) (hn:c.name.size≤1000) (hU:¬ aE c u=0) :
  Calls Tryz.prog 69 #[av c,aC u] w fun e w'=>e=.returned (.tuple #[.agg #[.int .i64 0,.int .i64 0],aE c u])∧Below w w w':=by
 by_cases o:aI c u.lv u.yr=0
 ·rcases (show (u.ix<1)∨(1≤u.ix∧(aR c u.yr u.lv:Int)<u.ix)∨(1≤u.ix∧u.ix≤(aR c u.yr u.lv:Int)) by omega) with V | ⟨H,V⟩ | ⟨H,V⟩
  ·have J:=hide (mC o (.inl V))
   have I:=hide o;clear o hU;simp only [av,aC];go_enter Tryz.func69,Tryz.ntmps69;go_wp2_with fail;refine (cF c u.lv u.yr _ hn I.out).mono ?_;rintro e h ⟨g,cap,rfl,hg,U,G,f⟩;clear G;have W:h.cell? ⟨w+1+1,0,none⟩=some (.int .i64 0):=am f;have R:h.frozen? ⟨w+1+1,0,none⟩=false:=ak f;have r1:h.cell? ⟨w+1+1,1,none⟩=some (.int .i64 0):=am f;have S:h.frozen? ⟨w+1+1,1,none⟩=false:=ak f;have u2:h.cell? ⟨w+1,2,none⟩=some (.int .i64 u.ix):=am f;have E:w.heap.size+1+1<h.heap.size:=aj f;have F:w.heap.size+1<h.heap.size:=om;have O:=hide (show Below w w h by (repeat' exact bel));clear f;go_wp2
   all_goals first
    | (exfalso;omega)
    | exact bodyPost_ret (v:=.tuple #[.agg #[.int .i64 0,.int .i64 0],.int .i64 13]) (by simp (maxDischargeDepth:=9) [results,Tryz.results69,go_sem,W,r1,R,S,E]) rfl ⟨by rw [J.out],by have T:=O.out;(repeat' exact bel)⟩
  ·have J:=hide (mC o (.inr ⟨H,V⟩))
   have I:=hide o;clear o hU;simp only [av,aC];go_enter Tryz.func69,Tryz.ntmps69;go_wp2_with fail;refine (cF c u.lv u.yr _ hn I.out).mono ?_;rintro e h ⟨g,cap,rfl,hg,U,G,f⟩;clear G;have W:h.cell? ⟨w+1+1,0,none⟩=some (.int .i64 0):=am f;have R:h.frozen? ⟨w+1+1,0,none⟩=false:=ak f;have r1:h.cell? ⟨w+1+1,1,none⟩=some (.int .i64 0):=am f;have S:h.frozen? ⟨w+1+1,1,none⟩=false:=ak f;have u2:h.cell? ⟨w+1,2,none⟩=some (.int .i64 u.ix):=am f;have E:w.heap.size+1+1<h.heap.size:=aj f;have F:w.heap.size+1<h.heap.size:=om;have O:=hide (show Below w w h by (repeat' exact bel));clear f;go_wp2
   all_goals first
    | (exfalso;omega)
    | exact bodyPost_ret (v:=.tuple #[.agg #[.int .i64 0,.int .i64 0],.int .i64 13]) (by simp (maxDischargeDepth:=9) [results,Tryz.results69,go_sem,W,r1,R,S,E]) rfl ⟨by rw [J.out],by have T:=O.out;(repeat' exact bel)⟩
  ·exact absurd (oO o H V) hU
 ·have J:=hide (pU o)
  have I:=hide o;have ab:(aI c u.lv u.yr != 0)=true:=by simpa using o
  clear o hU;simp only [av,aC];go_enter Tryz.func69,Tryz.ntmps69;go_wp2_with fail;refine (kA c u.lv u.yr _ hn I.out).mono ?_;rintro e h ⟨rfl,f⟩;have W:h.cell? ⟨w+1+1,0,none⟩=some (.int .i64 0):=am f;have R:h.frozen? ⟨w+1+1,0,none⟩=false:=ak f;have r1:h.cell? ⟨w+1+1,1,none⟩=some (.int .i64 0):=am f;have S:h.frozen? ⟨w+1+1,1,none⟩=false:=ak f;have E:w.heap.size+1+1<h.heap.size:=aj f;have F:w.heap.size+1<h.heap.size:=om;have O:=hide (show Below w w h by (repeat' exact bel));clear f;go_wp2
  all_goals first
   | (exfalso;omega)
   | exact bodyPost_ret (v:=.tuple #[.agg #[.int .i64 0,.int .i64 0],aI c u.lv u.yr]) (by simp (maxDischargeDepth:=9) [results,Tryz.results69,go_sem,W,r1,R,S,E]) rfl ⟨by rw [J.out],by have T:=O.out;(repeat' exact bel)⟩
theorem gS (c:ar) (u:Un) (w:World) (hn:c.name.size≤1000) (T:aE c u=0) :
  Calls Tryz.prog 69 #[av c,aC u] w fun e w'=>e=.returned (.tuple #[.agg #[gT c u,gb c u],.int .i64 0])∧Below w w w':=by
 obtain ⟨O,hx,hi⟩:=ie T;have ad:=dv c u.yr (a9 O).2.2.2.2.2.2 u.lv;obtain ⟨i,o⟩:∃ i,uI u=i:=⟨_,rfl⟩;have S:=hide (show gT c u=bD c u.yr (aW c u.yr u.lv i)∧gb c u=bD c u.yr (aW c u.yr u.lv (i+1))-1 by rw [← o];exact ⟨rfl,rfl⟩);rw [o] at hx hi;have HE:=hide O;obtain ⟨J,F,ux⟩:=u;simp only at *;subst hx;have V:i<60:=om;obtain ⟨D1,G⟩:∃ X,bD c F (aW c F J i)=X:=⟨_,rfl⟩;obtain ⟨D2,H⟩:∃ X,bD c F (aW c F J (i+1))-1=X:=⟨_,rfl⟩;have I:=hide (And.intro G H);clear O T o G H;simp only [av,aC];go_enter Tryz.func69,Tryz.ntmps69;go_wp2_with fail;refine (cF c J F _ hn HE.out).mono ?_;rintro e h ⟨g,cap,rfl,hg,U,E,f⟩;obtain ⟨c1,c2⟩:=kv E i hi;rw [I.out.1] at c1;rw [I.out.2] at c2;have ah:=E.1;have r0:h.cell? ⟨w+1+1,0,none⟩=some (.int .i64 0):=am f;have f0:h.frozen? ⟨w+1+1,0,none⟩=false:=ak f;have r1:h.cell? ⟨w+1+1,1,none⟩=some (.int .i64 0):=am f;have f1:h.frozen? ⟨w+1+1,1,none⟩=false:=ak f;have u2:h.cell? ⟨w+1,2,none⟩=some (.int .i64 ((i:Int)+1)):=am f;have R:w.heap.size+1+1<h.heap.size:=aj f;have W:w.heap.size+1<h.heap.size:=om;have al:¬ g=w.heap.size+1+1:=by simp at hg;omega
 have HW:=hide (show Below w w h by (repeat' exact bel));clear f E;have aq:(0:Int)≤(i:Int):=om;have ay:(i:Int)<(aR c F J:Int):=om;have aA:(i:Int)<60:=om;go_wp2
 all_goals first
  | (exfalso;omega)
  | exact bodyPost_ret (v:=.tuple #[.agg #[D1,D2],.int .i64 0]) (by simp (maxDischargeDepth:=9) [results,Tryz.results69,go_sem,r0,r1,f0,f1,R]) rfl ⟨by rw [S.out.1,S.out.2,I.out.1,I.out.2],by have ab:=HW.out;(repeat' exact bel)⟩
theorem kH (c:ar) (u:Un) (w:World) (o:c.name.size≤1000) :
  Calls Tryz.prog 69 #[av c,aC u] w fun e E=>e=.returned (.tuple #[bI (cd c u),aE c u])∧Below w w E:=by
 by_cases f:aE c u=0
 ·refine (gS c u w o f).mono ?_
  rintro e F ⟨rfl,h⟩;exact ⟨by rw [cd,if_pos f,f],h⟩
 ·refine (mc c u w o f).mono ?_
  rintro e F ⟨rfl,h⟩;exact ⟨by rw [cd,if_neg f],h⟩
end
end Go.Proofs.YtjhhmeoibfdcmaaGreat
