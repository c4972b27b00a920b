/- Lemmas. -/
import Derived.Test.YtjhhmeoibfdcmaaGreatWr06
import Derived.Test.YtjhhmeoibfdcmaaGreatWr13
import Derived.Test.YtjhhmeoibfdcmaaGreatWr16
import Derived.Test.YtjhhmeoibfdcmaaGreatWr28
set_option linter.unusedSimpArgs false
set_option linter.unusedVariables false
set_option maxRecDepth 100000
set_option maxHeartbeats 12800000
namespace Go.Proofs.YtjhhmeoibfdcmaaGreat
section
open Go.RowKit Qd
def jq (lv:Int) (n k:Nat):Nat:=if lv=1 then k / n else if lv=2 then (4*k+3) / n / 2 else if lv=3 then (4*k+3) / n else k
def qN (n k:Nat):Nat:=(4*(k+1)+n-1) / n
theorem Ho {n:Nat} (f:n=12∨n=13∨n=26∨n=52) (lv:Int):jq lv n 0=0:=by
 unfold jq;rcases f with rfl | rfl | rfl | rfl <;> simp
theorem If {n:Nat} (f:n=12∨n=13∨n=26∨n=52):jq 1 n n=1∧jq 2 n n=2∧jq 3 n n=4∧jq 4 n n=n:=by
 rcases f with rfl | rfl | rfl | rfl <;> decide
theorem C7 (n k:Nat):jq 4 n (k+1)=jq 4 n k+1∧ce n 4 (jq 4 n k+1)=k+1:=by simp [jq,ce]
theorem Eg {n k:Nat} (o:n=12∨n=13∨n=26∨n=52) (f:k<n) (h:k+1=n∨qN n k<qN n (k+1)) :
  jq 3 n (k+1)=jq 3 n k+1∧ce n 3 (jq 3 n k+1)=k+1:=by
 rcases o with rfl | rfl | rfl | rfl <;> (revert h;revert f;revert k;decide)
theorem Jk {n k:Nat} (E:n=12∨n=13∨n=26∨n=52) (o:k+1<n) (h:¬ qN n k<qN n (k+1)) :
  jq 3 n (k+1)=jq 3 n k:=by
 rcases E with rfl | rfl | rfl | rfl <;> (have f:=Nat.lt_of_succ_lt o;revert h;revert o;revert f;revert k;decide)
theorem Ft {n k:Nat} (o:n=12∨n=13∨n=26∨n=52) (f:k<n) (h:k+1=n∨(qN n k<qN n (k+1)∧qN n k % 2=0)) :
  jq 2 n (k+1)=jq 2 n k+1∧ce n 2 (jq 2 n k+1)=k+1:=by
 rcases o with rfl | rfl | rfl | rfl <;> (revert h;revert f;revert k;decide)
theorem I1 {n k:Nat} (E:n=12∨n=13∨n=26∨n=52) (o:k+1<n) (h:¬ (qN n k<qN n (k+1)∧qN n k % 2=0)) :
  jq 2 n (k+1)=jq 2 n k:=by
 rcases E with rfl | rfl | rfl | rfl <;> (have f:=Nat.lt_of_succ_lt o;revert h;revert o;revert f;revert k;decide)
theorem EH {n k:Nat} (f:n=12∨n=13∨n=26∨n=52) (h:k+1=n) :
  jq 1 n (k+1)=jq 1 n k+1∧ce n 1 (jq 1 n k+1)=k+1:=by
 simp only [jq,ce] at *;rcases f with rfl | rfl | rfl | rfl <;> simp <;> omega
theorem I0 {n k:Nat} (f:n=12∨n=13∨n=26∨n=52) (h:k+1<n):jq 1 n (k+1)=jq 1 n k:=by
 simp only [jq] at *;rcases f with rfl | rfl | rfl | rfl <;> simp <;> omega
theorem uJ {n k:Nat} (f:n=12∨n=13∨n=26∨n=52) (h:k<n):1≤qN n k∧qN n k≤4:=by
 simp only [qN] at *;rcases f with rfl | rfl | rfl | rfl <;> omega
theorem pG {n k:Nat} (f:n=12∨n=13∨n=26∨n=52) (h:k+1=n):qN n k=4:=by
 simp only [qN] at *;rcases f with rfl | rfl | rfl | rfl <;> omega
theorem zu {n k:Nat} (f:n=12∨n=13∨n=26∨n=52) (h:k≤n):ce n 1 (jq 1 n k)≤k∧ce n 2 (jq 2 n k)≤k∧ce n 3 (jq 3 n k)≤k∧ce n 4 (jq 4 n k)≤k:=by
 simp only [jq,ce] at *;rcases f with rfl | rfl | rfl | rfl <;> simp <;> omega
def mp (c:ar) (lv y:Int) (i:Nat):Int × Int:=(bD c y (aW c y lv i),bD c y (aW c y lv (i+1))-1)
def iT (c:ar) (lv y:Int):List (Int × Int):=bm (mp c lv y) (aR c y lv)
theorem rS (c:ar) (lv y:Int):(iT c lv y).length=aR c y lv:=bk _ _
theorem rN (c:ar) (lv y:Int) (i:Nat) (hi:i<aR c y lv):(iT c lv y)[i]?=some (mp c lv y i):=by
 simp [iT,bm,hi]
theorem ln {c:ar} {y:Int} (F:aO c y 1601=0):cj c=(aU c y:Int)∧(aU c y=12∨aU c y=13∨aU c y=26∨aU c y=52):=by
 obtain ⟨f,_,_⟩:=bo F;have h:c.okB=true:=by simpa [ar.okB] using f
 have o:=gQ c y h;have G:=uQ c h;have E:((aU c y:Nat):Int)=cj c:=o;exact ⟨E.symm,by omega⟩
theorem vN {c:ar} {y:Int} (G:aO c y 1601=0) (k:Nat) (I:k<aU c y):qV c ((k:Int)+1)=(qN (aU c y) k:Int)∧qE c ((k:Int)+1)=0:=by
 obtain ⟨o,_,_⟩:=bo G;have f:c.okB=true:=by simpa [ar.okB] using o
 obtain ⟨E,H⟩:=ln G;have F:ri c ((k:Int)+1)=true:=by simp [ri,f,E];omega
 refine ⟨?_,by simp [qE,F]⟩;rw [qV,if_pos F,E,qN];rcases H with h | h | h | h <;> rw [h] <;> omega
theorem He {c:ar} {y:Int} (f:aO c y 1601=0):iT c 5 y=oY c y:=by
 apply List.ext_getElem?;intro i;by_cases hi:i<bW c y
 ·rw [rN c 5 y i (by rw [qD];exact hi),(en c y f i hi).1]
  simp [mp,aW]
 ·rw [List.getElem?_eq_none (by rw [rS,qD];omega),List.getElem?_eq_none (by rw [fQ];omega)]
theorem Iz (c:ar) (y lv:Int) (f:¬ lv=5) (i:Nat):aW c y lv i=ci c y (ce (aU c y) lv i):=by simp [aW,f]
theorem oF {c:ar} {y lv:Int} (o:aO c y 1601=0) (f:¬ lv=5) {j k:Nat} (F:k<aU c y) (E:ce (aU c y) lv j≤k) (h:ce (aU c y) lv (j+1)=k+1) :
  mp c lv y j=(aM c y (ce (aU c y) lv j),bJ c y k):=by
 rw [mp,Iz c y lv f,Iz c y lv f,h,wi c y o _ om,wi c y o _ om,bM];congr 1;omega
theorem xT.below {w E:World} {K g:Nat} {L:List Int} (h:xT w g L) (f:Below K w E) (o:g<K):xT E g L:=
 ⟨qt f o h.1,fun k F=>(f.cell (p:=⟨g,k,none⟩) o).trans (h.2 k F)⟩
def gd (c:ar) (B f:Nat) (L:List (Int × Int)) (v:Value) (h w:World):Prop:=
 aG w B c∧B<f∧f≤w.heap.size∧w.ownsRow f 45 2 v L.length (lN L)∧Below B h w
theorem gd.call {c:ar} {B o:Nat} {L:List (Int × Int)} {v:Value} {F w E:World} (h:gd c B o L v F w) (f:Below w w E):gd c B o L v F E:=by
 obtain ⟨G,H,I,J,O⟩:=h;exact ⟨aa f om G,H,Nat.le_trans I f.size,fy J f,O.trans (f.mono om)⟩
theorem gd.grow {c:ar} {B E:Nat} {L:List (Int × Int)} {a b:Int} {v v':Value} {I W F:World} (h:gd c B E L v I W) (o:Obj)
  (U:F.ownsRow E 45 2 v' (L.length+1) (lN L++[.int .i64 a,.int .i64 b])) (f:(W.alloc o).grownBy F v.ownBlock):gd c B E (L++[(a,b)]) v' I F∧Below E W F:=by
 obtain ⟨J,H,O,R,S⟩:=h;have G:Below E W F:=((Below.refl E W).alloc O o).grown f ae (fun k T=>by have:=(R.lt k T).1;omega);have V:W.heap.size≤F.heap.size:=by have:=f.size;simp at this;omega
 refine ⟨⟨aa G H J,H,by omega,?_,S.trans (G.mono om)⟩,G⟩;rw [kG];simpa [lN] using U
def lG (c:ar) (lv y:Int) (w:World) (e:Ending) (f:World):Prop:=
 ∃ g cap,e=.returned (.tuple #[.slice (some ⟨g,0,none⟩) (aR c y lv) cap,.int .i64 0])∧w.heap.size≤g∧aR c y lv≤cap∧cP f g (iT c lv y)∧Below w w f
theorem kA (c:ar) (lv y:Int) (w:World) (hn:c.name.size≤1000) (hE:¬ aI c lv y=0) :
    Calls Tryz.prog 64 #[av c,lv,y] w fun e w'=>e=.returned (.tuple #[.slice none 0 0,aI c lv y])∧Below w w w':=by
  rcases eY c with ⟨I,O,G⟩ | ⟨_,O,G⟩
  · have HE:=hide O
    by_cases R:1≤lv∧lv≤5
    · have J : y < c.first ∨ (c.first ≤ y ∧ c.last < y) := by
        by_cases hx:c.first≤y∧y≤c.last
        · exact absurd (jI I R.1 R.2 hx.1 hx.2) hE
        · omega
      have S:=hide (show aI c lv y=11 by unfold aI;rw [if_pos G,if_pos R,if_neg om]);obtain ⟨ad,ah⟩:=R;clear hE O G I;rcases J with J | ⟨al,J⟩
      all_goals
        simp only [av];go_enter Tryz.func64,Tryz.ntmps64;go_wp2_with fail;refine (aH c _ hn).mono ?_;rintro e F ⟨rfl,f⟩;rw [HE.out];have T:w.heap.size<F.heap.size:=aj f;have h:Hid (Below w w F):=ww f;have o:=hide (aa f ac (au w c));obtain ⟨q0,q1,q2,q3,q4,q5,q6,q7,q8,q9,U,V,W,ab⟩:=o.out;clear f;have E:=h.out;go_wp2
        all_goals first
          | (exfalso;omega)
          | (go_ret2;exact ⟨by rw [S.out];rfl,by (repeat' exact bel)⟩)
    · have S:=hide (show aI c lv y=1 by unfold aI;rw [if_pos G,if_neg R])
      have H:lv<1∨(1≤lv∧5<lv):=om;clear hE O G I R;rcases H with H | ⟨ad,H⟩
      all_goals
        simp only [av];go_enter Tryz.func64,Tryz.ntmps64;go_wp2_with fail;refine (aH c _ hn).mono ?_;rintro e F ⟨rfl,f⟩;rw [HE.out];have T:w.heap.size<F.heap.size:=aj f;have h:Hid (Below w w F):=ww f;have o:=hide (aa f ac (au w c));obtain ⟨q0,q1,q2,q3,q4,q5,q6,q7,q8,q9,U,V,W,ab⟩:=o.out;clear f;have E:=h.out;go_wp2
        all_goals first
          | (exfalso;omega)
          | (go_ret2;exact ⟨by rw [S.out];rfl,by (repeat' exact bel)⟩)
  · have HE:=hide O
    have S:=hide (show aI c lv y=1 by simp [aI,G]);clear hE O G;simp only [av];go_enter Tryz.func64,Tryz.ntmps64;go_wp2_with fail;refine (aH c _ hn).mono ?_;rintro e F ⟨rfl,f⟩;rw [HE.out];have T:w.heap.size<F.heap.size:=aj f;have h:Hid (Below w w F):=ww f;have o:=hide (aa f ac (au w c));obtain ⟨q0,q1,q2,q3,q4,q5,q6,q7,q8,q9,U,V,W,ab⟩:=o.out;clear f;have E:=h.out;go_wp2;go_ret2;exact ⟨by rw [S.out];rfl,by (repeat' exact bel)⟩
theorem xu (c:ar) (y:Int) (w:World) (hn:c.name.size≤1000) (hE:aI c 1 y=0) :
  Calls Tryz.prog 64 #[av c,.int .i64 1,y] w (lG c 1 y w):=by
 obtain ⟨ea,a2,_,_,e4,e5,hA⟩:=a9 hE;obtain ⟨eb,f⟩:=ln hA;have cS:=hide (show co c=0 by simp [co,a2]);have d9:=fs c y hA;have a1:=ch c y hA;have a4:=hide (fun k=>vN hA k);have al:=hide (fun k=>il c y hA k);have c1:=hide (fun k=>dM c y hA k);have cy:=hide (fun k=>bM c y k);have cr:=hide (fun k=>(show (bi c y)[k]?.getD 0=bJ c y k from rfl));have bd:=hide (show aM c y 0=ax c y by simp [aM]);have b0:=hide (fun j k=>oF (c:=c) (y:=y) (lv:=1) hA om (j:=j) (k:=k));have HC:=hide (show (iT c 1 y)=bm (mp c 1 y) (aR c y 1) from rfl);have eE:=dv c y hA 1;have a3:=hide (show aR c y 1=jq 1 (aU c y) (aU c y) by have h:=If f;simp [aR,h]);obtain ⟨N,hN⟩:∃ N,aU c y=N:=⟨_,rfl⟩;have HN:=hide (show (bi c y).length=N from hN);have d1:12≤N∧N≤52:=om;obtain ⟨b7,ey⟩:=d1;rw [hN] at f a4;have bw:=hide (fun k (h:k<N)=>uJ f h);have c3:=hide (fun k (h:k+1=N)=>pG f h);rw [hN] at b0 a3;have bh:=hide (Ho f 1);have c2:=hide (fun k (h:k≤N)=>(zu f h).1);have cI:=hide (fun k (h:k+1=N)=>EH f h);have cE:=hide (fun k (h:k+1<N)=>I0 f h);obtain ⟨D,hD⟩:∃ D,ax c y=D:=⟨_,rfl⟩;rw [hD] at al bd a1;have HD:=hide hD;have HA:=hide hA;have eD:0≤D∧D≤3068037:=⟨a1.1,a1.2.1⟩;obtain ⟨i0,hi,d4,d5,d6⟩:=info_parts gy;clear ea a2 eb hE hA a1 hD d9 f hN;simp only [av];go_enter Tryz.func64,Tryz.ntmps64;go_wp2_with fail;refine (aH c _ hn).mono ?_;rintro e w1 ⟨rfl,ay⟩;rw [cS.out];have e6:w.heap.size<w1.heap.size:=aj ay;have cc:Hid (Below w w w1):=ww ay;have bl:=hide (aa ay ac (au w c));obtain ⟨q0,q1,q2,q3,q4,q5,q6,q7,q8,q9,o,E,F,G⟩:=bl.out;clear ay;go_wp2_with fail
 all_goals first
  | (exfalso;omega)
  | skip
 refine (bO c y _ hn).mono ?_;rintro e w2 ⟨rfl,aA⟩;rw [HA.out,HD.out];have e7:w.heap.size<w2.heap.size:=aj aA;have cl:Hid (Below w w w2):=ao cc.out aA;have bp:Hid (aG w2 w c):=by have hp:=bl.out;exact qq aA
 clear q0 q1 q2 q3 q4 q5 q6 q7 q8 q9 o E F G;obtain ⟨q0,q1,q2,q3,q4,q5,q6,q7,q8,q9,o,E,F,G⟩:=bp.out;clear aA;go_wp2_with fail;refine (fF c y _ hn HA.out).mono ?_;rintro e w3 ⟨v,rfl,hv,aB⟩;obtain ⟨g,cap,rfl,ah⟩:=hv;rw [HN.out] at ah ⊢;have bX:=hide (i7 ah);have eL:g<w3.heap.size:=bX.out.1;clear ah;have e8:w.heap.size<w3.heap.size:=aj aB;have cp:Hid (Below w w w3):=ao cl.out aB;have bt:Hid (aG w3 w c):=by have hp:=bp.out;exact qq aB
 clear q0 q1 q2 q3 q4 q5 q6 q7 q8 q9 o E F G;obtain ⟨q0,q1,q2,q3,q4,q5,q6,q7,q8,q9,o,E,F,G⟩:=bt.out;clear aB;obtain ⟨Bo,c9⟩:∃ B,B=w3.heap.size:=⟨_,rfl⟩;have c6:=hide (show gd c w.heap.size Bo [] (.slice none 0 0) w w3 from ⟨bt.out,by omega,by omega,World.ownsRow_nil _ _ _ _,cp.out⟩);have d2:g<Bo:=om;clear c9;go_wp2_with fail;go_loopw [9,13,54] (fun s9 ek el wr=>∃ k:Nat,el=.int .i64 k∧s9=.int .i64 (aM c y (ce N 1 (jq 1 N k)))∧k≤N∧gd c w.heap.size Bo (bm (mp c 1 y) (jq 1 N k)) ek w wr∧xT wr g (bi c y)) (fun _ _ s _=>(60-intOf s).toNat)
 case atStart=>exact ⟨0,rfl,by rw [bh.out];simp [ce,bd.out],by omega,by rw [bh.out];exact c6.out,bX.out⟩
 case round =>
  obtain ⟨k,rfl,rfl,hk,hS,hR⟩:=hrel;have HS:=hide hS;have HR:=hide hR;clear hS hR;clear q0 q1 q2 q3 q4 q5 q6 q7 q8 q9 o E F G;by_cases ba:k<N
  ·have c0:=HR.out.2 k (by have:=HN.out;omega)
   rw [cr.out k] at c0;have hp:=c1.out k (by have:=HN.out;omega);have cb:=c2.out k hk;have V:=al.out (ce N 1 (jq 1 N k)) (by have:=HN.out;omega);have b9:=al.out (k+1) (by have:=HN.out;omega);have ca:=al.out k (by have:=HN.out;omega);have a6:=cy.out k;have d7:jq 1 N k≤N:=by
    have:jq 1 N k≤ce N 1 (jq 1 N k):=by
     simp only [ce];simp;try (first | exact Nat.le_mul_of_pos_left _ om | omega)
     all_goals
      have:=Nat.le_mul_of_pos_left (jq 1 N k) (show 0<N by omega);have h4:12*(jq 1 N k)≤N*(jq 1 N k):=Nat.mul_le_mul_right _ b7
      first | omega | (rw [show N*(2*jq 1 N k)=2*(N*jq 1 N k) by rw [Nat.mul_left_comm]];omega)
    omega
   have bc:(bm (mp c 1 y) (jq 1 N k)).length=jq 1 N k:=bk _ _;have a5:=hide (bB (mp c 1 y) (jq 1 N k));have I:=hide (b0.out (jq 1 N k) k ba cb);obtain ⟨J,hJ⟩:∃ J,jq 1 N k=J:=⟨_,rfl⟩;rw [hJ] at HS bc a5 I cb V d7;rw [hJ];obtain ⟨F0,H⟩:∃ X,aM c y (ce N 1 J)=X:=⟨_,rfl⟩;obtain ⟨E0,b2⟩:∃ X,bJ c y k=X:=⟨_,rfl⟩;rw [H] at V I;rw [H];rw [b2] at c0 a6 I hp;have HF:=hide H;have b3:0≤E0∧E0≤3080000:=om;have b4:0≤F0∧F0≤3080000:=om;obtain ⟨es,et⟩:=b3;obtain ⟨ew,ex⟩:=b4;have cs:=hide (show aM c y (k+1)=E0+1 from a6);obtain ⟨U,hU⟩:∃ U,bm (mp c 1 y) J=U:=⟨_,rfl⟩;rw [hU] at HS a5 bc;have c8:=hide hU;clear hU a6 V b9 ca hp H b2;have eN:(0:Int)≤(k:Int):=om;have eS:(k:Int)<(N:Int):=om;have aq:=hide hJ;clear hJ;obtain ⟨q0,q1,q2,q3,q4,q5,q6,q7,q8,q9,o,E,F,G⟩:=HS.out.1;have eB:=HS.out.2.1;have eA:=HS.out.2.2.1;have R:=hide (a4.out k ba);obtain ⟨dd,dq⟩:=bw.out k ba;obtain ⟨Q0,b5⟩:∃ Q:Nat,qN N k=Q:=⟨_,rfl⟩;rw [b5] at R dd dq;go_wp2_with fail;refine (cf c ((k:Int)+1) _ hn).mono ?_;rintro e w4 ⟨rfl,aF⟩;rw [R.out.1,R.out.2];have T:=hide (HS.out.call aF);have bx:=hide (HR.out.below aF om);have e0:wr.heap.size≤w4.heap.size:=aF.size;clear q0 q1 q2 q3 q4 q5 q6 q7 q8 q9 o E F G;obtain ⟨q0,q1,q2,q3,q4,q5,q6,q7,q8,q9,o,E,F,G⟩:=T.out.1;clear aF;by_cases a8:k+1<N
   ·skip
    have S:=hide (show qV c ((k:Int)+2)=(qN N (k+1):Int)∧qE c ((k:Int)+2)=0 from by
     have h:=a4.out (k+1) a8
     rwa [show (((k+1:Nat):Int)+1)=(k:Int)+2 by omega] at h)
    obtain ⟨dY,d0⟩:=bw.out (k+1) a8;obtain ⟨X0,ds⟩:∃ Q:Nat,qN N (k+1)=Q:=⟨_,rfl⟩;rw [ds] at S dY d0;go_wp2_with fail
    all_goals first
     | (exfalso;omega)
     | skip
    refine (cf c ((k:Int)+2) _ hn).mono ?_;rintro e w5 ⟨rfl,a0⟩;rw [S.out.1,S.out.2];have c7:=hide (T.out.call a0);have c5:=hide (bx.out.below a0 om);have e3:w4.heap.size≤w5.heap.size:=a0.size;clear q0 q1 q2 q3 q4 q5 q6 q7 q8 q9 o E F G;clear a0;have d8:((k:Int)+1==(N:Int))=false:=ae;go_wp2
    all_goals first
     | (exfalso;omega)
     | skip
    go_roundw
    case rel =>
     have e1:=cE.out k a8;exact ⟨k+1,by go_num,by rw [e1,aq.out,HF.out],by omega,by rw [e1,aq.out,c8.out];exact c7.out,c5.out⟩
    case measure=>simp [intOf];omega
   ·have a7:k+1=N:=om
    have b6:Q0=4:=by rw [← b5];exact c3.out k a7
    subst b6;have cM:=hide a7;have d8:((k:Int)+1==(N:Int))=true:=ae;have eU:(N:Int)≤(k:Int)+1:=om;clear a7;go_wp2_with ((at_builtin;refine wpList_append_own _ rfl _ _ 93 rfl Bo 45 i0 (.agg #[.int .i64 0,.int .i64 0]) 2 16 Tryz.underlying93 hi d4 d5 d6 rfl ag _ _ _ rfl (T.out.2.2.2.1.alloc _) ⟨w4,0,none⟩ 1 1 [.int .i64 (F0),.int .i64 (E0)] rfl rfl ?c1z ?c2z ?c3z ?c4z ?c5z ?_))
    case c1z =>
     intro i u O
     match i,O with
     | 0,O=>simp at O;subst O;simp [Addr.add]
     | 1,O=>simp at O;subst O;simp [Addr.add]
     | i+2,O=>simp at O
    case c2z=>intro u O;simp at O;rcases O with rfl | rfl <;> rfl
    case c3z=>unfold maxLen;omega
    case c4z=>omega
    case c5z=>have:=T.out.2.2.1;simp;omega
    ·intro v' w' ad W _
     have HG:=hide (T.out.grow (a:=F0) (b:=E0) _ (by rw [bc];exact ad) W);have c4:=hide (bx.out.below HG.out.2 d2);clear ad W;go_wp2;go_roundw
     case rel =>
      obtain ⟨e1,e2⟩:=cI.out k cM.out;refine ⟨k+1,by go_num,?_,by omega,?_,c4.out⟩
      ·rw [e1,e2,cs.out]
      ·rw [e1,aq.out,a5.out,I.out (by rw [← aq.out];exact e2)];exact HG.out.1
     case measure=>simp [intOf];omega
  ·obtain rfl:k=N:=om
   have hl:(bm (mp c 1 y) (jq 1 k k)).length=aR c y 1:=by rw [bk,a3.out]
   have ab:=HS.out.2.2.2.1;rw [hl] at ab;obtain ⟨g1,b1,rfl,b8,_,eF,bb⟩:=fu ab om;rw [← a3.out,← HC.out] at bb;have I:=hide bb;have em:=HS.out.2.2.2.2;have d3:w.heap.size≤g1:=by have:=HS.out.2.1;omega
   obtain ⟨F0,H⟩:∃ X,aM c y (ce k 1 (jq 1 k k))=X:=⟨_,rfl⟩;rw [H];clear ab bb hl H;go_wp2
   all_goals first
    | (exfalso;omega)
    | (go_ret2;exact ⟨g1,b1,rfl,d3,b8,I.out,by (repeat' exact bel)⟩)
theorem yZ (c:ar) (y:Int) (w:World) (hn:c.name.size≤1000) (hE:aI c 4 y=0) :
  Calls Tryz.prog 64 #[av c,.int .i64 4,y] w (lG c 4 y w):=by
 obtain ⟨d6,a4,_,_,e3,e4,hA⟩:=a9 hE;obtain ⟨d7,S⟩:=ln hA;have c4:=hide (show co c=0 by simp [co,a4]);have d5:=fs c y hA;have a3:=ch c y hA;have a6:=hide (fun k=>vN hA k);have al:=hide (fun k=>il c y hA k);have c5:=hide (fun k=>dM c y hA k);have c3:=hide (fun k=>bM c y k);have c2:=hide (fun k=>(show (bi c y)[k]?.getD 0=bJ c y k from rfl));have bh:=hide (show aM c y 0=ax c y by simp [aM]);have b3:=hide (fun j k=>oF (c:=c) (y:=y) (lv:=4) hA om (j:=j) (k:=k));have HC:=hide (show (iT c 4 y)=bm (mp c 4 y) (aR c y 4) from rfl);have eB:=dv c y hA 4;have a5:=hide (show aR c y 4=jq 4 (aU c y) (aU c y) by have h:=If S;simp [aR,h]);obtain ⟨N,hN⟩:∃ N,aU c y=N:=⟨_,rfl⟩;have HN:=hide (show (bi c y).length=N from hN);have d2:12≤N∧N≤52:=om;obtain ⟨ca,es⟩:=d2;rw [hN] at S a6;have b0:=hide (fun k (h:k<N)=>uJ S h);have c7:=hide (fun k (h:k+1=N)=>pG S h);rw [hN] at b3 a5;have bp:=hide (Ho S 4);have c6:=hide (fun k (h:k≤N)=>(zu S h).2.2.2);have bt:=hide (fun k=>C7 N k);obtain ⟨D,hD⟩:∃ D,ax c y=D:=⟨_,rfl⟩;rw [hD] at al bh a3;have HD:=hide hD;have HA:=hide hA;have eA:0≤D∧D≤3068037:=⟨a3.1,a3.2.1⟩;obtain ⟨i0,hi,cr,cs,cy⟩:=info_parts gy;clear d6 a4 d7 hE hA a3 hD d5 S hN;simp only [av];go_enter Tryz.func64,Tryz.ntmps64;go_wp2_with fail;refine (aH c _ hn).mono ?_;rintro e w1 ⟨rfl,aA⟩;rw [c4.out];have e5:w.heap.size<w1.heap.size:=aj aA;have cM:Hid (Below w w w1):=ww aA;have bw:=hide (aa aA ac (au w c));obtain ⟨q0,q1,q2,q3,q4,q5,q6,q7,q8,q9,F,G,H,I⟩:=bw.out;clear aA;go_wp2_with fail
 all_goals first
  | (exfalso;omega)
  | skip
 refine (bO c y _ hn).mono ?_;rintro e w2 ⟨rfl,aB⟩;rw [HA.out,HD.out];have e6:w.heap.size<w2.heap.size:=aj aB;have cS:Hid (Below w w w2):=ao cM.out aB;have bx:Hid (aG w2 w c):=by have hp:=bw.out;exact qq aB
 clear q0 q1 q2 q3 q4 q5 q6 q7 q8 q9 F G H I;obtain ⟨q0,q1,q2,q3,q4,q5,q6,q7,q8,q9,F,G,H,I⟩:=bx.out;clear aB;go_wp2_with fail;refine (fF c y _ hn HA.out).mono ?_;rintro e w3 ⟨v,rfl,hv,aF⟩;obtain ⟨g,cap,rfl,ah⟩:=hv;rw [HN.out] at ah ⊢;have b2:=hide (i7 ah);have eE:g<w3.heap.size:=b2.out.1;clear ah;have e7:w.heap.size<w3.heap.size:=aj aF;have c1:Hid (Below w w w3):=ao cS.out aF;have bX:Hid (aG w3 w c):=by have hp:=bx.out;exact qq aF
 clear q0 q1 q2 q3 q4 q5 q6 q7 q8 q9 F G H I;obtain ⟨q0,q1,q2,q3,q4,q5,q6,q7,q8,q9,F,G,H,I⟩:=bX.out;clear aF;obtain ⟨Bo,dd⟩:∃ B,B=w3.heap.size:=⟨_,rfl⟩;have c9:=hide (show gd c w.heap.size Bo [] (.slice none 0 0) w w3 from ⟨bX.out,by omega,by omega,World.ownsRow_nil _ _ _ _,c1.out⟩);have cp:g<Bo:=om;clear dd;go_wp2_with fail;go_loopw [9,13,54] (fun s9 d8 d9 wr=>∃ k:Nat,d9=.int .i64 k∧s9=.int .i64 (aM c y (ce N 4 (jq 4 N k)))∧k≤N∧gd c w.heap.size Bo (bm (mp c 4 y) (jq 4 N k)) d8 w wr∧xT wr g (bi c y)) (fun _ _ s _=>(60-intOf s).toNat)
 case atStart=>exact ⟨0,rfl,by rw [bp.out];simp [ce,bh.out],by omega,by rw [bp.out];exact c9.out,b2.out⟩
 case round =>
  obtain ⟨k,rfl,rfl,hk,hS,hR⟩:=hrel;have HS:=hide hS;have HR:=hide hR;clear hS hR;clear q0 q1 q2 q3 q4 q5 q6 q7 q8 q9 F G H I;by_cases bc:k<N
  ·have c0:=HR.out.2 k (by have:=HN.out;omega)
   rw [c2.out k] at c0;have hp:=c5.out k (by have:=HN.out;omega);have cI:=c6.out k hk;have ab:=al.out (ce N 4 (jq 4 N k)) (by have:=HN.out;omega);have cc:=al.out (k+1) (by have:=HN.out;omega);have cl:=al.out k (by have:=HN.out;omega);have ba:=c3.out k;have d4:jq 4 N k≤N:=by
    have:jq 4 N k≤ce N 4 (jq 4 N k):=by
     simp only [ce];simp;try (first | exact Nat.le_mul_of_pos_left _ om | omega)
     all_goals
      have:=Nat.le_mul_of_pos_left (jq 4 N k) (show 0<N by omega);have h4:12*(jq 4 N k)≤N*(jq 4 N k):=Nat.mul_le_mul_right _ ca
      first | omega | (rw [show N*(2*jq 4 N k)=2*(N*jq 4 N k) by rw [Nat.mul_left_comm]];omega)
    omega
   have a2:(bm (mp c 4 y) (jq 4 N k)).length=jq 4 N k:=bk _ _;have aq:=hide (bB (mp c 4 y) (jq 4 N k));have O:=hide (b3.out (jq 4 N k) k bc cI);obtain ⟨J,hJ⟩:∃ J,jq 4 N k=J:=⟨_,rfl⟩;rw [hJ] at HS a2 aq O cI ab d4;rw [hJ];obtain ⟨F0,R⟩:∃ X,aM c y (ce N 4 J)=X:=⟨_,rfl⟩;obtain ⟨E0,b5⟩:∃ X,bJ c y k=X:=⟨_,rfl⟩;rw [R] at ab O;rw [R];rw [b5] at c0 ba O hp;have HF:=hide R;have b6:0≤E0∧E0≤3080000:=om;have b7:0≤F0∧F0≤3080000:=om;obtain ⟨eb,ek⟩:=b6;obtain ⟨el,em⟩:=b7;have bl:=hide (show aM c y (k+1)=E0+1 from ba);obtain ⟨U,hU⟩:∃ U,bm (mp c 4 y) J=U:=⟨_,rfl⟩;rw [hU] at HS aq a2;have ew:=hide hU;clear hU ba ab cc cl hp R b5;have eF:(0:Int)≤(k:Int):=om;have eL:(k:Int)<(N:Int):=om;have ay:=hide hJ;clear hJ;obtain ⟨q0,q1,q2,q3,q4,q5,q6,q7,q8,q9,F,G,H,I⟩:=HS.out.1;have ey:=HS.out.2.1;have ex:=HS.out.2.2.1;have T:=hide (a6.out k bc);obtain ⟨dq,ds⟩:=b0.out k bc;obtain ⟨Q0,b8⟩:∃ Q:Nat,qN N k=Q:=⟨_,rfl⟩;rw [b8] at T dq ds;go_wp2_with fail;refine (cf c ((k:Int)+1) _ hn).mono ?_;rintro e w4 ⟨rfl,a0⟩;rw [T.out.1,T.out.2];have W:=hide (HS.out.call a0);have b1:=hide (HR.out.below a0 om);have eU:wr.heap.size≤w4.heap.size:=a0.size;clear q0 q1 q2 q3 q4 q5 q6 q7 q8 q9 F G H I;obtain ⟨q0,q1,q2,q3,q4,q5,q6,q7,q8,q9,F,G,H,I⟩:=W.out.1;clear a0;by_cases cE:k+1<N
   ·skip
    have V:=hide (show qV c ((k:Int)+2)=(qN N (k+1):Int)∧qE c ((k:Int)+2)=0 from by
     have h:=a6.out (k+1) cE
     rwa [show (((k+1:Nat):Int)+1)=(k:Int)+2 by omega] at h)
    obtain ⟨d0,d1⟩:=b0.out (k+1) cE;obtain ⟨X0,dY⟩:∃ Q:Nat,qN N (k+1)=Q:=⟨_,rfl⟩;rw [dY] at V d0 d1;go_wp2_with fail
    all_goals first
     | (exfalso;omega)
     | skip
    refine (cf c ((k:Int)+2) _ hn).mono ?_;rintro e w5 ⟨rfl,a1⟩;rw [V.out.1,V.out.2];have a8:=hide (W.out.call a1);have c8:=hide (b1.out.below a1 om);have e0:w4.heap.size≤w5.heap.size:=a1.size;clear q0 q1 q2 q3 q4 q5 q6 q7 q8 q9 F G H I;clear a1;go_wp2_with ((at_builtin;refine wpList_append_own _ rfl _ _ 93 rfl Bo 45 i0 (.agg #[.int .i64 0,.int .i64 0]) 2 16 Tryz.underlying93 hi cr cs cy rfl ag _ _ _ rfl (a8.out.2.2.2.1.alloc _) ⟨w5,0,none⟩ 1 1 [.int .i64 (F0),.int .i64 (E0)] rfl rfl ?c1a ?c2a ?c3a ?c4a ?c5a ?_))
    case c1a =>
     intro i u f
     match i,f with
     | 0,f=>simp at f;subst f;simp [Addr.add]
     | 1,f=>simp at f;subst f;simp [Addr.add]
     | i+2,f=>simp at f
    case c2a=>intro u f;simp at f;rcases f with rfl | rfl <;> rfl
    case c3a=>unfold maxLen;omega
    case c4a=>omega
    case c5a=>have:=a8.out.2.2.1;simp;omega
    ·intro v' w' E o _
     have HG:=hide (a8.out.grow (a:=F0) (b:=E0) _ (by rw [a2];exact E) o);have a7:=hide (c8.out.below HG.out.2 cp);clear E o;go_wp2;go_roundw
     case rel =>
      obtain ⟨e1,e2⟩:=bt.out k;refine ⟨k+1,by go_num,?_,by omega,?_,a7.out⟩
      ·rw [e1,e2,bl.out]
      ·rw [e1,ay.out,aq.out,O.out (by rw [← ay.out];exact e2)];exact HG.out.1
     case measure=>simp [intOf];omega
   ·have bb:k+1=N:=om
    have b9:Q0=4:=by rw [← b8];exact c7.out k bb
    subst b9;have et:=hide bb;have eS:((k:Int)+1==(N:Int))=true:=ae;have eN:(N:Int)≤(k:Int)+1:=om;clear bb;go_wp2_with ((at_builtin;refine wpList_append_own _ rfl _ _ 93 rfl Bo 45 i0 (.agg #[.int .i64 0,.int .i64 0]) 2 16 Tryz.underlying93 hi cr cs cy rfl ag _ _ _ rfl (W.out.2.2.2.1.alloc _) ⟨w4,0,none⟩ 1 1 [.int .i64 (F0),.int .i64 (E0)] rfl rfl ?c1z ?c2z ?c3z ?c4z ?c5z ?_))
    case c1z =>
     intro i u f
     match i,f with
     | 0,f=>simp at f;subst f;simp [Addr.add]
     | 1,f=>simp at f;subst f;simp [Addr.add]
     | i+2,f=>simp at f
    case c2z=>intro u f;simp at f;rcases f with rfl | rfl <;> rfl
    case c3z=>unfold maxLen;omega
    case c4z=>omega
    case c5z=>have:=W.out.2.2.1;simp;omega
    ·intro v' w' E o _
     have HG:=hide (W.out.grow (a:=F0) (b:=E0) _ (by rw [a2];exact E) o);have a7:=hide (b1.out.below HG.out.2 cp);clear E o;go_wp2;go_roundw
     case rel =>
      obtain ⟨e1,e2⟩:=bt.out k;refine ⟨k+1,by go_num,?_,by omega,?_,a7.out⟩
      ·rw [e1,e2,bl.out]
      ·rw [e1,ay.out,aq.out,O.out (by rw [← ay.out];exact e2)];exact HG.out.1
     case measure=>simp [intOf];omega
  ·obtain rfl:k=N:=om
   have hl:(bm (mp c 4 y) (jq 4 k k)).length=aR c y 4:=by rw [bk,a5.out]
   have ad:=HS.out.2.2.2.1;rw [hl] at ad;obtain ⟨g1,b4,rfl,cb,_,eD,bd⟩:=fu ad om;rw [← a5.out,← HC.out] at bd;have O:=hide bd;have ea:=HS.out.2.2.2.2;have d3:w.heap.size≤g1:=by have:=HS.out.2.1;omega
   obtain ⟨F0,R⟩:∃ X,aM c y (ce k 4 (jq 4 k k))=X:=⟨_,rfl⟩;rw [R];clear ad bd hl R;go_wp2
   all_goals first
    | (exfalso;omega)
    | (go_ret2;exact ⟨g1,b4,rfl,d3,cb,O.out,by (repeat' exact bel)⟩)
end
end Go.Proofs.YtjhhmeoibfdcmaaGreat
