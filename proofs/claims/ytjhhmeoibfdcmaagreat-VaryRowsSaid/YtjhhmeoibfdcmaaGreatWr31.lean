/- Lemmas. -/
import Derived.Test.YtjhhmeoibfdcmaaGreatWr30
set_option linter.unusedSimpArgs false
set_option linter.unusedVariables false
set_option maxRecDepth 100000
set_option maxHeartbeats 12800000
namespace Go.Proofs.YtjhhmeoibfdcmaaGreat
section
open Go.RowKit Qd
theorem ze (c:ar) (y:Int) (w:World) (hn:c.name.size≤1000) (hE:aI c 2 y=0) :
  Calls Tryz.prog 64 #[av c,.int .i64 2,y] w (lG c 2 y w):=by
 obtain ⟨ek,ba,_,_,e6,e7,hA⟩:=a9 hE;obtain ⟨el,F⟩:=ln hA;have dd:=hide (show co c=0 by simp [co,ba]);have eb:=fs c y hA;have a8:=ch c y hA;have bc:=hide (fun k=>vN hA k);have aB:=hide (fun k=>il c y hA k);have dq:=hide (fun k=>dM c y hA k);have c8:=hide (fun k=>bM c y k);have c7:=hide (fun k=>(show (bi c y)[k]?.getD 0=bJ c y k from rfl));have bw:=hide (show aM c y 0=ax c y by simp [aM]);have b8:=hide (fun j k=>oF (c:=c) (y:=y) (lv:=2) hA om (j:=j) (k:=k));have HC:=hide (show (iT c 2 y)=bm (mp c 2 y) (aR c y 2) from rfl);have eL:=dv c y hA 2;have bb:=hide (show aR c y 2=jq 2 (aU c y) (aU c y) by have h:=If F;simp [aR,h]);obtain ⟨N,hN⟩:∃ N,aU c y=N:=⟨_,rfl⟩;have HN:=hide (show (bi c y).length=N from hN);have d7:12≤N∧N≤52:=om;obtain ⟨cr,eB⟩:=d7;rw [hN] at F bc;have b5:=hide (fun k (h:k<N)=>uJ F h);have dY:=hide (fun k (h:k+1=N)=>pG F h);rw [hN] at b8 bb;have bX:=hide (Ho F 2);have ds:=hide (fun k (h:k≤N)=>(zu F h).2.1);have b1:=hide (fun k (h:k<N)=>Ft F h);have b0:=hide (fun k (h:k+1<N)=>I1 F h);obtain ⟨D,hD⟩:∃ D,ax c y=D:=⟨_,rfl⟩;rw [hD] at aB bw a8;have HD:=hide hD;have HA:=hide hA;have eF:0≤D∧D≤3068037:=⟨a8.1,a8.2.1⟩;obtain ⟨i0,hi,cM,cS,c1⟩:=info_parts gy;clear ek ba el hE hA a8 hD eb F hN;simp only [av];go_enter Tryz.func64,Tryz.ntmps64;go_wp2_with fail;refine (aH c _ hn).mono ?_;rintro e w1 ⟨rfl,a1⟩;rw [dd.out];have e8:w.heap.size<w1.heap.size:=aj a1;have c4:Hid (Below w w w1):=ww a1;have b2:=hide (aa a1 ac (au w c));obtain ⟨q0,q1,q2,q3,q4,q5,q6,q7,q8,q9,G,H,I,O⟩:=b2.out;clear a1;go_wp2_with fail
 all_goals first
  | (exfalso;omega)
  | skip
 refine (bO c y _ hn).mono ?_;rintro e w2 ⟨rfl,a2⟩;rw [HA.out,HD.out];have e9:w.heap.size<w2.heap.size:=aj a2;have c5:Hid (Below w w w2):=ao c4.out a2;have b3:Hid (aG w2 w c):=by have hp:=b2.out;exact qq a2
 clear q0 q1 q2 q3 q4 q5 q6 q7 q8 q9 G H I O;obtain ⟨q0,q1,q2,q3,q4,q5,q6,q7,q8,q9,G,H,I,O⟩:=b3.out;clear a2;go_wp2_with fail;refine (fF c y _ hn HA.out).mono ?_;rintro e w3 ⟨v,rfl,hv,a3⟩;obtain ⟨g,cap,rfl,aA⟩:=hv;rw [HN.out] at aA ⊢;have b7:=hide (i7 aA);have eS:g<w3.heap.size:=b7.out.1;clear aA;have fa:w.heap.size<w3.heap.size:=aj a3;have c6:Hid (Below w w w3):=ao c5.out a3;have b4:Hid (aG w3 w c):=by have hp:=b3.out;exact qq a3
 clear q0 q1 q2 q3 q4 q5 q6 q7 q8 q9 G H I O;obtain ⟨q0,q1,q2,q3,q4,q5,q6,q7,q8,q9,G,H,I,O⟩:=b4.out;clear a3;obtain ⟨Bo,d1⟩:∃ B,B=w3.heap.size:=⟨_,rfl⟩;have d0:=hide (show gd c w.heap.size Bo [] (.slice none 0 0) w w3 from ⟨b4.out,by omega,by omega,World.ownsRow_nil _ _ _ _,c6.out⟩);have cI:g<Bo:=om;clear d1;go_wp2_with fail;go_loopw [9,13,54] (fun s9 em es wr=>∃ k:Nat,es=.int .i64 k∧s9=.int .i64 (aM c y (ce N 2 (jq 2 N k)))∧k≤N∧gd c w.heap.size Bo (bm (mp c 2 y) (jq 2 N k)) em w wr∧xT wr g (bi c y)) (fun _ _ s _=>(60-intOf s).toNat)
 case atStart=>exact ⟨0,rfl,by rw [bX.out];simp [ce,bw.out],by omega,by rw [bX.out];exact d0.out,b7.out⟩
 case round =>
  obtain ⟨k,rfl,rfl,hk,hS,hR⟩:=hrel;have HS:=hide hS;have HR:=hide hR;clear hS hR;clear q0 q1 q2 q3 q4 q5 q6 q7 q8 q9 G H I O;by_cases aq:k<N
  ·have c0:=HR.out.2 k (by have:=HN.out;omega)
   rw [c7.out k] at c0;have hp:=dq.out k (by have:=HN.out;omega);have c3:=ds.out k hk;have al:=aB.out (ce N 2 (jq 2 N k)) (by have:=HN.out;omega);have cy:=aB.out (k+1) (by have:=HN.out;omega);have cE:=aB.out k (by have:=HN.out;omega);have bl:=c8.out k;have d9:jq 2 N k≤N:=by
    have:jq 2 N k≤ce N 2 (jq 2 N k):=by
     simp only [ce];simp;try (first | exact Nat.le_mul_of_pos_left _ om | omega)
     all_goals
      have:=Nat.le_mul_of_pos_left (jq 2 N k) (show 0<N by omega);have h4:12*(jq 2 N k)≤N*(jq 2 N k):=Nat.mul_le_mul_right _ cr
      first | omega | (rw [show N*(2*jq 2 N k)=2*(N*jq 2 N k) by rw [Nat.mul_left_comm]];omega)
    omega
   have a7:(bm (mp c 2 y) (jq 2 N k)).length=jq 2 N k:=bk _ _;have aF:=hide (bB (mp c 2 y) (jq 2 N k));have S:=hide (b8.out (jq 2 N k) k aq c3);obtain ⟨J,hJ⟩:∃ J,jq 2 N k=J:=⟨_,rfl⟩;rw [hJ] at HS a7 aF S c3 al d9;rw [hJ];obtain ⟨F0,T⟩:∃ X,aM c y (ce N 2 J)=X:=⟨_,rfl⟩;obtain ⟨E0,cb⟩:∃ X,bJ c y k=X:=⟨_,rfl⟩;rw [T] at al S;rw [T];rw [cb] at c0 bl S hp;have HF:=hide T;have cc:0≤E0∧E0≤3080000:=om;have cl:0≤F0∧F0≤3080000:=om;obtain ⟨ew,ex⟩:=cc;obtain ⟨ey,eA⟩:=cl;have bx:=hide (show aM c y (k+1)=E0+1 from bl);obtain ⟨U,hU⟩:∃ U,bm (mp c 2 y) J=U:=⟨_,rfl⟩;rw [hU] at HS aF a7;have b9:=hide hU;clear hU bl al cy cE hp T cb;have eU:(0:Int)≤(k:Int):=om;have e0:(k:Int)<(N:Int):=om;have R:=hide hJ;clear hJ;obtain ⟨q0,q1,q2,q3,q4,q5,q6,q7,q8,q9,G,H,I,O⟩:=HS.out.1;have eE:=HS.out.2.1;have eD:=HS.out.2.2.1;have V:=hide (bc.out k aq);obtain ⟨d2,d3⟩:=b5.out k aq;obtain ⟨Q0,ah⟩:∃ Q:Nat,qN N k=Q:=⟨_,rfl⟩;rw [ah] at V d2 d3;go_wp2_with fail;refine (cf c ((k:Int)+1) _ hn).mono ?_;rintro e w4 ⟨rfl,a4⟩;rw [V.out.1,V.out.2];have ab:=hide (HS.out.call a4);have b6:=hide (HR.out.below a4 om);have e4:wr.heap.size≤w4.heap.size:=a4.size;clear q0 q1 q2 q3 q4 q5 q6 q7 q8 q9 G H I O;obtain ⟨q0,q1,q2,q3,q4,q5,q6,q7,q8,q9,G,H,I,O⟩:=ab.out.1;clear a4;by_cases a6:k+1<N
   ·skip
    have W:=hide (show qV c ((k:Int)+2)=(qN N (k+1):Int)∧qE c ((k:Int)+2)=0 from by
     have h:=bc.out (k+1) a6
     rwa [show (((k+1:Nat):Int)+1)=(k:Int)+2 by omega] at h)
    obtain ⟨d4,d5⟩:=b5.out (k+1) a6;obtain ⟨X0,a0⟩:∃ Q:Nat,qN N (k+1)=Q:=⟨_,rfl⟩;rw [a0] at W d4 d5;go_wp2_with fail
    all_goals first
     | (exfalso;omega)
     | skip
    refine (cf c ((k:Int)+2) _ hn).mono ?_;rintro e w5 ⟨rfl,a5⟩;rw [W.out.1,W.out.2];have ad:=hide (ab.out.call a5);have bh:=hide (b6.out.below a5 om);have e5:w4.heap.size≤w5.heap.size:=a5.size;clear q0 q1 q2 q3 q4 q5 q6 q7 q8 q9 G H I O;clear a5;by_cases hb:Q0<X0
    ·have d6:(Q0:Int)<(X0:Int):=om
     by_cases hm:Q0 % 2=0
     ·have ea:((Q0:Int) % 2==0)=true:=ae
      have HM:=hide hm;clear hm;go_wp2_with ((at_builtin;refine wpList_append_own _ rfl _ _ 93 rfl Bo 45 i0 (.agg #[.int .i64 0,.int .i64 0]) 2 16 Tryz.underlying93 hi cM cS c1 rfl ag _ _ _ rfl (ad.out.2.2.2.1.alloc _) ⟨w5,0,none⟩ 1 1 [.int .i64 (F0),.int .i64 (E0)] rfl rfl ?c1a ?c2a ?c3a ?c4a ?c5a ?_))
      case c1a =>
       intro i u f
       match i,f with
       | 0,f=>simp at f;subst f;simp [Addr.add]
       | 1,f=>simp at f;subst f;simp [Addr.add]
       | i+2,f=>simp at f
      case c2a=>intro u f;simp at f;rcases f with rfl | rfl <;> rfl
      case c3a=>unfold maxLen;omega
      case c4a=>omega
      case c5a=>have:=ad.out.2.2.1;simp;omega
      ·intro v' w' E o _
       have HG:=hide (ad.out.grow (a:=F0) (b:=E0) _ (by rw [a7];exact E) o);have bd:=hide (bh.out.below HG.out.2 cI);clear E o;go_wp2;go_roundw
       case rel =>
        obtain ⟨e1,e2⟩:=b1.out k aq (.inr (by rw [ah,a0];exact ⟨hb,HM.out⟩));refine ⟨k+1,by go_num,?_,by omega,?_,bd.out⟩
        ·rw [e1,e2,bx.out]
        ·rw [e1,R.out,aF.out,S.out (by rw [← R.out];exact e2)];exact HG.out.1
       case measure=>simp [intOf];omega
     ·have ea:((Q0:Int) % 2==0)=false:=ae
      have c2:((k:Int)+1==(N:Int))=false:=ae;have HM:=hide hm;clear hm;go_wp2
      all_goals first
       | (exfalso;omega)
       | skip
      go_roundw
      case rel =>
       have e1:=b0.out k a6 (by rw [ah,a0];exact fun h=>HM.out h.2);exact ⟨k+1,by go_num,by rw [e1,R.out,HF.out],by omega,by rw [e1,R.out,b9.out];exact ad.out,bh.out⟩
      case measure=>simp [intOf];omega
    ·have d6:(X0:Int)≤(Q0:Int):=om
     have c2:((k:Int)+1==(N:Int))=false:=ae;go_wp2
     all_goals first
      | (exfalso;omega)
      | skip
     go_roundw
     case rel =>
      have e1:=b0.out k a6 (by rw [ah,a0];exact fun h=>hb h.1);exact ⟨k+1,by go_num,by rw [e1,R.out,HF.out],by omega,by rw [e1,R.out,b9.out];exact ad.out,bh.out⟩
     case measure=>simp [intOf];omega
   ·have bp:k+1=N:=om
    have cp:Q0=4:=by rw [← ah];exact dY.out k bp
    subst cp;have c9:=hide bp;have c2:((k:Int)+1==(N:Int))=true:=ae;have e3:(N:Int)≤(k:Int)+1:=om;clear bp;go_wp2_with ((at_builtin;refine wpList_append_own _ rfl _ _ 93 rfl Bo 45 i0 (.agg #[.int .i64 0,.int .i64 0]) 2 16 Tryz.underlying93 hi cM cS c1 rfl ag _ _ _ rfl (ab.out.2.2.2.1.alloc _) ⟨w4,0,none⟩ 1 1 [.int .i64 (F0),.int .i64 (E0)] rfl rfl ?c1z ?c2z ?c3z ?c4z ?c5z ?_))
    case c1z =>
     intro i u f
     match i,f with
     | 0,f=>simp at f;subst f;simp [Addr.add]
     | 1,f=>simp at f;subst f;simp [Addr.add]
     | i+2,f=>simp at f
    case c2z=>intro u f;simp at f;rcases f with rfl | rfl <;> rfl
    case c3z=>unfold maxLen;omega
    case c4z=>omega
    case c5z=>have:=ab.out.2.2.1;simp;omega
    ·intro v' w' E o _
     have HG:=hide (ab.out.grow (a:=F0) (b:=E0) _ (by rw [a7];exact E) o);have bd:=hide (b6.out.below HG.out.2 cI);clear E o;go_wp2;go_roundw
     case rel =>
      obtain ⟨e1,e2⟩:=b1.out k aq (.inl c9.out);refine ⟨k+1,by go_num,?_,by omega,?_,bd.out⟩
      ·rw [e1,e2,bx.out]
      ·rw [e1,R.out,aF.out,S.out (by rw [← R.out];exact e2)];exact HG.out.1
     case measure=>simp [intOf];omega
  ·obtain rfl:k=N:=om
   have hl:(bm (mp c 2 y) (jq 2 k k)).length=aR c y 2:=by rw [bk,bb.out]
   have ay:=HS.out.2.2.2.1;rw [hl] at ay;obtain ⟨g1,ca,rfl,cs,_,eN,bt⟩:=fu ay om;rw [← bb.out,← HC.out] at bt;have S:=hide bt;have et:=HS.out.2.2.2.2;have d8:w.heap.size≤g1:=by have:=HS.out.2.1;omega
   obtain ⟨F0,T⟩:∃ X,aM c y (ce k 2 (jq 2 k k))=X:=⟨_,rfl⟩;rw [T];clear ay bt hl T;go_wp2
   all_goals first
    | (exfalso;omega)
    | (go_ret2;exact ⟨g1,ca,rfl,d8,cs,S.out,by (repeat' exact bel)⟩)
theorem yT (c:ar) (y:Int) (w:World) (hn:c.name.size≤1000) (hE:aI c 3 y=0) :
  Calls Tryz.prog 64 #[av c,.int .i64 3,y] w (lG c 3 y w):=by
 obtain ⟨eb,a7,_,_,e5,e6,hA⟩:=a9 hE;obtain ⟨ek,F⟩:=ln hA;have c8:=hide (show co c=0 by simp [co,a7]);have ea:=fs c y hA;have a6:=ch c y hA;have ba:=hide (fun k=>vN hA k);have ay:=hide (fun k=>il c y hA k);have c9:=hide (fun k=>dM c y hA k);have c5:=hide (fun k=>bM c y k);have c4:=hide (fun k=>(show (bi c y)[k]?.getD 0=bJ c y k from rfl));have bt:=hide (show aM c y 0=ax c y by simp [aM]);have b7:=hide (fun j k=>oF (c:=c) (y:=y) (lv:=3) hA om (j:=j) (k:=k));have HC:=hide (show (iT c 3 y)=bm (mp c 3 y) (aR c y 3) from rfl);have eF:=dv c y hA 3;have a8:=hide (show aR c y 3=jq 3 (aU c y) (aU c y) by have h:=If F;simp [aR,h]);obtain ⟨N,hN⟩:∃ N,aU c y=N:=⟨_,rfl⟩;have HN:=hide (show (bi c y).length=N from hN);have d6:12≤N∧N≤52:=om;obtain ⟨cl,eA⟩:=d6;rw [hN] at F ba;have b3:=hide (fun k (h:k<N)=>uJ F h);have dq:=hide (fun k (h:k+1=N)=>pG F h);rw [hN] at b7 a8;have bx:=hide (Ho F 3);have dd:=hide (fun k (h:k≤N)=>(zu F h).2.2.1);have bX:=hide (fun k (h:k<N)=>Eg F h);have c6:=hide (fun k (h:k+1<N)=>Jk F h);obtain ⟨D,hD⟩:∃ D,ax c y=D:=⟨_,rfl⟩;rw [hD] at ay bt a6;have HD:=hide hD;have HA:=hide hA;have eE:0≤D∧D≤3068037:=⟨a6.1,a6.2.1⟩;obtain ⟨i0,hi,cE,cI,cM⟩:=info_parts gy;clear eb a7 ek hE hA a6 hD ea F hN;simp only [av];go_enter Tryz.func64,Tryz.ntmps64;go_wp2_with fail;refine (aH c _ hn).mono ?_;rintro e w1 ⟨rfl,a0⟩;rw [c8.out];have e7:w.heap.size<w1.heap.size:=aj a0;have c1:Hid (Below w w w1):=ww a0;have b0:=hide (aa a0 ac (au w c));obtain ⟨q0,q1,q2,q3,q4,q5,q6,q7,q8,q9,G,H,I,O⟩:=b0.out;clear a0;go_wp2_with fail
 all_goals first
  | (exfalso;omega)
  | skip
 refine (bO c y _ hn).mono ?_;rintro e w2 ⟨rfl,a1⟩;rw [HA.out,HD.out];have e8:w.heap.size<w2.heap.size:=aj a1;have c2:Hid (Below w w w2):=ao c1.out a1;have b1:Hid (aG w2 w c):=by have hp:=b0.out;exact qq a1
 clear q0 q1 q2 q3 q4 q5 q6 q7 q8 q9 G H I O;obtain ⟨q0,q1,q2,q3,q4,q5,q6,q7,q8,q9,G,H,I,O⟩:=b1.out;clear a1;go_wp2_with fail;refine (fF c y _ hn HA.out).mono ?_;rintro e w3 ⟨v,rfl,hv,a2⟩;obtain ⟨g,cap,rfl,aq⟩:=hv;rw [HN.out] at aq ⊢;have b6:=hide (i7 aq);have eN:g<w3.heap.size:=b6.out.1;clear aq;have e9:w.heap.size<w3.heap.size:=aj a2;have c3:Hid (Below w w w3):=ao c2.out a2;have b2:Hid (aG w3 w c):=by have hp:=b1.out;exact qq a2
 clear q0 q1 q2 q3 q4 q5 q6 q7 q8 q9 G H I O;obtain ⟨q0,q1,q2,q3,q4,q5,q6,q7,q8,q9,G,H,I,O⟩:=b2.out;clear a2;obtain ⟨Bo,d0⟩:∃ B,B=w3.heap.size:=⟨_,rfl⟩;have ds:=hide (show gd c w.heap.size Bo [] (.slice none 0 0) w w3 from ⟨b2.out,by omega,by omega,World.ownsRow_nil _ _ _ _,c3.out⟩);have cy:g<Bo:=om;clear d0;go_wp2_with fail;go_loopw [9,13,54] (fun s9 el em wr=>∃ k:Nat,em=.int .i64 k∧s9=.int .i64 (aM c y (ce N 3 (jq 3 N k)))∧k≤N∧gd c w.heap.size Bo (bm (mp c 3 y) (jq 3 N k)) el w wr∧xT wr g (bi c y)) (fun _ _ s _=>(60-intOf s).toNat)
 case atStart=>exact ⟨0,rfl,by rw [bx.out];simp [ce,bt.out],by omega,by rw [bx.out];exact ds.out,b6.out⟩
 case round =>
  obtain ⟨k,rfl,rfl,hk,hS,hR⟩:=hrel;have HS:=hide hS;have HR:=hide hR;clear hS hR;clear q0 q1 q2 q3 q4 q5 q6 q7 q8 q9 G H I O;by_cases ah:k<N
  ·have c0:=HR.out.2 k (by have:=HN.out;omega)
   rw [c4.out k] at c0;have hp:=c9.out k (by have:=HN.out;omega);have cS:=dd.out k hk;have ad:=ay.out (ce N 3 (jq 3 N k)) (by have:=HN.out;omega);have cr:=ay.out (k+1) (by have:=HN.out;omega);have cs:=ay.out k (by have:=HN.out;omega);have bd:=c5.out k;have d8:jq 3 N k≤N:=by
    have:jq 3 N k≤ce N 3 (jq 3 N k):=by
     simp only [ce];simp;try (first | exact Nat.le_mul_of_pos_left _ om | omega)
     all_goals
      have:=Nat.le_mul_of_pos_left (jq 3 N k) (show 0<N by omega);have h4:12*(jq 3 N k)≤N*(jq 3 N k):=Nat.mul_le_mul_right _ cl
      first | omega | (rw [show N*(2*jq 3 N k)=2*(N*jq 3 N k) by rw [Nat.mul_left_comm]];omega)
    omega
   have a5:(bm (mp c 3 y) (jq 3 N k)).length=jq 3 N k:=bk _ _;have aB:=hide (bB (mp c 3 y) (jq 3 N k));have R:=hide (b7.out (jq 3 N k) k ah cS);obtain ⟨J,hJ⟩:∃ J,jq 3 N k=J:=⟨_,rfl⟩;rw [hJ] at HS a5 aB R cS ad d8;rw [hJ];obtain ⟨F0,S⟩:∃ X,aM c y (ce N 3 J)=X:=⟨_,rfl⟩;obtain ⟨E0,b9⟩:∃ X,bJ c y k=X:=⟨_,rfl⟩;rw [S] at ad R;rw [S];rw [b9] at c0 bd R hp;have HF:=hide S;have ca:0≤E0∧E0≤3080000:=om;have cb:0≤F0∧F0≤3080000:=om;obtain ⟨et,ew⟩:=ca;obtain ⟨ex,ey⟩:=cb;have bw:=hide (show aM c y (k+1)=E0+1 from bd);obtain ⟨U,hU⟩:∃ U,bm (mp c 3 y) J=U:=⟨_,rfl⟩;rw [hU] at HS aB a5;have dY:=hide hU;clear hU bd ad cr cs hp S b9;have eS:(0:Int)≤(k:Int):=om;have eU:(k:Int)<(N:Int):=om;have T:=hide hJ;clear hJ;obtain ⟨q0,q1,q2,q3,q4,q5,q6,q7,q8,q9,G,H,I,O⟩:=HS.out.1;have eD:=HS.out.2.1;have eB:=HS.out.2.2.1;have V:=hide (ba.out k ah);obtain ⟨d1,d2⟩:=b3.out k ah;obtain ⟨Q0,aF⟩:∃ Q:Nat,qN N k=Q:=⟨_,rfl⟩;rw [aF] at V d1 d2;go_wp2_with fail;refine (cf c ((k:Int)+1) _ hn).mono ?_;rintro e w4 ⟨rfl,a3⟩;rw [V.out.1,V.out.2];have ab:=hide (HS.out.call a3);have b4:=hide (HR.out.below a3 om);have e3:wr.heap.size≤w4.heap.size:=a3.size;clear q0 q1 q2 q3 q4 q5 q6 q7 q8 q9 G H I O;obtain ⟨q0,q1,q2,q3,q4,q5,q6,q7,q8,q9,G,H,I,O⟩:=ab.out.1;clear a3;by_cases bl:k+1<N
   ·skip
    have W:=hide (show qV c ((k:Int)+2)=(qN N (k+1):Int)∧qE c ((k:Int)+2)=0 from by
     have h:=ba.out (k+1) bl
     rwa [show (((k+1:Nat):Int)+1)=(k:Int)+2 by omega] at h)
    obtain ⟨d3,d4⟩:=b3.out (k+1) bl;obtain ⟨X0,bc⟩:∃ Q:Nat,qN N (k+1)=Q:=⟨_,rfl⟩;rw [bc] at W d3 d4;go_wp2_with fail
    all_goals first
     | (exfalso;omega)
     | skip
    refine (cf c ((k:Int)+2) _ hn).mono ?_;rintro e w5 ⟨rfl,a4⟩;rw [W.out.1,W.out.2];have aA:=hide (ab.out.call a4);have b5:=hide (b4.out.below a4 om);have e4:w4.heap.size≤w5.heap.size:=a4.size;clear q0 q1 q2 q3 q4 q5 q6 q7 q8 q9 G H I O;clear a4;by_cases hb:Q0<X0
    ·have d5:(Q0:Int)<(X0:Int):=om
     go_wp2_with ((at_builtin;refine wpList_append_own _ rfl _ _ 93 rfl Bo 45 i0 (.agg #[.int .i64 0,.int .i64 0]) 2 16 Tryz.underlying93 hi cE cI cM rfl ag _ _ _ rfl (aA.out.2.2.2.1.alloc _) ⟨w5,0,none⟩ 1 1 [.int .i64 (F0),.int .i64 (E0)] rfl rfl ?c1a ?c2a ?c3a ?c4a ?c5a ?_))
     case c1a =>
      intro i u f
      match i,f with
      | 0,f=>simp at f;subst f;simp [Addr.add]
      | 1,f=>simp at f;subst f;simp [Addr.add]
      | i+2,f=>simp at f
     case c2a=>intro u f;simp at f;rcases f with rfl | rfl <;> rfl
     case c3a=>unfold maxLen;omega
     case c4a=>omega
     case c5a=>have:=aA.out.2.2.1;simp;omega
     ·intro v' w' E o _
      have HG:=hide (aA.out.grow (a:=F0) (b:=E0) _ (by rw [a5];exact E) o);have bb:=hide (b5.out.below HG.out.2 cy);clear E o;go_wp2;go_roundw
      case rel =>
       obtain ⟨e1,e2⟩:=bX.out k ah (.inr (by rw [aF,bc];exact hb));refine ⟨k+1,by go_num,?_,by omega,?_,bb.out⟩
       ·rw [e1,e2,bw.out]
       ·rw [e1,T.out,aB.out,R.out (by rw [← T.out];exact e2)];exact HG.out.1
      case measure=>simp [intOf];omega
    ·have d5:(X0:Int)≤(Q0:Int):=om
     have d9:((k:Int)+1==(N:Int))=false:=ae;go_wp2
     all_goals first
      | (exfalso;omega)
      | skip
     go_roundw
     case rel =>
      have e1:=c6.out k bl (by rw [aF,bc];exact hb);exact ⟨k+1,by go_num,by rw [e1,T.out,HF.out],by omega,by rw [e1,T.out,dY.out];exact aA.out,b5.out⟩
     case measure=>simp [intOf];omega
   ·have bh:k+1=N:=om
    have cc:Q0=4:=by rw [← aF];exact dq.out k bh
    subst cc;have c7:=hide bh;have d9:((k:Int)+1==(N:Int))=true:=ae;have e0:(N:Int)≤(k:Int)+1:=om;clear bh;go_wp2_with ((at_builtin;refine wpList_append_own _ rfl _ _ 93 rfl Bo 45 i0 (.agg #[.int .i64 0,.int .i64 0]) 2 16 Tryz.underlying93 hi cE cI cM rfl ag _ _ _ rfl (ab.out.2.2.2.1.alloc _) ⟨w4,0,none⟩ 1 1 [.int .i64 (F0),.int .i64 (E0)] rfl rfl ?c1z ?c2z ?c3z ?c4z ?c5z ?_))
    case c1z =>
     intro i u f
     match i,f with
     | 0,f=>simp at f;subst f;simp [Addr.add]
     | 1,f=>simp at f;subst f;simp [Addr.add]
     | i+2,f=>simp at f
    case c2z=>intro u f;simp at f;rcases f with rfl | rfl <;> rfl
    case c3z=>unfold maxLen;omega
    case c4z=>omega
    case c5z=>have:=ab.out.2.2.1;simp;omega
    ·intro v' w' E o _
     have HG:=hide (ab.out.grow (a:=F0) (b:=E0) _ (by rw [a5];exact E) o);have bb:=hide (b4.out.below HG.out.2 cy);clear E o;go_wp2;go_roundw
     case rel =>
      obtain ⟨e1,e2⟩:=bX.out k ah (.inl c7.out);refine ⟨k+1,by go_num,?_,by omega,?_,bb.out⟩
      ·rw [e1,e2,bw.out]
      ·rw [e1,T.out,aB.out,R.out (by rw [← T.out];exact e2)];exact HG.out.1
     case measure=>simp [intOf];omega
  ·obtain rfl:k=N:=om
   have hl:(bm (mp c 3 y) (jq 3 k k)).length=aR c y 3:=by rw [bk,a8.out]
   have al:=HS.out.2.2.2.1;rw [hl] at al;obtain ⟨g1,b8,rfl,cp,_,eL,bp⟩:=fu al om;rw [← a8.out,← HC.out] at bp;have R:=hide bp;have es:=HS.out.2.2.2.2;have d7:w.heap.size≤g1:=by have:=HS.out.2.1;omega
   obtain ⟨F0,S⟩:∃ X,aM c y (ce k 3 (jq 3 k k))=X:=⟨_,rfl⟩;rw [S];clear al bp hl S;go_wp2
   all_goals first
    | (exfalso;omega)
    | (go_ret2;exact ⟨g1,b8,rfl,d7,cp,R.out,by (repeat' exact bel)⟩)
end
end Go.Proofs.YtjhhmeoibfdcmaaGreat
