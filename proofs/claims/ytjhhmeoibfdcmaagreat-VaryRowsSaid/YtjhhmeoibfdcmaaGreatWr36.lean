/- Lemmas. -/
import Derived.Test.YtjhhmeoibfdcmaaGreatWr19
import Derived.Test.YtjhhmeoibfdcmaaGreatWr30
set_option linter.unusedSimpArgs false
set_option linter.unusedVariables false
set_option maxRecDepth 100000
set_option maxHeartbeats 12800000
namespace Go.Proofs.YtjhhmeoibfdcmaaGreat
section
open Go.RowKit
def ge (a n:Int) (ws:List Int):List Int:=ws.map fun x=>a*x % n
theorem zM {a n:Int} {ws:List Int} {i:Nat} {x:Int} (h:ws[i]?=some x):(ge a n ws)[i]?=some (a*x % n):=by simp [ge,h]
theorem pF (a n:Int) (ws:List Int):(ge a n ws).length=ws.length:=by simp [ge]
def uv (l:List Int) (T:List Pt):List Int:=T.foldl (fun l p=>l.set p.pos.toNat (-1)) l
theorem Dl (l:List Int) (T:List Pt) (p:Pt):uv l (T++[p])=(uv l T).set p.pos.toNat (-1):=by simp [uv]
theorem Gj (l:List Int) (T:List Pt):(uv l T).length=l.length:=by
 induction T generalizing l with
 | nil=>rfl
 | cons p T f=>simp only [uv,List.foldl_cons] at f ⊢;rw [f];simp
theorem Gz (l:List Int) (T:List Pt) (i:Nat) (x:Int) (h:l[i]?=some x):(uv l T)[i]?=some (if T.any (fun p=>p.pos.toNat==i) then -1 else x):=by
 induction T generalizing l x with
 | nil=>simp [uv,h]
 | cons p T G =>
  have F:=(List.getElem?_eq_some_iff.1 h).1;have E:(l.set p.pos.toNat (-1))[i]?=some (if p.pos.toNat=i then -1 else x):=by
   rw [List.getElem?_set];by_cases f:p.pos.toNat=i
   ·rw [if_pos f,if_pos f,if_pos om]
   ·rw [if_neg f,if_neg f,h]
  have o:=G _ _ E;simp only [uv,List.foldl_cons] at o ⊢;rw [o,List.any_cons];by_cases f:p.pos.toNat=i
  ·simp [f]
  ·simp [f]
def ji (l:List Int) (k b:Nat):Prop:=(b<k∨(k=0∧b=0))∧∀ i,i<k→l.getD i 0<l.getD b 0∨(l.getD i 0=l.getD b 0∧b≤i)
theorem AF (l:List Int):ji l 0 0:=⟨.inr ⟨rfl,rfl⟩,fun i hi=>by omega⟩
theorem AV {l:List Int} {k b:Nat} (h:ji l k b) (E:l.getD b 0<l.getD k 0):ji l (k+1) k:=by
 refine ⟨.inl om,fun i hi=>?_⟩;rcases Nat.lt_or_ge i k with f | f
 ·rcases h.2 i f with o | o <;> (left;omega)
 ·have:i=k:=om
  subst this;right;omega
theorem CL {l:List Int} {k b:Nat} (h:ji l k b) (F:¬ l.getD b 0<l.getD k 0):ji l (k+1) b:=by
 refine ⟨.inl (by rcases h.1 with f | f <;> omega),fun i hi=>?_⟩;rcases Nat.lt_or_ge i k with f | f
 ·exact h.2 i f
 ·have:i=k:=om
  subst this;by_cases o:l.getD i 0<l.getD b 0
  ·exact .inl o
  ·right
   refine ⟨by omega,?_⟩;rcases h.1 with E | E <;> omega
theorem BC {l:List Int} {k b c:Nat} (h:ji l k b) (g:ji l k c) (G:0<k):b=c:=by
 have o:b<k:=by rcases h.1 with f | f <;> omega
 have E:c<k:=by rcases g.1 with f | f <;> omega
 have f:=h.2 c E;have F:=g.2 b o;omega
theorem Ci {a n:Int} {ws:List Int} {S:List Pt} (h:iX (gz a n ws) S) {j k:Nat} {p q:Pt} (G:S[j]?=some p) (H:S[k]?=some q) (F:p.pos=q.pos):j=k:=by
 obtain ⟨f,rfl⟩:=List.getElem?_eq_some_iff.1 G;obtain ⟨o,rfl⟩:=List.getElem?_eq_some_iff.1 H;have e:=tx ((fO h).1 (List.getElem_mem f)) ((fO h).1 (List.getElem_mem o)) F;rcases Nat.lt_trichotomy j k with E | E | E
 ·have:=List.pairwise_iff_getElem.1 h.2 j k f o E
  rw [e] at this;unfold Pt.lt at this;omega
 ·exact E
 ·have:=List.pairwise_iff_getElem.1 h.2 k j o f E
  rw [e] at this;unfold Pt.lt at this;omega
theorem GH {a n:Int} {ws:List Int} {S:List Pt} (T:0<n) (h:iX (gz a n ws) S) {t:Nat} {p:Pt} (G:S[t]?=some p):ji (uv (ge a n ws) (S.take t)) ws.length p.pos.toNat:=by
 have O:=(fO h).1 (List.mem_of_getElem? G);obtain ⟨ad,ah,al,aq⟩:=kR T O;have I:∀ (k:Nat) (q:Pt),S[k]?=some q→(uv (ge a n ws) (S.take t)).getD q.pos.toNat 0=if k<t then -1 else q.ab:=by
  intro k q f;have F:=(fO h).1 (List.mem_of_getElem? f);obtain ⟨q0,q1,q2,q3⟩:=kR T F;obtain ⟨i,hi,e⟩:=List.getElem_of_mem F;obtain ⟨x,U,e2⟩:=zw (show (gz a n ws)[i]?=some q by rw [List.getElem?_eq_getElem hi,e]);subst e2;simp only [Int.toNat_natCast];rw [List.getD_eq_getElem?_getD,Gz _ _ i _ (zM U),Option.getD_some];congr 1;apply propext;rw [List.any_eq_true];constructor
  ·rintro ⟨r,hr,H⟩
   obtain ⟨j,hj,rfl⟩:=List.getElem_of_mem hr;rw [List.length_take] at hj;rw [List.getElem_take] at H;have R:=(fO h).1 (List.getElem_mem (show j<S.length by omega));have hb:=kR T R;have:=Ci h (List.getElem?_eq_getElem (show j<S.length by omega)) f (by simp at H;simp only;omega);omega
  ·intro J
   refine ⟨_,List.mem_take_iff_getElem.2 ⟨k,by have:=(List.getElem?_eq_some_iff.1 f).1;omega,rfl⟩,?_⟩;have:=(List.getElem?_eq_some_iff.1 f).2;rw [this];simp
 refine ⟨.inl om,fun i hi=>?_⟩;obtain ⟨x,U⟩:∃ x,ws[i]?=some x:=⟨_,List.getElem?_eq_getElem hi⟩;obtain ⟨k,J,V⟩:=List.getElem_of_mem ((fO h).2 (List.mem_of_getElem? (yz (a:=a) (n:=n) U)));have f:S[k]?=some ⟨(i:Int),a*x % n⟩:=by rw [List.getElem?_eq_getElem J,V]
 have v1:=I k _ f;have v2:=I t p G;simp only [Int.toNat_natCast] at v1;rw [v1,v2,if_neg (show ¬ t<t by omega)];rcases Nat.lt_trichotomy k t with E | E | E
 ·rw [if_pos E];left;omega
 ·subst E
  rw [f] at G;cases G;rw [if_neg om];right;simp
 ·rw [if_neg om]
  have W:=(List.getElem?_eq_some_iff.1 G);have o:=List.pairwise_iff_getElem.1 h.2 t k W.1 J E;rw [W.2,V] at o;unfold Pt.lt at o;simp only at o;rcases o with o | o
  ·left;exact o
  ·right;omega
end
section
open Go.RowKit Qd
theorem xV (c:ar) (y:Int) (w:World) (hn:c.name.size≤1000) (hE:aI c 5 y=0) :
  Calls Tryz.prog 64 #[av c,.int .i64 5,y] w (lG c 5 y w):=by
 obtain ⟨ex,bt,_,_,fn,fr,hA⟩:=a9 hE;obtain ⟨ey,bc⟩:=ln hA;have dY:=hide (show co c=0 by simp [co,bt]);have ew:=fs c y hA;have bd:=ch c y hA;have bw:=hide (fun k=>vN hA k);have b8:=hide (fun k=>il c y hA k);have d0:=hide (fun k=>dM c y hA k);have ds:=hide (fun k=>bM c y k);have dq:=hide (fun k=>(show (bi c y)[k]?.getD 0=bJ c y k from rfl));have b7:=hide (show aM c y 0=ax c y by simp [aM]);have HC:=hide (He hA);have b6:=hide (qD c y);have HP:=hide (fun k=>lD c y hA k);have dd:=hide (fun k m (h:k≤m)=>lF c y h);have c4:=di c y hA;have a1:=hide (show bW c y=ci c y (aU c y) from rfl);have bl:=hide (show oY c y=gM c y (aU c y) from rfl);obtain ⟨N,hN⟩:∃ N,aU c y=N:=⟨_,rfl⟩;have HN:=hide (show (bi c y).length=N from hN);have ek:12≤N∧N≤52:=om;obtain ⟨eS,eU⟩:=ek;rw [hN] at bc bw;have cl:=hide (fun k (h:k<N)=>uJ bc h);have e2:=hide (fun k (h:k+1=N)=>pG bc h);rw [hN] at a1 bl HP;rw [a1.out] at c4;obtain ⟨e0,e1⟩:=c4;obtain ⟨D,hD⟩:∃ D,ax c y=D:=⟨_,rfl⟩;rw [hD] at b8 b7 bd;have HD:=hide hD;have HA:=hide hA;have e5:0≤D∧D≤3068037:=⟨bd.1,bd.2.1⟩;obtain ⟨i0,hi,a8,ba,bb⟩:=info_parts gy;clear ex bt ey hE hA bd hD ew bc hN;simp only [av];go_enter Tryz.func64,Tryz.ntmps64;go_wp2_with fail;refine (aH c _ hn).mono ?_;rintro e w1 ⟨rfl,a2⟩;rw [dY.out];have fv:w.heap.size<w1.heap.size:=aj a2;have c6:Hid (Below w w w1):=ww a2;have ca:=hide (aa a2 ac (au w c));obtain ⟨q0,q1,q2,q3,q4,q5,q6,q7,q8,q9,G,H,I,J⟩:=ca.out;clear a2;go_wp2_with fail
 all_goals first
  | (exfalso;omega)
  | skip
 refine (bO c y _ hn).mono ?_;rintro e w2 ⟨rfl,a3⟩;rw [HA.out,HD.out];have fz:w.heap.size<w2.heap.size:=aj a3;have c7:Hid (Below w w w2):=ao c6.out a3;have cb:Hid (aG w2 w c):=by have hp:=ca.out;exact qq a3
 clear q0 q1 q2 q3 q4 q5 q6 q7 q8 q9 G H I J;obtain ⟨q0,q1,q2,q3,q4,q5,q6,q7,q8,q9,G,H,I,J⟩:=cb.out;clear a3;go_wp2_with fail;refine (fF c y _ hn HA.out).mono ?_;rintro e w3 ⟨v,rfl,hv,a4⟩;obtain ⟨g,cap,rfl,aF⟩:=hv;rw [HN.out] at aF ⊢;have cr:=hide (i7 aF);have e8:g<w3.heap.size:=cr.out.1;clear aF;have fA:w.heap.size<w3.heap.size:=aj a4;have c8:Hid (Below w w w3):=ao c7.out a4;have cc:Hid (aG w3 w c):=by have hp:=cb.out;exact qq a4
 clear q0 q1 q2 q3 q4 q5 q6 q7 q8 q9 G H I J;obtain ⟨q0,q1,q2,q3,q4,q5,q6,q7,q8,q9,G,H,I,J⟩:=cc.out;clear a4;obtain ⟨Bo,d4⟩:∃ B,B=w3.heap.size:=⟨_,rfl⟩;have d2:=hide (show gd c w.heap.size Bo [] (.slice none 0 0) w w3 from ⟨cc.out,by omega,by omega,World.ownsRow_nil _ _ _ _,c8.out⟩);have a7:g<Bo:=om;clear d4;go_wp2_with fail;go_loopw [9,13,54] (fun s9 a0 eB wr=>∃ k:Nat,eB=.int .i64 k∧s9=.int .i64 (aM c y k)∧k≤N∧gd c w.heap.size Bo (gM c y k) a0 w wr∧xT wr g (bi c y)) (fun _ _ s _=>(60-intOf s).toNat)
 case atStart=>exact ⟨0,rfl,by rw [b7.out],by omega,d2.out,cr.out⟩
 case round =>
  obtain ⟨k,rfl,rfl,hk,hS,hR⟩:=hrel;have HS:=hide hS;have HR:=hide hR;clear hS hR;clear q0 q1 q2 q3 q4 q5 q6 q7 q8 q9 G H I J;by_cases b3:k<N
  ·have c0:=HR.out.2 k (by have:=HN.out;omega)
   rw [dq.out k] at c0;have hp:=d0.out k (by have:=HN.out;omega);have bp:=b8.out k (by have:=HN.out;omega);have b2:=ds.out k;have b5:=HP.out k b3;have T:((oZ c y k:Nat):Int)=(bJ c y k-aM c y k) / 7+1:=by unfold oZ jr;omega
   have b0:=hide (fun j=>(show (gM c y k++bm (gu c y k) j).length=ci c y k+j by simp [jH,bk]));have b1:=dd.out (k+1) N om;have c9:=hide (show ci c y (k+1)=ci c y k+oZ c y k from rfl);rw [c9.out] at b1;have bX:=hide (show gM c y (k+1)=gM c y k++bm (gu c y k) (oZ c y k) from rfl);have ad:=hide (fun j:Nat=>(show gu c y k j=(aM c y k+7*(j:Int),min (aM c y k+7*(j:Int)+6) (bJ c y k)) from rfl));have cy:=hide (fun j:Nat=>(show gM c y k++bm (gu c y k) (j+1)=(gM c y k++bm (gu c y k) j)++[gu c y k j] by rw [bB,List.append_assoc]));obtain ⟨F,ah⟩:∃ X,aM c y k=X:=⟨_,rfl⟩;obtain ⟨R,cM⟩:∃ X,bJ c y k=X:=⟨_,rfl⟩;obtain ⟨M,hM⟩:∃ X,oZ c y k=X:=⟨_,rfl⟩;obtain ⟨C0,cI⟩:∃ X,ci c y k=X:=⟨_,rfl⟩;rw [ah] at bp hp T ad;rw [ah];rw [cM] at c0 b2 hp T ad;rw [hM] at b5 T b1 bX;rw [cI] at b1 b0;have cS:0≤R∧R≤3080000:=om;have c1:0≤F∧F≤3080000:=om;obtain ⟨eE,eF⟩:=cS;obtain ⟨eL,eN⟩:=c1;have b9:=hide (show aM c y (k+1)=R+1 from b2);have e6:M≤6:=b5.2;have bh:=hide T;clear b2 bp hp ah cM hM cI b5 T;have e9:(0:Int)≤(k:Int):=om;have fa:(k:Int)<(N:Int):=om;obtain ⟨q0,q1,q2,q3,q4,q5,q6,q7,q8,q9,G,H,I,J⟩:=HS.out.1;have e4:=HS.out.2.1;have e3:=HS.out.2.2.1;have al:=hide (bw.out k b3);obtain ⟨d7,d8⟩:=cl.out k b3;obtain ⟨Q0,d6⟩:∃ Q:Nat,qN N k=Q:=⟨_,rfl⟩;rw [d6] at al d7 d8;go_wp2_with fail;refine (cf c ((k:Int)+1) _ hn).mono ?_;rintro e w4 ⟨rfl,a5⟩;rw [al.out.1,al.out.2];have bx:=hide (HS.out.call a5);have cp:=hide (HR.out.below a5 om);have fd:wr.heap.size≤w4.heap.size:=a5.size;clear q0 q1 q2 q3 q4 q5 q6 q7 q8 q9 G H I J;obtain ⟨q0,q1,q2,q3,q4,q5,q6,q7,q8,q9,G,H,I,J⟩:=bx.out.1;clear a5;by_cases c3:k+1<N
   ·skip
    have aq:=hide (show qV c ((k:Int)+2)=(qN N (k+1):Int)∧qE c ((k:Int)+2)=0 from by
     have h:=bw.out (k+1) c3
     rwa [show (((k+1:Nat):Int)+1)=(k:Int)+2 by omega] at h)
    obtain ⟨ea,eb⟩:=cl.out (k+1) c3;obtain ⟨X0,d9⟩:∃ Q:Nat,qN N (k+1)=Q:=⟨_,rfl⟩;rw [d9] at aq ea eb;go_wp2_with fail
    all_goals first
     | (exfalso;omega)
     | skip
    refine (cf c ((k:Int)+2) _ hn).mono ?_;rintro e w5 ⟨rfl,a6⟩;rw [aq.out.1,aq.out.2];have cs:=hide (bx.out.call a6);have d1:=hide (cp.out.below a6 om);have fi:w4.heap.size≤w5.heap.size:=a6.size;clear q0 q1 q2 q3 q4 q5 q6 q7 q8 q9 G H I J;clear a6;obtain ⟨q0,q1,q2,q3,q4,q5,q6,q7,q8,q9,G,H,I,J⟩:=cs.out.1;obtain ⟨wo,eA⟩:∃ wo:World,wo=w5:=⟨_,rfl⟩;clear q0 q1 q2 q3 q4 q5 q6 q7 q8 q9 G H I J;go_wp2_with fail
    all_goals first
     | (exfalso;omega)
     | skip
    go_loopw [9,13] (fun s9 a0 wr=>∃ j:Nat,s9=.int .i64 (F+7*(j:Int))∧j≤M∧gd c w.heap.size Bo (gM c y k++bm (gu c y k) j) a0 w wr∧xT wr g (bi c y)) (fun s9 _ _=>(R+7-intOf s9).toNat)
    case atStart=>exact ⟨0,by simp,Nat.zero_le _,by simpa [bm] using cs.out,d1.out⟩
    case round =>
     clear c0;obtain ⟨j,rfl,hj,hS,hR⟩:=hrel;have S:=hide hS;have HU:=hide hR;have d5:=hS.2.2.1;clear hS hR;have W:=bh.out;have ab:=b0.out j;obtain ⟨U,hU⟩:∃ U,gM c y k++bm (gu c y k) j=U:=⟨_,rfl⟩;rw [hU] at S ab;have ay:=hide hU;clear hU;by_cases es:j<M
     ·have et:F+7*(j:Int)≤R:=om
      have O:=hide (cy.out j);rw [ay.out] at O;rcases (show R<F+7*(j:Int)+6∨F+7*(j:Int)+6≤R by omega) with aA | aA
      ·have HV:=hide (show gu c y k j=(F+7*(j:Int),R) by rw [ad.out];congr 1;omega)
       clear W;go_wp2_with ((at_builtin;refine wpList_append_own _ rfl _ _ 93 rfl Bo 45 i0 (.agg #[.int .i64 0,.int .i64 0]) 2 16 Tryz.underlying93 hi a8 ba bb rfl ag _ _ _ rfl (S.out.2.2.2.1.alloc _) ⟨wr,0,none⟩ 1 1 [.int .i64 (F+7*(j:Int)),.int .i64 (R)] rfl rfl ?c1ax ?c2ax ?c3ax ?c4ax ?c5ax ?_))
       case c1ax =>
        intro i u f
        match i,f with
        | 0,f=>simp at f;subst f;simp [Addr.add]
        | 1,f=>simp at f;subst f;simp [Addr.add]
        | i+2,f=>simp at f
       case c2ax=>intro u f;simp at f;rcases f with rfl | rfl <;> rfl
       case c3ax=>unfold maxLen;omega
       case c4ax=>omega
       case c5ax=>have:=S.out.2.2.1;simp;omega
       ·intro v' w' E o _
        have HG:=hide (S.out.grow (a:=F+7*(j:Int)) (b:=R) _ (by rw [ab];exact E) o);have V:=hide (HU.out.below HG.out.2 a7);clear E o;go_wp2;go_roundw
        case rel=>exact ⟨j+1,by go_num,by omega,by rw [O.out,HV.out];exact HG.out.1,V.out⟩
        case measure=>simp [intOf];omega
      ·have HV:=hide (show gu c y k j=(F+7*(j:Int),F+7*(j:Int)+6) by rw [ad.out];congr 1;omega)
       clear W;go_wp2_with ((at_builtin;refine wpList_append_own _ rfl _ _ 93 rfl Bo 45 i0 (.agg #[.int .i64 0,.int .i64 0]) 2 16 Tryz.underlying93 hi a8 ba bb rfl ag _ _ _ rfl (S.out.2.2.2.1.alloc _) ⟨wr,0,none⟩ 1 1 [.int .i64 (F+7*(j:Int)),.int .i64 (F+7*(j:Int)+6)] rfl rfl ?c1ay ?c2ay ?c3ay ?c4ay ?c5ay ?_))
       case c1ay =>
        intro i u f
        match i,f with
        | 0,f=>simp at f;subst f;simp [Addr.add]
        | 1,f=>simp at f;subst f;simp [Addr.add]
        | i+2,f=>simp at f
       case c2ay=>intro u f;simp at f;rcases f with rfl | rfl <;> rfl
       case c3ay=>unfold maxLen;omega
       case c4ay=>omega
       case c5ay=>have:=S.out.2.2.1;simp;omega
       ·intro v' w' E o _
        have HG:=hide (S.out.grow (a:=F+7*(j:Int)) (b:=F+7*(j:Int)+6) _ (by rw [ab];exact E) o);have V:=hide (HU.out.below HG.out.2 a7);clear E o;go_wp2;go_roundw
        case rel=>exact ⟨j+1,by go_num,by omega,by rw [O.out,HV.out];exact HG.out.1,V.out⟩
        case measure=>simp [intOf];omega
     ·have el:R<F+7*(j:Int):=om
      obtain rfl:j=M:=om;clear W;go_wp2
      all_goals first
       | (exfalso;omega)
       | skip
      refine ⟨⟨k+1,by go_num,by rw [b9.out],by omega,by rw [bX.out,ay.out];exact S.out,HU.out⟩,by simp [intOf];omega⟩
   ·have fb:(N:Int)≤(k:Int)+1:=om
    obtain ⟨wo,eA⟩:∃ wo:World,wo=w4:=⟨_,rfl⟩;clear q0 q1 q2 q3 q4 q5 q6 q7 q8 q9 G H I J;go_wp2_with fail
    all_goals first
     | (exfalso;omega)
     | skip
    go_loopw [9,13] (fun s9 a0 wr=>∃ j:Nat,s9=.int .i64 (F+7*(j:Int))∧j≤M∧gd c w.heap.size Bo (gM c y k++bm (gu c y k) j) a0 w wr∧xT wr g (bi c y)) (fun s9 _ _=>(R+7-intOf s9).toNat)
    case atStart=>exact ⟨0,by simp,Nat.zero_le _,by simpa [bm] using bx.out,cp.out⟩
    case round =>
     clear c0;obtain ⟨j,rfl,hj,hS,hR⟩:=hrel;have S:=hide hS;have HU:=hide hR;have d5:=hS.2.2.1;clear hS hR;have W:=bh.out;have ab:=b0.out j;obtain ⟨U,hU⟩:∃ U,gM c y k++bm (gu c y k) j=U:=⟨_,rfl⟩;rw [hU] at S ab;have ay:=hide hU;clear hU;by_cases es:j<M
     ·have et:F+7*(j:Int)≤R:=om
      have O:=hide (cy.out j);rw [ay.out] at O;rcases (show R<F+7*(j:Int)+6∨F+7*(j:Int)+6≤R by omega) with aA | aA
      ·have HV:=hide (show gu c y k j=(F+7*(j:Int),R) by rw [ad.out];congr 1;omega)
       clear W;go_wp2_with ((at_builtin;refine wpList_append_own _ rfl _ _ 93 rfl Bo 45 i0 (.agg #[.int .i64 0,.int .i64 0]) 2 16 Tryz.underlying93 hi a8 ba bb rfl ag _ _ _ rfl (S.out.2.2.2.1.alloc _) ⟨wr,0,none⟩ 1 1 [.int .i64 (F+7*(j:Int)),.int .i64 (R)] rfl rfl ?c1bx ?c2bx ?c3bx ?c4bx ?c5bx ?_))
       case c1bx =>
        intro i u f
        match i,f with
        | 0,f=>simp at f;subst f;simp [Addr.add]
        | 1,f=>simp at f;subst f;simp [Addr.add]
        | i+2,f=>simp at f
       case c2bx=>intro u f;simp at f;rcases f with rfl | rfl <;> rfl
       case c3bx=>unfold maxLen;omega
       case c4bx=>omega
       case c5bx=>have:=S.out.2.2.1;simp;omega
       ·intro v' w' E o _
        have HG:=hide (S.out.grow (a:=F+7*(j:Int)) (b:=R) _ (by rw [ab];exact E) o);have V:=hide (HU.out.below HG.out.2 a7);clear E o;go_wp2;go_roundw
        case rel=>exact ⟨j+1,by go_num,by omega,by rw [O.out,HV.out];exact HG.out.1,V.out⟩
        case measure=>simp [intOf];omega
      ·have HV:=hide (show gu c y k j=(F+7*(j:Int),F+7*(j:Int)+6) by rw [ad.out];congr 1;omega)
       clear W;go_wp2_with ((at_builtin;refine wpList_append_own _ rfl _ _ 93 rfl Bo 45 i0 (.agg #[.int .i64 0,.int .i64 0]) 2 16 Tryz.underlying93 hi a8 ba bb rfl ag _ _ _ rfl (S.out.2.2.2.1.alloc _) ⟨wr,0,none⟩ 1 1 [.int .i64 (F+7*(j:Int)),.int .i64 (F+7*(j:Int)+6)] rfl rfl ?c1by ?c2by ?c3by ?c4by ?c5by ?_))
       case c1by =>
        intro i u f
        match i,f with
        | 0,f=>simp at f;subst f;simp [Addr.add]
        | 1,f=>simp at f;subst f;simp [Addr.add]
        | i+2,f=>simp at f
       case c2by=>intro u f;simp at f;rcases f with rfl | rfl <;> rfl
       case c3by=>unfold maxLen;omega
       case c4by=>omega
       case c5by=>have:=S.out.2.2.1;simp;omega
       ·intro v' w' E o _
        have HG:=hide (S.out.grow (a:=F+7*(j:Int)) (b:=F+7*(j:Int)+6) _ (by rw [ab];exact E) o);have V:=hide (HU.out.below HG.out.2 a7);clear E o;go_wp2;go_roundw
        case rel=>exact ⟨j+1,by go_num,by omega,by rw [O.out,HV.out];exact HG.out.1,V.out⟩
        case measure=>simp [intOf];omega
     ·have el:R<F+7*(j:Int):=om
      obtain rfl:j=M:=om;clear W;go_wp2
      all_goals first
       | (exfalso;omega)
       | skip
      refine ⟨⟨k+1,by go_num,by rw [b9.out],by omega,by rw [bX.out,ay.out];exact S.out,HU.out⟩,by simp [intOf];omega⟩
  ·obtain rfl:k=N:=om
   have hl:(gM c y k).length=aR c y 5:=by rw [jH,b6.out,a1.out]
   have aB:=HS.out.2.2.2.1;have c5:0<aR c y 5:=by rw [b6.out,a1.out];omega
   rw [hl] at aB;obtain ⟨g1,cE,rfl,c2,_,e7,b4⟩:=fu aB c5;rw [← bl.out,← HC.out] at b4;have d3:=hide b4;have eD:=HS.out.2.2.2.2;have em:w.heap.size≤g1:=by have:=HS.out.2.1;omega
   obtain ⟨F,ah⟩:∃ X,aM c y k=X:=⟨_,rfl⟩;rw [ah];clear aB b4 hl ah;go_wp2
   all_goals first
    | (exfalso;omega)
    | (go_ret2;exact ⟨g1,cE,rfl,em,c2,d3.out,by (repeat' exact bel)⟩)
end
end Go.Proofs.YtjhhmeoibfdcmaaGreat
