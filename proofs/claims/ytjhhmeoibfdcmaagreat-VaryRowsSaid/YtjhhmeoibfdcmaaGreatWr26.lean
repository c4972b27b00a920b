/- Lemmas. -/
import Derived.Test.YtjhhmeoibfdcmaaGreatWr24
import Derived.Test.YtjhhmeoibfdcmaaGreatWr25
set_option linter.unusedSimpArgs false
set_option linter.unusedVariables false
set_option maxRecDepth 100000
set_option maxHeartbeats 12800000
namespace Go.Proofs.YtjhhmeoibfdcmaaGreat
section
open Go.RowKit Go.Shelf Qd
attribute [local go_sem] Oper.semAt_some
theorem t6 {f:Array Value} {W:World} {h o:Nat} {v:Value} {e:Int} (I:f[6]?=some (.pointer (some ⟨h,0,none⟩))) (J:f[7]?=some (.pointer (some ⟨o,0,none⟩)))
  (G:ap W h #[v] 115) (H:ap W o #[e] 35) :
  (results Tryz.f192 f).run Tryz.prog W=.ok (.tuple #[v,e]) W:=by
 have E:=G.cell 0;have F:=H.cell 0;simp at E F;simp [results,Tryz.results192,go_sem,I,J,E,F]
def kO (c:ar) (u:Un) (t:Int) (B:Nat) (w:World):Prop:=ap w B (bY c) 24∧ap w (B+1) #[u.lv,u.yr,u.ix] 26∧ap w (B+2) #[t] 3∧ap w (B+3) #[.slice none 0 0] 115∧ap w (B+4) #[.int .i64 0] 35
theorem kO.call {c:ar} {u:Un} {t:Int} {B:Nat} {w o:World} (h:kO c u t B w) (f:Below w w o):kO c u t B o:=⟨h.1.call f,h.2.1.call f,h.2.2.1.call f,h.2.2.2.1.call f,h.2.2.2.2.call f⟩
theorem kO.below {c:ar} {u:Un} {t:Int} {B K:Nat} {w o:World} (h:kO c u t B w) (f:Below K w o) (E:B+4<K):kO c u t B o:=⟨h.1.below f om,h.2.1.below f om,h.2.2.1.below f om,h.2.2.2.1.below f om,h.2.2.2.2.below f om⟩
theorem kO.alloc {c:ar} {u:Un} {t:Int} {B:Nat} {w:World} (h:kO c u t B w) (o:Obj):kO c u t B (w.alloc o):=⟨h.1.alloc o,h.2.1.alloc o,h.2.2.1.alloc o,h.2.2.2.1.alloc o,h.2.2.2.2.alloc o⟩
theorem kO.lt {c:ar} {u:Un} {t:Int} {B:Nat} {w:World} (h:kO c u t B w):B+4<w.heap.size:=h.2.2.2.2.lt
theorem kO.un {c:ar} {u:Un} {t:Int} {B:Nat} {w:World} (h:kO c u t B w):(w.cell? ⟨B+1,0,none⟩=some (.int .i64 u.lv)∧w.cell? ⟨B+1,1,none⟩=some (.int .i64 u.yr)∧w.cell? ⟨B+1,2,none⟩=some (.int .i64 u.ix))∧w.cell? ⟨B+2,0,none⟩=some (.int .i64 t):=⟨⟨h.2.1.cell 0,h.2.1.cell 1,h.2.1.cell 2⟩,h.2.2.1.cell 0⟩
theorem EB (c:ar) (u:Un) (t:Int) (w:World):kO c u t w.heap.size (((((w.alloc (.cells (bY c) 24)).alloc (.cells #[u.lv,u.yr,u.ix] 26)).alloc (.cells #[t] 3)).alloc (.cells #[.slice none 0 0] 115)).alloc (.cells #[.int .i64 0] 35)):=by
 refine ⟨((((ap.new w _ _).alloc _).alloc _).alloc _).alloc _,?_,?_,?_,?_⟩
 ·have:=(((ap.new (w.alloc (.cells (bY c) 24)) #[u.lv,u.yr,u.ix] 26).alloc (.cells #[t] 3)).alloc (.cells #[.slice none 0 0] 115)).alloc (.cells #[.int .i64 0] 35)
  simpa using this
 ·have:=((ap.new ((w.alloc (.cells (bY c) 24)).alloc (.cells #[u.lv,u.yr,u.ix] 26)) #[t] 3).alloc (.cells #[.slice none 0 0] 115)).alloc (.cells #[.int .i64 0] 35)
  simpa using this
 ·have:=(ap.new (((w.alloc (.cells (bY c) 24)).alloc (.cells #[u.lv,u.yr,u.ix] 26)).alloc (.cells #[t] 3)) #[.slice none 0 0] 115).alloc (.cells #[.int .i64 0] 35)
  simpa using this
 ·have:=ap.new ((((w.alloc (.cells (bY c) 24)).alloc (.cells #[u.lv,u.yr,u.ix] 26)).alloc (.cells #[t] 3)).alloc (.cells #[.slice none 0 0] 115)) #[.int .i64 0] 35
  simpa using this
theorem E5 {β:Type} (c:ar) (u:Un) (t:Int) (B:Nat):Own (fun (_:β) W=>kO c u t B W):=fun s X Y E h f o=>⟨dV h.1 f o,dV h.2.1 f o,dV h.2.2.1 f o,dV h.2.2.2.1 f o,dV h.2.2.2.2 f o⟩
theorem Mc (w:World) (o:Obj):(w.alloc o).heap.size=w.heap.size+1:=ac
theorem tO (c:ar) (u:Un) (t:Int) (w:World) (hn:c.name.size≤1000) (hU:aE c u=0) (U:c.kind≠6) (ht:dp c t) :
  Calls Tryz.prog 192 #[av c,aC u,t] w fun e w'=>∃ v,e=.returned (.tuple #[v,.int .i64 0])∧zH w' v (cZ c u.yr t (dS c u))∧Below w w w':=by
 have hf:=(bN hU).1;have hA:=(bN hU).2.2.2.1;obtain ⟨d2,hk,_,_,aB,aF,_⟩:=a9 hf;have b3:=dz hU;have b5:=di c _ hA;have d7:(bW c u.yr:Int)=aL c u.yr:=li hk U ⟨aB,aF⟩;have bc:=hide (show ∀ x:Int,1≤x→x≤bW c u.yr→(eI c u.yr t x=0∨eI c u.yr t x=12)∧0≤fP c u.yr t x∧fP c u.yr t x≤60 from fun x h1 h2=>⟨EG hk U ⟨aB,aF⟩ ht ⟨h1,by omega⟩,Iy hk U ⟨aB,aF⟩ ht ⟨h1,by omega⟩⟩);have c4:=hide (show ∀ (n:Int) (w:World),0≤n→n≤60→Calls Tryz.prog 225 #[av c,t,.int .i64 n] w fun e w'=>e=.returned (.tuple #[aC (nz c t n),.int .i64 0])∧Below w w w' from fun n w h1 h2=>xG c t n w hn hk U ht om);have hd:=tp hU;have cl:dS c u=ij ⟨5,u.yr,(aT c u:Int)+1⟩ (bF c u-aT c u):=rfl;rw [cl];clear cl;obtain ⟨i0,hi,ds,dY,d0⟩:=info_parts fG;obtain ⟨A,bx⟩:∃ A,aT c u=A:=⟨_,rfl⟩;obtain ⟨B,b0⟩:∃ B,bF c u=B:=⟨_,rfl⟩;obtain ⟨N,b2⟩:∃ N,bW c u.yr=N:=⟨_,rfl⟩;rw [bx,b0] at hd b3 ⊢;rw [b2] at b3 bc b5;have HD:=hide hd;clear hd hU hf d2 hk aB aF ht hA U d7 bx b0 b2;simp only [av,aC];refine (callsIn_wide (n:=5)).1 ?_;refine callsIn_of_wp_marks Tryz.func192 rfl trivial ?_ rfl;simp only [Tryz.ntmps192,List.size_toArray,List.length_cons,List.length_nil,Nat.reduceAdd,Nat.reduceSub,Array.replicate_succ,Array.replicate_zero,List.push_toArray,List.append_toArray,List.nil_append,List.cons_append]
 gi_wp2_with fail
 have c0:=hide (EB c u t w);have cs:=hide (show Below w w (((((w.alloc (.cells (bY c) 24)).alloc (.cells #[u.lv,u.yr,u.ix] 26)).alloc (.cells #[t] 3)).alloc (.cells #[.slice none 0 0] 115)).alloc (.cells #[.int .i64 0] 35)) by (repeat' exact bel));refine ⟨trivial,(callsIn_wide.2 (gO c u 5 _ hn)).mono ?_⟩;rintro e H ⟨rfl,G⟩;rw [HD.out.1,HD.out.2.1,HD.out.2.2];simp only [aC];have bl:=hide (c0.out.call (by exact G));have cy:=hide (cs.out.trans (G.mono ae));clear G
 gi_wp2_with fail
 refine ⟨trivial,(m6 _ ⟨5,u.yr,(A:Int)+1⟩ ⟨5,u.yr,(B:Int)⟩ _).mono ?_⟩;rintro e w2 ⟨rfl,rfl⟩;simp only
 gi_wp2_with fail
 obtain ⟨W5,I⟩:∃ W5:World,W5=(((((H.alloc (.cells #[.int .i64 5,u.yr,.int .i64 ((A:Int)+1)] 26)).alloc (.cells #[.int .i64 5,u.yr,.int .i64 (B:Int)] 26)).alloc (.cells #[.slice none 0 0] 115)).alloc (.cells #[.int .i64 5,u.yr,.int .i64 ((A:Int)+1)] 26)).alloc (.cells #[.int .i64 5,u.yr,.int .i64 (B:Int)] 26)):=⟨_,rfl⟩;have eE:W5.heap.size=H.heap.size+5:=by rw [I];simp
 have s0:ap W5 (H+3) #[.int .i64 5,u.yr,.int .i64 ((A:Int)+1)] 26:=by
  rw [I];have:=(ap.new (((H.alloc (.cells #[.int .i64 5,u.yr,.int .i64 ((A:Int)+1)] 26)).alloc (.cells #[.int .i64 5,u.yr,.int .i64 (B:Int)] 26)).alloc (.cells #[.slice none 0 0] 115)) #[.int .i64 5,u.yr,.int .i64 ((A:Int)+1)] 26).alloc (.cells #[.int .i64 5,u.yr,.int .i64 (B:Int)] 26);simpa using this
 have s1:ap W5 (H+4) #[.int .i64 5,u.yr,.int .i64 (B:Int)] 26:=by
  rw [I];have:=ap.new ((((H.alloc (.cells #[.int .i64 5,u.yr,.int .i64 ((A:Int)+1)] 26)).alloc (.cells #[.int .i64 5,u.yr,.int .i64 (B:Int)] 26)).alloc (.cells #[.slice none 0 0] 115)).alloc (.cells #[.int .i64 5,u.yr,.int .i64 ((A:Int)+1)] 26)) #[.int .i64 5,u.yr,.int .i64 (B:Int)] 26;simpa using this
 have sO:Boxed W5 (H.heap.size+2) 115 (.slice none 0 0):=by
  rw [I];have:=((Boxed.new ((H.alloc (.cells #[.int .i64 5,u.yr,.int .i64 ((A:Int)+1)] 26)).alloc (.cells #[.int .i64 5,u.yr,.int .i64 (B:Int)] 26)) 115 (.slice none 0 0)).alloc (.cells #[.int .i64 5,u.yr,.int .i64 ((A:Int)+1)] 26)).alloc (.cells #[.int .i64 5,u.yr,.int .i64 (B:Int)] 26);simpa using this
 have c8:kO c u t w.heap.size W5:=by
  rw [I];exact ((((bl.out.alloc _).alloc _).alloc _).alloc _).alloc _
 have eL:w.heap.size+4<H.heap.size:=bl.out.lt;have c5:Below w w W5:=by
  have b1:=cy.out;rw [I];refine Below.alloc (Below.alloc (Below.alloc (Below.alloc (Below.alloc b1 ?_ _) ?_ _) ?_ _) ?_ _) ?_ _ <;> first | omega | (simp;omega)
 rw [← I];clear I;simp only [Mc]
 refine wpIn_rangeFunc_ownH (α:=Wk ⟨5,u.yr,(A:Int)+1⟩ (B-A)) rfl om (gf:=236) (lb:=#[.pointer (some ⟨H+3,0,none⟩),.pointer (some ⟨H+4,0,none⟩)]) rfl trivial (enters_of Tryz.func236 (by kernel_rfl) rfl)
  (jb ⟨5,u.yr,(A:Int)+1⟩ ⟨5,u.yr,(B:Int)⟩ (B-A) (by simp only;omega) (by simp only;omega) (H.heap.size+3) (H.heap.size+4) W5 s0 s1)
  da.trans (fun W l o o' _ h1 h2 _=>gF W l o o' h1 h2) (Below.refl _ _) (fun _=>rfl)
  (fun (f:List (Wk ⟨5,u.yr,(A:Int)+1⟩ (B-A))) W=>((∃ v,Boxed W (H.heap.size+2) 115 v∧W.ownsRow (H.heap.size+2) 26 3 v (cZ c u.yr t (cN f)).length (eG (cZ c u.yr t (cN f)))∧(v=.slice none 0 0↔cZ c u.yr t (cN f)=[]))∧kO c u t w.heap.size W)∧Below w w W)
  (fun _ _ _=>False)
  (OwnFrom.and (OwnFrom.and (Own.from (holdsRow_own (H.heap.size+2) (H.heap.size+2) _ _ 3 (fun (f:List (Wk ⟨5,u.yr,(A:Int)+1⟩ (B-A)))=>(cZ c u.yr t (cN f)).length) (fun f=>eG (cZ c u.yr t (cN f))) (fun f v=>v=.slice none 0 0↔cZ c u.yr t (cN f)=[])) _) (Own.from (E5 c u t w.heap.size) _)) (ownFrom_below (Nat.le_refl _) om))
  (fun _ _ _ _ _ hs _ _=>hs)
  ⟨⟨⟨_,sO,World.ownsRow_nil _ _ _ _,by simp [cN,cZ]⟩,c8⟩,c5⟩
  (KE (H.heap.size+2) ?a1) (fun x a'=>oQ _ _ x a' _)
  ?assign ?body ?done ?stop
 case assign =>
  rintro l f x W K ⟨⟨⟨v,hv,F,E⟩,k1⟩,hB⟩ hK;have O:=hide hK;clear hK;obtain ⟨Bx,ab⟩:∃ Bx,Bx=W.heap.size:=⟨_,rfl⟩;simp only [AG,aC]
  gi_wp2
  rw [← ab];have c6:=fun a' (h:a'=_)=>O.out a' _ ((KeepsOthers.alloc _ _).from _) (da.alloc _ _) ⟨⟨⟨v,hv.alloc _,F.alloc _,E⟩,k1.alloc _⟩,hB.alloc hB.size _⟩ ⟨Bx,by rw [ab];exact hv.lt,by rw [ab];exact ap.new W #[.int .i64 x.1.lv,.int .i64 x.1.yr,.int .i64 x.1.ix] 26,h⟩
  have c7:=c6 _ rfl;exact c7
 case body =>
  rintro l f ⟨x,d9⟩ a' W hl ⟨r,hr⟩ ⟨⟨⟨v,hv,F,E⟩,k1⟩,hB⟩ ⟨Bx,ab,bX,rfl⟩ ey;have cr:∃ j:Nat,j<B-A∧x=(⟨5,u.yr,(A:Int)+1+(j:Int)⟩:Un):=d9;obtain ⟨jx,ew,aA⟩:=cr;simp only at bX aA;have d8:x.ix=(A:Int)+1+jx:=by rw [aA]
  have b7:W.cell? ⟨Bx,2,none⟩=some (.int .i64 x.ix):=bX.cell 2;obtain ⟨q0,q1,q2,q3,q4,q5,q6,q7,q8,q9,a5,a6,a7,a8⟩:=k1.1.cal;obtain ⟨⟨u0,u1,u2⟩,tt⟩:=k1.un;have c9:=hB.size;have ay:=bc.out x.ix om om;have dq:=sU c u.yr t (cN f);rw [kB] at dq;have cS:=hide k1;have el:=hide aA;have eF:=hv.lt;have ex:=k1.lt;clear aA d8;simp only
  gi_wp2_with fail
  refine ⟨trivial,(callsIn_wide.2 (EA c u.yr t x.ix _ hn)).mono ?_⟩;rintro e W1 ⟨rfl,G⟩;have bw:=hide (qb hv G);have bp:=hide (rt F G);have S:=hide (cS.out.call G);have a3:=hide (oc G);have a2:=hide (da.below G);have a0:=hide (hB.trans (G.mono c9));have eB:=G.size;clear G u0 u1 u2 tt b7;clear q0 q1 q2 q3 q4 q5 q6 q7 q8 q9 a5 a6 a7 a8;obtain ⟨cE,ah⟩:∃ cE,eI c u.yr t x.ix=cE:=⟨_,rfl⟩;obtain ⟨nV,al⟩:∃ nV,fP c u.yr t x.ix=nV:=⟨_,rfl⟩;rw [ah,al] at ay;rw [ah,al];have bb:=hide ah;have c3:=hide al;clear ah al;rcases ay.1 with rfl | rfl
  ·obtain ⟨q0,q1,q2,q3,q4,q5,q6,q7,q8,q9,a5,a6,a7,a8⟩:=S.out.1.cal
   obtain ⟨⟨u0,u1,u2⟩,tt⟩:=S.out.un;have b9:=ay.2;clear ay
   gi_wp2_with fail
   refine ⟨trivial,(callsIn_wide.2 (c4.out nV _ b9.1 b9.2)).mono ?_⟩;rintro e W2 ⟨rfl,J⟩;have aq:=qb bw.out J;have R:=rt bp.out J;have c1:=hide (S.out.call J);have bh:=hide (a3.out.trans (oc J));have bd:=hide (a2.out.trans (da.below J));have ba:=hide (a0.out.trans (J.mono om));have eD:=J.size;clear J u0 u1 u2 tt;clear q0 q1 q2 q3 q4 q5 q6 q7 q8 q9 a5 a6 a7 a8;obtain ⟨p,hp⟩:∃ p,nz c t nV=p:=⟨_,rfl⟩;rw [hp];have HP:=hide hp;clear hp;simp only [aC];have eA:(cZ c u.yr t (cN f)).length+1≤2000000:=om;have ea:H.heap.size+2≤W2.heap.size:=om;have hc:W2.cell? ⟨H+1+1,0,none⟩=some v:=aq.cell;have eb:H.heap.size+1+1<W2.heap.size:=(Array.getElem?_eq_some_iff.1 (show W2.heap[H.heap.size+1+1]?=_ from aq)).1
   gi_wp2_with (gi_at_builtin;refine ee _ rfl _ _ 115 rfl (H.heap.size+2) 26 i0 (.agg #[.int .i64 0,.int .i64 0,.int .i64 0]) 3 24 Tryz.underlying115 hi ds dY d0 rfl ag _ _ _ rfl ((R.alloc (.cells #[.int .i64 p.lv,.int .i64 p.yr,.int .i64 p.ix] 26)).alloc (.cells #[.int .i64 p.lv,.int .i64 p.yr,.int .i64 p.ix] 26)) ⟨W2+1,0,none⟩ 1 1 [.int .i64 p.lv,.int .i64 p.yr,.int .i64 p.ix] rfl rfl (xj _ _ _ _ _ _) (by simp [Value.oneCell']) (by unfold maxLen;omega) om ae om ?_;intro v' w6 V T d3;obtain ⟨g',a4,rfl⟩:=ownsRow_succ V;obtain ⟨cb,d6,d5,d1,b4⟩:=(aq.alloc (.cells #[.int .i64 p.lv,.int .i64 p.yr,.int .i64 p.ix] 26)).appended ag (R.alloc (.cells #[.int .i64 p.lv,.int .i64 p.yr,.int .i64 p.ix] 26)) ae om V T;have es:=cb.cell;have et:=cb.frozen)
   have dd:=ug (v':=.slice (some ⟨g',0,none⟩) ((cZ c u.yr t (cN f)).length+1) a4) (aq.alloc (.cells #[.int .i64 p.lv,.int .i64 p.yr,.int .i64 p.ix] 26)) (R.alloc (.cells #[.int .i64 p.lv,.int .i64 p.yr,.int .i64 p.ix] 26)) (by rcases Nat.eq_zero_or_pos (cZ c u.yr t (cN f)).length with h | h;exact .inl (E.2 (List.length_eq_zero_iff.1 h));exact .inr h) T d3;have e1:cZ c u.yr t (cN f++[x])=cZ c u.yr t (cN f)++[p]:=by rw [gL _ bb.out,c3.out,HP.out]
   have b6:Below W2 W2 (W2.alloc (.cells #[.int .i64 p.lv,.int .i64 p.yr,.int .i64 p.ix] 26)):=(Below.refl _ _).alloc (Nat.le_refl _) _;refine ⟨((bh.out.trans (KeepsOthers.alloc _ _)).trans d1).from _,(bd.out.trans (da.alloc _ _)).trans dd,⟨⟨_,d6,?_,?_⟩,(c1.out.call b6).below b4 om⟩,(ba.out.trans (b6.mono om)).trans (b4.mono om)⟩
   ·rw [dP]
    simp only;rw [e1,gl];simpa using d5
   ·rw [dP]
    simp only;rw [e1];simp
  ·gi_wp2
   have e1:cZ c u.yr t (cN f++[x])=cZ c u.yr t (cN f):=ti _ (by rw [bb.out];decide);refine ⟨a3.out.from _,a2.out,⟨⟨v,bw.out,?_,?_⟩,S.out⟩,a0.out⟩
   ·rw [dP]
    simp only;rw [e1];exact bp.out
   ·rw [dP]
    simp only;rw [e1];exact E
 case done =>
  rintro D xs W hD cp ⟨⟨⟨v,hv,F,E⟩,k1⟩,hB⟩ hK;rw [show cN xs=ij ⟨5,u.yr,(A:Int)+1⟩ (B-A) from cp] at F E;clear cp;have hc:=hv.cell;have j1:ap W (w+1+1+1) #[.slice none 0 0] 115:=k1.2.2.2.1;have j2:ap W (w+1+1+1+1) #[.int .i64 0] 35:=k1.2.2.2.2;have m1:W.cell? ⟨w+1+1+1,0,none⟩=some (.slice none 0 0):=j1.cell 0;have m2:W.cell? ⟨w+1+1+1+1,0,none⟩=some (.int .i64 0):=j2.cell 0;have f1:W.frozen? ⟨w+1+1+1,0,none⟩=false:=by simp [World.frozen?,show W.heap[w.heap.size+1+1+1]?=_ from j1]
  have f2:W.frozen? ⟨w+1+1+1+1,0,none⟩=false:=by simp [World.frozen?,show W.heap[w.heap.size+1+1+1+1]?=_ from j2]
  have bt:=hide F;have c2:=hide E;have cI:=hide j1;have cM:=hide j2;have ek:=hide k1;clear F E hv j1 j2 k1;obtain ⟨ad,vn,vc,rfl⟩:∃ ad n cap,v=.slice ad n cap:=by
   rcases bt.out.2 with ⟨h1,_⟩ | ⟨g',a4,em,h1,_⟩
   ·exact ⟨_,_,_,h1⟩
   ·exact ⟨_,_,_,h1⟩
  gi_wp2
  have j1:=cI.out;have j2:=cM.out;have F:=bt.out;have E:=c2.out;have O:((W.setCell ⟨w+1+1+1,0,none⟩ (.slice ad vn vc)).setCell ⟨w+1+1+1+1,0,none⟩ (.int .i64 0)).heap[D]?=some (.deferred (some [])):=((KeepsOthers.setCell _ _ _).trans (KeepsOthers.setCell _ _ _)).same _ _ hK rfl;refine ⟨by simp,.inl ⟨_,_,rfl,run_takeDeferred O,?_⟩⟩;have b8:=grownBy_putObj' ((W.setCell ⟨w+1+1+1,0,none⟩ (.slice ad vn vc)).setCell ⟨w+1+1+1+1,0,none⟩ (.int .i64 0)) D (.deferred none);have i1:=dV ((j1.set0 (.slice ad vn vc)).far (p:=⟨w+1+1+1+1,0,none⟩) ac (.int .i64 0)) b8 (fun r e=>by cases e;exact ⟨_,O,rfl⟩);have i2:=dV ((j2.far (p:=⟨w+1+1+1,0,none⟩) ac (.slice ad vn vc)).set0 (.int .i64 0)) b8 (fun r e=>by cases e;exact ⟨_,O,rfl⟩);refine ⟨_,t6 rfl rfl i1 i2,.slice ad vn vc,rfl,?_,?_⟩
  ·refine tc (b:=0) (ownsRow_putObj ?_ _ O rfl) E
   have ca:=F.kept (grownBy_setCell' W (w.heap.size+1+1+1) (.slice ad vn vc)) (.inr (tg F j1));have d4:=ca.kept (grownBy_setCell' _ (w.heap.size+1+1+1+1) (.int .i64 0)) (.inr (tg ca (j2.far (p:=⟨w+1+1+1,0,none⟩) ac _)));exact d4.base (Nat.zero_le _)
  ·exact ((hB.setCell ae _).setCell ae _).trans (belowK_b (w:=w) (Nat.le_refl _) _ D _ _ om O rfl rfl)
 case stop =>
  rintro D cc f W _ _ h _;exact h.elim
end
section
open Go.RowKit Qd
def mx (R:List Sp):Int:=(R.map fun s=>s.b-s.a+1).sum
theorem Bq (R:List Sp) (s:Sp):mx (R++[s])=mx R+(s.b-s.a+1):=by simp [mx]
def mr (d:Int) (l:List Sp):Int:=match l.getLast? with | some p=>p.b | none=>d
theorem BO (d:Int):mr d []=d:=rfl
theorem xo (d:Int) (l:List Sp) (s:Sp):mr d (l++[s])=s.b:=by simp [mr]
theorem pk (f:Nat→Int) (j:Nat):dX f (j+1)=dX f j++[⟨f j,f (j+1)-1⟩]:=bB _ _
theorem i9 (f:Nat→Int) (j:Nat):(dX f j).length=j:=by
 induction j with
 | zero=>rfl
 | succ j h=>rw [pk,List.length_append,h];rfl
theorem vH (f:Nat→Int) (m j:Nat) (h:j≤m):(dX f m).take j=dX f j:=by
 obtain ⟨i,rfl⟩:=Nat.le.dest h;have e:dX f (j+i)=dX f j++bm (fun x=>(⟨f (j+x),f (j+x+1)-1⟩:Sp)) i:=pf _ j i;rw [e];exact List.take_left' (i9 f j)
theorem zU (f:Nat→Int) (j:Nat):mx (dX f j)=f j-f 0:=by
 induction j with
 | zero=>simp [dX,bm,mx]
 | succ j h=>rw [pk,Bq,h];simp only;omega
theorem pQ (f:Nat→Int) (j:Nat) (l:List Sp) (d:Int):mr d (l++dX f j)=if j=0 then mr d l else f j-1:=by
 cases j with
 | zero=>simp [dX,bm]
 | succ j=>rw [pk,← List.append_assoc,xo];simp
theorem F7 (f h:List Sp):mx (f++h)=mx f+mx h:=by simp [mx]
def LC (d e:Int) (S:List Sp):Prop:=∀ (j:Nat) (s:Sp),S[j]?=some s→mr d (S.take j)+e<s.a∧s.a≤s.b
theorem H7 {f g:Nat→Int} {m n:Nat} {d:Int} (R:d<f 0) (U:0<m) (J:∀ j,j<m→f j<f (j+1)) (O:∀ j,j<n→g j<g (j+1)) (F:0<n→f m<g 0):LC d 0 (dX f m++dX g n):=by
 intro j s h;by_cases G:j<m
 ·rw [List.getElem?_append_left (by rw [i9];exact G)] at h
  have o:(dX f m)[j]?=some ⟨f j,f (j+1)-1⟩:=iF _ m j G;rw [o] at h;cases h;have E:(dX f m++dX g n).take j=dX f j:=by rw [List.take_append_of_le_length (by rw [i9];omega),vH f m j om]
  have H:=pQ f j [] d;rw [List.nil_append] at H;rw [E,H,BO];have:=J j G;simp only
  split
  ·rename_i hz;subst hz;omega
  ·omega
 ·obtain ⟨i,rfl⟩:∃ i,j=m+i:=⟨j-m,by omega⟩
  rw [List.getElem?_append_right (by rw [i9];omega),i9,show m+i-m=i by omega] at h;have hi:i<n:=by
   have:=(List.getElem?_eq_some_iff.1 h).1
   rwa [i9] at this
  have o:(dX g n)[i]?=some ⟨g i,g (i+1)-1⟩:=iF _ n i hi;rw [o] at h;cases h;have E:(dX f m++dX g n).take (m+i)=dX f m++dX g i:=by
   rw [List.take_append,i9,show m+i-m=i by omega,vH g n i om,List.take_of_length_le (by rw [i9];omega)]
  have I:=pQ f m [] d;rw [List.nil_append,if_neg om] at I;rw [E,pQ,I];have S:=O i hi;have T:=F om;simp only
  split
  ·rename_i hz;subst hz;omega
  ·omega
theorem GF {c:ar} {u:Un} {k:Int} (h:ju c u k=0):LC (-1) 0 ((gZ c u k).map (cd c))∧LC (-2) 1 (I5 c u k)∧mx ((gZ c u k).map (cd c))=mx (I5 c u k)∧0<(I5 c u k).length∧(I5 c u k).length≤2∧(gZ c u k).length≤60∧0<(gZ c u k).length∧(∀ x∈gZ c u k,aE c x=0∧x.lv=5∧0≤(cd c x).a∧(cd c x).a≤(cd c x).b∧(cd c x).b≤3068037)∧(∀ s∈I5 c u k,0≤s.a∧s.a≤s.b∧s.b≤3068037):=by
 obtain ⟨f,g,m,n,V,al,ad,E,hf,W,I,J⟩:=zK h;have H:∀ x∈gZ c u k,aE c x=0∧x.lv=5∧0≤(cd c x).a∧(cd c x).a≤(cd c x).b∧(cd c x).b≤3068037:=fun x T=>⟨(J x T).1,(J x T).2,IJ (J x T).1⟩
 have O:∀ s∈dX f m++dX g n,0≤s.a∧s.a≤s.b∧s.b≤3068037:=by
  intro s o;rw [← E] at o;obtain ⟨x,T,rfl⟩:=List.mem_map.1 o;exact (H x T).2.2
 have R:∀ j,j<m→(⟨f j,f (j+1)-1⟩:Sp)∈dX f m++dX g n:=fun j U=>List.mem_append_left _ (List.mem_of_getElem? (iF _ m j U))
 have F:∀ j,j<n→(⟨g j,g (j+1)-1⟩:Sp)∈dX f m++dX g n:=fun j U=>List.mem_append_right _ (List.mem_of_getElem? (iF _ n j U))
 have f0:=O _ (R 0 V);have f1:=O _ (R (m-1) om);rw [show m-1+1=m by omega] at f1;simp only at f0 f1;have G:∀ (q:Nat→Int) (z:Nat),(∀ j,j<z→q j<q (j+1))→0<z→q 0<q z:=by
  intro q z hq
  induction z with
  | zero=>intro h;omega
  | succ z ih =>
   intro _;rcases Nat.eq_zero_or_pos z with rfl | hz
   ·exact hq 0 om
   ·have a1:=ih (fun j U=>hq j om) hz
    have a2:=hq z om;omega
 have ah:=G f m hf V;have hR:I5 c u k=if n=0 then [⟨f 0,f m-1⟩] else [⟨f 0,f m-1⟩,⟨g 0,g n-1⟩]:=by rw [I5,E,Gl V I]
 have S:mx ((gZ c u k).map (cd c))=(f m-f 0)+(g n-g 0):=by rw [E,F7,zU,zU]
 refine ⟨by rw [E];exact H7 om V hf W I,?_,?_,?_,?_,by omega,by omega,H,?_⟩
 all_goals rw [hR]
 ·split
  ·intro j s o
   match j,o with
   | 0,o=>cases o;simp [mr];omega
  ·rename_i hn
   have g1:=O _ (F 0 om);have ab:=G g n W om;have h3:=I om;intro j s o
   match j,o with
   | 0,o=>cases o;simp [mr];omega
   | 1,o=>cases o;simp [mr];omega
 ·rw [S]
  split
  ·rename_i hn;subst hn;simp [mx];omega
  ·simp [mx];omega
 ·split <;> simp
 ·split <;> simp
 ·intro s o
  split at o
  ·simp only [List.mem_singleton] at o;subst o;simp only;omega
  ·rename_i hn
   have g1:=O _ (F 0 om);have g2:=O _ (F (n-1) om);rw [show n-1+1=n by omega] at g2;simp only at g1 g2;have ab:=G g n W om;simp only [List.mem_cons,List.not_mem_nil,or_false] at o;rcases o with rfl | rfl <;> simp only <;> omega
end
end Go.Proofs.YtjhhmeoibfdcmaaGreat
