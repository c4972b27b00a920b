/- The statement VaryRows: for every input the law answers true, and its arguments read behind the call as they read before. No condition. -/
import Derived.Test.YtjhhmeoibfdcmaaGreatWr08
import Derived.Test.YtjhhmeoibfdcmaaGreatWr42
import Derived.Test.YtjhhmeoibfdcmaaGreatWr47
import Derived.Test.YtjhhmeoibfdcmaaGreatWr52
set_option linter.unusedSimpArgs false
set_option linter.unusedVariables false
set_option maxRecDepth 100000
set_option maxHeartbeats 12800000
namespace Go.Proofs.YtjhhmeoibfdcmaaGreat
section
open Go.RowKit Qd
theorem Dq (c:ar) (hn:c.name.size≤9223372036854775807) (u:Un) (k:Int) (v1 v2:Value) (P:List Po) (A:List Ac) (w:World) (hP:cL w v1 P) (hA:eo w v2 A) (hp:∀ x∈P,Ge x) (ha:∀ x∈A,Al x) (a5:P.length≤9223372036854775807) (a6:A.length≤9223372036854775807) :
  Calls Tryz.prog 7 #[av c,aC u,k,.agg #[v1,v2]] w fun e w'=>e=.returned (.bool true)∧Below w w w':=by
 have HP:=hide hP;have HA:=hide hA;have HW:=hide (And.intro (fun x h=>(hp x h).2) (fun x h=>(ha x h).2.2));have H0:=hide (iC c u v1 v2 w);clear hp ha;obtain ⟨aq,T,rfl,_⟩:=hP;obtain ⟨ah,o,rfl,_⟩:=hA;simp only [av,aC];go_enter Tryz.func7,Tryz.ntmps7;go_wp2_with fail;refine (qw _).mono ?_;rintro e w1 ⟨rfl,ay⟩;have I:=hide (H0.out.call ay);clear ay;obtain ⟨⟨q0,q1,q2,q3,q4,q5,q6,q7,q8,q9,E,F,G,H⟩,⟨u0,u1,u2⟩,⟨k0,k1⟩,O,f⟩:=I.out.cells;have S:w.heap.size<w1.heap.size:=om;go_wp2_with fail;refine (zn c P A _ _ _ (HP.out.call I.out.2.2.2.2) (HA.out.call I.out.2.2.2.2) hn a5 a6).mono ?_;rintro e w2 ⟨rfl,aA⟩;have ab:=hide (I.out.call aA);clear aA q0 q1 q2 q3 q4 q5 q6 q7 q8 q9 E F G H u0 u1 u2 k0 k1 O f S;cases hF:mu c P A
 ·have f:=ab.out.2.2.2.2
  go_wp2;go_ret;exact ⟨rfl,f⟩
 obtain ⟨bc,bd,bh,aF⟩:=tX hF;have a1:=hide (ID c P A (.slice ah A.length o) hF HW.out.1 HW.out.2);have a0:c.name.size≤1000:=om;have a7:P.length≤5000∧A.length≤16:=om;have a2:=hide (show ∀ a∈A,bg c 5 ⟨a.a,a.b⟩=0→(be c 5 ⟨a.a,a.b⟩).length≤420 from fun a hx h=>tL h (aF a hx));clear hF aF;have ad:=hide (fun W (h1:cL W (.slice aq P.length T) P) (h2:eo W (.slice ah A.length o) A)=>qj c u k P A (ZA c A) _ _ W a0 h1 h2 a1.out);have U:=hide (fun W (h1:cL W (.slice aq P.length T) P) (h2:eo W (.slice ah A.length o) A)=>qJ c u k P A _ _ W a0 h1 h2 a7 HW.out.1 HW.out.2 a2.out);obtain ⟨R,hR⟩:∃ x,io c u k P A (ZA c A)=x:=⟨_,rfl⟩;obtain ⟨V,hV⟩:∃ x,mM c u k P A (ZA c A)=x:=⟨_,rfl⟩;rw [hR,hV] at ad U;simp only [av,aC,kC] at ad U;clear hR hV;obtain ⟨⟨q0,q1,q2,q3,q4,q5,q6,q7,q8,q9,E,F,G,H⟩,⟨u0,u1,u2⟩,⟨k0,k1⟩,O,f⟩:=ab.out.cells;have S:w.heap.size<w2.heap.size:=om;go_wp2_with fail;refine (ad.out _ (HP.out.call f) (HA.out.call f)).mono ?_;rintro e w3 ⟨rfl,aB⟩;have a3:=hide (ab.out.call aB);clear aB q0 q1 q2 q3 q4 q5 q6 q7 q8 q9 E F G H u0 u1 u2 k0 k1 O f S;obtain ⟨⟨q0,q1,q2,q3,q4,q5,q6,q7,q8,q9,E,F,G,H⟩,⟨u0,u1,u2⟩,⟨k0,k1⟩,O,f⟩:=a3.out.cells;have S:w.heap.size<w3.heap.size:=om;have bp:w.heap.size+1<w3.heap.size:=om;have bt:w.heap.size+1+1<w3.heap.size:=om;have bl:=qm V.u.lv V.u.yr V.u.ix V.this V.that V.diff V.gone;go_wp2_with fail;have al:Below w w (w3.alloc (.cells (kC V) 69)):=f.alloc om _;refine (U.out _ (HP.out.call al) (HA.out.call al)).mono ?_;rintro e w4 ⟨rfl,J⟩;have K9:=hide (ap.call (ap.new w3 (kC V) 69) J);have a4:Below w w w4:=(f.alloc om (.cells (kC V) 69)).trans (J.mono ae);have ba:w3.heap.size<w4.heap.size:=aj J;clear J al q0 q1 q2 q3 q4 q5 q6 q7 q8 q9 E F G H u0 u1 u2 k0 k1;have c0:=K9.out.cell 0;have c1:=K9.out.cell 1;have c2:=K9.out.cell 2;have c3:=K9.out.cell 3;have c4:=K9.out.cell 4;have c5:=K9.out.cell 5;have c6:=K9.out.cell 6;simp at c0 c1 c2 c3 c4 c5 c6;have a8:w.heap.size≤w4.heap.size:=om;have bb:(R==R)=true:=ac;go_wp2;go_ret;exact ⟨by first | rfl | exact aY ac,by (repeat' exact bel)⟩
end
end Go.Proofs.YtjhhmeoibfdcmaaGreat
namespace Go.Proofs.YtjhhmeoibfdcmaaGreat.varyRows
section
open Go.ChangeShapes Go.WideShapes Go.ChangeAt Go.RowKit
theorem j1:(Rows.varyRowsRow.wf (OpenSpec.ofChange Rows.varyRowsSpec))=true:=by kernel_rfl
theorem j2:(laidOutB Tryz.pinned.checked.prog)=true:=by kernel_rfl
theorem j3:(mapsRowed Tryz.pinned.checked.prog)=true:=by kernel_rfl
theorem j4:(Tryz.f7.params.all (Tryz.pinned.checked.prog.readableRec ·))=true:=by kernel_rfl
theorem j5:(namedTie Tryz.pinned.checked.prog Rows.varyRowsRow.named Rows.varyRowsSpec.vars)=true:=by kernel_rfl
theorem j6:((Rows.varyRowsRow.stops==[]))=true:=by kernel_rfl
theorem j7:((Tryz.pinned.checked.prog.stops==[]))=true:=by kernel_rfl
theorem j8:((Rows.varyRowsRow.knobs==[]))=true:=by kernel_rfl
theorem j9:((Tryz.pinned.checked.prog.stopKnobs==[]))=true:=by kernel_rfl
theorem Lc:((Rows.varyRowsRow.inPlace==Tryz.pinned.checked.prog.inPlace 7))=true:=by kernel_rfl
theorem Ly:((Rows.varyRowsRow.unfollowed==Tryz.pinned.checked.prog.unfollowed 7))=true:=by kernel_rfl
theorem Lr:((Rows.varyRowsRow.recurses==Tryz.pinned.checked.prog.recurses 7))=true:=by kernel_rfl
theorem LZ:((Rows.varyRowsRow.named==Tryz.pinned.checked.prog.varsNamed 7))=true:=by kernel_rfl
theorem LY:((Rows.varyRowsRow.maps==(Tryz.f7.params.toList++Rows.varyRowsSpec.plain.varTypes Tryz.pinned.checked.prog).any (Tryz.pinned.checked.prog.mapsRec ·)))=true:=by kernel_rfl
theorem LP:((Rows.varyRowsRow.ifaces==(Tryz.f7.params.toList++Rows.varyRowsSpec.plain.varTypes Tryz.pinned.checked.prog).any (Tryz.pinned.checked.prog.ifacesRec ·)))=true:=by kernel_rfl
theorem LK:((Rows.varyRowsRow.mapsOut==Tryz.pinned.checked.prog.mapsAmong Tryz.f7.resultTypes.toList))=true:=by kernel_rfl
theorem LU:((Rows.varyRowsRow.loops==(Tryz.f7.params.toList++Rows.varyRowsSpec.plain.varTypes Tryz.pinned.checked.prog).any (Tryz.pinned.checked.prog.loopsFrom ·)))=true:=by kernel_rfl
theorem Lf:((Rows.varyRowsRow.wideKeys==(Tryz.f7.params.toList++Rows.varyRowsSpec.plain.varTypes Tryz.pinned.checked.prog++Tryz.f7.resultTypes.toList).any (Tryz.pinned.checked.prog.wideKeysFrom ·)))=true:=by kernel_rfl
theorem Le:(Rows.varyRowsSpec.vars.all (Tryz.pinned.checked.prog.varReadable ·))=true:=by kernel_rfl
theorem LH:(Tryz.f7.resultTypes.all (fun t=>Tryz.pinned.checked.prog.readableRec t&&decide (t<Tryz.pinned.checked.prog.types.size)))=true:=by kernel_rfl
theorem Lg:((Rows.varyRowsRow.ifacesOut==Tryz.f7.resultTypes.toList.any (Tryz.pinned.checked.prog.ifacesRec ·)))=true:=by kernel_rfl
theorem LN:((Rows.varyRowsRow.loopsOut==Tryz.f7.resultTypes.toList.any (Tryz.pinned.checked.prog.loopsFrom ·)))=true:=by kernel_rfl
theorem Lt:((Rows.varyRowsRow.plainKeys==Tryz.pinned.checked.prog.plainKeys))=true:=by kernel_rfl
theorem LB:(Rows.varyRowsRow.shortTexts.isNone)=true:=by kernel_rfl
theorem Ln:(Tryz.pinned.checked.prog.stopsHeard)=true:=by kernel_rfl
theorem Ll:(Tryz.pinned.checked.prog.mayEnter)=true:=by kernel_rfl
theorem Lb:((Rows.varyRowsRow.lifted==Tryz.pinned.checked.prog.liftsFinal))=true:=by kernel_rfl
theorem LI:((Tryz.pinned.checked.prog.make==some Rows.varyRowsRow.make))=true:=by kernel_rfl
theorem Li:((Rows.varyRowsRow.pinned==Rows.varyRowsRow.pinnedBy))=true:=by kernel_rfl
theorem LF:((Rows.varyRowsRow.veiled==(Tryz.f7.params.toList++Rows.varyRowsSpec.plain.varTypes Tryz.pinned.checked.prog++Tryz.f7.resultTypes.toList).any (Tryz.pinned.checked.prog.veiledRec ·)))=true:=by kernel_rfl
theorem KX:(Rows.varyRowsRow.veiledFits Tryz.pinned.checked.prog Tryz.f7.params.toList (Tryz.f7.params.toList++Rows.varyRowsSpec.plain.varTypes Tryz.pinned.checked.prog++Tryz.f7.resultTypes.toList))=true:=by kernel_rfl
theorem yp:joinedFacts Tryz.pinned.checked.prog 7 Tryz.f7 Rows.varyRowsSpec Rows.varyRowsRow=true:=by
 unfold joinedFacts;rw [j1,j2,j3,j4,j5,j6,j7,j8,j9,Lc,Ly,Lr,LZ,LY,LP,LK,LU,Lf,Le,LH,Lg,LN,Lt,LB,Ln,Ll,Lb,LI,Li,LF,KX]
 kernel_rfl
end
section
open Go.ChangeShapes Go.WideShapes Go.ChangeAt Go.RowKit Qd
theorem K8:Tryz.prog.readableRec 24=true∧24<Tryz.prog.types.size:=⟨by kernel_rfl,of_decide_eq_true (by kernel_rfl)⟩
theorem La:Tryz.prog.readableRec 26=true∧26<Tryz.prog.types.size:=⟨by kernel_rfl,of_decide_eq_true (by kernel_rfl)⟩
theorem KW:Tryz.prog.readableRec 3=true∧3<Tryz.prog.types.size:=⟨by kernel_rfl,of_decide_eq_true (by kernel_rfl)⟩
theorem Mb:Tryz.prog.readableRec 30=true∧30<Tryz.prog.types.size:=⟨by kernel_rfl,of_decide_eq_true (by kernel_rfl)⟩
theorem lifted (os:Os) (E:os.Started) (H:Type) (enc:TypeId × Value→H) :
  ReturnsInHanded {} Tryz.checked os 7 .any (Rows.varyRowsSpec.pre6 enc Tryz.prog Tryz.f7 Rows.varyRowsRow.domain false) (Rows.varyRowsSpec.post enc Tryz.prog Tryz.f7 false true false false):=by
 refine returnsInHanded_of_change (C:=Tryz.checked) own E (by kernel_rfl) Tryz.func7
  (ChangeSpec.witness6 (enc:=enc) (C:=Tryz.checked) false ⟨#[],#[.agg #[.string ⟨#[]⟩,.int .i64 0,.int .i64 0,.int .i64 0,.int .i64 0,.int .i64 0,.int .i64 0,.int .i64 0,.int .i64 0,.int .i64 0,.int .i64 0,.int .i64 0,.int .i64 0,.int .i64 0],.agg #[.int .i64 0,.int .i64 0,.int .i64 0],.int .i64 0,.agg #[.slice none 0 0,.slice none 0 0]],[]⟩ 8 (by kernel_rfl) (by kernel_rfl) (by kernel_rfl) (by kernel_rfl)) ?_
 intro W F h ds gs T o hW aF _;have f:∀ (j:Nat) t v,Tryz.f7.params[j]?=some t→h[j]?=some v→Value.okWide Tryz.prog W .any F t v:=o;have J:=hW;obtain ⟨p,q,I,hV,rfl,a5,a6⟩:=hW;have G:DataW.TrodAll enc Tryz.prog W 0 (fun _=>true) true Tryz.f7.params.toList h.toList ds p:=I;have ab:=G;rw [Tryz.params7] at G f;obtain ⟨v0,bd,d0,a0,p0,q0,ad,rfl,a7,h0,r0⟩:=trodAll_cons G;obtain ⟨v1,bh,d1,a1,p1,q1,rfl,rfl,a8,h1,r1⟩:=trodAll_cons r0;obtain ⟨v2,bl,d2,a3,p2,q2,rfl,rfl,ba,h2,r2⟩:=trodAll_cons r1;obtain ⟨v3,bp,d3,a4,p3,q3,rfl,rfl,bb,h3,r3⟩:=trodAll_cons r2;obtain ⟨rfl,rfl,bc⟩:=trodAll_nil r3;obtain rfl:h=#[v0,v1,v2,v3]:=by cases h;simp_all
 obtain ⟨rfl,rfl⟩:=trodVars_none hV;obtain ⟨c0,rfl,ay,aA⟩:=vh (f 0 24 v0 rfl rfl) h0;obtain ⟨u1,rfl,aB⟩:=AP (f 1 26 v1 rfl rfl) h1;obtain ⟨a2,rfl,_,_,w2⟩:=open_int Tryz.underlying3 (f 2 3 v2 rfl rfl) h2;obtain ⟨x3,y3,P3,A3,rfl,V,U,R,O,ah,aq⟩:=rT (f 3 30 v3 rfl rfl) h3;clear I o;refine ((fun c hn _ u _ k _ x y P A hP G hp ha hl hm _=>Dq c hn u k x y P A _ hP G hp ha hl hm) c0 ay aA u1 aB a2 w2 x3 y3 P3 A3 V U R O ah aq W).mono fun e W' ⟨he,hb⟩=>?_
 subst he;have al:∀ x∈p++[],x.block<W.heap.size:=fun x S=>J.lt x S
 refine ⟨_,rfl,lU (pa:=p) (pv:=[]) J (fun _ _ _=>(trodAll_cons_mk (shut_bool Tryz.underlying4 _) trodAll_mk0)) (fun sp hs=>?_) (fun _ _=>rfl) rfl hb (ok_one (by kernel_rfl) rfl (okWide_bool_mk Tryz.underlying4 _))⟩;exact jp zo (by rw [Tryz.params7];intro t ht;simp only [List.mem_cons,List.not_mem_nil,or_false] at ht;rcases ht with rfl | rfl | rfl | rfl <;> first | exact K8 | exact La | exact KW | exact Mb) ab (fun x S=>hb.same (al x (List.mem_append_left _ S))) (fun x S=>hs x (List.mem_append_left _ S))
theorem I4:Rows.varyRowsRow.holds Tryz.pinned (OpenSpec.ofChange Rows.varyRowsSpec):=
 OpenClaim.holds_of_wide 7 Tryz.f7 rfl rfl rfl rfl rfl rfl rfl ⟨rfl,rfl,rfl,rfl,rfl⟩ rfl rfl rfl rfl rfl (by kernel_rfl) Tryz.func7 yp
  (of_decide_eq_true (by kernel_rfl)) (by unfold Func.isWrapper;rw [if_neg (of_decide_eq_false (by kernel_rfl))];exact ⟨rfl,rfl⟩)
  (fun os f H enc _=>lifted os f H enc)
theorem proved:Rows.VaryRowsSaid:=
 I4
#print axioms proved
end
end Go.Proofs.YtjhhmeoibfdcmaaGreat.varyRows
