/- Lemmas. -/
import Derived.Test.YtjhhmeoibfdcmaaGreatWr25
import Derived.Test.YtjhhmeoibfdcmaaGreatWr39
import Derived.Test.YtjhhmeoibfdcmaaGreatWr42
import Derived.Test.YtjhhmeoibfdcmaaGreatWr46
set_option linter.unusedSimpArgs false
set_option linter.unusedVariables false
set_option maxRecDepth 100000
set_option maxHeartbeats 12800000
namespace Go.Proofs.YtjhhmeoibfdcmaaGreat
section
open Go.RowKit Qd
theorem BS (c:ar) (u p:Un) (w:World):jS c u p w.heap.size (((w.alloc (.cells (bY c) 24)).alloc (.cells #[u.lv,u.yr,u.ix] 26)).alloc (.cells #[p.lv,p.yr,p.ix] 26)):=by
 refine ⟨((ap.new w _ _).alloc _).alloc _,?_,?_⟩
 ·have:=(ap.new (w.alloc (.cells (bY c) 24)) #[u.lv,u.yr,u.ix] 26).alloc (.cells #[p.lv,p.yr,p.ix] 26)
  simpa using this
 ·have:=ap.new ((w.alloc (.cells (bY c) 24)).alloc (.cells #[u.lv,u.yr,u.ix] 26)) #[p.lv,p.yr,p.ix] 26
  simpa using this
theorem jh (c:ar) (u:Un) (w:World) (hn:c.name.size≤1000) (O:aE c u=0) :
  Calls Tryz.prog 131 #[av c,aC u] w fun e w'=>∃ g cap,e=.returned (.slice (some ⟨g,0,none⟩) (dS c u).length cap)∧de w' g cap (dS c u)∧(dS c u).length≤cap∧0<(dS c u).length∧w.heap.size≤g∧Below w w w':=by
 have hd:=tp O;have aF:=dz O;have bt:=di c u.yr (bN O).2.2.2.1;have hw:dS c u=ij ⟨5,u.yr,(aT c u:Int)+1⟩ (bF c u-aT c u):=rfl;obtain ⟨A,hA⟩:∃ A,aT c u=A:=⟨_,rfl⟩;obtain ⟨B,J⟩:∃ B,bF c u=B:=⟨_,rfl⟩;rw [hA,J] at hd aF hw;rw [hw];have bc:A<B∧B≤60:=om;obtain ⟨b5,b1⟩:=bc;have HD:=hide hd;have G:=hide (fun j=>jV ⟨5,u.yr,(A:Int)+1⟩ j);have a5:=hide (fun j=>qC ⟨5,u.yr,(A:Int)+1⟩ j);obtain ⟨i0,hi,bh,bl,bp⟩:=info_parts fG;clear hd aF bt hw O hA J;simp only [av,aC];go_enter Tryz.func131,Tryz.ntmps131;go_wp2_with fail;refine (oq c u 5 _ hn).mono ?_;rintro e h ⟨rfl,o⟩;rw [HD.out.1,HD.out.2.1,HD.out.2.2];simp only [aC];have cc:w.heap.size+1<h.heap.size:=aj o;have a2:Hid (Below w w h):=ww o;have ad:=hide (aa o ae (az (au w c) ac _));have ay:=hide (aS o ac (cA w c u));obtain ⟨q0,q1,q2,q3,q4,q5,q6,q7,q8,q9,bw,bx,bX,b0⟩:=ad.out;obtain ⟨u0,u1,u2⟩:=ay.out;have cb:w.heap.size<h.heap.size:=om;clear o;have T:=hide (show Below w w ((h.alloc (.cells #[.int .i64 5,u.yr,.int .i64 ((A:Int)+1)] 26)).alloc (.cells #[.int .i64 5,u.yr,.int .i64 (B:Int)] 26)) by have hp:=a2.out;(repeat' exact bel));have ab:=hide (az (az ad.out om (.cells #[.int .i64 5,u.yr,.int .i64 ((A:Int)+1)] 26)) ae (.cells #[.int .i64 5,u.yr,.int .i64 (B:Int)] 26));have aq:=hide (bU (bU ay.out om (.cells #[.int .i64 5,u.yr,.int .i64 ((A:Int)+1)] 26)) ae (.cells #[.int .i64 5,u.yr,.int .i64 (B:Int)] 26));have al:=hide (show iB ((h.alloc (.cells #[.int .i64 5,u.yr,.int .i64 ((A:Int)+1)] 26)).alloc (.cells #[.int .i64 5,u.yr,.int .i64 (B:Int)] 26)) (h.heap.size+1) ⟨5,u.yr,(B:Int)⟩ by simpa using qA (h.alloc (fc ⟨5,u.yr,(A:Int)+1⟩)) ⟨5,u.yr,(B:Int)⟩);have a0:((h.alloc (.cells #[.int .i64 5,u.yr,.int .i64 ((A:Int)+1)] 26)).alloc (.cells #[.int .i64 5,u.yr,.int .i64 (B:Int)] 26)).heap.size=h.heap.size+2:=ac;clear q0 q1 q2 q3 q4 q5 q6 q7 q8 q9 bw bx bX b0;clear u0 u1 u2;go_wp2_with fail;obtain ⟨W0,aB⟩:∃ W,(h.alloc (.cells #[.int .i64 5,u.yr,.int .i64 ((A:Int)+1)] 26)).alloc (.cells #[.int .i64 5,u.yr,.int .i64 (B:Int)] 26)=W:=⟨_,rfl⟩;rw [aB] at T ab aq al a0 ⊢;clear aB;obtain ⟨I,a7⟩:∃ B,B=W0.heap.size:=⟨_,rfl⟩;have bb:h.heap.size+1<I:=om;have ba:w.heap.size+1<I:=om;have a8:w.heap.size<I:=om;have a4:=hide (show ks c w.heap.size I [] (.slice none 0 0) w W0 from ⟨ab.out,a8,by omega,World.ownsRow_nil _ _ _ _,T.out⟩);have b3:h.heap.size<W0.heap.size:=om;clear a7 a0;go_loopw [8,9] (fun s8 s9 wr=>∃ j:Nat,s9=.int .i64 ((A:Int)+1+(j:Int))∧j≤B-A∧ks c w.heap.size I (ij ⟨5,u.yr,(A:Int)+1⟩ j) s8 w wr∧Below I W0 wr) (fun _ s _=>(100-intOf s).toNat)
 case atStart=>exact ⟨0,by simp,by omega,by simpa [ij,bm] using a4.out,Below.refl _ _⟩
 case round =>
  obtain ⟨j,rfl,hj,hS,J⟩:=hrel;have HS:=hide hS;have a3:=hide J;have b6:=hS.2.2.1;obtain ⟨u0,u1,u2⟩:=aS J ba aq.out;obtain ⟨t0,t1,t2⟩:=aS J bb al.out;simp only at t0 t1 t2;have b4:h.heap.size+1<wr.heap.size:=om;have ca:w.heap.size+1<wr.heap.size:=om;clear hS J;by_cases b9:j<B-A
  ·have R:=G.out j
   have b8:(A:Int)+1+(j:Int)≤(B:Int):=om;obtain ⟨U,O⟩:∃ U,ij ⟨5,u.yr,(A:Int)+1⟩ j=U:=⟨_,rfl⟩;have ah:=hide (a5.out j);rw [O] at HS R ah;have aA:=hide R;clear O R;go_wp2_with ((at_builtin;refine wpList_append_own _ rfl _ _ 115 rfl I 26 i0 (.agg #[.int .i64 0,.int .i64 0,.int .i64 0]) 3 24 Tryz.underlying115 hi bh bl bp rfl ag _ _ _ rfl (HS.out.2.2.2.1.alloc _) ⟨wr,0,none⟩ 1 1 [.int .i64 5,.int .i64 (u.yr),.int .i64 ((A:Int)+1+(j:Int))] rfl rfl ?c1a ?c2a ?c3a ?c4a ?c5a ?_))
   case c1a =>
    intro i u f
    match i,f with
    | 0,f=>simp at f;subst f;simp [Addr.add]
    | 1,f=>simp at f;subst f;simp [Addr.add]
    | 2,f=>simp at f;subst f;simp [Addr.add]
    | i+3,f=>simp at f
   case c2a=>intro u f;simp at f;rcases f with rfl | rfl | rfl <;> rfl
   case c3a=>have:=aA.out;unfold maxLen;omega
   case c4a=>have:=aA.out;omega
   case c5a=>simp;omega
   ·intro v' w' F E _
    have HG:=hide (HS.out.grow (x:=⟨5,u.yr,(A:Int)+1+(j:Int)⟩) _ (by exact F) E);have a1:=hide (a3.out.trans HG.out.2);clear F E;go_wp2;go_roundw
    case rel=>exact ⟨j+1,by first | rfl | (congr 1;omega),by omega,by rw [ah.out];exact HG.out.1,a1.out⟩
    case measure=>simp [intOf];omega
  ·obtain rfl:j=B-A:=om
   obtain ⟨g,cap,rfl,hg,S⟩:=HS.out.uns (by rw [G.out];omega);have H:=(S.lt (by rw [G.out];omega)).2;have a6:=hide S;have V:=hide H;have b2:=HS.out.2.2.2.2;have b7:¬ (A:Int)+1+((B-A:Nat):Int)≤(B:Int):=om;have bd:w.heap.size≤g:=om;clear S H;go_wp2
   all_goals first
    | (exfalso;omega)
    | (go_ret;exact ⟨g,cap,rfl,a6.out,V.out,by rw [G.out];omega,bd,by (repeat' exact bel)⟩)
def C1 (L:List Un) (w:World) (e:Ending) (f:World):Prop:=∃ a n cap,e=.returned (.slice a n cap)∧RU f a n cap L∧Below w w f
theorem vQ (c:ar) (u:Un) (t:Int) (w:World) (V:c.name.size≤1000) (J:aE c u=0) (O:dp c t) (E:¬ u.lv=5) :
  Calls Tryz.prog 129 #[av c,aC u,t] w (C1 (dh c u t) w):=by
 have F:=hide (pr J O E);have S:=hide (show dh c u t=dS c ⟨u.lv,t,u.ix⟩ by rw [dh,if_neg E]);have T:(u.lv != 5)=true:=by simpa using E
 have R:=hide ((mG c u w).year t);clear J O E;simp only [av,aC];go_enter Tryz.func129,Tryz.ntmps129;go_wp2_with fail;refine (jh c ⟨u.lv,t,u.ix⟩ _ V F.out).mono ?_;rintro e W ⟨g,cap,rfl,o,H,h,U,f⟩;have G:=hide (o.ru h);have I:Below w w W:=by refine Below.trans ?_ (f.mono ae);(repeat' exact bel)
 clear o f U H;go_wp2;go_ret;exact ⟨_,_,_,rfl,by rw [S.out];exact G.out,by (repeat' exact bel)⟩
theorem uL (c:ar) (u:Un) (t:Int) (w:World) (hn:c.name.size≤1000) (hU:aE c u=0) (ht:dp c t) (h5:u.lv=5) :
  Calls Tryz.prog 129 #[av c,aC u,t] w (C1 (dh c u t) w):=by
 obtain ⟨i,e1,e0,hg,W,e3,e4,e5,e6⟩:=mI hU ht h5;have a2:=dz W;have I:=dz hg;have bt:=di c t (bN W).2.2.2.1;have bw:=di c u.yr (bN hg).2.2.2.1;have V:=tp hg;have E:dh c u t=ij ⟨5,t,(aT c ⟨4,t,(i:Int)+1⟩:Int)+1+(u.ix-((aT c ⟨4,u.yr,(i:Int)+1⟩:Int)+1))⟩ (min (bF c ⟨4,t,(i:Int)+1⟩:Int) ((aT c ⟨4,t,(i:Int)+1⟩:Int)+1+(u.ix-((aT c ⟨4,u.yr,(i:Int)+1⟩:Int)+1)))+1-((aT c ⟨4,t,(i:Int)+1⟩:Int)+1+(u.ix-((aT c ⟨4,u.yr,(i:Int)+1⟩:Int)+1)))).toNat:=by rw [dh,if_pos h5,e1]
 have ad:dS c ⟨4,t,(i:Int)+1⟩=ij ⟨5,t,(aT c ⟨4,t,(i:Int)+1⟩:Int)+1⟩ (bF c ⟨4,t,(i:Int)+1⟩ - aT c ⟨4,t,(i:Int)+1⟩):=rfl;simp only at a2 I V E;obtain ⟨f,a1⟩:∃ A,aT c ⟨4,u.yr,(i:Int)+1⟩=A:=⟨_,rfl⟩;obtain ⟨B0,bh⟩:∃ B,bF c ⟨4,u.yr,(i:Int)+1⟩=B:=⟨_,rfl⟩;obtain ⟨A,bd⟩:∃ A,aT c ⟨4,t,(i:Int)+1⟩=A:=⟨_,rfl⟩;obtain ⟨B,bl⟩:∃ B,bF c ⟨4,t,(i:Int)+1⟩=B:=⟨_,rfl⟩;obtain ⟨K,hK⟩:∃ K:Nat,aT c u=f+K:=⟨aT c u-f,by omega⟩;rw [a1,bh] at V I;rw [bd,bl] at a2 E ad;rw [a1] at E;have b0:u.ix=(f:Int)+1+(K:Int):=om;rw [b0] at E;have bx:A<B∧B≤60∧f+K≤60∧i≤60:=by
  have h1:=(bN hg).2.2.2.2.2;have h2:=(dv c u.yr (bN hg).2.2.2.1 4).2;have h3:uI ⟨4,u.yr,(i:Int)+1⟩=i:=by simp [uI]
  rw [h3] at h1;simp only at h1;omega
 obtain ⟨c1,cr,c2,cy⟩:=bx;obtain ⟨ul,o,ux⟩:=u;simp only at *;subst h5 b0;have bc:=hide (fun (h:K<B-A)=>(show dh c ⟨5,o,(f:Int)+1+(K:Int)⟩ t=[⟨5,t,(A:Int)+1+(K:Int)⟩] from by
  rw [E];rw [show (min (B:Int) ((A:Int)+1+((f:Int)+1+(K:Int)-((f:Int)+1)))+1-((A:Int)+1+((f:Int)+1+(K:Int)-((f:Int)+1)))).toNat=1 by omega];simp [ij,bm];omega))
 have bb:=hide (fun (h:¬ K<B-A)=>(show dh c ⟨5,o,(f:Int)+1+(K:Int)⟩ t=[] from by
  rw [E];rw [show (min (B:Int) ((A:Int)+1+((f:Int)+1+(K:Int)-((f:Int)+1)))+1-((A:Int)+1+((f:Int)+1+(K:Int)-((f:Int)+1)))).toNat=0 by omega];simp [ij,bm]))
 have J:=jV ⟨5,t,(A:Int)+1⟩ (B-A);have ah:=hide (fun (h:K<B-A)=>(show (ij ⟨5,t,(A:Int)+1⟩ (B-A))[K]?=some ⟨5,t,(A:Int)+1+(K:Int)⟩ from iF _ _ _ h));obtain ⟨M,hM⟩:∃ M,B-A=M:=⟨_,rfl⟩;rw [hM] at ad J bc bb ah;have bp:0<M∧M≤60:=om;have aA:=hide V;have HE:=hide (And.intro e1 e0);have b7:=hide W;have ca:=hide ad;have al:=hide J;have c0:((5:Int) != 5)=false:=ac;have b8:=hide (BS c ⟨5,o,(f:Int)+1+(K:Int)⟩ ⟨5,t,(f:Int)+1+(K:Int)⟩ w);have b6:=hide (show Below w w ((((w.alloc (.cells (bY c) 24)).alloc (.cells #[.int .i64 5,o,.int .i64 ((f:Int)+1+(K:Int))] 26)).alloc (.cells #[.int .i64 5,t,.int .i64 ((f:Int)+1+(K:Int))] 26))) by (repeat' exact bel));obtain ⟨c5,c6⟩:=bp;have cp:(f:Int)+(K:Int)≤60:=om;have c3:(A:Int)+(M:Int)≤60:=om;clear a2 I bt bw V E ad hU ht hg W e1 e0 e3 e4 e5 e6 a1 bh bd bl hK hM J;simp only [av,aC];go_enter Tryz.func129,Tryz.ntmps129;go_wp2_with fail;refine (AO c ⟨5,o,(f:Int)+1+(K:Int)⟩ 4 _ hn).mono ?_;rintro e F ⟨rfl,a3⟩;rw [HE.out.1,HE.out.2];simp only [aC];have S:=hide (b8.out.call (by exact a3));have b4:=hide (b6.out.trans (Below.mono (by exact a3) ae));clear a3;have c7:w.heap.size+2<F.heap.size:=S.out.lt;have b2:w.heap.size<F.heap.size:=om;have b3:w.heap.size+1<F.heap.size:=om;have cl:w.heap.size+1+1<F.heap.size:=om;obtain ⟨q0,q1,q2,q3,q4,q5,q6,q7,q8,q9,a6,a7,a8,ba⟩:=S.out.1.cal;obtain ⟨u0,u1,u2⟩:=S.out.un;simp only at u0 u1 u2;go_wp2_with fail;refine (oq c ⟨4,o,(i:Int)+1⟩ 5 _ hn).mono ?_;rintro e G ⟨rfl,T⟩;rw [aA.out.1,aA.out.2.1,aA.out.2.2];simp only [aC];have aF:=hide ((S.out.alloc (.cells #[.int .i64 4,o,.int .i64 ((i:Int)+1)] 26)).call (by exact T));have b5:=hide ((b4.out.alloc om (.cells #[.int .i64 4,o,.int .i64 ((i:Int)+1)] 26)).trans (Below.mono (by exact T) ae));have H:=hide ((ap.new F #[.int .i64 4,o,.int .i64 ((i:Int)+1)] 26).call (by exact T));have c8:F.heap.size<G.heap.size:=H.out.lt;clear T;clear q0 q1 q2 q3 q4 q5 q6 q7 q8 q9 a6 a7 a8 ba;clear u0 u1 u2 b2 b3 cl;have b2:w.heap.size<G.heap.size:=om;have b3:w.heap.size+1<G.heap.size:=om;obtain ⟨q0,q1,q2,q3,q4,q5,q6,q7,q8,q9,a6,a7,a8,ba⟩:=aF.out.1.cal;obtain ⟨u0,u1,u2⟩:=aF.out.un;simp only at u0 u1 u2;obtain ⟨p0,p1,p2⟩:G.cell? ⟨F,0,none⟩=some (.int .i64 4)∧G.cell? ⟨F,1,none⟩=some (.int .i64 o)∧G.cell? ⟨F,2,none⟩=some (.int .i64 ((i:Int)+1)):=⟨H.out.cell 0,H.out.cell 1,H.out.cell 2⟩;have p3:=H.out.frozen 1;have cE:w.heap.size≠F.heap.size:=om;have cI:w.heap.size+1≠F.heap.size:=om;go_wp2_with fail;refine (jh c ⟨4,t,(i:Int)+1⟩ _ hn b7.out).mono ?_;rintro e O ⟨g,cap,rfl,ab,bX,ay,hg,U⟩;have R:=hide (show ap O G #[.int .i64 5,o,.int .i64 ((f:Int)+1)] 26 from by
  have h:=(((ap.new (G.setCell ⟨F,1,none⟩ (.int .i64 t)) #[.int .i64 5,o,.int .i64 ((f:Int)+1)] 26).alloc (.cells #[.int .i64 5,o,.int .i64 (B0:Int)] 26)).call (by exact U));simpa using h)
 have a0:=hide ((((aF.out.2.1.far (p:=⟨F,1,none⟩) ae (.int .i64 t)).alloc (.cells #[.int .i64 5,o,.int .i64 ((f:Int)+1)] 26)).alloc (.cells #[.int .i64 5,o,.int .i64 (B0:Int)] 26)).call (by exact U));have aq:Below w w O:=by
  have hp:=b5.out;refine Below.trans ?_ (U.mono ae)
  (repeat' exact bel)
 have c9:G.heap.size<O.heap.size:=R.out.lt;rw [ca.out] at ab bX ay ⊢;rw [al.out] at bX ay ⊢;have b9:=hide ab;have a4:=(ab.lt (by rw [al.out];omega)).1;clear ab U u0 u1 u2 p0 p1 p2 p3 hg;clear q0 q1 q2 q3 q4 q5 q6 q7 q8 q9 a6 a7 a8 ba;obtain ⟨f0,f1,f2⟩:O.cell? ⟨G,0,none⟩=some (.int .i64 5)∧O.cell? ⟨G,1,none⟩=some (.int .i64 o)∧O.cell? ⟨G,2,none⟩=some (.int .i64 ((f:Int)+1)):=⟨R.out.cell 0,R.out.cell 1,R.out.cell 2⟩;obtain ⟨u0,u1,u2⟩:O.cell? ⟨w+1,0,none⟩=some (.int .i64 5)∧O.cell? ⟨w+1,1,none⟩=some (.int .i64 o)∧O.cell? ⟨w+1,2,none⟩=some (.int .i64 ((f:Int)+1+(K:Int))):=⟨a0.out.cell 0,a0.out.cell 1,a0.out.cell 2⟩;have cS:w.heap.size+1<O.heap.size:=om;have b1:(f:Int)+1+(K:Int)-((f:Int)+1)=(K:Int):=om;have cM:IntKind.i64.wrap ((f:Int)+1+(K:Int)-((f:Int)+1))=(K:Int):=by rw [b1];simp [IntKind.wrap,IntKind.bits,IntKind.signed];omega
 by_cases a5:K<M
 ·have aB:=hide (bc.out a5)
  have HG:=hide (show Gc O g (K*3) [⟨5,t,(A:Int)+1+(K:Int)⟩] from ⟨a4,fun j x hx=>by
   match j,hx with
   | 0,hx =>
    simp at hx;subst hx;have:=de.cell b9.out (ah.out a5);simpa using this
   | j+1,hx=>simp at hx⟩)
  have cc:(K:Int)<(M:Int):=om;have cb:(0:Int)≤(K:Int):=om;have c4:K<cap:=om;have cs:K+1≤cap:=om;clear a4;go_wp2
  all_goals first
   | (exfalso;omega)
   | (go_ret;exact ⟨_,_,_,rfl,by rw [aB.out];exact .inr ⟨by simp,by simp,g,K*3,by simp [Addr.add],HG.out⟩,aq⟩)
 ·have aB:=hide (bb.out a5)
  have cc:(M:Int)≤(K:Int):=om;have cb:(0:Int)≤(K:Int):=om;clear a4;go_wp2
  all_goals first
   | (exfalso;omega)
   | (go_ret;exact ⟨_,_,_,rfl,by rw [aB.out];exact .inl ⟨rfl,rfl,rfl,rfl⟩,aq⟩)
theorem rh (c:ar) (u:Un) (t:Int) (w:World) (o:c.name.size≤1000) (h:aE c u=0) (E:dp c t) :
  Calls Tryz.prog 129 #[av c,aC u,t] w (C1 (dh c u t) w):=by
 by_cases f:u.lv=5
 ·exact uL c u t w o h E f
 ·exact vQ c u t w o h E f
end
end Go.Proofs.YtjhhmeoibfdcmaaGreat
