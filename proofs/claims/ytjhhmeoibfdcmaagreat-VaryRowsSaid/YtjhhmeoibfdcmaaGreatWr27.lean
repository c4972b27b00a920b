/- Lemmas. -/
import Derived.Test.YtjhhmeoibfdcmaaGreatWr25
set_option linter.unusedSimpArgs false
set_option linter.unusedVariables false
set_option maxRecDepth 100000
set_option maxHeartbeats 12800000
namespace Go.Proofs.YtjhhmeoibfdcmaaGreat
section
open Go.RowKit Go.Shelf Qd
attribute [local go_sem] Oper.semAt_some
theorem xi (c:ar) (u:Un) (t:Int) (w:World) (hn:c.name.size≤1000) (hU:aE c u=0) (ht:dp c t) (h5:u.lv=5) (hc:(bF c ⟨4,t,(nK c u 4).ix⟩:Int)≤((aT c ⟨4,t,(nK c u 4).ix⟩:Int)+1+(u.ix-((aT c (nK c u 4):Int)+1)))) :
  Calls Tryz.prog 193 #[av c,aC u,t] w fun e w'=>∃ v,e=.returned (.tuple #[v,.int .i64 0])∧zH w' v (dh c u t)∧Below w w w':=by
 obtain ⟨i,e1,e0,hg,aB,e3,e4,e5,e6⟩:=mI hU ht h5;have ba:=dz aB;have R:=dz hg;have bp:=di c t (bN aB).2.2.2.1;have bt:=di c u.yr (bN hg).2.2.2.1;have ay:=tp hg;have aA:=tp aB;have c6:(i:Int)+1≤60:=by
  have h1:=(bN hg).2.2.2.2.2;have h2:=(dv c u.yr (bN hg).2.2.2.1 4).2;have h3:uI ⟨4,u.yr,(i:Int)+1⟩=i:=by simp [uI]
  rw [h3] at h1;simp only at h1;omega
 have bx:dh c u t=ij ⟨5,t,(aT c ⟨4,t,(i:Int)+1⟩:Int)+1+(u.ix-((aT c ⟨4,u.yr,(i:Int)+1⟩:Int)+1))⟩ (min (bF c ⟨4,t,(i:Int)+1⟩:Int) ((aT c ⟨4,t,(i:Int)+1⟩:Int)+1+(u.ix-((aT c ⟨4,u.yr,(i:Int)+1⟩:Int)+1)))+1-((aT c ⟨4,t,(i:Int)+1⟩:Int)+1+(u.ix-((aT c ⟨4,u.yr,(i:Int)+1⟩:Int)+1)))).toNat:=by rw [dh,if_pos h5,e1]
 rw [bx];clear bx;simp only at ba R ay aA;rw [e1] at hc;simp only at hc;rw [Int.min_eq_left hc];have dq:(u.lv==5)=true:=by simp [h5]
 have c7:1≤u.ix∧u.ix≤61:=om;obtain ⟨i0,hi,cE,cI,cM⟩:=info_parts fG;obtain ⟨H,ad⟩:∃ A,aT c ⟨4,u.yr,(i:Int)+1⟩=A:=⟨_,rfl⟩;obtain ⟨B0,bh⟩:∃ B,bF c ⟨4,u.yr,(i:Int)+1⟩=B:=⟨_,rfl⟩;obtain ⟨A,ah⟩:∃ A,aT c ⟨4,t,(i:Int)+1⟩=A:=⟨_,rfl⟩;obtain ⟨B,al⟩:∃ B,bF c ⟨4,t,(i:Int)+1⟩=B:=⟨_,rfl⟩;obtain ⟨N,bl⟩:∃ N,bW c t=N:=⟨_,rfl⟩;obtain ⟨N0,a6⟩:∃ N,bW c u.yr=N:=⟨_,rfl⟩;rw [ad,bh] at ay R;rw [ah,al] at aA ba;rw [ah,al,ad] at hc
 try rw [ah]
 try rw [al]
 try rw [ad]
 rw [bl] at ba bp;rw [a6] at R bt;have a7:=hide ay;have a8:=hide aA;have HE:=hide (And.intro e0 e1);clear ay aA hU hg aB ht h5 ad bh ah al bl a6 e0 e1 e3 e4 e5 e6;simp only [av,aC];refine (callsIn_wide (n:=5)).1 ?_;refine callsIn_of_wp_marks Tryz.func193 rfl trivial ?_ rfl;simp only [Tryz.ntmps193,List.size_toArray,List.length_cons,List.length_nil,Nat.reduceAdd,Nat.reduceSub,Array.replicate_succ,Array.replicate_zero,List.push_toArray,List.append_toArray,List.nil_append,List.cons_append]
 gi_wp2_with fail
 have b7:=hide (mG c u w);have b2:=hide (show Below w w (((w.alloc (.cells (bY c) 24)).alloc (.cells #[u.lv,u.yr,u.ix] 26)).alloc (.cells #[u.lv,u.yr,u.ix] 26)) by (repeat' exact bel));refine ⟨trivial,(callsIn_wide.2 (FZ c u 4 _ hn)).mono ?_⟩;rintro e w1 ⟨rfl,bb⟩;rw [HE.out.1,HE.out.2];simp only [aC];have J:=hide (b7.out.call (by exact bb));have b3:=hide (b2.out.trans (bb.mono ae));clear bb;have d4:w.heap.size+2<w1.heap.size:=J.out.lt;have V:w.heap.size<w1.heap.size:=om;have aF:w.heap.size+1<w1.heap.size:=om;have a0:w.heap.size+1+1<w1.heap.size:=om;obtain ⟨q0,q1,q2,q3,q4,q5,q6,q7,q8,q9,a2,a3,a4,a5⟩:=J.out.1.cal;obtain ⟨u0,u1,u2⟩:=J.out.un;obtain ⟨⟨p0,p1,p2⟩,p3,p4,p5⟩:=J.out.pn
 gi_wp2_with fail
 refine ⟨trivial,(callsIn_wide.2 (gO c ⟨4,u.yr,(i:Int)+1⟩ 5 _ hn)).mono ?_⟩;rintro e w2 ⟨rfl,bc⟩;rw [a7.out.1,a7.out.2.1,a7.out.2.2];simp only [aC];have O:=hide (((J.out.setp 4 u.yr ((i:Int)+1)).alloc _).call (by exact bc));have b4:=hide (((((b3.out.setCell (p:=⟨w+1+1,0,none⟩) ae (.int .i64 4)).setCell (p:=⟨w+1+1,1,none⟩) ae (.int .i64 u.yr)).setCell (p:=⟨w+1+1,2,none⟩) ae (.int .i64 ((i:Int)+1))).alloc ae _).trans (bc.mono ae));clear bc;clear q0 q1 q2 q3 q4 q5 q6 q7 q8 q9 a2 a3 a4 a5;clear u0 u1 u2 p0 p1 p2 p3 p4 p5 V aF a0;have d5:w.heap.size+2<w2.heap.size:=O.out.lt;have V:w.heap.size<w2.heap.size:=om;have aF:w.heap.size+1<w2.heap.size:=om;have a0:w.heap.size+1+1<w2.heap.size:=om;obtain ⟨q0,q1,q2,q3,q4,q5,q6,q7,q8,q9,a2,a3,a4,a5⟩:=O.out.1.cal;obtain ⟨u0,u1,u2⟩:=O.out.un;obtain ⟨⟨p0,p1,p2⟩,p3,p4,p5⟩:=O.out.pn
 gi_wp2_with fail
 refine ⟨trivial,(callsIn_wide.2 (gO c ⟨4,t,(i:Int)+1⟩ 5 _ hn)).mono ?_⟩;rintro e F ⟨rfl,S⟩;rw [a8.out.1,a8.out.2.1,a8.out.2.2];simp only [aC];have ab:=hide ((((O.out.year t).alloc _).alloc _).call (by exact S));have b5:=hide (((((b4.out.setCell (p:=⟨w+1+1,1,none⟩) ae (.int .i64 t)).alloc ae _).alloc ae _)).trans (S.mono ae));have GO:=((ap.new (w2.setCell ⟨w+1+1,1,none⟩ (.int .i64 t)) #[.int .i64 5,u.yr,.int .i64 ((H:Int)+1)] 26).alloc (.cells #[.int .i64 5,u.yr,.int .i64 (B0:Int)] 26)).call (by exact S);have dd:F.cell? ⟨w2,2,none⟩=some (.int .i64 ((H:Int)+1)):=by simpa using GO.cell 2
 have c8:w2.heap.size<F.heap.size:=aj S;clear S GO;clear q0 q1 q2 q3 q4 q5 q6 q7 q8 q9 a2 a3 a4 a5;clear u0 u1 u2 p0 p1 p2 p3 p4 p5 V aF a0;have d6:w.heap.size+2<F.heap.size:=ab.out.lt;have V:w.heap.size<F.heap.size:=om;have aF:w.heap.size+1<F.heap.size:=om;have a0:w.heap.size+1+1<F.heap.size:=om;obtain ⟨q0,q1,q2,q3,q4,q5,q6,q7,q8,q9,a2,a3,a4,a5⟩:=ab.out.1.cal;obtain ⟨u0,u1,u2⟩:=ab.out.un;obtain ⟨⟨p0,p1,p2⟩,p3,p4,p5⟩:=ab.out.pn
 gi_wp2_with fail
 refine ⟨trivial,(m6 _ ⟨5,t,((A:Int)+1+(u.ix-((H:Int)+1)))⟩ ⟨5,t,(B:Int)⟩ _).mono ?_⟩;rintro e w4 ⟨rfl,rfl⟩;simp only
 gi_wp2_with fail
 have b6:=hide b5.out;have c9:w.heap.size<F.heap.size:=V;obtain ⟨W5,I⟩:∃ W5:World,W5=((((F.alloc (.cells #[.int .i64 5,t,.int .i64 ((A:Int)+1+(u.ix-((H:Int)+1)))] 26)).alloc (.cells #[.int .i64 5,t,.int .i64 (B:Int)] 26)).alloc (.cells #[.slice none 0 0] 115)).alloc (.cells #[.int .i64 5,t,.int .i64 ((A:Int)+1+(u.ix-((H:Int)+1)))] 26)).alloc (.cells #[.int .i64 5,t,.int .i64 (B:Int)] 26):=⟨_,rfl⟩;have s0:ap W5 (F+3) #[.int .i64 5,t,.int .i64 ((A:Int)+1+(u.ix-((H:Int)+1)))] 26:=by
  rw [I];have:=(ap.new (((F.alloc (.cells #[.int .i64 5,t,.int .i64 ((A:Int)+1+(u.ix-((H:Int)+1)))] 26)).alloc (.cells #[.int .i64 5,t,.int .i64 (B:Int)] 26)).alloc (.cells #[.slice none 0 0] 115)) #[.int .i64 5,t,.int .i64 ((A:Int)+1+(u.ix-((H:Int)+1)))] 26).alloc (.cells #[.int .i64 5,t,.int .i64 (B:Int)] 26);simpa using this
 have s1:ap W5 (F+4) #[.int .i64 5,t,.int .i64 (B:Int)] 26:=by
  rw [I];have:=ap.new ((((F.alloc (.cells #[.int .i64 5,t,.int .i64 ((A:Int)+1+(u.ix-((H:Int)+1)))] 26)).alloc (.cells #[.int .i64 5,t,.int .i64 (B:Int)] 26)).alloc (.cells #[.slice none 0 0] 115)).alloc (.cells #[.int .i64 5,t,.int .i64 ((A:Int)+1+(u.ix-((H:Int)+1)))] 26)) #[.int .i64 5,t,.int .i64 (B:Int)] 26;simpa using this
 have sO:Boxed W5 (F.heap.size+2) 115 (.slice none 0 0):=by
  rw [I];have:=((Boxed.new ((F.alloc (.cells #[.int .i64 5,t,.int .i64 ((A:Int)+1+(u.ix-((H:Int)+1)))] 26)).alloc (.cells #[.int .i64 5,t,.int .i64 (B:Int)] 26)) 115 (.slice none 0 0)).alloc (.cells #[.int .i64 5,t,.int .i64 ((A:Int)+1+(u.ix-((H:Int)+1)))] 26)).alloc (.cells #[.int .i64 5,t,.int .i64 (B:Int)] 26);simpa using this
 have d7:w.heap.size≤F.heap.size+2:=om;have ca:Below w w W5:=by
  have b1:=b6.out;rw [I];refine Below.alloc (Below.alloc (Below.alloc (Below.alloc (Below.alloc b1 ?_ _) ?_ _) ?_ _) ?_ _) ?_ _ <;> first | omega | (simp;omega)
 have d2:W5.heap.size=F.heap.size+5:=by rw [I];simp
 rw [← I];clear I;simp only [pM]
 refine wpIn_rangeFunc_ownH (α:=Wk ⟨5,t,((A:Int)+1+(u.ix-((H:Int)+1)))⟩ ((B:Int)+1-((A:Int)+1+(u.ix-((H:Int)+1)))).toNat) rfl om (gf:=236) (lb:=#[.pointer (some ⟨F+3,0,none⟩),.pointer (some ⟨F+4,0,none⟩)]) rfl trivial (enters_of Tryz.func236 (by kernel_rfl) rfl)
  (jb ⟨5,t,((A:Int)+1+(u.ix-((H:Int)+1)))⟩ ⟨5,t,(B:Int)⟩ ((B:Int)+1-((A:Int)+1+(u.ix-((H:Int)+1)))).toNat rfl (by simp only;omega) (F.heap.size+3) (F.heap.size+4) W5 s0 s1)
  da.trans (fun W l o o' _ h1 h2 _=>gF W l o o' h1 h2) (Below.refl _ _) (fun _=>rfl)
  (fun (f:List (Wk ⟨5,t,((A:Int)+1+(u.ix-((H:Int)+1)))⟩ ((B:Int)+1-((A:Int)+1+(u.ix-((H:Int)+1)))).toNat)) W=>(∃ v,Boxed W (F.heap.size+2) 115 v∧W.ownsRow (F.heap.size+2) 26 3 v (cN f).length (eG (cN f))∧(v=.slice none 0 0↔cN f=[]))∧Below w w W)
  (fun _ _ _=>False)
  (OwnFrom.and (Own.from (holdsRow_own (F.heap.size+2) (F.heap.size+2) _ _ 3 (fun (f:List (Wk ⟨5,t,((A:Int)+1+(u.ix-((H:Int)+1)))⟩ ((B:Int)+1-((A:Int)+1+(u.ix-((H:Int)+1)))).toNat))=>(cN f).length) (fun f=>eG (cN f)) (fun f v=>v=.slice none 0 0↔cN f=[])) _) (ownFrom_below (Nat.le_refl _) om))
  (fun _ _ _ _ _ hs _ _=>hs)
  ⟨⟨_,sO,World.ownsRow_nil _ _ _ _,by simp [cN]⟩,ca⟩
  (KE (F.heap.size+2) ?a1) (fun x a'=>oQ _ _ x a' _)
  ?assign ?body ?done ?stop
 case assign =>
  rintro l f x W K ⟨⟨v,hv,E,G⟩,hB⟩ hK;have cb:=hide hK;clear hK;obtain ⟨Bx,aq⟩:∃ Bx,Bx=W.heap.size:=⟨_,rfl⟩;simp only [AG,aC]
  gi_wp2
  rw [← aq];have cl:=fun a' (h:a'=_)=>cb.out a' _ ((KeepsOthers.alloc _ _).from _) (da.alloc _ _) ⟨⟨v,hv.alloc _,E.alloc _,G⟩,hB.alloc hB.size _⟩ ⟨Bx,by rw [aq];exact hv.lt,by rw [aq];exact ap.new W #[.int .i64 x.1.lv,.int .i64 x.1.yr,.int .i64 x.1.ix] 26,h⟩
  have cp:=cl _ rfl;exact cp
 case body =>
  rintro l f ⟨x,d3⟩ a' W hl ⟨r,hr⟩ ⟨⟨v,hv,E,G⟩,hB⟩ ⟨Bx,aq,bX,rfl⟩ d0;simp only at bX ⊢;have c3:W.cell? ⟨Bx,0,none⟩=some (.int .i64 x.lv):=bX.cell 0;have c4:W.cell? ⟨Bx,1,none⟩=some (.int .i64 x.yr):=bX.cell 1;have c5:W.cell? ⟨Bx,2,none⟩=some (.int .i64 x.ix):=bX.cell 2;have hc:=hv.cell;have cr:F.heap.size+2≤W.heap.size:=Nat.le_of_lt hv.lt;have d1:(cN f).length+1≤2000000:=by rw [kB];omega
  gi_wp2_with (gi_at_builtin;refine ee _ rfl _ _ 115 rfl (F.heap.size+2) 26 i0 (.agg #[.int .i64 0,.int .i64 0,.int .i64 0]) 3 24 Tryz.underlying115 hi cE cI cM rfl ag _ _ _ rfl (E.alloc _) ⟨W,0,none⟩ 1 1 [.int .i64 x.lv,.int .i64 x.yr,.int .i64 x.ix] rfl rfl (iO _ _ _ _ _) (by simp [Value.oneCell']) (by unfold maxLen;omega) om ae om ?_;intro v' w6 U T c0;obtain ⟨g',bd,rfl⟩:=ownsRow_succ U;obtain ⟨bw,c2,c1,cS,cs⟩:=hv.appended ag E cr om U T;have ds:=bw.cell;have dY:=bw.frozen)
  have cy:=ug (v':=.slice (some ⟨g',0,none⟩) ((cN f).length+1) bd) hv E (by rcases Nat.eq_zero_or_pos (cN f).length with h | h;exact .inl (G.2 (List.length_eq_zero_iff.1 h));exact .inr h) T c0;refine ⟨cS.from _,cy,⟨_,c2,?_,?_⟩,hB.trans (cs.mono om)⟩
  ·rw [dP,gl]
   simpa using c1
  ·rw [dP]
   simp
 case done =>
  rintro D xs W hD b0 ⟨⟨v,hv,E,G⟩,hB⟩ hK;rw [show cN xs=ij ⟨5,t,((A:Int)+1+(u.ix-((H:Int)+1)))⟩ ((B:Int)+1-((A:Int)+1+(u.ix-((H:Int)+1)))).toNat from b0] at E G;clear b0;have hc:=hv.cell;have b9:=hide E;have b8:=hide G;clear E G hv
  gi_wp2
  refine ⟨by simp,.inl ⟨_,_,rfl,run_takeDeferred hK,?_⟩⟩;refine ⟨_,ku rfl rfl,v,rfl,?_,?_⟩
  ·exact tc (b:=0) (ownsRow_putObj (b9.out.base (Nat.zero_le _)) _ hK rfl) b8.out
  ·exact hB.trans (belowK_b (w:=w) (Nat.le_refl _) _ D _ _ om hK rfl rfl)
 case stop =>
  rintro D cc f W _ _ h _;exact h.elim
theorem xy (c:ar) (u:Un) (t:Int) (w:World) (hn:c.name.size≤1000) (hU:aE c u=0) (ht:dp c t) (h5:u.lv=5) (hc:((aT c ⟨4,t,(nK c u 4).ix⟩:Int)+1+(u.ix-((aT c (nK c u 4):Int)+1)))<(bF c ⟨4,t,(nK c u 4).ix⟩:Int)) :
  Calls Tryz.prog 193 #[av c,aC u,t] w fun e w'=>∃ v,e=.returned (.tuple #[v,.int .i64 0])∧zH w' v (dh c u t)∧Below w w w':=by
 obtain ⟨i,e1,e0,hg,aB,e3,e4,e5,e6⟩:=mI hU ht h5;have ba:=dz aB;have R:=dz hg;have bp:=di c t (bN aB).2.2.2.1;have bt:=di c u.yr (bN hg).2.2.2.1;have ay:=tp hg;have aA:=tp aB;have c6:(i:Int)+1≤60:=by
  have h1:=(bN hg).2.2.2.2.2;have h2:=(dv c u.yr (bN hg).2.2.2.1 4).2;have h3:uI ⟨4,u.yr,(i:Int)+1⟩=i:=by simp [uI]
  rw [h3] at h1;simp only at h1;omega
 have bx:dh c u t=ij ⟨5,t,(aT c ⟨4,t,(i:Int)+1⟩:Int)+1+(u.ix-((aT c ⟨4,u.yr,(i:Int)+1⟩:Int)+1))⟩ (min (bF c ⟨4,t,(i:Int)+1⟩:Int) ((aT c ⟨4,t,(i:Int)+1⟩:Int)+1+(u.ix-((aT c ⟨4,u.yr,(i:Int)+1⟩:Int)+1)))+1-((aT c ⟨4,t,(i:Int)+1⟩:Int)+1+(u.ix-((aT c ⟨4,u.yr,(i:Int)+1⟩:Int)+1)))).toNat:=by rw [dh,if_pos h5,e1]
 rw [bx];clear bx;simp only at ba R ay aA;rw [e1] at hc;simp only at hc;rw [Int.min_eq_right (Int.le_of_lt hc)];have dq:(u.lv==5)=true:=by simp [h5]
 have c7:1≤u.ix∧u.ix≤61:=om;obtain ⟨i0,hi,cE,cI,cM⟩:=info_parts fG;obtain ⟨f,ad⟩:∃ A,aT c ⟨4,u.yr,(i:Int)+1⟩=A:=⟨_,rfl⟩;obtain ⟨B0,bh⟩:∃ B,bF c ⟨4,u.yr,(i:Int)+1⟩=B:=⟨_,rfl⟩;obtain ⟨A,ah⟩:∃ A,aT c ⟨4,t,(i:Int)+1⟩=A:=⟨_,rfl⟩;obtain ⟨B,al⟩:∃ B,bF c ⟨4,t,(i:Int)+1⟩=B:=⟨_,rfl⟩;obtain ⟨N,bl⟩:∃ N,bW c t=N:=⟨_,rfl⟩;obtain ⟨N0,a6⟩:∃ N,bW c u.yr=N:=⟨_,rfl⟩;rw [ad,bh] at ay R;rw [ah,al] at aA ba;rw [ah,al,ad] at hc
 try rw [ah]
 try rw [al]
 try rw [ad]
 rw [bl] at ba bp;rw [a6] at R bt;have a7:=hide ay;have a8:=hide aA;have HE:=hide (And.intro e0 e1);clear ay aA hU hg aB ht h5 ad bh ah al bl a6 e0 e1 e3 e4 e5 e6;simp only [av,aC];refine (callsIn_wide (n:=5)).1 ?_;refine callsIn_of_wp_marks Tryz.func193 rfl trivial ?_ rfl;simp only [Tryz.ntmps193,List.size_toArray,List.length_cons,List.length_nil,Nat.reduceAdd,Nat.reduceSub,Array.replicate_succ,Array.replicate_zero,List.push_toArray,List.append_toArray,List.nil_append,List.cons_append]
 gi_wp2_with fail
 have b7:=hide (mG c u w);have b2:=hide (show Below w w (((w.alloc (.cells (bY c) 24)).alloc (.cells #[u.lv,u.yr,u.ix] 26)).alloc (.cells #[u.lv,u.yr,u.ix] 26)) by (repeat' exact bel));refine ⟨trivial,(callsIn_wide.2 (FZ c u 4 _ hn)).mono ?_⟩;rintro e w1 ⟨rfl,bb⟩;rw [HE.out.1,HE.out.2];simp only [aC];have J:=hide (b7.out.call (by exact bb));have b3:=hide (b2.out.trans (bb.mono ae));clear bb;have d4:w.heap.size+2<w1.heap.size:=J.out.lt;have V:w.heap.size<w1.heap.size:=om;have aF:w.heap.size+1<w1.heap.size:=om;have a0:w.heap.size+1+1<w1.heap.size:=om;obtain ⟨q0,q1,q2,q3,q4,q5,q6,q7,q8,q9,a2,a3,a4,a5⟩:=J.out.1.cal;obtain ⟨u0,u1,u2⟩:=J.out.un;obtain ⟨⟨p0,p1,p2⟩,p3,p4,p5⟩:=J.out.pn
 gi_wp2_with fail
 refine ⟨trivial,(callsIn_wide.2 (gO c ⟨4,u.yr,(i:Int)+1⟩ 5 _ hn)).mono ?_⟩;rintro e w2 ⟨rfl,bc⟩;rw [a7.out.1,a7.out.2.1,a7.out.2.2];simp only [aC];have O:=hide (((J.out.setp 4 u.yr ((i:Int)+1)).alloc _).call (by exact bc));have b4:=hide (((((b3.out.setCell (p:=⟨w+1+1,0,none⟩) ae (.int .i64 4)).setCell (p:=⟨w+1+1,1,none⟩) ae (.int .i64 u.yr)).setCell (p:=⟨w+1+1,2,none⟩) ae (.int .i64 ((i:Int)+1))).alloc ae _).trans (bc.mono ae));clear bc;clear q0 q1 q2 q3 q4 q5 q6 q7 q8 q9 a2 a3 a4 a5;clear u0 u1 u2 p0 p1 p2 p3 p4 p5 V aF a0;have d5:w.heap.size+2<w2.heap.size:=O.out.lt;have V:w.heap.size<w2.heap.size:=om;have aF:w.heap.size+1<w2.heap.size:=om;have a0:w.heap.size+1+1<w2.heap.size:=om;obtain ⟨q0,q1,q2,q3,q4,q5,q6,q7,q8,q9,a2,a3,a4,a5⟩:=O.out.1.cal;obtain ⟨u0,u1,u2⟩:=O.out.un;obtain ⟨⟨p0,p1,p2⟩,p3,p4,p5⟩:=O.out.pn
 gi_wp2_with fail
 refine ⟨trivial,(callsIn_wide.2 (gO c ⟨4,t,(i:Int)+1⟩ 5 _ hn)).mono ?_⟩;rintro e G ⟨rfl,S⟩;rw [a8.out.1,a8.out.2.1,a8.out.2.2];simp only [aC];have ab:=hide ((((O.out.year t).alloc _).alloc _).call (by exact S));have b5:=hide (((((b4.out.setCell (p:=⟨w+1+1,1,none⟩) ae (.int .i64 t)).alloc ae _).alloc ae _)).trans (S.mono ae));have GO:=((ap.new (w2.setCell ⟨w+1+1,1,none⟩ (.int .i64 t)) #[.int .i64 5,u.yr,.int .i64 ((f:Int)+1)] 26).alloc (.cells #[.int .i64 5,u.yr,.int .i64 (B0:Int)] 26)).call (by exact S);have dd:G.cell? ⟨w2,2,none⟩=some (.int .i64 ((f:Int)+1)):=by simpa using GO.cell 2
 have c8:w2.heap.size<G.heap.size:=aj S;clear S GO;clear q0 q1 q2 q3 q4 q5 q6 q7 q8 q9 a2 a3 a4 a5;clear u0 u1 u2 p0 p1 p2 p3 p4 p5 V aF a0;have d6:w.heap.size+2<G.heap.size:=ab.out.lt;have V:w.heap.size<G.heap.size:=om;have aF:w.heap.size+1<G.heap.size:=om;have a0:w.heap.size+1+1<G.heap.size:=om;obtain ⟨q0,q1,q2,q3,q4,q5,q6,q7,q8,q9,a2,a3,a4,a5⟩:=ab.out.1.cal;obtain ⟨u0,u1,u2⟩:=ab.out.un;obtain ⟨⟨p0,p1,p2⟩,p3,p4,p5⟩:=ab.out.pn
 gi_wp2_with fail
 refine ⟨trivial,(m6 _ ⟨5,t,((A:Int)+1+(u.ix-((f:Int)+1)))⟩ ⟨5,t,((A:Int)+1+(u.ix-((f:Int)+1)))⟩ _).mono ?_⟩;rintro e w4 ⟨rfl,rfl⟩;simp only
 gi_wp2_with fail
 have b6:=hide b5.out;have c9:w.heap.size<G.heap.size:=V;obtain ⟨W5,I⟩:∃ W5:World,W5=((((G.alloc (.cells #[.int .i64 5,t,.int .i64 ((A:Int)+1+(u.ix-((f:Int)+1)))] 26)).alloc (.cells #[.int .i64 5,t,.int .i64 ((A:Int)+1+(u.ix-((f:Int)+1)))] 26)).alloc (.cells #[.slice none 0 0] 115)).alloc (.cells #[.int .i64 5,t,.int .i64 ((A:Int)+1+(u.ix-((f:Int)+1)))] 26)).alloc (.cells #[.int .i64 5,t,.int .i64 ((A:Int)+1+(u.ix-((f:Int)+1)))] 26):=⟨_,rfl⟩;have s0:ap W5 (G+3) #[.int .i64 5,t,.int .i64 ((A:Int)+1+(u.ix-((f:Int)+1)))] 26:=by
  rw [I];have:=(ap.new (((G.alloc (.cells #[.int .i64 5,t,.int .i64 ((A:Int)+1+(u.ix-((f:Int)+1)))] 26)).alloc (.cells #[.int .i64 5,t,.int .i64 ((A:Int)+1+(u.ix-((f:Int)+1)))] 26)).alloc (.cells #[.slice none 0 0] 115)) #[.int .i64 5,t,.int .i64 ((A:Int)+1+(u.ix-((f:Int)+1)))] 26).alloc (.cells #[.int .i64 5,t,.int .i64 ((A:Int)+1+(u.ix-((f:Int)+1)))] 26);simpa using this
 have s1:ap W5 (G+4) #[.int .i64 5,t,.int .i64 ((A:Int)+1+(u.ix-((f:Int)+1)))] 26:=by
  rw [I];have:=ap.new ((((G.alloc (.cells #[.int .i64 5,t,.int .i64 ((A:Int)+1+(u.ix-((f:Int)+1)))] 26)).alloc (.cells #[.int .i64 5,t,.int .i64 ((A:Int)+1+(u.ix-((f:Int)+1)))] 26)).alloc (.cells #[.slice none 0 0] 115)).alloc (.cells #[.int .i64 5,t,.int .i64 ((A:Int)+1+(u.ix-((f:Int)+1)))] 26)) #[.int .i64 5,t,.int .i64 ((A:Int)+1+(u.ix-((f:Int)+1)))] 26;simpa using this
 have sO:Boxed W5 (G.heap.size+2) 115 (.slice none 0 0):=by
  rw [I];have:=((Boxed.new ((G.alloc (.cells #[.int .i64 5,t,.int .i64 ((A:Int)+1+(u.ix-((f:Int)+1)))] 26)).alloc (.cells #[.int .i64 5,t,.int .i64 ((A:Int)+1+(u.ix-((f:Int)+1)))] 26)) 115 (.slice none 0 0)).alloc (.cells #[.int .i64 5,t,.int .i64 ((A:Int)+1+(u.ix-((f:Int)+1)))] 26)).alloc (.cells #[.int .i64 5,t,.int .i64 ((A:Int)+1+(u.ix-((f:Int)+1)))] 26);simpa using this
 have d7:w.heap.size≤G.heap.size+2:=om;have ca:Below w w W5:=by
  have b1:=b6.out;rw [I];refine Below.alloc (Below.alloc (Below.alloc (Below.alloc (Below.alloc b1 ?_ _) ?_ _) ?_ _) ?_ _) ?_ _ <;> first | omega | (simp;omega)
 have d2:W5.heap.size=G.heap.size+5:=by rw [I];simp
 rw [← I];clear I;simp only [pM]
 refine wpIn_rangeFunc_ownH (α:=Wk ⟨5,t,((A:Int)+1+(u.ix-((f:Int)+1)))⟩ (((A:Int)+1+(u.ix-((f:Int)+1)))+1-((A:Int)+1+(u.ix-((f:Int)+1)))).toNat) rfl om (gf:=236) (lb:=#[.pointer (some ⟨G+3,0,none⟩),.pointer (some ⟨G+4,0,none⟩)]) rfl trivial (enters_of Tryz.func236 (by kernel_rfl) rfl)
  (jb ⟨5,t,((A:Int)+1+(u.ix-((f:Int)+1)))⟩ ⟨5,t,((A:Int)+1+(u.ix-((f:Int)+1)))⟩ (((A:Int)+1+(u.ix-((f:Int)+1)))+1-((A:Int)+1+(u.ix-((f:Int)+1)))).toNat rfl (by simp only;omega) (G.heap.size+3) (G.heap.size+4) W5 s0 s1)
  da.trans (fun W l o o' _ h1 h2 _=>gF W l o o' h1 h2) (Below.refl _ _) (fun _=>rfl)
  (fun (E:List (Wk ⟨5,t,((A:Int)+1+(u.ix-((f:Int)+1)))⟩ (((A:Int)+1+(u.ix-((f:Int)+1)))+1-((A:Int)+1+(u.ix-((f:Int)+1)))).toNat)) W=>(∃ v,Boxed W (G.heap.size+2) 115 v∧W.ownsRow (G.heap.size+2) 26 3 v (cN E).length (eG (cN E))∧(v=.slice none 0 0↔cN E=[]))∧Below w w W)
  (fun _ _ _=>False)
  (OwnFrom.and (Own.from (holdsRow_own (G.heap.size+2) (G.heap.size+2) _ _ 3 (fun (E:List (Wk ⟨5,t,((A:Int)+1+(u.ix-((f:Int)+1)))⟩ (((A:Int)+1+(u.ix-((f:Int)+1)))+1-((A:Int)+1+(u.ix-((f:Int)+1)))).toNat))=>(cN E).length) (fun E=>eG (cN E)) (fun E v=>v=.slice none 0 0↔cN E=[])) _) (ownFrom_below (Nat.le_refl _) om))
  (fun _ _ _ _ _ hs _ _=>hs)
  ⟨⟨_,sO,World.ownsRow_nil _ _ _ _,by simp [cN]⟩,ca⟩
  (KE (G.heap.size+2) ?a1) (fun x a'=>oQ _ _ x a' _)
  ?assign ?body ?done ?stop
 case assign =>
  rintro l E x W K ⟨⟨v,hv,F,H⟩,hB⟩ hK;have cb:=hide hK;clear hK;obtain ⟨Bx,aq⟩:∃ Bx,Bx=W.heap.size:=⟨_,rfl⟩;simp only [AG,aC]
  gi_wp2
  rw [← aq];have cl:=fun a' (h:a'=_)=>cb.out a' _ ((KeepsOthers.alloc _ _).from _) (da.alloc _ _) ⟨⟨v,hv.alloc _,F.alloc _,H⟩,hB.alloc hB.size _⟩ ⟨Bx,by rw [aq];exact hv.lt,by rw [aq];exact ap.new W #[.int .i64 x.1.lv,.int .i64 x.1.yr,.int .i64 x.1.ix] 26,h⟩
  have cp:=cl _ rfl;exact cp
 case body =>
  rintro l E ⟨x,d3⟩ a' W hl ⟨r,hr⟩ ⟨⟨v,hv,F,H⟩,hB⟩ ⟨Bx,aq,bX,rfl⟩ d0;simp only at bX ⊢;have c3:W.cell? ⟨Bx,0,none⟩=some (.int .i64 x.lv):=bX.cell 0;have c4:W.cell? ⟨Bx,1,none⟩=some (.int .i64 x.yr):=bX.cell 1;have c5:W.cell? ⟨Bx,2,none⟩=some (.int .i64 x.ix):=bX.cell 2;have hc:=hv.cell;have cr:G.heap.size+2≤W.heap.size:=Nat.le_of_lt hv.lt;have d1:(cN E).length+1≤2000000:=by rw [kB];omega
  gi_wp2_with (gi_at_builtin;refine ee _ rfl _ _ 115 rfl (G.heap.size+2) 26 i0 (.agg #[.int .i64 0,.int .i64 0,.int .i64 0]) 3 24 Tryz.underlying115 hi cE cI cM rfl ag _ _ _ rfl (F.alloc _) ⟨W,0,none⟩ 1 1 [.int .i64 x.lv,.int .i64 x.yr,.int .i64 x.ix] rfl rfl (iO _ _ _ _ _) (by simp [Value.oneCell']) (by unfold maxLen;omega) om ae om ?_;intro v' w6 U T c0;obtain ⟨g',bd,rfl⟩:=ownsRow_succ U;obtain ⟨bw,c2,c1,cS,cs⟩:=hv.appended ag F cr om U T;have ds:=bw.cell;have dY:=bw.frozen)
  have cy:=ug (v':=.slice (some ⟨g',0,none⟩) ((cN E).length+1) bd) hv F (by rcases Nat.eq_zero_or_pos (cN E).length with h | h;exact .inl (H.2 (List.length_eq_zero_iff.1 h));exact .inr h) T c0;refine ⟨cS.from _,cy,⟨_,c2,?_,?_⟩,hB.trans (cs.mono om)⟩
  ·rw [dP,gl]
   simpa using c1
  ·rw [dP]
   simp
 case done =>
  rintro D xs W hD b0 ⟨⟨v,hv,F,H⟩,hB⟩ hK;rw [show cN xs=ij ⟨5,t,((A:Int)+1+(u.ix-((f:Int)+1)))⟩ (((A:Int)+1+(u.ix-((f:Int)+1)))+1-((A:Int)+1+(u.ix-((f:Int)+1)))).toNat from b0] at F H;clear b0;have hc:=hv.cell;have b9:=hide F;have b8:=hide H;clear F H hv
  gi_wp2
  refine ⟨by simp,.inl ⟨_,_,rfl,run_takeDeferred hK,?_⟩⟩;refine ⟨_,ku rfl rfl,v,rfl,?_,?_⟩
  ·exact tc (b:=0) (ownsRow_putObj (b9.out.base (Nat.zero_le _)) _ hK rfl) b8.out
  ·exact hB.trans (belowK_b (w:=w) (Nat.le_refl _) _ D _ _ om hK rfl rfl)
 case stop =>
  rintro D cc E W _ _ h _;exact h.elim
theorem vd (c:ar) (u:Un) (t:Int) (w:World) (o:c.name.size≤1000) (h:aE c u=0) (E:dp c t) :
  Calls Tryz.prog 193 #[av c,aC u,t] w fun e F=>∃ v,e=.returned (.tuple #[v,.int .i64 0])∧zH F v (dh c u t)∧Below w w F:=by
 by_cases f:u.lv=5
 ·by_cases G:(bF c ⟨4,t,(nK c u 4).ix⟩:Int)≤((aT c ⟨4,t,(nK c u 4).ix⟩:Int)+1+(u.ix-((aT c (nK c u 4):Int)+1)))
  ·exact xi c u t w o h E f G
  ·exact xy c u t w o h E f om
 ·exact Ct c u t w o h E f
end
end Go.Proofs.YtjhhmeoibfdcmaaGreat
