/- Lemmas. -/
import Derived.RangeFuncNested
import Derived.Test.YtpebkobmhhnojaaGreatDoorTp30
set_option linter.unusedSimpArgs false
set_option linter.unusedVariables false
set_option maxRecDepth 100000
set_option maxHeartbeats 12800000
namespace Go.Proofs.YtpebkobmhhnojaaGreatDoor
section
open Go.RowKit Go.Shelf Qd
attribute [local go_sem] Oper.semAt_some
theorem C4 {f:Array Value} {W:World} {h o g n cap:Nat} {e:Int} (I:f[8]?=some (.pointer (some ⟨h,0,none⟩))) (J:f[9]?=some (.pointer (some ⟨o,0,none⟩)))
  (G:ax W h #[.slice (some ⟨g,0,none⟩) n cap] 26) (H:ax W o #[e] 27) :
  (results Tryz.f7 f).run Tryz.prog W=.ok (.tuple #[.slice (some ⟨g,0,none⟩) n cap,e]) W:=by
 have E:=G.cell 0;have F:=H.cell 0;simp at E F;simp [results,Tryz.results7,go_sem,I,J,E,F]
theorem CO (c:aC) (lv f t:Int) (w:World) (hn:c.name.size≤1000) (ny:Nat) (ba:f+(ny:Int)=t+1) (hk:c.okB=true) (hl:1≤lv∧lv≤5) (hf:c.first≤f) (ht:t≤c.last) (b4:f≤t) :
  Calls Tryz.prog 7 #[aI c,lv,f,t] w fun e w'=>∃ g cap,e=.returned (.tuple #[.slice (some ⟨g,0,none⟩) (aT c lv f ny).length cap,.int .i64 0])∧d9 w' g cap (aT c lv f ny)∧w.heap.size≤g∧Below w w w':=by
 have HO:=hide (show dI c=0 by simp [dI,hk]);have a8:decide (1≤lv∧lv≤5)=true:=by simpa using hl
 have hE:∀ a:Nat,a<ny→aR c lv (f+a)=0:=fun a ha=>by
  have h1:c.first≤f+a∧f+a≤c.last:=om
  simp [aR,hk,hl,h1]
 have bc:-10000≤f∧t≤20000:=by
  have h1:=fS hk;omega
 have HE:=hide hE;obtain ⟨i0,hi,bd,bh,bk⟩:=info_parts oJ;clear hE hk;simp only [aI];refine (callsIn_wide (n:=5)).1 ?_;refine callsIn_of_wp_marks Tryz.func7 rfl trivial ?_ rfl;simp only [Tryz.ntmps7,List.size_toArray,List.length_cons,List.length_nil,Nat.reduceAdd,Nat.reduceSub,Array.replicate_succ,Array.replicate_zero,List.push_toArray,List.append_toArray,List.nil_append,List.cons_append]
 gi_wp2_with fail
 refine ⟨trivial,(callsIn_wide.2 (bg c _ hn)).mono ?_⟩;rintro e G ⟨rfl,O⟩;rw [HO.out];have HQ:=hide (ax.below ((ax.new w (bJ c) 24).alloc (.cells #[.slice none 0 0] 26) |>.alloc (.cells #[.int .i64 0] 27)) O ag);have bw:w.heap.size+2<G.heap.size:=am O;have b7:w.heap.size<G.heap.size:=om;have a0:=hide (show Below w w G by (repeat' exact bel));have ad:=hide (ax.below ((ax.new (w.alloc (.cells (bJ c) 24)) #[.slice none 0 0] 26).alloc (.cells #[.int .i64 0] 27)) O af);have ah:=hide (ax.below ((ax.new ((w.alloc (.cells (bJ c) 24)).alloc (.cells #[.slice none 0 0] 26)) #[.int .i64 0] 27)) O af);simp at ad ah;clear O;obtain ⟨q0,q1,q2,q3,q4,q5,q6,q7,q8,q9,b8,b9,ca,cb⟩:=HQ.out.cal
 gi_wp2_with fail
 refine ⟨trivial,(callsIn_wide.2 (bT lv _)).mono ?_⟩;rintro e w2 ⟨rfl,rfl⟩;rw [a8]
 gi_wp2_with fail
 refine ⟨trivial,(qA _ c lv f t _).mono ?_⟩;rintro e w3 ⟨rfl,rfl⟩
 gi_wp2_with fail
 obtain ⟨J,H⟩:∃ J:World,J=(((((G.alloc (.cells #[.slice none 0 0] 26)).alloc (.cells (bJ c) 24)).alloc (.cells #[lv] 3)).alloc (.cells #[f] 3)).alloc (.cells #[t] 3)):=⟨_,rfl⟩;have b6:J.heap.size=G.heap.size+5:=by rw [H];simp
 have sO:Boxed J G.heap.size 26 (.slice none 0 0):=by
  rw [H];exact ((((Boxed.new G _ _).alloc _).alloc _).alloc _).alloc _
 have s0:ax J (G+1) (bJ c) 24:=by
  rw [H];have:=(((ax.new (G.alloc (.cells #[.slice none 0 0] 26)) (bJ c) 24).alloc (.cells #[lv] 3)).alloc (.cells #[f] 3)).alloc (.cells #[t] 3);simpa using this
 have s1:ax J (G+2) #[lv] 3:=by
  rw [H];have:=((ax.new ((G.alloc (.cells #[.slice none 0 0] 26)).alloc (.cells (bJ c) 24)) #[lv] 3).alloc (.cells #[f] 3)).alloc (.cells #[t] 3);simpa using this
 have s2:ax J (G+3) #[f] 3:=by
  rw [H];have:=(ax.new (((G.alloc (.cells #[.slice none 0 0] 26)).alloc (.cells (bJ c) 24)).alloc (.cells #[lv] 3)) #[f] 3).alloc (.cells #[t] 3);simpa using this
 have s3:ax J (G+4) #[t] 3:=by
  rw [H];have:=ax.new ((((G.alloc (.cells #[.slice none 0 0] 26)).alloc (.cells (bJ c) 24)).alloc (.cells #[lv] 3)).alloc (.cells #[f] 3)) #[t] 3;simpa using this
 have r1:ax J (w+1) #[.slice none 0 0] 26:=by
  rw [H];exact ((((ad.out.alloc _).alloc _).alloc _).alloc _).alloc _
 have r2:ax J (w+1+1) #[.int .i64 0] 27:=by
  rw [H];exact ((((ah.out.alloc _).alloc _).alloc _).alloc _).alloc _
 have a2:Below w w J:=by
  have b1:=a0.out;rw [H];refine Below.alloc (Below.alloc (Below.alloc (Below.alloc (Below.alloc b1 ?_ _) ?_ _) ?_ _) ?_ _) ?_ _ <;> first | omega | (simp;omega)
 rw [← H];clear H;have bt:=lS c lv f ny HE.out
 refine wpIn_rangeFunc_ownH (α:=Un) rfl om (gf:=50) (lb:=#[.pointer (some ⟨G+3,0,none⟩),.pointer (some ⟨G+4,0,none⟩),.pointer (some ⟨G+1,0,none⟩),.pointer (some ⟨G+2,0,none⟩)]) rfl trivial (enters_of Tryz.func50 (by kernel_rfl) rfl)
  (mn c lv f t ny hn ba bc HE.out (G.heap.size+3) (G.heap.size+4) (G.heap.size+1) (G.heap.size+2) J s0 s2 s3 s1)
  cR.trans (fun W l o o' _ h1 h2 _=>jz W l o o' h1 h2) (Below.refl _ _) (fun _=>rfl)
  (fun F W=>(((∃ v,Boxed W G.heap.size 26 v∧W.ownsRow w.heap.size 33 3 v F.length (fQ F)∧(v=.slice none 0 0↔F=[]))∧ax W (w+1) #[.slice none 0 0] 26)∧ax W (w+1+1) #[.int .i64 0] 27)∧Below w w W)
  (fun _ _ _=>False)
  (OwnFrom.and (OwnFrom.and (OwnFrom.and (Own.from (holdsRow_own w.heap.size G.heap.size _ _ 3 (fun F=>F.length) (fun F=>fQ F) (fun F v=>v=.slice none 0 0↔F=[])) _) (Own.from (fC _ _ _) _)) (Own.from (fC _ _ _) _)) (ownFrom_below (Nat.le_refl _) om))
  (fun _ _ _ _ _ hs _ _=>hs)
  ⟨⟨⟨⟨_,sO,World.ownsRow_nil _ _ _ _,by simp⟩,r1⟩,r2⟩,a2⟩
  (GZ G.heap.size ?a1) (fun x a'=>ug _ _ x a' _)
  ?assign ?body ?done ?stop
 case assign =>
  rintro l F x W K ⟨⟨⟨⟨v,hv,E,V⟩,k1⟩,k2⟩,hB⟩ hK;have I:=hide hK;clear hK;obtain ⟨Bx,aa⟩:∃ Bx,Bx=W.heap.size:=⟨_,rfl⟩;simp only [Ci,aZ]
  gi_wp2
  rw [← aa];have a3:=fun a' (h:a'=_)=>I.out a' _ ((KeepsOthers.alloc _ _).from _) (cR.alloc _ _) ⟨⟨⟨⟨v,hv.alloc _,E.alloc _,V⟩,k1.alloc _⟩,k2.alloc _⟩,hB.alloc hB.size _⟩ ⟨Bx,by rw [aa];exact hv.lt,by rw [aa];exact ax.new W #[.int .i64 x.lv,.int .i64 x.yr,.int .i64 x.ix] 33,h⟩
  have a4:=a3 _ rfl;exact a4
 case body =>
  rintro l F x a' W hl ⟨r,hr⟩ ⟨⟨⟨⟨v,hv,E,V⟩,k1⟩,k2⟩,hB⟩ ⟨Bx,aa,bX,rfl⟩ aq;have hc:=hv.cell;have bl:W.cell? ⟨Bx,0,none⟩=some (.int .i64 x.lv):=bX.cell 0;have bp:W.cell? ⟨Bx,1,none⟩=some (.int .i64 x.yr):=bX.cell 1;have bs:W.cell? ⟨Bx,2,none⟩=some (.int .i64 x.ix):=bX.cell 2;have b0:=hB.size;have b5:F.length+1≤2000000:=om;have bx:=hide aq;clear aq
  gi_wp2_with (gi_at_builtin;refine wpListIn_append_own _ rfl _ _ 26 rfl w.heap.size 33 i0 (.agg #[.int .i64 0,.int .i64 0,.int .i64 0]) 3 24 Tryz.underlying26 hi bd bh bk rfl aj _ _ _ rfl (E.alloc _) ⟨W,0,none⟩ 1 1 [.int .i64 x.lv,.int .i64 x.yr,.int .i64 x.ix] rfl rfl (nu _ _ _ _ _) (by simp [Value.oneCell']) (by unfold maxLen;omega) om ag ?_;intro v' w6 Y U a9;obtain ⟨g',al,rfl⟩:=ownsRow_succ Y;obtain ⟨aB,bb,ac,a6,a5⟩:=hv.appended aj E hB.size om Y U;have b2:=aB.cell;have b3:=aB.frozen)
  obtain ⟨a7,ab⟩:=qW (v':=.slice (some ⟨g',0,none⟩) (F.length+1) al) hv E U;exact ⟨a6.from _,a7,⟨⟨⟨⟨_,bb,by rw [my];simpa using ac,by simp⟩,ab _ _ _ om aj k1⟩,ab _ _ _ om aj k2⟩,hB.trans a5⟩⟩
 case done =>
  rintro D xs W hD rfl ⟨⟨⟨⟨v,hv,E,V⟩,k1⟩,k2⟩,hB⟩ hK;obtain ⟨g,cap,rfl,hg⟩:=qY E om;have hc:=hv.cell;have m1:W.cell? ⟨w+1,0,none⟩=some (.slice none 0 0):=k1.cell 0;have m2:W.cell? ⟨w+1+1,0,none⟩=some (.int .i64 0):=k2.cell 0;have f1:W.frozen? ⟨w+1,0,none⟩=false:=by simp [World.frozen?,show W.heap[w.heap.size+1]?=_ from k1]
  have f2:W.frozen? ⟨w+1+1,0,none⟩=false:=by simp [World.frozen?,show W.heap[w.heap.size+1+1]?=_ from k2]
  gi_wp2
  have I:((W.setCell ⟨w+1,0,none⟩ (.slice (some ⟨g,0,none⟩) (aT c lv f ny).length cap)).setCell ⟨w+1+1,0,none⟩ (.int .i64 0)).heap[D]?=some (.deferred (some [])):=((KeepsOthers.setCell _ _ _).trans (KeepsOthers.setCell _ _ _)).same _ _ hK rfl;refine ⟨by simp,.inl ⟨_,_,rfl,run_takeDeferred I,?_⟩⟩;have ao:=grownBy_putObj' ((W.setCell ⟨w+1,0,none⟩ (.slice (some ⟨g,0,none⟩) (aT c lv f ny).length cap)).setCell ⟨w+1+1,0,none⟩ (.int .i64 0)) D (.deferred none);have j1:=fp ((k1.set0 (.slice (some ⟨g,0,none⟩) (aT c lv f ny).length cap)).far (p:=⟨w+1+1,0,none⟩) af (.int .i64 0)) ao (fun r e=>by cases e;exact ⟨_,I,rfl⟩);have j2:=fp ((k2.far (p:=⟨w+1,0,none⟩) af (.slice (some ⟨g,0,none⟩) (aT c lv f ny).length cap)).set0 (.int .i64 0)) ao (fun r e=>by cases e;exact ⟨_,I,rfl⟩);refine ⟨_,C4 rfl rfl j1 j2,g,cap,rfl,?_,hg,?_⟩
  ·refine ownsRow_putObj ?_ _ I rfl
   have aA:=E.kept (grownBy_setCell' W (w.heap.size+1) (.slice (some ⟨g,0,none⟩) (aT c lv f ny).length cap)) (.inr (pp E k1));have ac:=aA.kept (grownBy_setCell' _ (w.heap.size+1+1) (.int .i64 0)) (.inr (pp aA (k2.far (p:=⟨w+1,0,none⟩) af _)));exact ac.base (Nat.zero_le _)
  ·exact ((hB.setCell af _).setCell ag _).trans (belowK_b (w:=w) (Nat.le_refl _) _ D _ _ om I rfl rfl)
 case stop =>
  rintro D cc F W _ _ h _;exact h.elim
end
section
open Go.RowKit Qd
theorem mP {f:Array Value} {W:World} {h o:Nat} {v:Value} {e:Int} (I:f[8]?=some (.pointer (some ⟨h,0,none⟩))) (J:f[9]?=some (.pointer (some ⟨o,0,none⟩)))
  (G:ax W h #[v] 26) (H:ax W o #[e] 27) :
  (results Tryz.f7 f).run Tryz.prog W=.ok (.tuple #[v,e]) W:=by
 have E:=G.cell 0;have F:=H.cell 0;simp at E F;simp [results,Tryz.results7,go_sem,I,J,E,F]
theorem BU (c:aC) (lv f t:Int) (w:World) (W:c.name.size≤1000) (O:c.okB=false) :
  Calls Tryz.prog 7 #[aI c,lv,f,t] w fun e w'=>e=.returned (.tuple #[.slice none 0 0,.int .i64 1])∧Below w w w':=by
 have U:=hide (show dI c=1 by simp [dI,O]);clear O;simp only [aI];go_enter Tryz.func7,Tryz.ntmps7;go_wp2_with fail;refine (bg c _ W).mono ?_;rintro e F ⟨rfl,h⟩;rw [U.out];have J:ax F w (bJ c) 24:=(((ax.new w _ _).alloc _).alloc _).call (by exact h);have E:ax F (w+1) #[.slice none 0 0] 26:=by
  have:=((ax.new (w.alloc (.cells (bJ c) 24)) #[.slice none 0 0] 26).alloc (.cells #[.int .i64 0] 27));refine ax.call ?_ (by exact h);simpa using this
 have o:ax F (w+2) #[.int .i64 0] 27:=by
  have:=ax.new ((w.alloc (.cells (bJ c) 24)).alloc (.cells #[.slice none 0 0] 26)) #[.int .i64 0] 27;refine ax.call ?_ (by exact h);simpa using this
 have G:=hide (show Below w w F by (repeat' exact bel));clear h;obtain ⟨q0,q1,q2,q3,q4,q5,q6,q7,q8,q9,aa,ab,ac,ad⟩:=J.cal;have r0:=E.cell 0;have r1:=o.cell 0;have f0:=E.fz' 0;have f1:=o.fz' 0;have Y:=o.lt;simp at r0 r1;have H:=hide E;have I:=hide o;clear J E o;go_wp2;exact bodyPost_ret (v:=.tuple #[.slice none 0 0,.int .i64 1]) (mP rfl rfl ((H.out.set0 (.slice none 0 0)).far (p:=⟨w+2,0,none⟩) af _) ((I.out.far (p:=⟨w+1,0,none⟩) af (.slice none 0 0)).set0 (.int .i64 1))) rfl ⟨rfl,by have V:=G.out;exact ((V.setCell (by first | (simp;done) | (simp;omega)) _).setCell (by first | (simp;done) | (simp;omega)) _)⟩
theorem Ey (c:aC) (lv f t:Int) (w:World) (hn:c.name.size≤1000) (U:c.okB=true) (V:¬ (1≤lv∧lv≤5)) :
  Calls Tryz.prog 7 #[aI c,lv,f,t] w fun e w'=>e=.returned (.tuple #[.slice none 0 0,.int .i64 1])∧Below w w w':=by
 have J:decide (1≤lv∧lv≤5)=false:=by simpa using V
 clear V;have W:=hide (show dI c=0 by simp [dI,U]);clear U;simp only [aI];go_enter Tryz.func7,Tryz.ntmps7;go_wp2_with fail;refine (bg c _ hn).mono ?_;rintro e F ⟨rfl,h⟩;rw [W.out];have O:ax F w (bJ c) 24:=(((ax.new w _ _).alloc _).alloc _).call (by exact h);have E:ax F (w+1) #[.slice none 0 0] 26:=by
  have:=((ax.new (w.alloc (.cells (bJ c) 24)) #[.slice none 0 0] 26).alloc (.cells #[.int .i64 0] 27));refine ax.call ?_ (by exact h);simpa using this
 have o:ax F (w+2) #[.int .i64 0] 27:=by
  have:=ax.new ((w.alloc (.cells (bJ c) 24)).alloc (.cells #[.slice none 0 0] 26)) #[.int .i64 0] 27;refine ax.call ?_ (by exact h);simpa using this
 have G:=hide (show Below w w F by (repeat' exact bel));clear h;obtain ⟨q0,q1,q2,q3,q4,q5,q6,q7,q8,q9,ab,ac,ad,ah⟩:=O.cal;have r0:=E.cell 0;have r1:=o.cell 0;have f0:=E.fz' 0;have f1:=o.fz' 0;have aa:=o.lt;simp at r0 r1;have H:=hide E;have I:=hide o;clear O E o;go_wp2_with (go_at_call 21;refine (bT _ _).mono ?_;rintro e w' ⟨rfl,rfl⟩;rw [J]);exact bodyPost_ret (v:=.tuple #[.slice none 0 0,.int .i64 1]) (mP rfl rfl ((H.out.set0 (.slice none 0 0)).far (p:=⟨w+2,0,none⟩) af _) ((I.out.far (p:=⟨w+1,0,none⟩) af (.slice none 0 0)).set0 (.int .i64 1))) rfl ⟨rfl,by have Y:=G.out;exact ((Y.setCell (by first | (simp;done) | (simp;omega)) _).setCell (by first | (simp;done) | (simp;omega)) _)⟩
theorem Cb (c:aC) (lv f t:Int) (w:World) (hn:c.name.size≤1000) (W:c.okB=true) (Y:1≤lv∧lv≤5) (F:f<c.first∨(c.first≤f∧c.last<t)∨(c.first≤f∧t≤c.last∧t<f)) :
  Calls Tryz.prog 7 #[aI c,lv,f,t] w fun e w'=>e=.returned (.tuple #[.slice none 0 0,.int .i64 11])∧Below w w w':=by
 have O:decide (1≤lv∧lv≤5)=true:=by simpa using Y
 clear Y;have HO:=hide (show dI c=0 by simp [dI,W]);clear W;simp only [aI];go_enter Tryz.func7,Tryz.ntmps7;go_wp2_with fail;refine (bg c _ hn).mono ?_;rintro e G ⟨rfl,h⟩;rw [HO.out];have V:ax G w (bJ c) 24:=(((ax.new w _ _).alloc _).alloc _).call (by exact h);have E:ax G (w+1) #[.slice none 0 0] 26:=by
  have:=((ax.new (w.alloc (.cells (bJ c) 24)) #[.slice none 0 0] 26).alloc (.cells #[.int .i64 0] 27));refine ax.call ?_ (by exact h);simpa using this
 have o:ax G (w+2) #[.int .i64 0] 27:=by
  have:=ax.new ((w.alloc (.cells (bJ c) 24)).alloc (.cells #[.slice none 0 0] 26)) #[.int .i64 0] 27;refine ax.call ?_ (by exact h);simpa using this
 have H:=hide (show Below w w G by (repeat' exact bel));clear h;obtain ⟨q0,q1,q2,q3,q4,q5,q6,q7,q8,q9,ac,ad,ah,al⟩:=V.cal;have r0:=E.cell 0;have r1:=o.cell 0;have f0:=E.fz' 0;have f1:=o.fz' 0;have ab:=o.lt;simp at r0 r1;have I:=hide E;have J:=hide o;clear V E o;rcases F with F | ⟨F,U⟩ | ⟨F,U,aa⟩
 all_goals
  first | go_wp2_with (go_at_call 21;refine (bT _ _).mono ?_;rintro e w' ⟨rfl,rfl⟩;rw [O]) | skip
  exact bodyPost_ret (v:=.tuple #[.slice none 0 0,.int .i64 11]) (mP rfl rfl ((I.out.set0 (.slice none 0 0)).far (p:=⟨w+2,0,none⟩) af _) ((J.out.far (p:=⟨w+1,0,none⟩) af (.slice none 0 0)).set0 (.int .i64 11))) rfl ⟨rfl,by have hB:=H.out;exact ((hB.setCell (by first | (simp;done) | (simp;omega)) _).setCell (by first | (simp;done) | (simp;omega)) _)⟩
theorem DZ (c:aC) (lv f t:Int) (w:World) (F:c.name.size≤1000) (h:¬ mJ c lv f t=0) :
  Calls Tryz.prog 7 #[aI c,lv,f,t] w fun e w'=>e=.returned (.tuple #[.slice none 0 0,mJ c lv f t])∧Below w w w':=by
 unfold mJ at h ⊢;by_cases o:c.okB=true
 ·by_cases E:1≤lv∧lv≤5
  ·rw [if_pos ⟨o,E⟩] at h ⊢
   by_cases G:c.first≤f∧t≤c.last∧f≤t
   ·rw [if_pos G] at h;omega
   ·rw [if_neg G]
    exact Cb c lv f t w F o E om
  ·rw [if_neg (fun x=>E x.2)]
   exact Ey c lv f t w F o E
 ·rw [if_neg (fun x=>o x.1)]
  exact BU c lv f t w F (by simpa using o)
end
end Go.Proofs.YtpebkobmhhnojaaGreatDoor
