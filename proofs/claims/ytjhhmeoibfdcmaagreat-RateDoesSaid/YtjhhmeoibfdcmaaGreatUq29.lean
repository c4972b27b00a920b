/- The reference of layer 21: an amount of a span, cut. The reference of layer 21: an amount of a span, cut: the walk. Contracts of the references: which calendars may be: a rule's parts that may not be. -/
import Derived.Lib.QuietBelow
import Derived.Test.YtjhhmeoibfdcmaaGreatUq26
import Derived.Test.YtjhhmeoibfdcmaaGreatUq28
set_option linter.unusedSimpArgs false
set_option linter.unusedVariables false
set_option maxRecDepth 100000
set_option maxHeartbeats 12800000
namespace Go.Proofs.YtjhhmeoibfdcmaaGreat
open Go.RowKit Qd
abbrev OwnS (w:World) (b:Nat) (v:Value) (D:List (Un × Int)):Prop:=w.ownsRow b 111 4 v D.length (D.flatMap shC)
def KeepS (w w':World):Prop:=w.heap.size≤w'.heap.size∧∀ (B:Nat) (cs:Array Value) (t:TypeId),t≠111→w.heap[B]?=some (.cells cs t (0,0))→w'.heap[B]?=some (.cells cs t (0,0))
theorem KeepS.blk {w w':World} {B:Nat} {cs:Array Value} {t:TypeId} (hk:KeepS w w') (h:BlkIs w B cs t) (ht:t≠111:=by decide):BlkIs w' B cs t:=hk.2 B cs t ht h
theorem KeepS.ownI {w w':World} {b:Nat} {v:Value} {l:List Int} (hk:KeepS w w') (h:OwnI w b v l):OwnI w' b v l:=by
  refine ⟨h.1,?_⟩
  rcases h.2 with h1 | ⟨g',cap',cur,he,h2,hg',h3⟩
  · exact .inl h1
  · exact .inr ⟨g',cap',cur,he,h2,hk.2 _ _ _ (by decide) hg',h3⟩
theorem ownS_call {w w':World} {b:Nat} {v:Value} {l:List (Un × Int)} (h:OwnS w b v l) (hb:Below w.heap.size w w'):OwnS w' b v l:=by
  refine ⟨h.1,?_⟩
  rcases h.2 with h1 | ⟨g',cap',cur,he,h2,hg',h3⟩
  · exact .inl h1
  · exact .inr ⟨g',cap',cur,he,h2,(hb.block g' (Array.getElem?_eq_some_iff.1 hg').1).trans hg',h3⟩
theorem ownS_base {w:World} {b b':Nat} {v:Value} {l:List (Un × Int)} (h:OwnS w b v l) (hb:b'≤b):OwnS w b' v l:=by
  refine ⟨h.1,?_⟩
  rcases h.2 with h1 | ⟨g',cap',cur,he,h2,h3⟩
  · exact .inl h1
  · exact .inr ⟨g',cap',cur,he,Nat.le_trans hb h2,h3⟩
theorem step_share {ops:Array Oper} {o:Oper} {a:Act} {K:Act→World→Prop} {Q:Exit→Act→World→Prop} {E:Prop} (hgd:o.guard=none) (s x:Operand)
    (ho:o.op=.call { callee:=.builtin .append,args:=#[s,x],argTypes:=#[56,56] }) (base:Nat) (v:Value) (m:List (Un × Int)) (u:Un) (n:Int) (B:Nat) (w:World)
    (hs:a.eval s=v) (hown:OwnS w base v m) (hx:a.eval x=.slice (some ⟨B,0,none⟩) 1 1) (hB:BlkIs w B #[.int .i64 u.lv,.int .i64 u.yr,.int .i64 u.ix,.int .i64 n] 111) (hml:m.length≤100000) (hbase:base≤w.heap.size)
    (h:∀ v' w',OwnS w' base v' (m++[(u,n)])→Below base w w'→KeepS w w'→K (a.put o.dst v') w'):if Region.wanted o (yielded ops a.tmps)=true then Oper.wp Tryz.prog o a w K Q else E:=by
  have hw:Region.wanted o (yielded ops a.tmps)=true:=by simp [Region.wanted,hgd]
  rw [if_pos hw]
  obtain ⟨i0,hi,hi0,hi1,hi2⟩:=info_parts sh_info
  have hfl:∀ D:List (Un × Int),(D.flatMap shC).length=D.length*4:=by
    intro D
    induction D with
    | nil=>rfl
    | cons x D ih=>simp only [List.flatMap_cons,List.length_append,List.length_cons,ih,shC,List.length_nil];omega
  refine wp_append_own w s x 56 ho base 111 i0 (.agg #[.int .i64 0,.int .i64 0,.int .i64 0,.int .i64 0]) 4 32 Tryz.underlying56 hi hi0 hi1 hi2 rfl (by decide) v m.length (m.flatMap shC) hs hown ⟨B,0,none⟩ 1 1 (shC (u,n)) hx rfl ?_ ?_ (by unfold maxLen;omega) (by omega) hbase ?_
  · intro j y hj
    match j,hj with
    | 0,hj=>simp [shC] at hj;subst hj;simpa [Addr.add] using hB.cell 0
    | 1,hj=>simp [shC] at hj;subst hj;simpa [Addr.add] using hB.cell 1
    | 2,hj=>simp [shC] at hj;subst hj;simpa [Addr.add] using hB.cell 2
    | 3,hj=>simp [shC] at hj;subst hj;simpa [Addr.add] using hB.cell 3
  · intro y hy
    simp [shC] at hy
    rcases hy with rfl | rfl | rfl | rfl <;> rfl
  · intro v' w' ho' hg _
    refine h v' w' (by unfold OwnS;rw [List.length_append,List.flatMap_append];simpa using ho') ((Below.refl base w).grown hg hbase fun k hk=>(hown.lt k hk).1) ⟨hg.size,fun B cs t ht hB=>(hg.block B (Array.getElem?_eq_some_iff.1 hB).1 (fun e=>?_)).trans hB⟩
    rcases hown.2 with ⟨h1,_⟩ | ⟨g',cap',cur,h1,_,h3',_⟩
    · rw [h1] at e;simp [Value.ownBlock] at e
    · rw [h1] at e
      obtain rfl:B=g':=by simpa [Value.ownBlock] using e
      rw [h3'] at hB
      cases hB
      exact ht rfl
end Go.Proofs.YtjhhmeoibfdcmaaGreat
namespace Go.Proofs.YtjhhmeoibfdcmaaGreat
open Go.RowKit Qd
theorem r21split_gen (c:Cal) (lv a:Int) (s:Sp) (LM:List Un) (DL NL:List Int) (w:World) (hl:LM.length≤100000) (hnl:NL.length=LM.length)
    (HM:Hid (∀ W,Calls Tryz.prog 63 #[calV c,.int .i64 lv,spanV s] W fun e w'=>∃ g cap,e=.returned (.tuple #[.slice (some ⟨g,0,none⟩) LM.length cap,.int .i64 0])∧UnsAt w' g cap LM∧Below W.heap.size W w'))
    (HDY:Hid (∀ W,Calls Tryz.prog 24 #[calV c,.int .i64 lv,spanV s] W fun e w'=>(∃ x,e=.returned (.tuple #[x,.int .i64 0])∧OwnI w' W.heap.size x DL)∧Below W.heap.size W w'))
    (HSL:Hid (∀ W x,Nums W x DL→Calls Tryz.prog 66 #[.int .i64 a,x] W fun e w'=>(∃ x,e=.returned (.tuple #[x,.int .i64 0])∧OwnI w' W.heap.size x NL)∧Below W.heap.size W w')) :
    Calls Tryz.prog 26 #[calV c,.int .i64 lv,.int .i64 a,spanV s] w fun e w'=>(∃ x,e=.returned (.tuple #[x,.int .i64 0])∧OwnS w' w.heap.size x (LM.zip NL))∧Below w.heap.size w w':=by
  have H0:=hide (show CalAt ((w.alloc (calObj c)).alloc (spObj s)) w.heap.size c∧SpAt ((w.alloc (calObj c)).alloc (spObj s)) (w.heap.size+1) s from ⟨calAt_alloc (calAt_new w c) (by simp) _,spAt_new2 w c s⟩)
  have HZL:=hide (show (LM.zip NL).length=LM.length by rw [List.length_zip];omega)
  simp only [calV,spanV] at HM HDY
  simp only [calV]
  go_enter Tryz.func26,Tryz.ntmps26
  go_wp2_with fail
  refine (HDY.out _).mono ?_
  rintro e w1 ⟨⟨xd,rfl,hxd⟩,hb1⟩
  have HB1:=hide (show CalAt w1 w.heap.size c∧SpAt w1 (w.heap.size+1) s∧w.heap.size+1<w1.heap.size∧Below w.heap.size w w1 from ⟨calAt_below hb1 (by simp;omega) H0.out.1,spAt_below hb1 (by simp) H0.out.2,by have:=hb1.size;simp at this;omega,(ww hb1).out⟩)
  have HX1:=hide (owns_nums hxd)
  clear hxd hb1
  go_wp2_with fail
  refine (HSL.out _ _ HX1.out).mono ?_
  rintro e w2 ⟨⟨xn,rfl,hxn⟩,hb2⟩
  have HB2:=hide (show CalAt w2 w.heap.size c∧SpAt w2 (w.heap.size+1) s∧w.heap.size+1<w2.heap.size∧Below w.heap.size w w2 from ⟨calAt_below hb2 (by have:=HB1.out.2.2.1;omega) HB1.out.1,spAt_below hb2 HB1.out.2.2.1 HB1.out.2.1,Nat.lt_of_lt_of_le HB1.out.2.2.1 hb2.size,HB1.out.2.2.2.trans (hb2.mono HB1.out.2.2.2.size)⟩)
  have HN2:=hide (ownI_base hxn (Nat.zero_le _))
  clear hxn hb2
  obtain ⟨q0,q1,q2,q3,q4,q5,q6,q7,q8,q9,q10,q11,q12,q13⟩:=HB2.out.1
  obtain ⟨b0,b1⟩:=HB2.out.2.1
  have hz2:=HB2.out.2.2.1
  have hz1:w.heap.size<w2.heap.size:=by omega
  go_wp2_with fail
  refine (HM.out _).mono ?_
  rintro e w3 ⟨gm,capm,rfl,hun,hb3⟩
  have HN3:=hide (ownI_call HN2.out hb3)
  have HU3:=hide hun
  have HB3:=hide (HB2.out.2.2.2.trans (hb3.mono HB2.out.2.2.2.size))
  clear hun hb3 q0 q1 q2 q3 q4 q5 q6 q7 q8 q9 q10 q11 q12 q13 b0 b1 hz2 hz1
  go_wp2_with fail
  go_loopw [15,46] (fun s15 si wr=>∃ j:Nat,si=.int .i64 j∧j≤LM.length∧OwnS wr w3.heap.size s15 ((LM.zip NL).take j)∧Below w3.heap.size w3 wr) (fun _ si _=>(100001-intOf si).toNat)
  case atStart=>exact ⟨0,rfl,Nat.zero_le _,World.ownsRow_nil _ _ _ _,Below.refl _ _⟩
  case round =>
    obtain ⟨j,rfl,hj,hO,hbr⟩:=hrel
    have HO:=hide hO
    have HBR:=hide hbr
    have hle:=hbr.size
    clear hO hbr
    by_cases hlt:j<LM.length
    · obtain ⟨u,hu⟩:∃ u,LM[j]?=some u:=⟨_,List.getElem?_eq_getElem hlt⟩
      obtain ⟨n,hn⟩:∃ n,NL[j]?=some n:=⟨_,List.getElem?_eq_getElem (by omega)⟩
      have HT:=hide (show (LM.zip NL).take (j+1)=(LM.zip NL).take j++[(u,n)] by
        rw [List.take_add_one,(List.getElem?_zip_eq_some (z:=(u,n))).2 ⟨hu,hn⟩];rfl)
      obtain ⟨gN,capN,eN,_⟩:=World.ownsRow.form HN3.out (by omega)
      rw [hnl] at eN
      subst eN
      have hN:=ownI_call HN3.out HBR.out
      have hUn:=HU3.out.call HBR.out
      obtain ⟨a0,a1,a2⟩:=hUn.cell hu
      have hgm:=(hUn.lt (by omega)).1
      obtain ⟨c1,_⟩:=ownI_cell hN hnl.symm hn
      have hgn:=(hN.lt gN rfl).2
      have hjm:(j:Int)<(LM.length:Int):=by omega
      have hj0:(0:Int)≤(j:Int):=by omega
      obtain ⟨w4,hw4⟩:∃ W,wr.alloc (.cells #[.int .i64 u.lv,.int .i64 u.yr,.int .i64 u.ix] 26)=W:=⟨_,rfl⟩
      have HBL:=hide (show Below wr.heap.size wr w4 by rw [← hw4];exact bel)
      have HUB:=hide (show BlkIs w4 wr.heap.size #[.int .i64 u.lv,.int .i64 u.yr,.int .i64 u.ix] 26 by rw [← hw4];exact BlkIs.new _ _ _)
      have HO4:=hide (ownS_call HO.out HBL.out)
      have HN4:=hide (ownI_call hN HBL.out)
      have HB4:=hide (HBR.out.trans (HBL.out.mono hle))
      clear hN hUn
      go_wp2_with fail
      clear hw4 a0 a1 a2 c1
      obtain ⟨⟨d0,d1,d2⟩,hzu⟩:=blk_three' HUB.out
      have c1:=(ownI_cell HN4.out hnl.symm hn).1
      have hle4:w3.heap.size≤w4.heap.size:=Nat.le_trans hle HBL.out.size
      have hgn4:gN<w4.heap.size:=Nat.lt_of_lt_of_le hgn HBL.out.size
      have HHN:=hide hn
      clear hn hu
      have HK5:=hide trivial
      go_region_held3 (fun w'=>(w'.cell? ⟨wr.heap.size,0,none⟩=some (.int .i64 u.lv)∧w'.cell? ⟨wr.heap.size,1,none⟩=some (.int .i64 u.yr)∧w'.cell? ⟨wr.heap.size,2,none⟩=some (.int .i64 u.ix))∧w'.cell? ⟨gN,j,none⟩=some (.int .i64 n))
        (first
        | exact ⟨(blk_three' (HK5.out.blk (HUB.out.alloc _))).1,(ownI_cell (HK5.out.ownI (ownI_call HN4.out (by (repeat' exact bel)))) hnl.symm HHN.out).1⟩
        | exact ⟨(blk_three' (HUB.out.call (by (repeat' exact bel)))).1,(ownI_cell (ownI_call HN4.out (by (repeat' exact bel))) hnl.symm HHN.out).1⟩)
        (first
        | (refine step_share rfl (.tmp 51) (.tmp 58) rfl w3.heap.size u15 ((LM.zip NL).take j) u n w4.heap.size (w4.alloc (.cells #[.int .i64 u.lv,.int .i64 u.yr,.int .i64 u.ix,.int .i64 n] 111)).drew (by simp [Act.eval,Act.put]) (ownS_call HO4.out (by (repeat' exact bel))) (by simp [Act.eval,Act.put]) (show BlkIs (w4.alloc (.cells #[.int .i64 u.lv,.int .i64 u.yr,.int .i64 u.ix,.int .i64 n] 111)).drew w4.heap.size #[.int .i64 u.lv,.int .i64 u.yr,.int .i64 u.ix,.int .i64 n] 111 from BlkIs.new _ _ _) (by rw [List.length_take];omega) (by simp;omega) ?_;intro v5 w5 ho5 hb5 hk5;have HK5:=hide (show KeepS (w4.alloc (.cells #[.int .i64 u.lv,.int .i64 u.yr,.int .i64 u.ix,.int .i64 n] 111)) w5 from hk5);have HO5:=hide ho5;have HB5:=hide ((show Below w3.heap.size w3 (w4.alloc (.cells #[.int .i64 u.lv,.int .i64 u.yr,.int .i64 u.ix,.int .i64 n] 111)).drew by have hx:=HB4.out;exact bel).trans hb5);clear ho5 hb5 hk5)
        | fail)
      all_goals
        go_wp2
        go_roundw
        case rel=>exact ⟨j+1,by go_num,by omega,by rw [HT.out];exact HO5.out,HB5.out⟩
        case measure=>simp [intOf];omega
    · have HF := hide (show OwnS wr w3.heap.size u15 (LM.zip NL) by
        have h:=HO.out
        rwa [List.take_of_length_le (by rw [HZL.out];omega)] at h)
      have HBX:=hide (HB3.out.trans (HBR.out.mono HB3.out.size))
      have hle0:=HB3.out.size
      go_wp2
      all_goals first
        | (exfalso;omega)
        | (go_ret2;exact ⟨⟨_,rfl,ownS_base HF.out hle0⟩,HBX.out⟩)
end Go.Proofs.YtjhhmeoibfdcmaaGreat
namespace Go.Proofs.YtjhhmeoibfdcmaaGreat
open Go.RowKit Go.Sort Qd
theorem rn1a (nm:ByteArray) (d m sh sp a b p cy ex fi la po:Int) (w:World) (hn:nm.size≤1000) (h:(Cal.mk nm 1 d m sh sp a b p cy ex fi la po).served∧(Cal.mk nm 1 d m sh sp a b p cy ex fi la po).polic∧nameB nm=true) (g1:d<1) :
    Calls Tryz.prog 100 #[.agg #[.string nm,.int .i64 1,.int .i64 d,.int .i64 m,.int .i64 sh,.int .i64 sp,.int .i64 a,.int .i64 b,.int .i64 p,.int .i64 cy,.int .i64 ex,.int .i64 fi,.int .i64 la,.int .i64 po]] w fun e w'=>e=.returned (.int .i64 1)∧Below w.heap.size w w':=by
  obtain ⟨⟨s1,s2,s3,s4⟩,⟨⟨p1,p2⟩,p3⟩,hnm⟩:=h
  simp only at s1 s2 s3 s4 p1 p2 p3
  have hp4:(po==4)=false:=by simp;omega
  have HNM:=hide hnm
  have g88804:decide (1≤d)=false:=by simp;omega
  clear p3 hnm
  go_enter Tryz.func100,Tryz.ntmps100
  go_wp2_with fail
  refine (rname_any _ _ hn).mono ?_
  rintro e w1 ⟨rfl,rfl⟩
  rw [HNM.out]
  go_wp2_with fail
  all_goals first
    | (exfalso;omega)
    | skip
  all_goals
    go_quiet (fail)
    go_wp2
    all_goals first
      | (exfalso;omega)
      | (go_ret;exact ⟨rfl,by (repeat' exact bel)⟩)
theorem rn1b (nm:ByteArray) (d m sh sp a b p cy ex fi la po:Int) (w:World) (hn:nm.size≤1000) (h:(Cal.mk nm 1 d m sh sp a b p cy ex fi la po).served∧(Cal.mk nm 1 d m sh sp a b p cy ex fi la po).polic∧nameB nm=true) (g1:1≤d) (g2:7<d) :
    Calls Tryz.prog 100 #[.agg #[.string nm,.int .i64 1,.int .i64 d,.int .i64 m,.int .i64 sh,.int .i64 sp,.int .i64 a,.int .i64 b,.int .i64 p,.int .i64 cy,.int .i64 ex,.int .i64 fi,.int .i64 la,.int .i64 po]] w fun e w'=>e=.returned (.int .i64 1)∧Below w.heap.size w w':=by
  obtain ⟨⟨s1,s2,s3,s4⟩,⟨⟨p1,p2⟩,p3⟩,hnm⟩:=h
  simp only at s1 s2 s3 s4 p1 p2 p3
  have hp4:(po==4)=false:=by simp;omega
  have HNM:=hide hnm
  have g84401:decide (1≤d)=true:=by simp;omega
  have g51352:decide (d≤7)=false:=by simp;omega
  clear p3 hnm
  go_enter Tryz.func100,Tryz.ntmps100
  go_wp2_with fail
  refine (rname_any _ _ hn).mono ?_
  rintro e w1 ⟨rfl,rfl⟩
  rw [HNM.out]
  go_wp2_with fail
  all_goals first
    | (exfalso;omega)
    | skip
  all_goals
    go_quiet (fail)
    go_wp2
    all_goals first
      | (exfalso;omega)
      | (go_ret;exact ⟨rfl,by (repeat' exact bel)⟩)
theorem rn1c (nm:ByteArray) (d m sh sp a b p cy ex fi la po:Int) (w:World) (hn:nm.size≤1000) (h:(Cal.mk nm 1 d m sh sp a b p cy ex fi la po).served∧(Cal.mk nm 1 d m sh sp a b p cy ex fi la po).polic∧nameB nm=true) (g1:1≤d) (g2:d≤7) (g3:m<1) :
    Calls Tryz.prog 100 #[.agg #[.string nm,.int .i64 1,.int .i64 d,.int .i64 m,.int .i64 sh,.int .i64 sp,.int .i64 a,.int .i64 b,.int .i64 p,.int .i64 cy,.int .i64 ex,.int .i64 fi,.int .i64 la,.int .i64 po]] w fun e w'=>e=.returned (.int .i64 1)∧Below w.heap.size w w':=by
  obtain ⟨⟨s1,s2,s3,s4⟩,⟨⟨p1,p2⟩,p3⟩,hnm⟩:=h
  simp only at s1 s2 s3 s4 p1 p2 p3
  have hp4:(po==4)=false:=by simp;omega
  have HNM:=hide hnm
  have g84401:decide (1≤d)=true:=by simp;omega
  have g97581:decide (d≤7)=true:=by simp;omega
  have g38816:decide (1≤m)=false:=by simp;omega
  clear p3 hnm
  go_enter Tryz.func100,Tryz.ntmps100
  go_wp2_with fail
  refine (rname_any _ _ hn).mono ?_
  rintro e w1 ⟨rfl,rfl⟩
  rw [HNM.out]
  go_wp2_with fail
  all_goals first
    | (exfalso;omega)
    | skip
  all_goals
    go_quiet (fail)
    go_wp2
    all_goals first
      | (exfalso;omega)
      | (go_ret;exact ⟨rfl,by (repeat' exact bel)⟩)
theorem rn1d (nm:ByteArray) (d m sh sp a b p cy ex fi la po:Int) (w:World) (hn:nm.size≤1000) (h:(Cal.mk nm 1 d m sh sp a b p cy ex fi la po).served∧(Cal.mk nm 1 d m sh sp a b p cy ex fi la po).polic∧nameB nm=true) (g1:1≤d) (g2:d≤7) (g3:1≤m) (g4:12<m) :
    Calls Tryz.prog 100 #[.agg #[.string nm,.int .i64 1,.int .i64 d,.int .i64 m,.int .i64 sh,.int .i64 sp,.int .i64 a,.int .i64 b,.int .i64 p,.int .i64 cy,.int .i64 ex,.int .i64 fi,.int .i64 la,.int .i64 po]] w fun e w'=>e=.returned (.int .i64 1)∧Below w.heap.size w w':=by
  obtain ⟨⟨s1,s2,s3,s4⟩,⟨⟨p1,p2⟩,p3⟩,hnm⟩:=h
  simp only at s1 s2 s3 s4 p1 p2 p3
  have hp4:(po==4)=false:=by simp;omega
  have HNM:=hide hnm
  have g84401:decide (1≤d)=true:=by simp;omega
  have g97581:decide (d≤7)=true:=by simp;omega
  have g6363:decide (1≤m)=true:=by simp;omega
  have g51732:decide (m≤12)=false:=by simp;omega
  clear p3 hnm
  go_enter Tryz.func100,Tryz.ntmps100
  go_wp2_with fail
  refine (rname_any _ _ hn).mono ?_
  rintro e w1 ⟨rfl,rfl⟩
  rw [HNM.out]
  go_wp2_with fail
  all_goals first
    | (exfalso;omega)
    | skip
  all_goals
    go_quiet (fail)
    go_wp2
    all_goals first
      | (exfalso;omega)
      | (go_ret;exact ⟨rfl,by (repeat' exact bel)⟩)
theorem rn1e (nm:ByteArray) (d m sh sp a b p cy ex fi la po:Int) (w:World) (hn:nm.size≤1000) (h:(Cal.mk nm 1 d m sh sp a b p cy ex fi la po).served∧(Cal.mk nm 1 d m sh sp a b p cy ex fi la po).polic∧nameB nm=true) (g1:1≤d) (g2:d≤7) (g3:1≤m) (g4:m≤12) (g5:¬ (sh=0∨sh=1)) :
    Calls Tryz.prog 100 #[.agg #[.string nm,.int .i64 1,.int .i64 d,.int .i64 m,.int .i64 sh,.int .i64 sp,.int .i64 a,.int .i64 b,.int .i64 p,.int .i64 cy,.int .i64 ex,.int .i64 fi,.int .i64 la,.int .i64 po]] w fun e w'=>e=.returned (.int .i64 1)∧Below w.heap.size w w':=by
  obtain ⟨⟨s1,s2,s3,s4⟩,⟨⟨p1,p2⟩,p3⟩,hnm⟩:=h
  simp only at s1 s2 s3 s4 p1 p2 p3
  have hp4:(po==4)=false:=by simp;omega
  have HNM:=hide hnm
  have g84401:decide (1≤d)=true:=by simp;omega
  have g97581:decide (d≤7)=true:=by simp;omega
  have g6363:decide (1≤m)=true:=by simp;omega
  have g75278:decide (m≤12)=true:=by simp;omega
  have f308:(sh==0)=false:=by simp;omega
  have f16395:decide (sh=0)=false:=by simp;omega
  have f94622:(sh==1)=false:=by simp;omega
  have f38771:decide (sh=1)=false:=by simp;omega
  clear p3 hnm
  go_enter Tryz.func100,Tryz.ntmps100
  go_wp2_with fail
  refine (rname_any _ _ hn).mono ?_
  rintro e w1 ⟨rfl,rfl⟩
  rw [HNM.out]
  go_wp2_with fail
  all_goals first
    | (exfalso;omega)
    | skip
  all_goals
    go_quiet (fail)
    go_wp2
    all_goals first
      | (exfalso;omega)
      | (go_ret;exact ⟨rfl,by (repeat' exact bel)⟩)
theorem rn2a (nm:ByteArray) (d m sh sp a b p cy ex fi la po:Int) (w:World) (hn:nm.size≤1000) (h:(Cal.mk nm 2 d m sh sp a b p cy ex fi la po).served∧(Cal.mk nm 2 d m sh sp a b p cy ex fi la po).polic∧nameB nm=true) (g1:d<1) :
    Calls Tryz.prog 100 #[.agg #[.string nm,.int .i64 2,.int .i64 d,.int .i64 m,.int .i64 sh,.int .i64 sp,.int .i64 a,.int .i64 b,.int .i64 p,.int .i64 cy,.int .i64 ex,.int .i64 fi,.int .i64 la,.int .i64 po]] w fun e w'=>e=.returned (.int .i64 1)∧Below w.heap.size w w':=by
  obtain ⟨⟨s1,s2,s3,s4⟩,⟨⟨p1,p2⟩,p3⟩,hnm⟩:=h
  simp only at s1 s2 s3 s4 p1 p2 p3
  have hp4:(po==4)=false:=by simp;omega
  have HNM:=hide hnm
  have g88804:decide (1≤d)=false:=by simp;omega
  clear p3 hnm
  go_enter Tryz.func100,Tryz.ntmps100
  go_wp2_with fail
  refine (rname_any _ _ hn).mono ?_
  rintro e w1 ⟨rfl,rfl⟩
  rw [HNM.out]
  go_wp2_with fail
  all_goals first
    | (exfalso;omega)
    | skip
  all_goals
    go_quiet (fail)
    go_wp2
    all_goals first
      | (exfalso;omega)
      | (go_ret;exact ⟨rfl,by (repeat' exact bel)⟩)
theorem rn2b (nm:ByteArray) (d m sh sp a b p cy ex fi la po:Int) (w:World) (hn:nm.size≤1000) (h:(Cal.mk nm 2 d m sh sp a b p cy ex fi la po).served∧(Cal.mk nm 2 d m sh sp a b p cy ex fi la po).polic∧nameB nm=true) (g1:1≤d) (g2:7<d) :
    Calls Tryz.prog 100 #[.agg #[.string nm,.int .i64 2,.int .i64 d,.int .i64 m,.int .i64 sh,.int .i64 sp,.int .i64 a,.int .i64 b,.int .i64 p,.int .i64 cy,.int .i64 ex,.int .i64 fi,.int .i64 la,.int .i64 po]] w fun e w'=>e=.returned (.int .i64 1)∧Below w.heap.size w w':=by
  obtain ⟨⟨s1,s2,s3,s4⟩,⟨⟨p1,p2⟩,p3⟩,hnm⟩:=h
  simp only at s1 s2 s3 s4 p1 p2 p3
  have hp4:(po==4)=false:=by simp;omega
  have HNM:=hide hnm
  have g84401:decide (1≤d)=true:=by simp;omega
  have g51352:decide (d≤7)=false:=by simp;omega
  clear p3 hnm
  go_enter Tryz.func100,Tryz.ntmps100
  go_wp2_with fail
  refine (rname_any _ _ hn).mono ?_
  rintro e w1 ⟨rfl,rfl⟩
  rw [HNM.out]
  go_wp2_with fail
  all_goals first
    | (exfalso;omega)
    | skip
  all_goals
    go_quiet (fail)
    go_wp2
    all_goals first
      | (exfalso;omega)
      | (go_ret;exact ⟨rfl,by (repeat' exact bel)⟩)
theorem rn2c (nm:ByteArray) (d m sh sp a b p cy ex fi la po:Int) (w:World) (hn:nm.size≤1000) (h:(Cal.mk nm 2 d m sh sp a b p cy ex fi la po).served∧(Cal.mk nm 2 d m sh sp a b p cy ex fi la po).polic∧nameB nm=true) (g1:1≤d) (g2:d≤7) (g3:m<1) :
    Calls Tryz.prog 100 #[.agg #[.string nm,.int .i64 2,.int .i64 d,.int .i64 m,.int .i64 sh,.int .i64 sp,.int .i64 a,.int .i64 b,.int .i64 p,.int .i64 cy,.int .i64 ex,.int .i64 fi,.int .i64 la,.int .i64 po]] w fun e w'=>e=.returned (.int .i64 1)∧Below w.heap.size w w':=by
  obtain ⟨⟨s1,s2,s3,s4⟩,⟨⟨p1,p2⟩,p3⟩,hnm⟩:=h
  simp only at s1 s2 s3 s4 p1 p2 p3
  have hp4:(po==4)=false:=by simp;omega
  have HNM:=hide hnm
  have g84401:decide (1≤d)=true:=by simp;omega
  have g97581:decide (d≤7)=true:=by simp;omega
  have g38816:decide (1≤m)=false:=by simp;omega
  clear p3 hnm
  go_enter Tryz.func100,Tryz.ntmps100
  go_wp2_with fail
  refine (rname_any _ _ hn).mono ?_
  rintro e w1 ⟨rfl,rfl⟩
  rw [HNM.out]
  go_wp2_with fail
  all_goals first
    | (exfalso;omega)
    | skip
  all_goals
    go_quiet (fail)
    go_wp2
    all_goals first
      | (exfalso;omega)
      | (go_ret;exact ⟨rfl,by (repeat' exact bel)⟩)
theorem rn2d (nm:ByteArray) (d m sh sp a b p cy ex fi la po:Int) (w:World) (hn:nm.size≤1000) (h:(Cal.mk nm 2 d m sh sp a b p cy ex fi la po).served∧(Cal.mk nm 2 d m sh sp a b p cy ex fi la po).polic∧nameB nm=true) (g1:1≤d) (g2:d≤7) (g3:1≤m) (g4:12<m) :
    Calls Tryz.prog 100 #[.agg #[.string nm,.int .i64 2,.int .i64 d,.int .i64 m,.int .i64 sh,.int .i64 sp,.int .i64 a,.int .i64 b,.int .i64 p,.int .i64 cy,.int .i64 ex,.int .i64 fi,.int .i64 la,.int .i64 po]] w fun e w'=>e=.returned (.int .i64 1)∧Below w.heap.size w w':=by
  obtain ⟨⟨s1,s2,s3,s4⟩,⟨⟨p1,p2⟩,p3⟩,hnm⟩:=h
  simp only at s1 s2 s3 s4 p1 p2 p3
  have hp4:(po==4)=false:=by simp;omega
  have HNM:=hide hnm
  have g84401:decide (1≤d)=true:=by simp;omega
  have g97581:decide (d≤7)=true:=by simp;omega
  have g6363:decide (1≤m)=true:=by simp;omega
  have g51732:decide (m≤12)=false:=by simp;omega
  clear p3 hnm
  go_enter Tryz.func100,Tryz.ntmps100
  go_wp2_with fail
  refine (rname_any _ _ hn).mono ?_
  rintro e w1 ⟨rfl,rfl⟩
  rw [HNM.out]
  go_wp2_with fail
  all_goals first
    | (exfalso;omega)
    | skip
  all_goals
    go_quiet (fail)
    go_wp2
    all_goals first
      | (exfalso;omega)
      | (go_ret;exact ⟨rfl,by (repeat' exact bel)⟩)
theorem rn2e (nm:ByteArray) (d m sh sp a b p cy ex fi la po:Int) (w:World) (hn:nm.size≤1000) (h:(Cal.mk nm 2 d m sh sp a b p cy ex fi la po).served∧(Cal.mk nm 2 d m sh sp a b p cy ex fi la po).polic∧nameB nm=true) (g1:1≤d) (g2:d≤7) (g3:1≤m) (g4:m≤12) (g5:¬ (sh=0∨sh=1)) :
    Calls Tryz.prog 100 #[.agg #[.string nm,.int .i64 2,.int .i64 d,.int .i64 m,.int .i64 sh,.int .i64 sp,.int .i64 a,.int .i64 b,.int .i64 p,.int .i64 cy,.int .i64 ex,.int .i64 fi,.int .i64 la,.int .i64 po]] w fun e w'=>e=.returned (.int .i64 1)∧Below w.heap.size w w':=by
  obtain ⟨⟨s1,s2,s3,s4⟩,⟨⟨p1,p2⟩,p3⟩,hnm⟩:=h
  simp only at s1 s2 s3 s4 p1 p2 p3
  have hp4:(po==4)=false:=by simp;omega
  have HNM:=hide hnm
  have g84401:decide (1≤d)=true:=by simp;omega
  have g97581:decide (d≤7)=true:=by simp;omega
  have g6363:decide (1≤m)=true:=by simp;omega
  have g75278:decide (m≤12)=true:=by simp;omega
  have f308:(sh==0)=false:=by simp;omega
  have f16395:decide (sh=0)=false:=by simp;omega
  have f94622:(sh==1)=false:=by simp;omega
  have f38771:decide (sh=1)=false:=by simp;omega
  clear p3 hnm
  go_enter Tryz.func100,Tryz.ntmps100
  go_wp2_with fail
  refine (rname_any _ _ hn).mono ?_
  rintro e w1 ⟨rfl,rfl⟩
  rw [HNM.out]
  go_wp2_with fail
  all_goals first
    | (exfalso;omega)
    | skip
  all_goals
    go_quiet (fail)
    go_wp2
    all_goals first
      | (exfalso;omega)
      | (go_ret;exact ⟨rfl,by (repeat' exact bel)⟩)
end Go.Proofs.YtjhhmeoibfdcmaaGreat
