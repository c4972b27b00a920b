/- The reference of layer 21: the days of a span that lie in each unit. -/
import Derived.Test.YtjhhmeoibfdcmaaGreatUq18
import Derived.Test.YtjhhmeoibfdcmaaGreatUq27
set_option linter.unusedSimpArgs false
set_option linter.unusedVariables false
set_option maxRecDepth 100000
set_option maxHeartbeats 12800000
namespace Go.Proofs.YtjhhmeoibfdcmaaGreat
open Go.RowKit Qd
def SpC (c:Cal) (lv y:Int) (g:Nat) (w:World):Prop:=g<w.heap.size∧∀ i,i<cntL c y lv→w.cell? ⟨g,i*2,none⟩=some (.int .i64 (dayW c y (cutN c y lv i)))∧w.cell? ⟨g,i*2+1,none⟩=some (.int .i64 (dayW c y (cutN c y lv (i+1))-1))
theorem SpC.call {c:Cal} {lv y:Int} {g:Nat} {w w':World} (h:SpC c lv y g w) (hb:Below w.heap.size w w'):SpC c lv y g w':=
  ⟨Nat.lt_of_lt_of_le h.1 hb.size,fun i hi=>⟨(hb.cell (p:=⟨g,i*2,none⟩) h.1).trans (h.2 i hi).1,(hb.cell (p:=⟨g,i*2+1,none⟩) h.1).trans (h.2 i hi).2⟩⟩
theorem SpC.own {c:Cal} {lv y:Int} {g:Nat} {w w':World} {row:Option Nat} (h:SpC c lv y g w) (hg:w.grownBy w' row) (hne:row≠some g):SpC c lv y g w':=
  ⟨Nat.lt_of_lt_of_le h.1 hg.size,fun i hi=>⟨(hg.cell_far ⟨g,i*2,none⟩ h.1 (fun e=>hne e.symm)).trans (h.2 i hi).1,(hg.cell_far ⟨g,i*2+1,none⟩ h.1 (fun e=>hne e.symm)).trans (h.2 i hi).2⟩⟩
def DyS (c:Cal) (lv:Int) (v10 v11 v12:Value) (w:World):Prop:=(v11=.slice none 0 0∧v12=.int .i64 0)∨∃ g cap y,v11=.slice (some ⟨g,0,none⟩) (cntL c y lv) cap∧v12=.int .i64 y∧SpC c lv y g w∧v10.ownBlock≠some g
def DyB (c:Cal) (s:Sp) (gm capm:Nat) (LM:List Un) (w0 w:World):Prop:=CalAt w w0.heap.size c∧SpAt w (w0.heap.size+1) s∧UnsAt w gm capm LM∧w0.heap.size+1<w.heap.size∧Below w0.heap.size w0 w
theorem DyB.call {c:Cal} {s:Sp} {gm capm:Nat} {LM:List Un} {w0 w w':World} (h:DyB c s gm capm LM w0 w) (hb:Below w.heap.size w w'):DyB c s gm capm LM w0 w':=
  ⟨calAt_below hb (by have:=h.2.2.2.1;omega) h.1,spAt_below hb h.2.2.2.1 h.2.1,h.2.2.1.call hb,Nat.lt_of_lt_of_le h.2.2.2.1 hb.size,h.2.2.2.2.trans (hb.mono h.2.2.2.2.size)⟩
theorem spAt_new2 (w:World) (c:Cal) (s:Sp):SpAt ((w.alloc (calObj c)).alloc (spObj s)) (w.heap.size+1) s:=by
  refine ⟨?_,?_⟩ <;> simp [World.cell?_alloc_at]
theorem r21days_gen (c:Cal) (lv:Int) (s:Sp) (w:World) (hn:c.name.size≤1000) (h:meetsE c lv s=0) (hl:(meetsL c lv s).length≤100000)
    (HM:Hid (∀ W,Calls Tryz.prog 63 #[calV c,.int .i64 lv,spanV s] W fun e w'=>∃ g cap,e=.returned (.tuple #[.slice (some ⟨g,0,none⟩) (meetsL c lv s).length cap,.int .i64 0])∧UnsAt w' g cap (meetsL c lv s)∧Below W.heap.size W w'))
    (HSN:Hid (∀ y,frameE c lv y=0→∀ W,Calls Tryz.prog 64 #[calV c,.int .i64 lv,.int .i64 y] W fun e w'=>∃ g cap,e=.returned (.tuple #[.slice (some ⟨g,0,none⟩) (cntL c y lv) cap,.int .i64 0])∧W.heap.size≤g∧SpC c lv y g w'∧Below W.heap.size W w')) :
    Calls Tryz.prog 24 #[calV c,.int .i64 lv,spanV s] w fun e w'=>(∃ x,e=.returned (.tuple #[x,.int .i64 0])∧OwnI w' w.heap.size x (dysL c lv s))∧Below w.heap.size w w':=by
  have hsd:=meets_ok h
  have hs1:=(fd_ok hsd.2.2.2.2.1).2.2.2.2.1
  have hs2:=(fd_ok hsd.2.2.2.2.2).2.2.2.2.1
  simp [isB] at hs1 hs2
  obtain ⟨hs1,hs1'⟩:=hs1
  obtain ⟨hs2,hs2'⟩:=hs2
  have HUN:=hide (fun (u:Un) (hu:u∈meetsL c lv s)=>clip_meets h hu)
  have HGT:=hide (fun (j:Nat) (u:Un) (hj:(meetsL c lv s)[j]?=some u)=>dysL_get hj)
  have HDL:=hide (dysL_len c lv s)
  obtain ⟨LM,hLM⟩:∃ l,meetsL c lv s=l:=⟨_,rfl⟩
  obtain ⟨DL,hDL⟩:∃ l,dysL c lv s=l:=⟨_,rfl⟩
  rw [hLM] at HM HUN HGT HDL hl
  rw [hDL] at HGT HDL ⊢
  clear hLM hDL h hsd
  have H0:=hide (show CalAt ((w.alloc (calObj c)).alloc (spObj s)) w.heap.size c∧SpAt ((w.alloc (calObj c)).alloc (spObj s)) (w.heap.size+1) s from ⟨calAt_alloc (calAt_new w c) (by simp) _,spAt_new2 w c s⟩)
  simp only [calV,spanV] at HM HSN
  simp only [calV]
  go_enter Tryz.func24,Tryz.ntmps24
  go_wp2_with fail
  refine (HM.out _).mono ?_
  rintro e w1 ⟨gm,capm,rfl,hun,hb1⟩
  have HB1:=hide (show DyB c s gm capm LM w w1 from ⟨calAt_below hb1 (by simp;omega) H0.out.1,spAt_below hb1 (by simp) H0.out.2,hun,by have:=hb1.size;simp at this;omega,(ww hb1).out⟩)
  clear hun hb1
  go_wp2_with fail
  go_loopw [10,11,12,28] (fun s10 s11 s12 si wr=>∃ j:Nat,si=.int .i64 j∧j≤LM.length∧OwnI wr w1.heap.size s10 (DL.take j)∧DyS c lv s10 s11 s12 wr∧Below w1.heap.size w1 wr) (fun _ _ _ si _=>(100001-intOf si).toNat)
  case atStart=>exact ⟨0,rfl,Nat.zero_le _,World.ownsRow_nil _ _ _ _,.inl ⟨rfl,rfl⟩,Below.refl _ _⟩
  case round =>
    obtain ⟨j,rfl,hj,hO,hD,hbr⟩:=hrel
    have HO:=hide hO
    have HBR:=hide hbr
    have hle:=hbr.size
    have HB:=hide (HB1.out.call hbr)
    clear hO hbr
    by_cases hlt:j<LM.length
    · obtain ⟨u,hu⟩:∃ u,LM[j]?=some u:=⟨_,List.getElem?_eq_getElem hlt⟩
      obtain ⟨hU,hulv,_,_,_⟩:=HUN.out u (List.mem_of_getElem? hu)
      have HU:=hide (show frameE c lv u.yr=0∧u.ix=(uI u:Int)+1∧uI u<cntL c u.yr lv by have:=unit_ok hU;rw [hulv] at this;exact this)
      have HSP:=hide (show spV c u=⟨dayW c u.yr (cutN c u.yr lv (uI u)),dayW c u.yr (cutN c u.yr lv (uI u+1))-1⟩ by rw [spV,if_pos hU];unfold spanF spanT cutA cutB;rw [hulv])
      have HBD:=hide (sp_bd' hU)
      have hyr:1600<u.yr:=by
        have hA:=(frame_ok HU.out.1).2.2.2.2.2.2
        obtain ⟨_,h1,h2⟩:=ask_ok hA
        omega
      have HT:=hide (show DL.take (j+1)=DL.take j++[clipV s.a s.b (spV c u)] by rw [List.take_add_one,HGT.out j u hu];rfl)
      obtain ⟨a0,a1,a2⟩:=HB.out.2.2.1.cell hu
      have HLT:=HB.out.2.2.1.lt (by omega)
      rw [HU.out.2.1] at a2
      have hjm:(j:Int)<(LM.length:Int):=by omega
      have hj0:(0:Int)≤(j:Int):=by omega
      obtain ⟨q0,q1,q2,q3,q4,q5,q6,q7,q8,q9,q10,q11,q12,q13⟩:=HB.out.1
      obtain ⟨b0,b1⟩:=HB.out.2.1
      have hzb:=HB.out.2.2.2.1
      have hz0:w.heap.size<wr.heap.size:=by omega
      rcases hD with ⟨rfl,rfl⟩ | ⟨g2,cap2,y,rfl,rfl,hsp0,hap⟩
      · have hy:(u.yr==0)=false:=by simp;omega
        go_wp2_with fail
        refine (HSN.out u.yr HU.out.1 _).mono ?_
        rintro e w2 ⟨g2,cap2,rfl,hg2,hsp,hb2⟩
        have HBL:=hide (show Below wr.heap.size wr w2 from (ww hb2).out)
        have HO2:=hide (ownI_call HO.out HBL.out)
        have HB2:=hide (HB.out.call HBL.out)
        have HBW:=hide (HBR.out.trans (HBL.out.mono hle))
        have HUB:=hide (BlkIs.call (BlkIs.new wr #[.int .i64 lv,.int .i64 u.yr,.int .i64 ((uI u:Int)+1)] 26) hb2)
        have HAP:=hide (show u10.ownBlock≠some g2 from fun e=>by have:=(HO.out.lt g2 e).2;simp at hg2;omega)
        have hle2:w1.heap.size≤w2.heap.size:=Nat.le_trans hle HBL.out.size
        clear hb2 hg2 q0 q1 q2 q3 q4 q5 q6 q7 q8 q9 q10 q11 q12 q13 b0 b1 a0 a1 a2 hzb
        obtain ⟨⟨d0,d1,d2⟩,hzu⟩:=blk_three' HUB.out
        have hgl:=hsp.1
        obtain ⟨c1,c2⟩:=hsp.2 (uI u) HU.out.2.2
        have HCL:=hide (show clipV s.a s.b (spV c u)=clipV s.a s.b ⟨dayW c u.yr (cutN c u.yr lv (uI u)),dayW c u.yr (cutN c u.yr lv (uI u+1))-1⟩ by rw [HSP.out])
        have hbd:=HBD.out
        rw [HSP.out] at hbd
        simp only at hbd
        obtain ⟨e1,e2,e3⟩:=hbd
        have HSPC:=hide hsp
        generalize dayW c u.yr (cutN c u.yr lv (uI u))=D1 at c1 HCL e1 e2 e3
        generalize dayW c u.yr (cutN c u.yr lv (uI u+1))-1=D2 at c2 HCL e1 e2 e3
        obtain ⟨b0,b1⟩:=HB2.out.2.1
        have hzb:=HB2.out.2.2.2.1
        have hi1:(0:Int)≤(uI u:Int):=by omega
        have hi2:(uI u:Int)<(cntL c u.yr lv:Int):=by have:=HU.out.2.2;omega
        have hi60:uI u<60:=by have h1:=cnt_bd c u.yr (frame_ok HU.out.1).2.2.2.2.2.2 lv;have:=HU.out.2.2;omega
        clear hsp
        have hcs:(D2<s.b∧s.a<D1)∨(D2<s.b∧D1≤s.a)∨(s.b≤D2∧s.a<D1)∨(s.b≤D2∧D1≤s.a):=by omega
        rcases hcs with hq | hq | hq | hq
        · have m1:D2<s.b:=by omega
          have m2:s.a<D1:=by omega
          have HQ:=hide (show clipV s.a s.b (spV c u)=D2-D1+1 by rw [HCL.out];exact (show min s.b D2-max s.a D1+1=D2-D1+1 by omega))
          clear hq
          go_wp2_with ((at_builtin;refine app_one rfl _ _ rfl w1.heap.size u10 (DL.take j) (D2-D1+1) (w2.heap.size+1) rfl ((HO2.out.alloc _).alloc _) rfl (by simp) (by rw [List.length_take];omega) (by simp;omega) ?_))
          intro v' w3 ho hg hat
          have HO3:=hide (show OwnI w3 w1.heap.size v' (DL.take (j+1)) by rw [HT.out,HQ.out];unfold OwnI;simpa using ho)
          have HG3:=hide hg
          have HSQ:=hide (show SpC c lv u.yr g2 w3 from SpC.own (HSPC.out.call (by (repeat' exact bel))) hg HAP.out)
          have HAQ:=hide (show v'.ownBlock≠some g2 by
            rcases hat with e | e
            · rw [e];exact HAP.out
            · rw [e];intro e2;have:=Option.some.inj e2;omega)
          have HBQ:=hide (show Below w1.heap.size w1 w3 from (show Below w1.heap.size w1 _ by have hx:=HBW.out;exact bel).grown hg (by simp;omega) (fun k hk=>(HO2.out.lt k hk).1))
          clear ho hg hat
          go_wp2
          go_roundw
          case rel=>exact ⟨j+1,by go_num,by omega,HO3.out,.inr ⟨g2,cap2,u.yr,rfl,rfl,HSQ.out,HAQ.out⟩,HBQ.out⟩
          case measure=>simp [intOf];omega
        · have m1:D2<s.b:=by omega
          have m2:¬ s.a<D1:=by omega
          have HQ:=hide (show clipV s.a s.b (spV c u)=D2-s.a+1 by rw [HCL.out];exact (show min s.b D2-max s.a D1+1=D2-s.a+1 by omega))
          clear hq
          go_wp2_with ((at_builtin;refine app_one rfl _ _ rfl w1.heap.size u10 (DL.take j) (D2-s.a+1) (w2.heap.size+1) rfl ((HO2.out.alloc _).alloc _) rfl (by simp) (by rw [List.length_take];omega) (by simp;omega) ?_))
          intro v' w3 ho hg hat
          have HO3:=hide (show OwnI w3 w1.heap.size v' (DL.take (j+1)) by rw [HT.out,HQ.out];unfold OwnI;simpa using ho)
          have HG3:=hide hg
          have HSQ:=hide (show SpC c lv u.yr g2 w3 from SpC.own (HSPC.out.call (by (repeat' exact bel))) hg HAP.out)
          have HAQ:=hide (show v'.ownBlock≠some g2 by
            rcases hat with e | e
            · rw [e];exact HAP.out
            · rw [e];intro e2;have:=Option.some.inj e2;omega)
          have HBQ:=hide (show Below w1.heap.size w1 w3 from (show Below w1.heap.size w1 _ by have hx:=HBW.out;exact bel).grown hg (by simp;omega) (fun k hk=>(HO2.out.lt k hk).1))
          clear ho hg hat
          go_wp2
          go_roundw
          case rel=>exact ⟨j+1,by go_num,by omega,HO3.out,.inr ⟨g2,cap2,u.yr,rfl,rfl,HSQ.out,HAQ.out⟩,HBQ.out⟩
          case measure=>simp [intOf];omega
        · have m1:¬ D2<s.b:=by omega
          have m2:s.a<D1:=by omega
          have HQ:=hide (show clipV s.a s.b (spV c u)=s.b-D1+1 by rw [HCL.out];exact (show min s.b D2-max s.a D1+1=s.b-D1+1 by omega))
          clear hq
          go_wp2_with ((at_builtin;refine app_one rfl _ _ rfl w1.heap.size u10 (DL.take j) (s.b-D1+1) (w2.heap.size+1) rfl ((HO2.out.alloc _).alloc _) rfl (by simp) (by rw [List.length_take];omega) (by simp;omega) ?_))
          intro v' w3 ho hg hat
          have HO3:=hide (show OwnI w3 w1.heap.size v' (DL.take (j+1)) by rw [HT.out,HQ.out];unfold OwnI;simpa using ho)
          have HG3:=hide hg
          have HSQ:=hide (show SpC c lv u.yr g2 w3 from SpC.own (HSPC.out.call (by (repeat' exact bel))) hg HAP.out)
          have HAQ:=hide (show v'.ownBlock≠some g2 by
            rcases hat with e | e
            · rw [e];exact HAP.out
            · rw [e];intro e2;have:=Option.some.inj e2;omega)
          have HBQ:=hide (show Below w1.heap.size w1 w3 from (show Below w1.heap.size w1 _ by have hx:=HBW.out;exact bel).grown hg (by simp;omega) (fun k hk=>(HO2.out.lt k hk).1))
          clear ho hg hat
          go_wp2
          go_roundw
          case rel=>exact ⟨j+1,by go_num,by omega,HO3.out,.inr ⟨g2,cap2,u.yr,rfl,rfl,HSQ.out,HAQ.out⟩,HBQ.out⟩
          case measure=>simp [intOf];omega
        · have m1:¬ D2<s.b:=by omega
          have m2:¬ s.a<D1:=by omega
          have HQ:=hide (show clipV s.a s.b (spV c u)=s.b-s.a+1 by rw [HCL.out];exact (show min s.b D2-max s.a D1+1=s.b-s.a+1 by omega))
          clear hq
          go_wp2_with ((at_builtin;refine app_one rfl _ _ rfl w1.heap.size u10 (DL.take j) (s.b-s.a+1) (w2.heap.size+1) rfl ((HO2.out.alloc _).alloc _) rfl (by simp) (by rw [List.length_take];omega) (by simp;omega) ?_))
          intro v' w3 ho hg hat
          have HO3:=hide (show OwnI w3 w1.heap.size v' (DL.take (j+1)) by rw [HT.out,HQ.out];unfold OwnI;simpa using ho)
          have HG3:=hide hg
          have HSQ:=hide (show SpC c lv u.yr g2 w3 from SpC.own (HSPC.out.call (by (repeat' exact bel))) hg HAP.out)
          have HAQ:=hide (show v'.ownBlock≠some g2 by
            rcases hat with e | e
            · rw [e];exact HAP.out
            · rw [e];intro e2;have:=Option.some.inj e2;omega)
          have HBQ:=hide (show Below w1.heap.size w1 w3 from (show Below w1.heap.size w1 _ by have hx:=HBW.out;exact bel).grown hg (by simp;omega) (fun k hk=>(HO2.out.lt k hk).1))
          clear ho hg hat
          go_wp2
          go_roundw
          case rel=>exact ⟨j+1,by go_num,by omega,HO3.out,.inr ⟨g2,cap2,u.yr,rfl,rfl,HSQ.out,HAQ.out⟩,HBQ.out⟩
          case measure=>simp [intOf];omega
      · by_cases hyy:y=u.yr
        rotate_left
        · have hy:(u.yr==y)=false:=by simp;exact fun e=>hyy e.symm
          clear hsp0 hap
          go_wp2_with fail
          refine (HSN.out u.yr HU.out.1 _).mono ?_
          rintro e w2 ⟨g2,cap2,rfl,hg2,hsp,hb2⟩
          have HBL:=hide (show Below wr.heap.size wr w2 from (ww hb2).out)
          have HO2:=hide (ownI_call HO.out HBL.out)
          have HB2:=hide (HB.out.call HBL.out)
          have HBW:=hide (HBR.out.trans (HBL.out.mono hle))
          have HUB:=hide (BlkIs.call (BlkIs.new wr #[.int .i64 lv,.int .i64 u.yr,.int .i64 ((uI u:Int)+1)] 26) hb2)
          have HAP:=hide (show u10.ownBlock≠some g2 from fun e=>by have:=(HO.out.lt g2 e).2;simp at hg2;omega)
          have hle2:w1.heap.size≤w2.heap.size:=Nat.le_trans hle HBL.out.size
          clear hb2 hg2 q0 q1 q2 q3 q4 q5 q6 q7 q8 q9 q10 q11 q12 q13 b0 b1 a0 a1 a2 hzb
          obtain ⟨⟨d0,d1,d2⟩,hzu⟩:=blk_three' HUB.out
          have hgl:=hsp.1
          obtain ⟨c1,c2⟩:=hsp.2 (uI u) HU.out.2.2
          have HCL:=hide (show clipV s.a s.b (spV c u)=clipV s.a s.b ⟨dayW c u.yr (cutN c u.yr lv (uI u)),dayW c u.yr (cutN c u.yr lv (uI u+1))-1⟩ by rw [HSP.out])
          have hbd:=HBD.out
          rw [HSP.out] at hbd
          simp only at hbd
          obtain ⟨e1,e2,e3⟩:=hbd
          have HSPC:=hide hsp
          generalize dayW c u.yr (cutN c u.yr lv (uI u))=D1 at c1 HCL e1 e2 e3
          generalize dayW c u.yr (cutN c u.yr lv (uI u+1))-1=D2 at c2 HCL e1 e2 e3
          obtain ⟨b0,b1⟩:=HB2.out.2.1
          have hzb:=HB2.out.2.2.2.1
          have hi1:(0:Int)≤(uI u:Int):=by omega
          have hi2:(uI u:Int)<(cntL c u.yr lv:Int):=by have:=HU.out.2.2;omega
          have hi60:uI u<60:=by have h1:=cnt_bd c u.yr (frame_ok HU.out.1).2.2.2.2.2.2 lv;have:=HU.out.2.2;omega
          clear hsp
          have hcs:(D2<s.b∧s.a<D1)∨(D2<s.b∧D1≤s.a)∨(s.b≤D2∧s.a<D1)∨(s.b≤D2∧D1≤s.a):=by omega
          rcases hcs with hq | hq | hq | hq
          · have m1:D2<s.b:=by omega
            have m2:s.a<D1:=by omega
            have HQ:=hide (show clipV s.a s.b (spV c u)=D2-D1+1 by rw [HCL.out];exact (show min s.b D2-max s.a D1+1=D2-D1+1 by omega))
            clear hq
            go_wp2_with ((at_builtin;refine app_one rfl _ _ rfl w1.heap.size u10 (DL.take j) (D2-D1+1) (w2.heap.size+1) rfl ((HO2.out.alloc _).alloc _) rfl (by simp) (by rw [List.length_take];omega) (by simp;omega) ?_))
            intro v' w3 ho hg hat
            have HO3:=hide (show OwnI w3 w1.heap.size v' (DL.take (j+1)) by rw [HT.out,HQ.out];unfold OwnI;simpa using ho)
            have HG3:=hide hg
            have HSQ:=hide (show SpC c lv u.yr g2 w3 from SpC.own (HSPC.out.call (by (repeat' exact bel))) hg HAP.out)
            have HAQ:=hide (show v'.ownBlock≠some g2 by
              rcases hat with e | e
              · rw [e];exact HAP.out
              · rw [e];intro e2;have:=Option.some.inj e2;omega)
            have HBQ:=hide (show Below w1.heap.size w1 w3 from (show Below w1.heap.size w1 _ by have hx:=HBW.out;exact bel).grown hg (by simp;omega) (fun k hk=>(HO2.out.lt k hk).1))
            clear ho hg hat
            go_wp2
            go_roundw
            case rel=>exact ⟨j+1,by go_num,by omega,HO3.out,.inr ⟨g2,cap2,u.yr,rfl,rfl,HSQ.out,HAQ.out⟩,HBQ.out⟩
            case measure=>simp [intOf];omega
          · have m1:D2<s.b:=by omega
            have m2:¬ s.a<D1:=by omega
            have HQ:=hide (show clipV s.a s.b (spV c u)=D2-s.a+1 by rw [HCL.out];exact (show min s.b D2-max s.a D1+1=D2-s.a+1 by omega))
            clear hq
            go_wp2_with ((at_builtin;refine app_one rfl _ _ rfl w1.heap.size u10 (DL.take j) (D2-s.a+1) (w2.heap.size+1) rfl ((HO2.out.alloc _).alloc _) rfl (by simp) (by rw [List.length_take];omega) (by simp;omega) ?_))
            intro v' w3 ho hg hat
            have HO3:=hide (show OwnI w3 w1.heap.size v' (DL.take (j+1)) by rw [HT.out,HQ.out];unfold OwnI;simpa using ho)
            have HG3:=hide hg
            have HSQ:=hide (show SpC c lv u.yr g2 w3 from SpC.own (HSPC.out.call (by (repeat' exact bel))) hg HAP.out)
            have HAQ:=hide (show v'.ownBlock≠some g2 by
              rcases hat with e | e
              · rw [e];exact HAP.out
              · rw [e];intro e2;have:=Option.some.inj e2;omega)
            have HBQ:=hide (show Below w1.heap.size w1 w3 from (show Below w1.heap.size w1 _ by have hx:=HBW.out;exact bel).grown hg (by simp;omega) (fun k hk=>(HO2.out.lt k hk).1))
            clear ho hg hat
            go_wp2
            go_roundw
            case rel=>exact ⟨j+1,by go_num,by omega,HO3.out,.inr ⟨g2,cap2,u.yr,rfl,rfl,HSQ.out,HAQ.out⟩,HBQ.out⟩
            case measure=>simp [intOf];omega
          · have m1:¬ D2<s.b:=by omega
            have m2:s.a<D1:=by omega
            have HQ:=hide (show clipV s.a s.b (spV c u)=s.b-D1+1 by rw [HCL.out];exact (show min s.b D2-max s.a D1+1=s.b-D1+1 by omega))
            clear hq
            go_wp2_with ((at_builtin;refine app_one rfl _ _ rfl w1.heap.size u10 (DL.take j) (s.b-D1+1) (w2.heap.size+1) rfl ((HO2.out.alloc _).alloc _) rfl (by simp) (by rw [List.length_take];omega) (by simp;omega) ?_))
            intro v' w3 ho hg hat
            have HO3:=hide (show OwnI w3 w1.heap.size v' (DL.take (j+1)) by rw [HT.out,HQ.out];unfold OwnI;simpa using ho)
            have HG3:=hide hg
            have HSQ:=hide (show SpC c lv u.yr g2 w3 from SpC.own (HSPC.out.call (by (repeat' exact bel))) hg HAP.out)
            have HAQ:=hide (show v'.ownBlock≠some g2 by
              rcases hat with e | e
              · rw [e];exact HAP.out
              · rw [e];intro e2;have:=Option.some.inj e2;omega)
            have HBQ:=hide (show Below w1.heap.size w1 w3 from (show Below w1.heap.size w1 _ by have hx:=HBW.out;exact bel).grown hg (by simp;omega) (fun k hk=>(HO2.out.lt k hk).1))
            clear ho hg hat
            go_wp2
            go_roundw
            case rel=>exact ⟨j+1,by go_num,by omega,HO3.out,.inr ⟨g2,cap2,u.yr,rfl,rfl,HSQ.out,HAQ.out⟩,HBQ.out⟩
            case measure=>simp [intOf];omega
          · have m1:¬ D2<s.b:=by omega
            have m2:¬ s.a<D1:=by omega
            have HQ:=hide (show clipV s.a s.b (spV c u)=s.b-s.a+1 by rw [HCL.out];exact (show min s.b D2-max s.a D1+1=s.b-s.a+1 by omega))
            clear hq
            go_wp2_with ((at_builtin;refine app_one rfl _ _ rfl w1.heap.size u10 (DL.take j) (s.b-s.a+1) (w2.heap.size+1) rfl ((HO2.out.alloc _).alloc _) rfl (by simp) (by rw [List.length_take];omega) (by simp;omega) ?_))
            intro v' w3 ho hg hat
            have HO3:=hide (show OwnI w3 w1.heap.size v' (DL.take (j+1)) by rw [HT.out,HQ.out];unfold OwnI;simpa using ho)
            have HG3:=hide hg
            have HSQ:=hide (show SpC c lv u.yr g2 w3 from SpC.own (HSPC.out.call (by (repeat' exact bel))) hg HAP.out)
            have HAQ:=hide (show v'.ownBlock≠some g2 by
              rcases hat with e | e
              · rw [e];exact HAP.out
              · rw [e];intro e2;have:=Option.some.inj e2;omega)
            have HBQ:=hide (show Below w1.heap.size w1 w3 from (show Below w1.heap.size w1 _ by have hx:=HBW.out;exact bel).grown hg (by simp;omega) (fun k hk=>(HO2.out.lt k hk).1))
            clear ho hg hat
            go_wp2
            go_roundw
            case rel=>exact ⟨j+1,by go_num,by omega,HO3.out,.inr ⟨g2,cap2,u.yr,rfl,rfl,HSQ.out,HAQ.out⟩,HBQ.out⟩
            case measure=>simp [intOf];omega
        · subst hyy
          have hy:(u.yr==u.yr)=true:=by simp
          obtain ⟨w2,hw2⟩:∃ W,wr.alloc (.cells #[.int .i64 lv,.int .i64 u.yr,.int .i64 ((uI u:Int)+1)] 26)=W:=⟨_,rfl⟩
          have HBL:=hide (show Below wr.heap.size wr w2 by rw [← hw2];exact bel)
          have HO2:=hide (ownI_call HO.out HBL.out)
          have HB2:=hide (HB.out.call HBL.out)
          have HBW:=hide (HBR.out.trans (HBL.out.mono hle))
          have HUB:=hide (show BlkIs w2 wr.heap.size #[.int .i64 lv,.int .i64 u.yr,.int .i64 ((uI u:Int)+1)] 26 by rw [← hw2];exact BlkIs.new _ _ _)
          have HAP:=hide hap
          have hle2:w1.heap.size≤w2.heap.size:=Nat.le_trans hle HBL.out.size
          have hsp:=hsp0.call HBL.out
          clear b0 b1 hzb hsp0 hap
          obtain ⟨⟨d0,d1,d2⟩,hzu⟩:=blk_three' HUB.out
          have hgl:=hsp.1
          obtain ⟨c1,c2⟩:=hsp.2 (uI u) HU.out.2.2
          have HCL:=hide (show clipV s.a s.b (spV c u)=clipV s.a s.b ⟨dayW c u.yr (cutN c u.yr lv (uI u)),dayW c u.yr (cutN c u.yr lv (uI u+1))-1⟩ by rw [HSP.out])
          have hbd:=HBD.out
          rw [HSP.out] at hbd
          simp only at hbd
          obtain ⟨e1,e2,e3⟩:=hbd
          have HSPC:=hide hsp
          generalize dayW c u.yr (cutN c u.yr lv (uI u))=D1 at c1 HCL e1 e2 e3
          generalize dayW c u.yr (cutN c u.yr lv (uI u+1))-1=D2 at c2 HCL e1 e2 e3
          obtain ⟨b0,b1⟩:=HB2.out.2.1
          have hzb:=HB2.out.2.2.2.1
          have hi1:(0:Int)≤(uI u:Int):=by omega
          have hi2:(uI u:Int)<(cntL c u.yr lv:Int):=by have:=HU.out.2.2;omega
          have hi60:uI u<60:=by have h1:=cnt_bd c u.yr (frame_ok HU.out.1).2.2.2.2.2.2 lv;have:=HU.out.2.2;omega
          clear hsp
          have hcs:(D2<s.b∧s.a<D1)∨(D2<s.b∧D1≤s.a)∨(s.b≤D2∧s.a<D1)∨(s.b≤D2∧D1≤s.a):=by omega
          rcases hcs with hq | hq | hq | hq
          · have m1:D2<s.b:=by omega
            have m2:s.a<D1:=by omega
            have HQ:=hide (show clipV s.a s.b (spV c u)=D2-D1+1 by rw [HCL.out];exact (show min s.b D2-max s.a D1+1=D2-D1+1 by omega))
            clear hq
            go_wp2_with ((at_builtin;refine app_one rfl _ _ rfl w1.heap.size u10 (DL.take j) (D2-D1+1) (w2.heap.size+1) rfl ((HO2.out.alloc _).alloc _) rfl (by simp) (by rw [List.length_take];omega) (by simp;omega) ?_))
            intro v' w3 ho hg hat
            have HO3:=hide (show OwnI w3 w1.heap.size v' (DL.take (j+1)) by rw [HT.out,HQ.out];unfold OwnI;simpa using ho)
            have HG3:=hide hg
            have HSQ:=hide (show SpC c lv u.yr g2 w3 from SpC.own (HSPC.out.call (by (repeat' exact bel))) hg HAP.out)
            have HAQ:=hide (show v'.ownBlock≠some g2 by
              rcases hat with e | e
              · rw [e];exact HAP.out
              · rw [e];intro e2;have:=Option.some.inj e2;omega)
            have HBQ:=hide (show Below w1.heap.size w1 w3 from (show Below w1.heap.size w1 _ by have hx:=HBW.out;exact bel).grown hg (by simp;omega) (fun k hk=>(HO2.out.lt k hk).1))
            clear ho hg hat
            go_wp2
            go_roundw
            case rel=>exact ⟨j+1,by go_num,by omega,HO3.out,.inr ⟨g2,cap2,u.yr,rfl,rfl,HSQ.out,HAQ.out⟩,HBQ.out⟩
            case measure=>simp [intOf];omega
          · have m1:D2<s.b:=by omega
            have m2:¬ s.a<D1:=by omega
            have HQ:=hide (show clipV s.a s.b (spV c u)=D2-s.a+1 by rw [HCL.out];exact (show min s.b D2-max s.a D1+1=D2-s.a+1 by omega))
            clear hq
            go_wp2_with ((at_builtin;refine app_one rfl _ _ rfl w1.heap.size u10 (DL.take j) (D2-s.a+1) (w2.heap.size+1) rfl ((HO2.out.alloc _).alloc _) rfl (by simp) (by rw [List.length_take];omega) (by simp;omega) ?_))
            intro v' w3 ho hg hat
            have HO3:=hide (show OwnI w3 w1.heap.size v' (DL.take (j+1)) by rw [HT.out,HQ.out];unfold OwnI;simpa using ho)
            have HG3:=hide hg
            have HSQ:=hide (show SpC c lv u.yr g2 w3 from SpC.own (HSPC.out.call (by (repeat' exact bel))) hg HAP.out)
            have HAQ:=hide (show v'.ownBlock≠some g2 by
              rcases hat with e | e
              · rw [e];exact HAP.out
              · rw [e];intro e2;have:=Option.some.inj e2;omega)
            have HBQ:=hide (show Below w1.heap.size w1 w3 from (show Below w1.heap.size w1 _ by have hx:=HBW.out;exact bel).grown hg (by simp;omega) (fun k hk=>(HO2.out.lt k hk).1))
            clear ho hg hat
            go_wp2
            go_roundw
            case rel=>exact ⟨j+1,by go_num,by omega,HO3.out,.inr ⟨g2,cap2,u.yr,rfl,rfl,HSQ.out,HAQ.out⟩,HBQ.out⟩
            case measure=>simp [intOf];omega
          · have m1:¬ D2<s.b:=by omega
            have m2:s.a<D1:=by omega
            have HQ:=hide (show clipV s.a s.b (spV c u)=s.b-D1+1 by rw [HCL.out];exact (show min s.b D2-max s.a D1+1=s.b-D1+1 by omega))
            clear hq
            go_wp2_with ((at_builtin;refine app_one rfl _ _ rfl w1.heap.size u10 (DL.take j) (s.b-D1+1) (w2.heap.size+1) rfl ((HO2.out.alloc _).alloc _) rfl (by simp) (by rw [List.length_take];omega) (by simp;omega) ?_))
            intro v' w3 ho hg hat
            have HO3:=hide (show OwnI w3 w1.heap.size v' (DL.take (j+1)) by rw [HT.out,HQ.out];unfold OwnI;simpa using ho)
            have HG3:=hide hg
            have HSQ:=hide (show SpC c lv u.yr g2 w3 from SpC.own (HSPC.out.call (by (repeat' exact bel))) hg HAP.out)
            have HAQ:=hide (show v'.ownBlock≠some g2 by
              rcases hat with e | e
              · rw [e];exact HAP.out
              · rw [e];intro e2;have:=Option.some.inj e2;omega)
            have HBQ:=hide (show Below w1.heap.size w1 w3 from (show Below w1.heap.size w1 _ by have hx:=HBW.out;exact bel).grown hg (by simp;omega) (fun k hk=>(HO2.out.lt k hk).1))
            clear ho hg hat
            go_wp2
            go_roundw
            case rel=>exact ⟨j+1,by go_num,by omega,HO3.out,.inr ⟨g2,cap2,u.yr,rfl,rfl,HSQ.out,HAQ.out⟩,HBQ.out⟩
            case measure=>simp [intOf];omega
          · have m1:¬ D2<s.b:=by omega
            have m2:¬ s.a<D1:=by omega
            have HQ:=hide (show clipV s.a s.b (spV c u)=s.b-s.a+1 by rw [HCL.out];exact (show min s.b D2-max s.a D1+1=s.b-s.a+1 by omega))
            clear hq
            go_wp2_with ((at_builtin;refine app_one rfl _ _ rfl w1.heap.size u10 (DL.take j) (s.b-s.a+1) (w2.heap.size+1) rfl ((HO2.out.alloc _).alloc _) rfl (by simp) (by rw [List.length_take];omega) (by simp;omega) ?_))
            intro v' w3 ho hg hat
            have HO3:=hide (show OwnI w3 w1.heap.size v' (DL.take (j+1)) by rw [HT.out,HQ.out];unfold OwnI;simpa using ho)
            have HG3:=hide hg
            have HSQ:=hide (show SpC c lv u.yr g2 w3 from SpC.own (HSPC.out.call (by (repeat' exact bel))) hg HAP.out)
            have HAQ:=hide (show v'.ownBlock≠some g2 by
              rcases hat with e | e
              · rw [e];exact HAP.out
              · rw [e];intro e2;have:=Option.some.inj e2;omega)
            have HBQ:=hide (show Below w1.heap.size w1 w3 from (show Below w1.heap.size w1 _ by have hx:=HBW.out;exact bel).grown hg (by simp;omega) (fun k hk=>(HO2.out.lt k hk).1))
            clear ho hg hat
            go_wp2
            go_roundw
            case rel=>exact ⟨j+1,by go_num,by omega,HO3.out,.inr ⟨g2,cap2,u.yr,rfl,rfl,HSQ.out,HAQ.out⟩,HBQ.out⟩
            case measure=>simp [intOf];omega
    · have HF := hide (show OwnI wr w1.heap.size u10 DL by
        have h:=HO.out
        rwa [List.take_of_length_le (by rw [HDL.out];omega)] at h)
      have HBX:=hide (HB.out.2.2.2.2)
      have hle0:w.heap.size≤w1.heap.size:=HB1.out.2.2.2.2.size
      go_wp2
      all_goals first
        | (exfalso;omega)
        | (go_ret2;exact ⟨⟨_,rfl,ownI_base HF.out hle0⟩,HBX.out⟩)
end Go.Proofs.YtjhhmeoibfdcmaaGreat
