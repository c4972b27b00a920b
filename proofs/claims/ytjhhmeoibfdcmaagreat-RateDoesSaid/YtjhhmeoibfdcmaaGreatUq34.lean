/- Contracts of the references: which calendars may be: by the calendar of weeks. -/
import Derived.Lib.QuietBelow
import Derived.Test.YtjhhmeoibfdcmaaGreatUq26
set_option linter.unusedSimpArgs false
set_option linter.unusedVariables false
set_option maxRecDepth 100000
set_option maxHeartbeats 12800000
namespace Go.Proofs.YtjhhmeoibfdcmaaGreat
open Go.RowKit Go.Sort Qd
theorem rc50n (nm:ByteArray) (sp a b p cy ex fi la po:Int) (w:World) (hn:nm.size≤1000) (h:(Cal.mk nm 5 7 12 0 sp a b p cy ex fi la po).served∧(Cal.mk nm 5 7 12 0 sp a b p cy ex fi la po).polic∧nameB nm=true) (hc:¬ calShaped (Cal.mk nm 5 7 12 0 sp a b p cy ex fi la po)) :
    Calls Tryz.prog 100 #[.agg #[.string nm,.int .i64 5,.int .i64 7,.int .i64 12,.int .i64 0,.int .i64 sp,.int .i64 a,.int .i64 b,.int .i64 p,.int .i64 cy,.int .i64 ex,.int .i64 fi,.int .i64 la,.int .i64 po]] w fun e w'=>e=.returned (.int .i64 1)∧Below w.heap.size w w':=by
  obtain ⟨⟨s1,s2,s3,s4⟩,⟨⟨p1,p2⟩,p3⟩,hnm⟩:=h
  simp only at s1 s2 s3 s4 p1 p2 p3
  have hp4:(po==4)=false:=by simp;omega
  have HNM:=hide hnm
  have hsh:decide (calShaped (Cal.mk nm 5 7 12 0 sp a b p cy ex fi la po))=false:=by simp [hc]
  have HSH:=hide hsh
  clear p3 hnm hc hsh
  go_enter Tryz.func100,Tryz.ntmps100
  go_wp2_with fail
  refine (rname_any _ _ hn).mono ?_
  rintro e w1 ⟨rfl,rfl⟩
  rw [HNM.out]
  go_wp2_with fail
  all_goals first
    | (exfalso;omega)
    | skip
  obtain ⟨W0,hW0⟩:∃ W0:World,W0=((w.alloc (.cells #[.string nm,.int .i64 5,.int .i64 7,.int .i64 12,.int .i64 0,.int .i64 sp,.int .i64 a,.int .i64 b,.int .i64 p,.int .i64 cy,.int .i64 ex,.int .i64 fi,.int .i64 la,.int .i64 po] 24)).alloc (.cells #[.string ⟨#[]⟩,.int .i64 5,.int .i64 7,.int .i64 12,.int .i64 0,.int .i64 sp,.int .i64 a,.int .i64 b,.int .i64 p,.int .i64 cy,.int .i64 ex,.int .i64 0,.int .i64 0,.int .i64 0] 24)):=⟨_,rfl⟩
  have hz0:w.heap.size<W0.heap.size:=by rw [hW0];simp;omega
  have HB0:=hide (show Below w.heap.size w W0 by rw [hW0];(repeat' exact bel))
  have HQ0:=hide (show CalAt W0 w.heap.size (Cal.mk nm 5 7 12 0 sp a b p cy ex fi la po) by rw [hW0];exact calAt_alloc (calAt_new w (Cal.mk nm 5 7 12 0 sp a b p cy ex fi la po)) (by simp) _)
  rw [← hW0]
  clear hW0
  obtain ⟨q0,q1,q2,q3,q4,q5,q6,q7,q8,q9,q10,q11,q12,q13⟩:=HQ0.out
  simp only at q0 q1 q2 q3 q4 q5 q6 q7 q8 q9 q10 q11 q12 q13
  have k0:=cell_regrown q0
  have k1:=cell_regrown q1
  have k2:=cell_regrown q2
  have k3:=cell_regrown q3
  have k4:=cell_regrown q4
  have k5:=cell_regrown q5
  have k6:=cell_regrown q6
  have k7:=cell_regrown q7
  have k8:=cell_regrown q8
  have k9:=cell_regrown q9
  have k10:=cell_regrown q10
  have k11:=cell_regrown q11
  have k12:=cell_regrown q12
  have k13:=cell_regrown q13
  clear q0 q1 q2 q3 q4 q5 q6 q7 q8 q9 q10 q11 q12 q13
  have cS:=fun dd os=>Calls.regrown_of (d:=dd) (os:=os) (w:=W0) (shaped_x nm _ _ _ _ _ _ _ _ _ _ _ _ _ (grow (redrawn W0 dd) os) _ HSH.out)
  refine wp_region_quiet_below (by kernel_rfl) (by kernel_rfl) ?_
  repeat (quiet_step (exact cS _ _))
  refine wpQuiet_nil ?_
  intro _ hw'
  obtain ⟨⟨dq,osq⟩,hw2⟩:=hw'
  subst hw2
  go_wp2
  all_goals first
    | (exfalso;omega)
    | (go_ret;exact ⟨rfl,HB0.out.trans ((below_regrown W0 dq osq).mono (by omega))⟩)
theorem rc50l (nm:ByteArray) (sp a b p cy ex fi la po:Int) (w:World) (hn:nm.size≤1000) (h:(Cal.mk nm 5 7 12 0 sp a b p cy ex fi la po).served∧(Cal.mk nm 5 7 12 0 sp a b p cy ex fi la po).polic∧nameB nm=true) (hc:calShaped (Cal.mk nm 5 7 12 0 sp a b p cy ex fi la po)) (hx:ex<1) :
    Calls Tryz.prog 100 #[.agg #[.string nm,.int .i64 5,.int .i64 7,.int .i64 12,.int .i64 0,.int .i64 sp,.int .i64 a,.int .i64 b,.int .i64 p,.int .i64 cy,.int .i64 ex,.int .i64 fi,.int .i64 la,.int .i64 po]] w fun e w'=>e=.returned (.int .i64 1)∧Below w.heap.size w w':=by
  obtain ⟨⟨s1,s2,s3,s4⟩,⟨⟨p1,p2⟩,p3⟩,hnm⟩:=h
  simp only at s1 s2 s3 s4 p1 p2 p3
  have hp4:(po==4)=false:=by simp;omega
  have HNM:=hide hnm
  have hsh:decide (calShaped (Cal.mk nm 5 7 12 0 sp a b p cy ex fi la po))=true:=by simp [hc]
  have HSH:=hide hsh
  have e7:decide (1≤ex)=false:=by simp;omega
  clear p3 hnm hc hsh hx
  go_enter Tryz.func100,Tryz.ntmps100
  go_wp2_with fail
  refine (rname_any _ _ hn).mono ?_
  rintro e w1 ⟨rfl,rfl⟩
  rw [HNM.out]
  go_wp2_with fail
  all_goals first
    | (exfalso;omega)
    | skip
  obtain ⟨W0,hW0⟩:∃ W0:World,W0=((w.alloc (.cells #[.string nm,.int .i64 5,.int .i64 7,.int .i64 12,.int .i64 0,.int .i64 sp,.int .i64 a,.int .i64 b,.int .i64 p,.int .i64 cy,.int .i64 ex,.int .i64 fi,.int .i64 la,.int .i64 po] 24)).alloc (.cells #[.string ⟨#[]⟩,.int .i64 5,.int .i64 7,.int .i64 12,.int .i64 0,.int .i64 sp,.int .i64 a,.int .i64 b,.int .i64 p,.int .i64 cy,.int .i64 ex,.int .i64 0,.int .i64 0,.int .i64 0] 24)):=⟨_,rfl⟩
  have hz0:w.heap.size<W0.heap.size:=by rw [hW0];simp;omega
  have HB0:=hide (show Below w.heap.size w W0 by rw [hW0];(repeat' exact bel))
  have HQ0:=hide (show CalAt W0 w.heap.size (Cal.mk nm 5 7 12 0 sp a b p cy ex fi la po) by rw [hW0];exact calAt_alloc (calAt_new w (Cal.mk nm 5 7 12 0 sp a b p cy ex fi la po)) (by simp) _)
  rw [← hW0]
  clear hW0
  obtain ⟨q0,q1,q2,q3,q4,q5,q6,q7,q8,q9,q10,q11,q12,q13⟩:=HQ0.out
  simp only at q0 q1 q2 q3 q4 q5 q6 q7 q8 q9 q10 q11 q12 q13
  have k0:=cell_regrown q0
  have k1:=cell_regrown q1
  have k2:=cell_regrown q2
  have k3:=cell_regrown q3
  have k4:=cell_regrown q4
  have k5:=cell_regrown q5
  have k6:=cell_regrown q6
  have k7:=cell_regrown q7
  have k8:=cell_regrown q8
  have k9:=cell_regrown q9
  have k10:=cell_regrown q10
  have k11:=cell_regrown q11
  have k12:=cell_regrown q12
  have k13:=cell_regrown q13
  clear q0 q1 q2 q3 q4 q5 q6 q7 q8 q9 q10 q11 q12 q13
  have cS:=fun dd os=>Calls.regrown_of (d:=dd) (os:=os) (w:=W0) (shaped_x nm _ _ _ _ _ _ _ _ _ _ _ _ _ (grow (redrawn W0 dd) os) _ HSH.out)
  refine wp_region_quiet_below (by kernel_rfl) (by kernel_rfl) ?_
  repeat (quiet_step (exact cS _ _))
  refine wpQuiet_nil ?_
  intro _ hw'
  obtain ⟨⟨dq,osq⟩,hw2⟩:=hw'
  subst hw2
  go_wp2
  all_goals first
    | (exfalso;omega)
    | (go_ret;exact ⟨rfl,HB0.out.trans ((below_regrown W0 dq osq).mono (by omega))⟩)
theorem rc50g (nm:ByteArray) (sp a b p cy ex fi la po:Int) (w:World) (hn:nm.size≤1000) (h:(Cal.mk nm 5 7 12 0 sp a b p cy ex fi la po).served∧(Cal.mk nm 5 7 12 0 sp a b p cy ex fi la po).polic∧nameB nm=true) (hc:calShaped (Cal.mk nm 5 7 12 0 sp a b p cy ex fi la po)) (hx:1≤ex) (hx2:manyP sp cy<ex) :
    Calls Tryz.prog 100 #[.agg #[.string nm,.int .i64 5,.int .i64 7,.int .i64 12,.int .i64 0,.int .i64 sp,.int .i64 a,.int .i64 b,.int .i64 p,.int .i64 cy,.int .i64 ex,.int .i64 fi,.int .i64 la,.int .i64 po]] w fun e w'=>e=.returned (.int .i64 1)∧Below w.heap.size w w':=by
  obtain ⟨⟨s1,s2,s3,s4⟩,⟨⟨p1,p2⟩,p3⟩,hnm⟩:=h
  simp only at s1 s2 s3 s4 p1 p2 p3
  have hp4:(po==4)=false:=by simp;omega
  have HNM:=hide hnm
  have hsh:decide (calShaped (Cal.mk nm 5 7 12 0 sp a b p cy ex fi la po))=true:=by simp [hc]
  have HSH:=hide hsh
  have e7:decide (1≤ex)=true:=by simp;omega
  have HM:=hide (show rmanyP (Cal.mk nm 5 7 12 0 sp a b p cy ex fi la po)=manyP sp cy from rmany_shaped hc)
  obtain ⟨M,hM⟩:∃ M,manyP sp cy=M:=⟨_,rfl⟩
  rw [hM] at HM hx2
  clear hM
  have e8:decide (ex≤M)=false:=by simp;omega
  clear p3 hnm hc hsh hx
  go_enter Tryz.func100,Tryz.ntmps100
  go_wp2_with fail
  refine (rname_any _ _ hn).mono ?_
  rintro e w1 ⟨rfl,rfl⟩
  rw [HNM.out]
  go_wp2_with fail
  all_goals first
    | (exfalso;omega)
    | skip
  obtain ⟨W0,hW0⟩:∃ W0:World,W0=((w.alloc (.cells #[.string nm,.int .i64 5,.int .i64 7,.int .i64 12,.int .i64 0,.int .i64 sp,.int .i64 a,.int .i64 b,.int .i64 p,.int .i64 cy,.int .i64 ex,.int .i64 fi,.int .i64 la,.int .i64 po] 24)).alloc (.cells #[.string ⟨#[]⟩,.int .i64 5,.int .i64 7,.int .i64 12,.int .i64 0,.int .i64 sp,.int .i64 a,.int .i64 b,.int .i64 p,.int .i64 cy,.int .i64 ex,.int .i64 0,.int .i64 0,.int .i64 0] 24)):=⟨_,rfl⟩
  have hz0:w.heap.size<W0.heap.size:=by rw [hW0];simp;omega
  have HB0:=hide (show Below w.heap.size w W0 by rw [hW0];(repeat' exact bel))
  have HQ0:=hide (show CalAt W0 w.heap.size (Cal.mk nm 5 7 12 0 sp a b p cy ex fi la po) by rw [hW0];exact calAt_alloc (calAt_new w (Cal.mk nm 5 7 12 0 sp a b p cy ex fi la po)) (by simp) _)
  rw [← hW0]
  clear hW0
  obtain ⟨q0,q1,q2,q3,q4,q5,q6,q7,q8,q9,q10,q11,q12,q13⟩:=HQ0.out
  simp only at q0 q1 q2 q3 q4 q5 q6 q7 q8 q9 q10 q11 q12 q13
  have k0:=cell_regrown q0
  have k1:=cell_regrown q1
  have k2:=cell_regrown q2
  have k3:=cell_regrown q3
  have k4:=cell_regrown q4
  have k5:=cell_regrown q5
  have k6:=cell_regrown q6
  have k7:=cell_regrown q7
  have k8:=cell_regrown q8
  have k9:=cell_regrown q9
  have k10:=cell_regrown q10
  have k11:=cell_regrown q11
  have k12:=cell_regrown q12
  have k13:=cell_regrown q13
  clear q0 q1 q2 q3 q4 q5 q6 q7 q8 q9 q10 q11 q12 q13
  have cS:=fun dd os=>Calls.regrown_of (d:=dd) (os:=os) (w:=W0) (shaped_x nm _ _ _ _ _ _ _ _ _ _ _ _ _ (grow (redrawn W0 dd) os) _ HSH.out)
  have cM:=fun dd os=>Calls.regrown_of (d:=dd) (os:=os) (w:=W0) (many_x nm _ _ _ _ _ _ _ _ _ _ _ _ _ (grow (redrawn W0 dd) os) _ HM.out)
  refine wp_region_quiet_below (by kernel_rfl) (by kernel_rfl) ?_
  repeat (quiet_step (first | exact cS _ _ | exact cM _ _))
  refine wpQuiet_nil ?_
  intro _ hw'
  obtain ⟨⟨dq,osq⟩,hw2⟩:=hw'
  subst hw2
  go_wp2
  all_goals first
    | (exfalso;omega)
    | (go_ret;exact ⟨rfl,HB0.out.trans ((below_regrown W0 dq osq).mono (by omega))⟩)
theorem rc50y (nm:ByteArray) (sp a b p cy ex fi la po:Int) (w:World) (hn:nm.size≤1000) (h:(Cal.mk nm 5 7 12 0 sp a b p cy ex fi la po).served∧(Cal.mk nm 5 7 12 0 sp a b p cy ex fi la po).polic∧nameB nm=true) (hc:calShaped (Cal.mk nm 5 7 12 0 sp a b p cy ex fi la po)) (hx:1≤ex) (hx2:ex≤manyP sp cy) :
    Calls Tryz.prog 100 #[.agg #[.string nm,.int .i64 5,.int .i64 7,.int .i64 12,.int .i64 0,.int .i64 sp,.int .i64 a,.int .i64 b,.int .i64 p,.int .i64 cy,.int .i64 ex,.int .i64 fi,.int .i64 la,.int .i64 po]] w fun e w'=>e=.returned (.int .i64 0)∧Below w.heap.size w w':=by
  obtain ⟨⟨s1,s2,s3,s4⟩,⟨⟨p1,p2⟩,p3⟩,hnm⟩:=h
  simp only at s1 s2 s3 s4 p1 p2 p3
  have hp4:(po==4)=false:=by simp;omega
  have HNM:=hide hnm
  have hsh:decide (calShaped (Cal.mk nm 5 7 12 0 sp a b p cy ex fi la po))=true:=by simp [hc]
  have HSH:=hide hsh
  have e7:decide (1≤ex)=true:=by simp;omega
  have HM:=hide (show rmanyP (Cal.mk nm 5 7 12 0 sp a b p cy ex fi la po)=manyP sp cy from rmany_shaped hc)
  obtain ⟨M,hM⟩:∃ M,manyP sp cy=M:=⟨_,rfl⟩
  rw [hM] at HM hx2
  clear hM
  have e8:decide (ex≤M)=true:=by simp;omega
  clear p3 hnm hc hsh hx
  go_enter Tryz.func100,Tryz.ntmps100
  go_wp2_with fail
  refine (rname_any _ _ hn).mono ?_
  rintro e w1 ⟨rfl,rfl⟩
  rw [HNM.out]
  go_wp2_with fail
  all_goals first
    | (exfalso;omega)
    | skip
  obtain ⟨W0,hW0⟩:∃ W0:World,W0=((w.alloc (.cells #[.string nm,.int .i64 5,.int .i64 7,.int .i64 12,.int .i64 0,.int .i64 sp,.int .i64 a,.int .i64 b,.int .i64 p,.int .i64 cy,.int .i64 ex,.int .i64 fi,.int .i64 la,.int .i64 po] 24)).alloc (.cells #[.string ⟨#[]⟩,.int .i64 5,.int .i64 7,.int .i64 12,.int .i64 0,.int .i64 sp,.int .i64 a,.int .i64 b,.int .i64 p,.int .i64 cy,.int .i64 ex,.int .i64 0,.int .i64 0,.int .i64 0] 24)):=⟨_,rfl⟩
  have hz0:w.heap.size<W0.heap.size:=by rw [hW0];simp;omega
  have HB0:=hide (show Below w.heap.size w W0 by rw [hW0];(repeat' exact bel))
  have HQ0:=hide (show CalAt W0 w.heap.size (Cal.mk nm 5 7 12 0 sp a b p cy ex fi la po) by rw [hW0];exact calAt_alloc (calAt_new w (Cal.mk nm 5 7 12 0 sp a b p cy ex fi la po)) (by simp) _)
  rw [← hW0]
  clear hW0
  obtain ⟨q0,q1,q2,q3,q4,q5,q6,q7,q8,q9,q10,q11,q12,q13⟩:=HQ0.out
  simp only at q0 q1 q2 q3 q4 q5 q6 q7 q8 q9 q10 q11 q12 q13
  have k0:=cell_regrown q0
  have k1:=cell_regrown q1
  have k2:=cell_regrown q2
  have k3:=cell_regrown q3
  have k4:=cell_regrown q4
  have k5:=cell_regrown q5
  have k6:=cell_regrown q6
  have k7:=cell_regrown q7
  have k8:=cell_regrown q8
  have k9:=cell_regrown q9
  have k10:=cell_regrown q10
  have k11:=cell_regrown q11
  have k12:=cell_regrown q12
  have k13:=cell_regrown q13
  clear q0 q1 q2 q3 q4 q5 q6 q7 q8 q9 q10 q11 q12 q13
  have cS:=fun dd os=>Calls.regrown_of (d:=dd) (os:=os) (w:=W0) (shaped_x nm _ _ _ _ _ _ _ _ _ _ _ _ _ (grow (redrawn W0 dd) os) _ HSH.out)
  have cM:=fun dd os=>Calls.regrown_of (d:=dd) (os:=os) (w:=W0) (many_x nm _ _ _ _ _ _ _ _ _ _ _ _ _ (grow (redrawn W0 dd) os) _ HM.out)
  refine wp_region_quiet_below (by kernel_rfl) (by kernel_rfl) ?_
  repeat (quiet_step (first | exact cS _ _ | exact cM _ _))
  refine wpQuiet_nil ?_
  intro _ hw'
  obtain ⟨⟨dq,osq⟩,hw2⟩:=hw'
  subst hw2
  go_wp2
  all_goals first
    | (exfalso;omega)
    | (go_ret;exact ⟨rfl,HB0.out.trans ((below_regrown W0 dq osq).mono (by omega))⟩)
theorem rn5a (nm:ByteArray) (d m sh sp a b p cy ex fi la po:Int) (w:World) (hn:nm.size≤1000) (h:(Cal.mk nm 5 d m sh sp a b p cy ex fi la po).served∧(Cal.mk nm 5 d m sh sp a b p cy ex fi la po).polic∧nameB nm=true) (g1:¬ d=7) :
    Calls Tryz.prog 100 #[.agg #[.string nm,.int .i64 5,.int .i64 d,.int .i64 m,.int .i64 sh,.int .i64 sp,.int .i64 a,.int .i64 b,.int .i64 p,.int .i64 cy,.int .i64 ex,.int .i64 fi,.int .i64 la,.int .i64 po]] w fun e w'=>e=.returned (.int .i64 1)∧Below w.heap.size w w':=by
  obtain ⟨⟨s1,s2,s3,s4⟩,⟨⟨p1,p2⟩,p3⟩,hnm⟩:=h
  simp only at s1 s2 s3 s4 p1 p2 p3
  have hp4:(po==4)=false:=by simp;omega
  have HNM:=hide hnm
  have f95435:(d==7)=false:=by simp;omega
  have f47482:decide (d=7)=false:=by simp;omega
  clear p3 hnm
  go_enter Tryz.func100,Tryz.ntmps100
  go_wp2_with fail
  refine (rname_any _ _ hn).mono ?_
  rintro e w1 ⟨rfl,rfl⟩
  rw [HNM.out]
  go_wp2_with fail
  all_goals first
    | (exfalso;omega)
    | skip
  all_goals
    go_quiet (fail)
    go_wp2
    all_goals first
      | (exfalso;omega)
      | (go_ret;exact ⟨rfl,by (repeat' exact bel)⟩)
theorem rn5b (nm:ByteArray) (d m sh sp a b p cy ex fi la po:Int) (w:World) (hn:nm.size≤1000) (h:(Cal.mk nm 5 d m sh sp a b p cy ex fi la po).served∧(Cal.mk nm 5 d m sh sp a b p cy ex fi la po).polic∧nameB nm=true) (g1:d=7) (g2:¬ m=12) :
    Calls Tryz.prog 100 #[.agg #[.string nm,.int .i64 5,.int .i64 d,.int .i64 m,.int .i64 sh,.int .i64 sp,.int .i64 a,.int .i64 b,.int .i64 p,.int .i64 cy,.int .i64 ex,.int .i64 fi,.int .i64 la,.int .i64 po]] w fun e w'=>e=.returned (.int .i64 1)∧Below w.heap.size w w':=by
  obtain ⟨⟨s1,s2,s3,s4⟩,⟨⟨p1,p2⟩,p3⟩,hnm⟩:=h
  simp only at s1 s2 s3 s4 p1 p2 p3
  have hp4:(po==4)=false:=by simp;omega
  have HNM:=hide hnm
  subst g1
  have f65291:(m==12)=false:=by simp;omega
  have f61601:decide (m=12)=false:=by simp;omega
  clear p3 hnm
  go_enter Tryz.func100,Tryz.ntmps100
  go_wp2_with fail
  refine (rname_any _ _ hn).mono ?_
  rintro e w1 ⟨rfl,rfl⟩
  rw [HNM.out]
  go_wp2_with fail
  all_goals first
    | (exfalso;omega)
    | skip
  all_goals
    go_quiet (fail)
    go_wp2
    all_goals first
      | (exfalso;omega)
      | (go_ret;exact ⟨rfl,by (repeat' exact bel)⟩)
theorem rn5c (nm:ByteArray) (d m sh sp a b p cy ex fi la po:Int) (w:World) (hn:nm.size≤1000) (h:(Cal.mk nm 5 d m sh sp a b p cy ex fi la po).served∧(Cal.mk nm 5 d m sh sp a b p cy ex fi la po).polic∧nameB nm=true) (g1:d=7) (g2:m=12) (g3:¬ sh=0) :
    Calls Tryz.prog 100 #[.agg #[.string nm,.int .i64 5,.int .i64 d,.int .i64 m,.int .i64 sh,.int .i64 sp,.int .i64 a,.int .i64 b,.int .i64 p,.int .i64 cy,.int .i64 ex,.int .i64 fi,.int .i64 la,.int .i64 po]] w fun e w'=>e=.returned (.int .i64 1)∧Below w.heap.size w w':=by
  obtain ⟨⟨s1,s2,s3,s4⟩,⟨⟨p1,p2⟩,p3⟩,hnm⟩:=h
  simp only at s1 s2 s3 s4 p1 p2 p3
  have hp4:(po==4)=false:=by simp;omega
  have HNM:=hide hnm
  subst g1 g2
  have f308:(sh==0)=false:=by simp;omega
  have f16395:decide (sh=0)=false:=by simp;omega
  clear p3 hnm
  go_enter Tryz.func100,Tryz.ntmps100
  go_wp2_with fail
  refine (rname_any _ _ hn).mono ?_
  rintro e w1 ⟨rfl,rfl⟩
  rw [HNM.out]
  go_wp2_with fail
  all_goals first
    | (exfalso;omega)
    | skip
  all_goals
    go_quiet (fail)
    go_wp2
    all_goals first
      | (exfalso;omega)
      | (go_ret;exact ⟨rfl,by (repeat' exact bel)⟩)
end Go.Proofs.YtjhhmeoibfdcmaaGreat
