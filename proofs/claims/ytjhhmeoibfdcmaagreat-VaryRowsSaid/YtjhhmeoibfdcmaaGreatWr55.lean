/- Lemmas. -/
import Derived.Lib.QuietBelow
import Derived.Test.YtjhhmeoibfdcmaaGreatWr16
set_option linter.unusedSimpArgs false
set_option linter.unusedVariables false
set_option maxRecDepth 100000
set_option maxHeartbeats 12800000
namespace Go.Proofs.YtjhhmeoibfdcmaaGreat
section
open Go.RowKit Go.Sort Qd
theorem J0 (o:ByteArray) (d m H a b p E F J O G:Int) (w:World) (hn:o.size≤1000) (h:(ar.mk o 1 d m 1 H a b p E F J O G).served∧(ar.mk o 1 d m 1 H a b p E F J O G).polic∧bH o=true) (hd:1≤d∧d≤7) (hm:1≤m∧m≤12) (hc:¬ aQ (ar.mk o 1 d m 1 H a b p E F J O G)) :
  Calls Tryz.prog 100 #[.agg #[.string o,.int .i64 1,d,m,.int .i64 1,H,a,b,p,E,F,J,O,G]] w fun e w'=>e=.returned (.int .i64 1)∧Below w w w':=by
 obtain ⟨⟨s1,s2,s3,s4⟩,⟨⟨p1,p2⟩,p3⟩,V⟩:=h;simp only at s1 s2 s3 s4 p1 p2 p3;have aA:(G==4)=false:=ae;have ad:=hide V;have W:decide (aQ (ar.mk o 1 d m 1 H a b p E F J O G))=false:=by simp [hc]
 have al:=hide W;have e1:decide (1≤d)=true:=ae;have e2:decide (d≤7)=true:=ae;have e3:decide (1≤m)=true:=ae;have e4:decide (m≤12)=true:=ae;clear p3 V hc W hd hm;go_enter Tryz.func100,Tryz.ntmps100;go_wp2_with fail;refine (bj _ _ hn).mono ?_;rintro e w1 ⟨rfl,rfl⟩;rw [ad.out];go_wp2_with fail
 all_goals first
  | (exfalso;omega)
  | skip
 obtain ⟨I,f⟩:∃ I:World,I=((w.alloc (.cells #[.string o,.int .i64 1,d,m,.int .i64 1,H,a,b,p,E,F,J,O,G] 24)).alloc (.cells #[.string ⟨#[]⟩,.int .i64 1,d,m,.int .i64 1,H,a,b,p,E,F,.int .i64 0,.int .i64 0,.int .i64 0] 24)):=⟨_,rfl⟩;have aB:w.heap.size<I.heap.size:=by rw [f];simp;omega
 have ab:=hide (show Below w w I by rw [f];(repeat' exact bel));have ah:=hide (show aG I w (ar.mk o 1 d m 1 H a b p E F J O G) by rw [f];exact az (au w (ar.mk o 1 d m 1 H a b p E F J O G)) ac _);rw [← f];clear f;obtain ⟨q0,q1,q2,q3,q4,q5,q6,q7,q8,q9,R,S,T,U⟩:=ah.out;simp only at q0 q1 q2 q3 q4 q5 q6 q7 q8 q9 R S T U;have k0:=cell_regrown q0;have k1:=cell_regrown q1;have k2:=cell_regrown q2;have k3:=cell_regrown q3;have k4:=cell_regrown q4;have k5:=cell_regrown q5;have k6:=cell_regrown q6;have k7:=cell_regrown q7;have k8:=cell_regrown q8;have k9:=cell_regrown q9;have aF:=cell_regrown R;have a0:=cell_regrown S;have a1:=cell_regrown T;have a2:=cell_regrown U;clear q0 q1 q2 q3 q4 q5 q6 q7 q8 q9 R S T U;have cS:=fun dd os=>Calls.regrown_of (d:=dd) (os:=os) (w:=I) (cm o _ _ _ _ _ _ _ _ _ _ _ _ _ (grow (redrawn I dd) os) _ al.out)
 refine wp_region_quiet_below (by kernel_rfl) (by kernel_rfl) ?_
 repeat (quiet_step (exact cS _ _))
 refine wpQuiet_nil ?_;intro _ aq;obtain ⟨⟨dq,osq⟩,ay⟩:=aq;subst ay;go_wp2
 all_goals first
  | (exfalso;omega)
  | (go_ret;exact ⟨rfl,ab.out.trans ((below_regrown I dq osq).mono om)⟩)
theorem J2 (E:ByteArray) (d m H a b p F f J O G:Int) (w:World) (hn:E.size≤1000) (h:(ar.mk E 1 d m 1 H a b p F f J O G).served∧(ar.mk E 1 d m 1 H a b p F f J O G).polic∧bH E=true) (hd:1≤d∧d≤7) (hm:1≤m∧m≤12) (hc:aQ (ar.mk E 1 d m 1 H a b p F f J O G)) (hx:f<1) :
  Calls Tryz.prog 100 #[.agg #[.string E,.int .i64 1,d,m,.int .i64 1,H,a,b,p,F,f,J,O,G]] w fun e w'=>e=.returned (.int .i64 1)∧Below w w w':=by
 obtain ⟨⟨s1,s2,s3,s4⟩,⟨⟨p1,p2⟩,p3⟩,V⟩:=h;simp only at s1 s2 s3 s4 p1 p2 p3;have aA:(G==4)=false:=ae;have ad:=hide V;have W:decide (aQ (ar.mk E 1 d m 1 H a b p F f J O G))=true:=by simp [hc]
 have al:=hide W;have e1:decide (1≤d)=true:=ae;have e2:decide (d≤7)=true:=ae;have e3:decide (1≤m)=true:=ae;have e4:decide (m≤12)=true:=ae;have e7:decide (1≤f)=false:=ae;clear p3 V hc W hd hm hx;go_enter Tryz.func100,Tryz.ntmps100;go_wp2_with fail;refine (bj _ _ hn).mono ?_;rintro e w1 ⟨rfl,rfl⟩;rw [ad.out];go_wp2_with fail
 all_goals first
  | (exfalso;omega)
  | skip
 obtain ⟨I,o⟩:∃ I:World,I=((w.alloc (.cells #[.string E,.int .i64 1,d,m,.int .i64 1,H,a,b,p,F,f,J,O,G] 24)).alloc (.cells #[.string ⟨#[]⟩,.int .i64 1,d,m,.int .i64 1,H,a,b,p,F,f,.int .i64 0,.int .i64 0,.int .i64 0] 24)):=⟨_,rfl⟩;have aB:w.heap.size<I.heap.size:=by rw [o];simp;omega
 have ab:=hide (show Below w w I by rw [o];(repeat' exact bel));have ah:=hide (show aG I w (ar.mk E 1 d m 1 H a b p F f J O G) by rw [o];exact az (au w (ar.mk E 1 d m 1 H a b p F f J O G)) ac _);rw [← o];clear o;obtain ⟨q0,q1,q2,q3,q4,q5,q6,q7,q8,q9,R,S,T,U⟩:=ah.out;simp only at q0 q1 q2 q3 q4 q5 q6 q7 q8 q9 R S T U;have k0:=cell_regrown q0;have k1:=cell_regrown q1;have k2:=cell_regrown q2;have k3:=cell_regrown q3;have k4:=cell_regrown q4;have k5:=cell_regrown q5;have k6:=cell_regrown q6;have k7:=cell_regrown q7;have k8:=cell_regrown q8;have k9:=cell_regrown q9;have aF:=cell_regrown R;have a0:=cell_regrown S;have a1:=cell_regrown T;have a2:=cell_regrown U;clear q0 q1 q2 q3 q4 q5 q6 q7 q8 q9 R S T U;have cS:=fun dd os=>Calls.regrown_of (d:=dd) (os:=os) (w:=I) (cm E _ _ _ _ _ _ _ _ _ _ _ _ _ (grow (redrawn I dd) os) _ al.out)
 refine wp_region_quiet_below (by kernel_rfl) (by kernel_rfl) ?_
 repeat (quiet_step (exact cS _ _))
 refine wpQuiet_nil ?_;intro _ aq;obtain ⟨⟨dq,osq⟩,ay⟩:=aq;subst ay;go_wp2
 all_goals first
  | (exfalso;omega)
  | (go_ret;exact ⟨rfl,ab.out.trans ((below_regrown I dq osq).mono om)⟩)
theorem KF (E:ByteArray) (d m F a b p o f J O I:Int) (w:World) (hn:E.size≤1000) (h:(ar.mk E 1 d m 1 F a b p o f J O I).served∧(ar.mk E 1 d m 1 F a b p o f J O I).polic∧bH E=true) (hd:1≤d∧d≤7) (hm:1≤m∧m≤12) (hc:aQ (ar.mk E 1 d m 1 F a b p o f J O I)) (hx:1≤f) (aB:bC F o<f) :
  Calls Tryz.prog 100 #[.agg #[.string E,.int .i64 1,d,m,.int .i64 1,F,a,b,p,o,f,J,O,I]] w fun e w'=>e=.returned (.int .i64 1)∧Below w w w':=by
 obtain ⟨⟨s1,s2,s3,s4⟩,⟨⟨p1,p2⟩,p3⟩,W⟩:=h;simp only at s1 s2 s3 s4 p1 p2 p3;have aF:(I==4)=false:=ae;have ah:=hide W;have ab:decide (aQ (ar.mk E 1 d m 1 F a b p o f J O I))=true:=by simp [hc]
 have aq:=hide ab;have e1:decide (1≤d)=true:=ae;have e2:decide (d≤7)=true:=ae;have e3:decide (1≤m)=true:=ae;have e4:decide (m≤12)=true:=ae;have e7:decide (1≤f)=true:=ae;have HM:=hide (show eR (ar.mk E 1 d m 1 F a b p o f J O I)=bC F o from cW hc);obtain ⟨M,hM⟩:∃ M,bC F o=M:=⟨_,rfl⟩;rw [hM] at HM aB;clear hM;have e8:decide (f≤M)=false:=ae;clear p3 W hc ab hd hm hx;go_enter Tryz.func100,Tryz.ntmps100;go_wp2_with fail;refine (bj _ _ hn).mono ?_;rintro e w1 ⟨rfl,rfl⟩;rw [ah.out];go_wp2_with fail
 all_goals first
  | (exfalso;omega)
  | skip
 obtain ⟨H,G⟩:∃ H:World,H=((w.alloc (.cells #[.string E,.int .i64 1,d,m,.int .i64 1,F,a,b,p,o,f,J,O,I] 24)).alloc (.cells #[.string ⟨#[]⟩,.int .i64 1,d,m,.int .i64 1,F,a,b,p,o,f,.int .i64 0,.int .i64 0,.int .i64 0] 24)):=⟨_,rfl⟩;have a0:w.heap.size<H.heap.size:=by rw [G];simp;omega
 have ad:=hide (show Below w w H by rw [G];(repeat' exact bel));have al:=hide (show aG H w (ar.mk E 1 d m 1 F a b p o f J O I) by rw [G];exact az (au w (ar.mk E 1 d m 1 F a b p o f J O I)) ac _);rw [← G];clear G;obtain ⟨q0,q1,q2,q3,q4,q5,q6,q7,q8,q9,R,S,T,U⟩:=al.out;simp only at q0 q1 q2 q3 q4 q5 q6 q7 q8 q9 R S T U;have k0:=cell_regrown q0;have k1:=cell_regrown q1;have k2:=cell_regrown q2;have k3:=cell_regrown q3;have k4:=cell_regrown q4;have k5:=cell_regrown q5;have k6:=cell_regrown q6;have k7:=cell_regrown q7;have k8:=cell_regrown q8;have k9:=cell_regrown q9;have a1:=cell_regrown R;have a2:=cell_regrown S;have a3:=cell_regrown T;have a4:=cell_regrown U;clear q0 q1 q2 q3 q4 q5 q6 q7 q8 q9 R S T U;have cS:=fun V os=>Calls.regrown_of (d:=V) (os:=os) (w:=H) (cm E _ _ _ _ _ _ _ _ _ _ _ _ _ (grow (redrawn H V) os) _ aq.out)
 have cM:=fun V os=>Calls.regrown_of (d:=V) (os:=os) (w:=H) (jt E _ _ _ _ _ _ _ _ _ _ _ _ _ (grow (redrawn H V) os) _ HM.out)
 refine wp_region_quiet_below (by kernel_rfl) (by kernel_rfl) ?_
 repeat (quiet_step (first | exact cS _ _ | exact cM _ _))
 refine wpQuiet_nil ?_;intro _ ay;obtain ⟨⟨dq,osq⟩,aA⟩:=ay;subst aA;go_wp2
 all_goals first
  | (exfalso;omega)
  | (go_ret;exact ⟨rfl,ad.out.trans ((below_regrown H dq osq).mono om)⟩)
theorem Kf (E:ByteArray) (d m F a b p o f J O I:Int) (w:World) (hn:E.size≤1000) (h:(ar.mk E 1 d m 1 F a b p o f J O I).served∧(ar.mk E 1 d m 1 F a b p o f J O I).polic∧bH E=true) (hd:1≤d∧d≤7) (hm:1≤m∧m≤12) (hc:aQ (ar.mk E 1 d m 1 F a b p o f J O I)) (hx:1≤f) (aB:f≤bC F o) :
  Calls Tryz.prog 100 #[.agg #[.string E,.int .i64 1,d,m,.int .i64 1,F,a,b,p,o,f,J,O,I]] w fun e w'=>e=.returned (.int .i64 0)∧Below w w w':=by
 obtain ⟨⟨s1,s2,s3,s4⟩,⟨⟨p1,p2⟩,p3⟩,W⟩:=h;simp only at s1 s2 s3 s4 p1 p2 p3;have aF:(I==4)=false:=ae;have ah:=hide W;have ab:decide (aQ (ar.mk E 1 d m 1 F a b p o f J O I))=true:=by simp [hc]
 have aq:=hide ab;have e1:decide (1≤d)=true:=ae;have e2:decide (d≤7)=true:=ae;have e3:decide (1≤m)=true:=ae;have e4:decide (m≤12)=true:=ae;have e7:decide (1≤f)=true:=ae;have HM:=hide (show eR (ar.mk E 1 d m 1 F a b p o f J O I)=bC F o from cW hc);obtain ⟨M,hM⟩:∃ M,bC F o=M:=⟨_,rfl⟩;rw [hM] at HM aB;clear hM;have e8:decide (f≤M)=true:=ae;clear p3 W hc ab hd hm hx;go_enter Tryz.func100,Tryz.ntmps100;go_wp2_with fail;refine (bj _ _ hn).mono ?_;rintro e w1 ⟨rfl,rfl⟩;rw [ah.out];go_wp2_with fail
 all_goals first
  | (exfalso;omega)
  | skip
 obtain ⟨H,G⟩:∃ H:World,H=((w.alloc (.cells #[.string E,.int .i64 1,d,m,.int .i64 1,F,a,b,p,o,f,J,O,I] 24)).alloc (.cells #[.string ⟨#[]⟩,.int .i64 1,d,m,.int .i64 1,F,a,b,p,o,f,.int .i64 0,.int .i64 0,.int .i64 0] 24)):=⟨_,rfl⟩;have a0:w.heap.size<H.heap.size:=by rw [G];simp;omega
 have ad:=hide (show Below w w H by rw [G];(repeat' exact bel));have al:=hide (show aG H w (ar.mk E 1 d m 1 F a b p o f J O I) by rw [G];exact az (au w (ar.mk E 1 d m 1 F a b p o f J O I)) ac _);rw [← G];clear G;obtain ⟨q0,q1,q2,q3,q4,q5,q6,q7,q8,q9,R,S,T,U⟩:=al.out;simp only at q0 q1 q2 q3 q4 q5 q6 q7 q8 q9 R S T U;have k0:=cell_regrown q0;have k1:=cell_regrown q1;have k2:=cell_regrown q2;have k3:=cell_regrown q3;have k4:=cell_regrown q4;have k5:=cell_regrown q5;have k6:=cell_regrown q6;have k7:=cell_regrown q7;have k8:=cell_regrown q8;have k9:=cell_regrown q9;have a1:=cell_regrown R;have a2:=cell_regrown S;have a3:=cell_regrown T;have a4:=cell_regrown U;clear q0 q1 q2 q3 q4 q5 q6 q7 q8 q9 R S T U;have cS:=fun V os=>Calls.regrown_of (d:=V) (os:=os) (w:=H) (cm E _ _ _ _ _ _ _ _ _ _ _ _ _ (grow (redrawn H V) os) _ aq.out)
 have cM:=fun V os=>Calls.regrown_of (d:=V) (os:=os) (w:=H) (jt E _ _ _ _ _ _ _ _ _ _ _ _ _ (grow (redrawn H V) os) _ HM.out)
 refine wp_region_quiet_below (by kernel_rfl) (by kernel_rfl) ?_
 repeat (quiet_step (first | exact cS _ _ | exact cM _ _))
 refine wpQuiet_nil ?_;intro _ ay;obtain ⟨⟨dq,osq⟩,aA⟩:=ay;subst aA;go_wp2
 all_goals first
  | (exfalso;omega)
  | (go_ret;exact ⟨rfl,ad.out.trans ((below_regrown H dq osq).mono om)⟩)
end
end Go.Proofs.YtjhhmeoibfdcmaaGreat
