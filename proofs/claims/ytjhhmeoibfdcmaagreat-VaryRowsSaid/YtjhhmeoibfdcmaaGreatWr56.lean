/- Lemmas. -/
import Derived.Lib.QuietBelow
import Derived.Test.YtjhhmeoibfdcmaaGreatWr16
set_option linter.unusedSimpArgs false
set_option linter.unusedVariables false
set_option maxRecDepth 100000
set_option maxHeartbeats 12800000
namespace Go.Proofs.YtjhhmeoibfdcmaaGreat
section
open Go.RowKit Go.Sort Qd
theorem Ld (o:ByteArray) (d m R S a b p H I J O F:Int) (w:World) (U:o.size≤1000) (h:(ar.mk o 1 d m R S a b p H I J O F).served∧(ar.mk o 1 d m R S a b p H I J O F).polic∧bH o=true) (g1:d<1) :
  Calls Tryz.prog 100 #[.agg #[.string o,.int .i64 1,d,m,R,S,a,b,p,H,I,J,O,F]] w fun e w'=>e=.returned (.int .i64 1)∧Below w w w':=by
 obtain ⟨⟨s1,s2,s3,s4⟩,⟨⟨W,p2⟩,T⟩,f⟩:=h;simp only at s1 s2 s3 s4 W p2 T;have V:(F==4)=false:=ae;have G:=hide f;have E:decide (1≤d)=false:=ae;clear T f;go_enter Tryz.func100,Tryz.ntmps100;go_wp2_with fail;refine (bj _ _ U).mono ?_;rintro e w1 ⟨rfl,rfl⟩;rw [G.out];go_wp2_with fail
 all_goals first
  | (exfalso;omega)
  | skip
 all_goals
  go_quiet (fail);go_wp2
  all_goals first
   | (exfalso;omega)
   | (go_ret;exact ⟨rfl,by (repeat' exact bel)⟩)
theorem Lw (o:ByteArray) (d m S T a b p I J O R G:Int) (w:World) (V:o.size≤1000) (h:(ar.mk o 1 d m S T a b p I J O R G).served∧(ar.mk o 1 d m S T a b p I J O R G).polic∧bH o=true) (g1:1≤d) (g2:7<d) :
  Calls Tryz.prog 100 #[.agg #[.string o,.int .i64 1,d,m,S,T,a,b,p,I,J,O,R,G]] w fun e w'=>e=.returned (.int .i64 1)∧Below w w w':=by
 obtain ⟨⟨s1,s2,s3,s4⟩,⟨⟨p1,p2⟩,U⟩,f⟩:=h;simp only at s1 s2 s3 s4 p1 p2 U;have W:(G==4)=false:=ae;have H:=hide f;have F:decide (1≤d)=true:=ae;have E:decide (d≤7)=false:=ae;clear U f;go_enter Tryz.func100,Tryz.ntmps100;go_wp2_with fail;refine (bj _ _ V).mono ?_;rintro e w1 ⟨rfl,rfl⟩;rw [H.out];go_wp2_with fail
 all_goals first
  | (exfalso;omega)
  | skip
 all_goals
  go_quiet (fail);go_wp2
  all_goals first
   | (exfalso;omega)
   | (go_ret;exact ⟨rfl,by (repeat' exact bel)⟩)
theorem Lz (o:ByteArray) (d m T U a b p J O R S H:Int) (w:World) (W:o.size≤1000) (h:(ar.mk o 1 d m T U a b p J O R S H).served∧(ar.mk o 1 d m T U a b p J O R S H).polic∧bH o=true) (g1:1≤d) (g2:d≤7) (g3:m<1) :
  Calls Tryz.prog 100 #[.agg #[.string o,.int .i64 1,d,m,T,U,a,b,p,J,O,R,S,H]] w fun e w'=>e=.returned (.int .i64 1)∧Below w w w':=by
 obtain ⟨⟨s1,s2,s3,s4⟩,⟨⟨p1,p2⟩,V⟩,f⟩:=h;simp only at s1 s2 s3 s4 p1 p2 V;have ab:(H==4)=false:=ae;have I:=hide f;have F:decide (1≤d)=true:=ae;have G:decide (d≤7)=true:=ae;have E:decide (1≤m)=false:=ae;clear V f;go_enter Tryz.func100,Tryz.ntmps100;go_wp2_with fail;refine (bj _ _ W).mono ?_;rintro e w1 ⟨rfl,rfl⟩;rw [I.out];go_wp2_with fail
 all_goals first
  | (exfalso;omega)
  | skip
 all_goals
  go_quiet (fail);go_wp2
  all_goals first
   | (exfalso;omega)
   | (go_ret;exact ⟨rfl,by (repeat' exact bel)⟩)
theorem KY (o:ByteArray) (d m U V a b p J O R T H:Int) (w:World) (hn:o.size≤1000) (h:(ar.mk o 1 d m U V a b p J O R T H).served∧(ar.mk o 1 d m U V a b p J O R T H).polic∧bH o=true) (g1:1≤d) (g2:d≤7) (g3:1≤m) (g4:12<m) :
  Calls Tryz.prog 100 #[.agg #[.string o,.int .i64 1,d,m,U,V,a,b,p,J,O,R,T,H]] w fun e w'=>e=.returned (.int .i64 1)∧Below w w w':=by
 obtain ⟨⟨s1,s2,s3,s4⟩,⟨⟨p1,p2⟩,W⟩,f⟩:=h;simp only at s1 s2 s3 s4 p1 p2 W;have ab:(H==4)=false:=ae;have I:=hide f;have F:decide (1≤d)=true:=ae;have G:decide (d≤7)=true:=ae;have S:decide (1≤m)=true:=ae;have E:decide (m≤12)=false:=ae;clear W f;go_enter Tryz.func100,Tryz.ntmps100;go_wp2_with fail;refine (bj _ _ hn).mono ?_;rintro e w1 ⟨rfl,rfl⟩;rw [I.out];go_wp2_with fail
 all_goals first
  | (exfalso;omega)
  | skip
 all_goals
  go_quiet (fail);go_wp2
  all_goals first
   | (exfalso;omega)
   | (go_ret;exact ⟨rfl,by (repeat' exact bel)⟩)
theorem LR (E:ByteArray) (d m f sp a b p T U V la R:Int) (w:World) (hn:E.size≤1000) (h:(ar.mk E 1 d m f sp a b p T U V la R).served∧(ar.mk E 1 d m f sp a b p T U V la R).polic∧bH E=true) (g1:1≤d) (g2:d≤7) (g3:1≤m) (g4:m≤12) (g5:¬ (f=0∨f=1)) :
  Calls Tryz.prog 100 #[.agg #[.string E,.int .i64 1,d,m,f,sp,a,b,p,T,U,V,la,R]] w fun e w'=>e=.returned (.int .i64 1)∧Below w w w':=by
 obtain ⟨⟨s1,s2,s3,s4⟩,⟨⟨p1,p2⟩,p3⟩,o⟩:=h;simp only at s1 s2 s3 s4 p1 p2 p3;have ad:(R==4)=false:=ae;have S:=hide o;have J:decide (1≤d)=true:=ae;have O:decide (d≤7)=true:=ae;have W:decide (1≤m)=true:=ae;have I:decide (m≤12)=true:=ae;have ab:(f==0)=false:=ae;have F:decide (f=0)=false:=ae;have H:(f==1)=false:=ae;have G:decide (f=1)=false:=ae;clear p3 o;go_enter Tryz.func100,Tryz.ntmps100;go_wp2_with fail;refine (bj _ _ hn).mono ?_;rintro e w1 ⟨rfl,rfl⟩;rw [S.out];go_wp2_with fail
 all_goals first
  | (exfalso;omega)
  | skip
 all_goals
  go_quiet (fail);go_wp2
  all_goals first
   | (exfalso;omega)
   | (go_ret;exact ⟨rfl,by (repeat' exact bel)⟩)
theorem LA (o:ByteArray) (d m R S a b p H I J O F:Int) (w:World) (U:o.size≤1000) (h:(ar.mk o 2 d m R S a b p H I J O F).served∧(ar.mk o 2 d m R S a b p H I J O F).polic∧bH o=true) (g1:d<1) :
  Calls Tryz.prog 100 #[.agg #[.string o,.int .i64 2,d,m,R,S,a,b,p,H,I,J,O,F]] w fun e w'=>e=.returned (.int .i64 1)∧Below w w w':=by
 obtain ⟨⟨s1,s2,s3,s4⟩,⟨⟨W,p2⟩,T⟩,f⟩:=h;simp only at s1 s2 s3 s4 W p2 T;have V:(F==4)=false:=ae;have G:=hide f;have E:decide (1≤d)=false:=ae;clear T f;go_enter Tryz.func100,Tryz.ntmps100;go_wp2_with fail;refine (bj _ _ U).mono ?_;rintro e w1 ⟨rfl,rfl⟩;rw [G.out];go_wp2_with fail
 all_goals first
  | (exfalso;omega)
  | skip
 all_goals
  go_quiet (fail);go_wp2
  all_goals first
   | (exfalso;omega)
   | (go_ret;exact ⟨rfl,by (repeat' exact bel)⟩)
theorem LX (o:ByteArray) (d m S T a b p I J O R G:Int) (w:World) (V:o.size≤1000) (h:(ar.mk o 2 d m S T a b p I J O R G).served∧(ar.mk o 2 d m S T a b p I J O R G).polic∧bH o=true) (g1:1≤d) (g2:7<d) :
  Calls Tryz.prog 100 #[.agg #[.string o,.int .i64 2,d,m,S,T,a,b,p,I,J,O,R,G]] w fun e w'=>e=.returned (.int .i64 1)∧Below w w w':=by
 obtain ⟨⟨s1,s2,s3,s4⟩,⟨⟨p1,p2⟩,U⟩,f⟩:=h;simp only at s1 s2 s3 s4 p1 p2 U;have W:(G==4)=false:=ae;have H:=hide f;have F:decide (1≤d)=true:=ae;have E:decide (d≤7)=false:=ae;clear U f;go_enter Tryz.func100,Tryz.ntmps100;go_wp2_with fail;refine (bj _ _ V).mono ?_;rintro e w1 ⟨rfl,rfl⟩;rw [H.out];go_wp2_with fail
 all_goals first
  | (exfalso;omega)
  | skip
 all_goals
  go_quiet (fail);go_wp2
  all_goals first
   | (exfalso;omega)
   | (go_ret;exact ⟨rfl,by (repeat' exact bel)⟩)
theorem LW (o:ByteArray) (d m T U a b p J O R S H:Int) (w:World) (W:o.size≤1000) (h:(ar.mk o 2 d m T U a b p J O R S H).served∧(ar.mk o 2 d m T U a b p J O R S H).polic∧bH o=true) (g1:1≤d) (g2:d≤7) (g3:m<1) :
  Calls Tryz.prog 100 #[.agg #[.string o,.int .i64 2,d,m,T,U,a,b,p,J,O,R,S,H]] w fun e w'=>e=.returned (.int .i64 1)∧Below w w w':=by
 obtain ⟨⟨s1,s2,s3,s4⟩,⟨⟨p1,p2⟩,V⟩,f⟩:=h;simp only at s1 s2 s3 s4 p1 p2 V;have ab:(H==4)=false:=ae;have I:=hide f;have F:decide (1≤d)=true:=ae;have G:decide (d≤7)=true:=ae;have E:decide (1≤m)=false:=ae;clear V f;go_enter Tryz.func100,Tryz.ntmps100;go_wp2_with fail;refine (bj _ _ W).mono ?_;rintro e w1 ⟨rfl,rfl⟩;rw [I.out];go_wp2_with fail
 all_goals first
  | (exfalso;omega)
  | skip
 all_goals
  go_quiet (fail);go_wp2
  all_goals first
   | (exfalso;omega)
   | (go_ret;exact ⟨rfl,by (repeat' exact bel)⟩)
theorem Ls (o:ByteArray) (d m U V a b p J O R T H:Int) (w:World) (hn:o.size≤1000) (h:(ar.mk o 2 d m U V a b p J O R T H).served∧(ar.mk o 2 d m U V a b p J O R T H).polic∧bH o=true) (g1:1≤d) (g2:d≤7) (g3:1≤m) (g4:12<m) :
  Calls Tryz.prog 100 #[.agg #[.string o,.int .i64 2,d,m,U,V,a,b,p,J,O,R,T,H]] w fun e w'=>e=.returned (.int .i64 1)∧Below w w w':=by
 obtain ⟨⟨s1,s2,s3,s4⟩,⟨⟨p1,p2⟩,W⟩,f⟩:=h;simp only at s1 s2 s3 s4 p1 p2 W;have ab:(H==4)=false:=ae;have I:=hide f;have F:decide (1≤d)=true:=ae;have G:decide (d≤7)=true:=ae;have S:decide (1≤m)=true:=ae;have E:decide (m≤12)=false:=ae;clear W f;go_enter Tryz.func100,Tryz.ntmps100;go_wp2_with fail;refine (bj _ _ hn).mono ?_;rintro e w1 ⟨rfl,rfl⟩;rw [I.out];go_wp2_with fail
 all_goals first
  | (exfalso;omega)
  | skip
 all_goals
  go_quiet (fail);go_wp2
  all_goals first
   | (exfalso;omega)
   | (go_ret;exact ⟨rfl,by (repeat' exact bel)⟩)
theorem LG (E:ByteArray) (d m f sp a b p T U V la R:Int) (w:World) (hn:E.size≤1000) (h:(ar.mk E 2 d m f sp a b p T U V la R).served∧(ar.mk E 2 d m f sp a b p T U V la R).polic∧bH E=true) (g1:1≤d) (g2:d≤7) (g3:1≤m) (g4:m≤12) (g5:¬ (f=0∨f=1)) :
  Calls Tryz.prog 100 #[.agg #[.string E,.int .i64 2,d,m,f,sp,a,b,p,T,U,V,la,R]] w fun e w'=>e=.returned (.int .i64 1)∧Below w w w':=by
 obtain ⟨⟨s1,s2,s3,s4⟩,⟨⟨p1,p2⟩,p3⟩,o⟩:=h;simp only at s1 s2 s3 s4 p1 p2 p3;have ad:(R==4)=false:=ae;have S:=hide o;have J:decide (1≤d)=true:=ae;have O:decide (d≤7)=true:=ae;have W:decide (1≤m)=true:=ae;have I:decide (m≤12)=true:=ae;have ab:(f==0)=false:=ae;have F:decide (f=0)=false:=ae;have H:(f==1)=false:=ae;have G:decide (f=1)=false:=ae;clear p3 o;go_enter Tryz.func100,Tryz.ntmps100;go_wp2_with fail;refine (bj _ _ hn).mono ?_;rintro e w1 ⟨rfl,rfl⟩;rw [S.out];go_wp2_with fail
 all_goals first
  | (exfalso;omega)
  | skip
 all_goals
  go_quiet (fail);go_wp2
  all_goals first
   | (exfalso;omega)
   | (go_ret;exact ⟨rfl,by (repeat' exact bel)⟩)
theorem Ky (o:ByteArray) (H a b p E F J O G:Int) (w:World) (hn:o.size≤1000) (h:(ar.mk o 5 7 12 0 H a b p E F J O G).served∧(ar.mk o 5 7 12 0 H a b p E F J O G).polic∧bH o=true) (hc:¬ aQ (ar.mk o 5 7 12 0 H a b p E F J O G)) :
  Calls Tryz.prog 100 #[.agg #[.string o,.int .i64 5,.int .i64 7,.int .i64 12,.int .i64 0,H,a,b,p,E,F,J,O,G]] w fun e w'=>e=.returned (.int .i64 1)∧Below w w w':=by
 obtain ⟨⟨s1,s2,s3,s4⟩,⟨⟨p1,p2⟩,p3⟩,V⟩:=h;simp only at s1 s2 s3 s4 p1 p2 p3;have aA:(G==4)=false:=ae;have ad:=hide V;have W:decide (aQ (ar.mk o 5 7 12 0 H a b p E F J O G))=false:=by simp [hc]
 have al:=hide W;clear p3 V hc W;go_enter Tryz.func100,Tryz.ntmps100;go_wp2_with fail;refine (bj _ _ hn).mono ?_;rintro e w1 ⟨rfl,rfl⟩;rw [ad.out];go_wp2_with fail
 all_goals first
  | (exfalso;omega)
  | skip
 obtain ⟨I,f⟩:∃ I:World,I=((w.alloc (.cells #[.string o,.int .i64 5,.int .i64 7,.int .i64 12,.int .i64 0,H,a,b,p,E,F,J,O,G] 24)).alloc (.cells #[.string ⟨#[]⟩,.int .i64 5,.int .i64 7,.int .i64 12,.int .i64 0,H,a,b,p,E,F,.int .i64 0,.int .i64 0,.int .i64 0] 24)):=⟨_,rfl⟩;have aB:w.heap.size<I.heap.size:=by rw [f];simp;omega
 have ab:=hide (show Below w w I by rw [f];(repeat' exact bel));have ah:=hide (show aG I w (ar.mk o 5 7 12 0 H a b p E F J O G) by rw [f];exact az (au w (ar.mk o 5 7 12 0 H a b p E F J O G)) ac _);rw [← f];clear f;obtain ⟨q0,q1,q2,q3,q4,q5,q6,q7,q8,q9,R,S,T,U⟩:=ah.out;simp only at q0 q1 q2 q3 q4 q5 q6 q7 q8 q9 R S T U;have k0:=cell_regrown q0;have k1:=cell_regrown q1;have k2:=cell_regrown q2;have k3:=cell_regrown q3;have k4:=cell_regrown q4;have k5:=cell_regrown q5;have k6:=cell_regrown q6;have k7:=cell_regrown q7;have k8:=cell_regrown q8;have k9:=cell_regrown q9;have aF:=cell_regrown R;have a0:=cell_regrown S;have a1:=cell_regrown T;have a2:=cell_regrown U;clear q0 q1 q2 q3 q4 q5 q6 q7 q8 q9 R S T U;have cS:=fun dd os=>Calls.regrown_of (d:=dd) (os:=os) (w:=I) (cm o _ _ _ _ _ _ _ _ _ _ _ _ _ (grow (redrawn I dd) os) _ al.out)
 refine wp_region_quiet_below (by kernel_rfl) (by kernel_rfl) ?_
 repeat (quiet_step (exact cS _ _))
 refine wpQuiet_nil ?_;intro _ aq;obtain ⟨⟨dq,osq⟩,ay⟩:=aq;subst ay;go_wp2
 all_goals first
  | (exfalso;omega)
  | (go_ret;exact ⟨rfl,ab.out.trans ((below_regrown I dq osq).mono om)⟩)
theorem Ke (E:ByteArray) (H a b p F f J O G:Int) (w:World) (hn:E.size≤1000) (h:(ar.mk E 5 7 12 0 H a b p F f J O G).served∧(ar.mk E 5 7 12 0 H a b p F f J O G).polic∧bH E=true) (hc:aQ (ar.mk E 5 7 12 0 H a b p F f J O G)) (hx:f<1) :
  Calls Tryz.prog 100 #[.agg #[.string E,.int .i64 5,.int .i64 7,.int .i64 12,.int .i64 0,H,a,b,p,F,f,J,O,G]] w fun e w'=>e=.returned (.int .i64 1)∧Below w w w':=by
 obtain ⟨⟨s1,s2,s3,s4⟩,⟨⟨p1,p2⟩,p3⟩,V⟩:=h;simp only at s1 s2 s3 s4 p1 p2 p3;have aA:(G==4)=false:=ae;have ad:=hide V;have W:decide (aQ (ar.mk E 5 7 12 0 H a b p F f J O G))=true:=by simp [hc]
 have al:=hide W;have e7:decide (1≤f)=false:=ae;clear p3 V hc W hx;go_enter Tryz.func100,Tryz.ntmps100;go_wp2_with fail;refine (bj _ _ hn).mono ?_;rintro e w1 ⟨rfl,rfl⟩;rw [ad.out];go_wp2_with fail
 all_goals first
  | (exfalso;omega)
  | skip
 obtain ⟨I,o⟩:∃ I:World,I=((w.alloc (.cells #[.string E,.int .i64 5,.int .i64 7,.int .i64 12,.int .i64 0,H,a,b,p,F,f,J,O,G] 24)).alloc (.cells #[.string ⟨#[]⟩,.int .i64 5,.int .i64 7,.int .i64 12,.int .i64 0,H,a,b,p,F,f,.int .i64 0,.int .i64 0,.int .i64 0] 24)):=⟨_,rfl⟩;have aB:w.heap.size<I.heap.size:=by rw [o];simp;omega
 have ab:=hide (show Below w w I by rw [o];(repeat' exact bel));have ah:=hide (show aG I w (ar.mk E 5 7 12 0 H a b p F f J O G) by rw [o];exact az (au w (ar.mk E 5 7 12 0 H a b p F f J O G)) ac _);rw [← o];clear o;obtain ⟨q0,q1,q2,q3,q4,q5,q6,q7,q8,q9,R,S,T,U⟩:=ah.out;simp only at q0 q1 q2 q3 q4 q5 q6 q7 q8 q9 R S T U;have k0:=cell_regrown q0;have k1:=cell_regrown q1;have k2:=cell_regrown q2;have k3:=cell_regrown q3;have k4:=cell_regrown q4;have k5:=cell_regrown q5;have k6:=cell_regrown q6;have k7:=cell_regrown q7;have k8:=cell_regrown q8;have k9:=cell_regrown q9;have aF:=cell_regrown R;have a0:=cell_regrown S;have a1:=cell_regrown T;have a2:=cell_regrown U;clear q0 q1 q2 q3 q4 q5 q6 q7 q8 q9 R S T U;have cS:=fun dd os=>Calls.regrown_of (d:=dd) (os:=os) (w:=I) (cm E _ _ _ _ _ _ _ _ _ _ _ _ _ (grow (redrawn I dd) os) _ al.out)
 refine wp_region_quiet_below (by kernel_rfl) (by kernel_rfl) ?_
 repeat (quiet_step (exact cS _ _))
 refine wpQuiet_nil ?_;intro _ aq;obtain ⟨⟨dq,osq⟩,ay⟩:=aq;subst ay;go_wp2
 all_goals first
  | (exfalso;omega)
  | (go_ret;exact ⟨rfl,ab.out.trans ((below_regrown I dq osq).mono om)⟩)
theorem JY (E:ByteArray) (F a b p o f J O I:Int) (w:World) (hn:E.size≤1000) (h:(ar.mk E 5 7 12 0 F a b p o f J O I).served∧(ar.mk E 5 7 12 0 F a b p o f J O I).polic∧bH E=true) (hc:aQ (ar.mk E 5 7 12 0 F a b p o f J O I)) (hx:1≤f) (aB:bC F o<f) :
  Calls Tryz.prog 100 #[.agg #[.string E,.int .i64 5,.int .i64 7,.int .i64 12,.int .i64 0,F,a,b,p,o,f,J,O,I]] w fun e w'=>e=.returned (.int .i64 1)∧Below w w w':=by
 obtain ⟨⟨s1,s2,s3,s4⟩,⟨⟨p1,p2⟩,p3⟩,W⟩:=h;simp only at s1 s2 s3 s4 p1 p2 p3;have aF:(I==4)=false:=ae;have ah:=hide W;have ab:decide (aQ (ar.mk E 5 7 12 0 F a b p o f J O I))=true:=by simp [hc]
 have aq:=hide ab;have e7:decide (1≤f)=true:=ae;have HM:=hide (show eR (ar.mk E 5 7 12 0 F a b p o f J O I)=bC F o from cW hc);obtain ⟨M,hM⟩:∃ M,bC F o=M:=⟨_,rfl⟩;rw [hM] at HM aB;clear hM;have e8:decide (f≤M)=false:=ae;clear p3 W hc ab hx;go_enter Tryz.func100,Tryz.ntmps100;go_wp2_with fail;refine (bj _ _ hn).mono ?_;rintro e w1 ⟨rfl,rfl⟩;rw [ah.out];go_wp2_with fail
 all_goals first
  | (exfalso;omega)
  | skip
 obtain ⟨H,G⟩:∃ H:World,H=((w.alloc (.cells #[.string E,.int .i64 5,.int .i64 7,.int .i64 12,.int .i64 0,F,a,b,p,o,f,J,O,I] 24)).alloc (.cells #[.string ⟨#[]⟩,.int .i64 5,.int .i64 7,.int .i64 12,.int .i64 0,F,a,b,p,o,f,.int .i64 0,.int .i64 0,.int .i64 0] 24)):=⟨_,rfl⟩;have a0:w.heap.size<H.heap.size:=by rw [G];simp;omega
 have ad:=hide (show Below w w H by rw [G];(repeat' exact bel));have al:=hide (show aG H w (ar.mk E 5 7 12 0 F a b p o f J O I) by rw [G];exact az (au w (ar.mk E 5 7 12 0 F a b p o f J O I)) ac _);rw [← G];clear G;obtain ⟨q0,q1,q2,q3,q4,q5,q6,q7,q8,q9,R,S,T,U⟩:=al.out;simp only at q0 q1 q2 q3 q4 q5 q6 q7 q8 q9 R S T U;have k0:=cell_regrown q0;have k1:=cell_regrown q1;have k2:=cell_regrown q2;have k3:=cell_regrown q3;have k4:=cell_regrown q4;have k5:=cell_regrown q5;have k6:=cell_regrown q6;have k7:=cell_regrown q7;have k8:=cell_regrown q8;have k9:=cell_regrown q9;have a1:=cell_regrown R;have a2:=cell_regrown S;have a3:=cell_regrown T;have a4:=cell_regrown U;clear q0 q1 q2 q3 q4 q5 q6 q7 q8 q9 R S T U;have cS:=fun V os=>Calls.regrown_of (d:=V) (os:=os) (w:=H) (cm E _ _ _ _ _ _ _ _ _ _ _ _ _ (grow (redrawn H V) os) _ aq.out)
 have cM:=fun V os=>Calls.regrown_of (d:=V) (os:=os) (w:=H) (jt E _ _ _ _ _ _ _ _ _ _ _ _ _ (grow (redrawn H V) os) _ HM.out)
 refine wp_region_quiet_below (by kernel_rfl) (by kernel_rfl) ?_
 repeat (quiet_step (first | exact cS _ _ | exact cM _ _))
 refine wpQuiet_nil ?_;intro _ ay;obtain ⟨⟨dq,osq⟩,aA⟩:=ay;subst aA;go_wp2
 all_goals first
  | (exfalso;omega)
  | (go_ret;exact ⟨rfl,ad.out.trans ((below_regrown H dq osq).mono om)⟩)
theorem Kr (E:ByteArray) (F a b p o f J O I:Int) (w:World) (hn:E.size≤1000) (h:(ar.mk E 5 7 12 0 F a b p o f J O I).served∧(ar.mk E 5 7 12 0 F a b p o f J O I).polic∧bH E=true) (hc:aQ (ar.mk E 5 7 12 0 F a b p o f J O I)) (hx:1≤f) (aB:f≤bC F o) :
  Calls Tryz.prog 100 #[.agg #[.string E,.int .i64 5,.int .i64 7,.int .i64 12,.int .i64 0,F,a,b,p,o,f,J,O,I]] w fun e w'=>e=.returned (.int .i64 0)∧Below w w w':=by
 obtain ⟨⟨s1,s2,s3,s4⟩,⟨⟨p1,p2⟩,p3⟩,W⟩:=h;simp only at s1 s2 s3 s4 p1 p2 p3;have aF:(I==4)=false:=ae;have ah:=hide W;have ab:decide (aQ (ar.mk E 5 7 12 0 F a b p o f J O I))=true:=by simp [hc]
 have aq:=hide ab;have e7:decide (1≤f)=true:=ae;have HM:=hide (show eR (ar.mk E 5 7 12 0 F a b p o f J O I)=bC F o from cW hc);obtain ⟨M,hM⟩:∃ M,bC F o=M:=⟨_,rfl⟩;rw [hM] at HM aB;clear hM;have e8:decide (f≤M)=true:=ae;clear p3 W hc ab hx;go_enter Tryz.func100,Tryz.ntmps100;go_wp2_with fail;refine (bj _ _ hn).mono ?_;rintro e w1 ⟨rfl,rfl⟩;rw [ah.out];go_wp2_with fail
 all_goals first
  | (exfalso;omega)
  | skip
 obtain ⟨H,G⟩:∃ H:World,H=((w.alloc (.cells #[.string E,.int .i64 5,.int .i64 7,.int .i64 12,.int .i64 0,F,a,b,p,o,f,J,O,I] 24)).alloc (.cells #[.string ⟨#[]⟩,.int .i64 5,.int .i64 7,.int .i64 12,.int .i64 0,F,a,b,p,o,f,.int .i64 0,.int .i64 0,.int .i64 0] 24)):=⟨_,rfl⟩;have a0:w.heap.size<H.heap.size:=by rw [G];simp;omega
 have ad:=hide (show Below w w H by rw [G];(repeat' exact bel));have al:=hide (show aG H w (ar.mk E 5 7 12 0 F a b p o f J O I) by rw [G];exact az (au w (ar.mk E 5 7 12 0 F a b p o f J O I)) ac _);rw [← G];clear G;obtain ⟨q0,q1,q2,q3,q4,q5,q6,q7,q8,q9,R,S,T,U⟩:=al.out;simp only at q0 q1 q2 q3 q4 q5 q6 q7 q8 q9 R S T U;have k0:=cell_regrown q0;have k1:=cell_regrown q1;have k2:=cell_regrown q2;have k3:=cell_regrown q3;have k4:=cell_regrown q4;have k5:=cell_regrown q5;have k6:=cell_regrown q6;have k7:=cell_regrown q7;have k8:=cell_regrown q8;have k9:=cell_regrown q9;have a1:=cell_regrown R;have a2:=cell_regrown S;have a3:=cell_regrown T;have a4:=cell_regrown U;clear q0 q1 q2 q3 q4 q5 q6 q7 q8 q9 R S T U;have cS:=fun V os=>Calls.regrown_of (d:=V) (os:=os) (w:=H) (cm E _ _ _ _ _ _ _ _ _ _ _ _ _ (grow (redrawn H V) os) _ aq.out)
 have cM:=fun V os=>Calls.regrown_of (d:=V) (os:=os) (w:=H) (jt E _ _ _ _ _ _ _ _ _ _ _ _ _ (grow (redrawn H V) os) _ HM.out)
 refine wp_region_quiet_below (by kernel_rfl) (by kernel_rfl) ?_
 repeat (quiet_step (first | exact cS _ _ | exact cM _ _))
 refine wpQuiet_nil ?_;intro _ ay;obtain ⟨⟨dq,osq⟩,aA⟩:=ay;subst aA;go_wp2
 all_goals first
  | (exfalso;omega)
  | (go_ret;exact ⟨rfl,ad.out.trans ((below_regrown H dq osq).mono om)⟩)
theorem Lm (o:ByteArray) (d m S T a b p I J O R G:Int) (w:World) (V:o.size≤1000) (h:(ar.mk o 5 d m S T a b p I J O R G).served∧(ar.mk o 5 d m S T a b p I J O R G).polic∧bH o=true) (g1:¬ d=7) :
  Calls Tryz.prog 100 #[.agg #[.string o,.int .i64 5,d,m,S,T,a,b,p,I,J,O,R,G]] w fun e w'=>e=.returned (.int .i64 1)∧Below w w w':=by
 obtain ⟨⟨s1,s2,s3,s4⟩,⟨⟨p1,p2⟩,U⟩,f⟩:=h;simp only at s1 s2 s3 s4 p1 p2 U;have W:(G==4)=false:=ae;have H:=hide f;have F:(d==7)=false:=ae;have E:decide (d=7)=false:=ae;clear U f;go_enter Tryz.func100,Tryz.ntmps100;go_wp2_with fail;refine (bj _ _ V).mono ?_;rintro e w1 ⟨rfl,rfl⟩;rw [H.out];go_wp2_with fail
 all_goals first
  | (exfalso;omega)
  | skip
 all_goals
  go_quiet (fail);go_wp2
  all_goals first
   | (exfalso;omega)
   | (go_ret;exact ⟨rfl,by (repeat' exact bel)⟩)
theorem Lq (o:ByteArray) (d m S T a b p I J O R G:Int) (w:World) (W:o.size≤1000) (h:(ar.mk o 5 d m S T a b p I J O R G).served∧(ar.mk o 5 d m S T a b p I J O R G).polic∧bH o=true) (V:d=7) (g2:¬ m=12) :
  Calls Tryz.prog 100 #[.agg #[.string o,.int .i64 5,d,m,S,T,a,b,p,I,J,O,R,G]] w fun e w'=>e=.returned (.int .i64 1)∧Below w w w':=by
 obtain ⟨⟨s1,s2,s3,s4⟩,⟨⟨p1,p2⟩,U⟩,f⟩:=h;simp only at s1 s2 s3 s4 p1 p2 U;have ab:(G==4)=false:=ae;have H:=hide f;subst V;have F:(m==12)=false:=ae;have E:decide (m=12)=false:=ae;clear U f;go_enter Tryz.func100,Tryz.ntmps100;go_wp2_with fail;refine (bj _ _ W).mono ?_;rintro e w1 ⟨rfl,rfl⟩;rw [H.out];go_wp2_with fail
 all_goals first
  | (exfalso;omega)
  | skip
 all_goals
  go_quiet (fail);go_wp2
  all_goals first
   | (exfalso;omega)
   | (go_ret;exact ⟨rfl,by (repeat' exact bel)⟩)
theorem K6 (E:ByteArray) (d m f S a b p I J O R G:Int) (w:World) (hn:E.size≤1000) (h:(ar.mk E 5 d m f S a b p I J O R G).served∧(ar.mk E 5 d m f S a b p I J O R G).polic∧bH E=true) (V:d=7) (W:m=12) (g3:¬ f=0) :
  Calls Tryz.prog 100 #[.agg #[.string E,.int .i64 5,d,m,f,S,a,b,p,I,J,O,R,G]] w fun e w'=>e=.returned (.int .i64 1)∧Below w w w':=by
 obtain ⟨⟨s1,s2,s3,s4⟩,⟨⟨p1,p2⟩,U⟩,o⟩:=h;simp only at s1 s2 s3 s4 p1 p2 U;have ab:(G==4)=false:=ae;have H:=hide o;subst V W;have T:(f==0)=false:=ae;have F:decide (f=0)=false:=ae;clear U o;go_enter Tryz.func100,Tryz.ntmps100;go_wp2_with fail;refine (bj _ _ hn).mono ?_;rintro e w1 ⟨rfl,rfl⟩;rw [H.out];go_wp2_with fail
 all_goals first
  | (exfalso;omega)
  | skip
 all_goals
  go_quiet (fail);go_wp2
  all_goals first
   | (exfalso;omega)
   | (go_ret;exact ⟨rfl,by (repeat' exact bel)⟩)
end
end Go.Proofs.YtjhhmeoibfdcmaaGreat
