/- Lemmas. -/
import Derived.Lib.QuietBelow
import Derived.Test.YtjhhmeoibfdcmaaGreatWr16
set_option linter.unusedSimpArgs false
set_option linter.unusedVariables false
set_option maxRecDepth 100000
set_option maxHeartbeats 12800000
namespace Go.Proofs.YtjhhmeoibfdcmaaGreat
section
open Go.RowKit Qd
def JO (b:Bool) (N:Nat):Int:=if b then -(N:Int) else N
def KI (a b:Bool) (A B:Nat):Bool:=if a=b then a else if A<B then b else a
def JP (a b:Bool) (A B:Nat):Nat:=if a=b then A+B else if A<B then B-A else A-B
theorem Jz (a b:Bool) (A B:Nat):JO (KI a b A B) (JP a b A B)=JO a A+JO b B:=by
 unfold KI JP JO;by_cases h:A<B
 ·cases a <;> cases b <;> simp [h] <;> omega
 ·cases a <;> cases b <;> simp [h] <;> omega
theorem wO (a b:Bool) (A B:Nat) (w:World) (o:A<65536 ^ 8) (E:B<65536 ^ 8) (F:a=b→A+B<65536 ^ 8) :
  Calls Tryz.prog 174 #[cU a A,cU b B] w fun e G=>e=.returned (.tuple #[cU (KI a b A B) (JP a b A B),.bool true])∧Below w w G:=by
 unfold KI JP;by_cases h:a=b
 ·subst h
  have:=mN a A B w (hide o) (hide E);rw [show decide (A+B<65536 ^ 8)=true by simpa using F rfl] at this;rw [if_pos rfl,if_pos rfl];exact this
 ·rw [if_neg h,if_neg h]
  by_cases f:A<B
  ·rw [if_pos f,if_pos f]
   exact ye a b A B w h (hide o) (hide E) (hide f)
  ·rw [if_neg f,if_neg f]
   exact xQ a b A B w h (hide o) (hide E) (hide om)
theorem wV {n:Int} (h:bL n):n.natAbs<65536 ^ 8∧(n.natAbs:Int)≤170141183460469231731687303715884105728:=by unfold bL at h;omega
theorem qz {w:World} {B o:Nat} {E:Array Value} {t:TypeId} {c:Bool} (h:ap w B E t) (f:B≠o) (N:Nat):ap (nC w o c N) B E t:=by
 unfold ap at *;exact (Below.heap_setCell _ _ _ B f).trans ((Below.heap_setCell _ _ _ B f).trans ((Below.heap_setCell _ _ _ B f).trans ((Below.heap_setCell _ _ _ B f).trans ((Below.heap_setCell _ _ _ B f).trans ((Below.heap_setCell _ _ _ B f).trans ((Below.heap_setCell _ _ _ B f).trans ((Below.heap_setCell _ _ _ B f).trans ((Below.heap_setCell _ _ _ B f).trans (h)))))))))
def Ma (S:Bool) (K:Nat) (o:Nat) (w:World) (E F:Value) (f:World):Prop:=∃ h,E=.pointer (some ⟨h,0,none⟩)∧F=.bool true∧bn f h S (ga K)∧ap f o #[.int .i64 0,.int .u64 0] 103∧Below w w f
theorem yY (O V R W h3 l3:Int) (a b S:Bool) (A B K:Nat) (w:World)
  (HA:Hid (∀ w,Calls Tryz.prog 173 #[.agg #[O,.int .u64 V]] w fun e F=>e=.returned (cU a A)∧Below w w F))
  (HB:Hid (∀ w,Calls Tryz.prog 173 #[.agg #[R,.int .u64 W]] w fun e F=>e=.returned (cU b B)∧Below w w F))
  (HP:Hid (∀ w,Calls Tryz.prog 174 #[cU a A,cU b B] w fun e F=>e=.returned (.tuple #[cU S K,.bool true])∧Below w w F))
  (HK:Hid (∀ w,Calls Tryz.prog 176 #[cU S K] w fun e F=>e=.returned (.tuple #[.agg #[h3,.int .u64 l3],.bool true])∧Below w w F)) :
  Calls Tryz.prog 123 #[.agg #[O,.int .u64 V],.agg #[R,.int .u64 W]] w fun e F=>e=.returned (.tuple #[.agg #[h3,.int .u64 l3],.int .i64 0])∧Below w w F:=by
 have H0:=hide (show ap (((w.alloc (.cells #[O,.int .u64 V] 103)).alloc (.cells #[R,.int .u64 W] 103)).alloc jL) (w.heap.size+1+1) #[.int .i64 0,.int .u64 0] 103 by
  simpa using jz ((w.alloc (.cells #[O,.int .u64 V] 103)).alloc (.cells #[R,.int .u64 W] 103)))
 go_enter Tryz.func123,Tryz.ntmps123;have aq:=hide (show (((w.alloc (.cells #[O,.int .u64 V] 103)).alloc (.cells #[R,.int .u64 W] 103)).alloc (.cells #[.int .i64 0,.int .u64 0] 103)).heap.size=w.heap.size+1+1+1 by simp);obtain ⟨f,T⟩:∃ f,((w.alloc (.cells #[O,.int .u64 V] 103)).alloc (.cells #[R,.int .u64 W] 103)).alloc (.cells #[.int .i64 0,.int .u64 0] 103)=f:=⟨_,rfl⟩;have HT:=hide (show ap f w #[O,.int .u64 V] 103∧ap f (w+1) #[R,.int .u64 W] 103 by
  rw [← T];refine ⟨((ap.new w _ _).alloc _).alloc _,ap.alloc ?_ _⟩;simpa using ap.new (w.alloc (.cells #[O,.int .u64 V] 103)) #[R,.int .u64 W] 103)
 have al:=hide (show Below w w f by rw [← T];exact bel);go_upto_region 1 with fail;rw [T] at H0 aq;clear T;obtain ⟨⟨p0,p1⟩,_,_,bc⟩:=cO HT.out.1;obtain ⟨⟨q0,q1⟩,_,_,bd⟩:=cO HT.out.2;have bb:w.heap.size+1+1<f.heap.size:=by have:=aq.out;omega
 go_cut [6,7] (fun s6 s7 wx=>Ma S K (w.heap.size+1+1) f s6 s7 wx)
 case first =>
  go_region_held3 (fun F=>(F.cell? ⟨w,0,none⟩=some (.int .i64 O)∧F.cell? ⟨w,1,none⟩=some (.int .u64 V))∧(F.cell? ⟨w+1,0,none⟩=some (.int .i64 R)∧F.cell? ⟨w+1,1,none⟩=some (.int .u64 W))) (exact ⟨(cO (HT.out.1.call an)).1,(cO (HT.out.2.call an)).1⟩)
   (first
   | (go_at_call 173;(with_reducible refine (HA.out f.drew).mono ?_);rintro e w1 ⟨rfl,E⟩;have G:=hide trivial;have U:f.heap.size≤w1.heap.size:=E.size;have E:Below f f w1:=(ww E).out)
   | (go_at_call 173;(with_reducible refine (HA.out (f.alloc (nD false)).drew).mono ?_);rintro e w1 ⟨rfl,E⟩;have G:=hide (bn.call (show bn (f.alloc (nD false)).drew f.heap.size false rb from bn.zero f false) E);have U:f.heap.size≤w1.heap.size:=Nat.le_of_lt G.out.lt;have E:Below f f w1:=(ww E).out)
   | (go_at_call 173;(with_reducible refine (HB.out w1).mono ?_);rintro e H ⟨rfl,o⟩;have G:=hide (G.out.call o);have J:f.heap.size≤H.heap.size:=Nat.le_trans U o.size;have o:Below f f H:=(ww o).out)
   | (go_at_call 173;(with_reducible refine (HB.out w1).mono ?_);rintro e H ⟨rfl,o⟩;have J:f.heap.size≤H.heap.size:=Nat.le_trans U o.size;have o:Below f f H:=(ww o).out)
   | (go_at_call 173;(with_reducible refine (HB.out (w1.alloc (nD false))).mono ?_);rintro e H ⟨rfl,o⟩;have G:=hide (bn.call (bn.zero w1 false) o);have J:f.heap.size≤H.heap.size:=Nat.le_trans U (Nat.le_of_lt G.out.lt);have o:Below f f H:=(ww o).out)
   | (go_at_call 174;(with_reducible refine (HP.out H).mono ?_);rintro e I ⟨rfl,h⟩;have G:=hide (G.out.call h);obtain ⟨⟨r0,r1,r2,r3,r4,r5,r6,r7,r8⟩,⟨f0,f1,f2,f3,f4,f5,f6,f7,f8⟩,hz⟩:=bn.nine G.out;have ad:f.heap.size≤I.heap.size:=Nat.le_trans J h.size;have h:Below f f I:=(ww h).out)
   | (go_at_call 174;(with_reducible refine (HP.out H).mono ?_);rintro e I ⟨rfl,h⟩;obtain ⟨⟨r0,r1,r2,r3,r4,r5,r6,r7,r8⟩,⟨f0,f1,f2,f3,f4,f5,f6,f7,f8⟩,hz⟩:=bn.nine (show bn (I.alloc (.cells #[.bool false,.int .u64 0,.int .u64 0,.int .u64 0,.int .u64 0,.int .u64 0,.int .u64 0,.int .u64 0,.int .u64 0] 212)) I.heap.size false rb from bn.zero I false);have ad:f.heap.size≤I.heap.size:=Nat.le_trans J h.size;have h:Below f f I:=(ww h).out)
   | (go_at_call 174;(with_reducible refine (HP.out (H.alloc (nD false))).mono ?_);rintro e I ⟨rfl,h⟩;have G:=hide (bn.call (bn.zero H false) h);obtain ⟨⟨r0,r1,r2,r3,r4,r5,r6,r7,r8⟩,⟨f0,f1,f2,f3,f4,f5,f6,f7,f8⟩,hz⟩:=bn.nine G.out;have ad:f.heap.size≤I.heap.size:=Nat.le_trans J (Nat.le_of_lt G.out.lt);have h:Below f f I:=(ww h).out))
  all_goals
   go_wp2_with fail;go_meet
   first
    | exact ⟨_,rfl,rfl,G.out.put K,qz (H0.out.call h) om K,ig h om S K⟩
    | exact ⟨_,rfl,rfl,bn.numO I S K,(H0.out.call h).alloc _,h.alloc ad _⟩
 case rest =>
  obtain ⟨B6,rfl,rfl,hD,hR,hb⟩:=hcut;have bh:=hD.lt;obtain ⟨⟨a0,a1,a2,a3,a4,a5,a6,a7,a8⟩,_⟩:=bn.nine hD;have HR:=hide hR;have ah:=hide (al.out.trans (hb.mono al.out.size));have ba:=ah.out.size;clear hD hR hb;go_wp2_with fail;refine (HK.out _).mono ?_;rintro e w4 ⟨rfl,ab⟩;have aB:=hide (HR.out.call ab);have aA:Hid (Below w w w4):=ao ah.out ab;have ay:=aA.out;have aF:=ay.size;clear ab a0 a1 a2 a3 a4 a5 a6 a7 a8;obtain ⟨⟨r0,r1⟩,f0,f1,hz⟩:=cO aB.out;go_wp2;refine bodyPost_ret (v:=.tuple #[.agg #[h3,.int .u64 l3],.int .i64 0]) (by simp (maxDischargeDepth:=9) [results,Tryz.results123,go_sem,r0,r1,f0,f1,hz]) rfl ⟨rfl,by (repeat' exact bel)⟩
theorem sq (M N:Int) (w:World) (o:bL M) (E:bL N) (F:bL (M+N)):Calls Tryz.prog 123 #[cv M,cv N] w fun e I=>e=.returned (.tuple #[cv (M+N),.int .i64 0])∧Below w w I:=by
 obtain ⟨G,J⟩:=wV o;obtain ⟨H,O⟩:=wV E;refine yY _ _ _ _ _ _ (decide (M<0)) (decide (N<0)) (KI (decide (M<0)) (decide (N<0)) M.natAbs N.natAbs) M.natAbs N.natAbs (JP (decide (M<0)) (decide (N<0)) M.natAbs N.natAbs) w (hide (fun w=>lK M w o)) (hide (fun w=>lK N w E)) (hide (fun w=>wO _ _ _ _ w G H ?_)) (hide (fun w=>gp _ _ (M+N) w ?_ F))
 ·intro h
  unfold bL at F;by_cases f:M<0
  ·have:N<0:=by simpa [f] using h
   have e:((M.natAbs+N.natAbs:Nat):Int)=-(M+N):=om;omega
  ·have:¬ N<0:=by simpa [f] using h
   have e:((M.natAbs+N.natAbs:Nat):Int)=M+N:=om;omega
 ·have h:=Jz (decide (M<0)) (decide (N<0)) M.natAbs N.natAbs
  unfold JO at h;rw [h,← ut M,← ut N]
end
section
open Go.RowKit Go.Sort Qd
theorem Km (o:ByteArray) (d m H a b p E F J O G:Int) (w:World) (hn:o.size≤1000) (h:(ar.mk o 1 d m 0 H a b p E F J O G).served∧(ar.mk o 1 d m 0 H a b p E F J O G).polic∧bH o=true) (hd:1≤d∧d≤7) (hm:1≤m∧m≤12) (hc:¬ aQ (ar.mk o 1 d m 0 H a b p E F J O G)) :
  Calls Tryz.prog 100 #[.agg #[.string o,.int .i64 1,d,m,.int .i64 0,H,a,b,p,E,F,J,O,G]] w fun e w'=>e=.returned (.int .i64 1)∧Below w w w':=by
 obtain ⟨⟨s1,s2,s3,s4⟩,⟨⟨p1,p2⟩,p3⟩,V⟩:=h;simp only at s1 s2 s3 s4 p1 p2 p3;have aA:(G==4)=false:=ae;have ad:=hide V;have W:decide (aQ (ar.mk o 1 d m 0 H a b p E F J O G))=false:=by simp [hc]
 have al:=hide W;have e1:decide (1≤d)=true:=ae;have e2:decide (d≤7)=true:=ae;have e3:decide (1≤m)=true:=ae;have e4:decide (m≤12)=true:=ae;clear p3 V hc W hd hm;go_enter Tryz.func100,Tryz.ntmps100;go_wp2_with fail;refine (bj _ _ hn).mono ?_;rintro e w1 ⟨rfl,rfl⟩;rw [ad.out];go_wp2_with fail
 all_goals first
  | (exfalso;omega)
  | skip
 obtain ⟨I,f⟩:∃ I:World,I=((w.alloc (.cells #[.string o,.int .i64 1,d,m,.int .i64 0,H,a,b,p,E,F,J,O,G] 24)).alloc (.cells #[.string ⟨#[]⟩,.int .i64 1,d,m,.int .i64 0,H,a,b,p,E,F,.int .i64 0,.int .i64 0,.int .i64 0] 24)):=⟨_,rfl⟩;have aB:w.heap.size<I.heap.size:=by rw [f];simp;omega
 have ab:=hide (show Below w w I by rw [f];(repeat' exact bel));have ah:=hide (show aG I w (ar.mk o 1 d m 0 H a b p E F J O G) by rw [f];exact az (au w (ar.mk o 1 d m 0 H a b p E F J O G)) ac _);rw [← f];clear f;obtain ⟨q0,q1,q2,q3,q4,q5,q6,q7,q8,q9,R,S,T,U⟩:=ah.out;simp only at q0 q1 q2 q3 q4 q5 q6 q7 q8 q9 R S T U;have k0:=cell_regrown q0;have k1:=cell_regrown q1;have k2:=cell_regrown q2;have k3:=cell_regrown q3;have k4:=cell_regrown q4;have k5:=cell_regrown q5;have k6:=cell_regrown q6;have k7:=cell_regrown q7;have k8:=cell_regrown q8;have k9:=cell_regrown q9;have aF:=cell_regrown R;have a0:=cell_regrown S;have a1:=cell_regrown T;have a2:=cell_regrown U;clear q0 q1 q2 q3 q4 q5 q6 q7 q8 q9 R S T U;have cS:=fun dd os=>Calls.regrown_of (d:=dd) (os:=os) (w:=I) (cm o _ _ _ _ _ _ _ _ _ _ _ _ _ (grow (redrawn I dd) os) _ al.out)
 refine wp_region_quiet_below (by kernel_rfl) (by kernel_rfl) ?_
 repeat (quiet_step (exact cS _ _))
 refine wpQuiet_nil ?_;intro _ aq;obtain ⟨⟨dq,osq⟩,ay⟩:=aq;subst ay;go_wp2
 all_goals first
  | (exfalso;omega)
  | (go_ret;exact ⟨rfl,ab.out.trans ((below_regrown I dq osq).mono om)⟩)
theorem J3 (E:ByteArray) (d m H a b p F f J O G:Int) (w:World) (hn:E.size≤1000) (h:(ar.mk E 1 d m 0 H a b p F f J O G).served∧(ar.mk E 1 d m 0 H a b p F f J O G).polic∧bH E=true) (hd:1≤d∧d≤7) (hm:1≤m∧m≤12) (hc:aQ (ar.mk E 1 d m 0 H a b p F f J O G)) (hx:f<1) :
  Calls Tryz.prog 100 #[.agg #[.string E,.int .i64 1,d,m,.int .i64 0,H,a,b,p,F,f,J,O,G]] w fun e w'=>e=.returned (.int .i64 1)∧Below w w w':=by
 obtain ⟨⟨s1,s2,s3,s4⟩,⟨⟨p1,p2⟩,p3⟩,V⟩:=h;simp only at s1 s2 s3 s4 p1 p2 p3;have aA:(G==4)=false:=ae;have ad:=hide V;have W:decide (aQ (ar.mk E 1 d m 0 H a b p F f J O G))=true:=by simp [hc]
 have al:=hide W;have e1:decide (1≤d)=true:=ae;have e2:decide (d≤7)=true:=ae;have e3:decide (1≤m)=true:=ae;have e4:decide (m≤12)=true:=ae;have e7:decide (1≤f)=false:=ae;clear p3 V hc W hd hm hx;go_enter Tryz.func100,Tryz.ntmps100;go_wp2_with fail;refine (bj _ _ hn).mono ?_;rintro e w1 ⟨rfl,rfl⟩;rw [ad.out];go_wp2_with fail
 all_goals first
  | (exfalso;omega)
  | skip
 obtain ⟨I,o⟩:∃ I:World,I=((w.alloc (.cells #[.string E,.int .i64 1,d,m,.int .i64 0,H,a,b,p,F,f,J,O,G] 24)).alloc (.cells #[.string ⟨#[]⟩,.int .i64 1,d,m,.int .i64 0,H,a,b,p,F,f,.int .i64 0,.int .i64 0,.int .i64 0] 24)):=⟨_,rfl⟩;have aB:w.heap.size<I.heap.size:=by rw [o];simp;omega
 have ab:=hide (show Below w w I by rw [o];(repeat' exact bel));have ah:=hide (show aG I w (ar.mk E 1 d m 0 H a b p F f J O G) by rw [o];exact az (au w (ar.mk E 1 d m 0 H a b p F f J O G)) ac _);rw [← o];clear o;obtain ⟨q0,q1,q2,q3,q4,q5,q6,q7,q8,q9,R,S,T,U⟩:=ah.out;simp only at q0 q1 q2 q3 q4 q5 q6 q7 q8 q9 R S T U;have k0:=cell_regrown q0;have k1:=cell_regrown q1;have k2:=cell_regrown q2;have k3:=cell_regrown q3;have k4:=cell_regrown q4;have k5:=cell_regrown q5;have k6:=cell_regrown q6;have k7:=cell_regrown q7;have k8:=cell_regrown q8;have k9:=cell_regrown q9;have aF:=cell_regrown R;have a0:=cell_regrown S;have a1:=cell_regrown T;have a2:=cell_regrown U;clear q0 q1 q2 q3 q4 q5 q6 q7 q8 q9 R S T U;have cS:=fun dd os=>Calls.regrown_of (d:=dd) (os:=os) (w:=I) (cm E _ _ _ _ _ _ _ _ _ _ _ _ _ (grow (redrawn I dd) os) _ al.out)
 refine wp_region_quiet_below (by kernel_rfl) (by kernel_rfl) ?_
 repeat (quiet_step (exact cS _ _))
 refine wpQuiet_nil ?_;intro _ aq;obtain ⟨⟨dq,osq⟩,ay⟩:=aq;subst ay;go_wp2
 all_goals first
  | (exfalso;omega)
  | (go_ret;exact ⟨rfl,ab.out.trans ((below_regrown I dq osq).mono om)⟩)
theorem Kj (E:ByteArray) (d m F a b p o f J O I:Int) (w:World) (hn:E.size≤1000) (h:(ar.mk E 1 d m 0 F a b p o f J O I).served∧(ar.mk E 1 d m 0 F a b p o f J O I).polic∧bH E=true) (hd:1≤d∧d≤7) (hm:1≤m∧m≤12) (hc:aQ (ar.mk E 1 d m 0 F a b p o f J O I)) (hx:1≤f) (aB:bC F o<f) :
  Calls Tryz.prog 100 #[.agg #[.string E,.int .i64 1,d,m,.int .i64 0,F,a,b,p,o,f,J,O,I]] w fun e w'=>e=.returned (.int .i64 1)∧Below w w w':=by
 obtain ⟨⟨s1,s2,s3,s4⟩,⟨⟨p1,p2⟩,p3⟩,W⟩:=h;simp only at s1 s2 s3 s4 p1 p2 p3;have aF:(I==4)=false:=ae;have ah:=hide W;have ab:decide (aQ (ar.mk E 1 d m 0 F a b p o f J O I))=true:=by simp [hc]
 have aq:=hide ab;have e1:decide (1≤d)=true:=ae;have e2:decide (d≤7)=true:=ae;have e3:decide (1≤m)=true:=ae;have e4:decide (m≤12)=true:=ae;have e7:decide (1≤f)=true:=ae;have HM:=hide (show eR (ar.mk E 1 d m 0 F a b p o f J O I)=bC F o from cW hc);obtain ⟨M,hM⟩:∃ M,bC F o=M:=⟨_,rfl⟩;rw [hM] at HM aB;clear hM;have e8:decide (f≤M)=false:=ae;clear p3 W hc ab hd hm hx;go_enter Tryz.func100,Tryz.ntmps100;go_wp2_with fail;refine (bj _ _ hn).mono ?_;rintro e w1 ⟨rfl,rfl⟩;rw [ah.out];go_wp2_with fail
 all_goals first
  | (exfalso;omega)
  | skip
 obtain ⟨H,G⟩:∃ H:World,H=((w.alloc (.cells #[.string E,.int .i64 1,d,m,.int .i64 0,F,a,b,p,o,f,J,O,I] 24)).alloc (.cells #[.string ⟨#[]⟩,.int .i64 1,d,m,.int .i64 0,F,a,b,p,o,f,.int .i64 0,.int .i64 0,.int .i64 0] 24)):=⟨_,rfl⟩;have a0:w.heap.size<H.heap.size:=by rw [G];simp;omega
 have ad:=hide (show Below w w H by rw [G];(repeat' exact bel));have al:=hide (show aG H w (ar.mk E 1 d m 0 F a b p o f J O I) by rw [G];exact az (au w (ar.mk E 1 d m 0 F a b p o f J O I)) ac _);rw [← G];clear G;obtain ⟨q0,q1,q2,q3,q4,q5,q6,q7,q8,q9,R,S,T,U⟩:=al.out;simp only at q0 q1 q2 q3 q4 q5 q6 q7 q8 q9 R S T U;have k0:=cell_regrown q0;have k1:=cell_regrown q1;have k2:=cell_regrown q2;have k3:=cell_regrown q3;have k4:=cell_regrown q4;have k5:=cell_regrown q5;have k6:=cell_regrown q6;have k7:=cell_regrown q7;have k8:=cell_regrown q8;have k9:=cell_regrown q9;have a1:=cell_regrown R;have a2:=cell_regrown S;have a3:=cell_regrown T;have a4:=cell_regrown U;clear q0 q1 q2 q3 q4 q5 q6 q7 q8 q9 R S T U;have cS:=fun V os=>Calls.regrown_of (d:=V) (os:=os) (w:=H) (cm E _ _ _ _ _ _ _ _ _ _ _ _ _ (grow (redrawn H V) os) _ aq.out)
 have cM:=fun V os=>Calls.regrown_of (d:=V) (os:=os) (w:=H) (jt E _ _ _ _ _ _ _ _ _ _ _ _ _ (grow (redrawn H V) os) _ HM.out)
 refine wp_region_quiet_below (by kernel_rfl) (by kernel_rfl) ?_
 repeat (quiet_step (first | exact cS _ _ | exact cM _ _))
 refine wpQuiet_nil ?_;intro _ ay;obtain ⟨⟨dq,osq⟩,aA⟩:=ay;subst aA;go_wp2
 all_goals first
  | (exfalso;omega)
  | (go_ret;exact ⟨rfl,ad.out.trans ((below_regrown H dq osq).mono om)⟩)
theorem J7 (E:ByteArray) (d m F a b p o f J O I:Int) (w:World) (hn:E.size≤1000) (h:(ar.mk E 1 d m 0 F a b p o f J O I).served∧(ar.mk E 1 d m 0 F a b p o f J O I).polic∧bH E=true) (hd:1≤d∧d≤7) (hm:1≤m∧m≤12) (hc:aQ (ar.mk E 1 d m 0 F a b p o f J O I)) (hx:1≤f) (aB:f≤bC F o) :
  Calls Tryz.prog 100 #[.agg #[.string E,.int .i64 1,d,m,.int .i64 0,F,a,b,p,o,f,J,O,I]] w fun e w'=>e=.returned (.int .i64 0)∧Below w w w':=by
 obtain ⟨⟨s1,s2,s3,s4⟩,⟨⟨p1,p2⟩,p3⟩,W⟩:=h;simp only at s1 s2 s3 s4 p1 p2 p3;have aF:(I==4)=false:=ae;have ah:=hide W;have ab:decide (aQ (ar.mk E 1 d m 0 F a b p o f J O I))=true:=by simp [hc]
 have aq:=hide ab;have e1:decide (1≤d)=true:=ae;have e2:decide (d≤7)=true:=ae;have e3:decide (1≤m)=true:=ae;have e4:decide (m≤12)=true:=ae;have e7:decide (1≤f)=true:=ae;have HM:=hide (show eR (ar.mk E 1 d m 0 F a b p o f J O I)=bC F o from cW hc);obtain ⟨M,hM⟩:∃ M,bC F o=M:=⟨_,rfl⟩;rw [hM] at HM aB;clear hM;have e8:decide (f≤M)=true:=ae;clear p3 W hc ab hd hm hx;go_enter Tryz.func100,Tryz.ntmps100;go_wp2_with fail;refine (bj _ _ hn).mono ?_;rintro e w1 ⟨rfl,rfl⟩;rw [ah.out];go_wp2_with fail
 all_goals first
  | (exfalso;omega)
  | skip
 obtain ⟨H,G⟩:∃ H:World,H=((w.alloc (.cells #[.string E,.int .i64 1,d,m,.int .i64 0,F,a,b,p,o,f,J,O,I] 24)).alloc (.cells #[.string ⟨#[]⟩,.int .i64 1,d,m,.int .i64 0,F,a,b,p,o,f,.int .i64 0,.int .i64 0,.int .i64 0] 24)):=⟨_,rfl⟩;have a0:w.heap.size<H.heap.size:=by rw [G];simp;omega
 have ad:=hide (show Below w w H by rw [G];(repeat' exact bel));have al:=hide (show aG H w (ar.mk E 1 d m 0 F a b p o f J O I) by rw [G];exact az (au w (ar.mk E 1 d m 0 F a b p o f J O I)) ac _);rw [← G];clear G;obtain ⟨q0,q1,q2,q3,q4,q5,q6,q7,q8,q9,R,S,T,U⟩:=al.out;simp only at q0 q1 q2 q3 q4 q5 q6 q7 q8 q9 R S T U;have k0:=cell_regrown q0;have k1:=cell_regrown q1;have k2:=cell_regrown q2;have k3:=cell_regrown q3;have k4:=cell_regrown q4;have k5:=cell_regrown q5;have k6:=cell_regrown q6;have k7:=cell_regrown q7;have k8:=cell_regrown q8;have k9:=cell_regrown q9;have a1:=cell_regrown R;have a2:=cell_regrown S;have a3:=cell_regrown T;have a4:=cell_regrown U;clear q0 q1 q2 q3 q4 q5 q6 q7 q8 q9 R S T U;have cS:=fun V os=>Calls.regrown_of (d:=V) (os:=os) (w:=H) (cm E _ _ _ _ _ _ _ _ _ _ _ _ _ (grow (redrawn H V) os) _ aq.out)
 have cM:=fun V os=>Calls.regrown_of (d:=V) (os:=os) (w:=H) (jt E _ _ _ _ _ _ _ _ _ _ _ _ _ (grow (redrawn H V) os) _ HM.out)
 refine wp_region_quiet_below (by kernel_rfl) (by kernel_rfl) ?_
 repeat (quiet_step (first | exact cS _ _ | exact cM _ _))
 refine wpQuiet_nil ?_;intro _ ay;obtain ⟨⟨dq,osq⟩,aA⟩:=ay;subst aA;go_wp2
 all_goals first
  | (exfalso;omega)
  | (go_ret;exact ⟨rfl,ad.out.trans ((below_regrown H dq osq).mono om)⟩)
end
end Go.Proofs.YtjhhmeoibfdcmaaGreat
