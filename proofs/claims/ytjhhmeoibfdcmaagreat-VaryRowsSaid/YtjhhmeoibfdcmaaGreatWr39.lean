/- Lemmas. -/
import Derived.Lib.QuietBelow
import Derived.Test.YtjhhmeoibfdcmaaGreatWr13
import Derived.Test.YtjhhmeoibfdcmaaGreatWr37
set_option linter.unusedSimpArgs false
set_option linter.unusedVariables false
set_option maxRecDepth 100000
set_option maxHeartbeats 12800000
namespace Go.Proofs.YtjhhmeoibfdcmaaGreat
section
open Go.Sort Go.RowKit Qd
theorem lH (a b x y:Int) (w:World) (r:Bool) (o:(r=true∧x≤a∧b≤y)∨(r=false∧a<x)∨(r=false∧x≤a∧y<b)) :
  Calls Tryz.prog 227 #[.agg #[a,b],.agg #[x,y]] w fun e E=>e=.returned (.bool r)∧Below w w E:=by
 rcases o with ⟨rfl,f,h⟩ | ⟨rfl,f⟩ | ⟨rfl,f,h⟩
 all_goals
  go_enter Tryz.func227,Tryz.ntmps227;go_wp2
  all_goals first
   | (exfalso;omega)
   | (go_ret;exact ⟨aY (by first | rfl | (simp;done) | (simp;omega)),by (repeat' exact bel)⟩)
theorem JX {c:ar} {u:Un} {lv:Int} (h:aE c u=0) (E:1≤lv) (V:lv≤u.lv) :
  gJ c u.yr lv (aT c u)<aR c u.yr lv∧(∀ i,i<gJ c u.yr lv (aT c u)→bD c u.yr (aW c u.yr lv (i+1))-1<gb c u∧bD c u.yr (aW c u.yr lv i)≤gT c u) ∧
  bD c u.yr (aW c u.yr lv (gJ c u.yr lv (aT c u)))≤gT c u∧gb c u≤bD c u.yr (aW c u.yr lv (gJ c u.yr lv (aT c u)+1))-1:=by
 obtain ⟨hf,ab,J,f,hx,hi⟩:=bN h;obtain ⟨S,T,U⟩:=IG c u.yr f lv u.lv E V J (uI u) hi;obtain ⟨O,R⟩:=dz h;have I:lv≤5:=om;have G:aW c u.yr lv (gJ c u.yr lv (aT c u))≤aT c u:=T;have H:bF c u≤aW c u.yr lv (gJ c u.yr lv (aT c u)+1):=U;have F:gJ c u.yr lv (aT c u)<aR c u.yr lv:=S;have o:=cT c u.yr f lv E I (gJ c u.yr lv (aT c u)+1) om;refine ⟨F,fun i W=>?_,?_,?_⟩
 ·have m1:=dj c u.yr f lv E I (show i+1≤gJ c u.yr lv (aT c u) by omega) om
  have m2:=cn c u.yr f (show aW c u.yr lv (i+1)≤aT c u by omega) om;have m3:=ft c u.yr f O R;have m4:=dj c u.yr f lv E I (show i≤gJ c u.yr lv (aT c u) by omega) om;have m5:=cn c u.yr f (show aW c u.yr lv i≤aT c u by omega) om;unfold gb gT;omega
 ·exact cn c u.yr f G om
 ·have:=cn c u.yr f H o
  unfold gb;omega
theorem Gn {c:ar} {u:Un} {lv:Int} (h:aE c u=0) (U:u.lv≤lv) (o:lv≤5) :
  gJ c u.yr lv (aT c u)≤gJ c u.yr lv (bF c u-1)∧gJ c u.yr lv (bF c u-1)<aR c u.yr lv ∧
  (∀ i,i<gJ c u.yr lv (aT c u)→bD c u.yr (aW c u.yr lv i)<gT c u) ∧
  (∀ i,gJ c u.yr lv (aT c u)≤i→i<aR c u.yr lv→gT c u≤bD c u.yr (aW c u.yr lv i)) ∧
  (∀ i,i≤gJ c u.yr lv (bF c u-1)→bD c u.yr (aW c u.yr lv (i+1))-1≤gb c u) ∧
  (∀ i,gJ c u.yr lv (bF c u-1)<i→i<aR c u.yr lv→gb c u<bD c u.yr (aW c u.yr lv (i+1))-1):=by
 obtain ⟨hf,H,ah,f,hx,hi⟩:=bN h;have F:1≤lv:=om;obtain ⟨c1,c2⟩:=dz h;obtain ⟨a,I,J⟩:=nP c u.yr f u.lv lv H U o (uI u) om;obtain ⟨b,O,R⟩:=nP c u.yr f u.lv lv H U o (uI u+1) om;have V:aT c u=aW c u.yr lv a:=J;have ab:bF c u=aW c u.yr lv b:=R;have ad:a<b:=by
  rcases Nat.lt_or_ge a b with S | S
  ·exact S
  ·have:=dj c u.yr f lv F o S I
   omega
 have G:a<aR c u.yr lv:=om;have l1:=kx c u.yr f lv F o a G;have eA:gJ c u.yr lv (aT c u)=a:=uH c u.yr f lv F o _ a G om om;have l2:=kx c u.yr f lv F o (b-1) om;rw [show b-1+1=b by omega] at l2;have eB:gJ c u.yr lv (bF c u-1)=b-1:=uH c u.yr f lv F o _ (b-1) om om (by rw [show b-1+1=b by omega];omega);have W:=fun i (hi:i≤aR c u.yr lv)=>cT c u.yr f lv F o i hi
 rw [eA,eB];refine ⟨by omega,by omega,fun i E=>?_,fun i E T=>?_,fun i E=>?_,fun i E T=>?_⟩
 ·have m:=oL c u.yr f lv F o E om
  have:=ft c u.yr f (show aW c u.yr lv i<aT c u by omega) om;unfold gT;omega
 ·have m:=dj c u.yr f lv F o E om
  have:=cn c u.yr f (show aT c u≤aW c u.yr lv i by omega) (W i om);unfold gT;omega
 ·have m:=dj c u.yr f lv F o (show i+1≤b by omega) O
  have:=cn c u.yr f (show aW c u.yr lv (i+1)≤bF c u by omega) om;unfold gb;omega
 ·have m:=oL c u.yr f lv F o (show b<i+1 by omega) om
  have:=ft c u.yr f (show bF c u<aW c u.yr lv (i+1) by omega) (W (i+1) om);unfold gb;omega
theorem Bw (c:ar) (u:Un) (lv:Int) (w:World) (T:c.name.size≤1000) (o:¬ aE c u=0) :
  Calls Tryz.prog 194 #[av c,aC u,lv] w fun e V=>e=.returned (.tuple #[.agg #[.int .i64 0,.int .i64 0,.int .i64 0],aE c u])∧Below w w V:=by
 have R:(aE c u != 0)=true:=by simpa using o
 have G:=hide o;clear o;simp only [av,aC];go_enter Tryz.func194,Tryz.ntmps194;go_wp2_with fail;refine (mc c u _ T G.out).mono ?_;rintro e h ⟨rfl,f⟩;have U:h.cell? ⟨w+1+1,0,none⟩=some (.int .i64 0):=am f;have I:h.frozen? ⟨w+1+1,0,none⟩=false:=ak f;have r1:h.cell? ⟨w+1+1,1,none⟩=some (.int .i64 0):=am f;have J:h.frozen? ⟨w+1+1,1,none⟩=false:=ak f;have r2:h.cell? ⟨w+1+1,2,none⟩=some (.int .i64 0):=am f;have O:h.frozen? ⟨w+1+1,2,none⟩=false:=ak f;have E:w.heap.size+1+1<h.heap.size:=aj f;have F:w.heap.size+1<h.heap.size:=om;have H:=hide (show Below w w h by (repeat' exact bel));clear f;go_wp2;exact bodyPost_ret (v:=.tuple #[.agg #[.int .i64 0,.int .i64 0,.int .i64 0],aE c u]) (by simp (maxDischargeDepth:=9) [results,Tryz.results194,go_sem,U,r1,r2,I,J,O,E]) rfl ⟨rfl,by have S:=H.out;(repeat' exact bel)⟩
theorem AL (c:ar) (u:Un) (lv:Int) (w:World) (U:c.name.size≤1000) (F:aE c u=0) (o:lv<1∨(1≤lv∧u.lv<lv)) :
  Calls Tryz.prog 194 #[av c,aC u,lv] w fun e W=>e=.returned (.tuple #[.agg #[.int .i64 0,.int .i64 0,.int .i64 0],.int .i64 1])∧Below w w W:=by
 have H:=hide F;clear F;rcases o with o | ⟨T,o⟩
 all_goals
  simp only [av,aC];go_enter Tryz.func194,Tryz.ntmps194;go_wp2_with fail;refine (gS c u _ U H.out).mono ?_;rintro e h ⟨rfl,f⟩;have V:h.cell? ⟨w+1+1,0,none⟩=some (.int .i64 0):=am f;have J:h.frozen? ⟨w+1+1,0,none⟩=false:=ak f;have r1:h.cell? ⟨w+1+1,1,none⟩=some (.int .i64 0):=am f;have O:h.frozen? ⟨w+1+1,1,none⟩=false:=ak f;have r2:h.cell? ⟨w+1+1,2,none⟩=some (.int .i64 0):=am f;have R:h.frozen? ⟨w+1+1,2,none⟩=false:=ak f;have u0:h.cell? ⟨w+1,0,none⟩=some (.int .i64 u.lv):=am f;have E:w.heap.size+1+1<h.heap.size:=aj f;have G:w.heap.size+1<h.heap.size:=om;have I:=hide (show Below w w h by (repeat' exact bel));clear f;go_wp2
  all_goals first
   | (exfalso;omega)
   | exact bodyPost_ret (v:=.tuple #[.agg #[.int .i64 0,.int .i64 0,.int .i64 0],.int .i64 1]) (by simp (maxDischargeDepth:=9) [results,Tryz.results194,go_sem,V,r1,r2,J,O,R,E]) rfl ⟨rfl,by have S:=I.out;(repeat' exact bel)⟩
theorem AK (c:ar) (u:Un) (lv:Int) (w:World) (hn:c.name.size≤1000) (hE:aE c u=0) (h1:1≤lv) (h2:lv≤u.lv) :
  Calls Tryz.prog 194 #[av c,aC u,lv] w fun e w'=>e=.returned (.tuple #[.agg #[lv,u.yr,.int .i64 ((gJ c u.yr lv (aT c u):Int)+1)],.int .i64 0])∧Below w w w':=by
 obtain ⟨hf,ca,bl,hA,hx,hi⟩:=bN hE;have HF:=hide (pT hf lv h1 om);obtain ⟨hK,f,O,R⟩:=JX hE h1 h2;have a2:=dv c u.yr hA lv;obtain ⟨K,a0⟩:∃ K,gJ c u.yr lv (aT c u)=K:=⟨_,rfl⟩;obtain ⟨N,U⟩:∃ N,aR c u.yr lv=N:=⟨_,rfl⟩;rw [a0] at hK f O R ⊢;rw [U] at hK a2;have ay:=hide U;obtain ⟨S1,V⟩:∃ X,gT c u=X:=⟨_,rfl⟩;obtain ⟨S2,ab⟩:∃ X,gb c u=X:=⟨_,rfl⟩;rw [V] at f O;rw [ab] at f R;have a5:=hide f;have aF:=hide (And.intro O R);have HS:=hide (And.intro V ab);have HE:=hide hE;obtain ⟨b2,b3⟩:=a2;clear hE hf bl hA hx hi f O R V ab a0 U;simp only [av,aC];go_enter Tryz.func194,Tryz.ntmps194;go_wp2_with fail;refine (gS c u _ hn HE.out).mono ?_;rintro e S ⟨rfl,G⟩;rw [HS.out.1,HS.out.2];have cl:w.heap.size+1+1<S.heap.size:=aj G;have b4:w.heap.size+1<S.heap.size:=om;have bt:w.heap.size<S.heap.size:=om;have a3:=hide (show Below w w S by (repeat' exact bel));have a6:=hide (aa (B:=w.heap.size) (c:=c) G ae (az (az (au w c) ac _) ae _));have aB:=hide (aS (B:=w.heap.size+1) (u:=u) G ac (bU (cA w c u) ac _));have a7:=hide (show ap S (w+1+1) #[.int .i64 0,.int .i64 0,.int .i64 0] 26 from ap.below (by simpa using ap.new ((w.alloc (bG c)).alloc (fc u)) #[.int .i64 0,.int .i64 0,.int .i64 0] 26) G ac);obtain ⟨q0,q1,q2,q3,q4,q5,q6,q7,q8,q9,bx,bX,b0,b1⟩:=a6.out;obtain ⟨u0,u1,u2⟩:=aB.out;clear G;go_wp2_with fail
 all_goals first
  | (exfalso;omega)
  | skip
 refine (cF c lv u.yr _ hn HF.out).mono ?_;rintro e w2 ⟨g,cap,rfl,hg,a1,ad,o⟩;rw [ay.out] at a1 ⊢;clear q0 q1 q2 q3 q4 q5 q6 q7 q8 q9 bx bX b0 b1;clear u0 u1 u2;have bw:S.heap.size<w2.heap.size:=aj o;have a4:=hide (show Below w w w2 by have hp:=a3.out;refine Below.trans ?_ (o.mono ae);(repeat' exact bel));have bb:=hide (aS (B:=w.heap.size+1) (u:=u) o ae (bU aB.out om _));have a8:=hide ((a7.out.alloc (.cells #[S1,S2] 45)).call o);have ba:=hide (bu (B:=S.heap.size) (s:=⟨S1,S2⟩) o ac (fC S ⟨S1,S2⟩));have aA:=hide ad;have bh:=ad.1;clear o ad;go_wp2_with fail;go_loopw [12] (fun s wr=>∃ j:Nat,s=.int .i64 j∧j≤K∧Below w2 w2 wr) (fun s _=>(100-intOf s).toNat)
 case atStart=>exact ⟨0,rfl,Nat.zero_le _,Below.refl _ _⟩
 case round =>
  obtain ⟨j,rfl,hj,hB⟩:=hrel;have cb:=hB.size;have aq:=hide hB;obtain ⟨d1,d2⟩:=kv (aA.out.below hB bh) j (by rw [ay.out];omega);obtain ⟨e1,e2⟩:=bu hB bw ba.out;simp only at e1 e2;have F:=hide (a5.out j);have h:=aF.out;obtain ⟨X1,I⟩:∃ X,bD c u.yr (aW c u.yr lv j)=X:=⟨_,rfl⟩;obtain ⟨X2,J⟩:∃ X,bD c u.yr (aW c u.yr lv (j+1))-1=X:=⟨_,rfl⟩;rw [I] at d1 F;rw [J] at d2 F;have b7:g<wr.heap.size:=om;have cc:S.heap.size<wr.heap.size:=om;have k1:=cell_regrown d1;have k2:=cell_regrown d2;have k3:=cell_regrown e1;have k4:=cell_regrown e2;have b8:(0:Int)≤(j:Int):=om;have b9:(j:Int)<(N:Int):=om;clear hB d1 d2 e1 e2;by_cases bp:j<K
  ·have f:=F.out bp
   have cI:=fun dd os=>Calls.regrown_of (d:=dd) (os:=os) (w:=wr) (lH S1 S2 X1 X2 (grow (redrawn wr dd) os) false (.inr (.inr ⟨rfl,f.2,f.1⟩)))
   clear I J h f;go_wp2_with fail;refine wp_region_quiet_below (by kernel_rfl) (by kernel_rfl) ?_
   repeat (quiet_step (exact cI _ _))
   refine wpQuiet_nil ?_;intro _ ah;obtain ⟨⟨dq,osq⟩,al⟩:=ah;subst al;have E:=hide (aq.out.trans ((below_regrown wr dq osq).mono om));clear k1 k2 k3 k4 cI;go_wp2;go_roundw
   case rel=>exact ⟨j+1,by go_num,by omega,E.out⟩
   case measure=>simp [intOf];omega
  ·obtain rfl:j=K:=om
   rw [I,J] at h;have cI:=fun dd os=>Calls.regrown_of (d:=dd) (os:=os) (w:=wr) (lH S1 S2 X1 X2 (grow (redrawn wr dd) os) true (.inl ⟨rfl,h.1,h.2⟩))
   clear I J h;go_wp2_with fail;refine wp_region_quiet_below (by kernel_rfl) (by kernel_rfl) ?_
   repeat (quiet_step (exact cI _ _))
   refine wpQuiet_nil ?_;intro _ ah;obtain ⟨⟨dq,osq⟩,al⟩:=ah;subst al;have H:=aq.out.trans ((below_regrown wr dq osq).mono om);have E:=hide H;obtain ⟨u0,u1,u2⟩:=aS H om bb.out;have T:=a8.out.below H om;obtain ⟨W,hW⟩:∃ W,grow (redrawn wr dq) osq=W:=⟨_,rfl⟩;rw [hW] at T u0 u1 u2 E;rw [hW];have r0:W.cell? ⟨w+1+1,0,none⟩=some (.int .i64 0):=T.cell 0;have r1:W.cell? ⟨w+1+1,1,none⟩=some (.int .i64 0):=T.cell 1;have r2:W.cell? ⟨w+1+1,2,none⟩=some (.int .i64 0):=T.cell 2;have f0:=T.frozen 0;have f1:=T.frozen 1;have f2:=T.frozen 2;have b6:w2.heap.size≤W.heap.size:=E.out.size;have bd:w.heap.size+1+1<W.heap.size:=om;have bc:=hide (a4.out.trans (E.out.mono om));clear k1 k2 k3 k4 cI H T hW;go_wp2;exact bodyPost_ret (v:=.tuple #[.agg #[lv,u.yr,.int .i64 ((j:Int)+1)],.int .i64 0]) (by simp (maxDischargeDepth:=9) [results,Tryz.results194,go_sem,r0,r1,r2,f0,f1,f2,bd]) rfl ⟨rfl,by have b5:=bc.out;(repeat' exact bel)⟩
theorem AO (c:ar) (u:Un) (lv:Int) (w:World) (F:c.name.size≤1000) :
  Calls Tryz.prog 194 #[av c,aC u,lv] w fun e H=>e=.returned (.tuple #[aC (nK c u lv),tT c u lv])∧Below w w H:=by
 by_cases h:aE c u=0
 ·by_cases E:1≤lv∧lv≤u.lv
  ·have f:tT c u lv=0:=by unfold tT;rw [if_pos h,if_pos E]
   refine (AK c u lv w F h E.1 E.2).mono ?_;rintro e G ⟨rfl,o⟩;exact ⟨by rw [nK,if_pos f,f],o⟩
  ·have f:tT c u lv=1:=by unfold tT;rw [if_pos h,if_neg E]
   refine (AL c u lv w F h om).mono ?_;rintro e G ⟨rfl,o⟩;exact ⟨by rw [nK,if_neg om,f],o⟩
 ·have f:tT c u lv=aE c u:=by unfold tT;rw [if_neg h]
  refine (Bw c u lv w F h).mono ?_;rintro e G ⟨rfl,o⟩;exact ⟨by rw [nK,if_neg om,f],o⟩
theorem rp {f:Array Value} {W:World} {E F:Nat} {G H I J O R e:Int} (h6:f[6]?=some (.pointer (some ⟨E,0,none⟩))) (h7:f[7]?=some (.pointer (some ⟨F,0,none⟩))) (h8:f[8]?=some (.int .i64 e))
  (h:ap W E #[G,H,I] 26) (o:ap W F #[J,O,R] 26) :
  (results Tryz.f195 f).run Tryz.prog W=.ok (.tuple #[.agg #[G,H,I],.agg #[J,O,R],e]) W:=by
 have S:=h.cell 0;have T:=h.cell 1;have U:=h.cell 2;have V:=o.cell 0;have d1:=o.cell 1;have d2:=o.cell 2;simp at S T U V d1 d2;simp [results,Tryz.results195,go_sem,h6,h7,h8,S,T,U,V,d1,d2]
theorem wH (c:ar) (u:Un) (lv:Int) (w:World) (hn:c.name.size≤1000) (H:¬ aE c u=0) :
  Calls Tryz.prog 195 #[av c,aC u,lv] w fun e w'=>e=.returned (.tuple #[.agg #[.int .i64 0,.int .i64 0,.int .i64 0],.agg #[.int .i64 0,.int .i64 0,.int .i64 0],aE c u])∧Below w w w':=by
 have ab:(aE c u != 0)=true:=by simpa using H
 have HE:=hide H;clear H;simp only [av,aC];go_enter Tryz.func195,Tryz.ntmps195;go_wp2_with fail;refine (mc c u _ hn HE.out).mono ?_;rintro e h ⟨rfl,f⟩;have E:w.heap.size+1+1+1<h.heap.size:=aj f;have T:w.heap.size+1<h.heap.size:=om;have HW:=hide (show Below w w h by (repeat' exact bel));have W:cx h (w+1+1):=cx.below (cx.alloc (by simpa using cx.new ((w.alloc (bG c)).alloc (.cells #[u.lv,u.yr,u.ix] 26)) (.int .i64 0) (.int .i64 0) (.int .i64 0)) _) f ac;have G7:cx h (w+1+1+1):=cx.below (by simpa using cx.new (((w.alloc (bG c)).alloc (.cells #[u.lv,u.yr,u.ix] 26)).alloc (.cells #[.int .i64 0,.int .i64 0,.int .i64 0] 26)) (.int .i64 0) (.int .i64 0) (.int .i64 0)) f ac;have F:ap h (w+1+1) #[.int .i64 0,.int .i64 0,.int .i64 0] 26:=ap.below (ap.alloc (by simpa using ap.new ((w.alloc (bG c)).alloc (.cells #[u.lv,u.yr,u.ix] 26)) #[.int .i64 0,.int .i64 0,.int .i64 0] 26) _) f ac;have G:ap h (w+1+1+1) #[.int .i64 0,.int .i64 0,.int .i64 0] 26:=ap.below (by simpa using ap.new (((w.alloc (bG c)).alloc (.cells #[u.lv,u.yr,u.ix] 26)).alloc (.cells #[.int .i64 0,.int .i64 0,.int .i64 0] 26)) #[.int .i64 0,.int .i64 0,.int .i64 0] 26) f ac;have I:w.heap.size≤w.heap.size+1+1:=om;have J:w.heap.size≤w.heap.size+1+1+1:=om;have O:w.heap.size+1+1≠w.heap.size+1+1+1:=om;have o:w.heap.size+1+1+1≠w.heap.size+1+1:=om;have S:w.heap.size+1+1+1<h.heap.size:=om;have R:w.heap.size+1+1<h.heap.size:=om;clear E;clear f;generalize w.heap.size+1+1+1=V at *;generalize w.heap.size+1+1=U at *
 go_wp2_with (first
  | (refine wpList_store_row rfl _ _ _ rfl U #[.int .i64 0,.int .i64 0,.int .i64 0] rfl rfl _ _ (F.alloc _) (by kernel_rfl) rfl (by simp [Value.oneCell']) ?_)
  | (refine wpList_store_row rfl _ _ _ rfl V #[.int .i64 0,.int .i64 0,.int .i64 0] rfl rfl _ _ ((G.alloc _).rowOther o _) (by kernel_rfl) rfl (by simp [Value.oneCell']) ?_))
 all_goals first
  | (exfalso;omega)
  | exact bodyPost_ret (v:=.tuple #[.agg #[.int .i64 0,.int .i64 0,.int .i64 0],.agg #[.int .i64 0,.int .i64 0,.int .i64 0],aE c u]) (by exact rp rfl rfl rfl ((ap.row (W.alloc _) _).rowOther O _) (ap.row ((G7.alloc _).rowOther o _) _)) rfl ⟨rfl,below_setRow (below_setRow (HW.out.alloc om _) I _) J _⟩
theorem vG (c:ar) (u:Un) (lv:Int) (w:World) (hn:c.name.size≤1000) (R:aE c u=0) (J:lv<u.lv∨(u.lv≤lv∧5<lv)) :
  Calls Tryz.prog 195 #[av c,aC u,lv] w fun e w'=>e=.returned (.tuple #[.agg #[.int .i64 0,.int .i64 0,.int .i64 0],.agg #[.int .i64 0,.int .i64 0,.int .i64 0],.int .i64 1])∧Below w w w':=by
 have HE:=hide R;clear R;rcases J with J | ⟨ab,J⟩
 all_goals
  simp only [av,aC];go_enter Tryz.func195,Tryz.ntmps195;go_wp2_with fail;refine (gS c u _ hn HE.out).mono ?_;rintro e h ⟨rfl,f⟩;have u0:h.cell? ⟨w+1,0,none⟩=some (.int .i64 u.lv):=am f;have E:w.heap.size+1+1+1<h.heap.size:=aj f;have U:w.heap.size+1<h.heap.size:=om;have HW:=hide (show Below w w h by (repeat' exact bel));have G6:cx h (w+1+1):=cx.below (cx.alloc (by simpa using cx.new ((w.alloc (bG c)).alloc (.cells #[u.lv,u.yr,u.ix] 26)) (.int .i64 0) (.int .i64 0) (.int .i64 0)) _) f ac;have G7:cx h (w+1+1+1):=cx.below (by simpa using cx.new (((w.alloc (bG c)).alloc (.cells #[u.lv,u.yr,u.ix] 26)).alloc (.cells #[.int .i64 0,.int .i64 0,.int .i64 0] 26)) (.int .i64 0) (.int .i64 0) (.int .i64 0)) f ac;have F:ap h (w+1+1) #[.int .i64 0,.int .i64 0,.int .i64 0] 26:=ap.below (ap.alloc (by simpa using ap.new ((w.alloc (bG c)).alloc (.cells #[u.lv,u.yr,u.ix] 26)) #[.int .i64 0,.int .i64 0,.int .i64 0] 26) _) f ac;have G:ap h (w+1+1+1) #[.int .i64 0,.int .i64 0,.int .i64 0] 26:=ap.below (by simpa using ap.new (((w.alloc (bG c)).alloc (.cells #[u.lv,u.yr,u.ix] 26)).alloc (.cells #[.int .i64 0,.int .i64 0,.int .i64 0] 26)) #[.int .i64 0,.int .i64 0,.int .i64 0] 26) f ac;have H:w.heap.size≤w.heap.size+1+1:=om;have I:w.heap.size≤w.heap.size+1+1+1:=om;have O:w.heap.size+1+1≠w.heap.size+1+1+1:=om;have o:w.heap.size+1+1+1≠w.heap.size+1+1:=om;have T:w.heap.size+1+1+1<h.heap.size:=om;have S:w.heap.size+1+1<h.heap.size:=om;clear E;clear f;generalize w.heap.size+1+1+1=W at *;generalize w.heap.size+1+1=V at *
  go_wp2_with (first
   | (refine wpList_store_row rfl _ _ _ rfl V #[.int .i64 0,.int .i64 0,.int .i64 0] rfl rfl _ _ (F.alloc _) (by kernel_rfl) rfl (by simp [Value.oneCell']) ?_)
   | (refine wpList_store_row rfl _ _ _ rfl W #[.int .i64 0,.int .i64 0,.int .i64 0] rfl rfl _ _ ((G.alloc _).rowOther o _) (by kernel_rfl) rfl (by simp [Value.oneCell']) ?_))
  all_goals first
   | (exfalso;omega)
   | exact bodyPost_ret (v:=.tuple #[.agg #[.int .i64 0,.int .i64 0,.int .i64 0],.agg #[.int .i64 0,.int .i64 0,.int .i64 0],.int .i64 1]) (by exact rp rfl rfl rfl ((ap.row (G6.alloc _) _).rowOther O _) (ap.row ((G7.alloc _).rowOther o _) _)) rfl ⟨rfl,below_setRow (below_setRow (HW.out.alloc om _) H _) I _⟩
theorem ve (c:ar) (u:Un) (lv:Int) (w:World) (hn:c.name.size≤1000) (hE:aE c u=0) (f:u.lv≤lv) (h5:lv≤5) :
    Calls Tryz.prog 195 #[av c,aC u,lv] w fun e w'=>e=.returned (.tuple #[.agg #[lv,u.yr,.int .i64 ((gJ c u.yr lv (aT c u):Int)+1)],.agg #[lv,u.yr,.int .i64 ((gJ c u.yr lv (bF c u-1):Int)+1)],.int .i64 0])∧Below w w w':=by
  obtain ⟨hf,c2,b8,hA,hx,hi⟩:=bN hE;have HF:=hide (pT hf lv om h5);obtain ⟨a4,hM,S,R,d3,d4⟩:=Gn hE f h5;have bb:=dv c u.yr hA lv;obtain ⟨K,a3⟩:∃ K,gJ c u.yr lv (aT c u)=K:=⟨_,rfl⟩;obtain ⟨M,a5⟩:∃ K,gJ c u.yr lv (bF c u-1)=K:=⟨_,rfl⟩;obtain ⟨N,ab⟩:∃ N,aR c u.yr lv=N:=⟨_,rfl⟩;rw [a3] at a4 S R ⊢;rw [a5] at a4 hM d3 d4 ⊢;rw [ab] at hM R d4 bb;have a0:=hide ab;obtain ⟨S1,ad⟩:∃ X,gT c u=X:=⟨_,rfl⟩;obtain ⟨S2,ah⟩:∃ X,gb c u=X:=⟨_,rfl⟩;rw [ad] at S R;rw [ah] at d3 d4;have HD:=hide (And.intro (And.intro S R) (And.intro d3 d4));have HS:=hide (And.intro ad ah);have HE:=hide hE;obtain ⟨cs,cy⟩:=bb;clear hE hf b8 hA hx hi S R d3 d4 ad ah a3 ab a5;simp only [av,aC];go_enter Tryz.func195,Tryz.ntmps195;go_wp2_with fail;refine (gS c u _ hn HE.out).mono ?_;rintro e U ⟨rfl,J⟩;rw [HS.out.1,HS.out.2];have c5:w.heap.size+1+1+1<U.heap.size:=aj J;have cE:w.heap.size+1<U.heap.size:=om;have b9:w.heap.size<U.heap.size:=om;have bh:=hide (show Below w w U by (repeat' exact bel));have bp:=hide (aa (B:=w.heap.size) (c:=c) J (by first | omega | (simp;done) | (simp;omega)) (az (az (az (au w c) (by first | omega | (simp;done) | (simp;omega)) _) (by first | omega | (simp;done) | (simp;omega)) _) (by first | omega | (simp;done) | (simp;omega)) _));have a2:=hide (aS (B:=w.heap.size+1) (u:=u) J (by first | omega | (simp;done) | (simp;omega)) (bU (bU (cA w c u) (by first | omega | (simp;done) | (simp;omega)) _) (by first | omega | (simp;done) | (simp;omega)) _));have bt:=hide (show ap U (w+1+1) #[.int .i64 0,.int .i64 0,.int .i64 0] 26 from ap.below (ap.alloc (by simpa using ap.new ((w.alloc (bG c)).alloc (fc u)) #[.int .i64 0,.int .i64 0,.int .i64 0] 26) _) J ac);have bX:=hide (show ap U (w+1+1+1) #[.int .i64 0,.int .i64 0,.int .i64 0] 26 from ap.below (by simpa using ap.new (((w.alloc (bG c)).alloc (fc u)).alloc (.cells #[.int .i64 0,.int .i64 0,.int .i64 0] 26)) #[.int .i64 0,.int .i64 0,.int .i64 0] 26) J ac);obtain ⟨q0,q1,q2,q3,q4,q5,q6,q7,q8,q9,cb,cc,cl,cp⟩:=bp.out;obtain ⟨u0,u1,u2⟩:=a2.out;clear J;go_wp2_with fail
  all_goals first
    | (exfalso;omega)
    | skip
  refine (cF c lv u.yr _ hn HF.out).mono ?_;rintro e O ⟨g,cap,rfl,hg,ba,aA,H⟩;rw [a0.out] at ba ⊢;clear q0 q1 q2 q3 q4 q5 q6 q7 q8 q9 cb cc cl cp;clear u0 u1 u2;have ca:U.heap.size<O.heap.size:=aj H;have bl:=hide (show Below w w O by have hp:=bh.out;refine Below.trans ?_ (H.mono ae);(repeat' exact bel));have b1:=hide (aS (B:=w.heap.size+1) (u:=u) H ae (bU a2.out om _));have bw:=hide ((bt.out.alloc (.cells #[S1,S2] 45)).call H);have b0:=hide ((bX.out.alloc (.cells #[S1,S2] 45)).call H);have bx:=hide (bu (B:=U.heap.size) (s:=⟨S1,S2⟩) H ac (fC U ⟨S1,S2⟩));have a1:=hide aA;have b4:=aA.1;clear H aA;go_wp2_with fail;go_loopw [13,14,48] (fun aB aF cr wr=>∃ j:Nat,cr=.int .i64 j∧j≤N∧((j≤K∧aB=.int .i64 0∧aF=.int .i64 0)∨(K<j∧j≤M+1∧aB=.int .i64 ((K:Int)+1)∧aF=.int .i64 j)∨(M+1<j∧aB=.int .i64 ((K:Int)+1)∧aF=.int .i64 ((M:Int)+1)))∧Below O O wr) (fun _ _ s _=>(100-intOf s).toNat)
  case atStart=>exact ⟨0,rfl,Nat.zero_le _,.inl ⟨Nat.zero_le _,rfl,rfl⟩,Below.refl _ _⟩
  case round =>
    obtain ⟨j,rfl,hj,E,T⟩:=hrel;have c3:=T.size;have V:=hide T;by_cases bc:j<N
    · obtain ⟨S,R⟩:=kv (a1.out.below T b4) j (by rw [a0.out];omega)
      obtain ⟨e1,e2⟩:=bu T ca bx.out;simp only at e1 e2;obtain ⟨⟨x1,x2⟩,⟨x3,x4⟩⟩:=HD.out;have y1:=x1 j;have y2:=fun h=>x2 j h bc
      have y3:=x3 j;have y4:=fun h=>x4 j h bc
      clear x1 x2 x3 x4;obtain ⟨X1,a7⟩:∃ X,bD c u.yr (aW c u.yr lv j)=X:=⟨_,rfl⟩;obtain ⟨X2,a8⟩:∃ X,bD c u.yr (aW c u.yr lv (j+1))-1=X:=⟨_,rfl⟩;rw [a7] at S y1 y2;rw [a8] at R y3 y4;have cS:g<wr.heap.size:=om;have c4:U.heap.size<wr.heap.size:=om;have c0:(0:Int)≤(j:Int):=om;have c1:(j:Int)<(N:Int):=om;have F:=hide E;clear T a7 a8 E;by_cases b6:j<K
      · have ay:=y1 b6
        obtain ⟨rfl,rfl⟩:_∧_:=by
          rcases F.out with ⟨_,f,I⟩ | ⟨f,_⟩ | ⟨f,_⟩
          · exact ⟨f,I⟩
          · exact absurd f om
          · exact absurd f om
        clear F y1 y2 y3 y4;go_wp2_with fail;refine (lH X1 X2 S1 S2 _ false (.inr (.inl ⟨rfl,ay⟩))).mono ?_;rintro e w3 ⟨rfl,o⟩;have G:=hide (show Below O O w3 by have hp:=V.out;refine Below.trans ?_ (o.mono ae);(repeat' exact bel));clear o S R e1 e2;go_wp2;go_roundw
        case rel=>exact ⟨j+1,by go_num,by omega,.inl ⟨by omega,rfl,rfl⟩,G.out⟩
        case measure=>simp [intOf];omega
      · by_cases b7:j≤M
        · have W:=y2 om
          have bd:=y3 b7;by_cases b5:j=K
          · subst b5
            obtain ⟨rfl,rfl⟩:_∧_:=by
              rcases F.out with ⟨_,f,I⟩ | ⟨f,_⟩ | ⟨f,_⟩
              · exact ⟨f,I⟩
              · exact absurd f om
              · exact absurd f om
            clear F y1 y2 y3 y4;go_wp2_with fail;refine (lH X1 X2 S1 S2 _ true (.inl ⟨rfl,W,bd⟩)).mono ?_;rintro e w3 ⟨rfl,o⟩;have G:=hide (show Below O O w3 by have hp:=V.out;refine Below.trans ?_ (o.mono ae);(repeat' exact bel));clear o S R e1 e2;go_wp2;go_roundw
            case rel=>exact ⟨j+1,by go_num,by omega,.inr (.inl ⟨by omega,by omega,rfl,by go_num⟩),G.out⟩
            case measure=>simp [intOf];omega
          · obtain ⟨rfl, rfl⟩ : _ ∧ _ := by
              rcases F.out with ⟨h0,_⟩ | ⟨_,_,f,I⟩ | ⟨f,_⟩
              · exact absurd h0 om
              · exact ⟨f,I⟩
              · exact absurd f om
            have cI:((K:Int)+1==0)=false:=ae;clear F y1 y2 y3 y4;go_wp2_with fail;refine (lH X1 X2 S1 S2 _ true (.inl ⟨rfl,W,bd⟩)).mono ?_;rintro e w3 ⟨rfl,o⟩;have G:=hide (show Below O O w3 by have hp:=V.out;refine Below.trans ?_ (o.mono ae);(repeat' exact bel));clear o S R e1 e2;go_wp2
            all_goals first
              | (exfalso;omega)
              | skip
            go_roundw
            case rel=>exact ⟨j+1,by go_num,by omega,.inr (.inl ⟨by omega,by omega,rfl,by go_num⟩),G.out⟩
            case measure=>simp [intOf];omega
        · have W:=y2 om
          have ay:=y4 om;obtain ⟨al,aq⟩:u13=.int .i64 ((K:Int)+1)∧u14=.int .i64 ((M:Int)+1):=by
            rcases F.out with ⟨h0,_⟩ | ⟨_,h0,f,I⟩ | ⟨_,f,I⟩
            · exact absurd h0 om
            · have:j=M+1:=om
              exact ⟨f,by rw [I,this];go_num⟩
            · exact ⟨f,I⟩
          subst al aq;clear F y1 y2 y3 y4;go_wp2_with fail;refine (lH X1 X2 S1 S2 _ false (.inr (.inr ⟨rfl,W,ay⟩))).mono ?_;rintro e w3 ⟨rfl,o⟩;have G:=hide (show Below O O w3 by have hp:=V.out;refine Below.trans ?_ (o.mono ae);(repeat' exact bel));clear o S R e1 e2;go_wp2;go_roundw
          case rel=>exact ⟨j+1,by go_num,by omega,.inr (.inr ⟨by omega,rfl,rfl⟩),G.out⟩
          case measure=>simp [intOf];omega
    · obtain rfl:j=N:=om
      obtain ⟨al,aq⟩:u13=.int .i64 ((K:Int)+1)∧u14=.int .i64 ((M:Int)+1):=by
        rcases E with ⟨h0,_⟩ | ⟨_,h0,f,I⟩ | ⟨_,f,I⟩
        · exact absurd h0 om
        · have:j=M+1:=om
          exact ⟨f,by rw [I,this];go_num⟩
        · exact ⟨f,I⟩
      subst al aq;obtain ⟨u0,u1,u2⟩:=aS T om b1.out;have hR:=bw.out.below T om;have hT:=b0.out.below T om;have r0:wr.cell? ⟨w+1+1,0,none⟩=some (.int .i64 0):=hR.cell 0;have r1:wr.cell? ⟨w+1+1,1,none⟩=some (.int .i64 0):=hR.cell 1;have r2:wr.cell? ⟨w+1+1,2,none⟩=some (.int .i64 0):=hR.cell 2;have f0:=hR.frozen 0;have f1:=hR.frozen 1;have f2:=hR.frozen 2;have t0:wr.cell? ⟨w+1+1+1,0,none⟩=some (.int .i64 0):=hT.cell 0;have t1:wr.cell? ⟨w+1+1+1,1,none⟩=some (.int .i64 0):=hT.cell 1;have t2:wr.cell? ⟨w+1+1+1,2,none⟩=some (.int .i64 0):=hT.cell 2;have v0:=hT.frozen 0;have v1:=hT.frozen 1;have v2:=hT.frozen 2;have b3:w.heap.size+1+1+1<wr.heap.size:=om;have a6:w.heap.size+1+1<wr.heap.size:=om;have b2:=hide (bl.out.trans (T.mono om));clear T hR hT E;go_wp2_with fail;go_region
      all_goals
        go_wp2;exact bodyPost_ret (v:=.tuple #[.agg #[lv,u.yr,.int .i64 ((K:Int)+1)],.agg #[lv,u.yr,.int .i64 ((M:Int)+1)],.int .i64 0]) (by simp (maxDischargeDepth:=9) [results,Tryz.results195,go_sem,r0,r1,r2,f0,f1,f2,t0,t1,t2,v0,v1,v2,b3,a6]) rfl ⟨rfl,by have cM:=b2.out;(repeat' exact bel)⟩
theorem oq (c:ar) (u:Un) (lv:Int) (w:World) (F:c.name.size≤1000) :
  Calls Tryz.prog 195 #[av c,aC u,lv] w fun e H=>e=.returned (.tuple #[aC (CW c u lv),aC (CQ c u lv),qP c u lv])∧Below w w H:=by
 by_cases h:aE c u=0
 ·by_cases E:u.lv≤lv∧lv≤5
  ·have f:qP c u lv=0:=by unfold qP;rw [if_pos h,if_pos E]
   refine (ve c u lv w F h E.1 E.2).mono ?_;rintro e G ⟨rfl,o⟩;exact ⟨by rw [CW,CQ,if_pos f,if_pos f,f],o⟩
  ·have f:qP c u lv=1:=by unfold qP;rw [if_pos h,if_neg E]
   refine (vG c u lv w F h om).mono ?_;rintro e G ⟨rfl,o⟩;exact ⟨by rw [CW,CQ,if_neg om,if_neg om,f],o⟩
 ·have f:qP c u lv=aE c u:=by unfold qP;rw [if_neg h]
  refine (wH c u lv w F h).mono ?_;rintro e G ⟨rfl,o⟩;exact ⟨by rw [CW,CQ,if_neg om,if_neg om,f],o⟩
end
end Go.Proofs.YtjhhmeoibfdcmaaGreat
