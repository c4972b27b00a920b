/- Lemmas. -/
import Derived.Test.YtjhhmeoibfdcmaaGreatWr07
import Derived.Test.YtjhhmeoibfdcmaaGreatWr09
import Derived.Test.YtjhhmeoibfdcmaaGreatWr11
import Derived.Test.YtjhhmeoibfdcmaaGreatWr12
import Derived.Test.YtjhhmeoibfdcmaaGreatWr16
import Derived.Test.YtjhhmeoibfdcmaaGreatWr21
import Derived.Test.YtjhhmeoibfdcmaaGreatWr22
import Derived.Test.YtjhhmeoibfdcmaaGreatWr55
import Derived.Test.YtjhhmeoibfdcmaaGreatWr56
set_option linter.unusedSimpArgs false
set_option linter.unusedVariables false
set_option maxRecDepth 100000
set_option maxHeartbeats 12800000
namespace Go.Proofs.YtjhhmeoibfdcmaaGreat
section
open Go.RowKit Qd
theorem aH (c:ar) (w:World) (o:c.name.size≤1000) :
  Calls Tryz.prog 100 #[av c] w fun e w'=>e=.returned (.int .i64 (co c))∧Below w w w':=by
 by_cases h:c.served∧c.polic∧bH c.name=true
 ·by_cases h3:c.kind=3
  ·exact Ff c w o h h3
  by_cases h4:c.kind=4
  ·exact Dz c w o h h4
  by_cases h6:c.kind=6
  ·exact FI c w o h h6
  by_cases hk:1≤c.kind∧c.kind≤6
  ·have hE:=kT h
   have T:=fun hk=>D4 (c:=c) hk
   have r5:=fun hk=>H6 (c:=c) hk
   obtain ⟨I,k,d,m,W,F,a,b,p,E,f,G,H,J⟩:=c;simp only at o h3 h4 h6 hk T r5;by_cases ad:k=5
   ·subst ad
    by_cases g1:d=7
    ·by_cases g2:m=12
     ·by_cases g3:W=0
      ·subst g1 g2 g3
       by_cases S:aQ (ar.mk I 5 7 12 0 F a b p E f G H J)
       ·by_cases hx:f<1
        ·rw [hE,if_neg (fun R=>by have:=((r5 rfl).1 R).2.2.2.2.1;omega)]
         exact Ke I F a b p E f G H J w o h S hx
        ·by_cases ab:bC F E<f
         ·rw [hE,if_neg (fun R=>by have:=((r5 rfl).1 R).2.2.2.2.2;omega)]
          exact JY I F a b p E f G H J w o h S om ab
         ·rw [hE,if_pos ((r5 rfl).2 ⟨rfl,rfl,rfl,S,by omega,by omega⟩)]
          exact Kr I F a b p E f G H J w o h S om om
       ·rw [hE,if_neg (fun R=>S ((r5 rfl).1 R).2.2.2.1)]
        exact Ky I F a b p E f G H J w o h S
      ·rw [hE,if_neg (fun R=>g3 ((r5 rfl).1 R).2.2.1)]
       exact K6 I d m W F a b p E f G H J w o h g1 g2 g3
     ·rw [hE,if_neg (fun R=>g2 ((r5 rfl).1 R).2.1)]
      exact Lq I d m W F a b p E f G H J w o h g1 g2
    ·rw [hE,if_neg (fun R=>g1 ((r5 rfl).1 R).1)]
     exact Lm I d m W F a b p E f G H J w o h g1
   ·have O:k=1∨k=2:=om
    have T:=T O;by_cases g1:d<1
    ·rw [hE,if_neg (fun R=>by have:=(T.1 R).1;omega)]
     rcases O with rfl | rfl
     ·exact Ld I d m W F a b p E f G H J w o h g1
     ·exact LA I d m W F a b p E f G H J w o h g1
    by_cases g2:7<d
    ·rw [hE,if_neg (fun R=>by have:=(T.1 R).1;omega)]
     rcases O with rfl | rfl
     ·exact Lw I d m W F a b p E f G H J w o h om g2
     ·exact LX I d m W F a b p E f G H J w o h om g2
    by_cases g3:m<1
    ·rw [hE,if_neg (fun R=>by have:=(T.1 R).2.1;omega)]
     rcases O with rfl | rfl
     ·exact Lz I d m W F a b p E f G H J w o h om om g3
     ·exact LW I d m W F a b p E f G H J w o h om om g3
    by_cases g4:12<m
    ·rw [hE,if_neg (fun R=>by have:=(T.1 R).2.1;omega)]
     rcases O with rfl | rfl
     ·exact KY I d m W F a b p E f G H J w o h om om om g4
     ·exact Ls I d m W F a b p E f G H J w o h om om om g4
    by_cases g5:W=0∨W=1
    ·have U:1≤d∧d≤7:=om
     have V:1≤m∧m≤12:=om;by_cases S:aQ (ar.mk I k d m W F a b p E f G H J)
     ·by_cases hx:f<1
      ·rw [hE,if_neg (fun R=>by have:=(T.1 R).2.2.2.2.1;omega)]
       rcases O with rfl | rfl <;> rcases g5 with rfl | rfl
       ·exact J3 I d m F a b p E f G H J w o h U V S hx
       ·exact J2 I d m F a b p E f G H J w o h U V S hx
       ·exact J6 I d m F a b p E f G H J w o h U V S hx
       ·exact J5 I d m F a b p E f G H J w o h U V S hx
      ·by_cases ab:bC F E<f
       ·rw [hE,if_neg (fun R=>by have:=(T.1 R).2.2.2.2.2;omega)]
        rcases O with rfl | rfl <;> rcases g5 with rfl | rfl
        ·exact Kj I d m F a b p E f G H J w o h U V S om ab
        ·exact KF I d m F a b p E f G H J w o h U V S om ab
        ·exact Kw I d m F a b p E f G H J w o h U V S om ab
        ·exact Kv I d m F a b p E f G H J w o h U V S om ab
       ·rw [hE,if_pos (T.2 ⟨U,V,g5,S,by omega,by omega⟩)]
        rcases O with rfl | rfl <;> rcases g5 with rfl | rfl
        ·exact J7 I d m F a b p E f G H J w o h U V S om om
        ·exact Kf I d m F a b p E f G H J w o h U V S om om
        ·exact JS I d m F a b p E f G H J w o h U V S om om
        ·exact Kl I d m F a b p E f G H J w o h U V S om om
     ·rw [hE,if_neg (fun R=>S (T.1 R).2.2.2.1)]
      rcases O with rfl | rfl <;> rcases g5 with rfl | rfl
      ·exact Km I d m F a b p E f G H J w o h U V S
      ·exact J0 I d m F a b p E f G H J w o h U V S
      ·exact Kx I d m F a b p E f G H J w o h U V S
      ·exact KL I d m F a b p E f G H J w o h U V S
    ·rw [hE,if_neg (fun R=>g5 (T.1 R).2.2.1)]
     rcases O with rfl | rfl
     ·exact LR I d m W F a b p E f G H J w o h om om om om g5
     ·exact LG I d m W F a b p E f G H J w o h om om om om g5
  ·exact E7 c w o h hk
 ·exact xR c w o h
theorem EV {c:ar} (h:c.okB=true):eR c=cj c:=by
 have f:c.Ok:=by simpa [ar.okB] using h
 have o:cj c=bC c.shape c.cycle:=by simp [cj,h]
 rw [o,eR,if_neg];obtain ⟨_,_,_,E⟩:=f;intro F;simp only [ar.ruled,ar.weeks,dB,ar.pat0] at E;omega
theorem gi (c:ar) (w:World) (hn:c.name.size≤1000) :
  Calls Tryz.prog 165 #[av c] w fun e w'=>e=.returned (.tuple #[cj c,co c])∧Below w w w':=by
 rcases eY c with ⟨_,O,R⟩ | ⟨_,O,R⟩
 ·have HM:=hide (EV R)
  have J:=hide O;clear O R;simp only [av];go_enter Tryz.func165,Tryz.ntmps165;go_wp2_with fail;refine (aH c _ hn).mono ?_;rintro e T ⟨rfl,f⟩;rw [J.out];have W:w.heap.size<T.heap.size:=aj f;have E:Hid (Below w w T):=ww f;have h:=hide (aa f ac (au w c));obtain ⟨q0,q1,q2,q3,q4,q5,q6,q7,q8,q9,F,G,H,I⟩:=h.out;clear f;go_wp2_with fail;refine (sw c _).mono ?_;rintro e w2 ⟨rfl,o⟩;rw [HM.out];have ab:w.heap.size<w2.heap.size:=aj o;have U:Hid (Below w w w2):=ao E.out o;have V:Hid (aG w2 w c):=by have hp:=h.out;exact qq o
  clear q0 q1 q2 q3 q4 q5 q6 q7 q8 q9 F G H I;obtain ⟨q0,q1,q2,q3,q4,q5,q6,q7,q8,q9,F,G,H,I⟩:=V.out;clear o;have S:=U.out;go_wp2;go_ret2;exact ⟨aw rfl J.out.symm,by (repeat' exact bel)⟩
 ·have J:=hide O
  have HP:=hide (show cj c=0 by simp [cj,R]);clear O R;simp only [av];go_enter Tryz.func165,Tryz.ntmps165;go_wp2_with fail;refine (aH c _ hn).mono ?_;rintro e T ⟨rfl,f⟩;rw [J.out];have W:w.heap.size<T.heap.size:=aj f;have E:Hid (Below w w T):=ww f;have h:=hide (aa f ac (au w c));obtain ⟨q0,q1,q2,q3,q4,q5,q6,q7,q8,q9,F,G,H,I⟩:=h.out;clear f;have S:=E.out;go_wp2;go_ret2;exact ⟨aw HP.out.symm J.out.symm,by (repeat' exact bel)⟩
theorem cf (c:ar) (p:Int) (w:World) (hn:c.name.size≤1000) :
  Calls Tryz.prog 102 #[av c,p] w fun e w'=>e=.returned (.tuple #[qV c p,qE c p])∧Below w w w':=by
 rcases eY c with ⟨_,W,G⟩ | ⟨_,W,G⟩
 ·have HE:=hide W
  have I:=uQ c G;have ab:=eM c G;by_cases H:1≤p∧p≤cj c
  ·have T:=hide (show qV c p=(4*p+cj c-1) / cj c by simp [qV,ri,G,H.1,H.2])
   have H2:=hide (show qE c p=0 by simp [qE,ri,G,H.1,H.2]);have ad:=LQ I H;have U:=hide (fun q J=>IL (q:=q) I H J);obtain ⟨n,o⟩:∃ n,cj c=n:=⟨_,rfl⟩;have HN:=hide o;rw [o] at H T ad U ab;obtain ⟨Q,hQ⟩:∃ Q,(4*p+n-1) / n=Q:=⟨_,rfl⟩;rw [hQ] at T ad U;obtain ⟨a2,a3⟩:=H;clear W G o hQ I;simp only [av];go_enter Tryz.func102,Tryz.ntmps102;go_wp2_with fail;refine (gi c _ hn).mono ?_;rintro e S ⟨rfl,f⟩;rw [HE.out,HN.out];have al:w.heap.size<S.heap.size:=aj f;have E:Hid (Below w w S):=ww f;have F:=hide (aa f ac (au w c));obtain ⟨q0,q1,q2,q3,q4,q5,q6,q7,q8,q9,aq,ay,aA,aB⟩:=F.out;clear f;have O:=E.out;go_wp2_with fail
   all_goals first
    | (exfalso;omega)
    | skip
   go_loop [8] (fun s=>∃ q:Int,s=.int .i64 q∧1≤q∧q≤Q) (fun s=>(10-intOf s).toNat)
   case atStart=>exact ⟨1,rfl,by omega,by omega⟩
   case round =>
    obtain ⟨q,rfl,a1,a4⟩:=hrel;have hs:=U.out q ⟨a1,by omega⟩;have V:0≤n*q:=Int.mul_nonneg om om;have R:n*q≤52*4:=Int.mul_le_mul om om om om;have ah:(n*q).tdiv 4=n*q / 4:=Int.tdiv_eq_ediv_of_nonneg V;obtain ⟨X,hX⟩:∃ X,n*q=X:=⟨_,rfl⟩;by_cases a0:q<Q
    ·have h3:=hs.2 a0
     rw [hX] at h3 V R ah;have aF:IntKind.i64.wrap (n*q)=X:=by rw [hX];simp [IntKind.wrap,IntKind.bits,IntKind.signed];omega
     clear hs;go_wp2
     all_goals first
      | (exfalso;omega)
      | skip
     go_round
     case rel=>exact ⟨q+1,rfl,by omega,by omega⟩
     case measure=>simp [intOf];omega
    ·obtain rfl:q=Q:=om
     have h3:¬ n*q / 4<p:=fun h=>absurd (hs.1 h) om
     rw [hX] at h3 V R ah;have aF:IntKind.i64.wrap (n*q)=X:=by rw [hX];simp [IntKind.wrap,IntKind.bits,IntKind.signed];omega
     clear hs;go_wp2
     all_goals first
      | (exfalso;omega)
      | (go_ret2;exact ⟨aw T.out.symm H2.out.symm,by (repeat' exact bel)⟩)
  ·have J:ri c p=false:=by simp [ri,G];omega
   have T:=hide (show qV c p=0 by simp [qV,J]);have H2:=hide (show qE c p=1 by simp [qE,J]);obtain ⟨n,o⟩:∃ n,cj c=n:=⟨_,rfl⟩;have HN:=hide o;rw [o] at H;clear W G o I ab J;simp only [av];rcases (show p<1∨(1≤p∧n<p) by omega) with g | ⟨g,g2⟩
   all_goals
    go_enter Tryz.func102,Tryz.ntmps102;go_wp2_with fail;refine (gi c _ hn).mono ?_;rintro e S ⟨rfl,f⟩;rw [HE.out,HN.out];have al:w.heap.size<S.heap.size:=aj f;have E:Hid (Below w w S):=ww f;have F:=hide (aa f ac (au w c));obtain ⟨q0,q1,q2,q3,q4,q5,q6,q7,q8,q9,aq,ay,aA,aB⟩:=F.out;clear f;have O:=E.out;go_wp2
    all_goals first
     | (exfalso;omega)
     | (go_ret2;exact ⟨aw T.out.symm H2.out.symm,by (repeat' exact bel)⟩)
 ·have HE:=hide W
  have J:ri c p=false:=by simp [ri,G]
  have T:=hide (show qV c p=0 by simp [qV,J]);have H2:=hide (show qE c p=1 by simp [qE,J]);have HP:=hide (show cj c=0 by simp [cj,G]);clear W G J;simp only [av];go_enter Tryz.func102,Tryz.ntmps102;go_wp2_with fail;refine (gi c _ hn).mono ?_;rintro e S ⟨rfl,f⟩;rw [HE.out,HP.out];have al:w.heap.size<S.heap.size:=aj f;have E:Hid (Below w w S):=ww f;have F:=hide (aa f ac (au w c));obtain ⟨q0,q1,q2,q3,q4,q5,q6,q7,q8,q9,aq,ay,aA,aB⟩:=F.out;clear f;have O:=E.out;go_wp2;go_ret2;exact ⟨aw T.out.symm H2.out.symm,by (repeat' exact bel)⟩
theorem z9 (c:ar) (y a:Int):(co c=1∧aO c y a=1)∨(co c=0∧(y<a∨(a≤y∧9997<y))∧aO c y a=11)∨(co c=0∧a≤y∧y≤9997∧aO c y a=0):=by
 rcases eY c with ⟨_,f,h⟩ | ⟨_,f,h⟩
 ·by_cases o:a≤y∧y≤9997
  ·exact .inr (.inr ⟨f,o.1,o.2,by rw [aO,if_pos h,if_pos o]⟩)
  ·exact .inr (.inl ⟨f,by omega,by rw [aO,if_pos h,if_neg o]⟩)
 ·exact .inl ⟨f,by simp [aO,h]⟩
theorem jd (c:ar) (y:Int) (w:World) (W:c.name.size≤1000) :
  Calls Tryz.prog 118 #[av c,y] w fun e w'=>e=.returned (.int .i64 (aO c y 1601))∧Below w w w':=by
 rcases z9 c y 1601 with ⟨E,F⟩ | ⟨E,V,F⟩ | ⟨E,V,h4,F⟩
 ·have J:=hide E
  have I:=hide F;clear E F;simp only [av];go_enter Tryz.func118,Tryz.ntmps118;go_wp2_with fail;refine (aH c _ W).mono ?_;rintro e H ⟨rfl,f⟩;rw [J.out];have O:w.heap.size<H.heap.size:=aj f;have h:Hid (Below w w H):=ww f;have o:=hide (aa f ac (au w c));obtain ⟨q0,q1,q2,q3,q4,q5,q6,q7,q8,q9,R,S,T,U⟩:=o.out;clear f;have G:=h.out;go_wp2;go_ret;exact ⟨aZ I.out.symm,by (repeat' exact bel)⟩
 ·have J:=hide E
  have I:=hide F;clear E F;simp only [av];rcases V with V | ⟨V,h4⟩
  all_goals
   go_enter Tryz.func118,Tryz.ntmps118;go_wp2_with fail;refine (aH c _ W).mono ?_;rintro e H ⟨rfl,f⟩;rw [J.out];have O:w.heap.size<H.heap.size:=aj f;have h:Hid (Below w w H):=ww f;have o:=hide (aa f ac (au w c));obtain ⟨q0,q1,q2,q3,q4,q5,q6,q7,q8,q9,R,S,T,U⟩:=o.out;clear f;have G:=h.out;go_wp2
   all_goals first
    | (exfalso;omega)
    | (go_ret;exact ⟨aZ I.out.symm,by (repeat' exact bel)⟩)
 ·have J:=hide E
  have I:=hide F;clear E F;simp only [av];go_enter Tryz.func118,Tryz.ntmps118;go_wp2_with fail;refine (aH c _ W).mono ?_;rintro e H ⟨rfl,f⟩;rw [J.out];have O:w.heap.size<H.heap.size:=aj f;have h:Hid (Below w w H):=ww f;have o:=hide (aa f ac (au w c));obtain ⟨q0,q1,q2,q3,q4,q5,q6,q7,q8,q9,R,S,T,U⟩:=o.out;clear f;have G:=h.out;go_wp2
  all_goals first
   | (exfalso;omega)
   | (go_ret;exact ⟨aZ I.out.symm,by (repeat' exact bel)⟩)
theorem BH (c:ar) (y:Int) (w:World) (hn:c.name.size≤1000) (J:¬ aO c y 1600=0) :
  Calls Tryz.prog 71 #[av c,y] w fun e w'=>e=.returned (.tuple #[bv c y,aO c y 1600])∧Below w w w':=by
 have HV:=hide (show bv c y=0 by rw [bv,if_neg J]);rcases z9 c y 1600 with ⟨F,E⟩ | ⟨F,I,E⟩ | ⟨F,I,h4,E⟩
 ·have R:=hide F
  have O:=hide E;clear F E J;simp only [av];go_enter Tryz.func71,Tryz.ntmps71;go_wp2_with fail;refine (aH c _ hn).mono ?_;rintro e H ⟨rfl,f⟩;rw [R.out];have S:w.heap.size<H.heap.size:=aj f;have h:Hid (Below w w H):=ww f;have o:=hide (aa f ac (au w c));obtain ⟨q0,q1,q2,q3,q4,q5,q6,q7,q8,q9,T,U,V,W⟩:=o.out;clear f;have G:=h.out;go_wp2;go_ret2;exact ⟨aw HV.out.symm O.out.symm,by (repeat' exact bel)⟩
 ·have R:=hide F
  have O:=hide E;clear F E J;simp only [av];rcases I with I | ⟨I,h4⟩
  all_goals
   go_enter Tryz.func71,Tryz.ntmps71;go_wp2_with fail;refine (aH c _ hn).mono ?_;rintro e H ⟨rfl,f⟩;rw [R.out];have S:w.heap.size<H.heap.size:=aj f;have h:Hid (Below w w H):=ww f;have o:=hide (aa f ac (au w c));obtain ⟨q0,q1,q2,q3,q4,q5,q6,q7,q8,q9,T,U,V,W⟩:=o.out;clear f;have G:=h.out;go_wp2_with fail
   all_goals first
    | (exfalso;omega)
    | (go_ret2;exact ⟨aw HV.out.symm O.out.symm,by (repeat' exact bel)⟩)
 ·exact absurd E J
theorem wZ (c:ar) (y:Int) (w:World) (hn:c.name.size≤1000) (hE:aO c y 1600=0) :
  Calls Tryz.prog 71 #[av c,y] w fun e w'=>e=.returned (.tuple #[bv c y,aO c y 1600])∧Below w w w':=by
 obtain ⟨ab,a1,a2⟩:=bo hE;obtain ⟨hm,hs,hk,hd⟩:=cg ab;have ht:aP (y+c.shift) c.month=true:=by simp [aP];omega
 have HE:=hide (kj ab);have HV:=hide (show bv c y=ct c (y+c.shift) by simp [bv,hE]);have HA:=hide hE;obtain ⟨F,hF⟩:∃ F,ct c (y+c.shift)=F:=⟨_,rfl⟩;rw [hF] at HV;by_cases R:c.kind=1∨c.kind=4
 ·have O:f9 (y+c.shift) c.month c.day=0:=by simp [f9,ht];omega
  have HL:=hide (And.intro (show cz (y+c.shift) c.month c.day=F by rw [← hF];simp [cz,O,ct,R]) O);have aB:((c.kind==1)=true)∨((c.kind==1)=false∧(c.kind==4)=true):=by rcases R with h | h <;> simp [h]
  clear ab hE ht hF O R hd hm hk;simp only [av];rcases aB with k1 | ⟨k1,k2⟩
  all_goals
   go_enter Tryz.func71,Tryz.ntmps71;go_wp2_with fail;refine (aH c _ hn).mono ?_;rintro e w1 ⟨rfl,f⟩;rw [HE.out];have aq:w.heap.size<w1.heap.size:=aj f;have T:Hid (Below w w w1):=ww f;have E:=hide (aa f ac (au w c));obtain ⟨q0,q1,q2,q3,q4,q5,q6,q7,q8,q9,G,H,I,J⟩:=E.out;clear f;go_wp2_with fail
   all_goals first
    | (exfalso;omega)
    | skip
   refine (od (y+c.shift) c.month c.day _).mono ?_;rintro e S ⟨rfl,o⟩;rw [HL.out.1,HL.out.2];have ay:w.heap.size<S.heap.size:=aj o;have U:Hid (Below w w S):=ao T.out o;have V:Hid (aG S w c):=by have hp:=E.out;exact qq o
   clear q0 q1 q2 q3 q4 q5 q6 q7 q8 q9 G H I J;obtain ⟨q0,q1,q2,q3,q4,q5,q6,q7,q8,q9,G,H,I,J⟩:=V.out;clear o;have ad:=U.out;go_wp2;go_ret2;exact ⟨aw HV.out.symm HA.out.symm,by (repeat' exact bel)⟩
 ·by_cases k6:c.kind=6
  ·have ah:dc (y+c.shift) c.month (bS (y+c.shift) c.month)=true:=iR _ _ ht
   have HL:=hide (And.intro (show iY (y+c.shift) c.month (bS (y+c.shift) c.month)=F by rw [← hF,ct,if_neg R,if_pos k6,iY,if_pos ah];rfl) (show cQ (y+c.shift) c.month (bS (y+c.shift) c.month)=0 by rw [cQ,if_pos ah]));have k1:(c.kind==1)=false:=ae;have k2:(c.kind==4)=false:=ae;have k3:(c.kind==6)=true:=by simp [k6]
   obtain ⟨L,hL⟩:∃ L,bS (y+c.shift) c.month=L:=⟨_,rfl⟩;rw [hL] at HL;have al:=hide (And.intro hL (show dI (y+c.shift) c.month=0 by simp [dI,ht]));clear ab hE ht hF R hd hm hk k6 ah hL;simp only [av];go_enter Tryz.func71,Tryz.ntmps71;go_wp2_with fail;refine (aH c _ hn).mono ?_;rintro e w1 ⟨rfl,f⟩;rw [HE.out];have aq:w.heap.size<w1.heap.size:=aj f;have T:Hid (Below w w w1):=ww f;have E:=hide (aa f ac (au w c));obtain ⟨q0,q1,q2,q3,q4,q5,q6,q7,q8,q9,G,H,I,J⟩:=E.out;clear f;go_wp2_with fail
   all_goals first
    | (exfalso;omega)
    | skip
   refine (bT (y+c.shift) c.month _).mono ?_;rintro e S ⟨rfl,rfl⟩;rw [al.out.1,al.out.2];go_wp2_with fail;refine (pB (y+c.shift) c.month L _).mono ?_;rintro e S ⟨rfl,o⟩;rw [HL.out.1,HL.out.2];have ay:w.heap.size<S.heap.size:=aj o;have U:Hid (Below w w S):=ao T.out o;have V:Hid (aG S w c):=by have hp:=E.out;exact qq o
   clear q0 q1 q2 q3 q4 q5 q6 q7 q8 q9 G H I J;obtain ⟨q0,q1,q2,q3,q4,q5,q6,q7,q8,q9,G,H,I,J⟩:=V.out;clear o;have ad:=U.out;go_wp2;go_ret2;exact ⟨aw HV.out.symm HA.out.symm,by (repeat' exact bel)⟩
  ·have O:f9 (y+c.shift) c.month c.day=0:=by simp [f9,ht];omega
   have aF:=l0 _ _ ht;have aA:=nc _ _ ht om;have a0:-3≤dn (y+c.shift) c.month c.day∧dn (y+c.shift) c.month c.day≤3:=by unfold dn;omega
   have W:kr (bK (y+c.shift) c.month) (dn (y+c.shift) c.month c.day)=true:=by simp [kr,cH];omega
   have HL:=hide (And.intro (show fg (y+c.shift) c.month c.day=F by rw [← hF,ct,if_neg R,if_neg k6,fg,if_pos O,qy,if_pos W]) (show fm (y+c.shift) c.month c.day=0 by rw [fm,if_pos O,pq,if_pos W]));have k1:(c.kind==1)=false:=ae;have k2:(c.kind==4)=false:=ae;have k3:(c.kind==6)=false:=ae;clear ab hE ht hF R hd hm hk k6 O aF aA a0 W;simp only [av];go_enter Tryz.func71,Tryz.ntmps71;go_wp2_with fail;refine (aH c _ hn).mono ?_;rintro e w1 ⟨rfl,f⟩;rw [HE.out];have aq:w.heap.size<w1.heap.size:=aj f;have T:Hid (Below w w w1):=ww f;have E:=hide (aa f ac (au w c));obtain ⟨q0,q1,q2,q3,q4,q5,q6,q7,q8,q9,G,H,I,J⟩:=E.out;clear f;go_wp2_with fail
   all_goals first
    | (exfalso;omega)
    | skip
   refine (wJ (y+c.shift) c.month c.day _).mono ?_;rintro e S ⟨rfl,o⟩;rw [HL.out.1,HL.out.2];have ay:w.heap.size<S.heap.size:=aj o;have U:Hid (Below w w S):=ao T.out o;have V:Hid (aG S w c):=by have hp:=E.out;exact qq o
   clear q0 q1 q2 q3 q4 q5 q6 q7 q8 q9 G H I J;obtain ⟨q0,q1,q2,q3,q4,q5,q6,q7,q8,q9,G,H,I,J⟩:=V.out;clear o;have ad:=U.out;go_wp2;go_ret2;exact ⟨aw HV.out.symm HA.out.symm,by (repeat' exact bel)⟩
theorem gq (c:ar) (y:Int) (w:World) (h:c.name.size≤1000) :
  Calls Tryz.prog 71 #[av c,y] w fun e o=>e=.returned (.tuple #[bv c y,aO c y 1600])∧Below w w o:=by
 by_cases f:aO c y 1600=0
 ·exact wZ c y w h f
 ·exact BH c y w h f
theorem rA {c:ar} {y:Int} (h:aO c y 1601=0):aO c (y-1) 1600=0∧bv c (y-1)+1=ax c y:=by
 obtain ⟨f,F,G⟩:=bo h;have E:c.okB=true:=by simpa [ar.okB] using f
 have o:aO c (y-1) 1600=0:=by rw [aO,if_pos E,if_pos ⟨by omega,by omega⟩]
 exact ⟨o,by rw [bv,if_pos o,ax,if_pos h]⟩
theorem bO (c:ar) (y:Int) (w:World) (hn:c.name.size≤1000) :
  Calls Tryz.prog 70 #[av c,y] w fun e w'=>e=.returned (.tuple #[ax c y,aO c y 1601])∧Below w w w':=by
 by_cases h:aO c y 1601=0
 ·obtain ⟨_,ay,aA⟩:=bo h
  obtain ⟨s1,s2⟩:=rA h;have W:=ch c y h;have V:=hide h;obtain ⟨S,hS⟩:∃ S,ax c y=S:=⟨_,rfl⟩;rw [hS] at s2 W;have HS:=hide (And.intro hS (And.intro (show bv c (y-1)=S-1 by omega) s1));have al:0≤S∧S≤3068037:=⟨W.1,W.2.1⟩;clear h hS s1 s2 W;simp only [av];go_enter Tryz.func70,Tryz.ntmps70;go_wp2_with fail;refine (jd c y _ hn).mono ?_;rintro e U ⟨rfl,f⟩;rw [V.out];have ah:w.heap.size<U.heap.size:=aj f;have G:Hid (Below w w U):=ww f;have o:=hide (aa f ac (au w c));obtain ⟨q0,q1,q2,q3,q4,q5,q6,q7,q8,q9,I,J,O,R⟩:=o.out;clear f;go_wp2_with fail;refine (gq c (y-1) _ hn).mono ?_;rintro e w2 ⟨rfl,F⟩;rw [HS.out.2.1,HS.out.2.2];have aB:w.heap.size<w2.heap.size:=aj F;have ab:Hid (Below w w w2):=ao G.out F;have ad:Hid (aG w2 w c):=by have hp:=o.out;exact qq F
  clear q0 q1 q2 q3 q4 q5 q6 q7 q8 q9 I J O R;obtain ⟨q0,q1,q2,q3,q4,q5,q6,q7,q8,q9,I,J,O,R⟩:=ad.out;clear F;have T:=ab.out;go_wp2;go_ret2;exact ⟨aw (by (rw [HS.out.1]) <;> omega) V.out.symm,by (repeat' exact bel)⟩
 ·have V:=hide (show (aO c y 1601 != 0)=true by simpa using h)
  have HV:=hide (show ax c y=0 by rw [ax,if_neg h]);obtain ⟨E,H⟩:∃ E,aO c y 1601=E:=⟨_,rfl⟩;have HE:=hide H;rw [H] at h;have aq:(E != 0)=true:=by simpa using h
  clear h H V;simp only [av];go_enter Tryz.func70,Tryz.ntmps70;go_wp2_with fail;refine (jd c y _ hn).mono ?_;rintro e U ⟨rfl,f⟩;rw [HE.out];have ah:w.heap.size<U.heap.size:=aj f;have G:Hid (Below w w U):=ww f;have o:=hide (aa f ac (au w c));obtain ⟨q0,q1,q2,q3,q4,q5,q6,q7,q8,q9,I,J,O,R⟩:=o.out;clear f;have T:=G.out;go_wp2;go_ret2;exact ⟨aw HV.out.symm HE.out.symm,by (repeat' exact bel)⟩
theorem wv (c:ar) (y:Int) (w:World) (hn:c.name.size≤1000) :
  Calls Tryz.prog 196 #[av c,y] w fun e w'=>e=.returned (.tuple #[bP c y,aO c y 1601])∧Below w w w':=by
 by_cases h:aO c y 1601=0
 ·obtain ⟨_,aF,a0⟩:=bo h
  obtain ⟨s1,s2⟩:=rA h;have W:=ch c y h;have HA:=hide h;have hm:=fo h;have R:bP c y=bv c y-ax c y+1:=by rw [bP,if_pos h]
  obtain ⟨S,hS⟩:∃ S,ax c y=S:=⟨_,rfl⟩;obtain ⟨T,hT⟩:∃ S,bv c y=S:=⟨_,rfl⟩;rw [hS] at s2 W R;rw [hT] at W R;have HD:=hide R;have HS:=hide (And.intro (And.intro hT hm) (And.intro (show bv c (y-1)=S-1 by omega) s1));have aA:0≤S∧S≤3068037∧0≤T∧T≤3068037:=⟨W.1,W.2.1,W.2.2.1,W.2.2.2.1⟩;clear h hS s1 s2 W R hT hm;simp only [av];go_enter Tryz.func196,Tryz.ntmps196;go_wp2_with fail;refine (jd c y _ hn).mono ?_;rintro e w1 ⟨rfl,f⟩;rw [HA.out];have ay:w.heap.size<w1.heap.size:=aj f;have U:Hid (Below w w w1):=ww f;have I:=hide (aa f ac (au w c));obtain ⟨q0,q1,q2,q3,q4,q5,q6,q7,q8,q9,o,F,G,H⟩:=I.out;clear f;go_wp2_with fail;refine (gq c (y-1) _ hn).mono ?_;rintro e w2 ⟨rfl,J⟩;rw [HS.out.2.1,HS.out.2.2];have a1:w.heap.size<w2.heap.size:=aj J;have ah:Hid (Below w w w2):=ao U.out J;have ab:Hid (aG w2 w c):=by have hp:=I.out;exact qq J
  clear q0 q1 q2 q3 q4 q5 q6 q7 q8 q9 o F G H;obtain ⟨q0,q1,q2,q3,q4,q5,q6,q7,q8,q9,o,F,G,H⟩:=ab.out;clear J;go_wp2_with fail;refine (gq c y _ hn).mono ?_;rintro e w3 ⟨rfl,O⟩;rw [HS.out.1.1,HS.out.1.2];have a2:w.heap.size<w3.heap.size:=aj O;have al:Hid (Below w w w3):=ao ah.out O;have aq:Hid (aG w3 w c):=by have hp:=ab.out;exact qq O
  clear q0 q1 q2 q3 q4 q5 q6 q7 q8 q9 o F G H;obtain ⟨q0,q1,q2,q3,q4,q5,q6,q7,q8,q9,o,F,G,H⟩:=aq.out;clear O;have ad:=al.out;go_wp2;go_ret2;exact ⟨aw (by (rw [HD.out]) <;> omega) HA.out.symm,by (repeat' exact bel)⟩
 ·have HV:=hide (show bP c y=0 by rw [bP,if_neg h])
  obtain ⟨E,V⟩:∃ E,aO c y 1601=E:=⟨_,rfl⟩;have HE:=hide V;rw [V] at h;have aB:(E != 0)=true:=by simpa using h
  clear h V;simp only [av];go_enter Tryz.func196,Tryz.ntmps196;go_wp2_with fail;refine (jd c y _ hn).mono ?_;rintro e w1 ⟨rfl,f⟩;rw [HE.out];have ay:w.heap.size<w1.heap.size:=aj f;have U:Hid (Below w w w1):=ww f;have I:=hide (aa f ac (au w c));obtain ⟨q0,q1,q2,q3,q4,q5,q6,q7,q8,q9,o,F,G,H⟩:=I.out;clear f;have ad:=U.out;go_wp2;go_ret2;exact ⟨aw HV.out.symm HE.out.symm,by (repeat' exact bel)⟩
theorem bq (c:ar) (y:Int) (w:World) (hn:c.name.size≤1000) :
  Calls Tryz.prog 130 #[av c,y] w fun e w'=>e=.returned (.tuple #[aL c y,dA c y])∧Below w w w':=by
 have ab:=zN c y;rcases eY c with ⟨_,h1,O⟩ | ⟨_,h1,O⟩
 ·have HE:=hide h1
  by_cases S:c.kind=6
  ·have aq:(c.kind==6)=true:=by simp [S]
   have V:=hide (show aL c y=0 by simp [aL,fZ,S]);have W:=hide (show dA c y=1 by simp [dA,fZ,S]);clear h1 O S;simp only [av];go_enter Tryz.func130,Tryz.ntmps130;go_wp2_with fail;refine (aH c _ hn).mono ?_;rintro e T ⟨rfl,f⟩;rw [HE.out];have ad:w.heap.size<T.heap.size:=aj f;have o:Hid (Below w w T):=ww f;have h:=hide (aa f ac (au w c));obtain ⟨q0,q1,q2,q3,q4,q5,q6,q7,q8,q9,G,H,I,J⟩:=h.out;clear f;have R:=o.out;go_wp2;go_ret2;exact ⟨aw V.out.symm W.out.symm,by (repeat' exact bel)⟩
  ·have aq:(c.kind==6)=false:=by simpa using S
   have V:=hide (show aL c y=bP c y / 7 by simp [aL,fZ,S,O]);have W:=hide (show dA c y=aO c y 1601 by simp [dA,fZ,S,O]);obtain ⟨D,hD⟩:∃ D,bP c y=D:=⟨_,rfl⟩;obtain ⟨E,U⟩:∃ E,aO c y 1601=E:=⟨_,rfl⟩;rw [hD] at V ab;rw [U] at W;have HD:=hide (And.intro hD U);have ay:D.tdiv 7=D / 7:=Int.tdiv_eq_ediv_of_nonneg ab.1;clear h1 O S hD U;simp only [av];go_enter Tryz.func130,Tryz.ntmps130;go_wp2_with fail;refine (aH c _ hn).mono ?_;rintro e T ⟨rfl,f⟩;rw [HE.out];have ad:w.heap.size<T.heap.size:=aj f;have o:Hid (Below w w T):=ww f;have h:=hide (aa f ac (au w c));obtain ⟨q0,q1,q2,q3,q4,q5,q6,q7,q8,q9,G,H,I,J⟩:=h.out;clear f;go_wp2_with fail;refine (wv c y _ hn).mono ?_;rintro e w2 ⟨rfl,F⟩;rw [HD.out.1,HD.out.2];have aA:w.heap.size<w2.heap.size:=aj F;have ah:Hid (Below w w w2):=ao o.out F;have al:Hid (aG w2 w c):=by have hp:=h.out;exact qq F
   clear q0 q1 q2 q3 q4 q5 q6 q7 q8 q9 G H I J;obtain ⟨q0,q1,q2,q3,q4,q5,q6,q7,q8,q9,G,H,I,J⟩:=al.out;clear F;have R:=ah.out;go_wp2;go_ret2;exact ⟨aw (by rw [V.out]) W.out.symm,by (repeat' exact bel)⟩
 ·have HE:=hide h1
  have V:=hide (show aL c y=0 by simp [aL,fZ,O]);have W:=hide (show dA c y=1 by simp [dA,fZ,O]);clear h1 O;simp only [av];go_enter Tryz.func130,Tryz.ntmps130;go_wp2_with fail;refine (aH c _ hn).mono ?_;rintro e T ⟨rfl,f⟩;rw [HE.out];have ad:w.heap.size<T.heap.size:=aj f;have o:Hid (Below w w T):=ww f;have h:=hide (aa f ac (au w c));obtain ⟨q0,q1,q2,q3,q4,q5,q6,q7,q8,q9,G,H,I,J⟩:=h.out;clear f;have R:=o.out;go_wp2;go_ret2;exact ⟨aw V.out.symm W.out.symm,by (repeat' exact bel)⟩
theorem iv:(Tryz.prog.info? 3).map (fun i=>(i.zero,i.size,i.bytes))=some (some (.int .i64 0),1,8):=by kernel_rfl
def ki (L:List Int):List Value:=L.map (Value.int .i64)
theorem yK (L:List Int) (x:Int):ki (L++[x])=ki L++[.int .i64 x]:=by simp [ki]
def jJ (c:ar) (B f:Nat) (L:List Int) (v:Value) (h w:World):Prop:=
 aG w B c∧B<f∧f≤w.heap.size∧(w.ownsRow f 3 1 v L.length (ki L)∧(v=.slice none 0 0↔L=[]))∧Below B h w
theorem fy {w H:World} {f o n:Nat} {e:TypeId} {v:Value} {I:List Value} (h:w.ownsRow f e o v n I) (R:Below w w H):H.ownsRow f e o v n I:=by
 refine ⟨h.1,?_⟩;rcases h.2 with F | ⟨g,cap,E,F,J,G,O⟩
 ·exact .inl F
 ·exact .inr ⟨g,cap,E,F,J,(R.block g (Array.getElem?_eq_some_iff.1 G).1).trans G,O⟩
theorem jJ.call {c:ar} {B o:Nat} {L:List Int} {v:Value} {F w E:World} (h:jJ c B o L v F w) (f:Below w w E):jJ c B o L v F E:=by
 obtain ⟨G,H,I,⟨J,O⟩,R⟩:=h;exact ⟨aa f om G,H,Nat.le_trans I f.size,⟨fy J f,O⟩,R.trans (f.mono om)⟩
theorem jJ.grow {c:ar} {B E:Nat} {L:List Int} {x:Int} {v v':Value} {O W F:World} (h:jJ c B E L v O W) (o:Obj)
  (J:F.ownsRow E 3 1 v' (L.length+1) (ki L++[.int .i64 x])) (f:(W.alloc o).grownBy F v.ownBlock):jJ c B E (L++[x]) v' O F:=by
 obtain ⟨R,H,S,⟨T,h5⟩,U⟩:=h;have I:Below E W F:=((Below.refl E W).alloc S o).grown f ae (fun k V=>by have:=(T.lt k V).1;omega);obtain ⟨g3,G,rfl,_⟩:=eg J om;have hs:W.heap.size≤F.heap.size:=by have:=f.size;simp at this;omega
 refine ⟨aa I H R,H,by omega,⟨?_,by simp⟩,U.trans (I.mono om)⟩;rw [yK];simpa using J
theorem pj {w:World} {b F f n:Nat} {e:TypeId} {v:Value} {G:List Value} (h:w.ownsRow b e f v n G) (J:F≤b):w.ownsRow F e f v n G:=by
 refine ⟨h.1,?_⟩;rcases h.2 with E | ⟨g,cap,o,E,H,I⟩
 ·exact .inl E
 ·exact .inr ⟨g,cap,o,E,Nat.le_trans J H,I⟩
def E3 (w:World) (v:Value) (L:List Int):Prop:=∃ g cap,v=.slice (some ⟨g,0,none⟩) L.length cap∧w.ownsRow 0 3 1 v L.length (ki L)
theorem jJ.ints {c:ar} {B f:Nat} {L:List Int} {v:Value} {E w:World} (h:jJ c B f L v E w) (o:0<L.length):E3 w v L:=by
 obtain ⟨g,cap,rfl,_⟩:=eg h.2.2.2.1.1 o;exact ⟨g,cap,rfl,pj h.2.2.2.1.1 (Nat.zero_le _)⟩
def it (c:ar) (y:Int) (w:World) (e:Ending) (f:World):Prop:=∃ v,e=.returned (.tuple #[v,.int .i64 0])∧E3 f v (bi c y)∧Below w w f
theorem fJ (c:ar) (y:Int) (w:World) (G:c.name.size≤1000) :
  Calls Tryz.prog 164 #[av c,y] w fun e S=>e=.returned (.int .i64 (aO c y 1601))∧Below w w S:=by
 simp only [av];go_enter Tryz.func164,Tryz.ntmps164;go_wp2_with fail;refine (bO c y _ G).mono ?_;rintro e F ⟨rfl,f⟩;have H:w.heap.size<F.heap.size:=aj f;have h:Hid (Below w w F):=ww f;have o:=hide (aa f ac (au w c));obtain ⟨T,U,V,W,q4,q5,q6,q7,q8,q9,I,J,O,R⟩:=o.out;clear f;have E:=h.out;go_wp2;go_ret;exact ⟨rfl,by (repeat' exact bel)⟩
theorem yE (c:ar) (y:Int) (w:World) (R:c.name.size≤1000) (G:¬ aO c y 1601=0) :
  Calls Tryz.prog 101 #[av c,y] w fun e w'=>e=.returned (.tuple #[.slice none 0 0,aO c y 1601])∧Below w w w':=by
 obtain ⟨E,h⟩:∃ E,aO c y 1601=E:=⟨_,rfl⟩;have H:=hide h;rw [h] at G;have O:(E != 0)=true:=by simpa using G
 clear G h;simp only [av];go_enter Tryz.func101,Tryz.ntmps101;go_wp2_with fail;refine (fJ c y _ R).mono ?_;rintro e J ⟨rfl,f⟩;rw [H.out];have S:w.heap.size<J.heap.size:=aj f;have o:Hid (Below w w J):=ww f;have F:=hide (aa f ac (au w c));obtain ⟨q0,q1,q2,q3,q4,q5,q6,q7,q8,q9,T,U,V,W⟩:=F.out;clear f;have I:=o.out;go_wp2;go_ret2;exact ⟨by rw [H.out];rfl,by (repeat' exact bel)⟩
theorem re (c:ar) (y:Int) (w:World) (hn:c.name.size≤1000) (hE:aO c y 1601=0) (h4:c.shape=4) :
  Calls Tryz.prog 101 #[av c,y] w (it c y w):=by
 obtain ⟨_,a3,a4⟩:=bo hE;have HE:=hide hE;have a1:(c.shape==4)=true:=by simp [h4]
 have HL:=hide (show bi c y=bm (nj y) 12 by rw [bi,if_pos h4];rfl);have HK:=hide (fun (i:Nat) (hi:i<12)=>(show f9 y ((i:Int)+1) 7=0∧cz y ((i:Int)+1) 7=nj y i from by
  have ht:aP y ((i:Int)+1)=true:=by simp [aP];omega
  exact ⟨by simp [f9,ht],rfl⟩))
 obtain ⟨i0,hi,ab,ad,ah⟩:=info_parts iv;clear hE h4;simp only [av];go_enter Tryz.func101,Tryz.ntmps101;go_wp2_with fail;refine (fJ c y _ hn).mono ?_;rintro e I ⟨rfl,o⟩;rw [HE.out];have aq:w.heap.size<I.heap.size:=aj o;have V:Hid (Below w w I):=ww o;have O:=hide (aa o ac (au w c));obtain ⟨q0,q1,q2,q3,q4,q5,q6,q7,q8,q9,ay,aA,aB,aF⟩:=O.out;clear o;have W:=hide (show jJ c w.heap.size I.heap.size [] (.slice none 0 0) w I from ⟨O.out,aq,Nat.le_refl _,⟨World.ownsRow_nil _ _ _ _,by simp⟩,V.out⟩);go_wp2_with fail;go_loopw [7,8] (fun s7 s8 wr=>∃ k:Nat,s8=.int .i64 ((k:Int)+1)∧k≤12∧jJ c w.heap.size I.heap.size (bm (nj y) k) s7 w wr) (fun _ s8 _=>(20-intOf s8).toNat)
 case atStart=>exact ⟨0,rfl,by omega,W.out⟩
 case round =>
  obtain ⟨k,rfl,hk,hS⟩:=hrel;have T:=hide hS;clear hS;clear q0 q1 q2 q3 q4 q5 q6 q7 q8 q9 ay aA aB aF;by_cases al:k<12
  ·obtain ⟨e1,e2⟩:=HK.out k al
   have F:=hide (And.intro e1 e2);have H:=hide (bB (nj y) k);have S:(bm (nj y) k).length=k:=bk _ _;obtain ⟨X,hX⟩:∃ X,nj y k=X:=⟨_,rfl⟩;rw [hX] at F H;obtain ⟨U,J⟩:∃ U,bm (nj y) k=U:=⟨_,rfl⟩;rw [J] at T H S;clear e1 e2 hX J;go_wp2_with fail
   all_goals first
    | (exfalso;omega)
    | skip
   refine (od y ((k:Int)+1) 7 _).mono ?_;rintro e w2 ⟨rfl,R⟩;rw [F.out.1,F.out.2];have G:=hide (T.out.call R);have a2:I.heap.size≤w2.heap.size:=G.out.2.2.1;clear R;go_wp2_with ((at_builtin;refine wpList_append_own _ rfl _ _ 94 rfl I.heap.size 3 i0 (.int .i64 0) 1 8 Tryz.underlying94 hi ab ad ah rfl ag _ _ _ rfl (G.out.2.2.2.1.1.alloc _) ⟨w2,0,none⟩ 1 1 [.int .i64 (X)] rfl rfl ?c1a ?c2a ?c3a ?c4a ?c5a ?_))
   case c1a =>
    intro i u E
    match i,E with
    | 0,E=>simp at E;subst E;simp [Addr.add]
    | i+1,E=>simp at E
   case c2a=>intro u E;simp at E;subst E;rfl
   case c3a=>unfold maxLen;omega
   case c4a=>omega
   case c5a=>simp;omega
   ·intro v' w' h f _
    have HG:=hide (G.out.grow (x:=X) _ (by rw [S];exact h) f);clear h f;go_wp2;go_roundw
    case rel=>exact ⟨k+1,by go_num,by omega,by rw [H.out];exact HG.out⟩
    case measure=>simp [intOf];omega
  ·obtain rfl:k=12:=om
   have HI:=hide (T.out.ints (by rw [bk];omega));have a0:=T.out.2.2.2.2;obtain ⟨U,J⟩:∃ U,bm (nj y) 12=U:=⟨_,rfl⟩;have HU:=hide J;rw [J] at HI;clear J;go_wp2
   all_goals first
    | (exfalso;omega)
    | (go_ret2;exact ⟨_,rfl,by rw [HL.out,HU.out];exact HI.out,by (repeat' exact bel)⟩)
theorem qX (c:ar) (y:Int) (w:World) (hn:c.name.size≤1000) (hE:aO c y 1601=0) (h5:c.shape=5) :
  Calls Tryz.prog 101 #[av c,y] w (it c y w):=by
 obtain ⟨S,b3,b4⟩:=bo hE;have aF:c.kind=6:=(dT S).2.1.2 h5;have HE:=hide hE;have bX:(c.shape==4)=false:=by simp [h5]
 have b0:(c.shape==5)=true:=by simp [h5]
 have hL:bi c y=bm (oB (ax c y)) 12:=by rw [bi,if_neg om,if_pos h5];rfl
 have a4:=fK c y hE aF;have a3:19200≤iK c y∧iK c y+13<120000:=by
  obtain ⟨hm,hs,_,_⟩:=cg S;unfold iK;omega
 have HM:=hide (fun (k:Nat) (hk:k<12)=>(show cH (dK (ax c y) k)=true∧dI (dL (dK (ax c y) k)) (jU (dK (ax c y) k))=0∧dK (ax c y) (k+1)=dK (ax c y) k+bS (dL (dK (ax c y) k)) (jU (dK (ax c y) k)) from by
  have e:=kF (iK c y) a3.1 k om;rw [a4];refine ⟨?_,?_,rfl⟩
  ·rw [e];exact t8 (ou _ om om)
  ·rw [e,(nR _ om om).1,(nR _ om om).2,dI,if_pos (ik _ om om)]))
 have I:=hide (fun k=>zp (ax c y) k);have G:=ch c y hE;obtain ⟨D,hD⟩:∃ D,ax c y=D:=⟨_,rfl⟩;rw [hD] at hL HM I G;have HD:=hide hD;have HL:=hide hL;have HF:=hide (fun (k:Nat)=>(show oB D k=dK D (k+1)-1 from rfl));have b1:0≤D∧D≤3068037:=⟨G.1,G.2.1⟩;obtain ⟨i0,hi,bc,bd,bh⟩:=info_parts iv;clear hE h5 S aF hL a4 a3 G hD;simp only [av];go_enter Tryz.func101,Tryz.ntmps101;go_wp2_with fail;refine (fJ c y _ hn).mono ?_;rintro e w1 ⟨rfl,o⟩;rw [HE.out];have b5:w.heap.size<w1.heap.size:=aj o;have a6:Hid (Below w w w1):=ww o;have al:=hide (aa o ac (au w c));obtain ⟨q0,q1,q2,q3,q4,q5,q6,q7,q8,q9,T,V,W,ab⟩:=al.out;clear o;go_wp2_with fail;refine (bO c y _ hn).mono ?_;rintro e H ⟨rfl,E⟩;rw [HE.out,HD.out];have bp:w.heap.size<H.heap.size:=aj E;have a7:Hid (Below w w H):=ao a6.out E;have aq:Hid (aG H w c):=by have hp:=al.out;exact qq E
 clear q0 q1 q2 q3 q4 q5 q6 q7 q8 q9 T V W ab;obtain ⟨q0,q1,q2,q3,q4,q5,q6,q7,q8,q9,T,V,W,ab⟩:=aq.out;clear E;have bb:=hide (show jJ c w.heap.size H.heap.size [] (.slice none 0 0) w H from ⟨aq.out,bp,Nat.le_refl _,⟨World.ownsRow_nil _ _ _ _,by simp⟩,a7.out⟩);go_wp2_with fail;go_loopw [7,11,58] (fun s7 bt bw wr=>∃ k:Nat,bw=.int .i64 k∧bt=.int .i64 (dK D k)∧k≤12∧jJ c w.heap.size H.heap.size (bm (oB D) k) s7 w wr) (fun _ _ s _=>(20-intOf s).toNat)
 case atStart=>exact ⟨0,rfl,rfl,by omega,bb.out⟩
 case round =>
  obtain ⟨k,rfl,rfl,hk,hS⟩:=hrel;have HS:=hide hS;clear hS;clear q0 q1 q2 q3 q4 q5 q6 q7 q8 q9 T V W ab;have a1:=I.out k;by_cases bl:k<12
  ·obtain ⟨e1,e2,e3⟩:=HM.out k bl
   have a2:=I.out (k+1);have J:=hide (bB (oB D) k);have a5:(bm (oB D) k).length=k:=bk _ _;have hF:=HF.out k;have a0:=jX (dL (dK D k)) (jU (dK D k));obtain ⟨M1,R⟩:∃ X,dK D (k+1)=X:=⟨_,rfl⟩;rw [R] at e3 a2 hF;rw [hF] at J;have ba:=hide R;obtain ⟨M,hM⟩:∃ X,dK D k=X:=⟨_,rfl⟩;rw [hM] at e1 e2 e3 a1 a0;rw [hM];obtain ⟨Lv,O⟩:∃ X,bS (dL M) (jU M)=X:=⟨_,rfl⟩;rw [O] at e3 a0;have ad:=hide (And.intro O e2);have ah:=hide e3;obtain ⟨U,hU⟩:∃ U,bm (oB D) k=U:=⟨_,rfl⟩;rw [hU] at HS J a5;have a8:=hide e1;clear e1 e2 e3 hF R hM O hU;go_wp2_with fail
   all_goals first
    | (exfalso;omega)
    | skip
   refine (mW M _ a8.out).mono ?_;rintro e w3 ⟨rfl,aB⟩;have ay:=hide (HS.out.call aB);clear aB;go_wp2_with fail;refine (bT (dL M) (jU M) _).mono ?_;rintro e w4 ⟨rfl,rfl⟩;rw [ad.out.1,ad.out.2];have b2:H.heap.size≤w3.heap.size:=ay.out.2.2.1;have aA:=hide (ay.out.call (show Below w3 w3 (w3.alloc (.cells #[dL M,jU M,wU M] 135)) by (repeat' exact bel)));go_wp2_with ((at_builtin;refine wpList_append_own _ rfl _ _ 94 rfl H.heap.size 3 i0 (.int .i64 0) 1 8 Tryz.underlying94 hi bc bd bh rfl ag _ _ _ rfl (aA.out.2.2.2.1.1.alloc _) ⟨w3+1,0,none⟩ 1 1 [.int .i64 (M+Lv-1)] rfl rfl ?c1b ?c2b ?c3b ?c4b ?c5b ?_))
   case c1b =>
    intro i u F
    match i,F with
    | 0,F=>simp at F;subst F;simp [Addr.add]
    | i+1,F=>simp at F
   case c2b=>intro u F;simp at F;subst F;rfl
   case c3b=>unfold maxLen;omega
   case c4b=>omega
   case c5b=>simp;omega
   ·intro v' w' f h _
    rw [show M+Lv-1=M1-1 by have:=ah.out;omega] at f;have HG:=hide (aA.out.grow (x:=M1-1) _ (by rw [a5];exact f) h);clear f h;go_wp2;go_roundw
    case rel=>exact ⟨k+1,by go_num,by rw [ba.out];congr 1;have:=ah.out;omega,by omega,by rw [J.out];exact HG.out⟩
    case measure=>simp [intOf];omega
  ·obtain rfl:k=12:=om
   have HI:=hide (HS.out.ints (by rw [bk];omega));have bx:=HS.out.2.2.2.2;obtain ⟨U,hU⟩:∃ U,bm (oB D) 12=U:=⟨_,rfl⟩;have HU:=hide hU;rw [hU] at HI;obtain ⟨M,hM⟩:∃ X,dK D 12=X:=⟨_,rfl⟩;rw [hM];clear hU hM a1;go_wp2
   all_goals first
    | (exfalso;omega)
    | (go_ret2;exact ⟨_,rfl,by rw [HL.out,HU.out];exact HI.out,by (repeat' exact bel)⟩)
theorem tD {c:ar} (f:c.Ok) (o:¬ c.shape=4) (E:¬ c.shape=5) (k:Nat):1≤jk c k∧jk c k≤5:=by
 obtain ⟨_,_,_,h⟩:=f;simp only [ar.ruled,ar.weeks,dB,ar.pat0] at h;unfold jk eK eJ eP
 repeat' split
 all_goals omega
theorem oV {c:ar} (h:c.Ok) (o:¬ c.shape=4) (E:¬ c.shape=5) {f:Int} (F:f=52∨f=53) (k:Nat):1≤cD c f k∧cD c f k≤6:=by
 have:=tD h o E k;unfold cD
 split <;> omega
theorem pt {c:ar} {y:Int} (f:c.Ok) (h:¬ c.shape=4) (o:¬ c.shape=5) (E:aL c y=52∨aL c y=53) (k:Nat):ax c y≤bZ c y k∧bZ c y k≤ax c y+42*k:=by
 induction k with
 | zero=>simp [bZ]
 | succ k F =>
  have:=oV f h o E k;rw [bZ];omega
theorem BB (c:ar) (y:Int) (w:World) (hn:c.name.size≤1000) (hE:aO c y 1601=0) (a6:c.shape=1) :
  Calls Tryz.prog 101 #[av c,y] w (it c y w):=by
 obtain ⟨a3,dd,dq⟩:=bo hE;have a7:c.okB=true:=by simpa [ar.okB] using a3
 have ca:c.kind≠6:=fun h=>by have:=(dT a3).2.1.1 h;omega
 have h4:¬ c.shape=4:=om;have h5:¬ c.shape=5:=om;have bX:dA c y=0:=by simp [dA,fZ,a7,ca,hE]
 have b1:=(gj bX).2.2.2.2.2.1;have HE:=hide hE;have c1:(c.shape==4)=false:=by simpa using h4
 have c2:(c.shape==5)=false:=by simpa using h5
 have a4:=eM c a7;obtain ⟨N,hN⟩:∃ N:Nat,(cj c)=(N:Int):=⟨(cj c).toNat,by omega⟩;have hL:bi c y=bm (fun i=>bZ c y (i+1)-1) N:=by rw [bi,if_neg h4,if_neg h5,hN];rfl
 have HW:=hide (fun k=>pt a3 h4 h5 b1 k);have cs:=hide (fun k=>oV a3 h4 h5 b1 k);have cy:=hide (fun k=>tD a3 h4 h5 k);have bx:=hide (fun k=>(show bZ c y (k+1)=bZ c y k+7*cD c (aL c y) k from rfl));have bt:=hide (fun k=>(show cD c (aL c y) k=jk c k+if (k:Int)+1=c.extra then aL c y-52 else 0 from rfl));have b2:=hide (fun k=>(show jk c k=if k % 3=0 then eK c else if k % 3=1 then eJ c else eP c from rfl));have bp:=ch c y hE;have H0:=hide (show bZ c y 0=ax c y from rfl);obtain ⟨D,hD⟩:∃ D,ax c y=D:=⟨_,rfl⟩;obtain ⟨wk,b0⟩:∃ D,aL c y=D:=⟨_,rfl⟩;rw [hD] at HW bp H0;rw [b0] at b1 bx bt cs;rw [hN] at a4;have HD:=hide hD;have b7:=hide (And.intro b0 bX);have HN:=hide (And.intro hN (show co c=0 from kj a3));have HL:=hide hL;have c5:0≤D∧D≤3068037:=⟨bp.1,bp.2.1⟩;have c6:12≤N∧N≤52:=om;obtain ⟨F,hF⟩:∃ F:Nat→Int,bZ c y=F:=⟨_,rfl⟩;rw [hF] at HW bx H0 HL;obtain ⟨i0,hi,ah,al,aq⟩:=info_parts iv;have c8:(c.shape==1)=true:=by simp [a6]
 have c9:(c.shape==3)=false:=by simp [a6]
 have bw:=hide (And.intro (show eK c=c.p0 by simp [eK,a6]) (And.intro (show eJ c=c.p1 by simp [eJ,a6]) (show eP c=c.p2 by simp [eP,a6])));clear a6;clear hE a3 a7 ca h4 h5 bX hL bp hD b0 hN a4 hF;simp only [av];go_enter Tryz.func101,Tryz.ntmps101;go_wp2_with fail;refine (fJ c y _ hn).mono ?_;rintro e w1 ⟨rfl,bc⟩;rw [HE.out];have ds:w.heap.size<w1.heap.size:=aj bc;have cc:Hid (Below w w w1):=ww bc;have b3:=hide (aa bc ac (au w c));obtain ⟨q0,q1,q2,q3,q4,q5,q6,q7,q8,q9,aF,a0,a1,a2⟩:=b3.out;clear bc;go_wp2_with fail;refine (gi c _ hn).mono ?_;rintro e w2 ⟨rfl,bd⟩;rw [HN.out.1,HN.out.2];have dY:w.heap.size<w2.heap.size:=aj bd;have cl:Hid (Below w w w2):=ao cc.out bd;have b4:Hid (aG w2 w c):=by have hp:=b3.out;exact qq bd
 clear q0 q1 q2 q3 q4 q5 q6 q7 q8 q9 aF a0 a1 a2;obtain ⟨q0,q1,q2,q3,q4,q5,q6,q7,q8,q9,aF,a0,a1,a2⟩:=b4.out;clear bd;go_wp2_with fail;refine (bq c y _ hn).mono ?_;rintro e w3 ⟨rfl,bh⟩;rw [b7.out.1,b7.out.2];have d0:w.heap.size<w3.heap.size:=aj bh;have cp:Hid (Below w w w3):=ao cl.out bh;have b5:Hid (aG w3 w c):=by have hp:=b4.out;exact qq bh
 clear q0 q1 q2 q3 q4 q5 q6 q7 q8 q9 aF a0 a1 a2;obtain ⟨q0,q1,q2,q3,q4,q5,q6,q7,q8,q9,aF,a0,a1,a2⟩:=b5.out;clear bh;go_wp2_with fail;refine (bO c y _ hn).mono ?_;rintro e w4 ⟨rfl,bl⟩;rw [HE.out,HD.out];have cI:w.heap.size<w4.heap.size:=aj bl;have cr:Hid (Below w w w4):=ao cp.out bl;have b6:Hid (aG w4 w c):=by have hp:=b5.out;exact qq bl
 clear q0 q1 q2 q3 q4 q5 q6 q7 q8 q9 aF a0 a1 a2;obtain ⟨q0,q1,q2,q3,q4,q5,q6,q7,q8,q9,aF,a0,a1,a2⟩:=b6.out;clear bl;have cE:=hide (show jJ c w.heap.size w4.heap.size [] (.slice none 0 0) w w4 from ⟨b6.out,cI,Nat.le_refl _,⟨World.ownsRow_nil _ _ _ _,by simp⟩,cr.out⟩);go_wp2_with fail;go_loopw [7,21,23] (fun s7 cM cS wr=>∃ k:Nat,cS=.int .i64 ((k:Int)+1)∧cM=.int .i64 (F k)∧k≤N∧jJ c w.heap.size w4.heap.size (bm (fun i=>F (i+1)-1) k) s7 w wr) (fun _ _ s _=>(60-intOf s).toNat)
 case atStart=>exact ⟨0,rfl,by rw [H0.out],by omega,cE.out⟩
 case round =>
  obtain ⟨k,rfl,rfl,hk,hS⟩:=hrel;have HS:=hide hS;have c3:=hS.2.2.1;have c4:=hS.2.1;clear hS;clear q0 q1 q2 q3 q4 q5 q6 q7 q8 q9 aF a0 a1 a2;have b8:=HW.out k;by_cases c7:k<N
  ·have b9:=HW.out (k+1)
   have ba:=bx.out k;have I:=bt.out k;have aA:=b2.out k;have a4:=cy.out k;have V:=hide (bB (fun i=>F (i+1)-1) k);have ab:(bm (fun i=>F (i+1)-1) k).length=k:=bk _ _;obtain ⟨R,bb⟩:∃ X,F (k+1)=X:=⟨_,rfl⟩;rw [bb] at b9 ba;have ad:=hide bb;obtain ⟨O,a5⟩:∃ X,F k=X:=⟨_,rfl⟩;rw [a5] at b8 ba;rw [a5];obtain ⟨U,hU⟩:∃ U,bm (fun i=>F (i+1)-1) k=U:=⟨_,rfl⟩;rw [hU] at HS V ab;rw [bb] at V;obtain ⟨P,hP⟩:∃ X,jk c k=X:=⟨_,rfl⟩;rw [hP] at I aA a4;obtain ⟨G,hG⟩:∃ X,cD c wk k=X:=⟨_,rfl⟩;rw [hG] at I ba;have J:=hide ba;clear bb a5 hU hP hG ba;obtain ⟨q0,q1,q2,q3,q4,q5,q6,q7,q8,q9,aF,a0,a1,a2⟩:=HS.out.1;rw [bw.out.1,bw.out.2.1,bw.out.2.2] at aA;rcases (show k % 3=0∨k % 3=1∨k % 3=2 by omega) with hr | hr | hr
   ·have cb:((k:Int)).tmod 3=0:=by rw [Int.tmod_eq_emod_of_nonneg om];omega
    have ay:P=c.p0:=by rw [aA];simp [hr]
    rw [ay] at I a4;clear aA ay;rcases (show ((k:Int)+1=c.extra∧wk=53)∨((k:Int)+1=c.extra∧wk=52)∨¬ (k:Int)+1=c.extra by omega) with ⟨T,W⟩ | ⟨T,W⟩ | T
    ·skip
     have aB:((k:Int)+1==c.extra)=true:=ae;have a8:(wk==53)=true:=by simp [W]
     have H:G=c.p0+1:=by rw [I];rw [if_pos T,W];omega
     have S:=hide (show O+7*(c.p0+1)=R by rw [J.out,H]);clear I T W H;go_wp2_with ((at_builtin;refine wpList_append_own _ rfl _ _ 94 rfl w4.heap.size 3 i0 (.int .i64 0) 1 8 Tryz.underlying94 hi ah al aq rfl ag _ _ _ rfl (HS.out.2.2.2.1.1.alloc _) ⟨wr,0,none⟩ 1 1 [.int .i64 (O+7*(c.p0+1)-1)] rfl rfl ?c1k11 ?c2k11 ?c3k11 ?c4k11 ?c5k11 ?_))
     case c1k11 =>
      intro i u E
      match i,E with
      | 0,E=>simp at E;subst E;simp [Addr.add]
      | i+1,E=>simp at E
     case c2k11=>intro u E;simp at E;subst E;rfl
     case c3k11=>unfold maxLen;omega
     case c4k11=>omega
     case c5k11=>simp;omega
     ·intro v' w' f o _
      rw [show O+7*(c.p0+1)-1=R-1 by have:=S.out;omega] at f;have HG:=hide (HS.out.grow (x:=R-1) _ (by rw [ab];exact f) o);clear f o;go_wp2;go_roundw
      case rel=>exact ⟨k+1,by go_num,by (rw [ad.out]) <;> (congr 1) <;> (have:=S.out;omega),by omega,by rw [V.out];exact HG.out⟩
      case measure=>simp [intOf];omega
    ·skip
     have aB:((k:Int)+1==c.extra)=true:=ae;have a8:(wk==53)=false:=by simp [W]
     have H:G=c.p0+0:=by rw [I];rw [if_pos T,W];omega
     have S:=hide (show O+7*(c.p0+0)=R by rw [J.out,H]);clear I T W H;go_wp2_with ((at_builtin;refine wpList_append_own _ rfl _ _ 94 rfl w4.heap.size 3 i0 (.int .i64 0) 1 8 Tryz.underlying94 hi ah al aq rfl ag _ _ _ rfl (HS.out.2.2.2.1.1.alloc _) ⟨wr,0,none⟩ 1 1 [.int .i64 (O+7*c.p0-1)] rfl rfl ?c1k12 ?c2k12 ?c3k12 ?c4k12 ?c5k12 ?_))
     case c1k12 =>
      intro i u E
      match i,E with
      | 0,E=>simp at E;subst E;simp [Addr.add]
      | i+1,E=>simp at E
     case c2k12=>intro u E;simp at E;subst E;rfl
     case c3k12=>unfold maxLen;omega
     case c4k12=>omega
     case c5k12=>simp;omega
     ·intro v' w' f o _
      rw [show O+7*c.p0-1=R-1 by have:=S.out;omega] at f;have HG:=hide (HS.out.grow (x:=R-1) _ (by rw [ab];exact f) o);clear f o;go_wp2;go_roundw
      case rel=>exact ⟨k+1,by go_num,by (rw [ad.out]) <;> (congr 1) <;> (have:=S.out;omega),by omega,by rw [V.out];exact HG.out⟩
      case measure=>simp [intOf];omega
    ·skip
     have aB:((k:Int)+1==c.extra)=false:=ae;have H:G=c.p0+0:=by rw [I];rw [if_neg T]
     have S:=hide (show O+7*(c.p0+0)=R by rw [J.out,H]);clear I T H;go_wp2_with ((at_builtin;refine wpList_append_own _ rfl _ _ 94 rfl w4.heap.size 3 i0 (.int .i64 0) 1 8 Tryz.underlying94 hi ah al aq rfl ag _ _ _ rfl (HS.out.2.2.2.1.1.alloc _) ⟨wr,0,none⟩ 1 1 [.int .i64 (O+7*c.p0-1)] rfl rfl ?c1k13 ?c2k13 ?c3k13 ?c4k13 ?c5k13 ?_))
     case c1k13 =>
      intro i u E
      match i,E with
      | 0,E=>simp at E;subst E;simp [Addr.add]
      | i+1,E=>simp at E
     case c2k13=>intro u E;simp at E;subst E;rfl
     case c3k13=>unfold maxLen;omega
     case c4k13=>omega
     case c5k13=>simp;omega
     ·intro v' w' f o _
      rw [show O+7*c.p0-1=R-1 by have:=S.out;omega] at f;have HG:=hide (HS.out.grow (x:=R-1) _ (by rw [ab];exact f) o);clear f o;go_wp2;go_roundw
      case rel=>exact ⟨k+1,by go_num,by (rw [ad.out]) <;> (congr 1) <;> (have:=S.out;omega),by omega,by rw [V.out];exact HG.out⟩
      case measure=>simp [intOf];omega
   ·have cb:((k:Int)).tmod 3=1:=by rw [Int.tmod_eq_emod_of_nonneg om];omega
    have ay:P=c.p1:=by rw [aA];simp [hr]
    rw [ay] at I a4;clear aA ay;rcases (show ((k:Int)+1=c.extra∧wk=53)∨((k:Int)+1=c.extra∧wk=52)∨¬ (k:Int)+1=c.extra by omega) with ⟨T,W⟩ | ⟨T,W⟩ | T
    ·skip
     have aB:((k:Int)+1==c.extra)=true:=ae;have a8:(wk==53)=true:=by simp [W]
     have H:G=c.p1+1:=by rw [I];rw [if_pos T,W];omega
     have S:=hide (show O+7*(c.p1+1)=R by rw [J.out,H]);clear I T W H;go_wp2_with ((at_builtin;refine wpList_append_own _ rfl _ _ 94 rfl w4.heap.size 3 i0 (.int .i64 0) 1 8 Tryz.underlying94 hi ah al aq rfl ag _ _ _ rfl (HS.out.2.2.2.1.1.alloc _) ⟨wr,0,none⟩ 1 1 [.int .i64 (O+7*(c.p1+1)-1)] rfl rfl ?c1k14 ?c2k14 ?c3k14 ?c4k14 ?c5k14 ?_))
     case c1k14 =>
      intro i u E
      match i,E with
      | 0,E=>simp at E;subst E;simp [Addr.add]
      | i+1,E=>simp at E
     case c2k14=>intro u E;simp at E;subst E;rfl
     case c3k14=>unfold maxLen;omega
     case c4k14=>omega
     case c5k14=>simp;omega
     ·intro v' w' f o _
      rw [show O+7*(c.p1+1)-1=R-1 by have:=S.out;omega] at f;have HG:=hide (HS.out.grow (x:=R-1) _ (by rw [ab];exact f) o);clear f o;go_wp2;go_roundw
      case rel=>exact ⟨k+1,by go_num,by (rw [ad.out]) <;> (congr 1) <;> (have:=S.out;omega),by omega,by rw [V.out];exact HG.out⟩
      case measure=>simp [intOf];omega
    ·skip
     have aB:((k:Int)+1==c.extra)=true:=ae;have a8:(wk==53)=false:=by simp [W]
     have H:G=c.p1+0:=by rw [I];rw [if_pos T,W];omega
     have S:=hide (show O+7*(c.p1+0)=R by rw [J.out,H]);clear I T W H;go_wp2_with ((at_builtin;refine wpList_append_own _ rfl _ _ 94 rfl w4.heap.size 3 i0 (.int .i64 0) 1 8 Tryz.underlying94 hi ah al aq rfl ag _ _ _ rfl (HS.out.2.2.2.1.1.alloc _) ⟨wr,0,none⟩ 1 1 [.int .i64 (O+7*c.p1-1)] rfl rfl ?c1k15 ?c2k15 ?c3k15 ?c4k15 ?c5k15 ?_))
     case c1k15 =>
      intro i u E
      match i,E with
      | 0,E=>simp at E;subst E;simp [Addr.add]
      | i+1,E=>simp at E
     case c2k15=>intro u E;simp at E;subst E;rfl
     case c3k15=>unfold maxLen;omega
     case c4k15=>omega
     case c5k15=>simp;omega
     ·intro v' w' f o _
      rw [show O+7*c.p1-1=R-1 by have:=S.out;omega] at f;have HG:=hide (HS.out.grow (x:=R-1) _ (by rw [ab];exact f) o);clear f o;go_wp2;go_roundw
      case rel=>exact ⟨k+1,by go_num,by (rw [ad.out]) <;> (congr 1) <;> (have:=S.out;omega),by omega,by rw [V.out];exact HG.out⟩
      case measure=>simp [intOf];omega
    ·skip
     have aB:((k:Int)+1==c.extra)=false:=ae;have H:G=c.p1+0:=by rw [I];rw [if_neg T]
     have S:=hide (show O+7*(c.p1+0)=R by rw [J.out,H]);clear I T H;go_wp2_with ((at_builtin;refine wpList_append_own _ rfl _ _ 94 rfl w4.heap.size 3 i0 (.int .i64 0) 1 8 Tryz.underlying94 hi ah al aq rfl ag _ _ _ rfl (HS.out.2.2.2.1.1.alloc _) ⟨wr,0,none⟩ 1 1 [.int .i64 (O+7*c.p1-1)] rfl rfl ?c1k16 ?c2k16 ?c3k16 ?c4k16 ?c5k16 ?_))
     case c1k16 =>
      intro i u E
      match i,E with
      | 0,E=>simp at E;subst E;simp [Addr.add]
      | i+1,E=>simp at E
     case c2k16=>intro u E;simp at E;subst E;rfl
     case c3k16=>unfold maxLen;omega
     case c4k16=>omega
     case c5k16=>simp;omega
     ·intro v' w' f o _
      rw [show O+7*c.p1-1=R-1 by have:=S.out;omega] at f;have HG:=hide (HS.out.grow (x:=R-1) _ (by rw [ab];exact f) o);clear f o;go_wp2;go_roundw
      case rel=>exact ⟨k+1,by go_num,by (rw [ad.out]) <;> (congr 1) <;> (have:=S.out;omega),by omega,by rw [V.out];exact HG.out⟩
      case measure=>simp [intOf];omega
   ·have cb:((k:Int)).tmod 3=2:=by rw [Int.tmod_eq_emod_of_nonneg om];omega
    have ay:P=c.p2:=by rw [aA];simp [hr]
    rw [ay] at I a4;clear aA ay;rcases (show ((k:Int)+1=c.extra∧wk=53)∨((k:Int)+1=c.extra∧wk=52)∨¬ (k:Int)+1=c.extra by omega) with ⟨T,W⟩ | ⟨T,W⟩ | T
    ·skip
     have aB:((k:Int)+1==c.extra)=true:=ae;have a8:(wk==53)=true:=by simp [W]
     have H:G=c.p2+1:=by rw [I];rw [if_pos T,W];omega
     have S:=hide (show O+7*(c.p2+1)=R by rw [J.out,H]);clear I T W H;go_wp2_with ((at_builtin;refine wpList_append_own _ rfl _ _ 94 rfl w4.heap.size 3 i0 (.int .i64 0) 1 8 Tryz.underlying94 hi ah al aq rfl ag _ _ _ rfl (HS.out.2.2.2.1.1.alloc _) ⟨wr,0,none⟩ 1 1 [.int .i64 (O+7*(c.p2+1)-1)] rfl rfl ?c1k17 ?c2k17 ?c3k17 ?c4k17 ?c5k17 ?_))
     case c1k17 =>
      intro i u E
      match i,E with
      | 0,E=>simp at E;subst E;simp [Addr.add]
      | i+1,E=>simp at E
     case c2k17=>intro u E;simp at E;subst E;rfl
     case c3k17=>unfold maxLen;omega
     case c4k17=>omega
     case c5k17=>simp;omega
     ·intro v' w' f o _
      rw [show O+7*(c.p2+1)-1=R-1 by have:=S.out;omega] at f;have HG:=hide (HS.out.grow (x:=R-1) _ (by rw [ab];exact f) o);clear f o;go_wp2;go_roundw
      case rel=>exact ⟨k+1,by go_num,by (rw [ad.out]) <;> (congr 1) <;> (have:=S.out;omega),by omega,by rw [V.out];exact HG.out⟩
      case measure=>simp [intOf];omega
    ·skip
     have aB:((k:Int)+1==c.extra)=true:=ae;have a8:(wk==53)=false:=by simp [W]
     have H:G=c.p2+0:=by rw [I];rw [if_pos T,W];omega
     have S:=hide (show O+7*(c.p2+0)=R by rw [J.out,H]);clear I T W H;go_wp2_with ((at_builtin;refine wpList_append_own _ rfl _ _ 94 rfl w4.heap.size 3 i0 (.int .i64 0) 1 8 Tryz.underlying94 hi ah al aq rfl ag _ _ _ rfl (HS.out.2.2.2.1.1.alloc _) ⟨wr,0,none⟩ 1 1 [.int .i64 (O+7*c.p2-1)] rfl rfl ?c1k18 ?c2k18 ?c3k18 ?c4k18 ?c5k18 ?_))
     case c1k18 =>
      intro i u E
      match i,E with
      | 0,E=>simp at E;subst E;simp [Addr.add]
      | i+1,E=>simp at E
     case c2k18=>intro u E;simp at E;subst E;rfl
     case c3k18=>unfold maxLen;omega
     case c4k18=>omega
     case c5k18=>simp;omega
     ·intro v' w' f o _
      rw [show O+7*c.p2-1=R-1 by have:=S.out;omega] at f;have HG:=hide (HS.out.grow (x:=R-1) _ (by rw [ab];exact f) o);clear f o;go_wp2;go_roundw
      case rel=>exact ⟨k+1,by go_num,by (rw [ad.out]) <;> (congr 1) <;> (have:=S.out;omega),by omega,by rw [V.out];exact HG.out⟩
      case measure=>simp [intOf];omega
    ·skip
     have aB:((k:Int)+1==c.extra)=false:=ae;have H:G=c.p2+0:=by rw [I];rw [if_neg T]
     have S:=hide (show O+7*(c.p2+0)=R by rw [J.out,H]);clear I T H;go_wp2_with ((at_builtin;refine wpList_append_own _ rfl _ _ 94 rfl w4.heap.size 3 i0 (.int .i64 0) 1 8 Tryz.underlying94 hi ah al aq rfl ag _ _ _ rfl (HS.out.2.2.2.1.1.alloc _) ⟨wr,0,none⟩ 1 1 [.int .i64 (O+7*c.p2-1)] rfl rfl ?c1k19 ?c2k19 ?c3k19 ?c4k19 ?c5k19 ?_))
     case c1k19 =>
      intro i u E
      match i,E with
      | 0,E=>simp at E;subst E;simp [Addr.add]
      | i+1,E=>simp at E
     case c2k19=>intro u E;simp at E;subst E;rfl
     case c3k19=>unfold maxLen;omega
     case c4k19=>omega
     case c5k19=>simp;omega
     ·intro v' w' f o _
      rw [show O+7*c.p2-1=R-1 by have:=S.out;omega] at f;have HG:=hide (HS.out.grow (x:=R-1) _ (by rw [ab];exact f) o);clear f o;go_wp2;go_roundw
      case rel=>exact ⟨k+1,by go_num,by (rw [ad.out]) <;> (congr 1) <;> (have:=S.out;omega),by omega,by rw [V.out];exact HG.out⟩
      case measure=>simp [intOf];omega
  ·obtain rfl:k=N:=om
   have HI:=hide (HS.out.ints (by rw [bk];omega));have c0:=HS.out.2.2.2.2;obtain ⟨U,hU⟩:∃ U,bm (fun i=>F (i+1)-1) k=U:=⟨_,rfl⟩;have HU:=hide hU;rw [hU] at HI;obtain ⟨O,a5⟩:∃ X,F k=X:=⟨_,rfl⟩;rw [a5];clear hU a5 b8;go_wp2
   all_goals first
    | (exfalso;omega)
    | (go_ret2;exact ⟨_,rfl,by rw [HL.out,HU.out];exact HI.out,by (repeat' exact bel)⟩)
theorem Cq (c:ar) (y:Int) (w:World) (hn:c.name.size≤1000) (hE:aO c y 1601=0) (W:c.shape=2) :
  Calls Tryz.prog 101 #[av c,y] w (it c y w):=by
 obtain ⟨T,c4,c5⟩:=bo hE;have ah:c.okB=true:=by simpa [ar.okB] using T
 have b2:c.kind≠6:=fun h=>by have:=(dT T).2.1.1 h;omega
 have h4:¬ c.shape=4:=om;have h5:¬ c.shape=5:=om;have bc:dA c y=0:=by simp [dA,fZ,ah,b2,hE]
 have bh:=(gj bc).2.2.2.2.2.1;have HE:=hide hE;have cy:(c.shape==4)=false:=by simpa using h4
 have cE:(c.shape==5)=false:=by simpa using h5
 have a1:=eM c ah;obtain ⟨N,hN⟩:∃ N:Nat,(cj c)=(N:Int):=⟨(cj c).toNat,by omega⟩;have hL:bi c y=bm (fun i=>bZ c y (i+1)-1) N:=by rw [bi,if_neg h4,if_neg h5,hN];rfl
 have HW:=hide (fun k=>pt T h4 h5 bh k);have b8:=hide (fun k=>oV T h4 h5 bh k);have b9:=hide (fun k=>tD T h4 h5 k);have a7:=hide (fun k=>(show bZ c y (k+1)=bZ c y k+7*cD c (aL c y) k from rfl));have a4:=hide (fun k=>(show cD c (aL c y) k=jk c k+if (k:Int)+1=c.extra then aL c y-52 else 0 from rfl));have bl:=hide (fun k=>(show jk c k=if k % 3=0 then eK c else if k % 3=1 then eJ c else eP c from rfl));have a3:=ch c y hE;have H0:=hide (show bZ c y 0=ax c y from rfl);obtain ⟨D,hD⟩:∃ D,ax c y=D:=⟨_,rfl⟩;obtain ⟨wk,bd⟩:∃ D,aL c y=D:=⟨_,rfl⟩;rw [hD] at HW a3 H0;rw [bd] at bh a7 a4 b8;rw [hN] at a1;have HD:=hide hD;have bX:=hide (And.intro bd bc);have HN:=hide (And.intro hN (show co c=0 from kj T));have HL:=hide hL;have cS:0≤D∧D≤3068037:=⟨a3.1,a3.2.1⟩;have c0:12≤N∧N≤52:=om;obtain ⟨F,hF⟩:∃ F:Nat→Int,bZ c y=F:=⟨_,rfl⟩;rw [hF] at HW a7 H0 HL;obtain ⟨i0,hi,a8,ba,bb⟩:=info_parts iv;have c2:(c.shape==1)=false:=by simp [W]
 have c3:(c.shape==3)=false:=by simp [W]
 have a6:=hide (And.intro (show eK c=4 by simp [eK,W]) (And.intro (show eJ c=4 by simp [eJ,W]) (show eP c=4 by simp [eP,W])));clear W;clear hE T ah b2 h4 h5 bc hL a3 hD bd hN a1 hF;simp only [av];go_enter Tryz.func101,Tryz.ntmps101;go_wp2_with fail;refine (fJ c y _ hn).mono ?_;rintro e w1 ⟨rfl,ay⟩;rw [HE.out];have c6:w.heap.size<w1.heap.size:=aj ay;have b4:Hid (Below w w w1):=ww ay;have bp:=hide (aa ay ac (au w c));obtain ⟨q0,q1,q2,q3,q4,q5,q6,q7,q8,q9,J,O,R,S⟩:=bp.out;clear ay;go_wp2_with fail;refine (gi c _ hn).mono ?_;rintro e w2 ⟨rfl,aA⟩;rw [HN.out.1,HN.out.2];have c7:w.heap.size<w2.heap.size:=aj aA;have b5:Hid (Below w w w2):=ao b4.out aA;have bt:Hid (aG w2 w c):=by have hp:=bp.out;exact qq aA
 clear q0 q1 q2 q3 q4 q5 q6 q7 q8 q9 J O R S;obtain ⟨q0,q1,q2,q3,q4,q5,q6,q7,q8,q9,J,O,R,S⟩:=bt.out;clear aA;go_wp2_with fail;refine (bq c y _ hn).mono ?_;rintro e w3 ⟨rfl,aB⟩;rw [bX.out.1,bX.out.2];have c8:w.heap.size<w3.heap.size:=aj aB;have b6:Hid (Below w w w3):=ao b5.out aB;have bw:Hid (aG w3 w c):=by have hp:=bt.out;exact qq aB
 clear q0 q1 q2 q3 q4 q5 q6 q7 q8 q9 J O R S;obtain ⟨q0,q1,q2,q3,q4,q5,q6,q7,q8,q9,J,O,R,S⟩:=bw.out;clear aB;go_wp2_with fail;refine (bO c y _ hn).mono ?_;rintro e w4 ⟨rfl,aF⟩;rw [HE.out,HD.out];have cl:w.heap.size<w4.heap.size:=aj aF;have b7:Hid (Below w w w4):=ao b6.out aF;have bx:Hid (aG w4 w c):=by have hp:=bw.out;exact qq aF
 clear q0 q1 q2 q3 q4 q5 q6 q7 q8 q9 J O R S;obtain ⟨q0,q1,q2,q3,q4,q5,q6,q7,q8,q9,J,O,R,S⟩:=bx.out;clear aF;have ca:=hide (show jJ c w.heap.size w4.heap.size [] (.slice none 0 0) w w4 from ⟨bx.out,cl,Nat.le_refl _,⟨World.ownsRow_nil _ _ _ _,by simp⟩,b7.out⟩);go_wp2_with fail;go_loopw [7,21,23] (fun s7 cp cr wr=>∃ k:Nat,cr=.int .i64 ((k:Int)+1)∧cp=.int .i64 (F k)∧k≤N∧jJ c w.heap.size w4.heap.size (bm (fun i=>F (i+1)-1) k) s7 w wr) (fun _ _ s _=>(60-intOf s).toNat)
 case atStart=>exact ⟨0,rfl,by rw [H0.out],by omega,ca.out⟩
 case round =>
  obtain ⟨k,rfl,rfl,hk,hS⟩:=hrel;have HS:=hide hS;have cI:=hS.2.2.1;have cM:=hS.2.1;clear hS;clear q0 q1 q2 q3 q4 q5 q6 q7 q8 q9 J O R S;have b0:=HW.out k;by_cases c1:k<N
  ·have b1:=HW.out (k+1)
   have al:=a7.out k;have I:=a4.out k;have a0:=bl.out k;have a1:=b9.out k;have ab:=hide (bB (fun i=>F (i+1)-1) k);have a2:(bm (fun i=>F (i+1)-1) k).length=k:=bk _ _;obtain ⟨F1,aq⟩:∃ X,F (k+1)=X:=⟨_,rfl⟩;rw [aq] at b1 al;have a5:=hide aq;obtain ⟨F0,V⟩:∃ X,F k=X:=⟨_,rfl⟩;rw [V] at b0 al;rw [V];obtain ⟨U,hU⟩:∃ U,bm (fun i=>F (i+1)-1) k=U:=⟨_,rfl⟩;rw [hU] at HS ab a2;rw [aq] at ab;obtain ⟨P,hP⟩:∃ X,jk c k=X:=⟨_,rfl⟩;rw [hP] at I a0 a1;obtain ⟨G,hG⟩:∃ X,cD c wk k=X:=⟨_,rfl⟩;rw [hG] at I al;have ad:=hide al;clear aq V hU hP hG al;obtain ⟨q0,q1,q2,q3,q4,q5,q6,q7,q8,q9,J,O,R,S⟩:=HS.out.1;rw [a6.out.1,a6.out.2.1,a6.out.2.2] at a0
   ·skip
    have cb:P=4:=by rw [a0];simp
    subst cb;clear a0;rcases (show ((k:Int)+1=c.extra∧wk=53)∨((k:Int)+1=c.extra∧wk=52)∨¬ (k:Int)+1=c.extra by omega) with ⟨hx,hw⟩ | ⟨hx,hw⟩ | hx
    ·skip
     have b3:((k:Int)+1==c.extra)=true:=ae;have cc:(wk==53)=true:=by simp [hw]
     have H:G=4+1:=by rw [I];rw [if_pos hx,hw];omega
     have HX:=hide (show F0+7*(4+1)=F1 by rw [ad.out,H]);clear I hx hw H;go_wp2_with ((at_builtin;refine wpList_append_own _ rfl _ _ 94 rfl w4.heap.size 3 i0 (.int .i64 0) 1 8 Tryz.underlying94 hi a8 ba bb rfl ag _ _ _ rfl (HS.out.2.2.2.1.1.alloc _) ⟨wr,0,none⟩ 1 1 [.int .i64 (F0+35-1)] rfl rfl ?c1k21 ?c2k21 ?c3k21 ?c4k21 ?c5k21 ?_))
     case c1k21 =>
      intro i u E
      match i,E with
      | 0,E=>simp at E;subst E;simp [Addr.add]
      | i+1,E=>simp at E
     case c2k21=>intro u E;simp at E;subst E;rfl
     case c3k21=>unfold maxLen;omega
     case c4k21=>omega
     case c5k21=>simp;omega
     ·intro v' w' f o _
      rw [show F0+35-1=F1-1 by have:=HX.out;omega] at f;have HG:=hide (HS.out.grow (x:=F1-1) _ (by rw [a2];exact f) o);clear f o;go_wp2;go_roundw
      case rel=>exact ⟨k+1,by go_num,by (rw [a5.out]) <;> (congr 1) <;> (have:=HX.out;omega),by omega,by rw [ab.out];exact HG.out⟩
      case measure=>simp [intOf];omega
    ·skip
     have b3:((k:Int)+1==c.extra)=true:=ae;have cc:(wk==53)=false:=by simp [hw]
     have H:G=4+0:=by rw [I];rw [if_pos hx,hw];omega
     have HX:=hide (show F0+7*(4+0)=F1 by rw [ad.out,H]);clear I hx hw H;go_wp2_with ((at_builtin;refine wpList_append_own _ rfl _ _ 94 rfl w4.heap.size 3 i0 (.int .i64 0) 1 8 Tryz.underlying94 hi a8 ba bb rfl ag _ _ _ rfl (HS.out.2.2.2.1.1.alloc _) ⟨wr,0,none⟩ 1 1 [.int .i64 (F0+28-1)] rfl rfl ?c1k22 ?c2k22 ?c3k22 ?c4k22 ?c5k22 ?_))
     case c1k22 =>
      intro i u E
      match i,E with
      | 0,E=>simp at E;subst E;simp [Addr.add]
      | i+1,E=>simp at E
     case c2k22=>intro u E;simp at E;subst E;rfl
     case c3k22=>unfold maxLen;omega
     case c4k22=>omega
     case c5k22=>simp;omega
     ·intro v' w' f o _
      rw [show F0+28-1=F1-1 by have:=HX.out;omega] at f;have HG:=hide (HS.out.grow (x:=F1-1) _ (by rw [a2];exact f) o);clear f o;go_wp2;go_roundw
      case rel=>exact ⟨k+1,by go_num,by (rw [a5.out]) <;> (congr 1) <;> (have:=HX.out;omega),by omega,by rw [ab.out];exact HG.out⟩
      case measure=>simp [intOf];omega
    ·skip
     have b3:((k:Int)+1==c.extra)=false:=ae;have H:G=4+0:=by rw [I];rw [if_neg hx]
     have HX:=hide (show F0+7*(4+0)=F1 by rw [ad.out,H]);clear I hx H;go_wp2_with ((at_builtin;refine wpList_append_own _ rfl _ _ 94 rfl w4.heap.size 3 i0 (.int .i64 0) 1 8 Tryz.underlying94 hi a8 ba bb rfl ag _ _ _ rfl (HS.out.2.2.2.1.1.alloc _) ⟨wr,0,none⟩ 1 1 [.int .i64 (F0+28-1)] rfl rfl ?c1k23 ?c2k23 ?c3k23 ?c4k23 ?c5k23 ?_))
     case c1k23 =>
      intro i u E
      match i,E with
      | 0,E=>simp at E;subst E;simp [Addr.add]
      | i+1,E=>simp at E
     case c2k23=>intro u E;simp at E;subst E;rfl
     case c3k23=>unfold maxLen;omega
     case c4k23=>omega
     case c5k23=>simp;omega
     ·intro v' w' f o _
      rw [show F0+28-1=F1-1 by have:=HX.out;omega] at f;have HG:=hide (HS.out.grow (x:=F1-1) _ (by rw [a2];exact f) o);clear f o;go_wp2;go_roundw
      case rel=>exact ⟨k+1,by go_num,by (rw [a5.out]) <;> (congr 1) <;> (have:=HX.out;omega),by omega,by rw [ab.out];exact HG.out⟩
      case measure=>simp [intOf];omega
  ·obtain rfl:k=N:=om
   have HI:=hide (HS.out.ints (by rw [bk];omega));have cs:=HS.out.2.2.2.2;obtain ⟨U,hU⟩:∃ U,bm (fun i=>F (i+1)-1) k=U:=⟨_,rfl⟩;have HU:=hide hU;rw [hU] at HI;obtain ⟨F0,V⟩:∃ X,F k=X:=⟨_,rfl⟩;rw [V];clear hU V b0;go_wp2
   all_goals first
    | (exfalso;omega)
    | (go_ret2;exact ⟨_,rfl,by rw [HL.out,HU.out];exact HI.out,by (repeat' exact bel)⟩)
theorem B5 (c:ar) (y:Int) (w:World) (hn:c.name.size≤1000) (hE:aO c y 1601=0) (W:c.shape=3) :
  Calls Tryz.prog 101 #[av c,y] w (it c y w):=by
 obtain ⟨T,c4,c5⟩:=bo hE;have ah:c.okB=true:=by simpa [ar.okB] using T
 have b3:c.kind≠6:=fun h=>by have:=(dT T).2.1.1 h;omega
 have h4:¬ c.shape=4:=om;have h5:¬ c.shape=5:=om;have bc:dA c y=0:=by simp [dA,fZ,ah,b3,hE]
 have bh:=(gj bc).2.2.2.2.2.1;have HE:=hide hE;have cy:(c.shape==4)=false:=by simpa using h4
 have cE:(c.shape==5)=false:=by simpa using h5
 have al:=eM c ah;obtain ⟨N,hN⟩:∃ N:Nat,(cj c)=(N:Int):=⟨(cj c).toNat,by omega⟩;have hL:bi c y=bm (fun i=>bZ c y (i+1)-1) N:=by rw [bi,if_neg h4,if_neg h5,hN];rfl
 have HW:=hide (fun k=>pt T h4 h5 bh k);have b9:=hide (fun k=>oV T h4 h5 bh k);have ca:=hide (fun k=>tD T h4 h5 k);have a7:=hide (fun k=>(show bZ c y (k+1)=bZ c y k+7*cD c (aL c y) k from rfl));have a4:=hide (fun k=>(show cD c (aL c y) k=jk c k+if (k:Int)+1=c.extra then aL c y-52 else 0 from rfl));have bl:=hide (fun k=>(show jk c k=if k % 3=0 then eK c else if k % 3=1 then eJ c else eP c from rfl));have a3:=ch c y hE;have H0:=hide (show bZ c y 0=ax c y from rfl);obtain ⟨D,hD⟩:∃ D,ax c y=D:=⟨_,rfl⟩;obtain ⟨wk,bd⟩:∃ D,aL c y=D:=⟨_,rfl⟩;rw [hD] at HW a3 H0;rw [bd] at bh a7 a4 b9;rw [hN] at al;have HD:=hide hD;have bX:=hide (And.intro bd bc);have HN:=hide (And.intro hN (show co c=0 from kj T));have HL:=hide hL;have cS:0≤D∧D≤3068037:=⟨a3.1,a3.2.1⟩;have c0:12≤N∧N≤52:=om;obtain ⟨F,hF⟩:∃ F:Nat→Int,bZ c y=F:=⟨_,rfl⟩;rw [hF] at HW a7 H0 HL;obtain ⟨i0,hi,a8,ba,bb⟩:=info_parts iv;have c2:(c.shape==1)=false:=by simp [W]
 have c3:(c.shape==3)=true:=by simp [W]
 have a6:=hide (And.intro (show eK c=c.cycle by simp [eK,W]) (And.intro (show eJ c=c.cycle by simp [eJ,W]) (show eP c=c.cycle by simp [eP,W])));clear W;clear hE T ah b3 h4 h5 bc hL a3 hD bd hN al hF;simp only [av];go_enter Tryz.func101,Tryz.ntmps101;go_wp2_with fail;refine (fJ c y _ hn).mono ?_;rintro e w1 ⟨rfl,aA⟩;rw [HE.out];have c6:w.heap.size<w1.heap.size:=aj aA;have b5:Hid (Below w w w1):=ww aA;have bp:=hide (aa aA ac (au w c));obtain ⟨q0,q1,q2,q3,q4,q5,q6,q7,q8,q9,J,O,R,S⟩:=bp.out;clear aA;go_wp2_with fail;refine (gi c _ hn).mono ?_;rintro e w2 ⟨rfl,aB⟩;rw [HN.out.1,HN.out.2];have c7:w.heap.size<w2.heap.size:=aj aB;have b6:Hid (Below w w w2):=ao b5.out aB;have bt:Hid (aG w2 w c):=by have hp:=bp.out;exact qq aB
 clear q0 q1 q2 q3 q4 q5 q6 q7 q8 q9 J O R S;obtain ⟨q0,q1,q2,q3,q4,q5,q6,q7,q8,q9,J,O,R,S⟩:=bt.out;clear aB;go_wp2_with fail;refine (bq c y _ hn).mono ?_;rintro e w3 ⟨rfl,aF⟩;rw [bX.out.1,bX.out.2];have c8:w.heap.size<w3.heap.size:=aj aF;have b7:Hid (Below w w w3):=ao b6.out aF;have bw:Hid (aG w3 w c):=by have hp:=bt.out;exact qq aF
 clear q0 q1 q2 q3 q4 q5 q6 q7 q8 q9 J O R S;obtain ⟨q0,q1,q2,q3,q4,q5,q6,q7,q8,q9,J,O,R,S⟩:=bw.out;clear aF;go_wp2_with fail;refine (bO c y _ hn).mono ?_;rintro e w4 ⟨rfl,a0⟩;rw [HE.out,HD.out];have cl:w.heap.size<w4.heap.size:=aj a0;have b8:Hid (Below w w w4):=ao b7.out a0;have bx:Hid (aG w4 w c):=by have hp:=bw.out;exact qq a0
 clear q0 q1 q2 q3 q4 q5 q6 q7 q8 q9 J O R S;obtain ⟨q0,q1,q2,q3,q4,q5,q6,q7,q8,q9,J,O,R,S⟩:=bx.out;clear a0;have cb:=hide (show jJ c w.heap.size w4.heap.size [] (.slice none 0 0) w w4 from ⟨bx.out,cl,Nat.le_refl _,⟨World.ownsRow_nil _ _ _ _,by simp⟩,b8.out⟩);go_wp2_with fail;go_loopw [7,21,23] (fun s7 cp cr wr=>∃ k:Nat,cr=.int .i64 ((k:Int)+1)∧cp=.int .i64 (F k)∧k≤N∧jJ c w.heap.size w4.heap.size (bm (fun i=>F (i+1)-1) k) s7 w wr) (fun _ _ s _=>(60-intOf s).toNat)
 case atStart=>exact ⟨0,rfl,by rw [H0.out],by omega,cb.out⟩
 case round =>
  obtain ⟨k,rfl,rfl,hk,hS⟩:=hrel;have HS:=hide hS;have cI:=hS.2.2.1;have cM:=hS.2.1;clear hS;clear q0 q1 q2 q3 q4 q5 q6 q7 q8 q9 J O R S;have b1:=HW.out k;by_cases c1:k<N
  ·have b2:=HW.out (k+1)
   have aq:=a7.out k;have H:=a4.out k;have a1:=bl.out k;have al:=ca.out k;have ab:=hide (bB (fun i=>F (i+1)-1) k);have a2:(bm (fun i=>F (i+1)-1) k).length=k:=bk _ _;obtain ⟨F1,ay⟩:∃ X,F (k+1)=X:=⟨_,rfl⟩;rw [ay] at b2 aq;have a5:=hide ay;obtain ⟨F0,V⟩:∃ X,F k=X:=⟨_,rfl⟩;rw [V] at b1 aq;rw [V];obtain ⟨U,hU⟩:∃ U,bm (fun i=>F (i+1)-1) k=U:=⟨_,rfl⟩;rw [hU] at HS ab a2;rw [ay] at ab;obtain ⟨P,hP⟩:∃ X,jk c k=X:=⟨_,rfl⟩;rw [hP] at H a1 al;obtain ⟨G,hG⟩:∃ X,cD c wk k=X:=⟨_,rfl⟩;rw [hG] at H aq;have ad:=hide aq;clear ay V hU hP hG aq;obtain ⟨q0,q1,q2,q3,q4,q5,q6,q7,q8,q9,J,O,R,S⟩:=HS.out.1;rw [a6.out.1,a6.out.2.1,a6.out.2.2] at a1
   ·skip
    have b0:P=c.cycle:=by rw [a1];simp
    rw [b0] at H al;clear a1 b0;rcases (show ((k:Int)+1=c.extra∧wk=53)∨((k:Int)+1=c.extra∧wk=52)∨¬ (k:Int)+1=c.extra by omega) with ⟨hx,hw⟩ | ⟨hx,hw⟩ | hx
    ·skip
     have b4:((k:Int)+1==c.extra)=true:=ae;have cc:(wk==53)=true:=by simp [hw]
     have I:G=c.cycle+1:=by rw [H];rw [if_pos hx,hw];omega
     have HX:=hide (show F0+7*(c.cycle+1)=F1 by rw [ad.out,I]);clear H hx hw I;go_wp2_with ((at_builtin;refine wpList_append_own _ rfl _ _ 94 rfl w4.heap.size 3 i0 (.int .i64 0) 1 8 Tryz.underlying94 hi a8 ba bb rfl ag _ _ _ rfl (HS.out.2.2.2.1.1.alloc _) ⟨wr,0,none⟩ 1 1 [.int .i64 (F0+7*(c.cycle+1)-1)] rfl rfl ?c1k31 ?c2k31 ?c3k31 ?c4k31 ?c5k31 ?_))
     case c1k31 =>
      intro i u E
      match i,E with
      | 0,E=>simp at E;subst E;simp [Addr.add]
      | i+1,E=>simp at E
     case c2k31=>intro u E;simp at E;subst E;rfl
     case c3k31=>unfold maxLen;omega
     case c4k31=>omega
     case c5k31=>simp;omega
     ·intro v' w' f o _
      rw [show F0+7*(c.cycle+1)-1=F1-1 by have:=HX.out;omega] at f;have HG:=hide (HS.out.grow (x:=F1-1) _ (by rw [a2];exact f) o);clear f o;go_wp2;go_roundw
      case rel=>exact ⟨k+1,by go_num,by (rw [a5.out]) <;> (congr 1) <;> (have:=HX.out;omega),by omega,by rw [ab.out];exact HG.out⟩
      case measure=>simp [intOf];omega
    ·skip
     have b4:((k:Int)+1==c.extra)=true:=ae;have cc:(wk==53)=false:=by simp [hw]
     have I:G=c.cycle+0:=by rw [H];rw [if_pos hx,hw];omega
     have HX:=hide (show F0+7*(c.cycle+0)=F1 by rw [ad.out,I]);clear H hx hw I;go_wp2_with ((at_builtin;refine wpList_append_own _ rfl _ _ 94 rfl w4.heap.size 3 i0 (.int .i64 0) 1 8 Tryz.underlying94 hi a8 ba bb rfl ag _ _ _ rfl (HS.out.2.2.2.1.1.alloc _) ⟨wr,0,none⟩ 1 1 [.int .i64 (F0+7*c.cycle-1)] rfl rfl ?c1k32 ?c2k32 ?c3k32 ?c4k32 ?c5k32 ?_))
     case c1k32 =>
      intro i u E
      match i,E with
      | 0,E=>simp at E;subst E;simp [Addr.add]
      | i+1,E=>simp at E
     case c2k32=>intro u E;simp at E;subst E;rfl
     case c3k32=>unfold maxLen;omega
     case c4k32=>omega
     case c5k32=>simp;omega
     ·intro v' w' f o _
      rw [show F0+7*c.cycle-1=F1-1 by have:=HX.out;omega] at f;have HG:=hide (HS.out.grow (x:=F1-1) _ (by rw [a2];exact f) o);clear f o;go_wp2;go_roundw
      case rel=>exact ⟨k+1,by go_num,by (rw [a5.out]) <;> (congr 1) <;> (have:=HX.out;omega),by omega,by rw [ab.out];exact HG.out⟩
      case measure=>simp [intOf];omega
    ·skip
     have b4:((k:Int)+1==c.extra)=false:=ae;have I:G=c.cycle+0:=by rw [H];rw [if_neg hx]
     have HX:=hide (show F0+7*(c.cycle+0)=F1 by rw [ad.out,I]);clear H hx I;go_wp2_with ((at_builtin;refine wpList_append_own _ rfl _ _ 94 rfl w4.heap.size 3 i0 (.int .i64 0) 1 8 Tryz.underlying94 hi a8 ba bb rfl ag _ _ _ rfl (HS.out.2.2.2.1.1.alloc _) ⟨wr,0,none⟩ 1 1 [.int .i64 (F0+7*c.cycle-1)] rfl rfl ?c1k33 ?c2k33 ?c3k33 ?c4k33 ?c5k33 ?_))
     case c1k33 =>
      intro i u E
      match i,E with
      | 0,E=>simp at E;subst E;simp [Addr.add]
      | i+1,E=>simp at E
     case c2k33=>intro u E;simp at E;subst E;rfl
     case c3k33=>unfold maxLen;omega
     case c4k33=>omega
     case c5k33=>simp;omega
     ·intro v' w' f o _
      rw [show F0+7*c.cycle-1=F1-1 by have:=HX.out;omega] at f;have HG:=hide (HS.out.grow (x:=F1-1) _ (by rw [a2];exact f) o);clear f o;go_wp2;go_roundw
      case rel=>exact ⟨k+1,by go_num,by (rw [a5.out]) <;> (congr 1) <;> (have:=HX.out;omega),by omega,by rw [ab.out];exact HG.out⟩
      case measure=>simp [intOf];omega
  ·obtain rfl:k=N:=om
   have HI:=hide (HS.out.ints (by rw [bk];omega));have cs:=HS.out.2.2.2.2;obtain ⟨U,hU⟩:∃ U,bm (fun i=>F (i+1)-1) k=U:=⟨_,rfl⟩;have HU:=hide hU;rw [hU] at HI;obtain ⟨F0,V⟩:∃ X,F k=X:=⟨_,rfl⟩;rw [V];clear hU V b1;go_wp2
   all_goals first
    | (exfalso;omega)
    | (go_ret2;exact ⟨_,rfl,by rw [HL.out,HU.out];exact HI.out,by (repeat' exact bel)⟩)
theorem fF (c:ar) (y:Int) (w:World) (h:c.name.size≤1000) (f:aO c y 1601=0) :
  Calls Tryz.prog 101 #[av c,y] w (it c y w):=by
 have H:=(dT (bo f).1).2.2;by_cases F:c.shape=4
 ·exact re c y w h f F
 by_cases G:c.shape=5
 ·exact qX c y w h f G
 by_cases o:c.shape=1
 ·exact BB c y w h f o
 by_cases E:c.shape=2
 ·exact Cq c y w h f E
 ·exact B5 c y w h f om
theorem AS {w H:World} {K f o n g cap:Nat} {e:TypeId} {I:List Value} (h:w.ownsRow f e o (.slice (some ⟨g,0,none⟩) n cap) n I) (U:g<K) (S:Below K w H):H.ownsRow f e o (.slice (some ⟨g,0,none⟩) n cap) n I:=by
 refine ⟨h.1,?_⟩;rcases h.2 with J | ⟨V,G,E,T,O,F,R⟩
 ·exact .inl J
 ·cases T
  exact .inr ⟨g,cap,E,rfl,O,(S.block g U).trans F,R⟩
def xT (w:World) (g:Nat) (L:List Int):Prop:=g<w.heap.size∧∀ k,k<L.length→w.cell? ⟨g,k,none⟩=some (.int .i64 (L[k]?.getD 0))
theorem xT.call {w o:World} {g:Nat} {L:List Int} (h:xT w g L) (f:Below w w o):xT o g L:=
 ⟨Nat.lt_of_lt_of_le h.1 f.size,fun k E=>(f.cell (p:=⟨g,k,none⟩) h.1).trans (h.2 k E)⟩
theorem i7 {w:World} {f g cap n:Nat} {L:List Int} (h:w.ownsRow f 3 1 (.slice (some ⟨g,0,none⟩) n cap) n (ki L)):xT w g L:=by
 have H:=h.cells (g:=g) rfl;have e:∀ k:Nat,(⟨g,0,none⟩:Addr).add k=⟨g,k,none⟩:=by intro k;cases k <;> simp [Addr.add]
 refine ⟨?_,fun k J=>?_⟩
 ·rcases h.2 with ⟨G,_⟩ | ⟨O,E,F,I,R,o,S⟩
  ·cases G
  ·cases I;exact (Array.getElem?_eq_some_iff.1 o).1
 ·have:=H k (.int .i64 (L[k]?.getD 0)) (by simp [ki,J])
  rwa [e] at this
theorem wI (c:ar) (y:Int) (w:World) (S:c.name.size≤1000) (o:¬ aO c y 1601=0) :
  Calls Tryz.prog 228 #[av c,y] w fun e w'=>e=.returned (.tuple #[.slice none 0 0,aO c y 1601])∧Below w w w':=by
 have G:=hide o;obtain ⟨E,h⟩:∃ E,aO c y 1601=E:=⟨_,rfl⟩;have I:=hide h;rw [h] at o;have R:(E != 0)=true:=by simpa using o
 clear o h;simp only [av];go_enter Tryz.func228,Tryz.ntmps228;go_wp2_with fail;refine (yE c y _ S G.out).mono ?_;rintro e O ⟨rfl,f⟩;rw [I.out];have T:w.heap.size<O.heap.size:=aj f;have F:Hid (Below w w O):=ww f;have H:=hide (aa f ac (au w c));obtain ⟨q0,q1,q2,q3,q4,q5,q6,q7,q8,q9,U,V,W,ab⟩:=H.out;clear f;have J:=F.out;go_wp2;go_ret2;exact ⟨by rw [I.out];rfl,by (repeat' exact bel)⟩
def xa (c:ar) (y:Int) (w:World) (e:Ending) (f:World):Prop:=∃ v,e=.returned (.tuple #[v,.int .i64 0])∧E3 f v (jW c y)∧Below w w f
theorem mF (c:ar) (y:Int) (w:World) (hn:c.name.size≤1000) (hE:aO c y 1601=0) :
  Calls Tryz.prog 228 #[av c,y] w (xa c y w):=by
 have a0:=fs c y hE;obtain ⟨N,hN⟩:∃ N,(bi c y).length=N:=⟨_,rfl⟩;have b9:12≤N∧N≤52:=by rw [← hN];exact a0
 have HL:=hide (show jW c y=bm (jr c y) N by rw [jW,hN];rfl);have HP:=hide (fun k (h:k<N)=>dM c y hE k om);have T:=hide (fun k (h:k≤N)=>il c y hE k om);have bc:=hide (fun k=>bM c y k);have bl:=hide (fun k=>(show jr c y k=(bJ c y k-aM c y k) / 7+1 from rfl));have ba:=hide (fun k=>(show (bi c y)[k]?.getD 0=bJ c y k from rfl));have ay:=hide (show aM c y 0=ax c y by simp [aM]);have R:=ch c y hE;have HE:=hide hE;obtain ⟨D,hD⟩:∃ D,ax c y=D:=⟨_,rfl⟩;rw [hD] at T ay R;have HD:=hide hD;have b8:0≤D∧D≤3068037:=⟨R.1,R.2.1⟩;have HN:=hide hN;obtain ⟨i0,hi,bX,b0,b1⟩:=info_parts iv;clear a0 hE R hD hN;simp only [av];go_enter Tryz.func228,Tryz.ntmps228;go_wp2_with fail;refine (fF c y _ hn HE.out).mono ?_;rintro e w1 ⟨v,rfl,hv,J⟩;obtain ⟨g,cap,rfl,E⟩:=hv;rw [HN.out] at E ⊢;have a4:=i7 E;have V:=hide E;have bw:=a4.1;clear E a4;have cr:w.heap.size<w1.heap.size:=aj J;have a7:Hid (Below w w w1):=ww J;have aA:=hide (aa J ac (au w c));obtain ⟨q0,q1,q2,q3,q4,q5,q6,q7,q8,q9,ad,ah,al,aq⟩:=aA.out;clear J;go_wp2_with fail;refine (bO c y _ hn).mono ?_;rintro e S ⟨rfl,F⟩;rw [HE.out,HD.out];have W:=hide (fy V.out F);have bx:g<S.heap.size:=Nat.lt_of_lt_of_le bw F.size;have b2:w.heap.size<S.heap.size:=aj F;have a8:Hid (Below w w S):=ao a7.out F;have aB:Hid (aG S w c):=by have hp:=aA.out;exact qq F
 clear q0 q1 q2 q3 q4 q5 q6 q7 q8 q9 ad ah al aq;obtain ⟨q0,q1,q2,q3,q4,q5,q6,q7,q8,q9,ad,ah,al,aq⟩:=aB.out;clear F;have bh:=hide (show jJ c w.heap.size S.heap.size [] (.slice none 0 0) w S from ⟨aB.out,b2,Nat.le_refl _,⟨World.ownsRow_nil _ _ _ _,by simp⟩,a8.out⟩);go_wp2_with fail;go_loopw [8,10,30] (fun s8 b3 b4 wr=>∃ k:Nat,b4=.int .i64 k∧s8=.int .i64 (aM c y k)∧k≤N∧jJ c w.heap.size S.heap.size (bm (jr c y) k) b3 w wr∧wr.ownsRow 0 3 1 (.slice (some ⟨g,0,none⟩) N cap) N (ki (bi c y))) (fun _ _ s _=>(60-intOf s).toNat)
 case atStart=>exact ⟨0,rfl,by rw [ay.out],by omega,bh.out,W.out⟩
 case round =>
  obtain ⟨k,rfl,rfl,hk,hS,hR⟩:=hrel;have HS:=hide hS;have HR:=hide hR;have bp:=hS.2.2.1;have b7:=hS.2.1;clear hS hR;clear q0 q1 q2 q3 q4 q5 q6 q7 q8 q9 ad ah al aq;have a1:=T.out k hk;by_cases a3:k<N
  ·have c0:=(i7 HR.out).2 k (by have:=HN.out;omega)
   rw [ba.out k] at c0;have hp:=HP.out k a3;have bt:=bc.out k;have a2:=T.out (k+1) a3;have a6:=bl.out k;have aF:=hide (bB (jr c y) k);have a5:(bm (jr c y) k).length=k:=bk _ _;obtain ⟨F1,I⟩:∃ X,aM c y (k+1)=X:=⟨_,rfl⟩;obtain ⟨F0,f⟩:∃ X,aM c y k=X:=⟨_,rfl⟩;obtain ⟨E0,G⟩:∃ X,bJ c y k=X:=⟨_,rfl⟩;obtain ⟨A0,ab⟩:∃ X,jr c y k=X:=⟨_,rfl⟩;obtain ⟨U,hU⟩:∃ X,bm (jr c y) k=X:=⟨_,rfl⟩;have bb:=hide I;rw [I,G] at bt;rw [I] at a2;rw [f,G] at hp;rw [ab,f,G] at a6;rw [f] at a1;rw [f];rw [G] at c0;rw [hU,ab] at aF;rw [hU] at HS a5;have cp:(E0-F0+7).tdiv 7=A0:=by rw [Int.tdiv_eq_ediv_of_nonneg om];omega
   have ca:g<wr.heap.size:=om;have cb:(0:Int)≤(k:Int):=om;have cc:(k:Int)<(N:Int):=om;have b5:1≤A0∧A0≤6:=om;have cl:7≤E0-F0+1∧E0-F0+1≤42:=⟨hp.1,hp.2.1⟩;clear hp a6 I f G ab hU;go_wp2_with ((at_builtin;refine wpList_append_own _ rfl _ _ 94 rfl S.heap.size 3 i0 (.int .i64 0) 1 8 Tryz.underlying94 hi bX b0 b1 rfl ag _ _ _ rfl (HS.out.2.2.2.1.1.alloc _) ⟨wr,0,none⟩ 1 1 [.int .i64 (A0)] rfl rfl ?c1w ?c2w ?c3w ?c4w ?c5w ?_))
   case c1w =>
    intro i u O
    match i,O with
    | 0,O=>simp at O;subst O;simp [Addr.add]
    | i+1,O=>simp at O
   case c2w=>intro u O;simp at O;subst O;rfl
   case c3w=>unfold maxLen;omega
   case c4w=>omega
   case c5w=>simp;omega
   ·intro v' w' H o _
    have HG:=hide (HS.out.grow (x:=A0) _ (by rw [a5];exact H) o);have bd:=hide (AS HR.out bx (((Below.refl S.heap.size wr).alloc bp (.cells #[A0] 3)).grown o ae (fun k hk=>by have:=(HS.out.2.2.2.1.1.lt k hk).1;omega)));clear H o;go_wp2;go_roundw
    case rel=>exact ⟨k+1,by go_num,by rw [bb.out];congr 1;omega,by omega,by rw [aF.out];exact HG.out,bd.out⟩
    case measure=>simp [intOf];omega
  ·obtain rfl:k=N:=om
   have HI:=hide (HS.out.ints (by rw [bk];omega));have b6:=HS.out.2.2.2.2;obtain ⟨U,hU⟩:∃ U,bm (jr c y) k=U:=⟨_,rfl⟩;have HU:=hide hU;rw [hU] at HI;obtain ⟨F0,f⟩:∃ X,aM c y k=X:=⟨_,rfl⟩;rw [f];clear hU f a1;go_wp2
   all_goals first
    | (exfalso;omega)
    | (go_ret2;exact ⟨_,rfl,by rw [HL.out,HU.out];exact HI.out,by (repeat' exact bel)⟩)
theorem Jr {c:ar} {y:Int} (f:aO c y 1601=0) (k:Nat) (o:k<aU c y):jr c y k=(oZ c y k:Int)∧1≤jr c y k∧jr c y k≤6:=by
 have h:=lD c y f k o;unfold oZ at h ⊢;omega
theorem Av {c:ar} {y:Int} (E:dA c y=0) (F:aL c y=53):aD c y=(ci c y c.extra.toNat:Int)∧1≤c.extra.toNat∧c.extra.toNat≤aU c y:=by
 obtain ⟨G,o,f,H,_,_,_⟩:=gj E;obtain ⟨S,T⟩:=mw G f;have h:=gQ c y o;have R:(aU c y:Int)=cj c:=h;obtain ⟨m,I⟩:∃ m:Nat,c.extra.toNat=m+1:=⟨c.extra.toNat-1,by omega⟩;have J:=Iw c y H f (m+1) om;have O:=bM c y m;have e:(c.extra-1).toNat=m:=om;rw [aD,if_pos ⟨E,F⟩,e,I];refine ⟨by omega,by omega,by omega⟩
theorem cX (c:ar) (y:Int) (w:World) (hn:c.name.size≤1000) :
  Calls Tryz.prog 198 #[av c,y] w fun e w'=>e=.returned (.tuple #[aD c y,dA c y])∧Below w w w':=by
 rcases eY c with ⟨_,h1,h2⟩ | ⟨_,h1,h2⟩
 ·have HE:=hide h1
  by_cases hk:c.kind=6
  ·have b5:(c.kind==6)=true:=by simp [hk]
   have hw:dA c y=1:=by simp [dA,fZ,hk]
   have H1:=hide (show aD c y=0 by rw [aD,if_neg om]);have H2:=hide hw;clear h1 h2 hk hw;simp only [av];go_enter Tryz.func198,Tryz.ntmps198;go_wp2_with fail;refine (aH c _ hn).mono ?_;rintro e w1 ⟨rfl,f⟩;rw [HE.out];have aq:w.heap.size<w1.heap.size:=aj f;have S:Hid (Below w w w1):=ww f;have J:=hide (aa f ac (au w c));obtain ⟨W,q1,q2,q3,q4,q5,q6,q7,q8,q9,o,G,H,I⟩:=J.out;clear f;have V:=S.out;go_wp2;go_ret2;exact ⟨aw H1.out.symm H2.out.symm,by (repeat' exact bel)⟩
  ·have b5:(c.kind==6)=false:=by simpa using hk
   have ah:dA c y=aO c y 1601:=by simp [dA,fZ,hk,h2]
   by_cases U:aO c y 1601=0
   ·have ad:dA c y=0:=by rw [ah];exact U
    have bw:=(gj ad).2.2.2.2.2.1;have HA:=hide U;have al:=hide ad;by_cases a5:aL c y=52
    ·have H1:=hide (show aD c y=0 by rw [aD,if_neg om])
     have a4:=hide a5;clear h1 h2 hk ah U ad bw a5;simp only [av];go_enter Tryz.func198,Tryz.ntmps198;go_wp2_with fail;refine (aH c _ hn).mono ?_;rintro e w1 ⟨rfl,f⟩;rw [HE.out];have aq:w.heap.size<w1.heap.size:=aj f;have S:Hid (Below w w w1):=ww f;have J:=hide (aa f ac (au w c));obtain ⟨W,q1,q2,q3,q4,q5,q6,q7,q8,q9,o,G,H,I⟩:=J.out;clear f;go_wp2_with fail;refine (mF c y _ hn HA.out).mono ?_;rintro e w2 ⟨v,rfl,hv,F⟩;obtain ⟨g,cap,rfl,R⟩:=hv;clear R;have bx:w.heap.size<w2.heap.size:=aj F;have ab:Hid (Below w w w2):=ao S.out F;have T:Hid (aG w2 w c):=by have hp:=J.out;exact qq F
     clear W q1 q2 q3 q4 q5 q6 q7 q8 q9 o G H I;obtain ⟨W,q1,q2,q3,q4,q5,q6,q7,q8,q9,o,G,H,I⟩:=T.out;clear F;go_wp2_with fail;refine (bq c y _ hn).mono ?_;rintro e w3 ⟨rfl,O⟩;rw [a4.out,al.out];have b6:w.heap.size<w3.heap.size:=aj O;have aF:Hid (Below w w w3):=ao ab.out O;have a0:Hid (aG w3 w c):=by have hp:=T.out;exact qq O
     clear W q1 q2 q3 q4 q5 q6 q7 q8 q9 o G H I;obtain ⟨W,q1,q2,q3,q4,q5,q6,q7,q8,q9,o,G,H,I⟩:=a0.out;clear O;have V:=aF.out;go_wp2
     all_goals first
      | (exfalso;omega)
      | (go_ret2;exact ⟨aw H1.out.symm al.out.symm,by (repeat' exact bel)⟩)
    ·have a6:aL c y=53:=om
     obtain ⟨a1,a2,a3⟩:=Av ad a6;have H1:=hide a1;have a4:=hide a6;have b2:=fs c y U;have bt:=Az c y;have bd:=hide (fun k (h:k<aU c y)=>Jr U k h);have aA:=hide (fun k (h:k<aU c y)=>(show (jW c y)[k]?.getD 0=jr c y k by simp [jW,show k<(bi c y).length from h]));have b0:=hide (fun k=>(show ci c y (k+1)=ci c y k+oZ c y k from rfl));have a8:=hide (fun k (h:k≤aU c y)=>(show ci c y k≤60 from Nat.le_trans (lF c y h) (di c y U).2));obtain ⟨X,hX⟩:∃ X:Nat,c.extra=(X:Int):=⟨c.extra.toNat,by omega⟩;have bl:c.extra.toNat=X:=om;rw [bl] at H1 a2 a3;have HX:=hide hX;obtain ⟨N,hN⟩:∃ N,(bi c y).length=N:=⟨_,rfl⟩;have bh:aU c y=N:=hN;rw [bh] at b2 a3 bd aA a8;have HN:=hide (And.intro (show (jW c y).length=N by rw [bt,hN]) hN);have cl:¬ c.extra<0:=om;have cp:c.extra≤(N:Int):=om;clear h1 h2 hk ah U ad bw a5 a6 a1 bt hN bh bl hX;simp only [av];go_enter Tryz.func198,Tryz.ntmps198;go_wp2_with fail;refine (aH c _ hn).mono ?_;rintro e w1 ⟨rfl,f⟩;rw [HE.out];have aq:w.heap.size<w1.heap.size:=aj f;have S:Hid (Below w w w1):=ww f;have J:=hide (aa f ac (au w c));obtain ⟨W,q1,q2,q3,q4,q5,q6,q7,q8,q9,o,G,H,I⟩:=J.out;clear f;go_wp2_with fail;refine (mF c y _ hn HA.out).mono ?_;rintro e w2 ⟨v,rfl,hv,F⟩;obtain ⟨g,cap,rfl,R⟩:=hv;rw [HN.out.1] at R ⊢;have bp:=i7 R;have cc:N≤cap:=by
      rcases R.2 with ⟨h,_⟩ | ⟨g',cb,cr,he,_,_,h3,_⟩
      ·cases h
      ·cases he;exact h3
     have bb:=hide bp;clear R bp;have bx:w.heap.size<w2.heap.size:=aj F;have ab:Hid (Below w w w2):=ao S.out F;have T:Hid (aG w2 w c):=by have hp:=J.out;exact qq F
     clear W q1 q2 q3 q4 q5 q6 q7 q8 q9 o G H I;obtain ⟨W,q1,q2,q3,q4,q5,q6,q7,q8,q9,o,G,H,I⟩:=T.out;clear F;go_wp2_with fail;refine (bq c y _ hn).mono ?_;rintro e w3 ⟨rfl,O⟩;rw [a4.out,al.out];have bc:=hide (bb.out.call O);have b6:w.heap.size<w3.heap.size:=aj O;have aF:Hid (Below w w w3):=ao ab.out O;have a0:Hid (aG w3 w c):=by have hp:=T.out;exact qq O
     clear W q1 q2 q3 q4 q5 q6 q7 q8 q9 o G H I;obtain ⟨W,q1,q2,q3,q4,q5,q6,q7,q8,q9,o,G,H,I⟩:=a0.out;clear O;rw [HX.out] at o;go_wp2_with fail
     all_goals first
      | (exfalso;omega)
      | skip
     go_loopw [10,43] (fun b7 b8 wr=>∃ k:Nat,b8=.int .i64 k∧b7=.int .i64 (ci c y k:Int)∧k≤X∧Below w w wr∧xT wr g (jW c y)) (fun _ s _=>(60-intOf s).toNat)
     case atStart=>exact ⟨0,rfl,rfl,by omega,aF.out,bc.out⟩
     case round =>
      obtain ⟨k,rfl,rfl,hk,V,hR⟩:=hrel;have HR:=hide hR;clear hR;have b3:=a8.out k om;by_cases cM:k<X
      ·have c0:=HR.out.2 k (by have:=HN.out.1;omega)
       rw [aA.out k om] at c0;obtain ⟨bX,b9,ca⟩:=bd.out k om;have b4:=b0.out k;obtain ⟨A,U⟩:∃ A,jr c y k=A:=⟨_,rfl⟩;rw [U] at c0 bX b9 ca;have aB:(ci c y (k+1):Int)=(ci c y k:Int)+A:=om;have ay:=hide aB;obtain ⟨Cw,hC⟩:∃ Cw,ci c y k=Cw:=⟨_,rfl⟩;rw [hC] at ay b3;rw [hC];have cy:=HR.out.1;have cE:(0:Int)≤(k:Int):=om;have cI:(k:Int)<(X:Int):=om;clear b4 aB U hC bX;go_wp2
       all_goals first
        | (exfalso;omega)
        | skip
       go_roundw
       case rel=>exact ⟨k+1,by go_num,by rw [ay.out],by omega,by (repeat' exact bel),HR.out.call an⟩
       case measure=>simp [intOf];omega
      ·obtain rfl:k=X:=om
       obtain ⟨Cw,hC⟩:∃ Cw,ci c y k=Cw:=⟨_,rfl⟩;rw [hC] at H1;rw [hC];clear hC;go_wp2
       all_goals first
        | (exfalso;omega)
        | (go_ret2;exact ⟨aw H1.out.symm al.out.symm,by (repeat' exact bel)⟩)
   ·have H1:=hide (show aD c y=0 by rw [aD,if_neg om])
    have b1:=hide U;obtain ⟨E,a7⟩:∃ E,aO c y 1601=E:=⟨_,rfl⟩;have ba:=hide a7;have HW:=hide ah;rw [a7] at U;have cs:(E != 0)=true:=by simpa using U
    clear h1 h2 hk ah U a7;simp only [av];go_enter Tryz.func198,Tryz.ntmps198;go_wp2_with fail;refine (aH c _ hn).mono ?_;rintro e w1 ⟨rfl,f⟩;rw [HE.out];have aq:w.heap.size<w1.heap.size:=aj f;have S:Hid (Below w w w1):=ww f;have J:=hide (aa f ac (au w c));obtain ⟨W,q1,q2,q3,q4,q5,q6,q7,q8,q9,o,G,H,I⟩:=J.out;clear f;go_wp2_with fail;refine (wI c y _ hn b1.out).mono ?_;rintro e w2 ⟨rfl,F⟩;rw [ba.out];have bx:w.heap.size<w2.heap.size:=aj F;have ab:Hid (Below w w w2):=ao S.out F;have T:Hid (aG w2 w c):=by have hp:=J.out;exact qq F
    clear W q1 q2 q3 q4 q5 q6 q7 q8 q9 o G H I;obtain ⟨W,q1,q2,q3,q4,q5,q6,q7,q8,q9,o,G,H,I⟩:=T.out;clear F;have V:=ab.out;go_wp2;go_ret2;exact ⟨aw H1.out.symm (by rw [HW.out,ba.out]),by (repeat' exact bel)⟩
 ·have HE:=hide h1
  have hw:dA c y=1:=by simp [dA,fZ,h2]
  have H1:=hide (show aD c y=0 by rw [aD,if_neg om]);have H2:=hide hw;clear h1 h2 hw;simp only [av];go_enter Tryz.func198,Tryz.ntmps198;go_wp2_with fail;refine (aH c _ hn).mono ?_;rintro e w1 ⟨rfl,f⟩;rw [HE.out];have aq:w.heap.size<w1.heap.size:=aj f;have S:Hid (Below w w w1):=ww f;have J:=hide (aa f ac (au w c));obtain ⟨W,q1,q2,q3,q4,q5,q6,q7,q8,q9,o,G,H,I⟩:=J.out;clear f;have V:=S.out;go_wp2;go_ret2;exact ⟨aw H1.out.symm H2.out.symm,by (repeat' exact bel)⟩
end
end Go.Proofs.YtjhhmeoibfdcmaaGreat
