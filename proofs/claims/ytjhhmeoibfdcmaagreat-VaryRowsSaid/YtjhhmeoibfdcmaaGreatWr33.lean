/- Lemmas. -/
import Derived.Laws.CopyOwn
import Derived.Laws.Tables
import Derived.Test.YtjhhmeoibfdcmaaGreatWr10
import Derived.Test.YtjhhmeoibfdcmaaGreatWr17
import Derived.Test.YtjhhmeoibfdcmaaGreatWr25
import Derived.Test.YtjhhmeoibfdcmaaGreatWr26
import Derived.Test.YtjhhmeoibfdcmaaGreatWr27
set_option linter.unusedSimpArgs false
set_option linter.unusedVariables false
set_option maxRecDepth 100000
set_option maxHeartbeats 12800000
namespace Go.Proofs.YtjhhmeoibfdcmaaGreat
section
open Go.RowKit Go.Shelf Qd
theorem zH.call {w f:World} {v:Value} {L:List Un} (h:zH w v L) (G:Below w w f):zH f v L:=by
 rcases h with h | ⟨g,cap,o,E,F⟩
 ·exact .inl h
 ·exact .inr ⟨g,cap,o,E,F.call G⟩
theorem xq (c:ar) (u:Un) (k:Int) (w:World) (J:c.name.size≤1000) (H:¬ aE c u=0) :
  Calls Tryz.prog 126 #[av c,aC u,k] w fun e W=>e=.returned (.tuple #[.slice none 0 0,aE c u])∧Below w w W:=by
 have I:(aE c u != 0)=true:=by simpa using H
 clear H;simp only [av,aC];go_enter Tryz.func126,Tryz.ntmps126;go_wp2_with fail;refine (eT c u _ J).mono ?_;rintro e F ⟨rfl,f⟩;have R:w.heap.size+1<F.heap.size:=aj f;have h:Hid (Below w w F):=ww f;have o:=hide (aa f ae (az (au w c) ac _));have E:=hide (aS f ac (cA w c u));obtain ⟨q0,q1,q2,q3,q4,q5,q6,q7,q8,q9,S,T,U,V⟩:=o.out;obtain ⟨u0,u1,u2⟩:=E.out;have O:w.heap.size<F.heap.size:=om;clear f;have G:=h.out;go_wp2;go_ret2;exact ⟨rfl,by (repeat' exact bel)⟩
theorem yd (c:ar) (u:Un) (k:Int) (w:World) (V:c.name.size≤1000) (G:aE c u=0) (H:k<c.first-u.yr∨(c.first-u.yr≤k∧c.last-u.yr<k)) :
  Calls Tryz.prog 126 #[av c,aC u,k] w fun e w'=>e=.returned (.tuple #[.slice none 0 0,.int .i64 11])∧Below w w w':=by
 have S:=(bN G).1;obtain ⟨I,h,_,_,J,W,_⟩:=a9 S;have ab:=dR h;have T:=hide G;clear G S I h;simp only [av,aC];go_enter Tryz.func126,Tryz.ntmps126;go_wp2_with fail;refine (eT c u _ V).mono ?_;rintro e O ⟨rfl,f⟩;rw [T.out];have ad:w.heap.size+1<O.heap.size:=aj f;have o:Hid (Below w w O):=ww f;have E:=hide (aa f ae (az (au w c) ac _));have F:=hide (aS f ac (cA w c u));obtain ⟨q0,q1,q2,q3,q4,q5,q6,q7,q8,q9,ah,al,aq,ay⟩:=E.out;obtain ⟨u0,u1,u2⟩:=F.out;have J:w.heap.size<O.heap.size:=om;clear f;have R:=o.out;rcases H with H | ⟨H,U⟩
 all_goals
  go_wp2
  all_goals first
   | (exfalso;omega)
   | (go_ret2;exact ⟨rfl,by (repeat' exact bel)⟩)
def ox (c:ar) (L:List Un) (g cap B:Nat) (f w:World):Prop:=aG w B c∧B<w.heap.size∧de w g cap L∧g<w.heap.size∧Below B f w
theorem ox.call {c:ar} {L:List Un} {g cap B:Nat} {E w o:World} (h:ox c L g cap B E w) (f:Below w w o):ox c L g cap B E o:=⟨aa f h.2.1 h.1,Nat.lt_of_lt_of_le h.2.1 f.size,h.2.2.1.call f,Nat.lt_of_lt_of_le h.2.2.2.1 f.size,h.2.2.2.2.trans (f.mono (Nat.le_of_lt h.2.1))⟩
theorem ox.alloc {c:ar} {L:List Un} {g cap B:Nat} {f w:World} (h:ox c L g cap B f w) (o:Obj):ox c L g cap B f (w.alloc o):=h.call ((Below.refl _ _).alloc (Nat.le_refl _) _)
theorem oR {c:ar} {L:List Un} (h:uo c L=true) {j:Nat} {x:Un} (f:L[j]?=some x):c.first≤x.yr∧x.yr≤c.last:=mS h (List.mem_of_getElem? f)
theorem oH {c:ar} {L:List Un} (h:∀ (j:Nat) (x:Un),L[j]?=some x→c.first≤x.yr∧x.yr≤c.last):uo c L=true:=by
 refine List.all_eq_true.2 fun x o=>?_
 obtain ⟨j,f⟩:=List.mem_iff_getElem?.1 o;have:=h j x f;simpa using this
theorem zj {c:ar} {u:Un} {k:Int} (f:aE c u=0) (o:c.first≤u.yr+k∧u.yr+k≤c.last) (h:dx c u k=[]):ju c u k=12∧gZ c u k=[]:=by
 have e:ju c u k=12:=by rw [ju,if_pos f,if_pos o,h];rfl
 exact ⟨e,sG (by rw [e];decide)⟩
theorem zi {c:ar} {u:Un} {k:Int} (f:aE c u=0) (o:c.first≤u.yr+k∧u.yr+k≤c.last) (h:¬ uo c (dx c u k)=true):ju c u k=11∧gZ c u k=[]:=by
 have e:ju c u k=11:=by rw [ju,if_pos f,if_pos o,if_neg h]
 exact ⟨e,sG (by rw [e];decide)⟩
theorem GN {c:ar} {u:Un} {k:Int} (f:aE c u=0) (o:c.first≤u.yr+k∧u.yr+k≤c.last) (h:uo c (dx c u k)=true) (E:0<(dx c u k).length):ju c u k=0∧gZ c u k=dx c u k:=by
 have e:ju c u k=0:=by rw [ju,if_pos f,if_pos o,if_pos h,if_neg om]
 exact ⟨e,by rw [gZ,if_pos e]⟩
theorem Gb (c:ar) (u:Un) (k:Int) (w:World) (hn:c.name.size≤1000) (S:aE c u=0) (hr:c.first≤u.yr+k∧u.yr+k≤c.last) (U:c.kind≠6) :
  Calls Tryz.prog 126 #[av c,aC u,k] w fun e w'=>(∃ v,e=.returned (.tuple #[v,ju c u k])∧zH w' v (gZ c u k))∧Below w w w':=by
 have hf:=(bN S).1;have hA:=(bN S).2.2.2.1;obtain ⟨bw,a5,_,_,bx,b2,_⟩:=a9 hf;have ay:=dR a5;have a6:dx c u k=cZ c u.yr (u.yr+k) (dS c u):=by simp [dx,U]
 have a7:=o5 S hr;have ad:=hide (fun (w:World)=>tO c u (u.yr+k) w hn S U hr);have HU:=hide S;have b0:(c.kind==6)=false:=by simpa using U
 have aB:=hide (fun (h:dx c u k=[])=>zj S hr h);have aA:=hide (fun (h:¬ uo c (dx c u k)=true)=>zi S hr h);have H0:=hide (fun (h:uo c (dx c u k)=true) (h0:0<(dx c u k).length)=>GN S hr h h0);obtain ⟨L,hL⟩:∃ L,dx c u k=L:=⟨_,rfl⟩;rw [← a6] at ad;rw [hL] at ad a7 aB aA H0;have bX:1602≤c.first∧c.last≤9996:=⟨ay.2.2.1,ay.2.2.2.1⟩
 clear S hf bw a5 U hA a6 hL ay;simp only [av,aC];go_enter Tryz.func126,Tryz.ntmps126;go_wp2_with fail;refine (eT c u _ hn).mono ?_;rintro e w1 ⟨rfl,J⟩;rw [HU.out];have b3:w.heap.size+1<w1.heap.size:=aj J;have ba:Hid (Below w w w1):=ww J;have a3:=hide (aa J ae (az (au w c) ac _));have bb:=hide (aS J ac (cA w c u));obtain ⟨W,q1,q2,q3,q4,q5,q6,q7,q8,q9,o,E,F,G⟩:=a3.out;obtain ⟨u0,u1,u2⟩:=bb.out;have bx:w.heap.size<w1.heap.size:=om;clear J;go_wp2_with fail
 all_goals first
  | (exfalso;omega)
  | skip
 refine (ad.out _).mono ?_;rintro e w2 ⟨v,rfl,hv,T⟩;have b1:=T.size;have R:=hide (aa T om a3.out);have aF:=hide (ba.out.trans (T.mono om));clear T u0 u1 u2;clear W q1 q2 q3 q4 q5 q6 q7 q8 q9 o E F G;rcases hv with ⟨bh,rfl⟩ | ⟨g,cap,rfl,ah,aq⟩
 ·have f:=hide (aB.out bh)
  obtain ⟨W,q1,q2,q3,q4,q5,q6,q7,q8,q9,o,E,F,G⟩:=R.out;go_wp2_with fail;go_loopw [55] (fun s wr=>s=.int .i64 0∧Below w w wr) (fun s _=>(500-intOf s).toNat)
  case atStart=>exact ⟨rfl,aF.out⟩
  case round =>
   obtain ⟨rfl,V⟩:=hrel;go_wp2;go_ret2;rw [f.out.1,f.out.2];exact ⟨⟨_,rfl,.inl ⟨rfl,rfl⟩⟩,by (repeat' exact bel)⟩
 ·have bl:=aq.lt ah
  have a4:=hide (show ox c L g cap w.heap.size w w2 from ⟨R.out,by omega,aq,bl.1,aF.out⟩);clear aq;by_cases I:uo c L=true
  ·have f:=hide (H0.out I ah)
   have ab:=hide I;clear I;obtain ⟨W,q1,q2,q3,q4,q5,q6,q7,q8,q9,o,E,F,G⟩:=R.out;go_wp2_with fail;go_loopw [55] (fun s wr=>∃ j:Nat,s=.int .i64 j∧j≤L.length∧ox c L g cap w.heap.size w wr) (fun s _=>(500-intOf s).toNat)
   case atStart=>exact ⟨0,rfl,Nat.zero_le _,a4.out⟩
   case round =>
    obtain ⟨j,rfl,hj,hS⟩:=hrel;have H:=hide hS;clear hS;clear W q1 q2 q3 q4 q5 q6 q7 q8 q9 o E F G;obtain ⟨W,q1,q2,q3,q4,q5,q6,q7,q8,q9,o,E,F,G⟩:=H.out.1;have bc:=H.out.2.1;have bd:=H.out.2.2.2.1;have V:=H.out.2.2.2.2;by_cases al:j<L.length
    ·obtain ⟨x,O⟩:∃ x,L[j]?=some x:=⟨_,List.getElem?_eq_getElem al⟩
     have a8:=oR ab.out O;obtain ⟨a0,a1,a2⟩:=de.cell H.out.2.2.1 O;clear O;have bp:(0:Int)≤(j:Int):=om;have bt:(j:Int)<(L.length:Int):=om;go_wp2
     all_goals first
      | (exfalso;omega)
      | skip
     go_roundw
     case rel=>exact ⟨j+1,by go_num,by omega,H.out.call an⟩
     case measure=>simp [intOf];omega
    ·go_wp2
     all_goals first
      | (exfalso;omega)
      | (go_ret2;rw [f.out.1,f.out.2];exact ⟨⟨_,rfl,.inr ⟨g,cap,rfl,ah,H.out.2.2.1⟩⟩,by (repeat' exact bel)⟩)
  ·have f:=hide (aA.out I)
   have ab:=hide I;clear I;obtain ⟨W,q1,q2,q3,q4,q5,q6,q7,q8,q9,o,E,F,G⟩:=R.out;go_wp2_with fail;go_loopw [55] (fun s wr=>∃ j:Nat,s=.int .i64 j∧j≤L.length∧Hid (∀ (i:Nat) (x:Un),i<j→L[i]?=some x→c.first≤x.yr∧x.yr≤c.last)∧ox c L g cap w.heap.size w wr) (fun s _=>(500-intOf s).toNat)
   case atStart=>exact ⟨0,rfl,Nat.zero_le _,hide (fun i x h=>by omega),a4.out⟩
   case round =>
    obtain ⟨j,rfl,hj,HI,hS⟩:=hrel;have H:=hide hS;clear hS;clear W q1 q2 q3 q4 q5 q6 q7 q8 q9 o E F G;obtain ⟨W,q1,q2,q3,q4,q5,q6,q7,q8,q9,o,E,F,G⟩:=H.out.1;have bc:=H.out.2.1;have bd:=H.out.2.2.2.1;have V:=H.out.2.2.2.2;by_cases al:j<L.length
    ·obtain ⟨x,O⟩:∃ x,L[j]?=some x:=⟨_,List.getElem?_eq_getElem al⟩
     obtain ⟨a0,a1,a2⟩:=de.cell H.out.2.2.1 O;have HX:=hide O;clear O;have bp:(0:Int)≤(j:Int):=om;have bt:(j:Int)<(L.length:Int):=om;by_cases a8:c.first≤x.yr∧x.yr≤c.last
     ·go_wp2
      all_goals first
       | (exfalso;omega)
       | skip
      go_roundw
      case rel=>exact ⟨j+1,by go_num,by omega,hide (fun i y h1 h2=>by
       rcases Nat.lt_or_ge i j with h | h
       ·exact HI.out i y h h2
       ·have:i=j:=om
        subst this;have h3:=HX.out;rw [h2] at h3;cases h3;exact a8),H.out.call an⟩
      case measure=>simp [intOf];omega
     ·rcases (show x.yr<c.first∨(c.first≤x.yr∧c.last<x.yr) by omega) with h | ⟨h,h2⟩
      all_goals
       go_wp2
       all_goals first
        | (exfalso;omega)
        | (go_ret2;rw [f.out.1,f.out.2];exact ⟨⟨_,rfl,.inl ⟨rfl,rfl⟩⟩,by (repeat' exact bel)⟩)
    ·exact absurd (oH (fun i x O=>HI.out i x (by have:=(List.getElem?_eq_some_iff.1 O).1;omega) O)) ab.out
theorem Dh (c:ar) (u:Un) (k:Int) (w:World) (hn:c.name.size≤1000) (S:aE c u=0) (hr:c.first≤u.yr+k∧u.yr+k≤c.last) (ah:c.kind=6) :
  Calls Tryz.prog 126 #[av c,aC u,k] w fun e w'=>(∃ v,e=.returned (.tuple #[v,ju c u k])∧zH w' v (gZ c u k))∧Below w w w':=by
 have hf:=(bN S).1;have hA:=(bN S).2.2.2.1;obtain ⟨bx,a6,_,_,bX,b3,_⟩:=a9 hf;have aA:=dR a6;have a7:dx c u k=dh c u (u.yr+k):=by simp [dx,ah]
 have a8:=o5 S hr;have ad:=hide (fun (w:World)=>vd c u (u.yr+k) w hn S hr);have HU:=hide S;have b1:(c.kind==6)=true:=by simp [ah]
 have aF:=hide (fun (h:dx c u k=[])=>zj S hr h);have aB:=hide (fun (h:¬ uo c (dx c u k)=true)=>zi S hr h);have H0:=hide (fun (h:uo c (dx c u k)=true) (h0:0<(dx c u k).length)=>GN S hr h h0);obtain ⟨L,hL⟩:∃ L,dx c u k=L:=⟨_,rfl⟩;rw [← a7] at ad;rw [hL] at ad a8 aF aB H0;have b0:1602≤c.first∧c.last≤9996:=⟨aA.2.2.1,aA.2.2.2.1⟩
 clear S hf bx a6 ah hA a7 hL aA;simp only [av,aC];go_enter Tryz.func126,Tryz.ntmps126;go_wp2_with fail;refine (eT c u _ hn).mono ?_;rintro e w1 ⟨rfl,J⟩;rw [HU.out];have b4:w.heap.size+1<w1.heap.size:=aj J;have bb:Hid (Below w w w1):=ww J;have a4:=hide (aa J ae (az (au w c) ac _));have bc:=hide (aS J ac (cA w c u));obtain ⟨V,W,q2,q3,q4,q5,q6,q7,q8,q9,o,E,F,G⟩:=a4.out;obtain ⟨u0,u1,u2⟩:=bc.out;have bX:w.heap.size<w1.heap.size:=om;clear J;go_wp2_with fail
 all_goals first
  | (exfalso;omega)
  | skip
 refine (ad.out _).mono ?_;rintro e w2 ⟨v,rfl,hv,T⟩;have b2:=T.size;have R:=hide (aa T om a4.out);have a3:=hide (bb.out.trans (T.mono om));clear T u0 u1 u2;clear V W q2 q3 q4 q5 q6 q7 q8 q9 o E F G;rcases hv with ⟨bl,rfl⟩ | ⟨g,cap,rfl,al,ay⟩
 ·have f:=hide (aF.out bl)
  obtain ⟨V,W,q2,q3,q4,q5,q6,q7,q8,q9,o,E,F,G⟩:=R.out;go_wp2_with fail;go_loopw [55] (fun s wr=>s=.int .i64 0∧Below w w wr) (fun s _=>(500-intOf s).toNat)
  case atStart=>exact ⟨rfl,a3.out⟩
  case round =>
   obtain ⟨rfl,U⟩:=hrel;go_wp2;go_ret2;rw [f.out.1,f.out.2];exact ⟨⟨_,rfl,.inl ⟨rfl,rfl⟩⟩,by (repeat' exact bel)⟩
 ·have bp:=ay.lt al
  have a5:=hide (show ox c L g cap w.heap.size w w2 from ⟨R.out,by omega,ay,bp.1,a3.out⟩);clear ay;by_cases I:uo c L=true
  ·have f:=hide (H0.out I al)
   have ab:=hide I;clear I;obtain ⟨V,W,q2,q3,q4,q5,q6,q7,q8,q9,o,E,F,G⟩:=R.out;go_wp2_with fail;go_loopw [55] (fun s wr=>∃ j:Nat,s=.int .i64 j∧j≤L.length∧ox c L g cap w.heap.size w wr) (fun s _=>(500-intOf s).toNat)
   case atStart=>exact ⟨0,rfl,Nat.zero_le _,a5.out⟩
   case round =>
    obtain ⟨j,rfl,hj,hS⟩:=hrel;have H:=hide hS;clear hS;clear V W q2 q3 q4 q5 q6 q7 q8 q9 o E F G;obtain ⟨V,W,q2,q3,q4,q5,q6,q7,q8,q9,o,E,F,G⟩:=H.out.1;have bd:=H.out.2.1;have bh:=H.out.2.2.2.1;have U:=H.out.2.2.2.2;by_cases aq:j<L.length
    ·obtain ⟨x,O⟩:∃ x,L[j]?=some x:=⟨_,List.getElem?_eq_getElem aq⟩
     have ba:=oR ab.out O;obtain ⟨a0,a1,a2⟩:=de.cell H.out.2.2.1 O;clear O;have bt:(0:Int)≤(j:Int):=om;have bw:(j:Int)<(L.length:Int):=om;go_wp2
     all_goals first
      | (exfalso;omega)
      | skip
     go_roundw
     case rel=>exact ⟨j+1,by go_num,by omega,H.out.call an⟩
     case measure=>simp [intOf];omega
    ·go_wp2
     all_goals first
      | (exfalso;omega)
      | (go_ret2;rw [f.out.1,f.out.2];exact ⟨⟨_,rfl,.inr ⟨g,cap,rfl,al,H.out.2.2.1⟩⟩,by (repeat' exact bel)⟩)
  ·have f:=hide (aB.out I)
   have ab:=hide I;clear I;obtain ⟨V,W,q2,q3,q4,q5,q6,q7,q8,q9,o,E,F,G⟩:=R.out;go_wp2_with fail;go_loopw [55] (fun s wr=>∃ j:Nat,s=.int .i64 j∧j≤L.length∧Hid (∀ (i:Nat) (x:Un),i<j→L[i]?=some x→c.first≤x.yr∧x.yr≤c.last)∧ox c L g cap w.heap.size w wr) (fun s _=>(500-intOf s).toNat)
   case atStart=>exact ⟨0,rfl,Nat.zero_le _,hide (fun i x h=>by omega),a5.out⟩
   case round =>
    obtain ⟨j,rfl,hj,HI,hS⟩:=hrel;have H:=hide hS;clear hS;clear V W q2 q3 q4 q5 q6 q7 q8 q9 o E F G;obtain ⟨V,W,q2,q3,q4,q5,q6,q7,q8,q9,o,E,F,G⟩:=H.out.1;have bd:=H.out.2.1;have bh:=H.out.2.2.2.1;have U:=H.out.2.2.2.2;by_cases aq:j<L.length
    ·obtain ⟨x,O⟩:∃ x,L[j]?=some x:=⟨_,List.getElem?_eq_getElem aq⟩
     obtain ⟨a0,a1,a2⟩:=de.cell H.out.2.2.1 O;have HX:=hide O;clear O;have bt:(0:Int)≤(j:Int):=om;have bw:(j:Int)<(L.length:Int):=om;by_cases ba:c.first≤x.yr∧x.yr≤c.last
     ·go_wp2
      all_goals first
       | (exfalso;omega)
       | skip
      go_roundw
      case rel=>exact ⟨j+1,by go_num,by omega,hide (fun i y h1 h2=>by
       rcases Nat.lt_or_ge i j with h | h
       ·exact HI.out i y h h2
       ·have:i=j:=om
        subst this;have h3:=HX.out;rw [h2] at h3;cases h3;exact ba),H.out.call an⟩
      case measure=>simp [intOf];omega
     ·rcases (show x.yr<c.first∨(c.first≤x.yr∧c.last<x.yr) by omega) with h | ⟨h,h2⟩
      all_goals
       go_wp2
       all_goals first
        | (exfalso;omega)
        | (go_ret2;rw [f.out.1,f.out.2];exact ⟨⟨_,rfl,.inl ⟨rfl,rfl⟩⟩,by (repeat' exact bel)⟩)
    ·exact absurd (oH (fun i x O=>HI.out i x (by have:=(List.getElem?_eq_some_iff.1 O).1;omega) O)) ab.out
theorem mh (c:ar) (u:Un) (k:Int) (w:World) (o:c.name.size≤1000) :
  Calls Tryz.prog 126 #[av c,aC u,k] w fun e E=>(∃ v,e=.returned (.tuple #[v,ju c u k])∧zH E v (gZ c u k))∧Below w w E:=by
 by_cases f:aE c u=0
 ·by_cases G:c.first≤u.yr+k∧u.yr+k≤c.last
  ·by_cases h:c.kind=6
   ·exact Dh c u k w o f G h
   ·exact Gb c u k w o f G h
  ·have e:ju c u k=11:=by rw [ju,if_pos f,if_neg G]
   rw [e,sG (by rw [e];decide)];refine (yd c u k w o f om).mono ?_;rintro e E ⟨rfl,F⟩;exact ⟨⟨_,rfl,.inl ⟨rfl,rfl⟩⟩,F⟩
 ·have e:ju c u k=aE c u:=by rw [ju,if_neg f]
  rw [e,sG (by rw [e];exact f)];refine (xq c u k w o f).mono ?_;rintro e E ⟨rfl,F⟩;exact ⟨⟨_,rfl,.inl ⟨rfl,rfl⟩⟩,F⟩
theorem zD {w:World} {v:Value} {L:List Un} (h:L=[]) (E:zH w v L):v=.slice none 0 0:=by
 rcases E with f | ⟨g,cap,f,o,F⟩
 ·exact f.2
 ·subst h;simp at o
theorem Fs {w:World} {v:Value} {L:List Un} (h:0<L.length) (o:zH w v L):∃ g cap,v=.slice (some ⟨g,0,none⟩) L.length cap∧0<L.length∧de w g cap L:=by
 rcases o with f | f
 ·rw [f.1] at h;simp at h
 ·exact f
end
section
open Go.RowKit Qd
theorem wQ (a b:Int) (w:World) (J:aX a) (O:aX b):Calls Tryz.prog 76 #[a,b] w fun e U=>e=.returned (.tuple #[jN (a-b),jn (a-b)])∧w=U:=by
 obtain ⟨n,T⟩:∃ n,IntKind.i64.wrap (a-b)=n:=⟨_,rfl⟩;have o:=T;rw [IntKind.wrap_i64] at o;have E:aX n:=by unfold aX;omega
 have f:=Ih J O E;by_cases h:aX (a-b)
 ·have I:=hide (cB h).1
  have H:=hide (cB h).2;have F:n=a-b:=by unfold aX at h;omega
  have G:¬ (bits .and .i64 (bits .xor .i64 a b) (bits .xor .i64 a n)<0):=by rw [f];unfold aX at J O h;omega
  have S:=hide F;have R:decide (bits .and .i64 (bits .xor .i64 a b) (bits .xor .i64 a n)<0)=false:=by simpa using G
  clear F f o E h G;go_enter Tryz.func76,Tryz.ntmps76;go_wp2;go_ret2;exact ⟨aw (by rw [I.out,S.out]) H.out.symm,rfl⟩
 ·have I:=hide (jj h).1
  have H:=hide (jj h).2;have G:(bits .and .i64 (bits .xor .i64 a b) (bits .xor .i64 a n)<0):=by rw [f];unfold aX at J O h;omega
  have R:decide (bits .and .i64 (bits .xor .i64 a b) (bits .xor .i64 a n)<0)=true:=by simpa using G
  clear f o E h G;go_enter Tryz.func76,Tryz.ntmps76;go_wp2;go_ret2;exact ⟨aw I.out.symm H.out.symm,rfl⟩
structure dD where
 pe:Int→Int
 f:Int→Un→List Int
def TV (c:ar) (P:List Po) (A:List Ac) (Z:dD) (x:Un):Int:=tV c x P A (Z.pe x.yr) (Z.f x.yr)
def TE (c:ar) (P:List Po) (A:List Ac) (Z:dD) (x:Un):Int:=tE c x P A (Z.pe x.yr) (Z.f x.yr)
def fe (c:ar) (P:List Po) (A:List Ac) (Z:dD):List Un→Int
 | []=>0
 | x::l=>if TE c P A Z x=0 then fe c P A Z l else TE c P A Z x
def me (c:ar) (P:List Po) (A:List Ac) (h:Value) (Z:dD):Prop:=(P.length≤5000∧A.length≤5000)∧(∀ p∈P,aX p.n) ∧
 ∀ u:Un,aE c u=0→fk P A=0→uj c u.yr A h (Z.pe u.yr) (Z.f u.yr)∧(Z.pe u.yr=0→(∀ x,∀ n∈Z.f u.yr x,aX n)∧(fX (Z.f u.yr) u.yr (aT c u) (bF c u-aT c u)).length≤500000)
theorem jF (c:ar) (u:Un) (P:List Po) (A:List Ac) (Z:dD) (G o:Value) (w:World) (O:c.name.size≤1000) (J:cL w G P) (I:eo w o A) (h:me c P A o Z) :
  Calls Tryz.prog 12 #[av c,aC u,.agg #[G,o]] w fun e R=>e=.returned (.tuple #[TV c P A Z u,TE c P A Z u])∧Below w w R:=
 xA c u P A (Z.pe u.yr) (Z.f u.yr) G o w O J I h.1 h.2.1 (fun E F=>(h.2.2 u E F).1) (fun E F H=>(h.2.2 u E F).2 H)
theorem qe {c:ar} {P:List Po} {A:List Ac} {Z:dD} {L:List Un} {j:Nat} {x:Un} (f:L[j]?=some x) (h:fe c P A Z (L.take j)=0) (E:TE c P A Z x=0):fe c P A Z (L.take (j+1))=0:=by
 induction L generalizing j with
 | nil=>simp at f
 | cons y l F =>
  cases j with
  | zero=>simp at f;subst f;simp [fe,E]
  | succ j =>
   simp only [List.take_succ_cons,fe] at h ⊢;by_cases o:TE c P A Z y=0
   ·rw [if_pos o] at h ⊢;exact F (by simpa using f) h
   ·rw [if_neg o] at h;exact absurd h o
theorem wR {c:ar} {P:List Po} {A:List Ac} {Z:dD} {L:List Un} {j:Nat} {x:Un} (f:L[j]?=some x) (h:fe c P A Z (L.take j)=0) (E:¬ TE c P A Z x=0):fe c P A Z L=TE c P A Z x:=by
 induction L generalizing j with
 | nil=>simp at f
 | cons y l F =>
  cases j with
  | zero=>simp at f;subst f;simp [fe,E]
  | succ j =>
   simp only [List.take_succ_cons,fe] at h ⊢;by_cases o:TE c P A Z y=0
   ·rw [if_pos o] at h ⊢;exact F (by simpa using f) h
   ·rw [if_neg o] at h;exact absurd h o
def KC (c:ar) (u:Un) (k:Int) (P:List Po) (A:List Ac) (Z:dD):Int:=((gZ c u k).map (TV c P A Z)).sum
def jC (c:ar) (u:Un) (k:Int) (P:List Po) (A:List Ac) (Z:dD):Bool:=decide (ju c u k=0)&&decide (fe c P A Z (gZ c u k)=0)
def oA (c:ar) (u:Un) (k:Int) (P:List Po) (A:List Ac) (Z:dD):Int:=if jC c u k P A Z then jN (KC c u k P A Z) else 0
def uw (c:ar) (u:Un) (k:Int) (P:List Po) (A:List Ac) (Z:dD):Int:=if ju c u k=12 then 0 else if ju c u k=0 then (if fe c P A Z (gZ c u k)=0 then jn (KC c u k P A Z) else fe c P A Z (gZ c u k)) else ju c u k
def ng (L:List Int) (j:Nat):List Int:=L.take j++List.replicate (L.length-j) 0
theorem F9 (L:List Int) (j:Nat) (x:Int) (h:L[j]?=some x):(ng L j).set j x=ng L (j+1):=by
 have o:=(List.getElem?_eq_some_iff.1 h).1;unfold ng;have f:(L.take j).length=j:=by rw [List.length_take];omega
 rw [List.set_append_right _ _ om,f,Nat.sub_self,show L.length-j=(L.length-(j+1))+1 by omega,List.replicate_succ,List.set_cons_zero,List.take_add_one,h];simp
theorem BN (L:List Int):ng L L.length=L:=by simp [ng]
theorem AE (L:List Int):ng L 0=List.replicate L.length 0:=by simp [ng]
theorem rv (c:ar) (P:List Po) (A:List Ac) (Z:dD) (x:Un):aX (TV c P A Z x):=by
 unfold TV tV
 split
 ·exact EP _
 ·exact ⟨by decide,by decide⟩
theorem Ch {L:List Int} {j:Nat} (h:j<L.length):(ng L j)[j]?=some 0:=by
 unfold ng;have f:(L.take j).length=j:=by rw [List.length_take];omega
 rw [List.getElem?_append_right om,f,Nat.sub_self,List.getElem?_replicate,if_pos om]
def vi (c:ar) (u:Un) (f h:Value) (L:List Un) (g cap G B:Nat) (l:List Int) (o w:World):Prop:=qo c u f h B o w∧de w g cap L∧g<w.heap.size∧bA w G l∧B+2<G
theorem vi.via {c:ar} {u:Un} {o E:Value} {L:List Un} {g cap G B m:Nat} {l:List Int} {H w W F:World} (h:vi c u o E L g cap G B l H w) (O:Below m W F) (I:Below w w W:=by exact bel) (J:w.heap.size≤m:=by exact sz):vi c u o E L g cap G B l H F:=by
 have f:=I.trans (O.mono J);exact ⟨h.1.call f,h.2.1.call f,Nat.lt_of_lt_of_le h.2.2.1 f.size,h.2.2.2.1.call f,h.2.2.2.2⟩
theorem vi.set {c:ar} {u:Un} {T U:Value} {L:List Un} {g cap G B j:Nat} {l:List Int} {V w:World} {x:Int} (h:vi c u T U L g cap G B (ng l j) V w) (hx:l[j]?=some x):vi c u T U L g cap G B (ng l (j+1)) V (w.setCell ⟨G,j,none⟩ (.int .i64 x)):=by
 obtain ⟨⟨h1,h2,h3,h4,h5⟩,J,h7,O,h9⟩:=h;have F:Below G w (w.setCell ⟨G,j,none⟩ (.int .i64 x)):=(Below.refl G w).setCell (show G≤(⟨G,j,none⟩:Addr).block from Nat.le_refl _) _;have S:g≠G:=by
  rintro rfl;rcases J.2 with ⟨e,_⟩ | ⟨W,o,E,e,_,f,_⟩
  ·cases e
  ·cases e
   unfold bA at O;rw [O] at f;cases f
 refine ⟨⟨aa F om h1,aS F om h2,h3.below F om,by simpa using h4,h5.trans (F.mono om)⟩,?_,by simpa using h7,by rw [← F9 l j x hx];exact O.set j x,h9⟩;refine ⟨J.1,?_⟩;rcases J.2 with H | ⟨W,o,E,he,I,R,f⟩
 ·exact .inl H
 ·cases he
  exact .inr ⟨g,cap,E,rfl,I,(Below.heap_setCell w ⟨G,j,none⟩ _ g S).trans R,f⟩
theorem pp (c:ar) (u:Un) (k:Int) (P:List Po) (A:List Ac) (Z:dD) (v1 v2:Value) (w:World) (hn:c.name.size≤1000) (hP:cL w v1 P) (hA:eo w v2 A) (hB:me c P A v2 Z) :
    Calls Tryz.prog 75 #[av c,aC u,k,.agg #[v1,v2]] w fun e w'=>e=.returned (.tuple #[oA c u k P A Z,.bool (jC c u k P A Z),uw c u k P A Z])∧Below w w w':=by
  have HP:=hide hP;have HA:=hide hA;have HB:=hide hB;have H0:=hide (iC c u v1 v2 w);obtain ⟨a4,al,rfl,_⟩:=hP;obtain ⟨a5,aq,rfl,_⟩:=hA;clear hB;by_cases E:ju c u k=12
  · have HV:=hide (show oA c u k P A Z=0 by simp [oA,jC,E])
    have HO:=hide (show jC c u k P A Z=false by simp [jC,E]);have HE:=hide (show uw c u k P A Z=0 by simp [uw,E]);have HL:=hide (sG (show ¬ ju c u k=0 by omega));have bb:=hide E;clear E;simp only [av,aC];go_enter Tryz.func75,Tryz.ntmps75;go_wp2_with fail;refine (mh c u k _ hn).mono ?_;rintro e w1 ⟨⟨v,rfl,hv⟩,F⟩;rw [bb.out];obtain rfl:=zD HL.out hv;clear hv;have o:=hide (H0.out.via F);have bx:=hide (HP.out.call (o.out.2.2.2.2));have bc:=hide (HA.out.call (o.out.2.2.2.2));clear F;obtain ⟨⟨q0,q1,q2,q3,q4,q5,q6,q7,q8,q9,S,T,U,V⟩,⟨u0,u1,u2⟩,⟨k0,k1⟩,R,f⟩:=o.out.cells;go_wp2;go_ret3;rw [HV.out,HO.out,HE.out];exact ⟨rfl,f⟩
  · by_cases W:ju c u k=0
    · have ah : (gZ c u k).length ≤ 60 ∧ 0 < (gZ c u k).length := by
        obtain ⟨f0,g0,m0,n0,cE,cM,ah,_⟩:=zK W;omega
      have ba:=hide W;have H:=hide (And.intro (show oA c u k P A Z=if fe c P A Z (gZ c u k)=0 then jN (KC c u k P A Z) else 0 by simp [oA,jC,W]) (And.intro (show jC c u k P A Z=decide (fe c P A Z (gZ c u k)=0) by simp [jC,W]) (show uw c u k P A Z=if fe c P A Z (gZ c u k)=0 then jn (KC c u k P A Z) else fe c P A Z (gZ c u k) by simp [uw,W])));have a6:=hide (show KC c u k P A Z=((gZ c u k).map (TV c P A Z)).sum from rfl);obtain ⟨L,hL⟩:∃ L,gZ c u k=L:=⟨_,rfl⟩;have bl:=hide hL;rw [hL] at H a6 ah;have ay:L.length≤60∧0<L.length:=om;have cI:=fun w=>l9 L.length om w
      clear E W hL ah;simp only [av,aC];go_enter Tryz.func75,Tryz.ntmps75;go_wp2_with fail;refine (mh c u k _ hn).mono ?_;rintro e w1 ⟨⟨v,rfl,hv⟩,F⟩;rw [ba.out];rw [bl.out] at hv;obtain ⟨g,cap,rfl,_,aB⟩:=Fs ay.2 hv;have cr:=aB.lt ay.2;have bp:=hide aB;clear hv aB;have o:=hide (H0.out.via F);clear F;obtain ⟨⟨q0,q1,q2,q3,q4,q5,q6,q7,q8,q9,S,T,U,V⟩,⟨u0,u1,u2⟩,⟨k0,k1⟩,R,f⟩:=o.out.cells;obtain ⟨L2,aA⟩:∃ L2,L.map (TV c P A Z)=L2:=⟨_,rfl⟩;have O:L2.length=L.length:=by rw [← aA];simp
      have I:=hide (And.intro aA O);have b1:=hide (show vi c u (.slice a4 P.length al) (.slice a5 A.length aq) L g cap w1.heap.size w.heap.size (ng L2 0) w (w1.alloc (eZ L.length)) from ⟨o.out.call an,bp.out.alloc _,by simp;omega,by rw [AE,O];exact bA.new _ _,by omega⟩);clear aA O;go_wp2_with fail;clear q0 q1 q2 q3 q4 q5 q6 q7 q8 q9 S T U V u0 u1 u2 k0 k1 R f;go_loopw [12,34] (fun b7 a3 wr=>∃ j:Nat,a3=.int .i64 j∧b7=.int .i64 0∧j≤L.length∧Hid (fe c P A Z (L.take j)=0)∧vi c u (.slice a4 P.length al) (.slice a5 A.length aq) L g cap w1.heap.size w.heap.size (ng L2 j) w wr) (fun _ a3 _=>(500-intOf a3).toNat)
      case atStart=>exact ⟨0,rfl,rfl,Nat.zero_le _,hide rfl,b1.out⟩
      case round =>
        obtain ⟨j,rfl,rfl,hj,HZ,hS⟩:=hrel;have HS:=hide hS;clear hS;obtain ⟨⟨q0,q1,q2,q3,q4,q5,q6,q7,q8,q9,S,T,U,V⟩,⟨u0,u1,u2⟩,⟨k0,k1⟩,R,f⟩:=HS.out.1.cells;have hG:=HS.out.2.2.2.1.lt;have aF:w.heap.size<wr.heap.size∧w.heap.size+1<wr.heap.size∧w.heap.size+1+1<wr.heap.size:=om;obtain ⟨aF,b5,b6⟩:=aF;by_cases b4:j<L.length
        · obtain ⟨x,hx⟩:∃ x,L[j]?=some x:=⟨_,List.getElem?_eq_getElem b4⟩
          obtain ⟨a0,a1,a2⟩:=de.cell HS.out.2.1 hx;have b9:=HS.out.2.2.1;have a8:L2[j]?=some (TV c P A Z x):=by rw [← I.out.1];simp [hx]
          have HX:=hide (And.intro hx a8);have bX:=hide (HP.out.call f);have bd:=hide (HA.out.call f);clear hx a8;have cs:(0:Int)≤(j:Int):=om;have cy:(j:Int)<(L.length:Int):=om;go_wp2_with fail;refine (jF c x P A Z _ _ (wr.alloc (fc x)) hn (bX.out.call an) (bd.out.call an) HB.out).mono ?_;rintro e w2 ⟨rfl,ad⟩;have J:=hide (HS.out.via ad);clear ad q0 q1 q2 q3 q4 q5 q6 q7 q8 q9 S T U V u0 u1 u2 k0 k1 R f hG a0 a1 a2 aF b5 b6;obtain ⟨⟨q0,q1,q2,q3,q4,q5,q6,q7,q8,q9,S,T,U,V⟩,⟨u0,u1,u2⟩,⟨k0,k1⟩,R,f⟩:=J.out.1.cells;have cl:=J.out.2.2.2.1.cell (Ch (L:=L2) (j:=j) (by have:=I.out.2;omega));have cp:=J.out.2.2.2.1.frozen j;have hG:=J.out.2.2.2.1.lt;have ca:=J.out.2.2.2.2;by_cases G:TE c P A Z x=0
          · have ab:=hide G
            rw [ab.out];have HN:=hide (J.out.set HX.out.2);have HT:=hide (qe HX.out.1 HZ.out G);clear G;go_wp2;go_roundw
            case rel=>exact ⟨j+1,by go_num,rfl,by omega,HT,HN.out⟩
            case measure=>simp [intOf];omega
          · have bt:=hide (wR HX.out.1 HZ.out G)
            have ab:=hide G;have cc:(TE c P A Z x != 0)=true:=by simpa using G
            clear G;go_wp2;go_ret3;rw [H.out.1,H.out.2.1,H.out.2.2,bt.out,if_neg ab.out,if_neg ab.out,decide_eq_false ab.out];exact ⟨rfl,f.setCell ae _⟩
        · have b3:j=L.length:=om
          subst b3;have b0:=hide (show fe c P A Z L=0 by have h:=HZ.out;rwa [List.take_length] at h);have bw:=hide (show iJ wr (.slice (some ⟨w1,0,none⟩) L.length L.length) L2 by
            have h:=HS.out.2.2.2.1;have O:=I.out.2;rw [← O,BN] at h;rw [← O];exact h.nums)
          have b2:=hide (show ∀ y∈L2,aX y from fun y hy=>by
            rw [← I.out.1] at hy;obtain ⟨z,_,rfl⟩:=List.mem_map.1 hy;exact rv _ _ _ _ _)
          have a7:=hide (show L2.length≤1000000 by have:=I.out.2;omega);go_wp2_with fail;refine (pN _ L2 _ bw.out b2.out a7.out).mono ?_;rintro e w2 ⟨rfl,ad⟩;have bh:=hide (f.trans (ad.mono (by have:=f.size;omega)));clear ad;go_wp2;go_ret3;rw [H.out.1,H.out.2.1,H.out.2.2,b0.out,if_pos rfl,if_pos rfl,a6.out,I.out.1,decide_eq_true rfl];exact ⟨rfl,bh.out⟩
    · have HV:=hide (show oA c u k P A Z=0 by simp [oA,jC,W])
      have HO:=hide (show jC c u k P A Z=false by simp [jC,W]);have HE:=hide (show uw c u k P A Z=ju c u k by simp [uw,W,E]);have HL:=hide (sG W);have b8:(ju c u k==12)=false:=by simpa using E
      have cb:(ju c u k != 0)=true:=by simpa using W
      clear E W;simp only [av,aC];go_enter Tryz.func75,Tryz.ntmps75;go_wp2_with fail;refine (mh c u k _ hn).mono ?_;rintro e w1 ⟨⟨v,rfl,hv⟩,F⟩;obtain rfl:=zD HL.out hv;clear hv;have o:=hide (H0.out.via F);have bx:=hide (HP.out.call (o.out.2.2.2.2));have bc:=hide (HA.out.call (o.out.2.2.2.2));clear F;obtain ⟨⟨q0,q1,q2,q3,q4,q5,q6,q7,q8,q9,S,T,U,V⟩,⟨u0,u1,u2⟩,⟨k0,k1⟩,R,f⟩:=o.out.cells;go_wp2;go_ret3;rw [HV.out,HO.out,HE.out];exact ⟨rfl,f⟩
abbrev IB:Array Value:=#[.int .i64 0,.int .i64 0,.int .i64 0,.int .i64 0,.int .i64 0,.int .i64 0,.bool false]
def DT (c:ar) (u:Un) (f h:Value) (B:Nat) (o w:World):Prop:=qo c u f h B o w∧ap w (B+1+1+1) IB 69
theorem DT.via {c:ar} {u:Un} {F G:Value} {B m:Nat} {I w W H:World} (h:DT c u F G B I w) (E:Below m W H) (f:Below w w W:=by exact bel) (o:w.heap.size≤m:=by exact sz):DT c u F G B I H:=
 ⟨h.1.call (f.trans (E.mono o)),h.2.call (f.trans (E.mono o))⟩
theorem wD (c:ar) (u:Un) (f o:Value) (w:World):DT c u f o w.heap.size w ((((w.alloc (bG c)).alloc (fc u)).alloc (.cells #[f,o] 30)).alloc (.cells IB 69)):=by
 refine ⟨(iC c u f o w).call an,?_⟩;have h:=ap.new (((w.alloc (bG c)).alloc (fc u)).alloc (.cells #[f,o] 30)) IB 69;simpa using h
theorem oE {h:Array Value} {W:World} {B:Nat} {a b c d e f x:Int} {g:Bool} (R:h[8]?=some (.pointer (some ⟨B,0,none⟩))) (S:h[9]?=some (.int .i64 x))
  (k:W.heap[B]?=some (.cells #[a,b,c,d,e,f,.bool g] 69 (0,0))) :
  (results Tryz.f36 h).run Tryz.prog W=.ok (.tuple #[.agg #[a,b,c,d,e,f,.bool g],x]) W:=by
 have o:ap W B #[a,b,c,d,e,f,.bool g] 69:=k;have E:=o.cell 0;have F:=o.cell 1;have G:=o.cell 2;have H:=o.cell 3;have I:=o.cell 4;have J:=o.cell 5;have O:=o.cell 6;simp at E F G H I J O;simp [results,Tryz.results36,go_sem,R,S,E,F,G,H,I,J,O]
theorem Fh (c:ar) (u:Un) (k:Int) (P:List Po) (A:List Ac) (Z:dD):aX (oA c u k P A Z):=by
 unfold oA
 split
 ·exact EP _
 ·exact ⟨by decide,by decide⟩
structure Rw where
 u:Un
 this:Int
 that:Int
 diff:Int
 gone:Bool
abbrev kC (r:Rw):Array Value:=#[.int .i64 r.u.lv,.int .i64 r.u.yr,.int .i64 r.u.ix,.int .i64 r.this,.int .i64 r.that,.int .i64 r.diff,.bool r.gone]
def io (c:ar) (u:Un) (k:Int) (P:List Po) (A:List Ac) (Z:dD):Int:=if TE c P A Z u=0 then (if uw c u k P A Z=0 then jn (TV c P A Z u-oA c u k P A Z) else uw c u k P A Z) else TE c P A Z u
def mM (c:ar) (u:Un) (k:Int) (P:List Po) (A:List Ac) (Z:dD):Rw:=if io c u k P A Z=0 then ⟨u,TV c P A Z u,oA c u k P A Z,TV c P A Z u-oA c u k P A Z,!jC c u k P A Z⟩ else ⟨⟨0,0,0⟩,0,0,0,false⟩
theorem qj (c:ar) (u:Un) (k:Int) (P:List Po) (A:List Ac) (Z:dD) (v1 v2:Value) (w:World) (hn:c.name.size≤1000) (hP:cL w v1 P) (hA:eo w v2 A) (hB:me c P A v2 Z) :
  Calls Tryz.prog 36 #[av c,aC u,k,.agg #[v1,v2]] w fun e w'=>e=.returned (.tuple #[.agg (kC (mM c u k P A Z)),io c u k P A Z])∧Below w w w':=by
 have HP:=hide hP;have W:=hide hA;have HB:=hide hB;have H0:=hide (wD c u v1 v2 w);obtain ⟨ab,S,rfl,_⟩:=hP;obtain ⟨ad,T,rfl,_⟩:=hA;clear hB;by_cases hT:TE c P A Z u=0
 ·have HT:=hide hT
  by_cases hH:uw c u k P A Z=0
  ·have HH:=hide hH
   by_cases hF:aX (TV c P A Z u-oA c u k P A Z)
   ·have HF:=hide (cB hF)
    have HE:=hide (show io c u k P A Z=0 by rw [io,if_pos hT,if_pos hH,(cB hF).2]);have HV:=hide (show mM c u k P A Z=⟨u,TV c P A Z u,oA c u k P A Z,TV c P A Z u-oA c u k P A Z,!jC c u k P A Z⟩ by rw [mM,if_pos HE.out]);clear hT hH hF;simp only [av,aC];go_enter Tryz.func36,Tryz.ntmps36;go_wp2_with fail;refine (jF c u P A Z _ _ ((((w.alloc (bG c)).alloc (fc u)).alloc (.cells #[.slice ab P.length S,.slice ad A.length T] 30)).alloc (.cells IB 69)) hn (HP.out.call an) (W.out.call an) HB.out).mono ?_;rintro e w1 ⟨rfl,E⟩;rw [HT.out];have f:=hide (H0.out.via E);have V:=hide (HP.out.call (f.out.1.2.2.2.2));have U:=hide (W.out.call (f.out.1.2.2.2.2));clear E;obtain ⟨⟨q0,q1,q2,q3,q4,q5,q6,q7,q8,q9,G,H,I,J⟩,⟨u0,u1,u2⟩,⟨k0,k1⟩,F,h⟩:=f.out.1.cells;have O:=f.out.2;go_wp2_with fail;refine (pp c u k P A Z _ _ _ hn V.out U.out HB.out).mono ?_;rintro e w2 ⟨rfl,R⟩;clear q0 q1 q2 q3 q4 q5 q6 q7 q8 q9 G H I J u0 u1 u2 k0 k1 F h O;rw [HH.out];have o:=hide (f.out.via R);have al:=hide (HP.out.call (o.out.1.2.2.2.2));have ah:=hide (W.out.call (o.out.1.2.2.2.2));clear R;obtain ⟨⟨q0,q1,q2,q3,q4,q5,q6,q7,q8,q9,G,H,I,J⟩,⟨u0,u1,u2⟩,⟨k0,k1⟩,F,h⟩:=o.out.1.cells;have O:=o.out.2;go_wp2_with fail;refine (wQ (TV c P A Z u) (oA c u k P A Z) _ (rv _ _ _ _ _) (Fh _ _ _ _ _ _)).mono ?_;rintro e w3 ⟨rfl,rfl⟩;rw [HF.out.1,HF.out.2];go_wp2_with (refine wpList_store_row rfl _ _ _ rfl (w.heap.size+1+1+1) #[u.lv,u.yr,u.ix,TV c P A Z u,oA c u k P A Z,.int .i64 (TV c P A Z u-oA c u k P A Z),.bool (!jC c u k P A Z)] rfl rfl _ _ O (by kernel_rfl) rfl (by simp [Value.oneCell']) ?_);go_wp2;exact bodyPost_ret (v:=.tuple #[.agg #[u.lv,u.yr,u.ix,TV c P A Z u,oA c u k P A Z,.int .i64 (TV c P A Z u-oA c u k P A Z),.bool (!jC c u k P A Z)],.int .i64 0]) (by exact oE rfl rfl (setRow_heap _ _ _ _ _ _ O)) rfl ⟨by rw [HV.out,HE.out],below_setRow h om _⟩
   ·have HF:=hide (jj hF)
    have HE:=hide (show io c u k P A Z=2 by rw [io,if_pos hT,if_pos hH,(jj hF).2]);have HV:=hide (show mM c u k P A Z=⟨⟨0,0,0⟩,0,0,0,false⟩ by rw [mM,HE.out];rfl);clear hT hH hF;simp only [av,aC];go_enter Tryz.func36,Tryz.ntmps36;go_wp2_with fail;refine (jF c u P A Z _ _ ((((w.alloc (bG c)).alloc (fc u)).alloc (.cells #[.slice ab P.length S,.slice ad A.length T] 30)).alloc (.cells IB 69)) hn (HP.out.call an) (W.out.call an) HB.out).mono ?_;rintro e w1 ⟨rfl,E⟩;rw [HT.out];have f:=hide (H0.out.via E);have V:=hide (HP.out.call (f.out.1.2.2.2.2));have U:=hide (W.out.call (f.out.1.2.2.2.2));clear E;obtain ⟨⟨q0,q1,q2,q3,q4,q5,q6,q7,q8,q9,G,H,I,J⟩,⟨u0,u1,u2⟩,⟨k0,k1⟩,F,h⟩:=f.out.1.cells;have O:=f.out.2;go_wp2_with fail;refine (pp c u k P A Z _ _ _ hn V.out U.out HB.out).mono ?_;rintro e w2 ⟨rfl,R⟩;clear q0 q1 q2 q3 q4 q5 q6 q7 q8 q9 G H I J u0 u1 u2 k0 k1 F h O;rw [HH.out];have o:=hide (f.out.via R);have al:=hide (HP.out.call (o.out.1.2.2.2.2));have ah:=hide (W.out.call (o.out.1.2.2.2.2));clear R;obtain ⟨⟨q0,q1,q2,q3,q4,q5,q6,q7,q8,q9,G,H,I,J⟩,⟨u0,u1,u2⟩,⟨k0,k1⟩,F,h⟩:=o.out.1.cells;have O:=o.out.2;go_wp2_with fail;refine (wQ (TV c P A Z u) (oA c u k P A Z) _ (rv _ _ _ _ _) (Fh _ _ _ _ _ _)).mono ?_;rintro e w3 ⟨rfl,rfl⟩;rw [HF.out.1,HF.out.2];go_wp2_with (refine wpList_store_row rfl _ _ _ rfl (w.heap.size+1+1+1) #[.int .i64 0,.int .i64 0,.int .i64 0,.int .i64 0,.int .i64 0,.int .i64 0,.bool false] rfl rfl _ _ O (by kernel_rfl) rfl (by simp [Value.oneCell']) ?_);go_wp2;exact bodyPost_ret (v:=.tuple #[.agg #[.int .i64 0,.int .i64 0,.int .i64 0,.int .i64 0,.int .i64 0,.int .i64 0,.bool false],.int .i64 2]) (by exact oE rfl rfl (setRow_heap _ _ _ _ _ _ O)) rfl ⟨by rw [HV.out,HE.out],below_setRow h om _⟩
  ·have HE:=hide (show io c u k P A Z=uw c u k P A Z by rw [io,if_pos hT,if_neg hH])
   have HV:=hide (show mM c u k P A Z=⟨⟨0,0,0⟩,0,0,0,false⟩ by rw [mM,HE.out,if_neg hH]);have aq:(uw c u k P A Z != 0)=true:=by simpa using hH
   clear hT hH;simp only [av,aC];go_enter Tryz.func36,Tryz.ntmps36;go_wp2_with fail;refine (jF c u P A Z _ _ ((((w.alloc (bG c)).alloc (fc u)).alloc (.cells #[.slice ab P.length S,.slice ad A.length T] 30)).alloc (.cells IB 69)) hn (HP.out.call an) (W.out.call an) HB.out).mono ?_;rintro e w1 ⟨rfl,E⟩;rw [HT.out];have f:=hide (H0.out.via E);have V:=hide (HP.out.call (f.out.1.2.2.2.2));have U:=hide (W.out.call (f.out.1.2.2.2.2));clear E;obtain ⟨⟨q0,q1,q2,q3,q4,q5,q6,q7,q8,q9,G,H,I,J⟩,⟨u0,u1,u2⟩,⟨k0,k1⟩,F,h⟩:=f.out.1.cells;have O:=f.out.2;go_wp2_with fail;refine (pp c u k P A Z _ _ _ hn V.out U.out HB.out).mono ?_;rintro e w2 ⟨rfl,R⟩;clear q0 q1 q2 q3 q4 q5 q6 q7 q8 q9 G H I J u0 u1 u2 k0 k1 F h O;have o:=hide (f.out.via R);have al:=hide (HP.out.call (o.out.1.2.2.2.2));have ah:=hide (W.out.call (o.out.1.2.2.2.2));clear R;obtain ⟨⟨q0,q1,q2,q3,q4,q5,q6,q7,q8,q9,G,H,I,J⟩,⟨u0,u1,u2⟩,⟨k0,k1⟩,F,h⟩:=o.out.1.cells;have O:=o.out.2;go_wp2_with (refine wpList_store_row rfl _ _ _ rfl (w.heap.size+1+1+1) #[.int .i64 0,.int .i64 0,.int .i64 0,.int .i64 0,.int .i64 0,.int .i64 0,.bool false] rfl rfl _ _ O (by kernel_rfl) rfl (by simp [Value.oneCell']) ?_);go_wp2;exact bodyPost_ret (v:=.tuple #[.agg #[.int .i64 0,.int .i64 0,.int .i64 0,.int .i64 0,.int .i64 0,.int .i64 0,.bool false],uw c u k P A Z]) (by exact oE rfl rfl (setRow_heap _ _ _ _ _ _ O)) rfl ⟨by rw [HV.out,HE.out],below_setRow h om _⟩
 ·have HE:=hide (show io c u k P A Z=TE c P A Z u by rw [io,if_neg hT])
  have HV:=hide (show mM c u k P A Z=⟨⟨0,0,0⟩,0,0,0,false⟩ by rw [mM,HE.out,if_neg hT]);have ay:(TE c P A Z u != 0)=true:=by simpa using hT
  clear hT;simp only [av,aC];go_enter Tryz.func36,Tryz.ntmps36;go_wp2_with fail;refine (jF c u P A Z _ _ ((((w.alloc (bG c)).alloc (fc u)).alloc (.cells #[.slice ab P.length S,.slice ad A.length T] 30)).alloc (.cells IB 69)) hn (HP.out.call an) (W.out.call an) HB.out).mono ?_;rintro e w1 ⟨rfl,E⟩;have f:=hide (H0.out.via E);have V:=hide (HP.out.call (f.out.1.2.2.2.2));have U:=hide (W.out.call (f.out.1.2.2.2.2));clear E;obtain ⟨⟨q0,q1,q2,q3,q4,q5,q6,q7,q8,q9,G,H,I,J⟩,⟨u0,u1,u2⟩,⟨k0,k1⟩,F,h⟩:=f.out.1.cells;have O:=f.out.2;go_wp2_with (refine wpList_store_row rfl _ _ _ rfl (w.heap.size+1+1+1) #[.int .i64 0,.int .i64 0,.int .i64 0,.int .i64 0,.int .i64 0,.int .i64 0,.bool false] rfl rfl _ _ O (by kernel_rfl) rfl (by simp [Value.oneCell']) ?_);go_wp2;exact bodyPost_ret (v:=.tuple #[.agg #[.int .i64 0,.int .i64 0,.int .i64 0,.int .i64 0,.int .i64 0,.int .i64 0,.bool false],TE c P A Z u]) (by exact oE rfl rfl (setRow_heap _ _ _ _ _ _ O)) rfl ⟨by rw [HV.out,HE.out],below_setRow h om _⟩
end
end Go.Proofs.YtjhhmeoibfdcmaaGreat
