/- Lemmas. -/
import Derived.WideMake
import Derived.Test.YtjhhmeoibfdcmaaGreatWr09
import Derived.Test.YtjhhmeoibfdcmaaGreatWr13
import Derived.Test.YtjhhmeoibfdcmaaGreatWr15
set_option linter.unusedSimpArgs false
set_option linter.unusedVariables false
set_option maxRecDepth 100000
set_option maxHeartbeats 12800000
namespace Go.Proofs.YtjhhmeoibfdcmaaGreat
section
open Go.RowKit Qd
abbrev CP (a b s t:Int):Value:=.agg #[a,b,s,t]
def hZ (a b w:Int):Int:=if w=a∧b=0 then 12 else 0
def cJ (a b w:Int):Int:=if w=a then b else if 0<b∧b≤(if 0<a∧a<w then w-1 else w) then (if 0<a∧a<w then w-1 else w)+1 else (if 0<a∧a<w then w-1 else w)
theorem Ep (a b s t x:Int) (w:World):Calls Tryz.prog 245 #[CP a b s t,x] w fun e f=>e=.returned (.tuple #[x,.int .i64 0])∧Below w w f:=by
 simp only [CP];go_enter Tryz.func245,Tryz.ntmps245;go_wp2;go_ret2;exact ⟨rfl,by (repeat' exact bel)⟩
theorem DR (a b s t x:Int) (w:World) (h:0≤a∧a≤100) (o:0≤b∧b≤100) (E:0≤x∧x≤100):Calls Tryz.prog 246 #[CP a b s t,x] w fun e f=>e=.returned (.tuple #[.int .i64 (x+b-a),.int .i64 0])∧Below w w f:=by
 simp only [CP];go_enter Tryz.func246,Tryz.ntmps246;go_wp2;go_ret2;exact ⟨rfl,by (repeat' exact bel)⟩
theorem Ee (a b s t x:Int) (w:World) (hs:0≤s∧s≤100) (ht:0≤t∧t≤100) (hx:0≤x∧x≤100):Calls Tryz.prog 247 #[CP a b s t,x] w fun e w'=>e=.returned (.tuple #[cJ s t x,hZ s t x])∧Below w w w':=by
 simp only [CP];by_cases G:x=s
 ·subst G
  by_cases I:t=0
  ·subst I
   have H:=hide (show cJ x 0 x=0∧hZ x 0 x=12 by simp [cJ,hZ]);go_enter Tryz.func247,Tryz.ntmps247;go_wp2
   all_goals first
    | (exfalso;omega)
    | (go_ret2;exact ⟨aw H.out.1.symm H.out.2.symm,by (repeat' exact bel)⟩)
  ·have H:=hide (show cJ x t x=t∧hZ x t x=0 by simp [cJ,hZ,I])
   have W:(t==0)=false:=by simpa using I
   go_enter Tryz.func247,Tryz.ntmps247;go_wp2
   all_goals first
    | (exfalso;omega)
    | (go_ret2;exact ⟨aw H.out.1.symm H.out.2.symm,by (repeat' exact bel)⟩)
 ·have E:=hide (show hZ s t x=0 by unfold hZ;rw [if_neg (fun h=>G h.1)])
  have S:=hide (show cJ s t x=if 0<t∧t≤(if 0<s∧s<x then x-1 else x) then (if 0<s∧s<x then x-1 else x)+1 else (if 0<s∧s<x then x-1 else x) by unfold cJ;rw [if_neg G]);have W:(x==s)=false:=by simpa using G
  clear G;by_cases F:0<s∧s<x
  ·have o:=hide (show cJ s t x=if 0<t∧t≤x-1 then x-1+1 else x-1 by rw [S.out,if_pos F])
   obtain ⟨U,V⟩:=F;by_cases f:0<t∧t≤x-1
   ·have H:=hide (show cJ s t x=x-1+1 by rw [o.out,if_pos f])
    obtain ⟨O,R⟩:=f;go_enter Tryz.func247,Tryz.ntmps247;go_wp2
    all_goals first
     | (exfalso;omega)
     | (go_ret2;exact ⟨aw (by rw [H.out];try omega) E.out.symm,by (repeat' exact bel)⟩)
   ·have H:=hide (show cJ s t x=x-1 by rw [o.out,if_neg f])
    rcases (show t≤0∨(0<t∧x-1<t) by omega) with f | ⟨f,T⟩
    ·go_enter Tryz.func247,Tryz.ntmps247
     go_wp2
     all_goals first
      | (exfalso;omega)
      | (go_ret2;exact ⟨aw (by rw [H.out];try omega) E.out.symm,by (repeat' exact bel)⟩)
    ·go_enter Tryz.func247,Tryz.ntmps247
     go_wp2
     all_goals first
      | (exfalso;omega)
      | (go_ret2;exact ⟨aw (by rw [H.out];try omega) E.out.symm,by (repeat' exact bel)⟩)
  ·have o:=hide (show cJ s t x=if 0<t∧t≤x then x+1 else x by rw [S.out,if_neg F])
   by_cases f:0<t∧t≤x
   ·have H:=hide (show cJ s t x=x+1 by rw [o.out,if_pos f])
    obtain ⟨O,R⟩:=f;rcases (show s≤0∨(0<s∧x≤s) by omega) with F | ⟨F,J⟩
    ·go_enter Tryz.func247,Tryz.ntmps247
     go_wp2
     all_goals first
      | (exfalso;omega)
      | (go_ret2;exact ⟨aw (by rw [H.out];try omega) E.out.symm,by (repeat' exact bel)⟩)
    ·go_enter Tryz.func247,Tryz.ntmps247
     go_wp2
     all_goals first
      | (exfalso;omega)
      | (go_ret2;exact ⟨aw (by rw [H.out];try omega) E.out.symm,by (repeat' exact bel)⟩)
   ·have H:=hide (show cJ s t x=x by rw [o.out,if_neg f])
    rcases (show s≤0∨(0<s∧x≤s) by omega) with F | ⟨F,J⟩
    ·rcases (show t≤0∨(0<t∧x<t) by omega) with f | ⟨f,T⟩
     ·go_enter Tryz.func247,Tryz.ntmps247
      go_wp2
      all_goals first
       | (exfalso;omega)
       | (go_ret2;exact ⟨aw (by rw [H.out];try omega) E.out.symm,by (repeat' exact bel)⟩)
     ·go_enter Tryz.func247,Tryz.ntmps247
      go_wp2
      all_goals first
       | (exfalso;omega)
       | (go_ret2;exact ⟨aw (by rw [H.out];try omega) E.out.symm,by (repeat' exact bel)⟩)
    ·rcases (show t≤0∨(0<t∧x<t) by omega) with f | ⟨f,T⟩
     ·go_enter Tryz.func247,Tryz.ntmps247
      go_wp2
      all_goals first
       | (exfalso;omega)
       | (go_ret2;exact ⟨aw (by rw [H.out];try omega) E.out.symm,by (repeat' exact bel)⟩)
     ·go_enter Tryz.func247,Tryz.ntmps247
      go_wp2
      all_goals first
       | (exfalso;omega)
       | (go_ret2;exact ⟨aw (by rw [H.out];try omega) E.out.symm,by (repeat' exact bel)⟩)
theorem AI (w:World) (o f:Obj):({ w.alloc o with heap:=(w.alloc o).heap.setIfInBounds w.heap.size f }:World)=w.alloc f:=by
 have h:(w.alloc o).heap.setIfInBounds w.heap.size f=(w.alloc f).heap:=by
  show (w.heap.push o).setIfInBounds w.heap.size f=w.heap.push f;apply Array.ext';simp [Array.toList_push]
 rw [h];rfl
theorem tm (w:World) (h:Array MapEntry) (f:Nat) (k:Int) (v:Value) (H:Instr.findNow (.int .i64) (.int .i64 k) h.toList 0=some none) :
  (Instr.mapUpdate 264 (.map (some w.heap.size)) (.int .i64 k) v).run Tryz.prog (w.alloc (.map h f))=.ok () (w.alloc (.map (h.push ⟨.int .i64 k,v,f⟩) (f+1))):=by
 have F:=Tryz.underlying3;have I:=Tryz.underlying264;have o:(w.alloc (.map h f)).heap[w.heap.size]?=some (.map h f):=heap_alloc_new w _;have E:=AI w (.map h f);have G:(Instr.checkKey false 10000 3 (.int .i64 k)).run Tryz.prog (w.alloc (.map h f))=.ok () (w.alloc (.map h f)):=MapKept.run_checkKey (k:=.int .i64 k) F (by simp [MapKept.IsKey]) false 9999;simp [Instr.mapUpdate,run_underlying I,MapKept.run_getObj_map o,G,MapKept.run_findKey F H,MapKept.run_setObj_map _ o,Result.andThen,E];exact E _
theorem pD (w:World) (M:Nat) (h:Array MapEntry) (f:Nat) (k:Int) (i:Nat) (v:Value) (G:w.heap[M]?=some (.map h f)) (F:Instr.findNow (.int .i64) (.int .i64 k) h.toList 0=some (some (i,v))) :
  (Instr.lookup 264 (.map (some M)) (.int .i64 k) false).run Tryz.prog w=.ok v w:=by
 have o:=Tryz.underlying3;have H:=Tryz.underlying264;have E:∀ e,(Instr.checkKey e 10000 3 (.int .i64 k)).run Tryz.prog w=.ok () w:=fun e=>MapKept.run_checkKey (k:=.int .i64 k) o (by simp [MapKept.IsKey]) e 9999
 simp [Instr.lookup,run_underlying H,MapKept.run_getObj_map G,E,MapKept.run_findKey o F,Result.andThen]
abbrev vD:Array MapEntry:=#[⟨.int .i64 1,.func (.func 245) #[] #[],0⟩,⟨.int .i64 2,.func (.func 246) #[] #[],1⟩,⟨.int .i64 3,.func (.func 247) #[] #[],2⟩]
theorem tw (w:World):Calls Tryz.prog 239 #[] w fun e F=>e=.returned (.map (some w.heap.size))∧w.alloc (.map vD 3)=F:=by
 have E:=@run_makeMap Tryz.prog;have f:=tm w #[] 0 1 (.func (.func 245) #[] #[]) rfl;have h:=tm w #[⟨.int .i64 1,.func (.func 245) #[] #[],0⟩] 1 2 (.func (.func 246) #[] #[]) rfl;have o:=tm w #[⟨.int .i64 1,.func (.func 245) #[] #[],0⟩,⟨.int .i64 2,.func (.func 246) #[] #[],1⟩] 2 3 (.func (.func 247) #[] #[]) rfl;simp only [List.push_toArray,List.cons_append,List.nil_append] at f h o;go_enter Tryz.func239,Tryz.ntmps239;go_wp2;go_ret;exact ⟨rfl,rfl⟩
theorem db (c:ar) (y:Int) (w:World):Calls Tryz.prog 237 #[av c,y] w fun e f=>e=.returned (.bool (decide (c.first≤y∧y≤c.last)))∧Below w w f:=by
 simp only [av];go_enter Tryz.func237,Tryz.ntmps237;go_wp2
 all_goals (go_ret;refine ⟨aY ?_,by (repeat' exact bel)⟩;simp;try omega)
abbrev dp (c:ar) (y:Int):Prop:=c.first≤y∧y≤c.last
theorem bR {c:ar} {y:Int} (f:c.okB=true) (o:c.kind≠6) (h:dp c y):dA c y=0∧aO c y 1601=0∧(aL c y=52∨aL c y=53):=by
 have E:c.Ok:=by simpa [ar.okB] using f
 obtain ⟨_,_,H,I,_⟩:=dR f;obtain ⟨J,O⟩:=h;have F:aO c y 1601=0:=ja E om om;have G:dA c y=0:=by simp [dA,fZ,f,o,F]
 exact ⟨G,F,(gj G).2.2.2.2.2.1⟩
theorem I8 (c:ar) (y:Int) (h:aO c y 1601=0) (k:Nat) (G:k<(bi c y).length):bJ c y k≤bv c y:=by
 have o:∀ m,k+1+m≤(bi c y).length→bJ c y k+1≤aM c y (k+1+m):=by
  intro m
  induction m with
  | zero=>intro _;rw [Nat.add_zero,bM];omega
  | succ m E =>
   intro H;have f:=E om;have F:=dM c y h (k+1+m) om;rw [show k+1+(m+1)=(k+1+m)+1 by omega,bM];omega
 have f:=o ((bi c y).length-(k+1)) om;rw [show k+1+((bi c y).length-(k+1))=(bi c y).length by omega] at f;have:=(gH c y h).1;omega
theorem ck {c:ar} {y:Int} (I:c.okB=true) (f:c.kind≠6) (h:dp c y):0≤aD c y∧aD c y≤53∧(aD c y=0↔aL c y=52):=by
 obtain ⟨H,F,R⟩:=bR I f h;obtain ⟨G,_,_,_,hv,_,T⟩:=gj H;unfold aD;by_cases E:aL c y=53
 ·rw [if_pos ⟨H,E⟩]
  obtain ⟨x1,x2⟩:=mw G f;have W:=gQ c y I;have o:(c.extra-1).toNat<(bi c y).length:=om;have O:=dM c y F _ o;have V:=il c y F _ (Nat.le_of_lt o);have U:=I8 c y F _ o;have J:bP c y=bv c y-ax c y+1:=by simp [bP,F]
  have S:=O.2.2 f;omega
 ·rw [if_neg (fun h=>E h.2)]
  omega
theorem js (w:World):Calls Tryz.prog 239 #[] w fun e f=>(∃ M,e=.returned (.map (some M))∧f.heap[M]?=some (.map vD 3))∧Below w w f:=by
 refine (tw w).mono ?_;rintro e f ⟨rfl,rfl⟩;exact ⟨⟨_,rfl,heap_alloc_new w _⟩,(Below.refl _ _).alloc (Nat.le_refl _) _⟩
theorem xw {f:Array Value} {W:World} {B:Nat} {o E F G e:Int} (R:f[6]?=some (.pointer (some ⟨B,0,none⟩))) (S:f[7]?=some (.int .i64 e))
  (h:ap W B #[o,E,F,G] 260) :
  (results Tryz.f238 f).run Tryz.prog W=.ok (.tuple #[.agg #[o,E,F,G],e]) W:=by
 have H:=h.cell 0;have I:=h.cell 1;have J:=h.cell 2;have O:=h.cell 3;simp at H I J O;simp [results,Tryz.results238,go_sem,R,S,H,I,J,O]
theorem m7 {W:World} {B:Nat} {c:ar} (Q:aG W B c) {p:Addr} (h:B≠p.block) (u:Value):aG (W.setCell p u) B c:=
 mb (fun o=>World.cell?_of_block (a:=⟨B,o,none⟩) (Below.heap_setCell W p u B h)) Q
theorem ap.p0 {w:World} {B:Nat} {a b c d:Value} {t:TypeId} (h:ap w B #[a,b,c,d] t) (y:Value):ap (w.setCell ⟨B,0,none⟩ y) B #[y,b,c,d] t:=by
 unfold ap at h ⊢;simp [World.setCell,Array.getElem?_modify,h]
theorem ap.p1 {w:World} {B:Nat} {a b c d:Value} {t:TypeId} (h:ap w B #[a,b,c,d] t) (y:Value):ap (w.setCell ⟨B,1,none⟩ y) B #[a,y,c,d] t:=by
 unfold ap at h ⊢;simp [World.setCell,Array.getElem?_modify,h]
theorem ap.p2 {w:World} {B:Nat} {a b c d:Value} {t:TypeId} (h:ap w B #[a,b,c,d] t) (y:Value):ap (w.setCell ⟨B,2,none⟩ y) B #[a,b,y,d] t:=by
 unfold ap at h ⊢;simp [World.setCell,Array.getElem?_modify,h]
theorem ap.p3 {w:World} {B:Nat} {a b c d:Value} {t:TypeId} (h:ap w B #[a,b,c,d] t) (y:Value):ap (w.setCell ⟨B,3,none⟩ y) B #[a,b,c,y] t:=by
 unfold ap at h ⊢;simp [World.setCell,Array.getElem?_modify,h]
theorem ap.four {w:World} {B:Nat} {a b c d:Value} {t:TypeId} (h:ap w B #[a,b,c,d] t) :
  (w.cell? ⟨B,0,none⟩=some a∧w.cell? ⟨B,1,none⟩=some b∧w.cell? ⟨B,2,none⟩=some c∧w.cell? ⟨B,3,none⟩=some d)∧(w.frozen? ⟨B,0,none⟩=false∧w.frozen? ⟨B,1,none⟩=false∧w.frozen? ⟨B,2,none⟩=false∧w.frozen? ⟨B,3,none⟩=false):=
 ⟨⟨h.cell 0,h.cell 1,h.cell 2,h.cell 3⟩,h.frozen 0,h.frozen 1,h.frozen 2,h.frozen 3⟩
theorem lh (c:ar) (y t:Int) (w:World) (hn:c.name.size≤1000) (hy:dA c y=0) (ht:dA c t=0) :
  Calls Tryz.prog 238 #[av c,y,t] w fun e w'=>e=.returned (.tuple #[CP (aL c y) (aL c t) (aD c y) (aD c t),.int .i64 0])∧Below w w w':=by
 have HY:=hide hy;have HT:=hide ht;clear hy ht;simp only [av,CP];go_enter Tryz.func238,Tryz.ntmps238;go_wp2_with fail;refine (du c y _ hn).mono ?_;rintro e w1 ⟨rfl,O⟩;rw [HY.out];have G:=(show ap w1 (w+1) #[.int .i64 0,.int .i64 0,.int .i64 0,.int .i64 0] 260 from ap.below (by simpa using ap.new (w.alloc (bG c)) #[.int .i64 0,.int .i64 0,.int .i64 0,.int .i64 0] 260) O ac);have ab:=hide (show aG w1 w c from aa O ae (az (au w c) ac _));have aF:=hide (show Below w w w1 by (repeat' exact bel));have a8:w.heap.size<w1.heap.size:=aj O;have f:w.heap.size≤w.heap.size+1:=om;have S:w.heap.size≠w.heap.size+1:=om;clear O;generalize w.heap.size+1=R at *;have a4:=G.lt;have al:=hide G;obtain ⟨⟨r0,r1,r2,r3⟩,f0,f1,f2,f3⟩:=G.four;clear G;obtain ⟨T,U,V,W,q4,q5,q6,q7,q8,q9,h,o,E,F⟩:=ab.out;go_wp2_with fail;refine (du c t _ hn).mono ?_;rintro e w2 ⟨rfl,H⟩;rw [HT.out];have G:=(al.out.p0 (.int .i64 (aL c y))).call H;have ad:=hide (show aG w2 w c from aa H ae (m7 ab.out (by exact S) _));have a0:=hide ((aF.out.setCell f _).trans (H.mono ae):Below w w w2);have ba:w.heap.size<w2.heap.size:=aj H;clear T U V W q4 q5 q6 q7 q8 q9 h o E F;clear H r0 r1 r2 r3 f0 f1 f2 f3;have a5:=G.lt;have aq:=hide G;obtain ⟨⟨r0,r1,r2,r3⟩,f0,f1,f2,f3⟩:=G.four;clear G;obtain ⟨T,U,V,W,q4,q5,q6,q7,q8,q9,h,o,E,F⟩:=ad.out;go_wp2_with fail;refine (ry c y _ hn).mono ?_;rintro e w3 ⟨rfl,I⟩;rw [HY.out];have G:=(aq.out.p1 (.int .i64 (aL c t))).call I;have ah:=hide (show aG w3 w c from aa I ae (m7 ad.out (by exact S) _));have a1:=hide ((a0.out.setCell f _).trans (I.mono ae):Below w w w3);have bb:w.heap.size<w3.heap.size:=aj I;clear T U V W q4 q5 q6 q7 q8 q9 h o E F;clear I r0 r1 r2 r3 f0 f1 f2 f3;have a6:=G.lt;have ay:=hide G;obtain ⟨⟨r0,r1,r2,r3⟩,f0,f1,f2,f3⟩:=G.four;clear G;obtain ⟨T,U,V,W,q4,q5,q6,q7,q8,q9,h,o,E,F⟩:=ah.out;go_wp2_with fail;refine (ry c t _ hn).mono ?_;rintro e w4 ⟨rfl,J⟩;rw [HT.out];have G:=(ay.out.p2 (.int .i64 (aD c y))).call J;have aB:=hide (show aG w4 w c from aa J ae (m7 ah.out (by exact S) _));have a2:=hide ((a1.out.setCell f _).trans (J.mono ae):Below w w w4);have bc:w.heap.size<w4.heap.size:=aj J;clear T U V W q4 q5 q6 q7 q8 q9 h o E F;clear J r0 r1 r2 r3 f0 f1 f2 f3;have a3:=G.lt;have aA:=hide G;obtain ⟨⟨r0,r1,r2,r3⟩,f0,f1,f2,f3⟩:=G.four;clear G;obtain ⟨T,U,V,W,q4,q5,q6,q7,q8,q9,h,o,E,F⟩:=aB.out;clear T U V W q4 q5 q6 q7 q8 q9 h o E F;have a7:=a3;go_wp2;exact bodyPost_ret (v:=.tuple #[.agg #[aL c y,aL c t,aD c y,aD c t],.int .i64 0]) (by exact xw rfl rfl (((((aA.out.p3 _).p0 _).p1 _).p2 _).p3 _)) rfl ⟨rfl,((((a2.out.setCell f _).setCell f _).setCell f _).setCell f _).setCell f _⟩
theorem yL (c:ar) (y t x:Int) (w:World) (R:c.name.size≤1000) (I:c.okB=false) :
  Calls Tryz.prog 224 #[av c,y,t,x] w fun e w'=>e=.returned (.tuple #[.int .i64 0,.int .i64 1])∧Below w w w':=by
 have O:=hide (show co c=1 by simp [co,I]);clear I;simp only [av];go_enter Tryz.func224,Tryz.ntmps224;go_wp2_with fail;refine (bs c _ R).mono ?_;rintro e J ⟨rfl,f⟩;rw [O.out];have S:w.heap.size<J.heap.size:=aj f;have h:=hide (show Below w w J by refine Below.trans ?_ (f.mono ac);(repeat' exact bel));have o:=hide (aa f ac (au w c));obtain ⟨T,U,V,W,q4,q5,q6,q7,q8,q9,E,F,G,H⟩:=o.out;clear f;clear T U V W q4 q5 q6 q7 q8 q9 E F G H;go_wp2;go_ret2;exact ⟨rfl,h.out⟩
theorem xb (c:ar) (y t x:Int) (w:World) (J:c.name.size≤1000) (F:c.okB=true) (h:c.kind=6) :
  Calls Tryz.prog 224 #[av c,y,t,x] w fun e V=>e=.returned (.tuple #[.int .i64 0,.int .i64 1])∧Below w w V:=by
 have H:=hide (show co c=0 by simp [co,F]);have I:(c.kind==6)=true:=by simp [h]
 clear F h;simp only [av];go_enter Tryz.func224,Tryz.ntmps224;go_wp2_with fail;refine (bs c _ J).mono ?_;rintro e G ⟨rfl,f⟩;rw [H.out];have O:w.heap.size<G.heap.size:=aj f;have o:=hide (show Below w w G by refine Below.trans ?_ (f.mono ac);(repeat' exact bel));have E:=hide (aa f ac (au w c));obtain ⟨W,q1,q2,q3,q4,q5,q6,q7,q8,q9,R,S,T,U⟩:=E.out;clear f;go_wp2;go_ret2;exact ⟨rfl,o.out⟩
theorem EU (c:ar) (y t x:Int) (w:World) (hn:c.name.size≤1000) (hk:c.okB=true) (J:c.kind≠6) (hy:¬ dp c y) :
  Calls Tryz.prog 224 #[av c,y,t,x] w fun e w'=>e=.returned (.tuple #[.int .i64 0,.int .i64 11])∧Below w w w':=by
 have HO:=hide (show co c=0 by simp [co,hk]);have ab:(c.kind==6)=false:=by simpa using J
 have HY:=hide (show decide (c.first≤y∧y≤c.last)=false by simpa using hy);clear hk J hy;simp only [av];go_enter Tryz.func224,Tryz.ntmps224;go_wp2_with fail;refine (bs c _ hn).mono ?_;rintro e w1 ⟨rfl,f⟩;rw [HO.out];have o:w.heap.size<w1.heap.size:=aj f;have O:=hide (show Below w w w1 by refine Below.trans ?_ (f.mono ac);(repeat' exact bel));have I:=hide (aa f ac (au w c));obtain ⟨T,U,V,W,q4,q5,q6,q7,q8,q9,E,F,G,H⟩:=I.out;clear f;go_wp2_with fail;refine (db c y _).mono ?_;rintro e w2 ⟨rfl,h⟩;rw [HY.out];have ad:w.heap.size<w2.heap.size:=Nat.lt_of_lt_of_le o h.size;have R:=hide (O.out.trans (h.mono (Nat.le_of_lt o)));have S:=hide (aa h o I.out);clear T U V W q4 q5 q6 q7 q8 q9 E F G H;obtain ⟨T,U,V,W,q4,q5,q6,q7,q8,q9,E,F,G,H⟩:=S.out;clear h;clear T U V W q4 q5 q6 q7 q8 q9 E F G H;go_wp2;go_ret2;exact ⟨rfl,R.out⟩
theorem FO (c:ar) (y t x:Int) (w:World) (hn:c.name.size≤1000) (hk:c.okB=true) (S:c.kind≠6) (hy:dp c y) (ht:¬ dp c t) :
  Calls Tryz.prog 224 #[av c,y,t,x] w fun e w'=>e=.returned (.tuple #[.int .i64 0,.int .i64 11])∧Below w w w':=by
 have HO:=hide (show co c=0 by simp [co,hk]);have aq:(c.kind==6)=false:=by simpa using S
 have HY:=hide (show decide (c.first≤y∧y≤c.last)=true by simpa using hy);have HT:=hide (show decide (c.first≤t∧t≤c.last)=false by simpa using ht);clear hk S hy ht;simp only [av];go_enter Tryz.func224,Tryz.ntmps224;go_wp2_with fail;refine (bs c _ hn).mono ?_;rintro e w1 ⟨rfl,F⟩;rw [HO.out];have I:w.heap.size<w1.heap.size:=aj F;have ab:=hide (show Below w w w1 by refine Below.trans ?_ (F.mono ac);(repeat' exact bel));have O:=hide (aa F ac (au w c));obtain ⟨T,U,V,W,q4,q5,q6,q7,q8,q9,f,h,o,E⟩:=O.out;clear F;go_wp2_with fail;refine (db c y _).mono ?_;rintro e w2 ⟨rfl,G⟩;rw [HY.out];have J:w.heap.size<w2.heap.size:=Nat.lt_of_lt_of_le I G.size;have ad:=hide (ab.out.trans (G.mono (Nat.le_of_lt I)));have R:=hide (aa G I O.out);clear T U V W q4 q5 q6 q7 q8 q9 f h o E;obtain ⟨T,U,V,W,q4,q5,q6,q7,q8,q9,f,h,o,E⟩:=R.out;clear G;go_wp2_with fail;refine (db c t _).mono ?_;rintro e w3 ⟨rfl,H⟩;rw [HT.out];have ay:w.heap.size<w3.heap.size:=Nat.lt_of_lt_of_le J H.size;have ah:=hide (ad.out.trans (H.mono (Nat.le_of_lt J)));have al:=hide (aa H J R.out);clear T U V W q4 q5 q6 q7 q8 q9 f h o E;obtain ⟨T,U,V,W,q4,q5,q6,q7,q8,q9,f,h,o,E⟩:=al.out;clear H;clear T U V W q4 q5 q6 q7 q8 q9 f h o E;go_wp2;go_ret2;exact ⟨rfl,ah.out⟩
theorem vV (c:ar) (y t x:Int) (w:World) (hn:c.name.size≤1000) (hk:c.okB=true) (F:c.kind≠6) (hy:dp c y) (ht:dp c t) (hx:x<1∨(1≤x∧aL c y<x)) :
  Calls Tryz.prog 224 #[av c,y,t,x] w fun e w'=>e=.returned (.tuple #[.int .i64 0,.int .i64 13])∧Below w w w':=by
 have HO:=hide (show co c=0 by simp [co,hk]);have ba:(c.kind==6)=false:=by simpa using F
 have HY:=hide (show decide (c.first≤y∧y≤c.last)=true by simpa using hy);have HT:=hide (show decide (c.first≤t∧t≤c.last)=true by simpa using ht);obtain ⟨wy,_,a0⟩:=bR hk F hy;obtain ⟨wt,_,aF⟩:=bR hk F ht;have T:=ck hk F hy;have S:=ck hk F ht;have WY:=hide wy;have WT:=hide wt;obtain ⟨ny,V⟩:∃ n,n=aL c y:=⟨_,rfl⟩;obtain ⟨nt,U⟩:∃ n,n=aL c t:=⟨_,rfl⟩;obtain ⟨ay,H⟩:∃ n,n=aD c y:=⟨_,rfl⟩;obtain ⟨ta,G⟩:∃ n,n=aD c t:=⟨_,rfl⟩;rw [← V] at a0 T hx;rw [← U] at aF S;rw [← H] at T;rw [← G] at S;have a7:=hide V;have a6:=hide U;have a2:=hide H;have a1:=hide G;have I:0≤ay∧ay≤53∧0≤ta∧ta≤53∧52≤ny∧ny≤53∧52≤nt∧nt≤53:=om;clear hk F hy ht wy wt a0 aF T S V U H G;simp only [av];go_enter Tryz.func224,Tryz.ntmps224;go_wp2_with fail;refine (bs c _ hn).mono ?_;rintro e w1 ⟨rfl,I⟩;rw [HO.out];have W:w.heap.size<w1.heap.size:=aj I;have a3:=hide (show Below w w w1 by refine Below.trans ?_ (I.mono ac);(repeat' exact bel));have al:=hide (aa I ac (au w c));obtain ⟨q0,q1,q2,q3,q4,q5,q6,q7,q8,q9,f,h,o,E⟩:=al.out;clear I;go_wp2_with fail;refine (db c y _).mono ?_;rintro e w2 ⟨rfl,J⟩;rw [HY.out];have ab:w.heap.size<w2.heap.size:=Nat.lt_of_lt_of_le W J.size;have a4:=hide (a3.out.trans (J.mono (Nat.le_of_lt W)));have aq:=hide (aa J W al.out);clear q0 q1 q2 q3 q4 q5 q6 q7 q8 q9 f h o E;obtain ⟨q0,q1,q2,q3,q4,q5,q6,q7,q8,q9,f,h,o,E⟩:=aq.out;clear J;go_wp2_with fail;refine (db c t _).mono ?_;rintro e w3 ⟨rfl,O⟩;rw [HT.out];have ad:w.heap.size<w3.heap.size:=Nat.lt_of_lt_of_le ab O.size;have a5:=hide (a4.out.trans (O.mono (Nat.le_of_lt ab)));have aA:=hide (aa O ab aq.out);clear q0 q1 q2 q3 q4 q5 q6 q7 q8 q9 f h o E;obtain ⟨q0,q1,q2,q3,q4,q5,q6,q7,q8,q9,f,h,o,E⟩:=aA.out;clear O;go_wp2_with fail;refine (lh c y t _ hn WY.out WT.out).mono ?_;rintro e w4 ⟨rfl,R⟩;simp only [CP];rw [← a7.out,← a6.out,← a2.out,← a1.out];have bd:w.heap.size<w4.heap.size:=Nat.lt_of_lt_of_le ad R.size;have ah:=hide (a5.out.trans (R.mono (Nat.le_of_lt ad)));have a8:=hide (aa R ad aA.out);clear q0 q1 q2 q3 q4 q5 q6 q7 q8 q9 f h o E;obtain ⟨q0,q1,q2,q3,q4,q5,q6,q7,q8,q9,f,h,o,E⟩:=a8.out;clear R;clear q0 q1 q2 q3 q4 q5 q6 q7 q8 q9 f h o E;rcases hx with hx | ⟨bb,bc⟩
 ·go_wp2
  all_goals first
   | (exfalso;omega)
   | (have aB:=ah.out;go_ret2;exact ⟨rfl,by (repeat' exact bel)⟩)
 ·go_wp2
  all_goals first
   | (exfalso;omega)
   | (have aB:=ah.out;go_ret2;exact ⟨rfl,by (repeat' exact bel)⟩)
def pi (c:ar) (B P:Nat) (a b s t:Int) (w:World):Prop:=aG w B c∧B<w.heap.size∧ap w P #[a,b,s,t] 260
theorem pi.call {c:ar} {B P:Nat} {a b s t:Int} {w o:World} (h:pi c B P a b s t w) (f:Below w w o):pi c B P a b s t o:=
 ⟨aa f h.2.1 h.1,Nat.lt_of_lt_of_le h.2.1 f.size,h.2.2.call f⟩
theorem pi.drew {c:ar} {B P:Nat} {a b s t:Int} {w:World} (h:pi c B P a b s t w):pi c B P a b s t w.drew:=h
theorem pi.load {c:ar} {B P:Nat} {a b s t:Int} {w:World} (h:pi c B P a b s t w):w.cell? ⟨B,13,none⟩=some (.int .i64 c.policy)∧w.cell? ⟨P,0,none⟩=some (.int .i64 a)∧w.cell? ⟨P,1,none⟩=some (.int .i64 b)∧w.cell? ⟨P,2,none⟩=some (.int .i64 s)∧w.cell? ⟨P,3,none⟩=some (.int .i64 t):=
 ⟨h.1.2.2.2.2.2.2.2.2.2.2.2.2.2,h.2.2.cell 0,h.2.2.cell 1,h.2.2.cell 2,h.2.2.cell 3⟩
theorem Dy (c:ar) (y t x:Int) (w:World) (hn:c.name.size≤1000) (hk:c.okB=true) (F:c.kind≠6) (hy:dp c y) (ht:dp c t) (hx:1≤x∧x≤aL c y) (hp:c.policy=1) :
  Calls Tryz.prog 224 #[av c,y,t,x] w fun e w'=>e=.returned (.tuple #[x,.int .i64 0])∧Below w w w':=by
 have HO:=hide (show co c=0 by simp [co,hk]);have bX:(c.kind==6)=false:=by simpa using F
 have HY:=hide (show decide (c.first≤y∧y≤c.last)=true by simpa using hy);have HT:=hide (show decide (c.first≤t∧t≤c.last)=true by simpa using ht);obtain ⟨wy,_,ba⟩:=bR hk F hy;obtain ⟨wt,_,a8⟩:=bR hk F ht;have aq:=ck hk F hy;have al:=ck hk F ht;have WY:=hide wy;have WT:=hide wt;obtain ⟨ny,aF⟩:∃ n,n=aL c y:=⟨_,rfl⟩;obtain ⟨nt,aB⟩:∃ n,n=aL c t:=⟨_,rfl⟩;obtain ⟨ay,H⟩:∃ n,n=aD c y:=⟨_,rfl⟩;obtain ⟨ta,G⟩:∃ n,n=aD c t:=⟨_,rfl⟩;rw [← aF] at ba aq hx;rw [← aB] at a8 al;rw [← H] at aq;rw [← G] at al;have bl:=hide aF;have bh:=hide aB;have bc:=hide H;have bb:=hide G;have I:0≤ay∧ay≤53∧0≤ta∧ta≤53∧52≤ny∧ny≤53∧52≤nt∧nt≤53:=om;clear hk F hy ht wy wt ba a8 aq al aF aB H G;obtain ⟨b0,b1⟩:=hx;have HP:=hide hp;clear hp;simp only [av];go_enter Tryz.func224,Tryz.ntmps224;go_wp2_with fail;refine (bs c _ hn).mono ?_;rintro e w1 ⟨rfl,I⟩;rw [HO.out];have S:w.heap.size<w1.heap.size:=aj I;have a0:=hide (show Below w w w1 by refine Below.trans ?_ (I.mono ac);(repeat' exact bel));have V:=hide (aa I ac (au w c));obtain ⟨q0,q1,q2,q3,q4,q5,q6,q7,q8,q9,f,h,o,E⟩:=V.out;clear I;go_wp2_with fail;refine (db c y _).mono ?_;rintro e w2 ⟨rfl,J⟩;rw [HY.out];have T:w.heap.size<w2.heap.size:=Nat.lt_of_lt_of_le S J.size;have a1:=hide (a0.out.trans (J.mono (Nat.le_of_lt S)));have ab:=hide (aa J S V.out);clear q0 q1 q2 q3 q4 q5 q6 q7 q8 q9 f h o E;obtain ⟨q0,q1,q2,q3,q4,q5,q6,q7,q8,q9,f,h,o,E⟩:=ab.out;clear J;go_wp2_with fail;refine (db c t _).mono ?_;rintro e w3 ⟨rfl,O⟩;rw [HT.out];have U:w.heap.size<w3.heap.size:=Nat.lt_of_lt_of_le T O.size;have a2:=hide (a1.out.trans (O.mono (Nat.le_of_lt T)));have ad:=hide (aa O T ab.out);clear q0 q1 q2 q3 q4 q5 q6 q7 q8 q9 f h o E;obtain ⟨q0,q1,q2,q3,q4,q5,q6,q7,q8,q9,f,h,o,E⟩:=ad.out;clear O;go_wp2_with fail;refine (lh c y t _ hn WY.out WT.out).mono ?_;rintro e w4 ⟨rfl,R⟩;simp only [CP];rw [← bl.out,← bh.out,← bc.out,← bb.out];have a7:w.heap.size<w4.heap.size:=Nat.lt_of_lt_of_le U R.size;have a3:=hide (a2.out.trans (R.mono (Nat.le_of_lt U)));have ah:=hide (aa R U ad.out);clear q0 q1 q2 q3 q4 q5 q6 q7 q8 q9 f h o E;obtain ⟨q0,q1,q2,q3,q4,q5,q6,q7,q8,q9,f,h,o,E⟩:=ah.out;clear R;have HD:=hide (show pi c w.heap.size w4.heap.size ny nt ay ta (w4.alloc (.cells #[ny,nt,ay,ta] 260)) from ⟨az ah.out a7 _,by simp;omega,ap.new w4 _ _⟩);have a4:=hide (show Below w w (w4.alloc (.cells #[ny,nt,ay,ta] 260)) from a3.out.alloc om _);go_wp2_with fail
 all_goals first
  | (exfalso;omega)
  | skip
 obtain ⟨P,hP⟩:∃ P,P=w4.heap.size:=⟨_,rfl⟩;rw [← hP] at HD ⊢;generalize w4.alloc (.cells #[ny,nt,ay,ta] 260)=W at *;clear q0 q1 q2 q3 q4 q5 q6 q7 q8 q9 f h o E;obtain ⟨k0,k1,k2,k3,k4⟩:=HD.out.load;rw [HP.out] at k0;have bx:w.heap.size≤W.heap.size:=a4.out.size;clear hP a0 a1 a2 a3 V ab ad ah S T U a7
 go_region_with (first
  | (go_at_call 239;refine (js _).mono ?_;rintro e w5 ⟨⟨M,rfl,hM⟩,aA⟩;have bd:=hide (HD.out.drew.call (by exact aA));have a5:=hide (a4.out.drew.trans (aA.mono (by exact bx)):Below w w w5);obtain ⟨m0,m1,m2,m3,m4⟩:=bd.out.load;rw [HP.out] at m0;have bw:w.heap.size≤w5.heap.size:=a5.out.size;have bt:=pD w5 M vD 3 1 0 (.func (.func 245) #[] #[]) hM rfl;clear aA hM)
  | (go_at_call 245;refine (Ep ny nt ay ta x _).mono ?_;rintro e w6 ⟨rfl,a6⟩;have bp:=hide (a5.out.trans (a6.mono (by exact bw)):Below w w w6);clear a6))
 all_goals
  go_simp;go_wp2;go_ret2;exact ⟨rfl,bp.out⟩
theorem C6 (c:ar) (y t x:Int) (w:World) (hn:c.name.size≤1000) (hk:c.okB=true) (F:c.kind≠6) (hy:dp c y) (ht:dp c t) (hx:1≤x∧x≤aL c y) (hp:c.policy=2) :
  Calls Tryz.prog 224 #[av c,y,t,x] w fun e w'=>e=.returned (.tuple #[.int .i64 (x+aL c t-aL c y),.int .i64 0])∧Below w w w':=by
 rw [show (x+aL c t-aL c y)=x+aL c t-aL c y from rfl];have HO:=hide (show co c=0 by simp [co,hk]);have bX:(c.kind==6)=false:=by simpa using F
 have HY:=hide (show decide (c.first≤y∧y≤c.last)=true by simpa using hy);have HT:=hide (show decide (c.first≤t∧t≤c.last)=true by simpa using ht);obtain ⟨wy,_,bc⟩:=bR hk F hy;obtain ⟨wt,_,bb⟩:=bR hk F ht;have aq:=ck hk F hy;have al:=ck hk F ht;have WY:=hide wy;have WT:=hide wt;obtain ⟨ny,aF⟩:∃ n,n=aL c y:=⟨_,rfl⟩;obtain ⟨nt,aB⟩:∃ n,n=aL c t:=⟨_,rfl⟩;obtain ⟨ay,H⟩:∃ n,n=aD c y:=⟨_,rfl⟩;obtain ⟨ta,G⟩:∃ n,n=aD c t:=⟨_,rfl⟩;rw [← aF] at bc aq hx;rw [← aB] at bb al;rw [← H] at aq;rw [← G] at al;have a5:=hide aF;have a4:=hide aB;have bh:=hide H;have bd:=hide G;have I:0≤ay∧ay≤53∧0≤ta∧ta≤53∧52≤ny∧ny≤53∧52≤nt∧nt≤53:=om;clear hk F hy ht wy wt bc bb aq al aF aB H G;obtain ⟨b0,b1⟩:=hx;have HP:=hide hp;clear hp;rw [← a4.out,← a5.out];simp only [av];go_enter Tryz.func224,Tryz.ntmps224;go_wp2_with fail;refine (bs c _ hn).mono ?_;rintro e w1 ⟨rfl,I⟩;rw [HO.out];have S:w.heap.size<w1.heap.size:=aj I;have a0:=hide (show Below w w w1 by refine Below.trans ?_ (I.mono ac);(repeat' exact bel));have V:=hide (aa I ac (au w c));obtain ⟨q0,q1,q2,q3,q4,q5,q6,q7,q8,q9,f,h,o,E⟩:=V.out;clear I;go_wp2_with fail;refine (db c y _).mono ?_;rintro e w2 ⟨rfl,J⟩;rw [HY.out];have T:w.heap.size<w2.heap.size:=Nat.lt_of_lt_of_le S J.size;have a1:=hide (a0.out.trans (J.mono (Nat.le_of_lt S)));have ab:=hide (aa J S V.out);clear q0 q1 q2 q3 q4 q5 q6 q7 q8 q9 f h o E;obtain ⟨q0,q1,q2,q3,q4,q5,q6,q7,q8,q9,f,h,o,E⟩:=ab.out;clear J;go_wp2_with fail;refine (db c t _).mono ?_;rintro e w3 ⟨rfl,O⟩;rw [HT.out];have U:w.heap.size<w3.heap.size:=Nat.lt_of_lt_of_le T O.size;have a2:=hide (a1.out.trans (O.mono (Nat.le_of_lt T)));have ad:=hide (aa O T ab.out);clear q0 q1 q2 q3 q4 q5 q6 q7 q8 q9 f h o E;obtain ⟨q0,q1,q2,q3,q4,q5,q6,q7,q8,q9,f,h,o,E⟩:=ad.out;clear O;go_wp2_with fail;refine (lh c y t _ hn WY.out WT.out).mono ?_;rintro e w4 ⟨rfl,R⟩;simp only [CP];rw [← a5.out,← a4.out,← bh.out,← bd.out];have ba:w.heap.size<w4.heap.size:=Nat.lt_of_lt_of_le U R.size;have a3:=hide (a2.out.trans (R.mono (Nat.le_of_lt U)));have ah:=hide (aa R U ad.out);clear q0 q1 q2 q3 q4 q5 q6 q7 q8 q9 f h o E;obtain ⟨q0,q1,q2,q3,q4,q5,q6,q7,q8,q9,f,h,o,E⟩:=ah.out;clear R;have HD:=hide (show pi c w.heap.size w4.heap.size ny nt ay ta (w4.alloc (.cells #[ny,nt,ay,ta] 260)) from ⟨az ah.out ba _,by simp;omega,ap.new w4 _ _⟩);have a6:=hide (show Below w w (w4.alloc (.cells #[ny,nt,ay,ta] 260)) from a3.out.alloc om _);go_wp2_with fail
 all_goals first
  | (exfalso;omega)
  | skip
 obtain ⟨P,hP⟩:∃ P,P=w4.heap.size:=⟨_,rfl⟩;rw [← hP] at HD ⊢;generalize w4.alloc (.cells #[ny,nt,ay,ta] 260)=W at *;clear q0 q1 q2 q3 q4 q5 q6 q7 q8 q9 f h o E;obtain ⟨k0,k1,k2,k3,k4⟩:=HD.out.load;rw [HP.out] at k0;have bx:w.heap.size≤W.heap.size:=a6.out.size;clear hP a0 a1 a2 a3 V ab ad ah S T U ba
 go_region_with (first
  | (go_at_call 239;refine (js _).mono ?_;rintro e w5 ⟨⟨M,rfl,hM⟩,aA⟩;have bl:=hide (HD.out.drew.call (by exact aA));have a7:=hide (a6.out.drew.trans (aA.mono (by exact bx)):Below w w w5);obtain ⟨m0,m1,m2,m3,m4⟩:=bl.out.load;rw [HP.out] at m0;have bw:w.heap.size≤w5.heap.size:=a7.out.size;have bt:=pD w5 M vD 3 2 1 (.func (.func 246) #[] #[]) hM rfl;clear aA hM)
  | (go_at_call 246;refine (DR ny nt ay ta x _ om om om).mono ?_;rintro e w6 ⟨rfl,a8⟩;have bp:=hide (a7.out.trans (a8.mono (by exact bw)):Below w w w6);clear a8))
 all_goals
  go_simp;go_wp2;go_ret2;exact ⟨rfl,bp.out⟩
theorem Fx (c:ar) (y t x:Int) (w:World) (hn:c.name.size≤1000) (hk:c.okB=true) (F:c.kind≠6) (hy:dp c y) (ht:dp c t) (hx:1≤x∧x≤aL c y) (hp:c.policy=3) :
  Calls Tryz.prog 224 #[av c,y,t,x] w fun e w'=>e=.returned (.tuple #[cJ (aD c y) (aD c t) x,hZ (aD c y) (aD c t) x])∧Below w w w':=by
 have HO:=hide (show co c=0 by simp [co,hk]);have bX:(c.kind==6)=false:=by simpa using F
 have HY:=hide (show decide (c.first≤y∧y≤c.last)=true by simpa using hy);have HT:=hide (show decide (c.first≤t∧t≤c.last)=true by simpa using ht);obtain ⟨wy,_,bc⟩:=bR hk F hy;obtain ⟨wt,_,bb⟩:=bR hk F ht;have aq:=ck hk F hy;have al:=ck hk F ht;have WY:=hide wy;have WT:=hide wt;obtain ⟨ny,aF⟩:∃ n,n=aL c y:=⟨_,rfl⟩;obtain ⟨nt,aB⟩:∃ n,n=aL c t:=⟨_,rfl⟩;obtain ⟨ay,H⟩:∃ n,n=aD c y:=⟨_,rfl⟩;obtain ⟨ta,G⟩:∃ n,n=aD c t:=⟨_,rfl⟩;rw [← aF] at bc aq hx;rw [← aB] at bb al;rw [← H] at aq;rw [← G] at al;have bl:=hide aF;have bh:=hide aB;have a1:=hide H;have a0:=hide G;have I:0≤ay∧ay≤53∧0≤ta∧ta≤53∧52≤ny∧ny≤53∧52≤nt∧nt≤53:=om;clear hk F hy ht wy wt bc bb aq al aF aB H G;obtain ⟨b0,b1⟩:=hx;have HP:=hide hp;clear hp;rw [← a1.out,← a0.out];simp only [av];go_enter Tryz.func224,Tryz.ntmps224;go_wp2_with fail;refine (bs c _ hn).mono ?_;rintro e w1 ⟨rfl,I⟩;rw [HO.out];have S:w.heap.size<w1.heap.size:=aj I;have a2:=hide (show Below w w w1 by refine Below.trans ?_ (I.mono ac);(repeat' exact bel));have V:=hide (aa I ac (au w c));obtain ⟨q0,q1,q2,q3,q4,q5,q6,q7,q8,q9,f,h,o,E⟩:=V.out;clear I;go_wp2_with fail;refine (db c y _).mono ?_;rintro e w2 ⟨rfl,J⟩;rw [HY.out];have T:w.heap.size<w2.heap.size:=Nat.lt_of_lt_of_le S J.size;have a3:=hide (a2.out.trans (J.mono (Nat.le_of_lt S)));have ab:=hide (aa J S V.out);clear q0 q1 q2 q3 q4 q5 q6 q7 q8 q9 f h o E;obtain ⟨q0,q1,q2,q3,q4,q5,q6,q7,q8,q9,f,h,o,E⟩:=ab.out;clear J;go_wp2_with fail;refine (db c t _).mono ?_;rintro e w3 ⟨rfl,O⟩;rw [HT.out];have U:w.heap.size<w3.heap.size:=Nat.lt_of_lt_of_le T O.size;have a4:=hide (a3.out.trans (O.mono (Nat.le_of_lt T)));have ad:=hide (aa O T ab.out);clear q0 q1 q2 q3 q4 q5 q6 q7 q8 q9 f h o E;obtain ⟨q0,q1,q2,q3,q4,q5,q6,q7,q8,q9,f,h,o,E⟩:=ad.out;clear O;go_wp2_with fail;refine (lh c y t _ hn WY.out WT.out).mono ?_;rintro e w4 ⟨rfl,R⟩;simp only [CP];rw [← bl.out,← bh.out,← a1.out,← a0.out];have ba:w.heap.size<w4.heap.size:=Nat.lt_of_lt_of_le U R.size;have a5:=hide (a4.out.trans (R.mono (Nat.le_of_lt U)));have ah:=hide (aa R U ad.out);clear q0 q1 q2 q3 q4 q5 q6 q7 q8 q9 f h o E;obtain ⟨q0,q1,q2,q3,q4,q5,q6,q7,q8,q9,f,h,o,E⟩:=ah.out;clear R;have HD:=hide (show pi c w.heap.size w4.heap.size ny nt ay ta (w4.alloc (.cells #[ny,nt,ay,ta] 260)) from ⟨az ah.out ba _,by simp;omega,ap.new w4 _ _⟩);have a6:=hide (show Below w w (w4.alloc (.cells #[ny,nt,ay,ta] 260)) from a5.out.alloc om _);go_wp2_with fail
 all_goals first
  | (exfalso;omega)
  | skip
 obtain ⟨P,hP⟩:∃ P,P=w4.heap.size:=⟨_,rfl⟩;rw [← hP] at HD ⊢;generalize w4.alloc (.cells #[ny,nt,ay,ta] 260)=W at *;clear q0 q1 q2 q3 q4 q5 q6 q7 q8 q9 f h o E;obtain ⟨k0,k1,k2,k3,k4⟩:=HD.out.load;rw [HP.out] at k0;have bx:w.heap.size≤W.heap.size:=a6.out.size;clear hP a2 a3 a4 a5 V ab ad ah S T U ba
 go_region_with (first
  | (go_at_call 239;refine (js _).mono ?_;rintro e w5 ⟨⟨M,rfl,hM⟩,aA⟩;have bd:=hide (HD.out.drew.call (by exact aA));have a7:=hide (a6.out.drew.trans (aA.mono (by exact bx)):Below w w w5);obtain ⟨m0,m1,m2,m3,m4⟩:=bd.out.load;rw [HP.out] at m0;have bw:w.heap.size≤w5.heap.size:=a7.out.size;have bt:=pD w5 M vD 3 3 2 (.func (.func 247) #[] #[]) hM rfl;clear aA hM)
  | (go_at_call 247;refine (Ee ny nt ay ta x _ om om om).mono ?_;rintro e w6 ⟨rfl,a8⟩;have bp:=hide (a7.out.trans (a8.mono (by exact bw)):Below w w w6);clear a8))
 all_goals
  go_simp;go_wp2;go_ret2;exact ⟨rfl,bp.out⟩
def eI (c:ar) (y t x:Int):Int:=if c.okB=true∧c.kind≠6 then (if (c.first≤y∧y≤c.last)∧(c.first≤t∧t≤c.last) then (if 1≤x∧x≤aL c y then (if c.policy=3 then hZ (aD c y) (aD c t) x else 0) else 13) else 11) else 1
def fP (c:ar) (y t x:Int):Int:=if eI c y t x=0 then (if c.policy=1 then x else if c.policy=2 then x+aL c t-aL c y else cJ (aD c y) (aD c t) x) else 0
theorem tH {c:ar} (h:c.okB=true) (o:c.kind≠6):c.policy=1∨c.policy=2∨c.policy=3:=by
 have f:c.Ok:=by simpa [ar.okB] using h
 have E:=f.2.1;unfold ar.polic at E;omega
theorem sE {c:ar} {y t x:Int} (h:c.okB=true) (f:c.kind≠6) (F:dp c y) (o:dp c t) (E:1≤x∧x≤aL c y):eI c y t x=if c.policy=3 then hZ (aD c y) (aD c t) x else 0:=by
 unfold eI;rw [if_pos ⟨h,f⟩,if_pos ⟨F,o⟩,if_pos E]
theorem GM (a b x:Int) (f:0≤a∧a≤53) (h:0≤b∧b≤53) (o:1≤x∧x≤53):0≤cJ a b x∧cJ a b x≤54:=by
 unfold cJ
 repeat' split
 all_goals omega
theorem Iy {c:ar} {y t x:Int} (h:c.okB=true) (f:c.kind≠6) (E:dp c y) (o:dp c t) (J:1≤x∧x≤aL c y):0≤fP c y t x∧fP c y t x≤60:=by
 have F:=(bR h f E).2.2;have G:=(bR h f o).2.2;have H:=ck h f E;have I:=ck h f o;have:=GM (aD c y) (aD c t) x om om om;unfold fP
 repeat' split
 all_goals omega
theorem EA (c:ar) (y t x:Int) (w:World) (H:c.name.size≤1000) :
  Calls Tryz.prog 224 #[av c,y,t,x] w fun e T=>e=.returned (.tuple #[fP c y t x,eI c y t x])∧Below w w T:=by
 have zero:∀ e,eI c y t x=e→e≠0→fP c y t x=0:=fun e U V=>by rw [fP,if_neg om]
 cases E:c.okB
 ·have o:eI c y t x=1:=by unfold eI;rw [if_neg (by rw [E];simp)]
  rw [zero 1 o om,o];exact yL c y t x w H E
 ·by_cases f:c.kind=6
  ·have o:eI c y t x=1:=by unfold eI;rw [if_neg (fun h=>h.2 f)]
   rw [zero 1 o om,o];exact xb c y t x w H E f
  ·by_cases G:dp c y
   ·by_cases J:dp c t
    ·by_cases R:1≤x∧x≤aL c y
     ·have o:=sE E f G J R
      rcases tH E f with I | I | I
      ·have F:eI c y t x=0:=by rw [o,if_neg om]
       rw [fP,if_pos F,F,if_pos I];exact Dy c y t x w H E f G J R I
      ·have F:eI c y t x=0:=by rw [o,if_neg om]
       rw [fP,if_pos F,F,if_neg om,if_pos I];exact C6 c y t x w H E f G J R I
      ·rw [if_pos I] at o
       have S:fP c y t x=cJ (aD c y) (aD c t) x:=by
        unfold fP;rw [o];by_cases O:hZ (aD c y) (aD c t) x=0
        ·rw [if_pos O,if_neg om,if_neg om]
        ·rw [if_neg O]
         unfold hZ at O
         split at O
         ·rename_i h
          unfold cJ;rw [if_pos h.1,h.2]
         ·exact absurd rfl O
       rw [S,o];exact Fx c y t x w H E f G J R I
     ·have o:eI c y t x=13:=by unfold eI;rw [if_pos ⟨E,f⟩,if_pos ⟨G,J⟩,if_neg R]
      rw [zero 13 o om,o];exact vV c y t x w H E f G J om
    ·have o:eI c y t x=11:=by unfold eI;rw [if_pos ⟨E,f⟩,if_neg (fun h=>J h.2)]
     rw [zero 11 o om,o];exact FO c y t x w H E f G J
   ·have o:eI c y t x=11:=by unfold eI;rw [if_pos ⟨E,f⟩,if_neg (fun h=>G h.1)]
    rw [zero 11 o om,o];exact EU c y t x w H E f G
theorem wK {c:ar} (f:c.okB=true) (y t:Int):aU c y=aU c t:=by
 have h:((aU c y:Nat):Int)=cj c:=gQ c y f;have o:((aU c t:Nat):Int)=cj c:=gQ c t f;omega
theorem IJ {c:ar} {u:Un} (h:aE c u=0):0≤(cd c u).a∧(cd c u).a≤(cd c u).b∧(cd c u).b≤3068037:=by
 obtain ⟨J,G,H,o,O,hi⟩:=bN h;have f:=dz h;rw [kM h];have E:=cn c u.yr o (Nat.zero_le (aT c u)) om;have F:=cn c u.yr o f.2 (Nat.le_refl _);have I:=ft c u.yr o f.1 f.2;rw [kc] at E;rw [eV c u.yr o] at F;have:=ch c u.yr o;simp only;omega
theorem yD (c:ar) (y t:Int) (h:aL c y=aL c t) (k:Nat):bZ c y k-ax c y=bZ c t k-ax c t:=by
 induction k with
 | zero=>simp [bZ]
 | succ k E =>
  have f:bZ c y (k+1)=bZ c y k+7*cD c (aL c y) k:=rfl;have o:bZ c t (k+1)=bZ c t k+7*cD c (aL c t) k:=rfl;rw [f,o,h];omega
theorem uC {c:ar} {y t:Int} (G:c.okB=true) (f:c.kind≠6) (hy:dp c y) (ht:dp c t) (W:aL c y=53) (h2:aL c t=53):aD c y=aD c t:=by
  obtain ⟨U,R,_⟩:=bR G f hy;obtain ⟨T,E,_⟩:=bR G f ht;have o:c.Ok:=by simpa [ar.okB] using G
  obtain ⟨x1,x2⟩:=mw o f;obtain ⟨s4,s6,_,_⟩:=dT o;have h5:¬ c.shape=5:=fun h=>f (s6.2 h)
  unfold aD;rw [if_pos ⟨U,W⟩,if_pos ⟨T,h2⟩];by_cases F:c.shape=4
  · have hx : c.extra = 12 := by
      obtain ⟨_,_,_,hr⟩:=o;unfold ar.ruled ar.weeks dB ar.pat0 at hr;omega
    have I:=gH c y R;have H:=gH c t E;have O:(bi c y).length=12:=by simp [bi,F,mL]
    have J:(bi c t).length=12:=by simp [bi,F,mL]
    rw [O] at I;rw [J] at H;have e1:aM c y 12=bJ c y 11+1:=bM c y 11;have e2:aM c t 12=bJ c t 11+1:=bM c t 11;have w1:=(gj U).2.2.2.2;have w2:=(gj T).2.2.2.2;have d1:bP c y=bv c y-ax c y+1:=by simp [bP,R]
    have d2:bP c t=bv c t-ax c t+1:=by simp [bP,E]
    rw [hx];rw [show ((12:Int)-1).toNat=11 from rfl];omega
  · have S : ∀ z, ∀ j : Nat, (j : Int) < cj c → bJ c z j = bZ c z (j + 1) - 1 := by
      intro z j hj;have V:bi c z=(List.range (cj c).toNat).map fun i=>bZ c z (i+1)-1:=by simp [bi,F,h5]
      unfold bJ;rw [V];simp [hj]
    rw [S y _ om,S t _ om];have:=yD c y t om ((c.extra-1).toNat+1);congr 1;omega
theorem uO {c:ar} {y t x:Int} (H:c.okB=true) (G:c.kind≠6) (O:dp c y) (I:dp c t) (J:1≤x∧x≤aL c y) :
  (c.policy=1∧eI c y t x=0∧fP c y t x=x)∨(c.policy=2∧eI c y t x=0∧fP c y t x=x+aL c t-aL c y) ∨
  (c.policy=3∧((x=aD c y∧aD c t=0∧eI c y t x=12∧fP c y t x=0)∨(¬ (x=aD c y∧aD c t=0)∧eI c y t x=0∧fP c y t x=cJ (aD c y) (aD c t) x))):=by
 have E:=sE H G O I J;rcases tH H G with o | o | o
 ·left
  have f:eI c y t x=0:=by rw [E,if_neg om]
  exact ⟨o,f,by rw [fP,if_pos f,if_pos o]⟩
 ·right;left
  have f:eI c y t x=0:=by rw [E,if_neg om]
  exact ⟨o,f,by rw [fP,if_pos f,if_neg om,if_pos o]⟩
 ·right;right
  rw [if_pos o] at E;refine ⟨o,?_⟩;by_cases F:x=aD c y∧aD c t=0
  ·left
   have h:eI c y t x=12:=by rw [E,hZ,if_pos F]
   exact ⟨F.1,F.2,h,by rw [fP,if_neg om]⟩
  ·right
   have h:eI c y t x=0:=by rw [E,hZ,if_neg F]
   exact ⟨F,h,by rw [fP,if_pos h,if_neg om,if_neg om]⟩
theorem CJ (a x:Int) (f:1≤x):cJ a a x=x:=by
 unfold cJ
 repeat' split
 all_goals omega
theorem Ji (b x:Int) (f:1≤x):cJ 0 b x=if 0<b∧b≤x then x+1 else x:=by
 unfold cJ
 repeat' split
 all_goals omega
theorem Jl (a x:Int) (h:x≠a):cJ a 0 x=if 0<a∧a<x then x-1 else x:=by
 unfold cJ
 repeat' split
 all_goals omega
theorem ss {c:ar} {y t:Int} (h:c.okB=true) (f:c.kind≠6) (G:dp c y) (F:dp c t) :
  (aD c y=aD c t∧aL c y=aL c t)∨(aD c y=0∧0<aD c t∧aD c t≤53∧aL c y=52∧aL c t=53)∨(0<aD c y∧aD c t=0∧aD c y≤53∧aL c y=53∧aL c t=52):=by
 have H:=ck h f G;have I:=ck h f F;have o:=(bR h f G).2.2;have E:=(bR h f F).2.2;rcases o with o | o <;> rcases E with E | E
 ·left;omega
 ·right;left;omega
 ·right;right;omega
 ·left
  exact ⟨uC h f G F o E,by omega⟩
theorem Ga {c:ar} {y t x:Int} (H:c.okB=true) (o:c.kind≠6) (J:dp c y) (I:dp c t) (G:1≤x∧x≤aL c y) :
  (eI c y t x=12∧fP c y t x=0∧c.policy=3∧aL c y=53∧aL c t=52∧x=aD c y) ∨
  (eI c y t x=0∧c.policy=1∧fP c y t x=x) ∨
  (eI c y t x=0∧c.policy=2∧fP c y t x=x+aL c t-aL c y) ∨
  (eI c y t x=0∧c.policy=3∧aL c y=aL c t∧fP c y t x=x) ∨
  (eI c y t x=0∧c.policy=3∧aL c y=52∧aL c t=53∧aD c y=0∧0<aD c t∧aD c t≤53∧((x<aD c t∧fP c y t x=x)∨(aD c t≤x∧fP c y t x=x+1))) ∨
  (eI c y t x=0∧c.policy=3∧aL c y=53∧aL c t=52∧0<aD c y∧aD c t=0∧aD c y≤53∧((x<aD c y∧fP c y t x=x)∨(aD c y<x∧fP c y t x=x-1))):=by
 have f:=ss H o J I;rcases uO H o J I G with ⟨p,e,v⟩ | ⟨p,e,v⟩ | ⟨p,⟨E,O,e,v⟩ | ⟨E,e,v⟩⟩
 ·right;left;exact ⟨e,p,v⟩
 ·right;right;left;exact ⟨e,p,v⟩
 ·left
  rcases f with f | f | f
  ·omega
  ·omega
  ·exact ⟨e,v,p,f.2.2.2.1,f.2.2.2.2,E⟩
 ·rcases f with f | f | f
  ·right;right;right;left
   refine ⟨e,p,f.2,?_⟩;rw [v,← f.1,CJ _ _ G.1]
  ·right;right;right;right;left
   refine ⟨e,p,f.2.2.2.1,f.2.2.2.2,f.1,f.2.1,f.2.2.1,?_⟩;rw [f.1,Ji _ _ G.1] at v;by_cases h:aD c t≤x
   ·right;rw [if_pos ⟨f.2.1,h⟩] at v;exact ⟨h,v⟩
   ·left;rw [if_neg om] at v;exact ⟨by omega,v⟩
  ·right;right;right;right;right
   refine ⟨e,p,f.2.2.2.1,f.2.2.2.2,f.1,f.2.1,f.2.2.1,?_⟩;have F:x≠aD c y:=fun h=>E ⟨h,f.2.1⟩
   rw [f.2.1,Jl _ _ F] at v;by_cases h:aD c y<x
   ·right;rw [if_pos ⟨f.1,h⟩] at v;exact ⟨h,v⟩
   ·left;rw [if_neg om] at v;exact ⟨by omega,v⟩
theorem tR {c:ar} {y:Int} (G:c.okB=true) (H:c.kind≠6) (I:dp c y):bv c y=ax c y+7*aL c y-1∧aO c y 1601=0∧52≤aL c y∧aL c y≤53∧358≤ax c y∧bv c y+358≤3068037:=by
 obtain ⟨O,E,h5⟩:=bR G H I;have hw:=(gj O).2.2.2.2.2.2;have R:bP c y=bv c y-ax c y+1:=by simp [bP,E]
 have f:c.Ok:=by simpa [ar.okB] using G
 obtain ⟨_,_,T,U,_⟩:=dR G;obtain ⟨h1,h2⟩:=I;have W:bv c 1600+358≤bv c 1601:=by simpa using ky c 1600 f om 1 om
 have V:0≤bv c 1600:=by
  have:=eQ c 1600 (ja f om om);have h3:=tP c (1600+1);by_cases h:0≤bv c 1600
  ·exact h
  ·have o:aO c 1600 1600=0:=ja f om om
   have S:=lg o om;have:=lZ c (1600+c.shift) f S (by obtain ⟨_,hs,_⟩:=cg f;omega);have:bv c 1600=ct c (1600+c.shift):=by simp [bv,o]
   omega
 have e2:bv c 1601≤bv c (y-1):=qd c f om om om;have J:=eQ c (y-1) (by rw [show y-1+1=y by omega];exact E);rw [show y-1+1=y by omega] at J;have e4:bv c y+358≤bv c (y+1):=by simpa using ky c y f om 1 om
 have F:aO c (y+1) 1601=0:=ja f om om;have e5:=IF c _ F;refine ⟨by omega,E,by omega,by omega,by omega,by omega⟩
end
end Go.Proofs.YtjhhmeoibfdcmaaGreat
