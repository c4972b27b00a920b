/- Lemmas. -/
import Derived.Laws.EntriesVeiled
import Derived.Outline
import Derived.Test.YtjhhmeoibfdcmaaGreatWr06
import Derived.Test.YtjhhmeoibfdcmaaGreatWr09
set_option linter.unusedSimpArgs false
set_option linter.unusedVariables false
set_option maxRecDepth 100000
set_option maxHeartbeats 12800000
namespace Go.Proofs.YtjhhmeoibfdcmaaGreat
section
open Go.RowKit Qd
def eO (c:ar) (day y:Int):Prop:=aO c y 1601=0∧ax c y≤day∧day≤bv c y
theorem ja {c:ar} {y a:Int} (h:c.Ok) (f:a≤y) (o:y≤9997):aO c y a=0:=by
 have:c.okB=true:=by simpa [ar.okB] using h
 simp [aO,this,f,o]
theorem eQ (c:ar) (y:Int) (h:aO c (y+1) 1601=0):ax c (y+1)=bv c y+1:=by
 obtain ⟨f,E,F⟩:=bo h;have o:aO c y 1600=0:=ja f om om;have e:y+1-1+c.shift=y+c.shift:=om;simp [ax,h,bv,o,e]
theorem ky (c:ar) (y:Int) (h:c.Ok) (E:1600≤y) (m:Nat) (F:y+m≤9997):bv c y+358*m≤bv c (y+m):=by
 induction m with
 | zero=>simp
 | succ m o =>
  have G:=o om;have e:y+((m+1:Nat):Int)=y+m+1:=om;rw [e];have f:aO c (y+m+1) 1601=0:=ja h om om;have H:=eQ c (y+m) f;have I:=ch c (y+m+1) f;have J:bP c (y+m+1)=bv c (y+m+1)-ax c (y+m+1)+1:=by simp [bP,f]
  omega
theorem qd (c:ar) {y z:Int} (f:c.Ok) (o:1600≤y) (h:y≤z) (E:z≤9997):bv c y≤bv c z:=by
 obtain ⟨m,rfl⟩:∃ m:Nat,z=y+m:=⟨(z-y).toNat,by omega⟩;have:=ky c y f o m E;omega
theorem Et (c:ar) {y z:Int} (f:c.Ok) (F:1601≤y) (h:y≤z) (G:z≤9997):ax c y≤ax c z:=by
 have o:=eQ c (y-1) (by rw [show y-1+1=y by omega];exact ja f F om);have E:=eQ c (z-1) (by rw [show z-1+1=z by omega];exact ja f om G);rw [show y-1+1=y by omega] at o;rw [show z-1+1=z by omega] at E;have:=qd c f (show 1600≤y-1 by omega) (show y-1≤z-1 by omega) om;omega
theorem dl (c:ar) {y z:Int} (f:c.Ok) (F:1600≤y) (h:y<z) (o:z≤9997):bv c y<ax c z:=by
 have E:=eQ c y (ja f om om);have:=Et c f (show 1601≤y+1 by omega) (show y+1≤z by omega) o;omega
theorem IM {c:ar} {day y z:Int} (h:eO c day y) (G:eO c day z):y=z:=by
 obtain ⟨E,J,O⟩:=h;obtain ⟨F,R,S⟩:=G;obtain ⟨o,T,H⟩:=bo E;obtain ⟨_,U,I⟩:=bo F;rcases Int.lt_trichotomy y z with f | f | f
 ·have:=dl c o om f I;omega
 ·exact f
 ·have:=dl c o om f H;omega
theorem Is {c:ar} {day y:Int} (h:eO c day y) (H:cH day=true):dL day-c.shift-2≤y∧y≤dL day-c.shift+2:=by
 obtain ⟨f,R,S⟩:=h;obtain ⟨F,y1,y2⟩:=bo f;obtain ⟨hm,hs,hk,I⟩:=cg F;have J:=jY f;have O:=lg f om;have eS:ax c y=ct c (y-1+c.shift)+1:=by simp [ax,f]
 have eE:bv c y=ct c (y+c.shift):=by simp [bv,fo f]
 have E:0≤day∧day<3068037:=by simpa [cH] using H
 obtain ⟨o1,o2,o3,o4⟩:=nd day E.1 E.2;have w1:=gD (y-1+c.shift) c.month;have w2:=gD (y+c.shift) c.month;have V:=gE _ _ J;have W:=gE _ _ O;have T:=ep (y-1+c.shift) (c.month+1);have U:=ep (y+c.shift) (c.month+1);have f1:bK (y-1+c.shift) c.month-7≤ct c (y-1+c.shift):=by
  unfold ct dn
  split
  ·omega
  ·split <;> omega
 have f2:ct c (y+c.shift)≤bK (y+c.shift) c.month+3:=by
  unfold ct dn
  split
  ·omega
  ·split <;> omega
 constructor
 ·rcases Int.lt_or_le y (dL day-c.shift-2) with o | o
  ·exfalso
   have h6:=kV (y+c.shift) (y+c.shift+1) om om;have G:=kV (y+c.shift+1) (dL day) om om;omega
  ·exact o
 ·rcases Int.lt_or_le (dL day-c.shift+2) y with o | o
  ·exfalso
   have G:=kV (dL day+1) (y-1+c.shift) om om;have h8:=gg (dL day+1) (dL day+1) om om;omega
  ·exact o
open Classical in
noncomputable def cC (c:ar) (day:Int):Int:=if h:cH day=true∧∃ y,eO c day y then h.2.choose else 0
open Classical in
noncomputable def gW (c:ar) (day:Int):Int:=if cH day=true∧∃ y,eO c day y then day-ax c (cC c day)+1 else 0
open Classical in
noncomputable def cG (c:ar) (day:Int):Int:=if c.okB=false then 1 else if cH day=false then 4 else if ∃ y,eO c day y then 0 else 11
theorem eX {c:ar} {day y:Int} (G:cH day=true) (h:eO c day y):cC c day=y∧gW c day=day-ax c y+1∧cG c day=0:=by
 have E:=(bo h.1).1;have o:c.okB=true:=by simpa [ar.okB] using E
 have f:cH day=true∧∃ y,eO c day y:=⟨G,y,h⟩;have F:cC c day=y:=by
  unfold cC;rw [dif_pos f];exact IM f.2.choose_spec h
 refine ⟨F,?_,?_⟩
 ·unfold gW
  rw [if_pos f,F]
 ·unfold cG
  rw [if_neg (by simp [o]),if_neg (by simp [G]),if_pos f.2]
theorem fw {c:ar} {day:Int} (h:¬ ∃ y,eO c day y):cC c day=0∧gW c day=0∧(c.okB=true→cH day=true→cG c day=11):=by
 refine ⟨?_,?_,?_⟩
 ·unfold cC
  rw [dif_neg (fun f=>h f.2)]
 ·unfold gW
  rw [if_neg (fun f=>h f.2)]
 ·intro o f
  unfold cG;rw [if_neg (by simp [o]),if_neg (by simp [f]),if_neg h]
theorem DY {c:ar} {day:Int} (h:cG c day=0):c.Ok∧cH day=true∧eO c day (cC c day):=by
 unfold cG at h
 split at h
 ·omega
 ·rename_i h1
  split at h
  ·omega
  ·rename_i h2
   split at h
   ·rename_i h3
    obtain ⟨y,f⟩:=h3;have o:cH day=true:=by simpa using h2
    rw [(eX o f).1];exact ⟨(bo f.1).1,o,f⟩
   ·omega
theorem jZ {c:ar} {day:Int} (h:c.okB=false):cC c day=0∧gW c day=0∧cG c day=1:=by
 have f:¬ ∃ y,eO c day y:=by
  rintro ⟨y,o⟩;have:=(bo o.1).1;have:c.okB=true:=by simpa [ar.okB] using this
  rw [h] at this;cases this
 have:=fw f;exact ⟨this.1,this.2.1,by unfold cG;rw [if_pos h]⟩
theorem ic {c:ar} {day:Int} (h:cH day=false):cC c day=0∧gW c day=0∧(c.okB=true→cG c day=4):=by
 refine ⟨?_,?_,?_⟩
 ·unfold cC;rw [dif_neg (fun f=>by rw [h] at f;cases f.1)]
 ·unfold gW;rw [if_neg (fun f=>by rw [h] at f;cases f.1)]
 ·intro o
  unfold cG;rw [if_neg (by simp [o]),if_pos h]
def aI (c:ar) (lv y:Int):Int:=if c.okB then (if 1≤lv∧lv≤5 then (if c.first≤y∧y≤c.last then 0 else 11) else 1) else 1
theorem a9 {c:ar} {lv y:Int} (h:aI c lv y=0):c.Ok∧c.okB=true∧1≤lv∧lv≤5∧c.first≤y∧y≤c.last∧aO c y 1601=0:=by
 unfold aI at h
 split at h
 ·rename_i hk
  split at h
  ·rename_i hl
   split at h
   ·rename_i hy
    have f:c.Ok:=by simpa [ar.okB] using hk
    have o:=f.1;unfold ar.served at o;exact ⟨f,hk,hl.1,hl.2,hy.1,hy.2,ja f om om⟩
   ·omega
  ·omega
 ·omega
theorem jI {c:ar} {lv y:Int} (f:c.Ok) (h:1≤lv) (o:lv≤5) (a:c.first≤y) (b:y≤c.last):aI c lv y=0:=by
 have:c.okB=true:=by simpa [ar.okB] using f
 simp [aI,this,h,o,a,b]
def cP (w:World) (g:Nat) (l:List (Int × Int)):Prop:=
 g<w.heap.size∧∀ i,i<l.length→w.cell? ⟨g,2*i,none⟩=some (.int .i64 (l[i]?.getD (0,0)).1)∧w.cell? ⟨g,2*i+1,none⟩=some (.int .i64 (l[i]?.getD (0,0)).2)
theorem qt {w f:World} {K g:Nat} (E:Below K w f) (F:g<K) (h:g<w.heap.size):g<f.heap.size:=by
 have e:=E.block g F;by_cases o:g<f.heap.size
 ·exact o
 ·exfalso
  rw [Array.getElem?_eq_none om,Array.getElem?_eq_getElem h] at e;cases e
theorem cP.below {w E:World} {K g:Nat} {l:List (Int × Int)} (h:cP w g l) (f:Below K w E) (o:g<K):cP E g l:=
 ⟨qt f o h.1,fun i hi=>⟨(f.cell (p:=⟨g,2*i,none⟩) o).trans (h.2 i hi).1,(f.cell (p:=⟨g,2*i+1,none⟩) o).trans (h.2 i hi).2⟩⟩
theorem cP.call {w f:World} {g:Nat} {l:List (Int × Int)} (h:cP w g l) (o:Below w w f):cP f g l:=h.below o h.1
theorem cP.alloc {w:World} {g:Nat} {l:List (Int × Int)} (h:cP w g l) (o:Obj):cP (w.alloc o) g l:=
 h.below ((Below.refl _ _).alloc (Nat.le_refl _) o) h.1
def lN (l:List (Int × Int)):List Value:=l.flatMap fun x=>[.int .i64 x.1,.int .i64 x.2]
theorem kG (a b:List (Int × Int)):lN (a++b)=lN a++lN b:=by simp [lN]
theorem FV (l:List (Int × Int)) (i:Nat) (hi:i<l.length):(lN l)[2*i]?=some (.int .i64 (l[i]?.getD (0,0)).1)∧(lN l)[2*i+1]?=some (.int .i64 (l[i]?.getD (0,0)).2):=by
 induction l generalizing i with
 | nil=>simp at hi
 | cons x l h =>
  cases i with
  | zero=>simp [lN]
  | succ i =>
   have:=h i (by simpa using hi);have f:2*(i+1)=2*i+1+1:=om;rw [f];simpa [lN] using this
theorem fu {w:World} {f n:Nat} {v:Value} {l:List (Int × Int)} {e:TypeId} (h:w.ownsRow f e 2 v n (lN l)) (T:0<n) :
  ∃ g cap,v=.slice (some ⟨g,0,none⟩) n cap∧n≤cap∧cap≤maxLen∧f≤g∧cP w g l:=by
 have G:=h;obtain ⟨S,H | ⟨g,cap,F,rfl,O,I,J,R,U,V⟩⟩:=h
 ·exact absurd H.2 om
 ·refine ⟨g,cap,rfl,J,R,O,(Array.getElem?_eq_some_iff.1 I).1,fun i hi=>?_⟩
  have o:=G.cells (g:=g) rfl;have E:∀ j,(⟨g,0,none⟩:Addr).add j=⟨g,j,none⟩:=fun j=>by simp [Addr.add];omega
  have:=FV l i hi;exact ⟨by rw [← E];exact o _ _ this.1,by rw [← E];exact o _ _ this.2⟩
def fY (c:ar) (y:Int):List Int:=bm (fun k=>(ci c y (k+1):Int)) (aU c y)
def cq (w:World) (f h:Nat) (c:ar) (y:Int):Prop:=cP w f (oY c y)∧bf w h (fY c y)
theorem cq.below {w F:World} {K f o:Nat} {c:ar} {y:Int} (h:cq w f o c y) (E:Below K w F) (G:f<K) (H:o<K):cq F f o c y:=⟨h.1.below E G,h.2.below E H⟩
theorem cq.call {w F:World} {f o:Nat} {c:ar} {y:Int} (h:cq w f o c y) (E:Below w w F):cq F f o c y:=⟨h.1.call E,h.2.call E⟩
theorem cq.alloc {w:World} {f E:Nat} {c:ar} {y:Int} (h:cq w f E c y) (o:Obj):cq (w.alloc o) f E c y:=⟨h.1.alloc o,h.2.alloc o⟩
abbrev cK (y:Int) (n cap g1 m g2:Nat):Value:=.agg #[y,.slice (some ⟨g1,0,none⟩) n cap,.slice (some ⟨g2,0,none⟩) m m]
def El (c:ar) (y:Int) (w:World) (e:Ending) (o:World):Prop:=
 ∃ f cap h,w.heap.size≤f∧w.heap.size≤h∧e=.returned (.tuple #[cK y (bW c y) cap f (aU c y) h,.int .i64 0])∧bW c y≤cap∧cap≤maxLen∧cq o f h c y∧Below w w o
theorem zC (c:ar) (lv y:Int) (w:World) (S:c.name.size≤1000) (J:¬ aI c lv y=0) :
    Calls Tryz.prog 53 #[av c,lv,y] w fun e V=>e=.returned (.tuple #[.agg #[.int .i64 0,.slice none 0 0,.slice none 0 0],aI c lv y])∧Below w w V:=by
  simp only [av];cases H:c.okB
  · have I:=hide (show aI c lv y=1 by simp [aI,H])
    have F:co c=1:=by simp [co,H]
    clear J;go_enter Tryz.func53,Tryz.ntmps53;go_wp2_with fail;refine (bs c _ S).mono ?_;rintro e G ⟨rfl,f⟩;rw [F];have E:w.heap.size+1<G.heap.size:=aj f;have o:w.heap.size<G.heap.size:=om;obtain ⟨O,T⟩:=gI f;go_wp2;exact bodyPost_ret (v:=.tuple #[.agg #[.int .i64 0,.slice none 0 0,.slice none 0 0],.int .i64 1]) (by simp [results,Tryz.results53,go_sem,O,E,o]) rfl ⟨by rw [I.out],by (repeat' exact bel)⟩
  · have F:co c=0:=by simp [co,H]
    by_cases R:1≤lv∧lv≤5
    · have I := hide (show aI c lv y = 11 by
        have U:¬ (c.first≤y∧y≤c.last):=fun h=>J (by simp [aI,H,R,h])
        simp [aI,H,R];omega)
      have W:y<c.first∨c.last<y:=by
        have U:¬ (c.first≤y∧y≤c.last):=fun h=>J (by simp [aI,H,R,h])
        omega
      clear J;go_enter Tryz.func53,Tryz.ntmps53;go_wp2_with fail;refine (bs c _ S).mono ?_;rintro e G ⟨rfl,f⟩;rw [F];have E:w.heap.size+1<G.heap.size:=aj f;have o:w.heap.size<G.heap.size:=om;obtain ⟨O,T⟩:=gI f;go_wp2
      all_goals first
        | (exfalso;omega)
        | (exact bodyPost_ret (v:=.tuple #[.agg #[.int .i64 0,.slice none 0 0,.slice none 0 0],.int .i64 11]) (by simp [results,Tryz.results53,go_sem,O,E,o]) rfl ⟨by rw [I.out],by (repeat' exact bel)⟩)
    · have I:=hide (show aI c lv y=1 by simp [aI,H];omega)
      clear J;go_enter Tryz.func53,Tryz.ntmps53;go_wp2_with fail;refine (bs c _ S).mono ?_;rintro e G ⟨rfl,f⟩;rw [F];have E:w.heap.size+1<G.heap.size:=aj f;have o:w.heap.size<G.heap.size:=om;obtain ⟨O,T⟩:=gI f;go_wp2
      all_goals first
        | (exfalso;omega)
        | (exact bodyPost_ret (v:=.tuple #[.agg #[.int .i64 0,.slice none 0 0,.slice none 0 0],.int .i64 1]) (by simp [results,Tryz.results53,go_sem,O,E,o]) rfl ⟨by rw [I.out],by (repeat' exact bel)⟩)
theorem gy:(Tryz.prog.info? 45).map (fun i=>(i.zero,i.size,i.bytes))=some (some (.agg #[.int .i64 0,.int .i64 0]),2,16):=by kernel_rfl
theorem ap.own {w F:World} {f:Option Nat} {B:Nat} {E:Array Value} {t:TypeId} (h:ap w B E t) (G:w.grownBy F f) (o:f≠some B):ap F B E t:=(G.block B h.lt (fun e=>o e.symm)).trans h
theorem bf.own {w E:World} {f:Option Nat} {B:Nat} {F:List Int} (h:bf w B F) (G:w.grownBy E f) (o:f≠some B):bf E B F:=(G.block B h.lt (fun e=>o e.symm)).trans h
theorem ap.frozen {w:World} {B:Nat} {f:Array Value} {t:TypeId} (h:ap w B f t) (k:Nat):w.frozen? ⟨B,k,none⟩=false:=by
 unfold ap at h;simp [World.frozen?,h]
theorem ap.set3 {w:World} {B:Nat} {a b c:Value} {t:TypeId} (h:ap w B #[a,b,c] t) (u:Value):ap (w.setCell ⟨B,1,none⟩ u) B #[a,u,c] t:=by
 unfold ap at h ⊢;simp [World.setCell,Array.getElem?_modify,h]
theorem sV {w:World} {f:Nat} {e:TypeId} {o n:Nat} {v:Value} {E:List Value} (h:w.ownsRow f e o v n E) {B:Nat} (F:B<f):v.ownBlock≠some B:=fun e=>by have:=h.lt B e;omega
theorem eg {w:World} {f n:Nat} {v:Value} {J:List Value} {e:TypeId} {o:Nat} (h:w.ownsRow f e o v n J) (S:0<n):∃ g cap,v=.slice (some ⟨g,0,none⟩) n cap∧n≤cap∧cap≤maxLen∧f≤g:=by
 obtain ⟨R,F | ⟨g,cap,E,rfl,H,O,G,I,T,U⟩⟩:=h
 ·exact absurd F.2 om
 ·exact ⟨g,cap,rfl,G,I,H⟩
theorem cP.same {w f:World} {g:Nat} {l:List (Int × Int)} (h:cP w g l) (e:f.heap[g]?=w.heap[g]?):cP f g l:=by
 refine ⟨?_,fun i hi=>⟨(World.cell?_of_block (a:=⟨g,2*i,none⟩) e).trans (h.2 i hi).1,(World.cell?_of_block (a:=⟨g,2*i+1,none⟩) e).trans (h.2 i hi).2⟩⟩;by_cases o:g<f.heap.size
 ·exact o
 ·exfalso
  rw [Array.getElem?_eq_none om,Array.getElem?_eq_getElem h.1] at e;cases e
theorem cq.far {w:World} {f o:Nat} {c:ar} {y:Int} (h:cq w f o c y) {p:Addr} (E:f≠p.block) (F:o≠p.block) (u:Value):cq (w.setCell p u) f o c y:=
 ⟨h.1.same (Below.heap_setCell w p u f E),h.2.far F u⟩
def Ku (c:ar) (y:Int) (F h f:Nat) (wr:World) (k j:Nat):Prop:=
 ∃ v,ap wr F #[y,v,.slice (some ⟨h,0,none⟩) (aU c y) (aU c y)] 96 ∧
  wr.ownsRow f 45 2 v (ci c y k+j) (lN (gM c y k++bm (gu c y k) j))
theorem kW (c:ar) (lv y:Int) (w:World) (hn:c.name.size≤1000) (hE:aI c lv y=0) :
  Calls Tryz.prog 53 #[av c,lv,y] w (El c y w):=by
 obtain ⟨cI,a4,dd,dq,d1,d2,hA⟩:=a9 hE;have cE:co c=0:=by simp [co,a4]
 have HA:=hide hA;have c7:=hide (fs c y hA);obtain ⟨n,bh⟩:∃ n,n=aU c y:=⟨_,rfl⟩;have c6:12≤n∧n≤52:=by have:=fs c y hA;omega
 have HN:=hide (show n=(bi c y).length from bh);have I:=hide bh;have dY:=fun W=>jR n om W
 clear hE cI a4 hA bh;simp only [av];go_enter Tryz.func53,Tryz.ntmps53;go_wp2_with fail;refine (bs c _ hn).mono ?_;rintro e w1 ⟨rfl,aB⟩;rw [cE];have a1:w.heap.size+1<w1.heap.size:=aj aB;have ab:w.heap.size<w1.heap.size:=om;have b7:=hide (show Below w w w1 by (repeat' exact bel));have HQ:=hide (aa (B:=w.heap.size) (c:=c) aB ae (az (au w c) ac _));have HR:=hide (ap.call (ap.new (w.alloc (bG c)) #[.int .i64 0,.slice none 0 0,.slice none 0 0] 96) aB);obtain ⟨q0,q1,q2,q3,q4,q5,q6,q7,q8,q9,bl,bp,bt,bw⟩:=HQ.out;clear aB;go_wp2_with fail
 all_goals first
  | (exfalso;omega)
  | skip
 refine (dN c y _ hn).mono ?_;rintro e w2 ⟨rfl,O⟩;clear q0 q1 q2 q3 q4 q5 q6 q7 q8 q9 bl bp bt bw;rw [HA.out];have a2:w.heap.size<w2.heap.size:=Nat.lt_of_lt_of_le ab O.size;have cl:=hide (aa O ab HQ.out);have cp:=hide (HR.out.call O);have b8:=hide (b7.out.trans (O.mono (Nat.le_of_lt ab)));have b4:w.heap.size+1<w2.heap.size:=Nat.lt_of_lt_of_le a1 O.size;obtain ⟨q0,q1,q2,q3,q4,q5,q6,q7,q8,q9,bl,bp,bt,bw⟩:=cl.out;clear O;go_wp2_with fail;refine (uM c y _ hn HA.out).mono ?_;rintro e w3 ⟨g,hg,rfl,hI,aF⟩;clear q0 q1 q2 q3 q4 q5 q6 q7 q8 q9 bl bp bt bw;have HI:=hide hI;have cr:=hide (cp.out.call aF);have b9:=hide (b8.out.trans (aF.mono (Nat.le_of_lt a2)));have a5:w.heap.size+1<w3.heap.size:=Nat.lt_of_lt_of_le b4 aF.size;have a3:=hI.lt;clear aF hI;rw [← HN.out];go_wp2_with fail;obtain ⟨i0,hi,ab,a1,a2⟩:=info_parts gy;obtain ⟨G,hG⟩:∃ G,G=w3.heap.size:=⟨_,rfl⟩;rw [← hG] at a5 a3 ⊢;have HG:=hide hG;clear hG;have HP:=hide (fun k hk=>lD c y HA.out k hk);have ca:=hide (fun k m (h:k≤m)=>lF c y h);have bx:=hide (di c y HA.out);have cb:=hide (fun k hk=>il c y HA.out k hk);have cc:=hide (fun k hk=>dM c y HA.out k hk);have d3:=ch c y HA.out;go_loopw [9,66] (fun s9 s wr=>∃ k:Nat,s=.int .i64 k∧s9=.int .i64 (aM c y k)∧k≤n∧Ku c y (G+1) G (G+2) wr k 0∧bf wr G (kq n k fun i=>(ci c y (i+1):Int))∧Below G w3 wr∧G+2≤wr.heap.size) (fun _ s _=>(60-intOf s).toNat)
 case atStart =>
  refine ⟨0,rfl,by simp [aM],by omega,⟨.slice none 0 0,?_,?_⟩,?_,?_,?_⟩
  ·have:=ap.new (w3.alloc (fp n)) #[y,.slice none 0 0,.slice (some ⟨G,0,none⟩) n n] 96
   rw [← I.out];simpa [HG.out] using this
  ·simpa [ci,gM,bm,lN] using World.ownsRow_nil _ _ _ _
  ·rw [iA,HG.out];exact (bf.new w3 n).alloc _
  ·rw [HG.out];exact ((Below.refl _ _).alloc (Nat.le_refl _) _).alloc ac _
  ·simp [HG.out]
 case round =>
  obtain ⟨k,rfl,rfl,hk,hS,V,hB,U⟩:=hrel;by_cases bd:k<n
  ·have bc:k<(bi c y).length:=by rw [← HN.out];exact bd
   have c1:wr.cell? ⟨g,k,none⟩=some (.int .i64 (bJ c y k)):=((HI.out).below hB a3).cell (k:=k) bc;have hp:=cc.out k bc;have hf:=cb.out k (Nat.le_of_lt bc);have d0:=HP.out k (by rw [← I.out];exact bd);have aA:((oZ c y k:Nat):Int)=(bJ c y k-aM c y k) / 7+1:=by unfold oZ jr;omega
   obtain ⟨wo,rfl⟩:∃ wo:World,wo=wr:=⟨_,rfl⟩;go_wp2_with fail;go_loopw [9] (fun s9 wr=>∃ j:Nat,s9=.int .i64 (aM c y k+7*(j:Int))∧j≤oZ c y k∧Ku c y (G+1) G (G+2) wr k j∧bf wr G (kq n k fun i=>(ci c y (i+1):Int))∧Below G w3 wr∧G+2≤wr.heap.size) (fun s9 _=>(bJ c y k+7-intOf s9).toNat)
   case atStart=>exact ⟨0,by simp,Nat.zero_le _,hS,V,hB,U⟩
   case round =>
    clear hS V hB U c1;obtain ⟨j,rfl,hj,⟨v,T,f⟩,V,hB,U⟩:=hrel;have b5:wr.cell? ⟨G+1,1,none⟩=some v:=T.cell 1;by_cases c9:j<oZ c y k
    ·have ds:aM c y k+7*(j:Int)≤bJ c y k:=om
     have c0:ci c y k+j+1≤100:=by
      have h1:=ca.out (k+1) n om;have h2:=bx.out.2;rw [bW,← I.out] at h2;rw [ci] at h1;omega
     rcases (show bJ c y k<aM c y k+7*(j:Int)+6∨aM c y k+7*(j:Int)+6≤bJ c y k by omega) with b0 | b0
     ·have HV:=hide (show (gu c y k j).2=bJ c y k by simp [gu];omega)
      go_wp2_with ((at_builtin;refine wpList_append_own _ rfl _ _ 93 rfl (G+2) 45 i0 (.agg #[.int .i64 0,.int .i64 0]) 2 16 Tryz.underlying93 hi ab a1 a2 rfl ag _ _ _ rfl (f.alloc _) ⟨wr,0,none⟩ 1 1 [.int .i64 (aM c y k+7*(j:Int)),.int .i64 (bJ c y k)] rfl rfl ?c1 ?c2 ?c3 ?c4 ?c5 ?_))
      case c1 =>
       intro i u F
       match i,F with
       | 0,F=>simp at F;subst F;simp [Addr.add]
       | 1,F=>simp at F;subst F;simp [Addr.add]
       | i+2,F=>simp at F
      case c2=>intro u F;simp at F;rcases F with rfl | rfl <;> rfl
      case c3=>unfold maxLen;omega
      case c4=>omega
      case c5=>have:=U;simp;omega
      ·intro v' w' E o _
       have ay:=sV f (B:=G+1) om;have R:=sV f (B:=G) om;have H:=(T.alloc (.cells #[.int .i64 (aM c y k+7*(j:Int)),bJ c y k] 45)).own o ay;have S:=hide ((V.alloc (.cells #[.int .i64 (aM c y k+7*(j:Int)),bJ c y k] 45)).own o R);have a6:=hide ((hB.alloc om (.cells #[.int .i64 (aM c y k+7*(j:Int)),bJ c y k] 45)).grown o ae (fun k hk=>by have:=(f.lt k hk).1;omega));have al:G+2≤w'.heap.size:=by have:=o.size;simp at this;omega
       have b6:w'.cell? ⟨G+1,1,none⟩=some v:=H.cell 1;have cS:=H.frozen 1;have ah:=hide H;have J:=hide E;obtain ⟨g1,ad,rfl,_,_,_⟩:=eg E om;clear T f V hB o E H b5 ay R aA;go_wp2;refine ⟨⟨j+1,by rw [show aM c y k+7*((j+1:Nat):Int)=aM c y k+7*(j:Int)+7 by omega],by omega,⟨_,ah.out.set3 _,?_⟩,S.out.far ac _,a6.out.setCell ac _,by simpa using al⟩,by simp [intOf];omega⟩;have h1:=ownsRow_setCell_below J.out (a:=⟨G+1,1,none⟩) ac (.slice (some ⟨g1,0,none⟩) (ci c y k+j+1) ad);rw [bB,← List.append_assoc,kG];have e2:lN [gu c y k j]=[.int .i64 (aM c y k+7*(j:Int)),.int .i64 (gu c y k j).2]:=rfl;rw [e2,HV.out];exact h1
     ·have HV:=hide (show (gu c y k j).2=aM c y k+7*(j:Int)+6 by simp [gu];omega)
      go_wp2_with ((at_builtin;refine wpList_append_own _ rfl _ _ 93 rfl (G+2) 45 i0 (.agg #[.int .i64 0,.int .i64 0]) 2 16 Tryz.underlying93 hi ab a1 a2 rfl ag _ _ _ rfl (f.alloc _) ⟨wr,0,none⟩ 1 1 [.int .i64 (aM c y k+7*(j:Int)),.int .i64 (aM c y k+7*(j:Int)+6)] rfl rfl ?c1 ?c2 ?c3 ?c4 ?c5 ?_))
      case c1 =>
       intro i u F
       match i,F with
       | 0,F=>simp at F;subst F;simp [Addr.add]
       | 1,F=>simp at F;subst F;simp [Addr.add]
       | i+2,F=>simp at F
      case c2=>intro u F;simp at F;rcases F with rfl | rfl <;> rfl
      case c3=>unfold maxLen;omega
      case c4=>omega
      case c5=>have:=U;simp;omega
      ·intro v' w' E o _
       have ay:=sV f (B:=G+1) om;have R:=sV f (B:=G) om;have H:=(T.alloc (.cells #[.int .i64 (aM c y k+7*(j:Int)),.int .i64 (aM c y k+7*(j:Int)+6)] 45)).own o ay;have S:=hide ((V.alloc (.cells #[.int .i64 (aM c y k+7*(j:Int)),.int .i64 (aM c y k+7*(j:Int)+6)] 45)).own o R);have a6:=hide ((hB.alloc om (.cells #[.int .i64 (aM c y k+7*(j:Int)),.int .i64 (aM c y k+7*(j:Int)+6)] 45)).grown o ae (fun k hk=>by have:=(f.lt k hk).1;omega));have al:G+2≤w'.heap.size:=by have:=o.size;simp at this;omega
       have b6:w'.cell? ⟨G+1,1,none⟩=some v:=H.cell 1;have cS:=H.frozen 1;have ah:=hide H;have J:=hide E;obtain ⟨g1,ad,rfl,_,_,_⟩:=eg E om;clear T f V hB o E H b5 ay R aA;go_wp2;refine ⟨⟨j+1,by rw [show aM c y k+7*((j+1:Nat):Int)=aM c y k+7*(j:Int)+7 by omega],by omega,⟨_,ah.out.set3 _,?_⟩,S.out.far ac _,a6.out.setCell ac _,by simpa using al⟩,by simp [intOf];omega⟩;have h1:=ownsRow_setCell_below J.out (a:=⟨G+1,1,none⟩) ac (.slice (some ⟨g1,0,none⟩) (ci c y k+j+1) ad);rw [bB,← List.append_assoc,kG];have e2:lN [gu c y k j]=[.int .i64 (aM c y k+7*(j:Int)),.int .i64 (gu c y k j).2]:=rfl;rw [e2,HV.out];exact h1
    ·have c8:bJ c y k<aM c y k+7*(j:Int):=om
     obtain rfl:j=oZ c y k:=om;obtain ⟨g1,cap,rfl,ba,aq,cy,a0⟩:=fu f om;have d4:wr.cell? ⟨G+1,2,none⟩=some (.slice (some ⟨G,0,none⟩) n n):=by rw [I.out];exact T.cell 2
     have kJ:=V.cell (k:=k) (by rw [kN];exact bd);have d5:=V.frozen k;have H:=hide T;have S:=hide V;have E:=hide f;clear T V f a0 aA;go_wp2;refine ⟨⟨k+1,by go_num,by rw [bM],by omega,⟨_,H.out.far ac _,?_⟩,?_,hB.setCell ac _,by simpa using U⟩,by simp [intOf];omega⟩
     ·have h1:=ownsRow_setCell_below E.out (a:=⟨G,k,none⟩) ac (.int .i64 ((ci c y k+oZ c y k:Nat):Int))
      simpa [ci,gM,bm] using h1
     ·rw [← fM]
      exact S.out.set k _
  ·obtain rfl:k=n:=om
   obtain ⟨v,T,f⟩:=hS;have b2:=bx.out;rw [bW,← I.out] at b2;obtain ⟨g1,cap,rfl,ba,aq,cy,a0⟩:=fu f om;have k0:wr.cell? ⟨G+1,0,none⟩=some (.int .i64 y):=T.cell 0;have k1:wr.cell? ⟨G+1,1,none⟩=some (.slice (some ⟨g1,0,none⟩) (ci c y k+0) cap):=T.cell 1;have k2:wr.cell? ⟨G+1,2,none⟩=some (.slice (some ⟨G,0,none⟩) k k):=by rw [I.out];exact T.cell 2
   have hR:=cr.out.below hB (by simpa using a5);have r0:wr.cell? ⟨w+1,0,none⟩=some (.int .i64 0):=by have:=hR.cell 0;simpa using this
   have r1:wr.cell? ⟨w+1,1,none⟩=some (.slice none 0 0):=by have:=hR.cell 1;simpa using this
   have r2:wr.cell? ⟨w+1,2,none⟩=some (.slice none 0 0):=by have:=hR.cell 2;simpa using this
   have f0:wr.frozen? ⟨w+1,0,none⟩=false:=by have:=hR.frozen 0;simpa using this
   have f1:wr.frozen? ⟨w+1,1,none⟩=false:=by have:=hR.frozen 1;simpa using this
   have f2:wr.frozen? ⟨w+1,2,none⟩=false:=by have:=hR.frozen 2;simpa using this
   have b3:=hide a0;have E:=hide f;have S:=hide V;clear T f a0 hR V;have cM:w.heap.size+1<wr.heap.size:=om;go_wp2;have hN:ci c y k+0=bW c y:=by rw [bW,← I.out];rfl
   have cs:ci c y k=bW c y:=hN;have hD:=b3.out;have bb:gM c y k++bm (gu c y k) 0=oY c y:=by simp [oY,bm,← I.out]
   rw [bb] at hD;have a8:=S.out;rw [iz] at a8;have b1:(List.range k).map (fun i=>(ci c y (i+1):Int))=fY c y:=by rw [fY,bm,← I.out]
   rw [b1] at a8;have bX:cq wr g1 G c y:=⟨hD,a8⟩
   have a7:cq (((wr.setCell ⟨w+1,0,none⟩ (.int .i64 y)).setCell ⟨w+1,1,none⟩ (.slice (some ⟨g1,0,none⟩) (ci c y k+0) cap)).setCell ⟨w+1,2,none⟩ (.slice (some ⟨G,0,none⟩) k k)) g1 G c y:=
    ((bX.far ae ae _).far ae ae _).far ae ae _
   refine bodyPost_ret (v:=.tuple #[cK y (bW c y) cap g1 k G,.int .i64 0]) (by simp [results,Tryz.results53,go_sem,r0,r1,r2,f0,f1,f2,cM,cs]) rfl ⟨g1,cap,G,by omega,by omega,by rw [I.out],by omega,aq,by simpa using a7,?_⟩;have O:Below w w wr:=b9.out.trans (hB.mono om);exact ((O.setCell ac _).setCell ac _).setCell ac _
theorem IS (w:World):(Instr.makeSlice 94 (.int .i64 4) (.int .i64 4)).run Tryz.prog w=.ok (.slice (some ⟨w,0,none⟩) 4 4) (w.alloc (fp 4)):=jR 4 om w
def dQ (c:ar) (y lv:Int) (w:World) (e:Ending) (f:World):Prop:=
 ∃ g,e=.returned (.slice (some ⟨g,0,none⟩) (aR c y lv) (aR c y lv))∧bf f g (dm c y lv)∧Below w w f
theorem Bm (c:ar) (y:Int) (w:World) (cap f o:Nat) (F:aO c y 1601=0) :
  Calls Tryz.prog 152 #[cK y (bW c y) cap f (aU c y) o] w (dQ c y 1 w):=by
 have H:=hide (show dm c y 1=[(bW c y:Int)] by simp [dm,bm,aR,aW,ce,bW]);have E:=hide (show aR c y 1=1 by simp [aR]);clear F;simp only [cK];go_enter Tryz.func152,Tryz.ntmps152;go_wp2;go_ret;refine ⟨w+1,by rw [E.out];rfl,?_,by (repeat' exact bel)⟩;rw [H.out];have h:=ap.new (w.alloc (.cells #[y,.slice (some ⟨f,0,none⟩) (bW c y) cap,.slice (some ⟨o,0,none⟩) (aU c y) (aU c y)] 96)) #[.int .i64 (bW c y:Int)] 3;simp at h;exact h
theorem vF (c:ar) (y:Int) (w:World) (cap F f:Nat) (h:bf w f (fY c y)) :
  Calls Tryz.prog 155 #[cK y (bW c y) cap F (aU c y) f] w (dQ c y 4 w):=by
 have H:=hide (show dm c y 4=fY c y by simp [dm,bm,aR,aW,ce,fY]);have o:=hide (show aR c y 4=aU c y by simp [aR]);have E:=hide h;clear h;simp only [cK];go_enter Tryz.func155,Tryz.ntmps155;go_wp2;go_ret;exact ⟨f,by rw [o.out];rfl,by rw [H.out];exact E.out.alloc _,by (repeat' exact bel)⟩
theorem wA (c:ar) (y:Int) (w:World) (cap I J:Nat) (E:aO c y 1601=0) :
  Calls Tryz.prog 156 #[cK y (bW c y) cap I (aU c y) J] w (dQ c y 5 w):=by
 have T:=di c y E;have H:=hide (show dm c y 5=(List.range (bW c y)).map (fun i:Nat=>((i:Int)+1)) by simp [dm,bm,aR,aW]);have F:=hide (show aR c y 5=bW c y by simp [aR]);clear E;generalize bW c y=n at *;have S:=fun W=>jR n om W
 simp only [cK];go_enter Tryz.func156,Tryz.ntmps156;go_wp2_with fail;go_loopw [11] (fun s wr=>∃ k:Nat,s=.int .i64 k∧k≤n∧bf wr (w+1) (kq n k fun i=>(i:Int)+1)∧Below w w wr) (fun s _=>(100-intOf s).toNat)
 case atStart=>exact ⟨0,rfl,by omega,by rw [iA];simpa using bf.new (w.alloc _) n,by (repeat' exact bel)⟩
 case round =>
  obtain ⟨k,rfl,U,f,o⟩:=hrel;by_cases h:k<n
  ·have R:=f.frozen k
   have O:=f.cell (k:=k) (by rw [kN];exact h);have G:=hide f;clear f;go_wp2;refine ⟨⟨k+1,by go_num,by omega,?_,o.setCell ac _⟩,by simp [intOf];omega⟩;rw [← fM];exact G.out.set k _
  ·obtain rfl:k=n:=om
   go_wp2;go_ret;rw [iz] at f;exact ⟨w+1,by rw [F.out];rfl,by rw [H.out];exact f,o⟩
theorem lV (c:ar) (y:Int) (w:World) (cap O h:Nat) (U:aO c y 1601=0) (V:bf w h (fY c y)) :
    Calls Tryz.prog 154 #[cK y (bW c y) cap O (aU c y) h] w (dQ c y 3 w):=by
  have hb:=fs c y U;have H:=hide (show dm c y 3=(List.range 4).map (fun i=>(aW c y 3 (i+1):Int)) by simp [dm,bm,aR]);have W:=hide (show aR c y 3=4 by simp [aR]);have T:=hide V;have G:=hide (show ∀ i,aW c y 3 i=ci c y (aU c y*i / 4) from fun i=>by simp [aW,ce]);have HP:=hide (show ∀ i,i<aU c y→(fY c y)[i]?.getD 0=(ci c y (i+1):Int) from fun i hi=>by simp [fY,bm,hi]);have HL:=hide (show (fY c y).length=aU c y by simp [fY,bm]);clear U V;generalize aU c y=n at *;have ah:=IS;simp only [cK];go_enter Tryz.func154,Tryz.ntmps154;go_wp2_with fail;go_loopw [8] (fun s wr=>∃ k:Nat,s=.int .i64 k∧k≤4∧bf wr (w+1) (kq 4 k fun i=>(aW c y 3 (i+1):Int))∧Below (w.heap.size+1) (w.alloc (.cells #[y,.slice (some ⟨O,0,none⟩) (bW c y) cap,.slice (some ⟨h,0,none⟩) n n] 96)) wr) (fun s _=>(5-intOf s).toNat)
  case atStart=>exact ⟨0,rfl,by omega,by rw [iA];simpa using bf.new (w.alloc _) 4,(Below.refl _ _).alloc ac _⟩
  case round =>
    obtain ⟨k,rfl,hk,F,E⟩:=hrel;by_cases S:k<4
    · have q2 : wr.cell? ⟨w, 2, none⟩ = some (.slice (some ⟨h, 0, none⟩) n n) := by
        rw [E.cell (p:=⟨w,2,none⟩) ac];simp
      have R:=E.size;simp at R;have ad:=F.frozen k;have ab:=F.cell (k:=k) (by rw [kN];exact S);have I:=hide F;have f:∀ i,i<n→wr.cell? ⟨h,i,none⟩=some (.int .i64 (ci c y (i+1))):=by
        intro i hi;have h1:=(((T.out).alloc (.cells #[y,.slice (some ⟨O,0,none⟩) (bW c y) cap,.slice (some ⟨h,0,none⟩) n n] 96)).below E (by have:=T.out.lt;omega)).cell (k:=i) (by rw [HL.out];exact hi);rw [h1,HP.out i hi]
      have o:=hide f;clear F f;have h4:k=0∨k=1∨k=2∨k=3:=om;rcases h4 with rfl | rfl | rfl | rfl
      · have J : wr.cell? ⟨h, n / 4 - 1, none⟩ = some (.int .i64 (aW c y 3 (0 + 1) : Int)) := by
          rw [o.out _ om,G.out];congr 4;omega
        rw [show ((0:Nat):Int)=0 from rfl];go_wp2;refine ⟨⟨1,by first | rfl | go_num | simp,by omega,?_,E.setCell ac _⟩,by simp [intOf]⟩;rw [← fM];exact I.out.set 0 _
      · have J : wr.cell? ⟨h, n * 2 / 4 - 1, none⟩ = some (.int .i64 (aW c y 3 (1 + 1) : Int)) := by
          rw [o.out _ om,G.out];congr 4;omega
        rw [show ((1:Nat):Int)=1 from rfl];go_wp2;refine ⟨⟨2,by first | rfl | go_num | simp,by omega,?_,E.setCell ac _⟩,by simp [intOf]⟩;rw [← fM];exact I.out.set 1 _
      · have J : wr.cell? ⟨h, n * 3 / 4 - 1, none⟩ = some (.int .i64 (aW c y 3 (2 + 1) : Int)) := by
          rw [o.out _ om,G.out];congr 4;omega
        rw [show ((2:Nat):Int)=2 from rfl];go_wp2;refine ⟨⟨3,by first | rfl | go_num | simp,by omega,?_,E.setCell ac _⟩,by simp [intOf]⟩;rw [← fM];exact I.out.set 2 _
      · have J : wr.cell? ⟨h, n - 1, none⟩ = some (.int .i64 (aW c y 3 (3 + 1) : Int)) := by
          rw [o.out _ om,G.out];congr 4;omega
        rw [show ((3:Nat):Int)=3 from rfl];go_wp2;refine ⟨⟨4,by first | rfl | go_num | simp,by omega,?_,E.setCell ac _⟩,by simp [intOf]⟩;rw [← fM];exact I.out.set 3 _
    · obtain rfl:k=4:=om
      go_wp2;go_ret;rw [iz] at F;exact ⟨w+1,by rw [W.out];rfl,by rw [H.out];exact F,Below.trans ((Below.refl _ _).alloc (Nat.le_refl _) _) (E.mono om)⟩
theorem vK (c:ar) (y:Int) (w:World) (cap I F:Nat) (J:aO c y 1601=0) (O:bf w F (fY c y)) :
  Calls Tryz.prog 153 #[cK y (bW c y) cap I (aU c y) F] w (dQ c y 2 w):=by
 have H:=hide (show dm c y 2=[(aW c y 2 1:Int),(aW c y 2 2:Int)] by simp [dm,bm,aR,List.range_succ]);have R:=hide (show aR c y 2=2 by simp [aR]);have E:=hide (show aR c y 3=4 by simp [aR]);have S:=hide (show (dm c y 3)[1]?.getD 0=(aW c y 2 1:Int) by rw [gr c y 3 1 (by simp [aR])];simp [aW,ce]);have T:=hide (show (dm c y 3)[3]?.getD 0=(aW c y 2 2:Int) by rw [gr c y 3 3 (by simp [aR])];simp [aW,ce]);have G:=hide (ip c y 3);have U:=hide J;have V:=hide O;clear J O;simp only [cK];go_enter Tryz.func153,Tryz.ntmps153;go_wp2_with fail;refine (lV c y _ cap I F U.out (V.out.alloc _)).mono ?_;rintro e o ⟨g,rfl,h,f⟩;rw [E.out];have c1:o.cell? ⟨g,1,none⟩=some (.int .i64 (aW c y 2 1:Int)):=by rw [h.cell (by rw [G.out,E.out];omega),S.out]
 have c3:o.cell? ⟨g,3,none⟩=some (.int .i64 (aW c y 2 2:Int)):=by rw [h.cell (by rw [G.out,E.out];omega),T.out]
 have W:=f.size;simp at W;have HJ:=hide h;clear h;go_wp2;go_region
 all_goals go_wp2
 go_ret;refine ⟨o,by rw [R.out];rfl,?_,((Below.trans ((Below.refl _ _).alloc (Nat.le_refl _) _) (f.mono ac)).alloc om _).drew⟩;rw [H.out];exact heap_alloc_new o _
theorem GY (c:ar) (y:Int) (w:World) (cap E h:Nat) (J:aO c y 1601=0) (G:bf w h (fY c y)) :
  Calls Tryz.prog 91 #[cK y (bW c y) cap E (aU c y) h,.int .i64 1] w (dQ c y 1 w):=by
 have H:=hide G;clear G;simp only [cK];go_enter Tryz.func91,Tryz.ntmps91;go_wp2;generalize f:((w.alloc (.cells #[y,.slice (some ⟨E,0,none⟩) (bW c y) cap,.slice (some ⟨h,0,none⟩) (aU c y) (aU c y)] 96)).alloc (.cells _ _))=W;have U:W.cell? ⟨w+1,0,none⟩=some (.func (.func 152) #[] #[]):=by rw [← f];simp
 have R:W.cell? ⟨w,0,none⟩=some (.int .i64 y):=by rw [← f];simp
 have S:W.cell? ⟨w,1,none⟩=some (.slice (some ⟨E,0,none⟩) (bW c y) cap):=by rw [← f];simp
 have T:W.cell? ⟨w,2,none⟩=some (.slice (some ⟨h,0,none⟩) (aU c y) (aU c y)):=by rw [← f];simp
 have o:=hide (show Below w w W by rw [← f];(repeat' exact bel));have I:=hide (show bf W h (fY c y) by rw [← f];exact (H.out.alloc _).alloc _);clear f;go_region_with (go_at_call 152;refine (Bm c y _ cap E h J).mono ?_;rintro e V ⟨g,rfl,O,F⟩)
 all_goals
  go_simp;go_wp2;go_ret;exact ⟨g,rfl,O,Below.trans (by first | exact o.out | exact o.out.drew | exact below_drewN o.out _) (F.mono (by have:=o.out.size;simpa using this))⟩
theorem Io (c:ar) (y:Int) (w:World) (cap E h:Nat) (J:aO c y 1601=0) (H:bf w h (fY c y)) :
  Calls Tryz.prog 91 #[cK y (bW c y) cap E (aU c y) h,.int .i64 2] w (dQ c y 2 w):=by
 have I:=hide H;clear H;simp only [cK];go_enter Tryz.func91,Tryz.ntmps91;go_wp2;generalize f:((w.alloc (.cells #[y,.slice (some ⟨E,0,none⟩) (bW c y) cap,.slice (some ⟨h,0,none⟩) (aU c y) (aU c y)] 96)).alloc (.cells _ _))=W;have U:W.cell? ⟨w+1,1,none⟩=some (.func (.func 153) #[] #[]):=by rw [← f];simp
 have R:W.cell? ⟨w,0,none⟩=some (.int .i64 y):=by rw [← f];simp
 have S:W.cell? ⟨w,1,none⟩=some (.slice (some ⟨E,0,none⟩) (bW c y) cap):=by rw [← f];simp
 have T:W.cell? ⟨w,2,none⟩=some (.slice (some ⟨h,0,none⟩) (aU c y) (aU c y)):=by rw [← f];simp
 have o:=hide (show Below w w W by rw [← f];(repeat' exact bel));have F:=hide (show bf W h (fY c y) by rw [← f];exact (I.out.alloc _).alloc _);clear f;go_region_with (go_at_call 153;refine (vK c y _ cap E h J (by exact F.out)).mono ?_;rintro e V ⟨g,rfl,O,G⟩)
 all_goals
  go_simp;go_wp2;go_ret;exact ⟨g,rfl,O,Below.trans (by first | exact o.out | exact o.out.drew | exact below_drewN o.out _) (G.mono (by have:=o.out.size;simpa using this))⟩
theorem GP (c:ar) (y:Int) (w:World) (cap E h:Nat) (J:aO c y 1601=0) (H:bf w h (fY c y)) :
  Calls Tryz.prog 91 #[cK y (bW c y) cap E (aU c y) h,.int .i64 3] w (dQ c y 3 w):=by
 have I:=hide H;clear H;simp only [cK];go_enter Tryz.func91,Tryz.ntmps91;go_wp2;generalize f:((w.alloc (.cells #[y,.slice (some ⟨E,0,none⟩) (bW c y) cap,.slice (some ⟨h,0,none⟩) (aU c y) (aU c y)] 96)).alloc (.cells _ _))=W;have U:W.cell? ⟨w+1,2,none⟩=some (.func (.func 154) #[] #[]):=by rw [← f];simp
 have R:W.cell? ⟨w,0,none⟩=some (.int .i64 y):=by rw [← f];simp
 have S:W.cell? ⟨w,1,none⟩=some (.slice (some ⟨E,0,none⟩) (bW c y) cap):=by rw [← f];simp
 have T:W.cell? ⟨w,2,none⟩=some (.slice (some ⟨h,0,none⟩) (aU c y) (aU c y)):=by rw [← f];simp
 have o:=hide (show Below w w W by rw [← f];(repeat' exact bel));have F:=hide (show bf W h (fY c y) by rw [← f];exact (I.out.alloc _).alloc _);clear f;go_region_with (go_at_call 154;refine (lV c y _ cap E h J (by exact F.out)).mono ?_;rintro e V ⟨g,rfl,O,G⟩)
 all_goals
  go_simp;go_wp2;go_ret;exact ⟨g,rfl,O,Below.trans (by first | exact o.out | exact o.out.drew | exact below_drewN o.out _) (G.mono (by have:=o.out.size;simpa using this))⟩
theorem Ii (c:ar) (y:Int) (w:World) (cap E h:Nat) (T:aO c y 1601=0) (H:bf w h (fY c y)) :
  Calls Tryz.prog 91 #[cK y (bW c y) cap E (aU c y) h,.int .i64 4] w (dQ c y 4 w):=by
 have I:=hide H;clear H;simp only [cK];go_enter Tryz.func91,Tryz.ntmps91;go_wp2;generalize f:((w.alloc (.cells #[y,.slice (some ⟨E,0,none⟩) (bW c y) cap,.slice (some ⟨h,0,none⟩) (aU c y) (aU c y)] 96)).alloc (.cells _ _))=W;have U:W.cell? ⟨w+1,3,none⟩=some (.func (.func 155) #[] #[]):=by rw [← f];simp
 have O:W.cell? ⟨w,0,none⟩=some (.int .i64 y):=by rw [← f];simp
 have R:W.cell? ⟨w,1,none⟩=some (.slice (some ⟨E,0,none⟩) (bW c y) cap):=by rw [← f];simp
 have S:W.cell? ⟨w,2,none⟩=some (.slice (some ⟨h,0,none⟩) (aU c y) (aU c y)):=by rw [← f];simp
 have o:=hide (show Below w w W by rw [← f];(repeat' exact bel));have F:=hide (show bf W h (fY c y) by rw [← f];exact (I.out.alloc _).alloc _);clear f;go_region_with (go_at_call 155;refine (vF c y _ cap E h (by exact F.out)).mono ?_;rintro e V ⟨g,rfl,J,G⟩)
 all_goals
  go_simp;go_wp2;go_ret;exact ⟨g,rfl,J,Below.trans (by first | exact o.out | exact o.out.drew | exact below_drewN o.out _) (G.mono (by have:=o.out.size;simpa using this))⟩
theorem Hq (c:ar) (y:Int) (w:World) (cap E h:Nat) (J:aO c y 1601=0) (G:bf w h (fY c y)) :
  Calls Tryz.prog 91 #[cK y (bW c y) cap E (aU c y) h,.int .i64 5] w (dQ c y 5 w):=by
 have H:=hide G;clear G;simp only [cK];go_enter Tryz.func91,Tryz.ntmps91;go_wp2;generalize f:((w.alloc (.cells #[y,.slice (some ⟨E,0,none⟩) (bW c y) cap,.slice (some ⟨h,0,none⟩) (aU c y) (aU c y)] 96)).alloc (.cells _ _))=W;have U:W.cell? ⟨w+1,4,none⟩=some (.func (.func 156) #[] #[]):=by rw [← f];simp
 have R:W.cell? ⟨w,0,none⟩=some (.int .i64 y):=by rw [← f];simp
 have S:W.cell? ⟨w,1,none⟩=some (.slice (some ⟨E,0,none⟩) (bW c y) cap):=by rw [← f];simp
 have T:W.cell? ⟨w,2,none⟩=some (.slice (some ⟨h,0,none⟩) (aU c y) (aU c y)):=by rw [← f];simp
 have o:=hide (show Below w w W by rw [← f];(repeat' exact bel));have I:=hide (show bf W h (fY c y) by rw [← f];exact (H.out.alloc _).alloc _);clear f;go_region_with (go_at_call 156;refine (wA c y _ cap E h J).mono ?_;rintro e V ⟨g,rfl,O,F⟩)
 all_goals
  go_simp;go_wp2;go_ret;exact ⟨g,rfl,O,Below.trans (by first | exact o.out | exact o.out.drew | exact below_drewN o.out _) (F.mono (by have:=o.out.size;simpa using this))⟩
theorem jK (c:ar) (y lv:Int) (w:World) (cap o f:Nat) (G:1≤lv) (H:lv≤5) (E:aO c y 1601=0) (F:bf w f (fY c y)) :
  Calls Tryz.prog 91 #[cK y (bW c y) cap o (aU c y) f,lv] w (dQ c y lv w):=by
 have h:lv=1∨lv=2∨lv=3∨lv=4∨lv=5:=om;rcases h with rfl | rfl | rfl | rfl | rfl
 ·exact GY c y w cap o f E F
 ·exact Io c y w cap o f E F
 ·exact GP c y w cap o f E F
 ·exact Ii c y w cap o f E F
 ·exact Hq c y w cap o f E F
theorem xI (c:ar) (y lv:Int) (w:World) (cap o f:Nat) (I:1≤lv) (J:lv≤5) (E:aO c y 1601=0) (F:bf w f (fY c y)) :
  Calls Tryz.prog 125 #[cK y (bW c y) cap o (aU c y) f,lv] w fun e O=>e=.returned (.int .i64 (aR c y lv:Int))∧Below w w O:=by
 have H:=hide F;clear F;have G:=hide E;clear E;simp only [cK];go_enter Tryz.func125,Tryz.ntmps125;go_wp2_with fail;refine (jK c y lv _ cap o f I J G.out (H.out.alloc _)).mono ?_;rintro e S ⟨g,rfl,R,h⟩;go_wp2;go_ret;exact ⟨rfl,((Below.refl _ _).alloc (Nat.le_refl _) _).trans (h.mono ac)⟩
theorem zk (a:Int) (w:World):Calls Tryz.prog 151 #[a] w fun e f=>e=.returned (.bool false)∧w=f:=by
 go_enter Tryz.func151,Tryz.ntmps151;go_wp2;go_ret;exact ⟨aY ac,rfl⟩
theorem FA (a:Int) (w:World):Calls Tryz.prog 210 #[a] w fun e f=>e=.returned (.bool false)∧w=f:=by
 go_enter Tryz.func210,Tryz.ntmps210;go_wp2;go_ret;exact ⟨aY ac,rfl⟩
theorem wC (a b:Int) (w:World):Calls Tryz.prog 150 #[a,b] w fun e f=>e=.returned (.bool (decide (a<b)))∧w=f:=by
 go_enter Tryz.func150,Tryz.ntmps150;go_wp2_with (go_at_call 210;refine (FA _ _).mono ?_;rintro e f ⟨rfl,rfl⟩)
 all_goals (go_ret;exact ⟨aY ac,rfl⟩)
def Ja (l:List Int) (x:Int) (w:World) (e:Ending) (f:World):Prop:=∃ b,e=.returned (.tuple #[.int .i64 (CS l x:Int),.bool b])∧w=f
theorem u5 (g:Nat) (l:List Int) (x:Int) (w:World) (hl:l.length≤100000) (hI:bf w g l) (hs:∀ i j,i≤j→j<l.length→l[i]?.getD 0≤l[j]?.getD 0) :
  Calls Tryz.prog 90 #[.slice (some ⟨g,0,none⟩) l.length l.length,x] w (Ja l x w):=by
 have V:=hide hs;have T:=hide hI;obtain ⟨n,E⟩:∃ n,n=l.length:=⟨_,rfl⟩;have ah:n≤100000:=om;have f:=hide E;rw [← E];clear hs hI E hl;go_enter Tryz.func90,Tryz.ntmps90;go_wp2_with fail;go_loop [7,8] (fun I J=>∃ a b:Nat,I=.int .i64 a∧J=.int .i64 b∧a≤b∧b≤n∧Hid (∀ t,t<a→l[t]?.getD 0<x)∧Hid (∀ t,b≤t→t<n→x≤l[t]?.getD 0)) (fun I J=>(intOf J-intOf I).toNat)
 case atStart=>exact ⟨0,n,rfl,rfl,by omega,by omega,hide (fun t ht=>by omega),hide (fun t W h2=>by omega)⟩
 case round =>
  obtain ⟨a,b,rfl,rfl,ab,G,R,S⟩:=hrel;by_cases ad:a<b
  ·have c1:w.cell? ⟨g,(a+b) / 2,none⟩=some (.int .i64 (l[(a+b) / 2]?.getD 0)):=T.out.cell (by rw [← f.out];omega)
   by_cases o:l[(a+b) / 2]?.getD 0<x
   ·have H:decide (l[(a+b) / 2]?.getD 0<x)=true:=by simpa using o
    have F:=hide o;clear o;go_wp2_with (go_at_call 150;refine (wC _ _ _).mono ?_;rintro e O ⟨rfl,rfl⟩);refine ⟨⟨(a+b) / 2+1,b,?_,rfl,by omega,G,hide (fun t ht=>?_),S⟩,by simp [intOf];omega⟩
    ·congr 1
    ·have W:=V.out t ((a+b) / 2) om (by rw [← f.out];omega)
     have h2:=F.out;omega
   ·have H:decide (l[(a+b) / 2]?.getD 0<x)=false:=by simpa using o
    have F:=hide o;clear o;go_wp2_with (go_at_call 150;refine (wC _ _ _).mono ?_;rintro e O ⟨rfl,rfl⟩);refine ⟨⟨a,(a+b) / 2,rfl,?_,by omega,by omega,R,hide (fun t al aq=>?_)⟩,by simp [intOf];omega⟩
    ·congr 1
    ·have W:=V.out ((a+b) / 2) t om (by rw [← f.out];omega)
     have h2:=F.out;omega
  ·obtain rfl:a=b:=om
   have U:=hide (show CS l x=a from tb l x a (by rw [← f.out];omega) (fun j hj=>R.out j hj) (fun h=>S.out a (Nat.le_refl _) (by rw [f.out];exact h)));by_cases E:a<n
   ·have c1:w.cell? ⟨g,a,none⟩=some (.int .i64 (l[a]?.getD 0)):=T.out.cell (by rw [← f.out];omega)
    go_wp2_with (go_at_call 151;refine (zk _ _).mono ?_;rintro e O ⟨rfl,rfl⟩)
    all_goals
     go_ret2;exact ⟨_,by rw [U.out];rfl,rfl⟩
   ·go_wp2_with (go_at_call 151;refine (zk _ _).mono ?_;rintro e O ⟨rfl,rfl⟩)
    all_goals
     go_ret2;exact ⟨_,by rw [U.out];rfl,rfl⟩
theorem rL (c:ar) (y:Int) (w:World) (cap E I:Nat) (G:aO c y 1601=0) (S:bW c y≤cap) (H:cq w E I c y) (a b:Nat) (O:a<bW c y) (R:b<bW c y) :
  Calls Tryz.prog 80 #[cK y (bW c y) cap E (aU c y) I,.int .i64 ((a:Int)+1),.int .i64 ((b:Int)+1)] w fun e w'=>e=.returned (bI ⟨bD c y a,bD c y (b+1)-1⟩)∧Below w w w':=by
 have ab:=di c y G;have h:=(H.1.2 a (by rw [fQ];exact O)).1;have o:=(H.1.2 b (by rw [fQ];exact R)).2;rw [(en c y G a O).1] at h;rw [(en c y G b R).1] at o;have F:=H.1.1;simp only [Option.getD_some] at h o;have T:=hide h;have U:=hide o;clear G H h o;generalize bW c y=n at *;simp only [cK,bI];go_enter Tryz.func80,Tryz.ntmps80;go_wp2;generalize f:((w.alloc (.cells #[y,.slice (some ⟨E,0,none⟩) n cap,.slice (some ⟨I,0,none⟩) (aU c y) (aU c y)] 96)).alloc (.cells _ _))=W;have b1:W.cell? ⟨w,1,none⟩=some (.slice (some ⟨E,0,none⟩) n cap):=by rw [← f];simp
 have c1:W.cell? ⟨E,a*2,none⟩=some (.int .i64 (bD c y a)):=by
  rw [← f,World.cell?_alloc_lt _ _ _ ae,World.cell?_alloc_lt _ _ _ F,Nat.mul_comm];exact T.out
 have c2:W.cell? ⟨E,b*2+1,none⟩=some (.int .i64 (bD c y (b+1)-1)):=by
  rw [← f,World.cell?_alloc_lt _ _ _ ae,World.cell?_alloc_lt _ _ _ F,Nat.mul_comm];exact U.out
 have r0:W.cell? ⟨w+1,0,none⟩=some (.int .i64 0):=by rw [← f];simp
 have r1:W.cell? ⟨w+1,1,none⟩=some (.int .i64 0):=by rw [← f];simp
 have f0:W.frozen? ⟨w+1,0,none⟩=false:=by rw [← f];simp
 have f1:W.frozen? ⟨w+1,1,none⟩=false:=by rw [← f];simp
 have J:w.heap.size+1<W.heap.size:=by rw [← f];simp
 have V:=hide (show Below w w W by rw [← f];(repeat' exact bel));clear f;go_region
 all_goals
  go_wp2;exact bodyPost_ret (v:=.agg #[bD c y a,.int .i64 (bD c y (b+1)-1)]) (by simp [results,Tryz.results80,go_sem,r0,r1,f0,f1,J]) rfl ⟨rfl,((V.out.setCell ac _).setCell ac _).drew⟩
theorem Ba (c:ar) (y:Int) (u:Un) (w:World) (cap o f:Nat) (I:1≤u.lv) (J:u.lv≤5) (E:aO c y 1601=0) (F:bf w f (fY c y)) (T:u.ix<1∨(aR c y u.lv:Int)<u.ix) :
  Calls Tryz.prog 96 #[cK y (bW c y) cap o (aU c y) f,aC u] w fun e O=>e=.returned (.tuple #[.int .i64 0,.int .i64 0,.bool false])∧Below w w O:=by
 have G:=hide E;have H:=hide F;clear E F;simp only [cK,aC];go_enter Tryz.func96,Tryz.ntmps96;go_wp2_with fail;refine (jK c y u.lv _ cap o f I J G.out ((H.out.alloc _).alloc _)).mono ?_;rintro e R ⟨g,rfl,S,h⟩;have U:R.cell? ⟨w+1,2,none⟩=some (.int .i64 u.ix):=am h;go_wp2
 all_goals first
  | (exfalso;omega)
  | (go_ret3;exact ⟨rfl,by (repeat' exact bel)⟩)
theorem pc (c:ar) (y:Int) (u:Un) (w:World) (cap T J:Nat) (H:1≤u.lv) (I:u.lv≤5) (E:aO c y 1601=0) (hI:bf w J (fY c y)) (i:Nat) (hx:u.ix=(i:Int)+1) (hi:i<aR c y u.lv) :
  Calls Tryz.prog 96 #[cK y (bW c y) cap T (aU c y) J,aC u] w fun e w'=>e=.returned (.tuple #[.int .i64 ((aW c y u.lv i:Int)+1),.int .i64 (aW c y u.lv (i+1):Int),.bool true])∧Below w w w':=by
 obtain ⟨lv,yr,ix⟩:=u;obtain rfl:ix=(i:Int)+1:=hx;simp only at H I hi ⊢;have U:=dv c y E lv;have hcut:=cT c y E lv H I i om;have V:=cT c y E lv H I (i+1) om;have ah:=di c y E;have S:=hide (ip c y lv);have R:=hide (fun i hi=>gr c y lv i hi);have O:=hide (zq c y lv);have W:=hide E;have HI:=hide hI;clear E hI;obtain ⟨n,hn⟩:∃ n,n=aR c y lv:=⟨_,rfl⟩;have h:=hide hn;have ad:i<n:=om;have ab:n≤60:=om;clear U hi hn;simp only [cK,aC];cases i with
 | zero =>
  go_enter Tryz.func96,Tryz.ntmps96;rw [show ((0:Nat):Int)+1=1 from rfl];go_wp2_with fail;refine (jK c y lv _ cap T J H I W.out ((HI.out.alloc _).alloc _)).mono ?_;rintro e o ⟨g,rfl,F,f⟩;rw [← h.out];have q2:o.cell? ⟨w+1,2,none⟩=some (.int .i64 1):=am f;have c0:o.cell? ⟨g,0,none⟩=some (.int .i64 (aW c y lv 1:Int)):=by rw [F.cell (by rw [S.out,← h.out];omega),R.out 0 (by rw [← h.out];omega)]
  have G:=hide (show Below w w o by (repeat' exact bel));clear F f;go_wp2
  all_goals first
   | (exfalso;omega)
   | skip
  go_quiet (fail);go_wp2;go_ret3;refine ⟨by rw [O.out];rfl,?_⟩
  first | exact G.out | exact below_drewN G.out _
 | succ j =>
  go_enter Tryz.func96,Tryz.ntmps96;rw [show ((j+1:Nat):Int)+1=(j:Int)+2 by omega];go_wp2_with fail;refine (jK c y lv _ cap T J H I W.out ((HI.out.alloc _).alloc _)).mono ?_;rintro e o ⟨g,rfl,F,f⟩;rw [← h.out];have q2:o.cell? ⟨w+1,2,none⟩=some (.int .i64 ((j:Int)+2)):=am f;have c0:o.cell? ⟨g,j,none⟩=some (.int .i64 (aW c y lv (j+1):Int)):=by rw [F.cell (by rw [S.out,← h.out];omega),R.out j (by rw [← h.out];omega)]
  have c1:o.cell? ⟨g,j+1,none⟩=some (.int .i64 (aW c y lv (j+1+1):Int)):=by rw [F.cell (by rw [S.out,← h.out];omega),R.out (j+1) (by rw [← h.out];omega)]
  have G:=hide (show Below w w o by (repeat' exact bel));clear F f;go_wp2
  all_goals first
   | (exfalso;omega)
   | skip
  go_quiet (fail);go_wp2;go_ret3;refine ⟨rfl,?_⟩
  first | exact G.out | exact below_drewN G.out _
theorem tQ (c:ar) (y:Int) (F:aO c y 1601=0) (lv:Int) (o:1≤lv) (E:lv≤5) (i j:Nat) (h:i≤j) (f:j<(dm c y lv).length):(dm c y lv)[i]?.getD 0≤(dm c y lv)[j]?.getD 0:=by
 rw [ip] at f;rw [gr c y lv i om,gr c y lv j f];have:=dj c y F lv o E (show i+1≤j+1 by omega) om;omega
theorem nM (c:ar) (y lv:Int) (w:World) (cap I F:Nat) (J:1≤lv) (O:lv≤5) (E:aO c y 1601=0) (R:bf w F (fY c y)) (a:Nat) :
  Calls Tryz.prog 54 #[cK y (bW c y) cap I (aU c y) F,lv,.int .i64 ((a:Int)+1)] w fun e w'=>e=.returned (aC ⟨lv,y,(gJ c y lv a:Int)+1⟩)∧Below w w w':=by
 have ab:=dv c y E lv;have ad:gJ c y lv a≤60:=by
  have:=Er (dm c y lv) ((a:Int)+1);rw [ip] at this;unfold gJ;omega
 have V:=hide (fun i j h hj=>tQ c y E lv J O i j h hj);have H:=hide (ip c y lv);have HX:=hide (show CS (dm c y lv) ((a:Int)+1)=gJ c y lv a from rfl);have T:=hide E;have U:=hide R;clear E R;simp only [cK,aC];go_enter Tryz.func54,Tryz.ntmps54;go_wp2_with fail;refine (jK c y lv _ cap I F J O T.out ((U.out.alloc _).alloc _)).mono ?_;rintro e o ⟨g,rfl,S,f⟩;have r0:o.cell? ⟨w+1,0,none⟩=some (.int .i64 0):=am f;have r1:o.cell? ⟨w+1,1,none⟩=some (.int .i64 0):=am f;have r2:o.cell? ⟨w+1,2,none⟩=some (.int .i64 0):=am f;have f0:o.frozen? ⟨w+1,0,none⟩=false:=ak f;have f1:o.frozen? ⟨w+1,1,none⟩=false:=ak f;have f2:o.frozen? ⟨w+1,2,none⟩=false:=ak f;have b0:o.cell? ⟨w,0,none⟩=some (.int .i64 y):=am f;have G:w.heap.size+1<o.heap.size:=aj f;have W:=hide (show Below w w o by (repeat' exact bel));clear f;rw [← H.out];go_wp2_with fail;refine (u5 g (dm c y lv) _ _ (by rw [H.out];omega) S V.out).mono ?_;rintro e w2 ⟨bb,rfl,rfl⟩;rw [HX.out];clear S;go_wp2;exact bodyPost_ret (v:=.agg #[lv,y,.int .i64 ((gJ c y lv a:Int)+1)]) (by simp [results,Tryz.results54,go_sem,r0,r1,r2,f0,f1,f2,G]) rfl ⟨rfl,((W.out.setCell ac _).setCell ac _).setCell ac _⟩
end
end Go.Proofs.YtjhhmeoibfdcmaaGreat
