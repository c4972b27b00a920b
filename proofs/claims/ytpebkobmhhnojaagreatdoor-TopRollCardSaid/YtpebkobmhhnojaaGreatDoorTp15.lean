/- Lemmas. -/
import Derived.Laws.EntriesVeiled
import Derived.Outline
import Derived.Test.YtpebkobmhhnojaaGreatDoorTp09
import Derived.Test.YtpebkobmhhnojaaGreatDoorTp11
set_option linter.unusedSimpArgs false
set_option linter.unusedVariables false
set_option maxRecDepth 100000
set_option maxHeartbeats 12800000
namespace Go.Proofs.YtpebkobmhhnojaaGreatDoor
section
open Go.RowKit Qd
def eg (c:aC) (day y:Int):Prop:=aP c y 1601=0∧aF c y≤day∧day≤bB c y
theorem kz {c:aC} {y a:Int} (h:c.Ok) (f:a≤y) (o:y≤9997):aP c y a=0:=by
 have:c.okB=true:=by simpa [aC.okB] using h
 simp [aP,this,f,o]
theorem eI (c:aC) (y:Int) (h:aP c (y+1) 1601=0):aF c (y+1)=bB c y+1:=by
 obtain ⟨f,E,F⟩:=br h;have o:aP c y 1600=0:=kz f om om;have e:y+1-1+c.shift=y+c.shift:=om;simp [aF,h,bB,o,e]
theorem mp (c:aC) (y:Int) (h:c.Ok) (E:1600≤y) (m:Nat) (F:y+m≤9997):bB c y+358*m≤bB c (y+m):=by
 induction m with
 | zero=>simp
 | succ m o =>
  have G:=o om;have e:y+((m+1:Nat):Int)=y+m+1:=om;rw [e];have f:aP c (y+m+1) 1601=0:=kz h om om;have H:=eI c (y+m) f;have I:=dm c (y+m+1) f;have J:bM c (y+m+1)=bB c (y+m+1)-aF c (y+m+1)+1:=by simp [bM,f]
  omega
theorem mY (c:aC) {y z:Int} (f:c.Ok) (o:1600≤y) (h:y≤z) (E:z≤9997):bB c y≤bB c z:=by
 obtain ⟨m,rfl⟩:∃ m:Nat,z=y+m:=⟨(z-y).toNat,by omega⟩;have:=mp c y f o m E;omega
theorem qD (c:aC) {y z:Int} (f:c.Ok) (F:1601≤y) (h:y≤z) (G:z≤9997):aF c y≤aF c z:=by
 have o:=eI c (y-1) (by rw [show y-1+1=y by omega];exact kz f F om);have E:=eI c (z-1) (by rw [show z-1+1=z by omega];exact kz f om G);rw [show y-1+1=y by omega] at o;rw [show z-1+1=z by omega] at E;have:=mY c f (show 1600≤y-1 by omega) (show y-1≤z-1 by omega) om;omega
theorem dc (c:aC) {y z:Int} (f:c.Ok) (F:1600≤y) (h:y<z) (o:z≤9997):bB c y<aF c z:=by
 have E:=eI c y (kz f om om);have:=qD c f (show 1601≤y+1 by omega) (show y+1≤z by omega) o;omega
theorem DX {c:aC} {day y z:Int} (h:eg c day y) (G:eg c day z):y=z:=by
 obtain ⟨E,J,O⟩:=h;obtain ⟨F,U,V⟩:=G;obtain ⟨o,W,H⟩:=br E;obtain ⟨_,Y,I⟩:=br F;rcases Int.lt_trichotomy y z with f | f | f
 ·have:=dc c o om f I;omega
 ·exact f
 ·have:=dc c o om f H;omega
theorem CP {c:aC} {day y:Int} (h:eg c day y) (H:cH day=true):dr day-c.shift-2≤y∧y≤dr day-c.shift+2:=by
 obtain ⟨f,U,V⟩:=h;obtain ⟨F,y1,y2⟩:=br f;obtain ⟨hm,hs,hk,I⟩:=bN F;have J:=fM f;have O:=gY f om;have eS:aF c y=bW c (y-1+c.shift)+1:=by simp [aF,f]
 have eE:bB c y=bW c (y+c.shift):=by simp [bB,dj f]
 have E:0≤day∧day<3068037:=by simpa [cH] using H
 obtain ⟨o1,o2,o3,o4⟩:=pU day E.1 E.2;have w1:=eO (y-1+c.shift) c.month;have w2:=eO (y+c.shift) c.month;have e1:=gn _ _ J;have e2:=gn _ _ O;have W:=eh (y-1+c.shift) (c.month+1);have Y:=eh (y+c.shift) (c.month+1);have f1:bZ (y-1+c.shift) c.month-7≤bW c (y-1+c.shift):=by
  unfold bW dJ
  split
  ·omega
  ·split <;> omega
 have f2:bW c (y+c.shift)≤bZ (y+c.shift) c.month+3:=by
  unfold bW dJ
  split
  ·omega
  ·split <;> omega
 constructor
 ·rcases Int.lt_or_le y (dr day-c.shift-2) with o | o
  ·exfalso
   have h6:=np (y+c.shift) (y+c.shift+1) om om;have G:=np (y+c.shift+1) (dr day) om om;omega
  ·exact o
 ·rcases Int.lt_or_le (dr day-c.shift+2) y with o | o
  ·exfalso
   have G:=np (dr day+1) (y-1+c.shift) om om;have h8:=gd (dr day+1) (dr day+1) om om;omega
  ·exact o
open Classical in
noncomputable def cF (c:aC) (day:Int):Int:=if h:cH day=true∧∃ y,eg c day y then h.2.choose else 0
open Classical in
noncomputable def fh (c:aC) (day:Int):Int:=if cH day=true∧∃ y,eg c day y then day-aF c (cF c day)+1 else 0
open Classical in
noncomputable def cB (c:aC) (day:Int):Int:=if c.okB=false then 1 else if cH day=false then 4 else if ∃ y,eg c day y then 0 else 11
theorem ig {c:aC} {day y:Int} (G:cH day=true) (h:eg c day y):cF c day=y∧fh c day=day-aF c y+1∧cB c day=0:=by
 have E:=(br h.1).1;have o:c.okB=true:=by simpa [aC.okB] using E
 have f:cH day=true∧∃ y,eg c day y:=⟨G,y,h⟩;have F:cF c day=y:=by
  unfold cF;rw [dif_pos f];exact DX f.2.choose_spec h
 refine ⟨F,?_,?_⟩
 ·unfold fh
  rw [if_pos f,F]
 ·unfold cB
  rw [if_neg (by simp [o]),if_neg (by simp [G]),if_pos f.2]
theorem jC {c:aC} {day:Int} (h:¬ ∃ y,eg c day y):cF c day=0∧fh c day=0∧(c.okB=true→cH day=true→cB c day=11):=by
 refine ⟨?_,?_,?_⟩
 ·unfold cF
  rw [dif_neg (fun f=>h f.2)]
 ·unfold fh
  rw [if_neg (fun f=>h f.2)]
 ·intro o f
  unfold cB;rw [if_neg (by simp [o]),if_neg (by simp [f]),if_neg h]
theorem zx {c:aC} {day:Int} (h:cB c day=0):c.Ok∧cH day=true∧eg c day (cF c day):=by
 unfold cB at h
 split at h
 ·omega
 ·rename_i h1
  split at h
  ·omega
  ·rename_i h2
   split at h
   ·rename_i h3
    obtain ⟨y,f⟩:=h3;have o:cH day=true:=by simpa using h2
    rw [(ig o f).1];exact ⟨(br f.1).1,o,f⟩
   ·omega
theorem ko {c:aC} {day:Int} (h:c.okB=false):cF c day=0∧fh c day=0∧cB c day=1:=by
 have f:¬ ∃ y,eg c day y:=by
  rintro ⟨y,o⟩;have:=(br o.1).1;have:c.okB=true:=by simpa [aC.okB] using this
  rw [h] at this;cases this
 have:=jC f;exact ⟨this.1,this.2.1,by unfold cB;rw [if_pos h]⟩
theorem jT {c:aC} {day:Int} (h:cH day=false):cF c day=0∧fh c day=0∧(c.okB=true→cB c day=4):=by
 refine ⟨?_,?_,?_⟩
 ·unfold cF;rw [dif_neg (fun f=>by rw [h] at f;cases f.1)]
 ·unfold fh;rw [if_neg (fun f=>by rw [h] at f;cases f.1)]
 ·intro o
  unfold cB;rw [if_neg (by simp [o]),if_pos h]
def aR (c:aC) (lv y:Int):Int:=if c.okB then (if 1≤lv∧lv≤5 then (if c.first≤y∧y≤c.last then 0 else 11) else 1) else 1
theorem bv {c:aC} {lv y:Int} (h:aR c lv y=0):c.Ok∧c.okB=true∧1≤lv∧lv≤5∧c.first≤y∧y≤c.last∧aP c y 1601=0:=by
 unfold aR at h
 split at h
 ·rename_i hk
  split at h
  ·rename_i hl
   split at h
   ·rename_i hy
    have f:c.Ok:=by simpa [aC.okB] using hk
    have o:=f.1;unfold aC.served at o;exact ⟨f,hk,hl.1,hl.2,hy.1,hy.2,kz f om om⟩
   ·omega
  ·omega
 ·omega
theorem fN {c:aC} {lv y:Int} (f:c.Ok) (h:1≤lv) (o:lv≤5) (a:c.first≤y) (b:y≤c.last):aR c lv y=0:=by
 have:c.okB=true:=by simpa [aC.okB] using f
 simp [aR,this,h,o,a,b]
def cQ (w:World) (g:Nat) (l:List (Int × Int)):Prop:=
 g<w.heap.size∧∀ i,i<l.length→w.cell? ⟨g,2*i,none⟩=some (.int .i64 (l[i]?.getD (0,0)).1)∧w.cell? ⟨g,2*i+1,none⟩=some (.int .i64 (l[i]?.getD (0,0)).2)
theorem zm {w w':World} {K g:Nat} (o:Below K w w') (E:g<K) (h:g<w.heap.size):g<w'.heap.size:=by
 have e:=o.block g E;by_cases f:g<w'.heap.size
 ·exact f
 ·exfalso
  rw [Array.getElem?_eq_none om,Array.getElem?_eq_getElem h] at e;cases e
theorem cQ.below {w w':World} {K g:Nat} {l:List (Int × Int)} (h:cQ w g l) (f:Below K w w') (o:g<K):cQ w' g l:=
 ⟨zm f o h.1,fun i hi=>⟨(f.cell (p:=⟨g,2*i,none⟩) o).trans (h.2 i hi).1,(f.cell (p:=⟨g,2*i+1,none⟩) o).trans (h.2 i hi).2⟩⟩
theorem cQ.call {w w':World} {g:Nat} {l:List (Int × Int)} (h:cQ w g l) (f:Below w w w'):cQ w' g l:=h.below f h.1
theorem cQ.alloc {w:World} {g:Nat} {l:List (Int × Int)} (h:cQ w g l) (o:Obj):cQ (w.alloc o) g l:=
 h.below ((Below.refl _ _).alloc (Nat.le_refl _) o) h.1
def kX (l:List (Int × Int)):List Value:=l.flatMap fun x=>[.int .i64 x.1,.int .i64 x.2]
theorem lI (a b:List (Int × Int)):kX (a++b)=kX a++kX b:=by simp [kX]
theorem xT (l:List (Int × Int)) (i:Nat) (hi:i<l.length):(kX l)[2*i]?=some (.int .i64 (l[i]?.getD (0,0)).1)∧(kX l)[2*i+1]?=some (.int .i64 (l[i]?.getD (0,0)).2):=by
 induction l generalizing i with
 | nil=>simp at hi
 | cons x l h =>
  cases i with
  | zero=>simp [kX]
  | succ i =>
   have:=h i (by simpa using hi);have f:2*(i+1)=2*i+1+1:=om;rw [f];simpa [kX] using this
theorem mQ {w:World} {f n:Nat} {v:Value} {l:List (Int × Int)} {e:TypeId} (h:w.ownsRow f e 2 v n (kX l)) (W:0<n) :
  ∃ g cap,v=.slice (some ⟨g,0,none⟩) n cap∧n≤cap∧cap≤maxLen∧f≤g∧cQ w g l:=by
 have G:=h;obtain ⟨V,H | ⟨g,cap,F,rfl,O,I,J,U,Y,ht⟩⟩:=h
 ·exact absurd H.2 om
 ·refine ⟨g,cap,rfl,J,U,O,(Array.getElem?_eq_some_iff.1 I).1,fun i hi=>?_⟩
  have o:=G.cells (g:=g) rfl;have E:∀ j,(⟨g,0,none⟩:Addr).add j=⟨g,j,none⟩:=fun j=>by simp [Addr.add];omega
  have:=xT l i hi;exact ⟨by rw [← E];exact o _ _ this.1,by rw [← E];exact o _ _ this.2⟩
def et (c:aC) (y:Int):List Int:=cI (fun k=>(co c y (k+1):Int)) (aV c y)
def bO (w:World) (f h:Nat) (c:aC) (y:Int):Prop:=cQ w f (nE c y)∧aS w h (et c y)
theorem bO.below {w w':World} {K f o:Nat} {c:aC} {y:Int} (h:bO w f o c y) (E:Below K w w') (F:f<K) (G:o<K):bO w' f o c y:=⟨h.1.below E F,h.2.below E G⟩
theorem bO.call {w w':World} {f o:Nat} {c:aC} {y:Int} (h:bO w f o c y) (E:Below w w w'):bO w' f o c y:=⟨h.1.call E,h.2.call E⟩
theorem bO.alloc {w:World} {f E:Nat} {c:aC} {y:Int} (h:bO w f E c y) (o:Obj):bO (w.alloc o) f E c y:=⟨h.1.alloc o,h.2.alloc o⟩
abbrev bV (y:Int) (n cap g1 m g2:Nat):Value:=.agg #[y,.slice (some ⟨g1,0,none⟩) n cap,.slice (some ⟨g2,0,none⟩) m m]
def Aa (c:aC) (y:Int) (w:World) (e:Ending) (w':World):Prop:=
 ∃ f cap h,w.heap.size≤f∧w.heap.size≤h∧e=.returned (.tuple #[bV y (ce c y) cap f (aV c y) h,.int .i64 0])∧ce c y≤cap∧cap≤maxLen∧bO w' f h c y∧Below w w w'
theorem t6 (c:aC) (lv y:Int) (w:World) (V:c.name.size≤1000) (J:¬ aR c lv y=0) :
    Calls Tryz.prog 28 #[aI c,lv,y] w fun e w'=>e=.returned (.tuple #[.agg #[.int .i64 0,.slice none 0 0,.slice none 0 0],aR c lv y])∧Below w w w':=by
  simp only [aI];cases H:c.okB
  · have I:=hide (show aR c lv y=1 by simp [aR,H])
    have F:dI c=1:=by simp [dI,H]
    clear J;go_enter Tryz.func28,Tryz.ntmps28;go_wp2_with fail;refine (bg c _ V).mono ?_;rintro e G ⟨rfl,f⟩;rw [F];have E:w.heap.size+1<G.heap.size:=am f;have o:w.heap.size<G.heap.size:=om;obtain ⟨O,W⟩:=fc f;go_wp2;exact bodyPost_ret (v:=.tuple #[.agg #[.int .i64 0,.slice none 0 0,.slice none 0 0],.int .i64 1]) (by simp [results,Tryz.results28,go_sem,O,E,o]) rfl ⟨by rw [I.out],by (repeat' exact bel)⟩
  · have F:dI c=0:=by simp [dI,H]
    by_cases U:1≤lv∧lv≤5
    · have I := hide (show aR c lv y = 11 by
        have Y:¬ (c.first≤y∧y≤c.last):=fun h=>J (by simp [aR,H,U,h])
        simp [aR,H,U];omega)
      have hy:y<c.first∨c.last<y:=by
        have Y:¬ (c.first≤y∧y≤c.last):=fun h=>J (by simp [aR,H,U,h])
        omega
      clear J;go_enter Tryz.func28,Tryz.ntmps28;go_wp2_with fail;refine (bg c _ V).mono ?_;rintro e G ⟨rfl,f⟩;rw [F];have E:w.heap.size+1<G.heap.size:=am f;have o:w.heap.size<G.heap.size:=om;obtain ⟨O,W⟩:=fc f;go_wp2
      all_goals first
        | (exfalso;omega)
        | (exact bodyPost_ret (v:=.tuple #[.agg #[.int .i64 0,.slice none 0 0,.slice none 0 0],.int .i64 11]) (by simp [results,Tryz.results28,go_sem,O,E,o]) rfl ⟨by rw [I.out],by (repeat' exact bel)⟩)
    · have I:=hide (show aR c lv y=1 by simp [aR,H];omega)
      clear J;go_enter Tryz.func28,Tryz.ntmps28;go_wp2_with fail;refine (bg c _ V).mono ?_;rintro e G ⟨rfl,f⟩;rw [F];have E:w.heap.size+1<G.heap.size:=am f;have o:w.heap.size<G.heap.size:=om;obtain ⟨O,W⟩:=fc f;go_wp2
      all_goals first
        | (exfalso;omega)
        | (exact bodyPost_ret (v:=.tuple #[.agg #[.int .i64 0,.slice none 0 0,.slice none 0 0],.int .i64 1]) (by simp [results,Tryz.results28,go_sem,O,E,o]) rfl ⟨by rw [I.out],by (repeat' exact bel)⟩)
theorem tw:(Tryz.prog.info? 35).map (fun i=>(i.zero,i.size,i.bytes))=some (some (.agg #[.int .i64 0,.int .i64 0]),2,16):=by kernel_rfl
theorem ax.own {w w':World} {f:Option Nat} {B:Nat} {E:Array Value} {t:TypeId} (h:ax w B E t) (F:w.grownBy w' f) (o:f≠some B):ax w' B E t:=(F.block B h.lt (fun e=>o e.symm)).trans h
theorem aS.own {w w':World} {f:Option Nat} {B:Nat} {E:List Int} (h:aS w B E) (F:w.grownBy w' f) (o:f≠some B):aS w' B E:=(F.block B h.lt (fun e=>o e.symm)).trans h
theorem ax.frozen {w:World} {B:Nat} {f:Array Value} {t:TypeId} (h:ax w B f t) (k:Nat):w.frozen? ⟨B,k,none⟩=false:=by
 unfold ax at h;simp [World.frozen?,h]
theorem ax.set3 {w:World} {B:Nat} {a b c:Value} {t:TypeId} (h:ax w B #[a,b,c] t) (u:Value):ax (w.setCell ⟨B,1,none⟩ u) B #[a,u,c] t:=by
 unfold ax at h ⊢;simp [World.setCell,Array.getElem?_modify,h]
theorem pf {w:World} {f:Nat} {e:TypeId} {o n:Nat} {v:Value} {E:List Value} (h:w.ownsRow f e o v n E) {B:Nat} (F:B<f):v.ownBlock≠some B:=fun e=>by have:=h.lt B e;omega
theorem jI {w:World} {f n:Nat} {v:Value} {J:List Value} {e:TypeId} {o:Nat} (h:w.ownsRow f e o v n J) (V:0<n):∃ g cap,v=.slice (some ⟨g,0,none⟩) n cap∧n≤cap∧cap≤maxLen∧f≤g:=by
 obtain ⟨U,F | ⟨g,cap,E,rfl,H,O,G,I,W,Y⟩⟩:=h
 ·exact absurd F.2 om
 ·exact ⟨g,cap,rfl,G,I,H⟩
theorem cQ.same {w w':World} {g:Nat} {l:List (Int × Int)} (h:cQ w g l) (e:w'.heap[g]?=w.heap[g]?):cQ w' g l:=by
 refine ⟨?_,fun i hi=>⟨(World.cell?_of_block (a:=⟨g,2*i,none⟩) e).trans (h.2 i hi).1,(World.cell?_of_block (a:=⟨g,2*i+1,none⟩) e).trans (h.2 i hi).2⟩⟩;by_cases f:g<w'.heap.size
 ·exact f
 ·exfalso
  rw [Array.getElem?_eq_none om,Array.getElem?_eq_getElem h.1] at e;cases e
theorem bO.far {w:World} {f o:Nat} {c:aC} {y:Int} (h:bO w f o c y) {p:Addr} (E:f≠p.block) (F:o≠p.block) (u:Value):bO (w.setCell p u) f o c y:=
 ⟨h.1.same (Below.heap_setCell w p u f E),h.2.far F u⟩
def FQ (c:aC) (y:Int) (F h f:Nat) (wr:World) (k j:Nat):Prop:=
 ∃ v,ax wr F #[y,v,.slice (some ⟨h,0,none⟩) (aV c y) (aV c y)] 76 ∧
  wr.ownsRow f 35 2 v (co c y k+j) (kX (jS c y k++cI (kL c y k) j))
theorem iJ (c:aC) (lv y:Int) (w:World) (hn:c.name.size≤1000) (hE:aR c lv y=0) :
  Calls Tryz.prog 28 #[aI c,lv,y] w (Aa c y w):=by
 obtain ⟨cs,a4,c8,c9,ds,dY,hA⟩:=bv hE;have cr:dI c=0:=by simp [dI,a4]
 have HA:=hide hA;have c0:=hide (jo c y hA);obtain ⟨n,bd⟩:∃ n,n=aV c y:=⟨_,rfl⟩;have cS:12≤n∧n≤52:=by have:=jo c y hA;omega
 have HN:=hide (show n=(bH c y).length from bd);have I:=hide bd;have dg:=fun W=>gW n om W
 clear hE cs a4 hA bd;simp only [aI];go_enter Tryz.func28,Tryz.ntmps28;go_wp2_with fail;refine (bg c _ hn).mono ?_;rintro e w1 ⟨rfl,aA⟩;rw [cr];have a1:w.heap.size+1<w1.heap.size:=am aA;have ab:w.heap.size<w1.heap.size:=om;have b4:=hide (show Below w w w1 by (repeat' exact bel));have HQ:=hide (az (B:=w.heap.size) (c:=c) aA ag (bG (be w c) af _));have HR:=hide (ax.call (ax.new (w.alloc (df c)) #[.int .i64 0,.slice none 0 0,.slice none 0 0] 76) aA);obtain ⟨q0,q1,q2,q3,q4,q5,q6,q7,q8,q9,bh,bk,bl,bp⟩:=HQ.out;clear aA;go_wp2_with fail
 all_goals first
  | (exfalso;omega)
  | skip
 refine (dk c y _ hn).mono ?_;rintro e w2 ⟨rfl,O⟩;clear q0 q1 q2 q3 q4 q5 q6 q7 q8 q9 bh bk bl bp;rw [HA.out];have a2:w.heap.size<w2.heap.size:=Nat.lt_of_lt_of_le ab O.size;have ca:=hide (az O ab HQ.out);have cb:=hide (HR.out.call O);have b5:=hide (b4.out.trans (O.mono (Nat.le_of_lt ab)));have b1:w.heap.size+1<w2.heap.size:=Nat.lt_of_lt_of_le a1 O.size;obtain ⟨q0,q1,q2,q3,q4,q5,q6,q7,q8,q9,bh,bk,bl,bp⟩:=ca.out;clear O;go_wp2_with fail;refine (ye c y _ hn HA.out).mono ?_;rintro e w3 ⟨g,hg,rfl,hI,aB⟩;clear q0 q1 q2 q3 q4 q5 q6 q7 q8 q9 bh bk bl bp;have HI:=hide hI;have cc:=hide (cb.out.call aB);have b6:=hide (b5.out.trans (aB.mono (Nat.le_of_lt a2)));have a5:w.heap.size+1<w3.heap.size:=Nat.lt_of_lt_of_le b1 aB.size;have a3:=hI.lt;clear aB hI;rw [← HN.out];go_wp2_with fail;obtain ⟨i0,hi,ab,a1,a2⟩:=info_parts tw;obtain ⟨G,hG⟩:∃ G,G=w3.heap.size:=⟨_,rfl⟩;rw [← hG] at a5 a3 ⊢;have HG:=hide hG;clear hG;have HP:=hide (fun k hk=>kC c y HA.out k hk);have b7:=hide (fun k m (h:k≤m)=>km c y h);have bs:=hide (gH c y HA.out);have b8:=hide (fun k hk=>BH c y HA.out k hk);have b9:=hide (fun k hk=>iG c y HA.out k hk);have d0:=dm c y HA.out;go_loopw [9,66] (fun s9 s wr=>∃ k:Nat,s=.int .i64 k∧s9=.int .i64 (aQ c y k)∧k≤n∧FQ c y (G+1) G (G+2) wr k 0∧aS wr G (iB n k fun i=>(co c y (i+1):Int))∧Below G w3 wr∧G+2≤wr.heap.size) (fun _ s _=>(60-intOf s).toNat)
 case atStart =>
  refine ⟨0,rfl,by simp [aQ],by omega,⟨.slice none 0 0,?_,?_⟩,?_,?_,?_⟩
  ·have:=ax.new (w3.alloc (dO n)) #[y,.slice none 0 0,.slice (some ⟨G,0,none⟩) n n] 76
   rw [← I.out];simpa [HG.out] using this
  ·simpa [co,jS,cI,kX] using World.ownsRow_nil _ _ _ _
  ·rw [fB,HG.out];exact (aS.new w3 n).alloc _
  ·rw [HG.out];exact ((Below.refl _ _).alloc (Nat.le_refl _) _).alloc af _
  ·simp [HG.out]
 case round =>
  obtain ⟨k,rfl,rfl,hk,hS,hJ,hB,aa⟩:=hrel;by_cases bc:k<n
  ·have bb:k<(bH c y).length:=by rw [← HN.out];exact bc
   have c1:wr.cell? ⟨g,k,none⟩=some (.int .i64 (cm c y k)):=((HI.out).below hB a3).cell (k:=k) bb;have hp:=b9.out k bb;have hf:=b8.out k (Nat.le_of_lt bb);have dq:=HP.out k (by rw [← I.out];exact bc);have aq:((lV c y k:Nat):Int)=(cm c y k-aQ c y k) / 7+1:=by unfold lV pE;omega
   obtain ⟨wo,rfl⟩:∃ wo:World,wo=wr:=⟨_,rfl⟩;go_wp2_with fail;go_loopw [9] (fun s9 wr=>∃ j:Nat,s9=.int .i64 (aQ c y k+7*(j:Int))∧j≤lV c y k∧FQ c y (G+1) G (G+2) wr k j∧aS wr G (iB n k fun i=>(co c y (i+1):Int))∧Below G w3 wr∧G+2≤wr.heap.size) (fun s9 _=>(cm c y k+7-intOf s9).toNat)
   case atStart=>exact ⟨0,by simp,Nat.zero_le _,hS,hJ,hB,aa⟩
   case round =>
    clear hS hJ hB aa c1;obtain ⟨j,rfl,hj,⟨v,Y,f⟩,hJ,hB,aa⟩:=hrel;have b2:wr.cell? ⟨G+1,1,none⟩=some v:=Y.cell 1;by_cases c7:j<lV c y k
    ·have dd:aQ c y k+7*(j:Int)≤cm c y k:=om
     have cy:co c y k+j+1≤100:=by
      have h1:=b7.out (k+1) n om;have h2:=bs.out.2;rw [ce,← I.out] at h2;rw [co] at h1;omega
     rcases (show cm c y k<aQ c y k+7*(j:Int)+6∨aQ c y k+7*(j:Int)+6≤cm c y k by omega) with bw | bw
     ·have HV:=hide (show (kL c y k j).2=cm c y k by simp [kL];omega)
      go_wp2_with ((at_builtin;refine wpList_append_own _ rfl _ _ 74 rfl (G+2) 35 i0 (.agg #[.int .i64 0,.int .i64 0]) 2 16 Tryz.underlying74 hi ab a1 a2 rfl aj _ _ _ rfl (f.alloc _) ⟨wr,0,none⟩ 1 1 [.int .i64 (aQ c y k+7*(j:Int)),.int .i64 (cm c y k)] rfl rfl ?c1 ?c2 ?c3 ?c4 ?c5 ?_))
      case c1 =>
       intro i u F
       match i,F with
       | 0,F=>simp at F;subst F;simp [Addr.add]
       | 1,F=>simp at F;subst F;simp [Addr.add]
       | i+2,F=>simp at F
      case c2=>intro u F;simp at F;rcases F with rfl | rfl <;> rfl
      case c3=>unfold maxLen;omega
      case c4=>omega
      case c5=>have:=aa;simp;omega
      ·intro v' w' E o _
       have ao:=pf f (B:=G+1) om;have U:=pf f (B:=G) om;have H:=(Y.alloc (.cells #[.int .i64 (aQ c y k+7*(j:Int)),cm c y k] 35)).own o ao;have V:=hide ((hJ.alloc (.cells #[.int .i64 (aQ c y k+7*(j:Int)),cm c y k] 35)).own o U);have a6:=hide ((hB.alloc om (.cells #[.int .i64 (aQ c y k+7*(j:Int)),cm c y k] 35)).grown o ag (fun k hk=>by have:=(f.lt k hk).1;omega));have ah:G+2≤w'.heap.size:=by have:=o.size;simp at this;omega
       have b3:w'.cell? ⟨G+1,1,none⟩=some v:=H.cell 1;have cx:=H.frozen 1;have ad:=hide H;have J:=hide E;obtain ⟨g1,ac,rfl,_,_,_⟩:=jI E om;clear Y f hJ hB o E H b2 ao U aq;go_wp2;refine ⟨⟨j+1,by rw [show aQ c y k+7*((j+1:Nat):Int)=aQ c y k+7*(j:Int)+7 by omega],by omega,⟨_,ad.out.set3 _,?_⟩,V.out.far af _,a6.out.setCell af _,by simpa using ah⟩,by simp [intOf];omega⟩;have h1:=ownsRow_setCell_below J.out (a:=⟨G+1,1,none⟩) af (.slice (some ⟨g1,0,none⟩) (co c y k+j+1) ac);rw [cn,← List.append_assoc,lI];have e2:kX [kL c y k j]=[.int .i64 (aQ c y k+7*(j:Int)),.int .i64 (kL c y k j).2]:=rfl;rw [e2,HV.out];exact h1
     ·have HV:=hide (show (kL c y k j).2=aQ c y k+7*(j:Int)+6 by simp [kL];omega)
      go_wp2_with ((at_builtin;refine wpList_append_own _ rfl _ _ 74 rfl (G+2) 35 i0 (.agg #[.int .i64 0,.int .i64 0]) 2 16 Tryz.underlying74 hi ab a1 a2 rfl aj _ _ _ rfl (f.alloc _) ⟨wr,0,none⟩ 1 1 [.int .i64 (aQ c y k+7*(j:Int)),.int .i64 (aQ c y k+7*(j:Int)+6)] rfl rfl ?c1 ?c2 ?c3 ?c4 ?c5 ?_))
      case c1 =>
       intro i u F
       match i,F with
       | 0,F=>simp at F;subst F;simp [Addr.add]
       | 1,F=>simp at F;subst F;simp [Addr.add]
       | i+2,F=>simp at F
      case c2=>intro u F;simp at F;rcases F with rfl | rfl <;> rfl
      case c3=>unfold maxLen;omega
      case c4=>omega
      case c5=>have:=aa;simp;omega
      ·intro v' w' E o _
       have ao:=pf f (B:=G+1) om;have U:=pf f (B:=G) om;have H:=(Y.alloc (.cells #[.int .i64 (aQ c y k+7*(j:Int)),.int .i64 (aQ c y k+7*(j:Int)+6)] 35)).own o ao;have V:=hide ((hJ.alloc (.cells #[.int .i64 (aQ c y k+7*(j:Int)),.int .i64 (aQ c y k+7*(j:Int)+6)] 35)).own o U);have a6:=hide ((hB.alloc om (.cells #[.int .i64 (aQ c y k+7*(j:Int)),.int .i64 (aQ c y k+7*(j:Int)+6)] 35)).grown o ag (fun k hk=>by have:=(f.lt k hk).1;omega));have ah:G+2≤w'.heap.size:=by have:=o.size;simp at this;omega
       have b3:w'.cell? ⟨G+1,1,none⟩=some v:=H.cell 1;have cx:=H.frozen 1;have ad:=hide H;have J:=hide E;obtain ⟨g1,ac,rfl,_,_,_⟩:=jI E om;clear Y f hJ hB o E H b2 ao U aq;go_wp2;refine ⟨⟨j+1,by rw [show aQ c y k+7*((j+1:Nat):Int)=aQ c y k+7*(j:Int)+7 by omega],by omega,⟨_,ad.out.set3 _,?_⟩,V.out.far af _,a6.out.setCell af _,by simpa using ah⟩,by simp [intOf];omega⟩;have h1:=ownsRow_setCell_below J.out (a:=⟨G+1,1,none⟩) af (.slice (some ⟨g1,0,none⟩) (co c y k+j+1) ac);rw [cn,← List.append_assoc,lI];have e2:kX [kL c y k j]=[.int .i64 (aQ c y k+7*(j:Int)),.int .i64 (kL c y k j).2]:=rfl;rw [e2,HV.out];exact h1
    ·have c6:cm c y k<aQ c y k+7*(j:Int):=om
     obtain rfl:j=lV c y k:=om;obtain ⟨g1,cap,rfl,a9,al,cp,a0⟩:=mQ f om;have d1:wr.cell? ⟨G+1,2,none⟩=some (.slice (some ⟨G,0,none⟩) n n):=by rw [I.out];exact Y.cell 2
     have kJ:=hJ.cell (k:=k) (by rw [iP];exact bc);have d2:=hJ.frozen k;have H:=hide Y;have V:=hide hJ;have E:=hide f;clear Y hJ f a0 aq;go_wp2;refine ⟨⟨k+1,by go_num,by rw [cJ],by omega,⟨_,H.out.far af _,?_⟩,?_,hB.setCell af _,by simpa using aa⟩,by simp [intOf];omega⟩
     ·have h1:=ownsRow_setCell_below E.out (a:=⟨G,k,none⟩) af (.int .i64 ((co c y k+lV c y k:Nat):Int))
      simpa [co,jS,cI] using h1
     ·rw [← ed]
      exact V.out.set k _
  ·obtain rfl:k=n:=om
   obtain ⟨v,Y,f⟩:=hS;have bX:=bs.out;rw [ce,← I.out] at bX;obtain ⟨g1,cap,rfl,a9,al,cp,a0⟩:=mQ f om;have k0:wr.cell? ⟨G+1,0,none⟩=some (.int .i64 y):=Y.cell 0;have k1:wr.cell? ⟨G+1,1,none⟩=some (.slice (some ⟨g1,0,none⟩) (co c y k+0) cap):=Y.cell 1;have k2:wr.cell? ⟨G+1,2,none⟩=some (.slice (some ⟨G,0,none⟩) k k):=by rw [I.out];exact Y.cell 2
   have hR:=cc.out.below hB (by simpa using a5);have r0:wr.cell? ⟨w+1,0,none⟩=some (.int .i64 0):=by have:=hR.cell 0;simpa using this
   have r1:wr.cell? ⟨w+1,1,none⟩=some (.slice none 0 0):=by have:=hR.cell 1;simpa using this
   have r2:wr.cell? ⟨w+1,2,none⟩=some (.slice none 0 0):=by have:=hR.cell 2;simpa using this
   have f0:wr.frozen? ⟨w+1,0,none⟩=false:=by have:=hR.frozen 0;simpa using this
   have f1:wr.frozen? ⟨w+1,1,none⟩=false:=by have:=hR.frozen 1;simpa using this
   have f2:wr.frozen? ⟨w+1,2,none⟩=false:=by have:=hR.frozen 2;simpa using this
   have b0:=hide a0;have E:=hide f;have V:=hide hJ;clear Y f a0 hR hJ;have cv:w.heap.size+1<wr.heap.size:=om;go_wp2;have hN:co c y k+0=ce c y:=by rw [ce,← I.out];rfl
   have cl:co c y k=ce c y:=hN;have hD:=b0.out;have ba:jS c y k++cI (kL c y k) 0=nE c y:=by simp [nE,cI,← I.out]
   rw [ba] at hD;have a8:=V.out;rw [fG] at a8;have bx:(List.range k).map (fun i=>(co c y (i+1):Int))=et c y:=by rw [et,cI,← I.out]
   rw [bx] at a8;have bt:bO wr g1 G c y:=⟨hD,a8⟩
   have a7:bO (((wr.setCell ⟨w+1,0,none⟩ (.int .i64 y)).setCell ⟨w+1,1,none⟩ (.slice (some ⟨g1,0,none⟩) (co c y k+0) cap)).setCell ⟨w+1,2,none⟩ (.slice (some ⟨G,0,none⟩) k k)) g1 G c y:=
    ((bt.far ag ag _).far ag ag _).far ag ag _
   refine bodyPost_ret (v:=.tuple #[bV y (ce c y) cap g1 k G,.int .i64 0]) (by simp [results,Tryz.results28,go_sem,r0,r1,r2,f0,f1,f2,cv,cl]) rfl ⟨g1,cap,G,by omega,by omega,by rw [I.out],by omega,al,by simpa using a7,?_⟩;have O:Below w w wr:=b6.out.trans (hB.mono om);exact ((O.setCell af _).setCell af _).setCell af _
theorem Ed (w:World):(Instr.makeSlice 38 (.int .i64 4) (.int .i64 4)).run Tryz.prog w=.ok (.slice (some ⟨w,0,none⟩) 4 4) (w.alloc (dO 4)):=gW 4 om w
def cT (c:aC) (y lv:Int) (w:World) (e:Ending) (w':World):Prop:=
 ∃ g,e=.returned (.slice (some ⟨g,0,none⟩) (aM c y lv) (aM c y lv))∧aS w' g (cz c y lv)∧Below w w w'
theorem wg (c:aC) (y:Int) (w:World) (cap f o:Nat) (F:aP c y 1601=0) :
  Calls Tryz.prog 93 #[bV y (ce c y) cap f (aV c y) o] w (cT c y 1 w):=by
 have H:=hide (show cz c y 1=[(ce c y:Int)] by simp [cz,cI,aM,aX,fx,ce]);have E:=hide (show aM c y 1=1 by simp [aM]);clear F;simp only [bV];go_enter Tryz.func93,Tryz.ntmps93;go_wp2;go_ret;refine ⟨w+1,by rw [E.out];rfl,?_,by (repeat' exact bel)⟩;rw [H.out];have h:=ax.new (w.alloc (.cells #[y,.slice (some ⟨f,0,none⟩) (ce c y) cap,.slice (some ⟨o,0,none⟩) (aV c y) (aV c y)] 76)) #[.int .i64 (ce c y:Int)] 3;simp at h;exact h
theorem rq (c:aC) (y:Int) (w:World) (cap F f:Nat) (h:aS w f (et c y)) :
  Calls Tryz.prog 96 #[bV y (ce c y) cap F (aV c y) f] w (cT c y 4 w):=by
 have H:=hide (show cz c y 4=et c y by simp [cz,cI,aM,aX,fx,et]);have o:=hide (show aM c y 4=aV c y by simp [aM]);have E:=hide h;clear h;simp only [bV];go_enter Tryz.func96,Tryz.ntmps96;go_wp2;go_ret;exact ⟨f,by rw [o.out];rfl,by rw [H.out];exact E.out.alloc _,by (repeat' exact bel)⟩
theorem qT (c:aC) (y:Int) (w:World) (cap I J:Nat) (E:aP c y 1601=0) :
  Calls Tryz.prog 97 #[bV y (ce c y) cap I (aV c y) J] w (cT c y 5 w):=by
 have Y:=gH c y E;have H:=hide (show cz c y 5=(List.range (ce c y)).map (fun i:Nat=>((i:Int)+1)) by simp [cz,cI,aM,aX]);have F:=hide (show aM c y 5=ce c y by simp [aM]);clear E;generalize ce c y=n at *;have V:=fun W=>gW n om W
 simp only [bV];go_enter Tryz.func97,Tryz.ntmps97;go_wp2_with fail;go_loopw [11] (fun s wr=>∃ k:Nat,s=.int .i64 k∧k≤n∧aS wr (w+1) (iB n k fun i=>(i:Int)+1)∧Below w w wr) (fun s _=>(100-intOf s).toNat)
 case atStart=>exact ⟨0,rfl,by omega,by rw [fB];simpa using aS.new (w.alloc _) n,by (repeat' exact bel)⟩
 case round =>
  obtain ⟨k,rfl,hk,f,o⟩:=hrel;by_cases h:k<n
  ·have U:=f.frozen k
   have O:=f.cell (k:=k) (by rw [iP];exact h);have G:=hide f;clear f;go_wp2;refine ⟨⟨k+1,by go_num,by omega,?_,o.setCell af _⟩,by simp [intOf];omega⟩;rw [← ed];exact G.out.set k _
  ·obtain rfl:k=n:=om
   go_wp2;go_ret;rw [fG] at f;exact ⟨w+1,by rw [F.out];rfl,by rw [H.out];exact f,o⟩
theorem jw (c:aC) (y:Int) (w:World) (cap O h:Nat) (Y:aP c y 1601=0) (hI:aS w h (et c y)) :
    Calls Tryz.prog 95 #[bV y (ce c y) cap O (aV c y) h] w (cT c y 3 w):=by
  have hb:=jo c y Y;have H:=hide (show cz c y 3=(List.range 4).map (fun i=>(aX c y 3 (i+1):Int)) by simp [cz,cI,aM]);have H1:=hide (show aM c y 3=4 by simp [aM]);have W:=hide hI;have G:=hide (show ∀ i,aX c y 3 i=co c y (aV c y*i / 4) from fun i=>by simp [aX,fx]);have HP:=hide (show ∀ i,i<aV c y→(et c y)[i]?.getD 0=(co c y (i+1):Int) from fun i hi=>by simp [et,cI,hi]);have HL:=hide (show (et c y).length=aV c y by simp [et,cI]);clear Y hI;generalize aV c y=n at *;have ac:=Ed;simp only [bV];go_enter Tryz.func95,Tryz.ntmps95;go_wp2_with fail;go_loopw [8] (fun s wr=>∃ k:Nat,s=.int .i64 k∧k≤4∧aS wr (w+1) (iB 4 k fun i=>(aX c y 3 (i+1):Int))∧Below (w.heap.size+1) (w.alloc (.cells #[y,.slice (some ⟨O,0,none⟩) (ce c y) cap,.slice (some ⟨h,0,none⟩) n n] 76)) wr) (fun s _=>(5-intOf s).toNat)
  case atStart=>exact ⟨0,rfl,by omega,by rw [fB];simpa using aS.new (w.alloc _) 4,(Below.refl _ _).alloc af _⟩
  case round =>
    obtain ⟨k,rfl,hk,F,E⟩:=hrel;by_cases V:k<4
    · have q2 : wr.cell? ⟨w, 2, none⟩ = some (.slice (some ⟨h, 0, none⟩) n n) := by
        rw [E.cell (p:=⟨w,2,none⟩) af];simp
      have U:=E.size;simp at U;have ab:=F.frozen k;have aa:=F.cell (k:=k) (by rw [iP];exact V);have I:=hide F;have f:∀ i,i<n→wr.cell? ⟨h,i,none⟩=some (.int .i64 (co c y (i+1))):=by
        intro i hi;have h1:=(((W.out).alloc (.cells #[y,.slice (some ⟨O,0,none⟩) (ce c y) cap,.slice (some ⟨h,0,none⟩) n n] 76)).below E (by have:=W.out.lt;omega)).cell (k:=i) (by rw [HL.out];exact hi);rw [h1,HP.out i hi]
      have o:=hide f;clear F f;have h4:k=0∨k=1∨k=2∨k=3:=om;rcases h4 with rfl | rfl | rfl | rfl
      · have J : wr.cell? ⟨h, n / 4 - 1, none⟩ = some (.int .i64 (aX c y 3 (0 + 1) : Int)) := by
          rw [o.out _ om,G.out];congr 4;omega
        rw [show ((0:Nat):Int)=0 from rfl];go_wp2;refine ⟨⟨1,by first | rfl | go_num | simp,by omega,?_,E.setCell af _⟩,by simp [intOf]⟩;rw [← ed];exact I.out.set 0 _
      · have J : wr.cell? ⟨h, n * 2 / 4 - 1, none⟩ = some (.int .i64 (aX c y 3 (1 + 1) : Int)) := by
          rw [o.out _ om,G.out];congr 4;omega
        rw [show ((1:Nat):Int)=1 from rfl];go_wp2;refine ⟨⟨2,by first | rfl | go_num | simp,by omega,?_,E.setCell af _⟩,by simp [intOf]⟩;rw [← ed];exact I.out.set 1 _
      · have J : wr.cell? ⟨h, n * 3 / 4 - 1, none⟩ = some (.int .i64 (aX c y 3 (2 + 1) : Int)) := by
          rw [o.out _ om,G.out];congr 4;omega
        rw [show ((2:Nat):Int)=2 from rfl];go_wp2;refine ⟨⟨3,by first | rfl | go_num | simp,by omega,?_,E.setCell af _⟩,by simp [intOf]⟩;rw [← ed];exact I.out.set 2 _
      · have J : wr.cell? ⟨h, n - 1, none⟩ = some (.int .i64 (aX c y 3 (3 + 1) : Int)) := by
          rw [o.out _ om,G.out];congr 4;omega
        rw [show ((3:Nat):Int)=3 from rfl];go_wp2;refine ⟨⟨4,by first | rfl | go_num | simp,by omega,?_,E.setCell af _⟩,by simp [intOf]⟩;rw [← ed];exact I.out.set 3 _
    · obtain rfl:k=4:=om
      go_wp2;go_ret;rw [fG] at F;exact ⟨w+1,by rw [H1.out];rfl,by rw [H.out];exact F,Below.trans ((Below.refl _ _).alloc (Nat.le_refl _) _) (E.mono om)⟩
theorem qg (c:aC) (y:Int) (w:World) (cap I F:Nat) (J:aP c y 1601=0) (O:aS w F (et c y)) :
  Calls Tryz.prog 94 #[bV y (ce c y) cap I (aV c y) F] w (cT c y 2 w):=by
 have H:=hide (show cz c y 2=[(aX c y 2 1:Int),(aX c y 2 2:Int)] by simp [cz,cI,aM,List.range_succ]);have U:=hide (show aM c y 2=2 by simp [aM]);have E:=hide (show aM c y 3=4 by simp [aM]);have V:=hide (show (cz c y 3)[1]?.getD 0=(aX c y 2 1:Int) by rw [ey c y 3 1 (by simp [aM])];simp [aX,fx]);have W:=hide (show (cz c y 3)[3]?.getD 0=(aX c y 2 2:Int) by rw [ey c y 3 3 (by simp [aM])];simp [aX,fx]);have G:=hide (fE c y 3);have Y:=hide J;have HI:=hide O;clear J O;simp only [bV];go_enter Tryz.func94,Tryz.ntmps94;go_wp2_with fail;refine (jw c y _ cap I F Y.out (HI.out.alloc _)).mono ?_;rintro e o ⟨g,rfl,h,f⟩;rw [E.out];have c1:o.cell? ⟨g,1,none⟩=some (.int .i64 (aX c y 2 1:Int)):=by rw [h.cell (by rw [G.out,E.out];omega),V.out]
 have c3:o.cell? ⟨g,3,none⟩=some (.int .i64 (aX c y 2 2:Int)):=by rw [h.cell (by rw [G.out,E.out];omega),W.out]
 have hz:=f.size;simp at hz;have HJ:=hide h;clear h;go_wp2;go_region
 all_goals go_wp2
 go_ret;refine ⟨o,by rw [U.out];rfl,?_,((Below.trans ((Below.refl _ _).alloc (Nat.le_refl _) _) (f.mono af)).alloc om _).drew⟩;rw [H.out];exact heap_alloc_new o _
theorem Bg (c:aC) (y:Int) (w:World) (cap E h:Nat) (J:aP c y 1601=0) (G:aS w h (et c y)) :
  Calls Tryz.prog 61 #[bV y (ce c y) cap E (aV c y) h,.int .i64 1] w (cT c y 1 w):=by
 have H:=hide G;clear G;simp only [bV];go_enter Tryz.func61,Tryz.ntmps61;go_wp2;generalize f:((w.alloc (.cells #[y,.slice (some ⟨E,0,none⟩) (ce c y) cap,.slice (some ⟨h,0,none⟩) (aV c y) (aV c y)] 76)).alloc (.cells _ _))=W;have k0:W.cell? ⟨w+1,0,none⟩=some (.func (.func 93) #[] #[]):=by rw [← f];simp
 have U:W.cell? ⟨w,0,none⟩=some (.int .i64 y):=by rw [← f];simp
 have V:W.cell? ⟨w,1,none⟩=some (.slice (some ⟨E,0,none⟩) (ce c y) cap):=by rw [← f];simp
 have Y:W.cell? ⟨w,2,none⟩=some (.slice (some ⟨h,0,none⟩) (aV c y) (aV c y)):=by rw [← f];simp
 have o:=hide (show Below w w W by rw [← f];(repeat' exact bel));have I:=hide (show aS W h (et c y) by rw [← f];exact (H.out.alloc _).alloc _);clear f;go_region_with (go_at_call 93;refine (wg c y _ cap E h J).mono ?_;rintro e w1 ⟨g,rfl,O,F⟩)
 all_goals
  go_simp;go_wp2;go_ret;exact ⟨g,rfl,O,Below.trans (by first | exact o.out | exact o.out.drew | exact below_drewN o.out _) (F.mono (by have:=o.out.size;simpa using this))⟩
theorem CC (c:aC) (y:Int) (w:World) (cap E h:Nat) (J:aP c y 1601=0) (H:aS w h (et c y)) :
  Calls Tryz.prog 61 #[bV y (ce c y) cap E (aV c y) h,.int .i64 2] w (cT c y 2 w):=by
 have I:=hide H;clear H;simp only [bV];go_enter Tryz.func61,Tryz.ntmps61;go_wp2;generalize f:((w.alloc (.cells #[y,.slice (some ⟨E,0,none⟩) (ce c y) cap,.slice (some ⟨h,0,none⟩) (aV c y) (aV c y)] 76)).alloc (.cells _ _))=W;have k0:W.cell? ⟨w+1,1,none⟩=some (.func (.func 94) #[] #[]):=by rw [← f];simp
 have U:W.cell? ⟨w,0,none⟩=some (.int .i64 y):=by rw [← f];simp
 have V:W.cell? ⟨w,1,none⟩=some (.slice (some ⟨E,0,none⟩) (ce c y) cap):=by rw [← f];simp
 have Y:W.cell? ⟨w,2,none⟩=some (.slice (some ⟨h,0,none⟩) (aV c y) (aV c y)):=by rw [← f];simp
 have o:=hide (show Below w w W by rw [← f];(repeat' exact bel));have F:=hide (show aS W h (et c y) by rw [← f];exact (I.out.alloc _).alloc _);clear f;go_region_with (go_at_call 94;refine (qg c y _ cap E h J (by exact F.out)).mono ?_;rintro e w1 ⟨g,rfl,O,G⟩)
 all_goals
  go_simp;go_wp2;go_ret;exact ⟨g,rfl,O,Below.trans (by first | exact o.out | exact o.out.drew | exact below_drewN o.out _) (G.mono (by have:=o.out.size;simpa using this))⟩
theorem C8 (c:aC) (y:Int) (w:World) (cap E h:Nat) (J:aP c y 1601=0) (H:aS w h (et c y)) :
  Calls Tryz.prog 61 #[bV y (ce c y) cap E (aV c y) h,.int .i64 3] w (cT c y 3 w):=by
 have I:=hide H;clear H;simp only [bV];go_enter Tryz.func61,Tryz.ntmps61;go_wp2;generalize f:((w.alloc (.cells #[y,.slice (some ⟨E,0,none⟩) (ce c y) cap,.slice (some ⟨h,0,none⟩) (aV c y) (aV c y)] 76)).alloc (.cells _ _))=W;have k0:W.cell? ⟨w+1,2,none⟩=some (.func (.func 95) #[] #[]):=by rw [← f];simp
 have U:W.cell? ⟨w,0,none⟩=some (.int .i64 y):=by rw [← f];simp
 have V:W.cell? ⟨w,1,none⟩=some (.slice (some ⟨E,0,none⟩) (ce c y) cap):=by rw [← f];simp
 have Y:W.cell? ⟨w,2,none⟩=some (.slice (some ⟨h,0,none⟩) (aV c y) (aV c y)):=by rw [← f];simp
 have o:=hide (show Below w w W by rw [← f];(repeat' exact bel));have F:=hide (show aS W h (et c y) by rw [← f];exact (I.out.alloc _).alloc _);clear f;go_region_with (go_at_call 95;refine (jw c y _ cap E h J (by exact F.out)).mono ?_;rintro e w1 ⟨g,rfl,O,G⟩)
 all_goals
  go_simp;go_wp2;go_ret;exact ⟨g,rfl,O,Below.trans (by first | exact o.out | exact o.out.drew | exact below_drewN o.out _) (G.mono (by have:=o.out.size;simpa using this))⟩
theorem Cl (c:aC) (y:Int) (w:World) (cap E h:Nat) (Y:aP c y 1601=0) (H:aS w h (et c y)) :
  Calls Tryz.prog 61 #[bV y (ce c y) cap E (aV c y) h,.int .i64 4] w (cT c y 4 w):=by
 have I:=hide H;clear H;simp only [bV];go_enter Tryz.func61,Tryz.ntmps61;go_wp2;generalize f:((w.alloc (.cells #[y,.slice (some ⟨E,0,none⟩) (ce c y) cap,.slice (some ⟨h,0,none⟩) (aV c y) (aV c y)] 76)).alloc (.cells _ _))=W;have k0:W.cell? ⟨w+1,3,none⟩=some (.func (.func 96) #[] #[]):=by rw [← f];simp
 have O:W.cell? ⟨w,0,none⟩=some (.int .i64 y):=by rw [← f];simp
 have U:W.cell? ⟨w,1,none⟩=some (.slice (some ⟨E,0,none⟩) (ce c y) cap):=by rw [← f];simp
 have V:W.cell? ⟨w,2,none⟩=some (.slice (some ⟨h,0,none⟩) (aV c y) (aV c y)):=by rw [← f];simp
 have o:=hide (show Below w w W by rw [← f];(repeat' exact bel));have F:=hide (show aS W h (et c y) by rw [← f];exact (I.out.alloc _).alloc _);clear f;go_region_with (go_at_call 96;refine (rq c y _ cap E h (by exact F.out)).mono ?_;rintro e w1 ⟨g,rfl,J,G⟩)
 all_goals
  go_simp;go_wp2;go_ret;exact ⟨g,rfl,J,Below.trans (by first | exact o.out | exact o.out.drew | exact below_drewN o.out _) (G.mono (by have:=o.out.size;simpa using this))⟩
theorem Cn (c:aC) (y:Int) (w:World) (cap E h:Nat) (J:aP c y 1601=0) (G:aS w h (et c y)) :
  Calls Tryz.prog 61 #[bV y (ce c y) cap E (aV c y) h,.int .i64 5] w (cT c y 5 w):=by
 have H:=hide G;clear G;simp only [bV];go_enter Tryz.func61,Tryz.ntmps61;go_wp2;generalize f:((w.alloc (.cells #[y,.slice (some ⟨E,0,none⟩) (ce c y) cap,.slice (some ⟨h,0,none⟩) (aV c y) (aV c y)] 76)).alloc (.cells _ _))=W;have k0:W.cell? ⟨w+1,4,none⟩=some (.func (.func 97) #[] #[]):=by rw [← f];simp
 have U:W.cell? ⟨w,0,none⟩=some (.int .i64 y):=by rw [← f];simp
 have V:W.cell? ⟨w,1,none⟩=some (.slice (some ⟨E,0,none⟩) (ce c y) cap):=by rw [← f];simp
 have Y:W.cell? ⟨w,2,none⟩=some (.slice (some ⟨h,0,none⟩) (aV c y) (aV c y)):=by rw [← f];simp
 have o:=hide (show Below w w W by rw [← f];(repeat' exact bel));have I:=hide (show aS W h (et c y) by rw [← f];exact (H.out.alloc _).alloc _);clear f;go_region_with (go_at_call 97;refine (qT c y _ cap E h J).mono ?_;rintro e w1 ⟨g,rfl,O,F⟩)
 all_goals
  go_simp;go_wp2;go_ret;exact ⟨g,rfl,O,Below.trans (by first | exact o.out | exact o.out.drew | exact below_drewN o.out _) (F.mono (by have:=o.out.size;simpa using this))⟩
theorem gI (c:aC) (y lv:Int) (w:World) (cap o f:Nat) (G:1≤lv) (H:lv≤5) (E:aP c y 1601=0) (F:aS w f (et c y)) :
  Calls Tryz.prog 61 #[bV y (ce c y) cap o (aV c y) f,lv] w (cT c y lv w):=by
 have h:lv=1∨lv=2∨lv=3∨lv=4∨lv=5:=om;rcases h with rfl | rfl | rfl | rfl | rfl
 ·exact Bg c y w cap o f E F
 ·exact CC c y w cap o f E F
 ·exact C8 c y w cap o f E F
 ·exact Cl c y w cap o f E F
 ·exact Cn c y w cap o f E F
theorem rI (c:aC) (y lv:Int) (w:World) (cap o f:Nat) (I:1≤lv) (J:lv≤5) (E:aP c y 1601=0) (F:aS w f (et c y)) :
  Calls Tryz.prog 35 #[bV y (ce c y) cap o (aV c y) f,lv] w fun e w'=>e=.returned (.int .i64 (aM c y lv:Int))∧Below w w w':=by
 have H:=hide F;clear F;have G:=hide E;clear E;simp only [bV];go_enter Tryz.func35,Tryz.ntmps35;go_wp2_with fail;refine (gI c y lv _ cap o f I J G.out (H.out.alloc _)).mono ?_;rintro e U ⟨g,rfl,O,h⟩;go_wp2;go_ret;exact ⟨rfl,((Below.refl _ _).alloc (Nat.le_refl _) _).trans (h.mono af)⟩
theorem tU (a:Int) (w:World):Calls Tryz.prog 92 #[a] w fun e w'=>e=.returned (.bool false)∧w=w':=by
 go_enter Tryz.func92,Tryz.ntmps92;go_wp2;go_ret;exact ⟨bA af,rfl⟩
theorem zZ (a:Int) (w:World):Calls Tryz.prog 126 #[a] w fun e w'=>e=.returned (.bool false)∧w=w':=by
 go_enter Tryz.func126,Tryz.ntmps126;go_wp2;go_ret;exact ⟨bA af,rfl⟩
theorem qE (a b:Int) (w:World):Calls Tryz.prog 91 #[a,b] w fun e w'=>e=.returned (.bool (decide (a<b)))∧w=w':=by
 go_enter Tryz.func91,Tryz.ntmps91;go_wp2_with (go_at_call 126;refine (zZ _ _).mono ?_;rintro e w' ⟨rfl,rfl⟩)
 all_goals (go_ret;exact ⟨bA af,rfl⟩)
def Ez (l:List Int) (x:Int) (w:World) (e:Ending) (w':World):Prop:=∃ b,e=.returned (.tuple #[.int .i64 (xx l x:Int),.bool b])∧w=w'
theorem qi (g:Nat) (l:List Int) (x:Int) (w:World) (hl:l.length≤100000) (hI:aS w g l) (hs:∀ i j,i≤j→j<l.length→l[i]?.getD 0≤l[j]?.getD 0) :
  Calls Tryz.prog 60 #[.slice (some ⟨g,0,none⟩) l.length l.length,x] w (Ez l x w):=by
 have Y:=hide hs;have V:=hide hI;obtain ⟨n,E⟩:∃ n,n=l.length:=⟨_,rfl⟩;have ac:n≤100000:=om;have f:=hide E;rw [← E];clear hs hI E hl;go_enter Tryz.func60,Tryz.ntmps60;go_wp2_with fail;go_loop [7,8] (fun I J=>∃ a b:Nat,I=.int .i64 a∧J=.int .i64 b∧a≤b∧b≤n∧Hid (∀ t,t<a→l[t]?.getD 0<x)∧Hid (∀ t,b≤t→t<n→x≤l[t]?.getD 0)) (fun I J=>(intOf J-intOf I).toNat)
 case atStart=>exact ⟨0,n,rfl,rfl,by omega,by omega,hide (fun t ht=>by omega),hide (fun t h1 h2=>by omega)⟩
 case round =>
  obtain ⟨a,b,rfl,rfl,aa,G,O,U⟩:=hrel;by_cases ab:a<b
  ·have c1:w.cell? ⟨g,(a+b) / 2,none⟩=some (.int .i64 (l[(a+b) / 2]?.getD 0)):=V.out.cell (by rw [← f.out];omega)
   by_cases o:l[(a+b) / 2]?.getD 0<x
   ·have H:decide (l[(a+b) / 2]?.getD 0<x)=true:=by simpa using o
    have F:=hide o;clear o;go_wp2_with (go_at_call 91;refine (qE _ _ _).mono ?_;rintro e w' ⟨rfl,rfl⟩);refine ⟨⟨(a+b) / 2+1,b,?_,rfl,by omega,G,hide (fun t ht=>?_),U⟩,by simp [intOf];omega⟩
    ·congr 1
    ·have h1:=Y.out t ((a+b) / 2) om (by rw [← f.out];omega)
     have h2:=F.out;omega
   ·have H:decide (l[(a+b) / 2]?.getD 0<x)=false:=by simpa using o
    have F:=hide o;clear o;go_wp2_with (go_at_call 91;refine (qE _ _ _).mono ?_;rintro e w' ⟨rfl,rfl⟩);refine ⟨⟨a,(a+b) / 2,rfl,?_,by omega,by omega,O,hide (fun t ad ah=>?_)⟩,by simp [intOf];omega⟩
    ·congr 1
    ·have h1:=Y.out ((a+b) / 2) t om (by rw [← f.out];omega)
     have h2:=F.out;omega
  ·obtain rfl:a=b:=om
   have W:=hide (show xx l x=a from pc l x a (by rw [← f.out];omega) (fun j hj=>O.out j hj) (fun h=>U.out a (Nat.le_refl _) (by rw [f.out];exact h)));by_cases E:a<n
   ·have c1:w.cell? ⟨g,a,none⟩=some (.int .i64 (l[a]?.getD 0)):=V.out.cell (by rw [← f.out];omega)
    go_wp2_with (go_at_call 92;refine (tU _ _).mono ?_;rintro e w' ⟨rfl,rfl⟩)
    all_goals
     go_ret2;exact ⟨_,by rw [W.out];rfl,rfl⟩
   ·go_wp2_with (go_at_call 92;refine (tU _ _).mono ?_;rintro e w' ⟨rfl,rfl⟩)
    all_goals
     go_ret2;exact ⟨_,by rw [W.out];rfl,rfl⟩
theorem od (c:aC) (y:Int) (w:World) (cap E I:Nat) (G:aP c y 1601=0) (V:ce c y≤cap) (H:bO w E I c y) (a b:Nat) (O:a<ce c y) (U:b<ce c y) :
  Calls Tryz.prog 26 #[bV y (ce c y) cap E (aV c y) I,.int .i64 ((a:Int)+1),.int .i64 ((b:Int)+1)] w fun e w'=>e=.returned (cw ⟨cf c y a,cf c y (b+1)-1⟩)∧Below w w w':=by
 have aa:=gH c y G;have h:=(H.1.2 a (by rw [eQ];exact O)).1;have o:=(H.1.2 b (by rw [eQ];exact U)).2;rw [(ej c y G a O).1] at h;rw [(ej c y G b U).1] at o;have F:=H.1.1;simp only [Option.getD_some] at h o;have Y:=hide h;have HB:=hide o;clear G H h o;generalize ce c y=n at *;simp only [bV,cw];go_enter Tryz.func26,Tryz.ntmps26;go_wp2;generalize f:((w.alloc (.cells #[y,.slice (some ⟨E,0,none⟩) n cap,.slice (some ⟨I,0,none⟩) (aV c y) (aV c y)] 76)).alloc (.cells _ _))=W;have b1:W.cell? ⟨w,1,none⟩=some (.slice (some ⟨E,0,none⟩) n cap):=by rw [← f];simp
 have c1:W.cell? ⟨E,a*2,none⟩=some (.int .i64 (cf c y a)):=by
  rw [← f,World.cell?_alloc_lt _ _ _ ag,World.cell?_alloc_lt _ _ _ F,Nat.mul_comm];exact Y.out
 have c2:W.cell? ⟨E,b*2+1,none⟩=some (.int .i64 (cf c y (b+1)-1)):=by
  rw [← f,World.cell?_alloc_lt _ _ _ ag,World.cell?_alloc_lt _ _ _ F,Nat.mul_comm];exact HB.out
 have r0:W.cell? ⟨w+1,0,none⟩=some (.int .i64 0):=by rw [← f];simp
 have r1:W.cell? ⟨w+1,1,none⟩=some (.int .i64 0):=by rw [← f];simp
 have f0:W.frozen? ⟨w+1,0,none⟩=false:=by rw [← f];simp
 have f1:W.frozen? ⟨w+1,1,none⟩=false:=by rw [← f];simp
 have J:w.heap.size+1<W.heap.size:=by rw [← f];simp
 have HW:=hide (show Below w w W by rw [← f];(repeat' exact bel));clear f;go_region
 all_goals
  go_wp2;exact bodyPost_ret (v:=.agg #[cf c y a,.int .i64 (cf c y (b+1)-1)]) (by simp [results,Tryz.results26,go_sem,r0,r1,f0,f1,J]) rfl ⟨rfl,((HW.out.setCell af _).setCell af _).drew⟩
theorem xu (c:aC) (y:Int) (u:Un) (w:World) (cap o f:Nat) (I:1≤u.lv) (J:u.lv≤5) (E:aP c y 1601=0) (F:aS w f (et c y)) (V:u.ix<1∨(aM c y u.lv:Int)<u.ix) :
  Calls Tryz.prog 55 #[bV y (ce c y) cap o (aV c y) f,aZ u] w fun e w'=>e=.returned (.tuple #[.int .i64 0,.int .i64 0,.bool false])∧Below w w w':=by
 have G:=hide E;have H:=hide F;clear E F;simp only [bV,aZ];go_enter Tryz.func55,Tryz.ntmps55;go_wp2_with fail;refine (gI c y u.lv _ cap o f I J G.out ((H.out.alloc _).alloc _)).mono ?_;rintro e O ⟨g,rfl,U,h⟩;have W:O.cell? ⟨w+1,2,none⟩=some (.int .i64 u.ix):=ap h;go_wp2
 all_goals first
  | (exfalso;omega)
  | (go_ret3;exact ⟨rfl,by (repeat' exact bel)⟩)
theorem nB (c:aC) (y:Int) (u:Un) (w:World) (cap W J:Nat) (H:1≤u.lv) (I:u.lv≤5) (E:aP c y 1601=0) (hI:aS w J (et c y)) (i:Nat) (hx:u.ix=(i:Int)+1) (hi:i<aM c y u.lv) :
  Calls Tryz.prog 55 #[bV y (ce c y) cap W (aV c y) J,aZ u] w fun e w'=>e=.returned (.tuple #[.int .i64 ((aX c y u.lv i:Int)+1),.int .i64 (aX c y u.lv (i+1):Int),.bool true])∧Below w w w':=by
 obtain ⟨lv,yr,ix⟩:=u;obtain rfl:ix=(i:Int)+1:=hx;simp only at H I hi ⊢;have Y:=jB c y E lv;have hcut:=cu c y E lv H I i om;have aa:=cu c y E lv H I (i+1) om;have ad:=gH c y E;have V:=hide (fE c y lv);have U:=hide (fun i hi=>ey c y lv i hi);have O:=hide (ox c y lv);have HE:=hide E;have HI:=hide hI;clear E hI;obtain ⟨n,hn⟩:∃ n,n=aM c y lv:=⟨_,rfl⟩;have h:=hide hn;have ac:i<n:=om;have ab:n≤60:=om;clear Y hi hn;simp only [bV,aZ];cases i with
 | zero =>
  go_enter Tryz.func55,Tryz.ntmps55;rw [show ((0:Nat):Int)+1=1 from rfl];go_wp2_with fail;refine (gI c y lv _ cap W J H I HE.out ((HI.out.alloc _).alloc _)).mono ?_;rintro e o ⟨g,rfl,F,f⟩;rw [← h.out];have q2:o.cell? ⟨w+1,2,none⟩=some (.int .i64 1):=ap f;have c0:o.cell? ⟨g,0,none⟩=some (.int .i64 (aX c y lv 1:Int)):=by rw [F.cell (by rw [V.out,← h.out];omega),U.out 0 (by rw [← h.out];omega)]
  have G:=hide (show Below w w o by (repeat' exact bel));clear F f;go_wp2
  all_goals first
   | (exfalso;omega)
   | skip
  go_quiet (fail);go_wp2;go_ret3;refine ⟨by rw [O.out];rfl,?_⟩
  first | exact G.out | exact below_drewN G.out _
 | succ j =>
  go_enter Tryz.func55,Tryz.ntmps55;rw [show ((j+1:Nat):Int)+1=(j:Int)+2 by omega];go_wp2_with fail;refine (gI c y lv _ cap W J H I HE.out ((HI.out.alloc _).alloc _)).mono ?_;rintro e o ⟨g,rfl,F,f⟩;rw [← h.out];have q2:o.cell? ⟨w+1,2,none⟩=some (.int .i64 ((j:Int)+2)):=ap f;have c0:o.cell? ⟨g,j,none⟩=some (.int .i64 (aX c y lv (j+1):Int)):=by rw [F.cell (by rw [V.out,← h.out];omega),U.out j (by rw [← h.out];omega)]
  have c1:o.cell? ⟨g,j+1,none⟩=some (.int .i64 (aX c y lv (j+1+1):Int)):=by rw [F.cell (by rw [V.out,← h.out];omega),U.out (j+1) (by rw [← h.out];omega)]
  have G:=hide (show Below w w o by (repeat' exact bel));clear F f;go_wp2
  all_goals first
   | (exfalso;omega)
   | skip
  go_quiet (fail);go_wp2;go_ret3;refine ⟨rfl,?_⟩
  first | exact G.out | exact below_drewN G.out _
theorem pP (c:aC) (y:Int) (F:aP c y 1601=0) (lv:Int) (o:1≤lv) (E:lv≤5) (i j:Nat) (h:i≤j) (f:j<(cz c y lv).length):(cz c y lv)[i]?.getD 0≤(cz c y lv)[j]?.getD 0:=by
 rw [fE] at f;rw [ey c y lv i om,ey c y lv j f];have:=dM c y F lv o E (show i+1≤j+1 by omega) om;omega
theorem lx (c:aC) (y lv:Int) (w:World) (cap I F:Nat) (J:1≤lv) (O:lv≤5) (E:aP c y 1601=0) (U:aS w F (et c y)) (a:Nat) :
  Calls Tryz.prog 29 #[bV y (ce c y) cap I (aV c y) F,lv,.int .i64 ((a:Int)+1)] w fun e w'=>e=.returned (aZ ⟨lv,y,(jt c y lv a:Int)+1⟩)∧Below w w w':=by
 have aa:=jB c y E lv;have ab:jt c y lv a≤60:=by
  have:=zI (cz c y lv) ((a:Int)+1);rw [fE] at this;unfold jt;omega
 have HS:=hide (fun i j h hj=>pP c y E lv J O i j h hj);have H:=hide (fE c y lv);have HX:=hide (show xx (cz c y lv) ((a:Int)+1)=jt c y lv a from rfl);have W:=hide E;have Y:=hide U;clear E U;simp only [bV,aZ];go_enter Tryz.func29,Tryz.ntmps29;go_wp2_with fail;refine (gI c y lv _ cap I F J O W.out ((Y.out.alloc _).alloc _)).mono ?_;rintro e o ⟨g,rfl,V,f⟩;have r0:o.cell? ⟨w+1,0,none⟩=some (.int .i64 0):=ap f;have r1:o.cell? ⟨w+1,1,none⟩=some (.int .i64 0):=ap f;have r2:o.cell? ⟨w+1,2,none⟩=some (.int .i64 0):=ap f;have f0:o.frozen? ⟨w+1,0,none⟩=false:=an f;have f1:o.frozen? ⟨w+1,1,none⟩=false:=an f;have f2:o.frozen? ⟨w+1,2,none⟩=false:=an f;have b0:o.cell? ⟨w,0,none⟩=some (.int .i64 y):=ap f;have G:w.heap.size+1<o.heap.size:=am f;have HW:=hide (show Below w w o by (repeat' exact bel));clear f;rw [← H.out];go_wp2_with fail;refine (qi g (cz c y lv) _ _ (by rw [H.out];omega) V HS.out).mono ?_;rintro e w2 ⟨bb,rfl,rfl⟩;rw [HX.out];clear V;go_wp2;exact bodyPost_ret (v:=.agg #[lv,y,.int .i64 ((jt c y lv a:Int)+1)]) (by simp [results,Tryz.results29,go_sem,r0,r1,r2,f0,f1,f2,G]) rfl ⟨rfl,((HW.out.setCell af _).setCell af _).setCell af _⟩
end
end Go.Proofs.YtpebkobmhhnojaaGreatDoor
