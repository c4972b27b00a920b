/- Lemmas. -/
import Derived.BigQuiet
import Derived.Deep.DeepCutAuto
import Derived.Lib.QuietBelow
import Derived.Test.YtpebkobmhhnojaaGreatDoorTp16
import Derived.Test.YtpebkobmhhnojaaGreatDoorTp19
import Derived.Test.YtpebkobmhhnojaaGreatDoorTp22
import Derived.Test.YtpebkobmhhnojaaGreatDoorTp27
import Derived.Test.YtpebkobmhhnojaaGreatDoorTp30
set_option linter.unusedSimpArgs false
set_option linter.unusedVariables false
set_option maxRecDepth 100000
set_option maxHeartbeats 12800000
namespace Go.Proofs.YtpebkobmhhnojaaGreatDoor
section
open Go.RowKit Qd
def gy (a b:Int) (t:Sp):Int:=min b t.b-max a t.a+1
def xF:List Sp→Prop
 | []=>True
 | [_]=>True
 | u::v::l=>v.a=u.b+1∧xF (v::l)
theorem E8 {l:List Sp} (h:∀ (j:Nat) (u v:Sp),l[j]?=some u→l[j+1]?=some v→v.a=u.b+1):xF l:=by
 induction l with
 | nil=>trivial
 | cons u l E =>
  cases l with
  | nil=>trivial
  | cons v l=>exact ⟨h 0 u v rfl rfl,E fun j x y f o=>h (j+1) x y (by simpa using f) (by simpa using o)⟩
theorem oh {u:Sp} {l:List Sp} (h:xF (u::l)) (o:∀ t∈u::l,t.a≤t.b):∀ t∈l,u.b<t.a:=by
 induction l generalizing u with
 | nil=>simp
 | cons v l F =>
  intro t f;have G:=o v af;rcases List.mem_cons.1 f with rfl | f
  ·have:=h.1;omega
  ·have:=F h.2 (fun x E=>o x (List.mem_cons_of_mem _ E)) t f
   have:=h.1;omega
theorem zM {u:Sp} {l:List Sp} {a b:Int} (h:xF (u::l)) (F:∀ t∈u::l,t.a≤t.b) (V:a≤b) (ha:u.a≤a∧a≤u.b) (O:∀ t,(u::l).getLast?=some t→t.a≤b∧b≤t.b) :
  ((u::l).map (gy a b)).sum=b-a+1∧∀ t∈u::l,1≤gy a b t:=by
 induction l generalizing u a with
 | nil =>
  have U:=O u rfl;simp only [List.map_cons,List.map_nil,List.sum_cons,List.sum_nil,List.mem_singleton,forall_eq,gy];omega
 | cons v l ih =>
  have hv:=h.1;have J:=F v af;have Y:=F u af;have o:∀ t,(v::l).getLast?=some t→t.a≤b∧b≤t.b:=fun t f=>O t (by rw [List.getLast?_cons_cons];exact f)
  have H:v.a≤b:=by
   cases l with
   | nil=>exact (o v rfl).1
   | cons z l =>
    obtain ⟨t,f⟩:∃ t,(v::z::l).getLast?=some t:=⟨_,List.getLast?_eq_some_getLast af⟩;have U:=o t f;have W:t∈z::l:=by
     rw [List.getLast?_cons_cons] at f;exact List.mem_of_getLast? f
    have:=oh h.2 (fun x G=>F x (List.mem_cons_of_mem _ G)) t W;omega
  have hi:=ih (a:=v.a) h.2 (fun x G=>F x (List.mem_cons_of_mem _ G)) H ⟨by omega,J⟩ o;have I:∀ t∈v::l,v.a≤t.a:=by
   intro t f;rcases List.mem_cons.1 f with rfl | f
   ·omega
   ·have:=oh h.2 (fun x G=>F x (List.mem_cons_of_mem _ G)) t f;omega
  have E:∀ t∈v::l,gy a b t=gy v.a b t:=by
   intro t f;have:=I t f;unfold gy;omega
  have e:(v::l).map (gy a b)=(v::l).map (gy v.a b):=List.map_congr_left E;constructor
  ·rw [List.map_cons,List.sum_cons,e,hi.1]
   unfold gy;omega
  ·intro t f
   rcases List.mem_cons.1 f with rfl | f
   ·unfold gy;omega
   ·rw [E t f];exact hi.2 t f
theorem ly {c:aC} {lv:Int} {s:Sp} (h:bF c lv s=0) {u:Un} (f:u∈bn c lv s):aU c u=0∧u.lv=lv:=by
 obtain ⟨O,J,E,m,n,I,F,_⟩:=gq h;rw [F] at f;have o:=List.mem_of_mem_drop (List.mem_of_mem_take f);obtain ⟨p,H,e⟩:=List.getElem_of_mem o;obtain ⟨a,i,G,hi,rfl,_⟩:=mA c lv _ _ p u (by rw [List.getElem?_eq_getElem H,e]);exact ⟨fs (E a G) hi,rfl⟩
theorem zN {c:aC} {u:Un} (h:aU c u=0):(dD c u).a≤(dD c u).b:=by
 have f:=iR h;have:=mc c u.yr (ev h).2.2.2.1 f.1 f.2;rw [iQ h];simp only;omega
theorem uJ {c:aC} {lv:Int} {s:Sp} (h:bF c lv s=0):xF ((bn c lv s).map (dD c)):=by
 refine E8 fun j u v o E=>?_
 simp only [List.getElem?_map,Option.map_eq_some_iff] at o E;obtain ⟨x,F,rfl⟩:=o;obtain ⟨y,H,rfl⟩:=E;obtain ⟨O,I⟩:=(gt h).1 j x y F H;have G:=(ly h (List.mem_of_getElem? F)).1;rcases nf G with ⟨_,_,_,f,_⟩ | ⟨J,_⟩
 ·rw [I] at f;exact f
 ·omega
theorem qC {c:aC} {lv:Int} {s:Sp} (h:bF c lv s=0):∀ t∈(bn c lv s).map (dD c),t.a≤t.b:=by
 intro t f;obtain ⟨u,o,rfl⟩:=List.mem_map.1 f;exact zN (ly h o).1
theorem Dz {c:aC} {d lv:Int} (h:fq c d lv=0):(dD c (gj c d lv)).a≤d∧d≤(dD c (gj c d lv)).b:=by
 obtain ⟨i,e,hi,E,F⟩:=oA h;have f:=(eW h).2.2.2.2.2.2;have o:=jR f i hi;rw [e,o];simp only;omega
noncomputable def dP (c:aC) (lv:Int) (s:Sp):List Int:=((bn c lv s).map (dD c)).map (gy s.a s.b)
theorem d7 (c:aC) (lv:Int) (s:Sp):(dP c lv s).length=(bn c lv s).length:=by simp [dP]
theorem zJ {c:aC} {lv:Int} {s:Sp} {j:Nat} {u:Un} (h:(bn c lv s)[j]?=some u):(dP c lv s)[j]?=some (gy s.a s.b (dD c u)):=by simp [dP,h]
theorem oB {c:aC} {lv:Int} {s:Sp} (h:bF c lv s=0):(dP c lv s).sum=s.b-s.a+1∧∀ d∈dP c lv s,1≤d∧d≤s.b-s.a+1:=by
 obtain ⟨hk,h1,h5,F,W,Y⟩:=eZ h;obtain ⟨c1,H,O,I,c5⟩:=gt h;have f:=uJ h;have o:=qC h;have G:∀ t,((bn c lv s).map (dD c)).getLast?=some t→t.a≤s.b∧s.b≤t.b:=by
  intro t E;rw [List.getLast?_eq_getElem?,List.length_map,List.getElem?_map,O] at E;simp only [Option.map_some,Option.some.injEq] at E;subst E;exact Dz Y
 have hf:=Dz W;unfold dP;cases J:bn c lv s with
 | nil=>rw [J] at I;simp at I
 | cons u l =>
  rw [J] at H f o G;have hu:u=gj c s.a lv:=by simpa using H
  subst hu;rw [List.map_cons] at f o G ⊢;obtain ⟨U,V⟩:=zM f o F hf G;refine ⟨U,fun d hd=>?_⟩;obtain ⟨t,E,rfl⟩:=List.mem_map.1 hd;have:=V t E;refine ⟨this,?_⟩;unfold gy;omega
def su (x:Un × Sp):List Value:=[.int .i64 x.1.lv,.int .i64 x.1.yr,.int .i64 x.1.ix,.int .i64 x.2.a,.int .i64 x.2.b]
def cO (w:World) (g:Nat) (D:List (Un × Sp)):Prop:=w.heap[g]?=some (.cells (D.flatMap su).toArray 189 (0,0))
theorem cO.lt {w:World} {g:Nat} {D:List (Un × Sp)} (h:cO w g D):g<w.heap.size:=(Array.getElem?_eq_some_iff.1 h).1
theorem EN (D:List (Un × Sp)) (i:Nat) (x:Un × Sp) (h:D[i]?=some x):(D.flatMap su)[i*5]?=some (.int .i64 x.1.lv)∧(D.flatMap su)[i*5+1]?=some (.int .i64 x.1.yr)∧(D.flatMap su)[i*5+2]?=some (.int .i64 x.1.ix)∧(D.flatMap su)[i*5+3]?=some (.int .i64 x.2.a)∧(D.flatMap su)[i*5+4]?=some (.int .i64 x.2.b):=by
 induction D generalizing i with
 | nil=>simp at h
 | cons y l f =>
  cases i with
  | zero=>simp at h;subst h;simp [su]
  | succ i =>
   have:=f i (by simpa using h);rw [show (i+1)*5=i*5+1+1+1+1+1 by omega];simpa [su] using this
theorem Ex (D:List (Un × Sp)) (i:Nat) (x:Un × Sp) (h:i<D.length):(((((D.flatMap su).set (i*5) (.int .i64 x.1.lv)).set (i*5+1) (.int .i64 x.1.yr)).set (i*5+2) (.int .i64 x.1.ix)).set (i*5+3) (.int .i64 x.2.a)).set (i*5+4) (.int .i64 x.2.b)=(D.set i x).flatMap su:=by
 induction D generalizing i with
 | nil=>simp at h
 | cons y l f =>
  cases i with
  | zero=>simp [su]
  | succ i =>
   have:=f i (by simpa using h);rw [show (i+1)*5=i*5+1+1+1+1+1 by omega];simpa [su] using this
theorem cO.cell {w:World} {g:Nat} {D:List (Un × Sp)} (h:cO w g D) {i:Nat} {x:Un × Sp} (hi:D[i]?=some x):w.cell? ⟨g,i*5,none⟩=some (.int .i64 x.1.lv)∧w.cell? ⟨g,i*5+1,none⟩=some (.int .i64 x.1.yr)∧w.cell? ⟨g,i*5+2,none⟩=some (.int .i64 x.1.ix)∧w.cell? ⟨g,i*5+3,none⟩=some (.int .i64 x.2.a)∧w.cell? ⟨g,i*5+4,none⟩=some (.int .i64 x.2.b):=by
 have:=EN D i x hi;simp [World.cell?,show w.heap[g]?=_ from h,this]
theorem cO.frozen {w:World} {g:Nat} {D:List (Un × Sp)} (h:cO w g D) (k:Nat):w.frozen? ⟨g,k,none⟩=false:=by simp [World.frozen?,show w.heap[g]?=_ from h]
theorem cO.below {w w':World} {K g:Nat} {D:List (Un × Sp)} (h:cO w g D) (f:Below K w w') (o:g<K):cO w' g D:=(f.block g o).trans h
theorem cO.call {w w':World} {g:Nat} {D:List (Un × Sp)} (h:cO w g D) (f:Below w w w'):cO w' g D:=h.below f h.lt
theorem cO.far {D:List (Un × Sp)} {g:Nat} {w:World} (h:cO w g D) {p:Addr} (f:g≠p.block) (u:Value):cO (w.setCell p u) g D:=(Below.heap_setCell w p u g f).trans h
def jb (w:World) (g i:Nat) (x:Un × Sp):World:=((((w.setCell ⟨g,i*5,none⟩ (.int .i64 x.1.lv)).setCell ⟨g,i*5+1,none⟩ (.int .i64 x.1.yr)).setCell ⟨g,i*5+2,none⟩ (.int .i64 x.1.ix)).setCell ⟨g,i*5+3,none⟩ (.int .i64 x.2.a)).setCell ⟨g,i*5+4,none⟩ (.int .i64 x.2.b)
theorem cO.put {w:World} {g:Nat} {D:List (Un × Sp)} (h:cO w g D) (i:Nat) (x:Un × Sp) (hi:i<D.length):cO (jb w g i x) g (D.set i x):=by
 unfold cO jb at *;rw [← Ex D i x hi];simp [World.setCell,Array.getElem?_modify,h]
theorem kT {w:World} {g i b:Nat} {x:Un × Sp} (f:b≠g):(jb w g i x).heap[b]?=w.heap[b]?:=by
 unfold jb;simp only [Below.heap_setCell _ _ _ _ (show b≠(⟨g,_,none⟩:Addr).block from f)]
theorem rc {o w:World} {K g i:Nat} {x:Un × Sp} (h:Below K o w) (f:K≤g):Below K o (jb w g i x):=(((((h.setCell f _).setCell f _).setCell f _).setCell f _).setCell f _)
theorem tA {w:World} {g i:Nat} {x:Un × Sp}:(jb w g i x).heap.size=w.heap.size:=by simp [jb]
theorem AY:(Tryz.prog.info? 189).map (fun i=>(i.zero,i.size,i.bytes))=some (some (.agg #[.int .i64 0,.int .i64 0,.int .i64 0,.int .i64 0,.int .i64 0]),5,40):=by kernel_rfl
abbrev rK:Un × Sp:=(⟨0,0,0⟩,⟨0,0⟩)
theorem Bj (n:Nat):(List.replicate n rK).flatMap su=List.replicate (n*5) (Value.int .i64 0):=by
 induction n with
 | zero=>rfl
 | succ n f =>
  rw [List.replicate_succ,List.flatMap_cons,f,show (n+1)*5=n*5+1+1+1+1+1 by omega,List.replicate_succ,List.replicate_succ,List.replicate_succ,List.replicate_succ,List.replicate_succ];rfl
def og (n:Nat):Obj:=.cells ((List.replicate n rK).flatMap su).toArray 189
theorem cO.new (w:World) (n:Nat):cO (w.alloc (og n)) w.heap.size (List.replicate n rK):=by
 unfold cO og;rw [heap_alloc_new]
theorem By (n:Nat) (J:n≤100000) (w:World):(Instr.makeSlice 183 (.int .i64 (n:Int)) (.int .i64 (n:Int))).run Tryz.prog w=.ok (.slice (some ⟨w,0,none⟩) n n) (w.alloc (og n)):=by
 obtain ⟨G,hi,f,o,E⟩:=info_parts AY;have F:=run_make (P:=Tryz.prog) w 183 189 G (.agg #[.int .i64 0,.int .i64 0,.int .i64 0,.int .i64 0,.int .i64 0]) Tryz.underlying183 hi f .i64 .i64 n n om om (by rw [E];omega) om;rw [F,o];have e:madeCells (Value.agg #[.int .i64 0,.int .i64 0,.int .i64 0,.int .i64 0,.int .i64 0]).cells (((n:Int)).toNat*5)=((List.replicate n rK).flatMap su).toArray:=by
  rw [Bj];apply Array.ext
  ·simp [madeCells]
  ·intro i H I
   rcases (show i % 5=0∨i % 5=1∨i % 5=2∨i % 5=3∨i % 5=4 by omega) with h | h | h | h | h <;> simp [madeCells,Value.cells,h]
 rw [e];simp [og]
def tj (x:Un × Int):List Value:=[.int .i64 x.1.lv,.int .i64 x.1.yr,.int .i64 x.1.ix,.int .i64 x.2]
def bS (w:World) (g:Nat) (D:List (Un × Int)):Prop:=w.heap[g]?=some (.cells (D.flatMap tj).toArray 59 (0,0))
theorem bS.lt {w:World} {g:Nat} {D:List (Un × Int)} (h:bS w g D):g<w.heap.size:=(Array.getElem?_eq_some_iff.1 h).1
theorem Eu (D:List (Un × Int)) (i:Nat) (x:Un × Int) (h:D[i]?=some x):(D.flatMap tj)[i*4]?=some (.int .i64 x.1.lv)∧(D.flatMap tj)[i*4+1]?=some (.int .i64 x.1.yr)∧(D.flatMap tj)[i*4+2]?=some (.int .i64 x.1.ix)∧(D.flatMap tj)[i*4+3]?=some (.int .i64 x.2):=by
 induction D generalizing i with
 | nil=>simp at h
 | cons y l f =>
  cases i with
  | zero=>simp at h;subst h;simp [tj]
  | succ i =>
   have:=f i (by simpa using h);rw [show (i+1)*4=i*4+1+1+1+1 by omega];simpa [tj] using this
theorem E6 (D:List (Un × Int)) (i:Nat) (x:Un × Int) (h:i<D.length):((((D.flatMap tj).set (i*4) (.int .i64 x.1.lv)).set (i*4+1) (.int .i64 x.1.yr)).set (i*4+2) (.int .i64 x.1.ix)).set (i*4+3) (.int .i64 x.2)=(D.set i x).flatMap tj:=by
 induction D generalizing i with
 | nil=>simp at h
 | cons y l f =>
  cases i with
  | zero=>simp [tj]
  | succ i =>
   have:=f i (by simpa using h);rw [show (i+1)*4=i*4+1+1+1+1 by omega];simpa [tj] using this
theorem bS.cell {w:World} {g:Nat} {D:List (Un × Int)} (h:bS w g D) {i:Nat} {x:Un × Int} (hi:D[i]?=some x):w.cell? ⟨g,i*4,none⟩=some (.int .i64 x.1.lv)∧w.cell? ⟨g,i*4+1,none⟩=some (.int .i64 x.1.yr)∧w.cell? ⟨g,i*4+2,none⟩=some (.int .i64 x.1.ix)∧w.cell? ⟨g,i*4+3,none⟩=some (.int .i64 x.2):=by
 have:=Eu D i x hi;simp [World.cell?,show w.heap[g]?=_ from h,this]
theorem bS.frozen {w:World} {g:Nat} {D:List (Un × Int)} (h:bS w g D) (k:Nat):w.frozen? ⟨g,k,none⟩=false:=by simp [World.frozen?,show w.heap[g]?=_ from h]
theorem bS.below {w w':World} {K g:Nat} {D:List (Un × Int)} (h:bS w g D) (f:Below K w w') (o:g<K):bS w' g D:=(f.block g o).trans h
theorem bS.call {w w':World} {g:Nat} {D:List (Un × Int)} (h:bS w g D) (f:Below w w w'):bS w' g D:=h.below f h.lt
theorem bS.far {D:List (Un × Int)} {g:Nat} {w:World} (h:bS w g D) {p:Addr} (f:g≠p.block) (u:Value):bS (w.setCell p u) g D:=(Below.heap_setCell w p u g f).trans h
def iZ (w:World) (g i:Nat) (x:Un × Int):World:=(((w.setCell ⟨g,i*4,none⟩ (.int .i64 x.1.lv)).setCell ⟨g,i*4+1,none⟩ (.int .i64 x.1.yr)).setCell ⟨g,i*4+2,none⟩ (.int .i64 x.1.ix)).setCell ⟨g,i*4+3,none⟩ (.int .i64 x.2)
theorem bS.put {w:World} {g:Nat} {D:List (Un × Int)} (h:bS w g D) (i:Nat) (x:Un × Int) (hi:i<D.length):bS (iZ w g i x) g (D.set i x):=by
 unfold bS iZ at *;rw [← E6 D i x hi];simp [World.setCell,Array.getElem?_modify,h]
theorem oN {w:World} {g i b:Nat} {x:Un × Int} (f:b≠g):(iZ w g i x).heap[b]?=w.heap[b]?:=by
 unfold iZ;simp only [Below.heap_setCell _ _ _ _ (show b≠(⟨g,_,none⟩:Addr).block from f)]
theorem lG {o w:World} {K g i:Nat} {x:Un × Int} (h:Below K o w) (f:K≤g):Below K o (iZ w g i x):=((((h.setCell f _).setCell f _).setCell f _).setCell f _)
theorem CE:(Tryz.prog.info? 59).map (fun i=>(i.zero,i.size,i.bytes))=some (some (.agg #[.int .i64 0,.int .i64 0,.int .i64 0,.int .i64 0]),4,32):=by kernel_rfl
abbrev tm:Un × Int:=(⟨0,0,0⟩,0)
theorem CJ (n:Nat):(List.replicate n tm).flatMap tj=List.replicate (n*4) (Value.int .i64 0):=by
 induction n with
 | zero=>rfl
 | succ n f =>
  rw [List.replicate_succ,List.flatMap_cons,f,show (n+1)*4=n*4+1+1+1+1 by omega,List.replicate_succ,List.replicate_succ,List.replicate_succ,List.replicate_succ];rfl
def mK (n:Nat):Obj:=.cells ((List.replicate n tm).flatMap tj).toArray 59
theorem bS.new (w:World) (n:Nat):bS (w.alloc (mK n)) w.heap.size (List.replicate n tm):=by
 unfold bS mK;rw [heap_alloc_new]
theorem uA (n:Nat) (J:n≤100000) (w:World):(Instr.makeSlice 55 (.int .i64 (n:Int)) (.int .i64 (n:Int))).run Tryz.prog w=.ok (.slice (some ⟨w,0,none⟩) n n) (w.alloc (mK n)):=by
 obtain ⟨G,hi,f,o,E⟩:=info_parts CE;have F:=run_make (P:=Tryz.prog) w 55 59 G (.agg #[.int .i64 0,.int .i64 0,.int .i64 0,.int .i64 0]) Tryz.underlying55 hi f .i64 .i64 n n om om (by rw [E];omega) om;rw [F,o];have e:madeCells (Value.agg #[.int .i64 0,.int .i64 0,.int .i64 0,.int .i64 0]).cells (((n:Int)).toNat*4)=((List.replicate n tm).flatMap tj).toArray:=by
  rw [CJ];apply Array.ext
  ·simp [madeCells]
  ·intro i H I
   rcases (show i % 4=0∨i % 4=1∨i % 4=2∨i % 4=3 by omega) with h | h | h | h <;> simp [madeCells,Value.cells,h]
 rw [e];simp [mK]
theorem xi (u:Un) (s:Sp) (w:World) (h:-100000000≤s.a∧s.a≤100000000∧-100000000≤s.b∧s.b≤100000000) :
  Calls Tryz.prog 129 #[.agg #[u.lv,u.yr,u.ix,s.a,s.b]] w fun e w'=>e=.returned (.int .i64 (s.b-s.a+1))∧Below w w w':=by
 obtain ⟨f,o,E,F⟩:=h;go_enter Tryz.func129,Tryz.ntmps129;go_wp2;go_ret;exact ⟨rfl,by (repeat' exact bel)⟩
def pz (c:aC) (s:Sp) (u:Un):Un × Sp:=(u,⟨max s.a (dD c u).a,min s.b (dD c u).b⟩)
noncomputable def mW (c:aC) (lv:Int) (s:Sp):List (Un × Sp):=(bn c lv s).map (pz c s)
theorem jj (c:aC) (lv:Int) (s:Sp):(mW c lv s).length=(bn c lv s).length:=by simp [mW]
theorem uv (c:aC) (y:Int) (f:aP c y 1601=0) (i:Nat) (hi:i≤ce c y):0≤cf c y i∧cf c y i≤3068038:=by
 have h:=cj c y f (Nat.zero_le i) hi;have o:=cj c y f hi (Nat.le_refl _);rw [iv] at h;rw [dy c y f] at o;have:=dm c y f;omega
theorem lQ {α:Type} (z:α) (l:List α) (j:Nat) (h:j<l.length):(bI z l j)[j]?=some z:=by
 have f:(l.take j).length=j:=by rw [List.length_take];omega
 unfold bI;rw [List.getElem?_append_right om,f,Nat.sub_self,List.getElem?_replicate,if_pos om]
def Hz (L:Nat) (o:World) (F G:Value) (E:World):Prop:=∃ f h,F=.slice (some ⟨f,0,none⟩) L L∧G=.slice (some ⟨h,0,none⟩) L L∧f≠h∧o.heap.size≤f∧o.heap.size≤h∧cO E f (List.replicate L rK)∧bo E h (List.replicate L 0)∧Below o o E
def qS (w:World) (F:Nat):Prop:=∃ a b d,ax w F #[a,b,d] 76
def rP (c:aC) (y:Int) (F:Nat) (w:World):Prop:=∃ f h o,ax w F #[y,.slice (some ⟨f,0,none⟩) (ce c y) o,.slice (some ⟨h,0,none⟩) (aV c y) (aV c y)] 76∧bO w f h c y∧ce c y≤o∧F<f∧F<h
theorem qS.call {w w':World} {F:Nat} (h:qS w F) (f:Below w w w'):qS w' F:=by
 obtain ⟨a,b,d,h⟩:=h;exact ⟨a,b,d,h.call f⟩
theorem rP.call {c:aC} {y:Int} {F:Nat} {w w':World} (h:rP c y F w) (o:Below w w w'):rP c y F w':=by
 obtain ⟨G,H,E,a,b,d,e,f⟩:=h;exact ⟨G,H,E,a.call o,b.call o,d,e,f⟩
theorem rP.box {c:aC} {y:Int} {F:Nat} {w:World} (h:rP c y F w):qS w F:=by
 obtain ⟨o,E,f,a,_⟩:=h;exact ⟨_,_,_,a⟩
theorem rP.same {c:aC} {y:Int} {F:Nat} {w w':World} (h:rP c y F w) (U:w.heap.size≤w'.heap.size) (o:∀ k,F≤k→w'.heap[k]?=w.heap[k]?):rP c y F w':=by
 obtain ⟨E,H,O,a,⟨G,J⟩,d,e,f⟩:=h;refine ⟨E,H,O,(o F (Nat.le_refl _)).trans a,⟨⟨Nat.lt_of_lt_of_le G.1 U,fun i hi=>?_⟩,(o H (Nat.le_of_lt f)).trans J⟩,d,e,f⟩;have I:=G.2 i hi;exact ⟨(World.cell?_of_block (o E (Nat.le_of_lt e))).trans I.1,(World.cell?_of_block (o E (Nat.le_of_lt e))).trans I.2⟩
structure iu (c:aC) (P:List (Un × Sp)) (D:List Int) (g1 g2 F K:Nat) (w1 w:World):Prop where
 pcs:cO w g1 P
 dys:bo w g2 D
 box:qS w F
 ne:g1≠g2
 ord:K≤g1∧K≤g2∧g1<F∧g2<F
 bel:Below K w1 w
theorem iu.call {c:aC} {P:List (Un × Sp)} {D:List Int} {o E F K:Nat} {G w w':World} (h:iu c P D o E F K G w) (f:Below w w w'):iu c P D o E F K G w':=
 ⟨h.pcs.call f,h.dys.call f,h.box.call f,h.ne,h.ord,h.bel.trans (f.mono (by have:=h.ord;have:=h.pcs.lt;omega))⟩
def Hi (c:aC) (u:Un) (P:List (Un × Sp)) (D:List Int) (h o F K B:Nat) (E:World) (b:Value) (w:World):Prop:=∃ f,b=.bool f∧(f=false→rP c u.yr F w)∧iu c P D h o F K E w∧i8 w B u∧F<B∧B<w.heap.size
def FC (c:aC) (u:Un) (P:List (Un × Sp)) (D:List Int) (f h F K B:Nat) (o w:World):Prop:=rP c u.yr F w∧iu c P D f h F K o w∧i8 w B u∧F<B∧B<w.heap.size
theorem iu.putP {c:aC} {P:List (Un × Sp)} {D:List Int} {f o F K:Nat} {H w:World} (h:iu c P D f o F K H w) (j:Nat) (x:Un × Sp) (I:j<P.length):iu c (P.set j x) D f o F K H (jb w f j x):=by
 obtain ⟨V,W,⟨a,b,d,Y⟩,G,⟨E,J,O,U⟩,p6⟩:=h;exact ⟨V.put j x I,(kT (Ne.symm G)).trans W,⟨a,b,d,(kT om).trans Y⟩,G,⟨E,J,O,U⟩,rc p6 E⟩
theorem iu.putD {c:aC} {P:List (Un × Sp)} {D:List Int} {o f F K:Nat} {H w:World} (h:iu c P D o f F K H w) (j:Nat) (d:Int):iu c P (D.set j d) o f F K H (w.setCell ⟨f,j,none⟩ (.int .i64 d)):=by
 obtain ⟨U,V,⟨a,b,e,W⟩,G,⟨I,E,J,O⟩,Y⟩:=h;exact ⟨U.far G _,V.set j d,⟨a,b,e,(Below.heap_setCell _ _ _ _ (by show F≠f;omega)).trans W⟩,G,⟨I,E,J,O⟩,Y.setCell E _⟩
theorem fT {w:World} {F b:Nat} {x y z:Value} (f:b≠F):(((w.setCell ⟨F,0,none⟩ x).setCell ⟨F,1,none⟩ y).setCell ⟨F,2,none⟩ z).heap[b]?=w.heap[b]?:=by
 rw [Below.heap_setCell _ _ _ _ f,Below.heap_setCell _ _ _ _ f,Below.heap_setCell _ _ _ _ f]
theorem yR {w w':World} {f o:Nat} {c:aC} {y:Int} (h:bO w f o c y) (G:w.heap.size≤w'.heap.size) (E:w'.heap[f]?=w.heap[f]?) (F:w'.heap[o]?=w.heap[o]?):bO w' f o c y:=
 ⟨⟨Nat.lt_of_lt_of_le h.1.1 G,fun i hi=>⟨(World.cell?_of_block E).trans (h.1.2 i hi).1,(World.cell?_of_block E).trans (h.1.2 i hi).2⟩⟩,F.trans h.2⟩
theorem Gc {w w':World} {B:Nat} {u:Un} (h:i8 w B u) (e:w'.heap[B]?=w.heap[B]?):i8 w' B u:=oj (fun o=>World.cell?_of_block e) h
theorem iu.frame {c:aC} {u:Un} {P:List (Un × Sp)} {D:List Int} {U V F K B f o G:Nat} {W w:World} (h:iu c P D U V F K W w) (hu:i8 w B u) (H:F<B) (Y:B<w.heap.size) (hf:bO w f o c u.yr) (I:ce c u.yr≤G) (J:F<f) (O:F<o) :
  FC c u P D U V F K B W (((w.setCell ⟨F,0,none⟩ (.int .i64 u.yr)).setCell ⟨F,1,none⟩ (.slice (some ⟨f,0,none⟩) (ce c u.yr) G)).setCell ⟨F,2,none⟩ (.slice (some ⟨o,0,none⟩) (aV c u.yr) (aV c u.yr))):=by
 obtain ⟨p1,p2,⟨a,b,d,p3⟩,p4,⟨o1,o2,o3,o4⟩,p6⟩:=h;have E:=ax.set123 p3 (.int .i64 u.yr) (.slice (some ⟨f,0,none⟩) (ce c u.yr) G) (.slice (some ⟨o,0,none⟩) (aV c u.yr) (aV c u.yr));refine ⟨⟨f,o,G,E,yR hf af (fT om) (fT om),I,J,O⟩,⟨(fT om).trans p1,(fT om).trans p2,⟨_,_,_,E⟩,p4,⟨o1,o2,o3,o4⟩,((p6.setCell (by show K≤F;omega) _).setCell (by show K≤F;omega) _).setCell (by show K≤F;omega) _⟩,Gc hu (fT om),H,by simpa using Y⟩
theorem sS (c:aC) (lv:Int) (s:Sp) (w:World) (hn:c.name.size≤1000) (h:bF c lv s=0) (hl:(bn c lv s).length≤100000) :
  Calls Tryz.prog 101 #[aI c,lv,cw s] w fun e w'=>(∃ H J,e=.returned (.tuple #[.slice (some ⟨H,0,none⟩) (bn c lv s).length (bn c lv s).length,.slice (some ⟨J,0,none⟩) (bn c lv s).length (bn c lv s).length,.int .i64 0])∧cO w' H (mW c lv s)∧bo w' J (dP c lv s)∧w.heap.size≤H∧w.heap.size≤J∧H≠J)∧Below w w w':=by
 have HM:=hide (fun w=>uH c lv s w hn h);have ek:=hide (fun u hu=>ly (c:=c) (lv:=lv) (s:=s) (u:=u) h hu);have b4:=hide (eZ h);have e0:1≤lv∧lv≤5:=by have:=b4.out;omega
 have e4:0≤s.a∧s.a<3068037∧0≤s.b∧s.b<3068037:=by
  have h1:=(eW b4.out.2.2.2.2.1).2.2.2.2.1;have h2:=(eW b4.out.2.2.2.2.2).2.2.2.2.1;simp [cH] at h1 h2;omega
 obtain ⟨L,hL⟩:∃ n,(bn c lv s).length=n:=⟨_,rfl⟩;rw [hL] at HM hl ⊢;have HL:=hide hL;have f3:=fun w=>mx L hl w
 have f4:=fun w=>By L hl w
 obtain ⟨fz,f0⟩:=e0;obtain ⟨gf,gl,gm,go⟩:=e4;clear h hL;simp only [aI,cw] at HM ⊢;go_enter Tryz.func101,Tryz.ntmps101;go_wp2_with fail;refine (HM.out _).mono ?_;rintro e E ⟨g,cap,rfl,hU,hg,a7⟩;have HU:=hide hU;have ds:Hid (Below w w E):=ww a7;have em:=hide (az a7 ag (bG (be w c) af _));have es:=hide (show ml E (w+1) s from dB a7 af (by have:=fX (w.alloc (df c)) s;simpa using this));have gP:w.heap.size+1<E.heap.size:=am a7;clear hU a7;go_upto_region 4 with (fail);go_cut [11,12] (fun s8 s9 wx=>Hz L E s8 s9 wx)
 case first =>
  go_region
  all_goals
   go_wp2_with fail;go_meet
  case rel =>
   refine ⟨E,E.heap.size+1,rfl,rfl,by omega,Nat.le_refl _,by omega,?_,?_,by (repeat' exact bel)⟩
   ·exact (cO.new E L).call ar
   ·have h:=bo.new (E.alloc (og L)) L
    rw [show (E.alloc (og L)).heap.size=E.heap.size+1 by simp] at h;exact h.call ((Below.refl _ _).drew)
  case rel =>
   refine ⟨E+1,E.heap.size,rfl,rfl,by omega,by omega,Nat.le_refl _,?_,?_,by (repeat' exact bel)⟩
   ·have h:=cO.new (E.alloc (dU L)) L
    rw [show (E.alloc (dU L)).heap.size=E.heap.size+1 by simp] at h;exact h.call ((Below.refl _ _).drew)
   ·exact (bo.new E L).call ar
 case rest =>
  obtain ⟨H,J,rfl,rfl,e3,eF,eL,b8,b7,bc⟩:=hcut;have c7:=b8.lt;have c8:=b7.lt
  have H0:=hide (show iu c (bI rK (mW c lv s) 0) (bI 0 (dP c lv s) 0) H J wc.heap.size E.heap.size E (wc.alloc (.cells #[.int .i64 0,.slice none 0 0,.slice none 0 0] 76)) from
   ⟨by rw [fD,jj,HL.out];exact b8.call ((Below.refl _ _).alloc (Nat.le_refl _) _),by rw [fD,d7,HL.out];exact b7.call ((Below.refl _ _).alloc (Nat.le_refl _) _),⟨_,_,_,ax.new _ _ _⟩,e3,⟨eF,eL,c7,c8⟩,bc.alloc bc.size _⟩)
  obtain ⟨F,hF⟩:∃ F,F=wc.heap.size:=⟨_,rfl⟩;have f7:E.heap.size≤F:=by rw [hF];exact bc.size
  clear b8 b7 bc;go_wp2_with fail;rw [← hF] at H0 ⊢;clear hF;go_loopw [38] (fun cr wr=>∃ j:Nat,cr=.int .i64 j∧j≤L∧iu c (bI rK (mW c lv s) j) (bI 0 (dP c lv s) j) H J F E.heap.size E wr∧Hid (∀ u,0<j→(bn c lv s)[j-1]?=some u→rP c u.yr F wr)) (fun cr _=>(L+5-intOf cr).toNat)
  case atStart=>exact ⟨0,rfl,Nat.zero_le _,H0.out,hide (fun u h=>absurd h (Nat.lt_irrefl 0))⟩
  case round =>
   obtain ⟨j,rfl,hj,hS,ad⟩:=hrel;have HS:=hide hS;clear hS;have f6:=HS.out.bel.size;by_cases aA:j<L
   ·obtain ⟨u,hu⟩:∃ u,(bn c lv s)[j]?=some u:=⟨_,List.getElem?_eq_getElem (by rw [HL.out];exact aA)⟩
    have e6:=(d9.lt HU.out (by rw [HL.out];omega)).1;have W:∀ o,wr.cell? ⟨g,o,none⟩=E.cell? ⟨g,o,none⟩:=fun o=>HS.out.bel.cell (p:=⟨g,o,none⟩) e6
    obtain ⟨a0,a1,a2⟩:=d9.cell HU.out hu;rw [← W] at a0 a1 a2;have a4:=hide (ek.out u (List.mem_of_getElem? hu));have HX:=hide hu;have cs:=hide W;have c9:g<wr.heap.size:=om;have f9:(0:Int)≤(j:Int):=om;have ga:(j:Int)<(L:Int):=om;have HW:=hide (show iu c (bI rK (mW c lv s) j) (bI 0 (dP c lv s) j) H J F E.heap.size E (wr.alloc (lJ u))∧i8 (wr.alloc (lJ u)) wr.heap.size u∧(∀ v,0<j→(bn c lv s)[j-1]?=some v→rP c v.yr F (wr.alloc (lJ u))) from ⟨HS.out.call ((Below.refl _ _).alloc (Nat.le_refl _) _),nw wr u,fun v h1 h2=>(ad.out v h1 h2).call ((Below.refl _ _).alloc (Nat.le_refl _) _)⟩);clear W hu;have U:=hide (fun n=>below_drewN (Below.refl (wr.alloc (lJ u)).heap.size (wr.alloc (lJ u))) n);have a6:F<wr.heap.size:=by obtain ⟨_,_,_,hb⟩:=HS.out.box;exact hb.lt
    go_upto_region 9 with (fail);go_cut [55] (fun b wx=>Hi c u (bI rK (mW c lv s) j) (bI 0 (dP c lv s) j) H J F E.heap.size wr.heap.size E b wx)
    case first =>
     rcases Nat.eq_zero_or_pos j with rfl | gc
     ·go_quiet (fail)
      go_wp2_with fail;go_meet
      case rel=>exact ⟨true,rfl,by simp,HW.out.1.call (U.out _),cD (U.out _) af HW.out.2.1,a6,by simp⟩
     ·obtain ⟨i,rfl⟩:∃ i,j=i+1:=⟨j-1,by omega⟩
      obtain ⟨v,hv⟩:∃ v,(bn c lv s)[i]?=some v:=⟨_,List.getElem?_eq_getElem (by rw [HL.out];omega)⟩;obtain ⟨b0,b1,b2⟩:=d9.cell HU.out hv;rw [← cs.out] at b1;have hz:((i:Int)+1==0)=false:=by rw [beq_eq_false_iff_ne];omega
      have gb:(0:Int)≤(i:Int):=om;have fv:(i:Int)<(L:Int):=om;have q7:IntKind.i64.wrap (i:Int)=(i:Int):=by simp [IntKind.wrap,IntKind.bits,IntKind.signed];omega
      have q8:IntKind.i64.wrap ((i:Int)+1-1)=(i:Int):=by simp [IntKind.wrap,IntKind.bits,IntKind.signed];omega
      have q9:(i:Int)+1-1=(i:Int):=om;have d4:=hide (HW.out.2.2 v om hv);clear b0 b2 hv;by_cases hy:u.yr=v.yr
      ·have e7:(u.yr != v.yr)=false:=by simp [hy]
       have HY:=hide hy;clear hy;go_quiet (fail);go_wp2_with fail;go_meet
       case rel=>exact ⟨false,rfl,fun _=>by simpa only [lJ,HY.out] using d4.out.call (U.out nq),HW.out.1.call (U.out _),cD (U.out _) af HW.out.2.1,a6,by simp⟩
      ·have e7:(u.yr != v.yr)=true:=by simp [hy]
       go_quiet (fail);go_wp2_with fail;go_meet
       case rel=>exact ⟨true,rfl,by simp,HW.out.1.call (U.out _),cD (U.out _) af HW.out.2.1,a6,by simp⟩
    case rest =>
     obtain ⟨nb,rfl,cc,aa,ab,bX,al⟩:=hcut;have HN:=hide (And.intro cc (And.intro aa (And.intro ab (And.intro bX al))));obtain ⟨w4,dd⟩:∃ w4,w4=wc:=⟨_,rfl⟩;obtain ⟨B,hB⟩:∃ B,B=wr.heap.size:=⟨_,rfl⟩;rw [← dd] at HN ⊢;rw [← hB] at HN ⊢;have ea:=hide (And.intro cc (And.intro aa ab));clear dd cc aa ab HW U HS ad a0 a1 a2 hB cs ea a6 c9 bX al;go_upto_if 55 with (fail);go_cut [] (fun wx=>FC c u (bI rK (mW c lv s) j) (bI 0 (dP c lv s) j) H J F E.heap.size B E wx)
     case first =>
      cases nb
      ·have d3:=hide (HN.out.1 af)
       go_wp2_with fail;go_meet
       case rel=>exact ⟨d3.out,HN.out.2.1,HN.out.2.2⟩
      ·have eb:=hide (fun w=>iJ c lv u.yr w hn (by have h1:=ev a4.out.1;rw [← a4.out.2];exact h1.1))
       have bx:=HN.out.2.1.bel;obtain ⟨q0,q1,q2,q3,q4,q5,q6,q7,q8,q9,e8,e9,fa,fb⟩:=az bx om em.out;obtain ⟨u0,u1,u2⟩:=HN.out.2.2.1;have c2:=HN.out.2.2.2.2;go_wp2_with fail;refine (eb.out _).mono ?_;rintro e w5 ⟨h1,cp,h2,eS,eU,rfl,eD,f8,c3,bd⟩;have cv:=hide (HN.out.2.1.call bd);have ex:=hide (cD bd c2 HN.out.2.2.1);obtain ⟨ka,kb,kd,G⟩:=cv.out.box;have k0:=G.cell 0;have k1:=G.cell 1;have k2:=G.cell 2;have k3:=G.frozen 0;have k4:=G.frozen 1;have k5:=G.frozen 2;have eA:=HN.out.2.2.2.1;have d2:=hide (cv.out.frame ex.out eA (Nat.lt_of_lt_of_le c2 bd.size) c3 eD om om);clear bd G c3 eS eU bx u0 u1 u2;clear q0 q1 q2 q3 q4 q5 q6 q7 q8 q9 e8 e9 fa fb;simp at k0 k1 k2;go_wp2_with fail;go_meet
       case rel=>exact d2.out
     case rest =>
      obtain ⟨eE,aa,ab,a6,al⟩:=hcut;obtain ⟨h1,h2,cp,G,cb,ca,f1,f2⟩:=eE;obtain ⟨w6,dg⟩:∃ w6,w6=wc:=⟨_,rfl⟩;rw [← dg] at G cb aa ab al ⊢;clear dg HN;obtain ⟨hf,l1,l5,hA,hx,hi⟩:=ev a4.out.1;have c4:=iR a4.out.1;have bh:=iQ a4.out.1;obtain ⟨A,b6⟩:∃ A,dz c u=A:=⟨_,rfl⟩;obtain ⟨Z,b9⟩:∃ Z,dT c u=Z+1:=⟨dT c u-1,by omega⟩;have b5:=hide (fun w hI=>nB c u.yr u w cp h1 h2 l1 l5 hA hI (uI u) hx hi);rw [show aX c u.yr u.lv (uI u)=A from b6,show aX c u.yr u.lv (uI u+1)=Z+1 from b9] at b5;rw [b6,b9] at c4 bh;have ba:=hide (fun w hF=>od c u.yr w cp h1 h2 hA ca hF A Z om om);rw [← bh] at ba;obtain ⟨t,ht⟩:∃ t,dD c u=t:=⟨_,rfl⟩;rw [ht] at ba;have e5:-100000000≤t.a∧t.a≤100000000∧-100000000≤t.b∧t.b≤100000000:=by
       have h1:=uv c u.yr hA A om;have h2:=uv c u.yr hA (Z+1) om;rw [← ht,bh];simp only;omega
      obtain ⟨gs,gv,gw,gA⟩:=e5;have cS:=hide ht;have b3:=hide (And.intro ca (And.intro f1 f2));have ad:=hide cb;have cx:=hide aa;have c0:=hide ab;have dY:=hide G;have k0:=G.cell 0;have k1:=G.cell 1;have k2:=G.cell 2;obtain ⟨u0,u1,u2⟩:=ab;simp at k0 k1 k2;simp only [bV,aZ,cw] at b5 ba;clear hf l1 l5 hA hx hi c4 bh b6 b9 ht cb aa G ca;go_wp2_with fail;refine (b5.out _ ad.out.2).mono ?_;rintro e w7 ⟨rfl,ao⟩;have a3:=hide (ad.out.call ao);have bs:=hide (cx.out.call ao);have bt:=hide (cD ao al c0.out);have O:=hide (dY.out.call ao);have a5:B<w7.heap.size:=Nat.lt_of_lt_of_le al ao.size;clear ao k0 k1 k2 u0 u1 u2 ad cx c0;have k0:=O.out.cell 0;have k1:=O.out.cell 1;have k2:=O.out.cell 2;simp at k0 k1 k2;go_wp2_with fail;refine (ba.out _ a3.out).mono ?_;rintro e w8 ⟨rfl,aq⟩;have f:=hide (bs.out.call aq);have bw:=hide (cD aq a5 bt.out);have bk:=hide (O.out.call aq);have bp:=hide (a3.out.call aq);have fd:B<w8.heap.size:=Nat.lt_of_lt_of_le a5 aq.size;clear aq k0 k1 k2 a3 bs bt O a5;have a9:j<(mW c lv s).length:=by rw [jj,HL.out];exact aA
      have I:j<(dP c lv s).length:=by rw [d7,HL.out];exact aA
      obtain ⟨k0,k1,k2,k3,k4⟩:=f.out.pcs.cell (lQ rK (mW c lv s) j a9);have n0:=f.out.pcs.frozen (j*5);have n1:=f.out.pcs.frozen (j*5+1);have n2:=f.out.pcs.frozen (j*5+2);have n3:=f.out.pcs.frozen (j*5+3);have n4:=f.out.pcs.frozen (j*5+4);simp only at k0 k1 k2 k3 k4;obtain ⟨u0,u1,u2⟩:=bw.out;obtain ⟨p0,p1⟩:=dB f.out.bel om es.out;have fk:=f.out.pcs.lt;have fr:=f.out.dys.lt;have f5:w.heap.size+1<w8.heap.size:=by have:=f.out.bel.size;omega
      obtain ⟨X,hX⟩:∃ X,(if s.a<t.a then t.a else s.a)=X:=⟨_,rfl⟩;obtain ⟨Y,hY⟩:∃ Y,(if t.b<s.b then t.b else s.b)=Y:=⟨_,rfl⟩;have eB:-100000000≤X∧X≤100000000∧-100000000≤Y∧Y≤100000000:=by rw [← hX,← hY];refine ⟨?_,?_,?_,?_⟩ <;> split <;> omega
      have bb:=hide (show X=max s.a t.a∧Y=min s.b t.b by rw [← hX,← hY];constructor <;> split <;> omega);have fi:H≠B:=by have:=f.out.ord;omega
      have fn:w.heap.size+1≠H:=by have:=f.out.ord;omega
      clear a9 I;have cl:(mW c lv s)[j]?=some (u,⟨X,Y⟩):=by
       rw [mW,List.getElem?_map,HX.out];simp only [Option.map_some,pz,cS.out,bb.out.1,bb.out.2]
      have c5:(dP c lv s)[j]?=some (Y-X+1):=by
       rw [zJ HX.out,cS.out,bb.out.1,bb.out.2];rfl
      have ah:=hide (show iu c (bI rK (mW c lv s) (j+1)) (bI 0 (dP c lv s) j) H J F E.heap.size E ((jb w8 H j (u,⟨X,Y⟩)).alloc (.cells #[.int .i64 t.a,.int .i64 t.b] 35)) from by
       have h:=f.out.putP j (u,⟨X,Y⟩) (by rw [ke _ _ _ (by rw [jj,HL.out];omega),jj,HL.out];exact aA);rw [gQ _ _ _ _ cl] at h;exact h.call ((Below.refl _ _).alloc (Nat.le_refl _) _))
      have aB:=hide (show rP c u.yr F ((jb w8 H j (u,⟨X,Y⟩)).alloc (.cells #[.int .i64 t.a,.int .i64 t.b] 35)) from by
       have h:rP c u.yr F w8:=⟨h1,h2,cp,bk.out,bp.out,b3.out.1,b3.out.2.1,b3.out.2.2⟩;have ho:=f.out.ord;exact (h.same (by rw [tA];exact Nat.le_refl _) (fun k hk=>kT om)).call ((Below.refl _ _).alloc (Nat.le_refl _) _))
      unfold jb at ah aB;simp only at ah aB;have c1:=hide (And.intro cl c5);clear cl c5 f bw bk bp;go_upto_region 16 with (fail);clear k0 k1 k2 k3 k4 n0 n1 n2 n3 n4 u0 u1 u2 p0 p1 hX hY;generalize ((((((w8.setCell ⟨H,j*5,none⟩ (.int .i64 u.lv)).setCell ⟨H,j*5+1,none⟩ (.int .i64 u.yr)).setCell ⟨H,j*5+2,none⟩ (.int .i64 u.ix)).setCell ⟨H,j*5+3,none⟩ (.int .i64 X)).setCell ⟨H,j*5+4,none⟩ (.int .i64 Y)).alloc (.cells #[.int .i64 t.a,.int .i64 t.b] 35))=w9 at ah aB ⊢;have c6:(bI rK (mW c lv s) (j+1))[j]?=some (u,⟨X,Y⟩):=by
       have h1:j<(mW c lv s).length:=by rw [jj,HL.out];exact aA
       unfold bI;rw [List.getElem?_append_left (by rw [List.length_take];omega),List.getElem?_take,if_pos om];exact c1.out.1
      obtain ⟨k0,k1,k2,k3,k4⟩:=ah.out.pcs.cell c6;simp only at k0 k1 k2 k3 k4;have cy:=hide (fun w=>xi u ⟨X,Y⟩ w eB);simp only at cy;clear c6;go_wp2_with fail;refine (cy.out _).mono ?_;rintro e dq ⟨rfl,a8⟩;have V:=hide (ah.out.call a8);have bl:=hide (aB.out.call a8);have I:j<(dP c lv s).length:=by rw [d7,HL.out];exact aA
      have d0:=V.out.dys.cell (lQ 0 (dP c lv s) j I);have d1:=V.out.dys.frozen j;have el:=hide (show iu c (bI rK (mW c lv s) (j+1)) (bI 0 (dP c lv s) (j+1)) H J F E.heap.size E (dq.setCell ⟨J,j,none⟩ (.int .i64 (Y-X+1))) from by
       have h:=V.out.putD j (Y-X+1)
       rwa [gQ _ _ _ _ c1.out.2] at h)
      have d5:=hide (show rP c u.yr F (dq.setCell ⟨J,j,none⟩ (.int .i64 (Y-X+1))) from by
       have ho:=V.out.ord;exact bl.out.same af (fun k hk=>Below.heap_setCell _ _ _ _ (by show k≠J;omega)))
      clear a8 k0 k1 k2 k3 k4 I V bl ah aB;go_wp2_with fail;go_roundw
      case rel=>exact ⟨j+1,by go_num,by omega,el.out,hide (fun v h1 h2=>by
       rw [show j+1-1=j by omega,HX.out] at h2;cases h2;exact d5.out)⟩
      case measure=>simp [intOf];omega
   ·obtain rfl:j=L:=om
    have ac:=hide (show iu c (mW c lv s) (dP c lv s) H J F E.heap.size E wr from by
     have h:=HS.out;have e1:=fA rK (mW c lv s);have e2:=fA 0 (dP c lv s);rw [jj,HL.out] at e1;rw [d7,HL.out] at e2
     rwa [e1,e2] at h)
    go_wp2
    all_goals first
     | (exfalso;omega)
     | exact bodyPost_ret (v:=.tuple #[.slice (some ⟨H,0,none⟩) j j,.slice (some ⟨J,0,none⟩) j j,.int .i64 0]) (by simp [results,Tryz.results101,go_sem]) rfl ⟨⟨H,J,rfl,ac.out.pcs,ac.out.dys,by have:=ac.out.ord;omega,by have:=ac.out.ord;omega,ac.out.ne⟩,ds.out.trans (ac.out.bel.mono om)⟩
theorem wK (c:aC) (lv:Int) (s:Sp) (w:World) (I:c.name.size≤1000) (h:¬ bF c lv s=0) :
  Calls Tryz.prog 101 #[aI c,lv,cw s] w fun e w'=>e=.returned (.tuple #[.slice none 0 0,.slice none 0 0,bF c lv s])∧Below w w w':=by
 have G:=hide (fun w=>oQ c lv s w I h);have H:(bF c lv s != 0)=true:=by simpa using h
 obtain ⟨E,f⟩:∃ E,bF c lv s=E:=⟨_,rfl⟩;rw [f] at G H ⊢;clear h f;simp only [aI,cw] at G ⊢;go_enter Tryz.func101,Tryz.ntmps101;go_wp2_with fail;refine (G.out _).mono ?_;rintro e J ⟨rfl,o⟩;have F:Hid (Below w w J):=ww o;clear o;go_wp2;exact bodyPost_ret (v:=.tuple #[.slice none 0 0,.slice none 0 0,.int .i64 E]) (by simp [results,Tryz.results101,go_sem]) rfl ⟨rfl,F.out⟩
theorem vS (c:aC) (lv a:Int) (s:Sp) (w:World) (I:c.name.size≤1000) (h:¬ bF c lv s=0) :
  Calls Tryz.prog 71 #[aI c,lv,a,cw s] w fun e w'=>e=.returned (.tuple #[.slice none 0 0,bF c lv s])∧Below w w w':=by
 have G:=hide (fun w=>wK c lv s w I h);have H:(bF c lv s != 0)=true:=by simpa using h
 obtain ⟨E,f⟩:∃ E,bF c lv s=E:=⟨_,rfl⟩;rw [f] at G H ⊢;clear h f;simp only [aI,cw] at G ⊢;go_enter Tryz.func71,Tryz.ntmps71;go_wp2_with fail;refine (G.out _).mono ?_;rintro e J ⟨rfl,o⟩;have F:Hid (Below w w J):=ww o;clear o;go_wp2;go_ret2;exact ⟨rfl,F.out⟩
noncomputable def pV (c:aC) (lv a:Int) (s:Sp):List (Un × Int):=(bn c lv s).zip (kr a (dP c lv s))
theorem ir (c:aC) (lv a:Int) (s:Sp):(pV c lv a s).length=(bn c lv s).length:=by simp [pV,mo,d7]
structure pK (P:List (Un × Sp)) (N:List Int) (S:List (Un × Int)) (g1 g2 g3 K:Nat) (w1 w:World):Prop where
 pcs:cO w g1 P
 nms:bo w g2 N
 shs:bS w g3 S
 ne:g3≠g1∧g3≠g2
 ord:K≤g3
 bel:Below K w1 w
theorem pK.call {P:List (Un × Sp)} {N:List Int} {S:List (Un × Int)} {o E F K:Nat} {G w w':World} (h:pK P N S o E F K G w) (f:Below w w w'):pK P N S o E F K G w':=
 ⟨h.pcs.call f,h.nms.call f,h.shs.call f,h.ne,h.ord,h.bel.trans (f.mono (by have:=h.ord;have:=h.shs.lt;omega))⟩
theorem pK.put {P:List (Un × Sp)} {N:List Int} {S:List (Un × Int)} {o E f K:Nat} {F w:World} (h:pK P N S o E f K F w) (j:Nat) (x:Un × Int) (G:j<S.length):pK P N (S.set j x) o E f K F (iZ w f j x):=
 ⟨(oN (Ne.symm h.ne.1)).trans h.pcs,(oN (Ne.symm h.ne.2)).trans h.nms,h.shs.put j x G,h.ne,h.ord,lG h.bel h.ord⟩
theorem no (c:aC) (lv a:Int) (s:Sp) (w:World) (hn:c.name.size≤1000) (h:bF c lv s=0) (hl:(bn c lv s).length≤4096) (ha:bE a) :
  Calls Tryz.prog 71 #[aI c,lv,a,cw s] w fun e w'=>(∃ g,e=.returned (.tuple #[.slice (some ⟨g,0,none⟩) (bn c lv s).length (bn c lv s).length,.int .i64 0])∧bS w' g (pV c lv a s)∧w.heap.size≤g)∧Below w w w':=by
 have HM:=hide (fun w=>sS c lv s w hn h om);have F:=oB h;have V:=eZ h;have a1:s.b-s.a+1≤3068037:=by
  have h1:=(eW V.2.2.2.2.1).2.2.2.2.1;have h2:=(eW V.2.2.2.2.2).2.2.2.2.1;simp [cH] at h1 h2;omega
 have J:=hide (fun v w (hv:lK w v (dP c lv s))=>rU a v (dP c lv s) w ha hv (fun x hx=>by have:=F.2 x hx;omega) (by rw [d7];exact hl) (by rw [F.1];omega) (by rw [F.1];omega));obtain ⟨L,hL⟩:∃ n,(bn c lv s).length=n:=⟨_,rfl⟩;rw [d7] at J;rw [hL] at HM J hl ⊢;have H:=hide hL;have ba:=fun w=>uA L om w
 clear h hL F V a1;simp only [aI,cw] at HM ⊢;go_enter Tryz.func71,Tryz.ntmps71;go_wp2_with fail;refine (HM.out _).mono ?_;rintro e w1 ⟨⟨g1,g2,rfl,hP,hD,aq,aA,a0⟩,O⟩;have ab:Hid (Below w w w1):=ww O;have ao:=hide hP;have ah:=hide hD;have bc:w.heap.size≤w1.heap.size:=by have:=O.size;simp at this;omega
 clear O hP hD aq aA a0;go_wp2_with fail;refine (J.out _ _ (by have h:=ah.out.nums (cap:=L);rwa [d7,H.out] at h)).mono ?_;rintro e o ⟨⟨g3,rfl,hO,aB⟩,E⟩;have I:=hide (ao.out.call E);have ac:Hid (Below w w o):=au ab.out E;have bd:=E.size
 have H0:=hide (show pK (mW c lv s) (kr a (dP c lv s)) (bI tm (pV c lv a s) 0) g1 g3 o.heap.size o.heap.size o (o.alloc (mK L)) from
  ⟨I.out.call ((Below.refl _ _).alloc (Nat.le_refl _) _),hO.call ((Below.refl _ _).alloc (Nat.le_refl _) _),by rw [fD,ir,H.out];exact bS.new o L,⟨by have:=I.out.lt;omega,by have:=hO.lt;omega⟩,Nat.le_refl _,(Below.refl _ _).alloc (Nat.le_refl _) _⟩)
 have a7:g1<o.heap.size∧g3<o.heap.size:=⟨I.out.lt,hO.lt⟩;clear E hO aB;go_wp2_with fail;go_loopw [42] (fun W wr=>∃ j:Nat,W=.int .i64 j∧j≤L∧pK (mW c lv s) (kr a (dP c lv s)) (bI tm (pV c lv a s) j) g1 g3 o.heap.size o.heap.size o wr) (fun W _=>(L+5-intOf W).toNat)
 case atStart=>exact ⟨0,rfl,Nat.zero_le _,H0.out⟩
 case round =>
  obtain ⟨j,rfl,hj,hS⟩:=hrel;have f:=hide hS;clear hS;by_cases G:j<L
  ·obtain ⟨u,hu⟩:∃ u,(bn c lv s)[j]?=some u:=⟨_,List.getElem?_eq_getElem (by rw [H.out];exact G)⟩
   obtain ⟨n,U⟩:∃ n,(kr a (dP c lv s))[j]?=some n:=⟨_,List.getElem?_eq_getElem (by rw [mo,d7,H.out];exact G)⟩;have hp:(mW c lv s)[j]?=some (pz c s u):=by rw [mW,List.getElem?_map,hu];rfl
   have aa:(pV c lv a s)[j]?=some (u,n):=by
    unfold pV;rw [List.getElem?_zip_eq_some];exact ⟨hu,U⟩
   obtain ⟨k0,k1,k2,k3,k4⟩:=f.out.pcs.cell hp;have c0:=f.out.nms.cell U;obtain ⟨s0,s1,s2,s3⟩:=f.out.shs.cell (lQ tm (pV c lv a s) j (by rw [ir,H.out];exact G));have n0:=f.out.shs.frozen (j*4);have n1:=f.out.shs.frozen (j*4+1);have n2:=f.out.shs.frozen (j*4+2);have n3:=f.out.shs.frozen (j*4+3);simp only [pz] at k0 k1 k2 k3 k4 s0 s1 s2 s3;obtain ⟨X,hX⟩:∃ X,max s.a (dD c u).a=X:=⟨_,rfl⟩;obtain ⟨Y,hY⟩:∃ X,min s.b (dD c u).b=X:=⟨_,rfl⟩;rw [hX] at k3;rw [hY] at k4;have bb:=f.out.bel.size;have a2:=f.out.pcs.lt;have a3:=f.out.nms.lt;have a4:=f.out.shs.lt;have a8:(0:Int)≤(j:Int):=om;have a9:(j:Int)<(L:Int):=om;have a5:=f.out.ne.1;have a6:=f.out.ne.2;have HN:=hide (show pK (mW c lv s) (kr a (dP c lv s)) (bI tm (pV c lv a s) (j+1)) g1 g3 o.heap.size o.heap.size o (iZ wr o.heap.size j (u,n)) from by
    have h:=f.out.put j (u,n) (by rw [ke _ _ _ (by rw [ir,H.out];omega),ir,H.out];exact G)
    rwa [gQ _ _ _ _ aa] at h)
   unfold iZ at HN;simp only at HN;clear hu U hp aa hX hY;go_upto_region 11 with (fail);go_region
   all_goals
    go_simp;go_wp2;go_roundw
    case rel=>exact ⟨j+1,by go_num,by omega,HN.out.call (((Below.refl _ _).alloc (Nat.le_refl _) _).drew)⟩
    case measure=>simp [intOf];omega
  ·obtain rfl:j=L:=om
   have al:=hide (show bS wr o.heap.size (pV c lv a s) from by
    have h:=f.out.shs;have e1:=fA tm (pV c lv a s);rw [ir,H.out] at e1
    rwa [e1] at h)
   have ad:=hide (ac.out.trans (f.out.bel.mono om));go_wp2
   all_goals first
    | (exfalso;omega)
    | (go_ret2;exact ⟨⟨_,rfl,al.out,by omega⟩,ad.out⟩)
end
end Go.Proofs.YtpebkobmhhnojaaGreatDoor
