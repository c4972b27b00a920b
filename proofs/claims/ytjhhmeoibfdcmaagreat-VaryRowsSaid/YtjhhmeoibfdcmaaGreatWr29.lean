/- Lemmas. -/
import Derived.BigQuiet
import Derived.Deep.DeepCutAuto
import Derived.Lib.QuietBelow
import Derived.Test.YtjhhmeoibfdcmaaGreatWr10
import Derived.Test.YtjhhmeoibfdcmaaGreatWr13
import Derived.Test.YtjhhmeoibfdcmaaGreatWr15
import Derived.Test.YtjhhmeoibfdcmaaGreatWr19
import Derived.Test.YtjhhmeoibfdcmaaGreatWr23
set_option linter.unusedSimpArgs false
set_option linter.unusedVariables false
set_option maxRecDepth 100000
set_option maxHeartbeats 12800000
namespace Go.Proofs.YtjhhmeoibfdcmaaGreat
section
open Go.RowKit Qd
def df (a b:Int) (t:Sp):Int:=min b t.b-max a t.a+1
def F3:List Sp→Prop
 | []=>True
 | [_]=>True
 | u::v::l=>v.a=u.b+1∧F3 (v::l)
theorem Jw {l:List Sp} (h:∀ (j:Nat) (u v:Sp),l[j]?=some u→l[j+1]?=some v→v.a=u.b+1):F3 l:=by
 induction l with
 | nil=>trivial
 | cons u l E =>
  cases l with
  | nil=>trivial
  | cons v l=>exact ⟨h 0 u v rfl rfl,E fun j x y f o=>h (j+1) x y (by simpa using f) (by simpa using o)⟩
theorem sD {u:Sp} {l:List Sp} (h:F3 (u::l)) (o:∀ t∈u::l,t.a≤t.b):∀ t∈l,u.b<t.a:=by
 induction l generalizing u with
 | nil=>simp
 | cons v l F =>
  intro t f;have G:=o v ac;rcases List.mem_cons.1 f with rfl | f
  ·have:=h.1;omega
  ·have:=F h.2 (fun x E=>o x (List.mem_cons_of_mem _ E)) t f
   have:=h.1;omega
theorem FC {u:Sp} {l:List Sp} {a b:Int} (h:F3 (u::l)) (F:∀ t∈u::l,t.a≤t.b) (S:a≤b) (W:u.a≤a∧a≤u.b) (O:∀ t,(u::l).getLast?=some t→t.a≤b∧b≤t.b) :
  ((u::l).map (df a b)).sum=b-a+1∧∀ t∈u::l,1≤df a b t:=by
 induction l generalizing u a with
 | nil =>
  have R:=O u rfl;simp only [List.map_cons,List.map_nil,List.sum_cons,List.sum_nil,List.mem_singleton,forall_eq,df];omega
 | cons v l V =>
  have hv:=h.1;have J:=F v ac;have U:=F u ac;have o:∀ t,(v::l).getLast?=some t→t.a≤b∧b≤t.b:=fun t f=>O t (by rw [List.getLast?_cons_cons];exact f)
  have H:v.a≤b:=by
   cases l with
   | nil=>exact (o v rfl).1
   | cons z l =>
    obtain ⟨t,f⟩:∃ t,(v::z::l).getLast?=some t:=⟨_,List.getLast?_eq_some_getLast ac⟩;have R:=o t f;have T:t∈z::l:=by
     rw [List.getLast?_cons_cons] at f;exact List.mem_of_getLast? f
    have:=sD h.2 (fun x G=>F x (List.mem_cons_of_mem _ G)) t T;omega
  have hi:=V (a:=v.a) h.2 (fun x G=>F x (List.mem_cons_of_mem _ G)) H ⟨by omega,J⟩ o;have I:∀ t∈v::l,v.a≤t.a:=by
   intro t f;rcases List.mem_cons.1 f with rfl | f
   ·omega
   ·have:=sD h.2 (fun x G=>F x (List.mem_cons_of_mem _ G)) t f;omega
  have E:∀ t∈v::l,df a b t=df v.a b t:=by
   intro t f;have:=I t f;unfold df;omega
  have e:(v::l).map (df a b)=(v::l).map (df v.a b):=List.map_congr_left E;constructor
  ·rw [List.map_cons,List.sum_cons,e,hi.1]
   unfold df;omega
  ·intro t f
   rcases List.mem_cons.1 f with rfl | f
   ·unfold df;omega
   ·rw [E t f];exact hi.2 t f
theorem lp {c:ar} {lv:Int} {s:Sp} (h:bg c lv s=0) {u:Un} (f:u∈be c lv s):aE c u=0∧u.lv=lv:=by
 obtain ⟨O,J,E,m,n,I,F,_⟩:=gU h;rw [F] at f;have o:=List.mem_of_mem_drop (List.mem_of_mem_take f);obtain ⟨p,H,e⟩:=List.getElem_of_mem o;obtain ⟨a,i,G,hi,rfl,_⟩:=vL c lv _ _ p u (by rw [List.getElem?_eq_getElem H,e]);exact ⟨lu (E a G) hi,rfl⟩
theorem we {c:ar} {u:Un} (h:aE c u=0):(cd c u).a≤(cd c u).b:=by
 have f:=dz h;have:=ft c u.yr (bN h).2.2.2.1 f.1 f.2;rw [kM h];simp only;omega
theorem BX {c:ar} {lv:Int} {s:Sp} (h:bg c lv s=0):F3 ((be c lv s).map (cd c)):=by
 refine Jw fun j u v o E=>?_
 simp only [List.getElem?_map,Option.map_eq_some_iff] at o E;obtain ⟨x,F,rfl⟩:=o;obtain ⟨y,H,rfl⟩:=E;obtain ⟨O,I⟩:=(iZ h).1 j x y F H;have G:=(lp h (List.mem_of_getElem? F)).1;rcases yj G with ⟨_,_,_,f,_⟩ | ⟨J,_⟩
 ·rw [I] at f;exact f
 ·omega
theorem vM {c:ar} {lv:Int} {s:Sp} (h:bg c lv s=0):∀ t∈(be c lv s).map (cd c),t.a≤t.b:=by
 intro t f;obtain ⟨u,o,rfl⟩:=List.mem_map.1 f;exact we (lp h o).1
theorem Iv {c:ar} {d lv:Int} (h:kU c d lv=0):(cd c (mV c d lv)).a≤d∧d≤(cd c (mV c d lv)).b:=by
 obtain ⟨i,e,hi,E,F⟩:=qc h;have f:=(fh h).2.2.2.2.2.2;have o:=wM f i hi;rw [e,o];simp only;omega
noncomputable def ez (c:ar) (lv:Int) (s:Sp):List Int:=((be c lv s).map (cd c)).map (df s.a s.b)
theorem eh (c:ar) (lv:Int) (s:Sp):(ez c lv s).length=(be c lv s).length:=by simp [ez]
theorem vg {c:ar} {lv:Int} {s:Sp} {j:Nat} {u:Un} (h:(be c lv s)[j]?=some u):(ez c lv s)[j]?=some (df s.a s.b (cd c u)):=by simp [ez,h]
theorem lj {c:ar} {lv:Int} {s:Sp} (h:bg c lv s=0):(ez c lv s).sum=s.b-s.a+1∧∀ d∈ez c lv s,1≤d∧d≤s.b-s.a+1:=by
 obtain ⟨hk,h1,h5,F,T,U⟩:=eq h;obtain ⟨c1,H,O,I,c5⟩:=iZ h;have f:=BX h;have o:=vM h;have G:∀ t,((be c lv s).map (cd c)).getLast?=some t→t.a≤s.b∧s.b≤t.b:=by
  intro t E;rw [List.getLast?_eq_getElem?,List.length_map,List.getElem?_map,O] at E;simp only [Option.map_some,Option.some.injEq] at E;subst E;exact Iv U
 have W:=Iv T;unfold ez;cases J:be c lv s with
 | nil=>rw [J] at I;simp at I
 | cons u l =>
  rw [J] at H f o G;have hu:u=mV c s.a lv:=by simpa using H
  subst hu;rw [List.map_cons] at f o G ⊢;obtain ⟨R,S⟩:=FC f o F W G;refine ⟨R,fun d V=>?_⟩;obtain ⟨t,E,rfl⟩:=List.mem_map.1 V;have:=S t E;refine ⟨this,?_⟩;unfold df;omega
def xz (x:Un × Sp):List Value:=[.int .i64 x.1.lv,.int .i64 x.1.yr,.int .i64 x.1.ix,.int .i64 x.2.a,.int .i64 x.2.b]
def dJ (w:World) (g:Nat) (D:List (Un × Sp)):Prop:=w.heap[g]?=some (.cells (D.flatMap xz).toArray 122 (0,0))
theorem dJ.lt {w:World} {g:Nat} {D:List (Un × Sp)} (h:dJ w g D):g<w.heap.size:=(Array.getElem?_eq_some_iff.1 h).1
theorem Jp (D:List (Un × Sp)) (i:Nat) (x:Un × Sp) (h:D[i]?=some x):(D.flatMap xz)[i*5]?=some (.int .i64 x.1.lv)∧(D.flatMap xz)[i*5+1]?=some (.int .i64 x.1.yr)∧(D.flatMap xz)[i*5+2]?=some (.int .i64 x.1.ix)∧(D.flatMap xz)[i*5+3]?=some (.int .i64 x.2.a)∧(D.flatMap xz)[i*5+4]?=some (.int .i64 x.2.b):=by
 induction D generalizing i with
 | nil=>simp at h
 | cons y l f =>
  cases i with
  | zero=>simp at h;subst h;simp [xz]
  | succ i =>
   have:=f i (by simpa using h);rw [show (i+1)*5=i*5+1+1+1+1+1 by omega];simpa [xz] using this
theorem Jt (D:List (Un × Sp)) (i:Nat) (x:Un × Sp) (h:i<D.length):(((((D.flatMap xz).set (i*5) (.int .i64 x.1.lv)).set (i*5+1) (.int .i64 x.1.yr)).set (i*5+2) (.int .i64 x.1.ix)).set (i*5+3) (.int .i64 x.2.a)).set (i*5+4) (.int .i64 x.2.b)=(D.set i x).flatMap xz:=by
 induction D generalizing i with
 | nil=>simp at h
 | cons y l f =>
  cases i with
  | zero=>simp [xz]
  | succ i =>
   have:=f i (by simpa using h);rw [show (i+1)*5=i*5+1+1+1+1+1 by omega];simpa [xz] using this
theorem dJ.cell {w:World} {g:Nat} {D:List (Un × Sp)} (h:dJ w g D) {i:Nat} {x:Un × Sp} (hi:D[i]?=some x):w.cell? ⟨g,i*5,none⟩=some (.int .i64 x.1.lv)∧w.cell? ⟨g,i*5+1,none⟩=some (.int .i64 x.1.yr)∧w.cell? ⟨g,i*5+2,none⟩=some (.int .i64 x.1.ix)∧w.cell? ⟨g,i*5+3,none⟩=some (.int .i64 x.2.a)∧w.cell? ⟨g,i*5+4,none⟩=some (.int .i64 x.2.b):=by
 have:=Jp D i x hi;simp [World.cell?,show w.heap[g]?=_ from h,this]
theorem dJ.frozen {w:World} {g:Nat} {D:List (Un × Sp)} (h:dJ w g D) (k:Nat):w.frozen? ⟨g,k,none⟩=false:=by simp [World.frozen?,show w.heap[g]?=_ from h]
theorem dJ.below {w f:World} {K g:Nat} {D:List (Un × Sp)} (h:dJ w g D) (o:Below K w f) (E:g<K):dJ f g D:=(o.block g E).trans h
theorem dJ.call {w f:World} {g:Nat} {D:List (Un × Sp)} (h:dJ w g D) (o:Below w w f):dJ f g D:=h.below o h.lt
theorem dJ.far {D:List (Un × Sp)} {g:Nat} {w:World} (h:dJ w g D) {p:Addr} (f:g≠p.block) (u:Value):dJ (w.setCell p u) g D:=(Below.heap_setCell w p u g f).trans h
def kX (w:World) (g i:Nat) (x:Un × Sp):World:=((((w.setCell ⟨g,i*5,none⟩ (.int .i64 x.1.lv)).setCell ⟨g,i*5+1,none⟩ (.int .i64 x.1.yr)).setCell ⟨g,i*5+2,none⟩ (.int .i64 x.1.ix)).setCell ⟨g,i*5+3,none⟩ (.int .i64 x.2.a)).setCell ⟨g,i*5+4,none⟩ (.int .i64 x.2.b)
theorem dJ.put {w:World} {g:Nat} {D:List (Un × Sp)} (h:dJ w g D) (i:Nat) (x:Un × Sp) (hi:i<D.length):dJ (kX w g i x) g (D.set i x):=by
 unfold dJ kX at *;rw [← Jt D i x hi];simp [World.setCell,Array.getElem?_modify,h]
theorem nv {w:World} {g i b:Nat} {x:Un × Sp} (f:b≠g):(kX w g i x).heap[b]?=w.heap[b]?:=by
 unfold kX;simp only [Below.heap_setCell _ _ _ _ (show b≠(⟨g,_,none⟩:Addr).block from f)]
theorem wL {o w:World} {K g i:Nat} {x:Un × Sp} (h:Below K o w) (f:K≤g):Below K o (kX w g i x):=(((((h.setCell f _).setCell f _).setCell f _).setCell f _).setCell f _)
theorem xk {w:World} {g i:Nat} {x:Un × Sp}:(kX w g i x).heap.size=w.heap.size:=by simp [kX]
theorem GW:(Tryz.prog.info? 122).map (fun i=>(i.zero,i.size,i.bytes))=some (some (.agg #[.int .i64 0,.int .i64 0,.int .i64 0,.int .i64 0,.int .i64 0]),5,40):=by kernel_rfl
abbrev xh:Un × Sp:=(⟨0,0,0⟩,⟨0,0⟩)
theorem Gi (n:Nat):(List.replicate n xh).flatMap xz=List.replicate (n*5) (Value.int .i64 0):=by
 induction n with
 | zero=>rfl
 | succ n f =>
  rw [List.replicate_succ,List.flatMap_cons,f,show (n+1)*5=n*5+1+1+1+1+1 by omega,List.replicate_succ,List.replicate_succ,List.replicate_succ,List.replicate_succ,List.replicate_succ];rfl
def rJ (n:Nat):Obj:=.cells ((List.replicate n xh).flatMap xz).toArray 122
theorem dJ.new (w:World) (n:Nat):dJ (w.alloc (rJ n)) w.heap.size (List.replicate n xh):=by
 unfold dJ rJ;rw [heap_alloc_new]
theorem GI (n:Nat) (J:n≤100000) (w:World):(Instr.makeSlice 112 (.int .i64 (n:Int)) (.int .i64 (n:Int))).run Tryz.prog w=.ok (.slice (some ⟨w,0,none⟩) n n) (w.alloc (rJ n)):=by
 obtain ⟨G,hi,f,o,E⟩:=info_parts GW;have F:=run_make (P:=Tryz.prog) w 112 122 G (.agg #[.int .i64 0,.int .i64 0,.int .i64 0,.int .i64 0,.int .i64 0]) Tryz.underlying112 hi f .i64 .i64 n n om om (by rw [E];omega) om;rw [F,o];have e:madeCells (Value.agg #[.int .i64 0,.int .i64 0,.int .i64 0,.int .i64 0,.int .i64 0]).cells (((n:Int)).toNat*5)=((List.replicate n xh).flatMap xz).toArray:=by
  rw [Gi];apply Array.ext
  ·simp [madeCells]
  ·intro i H I
   rcases (show i % 5=0∨i % 5=1∨i % 5=2∨i % 5=3∨i % 5=4 by omega) with h | h | h | h | h <;> simp [madeCells,Value.cells,h]
 rw [e];simp [rJ]
def oj (x:Un × Int):List Value:=[.int .i64 x.1.lv,.int .i64 x.1.yr,.int .i64 x.1.ix,.int .i64 x.2]
def dy (w:World) (g:Nat) (D:List (Un × Int)):Prop:=w.heap[g]?=some (.cells (D.flatMap oj).toArray 111 (0,0))
theorem dy.lt {w:World} {g:Nat} {D:List (Un × Int)} (h:dy w g D):g<w.heap.size:=(Array.getElem?_eq_some_iff.1 h).1
theorem Fj (D:List (Un × Int)) (i:Nat) (x:Un × Int) (h:D[i]?=some x):(D.flatMap oj)[i*4]?=some (.int .i64 x.1.lv)∧(D.flatMap oj)[i*4+1]?=some (.int .i64 x.1.yr)∧(D.flatMap oj)[i*4+2]?=some (.int .i64 x.1.ix)∧(D.flatMap oj)[i*4+3]?=some (.int .i64 x.2):=by
 induction D generalizing i with
 | nil=>simp at h
 | cons y l f =>
  cases i with
  | zero=>simp at h;subst h;simp [oj]
  | succ i =>
   have:=f i (by simpa using h);rw [show (i+1)*4=i*4+1+1+1+1 by omega];simpa [oj] using this
theorem I6 (D:List (Un × Int)) (i:Nat) (x:Un × Int) (h:i<D.length):((((D.flatMap oj).set (i*4) (.int .i64 x.1.lv)).set (i*4+1) (.int .i64 x.1.yr)).set (i*4+2) (.int .i64 x.1.ix)).set (i*4+3) (.int .i64 x.2)=(D.set i x).flatMap oj:=by
 induction D generalizing i with
 | nil=>simp at h
 | cons y l f =>
  cases i with
  | zero=>simp [oj]
  | succ i =>
   have:=f i (by simpa using h);rw [show (i+1)*4=i*4+1+1+1+1 by omega];simpa [oj] using this
theorem dy.cell {w:World} {g:Nat} {D:List (Un × Int)} (h:dy w g D) {i:Nat} {x:Un × Int} (hi:D[i]?=some x):w.cell? ⟨g,i*4,none⟩=some (.int .i64 x.1.lv)∧w.cell? ⟨g,i*4+1,none⟩=some (.int .i64 x.1.yr)∧w.cell? ⟨g,i*4+2,none⟩=some (.int .i64 x.1.ix)∧w.cell? ⟨g,i*4+3,none⟩=some (.int .i64 x.2):=by
 have:=Fj D i x hi;simp [World.cell?,show w.heap[g]?=_ from h,this]
theorem dy.frozen {w:World} {g:Nat} {D:List (Un × Int)} (h:dy w g D) (k:Nat):w.frozen? ⟨g,k,none⟩=false:=by simp [World.frozen?,show w.heap[g]?=_ from h]
theorem dy.below {w f:World} {K g:Nat} {D:List (Un × Int)} (h:dy w g D) (o:Below K w f) (E:g<K):dy f g D:=(o.block g E).trans h
theorem dy.call {w f:World} {g:Nat} {D:List (Un × Int)} (h:dy w g D) (o:Below w w f):dy f g D:=h.below o h.lt
theorem dy.far {D:List (Un × Int)} {g:Nat} {w:World} (h:dy w g D) {p:Addr} (f:g≠p.block) (u:Value):dy (w.setCell p u) g D:=(Below.heap_setCell w p u g f).trans h
def ob (w:World) (g i:Nat) (x:Un × Int):World:=(((w.setCell ⟨g,i*4,none⟩ (.int .i64 x.1.lv)).setCell ⟨g,i*4+1,none⟩ (.int .i64 x.1.yr)).setCell ⟨g,i*4+2,none⟩ (.int .i64 x.1.ix)).setCell ⟨g,i*4+3,none⟩ (.int .i64 x.2)
theorem dy.put {w:World} {g:Nat} {D:List (Un × Int)} (h:dy w g D) (i:Nat) (x:Un × Int) (hi:i<D.length):dy (ob w g i x) g (D.set i x):=by
 unfold dy ob at *;rw [← I6 D i x hi];simp [World.setCell,Array.getElem?_modify,h]
theorem rP {w:World} {g i b:Nat} {x:Un × Int} (f:b≠g):(ob w g i x).heap[b]?=w.heap[b]?:=by
 unfold ob;simp only [Below.heap_setCell _ _ _ _ (show b≠(⟨g,_,none⟩:Addr).block from f)]
theorem vx {o w:World} {K g i:Nat} {x:Un × Int} (h:Below K o w) (f:K≤g):Below K o (ob w g i x):=((((h.setCell f _).setCell f _).setCell f _).setCell f _)
theorem Ae:(Tryz.prog.info? 111).map (fun i=>(i.zero,i.size,i.bytes))=some (some (.agg #[.int .i64 0,.int .i64 0,.int .i64 0,.int .i64 0]),4,32):=by kernel_rfl
abbrev Hz:Un × Int:=(⟨0,0,0⟩,0)
theorem Ik (n:Nat):(List.replicate n Hz).flatMap oj=List.replicate (n*4) (Value.int .i64 0):=by
 induction n with
 | zero=>rfl
 | succ n f =>
  rw [List.replicate_succ,List.flatMap_cons,f,show (n+1)*4=n*4+1+1+1+1 by omega,List.replicate_succ,List.replicate_succ,List.replicate_succ,List.replicate_succ];rfl
def vA (n:Nat):Obj:=.cells ((List.replicate n Hz).flatMap oj).toArray 111
theorem dy.new (w:World) (n:Nat):dy (w.alloc (vA n)) w.heap.size (List.replicate n Hz):=by
 unfold dy vA;rw [heap_alloc_new]
theorem Ig (n:Nat) (J:n≤100000) (w:World):(Instr.makeSlice 56 (.int .i64 (n:Int)) (.int .i64 (n:Int))).run Tryz.prog w=.ok (.slice (some ⟨w,0,none⟩) n n) (w.alloc (vA n)):=by
 obtain ⟨G,hi,f,o,E⟩:=info_parts Ae;have F:=run_make (P:=Tryz.prog) w 56 111 G (.agg #[.int .i64 0,.int .i64 0,.int .i64 0,.int .i64 0]) Tryz.underlying56 hi f .i64 .i64 n n om om (by rw [E];omega) om;rw [F,o];have e:madeCells (Value.agg #[.int .i64 0,.int .i64 0,.int .i64 0,.int .i64 0]).cells (((n:Int)).toNat*4)=((List.replicate n Hz).flatMap oj).toArray:=by
  rw [Ik];apply Array.ext
  ·simp [madeCells]
  ·intro i H I
   rcases (show i % 4=0∨i % 4=1∨i % 4=2∨i % 4=3 by omega) with h | h | h | h <;> simp [madeCells,Value.cells,h]
 rw [e];simp [vA]
theorem Ag (u:Un) (s:Sp) (w:World) (h:-100000000≤s.a∧s.a≤100000000∧-100000000≤s.b∧s.b≤100000000) :
  Calls Tryz.prog 97 #[.agg #[u.lv,u.yr,u.ix,s.a,s.b]] w fun e f=>e=.returned (.int .i64 (s.b-s.a+1))∧Below w w f:=by
 obtain ⟨o,E,F,G⟩:=h;go_enter Tryz.func97,Tryz.ntmps97;go_wp2;go_ret;exact ⟨rfl,by (repeat' exact bel)⟩
def tG (c:ar) (s:Sp) (u:Un):Un × Sp:=(u,⟨max s.a (cd c u).a,min s.b (cd c u).b⟩)
noncomputable def pR (c:ar) (lv:Int) (s:Sp):List (Un × Sp):=(be c lv s).map (tG c s)
theorem lx (c:ar) (lv:Int) (s:Sp):(pR c lv s).length=(be c lv s).length:=by simp [pR]
theorem zZ (c:ar) (y:Int) (f:aO c y 1601=0) (i:Nat) (hi:i≤bW c y):0≤bD c y i∧bD c y i≤3068038:=by
 have h:=cn c y f (Nat.zero_le i) hi;have o:=cn c y f hi (Nat.le_refl _);rw [kc] at h;rw [eV c y f] at o;have:=ch c y f;omega
theorem oJ {α:Type} (z:α) (l:List α) (j:Nat) (h:j<l.length):(bV z l j)[j]?=some z:=by
 have f:(l.take j).length=j:=by rw [List.length_take];omega
 unfold bV;rw [List.getElem?_append_right om,f,Nat.sub_self,List.getElem?_replicate,if_pos om]
def LO (L:Nat) (o:World) (F G:Value) (E:World):Prop:=∃ f h,F=.slice (some ⟨f,0,none⟩) L L∧G=.slice (some ⟨h,0,none⟩) L L∧f≠h∧o.heap.size≤f∧o.heap.size≤h∧dJ E f (List.replicate L xh)∧bA E h (List.replicate L 0)∧Below o o E
def va (w:World) (F:Nat):Prop:=∃ a b d,ap w F #[a,b,d] 96
def yI (c:ar) (y:Int) (F:Nat) (w:World):Prop:=∃ f h o,ap w F #[y,.slice (some ⟨f,0,none⟩) (bW c y) o,.slice (some ⟨h,0,none⟩) (aU c y) (aU c y)] 96∧cq w f h c y∧bW c y≤o∧F<f∧F<h
theorem va.call {w f:World} {F:Nat} (h:va w F) (o:Below w w f):va f F:=by
 obtain ⟨a,b,d,h⟩:=h;exact ⟨a,b,d,h.call o⟩
theorem yI.call {c:ar} {y:Int} {F:Nat} {w E:World} (h:yI c y F w) (o:Below w w E):yI c y F E:=by
 obtain ⟨H,I,G,a,b,d,e,f⟩:=h;exact ⟨H,I,G,a.call o,b.call o,d,e,f⟩
theorem yI.box {c:ar} {y:Int} {F:Nat} {w:World} (h:yI c y F w):va w F:=by
 obtain ⟨o,E,f,a,_⟩:=h;exact ⟨_,_,_,a⟩
theorem yI.same {c:ar} {y:Int} {F:Nat} {w G:World} (h:yI c y F w) (S:w.heap.size≤G.heap.size) (o:∀ k,F≤k→G.heap[k]?=w.heap[k]?):yI c y F G:=by
 obtain ⟨E,I,R,a,⟨H,O⟩,d,e,f⟩:=h;refine ⟨E,I,R,(o F (Nat.le_refl _)).trans a,⟨⟨Nat.lt_of_lt_of_le H.1 S,fun i hi=>?_⟩,(o I (Nat.le_of_lt f)).trans O⟩,d,e,f⟩;have J:=H.2 i hi;exact ⟨(World.cell?_of_block (o E (Nat.le_of_lt e))).trans J.1,(World.cell?_of_block (o E (Nat.le_of_lt e))).trans J.2⟩
structure ke (c:ar) (P:List (Un × Sp)) (D:List Int) (g1 g2 F K:Nat) (w1 w:World):Prop where
 pcs:dJ w g1 P
 dys:bA w g2 D
 box:va w F
 ne:g1≠g2
 ord:K≤g1∧K≤g2∧g1<F∧g2<F
 bel:Below K w1 w
theorem ke.call {c:ar} {P:List (Un × Sp)} {D:List Int} {o E F K:Nat} {H w G:World} (h:ke c P D o E F K H w) (f:Below w w G):ke c P D o E F K H G:=
 ⟨h.pcs.call f,h.dys.call f,h.box.call f,h.ne,h.ord,h.bel.trans (f.mono (by have:=h.ord;have:=h.pcs.lt;omega))⟩
def Lx (c:ar) (u:Un) (P:List (Un × Sp)) (D:List Int) (h o F K B:Nat) (E:World) (b:Value) (w:World):Prop:=∃ f,b=.bool f∧(f=false→yI c u.yr F w)∧ke c P D h o F K E w∧iB w B u∧F<B∧B<w.heap.size
def JW (c:ar) (u:Un) (P:List (Un × Sp)) (D:List Int) (f h F K B:Nat) (o w:World):Prop:=yI c u.yr F w∧ke c P D f h F K o w∧iB w B u∧F<B∧B<w.heap.size
theorem ke.putP {c:ar} {P:List (Un × Sp)} {D:List Int} {f o F K:Nat} {H w:World} (h:ke c P D f o F K H w) (j:Nat) (x:Un × Sp) (I:j<P.length):ke c (P.set j x) D f o F K H (kX w f j x):=by
 obtain ⟨S,T,⟨a,b,d,U⟩,G,⟨E,J,O,R⟩,V⟩:=h;exact ⟨S.put j x I,(nv (Ne.symm G)).trans T,⟨a,b,d,(nv om).trans U⟩,G,⟨E,J,O,R⟩,wL V E⟩
theorem ke.putD {c:ar} {P:List (Un × Sp)} {D:List Int} {o f F K:Nat} {H w:World} (h:ke c P D o f F K H w) (j:Nat) (d:Int):ke c P (D.set j d) o f F K H (w.setCell ⟨f,j,none⟩ (.int .i64 d)):=by
 obtain ⟨R,S,⟨a,b,e,T⟩,G,⟨I,E,J,O⟩,U⟩:=h;exact ⟨R.far G _,S.set j d,⟨a,b,e,(Below.heap_setCell _ _ _ _ (by show F≠f;omega)).trans T⟩,G,⟨I,E,J,O⟩,U.setCell E _⟩
theorem iN {w:World} {F b:Nat} {x y z:Value} (f:b≠F):(((w.setCell ⟨F,0,none⟩ x).setCell ⟨F,1,none⟩ y).setCell ⟨F,2,none⟩ z).heap[b]?=w.heap[b]?:=by
 rw [Below.heap_setCell _ _ _ _ f,Below.heap_setCell _ _ _ _ f,Below.heap_setCell _ _ _ _ f]
theorem Ex {w E:World} {f o:Nat} {c:ar} {y:Int} (h:cq w f o c y) (H:w.heap.size≤E.heap.size) (F:E.heap[f]?=w.heap[f]?) (G:E.heap[o]?=w.heap[o]?):cq E f o c y:=
 ⟨⟨Nat.lt_of_lt_of_le h.1.1 H,fun i hi=>⟨(World.cell?_of_block F).trans (h.1.2 i hi).1,(World.cell?_of_block F).trans (h.1.2 i hi).2⟩⟩,G.trans h.2⟩
theorem Kt {w f:World} {B:Nat} {u:Un} (h:iB w B u) (e:f.heap[B]?=w.heap[B]?):iB f B u:=nH (fun o=>World.cell?_of_block e) h
theorem ke.frame {c:ar} {u:Un} {P:List (Un × Sp)} {D:List Int} {R S F K B f o G:Nat} {T w:World} (h:ke c P D R S F K T w) (W:iB w B u) (H:F<B) (U:B<w.heap.size) (V:cq w f o c u.yr) (I:bW c u.yr≤G) (J:F<f) (O:F<o) :
  JW c u P D R S F K B T (((w.setCell ⟨F,0,none⟩ (.int .i64 u.yr)).setCell ⟨F,1,none⟩ (.slice (some ⟨f,0,none⟩) (bW c u.yr) G)).setCell ⟨F,2,none⟩ (.slice (some ⟨o,0,none⟩) (aU c u.yr) (aU c u.yr))):=by
 obtain ⟨p1,p2,⟨a,b,d,p3⟩,p4,⟨o1,o2,o3,o4⟩,p6⟩:=h;have E:=ap.set123 p3 (.int .i64 u.yr) (.slice (some ⟨f,0,none⟩) (bW c u.yr) G) (.slice (some ⟨o,0,none⟩) (aU c u.yr) (aU c u.yr));refine ⟨⟨f,o,G,E,Ex V ac (iN om) (iN om),I,J,O⟩,⟨(iN om).trans p1,(iN om).trans p2,⟨_,_,_,E⟩,p4,⟨o1,o2,o3,o4⟩,((p6.setCell (by show K≤F;omega) _).setCell (by show K≤F;omega) _).setCell (by show K≤F;omega) _⟩,Kt W (iN om),H,by simpa using U⟩
theorem xH (c:ar) (lv:Int) (s:Sp) (w:World) (hn:c.name.size≤1000) (h:bg c lv s=0) (hl:(be c lv s).length≤100000) :
  Calls Tryz.prog 62 #[av c,lv,bI s] w fun e w'=>(∃ H J,e=.returned (.tuple #[.slice (some ⟨H,0,none⟩) (be c lv s).length (be c lv s).length,.slice (some ⟨J,0,none⟩) (be c lv s).length (be c lv s).length,.int .i64 0])∧dJ w' H (pR c lv s)∧bA w' J (ez c lv s)∧w.heap.size≤H∧w.heap.size≤J∧H≠J)∧Below w w w':=by
 have HM:=hide (fun w=>Cs c lv s w hn h);have d9:=hide (fun u hu=>lp (c:=c) (lv:=lv) (s:=s) (u:=u) h hu);have b5:=hide (eq h);have eD:1≤lv∧lv≤5:=by have:=b5.out;omega
 have eF:0≤s.a∧s.a<3068037∧0≤s.b∧s.b<3068037:=by
  have h1:=(fh b5.out.2.2.2.2.1).2.2.2.2.1;have h2:=(fh b5.out.2.2.2.2.2).2.2.2.2.1;simp [cH] at h1 h2;omega
 obtain ⟨L,hL⟩:∃ n,(be c lv s).length=n:=⟨_,rfl⟩;rw [hL] at HM hl ⊢;have HL:=hide hL;have fi:=fun w=>l9 L hl w
 have fn:=fun w=>GI L hl w
 obtain ⟨fb,fd⟩:=eD;obtain ⟨f5,f6,f7,f8⟩:=eF;clear h hL;simp only [av,bI] at HM ⊢;go_enter Tryz.func62,Tryz.ntmps62;go_wp2_with fail;refine (HM.out _).mono ?_;rintro e E ⟨g,cap,rfl,hU,hg,a5⟩;have HU:=hide hU;have dY:Hid (Below w w E):=ww a5;have eb:=hide (aa a5 ae (az (au w c) ac _));have ek:=hide (show lQ E (w+1) s from bu a5 ac (by have:=fC (w.alloc (bG c)) s;simpa using this));have go:w.heap.size+1<E.heap.size:=aj a5;clear hU a5;go_upto_region 4 with (fail);go_cut [11,12] (fun s8 s9 wx=>LO L E s8 s9 wx)
 case first =>
  go_region
  all_goals
   go_wp2_with fail;go_meet
  case rel =>
   refine ⟨E,E.heap.size+1,rfl,rfl,by omega,Nat.le_refl _,by omega,?_,?_,by (repeat' exact bel)⟩
   ·exact (dJ.new E L).call an
   ·have h:=bA.new (E.alloc (rJ L)) L
    rw [show (E.alloc (rJ L)).heap.size=E.heap.size+1 by simp] at h;exact h.call ((Below.refl _ _).drew)
  case rel =>
   refine ⟨E+1,E.heap.size,rfl,rfl,by omega,by omega,Nat.le_refl _,?_,?_,by (repeat' exact bel)⟩
   ·have h:=dJ.new (E.alloc (eZ L)) L
    rw [show (E.alloc (eZ L)).heap.size=E.heap.size+1 by simp] at h;exact h.call ((Below.refl _ _).drew)
   ·exact (bA.new E L).call an
 case rest =>
  obtain ⟨H,J,rfl,rfl,eE,ex,ey,b9,b8,bb⟩:=hcut;have c7:=b9.lt;have c8:=b8.lt
  have H0:=hide (show ke c (bV xh (pR c lv s) 0) (bV 0 (ez c lv s) 0) H J wc.heap.size E.heap.size E (wc.alloc (.cells #[.int .i64 0,.slice none 0 0,.slice none 0 0] 96)) from
   ⟨by rw [iw,lx,HL.out];exact b9.call ((Below.refl _ _).alloc (Nat.le_refl _) _),by rw [iw,eh,HL.out];exact b8.call ((Below.refl _ _).alloc (Nat.le_refl _) _),⟨_,_,_,ap.new _ _ _⟩,eE,⟨ex,ey,c7,c8⟩,bb.alloc bb.size _⟩)
  obtain ⟨F,hF⟩:∃ F,F=wc.heap.size:=⟨_,rfl⟩;have fz:E.heap.size≤F:=by rw [hF];exact bb.size
  clear b9 b8 bb;go_wp2_with fail;rw [← hF] at H0 ⊢;clear hF;go_loopw [38] (fun cs wr=>∃ j:Nat,cs=.int .i64 j∧j≤L∧ke c (bV xh (pR c lv s) j) (bV 0 (ez c lv s) j) H J F E.heap.size E wr∧Hid (∀ u,0<j→(be c lv s)[j-1]?=some u→yI c u.yr F wr)) (fun cs _=>(L+5-intOf cs).toNat)
  case atStart=>exact ⟨0,rfl,Nat.zero_le _,H0.out,hide (fun u h=>absurd h (Nat.lt_irrefl 0))⟩
  case round =>
   obtain ⟨j,rfl,hj,hS,ab⟩:=hrel;have HS:=hide hS;clear hS;have fv:=HS.out.bel.size;by_cases ay:j<L
   ·obtain ⟨u,hu⟩:∃ u,(be c lv s)[j]?=some u:=⟨_,List.getElem?_eq_getElem (by rw [HL.out];exact ay)⟩
    have eN:=(de.lt HU.out (by rw [HL.out];omega)).1;have T:∀ o,wr.cell? ⟨g,o,none⟩=E.cell? ⟨g,o,none⟩:=fun o=>HS.out.bel.cell (p:=⟨g,o,none⟩) eN
    obtain ⟨a0,a1,a2⟩:=de.cell HU.out hu;rw [← T] at a0 a1 a2;have aF:=hide (d9.out u (List.mem_of_getElem? hu));have HX:=hide hu;have cy:=hide T;have c9:g<wr.heap.size:=om;have fB:(0:Int)≤(j:Int):=om;have f0:(j:Int)<(L:Int):=om;have HW:=hide (show ke c (bV xh (pR c lv s) j) (bV 0 (ez c lv s) j) H J F E.heap.size E (wr.alloc (fc u))∧iB (wr.alloc (fc u)) wr.heap.size u∧(∀ v,0<j→(be c lv s)[j-1]?=some v→yI c v.yr F (wr.alloc (fc u))) from ⟨HS.out.call ((Below.refl _ _).alloc (Nat.le_refl _) _),qA wr u,fun v h1 h2=>(ab.out v h1 h2).call ((Below.refl _ _).alloc (Nat.le_refl _) _)⟩);clear T hu;have R:=hide (fun n=>below_drewN (Below.refl (wr.alloc (fc u)).heap.size (wr.alloc (fc u))) n);have a4:F<wr.heap.size:=by obtain ⟨_,_,_,hb⟩:=HS.out.box;exact hb.lt
    go_upto_region 9 with (fail);go_cut [55] (fun b wx=>Lx c u (bV xh (pR c lv s) j) (bV 0 (ez c lv s) j) H J F E.heap.size wr.heap.size E b wx)
    case first =>
     rcases Nat.eq_zero_or_pos j with rfl | f4
     ·go_quiet (fail)
      go_wp2_with fail;go_meet
      case rel=>exact ⟨true,rfl,by simp,HW.out.1.call (R.out _),aS (R.out _) ac HW.out.2.1,a4,by simp⟩
     ·obtain ⟨i,rfl⟩:∃ i,j=i+1:=⟨j-1,by omega⟩
      obtain ⟨v,hv⟩:∃ v,(be c lv s)[i]?=some v:=⟨_,List.getElem?_eq_getElem (by rw [HL.out];omega)⟩;obtain ⟨b0,b1,b2⟩:=de.cell HU.out hv;rw [← cy.out] at b1;have hz:((i:Int)+1==0)=false:=by rw [beq_eq_false_iff_ne];omega
      have f3:(0:Int)≤(i:Int):=om;have fa:(i:Int)<(L:Int):=om;have q7:IntKind.i64.wrap (i:Int)=(i:Int):=by simp [IntKind.wrap,IntKind.bits,IntKind.signed];omega
      have q8:IntKind.i64.wrap ((i:Int)+1-1)=(i:Int):=by simp [IntKind.wrap,IntKind.bits,IntKind.signed];omega
      have q9:(i:Int)+1-1=(i:Int):=om;have d5:=hide (HW.out.2.2 v om hv);clear b0 b2 hv;by_cases hy:u.yr=v.yr
      ·have eS:(u.yr != v.yr)=false:=by simp [hy]
       have HY:=hide hy;clear hy;go_quiet (fail);go_wp2_with fail;go_meet
       case rel=>exact ⟨false,rfl,fun _=>by simpa only [fc,HY.out] using d5.out.call (R.out nq),HW.out.1.call (R.out _),aS (R.out _) ac HW.out.2.1,a4,by simp⟩
      ·have eS:(u.yr != v.yr)=true:=by simp [hy]
       go_quiet (fail);go_wp2_with fail;go_meet
       case rel=>exact ⟨true,rfl,by simp,HW.out.1.call (R.out _),aS (R.out _) ac HW.out.2.1,a4,by simp⟩
    case rest =>
     obtain ⟨nb,rfl,cl,U,V,b3,ah⟩:=hcut;have HN:=hide (And.intro cl (And.intro U (And.intro V (And.intro b3 ah))));obtain ⟨w4,dd⟩:∃ w4,w4=wc:=⟨_,rfl⟩;obtain ⟨B,hB⟩:∃ B,B=wr.heap.size:=⟨_,rfl⟩;rw [← dd] at HN ⊢;rw [← hB] at HN ⊢;have d7:=hide (And.intro cl (And.intro U V));clear dd cl U V HW R HS ab a0 a1 a2 hB cy d7 a4 c9 b3 ah;go_upto_if 55 with (fail);go_cut [] (fun wx=>JW c u (bV xh (pR c lv s) j) (bV 0 (ez c lv s) j) H J F E.heap.size B E wx)
     case first =>
      cases nb
      ·have d4:=hide (HN.out.1 ac)
       go_wp2_with fail;go_meet
       case rel=>exact ⟨d4.out,HN.out.2.1,HN.out.2.2⟩
      ·have d8:=hide (fun w=>kW c lv u.yr w hn (by have h1:=bN aF.out.1;rw [← aF.out.2];exact h1.1))
       have bX:=HN.out.2.1.bel;obtain ⟨q0,q1,q2,q3,q4,q5,q6,q7,q8,q9,eU,e0,e3,e4⟩:=aa bX om eb.out;obtain ⟨u0,u1,u2⟩:=HN.out.2.2.1;have c2:=HN.out.2.2.2.2;go_wp2_with fail;refine (d8.out _).mono ?_;rintro e w5 ⟨h1,cp,h2,eA,eB,rfl,et,fA,c3,bc⟩;have cE:=hide (HN.out.2.1.call bc);have el:=hide (aS bc c2 HN.out.2.2.1);obtain ⟨ka,kb,kd,G⟩:=cE.out.box;have k0:=G.cell 0;have k1:=G.cell 1;have k2:=G.cell 2;have k3:=G.frozen 0;have k4:=G.frozen 1;have k5:=G.frozen 2;have em:=HN.out.2.2.2.1;have d3:=hide (cE.out.frame el.out em (Nat.lt_of_lt_of_le c2 bc.size) c3 et om om);clear bc G c3 eA eB bX u0 u1 u2;clear q0 q1 q2 q3 q4 q5 q6 q7 q8 q9 eU e0 e3 e4;simp at k0 k1 k2;go_wp2_with fail;go_meet
       case rel=>exact d3.out
     case rest =>
      obtain ⟨ew,U,V,a4,ah⟩:=hcut;obtain ⟨h1,h2,cp,G,cc,cb,f1,f2⟩:=ew;obtain ⟨w6,dq⟩:∃ w6,w6=wc:=⟨_,rfl⟩;rw [← dq] at G cc U V ah ⊢;clear dq HN;obtain ⟨hf,l1,l5,hA,hx,hi⟩:=bN aF.out.1;have c4:=dz aF.out.1;have bd:=kM aF.out.1;obtain ⟨A,b7⟩:∃ A,aT c u=A:=⟨_,rfl⟩;obtain ⟨Z,ca⟩:∃ Z,bF c u=Z+1:=⟨bF c u-1,by omega⟩;have b6:=hide (fun w hI=>pc c u.yr u w cp h1 h2 l1 l5 hA hI (uI u) hx hi);rw [show aW c u.yr u.lv (uI u)=A from b7,show aW c u.yr u.lv (uI u+1)=Z+1 from ca] at b6;rw [b7,ca] at c4 bd;have a8:=hide (fun w hF=>rL c u.yr w cp h1 h2 hA cb hF A Z om om);rw [← bd] at a8;obtain ⟨t,ht⟩:∃ t,cd c u=t:=⟨_,rfl⟩;rw [ht] at a8;have eL:-100000000≤t.a∧t.a≤100000000∧-100000000≤t.b∧t.b≤100000000:=by
       have h1:=zZ c u.yr hA A om;have h2:=zZ c u.yr hA (Z+1) om;rw [← ht,bd];simp only;omega
      obtain ⟨gc,gf,gh,gm⟩:=eL;have cS:=hide ht;have b4:=hide (And.intro cb (And.intro f1 f2));have ab:=hide cc;have cI:=hide U;have c0:=hide V;have d2:=hide G;have k0:=G.cell 0;have k1:=G.cell 1;have k2:=G.cell 2;obtain ⟨u0,u1,u2⟩:=V;simp at k0 k1 k2;simp only [cK,aC,bI] at b6 a8;clear hf l1 l5 hA hx hi c4 bd b7 ca ht cc U G cb;go_wp2_with fail;refine (b6.out _ ab.out.2).mono ?_;rintro e w7 ⟨rfl,al⟩;have aB:=hide (ab.out.call al);have bt:=hide (cI.out.call al);have bw:=hide (aS al ah c0.out);have O:=hide (d2.out.call al);have a3:B<w7.heap.size:=Nat.lt_of_lt_of_le ah al.size;clear al k0 k1 k2 u0 u1 u2 ab cI c0;have k0:=O.out.cell 0;have k1:=O.out.cell 1;have k2:=O.out.cell 2;simp at k0 k1 k2;go_wp2_with fail;refine (a8.out _ aB.out).mono ?_;rintro e w8 ⟨rfl,aq⟩;have f:=hide (bt.out.call aq);have bx:=hide (aS aq a3 bw.out);have bh:=hide (O.out.call aq);have bp:=hide (aB.out.call aq);have e5:B<w8.heap.size:=Nat.lt_of_lt_of_le a3 aq.size;clear aq k0 k1 k2 aB bt bw O a3;have a7:j<(pR c lv s).length:=by rw [lx,HL.out];exact ay
      have I:j<(ez c lv s).length:=by rw [eh,HL.out];exact ay
      obtain ⟨k0,k1,k2,k3,k4⟩:=f.out.pcs.cell (oJ xh (pR c lv s) j a7);have n0:=f.out.pcs.frozen (j*5);have n1:=f.out.pcs.frozen (j*5+1);have n2:=f.out.pcs.frozen (j*5+2);have n3:=f.out.pcs.frozen (j*5+3);have n4:=f.out.pcs.frozen (j*5+4);simp only at k0 k1 k2 k3 k4;obtain ⟨u0,u1,u2⟩:=bx.out;obtain ⟨p0,p1⟩:=bu f.out.bel om ek.out;have e7:=f.out.pcs.lt;have e9:=f.out.dys.lt;have fr:w.heap.size+1<w8.heap.size:=by have:=f.out.bel.size;omega
      obtain ⟨X,hX⟩:∃ X,(if s.a<t.a then t.a else s.a)=X:=⟨_,rfl⟩;obtain ⟨Y,hY⟩:∃ Y,(if t.b<s.b then t.b else s.b)=Y:=⟨_,rfl⟩;have es:-100000000≤X∧X≤100000000∧-100000000≤Y∧Y≤100000000:=by rw [← hX,← hY];refine ⟨?_,?_,?_,?_⟩ <;> split <;> omega
      have ba:=hide (show X=max s.a t.a∧Y=min s.b t.b by rw [← hX,← hY];constructor <;> split <;> omega);have e6:H≠B:=by have:=f.out.ord;omega
      have e8:w.heap.size+1≠H:=by have:=f.out.ord;omega
      clear a7 I;have cr:(pR c lv s)[j]?=some (u,⟨X,Y⟩):=by
       rw [pR,List.getElem?_map,HX.out];simp only [Option.map_some,tG,cS.out,ba.out.1,ba.out.2]
      have c5:(ez c lv s)[j]?=some (Y-X+1):=by
       rw [vg HX.out,cS.out,ba.out.1,ba.out.2];rfl
      have ad:=hide (show ke c (bV xh (pR c lv s) (j+1)) (bV 0 (ez c lv s) j) H J F E.heap.size E ((kX w8 H j (u,⟨X,Y⟩)).alloc (.cells #[.int .i64 t.a,.int .i64 t.b] 45)) from by
       have h:=f.out.putP j (u,⟨X,Y⟩) (by rw [mO _ _ _ (by rw [lx,HL.out];omega),lx,HL.out];exact ay);rw [jw _ _ _ _ cr] at h;exact h.call ((Below.refl _ _).alloc (Nat.le_refl _) _))
      have aA:=hide (show yI c u.yr F ((kX w8 H j (u,⟨X,Y⟩)).alloc (.cells #[.int .i64 t.a,.int .i64 t.b] 45)) from by
       have h:yI c u.yr F w8:=⟨h1,h2,cp,bh.out,bp.out,b4.out.1,b4.out.2.1,b4.out.2.2⟩;have ho:=f.out.ord;exact (h.same (by rw [xk];exact Nat.le_refl _) (fun k hk=>nv om)).call ((Below.refl _ _).alloc (Nat.le_refl _) _))
      unfold kX at ad aA;simp only at ad aA;have c1:=hide (And.intro cr c5);clear cr c5 f bx bh bp;go_upto_region 16 with (fail);clear k0 k1 k2 k3 k4 n0 n1 n2 n3 n4 u0 u1 u2 p0 p1 hX hY;generalize ((((((w8.setCell ⟨H,j*5,none⟩ (.int .i64 u.lv)).setCell ⟨H,j*5+1,none⟩ (.int .i64 u.yr)).setCell ⟨H,j*5+2,none⟩ (.int .i64 u.ix)).setCell ⟨H,j*5+3,none⟩ (.int .i64 X)).setCell ⟨H,j*5+4,none⟩ (.int .i64 Y)).alloc (.cells #[.int .i64 t.a,.int .i64 t.b] 45))=w9 at ad aA ⊢;have c6:(bV xh (pR c lv s) (j+1))[j]?=some (u,⟨X,Y⟩):=by
       have h1:j<(pR c lv s).length:=by rw [lx,HL.out];exact ay
       unfold bV;rw [List.getElem?_append_left (by rw [List.length_take];omega),List.getElem?_take,if_pos om];exact c1.out.1
      obtain ⟨k0,k1,k2,k3,k4⟩:=ad.out.pcs.cell c6;simp only at k0 k1 k2 k3 k4;have cM:=hide (fun w=>Ag u ⟨X,Y⟩ w es);simp only at cM;clear c6;go_wp2_with fail;refine (cM.out _).mono ?_;rintro e ds ⟨rfl,a6⟩;have S:=hide (ad.out.call a6);have bl:=hide (aA.out.call a6);have I:j<(ez c lv s).length:=by rw [eh,HL.out];exact ay
      have d0:=S.out.dys.cell (oJ 0 (ez c lv s) j I);have d1:=S.out.dys.frozen j;have ea:=hide (show ke c (bV xh (pR c lv s) (j+1)) (bV 0 (ez c lv s) (j+1)) H J F E.heap.size E (ds.setCell ⟨J,j,none⟩ (.int .i64 (Y-X+1))) from by
       have h:=S.out.putD j (Y-X+1)
       rwa [jw _ _ _ _ c1.out.2] at h)
      have d6:=hide (show yI c u.yr F (ds.setCell ⟨J,j,none⟩ (.int .i64 (Y-X+1))) from by
       have ho:=S.out.ord;exact bl.out.same ac (fun k hk=>Below.heap_setCell _ _ _ _ (by show k≠J;omega)))
      clear a6 k0 k1 k2 k3 k4 I S bl ad aA;go_wp2_with fail;go_roundw
      case rel=>exact ⟨j+1,by go_num,by omega,ea.out,hide (fun v h1 h2=>by
       rw [show j+1-1=j by omega,HX.out] at h2;cases h2;exact d6.out)⟩
      case measure=>simp [intOf];omega
   ·obtain rfl:j=L:=om
    have W:=hide (show ke c (pR c lv s) (ez c lv s) H J F E.heap.size E wr from by
     have h:=HS.out;have e1:=iq xh (pR c lv s);have e2:=iq 0 (ez c lv s);rw [lx,HL.out] at e1;rw [eh,HL.out] at e2
     rwa [e1,e2] at h)
    go_wp2
    all_goals first
     | (exfalso;omega)
     | exact bodyPost_ret (v:=.tuple #[.slice (some ⟨H,0,none⟩) j j,.slice (some ⟨J,0,none⟩) j j,.int .i64 0]) (by simp [results,Tryz.results62,go_sem]) rfl ⟨⟨H,J,rfl,W.out.pcs,W.out.dys,by have:=W.out.ord;omega,by have:=W.out.ord;omega,W.out.ne⟩,dY.out.trans (W.out.bel.mono om)⟩
theorem BE (c:ar) (lv:Int) (s:Sp) (w:World) (I:c.name.size≤1000) (h:¬ bg c lv s=0) :
  Calls Tryz.prog 62 #[av c,lv,bI s] w fun e J=>e=.returned (.tuple #[.slice none 0 0,.slice none 0 0,bg c lv s])∧Below w w J:=by
 have G:=hide (fun w=>uk c lv s w I h);have H:(bg c lv s != 0)=true:=by simpa using h
 obtain ⟨E,f⟩:∃ E,bg c lv s=E:=⟨_,rfl⟩;rw [f] at G H ⊢;clear h f;simp only [av,bI] at G ⊢;go_enter Tryz.func62,Tryz.ntmps62;go_wp2_with fail;refine (G.out _).mono ?_;rintro e O ⟨rfl,o⟩;have F:Hid (Below w w O):=ww o;clear o;go_wp2;exact bodyPost_ret (v:=.tuple #[.slice none 0 0,.slice none 0 0,.int .i64 E]) (by simp [results,Tryz.results62,go_sem]) rfl ⟨rfl,F.out⟩
theorem CE (c:ar) (lv a:Int) (s:Sp) (w:World) (I:c.name.size≤1000) (h:¬ bg c lv s=0) :
  Calls Tryz.prog 25 #[av c,lv,a,bI s] w fun e J=>e=.returned (.tuple #[.slice none 0 0,bg c lv s])∧Below w w J:=by
 have G:=hide (fun w=>BE c lv s w I h);have H:(bg c lv s != 0)=true:=by simpa using h
 obtain ⟨E,f⟩:∃ E,bg c lv s=E:=⟨_,rfl⟩;rw [f] at G H ⊢;clear h f;simp only [av,bI] at G ⊢;go_enter Tryz.func25,Tryz.ntmps25;go_wp2_with fail;refine (G.out _).mono ?_;rintro e O ⟨rfl,o⟩;have F:Hid (Below w w O):=ww o;clear o;go_wp2;go_ret2;exact ⟨rfl,F.out⟩
noncomputable def qZ (c:ar) (lv a:Int) (s:Sp):List (Un × Int):=(be c lv s).zip (lO a (ez c lv s))
theorem i8 (c:ar) (lv a:Int) (s:Sp):(qZ c lv a s).length=(be c lv s).length:=by simp [qZ,mq,eh]
structure tu (P:List (Un × Sp)) (N:List Int) (S:List (Un × Int)) (g1 g2 g3 K:Nat) (w1 w:World):Prop where
 pcs:dJ w g1 P
 nms:bA w g2 N
 shs:dy w g3 S
 ne:g3≠g1∧g3≠g2
 ord:K≤g3
 bel:Below K w1 w
theorem tu.call {P:List (Un × Sp)} {N:List Int} {S:List (Un × Int)} {o E F K:Nat} {H w G:World} (h:tu P N S o E F K H w) (f:Below w w G):tu P N S o E F K H G:=
 ⟨h.pcs.call f,h.nms.call f,h.shs.call f,h.ne,h.ord,h.bel.trans (f.mono (by have:=h.ord;have:=h.shs.lt;omega))⟩
theorem tu.put {P:List (Un × Sp)} {N:List Int} {S:List (Un × Int)} {o E f K:Nat} {F w:World} (h:tu P N S o E f K F w) (j:Nat) (x:Un × Int) (G:j<S.length):tu P N (S.set j x) o E f K F (ob w f j x):=
 ⟨(rP (Ne.symm h.ne.1)).trans h.pcs,(rP (Ne.symm h.ne.2)).trans h.nms,h.shs.put j x G,h.ne,h.ord,vx h.bel h.ord⟩
theorem yQ (c:ar) (lv a:Int) (s:Sp) (w:World) (hn:c.name.size≤1000) (h:bg c lv s=0) (hl:(be c lv s).length≤4096) (ha:aX a) :
  Calls Tryz.prog 25 #[av c,lv,a,bI s] w fun e w'=>(∃ g,e=.returned (.tuple #[.slice (some ⟨g,0,none⟩) (be c lv s).length (be c lv s).length,.int .i64 0])∧dy w' g (qZ c lv a s)∧w.heap.size≤g)∧Below w w w':=by
 have HM:=hide (fun w=>xH c lv s w hn h om);have F:=lj h;have S:=eq h;have a1:s.b-s.a+1≤3068037:=by
  have h1:=(fh S.2.2.2.2.1).2.2.2.2.1;have h2:=(fh S.2.2.2.2.2).2.2.2.2.1;simp [cH] at h1 h2;omega
 have J:=hide (fun v w (hv:iJ w v (ez c lv s))=>yV a v (ez c lv s) w ha hv (fun x hx=>by have:=F.2 x hx;omega) (by rw [eh];exact hl) (by rw [F.1];omega) (by rw [F.1];omega));obtain ⟨L,hL⟩:∃ n,(be c lv s).length=n:=⟨_,rfl⟩;rw [eh] at J;rw [hL] at HM J hl ⊢;have H:=hide hL;have bb:=fun w=>Ig L om w
 clear h hL F S a1;simp only [av,bI] at HM ⊢;go_enter Tryz.func25,Tryz.ntmps25;go_wp2_with fail;refine (HM.out _).mono ?_;rintro e w1 ⟨⟨V,g2,rfl,hP,hD,aA,aB,a0⟩,O⟩;have ab:Hid (Below w w w1):=ww O;have ay:=hide hP;have al:=hide hD;have bd:w.heap.size≤w1.heap.size:=by have:=O.size;simp at this;omega
 clear O hP hD aA aB a0;go_wp2_with fail;refine (J.out _ _ (by have h:=al.out.nums (cap:=L);rwa [eh,H.out] at h)).mono ?_;rintro e o ⟨⟨W,rfl,hO,aF⟩,E⟩;have I:=hide (ay.out.call E);have ad:Hid (Below w w o):=ao ab.out E;have bh:=E.size
 have H0:=hide (show tu (pR c lv s) (lO a (ez c lv s)) (bV Hz (qZ c lv a s) 0) V W o.heap.size o.heap.size o (o.alloc (vA L)) from
  ⟨I.out.call ((Below.refl _ _).alloc (Nat.le_refl _) _),hO.call ((Below.refl _ _).alloc (Nat.le_refl _) _),by rw [iw,i8,H.out];exact dy.new o L,⟨by have:=I.out.lt;omega,by have:=hO.lt;omega⟩,Nat.le_refl _,(Below.refl _ _).alloc (Nat.le_refl _) _⟩)
 have a7:V<o.heap.size∧W<o.heap.size:=⟨I.out.lt,hO.lt⟩;clear E hO aF;go_wp2_with fail;go_loopw [42] (fun T wr=>∃ j:Nat,T=.int .i64 j∧j≤L∧tu (pR c lv s) (lO a (ez c lv s)) (bV Hz (qZ c lv a s) j) V W o.heap.size o.heap.size o wr) (fun T _=>(L+5-intOf T).toNat)
 case atStart=>exact ⟨0,rfl,Nat.zero_le _,H0.out⟩
 case round =>
  obtain ⟨j,rfl,hj,hS⟩:=hrel;have f:=hide hS;clear hS;by_cases G:j<L
  ·obtain ⟨u,hu⟩:∃ u,(be c lv s)[j]?=some u:=⟨_,List.getElem?_eq_getElem (by rw [H.out];exact G)⟩
   obtain ⟨n,R⟩:∃ n,(lO a (ez c lv s))[j]?=some n:=⟨_,List.getElem?_eq_getElem (by rw [mq,eh,H.out];exact G)⟩;have hp:(pR c lv s)[j]?=some (tG c s u):=by rw [pR,List.getElem?_map,hu];rfl
   have U:(qZ c lv a s)[j]?=some (u,n):=by
    unfold qZ;rw [List.getElem?_zip_eq_some];exact ⟨hu,R⟩
   obtain ⟨k0,k1,k2,k3,k4⟩:=f.out.pcs.cell hp;have c0:=f.out.nms.cell R;obtain ⟨s0,s1,s2,s3⟩:=f.out.shs.cell (oJ Hz (qZ c lv a s) j (by rw [i8,H.out];exact G));have n0:=f.out.shs.frozen (j*4);have n1:=f.out.shs.frozen (j*4+1);have n2:=f.out.shs.frozen (j*4+2);have n3:=f.out.shs.frozen (j*4+3);simp only [tG] at k0 k1 k2 k3 k4 s0 s1 s2 s3;obtain ⟨X,hX⟩:∃ X,max s.a (cd c u).a=X:=⟨_,rfl⟩;obtain ⟨Y,hY⟩:∃ X,min s.b (cd c u).b=X:=⟨_,rfl⟩;rw [hX] at k3;rw [hY] at k4;have bc:=f.out.bel.size;have a2:=f.out.pcs.lt;have a3:=f.out.nms.lt;have a4:=f.out.shs.lt;have a8:(0:Int)≤(j:Int):=om;have ba:(j:Int)<(L:Int):=om;have a5:=f.out.ne.1;have a6:=f.out.ne.2;have HN:=hide (show tu (pR c lv s) (lO a (ez c lv s)) (bV Hz (qZ c lv a s) (j+1)) V W o.heap.size o.heap.size o (ob wr o.heap.size j (u,n)) from by
    have h:=f.out.put j (u,n) (by rw [mO _ _ _ (by rw [i8,H.out];omega),i8,H.out];exact G)
    rwa [jw _ _ _ _ U] at h)
   unfold ob at HN;simp only at HN;clear hu R hp U hX hY;go_upto_region 11 with (fail);go_region
   all_goals
    go_simp;go_wp2;go_roundw
    case rel=>exact ⟨j+1,by go_num,by omega,HN.out.call (((Below.refl _ _).alloc (Nat.le_refl _) _).drew)⟩
    case measure=>simp [intOf];omega
  ·obtain rfl:j=L:=om
   have aq:=hide (show dy wr o.heap.size (qZ c lv a s) from by
    have h:=f.out.shs;have e1:=iq Hz (qZ c lv a s);rw [i8,H.out] at e1
    rwa [e1] at h)
   have ah:=hide (ad.out.trans (f.out.bel.mono om));go_wp2
   all_goals first
    | (exfalso;omega)
    | (go_ret2;exact ⟨⟨_,rfl,aq.out,by omega⟩,ah.out⟩)
end
end Go.Proofs.YtjhhmeoibfdcmaaGreat
