/- Lemmas. -/
import Derived.ArgAppend
import Derived.Laws.CopyOwn
import Derived.Laws.Tables
import Derived.WideMake
import Derived.Test.YtpebkobmhhnojaaGreatDoorTp09
import Derived.Test.YtpebkobmhhnojaaGreatDoorTp11
import Derived.Test.YtpebkobmhhnojaaGreatDoorTp16
import Derived.Test.YtpebkobmhhnojaaGreatDoorTp19
import Derived.Test.YtpebkobmhhnojaaGreatDoorTp22
import Derived.Test.YtpebkobmhhnojaaGreatDoorTp23
import Derived.Test.YtpebkobmhhnojaaGreatDoorTp27
import Derived.Test.YtpebkobmhhnojaaGreatDoorTp32
set_option linter.unusedSimpArgs false
set_option linter.unusedVariables false
set_option maxRecDepth 100000
set_option maxHeartbeats 12800000
namespace Go.Proofs.YtpebkobmhhnojaaGreatDoor
section
open Go.RowKit Qd
instance GQ:DecidableEq Un:=fun x y=>decidable_of_iff (lN x.lv x.yr x.ix y.lv y.yr y.ix=true) (by
 obtain ⟨a,b,c⟩:=x;obtain ⟨d,e,f⟩:=y;simp [lN])
def FM:aC:=⟨⟨#[120]⟩,3,6,1,1,1,4,5,4,0,12,2000,2030,1⟩
def Fw:Int:=(dD FM ⟨5,2023,7⟩).b
def xB:Sp:=⟨Fw-1,Fw+1⟩
theorem uG {c:aC} {lv:Int} {s:Sp} (h:bF c lv s=0) (G:0≤s.a→s.a≤s.b→s.b<3068037→s.b-s.a≤1500):(0≤s.a∧s.a≤s.b∧s.b<3068037∧s.b-s.a≤1500)∧(bn c lv s).length≤420:=by
 have f:=eZ h;have o:=(eW f.2.2.2.2.1).2.2.2.2.1;have E:=(eW f.2.2.2.2.2).2.2.2.2.1;simp [cH] at o E;have F:=G o.1 f.2.2.2.1 E.2;have H:=uT h om;have I:=(gt h).2.2.2.2;exact ⟨⟨o.1,f.2.2.2.1,E.2,F⟩,by omega⟩
def Fc (a b c d f h o E:Int):Bool:=lN a b c f h o&&d==E
theorem uw (n:Nat) (a b c d f h o E:Int) (w:World):(Op.equalIn (n+3) 59 (.agg #[a,b,c,d]) (.agg #[f,h,o,E])).run Tryz.prog w=.ok (Fc a b c d f h o E) w:=by
 have I:=Tryz.underlying2;have F:=Tryz.isAgg2;have J:=Tryz.sizeOf2;have G:=Tryz.isAgg33;have O:=Tryz.sizeOf33;have H:=kQ n a b c f h o w;rw [run_equalIn_struct w _ _ _ _ (by simp [Program.fieldsOf,Tryz.underlying59]) (by kernel_rfl)];simp only [Program.fieldsOf,Tryz.underlying59];go_simp;simp only [Fc,lN]
 repeat' split
 all_goals simp_all
@[go_sem high] theorem Fe (a b c d f h o E:Int) (w:World):(binOp .eql 59 (.agg #[a,b,c,d]) (.agg #[f,h,o,E])).run Tryz.prog w=.ok (.bool (Fc a b c d f h o E)) w:=by
 rw [run_eql_struct,uw 9997];rfl
theorem Gh (a b c d:Int):Fc a b c d a b c d=true:=by simp [Fc,lN]
theorem Cf {a:Int} {ws:List Int} (h:0<ws.sum) {i:Nat} {x:Int} (E:ws[i]?=some x):∃ N,(kr a ws)[i]?=some N∧(N=a*x / ws.sum∨(N=a*x / ws.sum+1∧0<a*x % ws.sum)):=by
 obtain ⟨e,o,f⟩:=AC (a:=a) h (tY a ws) E;refine ⟨_,o,?_⟩;rcases f with ⟨rfl,f⟩ | ⟨rfl,f⟩
 ·exact .inr ⟨rfl,qu h rfl (tY a ws) f⟩
 ·left;omega
theorem DW {a:Int} {ws:List Int} (I:bE a) (J:∀ x∈ws,0≤x) (o:0<ws.sum) {i:Nat} {N:Int} (h:(kr a ws)[i]?=some N):bE N:=by
 have hi:=(List.getElem?_eq_some_iff.1 h).1;rw [mo] at hi;obtain ⟨x,E⟩:∃ x,ws[i]?=some x:=⟨_,List.getElem?_eq_getElem hi⟩;obtain ⟨M,G,f⟩:=Cf (a:=a) o E;rw [h] at G;cases G;have F:=J x (List.mem_of_getElem? E);have H:=tF J x (List.mem_of_getElem? E);rcases f with rfl | ⟨rfl,f⟩
 ·exact gN I F H o
 ·exact tG I F H o f
theorem ax.p0 {w:World} {B:Nat} {a b c d:Value} {t:TypeId} (h:ax w B #[a,b,c,d] t) (y:Value):ax (w.setCell ⟨B,0,none⟩ y) B #[y,b,c,d] t:=by
 unfold ax at h ⊢;simp [World.setCell,Array.getElem?_modify,h]
theorem ax.p1 {w:World} {B:Nat} {a b c d:Value} {t:TypeId} (h:ax w B #[a,b,c,d] t) (y:Value):ax (w.setCell ⟨B,1,none⟩ y) B #[a,y,c,d] t:=by
 unfold ax at h ⊢;simp [World.setCell,Array.getElem?_modify,h]
theorem ax.p2 {w:World} {B:Nat} {a b c d:Value} {t:TypeId} (h:ax w B #[a,b,c,d] t) (y:Value):ax (w.setCell ⟨B,2,none⟩ y) B #[a,b,y,d] t:=by
 unfold ax at h ⊢;simp [World.setCell,Array.getElem?_modify,h]
def v8 (c:aC) (B P:Nat) (a b s t:Int) (w:World):Prop:=bR w B c∧B<w.heap.size∧ax w P #[a,b,s,t] 349
theorem v8.call {c:aC} {B P:Nat} {a b s t:Int} {w w':World} (h:v8 c B P a b s t w) (f:Below w w w'):v8 c B P a b s t w':=
 ⟨az f h.2.1 h.1,Nat.lt_of_lt_of_le h.2.1 f.size,h.2.2.call f⟩
theorem v8.drew {c:aC} {B P:Nat} {a b s t:Int} {w:World} (h:v8 c B P a b s t w):v8 c B P a b s t w.drew:=h
theorem rN {α:Type} {f g:Nat→α} {n:Nat} (h:∀ j,j<n→f j=g j):cI f n=cI g n:=by
 unfold cI;exact List.map_congr_left fun j o=>h j (List.mem_range.1 o)
theorem xq {α:Type} (f:Nat→α):cI f 0=[]:=by simp [cI]
end
section
open Go.RowKit Go.Shelf Qd
attribute [local go_sem] Oper.semAt_some
def iX (W h:World):Prop:=W.heap.size≤h.heap.size∧∀ (B:Nat) (f:Array Value) (t:TypeId) (z:Nat × Nat),t≠26→(t=33→f.size=3)→W.heap[B]?=some (.cells f t z)→h.heap[B]?=some (.cells f t z)
theorem iX.trans {A B C:World} (h:iX A B) (k:iX B C):iX A C:=⟨Nat.le_trans h.1 k.1,fun i f t z o E hi=>k.2 i f t z o E (h.2 i f t z o E hi)⟩
theorem iX.below {W f:World} (h:Below W W f):iX W f:=⟨h.size,fun i o t z _ _ hi=>(h.block i (Array.getElem?_eq_some_iff.1 hi).1).trans hi⟩
theorem iX.alloc (W:World) (o:Obj):iX W (W.alloc o):=.below ((Below.refl _ _).alloc (Nat.le_refl _) _)
end
section
open Go.RowKit Qd
def Er (c:aC) (B:Nat) (f w:World):Prop:=ax w B (bJ c) 24∧ax w (B+1) #[.int .i64 0,.int .i64 0,.int .i64 0] 33∧Below B f w
theorem Er.call {c:aC} {B:Nat} {o w w':World} (h:Er c B o w) (f:Below w w w'):Er c B o w':=⟨h.1.call f,h.2.1.call f,h.2.2.trans (f.mono (Nat.le_of_lt h.1.lt))⟩
end
section
open Go.RowKit Go.Shelf Qd
attribute [local go_sem] Oper.semAt_some
def Ho (w:World) (v:Value) (L:List Un):Prop:=(L=[]∧v=.slice none 0 0)∨∃ g cap,v=.slice (some ⟨g,0,none⟩) L.length cap∧0<L.length∧d9 w g cap L
end
section
open Go.RowKit Qd
end
section
open Go.RowKit Go.Shelf Qd
attribute [local go_sem] Oper.semAt_some
def rC (c:aC) (u p:Un) (B:Nat) (w:World):Prop:=ax w B (bJ c) 24∧ax w (B+1) #[u.lv,u.yr,u.ix] 33∧ax w (B+2) #[p.lv,p.yr,p.ix] 33
theorem rC.call {c:aC} {u p:Un} {B:Nat} {w w':World} (h:rC c u p B w) (f:Below w w w'):rC c u p B w':=⟨h.1.call f,h.2.1.call f,h.2.2.call f⟩
theorem rC.alloc {c:aC} {u p:Un} {B:Nat} {w:World} (h:rC c u p B w) (o:Obj):rC c u p B (w.alloc o):=⟨h.1.alloc o,h.2.1.alloc o,h.2.2.alloc o⟩
theorem rC.lt {c:aC} {u p:Un} {B:Nat} {w:World} (h:rC c u p B w):B+2<w.heap.size:=h.2.2.lt
end
section
open Go.RowKit Go.Shelf Qd
attribute [local go_sem] Oper.semAt_some
def rm (c:aC) (u:Un) (t:Int) (B:Nat) (w:World):Prop:=ax w B (bJ c) 24∧ax w (B+1) #[u.lv,u.yr,u.ix] 33∧ax w (B+2) #[t] 3∧ax w (B+3) #[.slice none 0 0] 26∧ax w (B+4) #[.int .i64 0] 27
theorem rm.call {c:aC} {u:Un} {t:Int} {B:Nat} {w w':World} (h:rm c u t B w) (f:Below w w w'):rm c u t B w':=⟨h.1.call f,h.2.1.call f,h.2.2.1.call f,h.2.2.2.1.call f,h.2.2.2.2.call f⟩
theorem rm.alloc {c:aC} {u:Un} {t:Int} {B:Nat} {w:World} (h:rm c u t B w) (o:Obj):rm c u t B (w.alloc o):=⟨h.1.alloc o,h.2.1.alloc o,h.2.2.1.alloc o,h.2.2.2.1.alloc o,h.2.2.2.2.alloc o⟩
theorem rm.lt {c:aC} {u:Un} {t:Int} {B:Nat} {w:World} (h:rm c u t B w):B+4<w.heap.size:=h.2.2.2.2.lt
end
section
open Go.RowKit Qd
end
section
open Go.RowKit Go.Shelf Qd
theorem Ho.call {w w':World} {v:Value} {L:List Un} (h:Ho w v L) (F:Below w w w'):Ho w' v L:=by
 rcases h with h | ⟨g,cap,f,o,E⟩
 ·exact .inl h
 ·exact .inr ⟨g,cap,f,o,E.call F⟩
def uS (c:aC) (L:List Un) (g cap B:Nat) (f w:World):Prop:=bR w B c∧B<w.heap.size∧d9 w g cap L∧g<w.heap.size∧Below B f w
theorem uS.call {c:aC} {L:List Un} {g cap B:Nat} {o w w':World} (h:uS c L g cap B o w) (f:Below w w w'):uS c L g cap B o w':=⟨az f h.2.1 h.1,Nat.lt_of_lt_of_le h.2.1 f.size,h.2.2.1.call f,Nat.lt_of_lt_of_le h.2.2.2.1 f.size,h.2.2.2.2.trans (f.mono (Nat.le_of_lt h.2.1))⟩
theorem uS.alloc {c:aC} {L:List Un} {g cap B:Nat} {f w:World} (h:uS c L g cap B f w) (o:Obj):uS c L g cap B f (w.alloc o):=h.call ((Below.refl _ _).alloc (Nat.le_refl _) _)
end
section
open Go.RowKit Qd
structure dW where
 pe:Int→Int
 f:Int→Un→List Int
def TV (c:aC) (P:List Po) (A:List Ac) (Z:dW) (x:Un):Int:=tV c x P A (Z.pe x.yr) (Z.f x.yr)
def TE (c:aC) (P:List Po) (A:List Ac) (Z:dW) (x:Un):Int:=tE c x P A (Z.pe x.yr) (Z.f x.yr)
def dL (c:aC) (P:List Po) (A:List Ac) (Z:dW):List Un→Int
 | []=>0
 | x::l=>if TE c P A Z x=0 then dL c P A Z l else TE c P A Z x
def tb (c:aC) (P:List Po) (A:List Ac) (h:Value) (Z:dW):Prop:=(P.length≤5000∧A.length≤5000)∧(∀ p∈P,bE p.n) ∧
 ∀ u:Un,aU c u=0→fu P A=0→BY c u.yr A h (Z.pe u.yr) (Z.f u.yr)∧(Z.pe u.yr=0→(∀ x,∀ n∈Z.f u.yr x,bE n)∧(en (Z.f u.yr) u.yr (dz c u) (dT c u-dz c u)).length≤500000)
theorem rQ {c:aC} {P:List Po} {A:List Ac} {Z:dW} {L:List Un} {j:Nat} {x:Un} (f:L[j]?=some x) (h:dL c P A Z (L.take j)=0) (E:TE c P A Z x=0):dL c P A Z (L.take (j+1))=0:=by
 induction L generalizing j with
 | nil=>simp at f
 | cons y l F =>
  cases j with
  | zero=>simp at f;subst f;simp [dL,E]
  | succ j =>
   simp only [List.take_succ_cons,dL] at h ⊢;by_cases o:TE c P A Z y=0
   ·rw [if_pos o] at h ⊢;exact F (by simpa using f) h
   ·rw [if_neg o] at h;exact absurd h o
theorem AK {c:aC} {P:List Po} {A:List Ac} {Z:dW} {L:List Un} {j:Nat} {x:Un} (f:L[j]?=some x) (h:dL c P A Z (L.take j)=0) (E:¬ TE c P A Z x=0):dL c P A Z L=TE c P A Z x:=by
 induction L generalizing j with
 | nil=>simp at f
 | cons y l F =>
  cases j with
  | zero=>simp at f;subst f;simp [dL,E]
  | succ j =>
   simp only [List.take_succ_cons,dL] at h ⊢;by_cases o:TE c P A Z y=0
   ·rw [if_pos o] at h ⊢;exact F (by simpa using f) h
   ·rw [if_neg o] at h;exact absurd h o
theorem Gt (c:aC) (P:List Po) (A:List Ac) (Z:dW) (x:Un):bE (TV c P A Z x):=by
 unfold TV tV
 split
 ·exact EG _
 ·exact ⟨by decide,by decide⟩
end
end Go.Proofs.YtpebkobmhhnojaaGreatDoor
