/- Lemmas. -/
import Derived.BigQuiet
import Derived.Test.YtjhhmeoibfdcmaaGreatWr09
import Derived.Test.YtjhhmeoibfdcmaaGreatWr15
import Derived.Test.YtjhhmeoibfdcmaaGreatWr17
import Derived.Test.YtjhhmeoibfdcmaaGreatWr18
import Derived.Test.YtjhhmeoibfdcmaaGreatWr35
import Derived.Test.YtjhhmeoibfdcmaaGreatWr37
import Derived.Test.YtjhhmeoibfdcmaaGreatWr38
import Derived.Test.YtjhhmeoibfdcmaaGreatWr40
import Derived.Test.YtjhhmeoibfdcmaaGreatWr41
import Derived.Test.YtjhhmeoibfdcmaaGreatWr42
set_option linter.unusedSimpArgs false
set_option linter.unusedVariables false
set_option maxRecDepth 100000
set_option maxHeartbeats 12800000
namespace Go.Proofs.YtjhhmeoibfdcmaaGreat
section
open Go.RowKit Qd
def rI (w h:World):Prop:=w.heap.size≤h.heap.size∧∀ (B:Nat) (f:Array Value) (t:TypeId),t≠32→w.heap[B]?=some (.cells f t (0,0))→h.heap[B]?=some (.cells f t (0,0))
def Jo (c:ar) (u:Un) (S:Sp) (o f:Nat) (l:List Int) (v:Value) (m:List Po) (E:Value) (h w:World):Prop:=
 aG w h c∧iB w (h+1) u∧h.heap.size+1<f∧ap w o #[S.a,S.b] 45∧o<f∧f≤w.heap.size∧w.ownsRow f 2 1 v l.length (cu l)∧Da w f E m∧Below h h w
theorem Jo.call {c:ar} {u:Un} {S:Sp} {o E:Nat} {l:List Int} {v:Value} {m:List Po} {F:Value} {H w G:World} (h:Jo c u S o E l v m F H w) (f:Below w w G):Jo c u S o E l v m F H G:=by
 obtain ⟨I,J,O,R,T,U,V,W,h9⟩:=h;exact ⟨aa f om I,aS f om J,O,R.call f,T,Nat.le_trans U f.size,gA V f,nQ W f,h9.trans (f.mono om)⟩
def J9 (l:List Ac):List Value:=l.flatMap fun p=>[.int .i64 p.a,.int .i64 p.b,.int .i64 p.n]
abbrev Gs (w:World) (base:Nat) (v:Value) (l:List Ac):Prop:=w.ownsRow base 47 3 v l.length (J9 l)
theorem rq {w H:World} {f:Nat} {v:Value} {l:List Ac} (h:Gs w f v l) (R:Below w w H):Gs H f v l:=by
 refine ⟨h.1,?_⟩;rcases h.2 with I | ⟨G,o,F,S,J,E,O⟩
 ·exact .inl I
 ·exact .inr ⟨G,o,F,S,J,(R.block G (Array.getElem?_eq_some_iff.1 E).1).trans E,O⟩
def rE (w h:World):Prop:=w.heap.size≤h.heap.size∧∀ (B:Nat) (f:Array Value) (t:TypeId),t≠47→w.heap[B]?=some (.cells f t (0,0))→h.heap[B]?=some (.cells f t (0,0))
def vu (c:ar) (u:Un) (x:Un):Bool:=z7 u.yr (aT c u) (bF c u-aT c u) x
noncomputable def iV (c:ar) (u:Un) (A:List Ac):List Int:=((pL c u.yr A).filter fun x=>vu c u x.1).map (·.2)
noncomputable def H9 (c:ar) (u:Un) (P:List Po) (A:List Ac):List Int:=iV c u A++mj (cd c u) P
theorem zt (c:ar) (u:Un) (P:List Po) (A:List Ac):(H9 c u P A).sum=(nu c u P ((ZA c A).f u.yr)).sum:=by
 unfold H9 nu iV;rw [List.sum_append,List.sum_append];show _=(fX (yR (pL c u.yr A)) u.yr (aT c u) (bF c u-aT c u)).sum+_;rw [Dt];rfl
theorem AD (c:ar) (u:Un) (A:List Ac) (i:Nat) (a:Ac) (h:A[i]?=some a):iV c u (A.take (i+1))=iV c u (A.take i)++(if jy c u.yr a=true then ((qZ c 5 a.n ⟨a.a,a.b⟩).filter fun x=>vu c u x.1).map (·.2) else []):=by
 unfold iV pL;rw [List.take_add_one,h,Option.toList_some,List.flatMap_append,List.filter_append,List.map_append];congr 1;simp only [List.flatMap_cons,List.flatMap_nil,List.append_nil]
 split <;> rfl
theorem Kn {c:ar} {u x:Un} (E:aE c u=0) (F:aE c x=0) (o:x.lv=5) (G:x.yr=u.yr):((cd c u).a≤(cd c x).a∧(cd c x).b≤(cd c u).b)↔vu c u x=true:=by
 obtain ⟨_,_,_,J,V,hi⟩:=bN E;obtain ⟨_,_,_,T,O,U⟩:=bN F;have h1:=dz E;have S:=dz F;have H:aT c x=uI x:=by unfold aT aW;simp [o]
 have I:bF c x=uI x+1:=by unfold bF aW;simp [o]
 rw [kM E,kM F,H,I,G];rw [H,I,G] at S;have R:∀ i j,i≤bW c u.yr→j≤bW c u.yr→(bD c u.yr i≤bD c u.yr j↔i≤j):=by
  intro i j hi W;constructor
  ·intro h
   rcases Nat.lt_or_ge j i with f | f
   ·have:=ft c u.yr J f hi
    omega
   ·exact f
  ·intro h
   exact cn c u.yr J h W
 have e1:=R (aT c u) (uI x) om om;have e2:=R (uI x+1) (bF c u) om om;unfold vu z7;simp only [decide_eq_true_eq,o,G,true_and];omega
end
section
open Go.RowKit Go.Shelf Qd
def Gc (w:World) (g o:Nat) (L:List Un):Prop:=g<w.heap.size∧∀ (i:Nat) (u:Un),L[i]?=some u→w.cell? ⟨g,o+i*3,none⟩=some (.int .i64 u.lv)∧w.cell? ⟨g,o+i*3+1,none⟩=some (.int .i64 u.yr)∧w.cell? ⟨g,o+i*3+2,none⟩=some (.int .i64 u.ix)
theorem Gc.below {w F:World} {K g o:Nat} {L:List Un} (h:Gc w g o L) (f:Below K w F) (E:g<K):Gc F g o L:=
 ⟨qt f E h.1,fun i u hi=>⟨(f.cell (p:=⟨g,o+i*3,none⟩) E).trans (h.2 i u hi).1,(f.cell (p:=⟨g,o+i*3+1,none⟩) E).trans (h.2 i u hi).2.1,(f.cell (p:=⟨g,o+i*3+2,none⟩) E).trans (h.2 i u hi).2.2⟩⟩
theorem Gc.call {w f:World} {g o:Nat} {L:List Un} (h:Gc w g o L) (E:Below w w f):Gc f g o L:=h.below E h.1
theorem de.rdu {w:World} {g cap:Nat} {L:List Un} (h:de w g cap L) (f:0<L.length):Gc w g 0 L:=⟨(h.lt f).1,fun i u hi=>by simpa using h.cell hi⟩
def RU (w:World) (a:Option Addr) (n cap:Nat) (L:List Un):Prop:=(L=[]∧a=none∧n=0∧cap=0)∨(0<L.length∧n=L.length∧∃ g o,a=some ⟨g,o,none⟩∧Gc w g o L)
theorem RU.call {w f:World} {a:Option Addr} {n cap:Nat} {L:List Un} (h:RU w a n cap L) (I:Below w w f):RU f a n cap L:=by
 rcases h with h | ⟨E,F,g,o,G,H⟩
 ·exact .inl h
 ·exact .inr ⟨E,F,g,o,G,H.call I⟩
theorem de.ru {w:World} {g cap:Nat} {L:List Un} (h:de w g cap L) (f:0<L.length):RU w (some ⟨g,0,none⟩) L.length cap L:=.inr ⟨f,rfl,g,0,rfl,h.rdu f⟩
end
section
open Go.RowKit Qd
theorem FJ {c:ar} (h:c.okB=true):c.last-c.first<400:=by
 have f:c.Ok:=by simpa [ar.okB] using h
 exact f.1.2.2.2
end
end Go.Proofs.YtjhhmeoibfdcmaaGreat
