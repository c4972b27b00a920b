/- Lemmas. -/
import Derived.LoopIn
import Derived.LoopNIn
import Derived.OwnWalkIn
import Derived.RangeFuncBound
import Derived.RangeFuncBox
import Derived.RangeFuncCalls
import Derived.RangeFuncLeaves
import Derived.RangeFuncNested
import Derived.Shelf.Abstract
import Derived.Shelf.RegionOpen
import Derived.TacticsInMore
import Derived.Test.YtjhhmeoibfdcmaaGreatWr06
import Derived.Test.YtjhhmeoibfdcmaaGreatWr07
set_option linter.unusedSimpArgs false
set_option linter.unusedVariables false
set_option maxRecDepth 100000
set_option maxHeartbeats 12800000
namespace Go.Proofs.YtjhhmeoibfdcmaaGreat
section
open Go.RowKit Qd
def nj (y:Int) (i:Nat):Int:=cz y ((i:Int)+1) 7
def px (y:Int):List Int:=(List.range 12).map (nj y)
theorem uB (y:Int) (w:World) (W:1600≤y) (h2:y≤9999) :
  Calls Tryz.prog 145 #[y] w fun e I=>∃ g,w.heap.size≤g∧e=.returned (.tuple #[.slice (some ⟨g,0,none⟩) 12 12,.int .i64 0])∧bf I g (px y)∧Below w w I:=by
 have R:=Ab;go_enter Tryz.func145,Tryz.ntmps145;go_wp2;go_loopw [11] (fun s wr=>∃ k:Nat,s=.int .i64 k∧k≤12∧bf wr w (kq 12 k (nj y))∧Below w w wr) (fun s _=>(13-intOf s).toNat)
 case atStart=>exact ⟨0,rfl,by omega,by rw [iA];exact bf.new w 12,(Below.refl _ _).alloc (Nat.le_refl _) _⟩
 case round =>
  obtain ⟨k,rfl,hk,E,G⟩:=hrel;have h:=E.lt;by_cases F:k<12
  ·have H:f9 y ((k:Int)+1) 7=0:=by simp [f9,aP];omega
   have J:=hide H;clear H;go_wp2_with fail;refine (vw _ _ _ _).mono ?_;rintro e T ⟨rfl,o⟩;rw [J.out];have f:=E.call o;have S:w.heap.size<T.heap.size:=Nat.lt_of_lt_of_le h o.size;have U:=f.cell (k:=k) (by rw [kN];exact F);have V:=f.frozen k;have O:=hide f;clear f;go_wp2;refine ⟨⟨k+1,by go_num,by omega,?_,?_⟩,by simp [intOf];omega⟩
   ·rw [← fM];exact O.out.set k _
   ·exact (G.trans (o.mono (Nat.le_of_lt h))).setCell ac _
  ·obtain rfl:k=12:=om
   go_wp2;go_ret2;exact ⟨w,Nat.le_refl _,rfl,by rw [iz] at E;exact E,G⟩
def dK (d:Int):Nat→Int
 | 0=>d
 | k+1=>dK d k+bS (dL (dK d k)) (jU (dK d k))
theorem zp (d:Int) (k:Nat):d≤dK d k∧dK d k≤d+31*k:=by
 induction k with
 | zero=>simp [dK]
 | succ k f =>
  have:=jX (dL (dK d k)) (jU (dK d k));unfold dK;omega
def oB (d:Int) (i:Nat):Int:=dK d (i+1)-1
def qs (d:Int):List Int:=(List.range 12).map (oB d)
theorem yS (d:Int) (w:World) (h1:0≤d) (h2:d+400<3068037) :
  Calls Tryz.prog 146 #[d] w fun e U=>∃ g,w.heap.size≤g∧e=.returned (.tuple #[.slice (some ⟨g,0,none⟩) 12 12,.int .i64 0])∧bf U g (qs d)∧Below w w U:=by
 have ah:=Ab;go_enter Tryz.func146,Tryz.ntmps146;go_wp2;go_loopw [0,12] (fun s0 s wr=>∃ k:Nat,s0=.int .i64 (dK d k)∧s=.int .i64 k∧k≤12∧bf wr w (kq 12 k (oB d))∧Below w w wr) (fun _ s _=>(13-intOf s).toNat)
 case atStart=>exact ⟨0,rfl,rfl,by omega,by rw [iA];exact bf.new w 12,(Below.refl _ _).alloc (Nat.le_refl _) _⟩
 case round =>
  obtain ⟨k,rfl,rfl,hk,I,T⟩:=hrel;have o:=I.lt;by_cases R:k<12
  ·have ad:=zp d k
   have G:cH (dK d k)=true:=by simp [cH];omega
   obtain ⟨F,_⟩:=Ix _ G;have H:aP (dL (dK d k)) (jU (dK d k))=true:=by
    simp only [dc,Bool.and_eq_true] at F;exact F.1
   have W:=hide (show dI (dL (dK d k)) (jU (dK d k))=0 by simp [dI,H]);have ab:=jX (dL (dK d k)) (jU (dK d k));have V:=hide (show oB d k=dK d k+bS (dL (dK d k)) (jU (dK d k))-1 from rfl);have HS:=hide (show dK d (k+1)=dK d k+bS (dL (dK d k)) (jU (dK d k)) from rfl);clear F H;go_wp2_with fail;refine (xf _ _ G).mono ?_;rintro e w1 ⟨rfl,h⟩;clear G;have O:=hide (I.call h);have S:w.heap.size<w1.heap.size:=Nat.lt_of_lt_of_le o h.size;have J:=hide (T.trans (h.mono (Nat.le_of_lt o)));clear h;go_wp2_with fail;refine (dt _ _ _).mono ?_;rintro e w2 ⟨rfl,E⟩;rw [W.out];have f:=((O.out).alloc _).call E;have al:w.heap.size<w2.heap.size:=Nat.lt_of_lt_of_le ae E.size;have c1:=f.cell (k:=k) (by rw [kN];exact R);have f1:=f.frozen k;have HX:=hide f;clear f;go_wp2;refine ⟨⟨k+1,by rw [HS.out],by go_num,by omega,?_,?_⟩,by simp [intOf];omega⟩
   ·rw [← fM,V.out];exact HX.out.set k _
   ·exact ((J.out.alloc (Nat.le_of_lt S) _).trans (E.mono ae)).setCell ac _
  ·obtain rfl:k=12:=om
   go_wp2;go_ret2;exact ⟨w,Nat.le_refl _,rfl,by rw [iz] at I;exact I,T⟩
end
section
open Go.RowKit Go.Shelf Qd
attribute [local go_sem] Oper.semAt_some
def eK (c:ar):Int:=if c.shape=1 then c.p0 else if c.shape=3 then c.cycle else 4
def eJ (c:ar):Int:=if c.shape=1 then c.p1 else if c.shape=3 then c.cycle else 4
def eP (c:ar):Int:=if c.shape=1 then c.p2 else if c.shape=3 then c.cycle else 4
theorem vb (c:ar) (w:World) :
  Calls Tryz.prog 209 #[av c] w fun e G=>e=.returned (.agg #[eK c,eJ c,eP c])∧Below w w G:=by
 simp only [av];have o:c.shape=1∨c.shape=3∨(¬ c.shape=1∧¬ c.shape=3):=om;rcases o with h | h | ⟨h,f⟩
 ·have H:=hide (show eK c=c.p0∧eJ c=c.p1∧eP c=c.p2 by simp [eK,eJ,eP,h])
  have E:(c.shape==1)=true:=by simp [h]
  clear h;go_enter Tryz.func209,Tryz.ntmps209;go_wp2;go_returns;refine ⟨?_,by (repeat' exact bel)⟩;rw [H.out.1,H.out.2.1,H.out.2.2]
 ·have H:=hide (show eK c=c.cycle∧eJ c=c.cycle∧eP c=c.cycle by simp [eK,eJ,eP,h])
  have E:(c.shape==1)=false:=by simp [h]
  have F:(c.shape==3)=true:=by simp [h]
  clear h;go_enter Tryz.func209,Tryz.ntmps209;go_wp2;go_returns;refine ⟨?_,by (repeat' exact bel)⟩;rw [H.out.1,H.out.2.1,H.out.2.2]
 ·have H:=hide (show eK c=4∧eJ c=4∧eP c=4 by simp [eK,eJ,eP,h,f])
  have E:(c.shape==1)=false:=by simp [h]
  have F:(c.shape==3)=false:=by simp [f]
  clear h f;go_enter Tryz.func209,Tryz.ntmps209;go_wp2;go_returns;refine ⟨?_,by (repeat' exact bel)⟩;rw [H.out.1,H.out.2.1,H.out.2.2]
def jk (c:ar) (j:Nat):Int:=if j % 3=0 then eK c else if j % 3=1 then eJ c else eP c
def cD (c:ar) (f:Int) (j:Nat):Int:=jk c j+if (j:Int)+1=c.extra then f-52 else 0
def bm {α:Type} (f:Nat→α) (k:Nat):List α:=(List.range k).map f
theorem bB {α:Type} (f:Nat→α) (k:Nat):bm f (k+1)=bm f k++[f k]:=by simp [bm,List.range_succ]
theorem bk {α:Type} (f:Nat→α) (k:Nat):(bm f k).length=k:=by simp [bm]
def iL (A B:Nat) (W f:World):Prop:=
 W.heap.size≤f.heap.size∧∀ (k:Nat) (h:Array Value) (t:TypeId) (z:Nat × Nat),k≠A→k≠B→W.heap[k]?=some (.cells h t z)→f.heap[k]?=some (.cells h t z)
theorem kD {A B:Nat} {X Y Z:World} (h:iL A B X Y) (k:iL A B Y Z):iL A B X Z:=
 ⟨Nat.le_trans h.1 k.1,fun i f t z o E F=>k.2 i f t z o E (h.2 i f t z o E F)⟩
theorem wh (m:Nat) (c:ar) (p k:Int) (w:World) :
  CallsIn Fence.wide m Tryz.prog 149 #[av c,p,k] w fun e f =>
   e=.returned (.func (.func 208) #[] #[.pointer (some ⟨w,0,none⟩),.pointer (some ⟨w+1,0,none⟩),.pointer (some ⟨w+2,0,none⟩)]) ∧
   f=((w.alloc (.cells #[.string c.name,c.kind,c.day,c.month,c.shift,c.shape,c.p0,c.p1,c.p2,c.cycle,c.extra,c.first,c.last,c.policy] 24)).alloc (.cells #[p] 3)).alloc (.cells #[k] 3):=by
 refine callsIn_wide.2 ?_;simp only [av];go_enter Tryz.func149,Tryz.ntmps149;go_wp2;go_ret;exact ⟨rfl,rfl⟩
end
section
open Go.RowKit Go.Shelf Qd
attribute [local go_sem] Oper.semAt_some
abbrev PW (n:Nat):={ x:Nat × Int // x.1<n∧0≤x.2∧x.2≤100 }
abbrev Es {n:Nat} (x:PW n):Array Value:=#[.int .i64 (x.1.1:Int),.int .i64 x.1.2]
def yC (c:ar) (f:Int) (n:Nat) (h:0<n) (j:Nat):PW n:=⟨(min j (n-1),min (max (cD c f j) 0) 100),by dsimp only;omega⟩
theorem lT {a w:World} (h:Below a a w) (f:Option Nat):a.grownBy w f:=⟨h.os,h.tape,h.output,h.size,fun i hi _=>h.block i hi⟩
def jf (c:ar):Prop:=1≤eK c∧eK c≤5∧1≤eJ c∧eJ c≤5∧1≤eP c∧eP c≤5
theorem pg (c:ar) (f:Int) (j:Nat) (h:jf c) (o:f=52∨f=53):1≤cD c f j∧cD c f j≤6:=by
 unfold jf at h;unfold cD jk
 split <;> split <;> (try split) <;> omega
def ap (w:World) (B:Nat) (f:Array Value) (t:TypeId):Prop:=w.heap[B]?=some (.cells f t (0,0))
theorem ap.lt {w:World} {B:Nat} {f:Array Value} {t:TypeId} (h:ap w B f t):B<w.heap.size:=(Array.getElem?_eq_some_iff.1 h).1
theorem ap.cell {w:World} {B:Nat} {f:Array Value} {t:TypeId} (h:ap w B f t) (i:Nat):w.cell? ⟨B,i,none⟩=f[i]?:=cell_of_row w B i f t (0,0) h
theorem ap.below {w o:World} {K B:Nat} {f:Array Value} {t:TypeId} (h:ap w B f t) (F:Below K w o) (E:B<K):ap o B f t:=(F.block B E).trans h
theorem ap.call {w o:World} {B:Nat} {f:Array Value} {t:TypeId} (h:ap w B f t) (E:Below w w o):ap o B f t:=h.below E h.lt
theorem ap.alloc {w:World} {B:Nat} {f:Array Value} {t:TypeId} (h:ap w B f t) (o:Obj):ap (w.alloc o) B f t:=(Below.heap_alloc w o B h.lt).trans h
theorem ap.new (w:World) (f:Array Value) (t:TypeId):ap (w.alloc (.cells f t)) w.heap.size f t:=heap_alloc_new w _
theorem ap.kept {w o:World} {A D B:Nat} {f:Array Value} {t:TypeId} (h:ap w B f t) (G:iL A D w o) (E:B≠A) (F:B≠D):ap o B f t:=G.2 B f t (0,0) E F h
abbrev bY (c:ar):Array Value:=#[.string c.name,.int .i64 c.kind,.int .i64 c.day,.int .i64 c.month,.int .i64 c.shift,.int .i64 c.shape,.int .i64 c.p0,.int .i64 c.p1,.int .i64 c.p2,.int .i64 c.cycle,.int .i64 c.extra,.int .i64 c.first,.int .i64 c.last,.int .i64 c.policy]
theorem ap.cal {w:World} {B:Nat} {c:ar} (h:ap w B (bY c) 24):aG w B c:=by
 refine ⟨?_,?_,?_,?_,?_,?_,?_,?_,?_,?_,?_,?_,?_,?_⟩ <;> (rw [h.cell];rfl)
theorem nS (c:ar) (f:Int) (n:Nat) (o:0<n) (k:Nat) (h:jf c) (E:f=52∨f=53) (J:k<n) (V:Int) (H:cD c f k=V):Es (yC c f n o k)=#[.int .i64 (k:Int),.int .i64 V]:=by
 have I:=pg c f k h E;have F:min k (n-1)=k:=om;have G:min (max (cD c f k) 0) 100=cD c f k:=om;simp only [Es,yC,F,G];rw [H]
theorem qR (c:ar) (n:Nat) (G:Int) (hw:jf c) (aA:G=52∨G=53) (hn:n≤59) (R:0<n) (B0 B1 B2 Bd Bo:Nat) (w:World)
  (g0:ap w B0 (bY c) 24) (g1:ap w B1 #[.int .i64 (n:Int)] 3) (g2:ap w B2 #[G] 3)
  (hd:Bd<w.heap.size) (ho:Bo<w.heap.size) (n0:B0≠Bd∧B0≠Bo) (n1:B1≠Bd∧B1≠Bo) (n2:B2≠Bd∧B2≠Bo) :
  SeqStopsK Fence.wide 4 Tryz.prog 208 #[.pointer (some ⟨B0,0,none⟩),.pointer (some ⟨B1,0,none⟩),.pointer (some ⟨B2,0,none⟩)] Es (iL Bd Bo)
   (fun xs=>xs=bm (yC c G n R) n) (fun _=>True) n w:=fun l J Jx W hW hJ bl hY h0=>by
 have G0:=hide (g0.call hW);have G1:=hide (g1.call hW);have G2:=hide (g2.call hW);have bt:=hW.size;obtain ⟨q0,q1,q2,q3,q4,q5,q6,q7,q8,q9,a6,a7,a8,ba⟩:=(G0.out).cal;have r1:W.cell? ⟨B1,0,none⟩=some (.int .i64 (n:Int)):=(G1.out).cell 0;refine callsIn_of_wp Tryz.func208 rfl trivial ?_ rfl;simp only [Tryz.ntmps208,List.size_toArray,List.length_cons,List.length_nil,Nat.reduceAdd,Nat.reduceSub,Array.replicate_succ,Array.replicate_zero,List.push_toArray,List.append_toArray,List.nil_append,List.cons_append]
 gi_wp2_with fail
 refine ⟨trivial,(callsIn_wide.2 (vb c _)).mono ?_⟩;rintro e w1 ⟨rfl,T⟩;clear q0 q1 q2 q3 q4 q5 q6 q7 q8 q9 a6 a7 a8 ba;have aq:=lT T none;have aF:=hide (((G0.out).call T).alloc (.cells #[eK c,eJ c,eP c] 22));have a0:=hide (((G2.out).call T).alloc (.cells #[eK c,eJ c,eP c] 22));have a1:=hide (ap.new w1 #[eK c,eJ c,eP c] 22);have r1:w1.cell? ⟨B1,0,none⟩=some (.int .i64 (n:Int)):=((G1.out).call T).cell 0;have bh:B1<w1.heap.size:=((G1.out).call T).lt;have a2:=hide (hJ _ _ _ none (hJ _ _ _ none h0 aq (by intro r e;cases e)) (World.grownBy_alloc w1 (.cells #[eK c,eJ c,eP c] 22) none) (by intro r e;cases e));have bw:=T.size;have ad:w1.heap.size≠Bd:=om;have ah:w1.heap.size≠Bo:=om;clear T aq
 gi_wp2
 gi_loopw [11] (fun s wr=>∃ k:Nat,k≤n∧s=.int .i64 k∧Hid (J (bm (yC c G n R) k) wr)∧ap wr B0 (bY c) 24∧ap wr B2 #[G] 3∧ap wr w1 #[eK c,eJ c,eP c] 22)
  (fun s _=>n-(intOf s).toNat)
 case atStart=>exact ⟨0,Nat.zero_le _,rfl,a2,aF.out,a0.out,a1.out⟩
 case round =>
  obtain ⟨k,hk,rfl,al,b0,b2,bp⟩:=hrel;by_cases U:k<n
  ·have x0:wr.cell? ⟨w1,0,none⟩=some (.int .i64 (eK c)):=bp.cell 0
   have x1:wr.cell? ⟨w1,1,none⟩=some (.int .i64 (eJ c)):=bp.cell 1;have x2:wr.cell? ⟨w1,2,none⟩=some (.int .i64 (eP c)):=bp.cell 2;have x3:wr.cell? ⟨B0,10,none⟩=some (.int .i64 c.extra):=b0.cell 10;have x4:wr.cell? ⟨B2,0,none⟩=some (.int .i64 G):=b2.cell 0;have a5:=hw;unfold jf at a5;obtain ⟨fn,bd,aB,bb,hy,hR⟩:=hY _ (yC c G n R k) wr al.out (by rw [bk];exact U);have bc:52≤G∧G≤53:=om;have ab:=hide aA;clear aA hY;have a4:k % 3=0∨k % 3=1∨k % 3=2:=om;rcases a4 with V | V | V
   ·have ay:((k:Int) % 3)=0:=om
    by_cases E:(k:Int)+1=c.extra
    rotate_left
    ·have he:((k:Int)+1==c.extra)=false:=by simp [E]
     have S:cD c G k=eK c:=by simp [cD,jk,V,E]
     rw [nS c G n R k hw ab.out U _ S] at hy;clear E S V
     gi_wp2
     refine hR.mono ?_;rintro e W3 (⟨rfl,F,f⟩ | ⟨rfl,h⟩)
     ·have o:=hide F
      have H:=b0.kept f n0.1 n0.2;have I:=b2.kept f n2.1 n2.2;have O:=bp.kept f ad ah;clear F f
      gi_wp2
      go_roundw
      case rel=>exact ⟨k+1,by omega,by go_num,by rw [bB];exact o,H,I,O⟩
      case measure=>simp [intOf];omega
     ·have o:=hide h
      clear h
      gi_wp2
      refine bodyPost_ret (results_none rfl _ _ _) rfl ?_;exact ⟨⟨_,rfl⟩,.inr ⟨_,trivial,o.out⟩⟩
    ·have he:((k:Int)+1==c.extra)=true:=by simp [E]
     have S:cD c G k=eK c+(G-52):=by simp [cD,jk,V,E]
     rw [nS c G n R k hw ab.out U _ S] at hy;clear E S V
     gi_wp2
     refine hR.mono ?_;rintro e W3 (⟨rfl,F,f⟩ | ⟨rfl,h⟩)
     ·have o:=hide F
      have H:=b0.kept f n0.1 n0.2;have I:=b2.kept f n2.1 n2.2;have O:=bp.kept f ad ah;clear F f
      gi_wp2
      go_roundw
      case rel=>exact ⟨k+1,by omega,by go_num,by rw [bB];exact o,H,I,O⟩
      case measure=>simp [intOf];omega
     ·have o:=hide h
      clear h
      gi_wp2
      refine bodyPost_ret (results_none rfl _ _ _) rfl ?_;exact ⟨⟨_,rfl⟩,.inr ⟨_,trivial,o.out⟩⟩
   ·have ay:((k:Int) % 3)=1:=om
    by_cases E:(k:Int)+1=c.extra
    rotate_left
    ·have he:((k:Int)+1==c.extra)=false:=by simp [E]
     have S:cD c G k=eJ c:=by simp [cD,jk,V,E]
     rw [nS c G n R k hw ab.out U _ S] at hy;clear E S V
     gi_wp2
     refine hR.mono ?_;rintro e W3 (⟨rfl,F,f⟩ | ⟨rfl,h⟩)
     ·have o:=hide F
      have H:=b0.kept f n0.1 n0.2;have I:=b2.kept f n2.1 n2.2;have O:=bp.kept f ad ah;clear F f
      gi_wp2
      go_roundw
      case rel=>exact ⟨k+1,by omega,by go_num,by rw [bB];exact o,H,I,O⟩
      case measure=>simp [intOf];omega
     ·have o:=hide h
      clear h
      gi_wp2
      refine bodyPost_ret (results_none rfl _ _ _) rfl ?_;exact ⟨⟨_,rfl⟩,.inr ⟨_,trivial,o.out⟩⟩
    ·have he:((k:Int)+1==c.extra)=true:=by simp [E]
     have S:cD c G k=eJ c+(G-52):=by simp [cD,jk,V,E]
     rw [nS c G n R k hw ab.out U _ S] at hy;clear E S V
     gi_wp2
     refine hR.mono ?_;rintro e W3 (⟨rfl,F,f⟩ | ⟨rfl,h⟩)
     ·have o:=hide F
      have H:=b0.kept f n0.1 n0.2;have I:=b2.kept f n2.1 n2.2;have O:=bp.kept f ad ah;clear F f
      gi_wp2
      go_roundw
      case rel=>exact ⟨k+1,by omega,by go_num,by rw [bB];exact o,H,I,O⟩
      case measure=>simp [intOf];omega
     ·have o:=hide h
      clear h
      gi_wp2
      refine bodyPost_ret (results_none rfl _ _ _) rfl ?_;exact ⟨⟨_,rfl⟩,.inr ⟨_,trivial,o.out⟩⟩
   ·have ay:((k:Int) % 3)=2:=om
    by_cases E:(k:Int)+1=c.extra
    rotate_left
    ·have he:((k:Int)+1==c.extra)=false:=by simp [E]
     have S:cD c G k=eP c:=by simp [cD,jk,V,E]
     rw [nS c G n R k hw ab.out U _ S] at hy;clear E S V
     gi_wp2
     refine hR.mono ?_;rintro e W3 (⟨rfl,F,f⟩ | ⟨rfl,h⟩)
     ·have o:=hide F
      have H:=b0.kept f n0.1 n0.2;have I:=b2.kept f n2.1 n2.2;have O:=bp.kept f ad ah;clear F f
      gi_wp2
      go_roundw
      case rel=>exact ⟨k+1,by omega,by go_num,by rw [bB];exact o,H,I,O⟩
      case measure=>simp [intOf];omega
     ·have o:=hide h
      clear h
      gi_wp2
      refine bodyPost_ret (results_none rfl _ _ _) rfl ?_;exact ⟨⟨_,rfl⟩,.inr ⟨_,trivial,o.out⟩⟩
    ·have he:((k:Int)+1==c.extra)=true:=by simp [E]
     have S:cD c G k=eP c+(G-52):=by simp [cD,jk,V,E]
     rw [nS c G n R k hw ab.out U _ S] at hy;clear E S V
     gi_wp2
     refine hR.mono ?_;rintro e W3 (⟨rfl,F,f⟩ | ⟨rfl,h⟩)
     ·have o:=hide F
      have H:=b0.kept f n0.1 n0.2;have I:=b2.kept f n2.1 n2.2;have O:=bp.kept f ad ah;clear F f
      gi_wp2
      go_roundw
      case rel=>exact ⟨k+1,by omega,by go_num,by rw [bB];exact o,H,I,O⟩
      case measure=>simp [intOf];omega
     ·have o:=hide h
      clear h
      gi_wp2
      refine bodyPost_ret (results_none rfl _ _ _) rfl ?_;exact ⟨⟨_,rfl⟩,.inr ⟨_,trivial,o.out⟩⟩
  ·have a3:k=n:=om
   subst a3
   gi_wp2
   go_end0;exact ⟨⟨_,rfl⟩,.inl ⟨_,rfl,al.out⟩⟩
end
section
open Go.RowKit Qd
def bZ (c:ar) (y:Int):Nat→Int
 | 0=>ax c y
 | k+1=>bZ c y k+7*cD c (aL c y) k
def bi (c:ar) (y:Int):List Int:=
 if c.shape=4 then px y else if c.shape=5 then qs (ax c y) else (List.range (cj c).toNat).map fun i=>bZ c y (i+1)-1
def mQ (c:ar) (y:Int) (w:World) (e:Ending) (f:World):Prop:=
 ∃ g,w.heap.size≤g∧e=.returned (.tuple #[.slice (some ⟨g,0,none⟩) (bi c y).length (bi c y).length,.int .i64 0])∧bf f g (bi c y)∧Below w w f
theorem dT {c:ar} (h:c.Ok):(c.kind=4↔c.shape=4)∧(c.kind=6↔c.shape=5)∧1≤c.shape∧c.shape≤5:=by
 obtain ⟨_,_,_,f⟩:=h;unfold ar.ruled ar.weeks dB at f;omega
theorem yc (c:ar) (y:Int) (w:World) (hn:c.name.size≤1000) (o:aO c y 1601=0) (G:c.shape=4) :
  Calls Tryz.prog 89 #[av c,y] w (mQ c y w):=by
 have S:=hide (show bi c y=px y by simp [bi,G]);obtain ⟨F,ad,ah⟩:=bo o;have ab:(c.shape==4)=true:=by simp [G]
 have U:=hide o;clear o G F;simp only [av];go_enter Tryz.func89,Tryz.ntmps89;go_wp2_with fail;refine (dN c _ _ hn).mono ?_;rintro e T ⟨rfl,f⟩;have H:w.heap.size<T.heap.size:=aj f;have h:=hide (Below.trans ((Below.refl _ _).alloc (Nat.le_refl _) _) (f.mono ac):Below w w T);have V:=hide (aa f ac (au w c));obtain ⟨q0,q1,q2,q3,q4,q5,q6,q7,q8,q9,I,J,O,R⟩:=V.out;clear f;rw [U.out];go_wp2_with fail;refine (uB y _ om om).mono ?_;rintro e w2 ⟨g,hg,rfl,W,E⟩;clear q0 q1 q2 q3 q4 q5 q6 q7 q8 q9 I J O R;go_wp2;go_ret2;refine ⟨g,?_,?_,by rw [S.out];exact W,(h.out.alloc (Nat.le_of_lt H) _).trans (E.mono ae)⟩
 ·simp at hg;omega
 ·rw [S.out];simp [px]
theorem yk (c:ar) (y:Int) (w:World) (hn:c.name.size≤1000) (o:aO c y 1601=0) (E:c.shape=5) :
  Calls Tryz.prog 89 #[av c,y] w (mQ c y w):=by
 have T:=hide (show bi c y=qs (ax c y) by simp [bi,E]);obtain ⟨h,aq,ay⟩:=bo o;have ab:(c.shape==5)=true:=by simp [E]
 have ad:(c.shape==4)=false:=by simp [E]
 have al:0≤ax c y∧ax c y+400<3068037:=by
  obtain ⟨hm,ah,hk,hd⟩:=cg h;have U:=jY o;have b0:=lZ c (y-1+c.shift) h U om;have e0:ax c y=ct c (y-1+c.shift)+1:=by simp [ax,o]
  have H:c.kind=6:=(dT h).2.1.2 E;have e1:ct c (y-1+c.shift)=bK (y-1+c.shift) c.month:=by simp [ct,H]
  have h3:aP (y-1+c.shift+1) c.month=true:=by simp [aP];omega
  have h4:=sc (y-1+c.shift) c.month U om;have h5:=nc (y-1+c.shift+1) c.month h3 om;omega
 have W:=hide o;clear o E h;simp only [av];go_enter Tryz.func89,Tryz.ntmps89;go_wp2_with fail;refine (dN c _ _ hn).mono ?_;rintro e V ⟨rfl,f⟩;have I:w.heap.size<V.heap.size:=aj f;have F:=hide (Below.trans ((Below.refl _ _).alloc (Nat.le_refl _) _) (f.mono ac):Below w w V);have HQ:=hide (aa f ac (au w c));obtain ⟨q0,q1,q2,q3,q4,q5,q6,q7,q8,q9,J,O,R,S⟩:=HQ.out;clear f;rw [W.out];go_wp2_with fail;refine (yS (ax c y) _ om om).mono ?_;rintro e w2 ⟨g,hg,rfl,hI,G⟩;clear q0 q1 q2 q3 q4 q5 q6 q7 q8 q9 J O R S;go_wp2;go_ret2;refine ⟨g,?_,?_,by rw [T.out];exact hI,(F.out.alloc (Nat.le_of_lt I) _).trans (G.mono ae)⟩
 ·simp at hg;omega
 ·rw [T.out];simp [qs]
end
section
open Go.RowKit Go.Shelf Qd
attribute [local go_sem] Oper.semAt_some
theorem uE {c:ar} (h:c.Ok) (o:¬ c.shape=4) (E:¬ c.shape=5):jf c:=by
 obtain ⟨_,_,_,f⟩:=h;unfold ar.ruled ar.weeks dB ar.pat0 at f;unfold jf Go.Proofs.YtjhhmeoibfdcmaaGreat.eK eJ eP
 split <;> (try split) <;> omega
def vo {n:Nat} (h:Int) (f:List (PW n)):Int × List Int:=f.foldl (fun s x=>(s.1+7*x.1.2,s.2.set x.1.1 (s.1+7*x.1.2-1))) (h,List.replicate n 0)
theorem u7 {n:Nat} (h:Int) (f:List (PW n)) (x:PW n):vo h (f++[x])=((vo h f).1+7*x.1.2,(vo h f).2.set x.1.1 ((vo h f).1+7*x.1.2-1)):=by simp [vo]
theorem GK {n:Nat} (h:Int) (f:List (PW n)):(vo h f).2.length=n:=by
 unfold vo;have:∀ (l:List (PW n)) (s:Int × List Int),(l.foldl (fun s x=>(s.1+7*x.1.2,s.2.set x.1.1 (s.1+7*x.1.2-1))) s).2.length=s.2.length:=by
  intro l
  induction l with
  | nil=>intro s;rfl
  | cons a l o=>intro s;rw [List.foldl_cons,o];simp
 rw [this];simp
theorem JF {n:Nat} (o:Int) (f:List (PW n)):o≤(vo o f).1∧(vo o f).1≤o+700*f.length:=by
 unfold vo;have:∀ (l:List (PW n)) (s:Int × List Int),s.1≤(l.foldl (fun s x=>(s.1+7*x.1.2,s.2.set x.1.1 (s.1+7*x.1.2-1))) s).1∧(l.foldl (fun s x=>(s.1+7*x.1.2,s.2.set x.1.1 (s.1+7*x.1.2-1))) s).1≤s.1+700*l.length:=by
  intro l
  induction l with
  | nil=>intro s;simp
  | cons a l E =>
   intro s;have h:=E (s.1+7*a.1.2,s.2.set a.1.1 (s.1+7*a.1.2-1));have F:=a.2;rw [List.foldl_cons];simp only [List.length_cons] at h ⊢;omega
 exact this _ _
theorem C4 (c:ar) (y:Int) (n:Nat) (f:0<n) (F:jf c) (h:aL c y=52∨aL c y=53) (k:Nat) (I:k≤n) :
  vo (ax c y) (bm (yC c (aL c y) n f) k)=(bZ c y k,kq n k fun i=>bZ c y (i+1)-1):=by
 induction k with
 | zero=>simp [bm,vo,bZ,iA]
 | succ k G =>
  have H:=pg c (aL c y) k F h;have o:min k (n-1)=k:=om;have E:min (max (cD c (aL c y) k) 0) 100=cD c (aL c y) k:=om;rw [bB,u7,G om];simp only [yC,o,E];rw [← fM];rfl
theorem oz {A B:Nat} (W:World) (l:Nat) (o G:Obj) (h:W.heap[l]?=some o) (H:o.isCells=false):iL A B W (W.putObj l G):=by
 have F:=grownBy_putObj' W l G;refine ⟨F.size,fun k I t z _ _ f=>?_⟩;have E:=(Array.getElem?_eq_some_iff.1 f).1;refine (F.block k E (fun e=>?_)).trans f;cases e;rw [h] at f;cases f;cases H
theorem mH {A B:Nat} (W:World) (p:Addr) (u:Value) (o:p.block=A∨p.block=B):iL A B W (W.setCell p u):=
 ⟨by simp,fun k E t z F G f=>(Below.heap_setCell W p u k (by rcases o with h | h <;> omega)).trans f⟩
theorem ap.far {w:World} {B:Nat} {f:Array Value} {t:TypeId} (h:ap w B f t) {p:Addr} (o:B≠p.block) (u:Value):ap (w.setCell p u) B f t:=(Below.heap_setCell w p u B o).trans h
theorem ap.set0 {w:World} {B:Nat} {v:Value} {t:TypeId} (h:ap w B #[v] t) (u:Value):ap (w.setCell ⟨B,0,none⟩ u) B #[u] t:=by
 unfold ap at h ⊢;simp [World.setCell,Array.getElem?_modify,h]
theorem dV {X Y:World} {f:Option Nat} {B:Nat} {E:Array Value} {t:TypeId} (h:ap X B E t) (H:X.grownBy Y f) (I:∀ r,f=some r→∃ o:Obj,X.heap[r]?=some o∧o.isCells=false):ap Y B E t:=by
 refine (H.block B h.lt (fun e=>?_)).trans h;obtain ⟨o,F,G⟩:=I B e.symm;unfold ap at h;rw [h] at F;cases F;cases G
theorem wN {X Y:World} {f:Option Nat} {B:Nat} {E:List Int} (h:bf X B E) (F:X.grownBy Y f) (G:∀ r,f=some r→∃ o:Obj,X.heap[r]?=some o∧o.isCells=false):bf Y B E:=dV h F G
theorem zd (c:ar) (y:Int) (w:World) (hn:c.name.size≤1000) (hE:aO c y 1601=0) (al:¬ c.shape=4) (S:¬ c.shape=5) :
  Calls Tryz.prog 89 #[av c,y] w (mQ c y w):=by
 obtain ⟨ah,cp,cr⟩:=bo hE;have H:c.okB=true:=by simpa [ar.okB] using ah
 have aq:c.kind≠6:=fun e=>S ((dT ah).2.1.1 e)
 have bb:=uE ah al S;have bt:=iE c y hE aq;have ay:fZ c=true:=by simp [fZ,H,aq]
 have bx:aL c y=bP c y / 7:=by simp [aL,ay]
 have bc:aL c y=52∨aL c y=53:=om;have ba:dA c y=0:=by simp [dA,ay,hE]
 have b4:=eM c H;have a8:co c=0:=by simp [co,H]
 have cs:=ch c y hE;have HL:=hide (show bi c y=(List.range (cj c).toNat).map fun i=>bZ c y (i+1)-1 by simp [bi,al,S]);have aF:=hide bb;have a0:=hide bc;have e4:(c.shape==4)=false:=by simp [al]
 have e5:(c.shape==5)=false:=by simp [S]
 have H1:=hide hE;have H2:=hide ba;have H3:=hide a8;clear hE al S ah H aq bb bt ay bx bc ba a8;obtain ⟨n,a7⟩:∃ n:Nat,(n:Int)=cj c:=⟨(cj c).toNat,by omega⟩;have HN:=hide a7;have bX:12≤n∧n≤52:=om;have b7:=fun W=>jR n om W
 clear a7;simp only [av];refine (callsIn_wide (n:=5)).1 ?_;refine callsIn_of_wp_marks Tryz.func89 rfl trivial ?_ rfl;simp only [Tryz.ntmps89,List.size_toArray,List.length_cons,List.length_nil,Nat.reduceAdd,Nat.reduceSub,Array.replicate_succ,Array.replicate_zero,List.push_toArray,List.append_toArray,List.nil_append,List.cons_append]
 gi_wp2_with fail
 refine ⟨trivial,(callsIn_wide.2 (dN c _ _ hn)).mono ?_⟩;rintro e G ⟨rfl,ad⟩;have bd:w.heap.size<G.heap.size:=aj ad;have bh:=hide (Below.trans ((Below.refl _ _).alloc (Nat.le_refl _) _) (ad.mono ac):Below w w G);have HQ:=hide (aa ad ac (au w c));obtain ⟨q0,q1,q2,q3,q4,q5,q6,q7,q8,q9,T,U,V,ab⟩:=HQ.out;clear ad;rw [H1.out]
 gi_wp2_with fail
 refine ⟨trivial,(callsIn_wide.2 (du c _ _ hn)).mono ?_⟩;rintro e w2 ⟨rfl,J⟩;clear q0 q1 q2 q3 q4 q5 q6 q7 q8 q9 T U V ab;have aA:=hide (aa J ae (az HQ.out bd _));obtain ⟨q0,q1,q2,q3,q4,q5,q6,q7,q8,q9,T,U,V,ab⟩:=aA.out;rw [H2.out]
 gi_wp2_with fail
 refine ⟨trivial,(callsIn_wide.2 (uS c _ hn)).mono ?_⟩;rintro e f ⟨rfl,O⟩;clear q0 q1 q2 q3 q4 q5 q6 q7 q8 q9 T U V ab;have cy:G.heap.size+1≤w2.heap.size:=by have:=J.size;simp at this;omega
 have bl:=hide (aa O om aA.out);have R:ap f G #[ax c y] 3:=((ap.new G #[ax c y] 3).call J).call O;have cE:w2.heap.size≤f.heap.size:=O.size;have cI:w.heap.size<f.heap.size:=om;obtain ⟨q0,q1,q2,q3,q4,q5,q6,q7,q8,q9,T,U,V,ab⟩:=bl.out;rw [H3.out,← HN.out]
 gi_wp2_with fail
 refine ⟨trivial,(wh _ c _ _ _).mono ?_⟩;rintro e w5 ⟨rfl,rfl⟩;clear q0 q1 q2 q3 q4 q5 q6 q7 q8 q9 T U V ab
 gi_wp2_with fail
 have a6:0<n:=om;obtain ⟨I,E⟩:∃ I:World,I=((((f.alloc (fp n)).alloc (.cells #[.slice (some ⟨f,0,none⟩) n n] 94)).alloc (.cells (bY c) 24)).alloc (.cells #[.int .i64 (n:Int)] 3)).alloc (.cells #[aL c y] 3):=⟨_,rfl⟩;have ca:I.heap.size=f.heap.size+5:=by rw [E];simp
 have s0:ap I (f+2) (bY c) 24:=by
  rw [E];have:=((ap.new ((f.alloc (fp n)).alloc (.cells #[.slice (some ⟨f,0,none⟩) n n] 94)) (bY c) 24).alloc (.cells #[.int .i64 (n:Int)] 3)).alloc (.cells #[aL c y] 3);simpa using this
 have s1:ap I (f+3) #[.int .i64 (n:Int)] 3:=by
  rw [E];have:=(ap.new (((f.alloc (fp n)).alloc (.cells #[.slice (some ⟨f,0,none⟩) n n] 94)).alloc (.cells (bY c) 24)) #[.int .i64 (n:Int)] 3).alloc (.cells #[aL c y] 3);simpa using this
 have s2:ap I (f+4) #[aL c y] 3:=by
  rw [E];have:=ap.new ((((f.alloc (fp n)).alloc (.cells #[.slice (some ⟨f,0,none⟩) n n] 94)).alloc (.cells (bY c) 24)).alloc (.cells #[.int .i64 (n:Int)] 3)) #[aL c y] 3;simpa using this
 have s3:ap I (f+1) #[.slice (some ⟨f,0,none⟩) n n] 94:=by
  rw [E];have:=(((ap.new (f.alloc (fp n)) #[.slice (some ⟨f,0,none⟩) n n] 94).alloc (.cells (bY c) 24)).alloc (.cells #[.int .i64 (n:Int)] 3)).alloc (.cells #[aL c y] 3);simpa using this
 have s4:bf I f (List.replicate n 0):=by
  rw [E];exact ((((bf.new f n).alloc _).alloc _).alloc _).alloc _
 have s5:ap I G #[ax c y] 3:=by
  rw [E];exact ((((R.alloc _).alloc _).alloc _).alloc _).alloc _
 have bp:Below w w I:=by
  have b1:Below w w w2:=(bh.out.alloc (Nat.le_of_lt bd) _).trans (J.mono ae);have b2:Below w w f:=b1.trans (O.mono om);rw [E];refine Below.alloc (Below.alloc (Below.alloc (Below.alloc (Below.alloc b2 ?_ _) ?_ _) ?_ _) ?_ _) ?_ _ <;> first | omega | (simp;omega)
 rw [← E];have b5:G.heap.size<f.heap.size:=om;clear R J O E
 refine wpIn_rangeFunc_ownF (α:=PW n) rfl om (gf:=208) (lb:=#[.pointer (some ⟨f+2,0,none⟩),.pointer (some ⟨f+3,0,none⟩),.pointer (some ⟨f+4,0,none⟩)]) rfl trivial (enters_of Tryz.func208 (by kernel_rfl) rfl)
  (qR c n (aL c y) aF.out a0.out om a6 (f.heap.size+2) (f.heap.size+3) (f.heap.size+4) G.heap.size f.heap.size I s0 s1 s2 om om om om om)
  kD (fun W l o o' _ h1 h2 _=>oz W l o o' h1 h2) (Below.refl _ _) (fun _=>rfl)
  (fun F W=>(ap W G #[.int .i64 (vo (ax c y) F).1] 3∧ap W (f+1) #[.slice (some ⟨f,0,none⟩) n n] 94∧bf W f (vo (ax c y) F).2)∧Below w w W)
  (fun _ _ _=>False)
  (OwnFrom.and (Own.from (fun s A B c0 hs hg hr=>⟨dV hs.1 hg hr,dV hs.2.1 hg hr,wN hs.2.2 hg hr⟩) _) (ownFrom_below (Nat.le_refl _) om))
  (fun _ _ _ _ _ hs _ _=>hs)
  ⟨⟨s5,s3,s4⟩,bp⟩ ?a1 ?assign ?body ?done ?stop
 case assign =>
  intro l x W K hK
  gi_wp2
  exact hK
 case body =>
  rintro l F x W ⟨⟨u0,u1,u2⟩,hB⟩ b6;have hx:=x.2;have b9:=JF (ax c y) F;have a5:=GK (ax c y) F;have aB:=hide (u7 (ax c y) F x);have k0:W.cell? ⟨G,0,none⟩=some (.int .i64 (vo (ax c y) F).1):=u0.cell 0;have cM:W.frozen? ⟨G,0,none⟩=false:=by simp [World.frozen?,show W.heap[G.heap.size]?=_ from u0]
  have k1:W.cell? ⟨f+1,0,none⟩=some (.slice (some ⟨f,0,none⟩) n n):=u1.cell 0;have k2:=u2.cell (k:=x.1.1) (by rw [a5];exact hx.1);have cS:=u2.frozen x.1.1;have cb:(x.1.1:Int)<(n:Int):=by have:=hx.1;omega
  have cl:=hx.2;have b8:¬ G.heap.size=f.heap.size:=om;have b0:¬ f.heap.size=G.heap.size:=om;have b3:¬ f.heap.size+1=G.heap.size:=om;have U0:=hide u0;have U1:=hide u1;have U2:=hide u2;clear u0 u1 u2 a5 hx;generalize a3:(vo (ax c y) F).1=dd at *;generalize a4:(vo (ax c y) F).2=ll at *;have HG:=hide (And.intro a3 a4);clear a3 a4
  gi_wp2
  refine ⟨(KeepsOthers.setCell _ _ _).trans (KeepsOthers.setCell _ _ _),kD (mH _ _ _ (.inl rfl)) (mH _ _ _ (.inr rfl)),⟨⟨?_,?_,?_⟩,?_⟩⟩
  ·rw [aB.out];exact (U0.out.set0 _).far ae _
  ·exact (U1.out.far ae _).far ac _
  ·rw [aB.out];exact (U2.out.far ae _).set _ _
  ·exact (hB.setCell ae _).setCell ae _
 case done =>
  rintro D xs W hD rfl ⟨⟨u0,u1,u2⟩,hB⟩ hK;have k1:W.cell? ⟨f+1,0,none⟩=some (.slice (some ⟨f,0,none⟩) n n):=u1.cell 0;have U2:=hide u2;clear u0 u1 u2
  gi_wp2
  refine ⟨by simp,.inl ⟨_,_,rfl,run_takeDeferred hK,?_⟩⟩;have bw:=C4 c y n a6 aF.out a0.out n (Nat.le_refl _);have hI:=U2.out;rw [bw] at hI;simp only [iz] at hI;have a2:bi c y=(List.range n).map fun i=>bZ c y (i+1)-1:=by rw [HL.out,← HN.out];simp
  refine ⟨_,results_tmp2 rfl _ _ _,f.heap.size,by omega,?_,?_,?_⟩
  ·rw [a2];simp
  ·rw [a2]
   exact wN hI (grownBy_putObj' W D _) (fun r e=>by cases e;exact ⟨_,hK,rfl⟩)
  ·exact hB.trans (belowK_b (w:=w) (Nat.le_refl _) W D _ _ om hK rfl rfl)
 case stop =>
  rintro D cc F W _ _ h _;exact h.elim
def aM (c:ar) (y:Int) (k:Nat):Int:=if k=0 then ax c y else (bi c y)[k-1]?.getD 0+1
def bJ (c:ar) (y:Int) (k:Nat):Int:=(bi c y)[k]?.getD 0
theorem DX (c:ar) (F:Int) (H:Int) (R:1≤c.extra) (f:Nat→Int) (I:f 0=H) (J:∀ k,f (k+1)=f k+7*cD c F k) (k:Nat) :
  f k=H+7*(((k / 3:Nat):Int)*(eK c+eJ c+eP c)+(if 1≤k % 3 then eK c else 0)+(if 2≤k % 3 then eJ c else 0))+7*(if c.extra≤(k:Int) then F-52 else 0):=by
 induction k with
 | zero =>
  rw [I];rw [if_neg om,if_neg om,if_neg om];simp
 | succ k O =>
  rw [J,O];have h:k % 3=0∨k % 3=1∨k % 3=2:=om;unfold cD jk;have G:(if c.extra≤((k+1:Nat):Int) then F-52 else 0)=(if c.extra≤(k:Int) then F-52 else 0)+(if (k:Int)+1=c.extra then F-52 else 0):=by
   split <;> split <;> split <;> omega
  rw [G];rcases h with h | h | h
  ·have o:(k+1) % 3=1:=om
   have E:(k+1) / 3=k / 3:=om;simp only [h,o,E];simp;omega
  ·have o:(k+1) % 3=2:=om
   have E:(k+1) / 3=k / 3:=om;simp only [h,o,E];simp;omega
  ·have o:(k+1) % 3=0:=om
   have E:(k+1) / 3=k / 3+1:=om;simp only [h,o,E];simp;rw [Int.add_mul];omega
theorem AM (c:ar) (y:Int) (J:aO c y 1601=0) (h4:¬ c.shape=4) (T:¬ c.shape=5):bZ c y (cj c).toNat=bv c y+1:=by
 obtain ⟨G,ad,ah⟩:=bo J;have F:c.okB=true:=by simpa [ar.okB] using G
 have H:c.kind≠6:=fun e=>T ((dT G).2.1.1 e)
 have U:=iE c y J H;have O:fZ c=true:=by simp [fZ,F,H]
 have ab:aL c y=bP c y / 7:=by simp [aL,O]
 have hD:bP c y=bv c y-ax c y+1:=by simp [bP,J]
 have I:cj c=bC c.shape c.cycle:=by simp [cj,F]
 obtain ⟨_,_,_,V⟩:=G;unfold ar.ruled ar.weeks dB ar.pat0 at V;have hx:1≤c.extra∧c.extra≤bC c.shape c.cycle∧((c.shape=1∧c.p0+c.p1+c.p2=13)∨c.shape=2∨(c.shape=3∧(c.cycle=1∨c.cycle=2∨c.cycle=4))):=by
  have m1:c.shape=1→bC c.shape c.cycle=12:=by intro h;simp [bC,h]
  omega
 obtain ⟨R,o,S⟩:=hx;have W:=DX c (aL c y) (ax c y) R (bZ c y) rfl (fun _=>rfl) (cj c).toNat;rw [W,I];rcases S with ⟨f,hp⟩ | f | ⟨f,E | E | E⟩
 ·have em:bC c.shape c.cycle=12:=by simp [bC,f]
  rw [em] at o ⊢;rw [if_pos (show c.extra≤((12:Int).toNat:Int) by simpa using o)];simp [eK,eJ,eP,f];omega
 ·have em:bC c.shape c.cycle=13:=by simp [bC,f]
  rw [em] at o ⊢;rw [if_pos (show c.extra≤((13:Int).toNat:Int) by simpa using o)];simp [eK,eJ,eP,f];omega
 ·have em:bC c.shape c.cycle=52:=by simp [bC,f,E]
  rw [em] at o ⊢;rw [if_pos (show c.extra≤((52:Int).toNat:Int) by simpa using o)];simp [eK,eJ,eP,f,E];omega
 ·have em:bC c.shape c.cycle=26:=by simp [bC,f,E]
  rw [em] at o ⊢;rw [if_pos (show c.extra≤((26:Int).toNat:Int) by simpa using o)];simp [eK,eJ,eP,f,E];omega
 ·have em:bC c.shape c.cycle=13:=by simp [bC,f,E]
  rw [em] at o ⊢;rw [if_pos (show c.extra≤((13:Int).toNat:Int) by simpa using o)];simp [eK,eJ,eP,f,E];omega
end
section
open Go.RowKit Qd
def fx (t:Int):Int:=jl (t / 12) (t % 12+1) 1
theorem ik (t:Int) (f:19200≤t) (h:t<120000):aP (t / 12) (t % 12+1)=true:=by
 simp [aP];omega
theorem ou (t:Int) (h:19200≤t) (o:t<120000):dc (t / 12) (t % 12+1) 1=true:=by
 have f:=ik t h o;have:=nf _ _ f;simp [dc,f];omega
theorem i5 (t:Int) (H:19200≤t) (R:t+1<120000):fx t+bS (t / 12) (t % 12+1)=fx (t+1):=by
 have O:=ik t H om;have J:bS (t / 12) (t % 12+1)=aK (t / 12) (t % 12+1+1)-aK (t / 12) (t % 12+1):=by unfold bS;rw [if_pos O]
 unfold fx jl;rw [J];by_cases h:t % 12=11
 ·have f:(t+1) / 12=t / 12+1:=om
  have o:(t+1) % 12=0:=om;rw [f,o,h];have S:=ed (t / 12) om om;have E:=gK (t / 12);have I:=lB (t / 12+1);have F:(11:Int)+1+1=13:=by decide
  have G:(0:Int)+1=1:=by decide
  rw [F,G,E,I];omega
 ·have f:(t+1) / 12=t / 12:=om
  have o:(t+1) % 12=t % 12+1:=om;rw [f,o];omega
theorem oi (t:Int) (f:19200≤t) (h:t+1<120000):bK (t / 12) (t % 12+1)+1=fx (t+1):=by
 rw [← i5 t f h];unfold bK fx jl;omega
theorem nR (t:Int) (f:19200≤t) (h:t<120000):dL (fx t)=t / 12∧jU (fx t)=t % 12+1:=by
 have:=zQ (ou t f h);exact ⟨this.1,this.2.1⟩
theorem kF (t:Int) (h:19200≤t) (k:Nat) (o:t+k<120000):dK (fx t) k=fx (t+k):=by
 induction k with
 | zero=>simp [dK]
 | succ k f =>
  have:=nR (t+k) om om;unfold dK;rw [f om,this.1,this.2,i5 (t+k) om om];congr 1;omega
def iK (c:ar) (y:Int):Int:=(y-1+c.shift)*12+c.month
theorem fK (c:ar) (y:Int) (E:aO c y 1601=0) (f:c.kind=6):ax c y=fx (iK c y):=by
 obtain ⟨h,H,I⟩:=bo E;obtain ⟨R,S,O,J⟩:=cg h;have e:ax c y=bK (y-1+c.shift) c.month+1:=by simp [ax,E,ct,f]
 have o:=oi (iK c y-1) (by unfold iK;omega) (by unfold iK;omega);have F:(iK c y-1) / 12=y-1+c.shift:=by unfold iK;omega
 have G:(iK c y-1) % 12+1=c.month:=by unfold iK;omega
 rw [F,G] at o;rw [e,o];congr 1;omega
theorem yW (c:ar) (y:Int) (E:aO c y 1600=0) (f:c.kind=6):bv c y=fx (iK c y+12)-1:=by
 obtain ⟨h,I,J⟩:=bo E;obtain ⟨S,T,R,O⟩:=cg h;have e:bv c y=bK (y+c.shift) c.month:=by simp [bv,E,ct,f]
 have o:=oi (iK c y+11) (by unfold iK;omega) (by unfold iK;omega);have F:(iK c y+11) / 12=y+c.shift:=by unfold iK;omega
 have G:(iK c y+11) % 12+1=c.month:=by unfold iK;omega
 rw [F,G] at o;have H:iK c y+11+1=iK c y+12:=om;rw [H] at o;omega
theorem ly (y m:Int) (h:aP y m=true):cz y m 7=bK y m-gR y m % 7:=by
 have f:f9 y m 7=0:=by simp [f9,h]
 simp [cz,f]
theorem BQ (y m:Int) (F:1600≤y) (G:y≤9999) (H:1≤m) (I:m≤11) :
  (cz y (m+1) 7-cz y m 7) % 7=0∧28≤cz y (m+1) 7-cz y m 7∧cz y (m+1) 7-cz y m 7≤35:=by
 have h:aP y m=true:=by simp [aP];omega
 have f:aP y (m+1)=true:=by simp [aP];omega
 rw [ly y m h,ly y (m+1) f];have O:=nf y (m+1) f;have R:=jX y (m+1);have J:bS y (m+1)=aK y (m+1+1)-aK y (m+1):=by unfold bS;rw [if_pos f]
 have o:=gE y m h;have E:=gE y (m+1) f;unfold gR;omega
theorem Ap (y:Int) (I:1600≤y) (J:y≤9998) :
  (cz (y+1) 1 7-cz y 12 7) % 7=0∧28≤cz (y+1) 1 7-cz y 12 7∧cz (y+1) 1 7-cz y 12 7≤35:=by
 have h:aP y 12=true:=by simp [aP];omega
 have o:aP (y+1) 1=true:=by simp [aP];omega
 rw [ly y 12 h,ly (y+1) 1 o];have F:=gE y 12 h;have G:=gE (y+1) 1 o;have O:=ed y om om;have f:=gK y;have E:aK (y+1) (1+1)=31:=by simp [aK,lR]
 have H:(12:Int)+1=13:=by decide
 rw [H,f] at F;rw [E] at G;unfold gR;omega
theorem mL (y:Int):(px y).length=12:=by simp [px]
theorem oU (d:Int):(qs d).length=12:=by simp [qs]
theorem gQ (c:ar) (y:Int) (o:c.okB=true):((bi c y).length:Int)=cj c:=by
 have f:cj c=bC c.shape c.cycle:=by simp [cj,o]
 unfold bi
 split
 ·rename_i h;rw [mL,f];simp [bC,h]
 ·split
  ·rename_i h;rw [oU,f];simp [bC,h]
  ·have:=eM c o
   simp;omega
theorem bM (c:ar) (y:Int) (k:Nat):aM c y (k+1)=bJ c y k+1:=by
 unfold aM bJ;rw [if_neg om];simp
theorem dM (c:ar) (y:Int) (R:aO c y 1601=0) (k:Nat) (I:k<(bi c y).length) :
  7≤bJ c y k-aM c y k+1∧bJ c y k-aM c y k+1≤42∧(c.kind≠6→(bJ c y k-aM c y k+1) % 7=0):=by
 obtain ⟨o,aB,aF⟩:=bo R;have F:c.okB=true:=by simpa [ar.okB] using o
 have al:=gQ c y F;obtain ⟨s4,s6,_,_⟩:=dT o;by_cases S:c.shape=4
 ·have U:c.kind=4:=s4.2 S
  have E:bi c y=px y:=by simp [bi,S]
  rw [E,mL] at I;have H:bJ c y k=cz y ((k:Int)+1) 7:=by unfold bJ;rw [E];simp [px,nj,I]
  have J:aM c y k=(if k=0 then cz (y-1) 12 7 else cz y (k:Int) 7)+1:=by
   unfold aM
   split
   ·obtain ⟨_,_,_,hr⟩:=o
    unfold ar.ruled ar.weeks dB ar.pat0 at hr;have V:c.month=12∧c.day=7∧c.shift=0:=om;have ht:aP (y-1) 12=true:=by simp [aP];omega
    have G:y-1+c.shift=y-1:=om;rw [ly (y-1) 12 ht];simp [ax,R,ct,U,G,V.1,V.2.1]
   ·rename_i h0
    rw [E];have G:((k-1:Nat):Int)+1=k:=om;simp [px,nj,show k-1<12 by omega,G]
  rw [H,J]
  split
  ·rename_i h0
   subst h0;have:=Ap (y-1) om om;have G:y-1+1=y:=om;rw [G] at this;simp;omega
  ·have:=BQ y k om om om om
   omega
 ·by_cases O:c.shape=5
  ·have f:c.kind=6:=s6.2 O
   obtain ⟨V,hs,_,_⟩:=cg o;have E:bi c y=qs (ax c y):=by simp [bi,O]
   rw [E,oU] at I;have b1:19200≤iK c y∧iK c y+12<120000:=by unfold iK;omega
   have H:∀ j:Nat,j<12→bJ c y j=fx (iK c y+j+1)-1:=by
    intro j T;unfold bJ;rw [E,fK c y R f];have:=kF (iK c y) b1.1 (j+1) om;simp [qs,oB,T,this];congr 1;omega
   have J:aM c y k=fx (iK c y+k):=by
    cases k with
    | zero=>simp [aM,fK c y R f]
    | succ k =>
     rw [bM,H k om];have G:iK c y+((k+1:Nat):Int)=iK c y+k+1:=om;rw [G];omega
   have W:=i5 (iK c y+k) om om;have ht:=ik (iK c y+k) om om;have l1:=nf _ _ ht;have l2:=jX ((iK c y+k) / 12) ((iK c y+k) % 12+1);rw [H k I,J,← W];exact ⟨by omega,by omega,fun h=>absurd f h⟩
  ·have f:c.kind≠6:=fun e=>O (s6.1 e)
   have E:bi c y=(List.range (cj c).toNat).map fun i=>bZ c y (i+1)-1:=by simp [bi,S,O]
   have ad:=uE o S O;have aq:=iE c y R f;have aA:aL c y=bP c y / 7:=by simp [aL,fZ,F,f]
   have ah:aL c y=52∨aL c y=53:=om;have ay:=pg c (aL c y) k ad ah;rw [E] at I;simp at I;have H:∀ j:Nat,(j:Int)<cj c→bJ c y j=bZ c y (j+1)-1:=by
    intro j T;unfold bJ;rw [E];simp [T]
   have J:aM c y k=bZ c y k:=by
    cases k with
    | zero=>simp [aM,bZ]
    | succ k=>rw [bM,H k om];omega
   have ab:bZ c y (k+1)=bZ c y k+7*cD c (aL c y) k:=rfl;rw [H k I,J,ab];exact ⟨by omega,by omega,fun _=>by omega⟩
theorem il (c:ar) (y:Int) (f:aO c y 1601=0) (k:Nat) (F:k≤(bi c y).length):ax c y≤aM c y k∧aM c y k≤ax c y+42*k:=by
 induction k with
 | zero=>simp [aM]
 | succ k h =>
  have o:=h om;have E:=dM c y f k om;rw [bM];omega
theorem uM (c:ar) (y:Int) (w:World) (h:c.name.size≤1000) (f:aO c y 1601=0):Calls Tryz.prog 89 #[av c,y] w (mQ c y w):=by
 by_cases o:c.shape=4
 ·exact yc c y w h f o
 ·by_cases E:c.shape=5
  ·exact yk c y w h f E
  ·exact zd c y w h f o E
def jr (c:ar) (y:Int) (k:Nat):Int:=(bJ c y k-aM c y k) / 7+1
def jW (c:ar) (y:Int):List Int:=(List.range (bi c y).length).map (jr c y)
theorem Az (c:ar) (y:Int):(jW c y).length=(bi c y).length:=by simp [jW]
theorem nG (c:ar) (y:Int) (o:aO c y 1601=0) (f:c.kind=6) (j:Nat) (H:j<12):bJ c y j=fx (iK c y+j+1)-1:=by
 obtain ⟨h,I,J⟩:=bo o;obtain ⟨O,R,_,_⟩:=cg h;have G:=(dT h).2.1.1 f;have F:bi c y=qs (ax c y):=by simp [bi,G]
 have E:19200≤iK c y∧iK c y+12<120000:=by unfold iK;omega
 unfold bJ;rw [F,fK c y o f];have:=kF (iK c y) E.1 (j+1) om;simp [qs,oB,H,this];congr 1;omega
theorem xr (c:ar) (y:Int) (h:aO c y 1601=0) (f:c.kind=6) (k:Nat) (E:k<12):aM c y k=fx (iK c y+k):=by
 cases k with
 | zero=>simp [aM,fK c y h f]
 | succ k =>
  rw [bM,nG c y h f k om];have o:iK c y+((k+1:Nat):Int)=iK c y+k+1:=om;rw [o];omega
theorem gH (c:ar) (y:Int) (F:aO c y 1601=0):aM c y (bi c y).length=bv c y+1∧12≤(bi c y).length∧(bi c y).length≤52:=by
 obtain ⟨E,ab,ad⟩:=bo F;have h:c.okB=true:=by simpa [ar.okB] using E
 have T:=gQ c y h;have V:=eM c h;obtain ⟨s4,s6,_,_⟩:=dT E;refine ⟨?_,by omega,by omega⟩;by_cases H:c.shape=4
 ·have O:c.kind=4:=s4.2 H
  have o:bi c y=px y:=by simp [bi,H]
  have f:(bi c y).length=11+1:=by rw [o,mL]
  rw [f,bM];have J:bJ c y 11=cz y 12 7:=by unfold bJ;rw [o];simp [px,nj]
  obtain ⟨_,_,_,W⟩:=E;unfold ar.ruled ar.weeks dB ar.pat0 at W;have R:c.month=12∧c.day=7∧c.shift=0:=om;have ht:aP y 12=true:=by simp [aP];omega
  rw [J,ly y 12 ht];simp [bv,fo F,ct,O,R.1,R.2.1,R.2.2]
 ·by_cases I:c.shape=5
  ·have G:c.kind=6:=s6.2 I
   have o:bi c y=qs (ax c y):=by simp [bi,I]
   have f:(bi c y).length=11+1:=by rw [o,oU]
   rw [f,bM,nG c y F G 11 om,yW c y (fo F) G];congr 3;omega
  ·have o:bi c y=(List.range (cj c).toNat).map fun i=>bZ c y (i+1)-1:=by simp [bi,H,I]
   have U:=AM c y F H I;obtain ⟨n,S⟩:∃ n:Nat,(cj c).toNat=n+1:=⟨(cj c).toNat-1,by omega⟩;have f:(bi c y).length=n+1:=by rw [o];simp [S]
   rw [f,bM];rw [S] at U;have J:bJ c y n=bZ c y (n+1)-1:=by
    unfold bJ;rw [o];simp [S]
   rw [J,U];omega
def i6:Int→Int→List (Int × Int)→Prop
 | s,e,[]=>s=e
 | s,e,x::l=>x.1=s∧x.1≤x.2∧x.2≤x.1+6∧i6 (x.2+1) e l
theorem mz {s m e:Int} {a b:List (Int × Int)} (h:i6 s m a) (f:i6 m e b):i6 s e (a++b):=by
 induction a generalizing s with
 | nil=>have:s=m:=h;rw [this];exact f
 | cons x l H=>obtain ⟨o,E,F,G⟩:=h;exact ⟨o,E,F,H G⟩
theorem qH {s m:Int} {a:List (Int × Int)} (h:i6 s m a) (x:Int × Int) (f:x.1=m) (o:x.1≤x.2) (E:x.2≤x.1+6):i6 s (x.2+1) (a++[x]):=
 mz h ⟨f,o,E,rfl⟩
def tn (s:Int) (l:List (Int × Int)) (i:Nat):Int:=if i=0 then s else (l[i-1]?.getD (0,0)).2+1
theorem pJ (s:Int) (l:List (Int × Int)) (i:Nat):tn s l (i+1)=(l[i]?.getD (0,0)).2+1:=by simp [tn]
theorem A9 {s e:Int} {l:List (Int × Int)} (h:i6 s e l):tn s l l.length=e:=by
 induction l generalizing s with
 | nil=>exact h
 | cons x l G =>
  obtain ⟨H,I,J,o⟩:=h;have:=G o;rw [List.length_cons,pJ];unfold tn at this
  split at this
  ·rename_i h0
   have E:l=[]:=List.eq_nil_of_length_eq_zero h0;subst E;exact this
  ·rename_i h0
   have f:(x::l)[l.length]?=l[l.length-1]?:=by
    obtain ⟨k,F⟩:∃ k,l.length=k+1:=⟨l.length-1,by omega⟩;rw [F];simp
   rw [f];exact this
theorem AN {s e:Int} {l:List (Int × Int)} (h:i6 s e l) (i:Nat) (hi:i<l.length) :
  l[i]?=some (tn s l i,tn s l (i+1)-1)∧tn s l i<tn s l (i+1)∧tn s l (i+1)≤tn s l i+7:=by
 induction l generalizing s i with
 | nil=>simp at hi
 | cons x l H =>
  obtain ⟨F,I,J,G⟩:=h;cases i with
  | zero =>
   have f:tn s (x::l) 0=x.1:=by simp [tn,F]
   have E:tn s (x::l) (0+1)=x.2+1:=by simp [tn]
   rw [f,E];refine ⟨?_,by omega,by omega⟩;have:(x.1,x.2+1-1)=x:=by rw [show x.2+1-1=x.2 by omega]
   simp [this]
  | succ i =>
   have o:i<l.length:=by simpa using hi
   have:=H G i o;have f:∀ j,tn s (x::l) (j+1)=tn (x.2+1) l j:=by
    intro j;rw [pJ];cases j with
    | zero=>simp [tn]
    | succ j=>rw [pJ];simp
   rw [f,f];simpa using this
theorem xM (f t:Int) (h:f≤t) (j:Nat) (E:f+7*j≤t):i6 f (f+7*j) (bm (fun j:Nat=>(f+7*(j:Int),min (f+7*(j:Int)+6) t)) j):=by
 induction j with
 | zero=>simp [bm,i6]
 | succ j o =>
  rw [bB];have:=qH (o om) (f+7*(j:Int),min (f+7*(j:Int)+6) t) rfl ae ae;have e:(f+7*(j:Int),min (f+7*(j:Int)+6) t).2+1=f+7*((j+1:Nat):Int):=ae;rw [e] at this;exact this
theorem uR (f t:Int) (h:f≤t):i6 f (t+1) (bm (fun j:Nat=>(f+7*(j:Int),min (f+7*(j:Int)+6) t)) ((t-f) / 7+1).toNat):=by
 obtain ⟨j,E⟩:∃ j:Nat,((t-f) / 7+1).toNat=j+1:=⟨((t-f) / 7).toNat,by omega⟩;rw [E,bB];have o:f+7*(j:Int)≤t∧t≤f+7*(j:Int)+6:=om;have:=qH (xM f t h j o.1) (f+7*(j:Int),min (f+7*(j:Int)+6) t) rfl ae ae;have e:(f+7*(j:Int),min (f+7*(j:Int)+6) t).2+1=t+1:=ae;rw [e] at this;exact this
def oZ (c:ar) (y:Int) (k:Nat):Nat:=(jr c y k).toNat
def ci (c:ar) (y:Int):Nat→Nat
 | 0=>0
 | k+1=>ci c y k+oZ c y k
def gu (c:ar) (y:Int) (k:Nat) (j:Nat):Int × Int:=(aM c y k+7*(j:Int),min (aM c y k+7*(j:Int)+6) (bJ c y k))
def gM (c:ar) (y:Int):Nat→List (Int × Int)
 | 0=>[]
 | k+1=>gM c y k++bm (gu c y k) (oZ c y k)
theorem jH (c:ar) (y:Int) (k:Nat):(gM c y k).length=ci c y k:=by
 induction k with
 | zero=>rfl
 | succ k f=>simp [gM,ci,f,bk]
def aU (c:ar) (y:Int):Nat:=(bi c y).length
def bW (c:ar) (y:Int):Nat:=ci c y (aU c y)
def oY (c:ar) (y:Int):List (Int × Int):=gM c y (aU c y)
theorem fQ (c:ar) (y:Int):(oY c y).length=bW c y:=jH c y _
def bD (c:ar) (y:Int) (i:Nat):Int:=tn (ax c y) (oY c y) i
theorem lD (c:ar) (y:Int) (f:aO c y 1601=0) (k:Nat) (h:k<aU c y):1≤oZ c y k∧oZ c y k≤6:=by
 have:=dM c y f k h;unfold oZ jr;omega
theorem yO (c:ar) (y:Int) (f:aO c y 1601=0) (k:Nat) (h:k≤aU c y):i6 (ax c y) (aM c y k) (gM c y k):=by
 induction k with
 | zero=>simp [gM,i6,aM]
 | succ k o =>
  have E:=dM c y f k h;refine mz (o om) ?_;rw [bM];exact uR (aM c y k) (bJ c y k) om
theorem sk (c:ar) (y:Int) (f:aO c y 1601=0):i6 (ax c y) (bv c y+1) (oY c y):=by
 have:=yO c y f (aU c y) (Nat.le_refl _)
 rwa [show aM c y (aU c y)=bv c y+1 from (gH c y f).1] at this
theorem Ds (c:ar) (y:Int) (k m:Nat):∃ r,gM c y (k+m)=gM c y k++r:=by
 induction m with
 | zero=>exact ⟨[],by simp⟩
 | succ m h =>
  obtain ⟨r,f⟩:=h;exact ⟨r++bm (gu c y (k+m)) (oZ c y (k+m)),by rw [← Nat.add_assoc,gM,f,List.append_assoc]⟩
theorem AW (c:ar) (y:Int) (k m:Nat):ci c y k≤ci c y (k+m):=by
 induction m with
 | zero=>exact Nat.le_refl _
 | succ m f=>rw [← Nat.add_assoc,ci];omega
theorem lF (c:ar) (y:Int) {k m:Nat} (h:k≤m):ci c y k≤ci c y m:=by
 have:=AW c y k (m-k)
 rwa [show k+(m-k)=m by omega] at this
theorem GC (c:ar) (y:Int) (o:aO c y 1601=0) {k m:Nat} (h:k<m) (F:m≤aU c y):ci c y k<ci c y m:=by
 have f:=lF c y (show k+1≤m by omega);have E:=lD c y o k om;rw [ci] at f;omega
theorem Gu (c:ar) (y:Int) (k j:Nat) (o:k<aU c y) (h:j<oZ c y k):(oY c y)[ci c y k+j]?=some (gu c y k j):=by
 obtain ⟨r,f⟩:=Ds c y (k+1) (aU c y-(k+1));rw [show k+1+(aU c y-(k+1))=aU c y by omega] at f;unfold oY;rw [f,List.getElem?_append_left (by rw [jH,ci];omega),gM,List.getElem?_append_right (by rw [jH];omega),jH];simp [bm,h]
theorem kc (c:ar) (y:Int):bD c y 0=ax c y:=by simp [bD,tn]
theorem eV (c:ar) (y:Int) (f:aO c y 1601=0):bD c y (bW c y)=bv c y+1:=by
 have:=A9 (sk c y f)
 rwa [fQ] at this
theorem en (c:ar) (y:Int) (f:aO c y 1601=0) (i:Nat) (hi:i<bW c y) :
  (oY c y)[i]?=some (bD c y i,bD c y (i+1)-1)∧bD c y i<bD c y (i+1)∧bD c y (i+1)≤bD c y i+7:=
 AN (sk c y f) i (by rw [fQ];exact hi)
theorem Hf (c:ar) (y:Int) (F:aO c y 1601=0) (k j:Nat) (H:k<aU c y) (G:j<oZ c y k):bD c y (ci c y k+j)=aM c y k+7*(j:Int):=by
 have o:=Gu c y k j H G;have f:ci c y k+j<bW c y:=by
  have:=lF c y (show k+1≤aU c y by omega);rw [ci] at this;unfold bW;omega
 have h:=(en c y F _ f).1;rw [o] at h;have E:=Option.some.inj h;have:=congrArg Prod.fst E;exact this.symm
theorem wi (c:ar) (y:Int) (f:aO c y 1601=0) (k:Nat) (E:k≤aU c y):bD c y (ci c y k)=aM c y k:=by
 rcases Nat.lt_or_eq_of_le E with h | h
 ·have:=Hf c y f k 0 h (by have:=lD c y f k h;omega)
  simpa using this
 ·subst h
  have o:=eV c y f;unfold bW at o;rw [o];exact (gH c y f).1.symm
theorem ft (c:ar) (y:Int) (f:aO c y 1601=0) {i j:Nat} (h:i<j) (G:j≤bW c y):bD c y i+(j-i)≤bD c y j:=by
 obtain ⟨m,rfl⟩:∃ m,j=i+1+m:=⟨j-i-1,by omega⟩
 induction m with
 | zero =>
  have:=(en c y f i om).2.1;simp;omega
 | succ m o =>
  have E:=o om om;have F:=(en c y f (i+1+m) om).2.1;rw [← Nat.add_assoc];omega
theorem cn (c:ar) (y:Int) (f:aO c y 1601=0) {i j:Nat} (h:i≤j) (o:j≤bW c y):bD c y i≤bD c y j:=by
 rcases Nat.lt_or_eq_of_le h with h | h
 ·have:=ft c y f h o;omega
 ·subst h;omega
theorem Iw (c:ar) (y:Int) (o:aO c y 1601=0) (f:c.kind≠6) (k:Nat) (E:k≤aU c y):aM c y k=ax c y+7*(ci c y k:Int):=by
 induction k with
 | zero=>simp [aM,ci]
 | succ k F =>
  have G:=F om;have h:=dM c y o k E;have H:=h.2.2 f;rw [bM,ci];unfold oZ jr;omega
theorem Fe (c:ar) (y:Int) (f:aO c y 1601=0) (h:c.kind≠6):bP c y=7*(bW c y:Int):=by
 have o:=Iw c y f h (aU c y) (Nat.le_refl _);have E:aM c y (aU c y)=bv c y+1:=(gH c y f).1;have F:bP c y=bv c y-ax c y+1:=by simp [bP,f]
 unfold bW;omega
theorem nB (c:ar) (y:Int) (h:aO c y 1601=0) (E:c.kind≠6) (i:Nat) (hi:i≤bW c y):bD c y i=ax c y+7*(i:Int):=by
 have G:∀ m:Nat,i+m=bW c y→bD c y i=ax c y+7*(i:Int):=by
  intro m J;have S:=Fe c y h E;have R:bP c y=bv c y-ax c y+1:=by simp [bP,h]
  have I:=eV c y h;have O:∀ j:Nat,j≤bW c y→bD c y j≤ax c y+7*(j:Int):=by
   intro j
   induction j with
   | zero=>intro _;simp [kc]
   | succ j F =>
    intro T;have H:=F om;have o:=(en c y h j om).2.2;omega
  have f:∀ m:Nat,m≤bW c y→bv c y+1≤bD c y (bW c y-m)+7*(m:Int):=by
   intro m
   induction m with
   | zero=>intro _;simp [I]
   | succ m F =>
    intro J;have H:=F om;have o:=(en c y h (bW c y-(m+1)) om).2.2;rw [show bW c y-(m+1)+1=bW c y-m by omega] at o;omega
  have H:=O i hi;have o:=f m om;rw [show bW c y-m=i by omega] at o;omega
 exact G (bW c y-i) om
theorem di (c:ar) (y:Int) (h:aO c y 1601=0):12≤bW c y∧bW c y≤60:=by
  have H:=gH c y h;have hn:12≤aU c y∧aU c y≤52:=⟨H.2.1,H.2.2⟩;constructor
  · have : ∀ k, k ≤ aU c y → k ≤ ci c y k := by
      intro k
      induction k with
      | zero=>intro _;exact Nat.zero_le _
      | succ k F =>
        intro G;have O:=F om;have R:=lD c y h k G;rw [ci];omega
    have:=this _ (Nat.le_refl _);unfold bW;omega
  · by_cases f:c.kind=6
    · have E : aU c y = 12 := by
        obtain ⟨o,_,_⟩:=bo h;have:=(dT o).2.1.1 f;unfold aU bi;rw [if_neg om,if_pos this,oU]
      have:∀ k,k≤12→ci c y k≤5*k:=by
        intro k
        induction k with
        | zero=>intro _;simp [ci]
        | succ k F =>
          intro G;have O:=F om;have R:jr c y k≤5:=by
            have I:=nG c y h f k om;have J:=xr c y h f k om;obtain ⟨o,T,U⟩:=bo h;obtain ⟨W,hs,_,_⟩:=cg o;have S:=i5 (iK c y+k) (by unfold iK;omega) (by unfold iK;omega);have l2:=jX ((iK c y+k) / 12) ((iK c y+k) % 12+1);unfold jr;rw [I,J];omega
          rw [ci];unfold oZ;omega
      have:=this 12 om;unfold bW;rw [E];omega
    · have V:=Fe c y h f
      have:=iE c y h f;omega
def aR (c:ar) (y:Int) (lv:Int):Nat:=if lv=1 then 1 else if lv=2 then 2 else if lv=3 then 4 else if lv=4 then aU c y else bW c y
def ce (n:Nat) (lv:Int) (i:Nat):Nat:=if lv=1 then n*i else if lv=2 then n*(2*i) / 4 else if lv=3 then n*i / 4 else i
def aW (c:ar) (y:Int) (lv:Int) (i:Nat):Nat:=if lv=5 then i else ci c y (ce (aU c y) lv i)
def dm (c:ar) (y:Int) (lv:Int):List Int:=bm (fun i=>(aW c y lv (i+1):Int)) (aR c y lv)
theorem ip (c:ar) (y lv:Int):(dm c y lv).length=aR c y lv:=by simp [dm,bk]
theorem gr (c:ar) (y lv:Int) (i:Nat) (hi:i<aR c y lv):(dm c y lv)[i]?.getD 0=(aW c y lv (i+1):Int):=by simp [dm,bm,hi]
theorem fs (c:ar) (y:Int) (f:aO c y 1601=0):12≤aU c y∧aU c y≤52:=(gH c y f).2
theorem dv (c:ar) (y:Int) (f:aO c y 1601=0) (lv:Int):1≤aR c y lv∧aR c y lv≤60:=by
 have:=fs c y f;have:=di c y f;unfold aR
 repeat' split
 all_goals omega
theorem zq (c:ar) (y lv:Int):aW c y lv 0=0:=by
 unfold aW ce
 repeat' split
 all_goals simp [ci]
theorem lm (c:ar) (y lv:Int) (f:1≤lv) (o:lv≤5):aW c y lv (aR c y lv)=bW c y:=by
 have h:lv=1∨lv=2∨lv=3∨lv=4∨lv=5:=om;rcases h with rfl | rfl | rfl | rfl | rfl
 ·simp [aW,aR,ce,bW]
 ·simp [aW,aR,ce,bW]
 ·simp [aW,aR,ce,bW]
 ·simp [aW,aR,ce,bW]
 ·simp [aW,aR,ce,bW]
theorem zX (n:Nat) (lv:Int) (f:12≤n) (i:Nat):ce n lv i<ce n lv (i+1):=by
 unfold ce
 repeat' split
 ·rw [Nat.mul_succ];omega
 ·have:n*(2*(i+1))=n*(2*i)+2*n:=by rw [Nat.mul_add,Nat.mul_add];omega
  omega
 ·have:n*(i+1)=n*i+n:=by rw [Nat.mul_succ]
  omega
 ·omega
theorem Em (n:Nat) (lv:Int) (c:ar) (y:Int) (f:1≤lv) (o:lv≤4):ce (aU c y) lv (aR c y lv)=aU c y:=by
 have h:lv=1∨lv=2∨lv=3∨lv=4:=om;rcases h with rfl | rfl | rfl | rfl <;> simp [aR,ce]
theorem Ax (n:Nat) (lv:Int) (f:12≤n) (i j:Nat) (h:i≤j):ce n lv i≤ce n lv j:=by
 obtain ⟨m,rfl⟩:∃ m,j=i+m:=⟨j-i,by omega⟩
 induction m with
 | zero=>exact Nat.le_refl _
 | succ m o =>
  have E:=o om;have F:=zX n lv f (i+m);rw [← Nat.add_assoc];omega
theorem kx (c:ar) (y:Int) (h:aO c y 1601=0) (lv:Int) (E:1≤lv) (F:lv≤5) (i:Nat) (hi:i<aR c y lv):aW c y lv i<aW c y lv (i+1):=by
 unfold aW
 split
 ·omega
 ·have o:=(fs c y h).1
  have f:=Ax (aU c y) lv o (i+1) (aR c y lv) om;rw [Em 0 lv c y E om] at f;exact GC c y h (zX _ lv o i) f
theorem dj (c:ar) (y:Int) (E:aO c y 1601=0) (lv:Int) (f:1≤lv) (o:lv≤5) {i j:Nat} (h:i≤j) (I:j≤aR c y lv):aW c y lv i≤aW c y lv j:=by
 obtain ⟨m,rfl⟩:∃ m,j=i+m:=⟨j-i,by omega⟩
 induction m with
 | zero=>exact Nat.le_refl _
 | succ m F =>
  have G:=F om om;have H:=kx c y E lv f o (i+m) om;rw [← Nat.add_assoc];omega
theorem oL (c:ar) (y:Int) (E:aO c y 1601=0) (lv:Int) (f:1≤lv) (o:lv≤5) {i j:Nat} (h:i<j) (F:j≤aR c y lv):aW c y lv i<aW c y lv j:=by
 have G:=kx c y E lv f o i om;have H:=dj c y E lv f o (show i+1≤j by omega) F;omega
theorem cT (c:ar) (y:Int) (o:aO c y 1601=0) (lv:Int) (f:1≤lv) (h:lv≤5) (i:Nat) (hi:i≤aR c y lv):aW c y lv i≤bW c y:=by
 have:=dj c y o lv f h hi (Nat.le_refl _)
 rwa [lm c y lv f h] at this
theorem E6 (c:ar) (y:Int) (F:aO c y 1601=0) (lv:Int) (f:1≤lv) (E:lv≤4) (i:Nat) (hi:i≤aR c y lv):∃ j,j≤aR c y (lv+1)∧aW c y lv i=aW c y (lv+1) j:=by
 have h:lv=1∨lv=2∨lv=3∨lv=4:=om;rcases h with rfl | rfl | rfl | rfl
 ·refine ⟨2*i,by simp [aR] at hi ⊢;omega,?_⟩
  simp only [aW,ce];simp;congr 1;have:aU c y*(2*(2*i))=4*(aU c y*i):=by rw [← Nat.mul_assoc 2 2 i,Nat.mul_left_comm]
  omega
 ·exact ⟨2*i,by simp [aR] at hi ⊢;omega,by simp [aW,ce]⟩
 ·refine ⟨aU c y*i / 4,?_,by simp [aW,ce]⟩
  have o:aU c y*i≤aU c y*4:=Nat.mul_le_mul_left _ (by simpa [aR] using hi);simp [aR];omega
 ·refine ⟨ci c y i,?_,by simp [aW,ce]⟩
  have:=lF c y (show i≤aU c y by simpa [aR] using hi);simpa [aR,bW] using this
theorem nP (c:ar) (y:Int) (o:aO c y 1601=0) (a b:Int) (I:1≤a) (E:a≤b) (J:b≤5) (i:Nat) (hi:i≤aR c y a):∃ j,j≤aR c y b∧aW c y a i=aW c y b j:=by
 obtain ⟨m,rfl⟩:∃ m:Nat,b=a+m:=⟨(b-a).toNat,by omega⟩
 induction m with
 | zero=>exact ⟨i,by simpa using hi,by simp⟩
 | succ m H =>
  obtain ⟨j,F,e⟩:=H om om;obtain ⟨k,G,f⟩:=E6 c y o (a+m) om om j F;have h:a+((m+1:Nat):Int)=a+m+1:=om;rw [h];exact ⟨k,G,by rw [e,f]⟩
def CS (l:List Int) (x:Int):Nat:=(l.takeWhile fun a=>decide (a<x)).length
theorem Er (l:List Int) (x:Int):CS l x≤l.length:=by unfold CS;exact (List.takeWhile_sublist _).length_le
theorem tb (l:List Int) (x:Int) (k:Nat) (F:k≤l.length) (h:∀ j,j<k→l[j]?.getD 0<x) (E:k<l.length→x≤l[k]?.getD 0):CS l x=k:=by
 rcases Nat.lt_or_eq_of_le F with f | f
 ·refine iM _ l k f (fun j o=>?_) ?_
  ·have:=h j o
   rw [List.getElem?_eq_getElem om] at this;simpa using this
  ·have:=E f
   rw [List.getElem?_eq_getElem f] at this;simpa using this
 ·rw [f]
  refine jm _ l (fun j o=>?_);have:=h j om;rw [List.getElem?_eq_getElem o] at this;simpa using this
def gJ (c:ar) (y lv:Int) (w:Nat):Nat:=CS (dm c y lv) ((w:Int)+1)
theorem uH (c:ar) (y:Int) (o:aO c y 1601=0) (lv:Int) (f:1≤lv) (h:lv≤5) (w i:Nat) (hi:i<aR c y lv) (E:aW c y lv i≤w) (F:w<aW c y lv (i+1)):gJ c y lv w=i:=by
 refine tb _ _ i (by rw [ip];omega) (fun j G=>?_) (fun _=>?_)
 ·rw [gr c y lv j om]
  have:=dj c y o lv f h (show j+1≤i by omega) om;omega
 ·rw [gr c y lv i hi]
  omega
theorem C9 (c:ar) (y:Int) (I:aO c y 1601=0) (lv:Int) (E:1≤lv) (F:lv≤5) (w:Nat) (G:w<bW c y):∃ i,i<aR c y lv∧aW c y lv i≤w∧w<aW c y lv (i+1):=by
 have o:∀ m,m≤aR c y lv→w<aW c y lv m→∃ i,i<aR c y lv∧aW c y lv i≤w∧w<aW c y lv (i+1):=by
  intro m
  induction m with
  | zero=>intro _ h;rw [zq] at h;omega
  | succ m H =>
   intro J h;rcases Nat.lt_or_ge w (aW c y lv m) with f | f
   ·exact H om f
   ·exact ⟨m,by omega,f,h⟩
 exact o _ (Nat.le_refl _) (by rw [lm c y lv E F];exact G)
theorem Iu (c:ar) (y:Int) (o:aO c y 1601=0) (lv:Int) (f:1≤lv) (h:lv≤5) (w:Nat) (G:w<bW c y) :
  gJ c y lv w<aR c y lv∧aW c y lv (gJ c y lv w)≤w∧w<aW c y lv (gJ c y lv w+1):=by
 obtain ⟨i,hi,E,F⟩:=C9 c y o lv f h w G;rw [uH c y o lv f h w i hi E F];exact ⟨hi,E,F⟩
theorem IG (c:ar) (y:Int) (f:aO c y 1601=0) (a b:Int) (G:1≤a) (E:a≤b) (o:b≤5) (i:Nat) (hi:i<aR c y b) :
  gJ c y a (aW c y b i)<aR c y a∧aW c y a (gJ c y a (aW c y b i))≤aW c y b i∧aW c y b (i+1)≤aW c y a (gJ c y a (aW c y b i)+1):=by
 have R:aW c y b i<bW c y:=by
  have S:=kx c y f b om o i hi;have T:=cT c y f b om o (i+1) om;omega
 obtain ⟨H,I,J⟩:=Iu c y f a G om _ R;refine ⟨H,I,?_⟩;obtain ⟨j,O,e⟩:=nP c y f a b G E o _ (show gJ c y a (aW c y b i)+1≤aR c y a by omega);rw [e] at J ⊢;have F:i<j:=by
  rcases Nat.lt_or_ge i j with h | h
  ·exact h
  ·have:=dj c y f b om o h om;omega
 exact dj c y f b om o F O
def aD (c:ar) (y:Int):Int:=if dA c y=0∧aL c y=53 then (bJ c y (c.extra-1).toNat-ax c y+1) / 7 else 0
theorem gj {c:ar} {y:Int} (h:dA c y=0):c.Ok∧c.okB=true∧c.kind≠6∧aO c y 1601=0∧aL c y=bP c y / 7∧(aL c y=52∨aL c y=53)∧bP c y=7*aL c y:=by
 unfold dA at h
 split at h
 ·rename_i hb
  have f:c.kind≠6:=by
   simp only [fZ,Bool.and_eq_true,decide_eq_true_eq] at hb;exact hb.2
  have o:=(bo h).1;have E:aL c y=bP c y / 7:=by simp [aL,hb]
  have F:=iE c y h f;refine ⟨o,by simpa [ar.okB] using o,f,h,E,by omega,by omega⟩
 ·omega
theorem mw {c:ar} (f:c.Ok) (G:c.kind≠6):1≤c.extra∧c.extra≤cj c:=by
 have o:c.okB=true:=by simpa [ar.okB] using f
 have E:cj c=bC c.shape c.cycle:=by simp [cj,o]
 obtain ⟨_,_,_,F⟩:=f;unfold ar.ruled ar.weeks dB ar.pat0 at F;have H:c.shape=1→bC c.shape c.cycle=12:=by intro h;simp [bC,h]
 have I:c.shape=4→bC c.shape c.cycle=12:=by intro h;simp [bC,h]
 rw [E];omega
theorem ry (c:ar) (y:Int) (w:World) (hn:c.name.size≤1000) :
  Calls Tryz.prog 244 #[av c,y] w fun e w'=>e=.returned (.tuple #[aD c y,dA c y])∧Below w w w':=by
 by_cases o:dA c y=0
 ·obtain ⟨R,h,O,hA,hv,a2,hd⟩:=gj o
  obtain ⟨aq,ay⟩:=mw R O;have H:=gQ c y h;have al:=eM c h;rcases a2 with I | J
  ·have W:=hide (show aD c y=0 by simp [aD,I])
   have H2:=hide o;have H3:=hide I;clear o I hv hd R h hA aq ay H al O;simp only [av];go_enter Tryz.func244,Tryz.ntmps244;go_wp2_with fail;refine (du c y _ hn).mono ?_;rintro e w1 ⟨rfl,f⟩;rw [H2.out,H3.out];go_wp2;go_ret2;exact ⟨aw W.out.symm H2.out.symm,((Below.refl _ _).alloc (Nat.le_refl _) _).trans (f.mono ac)⟩
  ·obtain ⟨x,hx⟩:∃ x:Nat,c.extra=(x:Int)+1:=⟨(c.extra-1).toNat,by omega⟩
   have a3:x<(bi c y).length:=om;have ad:(bi c y).length≤52:=om;have W:=hide (show aD c y=(bJ c y x-ax c y+1) / 7 by
    have:(c.extra-1).toNat=x:=om;simp [aD,J,o,this])
   have a1:=il c y hA (x+1) om;rw [bM] at a1;have a7:=ch c y hA;have H2:=hide o;have H3:=hide J;have H4:=hide hA;have HX:=hide hx;clear o J hv hd R h hA aq ay H al O hx;obtain ⟨n,ah⟩:∃ n,n=(bi c y).length:=⟨_,rfl⟩;have HN:=hide ah;have a4:x<n:=om;have a5:n≤52:=om;clear ah a3 ad;simp only [av];go_enter Tryz.func244,Tryz.ntmps244;go_wp2_with fail;refine (du c y _ hn).mono ?_;rintro e w1 ⟨rfl,f⟩;have S:w.heap.size<w1.heap.size:=aj f;have aB:=hide (Below.trans ((Below.refl _ _).alloc (Nat.le_refl _) _) (f.mono ac):Below w w w1);have HQ:=hide (aa f ac (au w c));obtain ⟨q0,q1,q2,q3,q4,q5,q6,q7,q8,q9,G,T,U,V⟩:=HQ.out;clear f;rw [H2.out,H3.out];go_wp2_with fail;refine (uM c y _ hn H4.out).mono ?_;rintro e w2 ⟨g,hg,rfl,hI,E⟩;clear q0 q1 q2 q3 q4 q5 q6 q7 q8 q9 G T U V;have ab:=hide (aa E S HQ.out);obtain ⟨q0,q1,q2,q3,q4,q5,q6,q7,q8,q9,G,T,U,V⟩:=ab.out;have aA:w.heap.size<w2.heap.size:=Nat.lt_of_lt_of_le S E.size;have aF:=hide (aB.out.trans (E.mono (Nat.le_of_lt S)));have HI:=hide hI;clear hI E hg;rw [← HN.out];go_wp2_with fail;refine (dN c y _ hn).mono ?_;rintro e w3 ⟨rfl,F⟩;clear q0 q1 q2 q3 q4 q5 q6 q7 q8 q9 G T U V;rw [H4.out];have G:w3.cell? ⟨w,10,none⟩=some (.int .i64 ((x:Int)+1)):=by
    have:=(aa F aA ab.out).2.2.2.2.2.2.2.2.2.2.1;rw [HX.out] at this;exact this
   have c1:w3.cell? ⟨g,x,none⟩=some (.int .i64 (bJ c y x)):=(HI.out.call F).cell (k:=x) (by rw [← HN.out];exact a4);have a0:=hide (aF.out.trans (F.mono (Nat.le_of_lt aA)));clear F;go_wp2;go_ret2;exact ⟨aw W.out.symm H2.out.symm,a0.out⟩
 ·have W:=hide (show aD c y=0 by simp [aD,o])
  have a6:(dA c y != 0)=true:=by simpa using o
  clear o;simp only [av];go_enter Tryz.func244,Tryz.ntmps244;go_wp2_with fail;refine (du c y _ hn).mono ?_;rintro e w1 ⟨rfl,f⟩;go_wp2;go_ret2;exact ⟨aw W.out.symm rfl,((Below.refl _ _).alloc (Nat.le_refl _) _).trans (f.mono ac)⟩
end
end Go.Proofs.YtjhhmeoibfdcmaaGreat
