/- Lemmas. -/
import Derived.LoopIn
import Derived.LoopNIn
import Derived.OwnWalkIn
import Derived.RangeFuncBound
import Derived.RangeFuncBox
import Derived.RangeFuncCalls
import Derived.RangeFuncLeaves
import Derived.RangeFuncNested
import Derived.Shelf.Abstract
import Derived.Shelf.RegionOpen
import Derived.TacticsInMore
import Derived.Test.YtpebkobmhhnojaaGreatDoorTp02
import Derived.Test.YtpebkobmhhnojaaGreatDoorTp09
set_option linter.unusedSimpArgs false
set_option linter.unusedVariables false
set_option maxRecDepth 100000
set_option maxHeartbeats 12800000
namespace Go.Proofs.YtpebkobmhhnojaaGreatDoor
section
open Go.RowKit Qd
def vi (y:Int) (i:Nat):Int:=bU y ((i:Int)+1) 7
def kq (y:Int):List Int:=(List.range 12).map (vi y)
theorem rt (y:Int) (w:World) (h1:1600≤y) (h2:y≤9999) :
  Calls Tryz.prog 87 #[y] w fun e w'=>∃ g,w.heap.size≤g∧e=.returned (.tuple #[.slice (some ⟨g,0,none⟩) 12 12,.int .i64 0])∧aS w' g (kq y)∧Below w w w':=by
 have O:=tK;go_enter Tryz.func87,Tryz.ntmps87;go_wp2;go_loopw [11] (fun s wr=>∃ k:Nat,s=.int .i64 k∧k≤12∧aS wr w (iB 12 k (vi y))∧Below w w wr) (fun s _=>(13-intOf s).toNat)
 case atStart=>exact ⟨0,rfl,by omega,by rw [fB];exact aS.new w 12,(Below.refl _ _).alloc (Nat.le_refl _) _⟩
 case round =>
  obtain ⟨k,rfl,hk,E,G⟩:=hrel;have h:=E.lt;by_cases F:k<12
  ·have H:ik y ((k:Int)+1) 7=0:=by simp [ik,aL];omega
   have I:=hide H;clear H;go_wp2_with fail;refine (qR _ _ _ _).mono ?_;rintro e V ⟨rfl,o⟩;rw [I.out];have f:=E.call o;have U:w.heap.size<V.heap.size:=Nat.lt_of_lt_of_le h o.size;have W:=f.cell (k:=k) (by rw [iP];exact F);have Y:=f.frozen k;have J:=hide f;clear f;go_wp2;refine ⟨⟨k+1,by go_num,by omega,?_,?_⟩,by simp [intOf];omega⟩
   ·rw [← ed];exact J.out.set k _
   ·exact (G.trans (o.mono (Nat.le_of_lt h))).setCell af _
  ·obtain rfl:k=12:=om
   go_wp2;go_ret2;exact ⟨w,Nat.le_refl _,rfl,by rw [fG] at E;exact E,G⟩
def ep (d:Int):Nat→Int
 | 0=>d
 | k+1=>ep d k+cM (dr (ep d k)) (io (ep d k))
theorem AZ (d:Int) (k:Nat):d≤ep d k∧ep d k≤d+31*k:=by
 induction k with
 | zero=>simp [ep]
 | succ k f =>
  have:=kU (dr (ep d k)) (io (ep d k));unfold ep;omega
def zR (d:Int) (i:Nat):Int:=ep d (i+1)-1
def mZ (d:Int):List Int:=(List.range 12).map (zR d)
theorem sW (d:Int) (w:World) (h1:0≤d) (h2:d+400<3068037) :
  Calls Tryz.prog 88 #[d] w fun e w'=>∃ g,w.heap.size≤g∧e=.returned (.tuple #[.slice (some ⟨g,0,none⟩) 12 12,.int .i64 0])∧aS w' g (mZ d)∧Below w w w':=by
 have ac:=tK;go_enter Tryz.func88,Tryz.ntmps88;go_wp2;go_loopw [0,12] (fun s0 s wr=>∃ k:Nat,s0=.int .i64 (ep d k)∧s=.int .i64 k∧k≤12∧aS wr w (iB 12 k (zR d))∧Below w w wr) (fun _ s _=>(13-intOf s).toNat)
 case atStart=>exact ⟨0,rfl,rfl,by omega,by rw [fB];exact aS.new w 12,(Below.refl _ _).alloc (Nat.le_refl _) _⟩
 case round =>
  obtain ⟨k,rfl,rfl,hk,I,W⟩:=hrel;have o:=I.lt;by_cases U:k<12
  ·have ab:=AZ d k
   have G:cH (ep d k)=true:=by simp [cH];omega
   obtain ⟨F,_⟩:=DI _ G;have H:aL (dr (ep d k)) (io (ep d k))=true:=by
    simp only [cN,Bool.and_eq_true] at F;exact F.1
   have HL:=hide (show gE (dr (ep d k)) (io (ep d k))=0 by simp [gE,H]);have aa:=kU (dr (ep d k)) (io (ep d k));have Y:=hide (show zR d k=ep d k+cM (dr (ep d k)) (io (ep d k))-1 from rfl);have HS:=hide (show ep d (k+1)=ep d k+cM (dr (ep d k)) (io (ep d k)) from rfl);clear F H;go_wp2_with fail;refine (im _ _ G).mono ?_;rintro e w1 ⟨rfl,h⟩;clear G;have O:=hide (I.call h);have V:w.heap.size<w1.heap.size:=Nat.lt_of_lt_of_le o h.size;have J:=hide (W.trans (h.mono (Nat.le_of_lt o)));clear h;go_wp2_with fail;refine (ct _ _ _).mono ?_;rintro e w2 ⟨rfl,E⟩;rw [HL.out];have f:=((O.out).alloc _).call E;have ad:w.heap.size<w2.heap.size:=Nat.lt_of_lt_of_le ag E.size;have c1:=f.cell (k:=k) (by rw [iP];exact U);have f1:=f.frozen k;have HX:=hide f;clear f;go_wp2;refine ⟨⟨k+1,by rw [HS.out],by go_num,by omega,?_,?_⟩,by simp [intOf];omega⟩
   ·rw [← ed,Y.out];exact HX.out.set k _
   ·exact ((J.out.alloc (Nat.le_of_lt V) _).trans (E.mono ag)).setCell af _
  ·obtain rfl:k=12:=om
   go_wp2;go_ret2;exact ⟨w,Nat.le_refl _,rfl,by rw [fG] at I;exact I,W⟩
end
section
open Go.RowKit Go.Shelf Qd
attribute [local go_sem] Oper.semAt_some
def eq (c:aC):Int:=if c.shape=1 then c.p0 else if c.shape=3 then c.cycle else 4
def ee (c:aC):Int:=if c.shape=1 then c.p1 else if c.shape=3 then c.cycle else 4
def eo (c:aC):Int:=if c.shape=1 then c.p2 else if c.shape=3 then c.cycle else 4
theorem rx (c:aC) (w:World) :
  Calls Tryz.prog 125 #[aI c] w fun e w'=>e=.returned (.agg #[eq c,ee c,eo c])∧Below w w w':=by
 simp only [aI];have o:c.shape=1∨c.shape=3∨(¬ c.shape=1∧¬ c.shape=3):=om;rcases o with h | h | ⟨h,f⟩
 ·have H:=hide (show eq c=c.p0∧ee c=c.p1∧eo c=c.p2 by simp [eq,ee,eo,h])
  have E:(c.shape==1)=true:=by simp [h]
  clear h;go_enter Tryz.func125,Tryz.ntmps125;go_wp2;go_returns;refine ⟨?_,by (repeat' exact bel)⟩;rw [H.out.1,H.out.2.1,H.out.2.2]
 ·have H:=hide (show eq c=c.cycle∧ee c=c.cycle∧eo c=c.cycle by simp [eq,ee,eo,h])
  have E:(c.shape==1)=false:=by simp [h]
  have F:(c.shape==3)=true:=by simp [h]
  clear h;go_enter Tryz.func125,Tryz.ntmps125;go_wp2;go_returns;refine ⟨?_,by (repeat' exact bel)⟩;rw [H.out.1,H.out.2.1,H.out.2.2]
 ·have H:=hide (show eq c=4∧ee c=4∧eo c=4 by simp [eq,ee,eo,h,f])
  have E:(c.shape==1)=false:=by simp [h]
  have F:(c.shape==3)=false:=by simp [f]
  clear h f;go_enter Tryz.func125,Tryz.ntmps125;go_wp2;go_returns;refine ⟨?_,by (repeat' exact bel)⟩;rw [H.out.1,H.out.2.1,H.out.2.2]
def iC (c:aC) (j:Nat):Int:=if j % 3=0 then eq c else if j % 3=1 then ee c else eo c
def cP (c:aC) (f:Int) (j:Nat):Int:=iC c j+if (j:Int)+1=c.extra then f-52 else 0
def cI {α:Type} (f:Nat→α) (k:Nat):List α:=(List.range k).map f
theorem cn {α:Type} (f:Nat→α) (k:Nat):cI f (k+1)=cI f k++[f k]:=by simp [cI,List.range_succ]
theorem fe {α:Type} (f:Nat→α) (k:Nat):(cI f k).length=k:=by simp [cI]
def ge (A B:Nat) (W f:World):Prop:=
 W.heap.size≤f.heap.size∧∀ (k:Nat) (h:Array Value) (t:TypeId) (z:Nat × Nat),k≠A→k≠B→W.heap[k]?=some (.cells h t z)→f.heap[k]?=some (.cells h t z)
theorem jc {A B:Nat} {X Y Z:World} (h:ge A B X Y) (k:ge A B Y Z):ge A B X Z:=
 ⟨Nat.le_trans h.1 k.1,fun i f t z o E F=>k.2 i f t z o E (h.2 i f t z o E F)⟩
theorem qn (m:Nat) (c:aC) (p k:Int) (w:World) :
  CallsIn Fence.wide m Tryz.prog 90 #[aI c,p,k] w fun e w' =>
   e=.returned (.func (.func 124) #[] #[.pointer (some ⟨w,0,none⟩),.pointer (some ⟨w+1,0,none⟩),.pointer (some ⟨w+2,0,none⟩)]) ∧
   w'=((w.alloc (.cells #[.string c.name,c.kind,c.day,c.month,c.shift,c.shape,c.p0,c.p1,c.p2,c.cycle,c.extra,c.first,c.last,c.policy] 24)).alloc (.cells #[p] 3)).alloc (.cells #[k] 3):=by
 refine callsIn_wide.2 ?_;simp only [aI];go_enter Tryz.func90,Tryz.ntmps90;go_wp2;go_ret;exact ⟨rfl,rfl⟩
end
section
open Go.RowKit Go.Shelf Qd
attribute [local go_sem] Oper.semAt_some
abbrev PW (n:Nat):={ x:Nat × Int // x.1<n∧0≤x.2∧x.2≤100 }
abbrev yp {n:Nat} (x:PW n):Array Value:=#[.int .i64 (x.1.1:Int),.int .i64 x.1.2]
def tq (c:aC) (f:Int) (n:Nat) (h:0<n) (j:Nat):PW n:=⟨(min j (n-1),min (max (cP c f j) 0) 100),by dsimp only;omega⟩
theorem jv {a w:World} (h:Below a a w) (f:Option Nat):a.grownBy w f:=⟨h.os,h.tape,h.output,h.size,fun i hi _=>h.block i hi⟩
def gp (c:aC):Prop:=1≤eq c∧eq c≤5∧1≤ee c∧ee c≤5∧1≤eo c∧eo c≤5
theorem m6 (c:aC) (f:Int) (j:Nat) (h:gp c) (o:f=52∨f=53):1≤cP c f j∧cP c f j≤6:=by
 unfold gp at h;unfold cP iC
 split <;> split <;> (try split) <;> omega
def ax (w:World) (B:Nat) (f:Array Value) (t:TypeId):Prop:=w.heap[B]?=some (.cells f t (0,0))
theorem ax.lt {w:World} {B:Nat} {f:Array Value} {t:TypeId} (h:ax w B f t):B<w.heap.size:=(Array.getElem?_eq_some_iff.1 h).1
theorem ax.cell {w:World} {B:Nat} {f:Array Value} {t:TypeId} (h:ax w B f t) (i:Nat):w.cell? ⟨B,i,none⟩=f[i]?:=cell_of_row w B i f t (0,0) h
theorem ax.below {w w':World} {K B:Nat} {f:Array Value} {t:TypeId} (h:ax w B f t) (E:Below K w w') (o:B<K):ax w' B f t:=(E.block B o).trans h
theorem ax.call {w w':World} {B:Nat} {f:Array Value} {t:TypeId} (h:ax w B f t) (o:Below w w w'):ax w' B f t:=h.below o h.lt
theorem ax.alloc {w:World} {B:Nat} {f:Array Value} {t:TypeId} (h:ax w B f t) (o:Obj):ax (w.alloc o) B f t:=(Below.heap_alloc w o B h.lt).trans h
theorem ax.new (w:World) (f:Array Value) (t:TypeId):ax (w.alloc (.cells f t)) w.heap.size f t:=heap_alloc_new w _
theorem ax.kept {w w':World} {A D B:Nat} {f:Array Value} {t:TypeId} (h:ax w B f t) (F:ge A D w w') (o:B≠A) (E:B≠D):ax w' B f t:=F.2 B f t (0,0) o E h
abbrev bJ (c:aC):Array Value:=#[.string c.name,.int .i64 c.kind,.int .i64 c.day,.int .i64 c.month,.int .i64 c.shift,.int .i64 c.shape,.int .i64 c.p0,.int .i64 c.p1,.int .i64 c.p2,.int .i64 c.cycle,.int .i64 c.extra,.int .i64 c.first,.int .i64 c.last,.int .i64 c.policy]
theorem ax.cal {w:World} {B:Nat} {c:aC} (h:ax w B (bJ c) 24):bR w B c:=by
 refine ⟨?_,?_,?_,?_,?_,?_,?_,?_,?_,?_,?_,?_,?_,?_⟩ <;> (rw [h.cell];rfl)
theorem lc (c:aC) (f:Int) (n:Nat) (o:0<n) (k:Nat) (h:gp c) (E:f=52∨f=53) (J:k<n) (V:Int) (H:cP c f k=V):yp (tq c f n o k)=#[.int .i64 (k:Int),.int .i64 V]:=by
 have I:=m6 c f k h E;have F:min k (n-1)=k:=om;have G:min (max (cP c f k) 0) 100=cP c f k:=om;simp only [yp,tq,F,G];rw [H]
theorem nH (c:aC) (n:Nat) (G:Int) (hw:gp c) (aq:G=52∨G=53) (hn:n≤59) (U:0<n) (B0 B1 B2 Bd Bo:Nat) (w:World)
  (g0:ax w B0 (bJ c) 24) (g1:ax w B1 #[.int .i64 (n:Int)] 3) (g2:ax w B2 #[G] 3)
  (hd:Bd<w.heap.size) (ho:Bo<w.heap.size) (n0:B0≠Bd∧B0≠Bo) (n1:B1≠Bd∧B1≠Bo) (n2:B2≠Bd∧B2≠Bo) :
  SeqStopsK Fence.wide 4 Tryz.prog 124 #[.pointer (some ⟨B0,0,none⟩),.pointer (some ⟨B1,0,none⟩),.pointer (some ⟨B2,0,none⟩)] yp (ge Bd Bo)
   (fun xs=>xs=cI (tq c G n U) n) (fun _=>True) n w:=fun l J Jx W hW hJ bh hY h0=>by
 have G0:=hide (g0.call hW);have G1:=hide (g1.call hW);have G2:=hide (g2.call hW);have bk:=hW.size;obtain ⟨q0,q1,q2,q3,q4,q5,q6,q7,q8,q9,a6,a7,a8,a9⟩:=(G0.out).cal;have r1:W.cell? ⟨B1,0,none⟩=some (.int .i64 (n:Int)):=(G1.out).cell 0;refine callsIn_of_wp Tryz.func124 rfl trivial ?_ rfl;simp only [Tryz.ntmps124,List.size_toArray,List.length_cons,List.length_nil,Nat.reduceAdd,Nat.reduceSub,Array.replicate_succ,Array.replicate_zero,List.push_toArray,List.append_toArray,List.nil_append,List.cons_append]
 gi_wp2_with fail
 refine ⟨trivial,(callsIn_wide.2 (rx c _)).mono ?_⟩;rintro e w1 ⟨rfl,Y⟩;clear q0 q1 q2 q3 q4 q5 q6 q7 q8 q9 a6 a7 a8 a9;have al:=jv Y none;have aB:=hide (((G0.out).call Y).alloc (.cells #[eq c,ee c,eo c] 22));have a0:=hide (((G2.out).call Y).alloc (.cells #[eq c,ee c,eo c] 22));have a1:=hide (ax.new w1 #[eq c,ee c,eo c] 22);have r1:w1.cell? ⟨B1,0,none⟩=some (.int .i64 (n:Int)):=((G1.out).call Y).cell 0;have bd:B1<w1.heap.size:=((G1.out).call Y).lt;have a2:=hide (hJ _ _ _ none (hJ _ _ _ none h0 al (by intro r e;cases e)) (World.grownBy_alloc w1 (.cells #[eq c,ee c,eo c] 22) none) (by intro r e;cases e));have bl:=Y.size;have ac:w1.heap.size≠Bd:=om;have ad:w1.heap.size≠Bo:=om;clear Y al
 gi_wp2
 gi_loopw [11] (fun s wr=>∃ k:Nat,k≤n∧s=.int .i64 k∧Hid (J (cI (tq c G n U) k) wr)∧ax wr B0 (bJ c) 24∧ax wr B2 #[G] 3∧ax wr w1 #[eq c,ee c,eo c] 22)
  (fun s _=>n-(intOf s).toNat)
 case atStart=>exact ⟨0,Nat.zero_le _,rfl,a2,aB.out,a0.out,a1.out⟩
 case round =>
  obtain ⟨k,hk,rfl,ah,b0,b2,bp⟩:=hrel;by_cases aa:k<n
  ·have x0:wr.cell? ⟨w1,0,none⟩=some (.int .i64 (eq c)):=bp.cell 0
   have x1:wr.cell? ⟨w1,1,none⟩=some (.int .i64 (ee c)):=bp.cell 1;have x2:wr.cell? ⟨w1,2,none⟩=some (.int .i64 (eo c)):=bp.cell 2;have x3:wr.cell? ⟨B0,10,none⟩=some (.int .i64 c.extra):=b0.cell 10;have x4:wr.cell? ⟨B2,0,none⟩=some (.int .i64 G):=b2.cell 0;have a5:=hw;unfold gp at a5;obtain ⟨fn,bc,aA,ba,hy,hR⟩:=hY _ (tq c G n U k) wr ah.out (by rw [fe];exact aa);have bb:52≤G∧G≤53:=om;have ab:=hide aq;clear aq hY;have a4:k % 3=0∨k % 3=1∨k % 3=2:=om;rcases a4 with hm | hm | hm
   ·have ao:((k:Int) % 3)=0:=om
    by_cases E:(k:Int)+1=c.extra
    rotate_left
    ·have he:((k:Int)+1==c.extra)=false:=by simp [E]
     have V:cP c G k=eq c:=by simp [cP,iC,hm,E]
     rw [lc c G n U k hw ab.out aa _ V] at hy;clear E V hm
     gi_wp2
     refine hR.mono ?_;rintro e W3 (⟨rfl,F,f⟩ | ⟨rfl,h⟩)
     ·have o:=hide F
      have H:=b0.kept f n0.1 n0.2;have I:=b2.kept f n2.1 n2.2;have O:=bp.kept f ac ad;clear F f
      gi_wp2
      go_roundw
      case rel=>exact ⟨k+1,by omega,by go_num,by rw [cn];exact o,H,I,O⟩
      case measure=>simp [intOf];omega
     ·have o:=hide h
      clear h
      gi_wp2
      refine bodyPost_ret (results_none rfl _ _ _) rfl ?_;exact ⟨⟨_,rfl⟩,.inr ⟨_,trivial,o.out⟩⟩
    ·have he:((k:Int)+1==c.extra)=true:=by simp [E]
     have V:cP c G k=eq c+(G-52):=by simp [cP,iC,hm,E]
     rw [lc c G n U k hw ab.out aa _ V] at hy;clear E V hm
     gi_wp2
     refine hR.mono ?_;rintro e W3 (⟨rfl,F,f⟩ | ⟨rfl,h⟩)
     ·have o:=hide F
      have H:=b0.kept f n0.1 n0.2;have I:=b2.kept f n2.1 n2.2;have O:=bp.kept f ac ad;clear F f
      gi_wp2
      go_roundw
      case rel=>exact ⟨k+1,by omega,by go_num,by rw [cn];exact o,H,I,O⟩
      case measure=>simp [intOf];omega
     ·have o:=hide h
      clear h
      gi_wp2
      refine bodyPost_ret (results_none rfl _ _ _) rfl ?_;exact ⟨⟨_,rfl⟩,.inr ⟨_,trivial,o.out⟩⟩
   ·have ao:((k:Int) % 3)=1:=om
    by_cases E:(k:Int)+1=c.extra
    rotate_left
    ·have he:((k:Int)+1==c.extra)=false:=by simp [E]
     have V:cP c G k=ee c:=by simp [cP,iC,hm,E]
     rw [lc c G n U k hw ab.out aa _ V] at hy;clear E V hm
     gi_wp2
     refine hR.mono ?_;rintro e W3 (⟨rfl,F,f⟩ | ⟨rfl,h⟩)
     ·have o:=hide F
      have H:=b0.kept f n0.1 n0.2;have I:=b2.kept f n2.1 n2.2;have O:=bp.kept f ac ad;clear F f
      gi_wp2
      go_roundw
      case rel=>exact ⟨k+1,by omega,by go_num,by rw [cn];exact o,H,I,O⟩
      case measure=>simp [intOf];omega
     ·have o:=hide h
      clear h
      gi_wp2
      refine bodyPost_ret (results_none rfl _ _ _) rfl ?_;exact ⟨⟨_,rfl⟩,.inr ⟨_,trivial,o.out⟩⟩
    ·have he:((k:Int)+1==c.extra)=true:=by simp [E]
     have V:cP c G k=ee c+(G-52):=by simp [cP,iC,hm,E]
     rw [lc c G n U k hw ab.out aa _ V] at hy;clear E V hm
     gi_wp2
     refine hR.mono ?_;rintro e W3 (⟨rfl,F,f⟩ | ⟨rfl,h⟩)
     ·have o:=hide F
      have H:=b0.kept f n0.1 n0.2;have I:=b2.kept f n2.1 n2.2;have O:=bp.kept f ac ad;clear F f
      gi_wp2
      go_roundw
      case rel=>exact ⟨k+1,by omega,by go_num,by rw [cn];exact o,H,I,O⟩
      case measure=>simp [intOf];omega
     ·have o:=hide h
      clear h
      gi_wp2
      refine bodyPost_ret (results_none rfl _ _ _) rfl ?_;exact ⟨⟨_,rfl⟩,.inr ⟨_,trivial,o.out⟩⟩
   ·have ao:((k:Int) % 3)=2:=om
    by_cases E:(k:Int)+1=c.extra
    rotate_left
    ·have he:((k:Int)+1==c.extra)=false:=by simp [E]
     have V:cP c G k=eo c:=by simp [cP,iC,hm,E]
     rw [lc c G n U k hw ab.out aa _ V] at hy;clear E V hm
     gi_wp2
     refine hR.mono ?_;rintro e W3 (⟨rfl,F,f⟩ | ⟨rfl,h⟩)
     ·have o:=hide F
      have H:=b0.kept f n0.1 n0.2;have I:=b2.kept f n2.1 n2.2;have O:=bp.kept f ac ad;clear F f
      gi_wp2
      go_roundw
      case rel=>exact ⟨k+1,by omega,by go_num,by rw [cn];exact o,H,I,O⟩
      case measure=>simp [intOf];omega
     ·have o:=hide h
      clear h
      gi_wp2
      refine bodyPost_ret (results_none rfl _ _ _) rfl ?_;exact ⟨⟨_,rfl⟩,.inr ⟨_,trivial,o.out⟩⟩
    ·have he:((k:Int)+1==c.extra)=true:=by simp [E]
     have V:cP c G k=eo c+(G-52):=by simp [cP,iC,hm,E]
     rw [lc c G n U k hw ab.out aa _ V] at hy;clear E V hm
     gi_wp2
     refine hR.mono ?_;rintro e W3 (⟨rfl,F,f⟩ | ⟨rfl,h⟩)
     ·have o:=hide F
      have H:=b0.kept f n0.1 n0.2;have I:=b2.kept f n2.1 n2.2;have O:=bp.kept f ac ad;clear F f
      gi_wp2
      go_roundw
      case rel=>exact ⟨k+1,by omega,by go_num,by rw [cn];exact o,H,I,O⟩
      case measure=>simp [intOf];omega
     ·have o:=hide h
      clear h
      gi_wp2
      refine bodyPost_ret (results_none rfl _ _ _) rfl ?_;exact ⟨⟨_,rfl⟩,.inr ⟨_,trivial,o.out⟩⟩
  ·have a3:k=n:=om
   subst a3
   gi_wp2
   go_end0;exact ⟨⟨_,rfl⟩,.inl ⟨_,rfl,ah.out⟩⟩
end
section
open Go.RowKit Qd
def dx (c:aC) (y:Int):Nat→Int
 | 0=>aF c y
 | k+1=>dx c y k+7*cP c (dh c y) k
def bH (c:aC) (y:Int):List Int:=
 if c.shape=4 then kq y else if c.shape=5 then mZ (aF c y) else (List.range (eH c).toNat).map fun i=>dx c y (i+1)-1
def jV (c:aC) (y:Int) (w:World) (e:Ending) (w':World):Prop:=
 ∃ g,w.heap.size≤g∧e=.returned (.tuple #[.slice (some ⟨g,0,none⟩) (bH c y).length (bH c y).length,.int .i64 0])∧aS w' g (bH c y)∧Below w w w'
theorem ef {c:aC} (h:c.Ok):(c.kind=4↔c.shape=4)∧(c.kind=6↔c.shape=5)∧1≤c.shape∧c.shape≤5:=by
 obtain ⟨_,_,_,f⟩:=h;unfold aC.ruled aC.weeks eG at f;omega
theorem tn (c:aC) (y:Int) (w:World) (hn:c.name.size≤1000) (o:aP c y 1601=0) (G:c.shape=4) :
  Calls Tryz.prog 59 #[aI c,y] w (jV c y w):=by
 have V:=hide (show bH c y=kq y by simp [bH,G]);obtain ⟨F,ab,ac⟩:=br o;have aa:(c.shape==4)=true:=by simp [G]
 have Y:=hide o;clear o G F;simp only [aI];go_enter Tryz.func59,Tryz.ntmps59;go_wp2_with fail;refine (dk c _ _ hn).mono ?_;rintro e W ⟨rfl,f⟩;have H:w.heap.size<W.heap.size:=am f;have h:=hide (Below.trans ((Below.refl _ _).alloc (Nat.le_refl _) _) (f.mono af):Below w w W);have HQ:=hide (az f af (be w c));obtain ⟨q0,q1,q2,q3,q4,q5,q6,q7,q8,q9,I,J,O,U⟩:=HQ.out;clear f;rw [Y.out];go_wp2_with fail;refine (rt y _ om om).mono ?_;rintro e w2 ⟨g,hg,rfl,hI,E⟩;clear q0 q1 q2 q3 q4 q5 q6 q7 q8 q9 I J O U;go_wp2;go_ret2;refine ⟨g,?_,?_,by rw [V.out];exact hI,(h.out.alloc (Nat.le_of_lt H) _).trans (E.mono ag)⟩
 ·simp at hg;omega
 ·rw [V.out];simp [kq]
theorem sj (c:aC) (y:Int) (w:World) (hn:c.name.size≤1000) (o:aP c y 1601=0) (E:c.shape=5) :
  Calls Tryz.prog 59 #[aI c,y] w (jV c y w):=by
 have W:=hide (show bH c y=mZ (aF c y) by simp [bH,E]);obtain ⟨h,ah,al⟩:=br o;have aa:(c.shape==5)=true:=by simp [E]
 have ab:(c.shape==4)=false:=by simp [E]
 have ad:0≤aF c y∧aF c y+400<3068037:=by
  obtain ⟨hm,ac,hk,hd⟩:=bN h;have Y:=fM o;have b0:=lu c (y-1+c.shift) h Y om;have e0:aF c y=bW c (y-1+c.shift)+1:=by simp [aF,o]
  have H:c.kind=6:=(ef h).2.1.2 E;have e1:bW c (y-1+c.shift)=bZ (y-1+c.shift) c.month:=by simp [bW,H]
  have h3:aL (y-1+c.shift+1) c.month=true:=by simp [aL];omega
  have h4:=kI (y-1+c.shift) c.month Y om;have h5:=iF (y-1+c.shift+1) c.month h3 om;omega
 have H2:=hide o;clear o E h;simp only [aI];go_enter Tryz.func59,Tryz.ntmps59;go_wp2_with fail;refine (dk c _ _ hn).mono ?_;rintro e w1 ⟨rfl,f⟩;have I:w.heap.size<w1.heap.size:=am f;have F:=hide (Below.trans ((Below.refl _ _).alloc (Nat.le_refl _) _) (f.mono af):Below w w w1);have HQ:=hide (az f af (be w c));obtain ⟨q0,q1,q2,q3,q4,q5,q6,q7,q8,q9,J,O,U,V⟩:=HQ.out;clear f;rw [H2.out];go_wp2_with fail;refine (sW (aF c y) _ om om).mono ?_;rintro e w2 ⟨g,hg,rfl,hI,G⟩;clear q0 q1 q2 q3 q4 q5 q6 q7 q8 q9 J O U V;go_wp2;go_ret2;refine ⟨g,?_,?_,by rw [W.out];exact hI,(F.out.alloc (Nat.le_of_lt I) _).trans (G.mono ag)⟩
 ·simp at hg;omega
 ·rw [W.out];simp [mZ]
end
section
open Go.RowKit Go.Shelf Qd
attribute [local go_sem] Oper.semAt_some
theorem rz {c:aC} (h:c.Ok) (o:¬ c.shape=4) (E:¬ c.shape=5):gp c:=by
 obtain ⟨_,_,_,f⟩:=h;unfold aC.ruled aC.weeks eG aC.pat0 at f;unfold gp Go.Proofs.YtpebkobmhhnojaaGreatDoor.eq ee eo
 split <;> (try split) <;> omega
def qB {n:Nat} (h:Int) (f:List (PW n)):Int × List Int:=f.foldl (fun s x=>(s.1+7*x.1.2,s.2.set x.1.1 (s.1+7*x.1.2-1))) (h,List.replicate n 0)
theorem qX {n:Nat} (h:Int) (f:List (PW n)) (x:PW n):qB h (f++[x])=((qB h f).1+7*x.1.2,(qB h f).2.set x.1.1 ((qB h f).1+7*x.1.2-1)):=by simp [qB]
theorem CZ {n:Nat} (h:Int) (f:List (PW n)):(qB h f).2.length=n:=by
 unfold qB;have:∀ (l:List (PW n)) (s:Int × List Int),(l.foldl (fun s x=>(s.1+7*x.1.2,s.2.set x.1.1 (s.1+7*x.1.2-1))) s).2.length=s.2.length:=by
  intro l
  induction l with
  | nil=>intro s;rfl
  | cons a l o=>intro s;rw [List.foldl_cons,o];simp
 rw [this];simp
theorem En {n:Nat} (o:Int) (f:List (PW n)):o≤(qB o f).1∧(qB o f).1≤o+700*f.length:=by
 unfold qB;have:∀ (l:List (PW n)) (s:Int × List Int),s.1≤(l.foldl (fun s x=>(s.1+7*x.1.2,s.2.set x.1.1 (s.1+7*x.1.2-1))) s).1∧(l.foldl (fun s x=>(s.1+7*x.1.2,s.2.set x.1.1 (s.1+7*x.1.2-1))) s).1≤s.1+700*l.length:=by
  intro l
  induction l with
  | nil=>intro s;simp
  | cons a l E =>
   intro s;have h:=E (s.1+7*a.1.2,s.2.set a.1.1 (s.1+7*a.1.2-1));have F:=a.2;rw [List.foldl_cons];simp only [List.length_cons] at h ⊢;omega
 exact this _ _
theorem zv (c:aC) (y:Int) (n:Nat) (f:0<n) (F:gp c) (h:dh c y=52∨dh c y=53) (k:Nat) (I:k≤n) :
  qB (aF c y) (cI (tq c (dh c y) n f) k)=(dx c y k,iB n k fun i=>dx c y (i+1)-1):=by
 induction k with
 | zero=>simp [cI,qB,dx,fB]
 | succ k G =>
  have H:=m6 c (dh c y) k F h;have o:min k (n-1)=k:=om;have E:min (max (cP c (dh c y) k) 0) 100=cP c (dh c y) k:=om;rw [cn,qX,G om];simp only [tq,o,E];rw [← ed];rfl
theorem lM {A B:Nat} (W:World) (l:Nat) (o o':Obj) (h:W.heap[l]?=some o) (G:o.isCells=false):ge A B W (W.putObj l o'):=by
 have F:=grownBy_putObj' W l o';refine ⟨F.size,fun k H t z _ _ f=>?_⟩;have E:=(Array.getElem?_eq_some_iff.1 f).1;refine (F.block k E (fun e=>?_)).trans f;cases e;rw [h] at f;cases f;cases G
theorem jQ {A B:Nat} (W:World) (p:Addr) (u:Value) (o:p.block=A∨p.block=B):ge A B W (W.setCell p u):=
 ⟨by simp,fun k E t z F G f=>(Below.heap_setCell W p u k (by rcases o with h | h <;> omega)).trans f⟩
theorem ax.far {w:World} {B:Nat} {f:Array Value} {t:TypeId} (h:ax w B f t) {p:Addr} (o:B≠p.block) (u:Value):ax (w.setCell p u) B f t:=(Below.heap_setCell w p u B o).trans h
theorem ax.set0 {w:World} {B:Nat} {v:Value} {t:TypeId} (h:ax w B #[v] t) (u:Value):ax (w.setCell ⟨B,0,none⟩ u) B #[u] t:=by
 unfold ax at h ⊢;simp [World.setCell,Array.getElem?_modify,h]
theorem fp {X Y:World} {f:Option Nat} {B:Nat} {E:Array Value} {t:TypeId} (h:ax X B E t) (H:X.grownBy Y f) (I:∀ r,f=some r→∃ o:Obj,X.heap[r]?=some o∧o.isCells=false):ax Y B E t:=by
 refine (H.block B h.lt (fun e=>?_)).trans h;obtain ⟨o,F,G⟩:=I B e.symm;unfold ax at h;rw [h] at F;cases F;cases G
theorem qF {X Y:World} {f:Option Nat} {B:Nat} {E:List Int} (h:aS X B E) (F:X.grownBy Y f) (G:∀ r,f=some r→∃ o:Obj,X.heap[r]?=some o∧o.isCells=false):aS Y B E:=fp h F G
theorem rO (c:aC) (y:Int) (w:World) (hn:c.name.size≤1000) (hE:aP c y 1601=0) (al:¬ c.shape=4) (V:¬ c.shape=5) :
  Calls Tryz.prog 59 #[aI c,y] w (jV c y w):=by
 obtain ⟨ah,cb,cl⟩:=br hE;have H:c.okB=true:=by simpa [aC.okB] using ah
 have ao:c.kind≠6:=fun e=>V ((ef ah).2.1.1 e)
 have bb:=rz ah al V;have bp:=dt c y hE ao;have aq:j0 c=true:=by simp [j0,H,ao]
 have bt:dh c y=bM c y / 7:=by simp [dh,aq]
 have bc:dh c y=52∨dh c y=53:=om;have ba:o5 c y=0:=by simp [o5,aq,hE]
 have b0:=jK c H;have a9:dI c=0:=by simp [dI,H]
 have cp:=dm c y hE;have HL:=hide (show bH c y=(List.range (eH c).toNat).map fun i=>dx c y (i+1)-1 by simp [bH,al,V]);have a0:=hide bb;have a2:=hide bc;have e4:(c.shape==4)=false:=by simp [al]
 have e5:(c.shape==5)=false:=by simp [V]
 have H1:=hide hE;have H2:=hide ba;have H3:=hide a9;clear hE al V ah H ao bb bp aq bt bc ba a9;obtain ⟨n,a8⟩:∃ n:Nat,(n:Int)=eH c:=⟨(eH c).toNat,by omega⟩;have HN:=hide a8;have bw:12≤n∧n≤52:=om;have b5:=fun W=>gW n om W
 clear a8;simp only [aI];refine (callsIn_wide (n:=5)).1 ?_;refine callsIn_of_wp_marks Tryz.func59 rfl trivial ?_ rfl;simp only [Tryz.ntmps59,List.size_toArray,List.length_cons,List.length_nil,Nat.reduceAdd,Nat.reduceSub,Array.replicate_succ,Array.replicate_zero,List.push_toArray,List.append_toArray,List.nil_append,List.cons_append]
 gi_wp2_with fail
 refine ⟨trivial,(callsIn_wide.2 (dk c _ _ hn)).mono ?_⟩;rintro e G ⟨rfl,ad⟩;have bd:w.heap.size<G.heap.size:=am ad;have bh:=hide (Below.trans ((Below.refl _ _).alloc (Nat.le_refl _) _) (ad.mono af):Below w w G);have HQ:=hide (az ad af (be w c));obtain ⟨q0,q1,q2,q3,q4,q5,q6,q7,q8,q9,Y,aa,ab,ac⟩:=HQ.out;clear ad;rw [H1.out]
 gi_wp2_with fail
 refine ⟨trivial,(callsIn_wide.2 (sY c _ _ hn)).mono ?_⟩;rintro e w2 ⟨rfl,J⟩;clear q0 q1 q2 q3 q4 q5 q6 q7 q8 q9 Y aa ab ac;have aA:=hide (az J ag (bG HQ.out bd _));obtain ⟨q0,q1,q2,q3,q4,q5,q6,q7,q8,q9,Y,aa,ab,ac⟩:=aA.out;rw [H2.out]
 gi_wp2_with fail
 refine ⟨trivial,(callsIn_wide.2 (lF c _ hn)).mono ?_⟩;rintro e f ⟨rfl,O⟩;clear q0 q1 q2 q3 q4 q5 q6 q7 q8 q9 Y aa ab ac;have cr:G.heap.size+1≤w2.heap.size:=by have:=J.size;simp at this;omega
 have bk:=hide (az O om aA.out);have U:ax f G #[aF c y] 3:=((ax.new G #[aF c y] 3).call J).call O;have cs:w2.heap.size≤f.heap.size:=O.size;have cv:w.heap.size<f.heap.size:=om;obtain ⟨q0,q1,q2,q3,q4,q5,q6,q7,q8,q9,Y,aa,ab,ac⟩:=bk.out;rw [H3.out,← HN.out]
 gi_wp2_with fail
 refine ⟨trivial,(qn _ c _ _ _).mono ?_⟩;rintro e w5 ⟨rfl,rfl⟩;clear q0 q1 q2 q3 q4 q5 q6 q7 q8 q9 Y aa ab ac
 gi_wp2_with fail
 have a7:0<n:=om;obtain ⟨I,E⟩:∃ I:World,I=((((f.alloc (dO n)).alloc (.cells #[.slice (some ⟨f,0,none⟩) n n] 38)).alloc (.cells (bJ c) 24)).alloc (.cells #[.int .i64 (n:Int)] 3)).alloc (.cells #[dh c y] 3):=⟨_,rfl⟩;have b8:I.heap.size=f.heap.size+5:=by rw [E];simp
 have s0:ax I (f+2) (bJ c) 24:=by
  rw [E];have:=((ax.new ((f.alloc (dO n)).alloc (.cells #[.slice (some ⟨f,0,none⟩) n n] 38)) (bJ c) 24).alloc (.cells #[.int .i64 (n:Int)] 3)).alloc (.cells #[dh c y] 3);simpa using this
 have s1:ax I (f+3) #[.int .i64 (n:Int)] 3:=by
  rw [E];have:=(ax.new (((f.alloc (dO n)).alloc (.cells #[.slice (some ⟨f,0,none⟩) n n] 38)).alloc (.cells (bJ c) 24)) #[.int .i64 (n:Int)] 3).alloc (.cells #[dh c y] 3);simpa using this
 have s2:ax I (f+4) #[dh c y] 3:=by
  rw [E];have:=ax.new ((((f.alloc (dO n)).alloc (.cells #[.slice (some ⟨f,0,none⟩) n n] 38)).alloc (.cells (bJ c) 24)).alloc (.cells #[.int .i64 (n:Int)] 3)) #[dh c y] 3;simpa using this
 have s3:ax I (f+1) #[.slice (some ⟨f,0,none⟩) n n] 38:=by
  rw [E];have:=(((ax.new (f.alloc (dO n)) #[.slice (some ⟨f,0,none⟩) n n] 38).alloc (.cells (bJ c) 24)).alloc (.cells #[.int .i64 (n:Int)] 3)).alloc (.cells #[dh c y] 3);simpa using this
 have s4:aS I f (List.replicate n 0):=by
  rw [E];exact ((((aS.new f n).alloc _).alloc _).alloc _).alloc _
 have s5:ax I G #[aF c y] 3:=by
  rw [E];exact ((((U.alloc _).alloc _).alloc _).alloc _).alloc _
 have bl:Below w w I:=by
  have b1:Below w w w2:=(bh.out.alloc (Nat.le_of_lt bd) _).trans (J.mono ag);have b2:Below w w f:=b1.trans (O.mono om);rw [E];refine Below.alloc (Below.alloc (Below.alloc (Below.alloc (Below.alloc b2 ?_ _) ?_ _) ?_ _) ?_ _) ?_ _ <;> first | omega | (simp;omega)
 rw [← E];have b3:G.heap.size<f.heap.size:=om;clear U J O E
 refine wpIn_rangeFunc_ownF (α:=PW n) rfl om (gf:=124) (lb:=#[.pointer (some ⟨f+2,0,none⟩),.pointer (some ⟨f+3,0,none⟩),.pointer (some ⟨f+4,0,none⟩)]) rfl trivial (enters_of Tryz.func124 (by kernel_rfl) rfl)
  (nH c n (dh c y) a0.out a2.out om a7 (f.heap.size+2) (f.heap.size+3) (f.heap.size+4) G.heap.size f.heap.size I s0 s1 s2 om om om om om)
  jc (fun W l o o' _ h1 h2 _=>lM W l o o' h1 h2) (Below.refl _ _) (fun _=>rfl)
  (fun F W=>(ax W G #[.int .i64 (qB (aF c y) F).1] 3∧ax W (f+1) #[.slice (some ⟨f,0,none⟩) n n] 38∧aS W f (qB (aF c y) F).2)∧Below w w W)
  (fun _ _ _=>False)
  (OwnFrom.and (Own.from (fun s A B cS hs hg hr=>⟨fp hs.1 hg hr,fp hs.2.1 hg hr,qF hs.2.2 hg hr⟩) _) (ownFrom_below (Nat.le_refl _) om))
  (fun _ _ _ _ _ hs _ _=>hs)
  ⟨⟨s5,s3,s4⟩,bl⟩ ?a1 ?assign ?body ?done ?stop
 case assign =>
  intro l x W K hK
  gi_wp2
  exact hK
 case body =>
  rintro l F x W ⟨⟨u0,u1,u2⟩,hB⟩ b4;have hx:=x.2;have b7:=En (aF c y) F;have a6:=CZ (aF c y) F;have aB:=hide (qX (aF c y) F x);have k0:W.cell? ⟨G,0,none⟩=some (.int .i64 (qB (aF c y) F).1):=u0.cell 0;have cx:W.frozen? ⟨G,0,none⟩=false:=by simp [World.frozen?,show W.heap[G.heap.size]?=_ from u0]
  have k1:W.cell? ⟨f+1,0,none⟩=some (.slice (some ⟨f,0,none⟩) n n):=u1.cell 0;have k2:=u2.cell (k:=x.1.1) (by rw [a6];exact hx.1);have cy:=u2.frozen x.1.1;have b9:(x.1.1:Int)<(n:Int):=by have:=hx.1;omega
  have ca:=hx.2;have b6:¬ G.heap.size=f.heap.size:=om;have bx:¬ f.heap.size=G.heap.size:=om;have bX:¬ f.heap.size+1=G.heap.size:=om;have U0:=hide u0;have U1:=hide u1;have U2:=hide u2;clear u0 u1 u2 a6 hx;generalize a4:(qB (aF c y) F).1=dd at *;generalize a5:(qB (aF c y) F).2=ll at *;have HG:=hide (And.intro a4 a5);clear a4 a5
  gi_wp2
  refine ⟨(KeepsOthers.setCell _ _ _).trans (KeepsOthers.setCell _ _ _),jc (jQ _ _ _ (.inl rfl)) (jQ _ _ _ (.inr rfl)),⟨⟨?_,?_,?_⟩,?_⟩⟩
  ·rw [aB.out];exact (U0.out.set0 _).far ag _
  ·exact (U1.out.far ag _).far af _
  ·rw [aB.out];exact (U2.out.far ag _).set _ _
  ·exact (hB.setCell ag _).setCell ag _
 case done =>
  rintro D xs W hD rfl ⟨⟨u0,u1,u2⟩,hB⟩ hK;have k1:W.cell? ⟨f+1,0,none⟩=some (.slice (some ⟨f,0,none⟩) n n):=u1.cell 0;have U2:=hide u2;clear u0 u1 u2
  gi_wp2
  refine ⟨by simp,.inl ⟨_,_,rfl,run_takeDeferred hK,?_⟩⟩;have bs:=zv c y n a7 a0.out a2.out n (Nat.le_refl _);have hI:=U2.out;rw [bs] at hI;simp only [fG] at hI;have a3:bH c y=(List.range n).map fun i=>dx c y (i+1)-1:=by rw [HL.out,← HN.out];simp
  refine ⟨_,results_tmp2 rfl _ _ _,f.heap.size,by omega,?_,?_,?_⟩
  ·rw [a3];simp
  ·rw [a3]
   exact qF hI (grownBy_putObj' W D _) (fun r e=>by cases e;exact ⟨_,hK,rfl⟩)
  ·exact hB.trans (belowK_b (w:=w) (Nat.le_refl _) W D _ _ om hK rfl rfl)
 case stop =>
  rintro D cc F W _ _ h _;exact h.elim
def aQ (c:aC) (y:Int) (k:Nat):Int:=if k=0 then aF c y else (bH c y)[k-1]?.getD 0+1
def cm (c:aC) (y:Int) (k:Nat):Int:=(bH c y)[k]?.getD 0
theorem zp (c:aC) (F:Int) (H:Int) (U:1≤c.extra) (f:Nat→Int) (I:f 0=H) (J:∀ k,f (k+1)=f k+7*cP c F k) (k:Nat) :
  f k=H+7*(((k / 3:Nat):Int)*(eq c+ee c+eo c)+(if 1≤k % 3 then eq c else 0)+(if 2≤k % 3 then ee c else 0))+7*(if c.extra≤(k:Int) then F-52 else 0):=by
 induction k with
 | zero =>
  rw [I];rw [if_neg om,if_neg om,if_neg om];simp
 | succ k O =>
  rw [J,O];have h:k % 3=0∨k % 3=1∨k % 3=2:=om;unfold cP iC;have G:(if c.extra≤((k+1:Nat):Int) then F-52 else 0)=(if c.extra≤(k:Int) then F-52 else 0)+(if (k:Int)+1=c.extra then F-52 else 0):=by
   split <;> split <;> split <;> omega
  rw [G];rcases h with h | h | h
  ·have o:(k+1) % 3=1:=om
   have E:(k+1) / 3=k / 3:=om;simp only [h,o,E];simp;omega
  ·have o:(k+1) % 3=2:=om
   have E:(k+1) / 3=k / 3:=om;simp only [h,o,E];simp;omega
  ·have o:(k+1) % 3=0:=om
   have E:(k+1) / 3=k / 3+1:=om;simp only [h,o,E];simp;rw [Int.add_mul];omega
theorem wv (c:aC) (y:Int) (J:aP c y 1601=0) (h4:¬ c.shape=4) (W:¬ c.shape=5):dx c y (eH c).toNat=bB c y+1:=by
 obtain ⟨G,ab,ac⟩:=br J;have F:c.okB=true:=by simpa [aC.okB] using G
 have H:c.kind≠6:=fun e=>W ((ef G).2.1.1 e)
 have Y:=dt c y J H;have O:j0 c=true:=by simp [j0,F,H]
 have aa:dh c y=bM c y / 7:=by simp [dh,O]
 have hD:bM c y=bB c y-aF c y+1:=by simp [bM,J]
 have I:eH c=dl c.shape c.cycle:=by simp [eH,F]
 obtain ⟨_,_,_,hr⟩:=G;unfold aC.ruled aC.weeks eG aC.pat0 at hr;have hx:1≤c.extra∧c.extra≤dl c.shape c.cycle∧((c.shape=1∧c.p0+c.p1+c.p2=13)∨c.shape=2∨(c.shape=3∧(c.cycle=1∨c.cycle=2∨c.cycle=4))):=by
  have m1:c.shape=1→dl c.shape c.cycle=12:=by intro h;simp [dl,h]
  omega
 obtain ⟨U,o,V⟩:=hx;have hs:=zp c (dh c y) (aF c y) U (dx c y) rfl (fun _=>rfl) (eH c).toNat;rw [hs,I];rcases V with ⟨f,hp⟩ | f | ⟨f,E | E | E⟩
 ·have em:dl c.shape c.cycle=12:=by simp [dl,f]
  rw [em] at o ⊢;rw [if_pos (show c.extra≤((12:Int).toNat:Int) by simpa using o)];simp [eq,ee,eo,f];omega
 ·have em:dl c.shape c.cycle=13:=by simp [dl,f]
  rw [em] at o ⊢;rw [if_pos (show c.extra≤((13:Int).toNat:Int) by simpa using o)];simp [eq,ee,eo,f];omega
 ·have em:dl c.shape c.cycle=52:=by simp [dl,f,E]
  rw [em] at o ⊢;rw [if_pos (show c.extra≤((52:Int).toNat:Int) by simpa using o)];simp [eq,ee,eo,f,E];omega
 ·have em:dl c.shape c.cycle=26:=by simp [dl,f,E]
  rw [em] at o ⊢;rw [if_pos (show c.extra≤((26:Int).toNat:Int) by simpa using o)];simp [eq,ee,eo,f,E];omega
 ·have em:dl c.shape c.cycle=13:=by simp [dl,f,E]
  rw [em] at o ⊢;rw [if_pos (show c.extra≤((13:Int).toNat:Int) by simpa using o)];simp [eq,ee,eo,f,E];omega
end
section
open Go.RowKit Qd
def dQ (t:Int):Int:=fj (t / 12) (t % 12+1) 1
theorem ip (t:Int) (f:19200≤t) (h:t<120000):aL (t / 12) (t % 12+1)=true:=by
 simp [aL];omega
theorem ru (t:Int) (h:19200≤t) (o:t<120000):cN (t / 12) (t % 12+1) 1=true:=by
 have f:=ip t h o;have:=iO _ _ f;simp [cN,f];omega
theorem gh (t:Int) (H:19200≤t) (U:t+1<120000):dQ t+cM (t / 12) (t % 12+1)=dQ (t+1):=by
 have O:=ip t H om;have J:cM (t / 12) (t % 12+1)=aN (t / 12) (t % 12+1+1)-aN (t / 12) (t % 12+1):=by unfold cM;rw [if_pos O]
 unfold dQ fj;rw [J];by_cases h:t % 12=11
 ·have f:(t+1) / 12=t / 12+1:=om
  have o:(t+1) % 12=0:=om;rw [f,o,h];have V:=db (t / 12) om om;have E:=eX (t / 12);have I:=lU (t / 12+1);have F:(11:Int)+1+1=13:=by decide
  have G:(0:Int)+1=1:=by decide
  rw [F,G,E,I];omega
 ·have f:(t+1) / 12=t / 12:=om
  have o:(t+1) % 12=t % 12+1:=om;rw [f,o];omega
theorem lB (t:Int) (f:19200≤t) (h:t+1<120000):bZ (t / 12) (t % 12+1)+1=dQ (t+1):=by
 rw [← gh t f h];unfold bZ dQ fj;omega
theorem uK (t:Int) (f:19200≤t) (h:t<120000):dr (dQ t)=t / 12∧io (dQ t)=t % 12+1:=by
 have:=me (ru t f h);exact ⟨this.1,this.2.1⟩
theorem lz (t:Int) (h:19200≤t) (k:Nat) (o:t+k<120000):ep (dQ t) k=dQ (t+k):=by
 induction k with
 | zero=>simp [ep]
 | succ k f =>
  have:=uK (t+k) om om;unfold ep;rw [f om,this.1,this.2,gh (t+k) om om];congr 1;omega
def gD (c:aC) (y:Int):Int:=(y-1+c.shift)*12+c.month
theorem fw (c:aC) (y:Int) (E:aP c y 1601=0) (f:c.kind=6):aF c y=dQ (gD c y):=by
 obtain ⟨h,H,I⟩:=br E;obtain ⟨U,V,O,J⟩:=bN h;have e:aF c y=bZ (y-1+c.shift) c.month+1:=by simp [aF,E,bW,f]
 have o:=lB (gD c y-1) (by unfold gD;omega) (by unfold gD;omega);have F:(gD c y-1) / 12=y-1+c.shift:=by unfold gD;omega
 have G:(gD c y-1) % 12+1=c.month:=by unfold gD;omega
 rw [F,G] at o;rw [e,o];congr 1;omega
theorem st (c:aC) (y:Int) (E:aP c y 1600=0) (f:c.kind=6):bB c y=dQ (gD c y+12)-1:=by
 obtain ⟨h,I,J⟩:=br E;obtain ⟨V,W,U,O⟩:=bN h;have e:bB c y=bZ (y+c.shift) c.month:=by simp [bB,E,bW,f]
 have o:=lB (gD c y+11) (by unfold gD;omega) (by unfold gD;omega);have F:(gD c y+11) / 12=y+c.shift:=by unfold gD;omega
 have G:(gD c y+11) % 12+1=c.month:=by unfold gD;omega
 rw [F,G] at o;have H:gD c y+11+1=gD c y+12:=om;rw [H] at o;omega
theorem jh (y m:Int) (h:aL y m=true):bU y m 7=bZ y m-fg y m % 7:=by
 have f:ik y m 7=0:=by simp [ik,h]
 simp [bU,f]
theorem vX (y m:Int) (F:1600≤y) (G:y≤9999) (H:1≤m) (I:m≤11) :
  (bU y (m+1) 7-bU y m 7) % 7=0∧28≤bU y (m+1) 7-bU y m 7∧bU y (m+1) 7-bU y m 7≤35:=by
 have h:aL y m=true:=by simp [aL];omega
 have f:aL y (m+1)=true:=by simp [aL];omega
 rw [jh y m h,jh y (m+1) f];have O:=iO y (m+1) f;have U:=kU y (m+1);have J:cM y (m+1)=aN y (m+1+1)-aN y (m+1):=by unfold cM;rw [if_pos f]
 have o:=gn y m h;have E:=gn y (m+1) f;unfold fg;omega
theorem uO (y:Int) (I:1600≤y) (J:y≤9998) :
  (bU (y+1) 1 7-bU y 12 7) % 7=0∧28≤bU (y+1) 1 7-bU y 12 7∧bU (y+1) 1 7-bU y 12 7≤35:=by
 have h:aL y 12=true:=by simp [aL];omega
 have o:aL (y+1) 1=true:=by simp [aL];omega
 rw [jh y 12 h,jh (y+1) 1 o];have F:=gn y 12 h;have G:=gn (y+1) 1 o;have O:=db y om om;have f:=eX y;have E:aN (y+1) (1+1)=31:=by simp [aN,kK]
 have H:(12:Int)+1=13:=by decide
 rw [H,f] at F;rw [E] at G;unfold fg;omega
theorem oP (y:Int):(kq y).length=12:=by simp [kq]
theorem l7 (d:Int):(mZ d).length=12:=by simp [mZ]
theorem m8 (c:aC) (y:Int) (o:c.okB=true):((bH c y).length:Int)=eH c:=by
 have f:eH c=dl c.shape c.cycle:=by simp [eH,o]
 unfold bH
 split
 ·rename_i h;rw [oP,f];simp [dl,h]
 ·split
  ·rename_i h;rw [l7,f];simp [dl,h]
  ·have:=jK c o
   simp;omega
theorem cJ (c:aC) (y:Int) (k:Nat):aQ c y (k+1)=cm c y k+1:=by
 unfold aQ cm;rw [if_neg om];simp
theorem iG (c:aC) (y:Int) (U:aP c y 1601=0) (k:Nat) (I:k<(bH c y).length) :
  7≤cm c y k-aQ c y k+1∧cm c y k-aQ c y k+1≤42∧(c.kind≠6→(cm c y k-aQ c y k+1) % 7=0):=by
 obtain ⟨o,aA,aB⟩:=br U;have F:c.okB=true:=by simpa [aC.okB] using o
 have ah:=m8 c y F;obtain ⟨s4,s6,_,_⟩:=ef o;by_cases V:c.shape=4
 ·have Y:c.kind=4:=s4.2 V
  have E:bH c y=kq y:=by simp [bH,V]
  rw [E,oP] at I;have H:cm c y k=bU y ((k:Int)+1) 7:=by unfold cm;rw [E];simp [kq,vi,I]
  have J:aQ c y k=(if k=0 then bU (y-1) 12 7 else bU y (k:Int) 7)+1:=by
   unfold aQ
   split
   ·obtain ⟨_,_,_,hr⟩:=o
    unfold aC.ruled aC.weeks eG aC.pat0 at hr;have hm:c.month=12∧c.day=7∧c.shift=0:=om;have ht:aL (y-1) 12=true:=by simp [aL];omega
    have G:y-1+c.shift=y-1:=om;rw [jh (y-1) 12 ht];simp [aF,U,bW,Y,G,hm.1,hm.2.1]
   ·rename_i h0
    rw [E];have G:((k-1:Nat):Int)+1=k:=om;simp [kq,vi,show k-1<12 by omega,G]
  rw [H,J]
  split
  ·rename_i h0
   subst h0;have:=uO (y-1) om om;have G:y-1+1=y:=om;rw [G] at this;simp;omega
  ·have:=vX y k om om om om
   omega
 ·by_cases O:c.shape=5
  ·have f:c.kind=6:=s6.2 O
   obtain ⟨hm,hs,_,_⟩:=bN o;have E:bH c y=mZ (aF c y):=by simp [bH,O]
   rw [E,l7] at I;have b1:19200≤gD c y∧gD c y+12<120000:=by unfold gD;omega
   have H:∀ j:Nat,j<12→cm c y j=dQ (gD c y+j+1)-1:=by
    intro j W;unfold cm;rw [E,fw c y U f];have:=lz (gD c y) b1.1 (j+1) om;simp [mZ,zR,W,this];congr 1;omega
   have J:aQ c y k=dQ (gD c y+k):=by
    cases k with
    | zero=>simp [aQ,fw c y U f]
    | succ k =>
     rw [cJ,H k om];have G:gD c y+((k+1:Nat):Int)=gD c y+k+1:=om;rw [G];omega
   have aa:=gh (gD c y+k) om om;have ht:=ip (gD c y+k) om om;have l1:=iO _ _ ht;have l2:=kU ((gD c y+k) / 12) ((gD c y+k) % 12+1);rw [H k I,J,← aa];exact ⟨by omega,by omega,fun h=>absurd f h⟩
  ·have f:c.kind≠6:=fun e=>O (s6.1 e)
   have E:bH c y=(List.range (eH c).toNat).map fun i=>dx c y (i+1)-1:=by simp [bH,V,O]
   have ac:=rz o V O;have al:=dt c y U f;have aq:dh c y=bM c y / 7:=by simp [dh,j0,F,f]
   have ad:dh c y=52∨dh c y=53:=om;have ao:=m6 c (dh c y) k ac ad;rw [E] at I;simp at I;have H:∀ j:Nat,(j:Int)<eH c→cm c y j=dx c y (j+1)-1:=by
    intro j W;unfold cm;rw [E];simp [W]
   have J:aQ c y k=dx c y k:=by
    cases k with
    | zero=>simp [aQ,dx]
    | succ k=>rw [cJ,H k om];omega
   have ab:dx c y (k+1)=dx c y k+7*cP c (dh c y) k:=rfl;rw [H k I,J,ab];exact ⟨by omega,by omega,fun _=>by omega⟩
theorem BH (c:aC) (y:Int) (f:aP c y 1601=0) (k:Nat) (F:k≤(bH c y).length):aF c y≤aQ c y k∧aQ c y k≤aF c y+42*k:=by
 induction k with
 | zero=>simp [aQ]
 | succ k h =>
  have o:=h om;have E:=iG c y f k om;rw [cJ];omega
theorem ye (c:aC) (y:Int) (w:World) (h:c.name.size≤1000) (f:aP c y 1601=0):Calls Tryz.prog 59 #[aI c,y] w (jV c y w):=by
 by_cases o:c.shape=4
 ·exact tn c y w h f o
 ·by_cases E:c.shape=5
  ·exact sj c y w h f E
  ·exact rO c y w h f o E
def pE (c:aC) (y:Int) (k:Nat):Int:=(cm c y k-aQ c y k) / 7+1
theorem kP (c:aC) (y:Int) (o:aP c y 1601=0) (f:c.kind=6) (j:Nat) (H:j<12):cm c y j=dQ (gD c y+j+1)-1:=by
 obtain ⟨h,I,J⟩:=br o;obtain ⟨O,U,_,_⟩:=bN h;have G:=(ef h).2.1.1 f;have F:bH c y=mZ (aF c y):=by simp [bH,G]
 have E:19200≤gD c y∧gD c y+12<120000:=by unfold gD;omega
 unfold cm;rw [F,fw c y o f];have:=lz (gD c y) E.1 (j+1) om;simp [mZ,zR,H,this];congr 1;omega
theorem ss (c:aC) (y:Int) (h:aP c y 1601=0) (f:c.kind=6) (k:Nat) (E:k<12):aQ c y k=dQ (gD c y+k):=by
 cases k with
 | zero=>simp [aQ,fw c y h f]
 | succ k =>
  rw [cJ,kP c y h f k om];have o:gD c y+((k+1:Nat):Int)=gD c y+k+1:=om;rw [o];omega
theorem fR (c:aC) (y:Int) (F:aP c y 1601=0):aQ c y (bH c y).length=bB c y+1∧12≤(bH c y).length∧(bH c y).length≤52:=by
 obtain ⟨E,ab,ac⟩:=br F;have h:c.okB=true:=by simpa [aC.okB] using E
 have W:=m8 c y h;have aa:=jK c h;obtain ⟨s4,s6,_,_⟩:=ef E;refine ⟨?_,by omega,by omega⟩;by_cases H:c.shape=4
 ·have O:c.kind=4:=s4.2 H
  have o:bH c y=kq y:=by simp [bH,H]
  have f:(bH c y).length=11+1:=by rw [o,oP]
  rw [f,cJ];have J:cm c y 11=bU y 12 7:=by unfold cm;rw [o];simp [kq,vi]
  obtain ⟨_,_,_,hr⟩:=E;unfold aC.ruled aC.weeks eG aC.pat0 at hr;have U:c.month=12∧c.day=7∧c.shift=0:=om;have ht:aL y 12=true:=by simp [aL];omega
  rw [J,jh y 12 ht];simp [bB,dj F,bW,O,U.1,U.2.1,U.2.2]
 ·by_cases I:c.shape=5
  ·have G:c.kind=6:=s6.2 I
   have o:bH c y=mZ (aF c y):=by simp [bH,I]
   have f:(bH c y).length=11+1:=by rw [o,l7]
   rw [f,cJ,kP c y F G 11 om,st c y (dj F) G];congr 3;omega
  ·have o:bH c y=(List.range (eH c).toNat).map fun i=>dx c y (i+1)-1:=by simp [bH,H,I]
   have Y:=wv c y F H I;obtain ⟨n,V⟩:∃ n:Nat,(eH c).toNat=n+1:=⟨(eH c).toNat-1,by omega⟩;have f:(bH c y).length=n+1:=by rw [o];simp [V]
   rw [f,cJ];rw [V] at Y;have J:cm c y n=dx c y (n+1)-1:=by
    unfold cm;rw [o];simp [V]
   rw [J,Y];omega
def gz:Int→Int→List (Int × Int)→Prop
 | s,e,[]=>s=e
 | s,e,x::l=>x.1=s∧x.1≤x.2∧x.2≤x.1+6∧gz (x.2+1) e l
theorem kt {s m e:Int} {a b:List (Int × Int)} (h:gz s m a) (f:gz m e b):gz s e (a++b):=by
 induction a generalizing s with
 | nil=>have:s=m:=h;rw [this];exact f
 | cons x l H=>obtain ⟨o,E,F,G⟩:=h;exact ⟨o,E,F,H G⟩
theorem ng {s m:Int} {a:List (Int × Int)} (h:gz s m a) (x:Int × Int) (f:x.1=m) (o:x.1≤x.2) (E:x.2≤x.1+6):gz s (x.2+1) (a++[x]):=
 kt h ⟨f,o,E,rfl⟩
def oZ (s:Int) (l:List (Int × Int)) (i:Nat):Int:=if i=0 then s else (l[i-1]?.getD (0,0)).2+1
theorem m9 (s:Int) (l:List (Int × Int)) (i:Nat):oZ s l (i+1)=(l[i]?.getD (0,0)).2+1:=by simp [oZ]
theorem wN {s e:Int} {l:List (Int × Int)} (h:gz s e l):oZ s l l.length=e:=by
 induction l generalizing s with
 | nil=>exact h
 | cons x l G =>
  obtain ⟨H,I,J,o⟩:=h;have:=G o;rw [List.length_cons,m9];unfold oZ at this
  split at this
  ·rename_i h0
   have E:l=[]:=List.eq_nil_of_length_eq_zero h0;subst E;exact this
  ·rename_i h0
   have f:(x::l)[l.length]?=l[l.length-1]?:=by
    obtain ⟨k,F⟩:∃ k,l.length=k+1:=⟨l.length-1,by omega⟩;rw [F];simp
   rw [f];exact this
theorem vL {s e:Int} {l:List (Int × Int)} (h:gz s e l) (i:Nat) (hi:i<l.length) :
  l[i]?=some (oZ s l i,oZ s l (i+1)-1)∧oZ s l i<oZ s l (i+1)∧oZ s l (i+1)≤oZ s l i+7:=by
 induction l generalizing s i with
 | nil=>simp at hi
 | cons x l H =>
  obtain ⟨F,I,J,G⟩:=h;cases i with
  | zero =>
   have f:oZ s (x::l) 0=x.1:=by simp [oZ,F]
   have E:oZ s (x::l) (0+1)=x.2+1:=by simp [oZ]
   rw [f,E];refine ⟨?_,by omega,by omega⟩;have:(x.1,x.2+1-1)=x:=by rw [show x.2+1-1=x.2 by omega]
   simp [this]
  | succ i =>
   have o:i<l.length:=by simpa using hi
   have:=H G i o;have f:∀ j,oZ s (x::l) (j+1)=oZ (x.2+1) l j:=by
    intro j;rw [m9];cases j with
    | zero=>simp [oZ]
    | succ j=>rw [m9];simp
   rw [f,f];simpa using this
theorem sJ (f t:Int) (h:f≤t) (j:Nat) (E:f+7*j≤t):gz f (f+7*j) (cI (fun j:Nat=>(f+7*(j:Int),min (f+7*(j:Int)+6) t)) j):=by
 induction j with
 | zero=>simp [cI,gz]
 | succ j o =>
  rw [cn];have:=ng (o om) (f+7*(j:Int),min (f+7*(j:Int)+6) t) rfl ag ag;have e:(f+7*(j:Int),min (f+7*(j:Int)+6) t).2+1=f+7*((j+1:Nat):Int):=ag;rw [e] at this;exact this
theorem pZ (f t:Int) (h:f≤t):gz f (t+1) (cI (fun j:Nat=>(f+7*(j:Int),min (f+7*(j:Int)+6) t)) ((t-f) / 7+1).toNat):=by
 obtain ⟨j,E⟩:∃ j:Nat,((t-f) / 7+1).toNat=j+1:=⟨((t-f) / 7).toNat,by omega⟩;rw [E,cn];have o:f+7*(j:Int)≤t∧t≤f+7*(j:Int)+6:=om;have:=ng (sJ f t h j o.1) (f+7*(j:Int),min (f+7*(j:Int)+6) t) rfl ag ag;have e:(f+7*(j:Int),min (f+7*(j:Int)+6) t).2+1=t+1:=ag;rw [e] at this;exact this
def lV (c:aC) (y:Int) (k:Nat):Nat:=(pE c y k).toNat
def co (c:aC) (y:Int):Nat→Nat
 | 0=>0
 | k+1=>co c y k+lV c y k
def kL (c:aC) (y:Int) (k:Nat) (j:Nat):Int × Int:=(aQ c y k+7*(j:Int),min (aQ c y k+7*(j:Int)+6) (cm c y k))
def jS (c:aC) (y:Int):Nat→List (Int × Int)
 | 0=>[]
 | k+1=>jS c y k++cI (kL c y k) (lV c y k)
theorem kj (c:aC) (y:Int) (k:Nat):(jS c y k).length=co c y k:=by
 induction k with
 | zero=>rfl
 | succ k f=>simp [jS,co,f,fe]
def aV (c:aC) (y:Int):Nat:=(bH c y).length
def ce (c:aC) (y:Int):Nat:=co c y (aV c y)
def nE (c:aC) (y:Int):List (Int × Int):=jS c y (aV c y)
theorem eQ (c:aC) (y:Int):(nE c y).length=ce c y:=kj c y _
def cf (c:aC) (y:Int) (i:Nat):Int:=oZ (aF c y) (nE c y) i
theorem kC (c:aC) (y:Int) (f:aP c y 1601=0) (k:Nat) (h:k<aV c y):1≤lV c y k∧lV c y k≤6:=by
 have:=iG c y f k h;unfold lV pE;omega
theorem rZ (c:aC) (y:Int) (f:aP c y 1601=0) (k:Nat) (h:k≤aV c y):gz (aF c y) (aQ c y k) (jS c y k):=by
 induction k with
 | zero=>simp [jS,gz,aQ]
 | succ k o =>
  have E:=iG c y f k h;refine kt (o om) ?_;rw [cJ];exact pZ (aQ c y k) (cm c y k) om
theorem nR (c:aC) (y:Int) (f:aP c y 1601=0):gz (aF c y) (bB c y+1) (nE c y):=by
 have:=rZ c y f (aV c y) (Nat.le_refl _)
 rwa [show aQ c y (aV c y)=bB c y+1 from (fR c y f).1] at this
theorem zK (c:aC) (y:Int) (k m:Nat):∃ r,jS c y (k+m)=jS c y k++r:=by
 induction m with
 | zero=>exact ⟨[],by simp⟩
 | succ m h =>
  obtain ⟨r,f⟩:=h;exact ⟨r++cI (kL c y (k+m)) (lV c y (k+m)),by rw [← Nat.add_assoc,jS,f,List.append_assoc]⟩
theorem uX (c:aC) (y:Int) (k m:Nat):co c y k≤co c y (k+m):=by
 induction m with
 | zero=>exact Nat.le_refl _
 | succ m f=>rw [← Nat.add_assoc,co];omega
theorem km (c:aC) (y:Int) {k m:Nat} (h:k≤m):co c y k≤co c y m:=by
 have:=uX c y k (m-k)
 rwa [show k+(m-k)=m by omega] at this
theorem BV (c:aC) (y:Int) (o:aP c y 1601=0) {k m:Nat} (h:k<m) (F:m≤aV c y):co c y k<co c y m:=by
 have f:=km c y (show k+1≤m by omega);have E:=kC c y o k om;rw [co] at f;omega
theorem Cv (c:aC) (y:Int) (k j:Nat) (o:k<aV c y) (h:j<lV c y k):(nE c y)[co c y k+j]?=some (kL c y k j):=by
 obtain ⟨r,f⟩:=zK c y (k+1) (aV c y-(k+1));rw [show k+1+(aV c y-(k+1))=aV c y by omega] at f;unfold nE;rw [f,List.getElem?_append_left (by rw [kj,co];omega),jS,List.getElem?_append_right (by rw [kj];omega),kj];simp [cI,h]
theorem iv (c:aC) (y:Int):cf c y 0=aF c y:=by simp [cf,oZ]
theorem dy (c:aC) (y:Int) (f:aP c y 1601=0):cf c y (ce c y)=bB c y+1:=by
 have:=wN (nR c y f)
 rwa [eQ] at this
theorem ej (c:aC) (y:Int) (f:aP c y 1601=0) (i:Nat) (hi:i<ce c y) :
  (nE c y)[i]?=some (cf c y i,cf c y (i+1)-1)∧cf c y i<cf c y (i+1)∧cf c y (i+1)≤cf c y i+7:=
 vL (nR c y f) i (by rw [eQ];exact hi)
theorem Bi (c:aC) (y:Int) (F:aP c y 1601=0) (k j:Nat) (H:k<aV c y) (G:j<lV c y k):cf c y (co c y k+j)=aQ c y k+7*(j:Int):=by
 have o:=Cv c y k j H G;have f:co c y k+j<ce c y:=by
  have:=km c y (show k+1≤aV c y by omega);rw [co] at this;unfold ce;omega
 have h:=(ej c y F _ f).1;rw [o] at h;have E:=Option.some.inj h;have:=congrArg Prod.fst E;exact this.symm
theorem qJ (c:aC) (y:Int) (f:aP c y 1601=0) (k:Nat) (E:k≤aV c y):cf c y (co c y k)=aQ c y k:=by
 rcases Nat.lt_or_eq_of_le E with h | h
 ·have:=Bi c y f k 0 h (by have:=kC c y f k h;omega)
  simpa using this
 ·subst h
  have o:=dy c y f;unfold ce at o;rw [o];exact (fR c y f).1.symm
theorem mc (c:aC) (y:Int) (f:aP c y 1601=0) {i j:Nat} (h:i<j) (G:j≤ce c y):cf c y i+(j-i)≤cf c y j:=by
 obtain ⟨m,rfl⟩:∃ m,j=i+1+m:=⟨j-i-1,by omega⟩
 induction m with
 | zero =>
  have:=(ej c y f i om).2.1;simp;omega
 | succ m o =>
  have E:=o om om;have F:=(ej c y f (i+1+m) om).2.1;rw [← Nat.add_assoc];omega
theorem cj (c:aC) (y:Int) (f:aP c y 1601=0) {i j:Nat} (h:i≤j) (o:j≤ce c y):cf c y i≤cf c y j:=by
 rcases Nat.lt_or_eq_of_le h with h | h
 ·have:=mc c y f h o;omega
 ·subst h;omega
theorem t7 (c:aC) (y:Int) (o:aP c y 1601=0) (f:c.kind≠6) (k:Nat) (E:k≤aV c y):aQ c y k=aF c y+7*(co c y k:Int):=by
 induction k with
 | zero=>simp [aQ,co]
 | succ k F =>
  have G:=F om;have h:=iG c y o k E;have H:=h.2.2 f;rw [cJ,co];unfold lV pE;omega
theorem GG (c:aC) (y:Int) (f:aP c y 1601=0) (h:c.kind≠6):bM c y=7*(ce c y:Int):=by
 have o:=t7 c y f h (aV c y) (Nat.le_refl _);have E:aQ c y (aV c y)=bB c y+1:=(fR c y f).1;have F:bM c y=bB c y-aF c y+1:=by simp [bM,f]
 unfold ce;omega
theorem gH (c:aC) (y:Int) (h:aP c y 1601=0):12≤ce c y∧ce c y≤60:=by
  have H:=fR c y h;have hn:12≤aV c y∧aV c y≤52:=⟨H.2.1,H.2.2⟩;constructor
  · have : ∀ k, k ≤ aV c y → k ≤ co c y k := by
      intro k
      induction k with
      | zero=>intro _;exact Nat.zero_le _
      | succ k F =>
        intro G;have O:=F om;have U:=kC c y h k G;rw [co];omega
    have:=this _ (Nat.le_refl _);unfold ce;omega
  · by_cases f:c.kind=6
    · have E : aV c y = 12 := by
        obtain ⟨o,_,_⟩:=br h;have:=(ef o).2.1.1 f;unfold aV bH;rw [if_neg om,if_pos this,l7]
      have:∀ k,k≤12→co c y k≤5*k:=by
        intro k
        induction k with
        | zero=>intro _;simp [co]
        | succ k F =>
          intro G;have O:=F om;have U:pE c y k≤5:=by
            have I:=kP c y h f k om;have J:=ss c y h f k om;obtain ⟨o,W,Y⟩:=br h;obtain ⟨hm,hs,_,_⟩:=bN o;have V:=gh (gD c y+k) (by unfold gD;omega) (by unfold gD;omega);have l2:=kU ((gD c y+k) / 12) ((gD c y+k) % 12+1);unfold pE;rw [I,J];omega
          rw [co];unfold lV;omega
      have:=this 12 om;unfold ce;rw [E];omega
    · have h7:=GG c y h f
      have:=dt c y h f;omega
def aM (c:aC) (y:Int) (lv:Int):Nat:=if lv=1 then 1 else if lv=2 then 2 else if lv=3 then 4 else if lv=4 then aV c y else ce c y
def fx (n:Nat) (lv:Int) (i:Nat):Nat:=if lv=1 then n*i else if lv=2 then n*(2*i) / 4 else if lv=3 then n*i / 4 else i
def aX (c:aC) (y:Int) (lv:Int) (i:Nat):Nat:=if lv=5 then i else co c y (fx (aV c y) lv i)
def cz (c:aC) (y:Int) (lv:Int):List Int:=cI (fun i=>(aX c y lv (i+1):Int)) (aM c y lv)
theorem fE (c:aC) (y lv:Int):(cz c y lv).length=aM c y lv:=by simp [cz,fe]
theorem ey (c:aC) (y lv:Int) (i:Nat) (hi:i<aM c y lv):(cz c y lv)[i]?.getD 0=(aX c y lv (i+1):Int):=by simp [cz,cI,hi]
theorem jo (c:aC) (y:Int) (f:aP c y 1601=0):12≤aV c y∧aV c y≤52:=(fR c y f).2
theorem jB (c:aC) (y:Int) (f:aP c y 1601=0) (lv:Int):1≤aM c y lv∧aM c y lv≤60:=by
 have:=jo c y f;have:=gH c y f;unfold aM
 repeat' split
 all_goals omega
theorem ox (c:aC) (y lv:Int):aX c y lv 0=0:=by
 unfold aX fx
 repeat' split
 all_goals simp [co]
theorem gu (c:aC) (y lv:Int) (f:1≤lv) (o:lv≤5):aX c y lv (aM c y lv)=ce c y:=by
 have h:lv=1∨lv=2∨lv=3∨lv=4∨lv=5:=om;rcases h with rfl | rfl | rfl | rfl | rfl
 ·simp [aX,aM,fx,ce]
 ·simp [aX,aM,fx,ce]
 ·simp [aX,aM,fx,ce]
 ·simp [aX,aM,fx,ce]
 ·simp [aX,aM,fx,ce]
theorem uE (n:Nat) (lv:Int) (f:12≤n) (i:Nat):fx n lv i<fx n lv (i+1):=by
 unfold fx
 repeat' split
 ·rw [Nat.mul_succ];omega
 ·have:n*(2*(i+1))=n*(2*i)+2*n:=by rw [Nat.mul_add,Nat.mul_add];omega
  omega
 ·have:n*(i+1)=n*i+n:=by rw [Nat.mul_succ]
  omega
 ·omega
theorem xY (n:Nat) (lv:Int) (c:aC) (y:Int) (f:1≤lv) (o:lv≤4):fx (aV c y) lv (aM c y lv)=aV c y:=by
 have h:lv=1∨lv=2∨lv=3∨lv=4:=om;rcases h with rfl | rfl | rfl | rfl <;> simp [aM,fx]
theorem ve (n:Nat) (lv:Int) (f:12≤n) (i j:Nat) (h:i≤j):fx n lv i≤fx n lv j:=by
 obtain ⟨m,rfl⟩:∃ m,j=i+m:=⟨j-i,by omega⟩
 induction m with
 | zero=>exact Nat.le_refl _
 | succ m o =>
  have E:=o om;have F:=uE n lv f (i+m);rw [← Nat.add_assoc];omega
theorem iw (c:aC) (y:Int) (h:aP c y 1601=0) (lv:Int) (E:1≤lv) (F:lv≤5) (i:Nat) (hi:i<aM c y lv):aX c y lv i<aX c y lv (i+1):=by
 unfold aX
 split
 ·omega
 ·have o:=(jo c y h).1
  have f:=ve (aV c y) lv o (i+1) (aM c y lv) om;rw [xY 0 lv c y E om] at f;exact BV c y h (uE _ lv o i) f
theorem dM (c:aC) (y:Int) (E:aP c y 1601=0) (lv:Int) (f:1≤lv) (o:lv≤5) {i j:Nat} (h:i≤j) (I:j≤aM c y lv):aX c y lv i≤aX c y lv j:=by
 obtain ⟨m,rfl⟩:∃ m,j=i+m:=⟨j-i,by omega⟩
 induction m with
 | zero=>exact Nat.le_refl _
 | succ m F =>
  have G:=F om om;have H:=iw c y E lv f o (i+m) om;rw [← Nat.add_assoc];omega
theorem kg (c:aC) (y:Int) (E:aP c y 1601=0) (lv:Int) (f:1≤lv) (o:lv≤5) {i j:Nat} (h:i<j) (F:j≤aM c y lv):aX c y lv i<aX c y lv j:=by
 have G:=iw c y E lv f o i om;have H:=dM c y E lv f o (show i+1≤j by omega) F;omega
theorem cu (c:aC) (y:Int) (o:aP c y 1601=0) (lv:Int) (f:1≤lv) (h:lv≤5) (i:Nat) (hi:i≤aM c y lv):aX c y lv i≤ce c y:=by
 have:=dM c y o lv f h hi (Nat.le_refl _)
 rwa [gu c y lv f h] at this
theorem zr (c:aC) (y:Int) (F:aP c y 1601=0) (lv:Int) (f:1≤lv) (E:lv≤4) (i:Nat) (hi:i≤aM c y lv):∃ j,j≤aM c y (lv+1)∧aX c y lv i=aX c y (lv+1) j:=by
 have h:lv=1∨lv=2∨lv=3∨lv=4:=om;rcases h with rfl | rfl | rfl | rfl
 ·refine ⟨2*i,by simp [aM] at hi ⊢;omega,?_⟩
  simp only [aX,fx];simp;congr 1;have:aV c y*(2*(2*i))=4*(aV c y*i):=by rw [← Nat.mul_assoc 2 2 i,Nat.mul_left_comm]
  omega
 ·exact ⟨2*i,by simp [aM] at hi ⊢;omega,by simp [aX,fx]⟩
 ·refine ⟨aV c y*i / 4,?_,by simp [aX,fx]⟩
  have o:aV c y*i≤aV c y*4:=Nat.mul_le_mul_left _ (by simpa [aM] using hi);simp [aM];omega
 ·refine ⟨co c y i,?_,by simp [aX,fx]⟩
  have:=km c y (show i≤aV c y by simpa [aM] using hi);simpa [aM,ce] using this
theorem kZ (c:aC) (y:Int) (o:aP c y 1601=0) (a b:Int) (I:1≤a) (E:a≤b) (J:b≤5) (i:Nat) (hi:i≤aM c y a):∃ j,j≤aM c y b∧aX c y a i=aX c y b j:=by
 obtain ⟨m,rfl⟩:∃ m:Nat,b=a+m:=⟨(b-a).toNat,by omega⟩
 induction m with
 | zero=>exact ⟨i,by simpa using hi,by simp⟩
 | succ m H =>
  obtain ⟨j,F,e⟩:=H om om;obtain ⟨k,G,f⟩:=zr c y o (a+m) om om j F;have h:a+((m+1:Nat):Int)=a+m+1:=om;rw [h];exact ⟨k,G,by rw [e,f]⟩
def xx (l:List Int) (x:Int):Nat:=(l.takeWhile fun a=>decide (a<x)).length
theorem zI (l:List Int) (x:Int):xx l x≤l.length:=by unfold xx;exact (List.takeWhile_sublist _).length_le
theorem pc (l:List Int) (x:Int) (k:Nat) (F:k≤l.length) (h:∀ j,j<k→l[j]?.getD 0<x) (E:k<l.length→x≤l[k]?.getD 0):xx l x=k:=by
 rcases Nat.lt_or_eq_of_le F with f | f
 ·refine d8 _ l k f (fun j o=>?_) ?_
  ·have:=h j o
   rw [List.getElem?_eq_getElem om] at this;simpa using this
  ·have:=E f
   rw [List.getElem?_eq_getElem f] at this;simpa using this
 ·rw [f]
  refine eR _ l (fun j o=>?_);have:=h j om;rw [List.getElem?_eq_getElem o] at this;simpa using this
def jt (c:aC) (y lv:Int) (w:Nat):Nat:=xx (cz c y lv) ((w:Int)+1)
theorem oz (c:aC) (y:Int) (o:aP c y 1601=0) (lv:Int) (f:1≤lv) (h:lv≤5) (w i:Nat) (hi:i<aM c y lv) (E:aX c y lv i≤w) (F:w<aX c y lv (i+1)):jt c y lv w=i:=by
 refine pc _ _ i (by rw [fE];omega) (fun j G=>?_) (fun _=>?_)
 ·rw [ey c y lv j om]
  have:=dM c y o lv f h (show j+1≤i by omega) om;omega
 ·rw [ey c y lv i hi]
  omega
theorem yN (c:aC) (y:Int) (I:aP c y 1601=0) (lv:Int) (E:1≤lv) (F:lv≤5) (w:Nat) (G:w<ce c y):∃ i,i<aM c y lv∧aX c y lv i≤w∧w<aX c y lv (i+1):=by
 have o:∀ m,m≤aM c y lv→w<aX c y lv m→∃ i,i<aM c y lv∧aX c y lv i≤w∧w<aX c y lv (i+1):=by
  intro m
  induction m with
  | zero=>intro _ h;rw [ox] at h;omega
  | succ m H =>
   intro J h;rcases Nat.lt_or_ge w (aX c y lv m) with f | f
   ·exact H om f
   ·exact ⟨m,by omega,f,h⟩
 exact o _ (Nat.le_refl _) (by rw [gu c y lv E F];exact G)
theorem DD (c:aC) (y:Int) (o:aP c y 1601=0) (lv:Int) (f:1≤lv) (h:lv≤5) (w:Nat) (G:w<ce c y) :
  jt c y lv w<aM c y lv∧aX c y lv (jt c y lv w)≤w∧w<aX c y lv (jt c y lv w+1):=by
 obtain ⟨i,hi,E,F⟩:=yN c y o lv f h w G;rw [oz c y o lv f h w i hi E F];exact ⟨hi,E,F⟩
theorem xV (c:aC) (y:Int) (f:aP c y 1601=0) (a b:Int) (G:1≤a) (E:a≤b) (o:b≤5) (i:Nat) (hi:i<aM c y b) :
  jt c y a (aX c y b i)<aM c y a∧aX c y a (jt c y a (aX c y b i))≤aX c y b i∧aX c y b (i+1)≤aX c y a (jt c y a (aX c y b i)+1):=by
 have U:aX c y b i<ce c y:=by
  have V:=iw c y f b om o i hi;have W:=cu c y f b om o (i+1) om;omega
 obtain ⟨H,I,J⟩:=DD c y f a G om _ U;refine ⟨H,I,?_⟩;obtain ⟨j,O,e⟩:=kZ c y f a b G E o _ (show jt c y a (aX c y b i)+1≤aM c y a by omega);rw [e] at J ⊢;have F:i<j:=by
  rcases Nat.lt_or_ge i j with h | h
  ·exact h
  ·have:=dM c y f b om o h om;omega
 exact dM c y f b om o F O
end
end Go.Proofs.YtpebkobmhhnojaaGreatDoor
