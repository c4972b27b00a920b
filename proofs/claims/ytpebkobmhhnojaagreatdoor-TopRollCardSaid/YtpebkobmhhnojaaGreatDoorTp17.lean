/- Lemmas. -/
import Derived.Lib.OthersKept
import Derived.WalkSmall
import Derived.Test.YtpebkobmhhnojaaGreatDoorTp06
import Derived.Test.YtpebkobmhhnojaaGreatDoorTp08
set_option linter.unusedSimpArgs false
set_option linter.unusedVariables false
set_option maxRecDepth 100000
set_option maxHeartbeats 12800000
namespace Go.Proofs.YtpebkobmhhnojaaGreatDoor
section
open Go.RowKit Qd
abbrev jY:ByteArray:=⟨#[50,48,50,52,45,48,50,45,48,51]⟩
abbrev aY:ByteArray:=⟨#[35,35,35,35,45,35,35,45,35,35]⟩
def EC:Nat→List Int
 | 1=>[2] | 2=>[20] | 3=>[202] | 4=>[2024] | 5=>[2024] | 6=>[2024,0] | 7=>[2024,2] | 8=>[2024,2] | 9=>[2024,2,0] | 10=>[2024,2,3] | _=>[]
def BK:Nat→Bool
 | 0=>false | 5=>false | 8=>false | _=>true
theorem kW:(Tryz.prog.info? 3).map (fun i=>(i.zero,i.size,i.bytes))=some (some (.int .i64 0),1,8):=by kernel_rfl
def gO (w wr:World) (k:Nat) (v:Value):Prop:=
 wr.ownsRow (w.heap.size+1) 3 1 v (EC k).length ((EC k).map (Value.int .i64))∧wr.heap[w.heap.size]?=some (.stringIter aY k)∧Below w w wr
theorem gO.step {w wr:World} {k:Nat} {v:Value} (h:gO w wr k v) (p:Nat) :
  (wr.iterAt w.heap.size aY p).ownsRow (w.heap.size+1) 3 1 v (EC k).length ((EC k).map (Value.int .i64))∧(wr.iterAt w.heap.size aY p).heap[w.heap.size]?=some (.stringIter aY p)∧Below w w (wr.iterAt w.heap.size aY p)∧w.heap.size+1≤(wr.iterAt w.heap.size aY p).heap.size:=
 ⟨ownsRow_iterAt h.1 (Nat.lt_succ_self _) _ _,Lib.iterAt_heap _ _ _ _ _ h.2.1,Lib.below_iterAt h.2.2 (Nat.le_refl _) _ _,by rw [Lib.iterAt_size];exact (Array.getElem?_eq_some_iff.1 h.2.1).1⟩
theorem gO.stored {w W:World} {k n g cap:Nat} {f:List Int} (o:W.ownsRow (w.heap.size+1) 3 1 (.slice (some ⟨g,0,none⟩) n cap) n (f.map (Value.int .i64))) (E:W.heap[w.heap.size]?=some (.stringIter aY k)) (F:Below w w W)
  (j:Nat) (x:Int) (H:EC k=f.set j x) (G:(EC k).length=n) (I:w.heap.size<g):gO w (W.setCell ⟨g,j,none⟩ (.int .i64 x)) k (.slice (some ⟨g,0,none⟩) n cap):=by
 have h:=(o.stored j (.int .i64 x)).1;have e:(f.map (Value.int .i64)).set j (Value.int .i64 x)=(EC k).map (Value.int .i64):=by rw [H,List.map_set]
 rw [e] at h;refine ⟨by rw [G];exact h,?_,F.setCell ag _⟩;rw [Below.heap_setCell W ⟨g,j,none⟩ _ w.heap.size ag];exact E
theorem bz {w:World} {f n:Nat} {v:Value} {H:List Value} {e:TypeId} {o:Nat} (h:w.ownsRow f e o v n H) (G:0<n):∃ g cap,v=.slice (some ⟨g,0,none⟩) n cap∧f≤g:=by
 obtain ⟨g,cap,E,F,_⟩:=bf h G;exact ⟨g,cap,E,F⟩
theorem qm:kD 2024 2 3=154896∧dA 2024 2 3=0:=by decide +kernel
theorem vU (w:World):Calls Tryz.prog 237 #[.string jY,.string aY] w fun e w'=>(∃ g cap,e=.returned (.tuple #[.slice (some ⟨g,0,none⟩) 3 cap,.bool true])∧w'.cell? ⟨g,0,none⟩=some (.int .i64 2024)∧w'.cell? ⟨g,1,none⟩=some (.int .i64 2)∧w'.cell? ⟨g,2,none⟩=some (.int .i64 3))∧Below w w w':=by
 obtain ⟨i0,hi,ab,ac,ad⟩:=info_parts kW;go_enter Tryz.func237,Tryz.ntmps237;go_wp2_with fail;go_loopw [4,6] (fun s4 s6 wr=>∃ (k:Nat) (v:Value),k≤10∧v=s4∧s6=.bool (BK k)∧gO w wr k v) (fun _ _ w'=>10-w'.iterPos w.heap.size)
 case atStart=>exact ⟨0,_,by omega,rfl,rfl,World.ownsRow_nil _ _ _ _,World.iter_heap _ _ _,(Below.refl _ _).alloc (Nat.le_refl _) _⟩
 case round =>
  obtain ⟨k,v,hk,al,ao,E⟩:=hrel;subst ao;subst al;have HI:=hide (iterPos_of E.2.1);have ah:k=0∨k=1∨k=2∨k=3∨k=4∨k=5∨k=6∨k=7∨k=8∨k=9∨k=10:=om;rcases ah with rfl | rfl | rfl | rfl | rfl | rfl | rfl | rfl | rfl | rfl | rfl
  ·have tk:((jY[0]'aj).toNat:Int)=50:=rfl
   have fk:((aY[0]'aj).toNat:Int)=35:=rfl;have o:=fun U=>Lib.run_next_ascii_at (P:=Tryz.prog) wr w.heap.size aY 0 U E.2.1 aj aj
   obtain ⟨f,F,G,h4⟩:=E.step 1;generalize wr.iterAt w.heap.size aY (0+1)=W at *;have f:W.ownsRow (w.heap.size+1) 3 1 v 0 (([]:List Int).map (Value.int .i64)):=f;have ho:BK 0=false:=rfl;rw [ho];have H:=hide (And.intro f (And.intro F G));clear F G E;go_wp2_with ((at_builtin;refine wpList_append_own _ rfl _ _ 38 rfl (w.heap.size+1) 3 i0 (.int .i64 0) 1 8 Tryz.underlying38 hi ab ac ad rfl aj _ _ _ rfl (f.alloc _) ⟨W,0,none⟩ 1 1 [.int .i64 0] rfl rfl ?c1 ?c2 ?c3 ?c4 ?c5 ?_))
   case c1 =>
    intro i u I
    match i,I with
    | 0,I=>simp at I;subst I;simp [Addr.add]
    | i+1,I=>simp at I
   case c2=>intro u I;simp at I;subst I;rfl
   case c3=>decide
   case c4=>decide
   case c5=>simp;omega
   intro v' V h O _;have h:V.ownsRow (w.heap.size+1) 3 1 v' 1 (([0]:List Int).map (Value.int .i64)):=h;have Y:V.heap[w.heap.size]?=some (.stringIter aY 1):=by
    rw [O.block w.heap.size ag (fun e=>by have:=(f.lt _ e.symm).1;omega),Below.heap_alloc _ _ _ om];exact H.out.2.1
   have aa:Below w w V:=(H.out.2.2.alloc om _).grown O ag (fun b hb=>by have:=(f.lt b hb).1;omega);obtain ⟨g,cap,rfl,hg⟩:=bz h aj;have c1:V.cell? ⟨g,0,none⟩=some (.int .i64 0):=h.cellAt 0 aj;have f1:V.frozen? ⟨g,0,none⟩=false:=h.frozenAt 0;have H2:=hide (And.intro h (And.intro Y aa));clear h Y aa O f;go_wp2;have J:=gO.stored (k:=1) H2.out.1 H2.out.2.1 H2.out.2.2 0 2 rfl rfl om;exact ⟨⟨1,_,by omega,rfl,rfl,J⟩,by rw [HI.out,iterPos_of J.2.1];omega⟩
  ·have tk:((jY[1]'aj).toNat:Int)=48:=rfl
   have fk:((aY[1]'aj).toNat:Int)=35:=rfl;have o:=fun U=>Lib.run_next_ascii_at (P:=Tryz.prog) wr w.heap.size aY 1 U E.2.1 aj aj
   obtain ⟨f,F,G,h4⟩:=E.step 2;generalize wr.iterAt w.heap.size aY (1+1)=W at *;have f:W.ownsRow (w.heap.size+1) 3 1 v 1 (([2]:List Int).map (Value.int .i64)):=f;have ho:BK 1=true:=rfl;rw [ho];obtain ⟨g,cap,rfl,hg⟩:=bz f aj;have c1:W.cell? ⟨g,0,none⟩=some (.int .i64 2):=f.cellAt 0 aj;have f1:W.frozen? ⟨g,0,none⟩=false:=f.frozenAt 0;have H:=hide (And.intro f (And.intro F G));clear f F G E;go_wp2;have J:=gO.stored (k:=2) H.out.1 H.out.2.1 H.out.2.2 0 20 rfl rfl om;exact ⟨⟨2,_,by omega,rfl,rfl,J⟩,by rw [HI.out,iterPos_of J.2.1];omega⟩
  ·have tk:((jY[2]'aj).toNat:Int)=50:=rfl
   have fk:((aY[2]'aj).toNat:Int)=35:=rfl;have o:=fun U=>Lib.run_next_ascii_at (P:=Tryz.prog) wr w.heap.size aY 2 U E.2.1 aj aj
   obtain ⟨f,F,G,h4⟩:=E.step 3;generalize wr.iterAt w.heap.size aY (2+1)=W at *;have f:W.ownsRow (w.heap.size+1) 3 1 v 1 (([20]:List Int).map (Value.int .i64)):=f;have ho:BK 2=true:=rfl;rw [ho];obtain ⟨g,cap,rfl,hg⟩:=bz f aj;have c1:W.cell? ⟨g,0,none⟩=some (.int .i64 20):=f.cellAt 0 aj;have f1:W.frozen? ⟨g,0,none⟩=false:=f.frozenAt 0;have H:=hide (And.intro f (And.intro F G));clear f F G E;go_wp2;have J:=gO.stored (k:=3) H.out.1 H.out.2.1 H.out.2.2 0 202 rfl rfl om;exact ⟨⟨3,_,by omega,rfl,rfl,J⟩,by rw [HI.out,iterPos_of J.2.1];omega⟩
  ·have tk:((jY[3]'aj).toNat:Int)=52:=rfl
   have fk:((aY[3]'aj).toNat:Int)=35:=rfl;have o:=fun U=>Lib.run_next_ascii_at (P:=Tryz.prog) wr w.heap.size aY 3 U E.2.1 aj aj
   obtain ⟨f,F,G,h4⟩:=E.step 4;generalize wr.iterAt w.heap.size aY (3+1)=W at *;have f:W.ownsRow (w.heap.size+1) 3 1 v 1 (([202]:List Int).map (Value.int .i64)):=f;have ho:BK 3=true:=rfl;rw [ho];obtain ⟨g,cap,rfl,hg⟩:=bz f aj;have c1:W.cell? ⟨g,0,none⟩=some (.int .i64 202):=f.cellAt 0 aj;have f1:W.frozen? ⟨g,0,none⟩=false:=f.frozenAt 0;have H:=hide (And.intro f (And.intro F G));clear f F G E;go_wp2;have J:=gO.stored (k:=4) H.out.1 H.out.2.1 H.out.2.2 0 2024 rfl rfl om;exact ⟨⟨4,_,by omega,rfl,rfl,J⟩,by rw [HI.out,iterPos_of J.2.1];omega⟩
  ·have tk:((jY[4]'aj).toNat:Int)=45:=rfl
   have fk:((aY[4]'aj).toNat:Int)=45:=rfl;have o:=fun U=>Lib.run_next_ascii_at (P:=Tryz.prog) wr w.heap.size aY 4 U E.2.1 aj aj
   obtain ⟨f,F,G,h4⟩:=E.step 5;generalize wr.iterAt w.heap.size aY (4+1)=W at *;have H:=hide (And.intro f (And.intro F G));clear f F G E;go_wp2;exact ⟨⟨5,_,by omega,rfl,rfl,H.out⟩,by rw [HI.out,iterPos_of H.out.2.1];omega⟩
  ·have tk:((jY[5]'aj).toNat:Int)=48:=rfl
   have fk:((aY[5]'aj).toNat:Int)=35:=rfl;have o:=fun U=>Lib.run_next_ascii_at (P:=Tryz.prog) wr w.heap.size aY 5 U E.2.1 aj aj
   obtain ⟨f,F,G,h4⟩:=E.step 6;generalize wr.iterAt w.heap.size aY (5+1)=W at *;have f:W.ownsRow (w.heap.size+1) 3 1 v 1 (([2024]:List Int).map (Value.int .i64)):=f;have ho:BK 5=false:=rfl;rw [ho];have H:=hide (And.intro f (And.intro F G));clear F G E;go_wp2_with ((at_builtin;refine wpList_append_own _ rfl _ _ 38 rfl (w.heap.size+1) 3 i0 (.int .i64 0) 1 8 Tryz.underlying38 hi ab ac ad rfl aj _ _ _ rfl (f.alloc _) ⟨W,0,none⟩ 1 1 [.int .i64 0] rfl rfl ?c1 ?c2 ?c3 ?c4 ?c5 ?_))
   case c1 =>
    intro i u I
    match i,I with
    | 0,I=>simp at I;subst I;simp [Addr.add]
    | i+1,I=>simp at I
   case c2=>intro u I;simp at I;subst I;rfl
   case c3=>decide
   case c4=>decide
   case c5=>simp;omega
   intro v' V h O _;have h:V.ownsRow (w.heap.size+1) 3 1 v' 2 (([2024,0]:List Int).map (Value.int .i64)):=h;have Y:V.heap[w.heap.size]?=some (.stringIter aY 6):=by
    rw [O.block w.heap.size ag (fun e=>by have:=(f.lt _ e.symm).1;omega),Below.heap_alloc _ _ _ om];exact H.out.2.1
   have aa:Below w w V:=(H.out.2.2.alloc om _).grown O ag (fun b hb=>by have:=(f.lt b hb).1;omega);obtain ⟨g,cap,rfl,hg⟩:=bz h aj;have c1:V.cell? ⟨g,1,none⟩=some (.int .i64 0):=h.cellAt 1 aj;have f1:V.frozen? ⟨g,1,none⟩=false:=h.frozenAt 1;have H2:=hide (And.intro h (And.intro Y aa));clear h Y aa O f;go_wp2;have J:=gO.stored (k:=6) H2.out.1 H2.out.2.1 H2.out.2.2 1 0 rfl rfl om;exact ⟨⟨6,_,by omega,rfl,rfl,J⟩,by rw [HI.out,iterPos_of J.2.1];omega⟩
  ·have tk:((jY[6]'aj).toNat:Int)=50:=rfl
   have fk:((aY[6]'aj).toNat:Int)=35:=rfl;have o:=fun U=>Lib.run_next_ascii_at (P:=Tryz.prog) wr w.heap.size aY 6 U E.2.1 aj aj
   obtain ⟨f,F,G,h4⟩:=E.step 7;generalize wr.iterAt w.heap.size aY (6+1)=W at *;have f:W.ownsRow (w.heap.size+1) 3 1 v 2 (([2024,0]:List Int).map (Value.int .i64)):=f;have ho:BK 6=true:=rfl;rw [ho];obtain ⟨g,cap,rfl,hg⟩:=bz f aj;have c1:W.cell? ⟨g,1,none⟩=some (.int .i64 0):=f.cellAt 1 aj;have f1:W.frozen? ⟨g,1,none⟩=false:=f.frozenAt 1;have H:=hide (And.intro f (And.intro F G));clear f F G E;go_wp2;have J:=gO.stored (k:=7) H.out.1 H.out.2.1 H.out.2.2 1 2 rfl rfl om;exact ⟨⟨7,_,by omega,rfl,rfl,J⟩,by rw [HI.out,iterPos_of J.2.1];omega⟩
  ·have tk:((jY[7]'aj).toNat:Int)=45:=rfl
   have fk:((aY[7]'aj).toNat:Int)=45:=rfl;have o:=fun U=>Lib.run_next_ascii_at (P:=Tryz.prog) wr w.heap.size aY 7 U E.2.1 aj aj
   obtain ⟨f,F,G,h4⟩:=E.step 8;generalize wr.iterAt w.heap.size aY (7+1)=W at *;have H:=hide (And.intro f (And.intro F G));clear f F G E;go_wp2;exact ⟨⟨8,_,by omega,rfl,rfl,H.out⟩,by rw [HI.out,iterPos_of H.out.2.1];omega⟩
  ·have tk:((jY[8]'aj).toNat:Int)=48:=rfl
   have fk:((aY[8]'aj).toNat:Int)=35:=rfl;have o:=fun U=>Lib.run_next_ascii_at (P:=Tryz.prog) wr w.heap.size aY 8 U E.2.1 aj aj
   obtain ⟨f,F,G,h4⟩:=E.step 9;generalize wr.iterAt w.heap.size aY (8+1)=W at *;have f:W.ownsRow (w.heap.size+1) 3 1 v 2 (([2024,2]:List Int).map (Value.int .i64)):=f;have ho:BK 8=false:=rfl;rw [ho];have H:=hide (And.intro f (And.intro F G));clear F G E;go_wp2_with ((at_builtin;refine wpList_append_own _ rfl _ _ 38 rfl (w.heap.size+1) 3 i0 (.int .i64 0) 1 8 Tryz.underlying38 hi ab ac ad rfl aj _ _ _ rfl (f.alloc _) ⟨W,0,none⟩ 1 1 [.int .i64 0] rfl rfl ?c1 ?c2 ?c3 ?c4 ?c5 ?_))
   case c1 =>
    intro i u I
    match i,I with
    | 0,I=>simp at I;subst I;simp [Addr.add]
    | i+1,I=>simp at I
   case c2=>intro u I;simp at I;subst I;rfl
   case c3=>decide
   case c4=>decide
   case c5=>simp;omega
   intro v' V h O _;have h:V.ownsRow (w.heap.size+1) 3 1 v' 3 (([2024,2,0]:List Int).map (Value.int .i64)):=h;have Y:V.heap[w.heap.size]?=some (.stringIter aY 9):=by
    rw [O.block w.heap.size ag (fun e=>by have:=(f.lt _ e.symm).1;omega),Below.heap_alloc _ _ _ om];exact H.out.2.1
   have aa:Below w w V:=(H.out.2.2.alloc om _).grown O ag (fun b hb=>by have:=(f.lt b hb).1;omega);obtain ⟨g,cap,rfl,hg⟩:=bz h aj;have c1:V.cell? ⟨g,2,none⟩=some (.int .i64 0):=h.cellAt 2 aj;have f1:V.frozen? ⟨g,2,none⟩=false:=h.frozenAt 2;have H2:=hide (And.intro h (And.intro Y aa));clear h Y aa O f;go_wp2;have J:=gO.stored (k:=9) H2.out.1 H2.out.2.1 H2.out.2.2 2 0 rfl rfl om;exact ⟨⟨9,_,by omega,rfl,rfl,J⟩,by rw [HI.out,iterPos_of J.2.1];omega⟩
  ·have tk:((jY[9]'aj).toNat:Int)=51:=rfl
   have fk:((aY[9]'aj).toNat:Int)=35:=rfl;have o:=fun U=>Lib.run_next_ascii_at (P:=Tryz.prog) wr w.heap.size aY 9 U E.2.1 aj aj
   obtain ⟨f,F,G,h4⟩:=E.step 10;generalize wr.iterAt w.heap.size aY (9+1)=W at *;have f:W.ownsRow (w.heap.size+1) 3 1 v 3 (([2024,2,0]:List Int).map (Value.int .i64)):=f;have ho:BK 9=true:=rfl;rw [ho];obtain ⟨g,cap,rfl,hg⟩:=bz f aj;have c1:W.cell? ⟨g,2,none⟩=some (.int .i64 0):=f.cellAt 2 aj;have f1:W.frozen? ⟨g,2,none⟩=false:=f.frozenAt 2;have H:=hide (And.intro f (And.intro F G));clear f F G E;go_wp2;have J:=gO.stored (k:=10) H.out.1 H.out.2.1 H.out.2.2 2 3 rfl rfl om;exact ⟨⟨10,_,by omega,rfl,rfl,J⟩,by rw [HI.out,iterPos_of J.2.1];omega⟩
  ·have o:=fun U=>Lib.run_next_end_at (P:=Tryz.prog) wr w.heap.size aY 10 U E.2.1 aj
   have f:wr.ownsRow (w.heap.size+1) 3 1 v 3 (([2024,2,3]:List Int).map (Value.int .i64)):=E.1;obtain ⟨g,cap,rfl,hg⟩:=bz f aj;have H:=hide (And.intro f E.2);clear E f;go_wp2;go_ret2;exact ⟨⟨g,cap,rfl,H.out.1.cellAt 0 aj,H.out.1.cellAt 1 aj,H.out.1.cellAt 2 aj⟩,H.out.2.2⟩
theorem rH (w:World):Calls Tryz.prog 208 #[.string jY] w fun e w'=>e=.returned (.tuple #[.int .i64 154896,.int .i64 0])∧Below w w w':=by
 go_enter Tryz.func208,Tryz.ntmps208;go_wp2_with fail;refine (vU _).mono ?_;rintro e J ⟨⟨g,cap,rfl,G,H,I⟩,h⟩;have f:=hide h;clear h;go_wp2_with fail;go_region_with (go_at_call 24;refine (jn 2024 2 3 _).mono ?_;rintro e F ⟨rfl,o⟩;rw [qm.1,qm.2];have E:=hide (f.out.drew.trans (o.mono (by exact f.out.size)):Below w w F);clear o)
 all_goals
  go_simp;go_wp2;go_ret2;exact ⟨rfl,E.out⟩
abbrev ki:ByteArray:=⟨#[50,48,50,51,45,48,50,45,48,51]⟩
def Es:Nat→List Int
 | 1=>[2] | 2=>[20] | 3=>[202] | 4=>[2023] | 5=>[2023] | 6=>[2023,0] | 7=>[2023,2] | 8=>[2023,2] | 9=>[2023,2,0] | 10=>[2023,2,3] | _=>[]
def Cw:Nat→Bool
 | 0=>false | 5=>false | 8=>false | _=>true
def gM (w wr:World) (k:Nat) (v:Value):Prop:=
 wr.ownsRow (w.heap.size+1) 3 1 v (Es k).length ((Es k).map (Value.int .i64))∧wr.heap[w.heap.size]?=some (.stringIter aY k)∧Below w w wr
theorem gM.step {w wr:World} {k:Nat} {v:Value} (h:gM w wr k v) (p:Nat) :
  (wr.iterAt w.heap.size aY p).ownsRow (w.heap.size+1) 3 1 v (Es k).length ((Es k).map (Value.int .i64))∧(wr.iterAt w.heap.size aY p).heap[w.heap.size]?=some (.stringIter aY p)∧Below w w (wr.iterAt w.heap.size aY p)∧w.heap.size+1≤(wr.iterAt w.heap.size aY p).heap.size:=
 ⟨ownsRow_iterAt h.1 (Nat.lt_succ_self _) _ _,Lib.iterAt_heap _ _ _ _ _ h.2.1,Lib.below_iterAt h.2.2 (Nat.le_refl _) _ _,by rw [Lib.iterAt_size];exact (Array.getElem?_eq_some_iff.1 h.2.1).1⟩
theorem gM.stored {w W:World} {k n g cap:Nat} {f:List Int} (o:W.ownsRow (w.heap.size+1) 3 1 (.slice (some ⟨g,0,none⟩) n cap) n (f.map (Value.int .i64))) (E:W.heap[w.heap.size]?=some (.stringIter aY k)) (F:Below w w W)
  (j:Nat) (x:Int) (H:Es k=f.set j x) (G:(Es k).length=n) (I:w.heap.size<g):gM w (W.setCell ⟨g,j,none⟩ (.int .i64 x)) k (.slice (some ⟨g,0,none⟩) n cap):=by
 have h:=(o.stored j (.int .i64 x)).1;have e:(f.map (Value.int .i64)).set j (Value.int .i64 x)=(Es k).map (Value.int .i64):=by rw [H,List.map_set]
 rw [e] at h;refine ⟨by rw [G];exact h,?_,F.setCell ag _⟩;rw [Below.heap_setCell W ⟨g,j,none⟩ _ w.heap.size ag];exact E
theorem qZ:kD 2023 2 3=154531∧dA 2023 2 3=0:=by decide +kernel
theorem wh (w:World):Calls Tryz.prog 237 #[.string ki,.string aY] w fun e w'=>(∃ g cap,e=.returned (.tuple #[.slice (some ⟨g,0,none⟩) 3 cap,.bool true])∧w'.cell? ⟨g,0,none⟩=some (.int .i64 2023)∧w'.cell? ⟨g,1,none⟩=some (.int .i64 2)∧w'.cell? ⟨g,2,none⟩=some (.int .i64 3))∧Below w w w':=by
 obtain ⟨i0,hi,ab,ac,ad⟩:=info_parts kW;go_enter Tryz.func237,Tryz.ntmps237;go_wp2_with fail;go_loopw [4,6] (fun s4 s6 wr=>∃ (k:Nat) (v:Value),k≤10∧v=s4∧s6=.bool (Cw k)∧gM w wr k v) (fun _ _ w'=>10-w'.iterPos w.heap.size)
 case atStart=>exact ⟨0,_,by omega,rfl,rfl,World.ownsRow_nil _ _ _ _,World.iter_heap _ _ _,(Below.refl _ _).alloc (Nat.le_refl _) _⟩
 case round =>
  obtain ⟨k,v,hk,al,ao,E⟩:=hrel;subst ao;subst al;have HI:=hide (iterPos_of E.2.1);have ah:k=0∨k=1∨k=2∨k=3∨k=4∨k=5∨k=6∨k=7∨k=8∨k=9∨k=10:=om;rcases ah with rfl | rfl | rfl | rfl | rfl | rfl | rfl | rfl | rfl | rfl | rfl
  ·have tk:((ki[0]'aj).toNat:Int)=50:=rfl
   have fk:((aY[0]'aj).toNat:Int)=35:=rfl;have o:=fun U=>Lib.run_next_ascii_at (P:=Tryz.prog) wr w.heap.size aY 0 U E.2.1 aj aj
   obtain ⟨f,F,G,h4⟩:=E.step 1;generalize wr.iterAt w.heap.size aY (0+1)=W at *;have f:W.ownsRow (w.heap.size+1) 3 1 v 0 (([]:List Int).map (Value.int .i64)):=f;have ho:Cw 0=false:=rfl;rw [ho];have H:=hide (And.intro f (And.intro F G));clear F G E;go_wp2_with ((at_builtin;refine wpList_append_own _ rfl _ _ 38 rfl (w.heap.size+1) 3 i0 (.int .i64 0) 1 8 Tryz.underlying38 hi ab ac ad rfl aj _ _ _ rfl (f.alloc _) ⟨W,0,none⟩ 1 1 [.int .i64 0] rfl rfl ?c1 ?c2 ?c3 ?c4 ?c5 ?_))
   case c1 =>
    intro i u I
    match i,I with
    | 0,I=>simp at I;subst I;simp [Addr.add]
    | i+1,I=>simp at I
   case c2=>intro u I;simp at I;subst I;rfl
   case c3=>decide
   case c4=>decide
   case c5=>simp;omega
   intro v' V h O _;have h:V.ownsRow (w.heap.size+1) 3 1 v' 1 (([0]:List Int).map (Value.int .i64)):=h;have Y:V.heap[w.heap.size]?=some (.stringIter aY 1):=by
    rw [O.block w.heap.size ag (fun e=>by have:=(f.lt _ e.symm).1;omega),Below.heap_alloc _ _ _ om];exact H.out.2.1
   have aa:Below w w V:=(H.out.2.2.alloc om _).grown O ag (fun b hb=>by have:=(f.lt b hb).1;omega);obtain ⟨g,cap,rfl,hg⟩:=bz h aj;have c1:V.cell? ⟨g,0,none⟩=some (.int .i64 0):=h.cellAt 0 aj;have f1:V.frozen? ⟨g,0,none⟩=false:=h.frozenAt 0;have H2:=hide (And.intro h (And.intro Y aa));clear h Y aa O f;go_wp2;have J:=gM.stored (k:=1) H2.out.1 H2.out.2.1 H2.out.2.2 0 2 rfl rfl om;exact ⟨⟨1,_,by omega,rfl,rfl,J⟩,by rw [HI.out,iterPos_of J.2.1];omega⟩
  ·have tk:((ki[1]'aj).toNat:Int)=48:=rfl
   have fk:((aY[1]'aj).toNat:Int)=35:=rfl;have o:=fun U=>Lib.run_next_ascii_at (P:=Tryz.prog) wr w.heap.size aY 1 U E.2.1 aj aj
   obtain ⟨f,F,G,h4⟩:=E.step 2;generalize wr.iterAt w.heap.size aY (1+1)=W at *;have f:W.ownsRow (w.heap.size+1) 3 1 v 1 (([2]:List Int).map (Value.int .i64)):=f;have ho:Cw 1=true:=rfl;rw [ho];obtain ⟨g,cap,rfl,hg⟩:=bz f aj;have c1:W.cell? ⟨g,0,none⟩=some (.int .i64 2):=f.cellAt 0 aj;have f1:W.frozen? ⟨g,0,none⟩=false:=f.frozenAt 0;have H:=hide (And.intro f (And.intro F G));clear f F G E;go_wp2;have J:=gM.stored (k:=2) H.out.1 H.out.2.1 H.out.2.2 0 20 rfl rfl om;exact ⟨⟨2,_,by omega,rfl,rfl,J⟩,by rw [HI.out,iterPos_of J.2.1];omega⟩
  ·have tk:((ki[2]'aj).toNat:Int)=50:=rfl
   have fk:((aY[2]'aj).toNat:Int)=35:=rfl;have o:=fun U=>Lib.run_next_ascii_at (P:=Tryz.prog) wr w.heap.size aY 2 U E.2.1 aj aj
   obtain ⟨f,F,G,h4⟩:=E.step 3;generalize wr.iterAt w.heap.size aY (2+1)=W at *;have f:W.ownsRow (w.heap.size+1) 3 1 v 1 (([20]:List Int).map (Value.int .i64)):=f;have ho:Cw 2=true:=rfl;rw [ho];obtain ⟨g,cap,rfl,hg⟩:=bz f aj;have c1:W.cell? ⟨g,0,none⟩=some (.int .i64 20):=f.cellAt 0 aj;have f1:W.frozen? ⟨g,0,none⟩=false:=f.frozenAt 0;have H:=hide (And.intro f (And.intro F G));clear f F G E;go_wp2;have J:=gM.stored (k:=3) H.out.1 H.out.2.1 H.out.2.2 0 202 rfl rfl om;exact ⟨⟨3,_,by omega,rfl,rfl,J⟩,by rw [HI.out,iterPos_of J.2.1];omega⟩
  ·have tk:((ki[3]'aj).toNat:Int)=51:=rfl
   have fk:((aY[3]'aj).toNat:Int)=35:=rfl;have o:=fun U=>Lib.run_next_ascii_at (P:=Tryz.prog) wr w.heap.size aY 3 U E.2.1 aj aj
   obtain ⟨f,F,G,h4⟩:=E.step 4;generalize wr.iterAt w.heap.size aY (3+1)=W at *;have f:W.ownsRow (w.heap.size+1) 3 1 v 1 (([202]:List Int).map (Value.int .i64)):=f;have ho:Cw 3=true:=rfl;rw [ho];obtain ⟨g,cap,rfl,hg⟩:=bz f aj;have c1:W.cell? ⟨g,0,none⟩=some (.int .i64 202):=f.cellAt 0 aj;have f1:W.frozen? ⟨g,0,none⟩=false:=f.frozenAt 0;have H:=hide (And.intro f (And.intro F G));clear f F G E;go_wp2;have J:=gM.stored (k:=4) H.out.1 H.out.2.1 H.out.2.2 0 2023 rfl rfl om;exact ⟨⟨4,_,by omega,rfl,rfl,J⟩,by rw [HI.out,iterPos_of J.2.1];omega⟩
  ·have tk:((ki[4]'aj).toNat:Int)=45:=rfl
   have fk:((aY[4]'aj).toNat:Int)=45:=rfl;have o:=fun U=>Lib.run_next_ascii_at (P:=Tryz.prog) wr w.heap.size aY 4 U E.2.1 aj aj
   obtain ⟨f,F,G,h4⟩:=E.step 5;generalize wr.iterAt w.heap.size aY (4+1)=W at *;have H:=hide (And.intro f (And.intro F G));clear f F G E;go_wp2;exact ⟨⟨5,_,by omega,rfl,rfl,H.out⟩,by rw [HI.out,iterPos_of H.out.2.1];omega⟩
  ·have tk:((ki[5]'aj).toNat:Int)=48:=rfl
   have fk:((aY[5]'aj).toNat:Int)=35:=rfl;have o:=fun U=>Lib.run_next_ascii_at (P:=Tryz.prog) wr w.heap.size aY 5 U E.2.1 aj aj
   obtain ⟨f,F,G,h4⟩:=E.step 6;generalize wr.iterAt w.heap.size aY (5+1)=W at *;have f:W.ownsRow (w.heap.size+1) 3 1 v 1 (([2023]:List Int).map (Value.int .i64)):=f;have ho:Cw 5=false:=rfl;rw [ho];have H:=hide (And.intro f (And.intro F G));clear F G E;go_wp2_with ((at_builtin;refine wpList_append_own _ rfl _ _ 38 rfl (w.heap.size+1) 3 i0 (.int .i64 0) 1 8 Tryz.underlying38 hi ab ac ad rfl aj _ _ _ rfl (f.alloc _) ⟨W,0,none⟩ 1 1 [.int .i64 0] rfl rfl ?c1 ?c2 ?c3 ?c4 ?c5 ?_))
   case c1 =>
    intro i u I
    match i,I with
    | 0,I=>simp at I;subst I;simp [Addr.add]
    | i+1,I=>simp at I
   case c2=>intro u I;simp at I;subst I;rfl
   case c3=>decide
   case c4=>decide
   case c5=>simp;omega
   intro v' V h O _;have h:V.ownsRow (w.heap.size+1) 3 1 v' 2 (([2023,0]:List Int).map (Value.int .i64)):=h;have Y:V.heap[w.heap.size]?=some (.stringIter aY 6):=by
    rw [O.block w.heap.size ag (fun e=>by have:=(f.lt _ e.symm).1;omega),Below.heap_alloc _ _ _ om];exact H.out.2.1
   have aa:Below w w V:=(H.out.2.2.alloc om _).grown O ag (fun b hb=>by have:=(f.lt b hb).1;omega);obtain ⟨g,cap,rfl,hg⟩:=bz h aj;have c1:V.cell? ⟨g,1,none⟩=some (.int .i64 0):=h.cellAt 1 aj;have f1:V.frozen? ⟨g,1,none⟩=false:=h.frozenAt 1;have H2:=hide (And.intro h (And.intro Y aa));clear h Y aa O f;go_wp2;have J:=gM.stored (k:=6) H2.out.1 H2.out.2.1 H2.out.2.2 1 0 rfl rfl om;exact ⟨⟨6,_,by omega,rfl,rfl,J⟩,by rw [HI.out,iterPos_of J.2.1];omega⟩
  ·have tk:((ki[6]'aj).toNat:Int)=50:=rfl
   have fk:((aY[6]'aj).toNat:Int)=35:=rfl;have o:=fun U=>Lib.run_next_ascii_at (P:=Tryz.prog) wr w.heap.size aY 6 U E.2.1 aj aj
   obtain ⟨f,F,G,h4⟩:=E.step 7;generalize wr.iterAt w.heap.size aY (6+1)=W at *;have f:W.ownsRow (w.heap.size+1) 3 1 v 2 (([2023,0]:List Int).map (Value.int .i64)):=f;have ho:Cw 6=true:=rfl;rw [ho];obtain ⟨g,cap,rfl,hg⟩:=bz f aj;have c1:W.cell? ⟨g,1,none⟩=some (.int .i64 0):=f.cellAt 1 aj;have f1:W.frozen? ⟨g,1,none⟩=false:=f.frozenAt 1;have H:=hide (And.intro f (And.intro F G));clear f F G E;go_wp2;have J:=gM.stored (k:=7) H.out.1 H.out.2.1 H.out.2.2 1 2 rfl rfl om;exact ⟨⟨7,_,by omega,rfl,rfl,J⟩,by rw [HI.out,iterPos_of J.2.1];omega⟩
  ·have tk:((ki[7]'aj).toNat:Int)=45:=rfl
   have fk:((aY[7]'aj).toNat:Int)=45:=rfl;have o:=fun U=>Lib.run_next_ascii_at (P:=Tryz.prog) wr w.heap.size aY 7 U E.2.1 aj aj
   obtain ⟨f,F,G,h4⟩:=E.step 8;generalize wr.iterAt w.heap.size aY (7+1)=W at *;have H:=hide (And.intro f (And.intro F G));clear f F G E;go_wp2;exact ⟨⟨8,_,by omega,rfl,rfl,H.out⟩,by rw [HI.out,iterPos_of H.out.2.1];omega⟩
  ·have tk:((ki[8]'aj).toNat:Int)=48:=rfl
   have fk:((aY[8]'aj).toNat:Int)=35:=rfl;have o:=fun U=>Lib.run_next_ascii_at (P:=Tryz.prog) wr w.heap.size aY 8 U E.2.1 aj aj
   obtain ⟨f,F,G,h4⟩:=E.step 9;generalize wr.iterAt w.heap.size aY (8+1)=W at *;have f:W.ownsRow (w.heap.size+1) 3 1 v 2 (([2023,2]:List Int).map (Value.int .i64)):=f;have ho:Cw 8=false:=rfl;rw [ho];have H:=hide (And.intro f (And.intro F G));clear F G E;go_wp2_with ((at_builtin;refine wpList_append_own _ rfl _ _ 38 rfl (w.heap.size+1) 3 i0 (.int .i64 0) 1 8 Tryz.underlying38 hi ab ac ad rfl aj _ _ _ rfl (f.alloc _) ⟨W,0,none⟩ 1 1 [.int .i64 0] rfl rfl ?c1 ?c2 ?c3 ?c4 ?c5 ?_))
   case c1 =>
    intro i u I
    match i,I with
    | 0,I=>simp at I;subst I;simp [Addr.add]
    | i+1,I=>simp at I
   case c2=>intro u I;simp at I;subst I;rfl
   case c3=>decide
   case c4=>decide
   case c5=>simp;omega
   intro v' V h O _;have h:V.ownsRow (w.heap.size+1) 3 1 v' 3 (([2023,2,0]:List Int).map (Value.int .i64)):=h;have Y:V.heap[w.heap.size]?=some (.stringIter aY 9):=by
    rw [O.block w.heap.size ag (fun e=>by have:=(f.lt _ e.symm).1;omega),Below.heap_alloc _ _ _ om];exact H.out.2.1
   have aa:Below w w V:=(H.out.2.2.alloc om _).grown O ag (fun b hb=>by have:=(f.lt b hb).1;omega);obtain ⟨g,cap,rfl,hg⟩:=bz h aj;have c1:V.cell? ⟨g,2,none⟩=some (.int .i64 0):=h.cellAt 2 aj;have f1:V.frozen? ⟨g,2,none⟩=false:=h.frozenAt 2;have H2:=hide (And.intro h (And.intro Y aa));clear h Y aa O f;go_wp2;have J:=gM.stored (k:=9) H2.out.1 H2.out.2.1 H2.out.2.2 2 0 rfl rfl om;exact ⟨⟨9,_,by omega,rfl,rfl,J⟩,by rw [HI.out,iterPos_of J.2.1];omega⟩
  ·have tk:((ki[9]'aj).toNat:Int)=51:=rfl
   have fk:((aY[9]'aj).toNat:Int)=35:=rfl;have o:=fun U=>Lib.run_next_ascii_at (P:=Tryz.prog) wr w.heap.size aY 9 U E.2.1 aj aj
   obtain ⟨f,F,G,h4⟩:=E.step 10;generalize wr.iterAt w.heap.size aY (9+1)=W at *;have f:W.ownsRow (w.heap.size+1) 3 1 v 3 (([2023,2,0]:List Int).map (Value.int .i64)):=f;have ho:Cw 9=true:=rfl;rw [ho];obtain ⟨g,cap,rfl,hg⟩:=bz f aj;have c1:W.cell? ⟨g,2,none⟩=some (.int .i64 0):=f.cellAt 2 aj;have f1:W.frozen? ⟨g,2,none⟩=false:=f.frozenAt 2;have H:=hide (And.intro f (And.intro F G));clear f F G E;go_wp2;have J:=gM.stored (k:=10) H.out.1 H.out.2.1 H.out.2.2 2 3 rfl rfl om;exact ⟨⟨10,_,by omega,rfl,rfl,J⟩,by rw [HI.out,iterPos_of J.2.1];omega⟩
  ·have o:=fun U=>Lib.run_next_end_at (P:=Tryz.prog) wr w.heap.size aY 10 U E.2.1 aj
   have f:wr.ownsRow (w.heap.size+1) 3 1 v 3 (([2023,2,3]:List Int).map (Value.int .i64)):=E.1;obtain ⟨g,cap,rfl,hg⟩:=bz f aj;have H:=hide (And.intro f E.2);clear E f;go_wp2;go_ret2;exact ⟨⟨g,cap,rfl,H.out.1.cellAt 0 aj,H.out.1.cellAt 1 aj,H.out.1.cellAt 2 aj⟩,H.out.2.2⟩
theorem si (w:World):Calls Tryz.prog 208 #[.string ki] w fun e w'=>e=.returned (.tuple #[.int .i64 154531,.int .i64 0])∧Below w w w':=by
 go_enter Tryz.func208,Tryz.ntmps208;go_wp2_with fail;refine (wh _).mono ?_;rintro e J ⟨⟨g,cap,rfl,G,H,I⟩,h⟩;have f:=hide h;clear h;go_wp2_with fail;go_region_with (go_at_call 24;refine (jn 2023 2 3 _).mono ?_;rintro e F ⟨rfl,o⟩;rw [qZ.1,qZ.2];have E:=hide (f.out.drew.trans (o.mono (by exact f.out.size)):Below w w F);clear o)
 all_goals
  go_simp;go_wp2;go_ret2;exact ⟨rfl,E.out⟩
abbrev kx:ByteArray:=⟨#[50,48,50,51,45,48,50,45,48,53]⟩
def D9:Nat→List Int
 | 1=>[2] | 2=>[20] | 3=>[202] | 4=>[2023] | 5=>[2023] | 6=>[2023,0] | 7=>[2023,2] | 8=>[2023,2] | 9=>[2023,2,0] | 10=>[2023,2,5] | _=>[]
def C7:Nat→Bool
 | 0=>false | 5=>false | 8=>false | _=>true
def gU (w wr:World) (k:Nat) (v:Value):Prop:=
 wr.ownsRow (w.heap.size+1) 3 1 v (D9 k).length ((D9 k).map (Value.int .i64))∧wr.heap[w.heap.size]?=some (.stringIter aY k)∧Below w w wr
theorem gU.step {w wr:World} {k:Nat} {v:Value} (h:gU w wr k v) (p:Nat) :
  (wr.iterAt w.heap.size aY p).ownsRow (w.heap.size+1) 3 1 v (D9 k).length ((D9 k).map (Value.int .i64))∧(wr.iterAt w.heap.size aY p).heap[w.heap.size]?=some (.stringIter aY p)∧Below w w (wr.iterAt w.heap.size aY p)∧w.heap.size+1≤(wr.iterAt w.heap.size aY p).heap.size:=
 ⟨ownsRow_iterAt h.1 (Nat.lt_succ_self _) _ _,Lib.iterAt_heap _ _ _ _ _ h.2.1,Lib.below_iterAt h.2.2 (Nat.le_refl _) _ _,by rw [Lib.iterAt_size];exact (Array.getElem?_eq_some_iff.1 h.2.1).1⟩
theorem gU.stored {w W:World} {k n g cap:Nat} {f:List Int} (o:W.ownsRow (w.heap.size+1) 3 1 (.slice (some ⟨g,0,none⟩) n cap) n (f.map (Value.int .i64))) (E:W.heap[w.heap.size]?=some (.stringIter aY k)) (F:Below w w W)
  (j:Nat) (x:Int) (H:D9 k=f.set j x) (G:(D9 k).length=n) (I:w.heap.size<g):gU w (W.setCell ⟨g,j,none⟩ (.int .i64 x)) k (.slice (some ⟨g,0,none⟩) n cap):=by
 have h:=(o.stored j (.int .i64 x)).1;have e:(f.map (Value.int .i64)).set j (Value.int .i64 x)=(D9 k).map (Value.int .i64):=by rw [H,List.map_set]
 rw [e] at h;refine ⟨by rw [G];exact h,?_,F.setCell ag _⟩;rw [Below.heap_setCell W ⟨g,j,none⟩ _ w.heap.size ag];exact E
theorem ri:kD 2023 2 5=154533∧dA 2023 2 5=0:=by decide +kernel
theorem xm (w:World):Calls Tryz.prog 237 #[.string kx,.string aY] w fun e w'=>(∃ g cap,e=.returned (.tuple #[.slice (some ⟨g,0,none⟩) 3 cap,.bool true])∧w'.cell? ⟨g,0,none⟩=some (.int .i64 2023)∧w'.cell? ⟨g,1,none⟩=some (.int .i64 2)∧w'.cell? ⟨g,2,none⟩=some (.int .i64 5))∧Below w w w':=by
 obtain ⟨i0,hi,ab,ac,ad⟩:=info_parts kW;go_enter Tryz.func237,Tryz.ntmps237;go_wp2_with fail;go_loopw [4,6] (fun s4 s6 wr=>∃ (k:Nat) (v:Value),k≤10∧v=s4∧s6=.bool (C7 k)∧gU w wr k v) (fun _ _ w'=>10-w'.iterPos w.heap.size)
 case atStart=>exact ⟨0,_,by omega,rfl,rfl,World.ownsRow_nil _ _ _ _,World.iter_heap _ _ _,(Below.refl _ _).alloc (Nat.le_refl _) _⟩
 case round =>
  obtain ⟨k,v,hk,al,ao,E⟩:=hrel;subst ao;subst al;have HI:=hide (iterPos_of E.2.1);have ah:k=0∨k=1∨k=2∨k=3∨k=4∨k=5∨k=6∨k=7∨k=8∨k=9∨k=10:=om;rcases ah with rfl | rfl | rfl | rfl | rfl | rfl | rfl | rfl | rfl | rfl | rfl
  ·have tk:((kx[0]'aj).toNat:Int)=50:=rfl
   have fk:((aY[0]'aj).toNat:Int)=35:=rfl;have o:=fun U=>Lib.run_next_ascii_at (P:=Tryz.prog) wr w.heap.size aY 0 U E.2.1 aj aj
   obtain ⟨f,F,G,h4⟩:=E.step 1;generalize wr.iterAt w.heap.size aY (0+1)=W at *;have f:W.ownsRow (w.heap.size+1) 3 1 v 0 (([]:List Int).map (Value.int .i64)):=f;have ho:C7 0=false:=rfl;rw [ho];have H:=hide (And.intro f (And.intro F G));clear F G E;go_wp2_with ((at_builtin;refine wpList_append_own _ rfl _ _ 38 rfl (w.heap.size+1) 3 i0 (.int .i64 0) 1 8 Tryz.underlying38 hi ab ac ad rfl aj _ _ _ rfl (f.alloc _) ⟨W,0,none⟩ 1 1 [.int .i64 0] rfl rfl ?c1 ?c2 ?c3 ?c4 ?c5 ?_))
   case c1 =>
    intro i u I
    match i,I with
    | 0,I=>simp at I;subst I;simp [Addr.add]
    | i+1,I=>simp at I
   case c2=>intro u I;simp at I;subst I;rfl
   case c3=>decide
   case c4=>decide
   case c5=>simp;omega
   intro v' V h O _;have h:V.ownsRow (w.heap.size+1) 3 1 v' 1 (([0]:List Int).map (Value.int .i64)):=h;have Y:V.heap[w.heap.size]?=some (.stringIter aY 1):=by
    rw [O.block w.heap.size ag (fun e=>by have:=(f.lt _ e.symm).1;omega),Below.heap_alloc _ _ _ om];exact H.out.2.1
   have aa:Below w w V:=(H.out.2.2.alloc om _).grown O ag (fun b hb=>by have:=(f.lt b hb).1;omega);obtain ⟨g,cap,rfl,hg⟩:=bz h aj;have c1:V.cell? ⟨g,0,none⟩=some (.int .i64 0):=h.cellAt 0 aj;have f1:V.frozen? ⟨g,0,none⟩=false:=h.frozenAt 0;have H2:=hide (And.intro h (And.intro Y aa));clear h Y aa O f;go_wp2;have J:=gU.stored (k:=1) H2.out.1 H2.out.2.1 H2.out.2.2 0 2 rfl rfl om;exact ⟨⟨1,_,by omega,rfl,rfl,J⟩,by rw [HI.out,iterPos_of J.2.1];omega⟩
  ·have tk:((kx[1]'aj).toNat:Int)=48:=rfl
   have fk:((aY[1]'aj).toNat:Int)=35:=rfl;have o:=fun U=>Lib.run_next_ascii_at (P:=Tryz.prog) wr w.heap.size aY 1 U E.2.1 aj aj
   obtain ⟨f,F,G,h4⟩:=E.step 2;generalize wr.iterAt w.heap.size aY (1+1)=W at *;have f:W.ownsRow (w.heap.size+1) 3 1 v 1 (([2]:List Int).map (Value.int .i64)):=f;have ho:C7 1=true:=rfl;rw [ho];obtain ⟨g,cap,rfl,hg⟩:=bz f aj;have c1:W.cell? ⟨g,0,none⟩=some (.int .i64 2):=f.cellAt 0 aj;have f1:W.frozen? ⟨g,0,none⟩=false:=f.frozenAt 0;have H:=hide (And.intro f (And.intro F G));clear f F G E;go_wp2;have J:=gU.stored (k:=2) H.out.1 H.out.2.1 H.out.2.2 0 20 rfl rfl om;exact ⟨⟨2,_,by omega,rfl,rfl,J⟩,by rw [HI.out,iterPos_of J.2.1];omega⟩
  ·have tk:((kx[2]'aj).toNat:Int)=50:=rfl
   have fk:((aY[2]'aj).toNat:Int)=35:=rfl;have o:=fun U=>Lib.run_next_ascii_at (P:=Tryz.prog) wr w.heap.size aY 2 U E.2.1 aj aj
   obtain ⟨f,F,G,h4⟩:=E.step 3;generalize wr.iterAt w.heap.size aY (2+1)=W at *;have f:W.ownsRow (w.heap.size+1) 3 1 v 1 (([20]:List Int).map (Value.int .i64)):=f;have ho:C7 2=true:=rfl;rw [ho];obtain ⟨g,cap,rfl,hg⟩:=bz f aj;have c1:W.cell? ⟨g,0,none⟩=some (.int .i64 20):=f.cellAt 0 aj;have f1:W.frozen? ⟨g,0,none⟩=false:=f.frozenAt 0;have H:=hide (And.intro f (And.intro F G));clear f F G E;go_wp2;have J:=gU.stored (k:=3) H.out.1 H.out.2.1 H.out.2.2 0 202 rfl rfl om;exact ⟨⟨3,_,by omega,rfl,rfl,J⟩,by rw [HI.out,iterPos_of J.2.1];omega⟩
  ·have tk:((kx[3]'aj).toNat:Int)=51:=rfl
   have fk:((aY[3]'aj).toNat:Int)=35:=rfl;have o:=fun U=>Lib.run_next_ascii_at (P:=Tryz.prog) wr w.heap.size aY 3 U E.2.1 aj aj
   obtain ⟨f,F,G,h4⟩:=E.step 4;generalize wr.iterAt w.heap.size aY (3+1)=W at *;have f:W.ownsRow (w.heap.size+1) 3 1 v 1 (([202]:List Int).map (Value.int .i64)):=f;have ho:C7 3=true:=rfl;rw [ho];obtain ⟨g,cap,rfl,hg⟩:=bz f aj;have c1:W.cell? ⟨g,0,none⟩=some (.int .i64 202):=f.cellAt 0 aj;have f1:W.frozen? ⟨g,0,none⟩=false:=f.frozenAt 0;have H:=hide (And.intro f (And.intro F G));clear f F G E;go_wp2;have J:=gU.stored (k:=4) H.out.1 H.out.2.1 H.out.2.2 0 2023 rfl rfl om;exact ⟨⟨4,_,by omega,rfl,rfl,J⟩,by rw [HI.out,iterPos_of J.2.1];omega⟩
  ·have tk:((kx[4]'aj).toNat:Int)=45:=rfl
   have fk:((aY[4]'aj).toNat:Int)=45:=rfl;have o:=fun U=>Lib.run_next_ascii_at (P:=Tryz.prog) wr w.heap.size aY 4 U E.2.1 aj aj
   obtain ⟨f,F,G,h4⟩:=E.step 5;generalize wr.iterAt w.heap.size aY (4+1)=W at *;have H:=hide (And.intro f (And.intro F G));clear f F G E;go_wp2;exact ⟨⟨5,_,by omega,rfl,rfl,H.out⟩,by rw [HI.out,iterPos_of H.out.2.1];omega⟩
  ·have tk:((kx[5]'aj).toNat:Int)=48:=rfl
   have fk:((aY[5]'aj).toNat:Int)=35:=rfl;have o:=fun U=>Lib.run_next_ascii_at (P:=Tryz.prog) wr w.heap.size aY 5 U E.2.1 aj aj
   obtain ⟨f,F,G,h4⟩:=E.step 6;generalize wr.iterAt w.heap.size aY (5+1)=W at *;have f:W.ownsRow (w.heap.size+1) 3 1 v 1 (([2023]:List Int).map (Value.int .i64)):=f;have ho:C7 5=false:=rfl;rw [ho];have H:=hide (And.intro f (And.intro F G));clear F G E;go_wp2_with ((at_builtin;refine wpList_append_own _ rfl _ _ 38 rfl (w.heap.size+1) 3 i0 (.int .i64 0) 1 8 Tryz.underlying38 hi ab ac ad rfl aj _ _ _ rfl (f.alloc _) ⟨W,0,none⟩ 1 1 [.int .i64 0] rfl rfl ?c1 ?c2 ?c3 ?c4 ?c5 ?_))
   case c1 =>
    intro i u I
    match i,I with
    | 0,I=>simp at I;subst I;simp [Addr.add]
    | i+1,I=>simp at I
   case c2=>intro u I;simp at I;subst I;rfl
   case c3=>decide
   case c4=>decide
   case c5=>simp;omega
   intro v' V h O _;have h:V.ownsRow (w.heap.size+1) 3 1 v' 2 (([2023,0]:List Int).map (Value.int .i64)):=h;have Y:V.heap[w.heap.size]?=some (.stringIter aY 6):=by
    rw [O.block w.heap.size ag (fun e=>by have:=(f.lt _ e.symm).1;omega),Below.heap_alloc _ _ _ om];exact H.out.2.1
   have aa:Below w w V:=(H.out.2.2.alloc om _).grown O ag (fun b hb=>by have:=(f.lt b hb).1;omega);obtain ⟨g,cap,rfl,hg⟩:=bz h aj;have c1:V.cell? ⟨g,1,none⟩=some (.int .i64 0):=h.cellAt 1 aj;have f1:V.frozen? ⟨g,1,none⟩=false:=h.frozenAt 1;have H2:=hide (And.intro h (And.intro Y aa));clear h Y aa O f;go_wp2;have J:=gU.stored (k:=6) H2.out.1 H2.out.2.1 H2.out.2.2 1 0 rfl rfl om;exact ⟨⟨6,_,by omega,rfl,rfl,J⟩,by rw [HI.out,iterPos_of J.2.1];omega⟩
  ·have tk:((kx[6]'aj).toNat:Int)=50:=rfl
   have fk:((aY[6]'aj).toNat:Int)=35:=rfl;have o:=fun U=>Lib.run_next_ascii_at (P:=Tryz.prog) wr w.heap.size aY 6 U E.2.1 aj aj
   obtain ⟨f,F,G,h4⟩:=E.step 7;generalize wr.iterAt w.heap.size aY (6+1)=W at *;have f:W.ownsRow (w.heap.size+1) 3 1 v 2 (([2023,0]:List Int).map (Value.int .i64)):=f;have ho:C7 6=true:=rfl;rw [ho];obtain ⟨g,cap,rfl,hg⟩:=bz f aj;have c1:W.cell? ⟨g,1,none⟩=some (.int .i64 0):=f.cellAt 1 aj;have f1:W.frozen? ⟨g,1,none⟩=false:=f.frozenAt 1;have H:=hide (And.intro f (And.intro F G));clear f F G E;go_wp2;have J:=gU.stored (k:=7) H.out.1 H.out.2.1 H.out.2.2 1 2 rfl rfl om;exact ⟨⟨7,_,by omega,rfl,rfl,J⟩,by rw [HI.out,iterPos_of J.2.1];omega⟩
  ·have tk:((kx[7]'aj).toNat:Int)=45:=rfl
   have fk:((aY[7]'aj).toNat:Int)=45:=rfl;have o:=fun U=>Lib.run_next_ascii_at (P:=Tryz.prog) wr w.heap.size aY 7 U E.2.1 aj aj
   obtain ⟨f,F,G,h4⟩:=E.step 8;generalize wr.iterAt w.heap.size aY (7+1)=W at *;have H:=hide (And.intro f (And.intro F G));clear f F G E;go_wp2;exact ⟨⟨8,_,by omega,rfl,rfl,H.out⟩,by rw [HI.out,iterPos_of H.out.2.1];omega⟩
  ·have tk:((kx[8]'aj).toNat:Int)=48:=rfl
   have fk:((aY[8]'aj).toNat:Int)=35:=rfl;have o:=fun U=>Lib.run_next_ascii_at (P:=Tryz.prog) wr w.heap.size aY 8 U E.2.1 aj aj
   obtain ⟨f,F,G,h4⟩:=E.step 9;generalize wr.iterAt w.heap.size aY (8+1)=W at *;have f:W.ownsRow (w.heap.size+1) 3 1 v 2 (([2023,2]:List Int).map (Value.int .i64)):=f;have ho:C7 8=false:=rfl;rw [ho];have H:=hide (And.intro f (And.intro F G));clear F G E;go_wp2_with ((at_builtin;refine wpList_append_own _ rfl _ _ 38 rfl (w.heap.size+1) 3 i0 (.int .i64 0) 1 8 Tryz.underlying38 hi ab ac ad rfl aj _ _ _ rfl (f.alloc _) ⟨W,0,none⟩ 1 1 [.int .i64 0] rfl rfl ?c1 ?c2 ?c3 ?c4 ?c5 ?_))
   case c1 =>
    intro i u I
    match i,I with
    | 0,I=>simp at I;subst I;simp [Addr.add]
    | i+1,I=>simp at I
   case c2=>intro u I;simp at I;subst I;rfl
   case c3=>decide
   case c4=>decide
   case c5=>simp;omega
   intro v' V h O _;have h:V.ownsRow (w.heap.size+1) 3 1 v' 3 (([2023,2,0]:List Int).map (Value.int .i64)):=h;have Y:V.heap[w.heap.size]?=some (.stringIter aY 9):=by
    rw [O.block w.heap.size ag (fun e=>by have:=(f.lt _ e.symm).1;omega),Below.heap_alloc _ _ _ om];exact H.out.2.1
   have aa:Below w w V:=(H.out.2.2.alloc om _).grown O ag (fun b hb=>by have:=(f.lt b hb).1;omega);obtain ⟨g,cap,rfl,hg⟩:=bz h aj;have c1:V.cell? ⟨g,2,none⟩=some (.int .i64 0):=h.cellAt 2 aj;have f1:V.frozen? ⟨g,2,none⟩=false:=h.frozenAt 2;have H2:=hide (And.intro h (And.intro Y aa));clear h Y aa O f;go_wp2;have J:=gU.stored (k:=9) H2.out.1 H2.out.2.1 H2.out.2.2 2 0 rfl rfl om;exact ⟨⟨9,_,by omega,rfl,rfl,J⟩,by rw [HI.out,iterPos_of J.2.1];omega⟩
  ·have tk:((kx[9]'aj).toNat:Int)=53:=rfl
   have fk:((aY[9]'aj).toNat:Int)=35:=rfl;have o:=fun U=>Lib.run_next_ascii_at (P:=Tryz.prog) wr w.heap.size aY 9 U E.2.1 aj aj
   obtain ⟨f,F,G,h4⟩:=E.step 10;generalize wr.iterAt w.heap.size aY (9+1)=W at *;have f:W.ownsRow (w.heap.size+1) 3 1 v 3 (([2023,2,0]:List Int).map (Value.int .i64)):=f;have ho:C7 9=true:=rfl;rw [ho];obtain ⟨g,cap,rfl,hg⟩:=bz f aj;have c1:W.cell? ⟨g,2,none⟩=some (.int .i64 0):=f.cellAt 2 aj;have f1:W.frozen? ⟨g,2,none⟩=false:=f.frozenAt 2;have H:=hide (And.intro f (And.intro F G));clear f F G E;go_wp2;have J:=gU.stored (k:=10) H.out.1 H.out.2.1 H.out.2.2 2 5 rfl rfl om;exact ⟨⟨10,_,by omega,rfl,rfl,J⟩,by rw [HI.out,iterPos_of J.2.1];omega⟩
  ·have o:=fun U=>Lib.run_next_end_at (P:=Tryz.prog) wr w.heap.size aY 10 U E.2.1 aj
   have f:wr.ownsRow (w.heap.size+1) 3 1 v 3 (([2023,2,5]:List Int).map (Value.int .i64)):=E.1;obtain ⟨g,cap,rfl,hg⟩:=bz f aj;have H:=hide (And.intro f E.2);clear E f;go_wp2;go_ret2;exact ⟨⟨g,cap,rfl,H.out.1.cellAt 0 aj,H.out.1.cellAt 1 aj,H.out.1.cellAt 2 aj⟩,H.out.2.2⟩
theorem sX (w:World):Calls Tryz.prog 208 #[.string kx] w fun e w'=>e=.returned (.tuple #[.int .i64 154533,.int .i64 0])∧Below w w w':=by
 go_enter Tryz.func208,Tryz.ntmps208;go_wp2_with fail;refine (xm _).mono ?_;rintro e J ⟨⟨g,cap,rfl,G,H,I⟩,h⟩;have f:=hide h;clear h;go_wp2_with fail;go_region_with (go_at_call 24;refine (jn 2023 2 5 _).mono ?_;rintro e F ⟨rfl,o⟩;rw [ri.1,ri.2];have E:=hide (f.out.drew.trans (o.mono (by exact f.out.size)):Below w w F);clear o)
 all_goals
  go_simp;go_wp2;go_ret2;exact ⟨rfl,E.out⟩
end
end Go.Proofs.YtpebkobmhhnojaaGreatDoor
