/- Lemmas. -/
import Derived.BigGuardPart
import Derived.BigQuiet
import Derived.BigRegion
import Derived.ChangeAlike
import Derived.Deep.AppendLies
import Derived.Deep.DeepCutAuto
import Derived.Deep.DeepFit
import Derived.Deep.Draws
import Derived.Deep.LoopGhost
import Derived.Deep.QuietTactic
import Derived.Deep.RegionHeld3
import Derived.Deep.RegionWith
import Derived.Handy
import Derived.Lib.Hide
import Derived.Maps.AppendAt
import Derived.RegionTactic
import Derived.StillTailTactics
import Derived.Test.YtpebkobmhhnojaaGreatDoorRows
import Derived.Test.YtpebkobmhhnojaaGreatDoorTp00
import Derived.WalkKit
import Derived.WalkLawsBesides
import Derived.WalkSpells
set_option linter.unusedSimpArgs false
set_option linter.unusedVariables false
set_option maxRecDepth 100000
set_option maxHeartbeats 12800000
namespace Go.Proofs.YtpebkobmhhnojaaGreatDoor
section
open Go.RowKit
theorem ak {α:Sort _} {a b:α} (h:a=b:=by kernel_rfl):a=b:=h
theorem am {n m:Nat} {a b:World} (h:Below m a b) (g:n<a.heap.size:=by first | (simp;done) | (simp;omega) | omega):n<b.heap.size:=Nat.lt_of_lt_of_le g h.size
theorem an {m:Nat} {a b:World} {p:Addr} {v:Bool} (h:Below m a b) (g:p.block<m:=by simp;try omega) (k:a.frozen? p=v:=by simp [World.cell?_alloc_at,World.cell?_alloc_past,World.frozen?_alloc_at,World.frozen?_alloc_past]):b.frozen? p=v:=by rw [h.frozen g];exact k
theorem ap {m:Nat} {a b:World} {p:Addr} {v:Option Value} (h:Below m a b) (g:p.block<m:=by simp;try omega) (k:a.cell? p=v:=by simp [World.cell?_alloc_at,World.cell?_alloc_past,World.frozen?_alloc_at,World.frozen?_alloc_past]):b.cell? p=v:=by rw [h.cell g];exact k
instance:Coe Int Value:=⟨fun x=>.int .i64 x⟩
instance:Coe Nat Value:=⟨fun x=>.int .i64 (x:Int)⟩
instance:Coe World Nat:=⟨fun w=>w.heap.size⟩
theorem bA {a b:Bool} (h:a=b):Ending.returned (.bool a)=.returned (.bool b):=by rw [h]
theorem bD {k:IntKind} {a b:Int} (h:a=b):Ending.returned (.int k a)=.returned (.int k b):=by rw [h]
theorem aW {k l:IntKind} {a b c d:Int} (h:a=c) (f:b=d):Ending.returned (.tuple #[.int k a,.int l b])=.returned (.tuple #[.int k c,.int l d]):=by rw [h,f]
theorem hide {p:Prop} (h:p):Hid p:=h
theorem EL {p:Prop} (h:Hid p):p:=h
theorem cV {P:Program} {f:FuncId} {o:Array Value} {w:World} {a n:Nat} {v:Value}
  (h:Calls P f o (w.drewN (a+n)) fun e w'=>e=.returned v∧w.drewN (a+n)=w') :
  Calls P f o (w.drewN (a+n)) fun e E=>e=.returned v∧∃ m,E=w.drewN (a+m):=
 h.mono fun _ _ ⟨F,hm⟩=>⟨F,n,hm.symm⟩
theorem eK {P:Program} {f:FuncId} {o:Array Value} {w:World} {n:Nat} {v:Value}
  (h:Calls P f o (w.drewN n) fun e w'=>e=.returned v∧w.drewN n=w'):Calls P f o (w.drewN n) fun e E=>e=.returned v∧∃ m,E=w.drewN m:=
 h.mono fun _ _ ⟨F,hm⟩=>⟨F,n,hm.symm⟩
theorem fc {W f:World} (E:Below W.heap.size W f):(∀ b o,b<W.heap.size→f.cell? ⟨b,o,none⟩=W.cell? ⟨b,o,none⟩)∧(∀ b o,b<W.heap.size→f.frozen? ⟨b,o,none⟩=W.frozen? ⟨b,o,none⟩):=
 ⟨fun b o h=>E.cell (p:=⟨b,o,none⟩) h,fun b o h=>E.frozen (p:=⟨b,o,none⟩) h⟩
theorem sz {p:Prop} (h:p:=by first | omega | (simp;done) | (simp;omega)):p:=h
theorem bel {n:Nat} {w w':World} (h:Below n w w':=by repeat' (first | (with_reducible exact Below.refl _ _) | (with_reducible assumption) | (with_reducible refine Below.alloc ?_ ?_ _) | (with_reducible refine below_drewN ?_ _) | (with_reducible refine Below.drew ?_) | (with_reducible refine Below.setCell ?_ ?_ _) | (with_reducible refine Below.trans ?_ (Below.mono (by assumption) ?_)) | go_size | (simp at *;omega))):Below n w w':=h
theorem ww {n m:Nat} {w W f:World} (E:Below m W f) (h:Below n w W:=by exact bel) (o:n≤m:=by exact sz):Hid (Below n w f):=h.trans (E.mono o)
theorem ar {n:Nat} {w w':World} (h:Below n w w':=by repeat' exact bel):Below n w w':=h
theorem au {n m:Nat} {w W f o:World} (p:Below n w W) (F:Below m f o) (h:Below n w W→Below n w f:=by intro _;exact bel) (E:n≤m:=by exact sz):Hid (Below n w o):=(h p).trans (F.mono E)
@[go_sem] theorem Ij (d:Nat) (a b c x y z:Int) (w:World):(Op.equalIn (d+2) 22 (.agg #[.int .i64 a,.int .i64 b,.int .i64 c]) (.agg #[.int .i64 x,.int .i64 y,.int .i64 z])).run Tryz.prog w=.ok (a==x&&(b==y&&c==z)) w:=by
 have F:=Tryz.underlying3;have E:=Tryz.isAgg3;have G:=Tryz.sizeOf3;rw [Op.equalIn];simp only [Sem.run_bind,run_underlying Tryz.underlying22,Result.andThen_ok];simp only [Std.Legacy.Range.forIn_eq_forIn_range',Std.Legacy.Range.size,Nat.sub_zero,Nat.add_sub_cancel,Nat.div_one,List.range'_succ,List.range'_zero,List.forIn_cons,List.forIn_nil];go_simp;by_cases f:a=x <;> by_cases h:b=y <;> by_cases o:c=z <;> simp [f,h,o]
def aS (w:World) (g:Nat) (f:List Int):Prop:=w.heap[g]?=some (.cells (f.map (Value.int .i64)).toArray 3 (0,0))
theorem aS.lt {w:World} {g:Nat} {f:List Int} (h:aS w g f):g<w.heap.size:=(Array.getElem?_eq_some_iff.1 h).1
theorem aS.cell {w:World} {g:Nat} {f:List Int} (h:aS w g f) {k:Nat} (o:k<f.length):w.cell? ⟨g,k,none⟩=some (.int .i64 (f[k]?.getD 0)):=by
 rw [cell_of_row w g k _ _ _ h];simp [o]
theorem aS.frozen {w:World} {g:Nat} {f:List Int} (h:aS w g f) (k:Nat):w.frozen? ⟨g,k,none⟩=false:=by
 unfold aS at h;simp [World.frozen?,h]
theorem aS.below {w w':World} {K g:Nat} {f:List Int} (h:aS w g f) (o:Below K w w') (E:g<K):aS w' g f:=(o.block g E).trans h
theorem aS.call {w w':World} {g:Nat} {f:List Int} (h:aS w g f) (o:Below w w w'):aS w' g f:=h.below o h.lt
theorem aS.alloc {w:World} {g:Nat} {f:List Int} (h:aS w g f) (o:Obj):aS (w.alloc o) g f:=(Below.heap_alloc w o g h.lt).trans h
theorem aS.far {w:World} {g:Nat} {f:List Int} (h:aS w g f) {p:Addr} (o:g≠p.block) (u:Value):aS (w.setCell p u) g f:=(Below.heap_setCell w p u g o).trans h
theorem aS.set {w:World} {g:Nat} {f:List Int} (h:aS w g f) (k:Nat) (v:Int):aS (w.setCell ⟨g,k,none⟩ (.int .i64 v)) g (f.set k v):=by
 unfold aS at h ⊢;simp [World.setCell,Array.getElem?_modify,h,List.map_set]
def dO (n:Nat):Obj:=.cells (List.replicate n (Value.int .i64 0)).toArray 3
theorem aS.new (w:World) (n:Nat):aS (w.alloc (dO n)) w.heap.size (List.replicate n 0):=by
 unfold aS dO;rw [heap_alloc_new];simp
theorem gW (n:Nat) (J:n≤100000) (w:World):(Instr.makeSlice 38 (.int .i64 (n:Int)) (.int .i64 (n:Int))).run Tryz.prog w=.ok (.slice (some ⟨w,0,none⟩) n n) (w.alloc (dO n)):=by
 have E:(Tryz.prog.info? 3).map (fun i=>(i.zero,i.size,i.bytes))=some (some (.int .i64 0),1,8):=by kernel_rfl
 obtain ⟨G,hi,f,h,o⟩:=info_parts E;have F:=run_make (P:=Tryz.prog) w 38 3 G (.int .i64 0) Tryz.underlying38 hi f .i64 .i64 n n om om (by rw [o];omega) om;rw [F,h];have e:madeCells (Value.int .i64 0).cells (((n:Int)).toNat*1)=(List.replicate n (Value.int .i64 0)).toArray:=by
  apply Array.ext
  ·simp [madeCells]
  ·intro i H I
   simp [madeCells,Value.cells,Nat.mod_one]
 rw [e];simp [dO]
theorem tK (w:World):(Instr.makeSlice 38 (.int .i64 12) (.int .i64 12)).run Tryz.prog w=.ok (.slice (some ⟨w,0,none⟩) 12 12) (w.alloc (dO 12)):=gW 12 om w
def iB (n k:Nat) (f:Nat→Int):List Int:=(List.range n).map fun i=>if i<k then f i else 0
theorem iP (n k:Nat) (f:Nat→Int):(iB n k f).length=n:=by simp [iB]
theorem fB (n:Nat) (f:Nat→Int):iB n 0 f=List.replicate n 0:=by
 apply List.ext_getElem
 ·simp [iB]
 ·intro i h o;simp [iB]
theorem ed (n k:Nat) (f:Nat→Int):(iB n k f).set k (f k)=iB n (k+1) f:=by
 apply List.ext_getElem
 ·simp [iB]
 ·intro i E F
  simp [iB,List.getElem_set];by_cases h:k=i
  ·subst h;simp
  ·rw [if_neg h]
   by_cases o:i<k
   ·rw [if_pos o,if_pos om]
   ·rw [if_neg o,if_neg om]
theorem fG (n:Nat) (f:Nat→Int):iB n n f=(List.range n).map f:=by
 unfold iB;apply List.map_congr_left;intro i hi;rw [if_pos (by simpa using hi)]
end
end Go.Proofs.YtpebkobmhhnojaaGreatDoor
