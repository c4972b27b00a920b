/- Lemmas. -/
import Derived.Test.YtpebkobmhhnojaaGreatDoorTp07
set_option linter.unusedSimpArgs false
set_option linter.unusedVariables false
set_option maxRecDepth 100000
set_option maxHeartbeats 12800000
namespace Go.Proofs.YtpebkobmhhnojaaGreatDoor
section
open Go.RowKit Qd
def bY:ByteArray:=⟨#[99,97,108,101,110,100,97,114,32,97,32,123,32,101,110,100,32,110,114,102,59,32,115,101,114,118,101,32,50,48,50,51,32,50,48,50,51,59,32,99,111,109,112,97,114,101,32,100,114,111,112,59,32,125]⟩
def rE:List Tk:=[⟨1,0,0,⟨#[99,97,108,101,110,100,97,114]⟩⟩,⟨1,9,0,⟨#[97]⟩⟩,⟨3,11,0,⟨#[]⟩⟩,⟨1,13,0,⟨#[101,110,100]⟩⟩,⟨1,17,0,⟨#[110,114,102]⟩⟩,⟨5,20,0,⟨#[]⟩⟩,⟨1,22,0,⟨#[115,101,114,118,101]⟩⟩,⟨2,28,2023,⟨#[]⟩⟩,⟨2,33,2023,⟨#[]⟩⟩,⟨5,37,0,⟨#[]⟩⟩,⟨1,39,0,⟨#[99,111,109,112,97,114,101]⟩⟩,⟨1,47,0,⟨#[100,114,111,112]⟩⟩,⟨5,51,0,⟨#[]⟩⟩,⟨4,53,0,⟨#[]⟩⟩]
def Im (i:Nat):Nat:=[8,1,1,3,3,1,5,4,4,1,7,4,1,1].getD i 0
def Io (i:Nat):Nat:=[0,9,11,13,17,20,22,28,33,37,39,47,51,53,54].getD i 0
theorem C0 (k:Nat) (j:Nat) (f:j<(bY.extract k bY.size).size):ci (bY.extract k bY.size)[j]≠35:=by
 have h:∀ u∈bY.data.toList,ci u≠35:=by decide +kernel
 have o:k+j<bY.data.size:=by
  rw [ByteArray.size_extract] at f;have:bY.size=bY.data.size:=rfl;omega
 have e:(bY.extract k bY.size)[j]=bY.data[k+j]:=by simp [ByteArray.getElem_eq_getElem_data,ByteArray.data_extract]
 rw [e];exact h _ af
theorem cZ (k n:Nat) (h:md (bY.extract k bY.size).data.toList=n) (w:World):Calls Tryz.prog 136 #[.string (bY.extract k bY.size)] w fun e w'=>e=.returned n∧w=w':=by
 have f:(bY.extract k bY.size).size≤100000:=by
  rw [ByteArray.size_extract];have:bY.size=54:=rfl;omega
 refine (yI _ w f (C0 k)).mono ?_;rintro e w' ⟨rfl,rfl⟩;exact ⟨bD (by rw [h]),rfl⟩
theorem Df (m:Int) (w:World) (o:m≠8192):Calls Tryz.prog 137 #[.string (bY.extract 0 bY.size),m] w fun e w'=>e=.returned (.tuple #[ck 1 0 0 ⟨#[99,97,108,101,110,100,97,114]⟩,.int .i64 (8:Nat),.int .i64 0])∧Below w w w':=by
 refine (dS (bY.extract 0 bY.size) 8 m w (by decide +kernel) (by decide +kernel) (by decide +kernel) o (by decide +kernel) aj).mono ?_;rintro e w' ⟨rfl,f⟩;refine ⟨?_,f⟩;have h:(bY.extract 0 bY.size).extract 0 8=⟨#[99,97,108,101,110,100,97,114]⟩:=by decide +kernel
 rw [h]
theorem BR (m:Int) (w:World) (o:m≠8192):Calls Tryz.prog 137 #[.string (bY.extract 9 bY.size),m] w fun e w'=>e=.returned (.tuple #[ck 1 0 0 ⟨#[97]⟩,.int .i64 (1:Nat),.int .i64 0])∧Below w w w':=by
 refine (dS (bY.extract 9 bY.size) 1 m w (by decide +kernel) (by decide +kernel) (by decide +kernel) o (by decide +kernel) aj).mono ?_;rintro e w' ⟨rfl,f⟩;refine ⟨?_,f⟩;have h:(bY.extract 9 bY.size).extract 0 1=⟨#[97]⟩:=by decide +kernel
 rw [h]
theorem CY (m:Int) (w:World) (o:m≠8192):Calls Tryz.prog 137 #[.string (bY.extract 11 bY.size),m] w fun e w'=>e=.returned (.tuple #[ck 3 0 0 ⟨#[]⟩,.int .i64 (1:Nat),.int .i64 0])∧Below w w w':=by
 refine (fY (bY.extract 11 bY.size) m w (by decide +kernel) (by decide +kernel) o).mono ?_;rintro e w' ⟨rfl,f⟩;refine ⟨?_,f⟩;have h:oK (ci ((bY.extract 11 bY.size)[0]'(by decide +kernel)))=3:=by decide +kernel
 rw [h];rfl
theorem CM (m:Int) (w:World) (o:m≠8192):Calls Tryz.prog 137 #[.string (bY.extract 13 bY.size),m] w fun e w'=>e=.returned (.tuple #[ck 1 0 0 ⟨#[101,110,100]⟩,.int .i64 (3:Nat),.int .i64 0])∧Below w w w':=by
 refine (dS (bY.extract 13 bY.size) 3 m w (by decide +kernel) (by decide +kernel) (by decide +kernel) o (by decide +kernel) aj).mono ?_;rintro e w' ⟨rfl,f⟩;refine ⟨?_,f⟩;have h:(bY.extract 13 bY.size).extract 0 3=⟨#[101,110,100]⟩:=by decide +kernel
 rw [h]
theorem CX (m:Int) (w:World) (o:m≠8192):Calls Tryz.prog 137 #[.string (bY.extract 17 bY.size),m] w fun e w'=>e=.returned (.tuple #[ck 1 0 0 ⟨#[110,114,102]⟩,.int .i64 (3:Nat),.int .i64 0])∧Below w w w':=by
 refine (dS (bY.extract 17 bY.size) 3 m w (by decide +kernel) (by decide +kernel) (by decide +kernel) o (by decide +kernel) aj).mono ?_;rintro e w' ⟨rfl,f⟩;refine ⟨?_,f⟩;have h:(bY.extract 17 bY.size).extract 0 3=⟨#[110,114,102]⟩:=by decide +kernel
 rw [h]
theorem BA (m:Int) (w:World) (o:m≠8192):Calls Tryz.prog 137 #[.string (bY.extract 20 bY.size),m] w fun e w'=>e=.returned (.tuple #[ck 5 0 0 ⟨#[]⟩,.int .i64 (1:Nat),.int .i64 0])∧Below w w w':=by
 refine (fY (bY.extract 20 bY.size) m w (by decide +kernel) (by decide +kernel) o).mono ?_;rintro e w' ⟨rfl,f⟩;refine ⟨?_,f⟩;have h:oK (ci ((bY.extract 20 bY.size)[0]'(by decide +kernel)))=5:=by decide +kernel
 rw [h];rfl
theorem CR (m:Int) (w:World) (o:m≠8192):Calls Tryz.prog 137 #[.string (bY.extract 22 bY.size),m] w fun e w'=>e=.returned (.tuple #[ck 1 0 0 ⟨#[115,101,114,118,101]⟩,.int .i64 (5:Nat),.int .i64 0])∧Below w w w':=by
 refine (dS (bY.extract 22 bY.size) 5 m w (by decide +kernel) (by decide +kernel) (by decide +kernel) o (by decide +kernel) aj).mono ?_;rintro e w' ⟨rfl,f⟩;refine ⟨?_,f⟩;have h:(bY.extract 22 bY.size).extract 0 5=⟨#[115,101,114,118,101]⟩:=by decide +kernel
 rw [h]
theorem CI (m:Int) (w:World) (o:m≠8192):Calls Tryz.prog 137 #[.string (bY.extract 28 bY.size),m] w fun e w'=>e=.returned (.tuple #[ck 2 0 2023 ⟨#[]⟩,.int .i64 (4:Nat),.int .i64 0])∧Below w w w':=by
 refine (nT (bY.extract 28 bY.size) 4 m w (by decide +kernel) (by decide +kernel) (by decide +kernel) o (by decide +kernel) aj (by decide +kernel) (by decide +kernel)).mono ?_;rintro e w' ⟨rfl,f⟩;refine ⟨?_,f⟩;have h:jL ((bY.extract 28 bY.size).data.toList.take 4)=2023:=by decide +kernel
 rw [h]
theorem B8 (m:Int) (w:World) (o:m≠8192):Calls Tryz.prog 137 #[.string (bY.extract 33 bY.size),m] w fun e w'=>e=.returned (.tuple #[ck 2 0 2023 ⟨#[]⟩,.int .i64 (4:Nat),.int .i64 0])∧Below w w w':=by
 refine (nT (bY.extract 33 bY.size) 4 m w (by decide +kernel) (by decide +kernel) (by decide +kernel) o (by decide +kernel) aj (by decide +kernel) (by decide +kernel)).mono ?_;rintro e w' ⟨rfl,f⟩;refine ⟨?_,f⟩;have h:jL ((bY.extract 33 bY.size).data.toList.take 4)=2023:=by decide +kernel
 rw [h]
theorem Cz (m:Int) (w:World) (o:m≠8192):Calls Tryz.prog 137 #[.string (bY.extract 37 bY.size),m] w fun e w'=>e=.returned (.tuple #[ck 5 0 0 ⟨#[]⟩,.int .i64 (1:Nat),.int .i64 0])∧Below w w w':=by
 refine (fY (bY.extract 37 bY.size) m w (by decide +kernel) (by decide +kernel) o).mono ?_;rintro e w' ⟨rfl,f⟩;refine ⟨?_,f⟩;have h:oK (ci ((bY.extract 37 bY.size)[0]'(by decide +kernel)))=5:=by decide +kernel
 rw [h];rfl
theorem zn (m:Int) (w:World) (o:m≠8192):Calls Tryz.prog 137 #[.string (bY.extract 39 bY.size),m] w fun e w'=>e=.returned (.tuple #[ck 1 0 0 ⟨#[99,111,109,112,97,114,101]⟩,.int .i64 (7:Nat),.int .i64 0])∧Below w w w':=by
 refine (dS (bY.extract 39 bY.size) 7 m w (by decide +kernel) (by decide +kernel) (by decide +kernel) o (by decide +kernel) aj).mono ?_;rintro e w' ⟨rfl,f⟩;refine ⟨?_,f⟩;have h:(bY.extract 39 bY.size).extract 0 7=⟨#[99,111,109,112,97,114,101]⟩:=by decide +kernel
 rw [h]
theorem Ao (m:Int) (w:World) (o:m≠8192):Calls Tryz.prog 137 #[.string (bY.extract 47 bY.size),m] w fun e w'=>e=.returned (.tuple #[ck 1 0 0 ⟨#[100,114,111,112]⟩,.int .i64 (4:Nat),.int .i64 0])∧Below w w w':=by
 refine (dS (bY.extract 47 bY.size) 4 m w (by decide +kernel) (by decide +kernel) (by decide +kernel) o (by decide +kernel) aj).mono ?_;rintro e w' ⟨rfl,f⟩;refine ⟨?_,f⟩;have h:(bY.extract 47 bY.size).extract 0 4=⟨#[100,114,111,112]⟩:=by decide +kernel
 rw [h]
theorem yo (m:Int) (w:World) (o:m≠8192):Calls Tryz.prog 137 #[.string (bY.extract 51 bY.size),m] w fun e w'=>e=.returned (.tuple #[ck 5 0 0 ⟨#[]⟩,.int .i64 (1:Nat),.int .i64 0])∧Below w w w':=by
 refine (fY (bY.extract 51 bY.size) m w (by decide +kernel) (by decide +kernel) o).mono ?_;rintro e w' ⟨rfl,f⟩;refine ⟨?_,f⟩;have h:oK (ci ((bY.extract 51 bY.size)[0]'(by decide +kernel)))=5:=by decide +kernel
 rw [h];rfl
theorem yW (m:Int) (w:World) (o:m≠8192):Calls Tryz.prog 137 #[.string (bY.extract 53 bY.size),m] w fun e w'=>e=.returned (.tuple #[ck 4 0 0 ⟨#[]⟩,.int .i64 (1:Nat),.int .i64 0])∧Below w w w':=by
 refine (fY (bY.extract 53 bY.size) m w (by decide +kernel) (by decide +kernel) o).mono ?_;rintro e w' ⟨rfl,f⟩;refine ⟨?_,f⟩;have h:oK (ci ((bY.extract 53 bY.size)[0]'(by decide +kernel)))=4:=by decide +kernel
 rw [h];rfl
theorem BS:GO bY rE Im Io:=by
 refine ⟨fun w=>?_,rfl,?_,?_,?_,?_⟩
 ·have h:=cZ 0 0 (by decide +kernel) w
  have e:bY.extract 0 bY.size=bY:=by decide +kernel
  rw [e] at h;exact h
 ·decide +kernel
 ·intro i t h
  match i,h with
  | 0,h=>cases h;rfl
  | 1,h=>cases h;rfl
  | 2,h=>cases h;rfl
  | 3,h=>cases h;rfl
  | 4,h=>cases h;rfl
  | 5,h=>cases h;rfl
  | 6,h=>cases h;rfl
  | 7,h=>cases h;rfl
  | 8,h=>cases h;rfl
  | 9,h=>cases h;rfl
  | 10,h=>cases h;rfl
  | 11,h=>cases h;rfl
  | 12,h=>cases h;rfl
  | 13,h=>cases h;rfl
  | i+14,h=>simp [rE] at h
 ·intro i t h m w f
  match i,h with
  | 0,h=>cases h;exact Df m w f
  | 1,h=>cases h;exact BR m w f
  | 2,h=>cases h;exact CY m w f
  | 3,h=>cases h;exact CM m w f
  | 4,h=>cases h;exact CX m w f
  | 5,h=>cases h;exact BA m w f
  | 6,h=>cases h;exact CR m w f
  | 7,h=>cases h;exact CI m w f
  | 8,h=>cases h;exact B8 m w f
  | 9,h=>cases h;exact Cz m w f
  | 10,h=>cases h;exact zn m w f
  | 11,h=>cases h;exact Ao m w f
  | 12,h=>cases h;exact yo m w f
  | 13,h=>cases h;exact yW m w f
  | i+14,h=>simp [rE] at h
 ·intro i h w
  match i,h with
  | 0,h=>exact (cZ 8 1 (by decide +kernel) w)
  | 1,h=>exact (cZ 10 1 (by decide +kernel) w)
  | 2,h=>exact (cZ 12 1 (by decide +kernel) w)
  | 3,h=>exact (cZ 16 1 (by decide +kernel) w)
  | 4,h=>exact (cZ 20 0 (by decide +kernel) w)
  | 5,h=>exact (cZ 21 1 (by decide +kernel) w)
  | 6,h=>exact (cZ 27 1 (by decide +kernel) w)
  | 7,h=>exact (cZ 32 1 (by decide +kernel) w)
  | 8,h=>exact (cZ 37 0 (by decide +kernel) w)
  | 9,h=>exact (cZ 38 1 (by decide +kernel) w)
  | 10,h=>exact (cZ 46 1 (by decide +kernel) w)
  | 11,h=>exact (cZ 51 0 (by decide +kernel) w)
  | 12,h=>exact (cZ 52 1 (by decide +kernel) w)
  | 13,h=>exact (cZ 54 0 (by decide +kernel) w)
  | i+14,h=>exact absurd h (by simp [rE])
theorem EZ (w:World):Calls Tryz.prog 103 #[.string bY] w fun e w'=>∃ v,e=.returned (.tuple #[v,.int .i64 0,.int .i64 0])∧oY w' w.heap.size v rE∧Below w w w':=
 Ct bY rE Im Io w (by decide +kernel) aj BS
theorem aK {w:World} {R:Nat} {f:Array Value} {t:TypeId} (h:w.heap[R]?=some (.cells f t (0,0))) (i:Nat) (v:Value):(w.setCell ⟨R,i,none⟩ v).heap[R]?=some (.cells (f.setIfInBounds i v) t (0,0)):=by
 simp [World.setCell,Array.getElem?_modify,h]
theorem qj (R b:Nat) (x:Value) (f n d:Int) (s:ByteArray) (w:World) (N:Nat) (J:N≤R) (F:w.heap[R]?=some (.cells #[.pointer (some ⟨b,0,none⟩),x,d] 198 (0,0))) :
  Calls Tryz.prog 104 #[.pointer (some ⟨R,0,none⟩),ck 1 f n s] w fun e w'=>e=.returned (.int .i64 0)∧Below N w w'∧∃ g,w.heap.size≤g ∧
   w'.heap[g]?=some (.cells #[.string s,f,.slice none 0 0,.bool false,.slice none 0 0,.pointer (some ⟨b,0,none⟩)] 195 (0,0)) ∧
   w'.heap[R]?=some (.cells #[.pointer (some ⟨b,0,none⟩),.pointer (some ⟨g,0,none⟩),d] 198 (0,0))∧∀ j,j<w.heap.size→j≠R→w'.heap[j]?=w.heap[j]?:=by
 have Y:R<w.heap.size:=(Array.getElem?_eq_some_iff.1 F).1;have W:N≤w.heap.size:=om;have O:w.cell? ⟨R,0,none⟩=some (.pointer (some ⟨b,0,none⟩)):=by simp [World.cell?,F]
 have U:w.cell? ⟨R,1,none⟩=some x:=by simp [World.cell?,F]
 have V:w.frozen? ⟨R,1,none⟩=false:=by simp [World.frozen?,F]
 have I:=hide F;clear F;go_enter Tryz.func104,Tryz.ntmps104;go_wp2_with fail;go_region;go_simp;go_wp2;go_ret;have H:∀ v:Value,(w.setCell ⟨R,1,none⟩ v).heap.size=w.heap.size:=fun v=>by simp [World.setCell]
 have E:∀ (v:Value) (o:Obj),((w.setCell ⟨R,1,none⟩ v).alloc o).heap.size=w.heap.size+1:=fun v o=>by
  show ((w.setCell ⟨R,1,none⟩ v).heap.push o).size=_;rw [Array.size_push,H]
 refine ⟨rfl,by (repeat' exact bel),w.heap.size+1,by omega,?_,?_,fun j hj G=>?_⟩
 ·have h:=heap_alloc_new ((w.setCell ⟨R,1,none⟩ (.pointer (some ⟨w+1,0,none⟩))).alloc (.cells #[.int .i64 1,f,n,.string s] 200)) (.cells #[.string s,f,.slice none 0 0,.bool false,.slice none 0 0,.pointer (some ⟨b,0,none⟩)] 195)
  rw [E] at h;exact h
 ·refine (Below.heap_alloc _ _ R (by rw [E];omega)).trans ((Below.heap_alloc _ _ R (by rw [H];omega)).trans ?_)
  exact aK I.out 1 _
 ·refine (Below.heap_alloc _ _ j (by rw [E];omega)).trans ((Below.heap_alloc _ _ j (by rw [H];omega)).trans ?_)
  exact Below.heap_setCell _ _ _ j G
theorem uY (R g:Nat) (b:Option Addr) (J n d:Int) (s:ByteArray) (V F ws U I:Value) (w:World) (hd:0≤d∧d<6) (H:R≠g) (N:Nat) (aa:N≤R) (ab:N≤g)
  (o:w.heap[R]?=some (.cells #[.pointer b,.pointer (some ⟨g,0,none⟩),d] 198 (0,0)))
  (G:w.heap[g]?=some (.cells #[V,F,ws,.bool false,U,I] 195 (0,0))) :
  Calls Tryz.prog 105 #[.pointer (some ⟨R,0,none⟩),ck 3 J n s] w fun e w'=>e=.returned (.int .i64 0)∧Below N w w' ∧
   w'.heap[g]?=some (.cells #[V,F,ws,.bool true,U,I] 195 (0,0)) ∧
   w'.heap[R]?=some (.cells #[.pointer (some ⟨g,0,none⟩),.pointer none,.int .i64 (d+1)] 198 (0,0))∧∀ j,j<w.heap.size→j≠R→j≠g→w'.heap[j]?=w.heap[j]?:=by
 have hR:R<w.heap.size:=(Array.getElem?_eq_some_iff.1 o).1;have hN:N≤w.heap.size:=om;have hg:g<w.heap.size:=(Array.getElem?_eq_some_iff.1 G).1;have c0:w.cell? ⟨R,0,none⟩=some (.pointer b):=by simp [World.cell?,o]
 have c1:w.cell? ⟨R,1,none⟩=some (.pointer (some ⟨g,0,none⟩)):=by simp [World.cell?,o]
 have c2:w.cell? ⟨R,2,none⟩=some (.int .i64 d):=by simp [World.cell?,o]
 have f0:w.frozen? ⟨R,0,none⟩=false:=by simp [World.frozen?,o]
 have f1:w.frozen? ⟨R,1,none⟩=false:=by simp [World.frozen?,o]
 have f2:w.frozen? ⟨R,2,none⟩=false:=by simp [World.frozen?,o]
 have g3:w.cell? ⟨g,3,none⟩=some (.bool false):=by simp [World.cell?,G]
 have k3:w.frozen? ⟨g,3,none⟩=false:=by simp [World.frozen?,G]
 have ac:(d==6)=false:=ag;have ad:IntKind.i64.wrap (d+1)=d+1:=by simp [IntKind.wrap,IntKind.bits,IntKind.signed];omega
 have Y:=hide o;have H1:=hide G;have E:g≠R:=fun h=>H h.symm
 clear o G;go_enter Tryz.func105,Tryz.ntmps105;go_wp2_with fail;go_ret;have f:∀ (W:World) (a:Addr) (v:Value),(W.setCell a v).heap.size=W.heap.size:=fun W a v=>by simp [World.setCell]
 refine ⟨rfl,?_,?_,?_,fun j hj O n2=>?_⟩
 ·(repeat' exact bel)
 ·refine (Below.heap_alloc _ _ g (by rw [f,f,f,f];exact hg)).trans ?_
  rw [Below.heap_setCell _ _ _ g E,Below.heap_setCell _ _ _ g E];exact aK ((Below.heap_setCell _ _ _ g E).trans H1.out) 3 _
 ·refine (Below.heap_alloc _ _ R (by rw [f,f,f,f];exact hR)).trans ?_
  have h2:=aK Y.out 2 (.int .i64 (d+1));have h3:=(Below.heap_setCell (w.setCell ⟨R,2,none⟩ (.int .i64 (d+1))) ⟨g,3,none⟩ (.bool true) R H).trans h2;exact aK (aK h3 0 (.pointer (some ⟨g,0,none⟩))) 1 (.pointer none)
 ·refine (Below.heap_alloc _ _ j (by rw [f,f,f,f];exact hj)).trans ?_
  rw [Below.heap_setCell _ _ _ j O,Below.heap_setCell _ _ _ j O,Below.heap_setCell _ _ _ j n2,Below.heap_setCell _ _ _ j O]
def qs (T:TypeId) (w w':World):Prop:=w.heap.size≤w'.heap.size∧∀ (B:Nat) (f:Array Value) (t:TypeId),t≠T→w.heap[B]?=some (.cells f t (0,0))→w'.heap[B]?=some (.cells f t (0,0))
theorem qs.grown {f:Nat} {T:TypeId} {sz:Nat} {v:Value} {n:Nat} {U:List Value} {w w':World} (h:w.ownsRow f T sz v n U) (H:w.grownBy w' v.ownBlock):qs T w w':=by
 refine ⟨H.size,fun B V t O o=>(H.block B (Array.getElem?_eq_some_iff.1 o).1 (fun e=>?_)).trans o⟩;rcases h.2 with ⟨E,_⟩ | ⟨J,G,I,E,_,F,_⟩
 ·rw [E] at e;simp [Value.ownBlock] at e
 ·rw [E] at e
  obtain rfl:B=J:=by simpa [Value.ownBlock] using e
  rw [F] at o;cases o;exact O rfl
theorem aO {f:Nat} {T:TypeId} {sz:Nat} {v:Value} {n:Nat} {H:List Value} {w w':World} (h:w.ownsRow f T sz v n H) (U:Below w w w'):w'.ownsRow f T sz v n H:=by
 refine ⟨h.1,?_⟩;rcases h.2 with I | ⟨G,o,F,V,J,E,O⟩
 ·exact .inl I
 ·exact .inr ⟨G,o,F,V,J,(U.block G (Array.getElem?_eq_some_iff.1 E).1).trans E,O⟩
theorem iY {b E:Nat} {T:TypeId} {sz:Nat} {v:Value} {n:Nat} {F:List Value} {w:World} (h:w.ownsRow b T sz v n F) (O:E≤b):w.ownsRow E T sz v n F:=by
 refine ⟨h.1,?_⟩;rcases h.2 with H | ⟨G,f,o,U,I,J⟩
 ·exact .inl H
 ·exact .inr ⟨G,f,o,U,Nat.le_trans O I,J⟩
theorem bf {b:Nat} {T:TypeId} {sz:Nat} {v:Value} {n:Nat} {F:List Value} {w:World} (h:w.ownsRow b T sz v n F) (W:0<n) :
  ∃ g cap,v=.slice (some ⟨g,0,none⟩) n cap∧b≤g∧g<w.heap.size∧(∀ j u,F[j]?=some u→w.cell? ⟨g,j,none⟩=some u):=by
 rcases h.2 with ⟨_,V⟩ | ⟨g,cap,G,O,H,E,U,I,J,o⟩
 ·omega
 ·refine ⟨g,cap,O,H,(Array.getElem?_eq_some_iff.1 E).1,fun j u f=>?_⟩
  rw [← o,List.getElem?_take] at f
  split at f
  ·simp [World.cell?,E]
   simpa using f
  ·cases f
theorem dN {b:Nat} {T:TypeId} {sz:Nat} {v:Value} {n:Nat} {H:List Value} {w:World} (h:w.ownsRow b T sz v n H):∃ f cap,v=.slice f n cap:=by
 rcases h.2 with ⟨E,F⟩ | ⟨g,cap,o,G,_⟩
 ·exact ⟨none,0,by rw [E,F]⟩
 ·exact ⟨_,_,G⟩
theorem eV {J:Array Oper} {o:Oper} {a:Act} {K:Act→World→Prop} {Q:Exit→Act→World→Prop} {E:Prop} (w:World) (U:o.guard=none) (s x:Operand) (S T:TypeId)
  (ho:o.op=.call { callee:=.builtin .append,args:=#[s,x],argTypes:=#[S,S] }) (z:Value) (sz I:Nat)
  (hi:(Tryz.prog.info? T).map (fun i=>(i.zero,i.size,i.bytes))=some (some z,sz,I)) (hu:Tryz.prog.underlying S=some (.slice T)) (ac:z.cells.size=sz) (ab:0<sz) (O:I≤1000)
  (f:Nat) (v:Value) (n:Nat) (xs:List Value) (hs:a.eval s=v) (H:w.ownsRow f T sz v n xs) (g:Nat) (F:List Value) (hx:a.eval x=.slice (some ⟨g,0,none⟩) 1 1)
  (hl:F.length=sz) (hB:∀ j u,F[j]?=some u→w.cell? ⟨g,j,none⟩=some u) (h1:∀ u∈F,u.oneCell'=true) (hn:n≤100000) (G:f≤w.heap.size)
  (h:∀ v' w',w'.ownsRow f T sz v' (n+1) (xs++F)→Below f w w'→qs T w w'→K (a.put o.dst v') w'):if Region.wanted o (yielded J a.tmps)=true then Oper.wp Tryz.prog o a w K Q else E:=by
 have hw:Region.wanted o (yielded J a.tmps)=true:=by simp [Region.wanted,U]
 rw [if_pos hw];obtain ⟨i0,hi,V,W,Y⟩:=info_parts hi;refine wp_append_own w s x S ho f T i0 z sz I hu hi V W Y ac ab v n xs hs H ⟨g,0,none⟩ 1 1 F hx om (fun j u hj=>by have h:=hB j u hj;by_cases h0:j=0 <;> simpa [Addr.add,h0] using h) h1 (by unfold maxLen;omega) ?_ G ?_
 ·exact Nat.le_trans (Nat.mul_le_mul (show n+1≤100001 by omega) O) aj
 ·intro v' w' aa hg _
  exact h v' w' aa ((Below.refl f w).grown hg G fun k hk=>(H.lt k hk).1) (qs.grown H hg)
theorem lX:(Tryz.prog.info? 204).map (fun i=>(i.zero,i.size,i.bytes))=some (some (.agg #[.bool false,.int .i64 0,.string ⟨#[]⟩,.int .i64 0]),4,40):=by kernel_rfl
theorem lT:(Tryz.prog.info? 154).map (fun i=>(i.zero,i.size,i.bytes))=some (some (.agg #[.string ⟨#[]⟩,.int .i64 0,.slice none 0 0,.bool false,.slice none 0 0]),5,80):=by kernel_rfl
end
end Go.Proofs.YtpebkobmhhnojaaGreatDoor
