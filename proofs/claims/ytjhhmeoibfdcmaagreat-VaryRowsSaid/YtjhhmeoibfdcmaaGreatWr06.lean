/- Lemmas. -/
import Derived.Test.YtjhhmeoibfdcmaaGreatWr01
import Derived.Test.YtjhhmeoibfdcmaaGreatWr02
import Derived.Test.YtjhhmeoibfdcmaaGreatWr05
set_option linter.unusedSimpArgs false
set_option linter.unusedVariables false
set_option maxRecDepth 100000
set_option maxHeartbeats 12800000
namespace Go.Proofs.YtjhhmeoibfdcmaaGreat
section
open Go.RowKit
def bf (w:World) (g:Nat) (f:List Int):Prop:=w.heap[g]?=some (.cells (f.map (Value.int .i64)).toArray 3 (0,0))
theorem bf.lt {w:World} {g:Nat} {f:List Int} (h:bf w g f):g<w.heap.size:=(Array.getElem?_eq_some_iff.1 h).1
theorem bf.cell {w:World} {g:Nat} {f:List Int} (h:bf w g f) {k:Nat} (o:k<f.length):w.cell? ⟨g,k,none⟩=some (.int .i64 (f[k]?.getD 0)):=by
 rw [cell_of_row w g k _ _ _ h];simp [o]
theorem bf.frozen {w:World} {g:Nat} {f:List Int} (h:bf w g f) (k:Nat):w.frozen? ⟨g,k,none⟩=false:=by
 unfold bf at h;simp [World.frozen?,h]
theorem bf.below {w f:World} {K g:Nat} {o:List Int} (h:bf w g o) (E:Below K w f) (F:g<K):bf f g o:=(E.block g F).trans h
theorem bf.call {w f:World} {g:Nat} {o:List Int} (h:bf w g o) (E:Below w w f):bf f g o:=h.below E h.lt
theorem bf.alloc {w:World} {g:Nat} {f:List Int} (h:bf w g f) (o:Obj):bf (w.alloc o) g f:=(Below.heap_alloc w o g h.lt).trans h
theorem bf.far {w:World} {g:Nat} {f:List Int} (h:bf w g f) {p:Addr} (o:g≠p.block) (u:Value):bf (w.setCell p u) g f:=(Below.heap_setCell w p u g o).trans h
theorem bf.set {w:World} {g:Nat} {f:List Int} (h:bf w g f) (k:Nat) (v:Int):bf (w.setCell ⟨g,k,none⟩ (.int .i64 v)) g (f.set k v):=by
 unfold bf at h ⊢;simp [World.setCell,Array.getElem?_modify,h,List.map_set]
def fp (n:Nat):Obj:=.cells (List.replicate n (Value.int .i64 0)).toArray 3
theorem bf.new (w:World) (n:Nat):bf (w.alloc (fp n)) w.heap.size (List.replicate n 0):=by
 unfold bf fp;rw [heap_alloc_new];simp
theorem jR (n:Nat) (J:n≤100000) (w:World):(Instr.makeSlice 94 (.int .i64 (n:Int)) (.int .i64 (n:Int))).run Tryz.prog w=.ok (.slice (some ⟨w,0,none⟩) n n) (w.alloc (fp n)):=by
 have E:(Tryz.prog.info? 3).map (fun i=>(i.zero,i.size,i.bytes))=some (some (.int .i64 0),1,8):=by kernel_rfl
 obtain ⟨G,hi,f,h,o⟩:=info_parts E;have F:=run_make (P:=Tryz.prog) w 94 3 G (.int .i64 0) Tryz.underlying94 hi f .i64 .i64 n n om om (by rw [o];omega) om;rw [F,h];have e:madeCells (Value.int .i64 0).cells (((n:Int)).toNat*1)=(List.replicate n (Value.int .i64 0)).toArray:=by
  apply Array.ext
  ·simp [madeCells]
  ·intro i H I
   simp [madeCells,Value.cells,Nat.mod_one]
 rw [e];simp [fp]
theorem Ab (w:World):(Instr.makeSlice 94 (.int .i64 12) (.int .i64 12)).run Tryz.prog w=.ok (.slice (some ⟨w,0,none⟩) 12 12) (w.alloc (fp 12)):=jR 12 om w
def kq (n k:Nat) (f:Nat→Int):List Int:=(List.range n).map fun i=>if i<k then f i else 0
theorem kN (n k:Nat) (f:Nat→Int):(kq n k f).length=n:=by simp [kq]
theorem iA (n:Nat) (f:Nat→Int):kq n 0 f=List.replicate n 0:=by
 apply List.ext_getElem
 ·simp [kq]
 ·intro i h o;simp [kq]
theorem fM (n k:Nat) (f:Nat→Int):(kq n k f).set k (f k)=kq n (k+1) f:=by
 apply List.ext_getElem
 ·simp [kq]
 ·intro i E F
  simp [kq,List.getElem_set];by_cases h:k=i
  ·subst h;simp
  ·rw [if_neg h]
   by_cases o:i<k
   ·rw [if_pos o,if_pos om]
   ·rw [if_neg o,if_neg om]
theorem iz (n:Nat) (f:Nat→Int):kq n n f=(List.range n).map f:=by
 unfold kq;apply List.map_congr_left;intro i hi;rw [if_pos (by simpa using hi)]
end
section
open Go.RowKit Qd
theorem eM (c:ar) (h:c.okB=true):12≤cj c∧cj c≤52:=by
 have E:c.Ok:=by simpa [ar.okB] using h
 have:cj c=bC c.shape c.cycle:=by simp [cj,h]
 rw [this];obtain ⟨_,_,_,o⟩:=E;have F:(52:Int) / 1=52:=by decide
 have G:(52:Int) / 2=26:=by decide
 have H:(52:Int) / 4=13:=by decide
 unfold bC;simp only [ar.ruled,ar.weeks,dB,ar.pat0] at o
 split
 ·omega
 ·split
  ·rcases o with h | h | h | h | h
   ·omega
   ·omega
   ·have f:c.cycle=1∨c.cycle=2∨c.cycle=4:=om
    rcases f with f | f | f <;> rw [f] <;> omega
   ·have f:c.cycle=1∨c.cycle=2∨c.cycle=4:=om
    rcases f with f | f | f <;> rw [f] <;> omega
   ·omega
  ·split
   ·omega
   ·omega
def ri (c:ar) (p:Int):Bool:=c.okB&&decide (1≤p)&&decide (p≤cj c)
def qV (c:ar) (p:Int):Int:=if ri c p then (4*p+cj c-1) / cj c else 0
def qE (c:ar) (p:Int):Int:=if ri c p then 0 else 1
abbrev aC (u:Un):Value:=.agg #[u.lv,u.yr,u.ix]
abbrev bI (s:Sp):Value:=.agg #[s.a,s.b]
end
section
open Go.RowKit
def Aj (b:Bool) (D:List Int):List Value:=.bool b::D.map (Value.int .u64)
def bn (w:World) (B:Nat) (b:Bool) (D:List Int):Prop:=w.heap[B]?=some (.cells (Aj b D).toArray 212 (0,0))
theorem bn.lt {w:World} {B:Nat} {b:Bool} {D:List Int} (h:bn w B b D):B<w.heap.size:=(Array.getElem?_eq_some_iff.1 h).1
theorem bn.sign {w:World} {B:Nat} {b:Bool} {D:List Int} (h:bn w B b D):w.cell? ⟨B,0,none⟩=some (.bool b):=by
 rw [cell_of_row w B 0 _ _ _ h];simp [Aj]
theorem bn.cell {w:World} {B:Nat} {b:Bool} {D:List Int} (h:bn w B b D) {k:Nat} {x:Int} (f:D[k]?=some x):w.cell? ⟨B,1+k,none⟩=some (.int .u64 x):=by
 rw [cell_of_row w B (1+k) _ _ _ h,Nat.add_comm];simp [Aj,f]
theorem bn.frozen {w:World} {B:Nat} {b:Bool} {D:List Int} (h:bn w B b D) (k:Nat):w.frozen? ⟨B,k,none⟩=false:=by
 unfold bn at h;simp [World.frozen?,h]
theorem bn.below {w f:World} {K B:Nat} {b:Bool} {D:List Int} (h:bn w B b D) (o:Below K w f) (E:B<K):bn f B b D:=(o.block B E).trans h
theorem bn.call {w f:World} {B:Nat} {b:Bool} {D:List Int} (h:bn w B b D) (o:Below w w f):bn f B b D:=h.below o h.lt
theorem bn.far {w:World} {B:Nat} {b:Bool} {D:List Int} (h:bn w B b D) {p:Addr} (f:B≠p.block) (u:Value):bn (w.setCell p u) B b D:=(Below.heap_setCell w p u B f).trans h
theorem bn.set {w:World} {B:Nat} {b:Bool} {D:List Int} (h:bn w B b D) (k:Nat) (v:Int):bn (w.setCell ⟨B,1+k,none⟩ (.int .u64 v)) B b (D.set k v):=by
 unfold bn at h ⊢;rw [Nat.add_comm 1 k];simp [World.setCell,Array.getElem?_modify,h,Aj,List.map_set]
theorem bn.new (w:World) (b:Bool) (D:List Int):bn (w.alloc (.cells (Aj b D).toArray 212)) w.heap.size b D:=heap_alloc_new w _
def ga (N:Nat):List Int:=[(dg N 0:Int),(dg N 1:Int),(dg N 2:Int),(dg N 3:Int),(dg N 4:Int),(dg N 5:Int),(dg N 6:Int),(dg N 7:Int)]
theorem im {N i:Nat} (h:i<8):(ga N)[i]?=some (dg N i:Int):=by
 match i,h with
 | 0,_ | 1,_ | 2,_ | 3,_ | 4,_ | 5,_ | 6,_ | 7,_=>rfl
abbrev JQ (N:Nat):Value:=.agg #[.int .u64 (dg N 0:Int),.int .u64 (dg N 1:Int),.int .u64 (dg N 2:Int),.int .u64 (dg N 3:Int),.int .u64 (dg N 4:Int),.int .u64 (dg N 5:Int),.int .u64 (dg N 6:Int),.int .u64 (dg N 7:Int)]
abbrev cU (b:Bool) (N:Nat):Value:=.agg #[.bool b,.int .u64 (dg N 0:Int),.int .u64 (dg N 1:Int),.int .u64 (dg N 2:Int),.int .u64 (dg N 3:Int),.int .u64 (dg N 4:Int),.int .u64 (dg N 5:Int),.int .u64 (dg N 6:Int),.int .u64 (dg N 7:Int)]
def Cb (L H j:Nat):List Int:=(List.range 8).map fun i=>if i<4 then (if i<j then (dg L i:Int) else 0) else (if i-4<j then (dg H (i-4):Int) else 0)
theorem Cf {L H j:Nat} (h:j<4):((Cb L H j).set j (dg L j:Int)).set (4+j) (dg H j:Int)=Cb L H (j+1):=by
 match j,h with
 | 0,_ | 1,_ | 2,_ | 3,_=>rfl
theorem FD {L H:Nat} (f:L<18446744073709551616):Cb L H 4=ga (H*18446744073709551616+L):=by
 unfold ga;rw [pO ag,pO ag,pO ag,pO ag,show (4:Nat)=4+0 from rfl,show (5:Nat)=4+1 from rfl,show (6:Nat)=4+2 from rfl,show (7:Nat)=4+3 from rfl,my f,my f,my f,my f];rfl
theorem Dg (L j:Nat):((L / 65536 ^ j:Nat):Int) % 65536=(dg L j:Int):=by unfold dg;omega
theorem Fq (L j:Nat):((L / 65536 ^ j:Nat):Int) / 65536=((L / 65536 ^ (j+1):Nat):Int):=by rw [mD];omega
theorem bn.nine {w:World} {B:Nat} {b:Bool} {f o E F G H I J:Int} (h:bn w B b [f,o,E,F,G,H,I,J]):(w.cell? ⟨B,0,none⟩=some (.bool b)∧w.cell? ⟨B,1,none⟩=some (.int .u64 f)∧w.cell? ⟨B,2,none⟩=some (.int .u64 o)∧w.cell? ⟨B,3,none⟩=some (.int .u64 E)∧w.cell? ⟨B,4,none⟩=some (.int .u64 F)∧w.cell? ⟨B,5,none⟩=some (.int .u64 G)∧w.cell? ⟨B,6,none⟩=some (.int .u64 H)∧w.cell? ⟨B,7,none⟩=some (.int .u64 I)∧w.cell? ⟨B,8,none⟩=some (.int .u64 J))∧(w.frozen? ⟨B,0,none⟩=false∧w.frozen? ⟨B,1,none⟩=false∧w.frozen? ⟨B,2,none⟩=false∧w.frozen? ⟨B,3,none⟩=false∧w.frozen? ⟨B,4,none⟩=false∧w.frozen? ⟨B,5,none⟩=false∧w.frozen? ⟨B,6,none⟩=false∧w.frozen? ⟨B,7,none⟩=false∧w.frozen? ⟨B,8,none⟩=false)∧B<w.heap.size:=
 ⟨⟨h.sign,h.cell (k:=0) rfl,h.cell (k:=1) rfl,h.cell (k:=2) rfl,h.cell (k:=3) rfl,h.cell (k:=4) rfl,h.cell (k:=5) rfl,h.cell (k:=6) rfl,h.cell (k:=7) rfl⟩,⟨h.frozen 0,h.frozen 1,h.frozen 2,h.frozen 3,h.frozen 4,h.frozen 5,h.frozen 6,h.frozen 7,h.frozen 8⟩,h.lt⟩
abbrev rb:List Int:=[0,0,0,0,0,0,0,0]
abbrev nD (b:Bool):Obj:=.cells #[.bool b,.int .u64 0,.int .u64 0,.int .u64 0,.int .u64 0,.int .u64 0,.int .u64 0,.int .u64 0,.int .u64 0] 212
theorem bn.zero (w:World) (b:Bool):bn (w.alloc (nD b)) w.heap.size b rb:=bn.new w b rb
theorem bn.zero2 (w:World) (b c:Bool):bn ((w.alloc (nD b)).alloc (nD c)) w.heap.size b rb∧bn ((w.alloc (nD b)).alloc (nD c)) (w.heap.size+1) c rb:=
 ⟨(bn.zero w b).call ((Below.refl _ _).alloc (Nat.le_refl _) _),by simpa using bn.zero (w.alloc (nD b)) c⟩
theorem xX (b:Bool) (H L N:Nat) (w:World) (hH:Hid (H<18446744073709551616)) (R:Hid (L<18446744073709551616)) (hN:Hid (H*18446744073709551616+L=N)) :
    Calls Tryz.prog 175 #[.bool b,.int .u64 H,.int .u64 L] w fun e w'=>e=.returned (cU b N)∧Below w w w':=by
  go_enter Tryz.func175,Tryz.ntmps175;go_wp2_with fail;go_loopw [1,2,11] (fun s1 s2 s wr=>∃ j:Nat,s1=.int .u64 ((H / 65536 ^ j:Nat):Int)∧s2=.int .u64 ((L / 65536 ^ j:Nat):Int)∧s=.int .i64 j∧j≤4∧bn wr w.heap.size false rb∧bn wr (w.heap.size+1) b (Cb L H j)∧Below w w wr) (fun _ _ s _=>(5-intOf s).toNat)
  case atStart=>exact ⟨0,by simp,by simp,rfl,by omega,(bn.zero2 w false b).1,(bn.zero2 w false b).2,by (repeat' exact bel)⟩
  case round =>
    obtain ⟨j,rfl,rfl,rfl,hj,S,f,O⟩:=hrel;have G:=hide S;have o:=hide f;have aq:=f.lt;clear S f;rcases (show j=4∨j<4 by omega) with rfl | h
    · have f:=o.out
      rw [FD R.out,hN.out] at f;obtain ⟨⟨a0,a1,a2,a3,a4,a5,a6,a7,a8⟩,_,_⟩:=bn.nine f;obtain ⟨⟨r0,r1,r2,r3,r4,r5,r6,r7,r8⟩,⟨f0,I,J,f3,f4,f5,f6,f7,f8⟩,hz⟩:=bn.nine G.out;clear f;obtain ⟨X1,E⟩:∃ X,((H / 65536 ^ 4:Nat):Int)=X:=⟨_,rfl⟩;obtain ⟨X2,F⟩:∃ X,((L / 65536 ^ 4:Nat):Int)=X:=⟨_,rfl⟩;rw [E,F];clear E F;go_wp2;refine bodyPost_ret (v:=cU b N) (by simp (maxDischargeDepth:=9) [results,Tryz.results175,go_sem,r0,r1,r2,r3,r4,r5,r6,r7,r8,f0,I,J,f3,f4,f5,f6,f7,f8,hz]) rfl ⟨rfl,by (repeat' exact bel)⟩
    · have c1 := o.out.cell (k := j) (x := 0) (by
        match j,h with
        | 0,_ | 1,_ | 2,_ | 3,_=>simp [Cb,List.range,List.range.loop])
      have c2:=o.out.cell (k:=4+j) (x:=0) (by
        match j,h with
        | 0,_ | 1,_ | 2,_ | 3,_=>simp [Cb,List.range,List.range.loop])
      have I:=o.out.frozen (1+j);have J:=o.out.frozen (1+(4+j));have T:=hide (Dg L j);have U:=hide (Dg H j);have V:=hide (Fq L j);have W:=hide (Fq H j);have ab:((L / 65536 ^ j:Nat):Int)<18446744073709551616:=by have:=Nat.div_le_self L (65536 ^ j);have:=R.out;omega
      have ad:((H / 65536 ^ j:Nat):Int)<18446744073709551616:=by have:=Nat.div_le_self H (65536 ^ j);have:=hH.out;omega
      have ah:0≤((L / 65536 ^ j:Nat):Int):=Int.natCast_nonneg _;have al:0≤((H / 65536 ^ j:Nat):Int):=Int.natCast_nonneg _;generalize ((L / 65536 ^ j:Nat):Int)=X1 at *;generalize ((H / 65536 ^ j:Nat):Int)=X2 at *;go_wp2;go_roundw
      case rel=>exact ⟨j+1,by rw [W.out],by rw [V.out],by go_num,by omega,(G.out.far ac _).far ac _,by rw [T.out,U.out,← Cf h];exact (o.out.set j _).set (4+j) _,by (repeat' exact bel)⟩
      case measure=>simp [intOf];omega
theorem fU (b:Bool) (N H L:Nat) (w:World) (I:Hid (H<18446744073709551616)) (F:Hid (L<18446744073709551616)) (J:Hid (H*18446744073709551616+L=N)) :
  Calls Tryz.prog 177 #[cU b N] w fun e w'=>e=.returned (.tuple #[.int .u64 H,.int .u64 L])∧Below w w w':=by
 have S:=hide (show bn (w.alloc (.cells #[.bool b,.int .u64 (dg N 0:Int),.int .u64 (dg N 1:Int),.int .u64 (dg N 2:Int),.int .u64 (dg N 3:Int),.int .u64 (dg N 4:Int),.int .u64 (dg N 5:Int),.int .u64 (dg N 6:Int),.int .u64 (dg N 7:Int)] 212)) w.heap.size b (ga N) from bn.new w b (ga N));go_enter Tryz.func177,Tryz.ntmps177;go_wp2_with fail;go_loopw [4,5,6] (fun s4 s5 s wr=>∃ j:Nat,s4=.int .u64 ((H / 65536 ^ j:Nat):Int)∧s5=.int .u64 ((L / 65536 ^ j:Nat):Int)∧s=.int .i64 ((j:Int)-1)∧j≤4∧bn wr w.heap.size b (ga N)∧Below w w wr) (fun _ _ s _=>(intOf s+1).toNat)
 case atStart=>exact ⟨4,by rw [Nat.div_eq_of_lt (show H<65536 ^ 4 from I.out)];rfl,by rw [Nat.div_eq_of_lt (show L<65536 ^ 4 from F.out)];rfl,rfl,by omega,S.out,by (repeat' exact bel)⟩
 case round =>
  obtain ⟨j,rfl,rfl,rfl,hj,E,G⟩:=hrel;have o:=hide E;have ab:=E.lt;clear E;rcases Nat.eq_zero_or_pos j with rfl | W
  ·have T:=hide (show ((H / 65536 ^ 0:Nat):Int)=H∧((L / 65536 ^ 0:Nat):Int)=L by simp)
   generalize ((L / 65536 ^ 0:Nat):Int)=U at *;generalize ((H / 65536 ^ 0:Nat):Int)=V at *;go_wp2;go_ret2;exact ⟨by simp;exact T.out,by (repeat' exact bel)⟩
  ·obtain ⟨i,rfl⟩:∃ i,j=i+1:=⟨j-1,by omega⟩
   have hi:i<4:=om;have c1:=o.out.cell (k:=i) (x:=(dg L i:Int)) (by rw [im om,← J.out,pO hi]);have c2:=o.out.cell (k:=4+i) (x:=(dg H i:Int)) (by rw [im om,← J.out,my F.out]);have f:=hide (iG L i);have h:=hide (iG H i);have h1:((L / 65536 ^ (i+1):Nat):Int)*65536+(dg L i:Int)<18446744073709551616:=by have:=Nat.div_le_self L (65536 ^ i);have:=F.out;have:=f.out;omega
   have h2:((H / 65536 ^ (i+1):Nat):Int)*65536+(dg H i:Int)<18446744073709551616:=by have:=Nat.div_le_self H (65536 ^ i);have:=I.out;have:=h.out;omega
   have O:=hide (show ((L / 65536 ^ (i+1):Nat):Int)*65536+(dg L i:Int)=((L / 65536 ^ i:Nat):Int) by have:=f.out;omega);have R:=hide (show ((H / 65536 ^ (i+1):Nat):Int)*65536+(dg H i:Int)=((H / 65536 ^ i:Nat):Int) by have:=h.out;omega);have h3:0≤((L / 65536 ^ (i+1):Nat):Int):=Int.natCast_nonneg _;have h4:0≤((H / 65536 ^ (i+1):Nat):Int):=Int.natCast_nonneg _;have h5:0≤(dg L i:Int):=Int.natCast_nonneg _;have h6:0≤(dg H i:Int):=Int.natCast_nonneg _;clear f h;generalize ((L / 65536 ^ (i+1):Nat):Int)=U at *;generalize ((H / 65536 ^ (i+1):Nat):Int)=V at *;generalize (dg L i:Int)=D1 at *;generalize (dg H i:Int)=D2 at *;go_wp2;go_roundw
   case rel=>exact ⟨i,by rw [R.out],by rw [O.out],by go_num,by omega,o.out,by (repeat' exact bel)⟩
   case measure=>simp [intOf]
theorem tZ (b:Bool) (N:Nat) (w:World) (f:N<340282366920938463463374607431768211456) :
  Calls Tryz.prog 177 #[cU b N] w fun e h=>e=.returned (.tuple #[.int .u64 ((N / 18446744073709551616:Nat):Int),.int .u64 ((N % 18446744073709551616:Nat):Int)])∧Below w w h:=
 fU b N _ _ w (Nat.div_lt_of_lt_mul f) (Nat.mod_lt _ ag) (Nat.div_add_mod' _ _)
end
section
open Go.RowKit Qd
theorem kw (b:Int) (w:World) :
  Calls Tryz.prog 212 #[.int .u8 b] w fun e f=>e=.returned (.bool (gC b))∧w=f:=by
 go_enter Tryz.func212,Tryz.ntmps212;go_wp2
 all_goals (go_ret;refine ⟨aY ?_,rfl⟩;simp [gC];try omega)
theorem yw (b:Int) (w:World) :
  Calls Tryz.prog 232 #[.int .u8 b] w fun e f=>e=.returned (.bool (o9 b))∧w=f:=by
 go_enter Tryz.func232,Tryz.ntmps232;go_wp2
 all_goals (go_ret;refine ⟨aY ?_,rfl⟩;simp [o9];try omega)
theorem pZ (b:Int) (w:World) :
  Calls Tryz.prog 213 #[.int .u8 b] w fun e f=>e=.returned (.bool (gk b))∧w=f:=by
 go_enter Tryz.func213,Tryz.ntmps213;go_wp2_with (first | (go_at_call 212;refine (kw _ _).mono ?_;rintro e f ⟨rfl,rfl⟩) | (go_at_call 232;refine (yw _ _).mono ?_;rintro e f ⟨rfl,rfl⟩))
 all_goals (go_ret;refine ⟨aY ?_,rfl⟩;simp_all [gk];try rfl)
theorem bj (s:ByteArray) (w:World) (U:s.size≤1000) :
  Calls Tryz.prog 161 #[.string s] w fun e G=>e=.returned (.bool (bH s))∧w=G:=by
 by_cases I:0<s.size
 ·by_cases o:s.size≤16
  ·cases S:gC (s[0].toNat:Int)
   ·have f:=hide (show bH s=false by rw [lr s I,S];simp)
    go_enter Tryz.func161,Tryz.ntmps161;go_wp2_with (first | (go_at_call 212;refine (kw _ _).mono ?_;rintro e G ⟨rfl,rfl⟩))
    all_goals first
     | (exfalso;omega)
     | (go_ret;exact ⟨aY f.out.symm,rfl⟩)
   ·have f:=hide (show bH s=decide (kP s.data.toList=s.size) by rw [lr s I,S];simp [o])
    go_enter Tryz.func161,Tryz.ntmps161;go_wp2_with (first | (go_at_call 212;refine (kw _ _).mono ?_;rintro e G ⟨rfl,rfl⟩))
    all_goals first
     | (exfalso;omega)
     | skip
    go_loop [20] (fun n=>∃ k:Nat,k≤s.size∧n=.int .i64 k∧Hid (∀ j,(E:j<k)→(F:j<s.size)→gk (mn s[j])=true)) (fun n=>s.size-(intOf n).toNat)
    case atStart=>exact ⟨0,Nat.zero_le _,rfl,Lib.hid (fun j E=>by omega)⟩
    case round =>
     obtain ⟨k,T,rfl,H⟩:=hrel;by_cases R:k<s.size
     ·by_cases hi:gk (mn s[k])=true
      ·have J:=Lib.hid hi
       have O:gk (s[k].toNat:Int)=true:=hi;clear hi;go_wp2_with (go_at_call 213;refine (pZ _ _).mono ?_;rintro e G ⟨rfl,rfl⟩);go_round
       case rel=>exact ⟨k+1,by omega,by go_num,Lib.hid (fun j E F=>by
        rcases Nat.lt_or_ge j k with h | h
        ·exact H.out j h F
        ·obtain rfl:j=k:=om
         exact J.out)⟩
       case measure=>simp [intOf];omega
      ·have J:=Lib.hid hi
       have O:gk (s[k].toNat:Int)=false:=by simpa [mn] using hi
       clear hi;go_wp2_with (go_at_call 213;refine (pZ _ _).mono ?_;rintro e G ⟨rfl,rfl⟩);go_ret;refine ⟨aY ?_,rfl⟩;have:kP s.data.toList=k:=iM _ _ k (by rw [er];exact R) (fun j E=>H.out j E om) (by have:=J.out;simp only [Bool.not_eq_true] at this;exact this);rw [f.out,this];simp;omega
     ·go_wp2
      go_ret;refine ⟨aY ?_,rfl⟩;have:kP s.data.toList=s.data.toList.length:=jm _ _ (fun j E=>H.out j (by have:=er s;omega) (by have:=er s;omega));rw [f.out,this,er];simp
  ·have f:=hide (show bH s=false by rw [lr s I];simp [o])
   go_enter Tryz.func161,Tryz.ntmps161;go_wp2
   all_goals first
    | (exfalso;omega)
    | (go_ret;exact ⟨aY f.out.symm,rfl⟩)
 ·have f:=hide (vj s I)
  go_enter Tryz.func161,Tryz.ntmps161;go_wp2
  all_goals first
   | (exfalso;omega)
   | (go_ret;exact ⟨aY f.out.symm,rfl⟩)
def eR (c:ar):Int:=if c.shape=3∧c.cycle≤0 then 0 else bC c.shape c.cycle
theorem sw (c:ar) (w:World) :
  Calls Tryz.prog 163 #[av c] w fun e f=>e=.returned (.int .i64 (eR c))∧Below w w f:=by
 simp only [av];go_enter Tryz.func163,Tryz.ntmps163;go_wp2
 all_goals
  go_ret;refine ⟨aZ ?_,by (repeat' exact bel)⟩;simp_all [eR,bC]
 all_goals (try omega)
def aQ (c:ar):Prop:=
 (c.shape=1∧((c.p0=4∧c.p1=4∧c.p2=5)∨(c.p0=4∧c.p1=5∧c.p2=4)∨(c.p0=5∧c.p1=4∧c.p2=4))∧c.cycle=0)∨(c.shape=2∧(c.p0=0∧c.p1=0∧c.p2=0)∧c.cycle=0)∨(c.shape=3∧(c.p0=0∧c.p1=0∧c.p2=0)∧(c.cycle=1∨c.cycle=2∨c.cycle=4))
instance (c:ar):Decidable (aQ c):=by unfold aQ;infer_instance
theorem mT (c:ar):c.weeks↔aQ c∧1≤c.extra∧c.extra≤bC c.shape c.cycle:=by
 unfold ar.weeks dB aQ;exact Iff.rfl
theorem yg (c:ar) (w:World) :
  Calls Tryz.prog 162 #[av c] w fun e I=>e=.returned (.bool (decide (aQ c)))∧Below w w I:=by
 simp only [av];have H:c.shape=1∨c.shape=2∨c.shape=3∨(c.shape≠1∧c.shape≠2∧c.shape≠3):=om;cases O:(c.p0==0&&(c.p1==0&&c.p2==0)) <;> cases J:(c.cycle==0) <;> rcases H with h | h | h | ⟨h,G,f⟩
 all_goals
  first
   | (have F:(c.shape==1)=true:=by simp [h])
   | (have F:(c.shape==1)=false:=by simp [h])
  first
   | (have o:(c.shape==2)=true:=by simp [h])
   | (have o:(c.shape==2)=false:=by simp [h])
   | (have o:(c.shape==2)=false:=by simp [G])
  first
   | (have E:(c.shape==3)=true:=by simp [h])
   | (have E:(c.shape==3)=false:=by simp [h])
   | (have E:(c.shape==3)=false:=by simp [f])
  go_enter Tryz.func162,Tryz.ntmps162;go_wp2
 all_goals first
  | (go_ret;refine ⟨aY ?_,by (repeat' exact bel)⟩;simp_all [aQ];try omega;done)
  | skip
 all_goals (first | (rw [tI];done) | (simp only [tI];grind) | grind)
end
end Go.Proofs.YtjhhmeoibfdcmaaGreat
