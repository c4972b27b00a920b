/- The reference of layer 2: numbers put into digits, and back into words. The reference of layer 2: digits compared. Contracts of the references: names, calendars, first part. -/
import Derived.BigQuiet
import Derived.Test.YtjhhmeoibfdcmaaGreatUq03
import Derived.Test.YtjhhmeoibfdcmaaGreatUq18
set_option linter.unusedSimpArgs false
set_option linter.unusedVariables false
set_option maxRecDepth 100000
set_option maxHeartbeats 12800000
namespace Go.Proofs.YtjhhmeoibfdcmaaGreat
open Go.RowKit
def numC (b:Bool) (D:List Int):List Value:=.bool b::D.map (Value.int .u64)
def DgAt (w:World) (B:Nat) (b:Bool) (D:List Int):Prop:=w.heap[B]?=some (.cells (numC b D).toArray 212 (0,0))
theorem DgAt.lt {w:World} {B:Nat} {b:Bool} {D:List Int} (h:DgAt w B b D):B<w.heap.size:=(Array.getElem?_eq_some_iff.1 h).1
theorem DgAt.sign {w:World} {B:Nat} {b:Bool} {D:List Int} (h:DgAt w B b D):w.cell? ⟨B,0,none⟩=some (.bool b):=by
  rw [cell_of_row w B 0 _ _ _ h]
  simp [numC]
theorem DgAt.cell {w:World} {B:Nat} {b:Bool} {D:List Int} (h:DgAt w B b D) {k:Nat} {x:Int} (hk:D[k]?=some x):w.cell? ⟨B,1+k,none⟩=some (.int .u64 x):=by
  rw [cell_of_row w B (1+k) _ _ _ h,Nat.add_comm]
  simp [numC,hk]
theorem DgAt.frozen {w:World} {B:Nat} {b:Bool} {D:List Int} (h:DgAt w B b D) (k:Nat):w.frozen? ⟨B,k,none⟩=false:=by
  unfold DgAt at h
  simp [World.frozen?,h]
theorem DgAt.below {w w':World} {K B:Nat} {b:Bool} {D:List Int} (h:DgAt w B b D) (hb:Below K w w') (hg:B<K):DgAt w' B b D:=(hb.block B hg).trans h
theorem DgAt.call {w w':World} {B:Nat} {b:Bool} {D:List Int} (h:DgAt w B b D) (hb:Below w.heap.size w w'):DgAt w' B b D:=h.below hb h.lt
theorem DgAt.far {w:World} {B:Nat} {b:Bool} {D:List Int} (h:DgAt w B b D) {p:Addr} (hp:B≠p.block) (u:Value):DgAt (w.setCell p u) B b D:=(Below.heap_setCell w p u B hp).trans h
theorem DgAt.set {w:World} {B:Nat} {b:Bool} {D:List Int} (h:DgAt w B b D) (k:Nat) (v:Int):DgAt (w.setCell ⟨B,1+k,none⟩ (.int .u64 v)) B b (D.set k v):=by
  unfold DgAt at h ⊢
  rw [Nat.add_comm 1 k]
  simp [World.setCell,Array.getElem?_modify,h,numC,List.map_set]
theorem DgAt.new (w:World) (b:Bool) (D:List Int):DgAt (w.alloc (.cells (numC b D).toArray 212)) w.heap.size b D:=heap_alloc_new w _
def dgL (N:Nat):List Int:=[(dg N 0:Int),(dg N 1:Int),(dg N 2:Int),(dg N 3:Int),(dg N 4:Int),(dg N 5:Int),(dg N 6:Int),(dg N 7:Int)]
theorem dgL_get {N i:Nat} (h:i<8):(dgL N)[i]?=some (dg N i:Int):=by
  match i,h with
  | 0,_ | 1,_ | 2,_ | 3,_ | 4,_ | 5,_ | 6,_ | 7,_=>rfl
abbrev digV (N:Nat):Value:=.agg #[.int .u64 (dg N 0:Int),.int .u64 (dg N 1:Int),.int .u64 (dg N 2:Int),.int .u64 (dg N 3:Int),.int .u64 (dg N 4:Int),.int .u64 (dg N 5:Int),.int .u64 (dg N 6:Int),.int .u64 (dg N 7:Int)]
abbrev numV (b:Bool) (N:Nat):Value:=.agg #[.bool b,.int .u64 (dg N 0:Int),.int .u64 (dg N 1:Int),.int .u64 (dg N 2:Int),.int .u64 (dg N 3:Int),.int .u64 (dg N 4:Int),.int .u64 (dg N 5:Int),.int .u64 (dg N 6:Int),.int .u64 (dg N 7:Int)]
def putD (L H j:Nat):List Int:=(List.range 8).map fun i=>if i<4 then (if i<j then (dg L i:Int) else 0) else (if i-4<j then (dg H (i-4):Int) else 0)
theorem putD_step {L H j:Nat} (h:j<4):((putD L H j).set j (dg L j:Int)).set (4+j) (dg H j:Int)=putD L H (j+1):=by
  match j,h with
  | 0,_ | 1,_ | 2,_ | 3,_=>rfl
theorem putD_end {L H:Nat} (hL:L<18446744073709551616):putD L H 4=dgL (H*18446744073709551616+L):=by
  unfold dgL
  rw [dg_low (by decide),dg_low (by decide),dg_low (by decide),dg_low (by decide),show (4:Nat)=4+0 from rfl,show (5:Nat)=4+1 from rfl,show (6:Nat)=4+2 from rfl,show (7:Nat)=4+3 from rfl,dg_high hL,dg_high hL,dg_high hL,dg_high hL]
  rfl
theorem dg_rem (L j:Nat):((L / 65536 ^ j:Nat):Int) % 65536=(dg L j:Int):=by unfold dg;omega
theorem dg_quo (L j:Nat):((L / 65536 ^ j:Nat):Int) / 65536=((L / 65536 ^ (j+1):Nat):Int):=by rw [div_succ];omega
theorem DgAt.nine {w:World} {B:Nat} {b:Bool} {d0 d1 d2 d3 d4 d5 d6 d7:Int} (h:DgAt w B b [d0,d1,d2,d3,d4,d5,d6,d7]):(w.cell? ⟨B,0,none⟩=some (.bool b)∧w.cell? ⟨B,1,none⟩=some (.int .u64 d0)∧w.cell? ⟨B,2,none⟩=some (.int .u64 d1)∧w.cell? ⟨B,3,none⟩=some (.int .u64 d2)∧w.cell? ⟨B,4,none⟩=some (.int .u64 d3)∧w.cell? ⟨B,5,none⟩=some (.int .u64 d4)∧w.cell? ⟨B,6,none⟩=some (.int .u64 d5)∧w.cell? ⟨B,7,none⟩=some (.int .u64 d6)∧w.cell? ⟨B,8,none⟩=some (.int .u64 d7))∧(w.frozen? ⟨B,0,none⟩=false∧w.frozen? ⟨B,1,none⟩=false∧w.frozen? ⟨B,2,none⟩=false∧w.frozen? ⟨B,3,none⟩=false∧w.frozen? ⟨B,4,none⟩=false∧w.frozen? ⟨B,5,none⟩=false∧w.frozen? ⟨B,6,none⟩=false∧w.frozen? ⟨B,7,none⟩=false∧w.frozen? ⟨B,8,none⟩=false)∧B<w.heap.size:=
  ⟨⟨h.sign,h.cell (k:=0) rfl,h.cell (k:=1) rfl,h.cell (k:=2) rfl,h.cell (k:=3) rfl,h.cell (k:=4) rfl,h.cell (k:=5) rfl,h.cell (k:=6) rfl,h.cell (k:=7) rfl⟩,⟨h.frozen 0,h.frozen 1,h.frozen 2,h.frozen 3,h.frozen 4,h.frozen 5,h.frozen 6,h.frozen 7,h.frozen 8⟩,h.lt⟩
abbrev zer8:List Int:=[0,0,0,0,0,0,0,0]
abbrev zerO (b:Bool):Obj:=.cells #[.bool b,.int .u64 0,.int .u64 0,.int .u64 0,.int .u64 0,.int .u64 0,.int .u64 0,.int .u64 0,.int .u64 0] 212
theorem DgAt.zero (w:World) (b:Bool):DgAt (w.alloc (zerO b)) w.heap.size b zer8:=DgAt.new w b zer8
theorem DgAt.zero2 (w:World) (b c:Bool):DgAt ((w.alloc (zerO b)).alloc (zerO c)) w.heap.size b zer8∧DgAt ((w.alloc (zerO b)).alloc (zerO c)) (w.heap.size+1) c zer8:=
  ⟨(DgAt.zero w b).call ((Below.refl _ _).alloc (Nat.le_refl _) _),by simpa using DgAt.zero (w.alloc (zerO b)) c⟩
theorem r02put_gen (b:Bool) (H L N:Nat) (w:World) (hH:Hid (H<18446744073709551616)) (hL:Hid (L<18446744073709551616)) (hN:Hid (H*18446744073709551616+L=N)) :
    Calls Tryz.prog 175 #[.bool b,.int .u64 H,.int .u64 L] w fun e w'=>e=.returned (numV b N)∧Below w.heap.size w w':=by
  go_enter Tryz.func175,Tryz.ntmps175
  go_wp2_with fail
  go_loopw [1,2,11] (fun s1 s2 s wr=>∃ j:Nat,s1=.int .u64 ((H / 65536 ^ j:Nat):Int)∧s2=.int .u64 ((L / 65536 ^ j:Nat):Int)∧s=.int .i64 j∧j≤4∧DgAt wr w.heap.size false zer8∧DgAt wr (w.heap.size+1) b (putD L H j)∧Below w.heap.size w wr) (fun _ _ s _=>(5-intOf s).toNat)
  case atStart=>exact ⟨0,by simp,by simp,rfl,by omega,(DgAt.zero2 w false b).1,(DgAt.zero2 w false b).2,by (repeat' exact bel)⟩
  case round =>
    obtain ⟨j,rfl,rfl,rfl,hj,hR,hD,hBel⟩:=hrel
    have HR:=hide hR
    have HD:=hide hD
    have hsz:=hD.lt
    clear hR hD
    rcases (show j=4∨j<4 by omega) with rfl | hj4
    · have hD:=HD.out
      rw [putD_end hL.out,hN.out] at hD
      obtain ⟨⟨a0,a1,a2,a3,a4,a5,a6,a7,a8⟩,_,_⟩:=DgAt.nine hD
      obtain ⟨⟨r0,r1,r2,r3,r4,r5,r6,r7,r8⟩,⟨f0,f1,f2,f3,f4,f5,f6,f7,f8⟩,hz⟩:=DgAt.nine HR.out
      clear hD
      obtain ⟨X1,hX1⟩:∃ X,((H / 65536 ^ 4:Nat):Int)=X:=⟨_,rfl⟩
      obtain ⟨X2,hX2⟩:∃ X,((L / 65536 ^ 4:Nat):Int)=X:=⟨_,rfl⟩
      rw [hX1,hX2]
      clear hX1 hX2
      go_wp2
      refine bodyPost_ret (v:=numV b N) (by simp (maxDischargeDepth:=9) [results,Tryz.results175,go_sem,r0,r1,r2,r3,r4,r5,r6,r7,r8,f0,f1,f2,f3,f4,f5,f6,f7,f8,hz]) rfl ⟨rfl,by (repeat' exact bel)⟩
    · have c1 := HD.out.cell (k := j) (x := 0) (by
        match j,hj4 with
        | 0,_ | 1,_ | 2,_ | 3,_=>simp [putD,List.range,List.range.loop])
      have c2:=HD.out.cell (k:=4+j) (x:=0) (by
        match j,hj4 with
        | 0,_ | 1,_ | 2,_ | 3,_=>simp [putD,List.range,List.range.loop])
      have f1:=HD.out.frozen (1+j)
      have f2:=HD.out.frozen (1+(4+j))
      have H1:=hide (dg_rem L j)
      have H2:=hide (dg_rem H j)
      have H3:=hide (dg_quo L j)
      have H4:=hide (dg_quo H j)
      have hl1:((L / 65536 ^ j:Nat):Int)<18446744073709551616:=by have:=Nat.div_le_self L (65536 ^ j);have:=hL.out;omega
      have hl2:((H / 65536 ^ j:Nat):Int)<18446744073709551616:=by have:=Nat.div_le_self H (65536 ^ j);have:=hH.out;omega
      have hl3:0≤((L / 65536 ^ j:Nat):Int):=Int.natCast_nonneg _
      have hl4:0≤((H / 65536 ^ j:Nat):Int):=Int.natCast_nonneg _
      generalize ((L / 65536 ^ j:Nat):Int)=X1 at *
      generalize ((H / 65536 ^ j:Nat):Int)=X2 at *
      go_wp2
      go_roundw
      case rel=>exact ⟨j+1,by rw [H4.out],by rw [H3.out],by go_num,by omega,(HR.out.far (by simp) _).far (by simp) _,by rw [H1.out,H2.out,← putD_step hj4];exact (HD.out.set j _).set (4+j) _,by (repeat' exact bel)⟩
      case measure=>simp [intOf];omega
theorem r02words_gen (b:Bool) (N H L:Nat) (w:World) (hH:Hid (H<18446744073709551616)) (hL:Hid (L<18446744073709551616)) (hN:Hid (H*18446744073709551616+L=N)) :
    Calls Tryz.prog 177 #[numV b N] w fun e w'=>e=.returned (.tuple #[.int .u64 H,.int .u64 L])∧Below w.heap.size w w':=by
  have HB:=hide (show DgAt (w.alloc (.cells #[.bool b,.int .u64 (dg N 0:Int),.int .u64 (dg N 1:Int),.int .u64 (dg N 2:Int),.int .u64 (dg N 3:Int),.int .u64 (dg N 4:Int),.int .u64 (dg N 5:Int),.int .u64 (dg N 6:Int),.int .u64 (dg N 7:Int)] 212)) w.heap.size b (dgL N) from DgAt.new w b (dgL N))
  go_enter Tryz.func177,Tryz.ntmps177
  go_wp2_with fail
  go_loopw [4,5,6] (fun s4 s5 s wr=>∃ j:Nat,s4=.int .u64 ((H / 65536 ^ j:Nat):Int)∧s5=.int .u64 ((L / 65536 ^ j:Nat):Int)∧s=.int .i64 ((j:Int)-1)∧j≤4∧DgAt wr w.heap.size b (dgL N)∧Below w.heap.size w wr) (fun _ _ s _=>(intOf s+1).toNat)
  case atStart=>exact ⟨4,by rw [Nat.div_eq_of_lt (show H<65536 ^ 4 from hH.out)];rfl,by rw [Nat.div_eq_of_lt (show L<65536 ^ 4 from hL.out)];rfl,rfl,by omega,HB.out,by (repeat' exact bel)⟩
  case round =>
    obtain ⟨j,rfl,rfl,rfl,hj,hD,hBel⟩:=hrel
    have HD:=hide hD
    have hsz:=hD.lt
    clear hD
    rcases Nat.eq_zero_or_pos j with rfl | hj0
    · have HZ:=hide (show ((H / 65536 ^ 0:Nat):Int)=H∧((L / 65536 ^ 0:Nat):Int)=L by simp)
      generalize ((L / 65536 ^ 0:Nat):Int)=X1 at *
      generalize ((H / 65536 ^ 0:Nat):Int)=X2 at *
      go_wp2
      go_ret2
      exact ⟨by simp;exact HZ.out,by (repeat' exact bel)⟩
    · obtain ⟨i,rfl⟩:∃ i,j=i+1:=⟨j-1,by omega⟩
      have hi:i<4:=by omega
      have c1:=HD.out.cell (k:=i) (x:=(dg L i:Int)) (by rw [dgL_get (by omega),← hN.out,dg_low hi])
      have c2:=HD.out.cell (k:=4+i) (x:=(dg H i:Int)) (by rw [dgL_get (by omega),← hN.out,dg_high hL.out])
      have H1:=hide (div_step L i)
      have H2:=hide (div_step H i)
      have h1:((L / 65536 ^ (i+1):Nat):Int)*65536+(dg L i:Int)<18446744073709551616:=by have:=Nat.div_le_self L (65536 ^ i);have:=hL.out;have:=H1.out;omega
      have h2:((H / 65536 ^ (i+1):Nat):Int)*65536+(dg H i:Int)<18446744073709551616:=by have:=Nat.div_le_self H (65536 ^ i);have:=hH.out;have:=H2.out;omega
      have H3:=hide (show ((L / 65536 ^ (i+1):Nat):Int)*65536+(dg L i:Int)=((L / 65536 ^ i:Nat):Int) by have:=H1.out;omega)
      have H4:=hide (show ((H / 65536 ^ (i+1):Nat):Int)*65536+(dg H i:Int)=((H / 65536 ^ i:Nat):Int) by have:=H2.out;omega)
      have h3:0≤((L / 65536 ^ (i+1):Nat):Int):=Int.natCast_nonneg _
      have h4:0≤((H / 65536 ^ (i+1):Nat):Int):=Int.natCast_nonneg _
      have h5:0≤(dg L i:Int):=Int.natCast_nonneg _
      have h6:0≤(dg H i:Int):=Int.natCast_nonneg _
      clear H1 H2
      generalize ((L / 65536 ^ (i+1):Nat):Int)=X1 at *
      generalize ((H / 65536 ^ (i+1):Nat):Int)=X2 at *
      generalize (dg L i:Int)=D1 at *
      generalize (dg H i:Int)=D2 at *
      go_wp2
      go_roundw
      case rel=>exact ⟨i,by rw [H4.out],by rw [H3.out],by go_num,by omega,HD.out,by (repeat' exact bel)⟩
      case measure=>simp [intOf]
theorem r02words_any (b:Bool) (N:Nat) (w:World) (hN:N<340282366920938463463374607431768211456) :
    Calls Tryz.prog 177 #[numV b N] w fun e w'=>e=.returned (.tuple #[.int .u64 ((N / 18446744073709551616:Nat):Int),.int .u64 ((N % 18446744073709551616:Nat):Int)])∧Below w.heap.size w w':=
  r02words_gen b N _ _ w (Nat.div_lt_of_lt_mul hN) (Nat.mod_lt _ (by decide)) (Nat.div_add_mod' _ _)
end Go.Proofs.YtjhhmeoibfdcmaaGreat
namespace Go.Proofs.YtjhhmeoibfdcmaaGreat
open Go.RowKit
def DaAt (w:World) (B:Nat) (D:List Int):Prop:=w.heap[B]?=some (.cells (D.map (Value.int .u64)).toArray 210 (0,0))
theorem DaAt.lt {w:World} {B:Nat} {D:List Int} (h:DaAt w B D):B<w.heap.size:=(Array.getElem?_eq_some_iff.1 h).1
theorem DaAt.cell {w:World} {B:Nat} {D:List Int} (h:DaAt w B D) {k:Nat} {x:Int} (hk:D[k]?=some x):w.cell? ⟨B,k,none⟩=some (.int .u64 x):=by
  rw [cell_of_row w B k _ _ _ h]
  simp [hk]
theorem DaAt.below {w w':World} {K B:Nat} {D:List Int} (h:DaAt w B D) (hb:Below K w w') (hg:B<K):DaAt w' B D:=(hb.block B hg).trans h
theorem DaAt.call {w w':World} {B:Nat} {D:List Int} (h:DaAt w B D) (hb:Below w.heap.size w w'):DaAt w' B D:=h.below hb h.lt
theorem DaAt.new (w:World) (D:List Int):DaAt (w.alloc (.cells (D.map (Value.int .u64)).toArray 210)) w.heap.size D:=heap_alloc_new w _
abbrev digO (N:Nat):Obj:=.cells #[.int .u64 (dg N 0:Int),.int .u64 (dg N 1:Int),.int .u64 (dg N 2:Int),.int .u64 (dg N 3:Int),.int .u64 (dg N 4:Int),.int .u64 (dg N 5:Int),.int .u64 (dg N 6:Int),.int .u64 (dg N 7:Int)] 210
theorem DaAt.two (w:World) (M N:Nat):DaAt ((w.alloc (digO M)).alloc (digO N)) w.heap.size (dgL M)∧DaAt ((w.alloc (digO M)).alloc (digO N)) (w.heap.size+1) (dgL N):=
  ⟨(show DaAt (w.alloc (digO M)) w.heap.size (dgL M) from DaAt.new w (dgL M)).call ((Below.refl _ _).alloc (Nat.le_refl _) _),by
    have:=show DaAt ((w.alloc (digO M)).alloc (digO N)) (w.alloc (digO M)).heap.size (dgL N) from DaAt.new (w.alloc (digO M)) (dgL N)
    simpa using this⟩
def cmpV (A B:Nat):Int:=if A<B then -1 else if B<A then 1 else 0
theorem cmp_lt {A B i:Nat} (h:A / 65536 ^ (i+1)=B / 65536 ^ (i+1)) (hd:dg A i<dg B i):A<B:=by
  have h1:=div_step A i
  have h2:=div_step B i
  rcases Nat.lt_or_ge A B with h3 | h3
  · exact h3
  · have:=Nat.div_le_div_right (c:=65536 ^ i) h3
    rw [h] at h1
    omega
theorem cmp_eq {A B i:Nat} (h:A / 65536 ^ (i+1)=B / 65536 ^ (i+1)) (hd:dg A i=dg B i):A / 65536 ^ i=B / 65536 ^ i:=by
  rw [div_step A i,div_step B i,h,hd]
theorem r02cmp_any (M N:Nat) (w:World) (hM:Hid (M<65536 ^ 8)) (hN:Hid (N<65536 ^ 8)) :
    Calls Tryz.prog 219 #[digV M,digV N] w fun e w'=>e=.returned (.int .i64 (cmpV M N))∧Below w.heap.size w w':=by
  have H1:=hide (DaAt.two w M N).1
  have H2:=hide (DaAt.two w M N).2
  go_enter Tryz.func219,Tryz.ntmps219
  go_wp2_with fail
  go_loopw [5] (fun s wr=>∃ j:Nat,s=.int .i64 ((j:Int)-1)∧j≤8∧Hid (M / 65536 ^ j=N / 65536 ^ j)∧DaAt wr w.heap.size (dgL M)∧DaAt wr (w.heap.size+1) (dgL N)∧Below w.heap.size w wr) (fun s _=>(intOf s+1).toNat)
  case atStart=>exact ⟨8,rfl,by omega,hide (by rw [Nat.div_eq_of_lt hM.out,Nat.div_eq_of_lt hN.out]),H1.out,H2.out,by (repeat' exact bel)⟩
  case round =>
    obtain ⟨j,rfl,hj,HE,hD1,hD2,hBel⟩:=hrel
    have HD1:=hide hD1
    have HD2:=hide hD2
    have hz1:=hD1.lt
    have hz2:=hD2.lt
    clear hD1 hD2
    rcases Nat.eq_zero_or_pos j with rfl | hj0
    · have HZ := hide (show cmpV M N = 0 by
        have h:=HE.out
        simp at h
        subst h
        simp [cmpV])
      clear HE
      go_wp2
      go_ret
      exact ⟨ret_int HZ.out.symm,by (repeat' exact bel)⟩
    · obtain ⟨i,rfl⟩:∃ i,j=i+1:=⟨j-1,by omega⟩
      have c1:=HD1.out.cell (dgL_get (N:=M) (i:=i) (by omega))
      have c2:=HD2.out.cell (dgL_get (N:=N) (i:=i) (by omega))
      have HL:=hide (show (dg M i:Int)<(dg N i:Int)→M<N from fun h=>cmp_lt (i:=i) HE.out (by omega))
      have HG:=hide (show (dg N i:Int)<(dg M i:Int)→N<M from fun h=>cmp_lt (i:=i) HE.out.symm (by omega))
      have HQ:=hide (show (dg M i:Int)=(dg N i:Int)→M / 65536 ^ i=N / 65536 ^ i from fun h=>cmp_eq (i:=i) HE.out (by omega))
      clear HE
      generalize (dg M i:Int)=x at *
      generalize (dg N i:Int)=y at *
      rcases Int.lt_trichotomy x y with h | h | h
      · have HF:=hide (show cmpV M N=-1 by unfold cmpV;rw [if_pos (HL.out h)])
        have hb1:decide (x<y)=true:=by simpa using h
        go_wp2_with fail
        go_quiet (fail)
        go_wp2
        all_goals first
          | (exfalso;omega)
          | (go_ret;exact ⟨ret_int HF.out.symm,by (repeat' exact bel)⟩)
      · subst h
        have HF:=hide (HQ.out rfl)
        have hb1:decide (x<x)=false:=by simp
        go_wp2_with fail
        go_quiet (fail)
        go_wp2_with fail
        go_quiet (fail)
        go_wp2
        go_roundw
        case rel=>exact ⟨i,by go_num,by omega,HF,HD1.out,HD2.out,by (repeat' exact bel)⟩
        case measure=>simp [intOf]
      · have hMN:=HG.out h
        have HF:=hide (show cmpV M N=1 by unfold cmpV;rw [if_neg (by omega),if_pos hMN])
        have hb1:decide (x<y)=false:=by simp;omega
        have hb2:decide (y<x)=true:=by simpa using h
        clear hMN
        go_wp2_with fail
        go_quiet (fail)
        go_wp2_with fail
        go_quiet (fail)
        go_wp2
        all_goals first
          | (exfalso;omega)
          | (go_ret;exact ⟨ret_int HF.out.symm,by (repeat' exact bel)⟩)
end Go.Proofs.YtjhhmeoibfdcmaaGreat
namespace Go.Proofs.YtjhhmeoibfdcmaaGreat
open Go.RowKit Qd
theorem rletter_any (b:Int) (w:World) :
    Calls Tryz.prog 212 #[.int .u8 b] w fun e w'=>e=.returned (.bool (letterB b))∧w=w':=by
  go_enter Tryz.func212,Tryz.ntmps212
  go_wp2
  all_goals (go_ret;refine ⟨ret_bool ?_,rfl⟩;simp [letterB];try omega)
theorem rdigit_any (b:Int) (w:World) :
    Calls Tryz.prog 232 #[.int .u8 b] w fun e w'=>e=.returned (.bool (digitB b))∧w=w':=by
  go_enter Tryz.func232,Tryz.ntmps232
  go_wp2
  all_goals (go_ret;refine ⟨ret_bool ?_,rfl⟩;simp [digitB];try omega)
theorem rinner_any (b:Int) (w:World) :
    Calls Tryz.prog 213 #[.int .u8 b] w fun e w'=>e=.returned (.bool (innerB b))∧w=w':=by
  go_enter Tryz.func213,Tryz.ntmps213
  go_wp2_with (first | (go_at_call 212;refine (rletter_any _ _).mono ?_;rintro e w' ⟨rfl,rfl⟩) | (go_at_call 232;refine (rdigit_any _ _).mono ?_;rintro e w' ⟨rfl,rfl⟩))
  all_goals (go_ret;refine ⟨ret_bool ?_,rfl⟩;simp_all [innerB];try rfl)
theorem rname_any (s:ByteArray) (w:World) (hs:s.size≤1000) :
    Calls Tryz.prog 161 #[.string s] w fun e w'=>e=.returned (.bool (nameB s))∧w=w':=by
  by_cases h0:0<s.size
  · by_cases h16:s.size≤16
    · cases hl:letterB (s[0].toNat:Int)
      · have HN:=hide (show nameB s=false by rw [nameB_yes s h0,hl];simp)
        go_enter Tryz.func161,Tryz.ntmps161
        go_wp2_with (first | (go_at_call 212;refine (rletter_any _ _).mono ?_;rintro e w' ⟨rfl,rfl⟩))
        all_goals first
          | (exfalso;omega)
          | (go_ret;exact ⟨ret_bool HN.out.symm,rfl⟩)
      · have HN:=hide (show nameB s=decide (runLen s.data.toList=s.size) by rw [nameB_yes s h0,hl];simp [h16])
        go_enter Tryz.func161,Tryz.ntmps161
        go_wp2_with (first | (go_at_call 212;refine (rletter_any _ _).mono ?_;rintro e w' ⟨rfl,rfl⟩))
        all_goals first
          | (exfalso;omega)
          | skip
        go_loop [20] (fun n=>∃ k:Nat,k≤s.size∧n=.int .i64 k∧Hid (∀ j,(hj:j<k)→(hjs:j<s.size)→innerB (byteI s[j])=true)) (fun n=>s.size-(intOf n).toNat)
        case atStart=>exact ⟨0,Nat.zero_le _,rfl,Lib.hid (fun j hj=>by omega)⟩
        case round =>
          obtain ⟨k,hk,rfl,H⟩:=hrel
          by_cases hlt:k<s.size
          · by_cases hi:innerB (byteI s[k])=true
            · have HI:=Lib.hid hi
              have hi2:innerB (s[k].toNat:Int)=true:=hi
              clear hi
              go_wp2_with (go_at_call 213;refine (rinner_any _ _).mono ?_;rintro e w' ⟨rfl,rfl⟩)
              go_round
              case rel=>exact ⟨k+1,by omega,by go_num,Lib.hid (fun j hj hjs=>by
                rcases Nat.lt_or_ge j k with h | h
                · exact H.out j h hjs
                · obtain rfl:j=k:=by omega
                  exact HI.out)⟩
              case measure=>simp [intOf];omega
            · have HI:=Lib.hid hi
              have hi2:innerB (s[k].toNat:Int)=false:=by simpa [byteI] using hi
              clear hi
              go_wp2_with (go_at_call 213;refine (rinner_any _ _).mono ?_;rintro e w' ⟨rfl,rfl⟩)
              go_ret
              refine ⟨ret_bool ?_,rfl⟩
              have:runLen s.data.toList=k:=takeWhile_stop _ _ k (by rw [len_bytes];exact hlt) (fun j hj=>H.out j hj (by omega)) (by have:=HI.out;simp only [Bool.not_eq_true] at this;exact this)
              rw [HN.out,this]
              simp
              omega
          · go_wp2
            go_ret
            refine ⟨ret_bool ?_,rfl⟩
            have:runLen s.data.toList=s.data.toList.length:=takeWhile_all _ _ (fun j hj=>H.out j (by have:=len_bytes s;omega) (by have:=len_bytes s;omega))
            rw [HN.out,this,len_bytes]
            simp
    · have HN:=hide (show nameB s=false by rw [nameB_yes s h0];simp [h16])
      go_enter Tryz.func161,Tryz.ntmps161
      go_wp2
      all_goals first
        | (exfalso;omega)
        | (go_ret;exact ⟨ret_bool HN.out.symm,rfl⟩)
  · have HN:=hide (nameB_no s h0)
    go_enter Tryz.func161,Tryz.ntmps161
    go_wp2
    all_goals first
      | (exfalso;omega)
      | (go_ret;exact ⟨ret_bool HN.out.symm,rfl⟩)
def rmanyP (c:Cal):Int:=if c.shape=3∧c.cycle≤0 then 0 else manyP c.shape c.cycle
theorem rmany_any (c:Cal) (w:World) :
    Calls Tryz.prog 163 #[calV c] w fun e w'=>e=.returned (.int .i64 (rmanyP c))∧Below w.heap.size w w':=by
  simp only [calV]
  go_enter Tryz.func163,Tryz.ntmps163
  go_wp2
  all_goals
    go_ret
    refine ⟨ret_int ?_,by (repeat' exact bel)⟩
    simp_all [rmanyP,manyP]
  all_goals (try omega)
def calShaped (c:Cal):Prop:=
  (c.shape=1∧((c.p0=4∧c.p1=4∧c.p2=5)∨(c.p0=4∧c.p1=5∧c.p2=4)∨(c.p0=5∧c.p1=4∧c.p2=4))∧c.cycle=0)∨(c.shape=2∧(c.p0=0∧c.p1=0∧c.p2=0)∧c.cycle=0)∨(c.shape=3∧(c.p0=0∧c.p1=0∧c.p2=0)∧(c.cycle=1∨c.cycle=2∨c.cycle=4))
instance (c:Cal):Decidable (calShaped c):=by unfold calShaped;infer_instance
theorem weeks_shaped (c:Cal):c.weeks↔calShaped c∧1≤c.extra∧c.extra≤manyP c.shape c.cycle:=by
  unfold Cal.weeks weeksP calShaped
  exact Iff.rfl
theorem shaped_any (c:Cal) (w:World) :
    Calls Tryz.prog 162 #[calV c] w fun e w'=>e=.returned (.bool (decide (calShaped c)))∧Below w.heap.size w w':=by
  simp only [calV]
  have h1:c.shape=1∨c.shape=2∨c.shape=3∨(c.shape≠1∧c.shape≠2∧c.shape≠3):=by omega
  cases hp:(c.p0==0&&(c.p1==0&&c.p2==0)) <;> cases hc:(c.cycle==0) <;> rcases h1 with h | h | h | ⟨h,h',h''⟩
  all_goals
    first
      | (have e1:(c.shape==1)=true:=by simp [h])
      | (have e1:(c.shape==1)=false:=by simp [h])
    first
      | (have e2:(c.shape==2)=true:=by simp [h])
      | (have e2:(c.shape==2)=false:=by simp [h])
      | (have e2:(c.shape==2)=false:=by simp [h'])
    first
      | (have e3:(c.shape==3)=true:=by simp [h])
      | (have e3:(c.shape==3)=false:=by simp [h])
      | (have e3:(c.shape==3)=false:=by simp [h''])
    go_enter Tryz.func162,Tryz.ntmps162
    go_wp2
  all_goals first
    | (go_ret;refine ⟨ret_bool ?_,by (repeat' exact bel)⟩;simp_all [calShaped];try omega;done)
    | skip
  all_goals (first | (rw [beq_dec];done) | (simp only [beq_dec];grind) | grind)
end Go.Proofs.YtjhhmeoibfdcmaaGreat
