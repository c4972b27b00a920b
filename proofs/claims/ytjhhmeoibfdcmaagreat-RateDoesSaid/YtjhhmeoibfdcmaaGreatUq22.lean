/- The reference of layer 2: digits added. The reference of layer 2: a Wide's digits, and the Wide of digits. -/
import Derived.Test.YtjhhmeoibfdcmaaGreatUq06
import Derived.Test.YtjhhmeoibfdcmaaGreatUq21
set_option linter.unusedSimpArgs false
set_option linter.unusedVariables false
set_option maxRecDepth 100000
set_option maxHeartbeats 12800000
namespace Go.Proofs.YtjhhmeoibfdcmaaGreat
open Go.RowKit
def mixD (X Y j:Nat):List Int:=(dgL X).take j++(dgL Y).drop j
theorem mixD_zero (X Y:Nat):mixD X Y 0=dgL Y:=by simp [mixD]
theorem mixD_all (X Y:Nat):mixD X Y 8=dgL X:=by simp [mixD,dgL]
theorem mixD_get {X Y j:Nat} (h:j<8):(mixD X Y j)[j]?=some (dg Y j:Int):=by
  match j,h with
  | 0,_ | 1,_ | 2,_ | 3,_ | 4,_ | 5,_ | 6,_ | 7,_=>rfl
theorem mixD_set {X Y j:Nat} (h:j<8):(mixD X Y j).set j (dg X j:Int)=mixD X Y (j+1):=by
  match j,h with
  | 0,_ | 1,_ | 2,_ | 3,_ | 4,_ | 5,_ | 6,_ | 7,_=>rfl
abbrev numO (b:Bool) (N:Nat):Obj:=.cells #[.bool b,.int .u64 (dg N 0:Int),.int .u64 (dg N 1:Int),.int .u64 (dg N 2:Int),.int .u64 (dg N 3:Int),.int .u64 (dg N 4:Int),.int .u64 (dg N 5:Int),.int .u64 (dg N 6:Int),.int .u64 (dg N 7:Int)] 212
theorem DgAt.numO (w:World) (b:Bool) (N:Nat):DgAt (w.alloc (numO b N)) w.heap.size b (dgL N):=DgAt.new w b (dgL N)
theorem DgAt.alloc {w:World} {B:Nat} {b:Bool} {D:List Int} (h:DgAt w B b D) (o:Obj):DgAt (w.alloc o) B b D:=h.call ((Below.refl _ _).alloc (Nat.le_refl _) _)
def PpSt (w0 w:World) (a:Bool) (DA:List Int) (b:Bool) (DB:List Int):Prop:=DgAt w w0.heap.size a DA∧DgAt w (w0.heap.size+1) b DB∧DgAt w (w0.heap.size+1+1) false zer8∧Below w0.heap.size w0 w
theorem PpSt.call {w0 w w':World} {a b:Bool} {DA DB:List Int} (h:PpSt w0 w a DA b DB) (hb:Below w.heap.size w w'):PpSt w0 w' a DA b DB:=⟨h.1.call hb,h.2.1.call hb,h.2.2.1.call hb,h.2.2.2.trans (hb.mono h.2.2.2.size)⟩
theorem PpSt.set {w0 w:World} {a b:Bool} {DA DB:List Int} (h:PpSt w0 w a DA b DB) (k:Nat) (v:Int):PpSt w0 (w.setCell ⟨w0.heap.size,1+k,none⟩ (.int .u64 v)) a (DA.set k v) b DB:=
  ⟨h.1.set k v,h.2.1.far (by simp) _,h.2.2.1.far (by simp;omega) _,h.2.2.2.setCell (Nat.le_refl _) _⟩
theorem PpSt.new (w:World) (a b:Bool) (A B:Nat):PpSt w (((w.alloc (numO a A)).alloc (numO b B)).alloc (zerO false)) a (dgL A) b (dgL B):=by
  refine ⟨((DgAt.numO w a A).alloc _).alloc _,DgAt.alloc ?_ _,?_,by (repeat' exact bel)⟩
  · simpa using DgAt.numO (w.alloc (Go.Proofs.YtjhhmeoibfdcmaaGreat.numO a A)) b B
  · simpa using DgAt.zero ((w.alloc (Go.Proofs.YtjhhmeoibfdcmaaGreat.numO a A)).alloc (Go.Proofs.YtjhhmeoibfdcmaaGreat.numO b B)) false
theorem PpSt.drew {w0 w:World} {a b:Bool} {DA DB:List Int} {n:Nat} (h:PpSt w0 w a DA b DB):PpSt w0 (w.drewN n) a DA b DB:=h.call (below_drewN (Below.refl _ _) n)
abbrev numPut (w:World) (B:Nat) (b:Bool) (N:Nat):World:=((((((((w.setCell ⟨B,0,none⟩ (.bool b)).setCell ⟨B,1,none⟩ (.int .u64 (dg N 0:Int))).setCell ⟨B,2,none⟩ (.int .u64 (dg N 1:Int))).setCell ⟨B,3,none⟩ (.int .u64 (dg N 2:Int))).setCell ⟨B,4,none⟩ (.int .u64 (dg N 3:Int))).setCell ⟨B,5,none⟩ (.int .u64 (dg N 4:Int))).setCell ⟨B,6,none⟩ (.int .u64 (dg N 5:Int))).setCell ⟨B,7,none⟩ (.int .u64 (dg N 6:Int))).setCell ⟨B,8,none⟩ (.int .u64 (dg N 7:Int))
theorem DgAt.sgn {w:World} {B:Nat} {b:Bool} {D:List Int} (h:DgAt w B b D) (c:Bool):DgAt (w.setCell ⟨B,0,none⟩ (.bool c)) B c D:=by
  unfold DgAt at h ⊢
  simp [World.setCell,Array.getElem?_modify,h,numC]
theorem DgAt.put {w:World} {B:Nat} {b c:Bool} {d0 d1 d2 d3 d4 d5 d6 d7:Int} (h:DgAt w B b [d0,d1,d2,d3,d4,d5,d6,d7]) (N:Nat):DgAt (numPut w B c N) B c (dgL N):=
  ((((((((h.sgn c).set 0 _).set 1 _).set 2 _).set 3 _).set 4 _).set 5 _).set 6 _).set 7 _
theorem DgAt.putFar {w:World} {B B':Nat} {b c:Bool} {D:List Int} (h:DgAt w B b D) (hB:B≠B') (N:Nat):DgAt (numPut w B' c N) B b D:=
  ((((((((h.far hB _).far hB _).far hB _).far hB _).far hB _).far hB _).far hB _).far hB _).far hB _
theorem below_numPut {w0 w:World} {K B:Nat} (h:Below K w0 w) (hB:K≤B) (b:Bool) (N:Nat):Below K w0 (Go.Proofs.YtjhhmeoibfdcmaaGreat.numPut w B b N):=
  ((((((((h.setCell hB _).setCell hB _).setCell hB _).setCell hB _).setCell hB _).setCell hB _).setCell hB _).setCell hB _).setCell hB _
theorem PpSt.swap {w0 w:World} {a b:Bool} {A B:Nat} (h:PpSt w0 w a (dgL A) b (dgL B)):PpSt w0 (numPut (numPut w w0.heap.size b B) (w0.heap.size+1) a A) b (dgL B) a (dgL A):=
  ⟨(h.1.put B).putFar (by simp) A,(h.2.1.putFar (by simp) B).put A,(h.2.2.1.putFar (by simp;omega) B).putFar (by simp) A,below_numPut (below_numPut h.2.2.2 (Nat.le_refl _) b B) (by simp) a A⟩
theorem r02plus_same (a:Bool) (A B:Nat) (w:World) (hA:Hid (A<65536 ^ 8)) (hB:Hid (B<65536 ^ 8)) :
    Calls Tryz.prog 174 #[numV a A,numV a B] w fun e w'=>e=.returned (.tuple #[numV a (A+B),.bool (decide (A+B<65536 ^ 8))])∧Below w.heap.size w w':=by
  have H0:=hide (PpSt.new w a a A B)
  obtain ⟨N,hN⟩:∃ N,A+B=N:=⟨_,rfl⟩
  obtain ⟨ok,hok⟩:∃ ok,decide (A+B<65536 ^ 8)=ok:=⟨_,rfl⟩
  have HN:=hide hN
  have HOK:=hide hok
  rw [hok,hN]
  clear hN hok
  obtain ⟨⟨a0,a1,a2,a3,a4,a5,a6,a7,a8⟩,⟨f0,f1,f2,f3,f4,f5,f6,f7,f8⟩,hza⟩:=DgAt.nine H0.out.1
  obtain ⟨⟨b0,_⟩,_⟩:=DgAt.nine H0.out.2.1
  go_enter Tryz.func174,Tryz.ntmps174
  go_wp2_with fail
  go_loopw [9,49] (fun s9 s wr=>∃ j:Nat,s9=.int .u64 (cyA A B j:Int)∧s=.int .i64 j∧j≤8∧PpSt w wr a (mixD N A j) a (dgL B)) (fun _ s _=>(9-intOf s).toNat)
  case atStart=>exact ⟨0,by rw [cyA_zero];rfl,rfl,by omega,by rw [mixD_zero];exact H0.out⟩
  case round =>
    obtain ⟨j,rfl,rfl,hj,hS⟩:=hrel
    have HS:=hide hS
    have hBel:=hS.2.2.2
    have hz1:=hS.1.lt
    have hz2:=hS.2.1.lt
    clear hS a0 a1 a2 a3 a4 a5 a6 a7 a8 f0 f1 f2 f3 f4 f5 f6 f7 f8 b0 hza
    rcases (show j=8∨j<8 by omega) with rfl | hj8
    · have hD:=HS.out.1
      rw [mixD_all] at hD
      obtain ⟨⟨a0,a1,a2,a3,a4,a5,a6,a7,a8⟩,_⟩:=DgAt.nine hD
      obtain ⟨⟨r0,r1,r2,r3,r4,r5,r6,r7,r8⟩,⟨f0,f1,f2,f3,f4,f5,f6,f7,f8⟩,hz⟩:=DgAt.nine HS.out.2.2.1
      clear hD
      have HE:=hide (show ((cyA A B 8:Int)==0)=ok by
        rw [← HOK.out]
        have:=cyA_end hA.out hB.out
        by_cases h:A+B<65536 ^ 8
        · have h2:=this.2 h
          simp [h,h2]
        · have h2:¬ cyA A B 8=0:=fun e=>h (this.1 e)
          simp [h];omega)
      have h0:(0:Int)≤(cyA A B 8:Int):=Int.natCast_nonneg _
      generalize (cyA A B 8:Int)=X at *
      go_wp2
      refine bodyPost_ret (v:=.tuple #[numV a N,.bool ok]) (by simp (maxDischargeDepth:=9) [results,Tryz.results174,go_sem,r0,r1,r2,r3,r4,r5,r6,r7,r8,f0,f1,f2,f3,f4,f5,f6,f7,f8,hz];exact HE.out) rfl ⟨rfl,by (repeat' exact bel)⟩
    · have c1:=HS.out.1.cell (mixD_get (X:=N) (Y:=A) hj8)
      have c2:=HS.out.2.1.cell (dgL_get (N:=B) hj8)
      have f1:=HS.out.1.frozen (1+j)
      have H1:=hide (show ((cyA A B j:Int)+((dg A j:Int)+(dg B j:Int))) % 65536=(dg N j:Int) by have:=cyA_digit A B j;rw [HN.out] at this;omega)
      have H2:=hide (show ((cyA A B j:Int)+((dg A j:Int)+(dg B j:Int))) / 65536=(cyA A B (j+1):Int) by have:=cyA_next A B j;omega)
      have h1:0≤(cyA A B j:Int)∧(cyA A B j:Int)≤1:=by have:=cyA_le A B j;omega
      have h2:0≤(dg A j:Int)∧(dg A j:Int)<65536:=by have:=dg_lt A j;omega
      have h3:0≤(dg B j:Int)∧(dg B j:Int)<65536:=by have:=dg_lt B j;omega
      have HM:=hide (mixD_set (X:=N) (Y:=A) hj8)
      generalize (cyA A B j:Int)=X at *
      generalize (dg A j:Int)=Y at *
      generalize (dg B j:Int)=Z at *
      obtain ⟨h1,h1'⟩:=h1
      obtain ⟨h2,h2'⟩:=h2
      obtain ⟨h3,h3'⟩:=h3
      go_wp2_with fail
      go_quiet (fail)
      go_wp2
      go_roundw
      case rel=>exact ⟨j+1,by rw [H2.out],by go_num,by omega,by rw [H1.out,← HM.out];exact HS.out.drew.set j _⟩
      case measure=>simp [intOf];omega
theorem r02plus_ge (a b:Bool) (A B:Nat) (w:World) (hab:a≠b) (hA:Hid (A<65536 ^ 8)) (hB:Hid (B<65536 ^ 8)) (hle:Hid (B≤A)) :
    Calls Tryz.prog 174 #[numV a A,numV b B] w fun e w'=>e=.returned (.tuple #[numV a (A-B),.bool true])∧Below w.heap.size w w':=by
  have H0:=hide (PpSt.new w a b A B)
  obtain ⟨N,hN⟩:∃ N,A-B=N:=⟨_,rfl⟩
  have HN:=hide hN
  rw [hN]
  clear hN
  have hab1:(a==b)=false:=by simpa using hab
  clear hab
  obtain ⟨⟨a0,a1,a2,a3,a4,a5,a6,a7,a8⟩,⟨f0,f1,f2,f3,f4,f5,f6,f7,f8⟩,hza⟩:=DgAt.nine H0.out.1
  obtain ⟨⟨b0,b1,b2,b3,b4,b5,b6,b7,b8⟩,⟨g0,g1,g2,g3,g4,g5,g6,g7,g8⟩,hzb⟩:=DgAt.nine H0.out.2.1
  have HC:=hide (show cmpV A B=(if B<A then 1 else 0) by have:=hle.out;unfold cmpV;rw [if_neg (by omega)])
  go_enter Tryz.func174,Tryz.ntmps174
  go_wp2_with fail
  refine (r02cmp_any A B _ hA hB).mono ?_
  rintro e w1 ⟨rfl,hb1⟩
  have HS1:=hide (H0.out.call hb1)
  clear hb1 a0 a1 a2 a3 a4 a5 a6 a7 a8 f0 f1 f2 f3 f4 f5 f6 f7 f8 b0 b1 b2 b3 b4 b5 b6 b7 b8 g0 g1 g2 g3 g4 g5 g6 g7 g8 hza hzb
  obtain ⟨⟨a0,a1,a2,a3,a4,a5,a6,a7,a8⟩,⟨f0,f1,f2,f3,f4,f5,f6,f7,f8⟩,hza⟩:=DgAt.nine HS1.out.1
  obtain ⟨⟨b0,b1,b2,b3,b4,b5,b6,b7,b8⟩,⟨g0,g1,g2,g3,g4,g5,g6,g7,g8⟩,hzb⟩:=DgAt.nine HS1.out.2.1
  have hcb:0≤cmpV A B:=by rw [HC.out];split <;> decide
  generalize cmpV A B=CC at *
  go_wp2_with fail
  go_loopw [6,24] (fun s6 s wr=>∃ j:Nat,s6=.int .u64 (boS A B j:Int)∧s=.int .i64 j∧j≤8∧PpSt w wr a (mixD N A j) b (dgL B)) (fun _ s _=>(9-intOf s).toNat)
  case atStart=>exact ⟨0,by rw [boS_zero];rfl,rfl,by omega,by rw [mixD_zero];exact HS1.out⟩
  case round =>
    obtain ⟨j,rfl,rfl,hj,hS⟩:=hrel
    have HS:=hide hS
    have hBel:=hS.2.2.2
    have hz1:=hS.1.lt
    have hz2:=hS.2.1.lt
    clear hS a0 a1 a2 a3 a4 a5 a6 a7 a8 f0 f1 f2 f3 f4 f5 f6 f7 f8 b0 b1 b2 b3 b4 b5 b6 b7 b8 g0 g1 g2 g3 g4 g5 g6 g7 g8 hza hzb
    rcases (show j=8∨j<8 by omega) with rfl | hj8
    · have hD:=HS.out.1
      rw [mixD_all] at hD
      obtain ⟨⟨a0,a1,a2,a3,a4,a5,a6,a7,a8⟩,_⟩:=DgAt.nine hD
      obtain ⟨⟨r0,r1,r2,r3,r4,r5,r6,r7,r8⟩,⟨f0,f1,f2,f3,f4,f5,f6,f7,f8⟩,hz⟩:=DgAt.nine HS.out.2.2.1
      clear hD
      generalize (boS A B 8:Int)=X at *
      go_wp2
      refine bodyPost_ret (v:=.tuple #[numV a N,.bool true]) (by simp (maxDischargeDepth:=9) [results,Tryz.results174,go_sem,r0,r1,r2,r3,r4,r5,r6,r7,r8,f0,f1,f2,f3,f4,f5,f6,f7,f8,hz]) rfl ⟨rfl,by (repeat' exact bel)⟩
    · have c1:=HS.out.1.cell (mixD_get (X:=N) (Y:=A) hj8)
      have c2:=HS.out.2.1.cell (dgL_get (N:=B) hj8)
      have f1:=HS.out.1.frozen (1+j)
      have h1:0≤(boS A B j:Int)∧(boS A B j:Int)≤1:=by have:=boS_le A B j;omega
      have h2:0≤(dg A j:Int)∧(dg A j:Int)<65536:=by have:=dg_lt A j;omega
      have h3:0≤(dg B j:Int)∧(dg B j:Int)<65536:=by have:=dg_lt B j;omega
      have H1:=hide (show ((dg A j:Int)+65536-(dg B j:Int)-(boS A B j:Int)) % 65536=(dg N j:Int) by have:=boS_digit (A:=A) (B:=B) (by have:=hle.out;omega) j;rw [HN.out] at this;omega)
      have H2:=hide (show 1-((dg A j:Int)+65536-(dg B j:Int)-(boS A B j:Int)) / 65536=(boS A B (j+1):Int) by have:=boS_next A B j;omega)
      have HM:=hide (mixD_set (X:=N) (Y:=A) hj8)
      generalize (boS A B j:Int)=X at *
      generalize (dg A j:Int)=Y at *
      generalize (dg B j:Int)=Z at *
      obtain ⟨h1,h1'⟩:=h1
      obtain ⟨h2,h2'⟩:=h2
      obtain ⟨h3,h3'⟩:=h3
      go_wp2_with fail
      go_quiet (fail)
      go_wp2
      go_roundw
      case rel=>exact ⟨j+1,by rw [H2.out],by go_num,by omega,by rw [H1.out,← HM.out];exact HS.out.drew.set j _⟩
      case measure=>simp [intOf];omega
theorem r02plus_lt (a b:Bool) (A B:Nat) (w:World) (hab:a≠b) (hA:Hid (A<65536 ^ 8)) (hB:Hid (B<65536 ^ 8)) (hle:Hid (A<B)) :
    Calls Tryz.prog 174 #[numV a A,numV b B] w fun e w'=>e=.returned (.tuple #[numV b (B-A),.bool true])∧Below w.heap.size w w':=by
  have H0:=hide (PpSt.new w a b A B)
  obtain ⟨N,hN⟩:∃ N,B-A=N:=⟨_,rfl⟩
  have HN:=hide hN
  rw [hN]
  clear hN
  have hab1:(a==b)=false:=by simpa using hab
  clear hab
  obtain ⟨⟨a0,a1,a2,a3,a4,a5,a6,a7,a8⟩,⟨f0,f1,f2,f3,f4,f5,f6,f7,f8⟩,hza⟩:=DgAt.nine H0.out.1
  obtain ⟨⟨b0,b1,b2,b3,b4,b5,b6,b7,b8⟩,⟨g0,g1,g2,g3,g4,g5,g6,g7,g8⟩,hzb⟩:=DgAt.nine H0.out.2.1
  have HC:=hide (show cmpV A B=-1 by have:=hle.out;unfold cmpV;rw [if_pos (by omega)])
  go_enter Tryz.func174,Tryz.ntmps174
  go_wp2_with fail
  refine (r02cmp_any A B _ hA hB).mono ?_
  rintro e w1 ⟨rfl,hb1⟩
  have HS1:=hide (H0.out.call hb1)
  clear hb1 a0 a1 a2 a3 a4 a5 a6 a7 a8 f0 f1 f2 f3 f4 f5 f6 f7 f8 b0 b1 b2 b3 b4 b5 b6 b7 b8 g0 g1 g2 g3 g4 g5 g6 g7 g8 hza hzb
  obtain ⟨⟨a0,a1,a2,a3,a4,a5,a6,a7,a8⟩,⟨f0,f1,f2,f3,f4,f5,f6,f7,f8⟩,hza⟩:=DgAt.nine HS1.out.1
  obtain ⟨⟨b0,b1,b2,b3,b4,b5,b6,b7,b8⟩,⟨g0,g1,g2,g3,g4,g5,g6,g7,g8⟩,hzb⟩:=DgAt.nine HS1.out.2.1
  rw [HC.out]
  go_wp2_with fail
  go_loopw [6,24] (fun s6 s wr=>∃ j:Nat,s6=.int .u64 (boS B A j:Int)∧s=.int .i64 j∧j≤8∧PpSt w wr b (mixD N B j) a (dgL A)) (fun _ s _=>(9-intOf s).toNat)
  case atStart=>exact ⟨0,by rw [boS_zero];rfl,rfl,by omega,by rw [mixD_zero];exact HS1.out.swap⟩
  case round =>
    obtain ⟨j,rfl,rfl,hj,hS⟩:=hrel
    have HS:=hide hS
    have hBel:=hS.2.2.2
    have hz1:=hS.1.lt
    have hz2:=hS.2.1.lt
    clear hS a0 a1 a2 a3 a4 a5 a6 a7 a8 f0 f1 f2 f3 f4 f5 f6 f7 f8 b0 b1 b2 b3 b4 b5 b6 b7 b8 g0 g1 g2 g3 g4 g5 g6 g7 g8 hza hzb
    rcases (show j=8∨j<8 by omega) with rfl | hj8
    · have hD:=HS.out.1
      rw [mixD_all] at hD
      obtain ⟨⟨a0,a1,a2,a3,a4,a5,a6,a7,a8⟩,_⟩:=DgAt.nine hD
      obtain ⟨⟨r0,r1,r2,r3,r4,r5,r6,r7,r8⟩,⟨f0,f1,f2,f3,f4,f5,f6,f7,f8⟩,hz⟩:=DgAt.nine HS.out.2.2.1
      clear hD
      generalize (boS B A 8:Int)=X at *
      go_wp2
      refine bodyPost_ret (v:=.tuple #[numV b N,.bool true]) (by simp (maxDischargeDepth:=9) [results,Tryz.results174,go_sem,r0,r1,r2,r3,r4,r5,r6,r7,r8,f0,f1,f2,f3,f4,f5,f6,f7,f8,hz]) rfl ⟨rfl,by (repeat' exact bel)⟩
    · have c1:=HS.out.1.cell (mixD_get (X:=N) (Y:=B) hj8)
      have c2:=HS.out.2.1.cell (dgL_get (N:=A) hj8)
      have f1:=HS.out.1.frozen (1+j)
      have h1:0≤(boS B A j:Int)∧(boS B A j:Int)≤1:=by have:=boS_le B A j;omega
      have h2:0≤(dg B j:Int)∧(dg B j:Int)<65536:=by have:=dg_lt B j;omega
      have h3:0≤(dg A j:Int)∧(dg A j:Int)<65536:=by have:=dg_lt A j;omega
      have H1:=hide (show ((dg B j:Int)+65536-(dg A j:Int)-(boS B A j:Int)) % 65536=(dg N j:Int) by have:=boS_digit (A:=B) (B:=A) (by have:=hle.out;omega) j;rw [HN.out] at this;omega)
      have H2:=hide (show 1-((dg B j:Int)+65536-(dg A j:Int)-(boS B A j:Int)) / 65536=(boS B A (j+1):Int) by have:=boS_next B A j;omega)
      have HM:=hide (mixD_set (X:=N) (Y:=B) hj8)
      generalize (boS B A j:Int)=X at *
      generalize (dg B j:Int)=Y at *
      generalize (dg A j:Int)=Z at *
      obtain ⟨h1,h1'⟩:=h1
      obtain ⟨h2,h2'⟩:=h2
      obtain ⟨h3,h3'⟩:=h3
      go_wp2_with fail
      go_quiet (fail)
      go_wp2
      go_roundw
      case rel=>exact ⟨j+1,by rw [H2.out],by go_num,by omega,by rw [H1.out,← HM.out];exact HS.out.drew.set j _⟩
      case measure=>simp [intOf];omega
end Go.Proofs.YtjhhmeoibfdcmaaGreat
namespace Go.Proofs.YtjhhmeoibfdcmaaGreat
open Go.RowKit Qd
theorem r01size_any (a:Int) (w:World) (h:in64 a):Calls Tryz.prog 185 #[.int .i64 a] w fun e w'=>e=.returned (.int .u64 (a.natAbs:Int))∧Below w.heap.size w w':=by
  have HA:=hide h
  unfold in64 at h
  obtain ⟨h1,h2⟩:=h
  go_enter Tryz.func185,Tryz.ntmps185
  by_cases h0:a<0
  · have HN:=hide (show (a.natAbs:Int)=-(a+1)+1 by omega)
    go_wp2
    all_goals first
      | (exfalso;omega)
      | (go_ret;exact ⟨ret_int (by rw [HN.out]),by (repeat' exact bel)⟩)
  · have HN:=hide (show (a.natAbs:Int)=a by omega)
    go_wp2
    all_goals first
      | (exfalso;omega)
      | (go_ret;exact ⟨ret_int (by rw [HN.out]),by (repeat' exact bel)⟩)
theorem r02put_int (b:Bool) (H L:Int) (N:Nat) (w:World) (hH:Hid (0≤H∧H<18446744073709551616)) (hL:Hid (0≤L∧L<18446744073709551616)) (hN:Hid (H*18446744073709551616+L=N)) :
    Calls Tryz.prog 175 #[.bool b,.int .u64 H,.int .u64 L] w fun e w'=>e=.returned (numV b N)∧Below w.heap.size w w':=by
  obtain ⟨h1,h2⟩:=hH.out
  obtain ⟨h3,h4⟩:=hL.out
  have h5:=hN.out
  obtain ⟨H',rfl⟩:=Int.eq_ofNat_of_zero_le h1
  obtain ⟨L',rfl⟩:=Int.eq_ofNat_of_zero_le h3
  exact r02put_gen b H' L' N w (hide (by omega)) (hide (by omega)) (hide (by omega))
theorem wide_zero2 (w:World) (hi lo:Int):DgAt ((w.alloc (.cells #[.int .i64 hi,.int .u64 lo] 103)).alloc (zerO false)) (w.heap.size+1) false zer8:=by
  simpa using DgAt.zero (w.alloc (.cells #[.int .i64 hi,.int .u64 lo] 103)) false
theorem r02of_pos (hi lo:Int) (N:Nat) (w:World) (h1:0≤hi) (h2:hi≤9223372036854775807) (h3:0≤lo) (h4:lo<18446744073709551616) (hN:Hid (hi*18446744073709551616+lo=N)) :
    Calls Tryz.prog 173 #[.agg #[.int .i64 hi,.int .u64 lo]] w fun e w'=>e=.returned (numV false N)∧Below w.heap.size w w':=by
  have HC:=hide (fun w=>r02put_int false hi lo N w (hide (by omega)) (hide ⟨h3,h4⟩) hN)
  have HZ:=hide (wide_zero2 w hi lo)
  clear hN
  go_enter Tryz.func173,Tryz.ntmps173
  go_wp2_with fail
  refine (HC.out _).mono ?_
  rintro e w1 ⟨rfl,hb1⟩
  obtain ⟨⟨r0,r1,r2,r3,r4,r5,r6,r7,r8⟩,⟨f0,f1,f2,f3,f4,f5,f6,f7,f8⟩,hz⟩:=DgAt.nine (HZ.out.call hb1)
  have HB1:Hid (Below w.heap.size w w1):=ww hb1
  have hBel:=HB1.out
  have hle:=hBel.size
  clear hb1
  go_wp2
  refine bodyPost_ret (v:=numV false N) (by simp (maxDischargeDepth:=9) [results,Tryz.results173,go_sem,r0,r1,r2,r3,r4,r5,r6,r7,r8,f0,f1,f2,f3,f4,f5,f6,f7,f8,hz]) rfl ⟨rfl,by (repeat' exact bel)⟩
theorem r02of_neg (hi lo:Int) (N:Nat) (w:World) (h1:-9223372036854775808≤hi) (h2:hi<0) (h3:0≤lo) (h4:lo<18446744073709551616) (hN:Hid (-(hi*18446744073709551616+lo)=N)) :
    Calls Tryz.prog 173 #[.agg #[.int .i64 hi,.int .u64 lo]] w fun e w'=>e=.returned (numV true N)∧Below w.heap.size w w':=by
  have HZ:=hide (wide_zero2 w hi lo)
  have HC1:=hide (fun (h:lo=0) w=>r02put_int true (-(hi+1)+1) 0 N w (hide (by omega)) (hide (by omega)) (hide (by have:=hN.out;omega)))
  have HC2:=hide (fun (h:0<lo) w=>r02put_int true (-(hi+1)) (18446744073709551615-lo+1) N w (hide (by omega)) (hide (by omega)) (hide (by have:=hN.out;omega)))
  clear hN
  go_enter Tryz.func173,Tryz.ntmps173
  by_cases h0:lo=0
  · have HC:=hide (HC1.out h0)
    subst h0
    go_wp2_with fail
    refine (HC.out _).mono ?_
    rintro e w1 ⟨rfl,hb1⟩
    obtain ⟨⟨r0,r1,r2,r3,r4,r5,r6,r7,r8⟩,⟨f0,f1,f2,f3,f4,f5,f6,f7,f8⟩,hz⟩:=DgAt.nine (HZ.out.call hb1)
    have HB1:Hid (Below w.heap.size w w1):=ww hb1
    have hBel:=HB1.out
    have hle:=hBel.size
    clear hb1
    go_wp2
    refine bodyPost_ret (v:=numV true N) (by simp (maxDischargeDepth:=9) [results,Tryz.results173,go_sem,r0,r1,r2,r3,r4,r5,r6,r7,r8,f0,f1,f2,f3,f4,f5,f6,f7,f8,hz]) rfl ⟨rfl,by (repeat' exact bel)⟩
  · have HC:=hide (HC2.out (by omega))
    have hb:(18446744073709551615-lo==18446744073709551615)=false:=by simp;omega
    go_wp2_with fail
    refine (HC.out _).mono ?_
    rintro e w1 ⟨rfl,hb1⟩
    obtain ⟨⟨r0,r1,r2,r3,r4,r5,r6,r7,r8⟩,⟨f0,f1,f2,f3,f4,f5,f6,f7,f8⟩,hz⟩:=DgAt.nine (HZ.out.call hb1)
    have HB1:Hid (Below w.heap.size w w1):=ww hb1
    have hBel:=HB1.out
    have hle:=hBel.size
    clear hb1
    go_wp2
    refine bodyPost_ret (v:=numV true N) (by simp (maxDischargeDepth:=9) [results,Tryz.results173,go_sem,r0,r1,r2,r3,r4,r5,r6,r7,r8,f0,f1,f2,f3,f4,f5,f6,f7,f8,hz]) rfl ⟨rfl,by (repeat' exact bel)⟩
theorem r02of_any (x:Int) (w:World) (h:wideOk x):Calls Tryz.prog 173 #[wideV x] w fun e w'=>e=.returned (numV (decide (x<0)) x.natAbs)∧Below w.heap.size w w':=by
  have hi:=wd_hi h
  unfold in64 at hi
  have hl0:0≤x % 18446744073709551616:=Int.emod_nonneg _ (by decide)
  have hl1:x % 18446744073709551616<18446744073709551616:=Int.emod_lt_of_pos _ (by decide)
  by_cases h0:0≤x / 18446744073709551616
  · rw [show decide (x<0)=false by simp;omega]
    exact r02of_pos _ _ _ w h0 hi.2 hl0 hl1 (hide (by omega))
  · rw [show decide (x<0)=true by simp;omega]
    exact r02of_neg _ _ _ w hi.1 (by omega) hl0 hl1 (hide (by omega))
end Go.Proofs.YtjhhmeoibfdcmaaGreat
