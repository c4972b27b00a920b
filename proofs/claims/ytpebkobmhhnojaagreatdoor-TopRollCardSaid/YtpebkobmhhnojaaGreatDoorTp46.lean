/- Lemmas. -/
import Derived.Deep.Slices
import Derived.Test.YtpebkobmhhnojaaGreatDoorTp43
set_option linter.unusedSimpArgs false
set_option linter.unusedVariables false
set_option maxRecDepth 100000
set_option maxHeartbeats 12800000
namespace Go.Proofs.YtpebkobmhhnojaaGreatDoor
section
open Go.ChangeShapes Go.WideShapes Go.ChangeAt Go.RowKit Qd
section
variable {H:Type} {enc:TypeId × Value→H} {base:Nat} {spare:Nat→Bool} {held:Bool}
def yY (a:Ac):Prop:=bE a.a∧bE a.b∧bE a.n
def D5 (p:Po):Prop:=bE p.day∧bE p.n
theorem vf:Tryz.prog.cellsOf 92=3:=by kernel_rfl
theorem so:Tryz.prog.cellsOf 53=2:=by kernel_rfl
theorem rn:Tryz.prog.cellsOf 50=1:=by kernel_rfl
theorem sV:Tryz.prog.cellsOf 51=1:=by kernel_rfl
theorem vk:Tryz.prog.cellsOf 2=1:=by kernel_rfl
theorem qz:Tryz.prog.cellsOf 35=2:=by kernel_rfl
theorem zT {w:World} {n:Nat} {o:List Value} {x:DataW H × List MemPlace} (hl:o.length=3) (h:DataW.trod enc Tryz.prog w base spare held n 92 o=some x) :
  ∃ a:Ac,o=[.int .i64 a.a,.int .i64 a.b,.int .i64 a.n]∧yY a:=by
 match o,hl with
 | [c0,c1,c2],_ =>
  obtain ⟨xs,k,_,hx,_,f,U⟩:=DataW.trod_struct Tryz.underlying92 h
  match xs,f with
  | [y0,y1],_ =>
   have J:=U 0 _ rfl;have O:=U 1 _ rfl;simp [jf,vk,qz] at J O;obtain ⟨zs,m,_,_,_,E,V⟩:=DataW.trod_struct Tryz.underlying35 J
   match zs,E with
   | [z0,z1],_ =>
    have W:=V 0 _ rfl;have Y:=V 1 _ rfl;simp [jf] at W Y;obtain ⟨x0,F,_,s0⟩:=DataW.trod_int Tryz.underlying3 W;obtain ⟨x1,G,_,s1⟩:=DataW.trod_int Tryz.underlying3 Y;obtain ⟨x2,I,_,s2⟩:=DataW.trod_int Tryz.underlying2 O;simp only [List.cons.injEq,and_true] at F G I;subst F G I;exact ⟨⟨x0,x1,x2⟩,rfl,jW s0,jW s1,jW s2⟩
theorem wR {w:World} {I:Nat} {v:Value} {x:DataW H × List MemPlace} (hf:DataW.trod enc Tryz.prog w base spare held I 51 [v]=some x) :
  ∃ A:List Ac,iA w v A∧(∀ x∈A,yY x)∧A.length≤9223372036854775807:=by
 rcases Go.Deep.open_slice Tryz.underlying51 hf with ⟨E,_⟩ | ⟨G,h,cap,m,n,D,Pl,E,_,ac,V,hm,_,W⟩
 ·simp at E
  subst E;exact ⟨[],iA.nil w,by simp,by simp⟩
 ·simp at E
  subst E;have ah:h≤m:=by rw [hm];split <;> omega
  have ab:∀ i,i<h→∃ x:Ac,w.cell? (G.add (i*3))=some (.int .i64 x.a)∧w.cell? (G.add (i*3+1))=some (.int .i64 x.b)∧w.cell? (G.add (i*3+2))=some (.int .i64 x.n)∧yY x:=by
   intro i hi;obtain ⟨cs,g0,g1⟩:=W i om;rw [vf] at g0;obtain ⟨_,J,f⟩:=World.cells?_some g0;obtain ⟨x,e,F⟩:=zT J g1;subst e;have e0:=f 0 om;have e1:=f 1 om;have e2:=f 2 om;rw [Go.Deep.add_add] at e0 e1 e2;exact ⟨x,by simpa using e0,by simpa using e1,by simpa using e2,F⟩
  obtain ⟨q,hq⟩:=Go.Deep.choose_lt (α:=Ac) ab;refine ⟨(List.range h).map q,⟨some G,cap,by simp,fun i x F=>?_⟩,?_,by simp;unfold maxLen at V;omega⟩
  ·simp only [List.getElem?_map,Option.map_eq_some_iff,List.getElem?_range] at F
   obtain ⟨j,hj,rfl⟩:=F;have Y:i<h∧j=i:=by
    rw [List.getElem?_eq_some_iff] at hj;obtain ⟨E,U⟩:=hj;simp at E U;exact ⟨E,U.symm⟩
   obtain ⟨hi,rfl⟩:=Y;obtain ⟨k0,k1,k2,_⟩:=hq j hi;obtain ⟨z0,_⟩:=hq 0 om;obtain ⟨b,o,O⟩:=G;have aa:O=none:=by simpa [Addr.add] using World.cell?_spot z0
   subst aa;have c0:w.cell? ⟨b,o+j*3,none⟩=some (.int .i64 (q j).a):=by
    rw [← k0];by_cases h0:j=0
    ·subst h0;simp [Addr.add]
    ·have U:j*3≠0:=om
     simp [Addr.add,U]
   have c1:w.cell? ⟨b,o+j*3+1,none⟩=some (.int .i64 (q j).b):=by
    rw [← k1];simp [Addr.add,Nat.add_assoc]
   have c2:w.cell? ⟨b,o+j*3+2,none⟩=some (.int .i64 (q j).n):=by
    rw [← k2];simp [Addr.add,Nat.add_assoc]
   exact ⟨b,o,rfl,uq c0,c0,c1,c2⟩
  ·intro x F
   simp only [List.mem_map,List.mem_range] at F;obtain ⟨i,hi,rfl⟩:=F;exact (hq i hi).2.2.2
theorem sP {w:World} {I:Nat} {v:Value} {x:DataW H × List MemPlace} (hf:DataW.trod enc Tryz.prog w base spare held I 50 [v]=some x) :
  ∃ P:List Po,eu w v P∧(∀ x∈P,D5 x)∧P.length≤9223372036854775807:=by
 rcases Go.Deep.open_slice_pairs Tryz.underlying50 Tryz.underlying138 (by kernel_rfl) rfl rfl (by kernel_rfl) (by kernel_rfl) hf with ⟨f,_⟩ | ⟨ad,h,cap,m,n,W,Y,D0,D1,P0,P1,f,_,ah,aa,hm,_,G⟩
 ·simp at f
  subst f;exact ⟨[],eu.nil w,by simp,by simp⟩
 ·simp at f
  subst f;have al:h≤m:=by rw [hm];split <;> omega
  have O:∀ i,i<h→∃ x y:Int,W i=.int .i64 x∧Y i=.int .i64 y∧bE x∧bE y:=by
   intro i hi;obtain ⟨_,_,g0,g1⟩:=G i om;obtain ⟨x,E,_,s0⟩:=DataW.trod_int Tryz.underlying3 g0;obtain ⟨y,F,_,s1⟩:=DataW.trod_int Tryz.underlying2 g1;simp only [List.cons.injEq,and_true] at E F;exact ⟨x,y,E,F,jW s0,jW s1⟩
  refine ⟨(List.range h).map fun i=>⟨Ip (W i),Ip (Y i)⟩,⟨some ad,cap,by simp,fun i x J=>?_⟩,?_,by simp;unfold maxLen at aa;omega⟩
  ·simp only [List.getElem?_map,Option.map_eq_some_iff,List.getElem?_range] at J
   obtain ⟨j,hj,rfl⟩:=J;have ab:i<h∧j=i:=by
    rw [List.getElem?_eq_some_iff] at hj;obtain ⟨f,V⟩:=hj;simp at f V;exact ⟨f,V.symm⟩
   obtain ⟨hi,rfl⟩:=ab;obtain ⟨x,y,E,F,_,_⟩:=O j hi;obtain ⟨k0,k1,_,_⟩:=G j om;obtain ⟨z0,_,_,_⟩:=G 0 om;obtain ⟨b,o,U⟩:=ad;have ac:U=none:=by simpa [Addr.add] using World.cell?_spot z0
   subst ac;have c0:w.cell? ⟨b,o+j*2,none⟩=some (W j):=by
    rw [← k0];by_cases h0:j=0
    ·subst h0;simp [Addr.add]
    ·have V:j*2≠0:=om
     simp [Addr.add,V]
   have c1:w.cell? ⟨b,o+j*2+1,none⟩=some (Y j):=by
    rw [← k1];simp [Addr.add,Nat.add_assoc]
   rw [E] at c0;rw [F] at c1;exact ⟨b,o,rfl,uq c0,by rw [E];exact c0,by rw [F];exact c1⟩
  ·intro x J
   simp only [List.mem_map,List.mem_range] at J;obtain ⟨i,hi,rfl⟩:=J;obtain ⟨x,y,E,F,h0,f⟩:=O i hi;rw [E,F];exact ⟨h0,f⟩
theorem vg {w:World} {r:Reach} {b0:Nat} {v:Value} {d:DataW H} {p:List MemPlace} (J:Value.okWide Tryz.prog w r b0 53 v) (h:DataW.Trod enc Tryz.prog w base spare held 53 v d p) :
  ∃ (O U:Value) (P:List Po) (A:List Ac),v=.agg #[O,U]∧eu w O P∧iA w U A∧(∀ x∈P,D5 x)∧(∀ x∈A,yY x)∧P.length≤9223372036854775807∧A.length≤9223372036854775807:=by
 have aa:=J;obtain ⟨cs,rfl,o⟩:=okWide_struct Tryz.underlying53 J;rw [so] at o;obtain ⟨l⟩:=cs
 match l,o with
 | [c0,c1],_ =>
  obtain ⟨E,hf⟩:=h;obtain ⟨xs,n,_,hx,_,f,I⟩:=DataW.trod_struct Tryz.underlying53 hf
  match xs,f with
  | [y0,y1],_ =>
   have F:=I 0 _ rfl;have G:=I 1 _ rfl;simp [Value.cells,rn,sV] at F G;obtain ⟨P,p1,p2,p3⟩:=sP F;obtain ⟨A,V,W,Y⟩:=wR G;exact ⟨c0,c1,P,A,rfl,p1,V,p2,W,p3,Y⟩
end
end
end Go.Proofs.YtpebkobmhhnojaaGreatDoor
