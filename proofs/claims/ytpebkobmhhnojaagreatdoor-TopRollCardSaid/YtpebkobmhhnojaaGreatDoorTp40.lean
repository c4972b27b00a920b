/- Lemmas. -/
import Derived.Test.YtpebkobmhhnojaaGreatDoorTp23
import Derived.Test.YtpebkobmhhnojaaGreatDoorTp35
import Derived.Test.YtpebkobmhhnojaaGreatDoorTp36
set_option linter.unusedSimpArgs false
set_option linter.unusedVariables false
set_option maxRecDepth 100000
set_option maxHeartbeats 12800000
namespace Go.Proofs.YtpebkobmhhnojaaGreatDoor
section
open Go.RowKit Qd
theorem gV (d:Int) (w:World):Calls Tryz.prog 38 #[d] w fun e w'=>e=.returned (.bool (cH d))∧w=w':=by
 by_cases o:0≤d
 ·by_cases F:d≤3068036
  ·have f:=hide (show cH d=true by simp [cH];omega)
   have h:decide (0≤d)=true:=by simpa using o
   have E:decide (d≤3068036)=true:=by simpa using F
   go_enter Tryz.func38,Tryz.ntmps38;go_wp2
   all_goals first
    | (exfalso;omega)
    | (go_ret;exact ⟨bA f.out.symm,rfl⟩)
  ·have f:=hide (show cH d=false by simp [cH];omega)
   have h:decide (0≤d)=true:=by simpa using o
   have E:decide (d≤3068036)=false:=by simpa using F
   go_enter Tryz.func38,Tryz.ntmps38;go_wp2
   all_goals first
    | (exfalso;omega)
    | (go_ret;exact ⟨bA f.out.symm,rfl⟩)
 ·have f:=hide (show cH d=false by simp [cH];omega)
  have h:decide (0≤d)=false:=by simpa using o
  go_enter Tryz.func38,Tryz.ntmps38;go_wp2
  all_goals first
   | (exfalso;omega)
   | (go_ret;exact ⟨bA f.out.symm,rfl⟩)
noncomputable def ZA (c:aC) (A:List Ac):dW:=⟨fun y=>sd c y A,fun y=>xD (pL c y A)⟩
theorem Ba (f:Un→List Int) (y:Int) (a n k:Nat) (h:∀ x,(f x).length≤k):(en f y a n).length≤n*k:=by
 induction n with
 | zero=>simp [en]
 | succ n o=>rw [en,List.length_append,Nat.succ_mul];exact Nat.add_le_add o (h _)
theorem zi {c:aC} {a:Ac} (h:bF c 5 ⟨a.a,a.b⟩=0) (F:gR a=0→a.b-a.a≤1500):(bn c 5 ⟨a.a,a.b⟩).length≤420:=
 (uG h fun f o E=>F (by simp only at f o E;rw [gR,if_pos (by simp [cH];omega),if_neg om])).2
theorem D3 {c:aC} {y:Int} {A:List Ac} {x:Un × Int} (h:x∈pL c y A):∃ a∈A,lD c y a=true∧x∈pV c 5 a.n ⟨a.a,a.b⟩:=by
 unfold pL at h;obtain ⟨a,o,f⟩:=List.mem_flatMap.1 h
 split at f
 ·rename_i hn;exact ⟨a,o,hn,f⟩
 ·simp at f
theorem Ev {c:aC} {lv a:Int} {s:Sp} (F:bF c lv s=0) (G:bE a) {x:Un × Int} (h:x∈pV c lv a s):bE x.2:=by
 have f:=oB F;have E:=eZ F;obtain ⟨u,n⟩:=x;have H:n∈kr a (dP c lv s):=(List.of_mem_zip h).2;obtain ⟨i,hi⟩:=List.mem_iff_getElem?.1 H;have o:0<(dP c lv s).sum:=by
  rw [f.1];have:=E.2.2.1;omega
 exact DW G (fun x I=>by have:=f.2 x I;omega) o hi
theorem FX (c:aC) (P:List Po) (A:List Ac) (J:Value) (Y:c.name.size≤1000) (V:P.length≤5000∧A.length≤16) (E:∀ p∈P,bE p.n) (f:∀ a∈A,bE a.n) (I:∀ a∈A,gR a=0→a.b-a.a≤1500):tb c P A J (ZA c A):=by
 refine ⟨⟨V.1,by omega⟩,E,fun u F _=>⟨fun W U=>?_,fun H=>⟨fun x n hx=>?_,?_⟩⟩⟩
 ·exact rL c u.yr A J W Y (wY F) U om f fun a o h=>Nat.le_trans (zi h (I a o)) om
 ·obtain ⟨a,o,G,h⟩:=D3 (Cr hx)
  exact Ev (qU c u.yr A H a o G) (f a o) h
 ·have O:=fun x=>Nat.le_trans (uc (pL c u.yr A) x) (Ax c u.yr A 420 H fun a o h=>zi h (I a o))
  have h2:=gH c u.yr (ev F).2.2.2.1;have h3:=iR F;refine Nat.le_trans (Ba _ _ _ _ _ O) (Nat.le_trans (Nat.mul_le_mul (show dT c u-dz c u≤60 by omega) (Nat.mul_le_mul (show A.length≤16 by omega) (Nat.le_refl 420))) om)
def jH (a:Ac):Bool:=!(cH a.a&&cH a.b&&decide (1200<a.b-a.a))
def k6 (c:aC) (P:List Po) (A:List Ac):Bool:=A.all jH&&decide (c.name.size≤100)&&decide (P.length≤16)&&decide (A.length≤6)
theorem ue {c:aC} {P:List Po} {A:List Ac} (h:k6 c P A=true):c.name.size≤100∧P.length≤16∧A.length≤6∧∀ a∈A,gR a=0→a.b-a.a≤1500:=by
 simp [k6] at h;obtain ⟨⟨⟨E,F⟩,G⟩,H⟩:=h;refine ⟨F,G,H,fun a I o=>?_⟩;have:=E a I;unfold gR at o
 split at o
 ·rename_i h5
  simp [jH] at this;simp at h5;rcases this with (f | f) | f
  ·rw [h5.1] at f;cases f
  ·rw [h5.2] at f;cases f
  ·omega
 ·cases o
theorem FL (c:aC) (P:List Po) (A:List Ac) (E:Value) (h:k6 c P A=true) (o:∀ p∈P,bE p.n) (f:∀ a∈A,bE a.n):tb c P A E (ZA c A):=by
 obtain ⟨G,H,I,F⟩:=ue h;exact FX c P A E om ⟨by omega,by omega⟩ o f F
theorem zA {A:List Ac} {j:Nat} {x:Ac} (f:A[j]?=some x) (h:(A.take j).all jH=true):(A.take (j+1)).all jH=jH x:=by
 rw [List.take_add_one,f,List.all_append,h];simp
theorem EQ {A:List Ac} {j:Nat} {x:Ac} (f:A[j]?=some x) (h:jH x=false) (c:aC) (P:List Po):k6 c P A=false:=by
 have:A.all jH=false:=by
  rw [List.all_eq_false];exact ⟨x,List.mem_of_getElem? f,by simp [h]⟩
 simp [k6,this]
def AQ (c:aC) (f h:Value) (B:Nat) (o w:World):Prop:=bR w B c∧ax w (B+1) #[f,h] 53∧B+1<w.heap.size∧Below B o w
theorem AQ.call {c:aC} {o E:Value} {B:Nat} {F w w':World} (h:AQ c o E B F w) (f:Below w w w'):AQ c o E B F w':=
 ⟨az f (by have:=h.2.2.1;omega) h.1,h.2.1.call f,Nat.lt_of_lt_of_le h.2.2.1 f.size,h.2.2.2.trans (f.mono (by have:=h.2.2.1;omega))⟩
theorem mT (c:aC) (f h:Value) (w:World):AQ c f h w.heap.size w ((w.alloc (df c)).alloc (.cells #[f,h] 53)):=by
 refine ⟨bG (be w c) af _,?_,by simp,by (repeat' exact bel)⟩;simpa using ax.new (w.alloc (df c)) #[f,h] 53
theorem BL (c:aC) (P:List Po) (A:List Ac) (v1 v2:Value) (w:World) (hP:eu w v1 P) (hA:iA w v2 A) (hn:c.name.size≤9223372036854775807) (a4:P.length≤9223372036854775807) (a5:A.length≤9223372036854775807) :
  Calls Tryz.prog 17 #[aI c,.agg #[v1,v2]] w fun e w'=>e=.returned (.bool (k6 c P A))∧Below w w w':=by
 have HA:=hide hA;have H0:=hide (mT c v1 v2 w);obtain ⟨aq,aa,rfl,_⟩:=hP;obtain ⟨aA,ab,rfl,_⟩:=hA;simp only [aI];go_enter Tryz.func17,Tryz.ntmps17;obtain ⟨q0,q1,q2,q3,q4,q5,q6,q7,q8,q9,ac,ad,ah,al⟩:=H0.out.1;obtain ⟨⟨k0,k1⟩,_⟩:=fW H0.out.2.1;go_wp2_with fail;clear q0 q1 q2 q3 q4 q5 q6 q7 q8 q9 ac ad ah al;clear k0 k1;go_loopw [10] (fun U wr=>∃ j:Nat,U=.int .i64 j∧j≤A.length∧(A.take j).all jH=true∧Hid (AQ c (.slice aq P.length aa) (.slice aA A.length ab) w.heap.size w wr)) (fun U _=>(A.length+5-intOf U).toNat)
 case atStart=>exact ⟨0,rfl,Nat.zero_le _,rfl,H0⟩
 case round =>
  obtain ⟨j,rfl,hj,E,V⟩:=hrel;have hz:=V.out.2.2.1;have a6:w.heap.size<wr.heap.size:=om;by_cases aB:j<A.length
  ·obtain ⟨x,hx⟩:∃ x,A[j]?=some x:=⟨_,List.getElem?_eq_getElem aB⟩
   obtain ⟨g,o,rfl,hg,d0,d1,d2⟩:=(HA.out.call V.out.2.2.2).at hx;have O:=hide (zA hx E);have ao:=hide (fun h=>EQ hx h c P);have a2:(0:Int)≤(j:Int):=om;have a3:(j:Int)<(A.length:Int):=om;clear hx E;have I:=hide (V.out.call ((Below.refl wr.heap.size wr).alloc (Nat.le_refl _) (.cells #[.int .i64 x.a,.int .i64 x.b,.int .i64 x.n] 92)));have f:=I.out.2.2.2;cases F:cH x.a
   ·have G:=hide (show jH x=true by simp [jH,F])
    go_wp2_with fail;refine (gV x.a _).mono ?_;rintro e w1 ⟨rfl,rfl⟩;rw [F];go_wp2;go_roundw
    case rel=>exact ⟨j+1,by go_num,by omega,by rw [O.out,G.out],I⟩
    case measure=>simp [intOf];omega
   ·cases H:cH x.b
    ·have G:=hide (show jH x=true by simp [jH,H])
     go_wp2_with fail;refine (gV x.a _).mono ?_;rintro e w1 ⟨rfl,rfl⟩;rw [F];go_wp2_with fail;refine (gV x.b _).mono ?_;rintro e w1 ⟨rfl,rfl⟩;rw [H];go_wp2;go_roundw
     case rel=>exact ⟨j+1,by go_num,by omega,by rw [O.out,G.out],I⟩
     case measure=>simp [intOf];omega
    ·have W:=F
     have Y:=H;simp [cH] at W Y;obtain ⟨W,a0⟩:=W;obtain ⟨Y,a1⟩:=Y;go_wp2_with fail;refine (gV x.a _).mono ?_;rintro e w1 ⟨rfl,rfl⟩;rw [F];go_wp2_with fail;refine (gV x.b _).mono ?_;rintro e w1 ⟨rfl,rfl⟩;rw [H];by_cases hd:1200<x.b-x.a
     ·have G:=hide (ao.out (by simp [jH,F,H,hd]))
      go_wp2
      all_goals first
       | (exfalso;omega)
       | (go_ret;exact ⟨bA G.out.symm,f⟩)
     ·have G:=hide (show jH x=true by simp [jH,hd])
      go_wp2
      all_goals first
       | (exfalso;omega)
       | skip
      go_roundw
      case rel=>exact ⟨j+1,by go_num,by omega,by rw [O.out,G.out],I⟩
      case measure=>simp [intOf];omega
  ·obtain rfl:j=A.length:=om
   rw [List.take_length] at E;have G:=hide (show k6 c P A=(decide (c.name.size≤100)&&decide (P.length≤16)&&decide (A.length≤6)) by simp [k6,E]);have f:=V.out.2.2.2;obtain ⟨q0,q1,q2,q3,q4,q5,q6,q7,q8,q9,ac,ad,ah,al⟩:=V.out.1;obtain ⟨⟨k0,k1⟩,_⟩:=fW V.out.2.1;by_cases W:c.name.size≤100
   ·by_cases Y:P.length≤16
    ·by_cases h3:A.length≤6
     ·have J:=hide (show k6 c P A=true by rw [G.out];simp [W,Y,h3])
      go_wp2
      all_goals first
       | (exfalso;omega)
       | (go_ret;exact ⟨bA (by rw [J.out];simp;omega),f⟩)
     ·have J:=hide (show k6 c P A=false by rw [G.out];simp [h3])
      go_wp2
      all_goals first
       | (exfalso;omega)
       | (go_ret;exact ⟨bA (by rw [J.out];simp;omega),f⟩)
    ·have J:=hide (show k6 c P A=false by rw [G.out];simp [Y])
     go_wp2
     all_goals first
      | (exfalso;omega)
      | (go_ret;exact ⟨bA J.out.symm,f⟩)
   ·have J:=hide (show k6 c P A=false by rw [G.out];simp [W])
    go_wp2
    all_goals first
     | (exfalso;omega)
     | (go_ret;exact ⟨bA J.out.symm,f⟩)
end
end Go.Proofs.YtpebkobmhhnojaaGreatDoor
