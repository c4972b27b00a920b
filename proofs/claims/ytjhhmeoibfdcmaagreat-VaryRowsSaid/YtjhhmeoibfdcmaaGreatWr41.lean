/- Lemmas. -/
import Derived.Test.YtjhhmeoibfdcmaaGreatWr17
import Derived.Test.YtjhhmeoibfdcmaaGreatWr32
import Derived.Test.YtjhhmeoibfdcmaaGreatWr33
import Derived.Test.YtjhhmeoibfdcmaaGreatWr40
set_option linter.unusedSimpArgs false
set_option linter.unusedVariables false
set_option maxRecDepth 100000
set_option maxHeartbeats 12800000
namespace Go.Proofs.YtjhhmeoibfdcmaaGreat
section
open Go.RowKit Qd
theorem dO (d:Int) (w:World):Calls Tryz.prog 42 #[d] w fun e G=>e=.returned (.bool (cH d))∧w=G:=by
 by_cases o:0≤d
 ·by_cases F:d≤3068036
  ·have f:=hide (show cH d=true by simp [cH];omega)
   have h:decide (0≤d)=true:=by simpa using o
   have E:decide (d≤3068036)=true:=by simpa using F
   go_enter Tryz.func42,Tryz.ntmps42;go_wp2
   all_goals first
    | (exfalso;omega)
    | (go_ret;exact ⟨aY f.out.symm,rfl⟩)
  ·have f:=hide (show cH d=false by simp [cH];omega)
   have h:decide (0≤d)=true:=by simpa using o
   have E:decide (d≤3068036)=false:=by simpa using F
   go_enter Tryz.func42,Tryz.ntmps42;go_wp2
   all_goals first
    | (exfalso;omega)
    | (go_ret;exact ⟨aY f.out.symm,rfl⟩)
 ·have f:=hide (show cH d=false by simp [cH];omega)
  have h:decide (0≤d)=false:=by simpa using o
  go_enter Tryz.func42,Tryz.ntmps42;go_wp2
  all_goals first
   | (exfalso;omega)
   | (go_ret;exact ⟨aY f.out.symm,rfl⟩)
theorem yh (x:Ac) (w:World):Calls Tryz.prog 61 #[.agg #[x.a,x.b,x.n]] w fun e G=>e=.returned (.int .i64 (fN x))∧Below w w G:=by
 cases h:cH x.a
 ·have f:=hide (show fN x=4 by simp [fN,h])
  go_enter Tryz.func61,Tryz.ntmps61;go_wp2_with fail;refine (dO x.a _).mono ?_;rintro e E ⟨rfl,rfl⟩;rw [h];go_wp2;go_ret;exact ⟨aZ f.out.symm,by (repeat' exact bel)⟩
 ·cases o:cH x.b
  ·have f:=hide (show fN x=4 by simp [fN,o])
   go_enter Tryz.func61,Tryz.ntmps61;go_wp2_with fail;refine (dO x.a _).mono ?_;rintro e E ⟨rfl,rfl⟩;rw [h];go_wp2_with fail;refine (dO x.b _).mono ?_;rintro e E ⟨rfl,rfl⟩;rw [o];go_wp2;go_ret;exact ⟨aZ f.out.symm,by (repeat' exact bel)⟩
  ·by_cases F:x.b<x.a
   all_goals
    have f:=hide (show fN x=if x.b<x.a then 1 else 0 by simp [fN,h,o])
    first | rw [if_pos F] at f | rw [if_neg F] at f
    go_enter Tryz.func61,Tryz.ntmps61;go_wp2_with fail;refine (dO x.a _).mono ?_;rintro e E ⟨rfl,rfl⟩;rw [h];go_wp2_with fail;refine (dO x.b _).mono ?_;rintro e E ⟨rfl,rfl⟩;rw [o];go_wp2
    all_goals first
     | (exfalso;omega)
     | (go_ret;exact ⟨aZ f.out.symm,by (repeat' exact bel)⟩)
noncomputable def ZA (c:ar) (A:List Ac):dD:=⟨fun y=>wT c y A,fun y=>yR (pL c y A)⟩
theorem Hr (f:Un→List Int) (y:Int) (a n k:Nat) (h:∀ x,(f x).length≤k):(fX f y a n).length≤n*k:=by
 induction n with
 | zero=>simp [fX]
 | succ n o=>rw [fX,List.length_append,Nat.succ_mul];exact Nat.add_le_add o (h _)
theorem tL {c:ar} {a:Ac} (h:bg c 5 ⟨a.a,a.b⟩=0) (F:fN a=0→a.b-a.a≤1500):(be c 5 ⟨a.a,a.b⟩).length≤420:=
 (Ca h fun f o E=>F (by simp only at f o E;rw [fN,if_pos (by simp [cH];omega),if_neg om])).2
theorem Dj {c:ar} {y:Int} {A:List Ac} {x:Un × Int} (h:x∈pL c y A):∃ a∈A,jy c y a=true∧x∈qZ c 5 a.n ⟨a.a,a.b⟩:=by
 unfold pL at h;obtain ⟨a,o,f⟩:=List.mem_flatMap.1 h
 split at f
 ·rename_i hn;exact ⟨a,o,hn,f⟩
 ·simp at f
theorem Eo {c:ar} {lv a:Int} {s:Sp} (F:bg c lv s=0) (G:aX a) {x:Un × Int} (h:x∈qZ c lv a s):aX x.2:=by
 have f:=lj F;have E:=eq F;obtain ⟨u,n⟩:=x;have H:n∈lO a (ez c lv s):=(List.of_mem_zip h).2;obtain ⟨i,hi⟩:=List.mem_iff_getElem?.1 H;have o:0<(ez c lv s).sum:=by
  rw [f.1];have:=E.2.2.1;omega
 exact Dx G (fun x I=>by have:=f.2 x I;omega) o hi
theorem Kk (c:ar) (P:List Po) (A:List Ac) (J:Value) (T:c.name.size≤1000) (S:P.length≤5000∧A.length≤16) (E:∀ p∈P,aX p.n) (f:∀ a∈A,aX a.n) (I:∀ a∈A,fN a=0→a.b-a.a≤1500):me c P A J (ZA c A):=by
 refine ⟨⟨S.1,by omega⟩,E,fun u F _=>⟨fun W R=>?_,fun H=>⟨fun x n U=>?_,?_⟩⟩⟩
 ·exact yP c u.yr A J W T (nk F) R om f fun a o h=>Nat.le_trans (tL h (I a o)) om
 ·obtain ⟨a,o,G,h⟩:=Dj (Ip U)
  exact Eo (qi c u.yr A H a o G) (f a o) h
 ·have O:=fun x=>Nat.le_trans (zz (pL c u.yr A) x) (tf c u.yr A 420 H fun a o h=>tL h (I a o))
  have V:=di c u.yr (bN F).2.2.2.1;have h3:=dz F;refine Nat.le_trans (Hr _ _ _ _ _ O) (Nat.le_trans (Nat.mul_le_mul (show bF c u-aT c u≤60 by omega) (Nat.mul_le_mul (show A.length≤16 by omega) (Nat.le_refl 420))) om)
def ma (a:Ac):Bool:=!(cH a.a&&cH a.b&&decide (1200<a.b-a.a))
def mu (c:ar) (P:List Po) (A:List Ac):Bool:=A.all ma&&decide (c.name.size≤100)&&decide (P.length≤16)&&decide (A.length≤6)
theorem tX {c:ar} {P:List Po} {A:List Ac} (h:mu c P A=true):c.name.size≤100∧P.length≤16∧A.length≤6∧∀ a∈A,fN a=0→a.b-a.a≤1500:=by
 simp [mu] at h;obtain ⟨⟨⟨E,F⟩,G⟩,H⟩:=h;refine ⟨F,G,H,fun a I o=>?_⟩;have:=E a I;unfold fN at o
 split at o
 ·rename_i h5
  simp [ma] at this;simp at h5;rcases this with (f | f) | f
  ·rw [h5.1] at f;cases f
  ·rw [h5.2] at f;cases f
  ·omega
 ·cases o
theorem ID (c:ar) (P:List Po) (A:List Ac) (E:Value) (h:mu c P A=true) (o:∀ p∈P,aX p.n) (f:∀ a∈A,aX a.n):me c P A E (ZA c A):=by
 obtain ⟨G,H,I,F⟩:=tX h;exact Kk c P A E om ⟨by omega,by omega⟩ o f F
theorem D3 {A:List Ac} {j:Nat} {x:Ac} (f:A[j]?=some x) (h:(A.take j).all ma=true):(A.take (j+1)).all ma=ma x:=by
 rw [List.take_add_one,f,List.all_append,h];simp
theorem Ju {A:List Ac} {j:Nat} {x:Ac} (f:A[j]?=some x) (h:ma x=false) (c:ar) (P:List Po):mu c P A=false:=by
 have:A.all ma=false:=by
  rw [List.all_eq_false];exact ⟨x,List.mem_of_getElem? f,by simp [h]⟩
 simp [mu,this]
def DU (c:ar) (f h:Value) (B:Nat) (o w:World):Prop:=aG w B c∧ap w (B+1) #[f,h] 30∧B+1<w.heap.size∧Below B o w
theorem DU.call {c:ar} {o E:Value} {B:Nat} {G w F:World} (h:DU c o E B G w) (f:Below w w F):DU c o E B G F:=
 ⟨aa f (by have:=h.2.2.1;omega) h.1,h.2.1.call f,Nat.lt_of_lt_of_le h.2.2.1 f.size,h.2.2.2.trans (f.mono (by have:=h.2.2.1;omega))⟩
theorem mE (c:ar) (f h:Value) (w:World):DU c f h w.heap.size w ((w.alloc (bG c)).alloc (.cells #[f,h] 30)):=by
 refine ⟨az (au w c) ac _,?_,by simp,by (repeat' exact bel)⟩;simpa using ap.new (w.alloc (bG c)) #[f,h] 30
theorem zn (c:ar) (P:List Po) (A:List Ac) (v1 v2:Value) (w:World) (hP:cL w v1 P) (hA:eo w v2 A) (hn:c.name.size≤9223372036854775807) (a3:P.length≤9223372036854775807) (a4:A.length≤9223372036854775807) :
  Calls Tryz.prog 10 #[av c,.agg #[v1,v2]] w fun e w'=>e=.returned (.bool (mu c P A))∧Below w w w':=by
 have HA:=hide hA;have H0:=hide (mE c v1 v2 w);obtain ⟨ay,V,rfl,_⟩:=hP;obtain ⟨aA,W,rfl,_⟩:=hA;simp only [av];go_enter Tryz.func10,Tryz.ntmps10;obtain ⟨q0,q1,q2,q3,q4,q5,q6,q7,q8,q9,ab,ad,ah,al⟩:=H0.out.1;obtain ⟨⟨k0,k1⟩,_⟩:=fj H0.out.2.1;go_wp2_with fail;clear q0 q1 q2 q3 q4 q5 q6 q7 q8 q9 ab ad ah al;clear k0 k1;go_loopw [10] (fun R wr=>∃ j:Nat,R=.int .i64 j∧j≤A.length∧(A.take j).all ma=true∧Hid (DU c (.slice ay P.length V) (.slice aA A.length W) w.heap.size w wr)) (fun R _=>(A.length+5-intOf R).toNat)
 case atStart=>exact ⟨0,rfl,Nat.zero_le _,rfl,H0⟩
 case round =>
  obtain ⟨j,rfl,hj,E,S⟩:=hrel;have hz:=S.out.2.2.1;have a5:w.heap.size<wr.heap.size:=om;by_cases aB:j<A.length
  ·obtain ⟨x,hx⟩:∃ x,A[j]?=some x:=⟨_,List.getElem?_eq_getElem aB⟩
   obtain ⟨g,o,rfl,hg,d0,d1,d2⟩:=(HA.out.call S.out.2.2.2).at hx;have O:=hide (D3 hx E);have aq:=hide (fun h=>Ju hx h c P);have a1:(0:Int)≤(j:Int):=om;have a2:(j:Int)<(A.length:Int):=om;clear hx E;have I:=hide (S.out.call ((Below.refl wr.heap.size wr).alloc (Nat.le_refl _) (.cells #[.int .i64 x.a,.int .i64 x.b,.int .i64 x.n] 47)));have f:=I.out.2.2.2;cases F:cH x.a
   ·have G:=hide (show ma x=true by simp [ma,F])
    go_wp2_with fail;refine (dO x.a _).mono ?_;rintro e w1 ⟨rfl,rfl⟩;rw [F];go_wp2;go_roundw
    case rel=>exact ⟨j+1,by go_num,by omega,by rw [O.out,G.out],I⟩
    case measure=>simp [intOf];omega
   ·cases H:cH x.b
    ·have G:=hide (show ma x=true by simp [ma,H])
     go_wp2_with fail;refine (dO x.a _).mono ?_;rintro e w1 ⟨rfl,rfl⟩;rw [F];go_wp2_with fail;refine (dO x.b _).mono ?_;rintro e w1 ⟨rfl,rfl⟩;rw [H];go_wp2;go_roundw
     case rel=>exact ⟨j+1,by go_num,by omega,by rw [O.out,G.out],I⟩
     case measure=>simp [intOf];omega
    ·have T:=F
     have U:=H;simp [cH] at T U;obtain ⟨T,aF⟩:=T;obtain ⟨U,a0⟩:=U;go_wp2_with fail;refine (dO x.a _).mono ?_;rintro e w1 ⟨rfl,rfl⟩;rw [F];go_wp2_with fail;refine (dO x.b _).mono ?_;rintro e w1 ⟨rfl,rfl⟩;rw [H];by_cases hd:1200<x.b-x.a
     ·have G:=hide (aq.out (by simp [ma,F,H,hd]))
      go_wp2
      all_goals first
       | (exfalso;omega)
       | (go_ret;exact ⟨aY G.out.symm,f⟩)
     ·have G:=hide (show ma x=true by simp [ma,hd])
      go_wp2
      all_goals first
       | (exfalso;omega)
       | skip
      go_roundw
      case rel=>exact ⟨j+1,by go_num,by omega,by rw [O.out,G.out],I⟩
      case measure=>simp [intOf];omega
  ·obtain rfl:j=A.length:=om
   rw [List.take_length] at E;have G:=hide (show mu c P A=(decide (c.name.size≤100)&&decide (P.length≤16)&&decide (A.length≤6)) by simp [mu,E]);have f:=S.out.2.2.2;obtain ⟨q0,q1,q2,q3,q4,q5,q6,q7,q8,q9,ab,ad,ah,al⟩:=S.out.1;obtain ⟨⟨k0,k1⟩,_⟩:=fj S.out.2.1;by_cases T:c.name.size≤100
   ·by_cases U:P.length≤16
    ·by_cases h3:A.length≤6
     ·have J:=hide (show mu c P A=true by rw [G.out];simp [T,U,h3])
      go_wp2
      all_goals first
       | (exfalso;omega)
       | (go_ret;exact ⟨aY (by rw [J.out];simp;omega),f⟩)
     ·have J:=hide (show mu c P A=false by rw [G.out];simp [h3])
      go_wp2
      all_goals first
       | (exfalso;omega)
       | (go_ret;exact ⟨aY (by rw [J.out];simp;omega),f⟩)
    ·have J:=hide (show mu c P A=false by rw [G.out];simp [U])
     go_wp2
     all_goals first
      | (exfalso;omega)
      | (go_ret;exact ⟨aY J.out.symm,f⟩)
   ·have J:=hide (show mu c P A=false by rw [G.out];simp [T])
    go_wp2
    all_goals first
     | (exfalso;omega)
     | (go_ret;exact ⟨aY J.out.symm,f⟩)
def z7 (y:Int) (a n:Nat) (u:Un):Bool:=decide (u.lv=5∧u.yr=y∧(a:Int)+1≤u.ix∧u.ix<(a:Int)+1+n)
def Cu (L:List (Un × Int)) (q:Un→Bool):Int:=((L.filter fun x=>q x.1).map (·.2)).sum
theorem nJ (x:Un × Int) (L:List (Un × Int)) (q:Un→Bool):Cu (x::L) q=(if q x.1=true then x.2 else 0)+Cu L q:=by
 unfold Cu;by_cases h:q x.1=true
 ·rw [List.filter_cons_of_pos (by simpa using h),if_pos h];simp
 ·rw [List.filter_cons_of_neg (by simpa using h),if_neg h];simp
theorem Im (L:List (Un × Int)) (u:Un):(yR L u).sum=Cu L fun x=>decide (u=x):=rfl
theorem Dt (L:List (Un × Int)) (y:Int) (a n:Nat):(fX (yR L) y a n).sum=Cu L (z7 y a n):=by
 induction n with
 | zero =>
  have:(L.filter fun x=>z7 y a 0 x.1)=[]:=by
   rw [List.filter_eq_nil_iff];intro x _;simp [z7]
  simp [fX,Cu,this]
 | succ n E =>
  rw [fX,List.sum_append,E,Im];clear E
  induction L with
  | nil=>rfl
  | cons x L E =>
   rw [nJ,nJ,nJ,← E];obtain ⟨⟨l,z,i⟩,v⟩:=x;by_cases f:z7 y a n ⟨l,z,i⟩=true
   ·have o:z7 y a (n+1) ⟨l,z,i⟩=true:=by simp [z7] at f ⊢;omega
    have h:¬ decide ((⟨5,y,(a:Int)+1+n⟩:Un)=⟨l,z,i⟩)=true:=by simp [z7] at f ⊢;omega
    simp only [f,o,h];simp;omega
   ·by_cases h:(⟨5,y,(a:Int)+1+n⟩:Un)=⟨l,z,i⟩
    ·have o:z7 y a (n+1) ⟨l,z,i⟩=true:=by simp at h;simp [z7];omega
     have F:decide ((⟨5,y,(a:Int)+1+n⟩:Un)=⟨l,z,i⟩)=true:=by simpa using h
     simp only [f,o,F];simp;omega
    ·have o:¬ z7 y a (n+1) ⟨l,z,i⟩=true:=by simp at h;simp [z7] at f ⊢;omega
     have F:¬ decide ((⟨5,y,(a:Int)+1+n⟩:Un)=⟨l,z,i⟩)=true:=by simpa using h
     simp only [f,o,F];simp
end
end Go.Proofs.YtjhhmeoibfdcmaaGreat
