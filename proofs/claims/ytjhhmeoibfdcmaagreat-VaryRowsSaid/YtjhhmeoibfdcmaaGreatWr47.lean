/- Lemmas. -/
import Derived.BigQuiet
import Derived.Deep.Slices
import Derived.Test.YtjhhmeoibfdcmaaGreatWr09
import Derived.Test.YtjhhmeoibfdcmaaGreatWr17
import Derived.Test.YtjhhmeoibfdcmaaGreatWr40
import Derived.Test.YtjhhmeoibfdcmaaGreatWr41
import Derived.Test.YtjhhmeoibfdcmaaGreatWr42
import Derived.Test.YtjhhmeoibfdcmaaGreatWr46
set_option linter.unusedSimpArgs false
set_option linter.unusedVariables false
set_option maxRecDepth 100000
set_option maxHeartbeats 12800000
namespace Go.Proofs.YtjhhmeoibfdcmaaGreat
section
open Go.RowKit Qd
theorem ml (P:List Po) (A:List Ac) (v1 v2:Value) (w:World) (h1:cL w v1 P) (h2:eo w v2 A) (hl:P.length≤100000∧A.length≤100000):Calls Tryz.prog 20 #[.agg #[v1,v2]] w fun e w'=>e=.returned (.int .i64 (fk P A))∧Below w w w':=by
  have H0:=hide (show sR P A v1 v2 w.heap.size w (w.alloc (.cells #[v1,v2] 30)) from ⟨ap.new _ _ _,by simp,h1.call an,h2.call an,by (repeat' exact bel)⟩);obtain ⟨ab,F,rfl,aB⟩:=h1;obtain ⟨ad,G,rfl,aF⟩:=h2;clear aB aF;go_enter Tryz.func20,Tryz.ntmps20;by_cases E:4096<P.length∨4096<A.length
  · have I:=hide (show fk P A=6 by unfold fk;rw [if_pos E])
    rcases E with a5 | a5
    all_goals
      go_wp2
      all_goals first
        | (exfalso;omega)
        | (go_ret;exact ⟨aZ I.out.symm,by (repeat' exact bel)⟩)
  · have a7:P.length≤4096∧A.length≤4096:=om
    have T:=hide (show fk P A=if lW P then fT A else 4 by unfold fk;rw [if_neg E]);clear E;go_wp2_with fail
    all_goals first
      | (exfalso;omega)
      | skip
    go_loopw [21] (fun s wr=>∃ j:Nat,s=.int .i64 j∧j≤P.length∧Hid (lW (P.take j)=true)∧sR P A (.slice ab P.length F) (.slice ad A.length G) w.heap.size w wr) (fun s _=>(P.length+5-intOf s).toNat)
    case atStart=>exact ⟨0,rfl,Nat.zero_le _,hide (by simp [lW]),H0.out⟩
    case round =>
      obtain ⟨j,rfl,hj,HA,hS⟩:=hrel;have S:=hide hS;clear hS;have f:=S.out.2.2.2.2;by_cases a6:j<P.length
      · obtain ⟨x,R⟩:∃ x,P[j]?=some x:=⟨_,List.getElem?_eq_getElem a6⟩
        obtain ⟨g,o,rfl,hg,a0,a1⟩:=S.out.2.2.1.at R;have a3:(0:Int)≤(j:Int):=om;have a4:(j:Int)<(P.length:Int):=om;have W:=hide R;clear R;go_wp2_with fail;refine (dO x.day _).mono ?_;rintro e w1 ⟨rfl,rfl⟩;have U:=hide (S.out.call (show Below wr wr (wr.alloc (.cells #[.int .i64 x.day,.int .i64 x.n] 32)) by (repeat' exact bel)));clear f;have f:=U.out.2.2.2.2;cases O:cH x.day
        · have I:=hide (show fk P A=4 by rw [T.out,Af W.out O];rfl)
          go_wp2;go_ret;exact ⟨aZ I.out.symm,by (repeat' exact bel)⟩
        · have HT:=hide (show lW (P.take (j+1))=true by rw [rR W.out HA.out,O])
          go_wp2;go_roundw
          case rel=>exact ⟨j+1,by go_num,by omega,HT,U.out⟩
          case measure=>simp [intOf];omega
      · have HT := hide (show fk P A = fT A by
          have h:=HA.out;rw [List.take_of_length_le om] at h;rw [T.out,h];rfl)
        obtain ⟨⟨b0,b1⟩,_⟩:=fj S.out.1;obtain ⟨wo,aq⟩:∃ wo:World,wo=wr:=⟨_,rfl⟩;rw [← aq] at S b0 b1 ⊢;clear aq f;go_wp2_with fail;go_loopw [33] (fun s wr=>∃ j:Nat,s=.int .i64 j∧j≤A.length∧Hid (fT (A.take j)=0)∧sR P A (.slice ab P.length F) (.slice ad A.length G) w.heap.size w wr) (fun s _=>(A.length+5-intOf s).toNat)
        case atStart=>exact ⟨0,rfl,Nat.zero_le _,hide rfl,S.out⟩
        case round =>
          obtain ⟨k,rfl,hk,H,hS⟩:=hrel;have J:=hide hS;clear hS;have f:=J.out.2.2.2.2;by_cases al:k<A.length
          · obtain ⟨x,R⟩:∃ x,A[k]?=some x:=⟨_,List.getElem?_eq_getElem al⟩
            obtain ⟨g,o,rfl,hg,a0,a1,a2⟩:=J.out.2.2.2.1.at R;have a3:(0:Int)≤(k:Int):=om;have a4:(k:Int)<(A.length:Int):=om;have W:=hide R;clear R;go_wp2_with fail;refine (yh x _).mono ?_;rintro e w1 ⟨rfl,ah⟩;have V:=hide (J.out.call (show Below wr wr w1 from (ww ah).out));clear ah f;have f:=V.out.2.2.2.2;by_cases O:fN x=0
            · have aA:=hide (qf W.out H.out O)
              have ay:=hide O;rw [ay.out];clear O;go_wp2;go_roundw
              case rel=>exact ⟨k+1,by go_num,by omega,aA,V.out⟩
              case measure=>simp [intOf];omega
            · have I:=hide (show fk P A=fN x by rw [HT.out,wl W.out H.out O])
              go_wp2;go_ret;exact ⟨aZ I.out.symm,by (repeat' exact bel)⟩
          · have I := hide (show fk P A = 0 by
              have h:=H.out;rw [List.take_of_length_le om] at h;rw [HT.out,h])
            go_wp2;go_ret;exact ⟨aZ I.out.symm,by (repeat' exact bel)⟩
def JE (b:Bool) (w:World) (m:Nat) (v:Value) (l:List Po):Prop:=b=true→Da w m v l
def Jy (b:Bool) (w:World) (m:Nat) (v:Value) (l:List Ac):Prop:=b=true→Gs w m v l
theorem JE.call {b:Bool} {w f:World} {m:Nat} {v:Value} {l:List Po} (h:JE b w m v l) (o:Below w w f):JE b f m v l:=fun e=>nQ (h e) o
theorem Jy.call {b:Bool} {w f:World} {m:Nat} {v:Value} {l:List Ac} (h:Jy b w m v l) (o:Below w w f):Jy b f m v l:=fun e=>rq (h e) o
def Js (w:World) (m:Nat) (x y:Value) (P:List Po) (A:List Ac):Prop:=Da w m x P∧Gs w m y A
theorem Js.call {w o:World} {m:Nat} {x y:Value} {P:List Po} {A:List Ac} (h:Js w m x y P A) (f:Below w w o):Js o m x y P A:=⟨nQ h.1 f,rq h.2 f⟩
theorem Db (d:Nat) (a b x y:Int) (w:World):(Op.equalIn (d+2) 32 (.agg #[a,b]) (.agg #[x,y])).run Tryz.prog w=.ok (a==x&&b==y) w:=by
 have F:=Tryz.underlying3;have o:=Tryz.isAgg3;have H:=Tryz.sizeOf3;have G:=Tryz.underlying2;have E:=Tryz.isAgg2;have I:=Tryz.sizeOf2;rw [run_equalIn_struct w _ _ _ _ (by simp [Program.fieldsOf,Tryz.underlying32]) (by kernel_rfl)];simp only [Program.fieldsOf,Tryz.underlying32];go_simp;by_cases f:a=x <;> by_cases h:b=y <;> simp [f,h]
@[go_sem high] theorem JU (a b x y:Int) (w:World):(binOp .eql 32 (.agg #[a,b]) (.agg #[x,y])).run Tryz.prog w=.ok (.bool (a==x&&b==y)) w:=by
 rw [run_eql_struct,Db 9998];rfl
@[go_sem high] theorem Kb (a b x y:Int) (w:World):(binOp .neq 32 (.agg #[a,b]) (.agg #[x,y])).run Tryz.prog w=.ok (.bool (!(a==x&&b==y))) w:=by
 rw [run_neq_struct,Db 9998];rfl
def Jv (a b c x y z:Int):Bool:=JK a b x y&&c==z
theorem JZ (n:Nat) (a b c x y z:Int) (w:World):(Op.equalIn (n+3) 47 (.agg #[a,b,c]) (.agg #[x,y,z])).run Tryz.prog w=.ok (Jv a b c x y z) w:=by
 have E:=Tryz.underlying2;have f:=Tryz.isAgg2;have F:=Tryz.sizeOf2;have h:=Tryz.isAgg45;have G:=Tryz.sizeOf45;have o:=yy n a b x y w;rw [run_equalIn_struct w _ _ _ _ (by simp [Program.fieldsOf,Tryz.underlying47]) (by kernel_rfl)];simp only [Program.fieldsOf,Tryz.underlying47];go_simp;simp only [Jv,JK]
 repeat' split
 all_goals simp_all
@[go_sem high] theorem KQ (a b c x y z:Int) (w:World):(binOp .neq 47 (.agg #[a,b,c]) (.agg #[x,y,z])).run Tryz.prog w=.ok (.bool (!Jv a b c x y z)) w:=by
 rw [run_neq_struct,JZ 9997];rfl
def LJ (P:List Po) (A:List Ac) (E F h o:Value) (f w:World):Prop:=ap w f #[E,F] 30∧ap w (f+1) #[h,o] 30∧cL w E P∧eo w F A∧cL w h P∧eo w o A∧Below f f w
theorem LJ.call {P:List Po} {A:List Ac} {F G o E:Value} {I w H:World} (h:LJ P A F G o E I w) (f:Below w w H):LJ P A F G o E I H:=
 ⟨h.1.call f,h.2.1.call f,h.2.2.1.call f,h.2.2.2.1.call f,h.2.2.2.2.1.call f,h.2.2.2.2.2.1.call f,h.2.2.2.2.2.2.trans (f.mono h.2.2.2.2.2.2.size)⟩
end
section
open Go.RowKit Qd
section
variable (P:List Po) (A:List Ac) (v1 v2:Value) (w:World) (h1:cL w v1 P) (h2:eo w v2 A) (hv:v1=.slice none 0 0∨∃ ad cap,v1=.slice (some ad) P.length cap) (hv2:v2=.slice none 0 0∨∃ ad cap,v2=.slice (some ad) A.length cap) (hl:P.length≤100000∧A.length≤100000)
include h1 h2 hv hv2 hl
end
theorem rI.trans {w E F:World} (h:rI w E) (k:rI E F):rI w F:=⟨Nat.le_trans h.1 k.1,fun B f t o G=>k.2 B f t o (h.2 B f t o G)⟩
theorem rE.trans {w E F:World} (h:rE w E) (k:rE E F):rE w F:=⟨Nat.le_trans h.1 k.1,fun B f t o G=>k.2 B f t o (h.2 B f t o G)⟩
theorem rI.refl (w:World):rI w w:=⟨Nat.le_refl _,fun _ _ _ _ h=>h⟩
theorem rE.refl (w:World):rE w w:=⟨Nat.le_refl _,fun _ _ _ _ h=>h⟩
end
section
open Go.ChangeShapes Go.WideShapes Go.ChangeAt Go.RowKit Qd
section
variable {H:Type} {enc:TypeId × Value→H} {base:Nat} {spare:Nat→Bool} {held:Bool}
def Al (a:Ac):Prop:=aX a.a∧aX a.b∧aX a.n
def Ge (p:Po):Prop:=aX p.day∧aX p.n
theorem As:Tryz.prog.cellsOf 47=3:=by kernel_rfl
theorem xx:Tryz.prog.cellsOf 30=2:=by kernel_rfl
theorem vB:Tryz.prog.cellsOf 27=1:=by kernel_rfl
theorem xg:Tryz.prog.cellsOf 28=1:=by kernel_rfl
theorem CF:Tryz.prog.cellsOf 2=1:=by kernel_rfl
theorem vE:Tryz.prog.cellsOf 45=2:=by kernel_rfl
theorem E4 {w:World} {n:Nat} {o:List Value} {x:DataW H × List MemPlace} (V:o.length=3) (h:DataW.trod enc Tryz.prog w base spare held n 47 o=some x) :
  ∃ a:Ac,o=[.int .i64 a.a,.int .i64 a.b,.int .i64 a.n]∧Al a:=by
 match o,V with
 | [c0,c1,c2],_ =>
  obtain ⟨xs,k,_,hx,_,f,R⟩:=DataW.trod_struct Tryz.underlying47 h
  match xs,f with
  | [y0,y1],_ =>
   have J:=R 0 _ rfl;have O:=R 1 _ rfl;simp [jD,CF,vE] at J O;obtain ⟨zs,m,_,_,_,E,S⟩:=DataW.trod_struct Tryz.underlying45 J
   match zs,E with
   | [z0,z1],_ =>
    have T:=S 0 _ rfl;have U:=S 1 _ rfl;simp [jD] at T U;obtain ⟨x0,F,_,W⟩:=DataW.trod_int Tryz.underlying3 T;obtain ⟨x1,G,_,s1⟩:=DataW.trod_int Tryz.underlying3 U;obtain ⟨x2,I,_,s2⟩:=DataW.trod_int Tryz.underlying2 O;simp only [List.cons.injEq,and_true] at F G I;subst F G I;exact ⟨⟨x0,x1,x2⟩,rfl,mZ W,mZ s1,mZ s2⟩
theorem Ce {w:World} {I:Nat} {v:Value} {x:DataW H × List MemPlace} (hf:DataW.trod enc Tryz.prog w base spare held I 28 [v]=some x) :
  ∃ A:List Ac,eo w v A∧(∀ x∈A,Al x)∧A.length≤9223372036854775807:=by
 rcases Go.Deep.open_slice Tryz.underlying28 hf with ⟨E,_⟩ | ⟨G,h,cap,m,n,D,Pl,E,_,ah,S,hm,_,T⟩
 ·simp at E
  subst E;exact ⟨[],eo.nil w,by simp,by simp⟩
 ·simp at E
  subst E;have al:h≤m:=by rw [hm];split <;> omega
  have ab:∀ i,i<h→∃ x:Ac,w.cell? (G.add (i*3))=some (.int .i64 x.a)∧w.cell? (G.add (i*3+1))=some (.int .i64 x.b)∧w.cell? (G.add (i*3+2))=some (.int .i64 x.n)∧Al x:=by
   intro i hi;obtain ⟨cs,g0,g1⟩:=T i om;rw [As] at g0;obtain ⟨_,J,f⟩:=World.cells?_some g0;obtain ⟨x,e,F⟩:=E4 J g1;subst e;have e0:=f 0 om;have e1:=f 1 om;have e2:=f 2 om;rw [Go.Deep.add_add] at e0 e1 e2;exact ⟨x,by simpa using e0,by simpa using e1,by simpa using e2,F⟩
  obtain ⟨q,V⟩:=Go.Deep.choose_lt (α:=Ac) ab;refine ⟨(List.range h).map q,⟨some G,cap,by simp,fun i x F=>?_⟩,?_,by simp;unfold maxLen at S;omega⟩
  ·simp only [List.getElem?_map,Option.map_eq_some_iff,List.getElem?_range] at F
   obtain ⟨j,hj,rfl⟩:=F;have U:i<h∧j=i:=by
    rw [List.getElem?_eq_some_iff] at hj;obtain ⟨E,R⟩:=hj;simp at E R;exact ⟨E,R.symm⟩
   obtain ⟨hi,rfl⟩:=U;obtain ⟨k0,k1,k2,_⟩:=V j hi;obtain ⟨z0,_⟩:=V 0 om;obtain ⟨b,o,O⟩:=G;have W:O=none:=by simpa [Addr.add] using World.cell?_spot z0
   subst W;have c0:w.cell? ⟨b,o+j*3,none⟩=some (.int .i64 (q j).a):=by
    rw [← k0];by_cases h0:j=0
    ·subst h0;simp [Addr.add]
    ·have R:j*3≠0:=om
     simp [Addr.add,R]
   have c1:w.cell? ⟨b,o+j*3+1,none⟩=some (.int .i64 (q j).b):=by
    rw [← k1];simp [Addr.add,Nat.add_assoc]
   have c2:w.cell? ⟨b,o+j*3+2,none⟩=some (.int .i64 (q j).n):=by
    rw [← k2];simp [Addr.add,Nat.add_assoc]
   exact ⟨b,o,rfl,zm c0,c0,c1,c2⟩
  ·intro x F
   simp only [List.mem_map,List.mem_range] at F;obtain ⟨i,hi,rfl⟩:=F;exact (V i hi).2.2.2
theorem yx {w:World} {I:Nat} {v:Value} {x:DataW H × List MemPlace} (hf:DataW.trod enc Tryz.prog w base spare held I 27 [v]=some x) :
  ∃ P:List Po,cL w v P∧(∀ x∈P,Ge x)∧P.length≤9223372036854775807:=by
 rcases Go.Deep.open_slice_pairs Tryz.underlying27 Tryz.underlying32 (by kernel_rfl) rfl rfl (by kernel_rfl) (by kernel_rfl) hf with ⟨f,_⟩ | ⟨ad,h,cap,m,n,T,U,D0,D1,P0,P1,f,_,aq,ab,hm,_,G⟩
 ·simp at f
  subst f;exact ⟨[],cL.nil w,by simp,by simp⟩
 ·simp at f
  subst f;have ay:h≤m:=by rw [hm];split <;> omega
  have O:∀ i,i<h→∃ x y:Int,T i=.int .i64 x∧U i=.int .i64 y∧aX x∧aX y:=by
   intro i hi;obtain ⟨_,_,g0,g1⟩:=G i om;obtain ⟨x,E,_,s0⟩:=DataW.trod_int Tryz.underlying3 g0;obtain ⟨y,F,_,s1⟩:=DataW.trod_int Tryz.underlying2 g1;simp only [List.cons.injEq,and_true] at E F;exact ⟨x,y,E,F,mZ s0,mZ s1⟩
  refine ⟨(List.range h).map fun i=>⟨L8 (T i),L8 (U i)⟩,⟨some ad,cap,by simp,fun i x J=>?_⟩,?_,by simp;unfold maxLen at ab;omega⟩
  ·simp only [List.getElem?_map,Option.map_eq_some_iff,List.getElem?_range] at J
   obtain ⟨j,hj,rfl⟩:=J;have ah:i<h∧j=i:=by
    rw [List.getElem?_eq_some_iff] at hj;obtain ⟨f,S⟩:=hj;simp at f S;exact ⟨f,S.symm⟩
   obtain ⟨hi,rfl⟩:=ah;obtain ⟨x,y,E,F,_,_⟩:=O j hi;obtain ⟨k0,k1,_,_⟩:=G j om;obtain ⟨z0,_,_,_⟩:=G 0 om;obtain ⟨b,o,R⟩:=ad;have al:R=none:=by simpa [Addr.add] using World.cell?_spot z0
   subst al;have V:w.cell? ⟨b,o+j*2,none⟩=some (T j):=by
    rw [← k0];by_cases W:j=0
    ·subst W;simp [Addr.add]
    ·have S:j*2≠0:=om
     simp [Addr.add,S]
   have c1:w.cell? ⟨b,o+j*2+1,none⟩=some (U j):=by
    rw [← k1];simp [Addr.add,Nat.add_assoc]
   rw [E] at V;rw [F] at c1;exact ⟨b,o,rfl,zm V,by rw [E];exact V,by rw [F];exact c1⟩
  ·intro x J
   simp only [List.mem_map,List.mem_range] at J;obtain ⟨i,hi,rfl⟩:=J;obtain ⟨x,y,E,F,W,f⟩:=O i hi;rw [E,F];exact ⟨W,f⟩
theorem rT {w:World} {r:Reach} {V:Nat} {v:Value} {d:DataW H} {p:List MemPlace} (J:Value.okWide Tryz.prog w r V 30 v) (h:DataW.Trod enc Tryz.prog w base spare held 30 v d p) :
  ∃ (O R:Value) (P:List Po) (A:List Ac),v=.agg #[O,R]∧cL w O P∧eo w R A∧(∀ x∈P,Ge x)∧(∀ x∈A,Al x)∧P.length≤9223372036854775807∧A.length≤9223372036854775807:=by
 have ab:=J;obtain ⟨W,rfl,o⟩:=okWide_struct Tryz.underlying30 J;rw [xx] at o;obtain ⟨l⟩:=W
 match l,o with
 | [c0,c1],_ =>
  obtain ⟨E,hf⟩:=h;obtain ⟨xs,n,_,hx,_,f,I⟩:=DataW.trod_struct Tryz.underlying30 hf
  match xs,f with
  | [y0,y1],_ =>
   have F:=I 0 _ rfl;have G:=I 1 _ rfl;simp [Value.cells,vB,xg] at F G;obtain ⟨P,p1,p2,p3⟩:=yx F;obtain ⟨A,S,T,U⟩:=Ce G;exact ⟨c0,c1,P,A,rfl,p1,S,p2,T,p3,U⟩
end
end
end Go.Proofs.YtjhhmeoibfdcmaaGreat
