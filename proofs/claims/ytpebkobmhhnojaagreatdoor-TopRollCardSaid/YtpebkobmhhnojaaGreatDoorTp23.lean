/- Lemmas. -/
import Derived.Deep.AppendLies
import Derived.Deep.RegionLaw
import Derived.Laws.OwnMore
import Derived.WideKeyRuns
import Derived.Test.YtpebkobmhhnojaaGreatDoorTp06
import Derived.Test.YtpebkobmhhnojaaGreatDoorTp11
import Derived.Test.YtpebkobmhhnojaaGreatDoorTp16
import Derived.Test.YtpebkobmhhnojaaGreatDoorTp19
set_option linter.unusedSimpArgs false
set_option linter.unusedVariables false
set_option maxRecDepth 100000
set_option maxHeartbeats 12800000
namespace Go.Proofs.YtpebkobmhhnojaaGreatDoor
section
open Go.RowKit Qd
structure Po where
 day:Int
 n:Int
 deriving DecidableEq,Inhabited
structure Ac where
 a:Int
 b:Int
 n:Int
 deriving DecidableEq,Inhabited
def eu (w:World) (v:Value) (l:List Po):Prop:=∃ f cap,v=.slice f l.length cap∧∀ (i:Nat) (x:Po),l[i]?=some x→∃ g o,f=some ⟨g,o,none⟩∧g<w.heap.size∧w.cell? ⟨g,o+i*2,none⟩=some (.int .i64 x.day)∧w.cell? ⟨g,o+i*2+1,none⟩=some (.int .i64 x.n)
def iA (w:World) (v:Value) (l:List Ac):Prop:=∃ f cap,v=.slice f l.length cap∧∀ (i:Nat) (x:Ac),l[i]?=some x→∃ g o,f=some ⟨g,o,none⟩∧g<w.heap.size∧w.cell? ⟨g,o+i*3,none⟩=some (.int .i64 x.a)∧w.cell? ⟨g,o+i*3+1,none⟩=some (.int .i64 x.b)∧w.cell? ⟨g,o+i*3+2,none⟩=some (.int .i64 x.n)
theorem eu.call {w w':World} {v:Value} {l:List Po} (h:eu w v l) (f:Below w w w'):eu w' v l:=by
 obtain ⟨F,cap,I,J⟩:=h;refine ⟨F,cap,I,fun i x O=>?_⟩;obtain ⟨g,o,e,E,G,H⟩:=J i x O;exact ⟨g,o,e,Nat.lt_of_lt_of_le E f.size,(f.cell (p:=⟨g,_,none⟩) E).trans G,(f.cell (p:=⟨g,_,none⟩) E).trans H⟩
theorem iA.call {w w':World} {v:Value} {l:List Ac} (h:iA w v l) (f:Below w w w'):iA w' v l:=by
 obtain ⟨F,cap,J,O⟩:=h;refine ⟨F,cap,J,fun i x U=>?_⟩;obtain ⟨g,o,e,E,G,H,I⟩:=O i x U;exact ⟨g,o,e,Nat.lt_of_lt_of_le E f.size,(f.cell (p:=⟨g,_,none⟩) E).trans G,(f.cell (p:=⟨g,_,none⟩) E).trans H,(f.cell (p:=⟨g,_,none⟩) E).trans I⟩
theorem eu.at {w:World} {f:Option Addr} {n cap:Nat} {l:List Po} (h:eu w (.slice f n cap) l) {i:Nat} {x:Po} (I:l[i]?=some x):∃ g o,f=some ⟨g,o,none⟩∧g<w.heap.size∧w.cell? ⟨g,o+i*2,none⟩=some (.int .i64 x.day)∧w.cell? ⟨g,o+i*2+1,none⟩=some (.int .i64 x.n):=by
 obtain ⟨F,E,G,H⟩:=h;cases G;exact H i x I
theorem iA.at {w:World} {f:Option Addr} {n cap:Nat} {l:List Ac} (h:iA w (.slice f n cap) l) {i:Nat} {x:Ac} (I:l[i]?=some x):∃ g o,f=some ⟨g,o,none⟩∧g<w.heap.size∧w.cell? ⟨g,o+i*3,none⟩=some (.int .i64 x.a)∧w.cell? ⟨g,o+i*3+1,none⟩=some (.int .i64 x.b)∧w.cell? ⟨g,o+i*3+2,none⟩=some (.int .i64 x.n):=by
 obtain ⟨F,E,G,H⟩:=h;cases G;exact H i x I
theorem eu.nil (w:World):eu w (.slice none 0 0) []:=⟨none,0,rfl,fun i x h=>by simp at h⟩
theorem iA.nil (w:World):iA w (.slice none 0 0) []:=⟨none,0,rfl,fun i x h=>by simp at h⟩
def mI (l:List Po):Bool:=l.all fun p=>cH p.day
def gR (a:Ac):Int:=if cH a.a&&cH a.b then (if a.b<a.a then 1 else 0) else 4
def fo:List Ac→Int
 | []=>0
 | a::l=>if gR a=0 then fo l else gR a
def fu (P:List Po) (A:List Ac):Int:=if 4096<P.length∨4096<A.length then 6 else if mI P then fo A else 4
theorem vT {P:List Po} {j:Nat} {x:Po} (f:P[j]?=some x) (h:mI (P.take j)=true):mI (P.take (j+1))=cH x.day:=by
 rw [List.take_add_one,f];unfold mI at h ⊢;simp [h]
theorem CS {P:List Po} {j:Nat} {x:Po} (o:P[j]?=some x) (h:cH x.day=false):mI P=false:=by
 cases f:mI P
 ·rfl
 ·rw [mI,List.all_eq_true] at f
  rw [f x (List.mem_of_getElem? o)] at h;cases h
theorem nY (l m:List Ac) (h:fo l=0):fo (l++m)=fo m:=by
 induction l with
 | nil=>rfl
 | cons a l o =>
  by_cases f:gR a=0
  ·simp only [fo,if_pos f,List.cons_append] at h ⊢;exact o h
  ·simp only [fo,if_neg f] at h;exact absurd h f
theorem rS {A:List Ac} {j:Nat} {x:Ac} (o:A[j]?=some x) (h:fo (A.take j)=0) (f:gR x=0):fo (A.take (j+1))=0:=by
 rw [List.take_add_one,o,nY _ _ h];simp [fo,f]
theorem zU {A:List Ac} {j:Nat} {x:Ac} (E:A[j]?=some x) (h:fo (A.take j)=0) (f:¬ gR x=0):fo A=gR x:=by
 have o:=(List.getElem?_eq_some_iff.1 E).1;have e:A=A.take j++x::A.drop (j+1):=by
  have F:A.drop j=x::A.drop (j+1):=by rw [List.drop_eq_getElem_cons o];congr 1;exact Option.some.inj ((List.getElem?_eq_getElem o).symm.trans E)
  rw [← F,List.take_append_drop]
 rw [e,nY _ _ h];simp [fo,f]
def ku (l:List Int):Int:=if l.all cH then 0 else 4
theorem oe (day:Int) (w:World) :
  Calls Tryz.prog 37 #[day] w fun e w'=>(∃ a b c:Int,e=.returned (.tuple #[.agg #[a,b,c],nC day]))∧Below w w w':=by
 cases h:cH day
 ·refine (Dk day w (by simp [h])).mono ?_
  rintro e w' ⟨rfl,f⟩;exact ⟨⟨0,0,0,by simp [nC,h]⟩,f⟩
 ·refine (im day w (by simp [h])).mono ?_
  rintro e w' ⟨rfl,f⟩;exact ⟨⟨dr day,io day,xz day,by simp [nC,h]⟩,f⟩
theorem oi (g o cap:Nat) (l:List Int) (w:World) (hg:g<w.heap.size) (hc:∀ (i:Nat) (x:Int),l[i]?=some x→w.cell? ⟨g,o+i,none⟩=some (.int .i64 x)) (hn:l.length≤1000) :
    Calls Tryz.prog 69 #[.slice (some ⟨g,o,none⟩) l.length cap] w fun e w'=>e=.returned (.int .i64 (ku l))∧Below w w w':=by
  have HC:=hide hc;clear hc;go_enter Tryz.func69,Tryz.ntmps69;go_wp2_with fail;go_loopw [9] (fun s wr=>∃ j:Nat,s=.int .i64 j∧j≤l.length∧Hid ((l.take j).all cH=true)∧Below w w wr) (fun s _=>(l.length+5-intOf s).toNat)
  case atStart=>exact ⟨0,rfl,Nat.zero_le _,hide af,by (repeat' exact bel)⟩
  case round =>
    obtain ⟨j,rfl,hj,HA,f⟩:=hrel;have I:=hide f;have ac:=f.size;clear f;by_cases V:j<l.length
    · obtain ⟨x,H⟩:∃ x,l[j]?=some x:=⟨_,List.getElem?_eq_getElem V⟩
      have ha:wr.cell? ⟨g,o+j,none⟩=some (.int .i64 x):=by
        rw [I.out.cell (p:=⟨g,o+j,none⟩) hg];exact HC.out j x H
      have aa:(0:Int)≤(j:Int):=om;have ab:(j:Int)<(l.length:Int):=om;cases G:cH x
      · have J := hide (show ku l = 4 by
          unfold ku;rw [if_neg];rw [List.all_eq_true];intro h;rw [h x (List.mem_of_getElem? H)] at G;cases G)
        have O:=hide (show nC x=4 by simp [nC,G]);have U:=hide (fun w=>oe x w);clear H G;go_wp2_with fail;refine (U.out _).mono ?_;rintro e Y ⟨⟨a,b,c,rfl⟩,E⟩;rw [O.out];have F:Hid (Below w w Y):=au I.out E;have W:=E.size;clear E;have f:=F.out;go_wp2;go_ret;exact ⟨bD J.out.symm,by (repeat' exact bel)⟩
      · have O:=hide (show nC x=0 by simp [nC,G])
        have HT:=hide (show (l.take (j+1)).all cH=true by rw [List.take_add_one,H];simpa [G] using HA.out);have U:=hide (fun w=>oe x w);clear H G;go_wp2_with fail;refine (U.out _).mono ?_;rintro e Y ⟨⟨a,b,c,rfl⟩,E⟩;rw [O.out];have F:Hid (Below w w Y):=au I.out E;have W:=E.size;clear E;have f:=F.out;go_wp2;go_roundw
        case rel=>exact ⟨j+1,by go_num,by omega,HT,by (repeat' exact bel)⟩
        case measure=>simp [intOf];omega
    · have J := hide (show ku l = 0 by
        unfold ku;rw [if_pos];have h:=HA.out
        rwa [List.take_of_length_le om] at h)
      have f:=I.out;go_wp2;go_ret;exact ⟨bD J.out.symm,by (repeat' exact bel)⟩
theorem vq (x:Ac) (w:World):Calls Tryz.prog 70 #[.agg #[x.a,x.b,x.n]] w fun e w'=>e=.returned (.int .i64 (gR x))∧Below w w w':=by
 have J:=hide (show ku [x.a,x.b]=if cH x.a&&cH x.b then 0 else 4 by simp [ku]);go_enter Tryz.func70,Tryz.ntmps70;go_wp2_with fail;refine (oi (w.heap.size+1) 0 2 [x.a,x.b] _ af (fun i y o=>by
  match i,o with
  | 0,o=>simp at o;subst o;simp
  | 1,o=>simp at o;subst o;simp) af).mono ?_
 rintro e G ⟨rfl,f⟩;rw [J.out];have O:G.cell? ⟨w,0,none⟩=some (.int .i64 x.a):=ap f;have r1:G.cell? ⟨w,1,none⟩=some (.int .i64 x.b):=ap f;have F:Hid (Below w w G):=ww f;clear f;have I:=F.out;cases h:(cH x.a&&cH x.b)
 ·have E:=hide (show gR x=4 by simp [gR,h])
  simp only [Bool.false_eq_true,if_false];go_wp2;go_ret;exact ⟨bD E.out.symm,by (repeat' exact bel)⟩
 ·simp only [if_true]
  by_cases H:x.b<x.a
  ·have E:=hide (show gR x=1 by simp only [gR,h,if_true,if_pos H])
   go_wp2
   all_goals first
    | (exfalso;omega)
    | (go_ret;exact ⟨bD E.out.symm,by (repeat' exact bel)⟩)
  ·have E:=hide (show gR x=0 by simp only [gR,h,if_true,if_neg H])
   go_wp2
   all_goals first
    | (exfalso;omega)
    | (go_ret;exact ⟨bD E.out.symm,by (repeat' exact bel)⟩)
theorem fW {a b:Value} {t:TypeId} {B:Nat} {w:World} (h:ax w B #[a,b] t):(w.cell? ⟨B,0,none⟩=some a∧w.cell? ⟨B,1,none⟩=some b)∧w.frozen? ⟨B,0,none⟩=false∧w.frozen? ⟨B,1,none⟩=false∧B<w.heap.size:=⟨⟨h.cell 0,h.cell 1⟩,by simp [World.frozen?,show w.heap[B]?=_ from h],by simp [World.frozen?,show w.heap[B]?=_ from h],h.lt⟩
def wu (P:List Po) (A:List Ac) (f h:Value) (B:Nat) (o w:World):Prop:=ax w B #[f,h] 53∧B<w.heap.size∧eu w f P∧iA w h A∧Below B o w
theorem wu.call {P:List Po} {A:List Ac} {o E:Value} {B:Nat} {F w w':World} (h:wu P A o E B F w) (f:Below w w w'):wu P A o E B F w':=⟨h.1.call f,Nat.lt_of_lt_of_le h.2.1 f.size,h.2.2.1.call f,h.2.2.2.1.call f,h.2.2.2.2.trans (f.mono (Nat.le_of_lt h.2.1))⟩
theorem rM (P:List Po) (A:List Ac) (v1 v2:Value) (w:World) (h1:eu w v1 P) (h2:iA w v2 A) (hl:P.length≤100000∧A.length≤100000):Calls Tryz.prog 39 #[.agg #[v1,v2]] w fun e w'=>e=.returned (.int .i64 (fu P A))∧Below w w w':=by
  have H0:=hide (show wu P A v1 v2 w.heap.size w (w.alloc (.cells #[v1,v2] 53)) from ⟨ax.new _ _ _,by simp,h1.call ar,h2.call ar,by (repeat' exact bel)⟩);obtain ⟨ac,G,rfl,aB⟩:=h1;obtain ⟨ad,H,rfl,a3⟩:=h2;clear aB a3;go_enter Tryz.func39,Tryz.ntmps39;by_cases E:4096<P.length∨4096<A.length
  · have J:=hide (show fu P A=6 by unfold fu;rw [if_pos E])
    go_wp2
    all_goals (go_ret;exact ⟨bD J.out.symm,by (repeat' exact bel)⟩)
  · have a8:P.length≤4096∧A.length≤4096:=om
    have Y:=hide (show fu P A=if mI P then fo A else 4 by unfold fu;rw [if_neg E]);clear E;rcases Nat.lt_or_ge P.length A.length with a7 | a7
    all_goals
      go_wp2_with fail;go_loopw [20] (fun s wr=>∃ j:Nat,s=.int .i64 j∧j≤P.length∧Hid (mI (P.take j)=true)∧wu P A (.slice ac P.length G) (.slice ad A.length H) w.heap.size w wr) (fun s _=>(P.length+5-intOf s).toNat)
      case atStart=>exact ⟨0,rfl,Nat.zero_le _,hide (by simp [mI]),H0.out⟩
      case round =>
        obtain ⟨j,rfl,hj,HA,hS⟩:=hrel;have W:=hide hS;clear hS;have f:=W.out.2.2.2.2;by_cases a6:j<P.length
        · obtain ⟨x,V⟩:∃ x,P[j]?=some x:=⟨_,List.getElem?_eq_getElem a6⟩
          obtain ⟨g,o,rfl,hg,a0,a1⟩:=W.out.2.2.1.at V;have a4:(0:Int)≤(j:Int):=om;have a5:(j:Int)<(P.length:Int):=om;have aq:=hide (show ku [x.day]=if cH x.day then 0 else 4 by simp [ku]);have HX:=hide V;clear V;go_wp2_with fail;refine (oi (wr.heap.size+1) 0 1 [x.day] _ af (fun i y hy=>by
            match i,hy with
            | 0,hy=>simp at hy;subst hy;simp) af).mono ?_
          rintro e w1 ⟨rfl,F⟩;rw [aq.out];have aa:=hide (W.out.call (show Below wr wr w1 from (ww F).out));clear F f;have f:=aa.out.2.2.2.2;cases U:cH x.day
          · have J:=hide (show fu P A=4 by rw [Y.out,CS HX.out U];rfl)
            simp only [Bool.false_eq_true,if_false];go_wp2;go_ret;exact ⟨bD J.out.symm,by (repeat' exact bel)⟩
          · have HT:=hide (show mI (P.take (j+1))=true by rw [vT HX.out HA.out,U])
            simp only [if_true];go_wp2;go_roundw
            case rel=>exact ⟨j+1,by go_num,by omega,HT,aa.out⟩
            case measure=>simp [intOf];omega
        · have HT := hide (show fu P A = fo A by
            have h:=HA.out;rw [List.take_of_length_le om] at h;rw [Y.out,h];rfl)
          obtain ⟨⟨b0,b1⟩,_⟩:=fW W.out.1;obtain ⟨wo,al⟩:∃ wo:World,wo=wr:=⟨_,rfl⟩;rw [← al] at W b0 b1 ⊢;clear al f;go_wp2_with fail;go_loopw [35] (fun s wr=>∃ j:Nat,s=.int .i64 j∧j≤A.length∧Hid (fo (A.take j)=0)∧wu P A (.slice ac P.length G) (.slice ad A.length H) w.heap.size w wr) (fun s _=>(A.length+5-intOf s).toNat)
          case atStart=>exact ⟨0,rfl,Nat.zero_le _,hide rfl,W.out⟩
          case round =>
            obtain ⟨k,rfl,hk,I,hS⟩:=hrel;have O:=hide hS;clear hS;have f:=O.out.2.2.2.2;by_cases ah:k<A.length
            · obtain ⟨x,V⟩:∃ x,A[k]?=some x:=⟨_,List.getElem?_eq_getElem ah⟩
              obtain ⟨g,o,rfl,hg,a0,a1,a2⟩:=O.out.2.2.2.1.at V;have a4:(0:Int)≤(k:Int):=om;have a5:(k:Int)<(A.length:Int):=om;have HX:=hide V;clear V;go_wp2_with fail;refine (vq x _).mono ?_;rintro e w1 ⟨rfl,F⟩;have ab:=hide (O.out.call (show Below wr wr w1 from (ww F).out));clear F f;have f:=ab.out.2.2.2.2;by_cases U:gR x=0
              · have aA:=hide (rS HX.out I.out U)
                have ao:=hide U;rw [ao.out];clear U;go_wp2;go_roundw
                case rel=>exact ⟨k+1,by go_num,by omega,aA,ab.out⟩
                case measure=>simp [intOf];omega
              · have J:=hide (show fu P A=gR x by rw [HT.out,zU HX.out I.out U])
                go_wp2;go_ret;exact ⟨bD J.out.symm,by (repeat' exact bel)⟩
            · have J := hide (show fu P A = 0 by
                have h:=I.out;rw [List.take_of_length_le om] at h;rw [HT.out,h])
              go_wp2;go_ret;exact ⟨bD J.out.symm,by (repeat' exact bel)⟩
abbrev er:=List (Un × Value × Nat)
def dC (L:er):Array MapEntry:=(L.map fun e=>({ key:=aZ e.1,val:=e.2.1,born:=e.2.2 }:MapEntry)).toArray
def bq:er→Un→Option Value
 | [],_=>none
 | e::L,x=>if lN x.lv x.yr x.ix e.1.lv e.1.yr e.1.ix=true then some e.2.1 else bq L x
theorem ti (L:er) (x:Un) (i:Nat) (w:World):∃ j,(Instr.findAsking 33 (aZ x) (dC L).toList i).run Tryz.prog w=.ok ((bq L x).map fun v=>(j,v)) w:=by
 induction L generalizing i with
 | nil=>exact ⟨0,by simp [dC,Instr.findAsking,bq]⟩
 | cons e L G =>
  obtain ⟨j,F⟩:=G (i+1);have h:(Op.equal 33 (aZ x) (aZ e.1)).run Tryz.prog w=.ok (lN x.lv x.yr x.ix e.1.lv e.1.yr e.1.ix) w:=kQ 9998 x.lv x.yr x.ix e.1.lv e.1.yr e.1.ix w;have E:(dC (e::L)).toList=({ key:=aZ e.1,val:=e.2.1,born:=e.2.2 }:MapEntry)::(dC L).toList:=by simp [dC]
  rw [E];cases f:lN x.lv x.yr x.ix e.1.lv e.1.yr e.1.ix
  ·refine ⟨j,?_⟩
   rw [f] at h;have o:bq (e::L) x=bq L x:=by simp [bq,f]
   rw [o];simp only [Instr.findAsking,Sem.run_bind,h,Result.andThen_ok,Bool.false_eq_true,if_false];exact F
  ·refine ⟨i,?_⟩
   rw [f] at h;have o:bq (e::L) x=some e.2.1:=by simp [bq,f]
   rw [o];simp only [Instr.findAsking,Sem.run_bind,h,Result.andThen_ok,if_true];rfl
theorem AN (L:er) (x:Un) (w:World):∃ j,(Instr.findKey 33 (aZ x) (dC L).toList).run Tryz.prog w=.ok ((bq L x).map fun v=>(j,v)) w:=by
 obtain ⟨j,f⟩:=ti L x 0 w;refine ⟨j,?_⟩;rw [run_findKey_eq (P:=Tryz.prog) (w:=w) (k:=33) (by simp [Tryz.underlying33]) (aZ x) (dC L).toList];exact f
theorem pG (x:Un) (e:Bool) (w:World):(Instr.checkKey e 10000 33 (aZ x)).run Tryz.prog w=.ok () w:=by
 have f:=Tryz.underlying3;have o:=Tryz.isAgg3;have F:=Tryz.sizeOf3;have h:=Tryz.underlying33;have E:=fun a=>MapKept.run_checkKey (P:=Tryz.prog) (w:=w) (k:=.int .i64 a) f (by simp [MapKept.IsKey]) e 9998
 show (Instr.checkKey e (9999+1) 33 (aZ x)).run Tryz.prog w=.ok () w;rw [Instr.checkKey];simp only [Sem.run_bind,run_underlying h,Result.andThen_ok];go_simp
theorem wl (L:er) (M f:Nat) (x:Un) (w:World) (h:w.heap[M]?=some (.map (dC L) f)) :
  (Instr.lookup 94 (.map (some M)) (aZ x) false).run Tryz.prog w=.ok ((bq L x).getD (.slice none 0 0)) w:=by
 have F:=Tryz.underlying94;obtain ⟨j,o⟩:=AN L x w;have E:(zeroValue 60).run Tryz.prog w=.ok (.slice none 0 0) w:=by kernel_rfl
 simp only [Instr.lookup,Sem.run_bind,run_underlying F,Result.andThen_ok,MapKept.run_getObj_map h,Sem.run_pure,pG,o];cases bq L x <;> simp [E,Result.andThen]
def nI (w:World) (m:Value) (f:Un→List Int):Prop:=∃ (M:Nat) (L:er) (h:Nat),m=.map (some M)∧w.heap[M]?=some (.map (dC L) h)∧∀ x,lC w ((bq L x).getD (.slice none 0 0)) (f x)
theorem nI.call {w w':World} {m:Value} {f:Un→List Int} (h:nI w m f) (F:Below w w w'):nI w' m f:=by
 obtain ⟨M,L,o,G,E,H⟩:=h;exact ⟨M,L,o,G,(F.block M (Array.getElem?_eq_some_iff.1 E).1).trans E,fun x=>(H x).call F⟩
theorem nI.look {w:World} {m:Value} {f:Un→List Int} (h:nI w m f) (x:Un):∃ v,(Instr.lookup 94 m (aZ x) false).run Tryz.prog w=.ok v w∧lC w v (f x):=by
 obtain ⟨M,L,o,rfl,E,F⟩:=h;exact ⟨_,wl L M o x w E,F x⟩
theorem wY {c:aC} {u:Un} (h:aU c u=0):aU c ⟨1,u.yr,1⟩=0:=by
 have f:=kl (ev h).1 1 om om;have o:=(ev h).2.2.2.1;exact uF (u:=⟨1,u.yr,1⟩) f (Int.le_refl 1) (by simp [aM])
theorem F3 (c:aC) (y:Int) (f:aP c y 1601=0) (i:Nat) (hi:i<ce c y):jt c y 5 i=i:=oz c y f 5 om om i i (by rw [FZ];exact hi) (by simp [aX]) (by simp [aX])
theorem Ic {c:aC} {u:Un} (h:aU c u=0):tD c u 5=0∧Dv c u 5=⟨5,u.yr,(dz c u:Int)+1⟩∧Di c u 5=⟨5,u.yr,(dT c u:Int)⟩:=by
 obtain ⟨F,G,E,f,_,_⟩:=ev h;have o:=iR h;have e:tD c u 5=0:=by simp [tD,h,E]
 refine ⟨e,?_,?_⟩
 ·rw [Dv,if_pos e,F3 c u.yr f _ om]
 ·rw [Di,if_pos e,F3 c u.yr f _ om]
  congr 1;omega
def en (f:Un→List Int) (y:Int) (a:Nat):Nat→List Int
 | 0=>[]
 | k+1=>en f y a k++f ⟨5,y,(a:Int)+1+k⟩
def kp (s:Sp) (P:List Po):List Int:=(P.filter fun p=>decide (s.a≤p.day)&&decide (p.day≤s.b)).map Po.n
theorem BM {s:Sp} {P:List Po} {j:Nat} {x:Po} (f:P[j]?=some x) (h:s.a≤x.day∧x.day≤s.b):kp s (P.take (j+1))=kp s (P.take j)++[x.n]:=by
 rw [List.take_add_one,f,kp,kp];simp [h]
theorem D6 {s:Sp} {P:List Po} {j:Nat} {x:Po} (f:P[j]?=some x) (h:¬ (s.a≤x.day∧x.day≤s.b)):kp s (P.take (j+1))=kp s (P.take j):=by
 rw [List.take_add_one,f,kp,kp];have:(decide (s.a≤x.day)&&decide (x.day≤s.b))=false:=by
  rw [Bool.and_eq_false_iff,decide_eq_false_iff_not,decide_eq_false_iff_not];omega
 simp [this]
theorem AX (s:Sp) (P:List Po):(kp s P).length≤P.length:=by rw [kp,List.length_map];exact List.length_filter_le _ _
theorem Bh {s:Sp} {P:List Po} {n:Int} (h:n∈kp s P):∃ p∈P,p.n=n:=by
 simp only [kp,List.mem_map,List.mem_filter] at h;obtain ⟨p,⟨f,_⟩,o⟩:=h;exact ⟨p,f,o⟩
theorem wZ (f:Un→List Int) (y:Int) (a:Nat) {k n:Nat} (h:k≤n):(en f y a k).length≤(en f y a n).length:=by
  induction n with
  | zero => obtain rfl : k = 0 := by omega
            exact Nat.le_refl _
  | succ n E =>
    rcases Nat.lt_or_ge k (n+1) with o | o
    · have:=E om;simp only [en,List.length_append];omega
    · obtain rfl:k=n+1:=om
      exact Nat.le_refl _
theorem yK {f:Un→List Int} {y:Int} {a n:Nat} {x:Int} (h:x∈en f y a n):∃ w,x∈f w:=by
 induction n with
 | zero=>simp [en] at h
 | succ n o =>
  rw [en,List.mem_append] at h;rcases h with h | h
  ·exact o h
  ·exact ⟨_,h⟩
def ij (c:aC) (u:Un) (P:List Po) (f:Un→List Int):List Int:=en f u.yr (dz c u) (dT c u-dz c u)++kp (dD c u) P
def oU (c:aC) (u:Un) (f h o:Nat) (l:List Int) (v:Value) (E w:World):Prop:=
 ax w f #[.int .i64 (dD c u).a,.int .i64 (dD c u).b] 35∧ax w h #[.int .i64 5,u.yr,.int .i64 (dT c u:Int)] 33∧f<o∧h<o∧o≤w.heap.size ∧
 w.ownsRow o 2 1 v l.length (cd l)∧E.heap.size≤o∧Below E E w
theorem jO {w w':World} {f:Nat} {v:Value} {l:List Int} (h:w.ownsRow f 2 1 v l.length (cd l)) (O:Below w w w'):w'.ownsRow f 2 1 v l.length (cd l):=by
 refine ⟨h.1,?_⟩;rcases h.2 with H | ⟨G,o,F,U,I,E,J⟩
 ·exact .inl H
 ·exact .inr ⟨G,o,F,U,I,(O.block G (Array.getElem?_eq_some_iff.1 E).1).trans E,J⟩
theorem oU.call {c:aC} {u:Un} {f o F:Nat} {l:List Int} {v:Value} {G w w':World} (h:oU c u f o F l v G w) (E:Below w w w'):oU c u f o F l v G w':=by
 obtain ⟨H,I,J,O,U,V,W,Y⟩:=h;exact ⟨H.call E,I.call E,J,O,Nat.le_trans U E.size,jO V E,W,Y.trans (E.mono om)⟩
theorem oU.app {c:aC} {u:Un} {f o E:Nat} {l l':List Int} {v v':Value} {J w w':World} (h:oU c u f o E l v J w) (Y:w'.ownsRow E 2 1 v' l'.length (cd l')) (F:Below E w w'):oU c u f o E l' v' J w':=by
 obtain ⟨O,U,G,H,V,h6,I,W⟩:=h;exact ⟨O.below F G,U.below F H,G,H,Nat.le_trans V F.size,Y,I,W.trans (F.mono I)⟩
theorem fU {a b c:Value} {t:TypeId} {B:Nat} {w:World} (h:ax w B #[a,b,c] t):(w.cell? ⟨B,0,none⟩=some a∧w.cell? ⟨B,1,none⟩=some b∧w.cell? ⟨B,2,none⟩=some c)∧B<w.heap.size:=⟨⟨h.cell 0,h.cell 1,h.cell 2⟩,h.lt⟩
theorem nS.blk {w w':World} {B:Nat} {f:Array Value} {t:TypeId} (o:nS w w') (h:ax w B f t) (E:t≠2:=by decide):ax w' B f t:=o.2 B f t E h
def yZ (w:World) (v:Value):Int:=match v with
 | .pointer (some p)=>(match w.cell? ⟨p.block,2,none⟩ with | some (.int _ n)=>n | _=>0)
 | _=>0
theorem qV {w:World} {B:Nat} {a b:Value} {n:Int} {t:TypeId} (h:ax w B #[a,b,n] t):yZ w (.pointer (some ⟨B,0,none⟩))=n:=by
 have f:w.cell? ⟨B,2,none⟩=some (.int .i64 n):=h.cell 2;simp [yZ,f]
theorem zg (c:aC) (u:Un) (P:List Po) (f:Un→List Int) (vp m:Value) (w:World) (hn:c.name.size≤1000) (hU:aU c u=0) (hP:eu w vp P) (hm:nI w m f) (hp:P.length≤5000) (ah:∀ p∈P,bE p.n)
    (ac:∀ x,∀ n∈f x,bE n) (aq:(en f u.yr (dz c u) (dT c u-dz c u)).length≤500000) :
    Calls Tryz.prog 41 #[aI c,aZ u,vp,m] w fun e w'=>e=.returned (.tuple #[kh (ij c u P f).sum,iH (ij c u P f).sum])∧Below w w w':=by
  obtain ⟨e0,eA,eB⟩:=Ic hU;have ba:=iR hU;have cl:=gH c u.yr (ev hU).2.2.2.1;have HU:=hide hU;have HD:=hide (And.intro e0 (And.intro eA eB));have HP:=hide hP;have HM:=hide hm;obtain ⟨ad,cap,rfl,_⟩:=hP;obtain ⟨M,_,_,rfl,_⟩:=hm;have HF:=hide (And.intro ah ac);obtain ⟨a,ha⟩:∃ a,dz c u=a:=⟨_,rfl⟩;obtain ⟨b,hb⟩:∃ b,dT c u=b:=⟨_,rfl⟩;have aa:=hide (And.intro ha hb);rw [ha,hb] at ba aq HD;have a5:=hide aq;obtain ⟨sa,bs⟩:∃ x,(dD c u).a=x:=⟨_,rfl⟩;obtain ⟨sb,bt⟩:∃ x,(dD c u).b=x:=⟨_,rfl⟩;have G:=hide (And.intro bs bt);clear hU e0 eA eB ah ac ha hb aq bs bt;have cr:a<b∧b≤60:=om;clear ba cl;simp only [aI,aZ];go_enter Tryz.func41,Tryz.ntmps41;go_wp2_with fail;refine (fI c u _ hn).mono ?_;rintro e w1 ⟨rfl,V⟩;rw [HU.out];simp only [cw];rw [G.out.1,G.out.2];have c2:w.heap.size+1<w1.heap.size:=am V;have bx:Hid (Below w w w1):=ww V;have b5:=hide (az V ag (bG (be w c) af _));have b8:=hide (cD V af (zQ w c u));obtain ⟨q0,q1,q2,q3,q4,q5,q6,q7,q8,q9,c4,c5,c6,c7⟩:=b5.out;obtain ⟨u0,u1,u2⟩:=b8.out;have c1:w.heap.size<w1.heap.size:=om;clear V;go_wp2_with fail;refine (AM c u 5 _ hn).mono ?_;rintro e J ⟨rfl,ao⟩;rw [HD.out.1,HD.out.2.1,HD.out.2.2];simp only [aZ];have bX:Hid (Below w w J):=au bx.out ao;have a7:=hide (ax.call (ax.new w1 #[sa,sb] 35) ao);have c3:w1.heap.size<J.heap.size:=a7.out.lt;clear ao;go_wp2_with fail;obtain ⟨W,hW⟩:∃ W:World,W=((J.alloc (.cells #[.int .i64 5,u.yr,.int .i64 ((a:Int)+1)] 33)).alloc (.cells #[.int .i64 5,u.yr,.int .i64 (b:Int)] 33)).alloc (.cells #[.int .i64 5,u.yr,.int .i64 ((a:Int)+1)] 33):=⟨_,rfl⟩;have H0:=hide (show ax W (J+2) #[.int .i64 5,u.yr,.int .i64 ((a:Int)+1+(0:Nat))] 33∧oU c u w1.heap.size (J.heap.size+1) (J.heap.size+3) (en f u.yr a 0) (.slice none 0 0) w W by
    have U:=bX.out;rw [hW];refine ⟨?_,?_,?_,by omega,by omega,by simp,?_,by omega,by (repeat' exact bel)⟩
    · rw [Int.natCast_zero,Int.add_zero]
      have h:=ax.new ((J.alloc (.cells #[.int .i64 5,u.yr,.int .i64 ((a:Int)+1)] 33)).alloc (.cells #[.int .i64 5,u.yr,.int .i64 (b:Int)] 33)) #[.int .i64 5,u.yr,.int .i64 ((a:Int)+1)] 33;simpa using h
    · rw [G.out.1,G.out.2];exact ((a7.out.alloc _).alloc _).alloc _
    · rw [aa.out.2]
      have h:=(ax.new (J.alloc (.cells #[.int .i64 5,u.yr,.int .i64 ((a:Int)+1)] 33)) #[.int .i64 5,u.yr,.int .i64 (b:Int)] 33).alloc (.cells #[.int .i64 5,u.yr,.int .i64 ((a:Int)+1)] 33);simpa using h
    · exact World.ownsRow_nil _ _ _ _)
  rw [← hW];clear hW;go_loopw [14,15] (fun aA aB wr=>∃ (k al:Nat),aB=.pointer (some ⟨al,0,none⟩)∧k≤b-a∧ax wr al #[.int .i64 5,u.yr,.int .i64 ((a:Int)+1+(k:Nat))] 33∧oU c u w1.heap.size (J.heap.size+1) (J.heap.size+3) (en f u.yr a k) aA w wr) (fun _ aB wr=>(1000-yZ wr aB).toNat)
  case atStart=>exact ⟨0,_,rfl,Nat.zero_le _,H0.out⟩
  case round =>
    obtain ⟨k,al,rfl,hk,ab,hS⟩:=hrel;have HS:=hide hS;have O:=hide ab;clear hS ab;obtain ⟨⟨a0,a1,a2⟩,a3⟩:=fU O.out;obtain ⟨⟨b0,b1,b2⟩,b3⟩:=fU HS.out.2.1;rw [aa.out.2] at b2;by_cases c0:k<b-a
    · obtain ⟨vv,bk,bp⟩:=(HM.out.call (HS.out.2.2.2.2.2.2.2)).look ⟨5,u.yr,(a:Int)+1+(k:Nat)⟩
      simp only [aZ] at bk;have HN:=hide bp;clear bp;have a6:=hide (show en f u.yr a (k+1)=en f u.yr a k++f ⟨5,u.yr,(a:Int)+1+(k:Nat)⟩ from rfl);have Y:=wZ f u.yr a (show k+1≤b-a by omega);rw [a6.out,List.length_append] at Y;have cs:=a5.out;go_wp2_with ((at_builtin;refine qe rfl _ _ rfl (J.heap.size+3) _ _ _ _ rfl HS.out.2.2.2.2.2.1 rfl HN.out om HS.out.2.2.2.2.1 ?_));intro v' w' F I H;have a8:=hide (H.blk O.out);have b6:=hide (HS.out.app (l':=en f u.yr a k++f ⟨5,u.yr,(a:Int)+1+(k:Nat)⟩) (by rw [List.length_append];exact F) I);clear F I H a0 a1 a2 a3 b0 b1 b2 b3 bk;obtain ⟨⟨a0,a1,a2⟩,a3⟩:=fU a8.out;have KN:=hide (show ax (w'.alloc (.cells #[.int .i64 5,u.yr,.int .i64 ((a:Int)+1+((k+1:Nat):Int))] 33)) w'.heap.size #[.int .i64 5,u.yr,.int .i64 ((a:Int)+1+((k+1:Nat):Int))] 33 from ax.new _ _ _);have ek:(a:Int)+1+((k+1:Nat):Int)=(a:Int)+1+(k:Int)+1:=om;have E:=hide (b6.out.call (show Below w' w' (w'.alloc (.cells #[.int .i64 5,u.yr,.int .i64 ((a:Int)+1+((k+1:Nat):Int))] 33)) by (repeat' exact bel)));rw [ek] at KN E;have cb:=hide (qV KN.out);have cc:=hide (qV O.out);go_wp2;go_roundw
      case rel=>exact ⟨k+1,_,rfl,by omega,by rw [ek];exact KN.out,by rw [a6.out];exact E.out⟩
      case measure=>rw [cb.out,cc.out];omega
    · have ca:k=b-a:=om
      subst ca;clear a0 a1 a2 a3;obtain ⟨wo,bw⟩:∃ wo:World,wo=wr:=⟨_,rfl⟩;rw [← bw] at HS b0 b1 b2 b3 O ⊢;obtain ⟨⟨a0,a1,a2⟩,a3⟩:=fU O.out;clear bw;go_wp2_with fail;go_loopw [14,55] (fun aA a4 wr=>∃ j:Nat,a4=.int .i64 j∧j≤P.length∧oU c u w1.heap.size (J.heap.size+1) (J.heap.size+3) (en f u.yr a (b-a)++kp (dD c u) (P.take j)) aA w wr) (fun _ a4 _=>(6000-intOf a4).toNat)
      case atStart=>exact ⟨0,rfl,Nat.zero_le _,by simpa [kp] using HS.out⟩
      case round =>
        obtain ⟨j,rfl,hj,a9⟩:=hrel;have E:=hide a9;clear a9;have bh:=AX (dD c u) (P.take j);rw [List.length_take] at bh;have bd:=a5.out;by_cases bl:j<P.length
        · obtain ⟨x,hx⟩:∃ x,P[j]?=some x:=⟨_,List.getElem?_eq_getElem bl⟩
          obtain ⟨g,o,rfl,hg,d0,d1⟩:=(HP.out.call E.out.2.2.2.2.2.2.2).at hx;obtain ⟨⟨z0,z1⟩,_⟩:=fW E.out.1;rw [G.out.1] at z0;rw [G.out.2] at z1;have zB:=E.out.1.lt;have cy:(0:Int)≤(j:Int):=om;have cS:(j:Int)<(P.length:Int):=om;have HX:=hide hx;clear hx;by_cases hd:sa≤x.day∧x.day≤sb
          · have HI:=hide (show kp (dD c u) (P.take (j+1))=kp (dD c u) (P.take j)++[x.n] from BM HX.out (by rw [G.out.1,G.out.2];exact hd))
            obtain ⟨cv,bc⟩:=hd;go_wp2_with ((at_builtin;refine qe rfl _ _ rfl (J.heap.size+3) _ _ _ [x.n] rfl (jO E.out.2.2.2.2.2.1 ?hw) rfl (.inr ⟨_,_,by simp,rfl,?hl,?hc⟩) ag ?hz ?_))
            case hw=>(repeat' exact bel)
            case hl=>simp
            case hc =>
              intro i y hy
              match i,hy with
              | 0,hy=>simp at hy;subst hy;simp
            case hz=>have:=E.out.2.2.2.2.1;simp;omega
            intro v' w' F I H;have b7:=hide ((E.out.call (show Below wr wr ((wr.alloc (.cells #[.int .i64 x.day,.int .i64 x.n] 138)).alloc (.cells #[.int .i64 x.n] 2)) by (repeat' exact bel))).app (l':=en f u.yr a (b-a)++kp (dD c u) (P.take j)++[x.n]) (by simpa using F) I);clear F I H;go_wp2;go_roundw
            case rel=>exact ⟨j+1,by go_num,by omega,by rw [HI.out,← List.append_assoc];exact b7.out⟩
            case measure=>simp [intOf];omega
          · have HI:=hide (show kp (dD c u) (P.take (j+1))=kp (dD c u) (P.take j) from D6 HX.out (by rw [G.out.1,G.out.2];exact hd))
            rcases (show x.day<sa∨(sa≤x.day∧sb<x.day) by omega) with bc | ⟨bc,cx⟩
            all_goals
              go_wp2
              all_goals first
                | (exfalso;omega)
                | skip
              go_roundw
              case rel=>exact ⟨j+1,by go_num,by omega,by rw [HI.out];exact E.out.call ar⟩
              case measure=>simp [intOf];omega
        · have HT := hide (show ij c u P f = en f u.yr a (b - a) ++ kp (dD c u) (P.take j) by
            rw [List.take_of_length_le om,ij,aa.out.1,aa.out.2])
          have HN:=hide (wD E.out.2.2.2.2.2.1);rw [← HT.out] at HN;have b9:=hide (show ∀ y∈ij c u P f,bE y from fun y hy=>by
            rcases List.mem_append.1 hy with h | h
            · obtain ⟨z,hz⟩:=yK h;exact HF.out.2 z y hz
            · obtain ⟨p,cp,rfl⟩:=Bh h;exact HF.out.1 p cp)
          have Y:=hide (show (ij c u P f).length≤1000000 by rw [HT.out,List.length_append];omega);have U:=E.out.2.2.2.2.2.2.2;clear bd bh;go_wp2_with fail;refine (rh _ (ij c u P f) _ HN.out b9.out Y.out).mono ?_;rintro e w3 ⟨rfl,bb⟩;have b4:=hide (U.trans (bb.mono U.size));clear bb;go_wp2;go_ret2;exact ⟨rfl,b4.out⟩
def tE (c:aC) (u:Un) (P:List Po) (A:List Ac) (h:Int) (f:Un→List Int):Int:=if aU c u=0 then (if fu P A=0 then (if h=0 then iH (ij c u P f).sum else h) else fu P A) else aU c u
def tV (c:aC) (u:Un) (P:List Po) (A:List Ac) (h:Int) (f:Un→List Int):Int:=if aU c u=0∧fu P A=0∧h=0 then kh (ij c u P f).sum else 0
def BY (c:aC) (y:Int) (A:List Ac) (o:Value) (h:Int) (f:Un→List Int):Prop:=∀ W,iA W o A →
 Calls Tryz.prog 40 #[aI c,y,o] W fun e w'=>(∃ m,e=.returned (.tuple #[m,h])∧(h=0→nI w' m f)∧(¬ h=0→m=.map none))∧Below W W w'
def Au (c:aC) (u:Un) (f h:Value) (B:Nat) (o w:World):Prop:=bR w B c∧i8 w (B+1) u∧ax w (B+2) #[f,h] 53∧B+2<w.heap.size∧Below B o w
theorem Au.call {c:aC} {u:Un} {o E:Value} {B:Nat} {F w w':World} (h:Au c u o E B F w) (f:Below w w w'):Au c u o E B F w':=by
 obtain ⟨G,H,I,J,O⟩:=h;exact ⟨az f om G,cD f om H,I.call f,Nat.lt_of_lt_of_le J f.size,O.trans (f.mono om)⟩
theorem Au.cells {c:aC} {u:Un} {f o:Value} {B:Nat} {E w:World} (h:Au c u f o B E w):bR w B c∧i8 w (B+1) u∧(w.cell? ⟨B+1+1,0,none⟩=some f∧w.cell? ⟨B+1+1,1,none⟩=some o)∧B+2<w.heap.size∧Below B E w:=⟨h.1,h.2.1,⟨h.2.2.1.cell 0,h.2.2.1.cell 1⟩,h.2.2.2.1,h.2.2.2.2⟩
def GF (l:List Po):List Value:=l.flatMap fun p=>[.int .i64 p.day,.int .i64 p.n]
abbrev EJ (w:World) (base:Nat) (v:Value) (l:List Po):Prop:=w.ownsRow base 138 2 v l.length (GF l)
theorem vE {w w':World} {f:Nat} {v:Value} {l:List Po} (h:EJ w f v l) (O:Below w w w'):EJ w' f v l:=by
 refine ⟨h.1,?_⟩;rcases h.2 with H | ⟨G,o,F,U,I,E,J⟩
 ·exact .inl H
 ·exact .inr ⟨G,o,F,U,I,(O.block G (Array.getElem?_eq_some_iff.1 E).1).trans E,J⟩
end
end Go.Proofs.YtpebkobmhhnojaaGreatDoor
