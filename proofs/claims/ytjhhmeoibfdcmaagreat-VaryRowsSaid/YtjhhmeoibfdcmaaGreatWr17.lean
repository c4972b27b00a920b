/- Lemmas. -/
import Derived.Deep.AppendLies
import Derived.Deep.RegionLaw
import Derived.Laws.OwnMore
import Derived.WideKeyRuns
import Derived.Test.YtjhhmeoibfdcmaaGreatWr04
import Derived.Test.YtjhhmeoibfdcmaaGreatWr09
import Derived.Test.YtjhhmeoibfdcmaaGreatWr10
import Derived.Test.YtjhhmeoibfdcmaaGreatWr13
set_option linter.unusedSimpArgs false
set_option linter.unusedVariables false
set_option maxRecDepth 100000
set_option maxHeartbeats 12800000
namespace Go.Proofs.YtjhhmeoibfdcmaaGreat
section
open Go.RowKit Qd
structure Po where
 day:Int
 n:Int
 deriving DecidableEq,Inhabited
structure Ac where
 a:Int
 b:Int
 n:Int
 deriving DecidableEq,Inhabited
def cL (w:World) (v:Value) (l:List Po):Prop:=∃ f cap,v=.slice f l.length cap∧∀ (i:Nat) (x:Po),l[i]?=some x→∃ g o,f=some ⟨g,o,none⟩∧g<w.heap.size∧w.cell? ⟨g,o+i*2,none⟩=some (.int .i64 x.day)∧w.cell? ⟨g,o+i*2+1,none⟩=some (.int .i64 x.n)
def eo (w:World) (v:Value) (l:List Ac):Prop:=∃ f cap,v=.slice f l.length cap∧∀ (i:Nat) (x:Ac),l[i]?=some x→∃ g o,f=some ⟨g,o,none⟩∧g<w.heap.size∧w.cell? ⟨g,o+i*3,none⟩=some (.int .i64 x.a)∧w.cell? ⟨g,o+i*3+1,none⟩=some (.int .i64 x.b)∧w.cell? ⟨g,o+i*3+2,none⟩=some (.int .i64 x.n)
theorem cL.call {w F:World} {v:Value} {l:List Po} (h:cL w v l) (f:Below w w F):cL F v l:=by
 obtain ⟨G,cap,J,O⟩:=h;refine ⟨G,cap,J,fun i x R=>?_⟩;obtain ⟨g,o,e,E,H,I⟩:=O i x R;exact ⟨g,o,e,Nat.lt_of_lt_of_le E f.size,(f.cell (p:=⟨g,_,none⟩) E).trans H,(f.cell (p:=⟨g,_,none⟩) E).trans I⟩
theorem eo.call {w F:World} {v:Value} {l:List Ac} (h:eo w v l) (f:Below w w F):eo F v l:=by
 obtain ⟨G,cap,O,R⟩:=h;refine ⟨G,cap,O,fun i x S=>?_⟩;obtain ⟨g,o,e,E,H,I,J⟩:=R i x S;exact ⟨g,o,e,Nat.lt_of_lt_of_le E f.size,(f.cell (p:=⟨g,_,none⟩) E).trans H,(f.cell (p:=⟨g,_,none⟩) E).trans I,(f.cell (p:=⟨g,_,none⟩) E).trans J⟩
theorem cL.at {w:World} {f:Option Addr} {n cap:Nat} {l:List Po} (h:cL w (.slice f n cap) l) {i:Nat} {x:Po} (I:l[i]?=some x):∃ g o,f=some ⟨g,o,none⟩∧g<w.heap.size∧w.cell? ⟨g,o+i*2,none⟩=some (.int .i64 x.day)∧w.cell? ⟨g,o+i*2+1,none⟩=some (.int .i64 x.n):=by
 obtain ⟨F,E,G,H⟩:=h;cases G;exact H i x I
theorem eo.at {w:World} {f:Option Addr} {n cap:Nat} {l:List Ac} (h:eo w (.slice f n cap) l) {i:Nat} {x:Ac} (I:l[i]?=some x):∃ g o,f=some ⟨g,o,none⟩∧g<w.heap.size∧w.cell? ⟨g,o+i*3,none⟩=some (.int .i64 x.a)∧w.cell? ⟨g,o+i*3+1,none⟩=some (.int .i64 x.b)∧w.cell? ⟨g,o+i*3+2,none⟩=some (.int .i64 x.n):=by
 obtain ⟨F,E,G,H⟩:=h;cases G;exact H i x I
theorem cL.nil (w:World):cL w (.slice none 0 0) []:=⟨none,0,rfl,fun i x h=>by simp at h⟩
theorem eo.nil (w:World):eo w (.slice none 0 0) []:=⟨none,0,rfl,fun i x h=>by simp at h⟩
def lW (l:List Po):Bool:=l.all fun p=>cH p.day
def fN (a:Ac):Int:=if cH a.a&&cH a.b then (if a.b<a.a then 1 else 0) else 4
def fT:List Ac→Int
 | []=>0
 | a::l=>if fN a=0 then fT l else fN a
def fk (P:List Po) (A:List Ac):Int:=if 4096<P.length∨4096<A.length then 6 else if lW P then fT A else 4
theorem rR {P:List Po} {j:Nat} {x:Po} (f:P[j]?=some x) (h:lW (P.take j)=true):lW (P.take (j+1))=cH x.day:=by
 rw [List.take_add_one,f];unfold lW at h ⊢;simp [h]
theorem Af {P:List Po} {j:Nat} {x:Po} (o:P[j]?=some x) (h:cH x.day=false):lW P=false:=by
 cases f:lW P
 ·rfl
 ·rw [lW,List.all_eq_true] at f
  rw [f x (List.mem_of_getElem? o)] at h;cases h
theorem rs (l m:List Ac) (h:fT l=0):fT (l++m)=fT m:=by
 induction l with
 | nil=>rfl
 | cons a l o =>
  by_cases f:fN a=0
  ·simp only [fT,if_pos f,List.cons_append] at h ⊢;exact o h
  ·simp only [fT,if_neg f] at h;exact absurd h f
theorem qf {A:List Ac} {j:Nat} {x:Ac} (o:A[j]?=some x) (h:fT (A.take j)=0) (f:fN x=0):fT (A.take (j+1))=0:=by
 rw [List.take_add_one,o,rs _ _ h];simp [fT,f]
theorem wl {A:List Ac} {j:Nat} {x:Ac} (E:A[j]?=some x) (h:fT (A.take j)=0) (f:¬ fN x=0):fT A=fN x:=by
 have o:=(List.getElem?_eq_some_iff.1 E).1;have e:A=A.take j++x::A.drop (j+1):=by
  have F:A.drop j=x::A.drop (j+1):=by rw [List.drop_eq_getElem_cons o];congr 1;exact Option.some.inj ((List.getElem?_eq_getElem o).symm.trans E)
  rw [← F,List.take_append_drop]
 rw [e,rs _ _ h];simp [fT,f]
def mB (l:List Int):Int:=if l.all cH then 0 else 4
theorem sH (day:Int) (w:World) :
  Calls Tryz.prog 81 #[day] w fun e o=>(∃ a b c:Int,e=.returned (.tuple #[.agg #[a,b,c],nI day]))∧Below w w o:=by
 cases h:cH day
 ·refine (IE day w (by simp [h])).mono ?_
  rintro e o ⟨rfl,f⟩;exact ⟨⟨0,0,0,by simp [nI,h]⟩,f⟩
 ·refine (xf day w (by simp [h])).mono ?_
  rintro e o ⟨rfl,f⟩;exact ⟨⟨dL day,jU day,wU day,by simp [nI,h]⟩,f⟩
theorem st (g o cap:Nat) (l:List Int) (w:World) (hg:g<w.heap.size) (W:∀ (i:Nat) (x:Int),l[i]?=some x→w.cell? ⟨g,o+i,none⟩=some (.int .i64 x)) (hn:l.length≤1000) :
    Calls Tryz.prog 44 #[.slice (some ⟨g,o,none⟩) l.length cap] w fun e w'=>e=.returned (.int .i64 (mB l))∧Below w w w':=by
  have HC:=hide W;clear W;go_enter Tryz.func44,Tryz.ntmps44;go_wp2_with fail;go_loopw [9] (fun s wr=>∃ j:Nat,s=.int .i64 j∧j≤l.length∧Hid ((l.take j).all cH=true)∧Below w w wr) (fun s _=>(l.length+5-intOf s).toNat)
  case atStart=>exact ⟨0,rfl,Nat.zero_le _,hide ac,by (repeat' exact bel)⟩
  case round =>
    obtain ⟨j,rfl,hj,V,f⟩:=hrel;have I:=hide f;have ah:=f.size;clear f;by_cases S:j<l.length
    · obtain ⟨x,H⟩:∃ x,l[j]?=some x:=⟨_,List.getElem?_eq_getElem S⟩
      have ha:wr.cell? ⟨g,o+j,none⟩=some (.int .i64 x):=by
        rw [I.out.cell (p:=⟨g,o+j,none⟩) hg];exact HC.out j x H
      have ab:(0:Int)≤(j:Int):=om;have ad:(j:Int)<(l.length:Int):=om;cases G:cH x
      · have J := hide (show mB l = 4 by
          unfold mB;rw [if_neg];rw [List.all_eq_true];intro h;rw [h x (List.mem_of_getElem? H)] at G;cases G)
        have O:=hide (show nI x=4 by simp [nI,G]);have R:=hide (fun w=>sH x w);clear H G;go_wp2_with fail;refine (R.out _).mono ?_;rintro e U ⟨⟨a,b,c,rfl⟩,E⟩;rw [O.out];have F:Hid (Below w w U):=ao I.out E;have T:=E.size;clear E;have f:=F.out;go_wp2;go_ret;exact ⟨aZ J.out.symm,by (repeat' exact bel)⟩
      · have O:=hide (show nI x=0 by simp [nI,G])
        have HT:=hide (show (l.take (j+1)).all cH=true by rw [List.take_add_one,H];simpa [G] using V.out);have R:=hide (fun w=>sH x w);clear H G;go_wp2_with fail;refine (R.out _).mono ?_;rintro e U ⟨⟨a,b,c,rfl⟩,E⟩;rw [O.out];have F:Hid (Below w w U):=ao I.out E;have T:=E.size;clear E;have f:=F.out;go_wp2;go_roundw
        case rel=>exact ⟨j+1,by go_num,by omega,HT,by (repeat' exact bel)⟩
        case measure=>simp [intOf];omega
    · have J := hide (show mB l = 0 by
        unfold mB;rw [if_pos];have h:=V.out
        rwa [List.take_of_length_le om] at h)
      have f:=I.out;go_wp2;go_ret;exact ⟨aZ J.out.symm,by (repeat' exact bel)⟩
theorem A5 (x:Ac) (w:World):Calls Tryz.prog 60 #[.agg #[x.a,x.b,x.n]] w fun e O=>e=.returned (.int .i64 (fN x))∧Below w w O:=by
 have J:=hide (show mB [x.a,x.b]=if cH x.a&&cH x.b then 0 else 4 by simp [mB]);go_enter Tryz.func60,Tryz.ntmps60;go_wp2_with fail;refine (st (w.heap.size+1) 0 2 [x.a,x.b] _ ac (fun i y o=>by
  match i,o with
  | 0,o=>simp at o;subst o;simp
  | 1,o=>simp at o;subst o;simp) ac).mono ?_
 rintro e G ⟨rfl,f⟩;rw [J.out];have R:G.cell? ⟨w,0,none⟩=some (.int .i64 x.a):=am f;have r1:G.cell? ⟨w,1,none⟩=some (.int .i64 x.b):=am f;have F:Hid (Below w w G):=ww f;clear f;have I:=F.out;cases h:(cH x.a&&cH x.b)
 ·have E:=hide (show fN x=4 by simp [fN,h])
  simp only [Bool.false_eq_true,if_false];go_wp2;go_ret;exact ⟨aZ E.out.symm,by (repeat' exact bel)⟩
 ·simp only [if_true]
  by_cases H:x.b<x.a
  ·have E:=hide (show fN x=1 by simp only [fN,h,if_true,if_pos H])
   go_wp2
   all_goals first
    | (exfalso;omega)
    | (go_ret;exact ⟨aZ E.out.symm,by (repeat' exact bel)⟩)
  ·have E:=hide (show fN x=0 by simp only [fN,h,if_true,if_neg H])
   go_wp2
   all_goals first
    | (exfalso;omega)
    | (go_ret;exact ⟨aZ E.out.symm,by (repeat' exact bel)⟩)
theorem fj {a b:Value} {t:TypeId} {B:Nat} {w:World} (h:ap w B #[a,b] t):(w.cell? ⟨B,0,none⟩=some a∧w.cell? ⟨B,1,none⟩=some b)∧w.frozen? ⟨B,0,none⟩=false∧w.frozen? ⟨B,1,none⟩=false∧B<w.heap.size:=⟨⟨h.cell 0,h.cell 1⟩,by simp [World.frozen?,show w.heap[B]?=_ from h],by simp [World.frozen?,show w.heap[B]?=_ from h],h.lt⟩
def sR (P:List Po) (A:List Ac) (f h:Value) (B:Nat) (o w:World):Prop:=ap w B #[f,h] 30∧B<w.heap.size∧cL w f P∧eo w h A∧Below B o w
theorem sR.call {P:List Po} {A:List Ac} {o E:Value} {B:Nat} {G w F:World} (h:sR P A o E B G w) (f:Below w w F):sR P A o E B G F:=⟨h.1.call f,Nat.lt_of_lt_of_le h.2.1 f.size,h.2.2.1.call f,h.2.2.2.1.call f,h.2.2.2.2.trans (f.mono (Nat.le_of_lt h.2.1))⟩
theorem md (P:List Po) (A:List Ac) (v1 v2:Value) (w:World) (h1:cL w v1 P) (h2:eo w v2 A) (hl:P.length≤100000∧A.length≤100000):Calls Tryz.prog 19 #[.agg #[v1,v2]] w fun e w'=>e=.returned (.int .i64 (fk P A))∧Below w w w':=by
  have H0:=hide (show sR P A v1 v2 w.heap.size w (w.alloc (.cells #[v1,v2] 30)) from ⟨ap.new _ _ _,by simp,h1.call an,h2.call an,by (repeat' exact bel)⟩);obtain ⟨ab,G,rfl,aB⟩:=h1;obtain ⟨ad,H,rfl,aF⟩:=h2;clear aB aF;go_enter Tryz.func19,Tryz.ntmps19;by_cases E:4096<P.length∨4096<A.length
  · have J:=hide (show fk P A=6 by unfold fk;rw [if_pos E])
    go_wp2
    all_goals (go_ret;exact ⟨aZ J.out.symm,by (repeat' exact bel)⟩)
  · have a7:P.length≤4096∧A.length≤4096:=om
    have U:=hide (show fk P A=if lW P then fT A else 4 by unfold fk;rw [if_neg E]);clear E;rcases Nat.lt_or_ge P.length A.length with a6 | a6
    all_goals
      go_wp2_with fail;go_loopw [20] (fun s wr=>∃ j:Nat,s=.int .i64 j∧j≤P.length∧Hid (lW (P.take j)=true)∧sR P A (.slice ab P.length G) (.slice ad A.length H) w.heap.size w wr) (fun s _=>(P.length+5-intOf s).toNat)
      case atStart=>exact ⟨0,rfl,Nat.zero_le _,hide (by simp [lW]),H0.out⟩
      case round =>
        obtain ⟨j,rfl,hj,HA,hS⟩:=hrel;have T:=hide hS;clear hS;have f:=T.out.2.2.2.2;by_cases a5:j<P.length
        · obtain ⟨x,S⟩:∃ x,P[j]?=some x:=⟨_,List.getElem?_eq_getElem a5⟩
          obtain ⟨g,o,rfl,hg,a0,a1⟩:=T.out.2.2.1.at S;have a3:(0:Int)≤(j:Int):=om;have a4:(j:Int)<(P.length:Int):=om;have ay:=hide (show mB [x.day]=if cH x.day then 0 else 4 by simp [mB]);have HX:=hide S;clear S;go_wp2_with fail;refine (st (wr.heap.size+1) 0 1 [x.day] _ ac (fun i y hy=>by
            match i,hy with
            | 0,hy=>simp at hy;subst hy;simp) ac).mono ?_
          rintro e w1 ⟨rfl,F⟩;rw [ay.out];have V:=hide (T.out.call (show Below wr wr w1 from (ww F).out));clear F f;have f:=V.out.2.2.2.2;cases R:cH x.day
          · have J:=hide (show fk P A=4 by rw [U.out,Af HX.out R];rfl)
            simp only [Bool.false_eq_true,if_false];go_wp2;go_ret;exact ⟨aZ J.out.symm,by (repeat' exact bel)⟩
          · have HT:=hide (show lW (P.take (j+1))=true by rw [rR HX.out HA.out,R])
            simp only [if_true];go_wp2;go_roundw
            case rel=>exact ⟨j+1,by go_num,by omega,HT,V.out⟩
            case measure=>simp [intOf];omega
        · have HT := hide (show fk P A = fT A by
            have h:=HA.out;rw [List.take_of_length_le om] at h;rw [U.out,h];rfl)
          obtain ⟨⟨b0,b1⟩,_⟩:=fj T.out.1;obtain ⟨wo,al⟩:∃ wo:World,wo=wr:=⟨_,rfl⟩;rw [← al] at T b0 b1 ⊢;clear al f;go_wp2_with fail;go_loopw [35] (fun s wr=>∃ j:Nat,s=.int .i64 j∧j≤A.length∧Hid (fT (A.take j)=0)∧sR P A (.slice ab P.length G) (.slice ad A.length H) w.heap.size w wr) (fun s _=>(A.length+5-intOf s).toNat)
          case atStart=>exact ⟨0,rfl,Nat.zero_le _,hide rfl,T.out⟩
          case round =>
            obtain ⟨k,rfl,hk,I,hS⟩:=hrel;have O:=hide hS;clear hS;have f:=O.out.2.2.2.2;by_cases ah:k<A.length
            · obtain ⟨x,S⟩:∃ x,A[k]?=some x:=⟨_,List.getElem?_eq_getElem ah⟩
              obtain ⟨g,o,rfl,hg,a0,a1,a2⟩:=O.out.2.2.2.1.at S;have a3:(0:Int)≤(k:Int):=om;have a4:(k:Int)<(A.length:Int):=om;have HX:=hide S;clear S;go_wp2_with fail;refine (A5 x _).mono ?_;rintro e w1 ⟨rfl,F⟩;have W:=hide (O.out.call (show Below wr wr w1 from (ww F).out));clear F f;have f:=W.out.2.2.2.2;by_cases R:fN x=0
              · have aA:=hide (qf HX.out I.out R)
                have aq:=hide R;rw [aq.out];clear R;go_wp2;go_roundw
                case rel=>exact ⟨k+1,by go_num,by omega,aA,W.out⟩
                case measure=>simp [intOf];omega
              · have J:=hide (show fk P A=fN x by rw [HT.out,wl HX.out I.out R])
                go_wp2;go_ret;exact ⟨aZ J.out.symm,by (repeat' exact bel)⟩
            · have J := hide (show fk P A = 0 by
                have h:=I.out;rw [List.take_of_length_le om] at h;rw [HT.out,h])
              go_wp2;go_ret;exact ⟨aZ J.out.symm,by (repeat' exact bel)⟩
abbrev fW:=List (Un × Value × Nat)
def eu (L:fW):Array MapEntry:=(L.map fun e=>({ key:=aC e.1,val:=e.2.1,born:=e.2.2 }:MapEntry)).toArray
def bE:fW→Un→Option Value
 | [],_=>none
 | e::L,x=>if tM x.lv x.yr x.ix e.1.lv e.1.yr e.1.ix=true then some e.2.1 else bE L x
theorem yN (L:fW) (x:Un) (i:Nat) (w:World):∃ j,(Instr.findAsking 26 (aC x) (eu L).toList i).run Tryz.prog w=.ok ((bE L x).map fun v=>(j,v)) w:=by
 induction L generalizing i with
 | nil=>exact ⟨0,by simp [eu,Instr.findAsking,bE]⟩
 | cons e L G =>
  obtain ⟨j,F⟩:=G (i+1);have h:(Op.equal 26 (aC x) (aC e.1)).run Tryz.prog w=.ok (tM x.lv x.yr x.ix e.1.lv e.1.yr e.1.ix) w:=no 9998 x.lv x.yr x.ix e.1.lv e.1.yr e.1.ix w;have E:(eu (e::L)).toList=({ key:=aC e.1,val:=e.2.1,born:=e.2.2 }:MapEntry)::(eu L).toList:=by simp [eu]
  rw [E];cases f:tM x.lv x.yr x.ix e.1.lv e.1.yr e.1.ix
  ·refine ⟨j,?_⟩
   rw [f] at h;have o:bE (e::L) x=bE L x:=by simp [bE,f]
   rw [o];simp only [Instr.findAsking,Sem.run_bind,h,Result.andThen_ok,Bool.false_eq_true,if_false];exact F
  ·refine ⟨i,?_⟩
   rw [f] at h;have o:bE (e::L) x=some e.2.1:=by simp [bE,f]
   rw [o];simp only [Instr.findAsking,Sem.run_bind,h,Result.andThen_ok,if_true];rfl
theorem D9 (L:fW) (x:Un) (w:World):∃ j,(Instr.findKey 26 (aC x) (eu L).toList).run Tryz.prog w=.ok ((bE L x).map fun v=>(j,v)) w:=by
 obtain ⟨j,f⟩:=yN L x 0 w;refine ⟨j,?_⟩;rw [run_findKey_eq (P:=Tryz.prog) (w:=w) (k:=26) (by simp [Tryz.underlying26]) (aC x) (eu L).toList];exact f
theorem sT (x:Un) (e:Bool) (w:World):(Instr.checkKey e 10000 26 (aC x)).run Tryz.prog w=.ok () w:=by
 have f:=Tryz.underlying3;have o:=Tryz.isAgg3;have F:=Tryz.sizeOf3;have h:=Tryz.underlying26;have E:=fun a=>MapKept.run_checkKey (P:=Tryz.prog) (w:=w) (k:=.int .i64 a) f (by simp [MapKept.IsKey]) e 9998
 show (Instr.checkKey e (9999+1) 26 (aC x)).run Tryz.prog w=.ok () w;rw [Instr.checkKey];simp only [Sem.run_bind,run_underlying h,Result.andThen_ok];go_simp
theorem Am (L:fW) (M f:Nat) (x:Un) (w:World) (h:w.heap[M]?=some (.map (eu L) f)) :
  (Instr.lookup 86 (.map (some M)) (aC x) false).run Tryz.prog w=.ok ((bE L x).getD (.slice none 0 0)) w:=by
 have F:=Tryz.underlying86;obtain ⟨j,o⟩:=D9 L x w;have E:(zeroValue 53).run Tryz.prog w=.ok (.slice none 0 0) w:=by kernel_rfl
 simp only [Instr.lookup,Sem.run_bind,run_underlying F,Result.andThen_ok,MapKept.run_getObj_map h,Sem.run_pure,sT,o];cases bE L x <;> simp [E,Result.andThen]
def pb (w:World) (m:Value) (f:Un→List Int):Prop:=∃ (M:Nat) (L:fW) (h:Nat),m=.map (some M)∧w.heap[M]?=some (.map (eu L) h)∧∀ x,oe w ((bE L x).getD (.slice none 0 0)) (f x)
theorem pb.call {w G:World} {m:Value} {f:Un→List Int} (h:pb w m f) (F:Below w w G):pb G m f:=by
 obtain ⟨M,L,o,H,E,I⟩:=h;exact ⟨M,L,o,H,(F.block M (Array.getElem?_eq_some_iff.1 E).1).trans E,fun x=>(I x).call F⟩
theorem pb.look {w:World} {m:Value} {f:Un→List Int} (h:pb w m f) (x:Un):∃ v,(Instr.lookup 86 m (aC x) false).run Tryz.prog w=.ok v w∧oe w v (f x):=by
 obtain ⟨M,L,o,rfl,E,F⟩:=h;exact ⟨_,Am L M o x w E,F x⟩
theorem nk {c:ar} {u:Un} (h:aE c u=0):aE c ⟨1,u.yr,1⟩=0:=by
 have f:=pT (bN h).1 1 om om;have o:=(bN h).2.2.2.1;exact oO (u:=⟨1,u.yr,1⟩) f (Int.le_refl 1) (by simp [aR])
theorem yX (c:ar) (y:Int) (cap:Nat) (S:Option Addr) (w:World) (U:c.name.size≤1000) (I:aE c ⟨1,y,1⟩=0) :
  Calls Tryz.prog 48 #[av c,y,.slice S 0 cap] w fun e J=>(∃ m,e=.returned (.tuple #[m,.int .i64 0])∧pb J m fun _=>[])∧Below w w J:=by
 have R:=hide I;have T:=@run_makeMap Tryz.prog;clear I;simp only [av];go_enter Tryz.func48,Tryz.ntmps48;go_wp2_with fail;refine (ls c ⟨1,y,1⟩ _ U).mono ?_;rintro e E ⟨rfl,f⟩;rw [R.out];simp only [bI];have V:w.heap.size<E.heap.size:=aj f;have F:Hid (Below w w E):=ww f;have G:=hide (aa f ac (au w c));obtain ⟨q0,q1,q2,q3,q4,q5,q6,q7,q8,q9,W,ab,ah,al⟩:=G.out;clear f;go_wp2_with fail;go_loopw [30] (fun s wr=>s=.int .i64 0∧wr.heap[E.heap.size+1]?=some (.map (eu []) 0)∧Below w w wr) (fun s _=>(5-intOf s).toNat)
 case atStart =>
  have o:=F.out;refine ⟨rfl,?_,by (repeat' exact bel)⟩;have h:=heap_alloc_new (E.alloc (.cells #[.int .i64 (cd c ⟨1,y,1⟩).a,.int .i64 (cd c ⟨1,y,1⟩).b] 45)) (.map #[] 0);simpa [eu] using h
 case round =>
  obtain ⟨rfl,H,o⟩:=hrel;have O:=hide (show pb wr (.map (some (E.heap.size+1))) (fun _=>[]) from ⟨_,[],0,rfl,H,fun x=>.inl ⟨rfl,rfl⟩⟩);clear H;go_wp2;go_ret2;exact ⟨⟨_,rfl,O.out⟩,o⟩
theorem KG (c:ar) (y:Int) (f:aO c y 1601=0) (i:Nat) (hi:i<bW c y):gJ c y 5 i=i:=uH c y f 5 om om i i (by rw [qD];exact hi) (by simp [aW]) (by simp [aW])
theorem K1 {c:ar} {u:Un} (h:aE c u=0):qP c u 5=0∧CW c u 5=⟨5,u.yr,(aT c u:Int)+1⟩∧CQ c u 5=⟨5,u.yr,(bF c u:Int)⟩:=by
 obtain ⟨F,G,E,f,_,_⟩:=bN h;have o:=dz h;have e:qP c u 5=0:=by simp [qP,h,E]
 refine ⟨e,?_,?_⟩
 ·rw [CW,if_pos e,KG c u.yr f _ om]
 ·rw [CQ,if_pos e,KG c u.yr f _ om]
  congr 1;omega
def fX (f:Un→List Int) (y:Int) (a:Nat):Nat→List Int
 | 0=>[]
 | k+1=>fX f y a k++f ⟨5,y,(a:Int)+1+k⟩
def mj (s:Sp) (P:List Po):List Int:=(P.filter fun p=>decide (s.a≤p.day)&&decide (p.day≤s.b)).map Po.n
theorem zv {s:Sp} {P:List Po} {j:Nat} {x:Po} (f:P[j]?=some x) (h:s.a≤x.day∧x.day≤s.b):mj s (P.take (j+1))=mj s (P.take j)++[x.n]:=by
 rw [List.take_add_one,f,mj,mj];simp [h]
theorem FU {s:Sp} {P:List Po} {j:Nat} {x:Po} (f:P[j]?=some x) (h:¬ (s.a≤x.day∧x.day≤s.b)):mj s (P.take (j+1))=mj s (P.take j):=by
 rw [List.take_add_one,f,mj,mj];have:(decide (s.a≤x.day)&&decide (x.day≤s.b))=false:=by
  rw [Bool.and_eq_false_iff,decide_eq_false_iff_not,decide_eq_false_iff_not];omega
 simp [this]
theorem td (s:Sp) (P:List Po):(mj s P).length≤P.length:=by rw [mj,List.length_map];exact List.length_filter_le _ _
theorem zR {s:Sp} {P:List Po} {n:Int} (h:n∈mj s P):∃ p∈P,p.n=n:=by
 simp only [mj,List.mem_map,List.mem_filter] at h;obtain ⟨p,⟨f,_⟩,o⟩:=h;exact ⟨p,f,o⟩
theorem Cd (f:Un→List Int) (y:Int) (a:Nat) {k n:Nat} (h:k≤n):(fX f y a k).length≤(fX f y a n).length:=by
  induction n with
  | zero => obtain rfl : k = 0 := by omega
            exact Nat.le_refl _
  | succ n E =>
    rcases Nat.lt_or_ge k (n+1) with o | o
    · have:=E om;simp only [fX,List.length_append];omega
    · obtain rfl:k=n+1:=om
      exact Nat.le_refl _
theorem FB {f:Un→List Int} {y:Int} {a n:Nat} {x:Int} (h:x∈fX f y a n):∃ w,x∈f w:=by
 induction n with
 | zero=>simp [fX] at h
 | succ n o =>
  rw [fX,List.mem_append] at h;rcases h with h | h
  ·exact o h
  ·exact ⟨_,h⟩
def nu (c:ar) (u:Un) (P:List Po) (f:Un→List Int):List Int:=fX f u.yr (aT c u) (bF c u-aT c u)++mj (cd c u) P
def sW (c:ar) (u:Un) (f h o:Nat) (l:List Int) (v:Value) (E w:World):Prop:=
 ap w f #[.int .i64 (cd c u).a,.int .i64 (cd c u).b] 45∧ap w h #[.int .i64 5,u.yr,.int .i64 (bF c u:Int)] 26∧f<o∧h<o∧o≤w.heap.size ∧
 w.ownsRow o 2 1 v l.length (cu l)∧E.heap.size≤o∧Below E E w
theorem gA {w H:World} {f:Nat} {v:Value} {l:List Int} (h:w.ownsRow f 2 1 v l.length (cu l)) (R:Below w w H):H.ownsRow f 2 1 v l.length (cu l):=by
 refine ⟨h.1,?_⟩;rcases h.2 with I | ⟨G,o,F,S,J,E,O⟩
 ·exact .inl I
 ·exact .inr ⟨G,o,F,S,J,(R.block G (Array.getElem?_eq_some_iff.1 E).1).trans E,O⟩
theorem sW.call {c:ar} {u:Un} {f o F:Nat} {l:List Int} {v:Value} {H w G:World} (h:sW c u f o F l v H w) (E:Below w w G):sW c u f o F l v H G:=by
 obtain ⟨I,J,O,R,S,T,U,V⟩:=h;exact ⟨I.call E,J.call E,O,R,Nat.le_trans S E.size,gA T E,U,V.trans (E.mono om)⟩
theorem sW.app {c:ar} {u:Un} {f o E:Nat} {l l':List Int} {v v':Value} {O w G:World} (h:sW c u f o E l v O w) (V:G.ownsRow E 2 1 v' l'.length (cu l')) (F:Below E w G):sW c u f o E l' v' O G:=by
 obtain ⟨R,S,H,I,T,W,J,U⟩:=h;exact ⟨R.below F H,S.below F I,H,I,Nat.le_trans T F.size,V,J,U.trans (F.mono J)⟩
theorem dw {a b c:Value} {t:TypeId} {B:Nat} {w:World} (h:ap w B #[a,b,c] t):(w.cell? ⟨B,0,none⟩=some a∧w.cell? ⟨B,1,none⟩=some b∧w.cell? ⟨B,2,none⟩=some c)∧B<w.heap.size:=⟨⟨h.cell 0,h.cell 1,h.cell 2⟩,h.lt⟩
theorem oh.blk {w o:World} {B:Nat} {f:Array Value} {t:TypeId} (E:oh w o) (h:ap w B f t) (F:t≠2:=by decide):ap o B f t:=E.2 B f t F h
def CY (w:World) (v:Value):Int:=match v with
 | .pointer (some p)=>(match w.cell? ⟨p.block,2,none⟩ with | some (.int _ n)=>n | _=>0)
 | _=>0
theorem vP {w:World} {B:Nat} {a b:Value} {n:Int} {t:TypeId} (h:ap w B #[a,b,n] t):CY w (.pointer (some ⟨B,0,none⟩))=n:=by
 have f:w.cell? ⟨B,2,none⟩=some (.int .i64 n):=h.cell 2;simp [CY,f]
theorem EC (c:ar) (u:Un) (P:List Po) (f:Un→List Int) (vp m:Value) (w:World) (hn:c.name.size≤1000) (hU:aE c u=0) (hP:cL w vp P) (hm:pb w m f) (hp:P.length≤5000) (ah:∀ p∈P,aX p.n)
    (ab:∀ x,∀ n∈f x,aX n) (ay:(fX f u.yr (aT c u) (bF c u-aT c u)).length≤500000) :
    Calls Tryz.prog 49 #[av c,aC u,vp,m] w fun e w'=>e=.returned (.tuple #[jN (nu c u P f).sum,jn (nu c u P f).sum])∧Below w w w':=by
  obtain ⟨e0,eA,eB⟩:=K1 hU;have ba:=dz hU;have cr:=di c u.yr (bN hU).2.2.2.1;have HU:=hide hU;have HD:=hide (And.intro e0 (And.intro eA eB));have HP:=hide hP;have HM:=hide hm;obtain ⟨ad,cap,rfl,_⟩:=hP;obtain ⟨M,_,_,rfl,_⟩:=hm;have HF:=hide (And.intro ah ab);obtain ⟨a,ha⟩:∃ a,aT c u=a:=⟨_,rfl⟩;obtain ⟨b,hb⟩:∃ b,bF c u=b:=⟨_,rfl⟩;have U:=hide (And.intro ha hb);rw [ha,hb] at ba ay HD;have a4:=hide ay;obtain ⟨sa,bw⟩:∃ x,(cd c u).a=x:=⟨_,rfl⟩;obtain ⟨sb,bx⟩:∃ x,(cd c u).b=x:=⟨_,rfl⟩;have G:=hide (And.intro bw bx);clear hU e0 eA eB ah ab ha hb ay bw bx;have cy:a<b∧b≤60:=om;clear ba cr;simp only [av,aC];go_enter Tryz.func49,Tryz.ntmps49;go_wp2_with fail;refine (ls c u _ hn).mono ?_;rintro e w1 ⟨rfl,S⟩;rw [HU.out];simp only [bI];rw [G.out.1,G.out.2];have c3:w.heap.size+1<w1.heap.size:=aj S;have b4:Hid (Below w w w1):=ww S;have b7:=hide (aa S ae (az (au w c) ac _));have ca:=hide (aS S ac (cA w c u));obtain ⟨q0,q1,q2,q3,q4,q5,q6,q7,q8,q9,c5,c6,c7,c8⟩:=b7.out;obtain ⟨u0,u1,u2⟩:=ca.out;have c2:w.heap.size<w1.heap.size:=om;clear S;go_wp2_with fail;refine (gO c u 5 _ hn).mono ?_;rintro e J ⟨rfl,aq⟩;rw [HD.out.1,HD.out.2.1,HD.out.2.2];simp only [aC];have b5:Hid (Below w w J):=ao b4.out aq;have a6:=hide (ap.call (ap.new w1 #[sa,sb] 45) aq);have c4:w1.heap.size<J.heap.size:=a6.out.lt;clear aq;go_wp2_with fail;obtain ⟨W,hW⟩:∃ W:World,W=((J.alloc (.cells #[.int .i64 5,u.yr,.int .i64 ((a:Int)+1)] 26)).alloc (.cells #[.int .i64 5,u.yr,.int .i64 (b:Int)] 26)).alloc (.cells #[.int .i64 5,u.yr,.int .i64 ((a:Int)+1)] 26):=⟨_,rfl⟩;have H0:=hide (show ap W (J+2) #[.int .i64 5,u.yr,.int .i64 ((a:Int)+1+(0:Nat))] 26∧sW c u w1.heap.size (J.heap.size+1) (J.heap.size+3) (fX f u.yr a 0) (.slice none 0 0) w W by
    have R:=b5.out;rw [hW];refine ⟨?_,?_,?_,by omega,by omega,by simp,?_,by omega,by (repeat' exact bel)⟩
    · rw [Int.natCast_zero,Int.add_zero]
      have h:=ap.new ((J.alloc (.cells #[.int .i64 5,u.yr,.int .i64 ((a:Int)+1)] 26)).alloc (.cells #[.int .i64 5,u.yr,.int .i64 (b:Int)] 26)) #[.int .i64 5,u.yr,.int .i64 ((a:Int)+1)] 26;simpa using h
    · rw [G.out.1,G.out.2];exact ((a6.out.alloc _).alloc _).alloc _
    · rw [U.out.2]
      have h:=(ap.new (J.alloc (.cells #[.int .i64 5,u.yr,.int .i64 ((a:Int)+1)] 26)) #[.int .i64 5,u.yr,.int .i64 (b:Int)] 26).alloc (.cells #[.int .i64 5,u.yr,.int .i64 ((a:Int)+1)] 26);simpa using h
    · exact World.ownsRow_nil _ _ _ _)
  rw [← hW];clear hW;go_loopw [14,15] (fun aA aB wr=>∃ (k al:Nat),aB=.pointer (some ⟨al,0,none⟩)∧k≤b-a∧ap wr al #[.int .i64 5,u.yr,.int .i64 ((a:Int)+1+(k:Nat))] 26∧sW c u w1.heap.size (J.heap.size+1) (J.heap.size+3) (fX f u.yr a k) aA w wr) (fun _ aB wr=>(1000-CY wr aB).toNat)
  case atStart=>exact ⟨0,_,rfl,Nat.zero_le _,H0.out⟩
  case round =>
    obtain ⟨k,al,rfl,hk,V,hS⟩:=hrel;have HS:=hide hS;have O:=hide V;clear hS V;obtain ⟨⟨a0,a1,a2⟩,a3⟩:=dw O.out;obtain ⟨⟨b0,b1,b2⟩,b3⟩:=dw HS.out.2.1;rw [U.out.2] at b2;by_cases c1:k<b-a
    · obtain ⟨vv,bl,bt⟩:=(HM.out.call (HS.out.2.2.2.2.2.2.2)).look ⟨5,u.yr,(a:Int)+1+(k:Nat)⟩
      simp only [aC] at bl;have HN:=hide bt;clear bt;have a5:=hide (show fX f u.yr a (k+1)=fX f u.yr a k++f ⟨5,u.yr,(a:Int)+1+(k:Nat)⟩ from rfl);have T:=Cd f u.yr a (show k+1≤b-a by omega);rw [a5.out,List.length_append] at T;have cE:=a4.out;go_wp2_with ((at_builtin;refine kS rfl _ _ rfl (J.heap.size+3) _ _ _ _ rfl HS.out.2.2.2.2.2.1 rfl HN.out om HS.out.2.2.2.2.1 ?_));intro v' w' F I H;have a7:=hide (H.blk O.out);have b8:=hide (HS.out.app (l':=fX f u.yr a k++f ⟨5,u.yr,(a:Int)+1+(k:Nat)⟩) (by rw [List.length_append];exact F) I);clear F I H a0 a1 a2 a3 b0 b1 b2 b3 bl;obtain ⟨⟨a0,a1,a2⟩,a3⟩:=dw a7.out;have KN:=hide (show ap (w'.alloc (.cells #[.int .i64 5,u.yr,.int .i64 ((a:Int)+1+((k+1:Nat):Int))] 26)) w'.heap.size #[.int .i64 5,u.yr,.int .i64 ((a:Int)+1+((k+1:Nat):Int))] 26 from ap.new _ _ _);have ek:(a:Int)+1+((k+1:Nat):Int)=(a:Int)+1+(k:Int)+1:=om;have E:=hide (b8.out.call (show Below w' w' (w'.alloc (.cells #[.int .i64 5,u.yr,.int .i64 ((a:Int)+1+((k+1:Nat):Int))] 26)) by (repeat' exact bel)));rw [ek] at KN E;have cl:=hide (vP KN.out);have cp:=hide (vP O.out);go_wp2;go_roundw
      case rel=>exact ⟨k+1,_,rfl,by omega,by rw [ek];exact KN.out,by rw [a5.out];exact E.out⟩
      case measure=>rw [cl.out,cp.out];omega
    · have cc:k=b-a:=om
      subst cc;clear a0 a1 a2 a3;obtain ⟨wo,bX⟩:∃ wo:World,wo=wr:=⟨_,rfl⟩;rw [← bX] at HS b0 b1 b2 b3 O ⊢;obtain ⟨⟨a0,a1,a2⟩,a3⟩:=dw O.out;clear bX;go_wp2_with fail;go_loopw [14,55] (fun aA aF wr=>∃ j:Nat,aF=.int .i64 j∧j≤P.length∧sW c u w1.heap.size (J.heap.size+1) (J.heap.size+3) (fX f u.yr a (b-a)++mj (cd c u) (P.take j)) aA w wr) (fun _ aF _=>(6000-intOf aF).toNat)
      case atStart=>exact ⟨0,rfl,Nat.zero_le _,by simpa [mj] using HS.out⟩
      case round =>
        obtain ⟨j,rfl,hj,a8⟩:=hrel;have E:=hide a8;clear a8;have bh:=td (cd c u) (P.take j);rw [List.length_take] at bh;have bd:=a4.out;by_cases bp:j<P.length
        · obtain ⟨x,hx⟩:∃ x,P[j]?=some x:=⟨_,List.getElem?_eq_getElem bp⟩
          obtain ⟨g,o,rfl,hg,d0,d1⟩:=(HP.out.call E.out.2.2.2.2.2.2.2).at hx;obtain ⟨⟨z0,z1⟩,_⟩:=fj E.out.1;rw [G.out.1] at z0;rw [G.out.2] at z1;have zB:=E.out.1.lt;have cS:(0:Int)≤(j:Int):=om;have c0:(j:Int)<(P.length:Int):=om;have HX:=hide hx;clear hx;by_cases hd:sa≤x.day∧x.day≤sb
          · have HI:=hide (show mj (cd c u) (P.take (j+1))=mj (cd c u) (P.take j)++[x.n] from zv HX.out (by rw [G.out.1,G.out.2];exact hd))
            obtain ⟨cI,bc⟩:=hd;go_wp2_with ((at_builtin;refine kS rfl _ _ rfl (J.heap.size+3) _ _ _ [x.n] rfl (gA E.out.2.2.2.2.2.1 ?hw) rfl (.inr ⟨_,_,by simp,rfl,?hl,?hc⟩) ae ?hz ?_))
            case hw=>(repeat' exact bel)
            case hl=>simp
            case hc =>
              intro i y hy
              match i,hy with
              | 0,hy=>simp at hy;subst hy;simp
            case hz=>have:=E.out.2.2.2.2.1;simp;omega
            intro v' w' F I H;have b9:=hide ((E.out.call (show Below wr wr ((wr.alloc (.cells #[.int .i64 x.day,.int .i64 x.n] 32)).alloc (.cells #[.int .i64 x.n] 2)) by (repeat' exact bel))).app (l':=fX f u.yr a (b-a)++mj (cd c u) (P.take j)++[x.n]) (by simpa using F) I);clear F I H;go_wp2;go_roundw
            case rel=>exact ⟨j+1,by go_num,by omega,by rw [HI.out,← List.append_assoc];exact b9.out⟩
            case measure=>simp [intOf];omega
          · have HI:=hide (show mj (cd c u) (P.take (j+1))=mj (cd c u) (P.take j) from FU HX.out (by rw [G.out.1,G.out.2];exact hd))
            rcases (show x.day<sa∨(sa≤x.day∧sb<x.day) by omega) with bc | ⟨bc,cM⟩
            all_goals
              go_wp2
              all_goals first
                | (exfalso;omega)
                | skip
              go_roundw
              case rel=>exact ⟨j+1,by go_num,by omega,by rw [HI.out];exact E.out.call an⟩
              case measure=>simp [intOf];omega
        · have HT := hide (show nu c u P f = fX f u.yr a (b - a) ++ mj (cd c u) (P.take j) by
            rw [List.take_of_length_le om,nu,U.out.1,U.out.2])
          have HN:=hide (jP E.out.2.2.2.2.2.1);rw [← HT.out] at HN;have cb:=hide (show ∀ y∈nu c u P f,aX y from fun y hy=>by
            rcases List.mem_append.1 hy with h | h
            · obtain ⟨z,hz⟩:=FB h;exact HF.out.2 z y hz
            · obtain ⟨p,cs,rfl⟩:=zR h;exact HF.out.1 p cs)
          have T:=hide (show (nu c u P f).length≤1000000 by rw [HT.out,List.length_append];omega);have R:=E.out.2.2.2.2.2.2.2;clear bd bh;go_wp2_with fail;refine (pN _ (nu c u P f) _ HN.out cb.out T.out).mono ?_;rintro e w3 ⟨rfl,bb⟩;have b6:=hide (R.trans (bb.mono R.size));clear bb;go_wp2;go_ret2;exact ⟨rfl,b6.out⟩
def tE (c:ar) (u:Un) (P:List Po) (A:List Ac) (h:Int) (f:Un→List Int):Int:=if aE c u=0 then (if fk P A=0 then (if h=0 then jn (nu c u P f).sum else h) else fk P A) else aE c u
def tV (c:ar) (u:Un) (P:List Po) (A:List Ac) (h:Int) (f:Un→List Int):Int:=if aE c u=0∧fk P A=0∧h=0 then jN (nu c u P f).sum else 0
def uj (c:ar) (y:Int) (A:List Ac) (o:Value) (h:Int) (f:Un→List Int):Prop:=∀ W,eo W o A →
 Calls Tryz.prog 48 #[av c,y,o] W fun e E=>(∃ m,e=.returned (.tuple #[m,h])∧(h=0→pb E m f)∧(¬ h=0→m=.map none))∧Below W W E
theorem uY (c:ar) (y:Int) (f:Option Addr) (cap:Nat) (E:c.name.size≤1000) (o:aE c ⟨1,y,1⟩=0):uj c y [] (.slice f 0 cap) 0 (fun _=>[]):=fun W _ =>
 (yX c y cap f W E o).mono fun e F ⟨⟨m,h1,h2⟩,hb⟩=>⟨⟨m,h1,fun _=>h2,fun h=>absurd rfl h⟩,hb⟩
def qo (c:ar) (u:Un) (f h:Value) (B:Nat) (o w:World):Prop:=aG w B c∧iB w (B+1) u∧ap w (B+2) #[f,h] 30∧B+2<w.heap.size∧Below B o w
theorem qo.call {c:ar} {u:Un} {o E:Value} {B:Nat} {G w F:World} (h:qo c u o E B G w) (f:Below w w F):qo c u o E B G F:=by
 obtain ⟨H,I,J,O,R⟩:=h;exact ⟨aa f om H,aS f om I,J.call f,Nat.lt_of_lt_of_le O f.size,R.trans (f.mono om)⟩
theorem qo.via {c:ar} {u:Un} {f o:Value} {B m:Nat} {F w W E:World} (h:qo c u f o B F w) (I:Below m W E) (G:Below w w W:=by exact bel) (H:w.heap.size≤m:=by exact sz):qo c u f o B F E:=h.call (G.trans (I.mono H))
theorem iC (c:ar) (u:Un) (f h:Value) (w:World):qo c u f h w.heap.size w (((w.alloc (bG c)).alloc (fc u)).alloc (.cells #[f,h] 30)):=by
 refine ⟨az (az (au w c) ac _) ae _,bU (cA w c u) ac _,?_,by simp,by (repeat' exact bel)⟩;simpa using ap.new ((w.alloc (bG c)).alloc (fc u)) #[f,h] 30
theorem qo.cells {c:ar} {u:Un} {f o:Value} {B:Nat} {E w:World} (h:qo c u f o B E w):aG w B c∧iB w (B+1) u∧(w.cell? ⟨B+1+1,0,none⟩=some f∧w.cell? ⟨B+1+1,1,none⟩=some o)∧B+2<w.heap.size∧Below B E w:=⟨h.1,h.2.1,⟨h.2.2.1.cell 0,h.2.2.1.cell 1⟩,h.2.2.2.1,h.2.2.2.2⟩
theorem xA (c:ar) (u:Un) (P:List Po) (A:List Ac) (W:Int) (f:Un→List Int) (v1 v2:Value) (w:World) (hn:c.name.size≤1000) (hP:cL w v1 P) (hA:eo w v2 A) (hl:P.length≤5000∧A.length≤5000) (a1:∀ p∈P,aX p.n)
  (a0:aE c u=0→fk P A=0→uj c u.yr A v2 W f) (ab:aE c u=0→fk P A=0→W=0→(∀ x,∀ n∈f x,aX n)∧(fX f u.yr (aT c u) (bF c u-aT c u)).length≤500000) :
  Calls Tryz.prog 12 #[av c,aC u,.agg #[v1,v2]] w fun e w'=>e=.returned (.tuple #[tV c u P A W f,tE c u P A W f])∧Below w w w':=by
 have HP:=hide hP;have HA:=hide hA;have HL:=hide hl;have bh:=hide a1;have H0:=hide (iC c u v1 v2 w);have a5:P.length≤100000∧A.length≤100000:=om;have bw:P.length≤5000:=hl.1;clear hl a1;by_cases hU:aE c u=0
 ·have HU:=hide hU
  by_cases hC:fk P A=0
  ·have HC:=hide hC
   have bb:=hide (a0 hU hC);have a6:=hide (ab hU hC);clear a0 ab;by_cases R:W=0
   ·have HV:=hide (show tV c u P A W f=jN (nu c u P f).sum by simp [tV,hU,hC,R])
    have HE:=hide (show tE c u P A W f=jn (nu c u P f).sum by simp [tE,hU,hC,R]);have a7:=hide (a6.out R);subst R;clear hU hC a6;obtain ⟨a3,al,rfl,_⟩:=hP;obtain ⟨a4,aq,rfl,_⟩:=hA;simp only [av,aC];go_enter Tryz.func12,Tryz.ntmps12;go_wp2_with fail;refine (eT c u _ hn).mono ?_;rintro e w1 ⟨rfl,O⟩;rw [HU.out];have o:=hide (H0.out.call O);have ah:=hide (HP.out.call (o.out.2.2.2.2));have ad:=hide (HA.out.call (o.out.2.2.2.2));clear O;obtain ⟨⟨q0,q1,q2,q3,q4,q5,q6,q7,q8,q9,F,G,H,I⟩,⟨u0,u1,u2⟩,⟨U,V⟩,E,h⟩:=o.out.cells;go_wp2_with fail;refine (md P A _ _ _ ah.out ad.out a5).mono ?_;rintro e w2 ⟨rfl,T⟩;clear q0 q1 q2 q3 q4 q5 q6 q7 q8 q9 F G H I u0 u1 u2 U V E h;rw [HC.out];have J:=hide (o.out.call T);have a8:=hide (HP.out.call (J.out.2.2.2.2));have aA:=hide (HA.out.call (J.out.2.2.2.2));clear T;obtain ⟨⟨q0,q1,q2,q3,q4,q5,q6,q7,q8,q9,F,G,H,I⟩,⟨u0,u1,u2⟩,⟨U,V⟩,E,h⟩:=J.out.cells;go_wp2_with fail;refine (bb.out _ aA.out).mono ?_;rintro e w3 ⟨⟨m,rfl,aF,aB⟩,ay⟩;clear q0 q1 q2 q3 q4 q5 q6 q7 q8 q9 F G H I u0 u1 u2 U V E h;have bt:=hide (aF rfl);clear aF aB;have S:=hide (J.out.call ay);have ba:=hide (HP.out.call (S.out.2.2.2.2));have bl:=hide (HA.out.call (S.out.2.2.2.2));clear ay;obtain ⟨⟨q0,q1,q2,q3,q4,q5,q6,q7,q8,q9,F,G,H,I⟩,⟨u0,u1,u2⟩,⟨U,V⟩,E,h⟩:=S.out.cells;go_wp2_with fail;refine (EC c u P f _ _ _ hn HU.out ba.out bt.out bw bh.out a7.out.1 a7.out.2).mono ?_;rintro e w4 ⟨rfl,bc⟩;clear q0 q1 q2 q3 q4 q5 q6 q7 q8 q9 F G H I u0 u1 u2 U V E h;have a2:=hide (S.out.call bc);have bX:=hide (HP.out.call (a2.out.2.2.2.2));have bx:=hide (HA.out.call (a2.out.2.2.2.2));clear bc;obtain ⟨⟨q0,q1,q2,q3,q4,q5,q6,q7,q8,q9,F,G,H,I⟩,⟨u0,u1,u2⟩,⟨U,V⟩,E,h⟩:=a2.out.cells;go_wp2;go_ret2;exact ⟨aw HV.out.symm HE.out.symm,h⟩
   ·have HV:=hide (show tV c u P A W f=0 by simp [tV,R])
    have HE:=hide (show tE c u P A W f=W by simp [tE,HU.out,HC.out,R]);have bd:(W != 0)=true:=by simpa using R
    have bp:=hide R;clear R hU hC;obtain ⟨a3,al,rfl,_⟩:=hP;obtain ⟨a4,aq,rfl,_⟩:=hA;simp only [av,aC];go_enter Tryz.func12,Tryz.ntmps12;go_wp2_with fail;refine (eT c u _ hn).mono ?_;rintro e w1 ⟨rfl,O⟩;rw [HU.out];have o:=hide (H0.out.call O);have ah:=hide (HP.out.call (o.out.2.2.2.2));have ad:=hide (HA.out.call (o.out.2.2.2.2));clear O;obtain ⟨⟨q0,q1,q2,q3,q4,q5,q6,q7,q8,q9,F,G,H,I⟩,⟨u0,u1,u2⟩,⟨U,V⟩,E,h⟩:=o.out.cells;go_wp2_with fail;refine (md P A _ _ _ ah.out ad.out a5).mono ?_;rintro e w2 ⟨rfl,T⟩;clear q0 q1 q2 q3 q4 q5 q6 q7 q8 q9 F G H I u0 u1 u2 U V E h;rw [HC.out];have J:=hide (o.out.call T);have a8:=hide (HP.out.call (J.out.2.2.2.2));have aA:=hide (HA.out.call (J.out.2.2.2.2));clear T;obtain ⟨⟨q0,q1,q2,q3,q4,q5,q6,q7,q8,q9,F,G,H,I⟩,⟨u0,u1,u2⟩,⟨U,V⟩,E,h⟩:=J.out.cells;go_wp2_with fail;refine (bb.out _ aA.out).mono ?_;rintro e w3 ⟨⟨m,rfl,aF,aB⟩,ay⟩;clear q0 q1 q2 q3 q4 q5 q6 q7 q8 q9 F G H I u0 u1 u2 U V E h;obtain rfl:=aB bp.out;clear aF aB;have S:=hide (J.out.call ay);have ba:=hide (HP.out.call (S.out.2.2.2.2));have bl:=hide (HA.out.call (S.out.2.2.2.2));clear ay;obtain ⟨⟨q0,q1,q2,q3,q4,q5,q6,q7,q8,q9,F,G,H,I⟩,⟨u0,u1,u2⟩,⟨U,V⟩,E,h⟩:=S.out.cells;go_wp2;go_ret2;exact ⟨aw HV.out.symm HE.out.symm,h⟩
  ·have HV:=hide (show tV c u P A W f=0 by simp [tV,hC])
   have HE:=hide (show tE c u P A W f=fk P A by simp [tE,HU.out,hC]);have bd:(fk P A != 0)=true:=by simpa using hC
   clear a0 ab hC hU;obtain ⟨a3,al,rfl,_⟩:=hP;obtain ⟨a4,aq,rfl,_⟩:=hA;simp only [av,aC];go_enter Tryz.func12,Tryz.ntmps12;go_wp2_with fail;refine (eT c u _ hn).mono ?_;rintro e w1 ⟨rfl,O⟩;rw [HU.out];have o:=hide (H0.out.call O);have ah:=hide (HP.out.call (o.out.2.2.2.2));have ad:=hide (HA.out.call (o.out.2.2.2.2));clear O;obtain ⟨⟨q0,q1,q2,q3,q4,q5,q6,q7,q8,q9,F,G,H,I⟩,⟨u0,u1,u2⟩,⟨U,V⟩,E,h⟩:=o.out.cells;go_wp2_with fail;refine (md P A _ _ _ ah.out ad.out a5).mono ?_;rintro e w2 ⟨rfl,T⟩;clear q0 q1 q2 q3 q4 q5 q6 q7 q8 q9 F G H I u0 u1 u2 U V E h;have J:=hide (o.out.call T);have a8:=hide (HP.out.call (J.out.2.2.2.2));have aA:=hide (HA.out.call (J.out.2.2.2.2));clear T;obtain ⟨⟨q0,q1,q2,q3,q4,q5,q6,q7,q8,q9,F,G,H,I⟩,⟨u0,u1,u2⟩,⟨U,V⟩,E,h⟩:=J.out.cells;go_wp2;go_ret2;exact ⟨aw HV.out.symm HE.out.symm,h⟩
 ·have HV:=hide (show tV c u P A W f=0 by simp [tV,hU])
  have HE:=hide (show tE c u P A W f=aE c u by simp [tE,hU]);have bd:(aE c u != 0)=true:=by simpa using hU
  clear a0 ab hU;obtain ⟨a3,al,rfl,_⟩:=hP;obtain ⟨a4,aq,rfl,_⟩:=hA;simp only [av,aC];go_enter Tryz.func12,Tryz.ntmps12;go_wp2_with fail;refine (eT c u _ hn).mono ?_;rintro e w1 ⟨rfl,O⟩;have o:=hide (H0.out.call O);have ah:=hide (HP.out.call (o.out.2.2.2.2));have ad:=hide (HA.out.call (o.out.2.2.2.2));clear O;obtain ⟨⟨q0,q1,q2,q3,q4,q5,q6,q7,q8,q9,F,G,H,I⟩,⟨u0,u1,u2⟩,⟨U,V⟩,E,h⟩:=o.out.cells;go_wp2;go_ret2;exact ⟨aw HV.out.symm HE.out.symm,h⟩
def Kp (l:List Po):List Value:=l.flatMap fun p=>[.int .i64 p.day,.int .i64 p.n]
abbrev Da (w:World) (base:Nat) (v:Value) (l:List Po):Prop:=w.ownsRow base 32 2 v l.length (Kp l)
theorem nQ {w H:World} {f:Nat} {v:Value} {l:List Po} (h:Da w f v l) (R:Below w w H):Da H f v l:=by
 refine ⟨h.1,?_⟩;rcases h.2 with I | ⟨G,o,F,S,J,E,O⟩
 ·exact .inl I
 ·exact .inr ⟨G,o,F,S,J,(R.block G (Array.getElem?_eq_some_iff.1 E).1).trans E,O⟩
end
end Go.Proofs.YtjhhmeoibfdcmaaGreat
