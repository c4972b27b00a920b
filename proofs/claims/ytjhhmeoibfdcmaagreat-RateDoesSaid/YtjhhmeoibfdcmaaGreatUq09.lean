/- Postings and accruals: plain law, and how they lie in memory. Contracts of package book: whether a book may be. Contracts of package book: accruals, and a whole book. Package book: what of all accruals falls to the weeks, as a map. Package book: the sum of a unit. Package book: the total of a unit. Package book: copies of rows of postings. -/
import Derived.Deep.AppendLies
import Derived.Deep.RegionLaw
import Derived.Laws.OwnMore
import Derived.WideKeyRuns
import Derived.Test.YtjhhmeoibfdcmaaGreatUq02
import Derived.Test.YtjhhmeoibfdcmaaGreatUq05
import Derived.Test.YtjhhmeoibfdcmaaGreatUq06
import Derived.Test.YtjhhmeoibfdcmaaGreatUq08
set_option linter.unusedSimpArgs false
set_option linter.unusedVariables false
set_option maxRecDepth 100000
set_option maxHeartbeats 12800000
namespace Go.Proofs.YtjhhmeoibfdcmaaGreat
open Go.RowKit Qd
structure Po where
  day:Int
  n:Int
  deriving DecidableEq,Inhabited
structure Ac where
  a:Int
  b:Int
  n:Int
  deriving DecidableEq,Inhabited
def Posts (w:World) (v:Value) (l:List Po):Prop:=∃ ad cap,v=.slice ad l.length cap∧∀ (i:Nat) (x:Po),l[i]?=some x→∃ g o,ad=some ⟨g,o,none⟩∧g<w.heap.size∧w.cell? ⟨g,o+i*2,none⟩=some (.int .i64 x.day)∧w.cell? ⟨g,o+i*2+1,none⟩=some (.int .i64 x.n)
def Accs (w:World) (v:Value) (l:List Ac):Prop:=∃ ad cap,v=.slice ad l.length cap∧∀ (i:Nat) (x:Ac),l[i]?=some x→∃ g o,ad=some ⟨g,o,none⟩∧g<w.heap.size∧w.cell? ⟨g,o+i*3,none⟩=some (.int .i64 x.a)∧w.cell? ⟨g,o+i*3+1,none⟩=some (.int .i64 x.b)∧w.cell? ⟨g,o+i*3+2,none⟩=some (.int .i64 x.n)
theorem Posts.call {w w':World} {v:Value} {l:List Po} (h:Posts w v l) (hb:Below w.heap.size w w'):Posts w' v l:=by
  obtain ⟨ad,cap,h1,h2⟩:=h
  refine ⟨ad,cap,h1,fun i x hx=>?_⟩
  obtain ⟨g,o,e,hg,c1,c2⟩:=h2 i x hx
  exact ⟨g,o,e,Nat.lt_of_lt_of_le hg hb.size,(hb.cell (p:=⟨g,_,none⟩) hg).trans c1,(hb.cell (p:=⟨g,_,none⟩) hg).trans c2⟩
theorem Accs.call {w w':World} {v:Value} {l:List Ac} (h:Accs w v l) (hb:Below w.heap.size w w'):Accs w' v l:=by
  obtain ⟨ad,cap,h1,h2⟩:=h
  refine ⟨ad,cap,h1,fun i x hx=>?_⟩
  obtain ⟨g,o,e,hg,c1,c2,c3⟩:=h2 i x hx
  exact ⟨g,o,e,Nat.lt_of_lt_of_le hg hb.size,(hb.cell (p:=⟨g,_,none⟩) hg).trans c1,(hb.cell (p:=⟨g,_,none⟩) hg).trans c2,(hb.cell (p:=⟨g,_,none⟩) hg).trans c3⟩
theorem Posts.at {w:World} {ad:Option Addr} {n cap:Nat} {l:List Po} (h:Posts w (.slice ad n cap) l) {i:Nat} {x:Po} (hx:l[i]?=some x):∃ g o,ad=some ⟨g,o,none⟩∧g<w.heap.size∧w.cell? ⟨g,o+i*2,none⟩=some (.int .i64 x.day)∧w.cell? ⟨g,o+i*2+1,none⟩=some (.int .i64 x.n):=by
  obtain ⟨ad',cap',h1,h2⟩:=h
  cases h1
  exact h2 i x hx
theorem Accs.at {w:World} {ad:Option Addr} {n cap:Nat} {l:List Ac} (h:Accs w (.slice ad n cap) l) {i:Nat} {x:Ac} (hx:l[i]?=some x):∃ g o,ad=some ⟨g,o,none⟩∧g<w.heap.size∧w.cell? ⟨g,o+i*3,none⟩=some (.int .i64 x.a)∧w.cell? ⟨g,o+i*3+1,none⟩=some (.int .i64 x.b)∧w.cell? ⟨g,o+i*3+2,none⟩=some (.int .i64 x.n):=by
  obtain ⟨ad',cap',h1,h2⟩:=h
  cases h1
  exact h2 i x hx
theorem Posts.nil (w:World):Posts w (.slice none 0 0) []:=⟨none,0,rfl,fun i x h=>by simp at h⟩
theorem Accs.nil (w:World):Accs w (.slice none 0 0) []:=⟨none,0,rfl,fun i x h=>by simp at h⟩
def dayB (l:List Po):Bool:=l.all fun p=>isB p.day
def accE (a:Ac):Int:=if isB a.a&&isB a.b then (if a.b<a.a then 1 else 0) else 4
def accsE:List Ac→Int
  | []=>0
  | a::l=>if accE a=0 then accsE l else accE a
def chkE (P:List Po) (A:List Ac):Int:=if 4096<P.length∨4096<A.length then 6 else if dayB P then accsE A else 4
theorem dayB_take {P:List Po} {j:Nat} {x:Po} (hx:P[j]?=some x) (h:dayB (P.take j)=true):dayB (P.take (j+1))=isB x.day:=by
  rw [List.take_add_one,hx];unfold dayB at h ⊢;simp [h]
theorem dayB_no {P:List Po} {j:Nat} {x:Po} (hx:P[j]?=some x) (h:isB x.day=false):dayB P=false:=by
  cases hd:dayB P
  · rfl
  · rw [dayB,List.all_eq_true] at hd
    rw [hd x (List.mem_of_getElem? hx)] at h;cases h
theorem accsE_app (l m:List Ac) (h:accsE l=0):accsE (l++m)=accsE m:=by
  induction l with
  | nil=>rfl
  | cons a l ih =>
    by_cases ha:accE a=0
    · simp only [accsE,if_pos ha,List.cons_append] at h ⊢;exact ih h
    · simp only [accsE,if_neg ha] at h;exact absurd h ha
theorem accsE_take {A:List Ac} {j:Nat} {x:Ac} (hx:A[j]?=some x) (h:accsE (A.take j)=0) (hx0:accE x=0):accsE (A.take (j+1))=0:=by
  rw [List.take_add_one,hx,accsE_app _ _ h];simp [accsE,hx0]
theorem accsE_no {A:List Ac} {j:Nat} {x:Ac} (hx:A[j]?=some x) (h:accsE (A.take j)=0) (hx0:¬ accE x=0):accsE A=accE x:=by
  have hj:=(List.getElem?_eq_some_iff.1 hx).1
  have e:A=A.take j++x::A.drop (j+1):=by
    have h2:A.drop j=x::A.drop (j+1):=by rw [List.drop_eq_getElem_cons hj];congr 1;exact Option.some.inj ((List.getElem?_eq_getElem hj).symm.trans hx)
    rw [← h2,List.take_append_drop]
  rw [e,accsE_app _ _ h];simp [accsE,hx0]
end Go.Proofs.YtjhhmeoibfdcmaaGreat
namespace Go.Proofs.YtjhhmeoibfdcmaaGreat
open Go.RowKit Qd
def daysE (l:List Int):Int:=if l.all isB then 0 else 4
theorem ofday_any (day:Int) (w:World) :
    Calls Tryz.prog 81 #[.int .i64 day] w fun e w'=>(∃ a b c:Int,e=.returned (.tuple #[.agg #[.int .i64 a,.int .i64 b,.int .i64 c],.int .i64 (isE day)]))∧Below w.heap.size w w':=by
  cases h:isB day
  · refine (of_no day w (by simp [h])).mono ?_
    rintro e w' ⟨rfl,hb⟩
    exact ⟨⟨0,0,0,by simp [isE,h]⟩,hb⟩
  · refine (of_yes day w (by simp [h])).mono ?_
    rintro e w' ⟨rfl,hb⟩
    exact ⟨⟨ofY day,ofM day,ofD day,by simp [isE,h]⟩,hb⟩
theorem bdays_any (g o cap:Nat) (l:List Int) (w:World) (hg:g<w.heap.size) (hc:∀ (i:Nat) (x:Int),l[i]?=some x→w.cell? ⟨g,o+i,none⟩=some (.int .i64 x)) (hn:l.length≤1000) :
    Calls Tryz.prog 44 #[.slice (some ⟨g,o,none⟩) l.length cap] w fun e w'=>e=.returned (.int .i64 (daysE l))∧Below w.heap.size w w':=by
  have HC:=hide hc
  clear hc
  go_enter Tryz.func44,Tryz.ntmps44
  go_wp2_with fail
  go_loopw [9] (fun s wr=>∃ j:Nat,s=.int .i64 j∧j≤l.length∧Hid ((l.take j).all isB=true)∧Below w.heap.size w wr) (fun s _=>(l.length+5-intOf s).toNat)
  case atStart=>exact ⟨0,rfl,Nat.zero_le _,hide (by simp),by (repeat' exact bel)⟩
  case round =>
    obtain ⟨j,rfl,hj,HA,hBel⟩:=hrel
    have HB:=hide hBel
    have hsz:=hBel.size
    clear hBel
    by_cases hlt:j<l.length
    · obtain ⟨x,hx⟩:∃ x,l[j]?=some x:=⟨_,List.getElem?_eq_getElem hlt⟩
      have ha:wr.cell? ⟨g,o+j,none⟩=some (.int .i64 x):=by
        rw [HB.out.cell (p:=⟨g,o+j,none⟩) hg];exact HC.out j x hx
      have hi1:(0:Int)≤(j:Int):=by omega
      have hi3:(j:Int)<(l.length:Int):=by omega
      cases hb:isB x
      · have HD := hide (show daysE l = 4 by
          unfold daysE
          rw [if_neg]
          rw [List.all_eq_true]
          intro h
          rw [h x (List.mem_of_getElem? hx)] at hb;cases hb)
        have HE:=hide (show isE x=4 by simp [isE,hb])
        have HF:=hide (fun w=>ofday_any x w)
        clear hx hb
        go_wp2_with fail
        refine (HF.out _).mono ?_
        rintro e w1 ⟨⟨a,b,c,rfl⟩,hb1⟩
        rw [HE.out]
        have HB1:Hid (Below w.heap.size w w1):=by have hp:=HB.out;exact ww hb1
        have hz1:=hb1.size
        clear hb1
        have hBel:=HB1.out
        go_wp2
        go_ret
        exact ⟨ret_int HD.out.symm,by (repeat' exact bel)⟩
      · have HE:=hide (show isE x=0 by simp [isE,hb])
        have HT:=hide (show (l.take (j+1)).all isB=true by rw [List.take_add_one,hx];simpa [hb] using HA.out)
        have HF:=hide (fun w=>ofday_any x w)
        clear hx hb
        go_wp2_with fail
        refine (HF.out _).mono ?_
        rintro e w1 ⟨⟨a,b,c,rfl⟩,hb1⟩
        rw [HE.out]
        have HB1:Hid (Below w.heap.size w w1):=by have hp:=HB.out;exact ww hb1
        have hz1:=hb1.size
        clear hb1
        have hBel:=HB1.out
        go_wp2
        go_roundw
        case rel=>exact ⟨j+1,by go_num,by omega,HT,by (repeat' exact bel)⟩
        case measure=>simp [intOf];omega
    · have HD := hide (show daysE l = 0 by
        unfold daysE
        rw [if_pos]
        have h:=HA.out
        rwa [List.take_of_length_le (by omega)] at h)
      have hBel:=HB.out
      go_wp2
      go_ret
      exact ⟨ret_int HD.out.symm,by (repeat' exact bel)⟩
end Go.Proofs.YtjhhmeoibfdcmaaGreat
namespace Go.Proofs.YtjhhmeoibfdcmaaGreat
open Go.RowKit Qd
theorem baccr_any (x:Ac) (w:World):Calls Tryz.prog 60 #[.agg #[.int .i64 x.a,.int .i64 x.b,.int .i64 x.n]] w fun e w'=>e=.returned (.int .i64 (accE x))∧Below w.heap.size w w':=by
  have HD:=hide (show daysE [x.a,x.b]=if isB x.a&&isB x.b then 0 else 4 by simp [daysE])
  go_enter Tryz.func60,Tryz.ntmps60
  go_wp2_with fail
  refine (bdays_any (w.heap.size+1) 0 2 [x.a,x.b] _ (by simp) (fun i y hy=>by
    match i,hy with
    | 0,hy=>simp at hy;subst hy;simp
    | 1,hy=>simp at hy;subst hy;simp) (by simp)).mono ?_
  rintro e w1 ⟨rfl,hb1⟩
  rw [HD.out]
  have r0:w1.cell? ⟨w.heap.size,0,none⟩=some (.int .i64 x.a):=by rw [hb1.cell (p:=⟨w.heap.size,0,none⟩) (by simp;omega)];simp [World.cell?_alloc_at]
  have r1:w1.cell? ⟨w.heap.size,1,none⟩=some (.int .i64 x.b):=by rw [hb1.cell (p:=⟨w.heap.size,1,none⟩) (by simp;omega)];simp [World.cell?_alloc_at]
  have HB1:Hid (Below w.heap.size w w1):=ww hb1
  clear hb1
  have hBel:=HB1.out
  cases h:(isB x.a&&isB x.b)
  · have HE:=hide (show accE x=4 by simp [accE,h])
    simp only [Bool.false_eq_true,if_false]
    go_wp2
    go_ret
    exact ⟨ret_int HE.out.symm,by (repeat' exact bel)⟩
  · simp only [if_true]
    by_cases h2:x.b<x.a
    · have HE:=hide (show accE x=1 by simp only [accE,h,if_true,if_pos h2])
      go_wp2
      all_goals first
        | (exfalso;omega)
        | (go_ret;exact ⟨ret_int HE.out.symm,by (repeat' exact bel)⟩)
    · have HE:=hide (show accE x=0 by simp only [accE,h,if_true,if_neg h2])
      go_wp2
      all_goals first
        | (exfalso;omega)
        | (go_ret;exact ⟨ret_int HE.out.symm,by (repeat' exact bel)⟩)
theorem blk_two' {a b:Value} {t:TypeId} {B:Nat} {w:World} (h:BlkIs w B #[a,b] t):(w.cell? ⟨B,0,none⟩=some a∧w.cell? ⟨B,1,none⟩=some b)∧w.frozen? ⟨B,0,none⟩=false∧w.frozen? ⟨B,1,none⟩=false∧B<w.heap.size:=⟨⟨h.cell 0,h.cell 1⟩,by simp [World.frozen?,show w.heap[B]?=_ from h],by simp [World.frozen?,show w.heap[B]?=_ from h],h.lt⟩
def BkSt (P:List Po) (A:List Ac) (v1 v2:Value) (B:Nat) (w0 w:World):Prop:=BlkIs w B #[v1,v2] 30∧B<w.heap.size∧Posts w v1 P∧Accs w v2 A∧Below B w0 w
theorem BkSt.call {P:List Po} {A:List Ac} {v1 v2:Value} {B:Nat} {w0 w w':World} (h:BkSt P A v1 v2 B w0 w) (hb:Below w.heap.size w w'):BkSt P A v1 v2 B w0 w':=⟨h.1.call hb,Nat.lt_of_lt_of_le h.2.1 hb.size,h.2.2.1.call hb,h.2.2.2.1.call hb,h.2.2.2.2.trans (hb.mono (Nat.le_of_lt h.2.1))⟩
theorem bcheck_any (P:List Po) (A:List Ac) (v1 v2:Value) (w:World) (h1:Posts w v1 P) (h2:Accs w v2 A) (hl:P.length≤100000∧A.length≤100000):Calls Tryz.prog 19 #[.agg #[v1,v2]] w fun e w'=>e=.returned (.int .i64 (chkE P A))∧Below w.heap.size w w':=by
  have H0:=hide (show BkSt P A v1 v2 w.heap.size w (w.alloc (.cells #[v1,v2] 30)) from ⟨BlkIs.new _ _ _,by simp,h1.call (by (repeat' exact bel)),h2.call (by (repeat' exact bel)),by (repeat' exact bel)⟩)
  obtain ⟨ad1,cap1,rfl,hc1⟩:=h1
  obtain ⟨ad2,cap2,rfl,hc2⟩:=h2
  clear hc1 hc2
  go_enter Tryz.func19,Tryz.ntmps19
  by_cases hlong:4096<P.length∨4096<A.length
  · have HE:=hide (show chkE P A=6 by unfold chkE;rw [if_pos hlong])
    go_wp2
    all_goals (go_ret;exact ⟨ret_int HE.out.symm,by (repeat' exact bel)⟩)
  · have hp4:P.length≤4096∧A.length≤4096:=by omega
    have HCK:=hide (show chkE P A=if dayB P then accsE A else 4 by unfold chkE;rw [if_neg hlong])
    clear hlong
    rcases Nat.lt_or_ge P.length A.length with hmx | hmx
    all_goals
      go_wp2_with fail
      go_loopw [20] (fun s wr=>∃ j:Nat,s=.int .i64 j∧j≤P.length∧Hid (dayB (P.take j)=true)∧BkSt P A (.slice ad1 P.length cap1) (.slice ad2 A.length cap2) w.heap.size w wr) (fun s _=>(P.length+5-intOf s).toNat)
      case atStart=>exact ⟨0,rfl,Nat.zero_le _,hide (by simp [dayB]),H0.out⟩
      case round =>
        obtain ⟨j,rfl,hj,HA,hS⟩:=hrel
        have HS:=hide hS
        clear hS
        have hBel:=HS.out.2.2.2.2
        by_cases hlt:j<P.length
        · obtain ⟨x,hx⟩:∃ x,P[j]?=some x:=⟨_,List.getElem?_eq_getElem hlt⟩
          obtain ⟨g,o,rfl,hg,a0,a1⟩:=HS.out.2.2.1.at hx
          have hi1:(0:Int)≤(j:Int):=by omega
          have hi3:(j:Int)<(P.length:Int):=by omega
          have HDX:=hide (show daysE [x.day]=if isB x.day then 0 else 4 by simp [daysE])
          have HX:=hide hx
          clear hx
          go_wp2_with fail
          refine (bdays_any (wr.heap.size+1) 0 1 [x.day] _ (by simp) (fun i y hy=>by
            match i,hy with
            | 0,hy=>simp at hy;subst hy;simp) (by simp)).mono ?_
          rintro e w1 ⟨rfl,hb1⟩
          rw [HDX.out]
          have HS1:=hide (HS.out.call (show Below wr.heap.size wr w1 from (ww hb1).out))
          clear hb1 hBel
          have hBel:=HS1.out.2.2.2.2
          cases hb:isB x.day
          · have HE:=hide (show chkE P A=4 by rw [HCK.out,dayB_no HX.out hb];rfl)
            simp only [Bool.false_eq_true,if_false]
            go_wp2
            go_ret
            exact ⟨ret_int HE.out.symm,by (repeat' exact bel)⟩
          · have HT:=hide (show dayB (P.take (j+1))=true by rw [dayB_take HX.out HA.out,hb])
            simp only [if_true]
            go_wp2
            go_roundw
            case rel=>exact ⟨j+1,by go_num,by omega,HT,HS1.out⟩
            case measure=>simp [intOf];omega
        · have HT := hide (show chkE P A = accsE A by
            have h:=HA.out
            rw [List.take_of_length_le (by omega)] at h
            rw [HCK.out,h];rfl)
          obtain ⟨⟨b0,b1⟩,_⟩:=blk_two' HS.out.1
          obtain ⟨wo,hwo⟩:∃ wo:World,wo=wr:=⟨_,rfl⟩
          rw [← hwo] at HS b0 b1 ⊢
          clear hwo hBel
          go_wp2_with fail
          go_loopw [35] (fun s wr=>∃ j:Nat,s=.int .i64 j∧j≤A.length∧Hid (accsE (A.take j)=0)∧BkSt P A (.slice ad1 P.length cap1) (.slice ad2 A.length cap2) w.heap.size w wr) (fun s _=>(A.length+5-intOf s).toNat)
          case atStart=>exact ⟨0,rfl,Nat.zero_le _,hide rfl,HS.out⟩
          case round =>
            obtain ⟨k,rfl,hk,HA2,hS⟩:=hrel
            have HS2:=hide hS
            clear hS
            have hBel:=HS2.out.2.2.2.2
            by_cases hlt2:k<A.length
            · obtain ⟨x,hx⟩:∃ x,A[k]?=some x:=⟨_,List.getElem?_eq_getElem hlt2⟩
              obtain ⟨g,o,rfl,hg,a0,a1,a2⟩:=HS2.out.2.2.2.1.at hx
              have hi1:(0:Int)≤(k:Int):=by omega
              have hi3:(k:Int)<(A.length:Int):=by omega
              have HX:=hide hx
              clear hx
              go_wp2_with fail
              refine (baccr_any x _).mono ?_
              rintro e w1 ⟨rfl,hb1⟩
              have HS3:=hide (HS2.out.call (show Below wr.heap.size wr w1 from (ww hb1).out))
              clear hb1 hBel
              have hBel:=HS3.out.2.2.2.2
              by_cases hb:accE x=0
              · have HT2:=hide (accsE_take HX.out HA2.out hb)
                have HB0:=hide hb
                rw [HB0.out]
                clear hb
                go_wp2
                go_roundw
                case rel=>exact ⟨k+1,by go_num,by omega,HT2,HS3.out⟩
                case measure=>simp [intOf];omega
              · have HE:=hide (show chkE P A=accE x by rw [HT.out,accsE_no HX.out HA2.out hb])
                go_wp2
                go_ret
                exact ⟨ret_int HE.out.symm,by (repeat' exact bel)⟩
            · have HE := hide (show chkE P A = 0 by
                have h:=HA2.out
                rw [List.take_of_length_le (by omega)] at h
                rw [HT.out,h])
              go_wp2
              go_ret
              exact ⟨ret_int HE.out.symm,by (repeat' exact bel)⟩
end Go.Proofs.YtjhhmeoibfdcmaaGreat
namespace Go.Proofs.YtjhhmeoibfdcmaaGreat
open Go.RowKit Qd
abbrev UMap:=List (Un × Value × Nat)
def esOf (L:UMap):Array MapEntry:=(L.map fun e=>({ key:=unitV e.1,val:=e.2.1,born:=e.2.2 }:MapEntry)).toArray
def lookV:UMap→Un→Option Value
  | [],_=>none
  | e::L,x=>if unB x.lv x.yr x.ix e.1.lv e.1.yr e.1.ix=true then some e.2.1 else lookV L x
theorem run_asking (L:UMap) (x:Un) (i:Nat) (w:World):∃ j,(Instr.findAsking 26 (unitV x) (esOf L).toList i).run Tryz.prog w=.ok ((lookV L x).map fun v=>(j,v)) w:=by
  induction L generalizing i with
  | nil=>exact ⟨0,by simp [esOf,Instr.findAsking,lookV]⟩
  | cons e L ih =>
    obtain ⟨j,hj⟩:=ih (i+1)
    have he:(Op.equal 26 (unitV x) (unitV e.1)).run Tryz.prog w=.ok (unB x.lv x.yr x.ix e.1.lv e.1.yr e.1.ix) w:=eqUnit 9998 x.lv x.yr x.ix e.1.lv e.1.yr e.1.ix w
    have e1:(esOf (e::L)).toList=({ key:=unitV e.1,val:=e.2.1,born:=e.2.2 }:MapEntry)::(esOf L).toList:=by simp [esOf]
    rw [e1]
    cases hb:unB x.lv x.yr x.ix e.1.lv e.1.yr e.1.ix
    · refine ⟨j,?_⟩
      rw [hb] at he
      have hl:lookV (e::L) x=lookV L x:=by simp [lookV,hb]
      rw [hl]
      simp only [Instr.findAsking,Sem.run_bind,he,Result.andThen_ok,Bool.false_eq_true,if_false]
      exact hj
    · refine ⟨i,?_⟩
      rw [hb] at he
      have hl:lookV (e::L) x=some e.2.1:=by simp [lookV,hb]
      rw [hl]
      simp only [Instr.findAsking,Sem.run_bind,he,Result.andThen_ok,if_true]
      rfl
theorem run_find (L:UMap) (x:Un) (w:World):∃ j,(Instr.findKey 26 (unitV x) (esOf L).toList).run Tryz.prog w=.ok ((lookV L x).map fun v=>(j,v)) w:=by
  obtain ⟨j,hj⟩:=run_asking L x 0 w
  refine ⟨j,?_⟩
  rw [run_findKey_eq (P:=Tryz.prog) (w:=w) (k:=26) (by simp [Tryz.underlying26]) (unitV x) (esOf L).toList]
  exact hj
theorem run_key (x:Un) (e:Bool) (w:World):(Instr.checkKey e 10000 26 (unitV x)).run Tryz.prog w=.ok () w:=by
  have u3:=Tryz.underlying3
  have a3:=Tryz.isAgg3
  have z3:=Tryz.sizeOf3
  have uu:=Tryz.underlying26
  have hc:=fun a=>MapKept.run_checkKey (P:=Tryz.prog) (w:=w) (k:=.int .i64 a) u3 (by simp [MapKept.IsKey]) e 9998
  show (Instr.checkKey e (9999+1) 26 (unitV x)).run Tryz.prog w=.ok () w
  rw [Instr.checkKey]
  simp only [Sem.run_bind,run_underlying uu,Result.andThen_ok]
  go_simp
theorem run_lookU (L:UMap) (M clk:Nat) (x:Un) (w:World) (hM:w.heap[M]?=some (.map (esOf L) clk)) :
    (Instr.lookup 86 (.map (some M)) (unitV x) false).run Tryz.prog w=.ok ((lookV L x).getD (.slice none 0 0)) w:=by
  have um:=Tryz.underlying86
  obtain ⟨j,hj⟩:=run_find L x w
  have hz:(zeroValue 53).run Tryz.prog w=.ok (.slice none 0 0) w:=by kernel_rfl
  simp only [Instr.lookup,Sem.run_bind,run_underlying um,Result.andThen_ok,MapKept.run_getObj_map hM,Sem.run_pure,run_key,hj]
  cases lookV L x <;> simp [hz,Result.andThen]
def PMap (w:World) (m:Value) (f:Un→List Int):Prop:=∃ (M:Nat) (L:UMap) (clk:Nat),m=.map (some M)∧w.heap[M]?=some (.map (esOf L) clk)∧∀ x,NumsN w ((lookV L x).getD (.slice none 0 0)) (f x)
theorem PMap.call {w w':World} {m:Value} {f:Un→List Int} (h:PMap w m f) (hb:Below w.heap.size w w'):PMap w' m f:=by
  obtain ⟨M,L,clk,h1,h2,h3⟩:=h
  exact ⟨M,L,clk,h1,(hb.block M (Array.getElem?_eq_some_iff.1 h2).1).trans h2,fun x=>(h3 x).call hb⟩
theorem PMap.look {w:World} {m:Value} {f:Un→List Int} (h:PMap w m f) (x:Un):∃ v,(Instr.lookup 86 m (unitV x) false).run Tryz.prog w=.ok v w∧NumsN w v (f x):=by
  obtain ⟨M,L,clk,rfl,h2,h3⟩:=h
  exact ⟨_,run_lookU L M clk x w h2,h3 x⟩
theorem unit_year {c:Cal} {u:Un} (h:unitE c u=0):unitE c ⟨1,u.yr,1⟩=0:=by
  have hf:=frame_lv (un_lv h).1 1 (by omega) (by omega)
  have hA:=(un_lv h).2.2.2.1
  exact unit_is (u:=⟨1,u.yr,1⟩) hf (Int.le_refl 1) (by simp [cntL])
theorem bparts_nil (c:Cal) (y:Int) (cap:Nat) (ad:Option Addr) (w:World) (hn:c.name.size≤1000) (hU:unitE c ⟨1,y,1⟩=0) :
    Calls Tryz.prog 48 #[calV c,.int .i64 y,.slice ad 0 cap] w fun e w'=>(∃ m,e=.returned (.tuple #[m,.int .i64 0])∧PMap w' m fun _=>[])∧Below w.heap.size w w':=by
  have HU:=hide hU
  have hmm:=@run_makeMap Tryz.prog
  clear hU
  simp only [calV]
  go_enter Tryz.func48,Tryz.ntmps48
  go_wp2_with fail
  refine (uspan_any c ⟨1,y,1⟩ _ hn).mono ?_
  rintro e w1 ⟨rfl,hb1⟩
  rw [HU.out]
  simp only [spanV]
  have hz1:w.heap.size<w1.heap.size:=by have:=hb1.size;simp at this;omega
  have HB1:Hid (Below w.heap.size w w1):=ww hb1
  have HQ1:=hide (calAt_below hb1 (by simp) (calAt_new w c))
  obtain ⟨q0,q1,q2,q3,q4,q5,q6,q7,q8,q9,q10,q11,q12,q13⟩:=HQ1.out
  clear hb1
  go_wp2_with fail
  go_loopw [30] (fun s wr=>s=.int .i64 0∧wr.heap[w1.heap.size+1]?=some (.map (esOf []) 0)∧Below w.heap.size w wr) (fun s _=>(5-intOf s).toNat)
  case atStart =>
    have hBel:=HB1.out
    refine ⟨rfl,?_,by (repeat' exact bel)⟩
    have h:=heap_alloc_new (w1.alloc (.cells #[.int .i64 (spV c ⟨1,y,1⟩).a,.int .i64 (spV c ⟨1,y,1⟩).b] 45)) (.map #[] 0)
    simpa [esOf] using h
  case round =>
    obtain ⟨rfl,hM,hBel⟩:=hrel
    have HM:=hide (show PMap wr (.map (some (w1.heap.size+1))) (fun _=>[]) from ⟨_,[],0,rfl,hM,fun x=>.inl ⟨rfl,rfl⟩⟩)
    clear hM
    go_wp2
    go_ret2
    exact ⟨⟨_,rfl,HM.out⟩,hBel⟩
end Go.Proofs.YtjhhmeoibfdcmaaGreat
namespace Go.Proofs.YtjhhmeoibfdcmaaGreat
open Go.RowKit Qd
theorem ix5w (c:Cal) (y:Int) (hA:askE c y 1601=0) (i:Nat) (hi:i<nWk c y):ixN c y 5 i=i:=ix_eq c y hA 5 (by omega) (by omega) i i (by rw [cnt_5];exact hi) (by simp [cutN]) (by simp [cutN])
theorem dn5w {c:Cal} {u:Un} (h:unitE c u=0):dnE c u 5=0∧dnA c u 5=⟨5,u.yr,(cutA c u:Int)+1⟩∧dnB c u 5=⟨5,u.yr,(cutB c u:Int)⟩:=by
  obtain ⟨hf,l1,l5,hA,_,_⟩:=un_lv h
  have hab:=cutAB h
  have e:dnE c u 5=0:=by simp [dnE,h,l5]
  refine ⟨e,?_,?_⟩
  · rw [dnA,if_pos e,ix5w c u.yr hA _ (by omega)]
  · rw [dnB,if_pos e,ix5w c u.yr hA _ (by omega)]
    congr 1
    omega
def wkNs (f:Un→List Int) (y:Int) (a:Nat):Nat→List Int
  | 0=>[]
  | k+1=>wkNs f y a k++f ⟨5,y,(a:Int)+1+k⟩
def inD (s:Sp) (P:List Po):List Int:=(P.filter fun p=>decide (s.a≤p.day)&&decide (p.day≤s.b)).map Po.n
theorem inD_yes {s:Sp} {P:List Po} {j:Nat} {x:Po} (hx:P[j]?=some x) (h:s.a≤x.day∧x.day≤s.b):inD s (P.take (j+1))=inD s (P.take j)++[x.n]:=by
  rw [List.take_add_one,hx,inD,inD];simp [h]
theorem inD_no {s:Sp} {P:List Po} {j:Nat} {x:Po} (hx:P[j]?=some x) (h:¬ (s.a≤x.day∧x.day≤s.b)):inD s (P.take (j+1))=inD s (P.take j):=by
  rw [List.take_add_one,hx,inD,inD]
  have:(decide (s.a≤x.day)&&decide (x.day≤s.b))=false:=by
    rw [Bool.and_eq_false_iff,decide_eq_false_iff_not,decide_eq_false_iff_not];omega
  simp [this]
theorem inD_len (s:Sp) (P:List Po):(inD s P).length≤P.length:=by rw [inD,List.length_map];exact List.length_filter_le _ _
theorem inD_mem {s:Sp} {P:List Po} {n:Int} (h:n∈inD s P):∃ p∈P,p.n=n:=by
  simp only [inD,List.mem_map,List.mem_filter] at h
  obtain ⟨p,⟨h1,_⟩,h2⟩:=h
  exact ⟨p,h1,h2⟩
theorem wkNs_mono (f:Un→List Int) (y:Int) (a:Nat) {k n:Nat} (h:k≤n):(wkNs f y a k).length≤(wkNs f y a n).length:=by
  induction n with
  | zero => obtain rfl : k = 0 := by omega
            exact Nat.le_refl _
  | succ n ih =>
    rcases Nat.lt_or_ge k (n+1) with hk | hk
    · have:=ih (by omega);simp only [wkNs,List.length_append];omega
    · obtain rfl:k=n+1:=by omega
      exact Nat.le_refl _
theorem wkNs_mem {f:Un→List Int} {y:Int} {a n:Nat} {x:Int} (h:x∈wkNs f y a n):∃ w,x∈f w:=by
  induction n with
  | zero=>simp [wkNs] at h
  | succ n ih =>
    rw [wkNs,List.mem_append] at h
    rcases h with h | h
    · exact ih h
    · exact ⟨_,h⟩
def totL (c:Cal) (u:Un) (P:List Po) (f:Un→List Int):List Int:=wkNs f u.yr (cutA c u) (cutB c u-cutA c u)++inD (spV c u) P
def SuSt (c:Cal) (u:Un) (B10 B13 Bo:Nat) (l:List Int) (v:Value) (w0 w:World):Prop:=
  BlkIs w B10 #[.int .i64 (spV c u).a,.int .i64 (spV c u).b] 45∧BlkIs w B13 #[.int .i64 5,.int .i64 u.yr,.int .i64 (cutB c u:Int)] 26∧B10<Bo∧B13<Bo∧Bo≤w.heap.size ∧
  w.ownsRow Bo 2 1 v l.length (intsC l)∧w0.heap.size≤Bo∧Below w0.heap.size w0 w
theorem ownsI_call {w w':World} {base:Nat} {v:Value} {l:List Int} (h:w.ownsRow base 2 1 v l.length (intsC l)) (hb:Below w.heap.size w w'):w'.ownsRow base 2 1 v l.length (intsC l):=by
  refine ⟨h.1,?_⟩
  rcases h.2 with h1 | ⟨g',cap',cur,he,h2,hg',h3⟩
  · exact .inl h1
  · exact .inr ⟨g',cap',cur,he,h2,(hb.block g' (Array.getElem?_eq_some_iff.1 hg').1).trans hg',h3⟩
theorem SuSt.call {c:Cal} {u:Un} {B10 B13 Bo:Nat} {l:List Int} {v:Value} {w0 w w':World} (h:SuSt c u B10 B13 Bo l v w0 w) (hb:Below w.heap.size w w'):SuSt c u B10 B13 Bo l v w0 w':=by
  obtain ⟨h1,h2,h3,h4,h5,h6,h7,h8⟩:=h
  exact ⟨h1.call hb,h2.call hb,h3,h4,Nat.le_trans h5 hb.size,ownsI_call h6 hb,h7,h8.trans (hb.mono (by omega))⟩
theorem SuSt.app {c:Cal} {u:Un} {B10 B13 Bo:Nat} {l l':List Int} {v v':Value} {w0 w w':World} (h:SuSt c u B10 B13 Bo l v w0 w) (ho:w'.ownsRow Bo 2 1 v' l'.length (intsC l')) (hb:Below Bo w w'):SuSt c u B10 B13 Bo l' v' w0 w':=by
  obtain ⟨h1,h2,h3,h4,h5,h6,h7,h8⟩:=h
  exact ⟨h1.below hb h3,h2.below hb h4,h3,h4,Nat.le_trans h5 hb.size,ho,h7,h8.trans (hb.mono h7)⟩
theorem blk_three' {a b c:Value} {t:TypeId} {B:Nat} {w:World} (h:BlkIs w B #[a,b,c] t):(w.cell? ⟨B,0,none⟩=some a∧w.cell? ⟨B,1,none⟩=some b∧w.cell? ⟨B,2,none⟩=some c)∧B<w.heap.size:=⟨⟨h.cell 0,h.cell 1,h.cell 2⟩,h.lt⟩
theorem KeepI.blk {w w':World} {B:Nat} {cs:Array Value} {t:TypeId} (hk:KeepI w w') (h:BlkIs w B cs t) (ht:t≠2:=by decide):BlkIs w' B cs t:=hk.2 B cs t ht h
def cellI (w:World) (v:Value):Int:=match v with
  | .pointer (some p)=>(match w.cell? ⟨p.block,2,none⟩ with | some (.int _ n)=>n | _=>0)
  | _=>0
theorem cellI_of {w:World} {B:Nat} {a b:Value} {n:Int} {t:TypeId} (h:BlkIs w B #[a,b,.int .i64 n] t):cellI w (.pointer (some ⟨B,0,none⟩))=n:=by
  have h2:w.cell? ⟨B,2,none⟩=some (.int .i64 n):=h.cell 2
  simp [cellI,h2]
theorem bsum_any (c:Cal) (u:Un) (P:List Po) (f:Un→List Int) (vp m:Value) (w:World) (hn:c.name.size≤1000) (hU:unitE c u=0) (hP:Posts w vp P) (hm:PMap w m f) (hp:P.length≤5000) (hp64:∀ p∈P,in64 p.n)
    (hf64:∀ x,∀ n∈f x,in64 n) (hfl:(wkNs f u.yr (cutA c u) (cutB c u-cutA c u)).length≤500000) :
    Calls Tryz.prog 49 #[calV c,unitV u,vp,m] w fun e w'=>e=.returned (.tuple #[.int .i64 (fitV (totL c u P f).sum),.int .i64 (fitE (totL c u P f).sum)])∧Below w.heap.size w w':=by
  obtain ⟨e0,eA,eB⟩:=dn5w hU
  have hab:=cutAB hU
  have hnb:=nWk_bd c u.yr (un_lv hU).2.2.2.1
  have HU:=hide hU
  have HD:=hide (And.intro e0 (And.intro eA eB))
  have HP:=hide hP
  have HM:=hide hm
  obtain ⟨ad,cap,rfl,_⟩:=hP
  obtain ⟨M,_,_,rfl,_⟩:=hm
  have HF:=hide (And.intro hp64 hf64)
  obtain ⟨a,ha⟩:∃ a,cutA c u=a:=⟨_,rfl⟩
  obtain ⟨b,hb⟩:∃ b,cutB c u=b:=⟨_,rfl⟩
  have HAB:=hide (And.intro ha hb)
  rw [ha,hb] at hab hfl HD
  have HFL:=hide hfl
  obtain ⟨sa,hsa⟩:∃ x,(spV c u).a=x:=⟨_,rfl⟩
  obtain ⟨sb,hsb⟩:∃ x,(spV c u).b=x:=⟨_,rfl⟩
  have HSP:=hide (And.intro hsa hsb)
  clear hU e0 eA eB hp64 hf64 ha hb hfl hsa hsb
  have hab2:a<b∧b≤60:=by omega
  clear hab hnb
  simp only [calV,unitV]
  go_enter Tryz.func49,Tryz.ntmps49
  go_wp2_with fail
  refine (uspan_any c u _ hn).mono ?_
  rintro e w1 ⟨rfl,hb1⟩
  rw [HU.out]
  simp only [spanV]
  rw [HSP.out.1,HSP.out.2]
  have hz1:w.heap.size+1<w1.heap.size:=by have:=hb1.size;simp at this;omega
  have HB1:Hid (Below w.heap.size w w1):=ww hb1
  have HQ1:=hide (calAt_below hb1 (by simp;omega) (calAt_alloc (calAt_new w c) (by simp) _))
  have HU1:=hide (unAt_below hb1 (by simp) (unAt_new w c u))
  obtain ⟨q0,q1,q2,q3,q4,q5,q6,q7,q8,q9,q10,q11,q12,q13⟩:=HQ1.out
  obtain ⟨u0,u1,u2⟩:=HU1.out
  have hy1:w.heap.size<w1.heap.size:=by omega
  clear hb1
  go_wp2_with fail
  refine (down_any c u 5 _ hn).mono ?_
  rintro e w2 ⟨rfl,hb2⟩
  rw [HD.out.1,HD.out.2.1,HD.out.2.2]
  simp only [unitV]
  have HB2:Hid (Below w.heap.size w w2):=by have hp:=HB1.out;exact ww hb2
  have K10:=hide (BlkIs.call (BlkIs.new w1 #[.int .i64 sa,.int .i64 sb] 45) hb2)
  have hz2:w1.heap.size<w2.heap.size:=K10.out.lt
  clear hb2
  go_wp2_with fail
  obtain ⟨W,hW⟩:∃ W:World,W=((w2.alloc (.cells #[.int .i64 5,.int .i64 u.yr,.int .i64 ((a:Int)+1)] 26)).alloc (.cells #[.int .i64 5,.int .i64 u.yr,.int .i64 (b:Int)] 26)).alloc (.cells #[.int .i64 5,.int .i64 u.yr,.int .i64 ((a:Int)+1)] 26):=⟨_,rfl⟩
  have H0:=hide (show BlkIs W (w2.heap.size+2) #[.int .i64 5,.int .i64 u.yr,.int .i64 ((a:Int)+1+(0:Nat))] 26∧SuSt c u w1.heap.size (w2.heap.size+1) (w2.heap.size+3) (wkNs f u.yr a 0) (.slice none 0 0) w W by
    have hBel:=HB2.out
    rw [hW]
    refine ⟨?_,?_,?_,by omega,by omega,by simp,?_,by omega,by (repeat' exact bel)⟩
    · rw [Int.natCast_zero,Int.add_zero]
      have h:=BlkIs.new ((w2.alloc (.cells #[.int .i64 5,.int .i64 u.yr,.int .i64 ((a:Int)+1)] 26)).alloc (.cells #[.int .i64 5,.int .i64 u.yr,.int .i64 (b:Int)] 26)) #[.int .i64 5,.int .i64 u.yr,.int .i64 ((a:Int)+1)] 26
      simpa using h
    · rw [HSP.out.1,HSP.out.2];exact ((K10.out.alloc _).alloc _).alloc _
    · rw [HAB.out.2]
      have h:=(BlkIs.new (w2.alloc (.cells #[.int .i64 5,.int .i64 u.yr,.int .i64 ((a:Int)+1)] 26)) #[.int .i64 5,.int .i64 u.yr,.int .i64 (b:Int)] 26).alloc (.cells #[.int .i64 5,.int .i64 u.yr,.int .i64 ((a:Int)+1)] 26)
      simpa using h
    · exact World.ownsRow_nil _ _ _ _)
  rw [← hW]
  clear hW
  go_loopw [14,15] (fun s14 s15 wr=>∃ (k B15:Nat),s15=.pointer (some ⟨B15,0,none⟩)∧k≤b-a∧BlkIs wr B15 #[.int .i64 5,.int .i64 u.yr,.int .i64 ((a:Int)+1+(k:Nat))] 26∧SuSt c u w1.heap.size (w2.heap.size+1) (w2.heap.size+3) (wkNs f u.yr a k) s14 w wr) (fun _ s15 wr=>(1000-cellI wr s15).toNat)
  case atStart=>exact ⟨0,_,rfl,Nat.zero_le _,H0.out⟩
  case round =>
    obtain ⟨k,B15,rfl,hk,hB15,hS⟩:=hrel
    have HS:=hide hS
    have K15:=hide hB15
    clear hS hB15
    obtain ⟨⟨a0,a1,a2⟩,a3⟩:=blk_three' K15.out
    obtain ⟨⟨b0,b1,b2⟩,b3⟩:=blk_three' HS.out.2.1
    rw [HAB.out.2] at b2
    by_cases hlt:k<b-a
    · obtain ⟨vv,hlk,hnn⟩:=(HM.out.call (HS.out.2.2.2.2.2.2.2)).look ⟨5,u.yr,(a:Int)+1+(k:Nat)⟩
      simp only [unitV] at hlk
      have HN:=hide hnn
      clear hnn
      have HWK:=hide (show wkNs f u.yr a (k+1)=wkNs f u.yr a k++f ⟨5,u.yr,(a:Int)+1+(k:Nat)⟩ from rfl)
      have hlen:=wkNs_mono f u.yr a (show k+1≤b-a by omega)
      rw [HWK.out,List.length_append] at hlen
      have hfl2:=HFL.out
      go_wp2_with ((at_builtin;refine app_nums rfl _ _ rfl (w2.heap.size+3) _ _ _ _ rfl HS.out.2.2.2.2.2.1 rfl HN.out (by omega) HS.out.2.2.2.2.1 ?_))
      intro v' w' hown' hbel hkeep
      have K15':=hide (hkeep.blk K15.out)
      have HS':=hide (HS.out.app (l':=wkNs f u.yr a k++f ⟨5,u.yr,(a:Int)+1+(k:Nat)⟩) (by rw [List.length_append];exact hown') hbel)
      clear hown' hbel hkeep a0 a1 a2 a3 b0 b1 b2 b3 hlk
      obtain ⟨⟨a0,a1,a2⟩,a3⟩:=blk_three' K15'.out
      have KN:=hide (show BlkIs (w'.alloc (.cells #[.int .i64 5,.int .i64 u.yr,.int .i64 ((a:Int)+1+((k+1:Nat):Int))] 26)) w'.heap.size #[.int .i64 5,.int .i64 u.yr,.int .i64 ((a:Int)+1+((k+1:Nat):Int))] 26 from BlkIs.new _ _ _)
      have ek:(a:Int)+1+((k+1:Nat):Int)=(a:Int)+1+(k:Int)+1:=by omega
      have HS2:=hide (HS'.out.call (show Below w'.heap.size w' (w'.alloc (.cells #[.int .i64 5,.int .i64 u.yr,.int .i64 ((a:Int)+1+((k+1:Nat):Int))] 26)) by (repeat' exact bel)))
      rw [ek] at KN HS2
      have hm1:=hide (cellI_of KN.out)
      have hm2:=hide (cellI_of K15.out)
      go_wp2
      go_roundw
      case rel=>exact ⟨k+1,_,rfl,by omega,by rw [ek];exact KN.out,by rw [HWK.out];exact HS2.out⟩
      case measure=>rw [hm1.out,hm2.out];omega
    · have hkn:k=b-a:=by omega
      subst hkn
      clear a0 a1 a2 a3
      obtain ⟨wo,hwo⟩:∃ wo:World,wo=wr:=⟨_,rfl⟩
      rw [← hwo] at HS b0 b1 b2 b3 K15 ⊢
      obtain ⟨⟨a0,a1,a2⟩,a3⟩:=blk_three' K15.out
      clear hwo
      go_wp2_with fail
      go_loopw [14,55] (fun s14 s55 wr=>∃ j:Nat,s55=.int .i64 j∧j≤P.length∧SuSt c u w1.heap.size (w2.heap.size+1) (w2.heap.size+3) (wkNs f u.yr a (b-a)++inD (spV c u) (P.take j)) s14 w wr) (fun _ s55 _=>(6000-intOf s55).toNat)
      case atStart=>exact ⟨0,rfl,Nat.zero_le _,by simpa [inD] using HS.out⟩
      case round =>
        obtain ⟨j,rfl,hj,hS2⟩:=hrel
        have HS2:=hide hS2
        clear hS2
        have hl2:=inD_len (spV c u) (P.take j)
        rw [List.length_take] at hl2
        have hfl3:=HFL.out
        by_cases hlt2:j<P.length
        · obtain ⟨x,hx⟩:∃ x,P[j]?=some x:=⟨_,List.getElem?_eq_getElem hlt2⟩
          obtain ⟨g,o,rfl,hg,d0,d1⟩:=(HP.out.call HS2.out.2.2.2.2.2.2.2).at hx
          obtain ⟨⟨z0,z1⟩,_⟩:=blk_two' HS2.out.1
          rw [HSP.out.1] at z0
          rw [HSP.out.2] at z1
          have zB:=HS2.out.1.lt
          have hi1:(0:Int)≤(j:Int):=by omega
          have hi3:(j:Int)<(P.length:Int):=by omega
          have HX:=hide hx
          clear hx
          by_cases hd:sa≤x.day∧x.day≤sb
          · have HI:=hide (show inD (spV c u) (P.take (j+1))=inD (spV c u) (P.take j)++[x.n] from inD_yes HX.out (by rw [HSP.out.1,HSP.out.2];exact hd))
            obtain ⟨hd1,hd2⟩:=hd
            go_wp2_with ((at_builtin;refine app_nums rfl _ _ rfl (w2.heap.size+3) _ _ _ [x.n] rfl (ownsI_call HS2.out.2.2.2.2.2.1 ?hw) rfl (.inr ⟨_,_,by simp,rfl,?hl,?hc⟩) (by simp;omega) ?hz ?_))
            case hw=>(repeat' exact bel)
            case hl=>simp
            case hc =>
              intro i y hy
              match i,hy with
              | 0,hy=>simp at hy;subst hy;simp
            case hz=>have:=HS2.out.2.2.2.2.1;simp;omega
            intro v' w' hown' hbel hkeep
            have HS3:=hide ((HS2.out.call (show Below wr.heap.size wr ((wr.alloc (.cells #[.int .i64 x.day,.int .i64 x.n] 32)).alloc (.cells #[.int .i64 x.n] 2)) by (repeat' exact bel))).app (l':=wkNs f u.yr a (b-a)++inD (spV c u) (P.take j)++[x.n]) (by simpa using hown') hbel)
            clear hown' hbel hkeep
            go_wp2
            go_roundw
            case rel=>exact ⟨j+1,by go_num,by omega,by rw [HI.out,← List.append_assoc];exact HS3.out⟩
            case measure=>simp [intOf];omega
          · have HI:=hide (show inD (spV c u) (P.take (j+1))=inD (spV c u) (P.take j) from inD_no HX.out (by rw [HSP.out.1,HSP.out.2];exact hd))
            rcases (show x.day<sa∨(sa≤x.day∧sb<x.day) by omega) with hd2 | ⟨hd2,hd3⟩
            all_goals
              go_wp2
              all_goals first
                | (exfalso;omega)
                | skip
              go_roundw
              case rel=>exact ⟨j+1,by go_num,by omega,by rw [HI.out];exact HS2.out.call (by (repeat' exact bel))⟩
              case measure=>simp [intOf];omega
        · have HT := hide (show totL c u P f = wkNs f u.yr a (b - a) ++ inD (spV c u) (P.take j) by
            rw [List.take_of_length_le (by omega),totL,HAB.out.1,HAB.out.2])
          have HN:=hide (owns_nums HS2.out.2.2.2.2.2.1)
          rw [← HT.out] at HN
          have h64:=hide (show ∀ y∈totL c u P f,in64 y from fun y hy=>by
            rcases List.mem_append.1 hy with h | h
            · obtain ⟨z,hz⟩:=wkNs_mem h;exact HF.out.2 z y hz
            · obtain ⟨p,hp1,rfl⟩:=inD_mem h;exact HF.out.1 p hp1)
          have hlen:=hide (show (totL c u P f).length≤1000000 by rw [HT.out,List.length_append];omega)
          have hBel:=HS2.out.2.2.2.2.2.2.2
          clear hfl3 hl2
          go_wp2_with fail
          refine (wsum_any _ (totL c u P f) _ HN.out h64.out hlen.out).mono ?_
          rintro e w3 ⟨rfl,hb3⟩
          have HB3:=hide (hBel.trans (hb3.mono hBel.size))
          clear hb3
          go_wp2
          go_ret2
          exact ⟨rfl,HB3.out⟩
end Go.Proofs.YtjhhmeoibfdcmaaGreat
namespace Go.Proofs.YtjhhmeoibfdcmaaGreat
open Go.RowKit Qd
def tE (c:Cal) (u:Un) (P:List Po) (A:List Ac) (pe:Int) (f:Un→List Int):Int:=if unitE c u=0 then (if chkE P A=0 then (if pe=0 then fitE (totL c u P f).sum else pe) else chkE P A) else unitE c u
def tV (c:Cal) (u:Un) (P:List Po) (A:List Ac) (pe:Int) (f:Un→List Int):Int:=if unitE c u=0∧chkE P A=0∧pe=0 then fitV (totL c u P f).sum else 0
def PartsOk (c:Cal) (y:Int) (A:List Ac) (v2:Value) (pe:Int) (f:Un→List Int):Prop:=∀ W,Accs W v2 A →
  Calls Tryz.prog 48 #[calV c,.int .i64 y,v2] W fun e w'=>(∃ m,e=.returned (.tuple #[m,.int .i64 pe])∧(pe=0→PMap w' m f)∧(¬ pe=0→m=.map none))∧Below W.heap.size W w'
theorem partsOk_nil (c:Cal) (y:Int) (ad:Option Addr) (cap:Nat) (hn:c.name.size≤1000) (hU:unitE c ⟨1,y,1⟩=0):PartsOk c y [] (.slice ad 0 cap) 0 (fun _=>[]):=fun W _ =>
  (bparts_nil c y cap ad W hn hU).mono fun e w' ⟨⟨m,h1,h2⟩,hb⟩=>⟨⟨m,h1,fun _=>h2,fun h=>absurd rfl h⟩,hb⟩
def TtSt (c:Cal) (u:Un) (v1 v2:Value) (B:Nat) (w0 w:World):Prop:=CalAt w B c∧UnAt w (B+1) u∧BlkIs w (B+2) #[v1,v2] 30∧B+2<w.heap.size∧Below B w0 w
theorem TtSt.call {c:Cal} {u:Un} {v1 v2:Value} {B:Nat} {w0 w w':World} (h:TtSt c u v1 v2 B w0 w) (hb:Below w.heap.size w w'):TtSt c u v1 v2 B w0 w':=by
  obtain ⟨h1,h2,h3,h4,h5⟩:=h
  exact ⟨calAt_below hb (by omega) h1,unAt_below hb (by omega) h2,h3.call hb,Nat.lt_of_lt_of_le h4 hb.size,h5.trans (hb.mono (by omega))⟩
theorem ttSt_new (c:Cal) (u:Un) (v1 v2:Value) (w:World):TtSt c u v1 v2 w.heap.size w (((w.alloc (calObj c)).alloc (unObj u)).alloc (.cells #[v1,v2] 30)):=by
  refine ⟨calAt_alloc (calAt_alloc (calAt_new w c) (by simp) _) (by simp;omega) _,unAt_alloc (unAt_new w c u) (by simp) _,?_,by simp,by (repeat' exact bel)⟩
  simpa using BlkIs.new ((w.alloc (calObj c)).alloc (unObj u)) #[v1,v2] 30
theorem TtSt.cells {c:Cal} {u:Un} {v1 v2:Value} {B:Nat} {w0 w:World} (h:TtSt c u v1 v2 B w0 w):CalAt w B c∧UnAt w (B+1) u∧(w.cell? ⟨B+1+1,0,none⟩=some v1∧w.cell? ⟨B+1+1,1,none⟩=some v2)∧B+2<w.heap.size∧Below B w0 w:=⟨h.1,h.2.1,⟨h.2.2.1.cell 0,h.2.2.1.cell 1⟩,h.2.2.2.1,h.2.2.2.2⟩
theorem btotal_any (c:Cal) (u:Un) (P:List Po) (A:List Ac) (pe:Int) (f:Un→List Int) (v1 v2:Value) (w:World) (hn:c.name.size≤1000) (hP:Posts w v1 P) (hA:Accs w v2 A) (hl:P.length≤5000∧A.length≤5000) (hp64:∀ p∈P,in64 p.n)
    (hpt:unitE c u=0→chkE P A=0→PartsOk c u.yr A v2 pe f) (hf64:unitE c u=0→chkE P A=0→pe=0→(∀ x,∀ n∈f x,in64 n)∧(wkNs f u.yr (cutA c u) (cutB c u-cutA c u)).length≤500000) :
    Calls Tryz.prog 12 #[calV c,unitV u,.agg #[v1,v2]] w fun e w'=>e=.returned (.tuple #[.int .i64 (tV c u P A pe f),.int .i64 (tE c u P A pe f)])∧Below w.heap.size w w':=by
  have HP:=hide hP
  have HA:=hide hA
  have HL:=hide hl
  have H64:=hide hp64
  have H0:=hide (ttSt_new c u v1 v2 w)
  have hlP:P.length≤100000∧A.length≤100000:=by omega
  have hlQ:P.length≤5000:=hl.1
  clear hl hp64
  by_cases hU:unitE c u=0
  · have HU:=hide hU
    by_cases hC:chkE P A=0
    · have HC:=hide hC
      have HPT:=hide (hpt hU hC)
      have HFB:=hide (hf64 hU hC)
      clear hpt hf64
      by_cases hpe:pe=0
      · have HV:=hide (show tV c u P A pe f=fitV (totL c u P f).sum by simp [tV,hU,hC,hpe])
        have HE:=hide (show tE c u P A pe f=fitE (totL c u P f).sum by simp [tE,hU,hC,hpe])
        have HFF:=hide (HFB.out hpe)
        subst hpe
        clear hU hC HFB
        obtain ⟨ad1,cap1,rfl,_⟩:=hP
        obtain ⟨ad2,cap2,rfl,_⟩:=hA
        simp only [calV,unitV]
        go_enter Tryz.func12,Tryz.ntmps12
        go_wp2_with fail
        refine (ucheck_any c u _ hn).mono ?_
        rintro e w1 ⟨rfl,hb1⟩
        rw [HU.out]
        have HS1:=hide (H0.out.call hb1)
        have HP1:=hide (HP.out.call (HS1.out.2.2.2.2))
        have HA1:=hide (HA.out.call (HS1.out.2.2.2.2))
        clear hb1
        obtain ⟨⟨q0,q1,q2,q3,q4,q5,q6,q7,q8,q9,q10,q11,q12,q13⟩,⟨u0,u1,u2⟩,⟨k0,k1⟩,hsz,hBel⟩:=HS1.out.cells
        go_wp2_with fail
        refine (bcheck_any P A _ _ _ HP1.out HA1.out hlP).mono ?_
        rintro e w2 ⟨rfl,hb2⟩
        clear q0 q1 q2 q3 q4 q5 q6 q7 q8 q9 q10 q11 q12 q13 u0 u1 u2 k0 k1 hsz hBel
        rw [HC.out]
        have HS2:=hide (HS1.out.call hb2)
        have HP2:=hide (HP.out.call (HS2.out.2.2.2.2))
        have HA2:=hide (HA.out.call (HS2.out.2.2.2.2))
        clear hb2
        obtain ⟨⟨q0,q1,q2,q3,q4,q5,q6,q7,q8,q9,q10,q11,q12,q13⟩,⟨u0,u1,u2⟩,⟨k0,k1⟩,hsz,hBel⟩:=HS2.out.cells
        go_wp2_with fail
        refine (HPT.out _ HA2.out).mono ?_
        rintro e w3 ⟨⟨m,rfl,hpm,hnm⟩,hb3⟩
        clear q0 q1 q2 q3 q4 q5 q6 q7 q8 q9 q10 q11 q12 q13 u0 u1 u2 k0 k1 hsz hBel
        have HPM:=hide (hpm rfl)
        clear hpm hnm
        have HS3:=hide (HS2.out.call hb3)
        have HP3:=hide (HP.out.call (HS3.out.2.2.2.2))
        have HA3:=hide (HA.out.call (HS3.out.2.2.2.2))
        clear hb3
        obtain ⟨⟨q0,q1,q2,q3,q4,q5,q6,q7,q8,q9,q10,q11,q12,q13⟩,⟨u0,u1,u2⟩,⟨k0,k1⟩,hsz,hBel⟩:=HS3.out.cells
        go_wp2_with fail
        refine (bsum_any c u P f _ _ _ hn HU.out HP3.out HPM.out hlQ H64.out HFF.out.1 HFF.out.2).mono ?_
        rintro e w4 ⟨rfl,hb4⟩
        clear q0 q1 q2 q3 q4 q5 q6 q7 q8 q9 q10 q11 q12 q13 u0 u1 u2 k0 k1 hsz hBel
        have HS4:=hide (HS3.out.call hb4)
        have HP4:=hide (HP.out.call (HS4.out.2.2.2.2))
        have HA4:=hide (HA.out.call (HS4.out.2.2.2.2))
        clear hb4
        obtain ⟨⟨q0,q1,q2,q3,q4,q5,q6,q7,q8,q9,q10,q11,q12,q13⟩,⟨u0,u1,u2⟩,⟨k0,k1⟩,hsz,hBel⟩:=HS4.out.cells
        go_wp2
        go_ret2
        exact ⟨ret_int2 HV.out.symm HE.out.symm,hBel⟩
      · have HV:=hide (show tV c u P A pe f=0 by simp [tV,hpe])
        have HE:=hide (show tE c u P A pe f=pe by simp [tE,HU.out,HC.out,hpe])
        have hub:(pe != 0)=true:=by simpa using hpe
        have HPE:=hide hpe
        clear hpe hU hC
        obtain ⟨ad1,cap1,rfl,_⟩:=hP
        obtain ⟨ad2,cap2,rfl,_⟩:=hA
        simp only [calV,unitV]
        go_enter Tryz.func12,Tryz.ntmps12
        go_wp2_with fail
        refine (ucheck_any c u _ hn).mono ?_
        rintro e w1 ⟨rfl,hb1⟩
        rw [HU.out]
        have HS1:=hide (H0.out.call hb1)
        have HP1:=hide (HP.out.call (HS1.out.2.2.2.2))
        have HA1:=hide (HA.out.call (HS1.out.2.2.2.2))
        clear hb1
        obtain ⟨⟨q0,q1,q2,q3,q4,q5,q6,q7,q8,q9,q10,q11,q12,q13⟩,⟨u0,u1,u2⟩,⟨k0,k1⟩,hsz,hBel⟩:=HS1.out.cells
        go_wp2_with fail
        refine (bcheck_any P A _ _ _ HP1.out HA1.out hlP).mono ?_
        rintro e w2 ⟨rfl,hb2⟩
        clear q0 q1 q2 q3 q4 q5 q6 q7 q8 q9 q10 q11 q12 q13 u0 u1 u2 k0 k1 hsz hBel
        rw [HC.out]
        have HS2:=hide (HS1.out.call hb2)
        have HP2:=hide (HP.out.call (HS2.out.2.2.2.2))
        have HA2:=hide (HA.out.call (HS2.out.2.2.2.2))
        clear hb2
        obtain ⟨⟨q0,q1,q2,q3,q4,q5,q6,q7,q8,q9,q10,q11,q12,q13⟩,⟨u0,u1,u2⟩,⟨k0,k1⟩,hsz,hBel⟩:=HS2.out.cells
        go_wp2_with fail
        refine (HPT.out _ HA2.out).mono ?_
        rintro e w3 ⟨⟨m,rfl,hpm,hnm⟩,hb3⟩
        clear q0 q1 q2 q3 q4 q5 q6 q7 q8 q9 q10 q11 q12 q13 u0 u1 u2 k0 k1 hsz hBel
        obtain rfl:=hnm HPE.out
        clear hpm hnm
        have HS3:=hide (HS2.out.call hb3)
        have HP3:=hide (HP.out.call (HS3.out.2.2.2.2))
        have HA3:=hide (HA.out.call (HS3.out.2.2.2.2))
        clear hb3
        obtain ⟨⟨q0,q1,q2,q3,q4,q5,q6,q7,q8,q9,q10,q11,q12,q13⟩,⟨u0,u1,u2⟩,⟨k0,k1⟩,hsz,hBel⟩:=HS3.out.cells
        go_wp2
        go_ret2
        exact ⟨ret_int2 HV.out.symm HE.out.symm,hBel⟩
    · have HV:=hide (show tV c u P A pe f=0 by simp [tV,hC])
      have HE:=hide (show tE c u P A pe f=chkE P A by simp [tE,HU.out,hC])
      have hub:(chkE P A != 0)=true:=by simpa using hC
      clear hpt hf64 hC hU
      obtain ⟨ad1,cap1,rfl,_⟩:=hP
      obtain ⟨ad2,cap2,rfl,_⟩:=hA
      simp only [calV,unitV]
      go_enter Tryz.func12,Tryz.ntmps12
      go_wp2_with fail
      refine (ucheck_any c u _ hn).mono ?_
      rintro e w1 ⟨rfl,hb1⟩
      rw [HU.out]
      have HS1:=hide (H0.out.call hb1)
      have HP1:=hide (HP.out.call (HS1.out.2.2.2.2))
      have HA1:=hide (HA.out.call (HS1.out.2.2.2.2))
      clear hb1
      obtain ⟨⟨q0,q1,q2,q3,q4,q5,q6,q7,q8,q9,q10,q11,q12,q13⟩,⟨u0,u1,u2⟩,⟨k0,k1⟩,hsz,hBel⟩:=HS1.out.cells
      go_wp2_with fail
      refine (bcheck_any P A _ _ _ HP1.out HA1.out hlP).mono ?_
      rintro e w2 ⟨rfl,hb2⟩
      clear q0 q1 q2 q3 q4 q5 q6 q7 q8 q9 q10 q11 q12 q13 u0 u1 u2 k0 k1 hsz hBel
      have HS2:=hide (HS1.out.call hb2)
      have HP2:=hide (HP.out.call (HS2.out.2.2.2.2))
      have HA2:=hide (HA.out.call (HS2.out.2.2.2.2))
      clear hb2
      obtain ⟨⟨q0,q1,q2,q3,q4,q5,q6,q7,q8,q9,q10,q11,q12,q13⟩,⟨u0,u1,u2⟩,⟨k0,k1⟩,hsz,hBel⟩:=HS2.out.cells
      go_wp2
      go_ret2
      exact ⟨ret_int2 HV.out.symm HE.out.symm,hBel⟩
  · have HV:=hide (show tV c u P A pe f=0 by simp [tV,hU])
    have HE:=hide (show tE c u P A pe f=unitE c u by simp [tE,hU])
    have hub:(unitE c u != 0)=true:=by simpa using hU
    clear hpt hf64 hU
    obtain ⟨ad1,cap1,rfl,_⟩:=hP
    obtain ⟨ad2,cap2,rfl,_⟩:=hA
    simp only [calV,unitV]
    go_enter Tryz.func12,Tryz.ntmps12
    go_wp2_with fail
    refine (ucheck_any c u _ hn).mono ?_
    rintro e w1 ⟨rfl,hb1⟩
    have HS1:=hide (H0.out.call hb1)
    have HP1:=hide (HP.out.call (HS1.out.2.2.2.2))
    have HA1:=hide (HA.out.call (HS1.out.2.2.2.2))
    clear hb1
    obtain ⟨⟨q0,q1,q2,q3,q4,q5,q6,q7,q8,q9,q10,q11,q12,q13⟩,⟨u0,u1,u2⟩,⟨k0,k1⟩,hsz,hBel⟩:=HS1.out.cells
    go_wp2
    go_ret2
    exact ⟨ret_int2 HV.out.symm HE.out.symm,hBel⟩
end Go.Proofs.YtjhhmeoibfdcmaaGreat
namespace Go.Proofs.YtjhhmeoibfdcmaaGreat
open Go.RowKit Qd
def flatP (l:List Po):List Value:=l.flatMap fun p=>[.int .i64 p.day,.int .i64 p.n]
theorem flatP_len (l:List Po):(flatP l).length=l.length*2:=by
  induction l with
  | nil=>rfl
  | cons a l ih=>simp only [flatP,List.flatMap_cons,List.length_append,List.length_cons,List.length_nil] at ih ⊢;omega
theorem flatP_snoc (l:List Po) (p:Po):flatP (l++[p])=flatP l++[.int .i64 p.day,.int .i64 p.n]:=by simp [flatP]
theorem flatP_get {l:List Po} {i:Nat} {p:Po} (h:l[i]?=some p):(flatP l)[i*2]?=some (.int .i64 p.day)∧(flatP l)[i*2+1]?=some (.int .i64 p.n):=by
  induction l generalizing i with
  | nil=>simp at h
  | cons a l ih =>
    cases i with
    | zero=>simp at h;subst h;simp [flatP]
    | succ i =>
      have:=ih (i:=i) (by simpa using h)
      simp only [flatP,List.flatMap_cons] at this ⊢
      rw [show (i+1)*2=i*2+1+1 by omega]
      simpa using this
theorem flatP_cell {l:List Po} {j:Nat} {u:Value} (h:(flatP l)[j]?=some u):∃ (i:Nat) (p:Po),l[i]?=some p∧((j=i*2∧u=.int .i64 p.day)∨(j=i*2+1∧u=.int .i64 p.n)):=by
  have hl:=(List.getElem?_eq_some_iff.1 h).1
  rw [flatP_len] at hl
  have hi:j / 2<l.length:=by omega
  obtain ⟨p,hp⟩:∃ p,l[j / 2]?=some p:=⟨_,List.getElem?_eq_getElem hi⟩
  obtain ⟨h0,h1⟩:=flatP_get hp
  refine ⟨j / 2,p,hp,?_⟩
  rcases (show j=j / 2*2∨j=j / 2*2+1 by omega) with e | e
  · left;refine ⟨e,?_⟩;rw [← e,h] at h0;exact Option.some.inj h0
  · right;refine ⟨e,?_⟩;rw [← e,h] at h1;exact Option.some.inj h1
theorem post_info:(Tryz.prog.info? 32).map (fun i=>(i.zero,i.size,i.bytes))=some (some (.agg #[.int .i64 0,.int .i64 0]),2,16):=by kernel_rfl
abbrev OwnP (w:World) (base:Nat) (v:Value) (l:List Po):Prop:=w.ownsRow base 32 2 v l.length (flatP l)
theorem ownP_call {w w':World} {base:Nat} {v:Value} {l:List Po} (h:OwnP w base v l) (hb:Below w.heap.size w w'):OwnP w' base v l:=by
  refine ⟨h.1,?_⟩
  rcases h.2 with h1 | ⟨g',cap',cur,he,h2,hg',h3⟩
  · exact .inl h1
  · exact .inr ⟨g',cap',cur,he,h2,(hb.block g' (Array.getElem?_eq_some_iff.1 hg').1).trans hg',h3⟩
theorem ownP_posts {w:World} {base:Nat} {v:Value} {l:List Po} (h:OwnP w base v l):Posts w v l:=by
  rcases h.2 with ⟨h1,h2⟩ | ⟨g,cap,cur,h1,h2,h3,h4,h5,h6,h7⟩
  · have hl:l=[]:=List.length_eq_zero_iff.1 h2
    subst hl
    exact ⟨none,0,h1,fun i x hx=>by simp at hx⟩
  · refine ⟨_,_,h1,fun i x hx=>⟨g,0,rfl,(Array.getElem?_eq_some_iff.1 h3).1,?_,?_⟩⟩
    all_goals
      subst h1
      have hi:=(List.getElem?_eq_some_iff.1 hx).1
    · rw [Nat.zero_add,h.cellAt (i*2) (by omega)];exact (flatP_get hx).1
    · rw [Nat.zero_add,h.cellAt (i*2+1) (by omega)];exact (flatP_get hx).2
theorem clonep_nil (w:World):Calls Tryz.prog 45 #[.slice none 0 0] w fun e w'=>e=.returned (.slice none 0 0)∧w=w':=by
  have hnil:=@Lib.run_eql_slice_nil Tryz.prog
  go_enter Tryz.func45,Tryz.ntmps45
  go_wp2
  go_ret
  exact ⟨rfl,rfl⟩
theorem clonea_nil (w:World):Calls Tryz.prog 46 #[.slice none 0 0] w fun e w'=>e=.returned (.slice none 0 0)∧w=w':=by
  have hnil:=@Lib.run_eql_slice_nil Tryz.prog
  go_enter Tryz.func46,Tryz.ntmps46
  go_wp2
  go_ret
  exact ⟨rfl,rfl⟩
theorem posts_cells {w:World} {ad:Addr} {cap:Nat} {P:List Po} (h:Posts w (.slice (some ad) P.length cap) P):∀ (j:Nat) (u:Value),(flatP P)[j]?=some u→w.cell? (ad.add j)=some u:=by
  intro j u hj
  obtain ⟨i,p,hp,hc⟩:=flatP_cell hj
  obtain ⟨g,o,e,hg,c0,c1⟩:=h.at hp
  cases e
  rcases hc with ⟨rfl,rfl⟩ | ⟨rfl,rfl⟩
  · by_cases h0:i*2=0
    · have:i=0:=by omega
      subst this
      simpa [Addr.add] using c0
    · simpa [Addr.add,h0] using c0
  · simpa [Addr.add,Nat.add_assoc] using c1
theorem flatP_one (l:List Po):∀ u∈flatP l,u.oneCell'=true:=by
  intro u hu
  simp only [flatP,List.mem_flatMap] at hu
  obtain ⟨p,_,hu⟩:=hu
  simp at hu
  rcases hu with rfl | rfl <;> rfl
theorem clonep_some (P:List Po) (ad:Addr) (cap:Nat) (w:World) (hP:Posts w (.slice (some ad) P.length cap) P) (hl:P.length≤100000) :
    Calls Tryz.prog 45 #[.slice (some ad) P.length cap] w fun e w'=>(∃ v,e=.returned v∧OwnP w' w.heap.size v P)∧Below w.heap.size w w':=by
  have hnil:=@Lib.run_eql_slice_nil Tryz.prog
  obtain ⟨i0,hi,hi0,hi1,hi2⟩:=info_parts post_info
  have HP:=hide hP
  clear hP
  go_enter Tryz.func45,Tryz.ntmps45
  go_wp2_with ((at_builtin;refine wpList_append_own _ rfl _ _ 27 rfl w.heap.size 32 i0 (.agg #[.int .i64 0,.int .i64 0]) 2 16 Tryz.underlying27 hi hi0 hi1 hi2 rfl (by decide) _ _ _ rfl (World.ownsRow_lit w #[] 0 (Nat.le_refl _) (Nat.zero_le _) rfl) ad P.length cap (flatP P) rfl (flatP_len P) ?c1 (flatP_one P) ?c3 ?c4 ?c5 ?_))
  case c1=>exact posts_cells (HP.out.call (by (repeat' exact bel)))
  case c3=>unfold maxLen;omega
  case c4=>omega
  case c5=>simp
  intro v' w' hown' hgrow _
  have HO:=hide (show OwnP w' w.heap.size v' P by simpa using hown')
  have HB:=hide (((Below.refl w.heap.size w).alloc (Nat.le_refl _) (.cells #[] 32)).grown hgrow (by simp) (fun k hk=>by simp [Value.ownBlock] at hk;omega))
  clear hown' hgrow
  go_wp2
  go_ret
  exact ⟨⟨_,rfl,HO.out⟩,HB.out⟩
end Go.Proofs.YtjhhmeoibfdcmaaGreat
