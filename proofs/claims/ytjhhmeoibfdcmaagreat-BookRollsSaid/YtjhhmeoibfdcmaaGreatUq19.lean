/- Contracts of comp: pairs, policies. Contracts of comp.Week. Contracts of comp.Week: its three policies. Contract of comp.Day. The plain law of comparable days; layer 19's example. The plain law of comparable days: weeks that are dropped; there and back; rising. Package vary: what the comparable weeks come to. Package vary: the contract of that. Package vary: the contract of Row. The reference of layer 22: days, accruals. Package book: a small book of postings and short accruals; the test of the statements of layer 22. The reference of layer 22: whether a book is small enough. Plain law of books: what falls to the weeks of a unit; a single accrual. Plain law of books: the weeks of a unit come to what it comes to. Vary: the days with which a unit's days are compared, and what is posted on them: plain law. Vary: what '==' says of rows; the chapter's example. -/
import Derived.ArgAppend
import Derived.Laws.CopyOwn
import Derived.Laws.Tables
import Derived.WideMake
import Derived.Test.YtjhhmeoibfdcmaaGreatUq01
import Derived.Test.YtjhhmeoibfdcmaaGreatUq05
import Derived.Test.YtjhhmeoibfdcmaaGreatUq06
import Derived.Test.YtjhhmeoibfdcmaaGreatUq08
import Derived.Test.YtjhhmeoibfdcmaaGreatUq09
import Derived.Test.YtjhhmeoibfdcmaaGreatUq10
import Derived.Test.YtjhhmeoibfdcmaaGreatUq11
import Derived.Test.YtjhhmeoibfdcmaaGreatUq17
import Derived.Test.YtjhhmeoibfdcmaaGreatUq18
set_option linter.unusedSimpArgs false
set_option linter.unusedVariables false
set_option maxRecDepth 100000
set_option maxHeartbeats 12800000
namespace Go.Proofs.YtjhhmeoibfdcmaaGreat
open Go.RowKit Qd
theorem fd_served {c:Cal} {d:Int} (hs:servE c d=0) (lv:Int) (h1:1≤lv) (h5:lv≤5):fdE c d lv=0:=by
  have:=serv_ok hs
  unfold fdE
  rw [if_pos ⟨this.1,h1,h5⟩]
  exact hs
end Go.Proofs.YtjhhmeoibfdcmaaGreat
namespace Go.Proofs.YtjhhmeoibfdcmaaGreat
open Go.RowKit Qd
structure Parts where
  pe:Int→Int
  f:Int→Un→List Int
def TV (c:Cal) (P:List Po) (A:List Ac) (Z:Parts) (x:Un):Int:=tV c x P A (Z.pe x.yr) (Z.f x.yr)
def TE (c:Cal) (P:List Po) (A:List Ac) (Z:Parts) (x:Un):Int:=tE c x P A (Z.pe x.yr) (Z.f x.yr)
def totsE (c:Cal) (P:List Po) (A:List Ac) (Z:Parts):List Un→Int
  | []=>0
  | x::l=>if TE c P A Z x=0 then totsE c P A Z l else TE c P A Z x
def BookOk (c:Cal) (P:List Po) (A:List Ac) (v2:Value) (Z:Parts):Prop:=(P.length≤5000∧A.length≤5000)∧(∀ p∈P,in64 p.n) ∧
  ∀ u:Un,unitE c u=0→chkE P A=0→PartsOk c u.yr A v2 (Z.pe u.yr) (Z.f u.yr)∧(Z.pe u.yr=0→(∀ x,∀ n∈Z.f u.yr x,in64 n)∧(wkNs (Z.f u.yr) u.yr (cutA c u) (cutB c u-cutA c u)).length≤500000)
theorem btotal_bk (c:Cal) (u:Un) (P:List Po) (A:List Ac) (Z:Parts) (v1 v2:Value) (w:World) (hn:c.name.size≤1000) (hP:Posts w v1 P) (hA:Accs w v2 A) (hB:BookOk c P A v2 Z) :
    Calls Tryz.prog 12 #[calV c,unitV u,.agg #[v1,v2]] w fun e w'=>e=.returned (.tuple #[.int .i64 (TV c P A Z u),.int .i64 (TE c P A Z u)])∧Below w.heap.size w w':=
  btotal_any c u P A (Z.pe u.yr) (Z.f u.yr) v1 v2 w hn hP hA hB.1 hB.2.1 (fun h1 h2=>(hB.2.2 u h1 h2).1) (fun h1 h2 h3=>(hB.2.2 u h1 h2).2 h3)
theorem totsE_take {c:Cal} {P:List Po} {A:List Ac} {Z:Parts} {L:List Un} {j:Nat} {x:Un} (hx:L[j]?=some x) (h:totsE c P A Z (L.take j)=0) (h0:TE c P A Z x=0):totsE c P A Z (L.take (j+1))=0:=by
  induction L generalizing j with
  | nil=>simp at hx
  | cons y l ih =>
    cases j with
    | zero=>simp at hx;subst hx;simp [totsE,h0]
    | succ j =>
      simp only [List.take_succ_cons,totsE] at h ⊢
      by_cases hy:TE c P A Z y=0
      · rw [if_pos hy] at h ⊢;exact ih (by simpa using hx) h
      · rw [if_neg hy] at h;exact absurd h hy
theorem totsE_no {c:Cal} {P:List Po} {A:List Ac} {Z:Parts} {L:List Un} {j:Nat} {x:Un} (hx:L[j]?=some x) (h:totsE c P A Z (L.take j)=0) (h0:¬ TE c P A Z x=0):totsE c P A Z L=TE c P A Z x:=by
  induction L generalizing j with
  | nil=>simp at hx
  | cons y l ih =>
    cases j with
    | zero=>simp at hx;subst hx;simp [totsE,h0]
    | succ j =>
      simp only [List.take_succ_cons,totsE] at h ⊢
      by_cases hy:TE c P A Z y=0
      · rw [if_pos hy] at h ⊢;exact ih (by simpa using hx) h
      · rw [if_neg hy] at h;exact absurd h hy
end Go.Proofs.YtjhhmeoibfdcmaaGreat
namespace Go.Proofs.YtjhhmeoibfdcmaaGreat
open Go.RowKit Qd
end Go.Proofs.YtjhhmeoibfdcmaaGreat
namespace Go.Proofs.YtjhhmeoibfdcmaaGreat
open Go.RowKit Qd
end Go.Proofs.YtjhhmeoibfdcmaaGreat
namespace Go.Proofs.YtjhhmeoibfdcmaaGreat
open Go.RowKit Qd
theorem r22is_any (d:Int) (w:World):Calls Tryz.prog 42 #[.int .i64 d] w fun e w'=>e=.returned (.bool (isB d))∧w=w':=by
  by_cases h1:0≤d
  · by_cases h2:d≤3068036
    · have HE:=hide (show isB d=true by simp [isB];omega)
      have hb1:decide (0≤d)=true:=by simpa using h1
      have hb2:decide (d≤3068036)=true:=by simpa using h2
      go_enter Tryz.func42,Tryz.ntmps42
      go_wp2
      all_goals first
        | (exfalso;omega)
        | (go_ret;exact ⟨ret_bool HE.out.symm,rfl⟩)
    · have HE:=hide (show isB d=false by simp [isB];omega)
      have hb1:decide (0≤d)=true:=by simpa using h1
      have hb2:decide (d≤3068036)=false:=by simpa using h2
      go_enter Tryz.func42,Tryz.ntmps42
      go_wp2
      all_goals first
        | (exfalso;omega)
        | (go_ret;exact ⟨ret_bool HE.out.symm,rfl⟩)
  · have HE:=hide (show isB d=false by simp [isB];omega)
    have hb1:decide (0≤d)=false:=by simpa using h1
    go_enter Tryz.func42,Tryz.ntmps42
    go_wp2
    all_goals first
      | (exfalso;omega)
      | (go_ret;exact ⟨ret_bool HE.out.symm,rfl⟩)
theorem r22acc_any (x:Ac) (w:World):Calls Tryz.prog 61 #[.agg #[.int .i64 x.a,.int .i64 x.b,.int .i64 x.n]] w fun e w'=>e=.returned (.int .i64 (accE x))∧Below w.heap.size w w':=by
  cases ha:isB x.a
  · have HE:=hide (show accE x=4 by simp [accE,ha])
    go_enter Tryz.func61,Tryz.ntmps61
    go_wp2_with fail
    refine (r22is_any x.a _).mono ?_
    rintro e w1 ⟨rfl,rfl⟩
    rw [ha]
    go_wp2
    go_ret
    exact ⟨ret_int HE.out.symm,by (repeat' exact bel)⟩
  · cases hb:isB x.b
    · have HE:=hide (show accE x=4 by simp [accE,hb])
      go_enter Tryz.func61,Tryz.ntmps61
      go_wp2_with fail
      refine (r22is_any x.a _).mono ?_
      rintro e w1 ⟨rfl,rfl⟩
      rw [ha]
      go_wp2_with fail
      refine (r22is_any x.b _).mono ?_
      rintro e w1 ⟨rfl,rfl⟩
      rw [hb]
      go_wp2
      go_ret
      exact ⟨ret_int HE.out.symm,by (repeat' exact bel)⟩
    · by_cases h2:x.b<x.a
      all_goals
        have HE:=hide (show accE x=if x.b<x.a then 1 else 0 by simp [accE,ha,hb])
        first | rw [if_pos h2] at HE | rw [if_neg h2] at HE
        go_enter Tryz.func61,Tryz.ntmps61
        go_wp2_with fail
        refine (r22is_any x.a _).mono ?_
        rintro e w1 ⟨rfl,rfl⟩
        rw [ha]
        go_wp2_with fail
        refine (r22is_any x.b _).mono ?_
        rintro e w1 ⟨rfl,rfl⟩
        rw [hb]
        go_wp2
        all_goals first
          | (exfalso;omega)
          | (go_ret;exact ⟨ret_int HE.out.symm,by (repeat' exact bel)⟩)
end Go.Proofs.YtjhhmeoibfdcmaaGreat
namespace Go.Proofs.YtjhhmeoibfdcmaaGreat
open Go.RowKit Qd
noncomputable def ZA (c:Cal) (A:List Ac):Parts:=⟨fun y=>ptE c y A,fun y=>shF (pL c y A)⟩
theorem wkNs_bd (f:Un→List Int) (y:Int) (a n k:Nat) (h:∀ x,(f x).length≤k):(wkNs f y a n).length≤n*k:=by
  induction n with
  | zero=>simp [wkNs]
  | succ n ih=>rw [wkNs,List.length_append,Nat.succ_mul];exact Nat.add_le_add ih (h _)
theorem ac_len {c:Cal} {a:Ac} (h:meetsE c 5 ⟨a.a,a.b⟩=0) (hb:accE a=0→a.b-a.a≤1500):(meetsL c 5 ⟨a.a,a.b⟩).length≤420:=
  (brief_len h fun h1 h2 h3=>hb (by simp only at h1 h2 h3;rw [accE,if_pos (by simp [isB];omega),if_neg (by omega)])).2
theorem pL_mem {c:Cal} {y:Int} {A:List Ac} {x:Un × Int} (h:x∈pL c y A):∃ a∈A,nearA c y a=true∧x∈shL c 5 a.n ⟨a.a,a.b⟩:=by
  unfold pL at h
  obtain ⟨a,ha,hx⟩:=List.mem_flatMap.1 h
  split at hx
  · rename_i hn;exact ⟨a,ha,hn,hx⟩
  · simp at hx
theorem shL_in {c:Cal} {lv a:Int} {s:Sp} (hE:meetsE c lv s=0) (ha:in64 a) {x:Un × Int} (h:x∈shL c lv a s):in64 x.2:=by
  have hdf:=dys_facts hE
  have hok:=meets_ok hE
  obtain ⟨u,n⟩:=x
  have hn:n∈outV a (dysL c lv s):=(List.of_mem_zip h).2
  obtain ⟨i,hi⟩:=List.mem_iff_getElem?.1 hn
  have hpos:0<(dysL c lv s).sum:=by
    rw [hdf.1]
    have:=hok.2.2.1
    omega
  exact out_in ha (fun x hx=>by have:=hdf.2 x hx;omega) hpos hi
theorem bookA (c:Cal) (P:List Po) (A:List Ac) (v2:Value) (hn:c.name.size≤1000) (hl:P.length≤5000∧A.length≤16) (h64:∀ p∈P,in64 p.n) (ha64:∀ a∈A,in64 a.n) (hb:∀ a∈A,accE a=0→a.b-a.a≤1500):BookOk c P A v2 (ZA c A):=by
  refine ⟨⟨hl.1,by omega⟩,h64,fun u hU _=>⟨fun W hW=>?_,fun h0=>⟨fun x n hx=>?_,?_⟩⟩⟩
  · exact bparts_any c u.yr A v2 W hn (unit_year hU) hW (by omega) ha64 fun a ha h=>Nat.le_trans (ac_len h (hb a ha)) (by omega)
  · obtain ⟨a,ha,hne,h⟩:=pL_mem (shF_mem hx)
    exact shL_in (ptE_near c u.yr A h0 a ha hne) (ha64 a ha) h
  · have h1:=fun x=>Nat.le_trans (shF_len (pL c u.yr A) x) (pL_len c u.yr A 420 h0 fun a ha h=>ac_len h (hb a ha))
    have h2:=nWk_bd c u.yr (un_lv hU).2.2.2.1
    have h3:=cutAB hU
    refine Nat.le_trans (wkNs_bd _ _ _ _ _ h1) (Nat.le_trans (Nat.mul_le_mul (show cutB c u-cutA c u≤60 by omega) (Nat.mul_le_mul (show A.length≤16 by omega) (Nat.le_refl 420))) (by omega))
def fewA (a:Ac):Bool:=!(isB a.a&&isB a.b&&decide (1200<a.b-a.a))
def fewB (c:Cal) (P:List Po) (A:List Ac):Bool:=A.all fewA&&decide (c.name.size≤100)&&decide (P.length≤16)&&decide (A.length≤6)
theorem few_out {c:Cal} {P:List Po} {A:List Ac} (h:fewB c P A=true):c.name.size≤100∧P.length≤16∧A.length≤6∧∀ a∈A,accE a=0→a.b-a.a≤1500:=by
  simp [fewB] at h
  obtain ⟨⟨⟨h1,h2⟩,h3⟩,h4⟩:=h
  refine ⟨h2,h3,h4,fun a ha h0=>?_⟩
  have:=h1 a ha
  unfold accE at h0
  split at h0
  · rename_i h5
    simp [fewA] at this
    simp at h5
    rcases this with (h6 | h6) | h6
    · rw [h5.1] at h6;cases h6
    · rw [h5.2] at h6;cases h6
    · omega
  · cases h0
theorem bookF (c:Cal) (P:List Po) (A:List Ac) (v2:Value) (h:fewB c P A=true) (h64:∀ p∈P,in64 p.n) (ha64:∀ a∈A,in64 a.n):BookOk c P A v2 (ZA c A):=by
  obtain ⟨h1,h2,h3,h4⟩:=few_out h
  exact bookA c P A v2 (by omega) ⟨by omega,by omega⟩ h64 ha64 h4
end Go.Proofs.YtjhhmeoibfdcmaaGreat
namespace Go.Proofs.YtjhhmeoibfdcmaaGreat
open Go.RowKit Qd
theorem few_step {A:List Ac} {j:Nat} {x:Ac} (hx:A[j]?=some x) (h:(A.take j).all fewA=true):(A.take (j+1)).all fewA=fewA x:=by
  rw [List.take_add_one,hx,List.all_append,h];simp
theorem few_no {A:List Ac} {j:Nat} {x:Ac} (hx:A[j]?=some x) (h:fewA x=false) (c:Cal) (P:List Po):fewB c P A=false:=by
  have:A.all fewA=false:=by
    rw [List.all_eq_false]
    exact ⟨x,List.mem_of_getElem? hx,by simp [h]⟩
  simp [fewB,this]
def FwSt (c:Cal) (v1 v2:Value) (B:Nat) (w0 w:World):Prop:=CalAt w B c∧BlkIs w (B+1) #[v1,v2] 30∧B+1<w.heap.size∧Below B w0 w
theorem FwSt.call {c:Cal} {v1 v2:Value} {B:Nat} {w0 w w':World} (h:FwSt c v1 v2 B w0 w) (hb:Below w.heap.size w w'):FwSt c v1 v2 B w0 w':=
  ⟨calAt_below hb (by have:=h.2.2.1;omega) h.1,h.2.1.call hb,Nat.lt_of_lt_of_le h.2.2.1 hb.size,h.2.2.2.trans (hb.mono (by have:=h.2.2.1;omega))⟩
theorem fwSt_new (c:Cal) (v1 v2:Value) (w:World):FwSt c v1 v2 w.heap.size w ((w.alloc (calObj c)).alloc (.cells #[v1,v2] 30)):=by
  refine ⟨calAt_alloc (calAt_new w c) (by simp) _,?_,by simp,by (repeat' exact bel)⟩
  simpa using BlkIs.new (w.alloc (calObj c)) #[v1,v2] 30
theorem few_any (c:Cal) (P:List Po) (A:List Ac) (v1 v2:Value) (w:World) (hP:Posts w v1 P) (hA:Accs w v2 A) (hn:c.name.size≤9223372036854775807) (hl1:P.length≤9223372036854775807) (hl2:A.length≤9223372036854775807) :
    Calls Tryz.prog 10 #[calV c,.agg #[v1,v2]] w fun e w'=>e=.returned (.bool (fewB c P A))∧Below w.heap.size w w':=by
  have HA:=hide hA
  have H0:=hide (fwSt_new c v1 v2 w)
  obtain ⟨ad1,cap1,rfl,_⟩:=hP
  obtain ⟨ad2,cap2,rfl,_⟩:=hA
  simp only [calV]
  go_enter Tryz.func10,Tryz.ntmps10
  obtain ⟨q0,q1,q2,q3,q4,q5,q6,q7,q8,q9,q10,q11,q12,q13⟩:=H0.out.1
  obtain ⟨⟨k0,k1⟩,_⟩:=blk_two' H0.out.2.1
  go_wp2_with fail
  clear q0 q1 q2 q3 q4 q5 q6 q7 q8 q9 q10 q11 q12 q13
  clear k0 k1
  go_loopw [10] (fun s10 wr=>∃ j:Nat,s10=.int .i64 j∧j≤A.length∧(A.take j).all fewA=true∧Hid (FwSt c (.slice ad1 P.length cap1) (.slice ad2 A.length cap2) w.heap.size w wr)) (fun s10 _=>(A.length+5-intOf s10).toNat)
  case atStart=>exact ⟨0,rfl,Nat.zero_le _,rfl,H0⟩
  case round =>
    obtain ⟨j,rfl,hj,hall,HS⟩:=hrel
    have hz:=HS.out.2.2.1
    have hyr:w.heap.size<wr.heap.size:=by omega
    by_cases hlt:j<A.length
    · obtain ⟨x,hx⟩:∃ x,A[j]?=some x:=⟨_,List.getElem?_eq_getElem hlt⟩
      obtain ⟨g,o,rfl,hg,d0,d1,d2⟩:=(HA.out.call HS.out.2.2.2).at hx
      have HST:=hide (few_step hx hall)
      have HNO:=hide (fun h=>few_no hx h c P)
      have hi1:(0:Int)≤(j:Int):=by omega
      have hi3:(j:Int)<(A.length:Int):=by omega
      clear hx hall
      have HS2:=hide (HS.out.call ((Below.refl wr.heap.size wr).alloc (Nat.le_refl _) (.cells #[.int .i64 x.a,.int .i64 x.b,.int .i64 x.n] 47)))
      have hBel:=HS2.out.2.2.2
      cases hxa:isB x.a
      · have HF:=hide (show fewA x=true by simp [fewA,hxa])
        go_wp2_with fail
        refine (r22is_any x.a _).mono ?_
        rintro e w1 ⟨rfl,rfl⟩
        rw [hxa]
        go_wp2
        go_roundw
        case rel=>exact ⟨j+1,by go_num,by omega,by rw [HST.out,HF.out],HS2⟩
        case measure=>simp [intOf];omega
      · cases hxb:isB x.b
        · have HF:=hide (show fewA x=true by simp [fewA,hxb])
          go_wp2_with fail
          refine (r22is_any x.a _).mono ?_
          rintro e w1 ⟨rfl,rfl⟩
          rw [hxa]
          go_wp2_with fail
          refine (r22is_any x.b _).mono ?_
          rintro e w1 ⟨rfl,rfl⟩
          rw [hxb]
          go_wp2
          go_roundw
          case rel=>exact ⟨j+1,by go_num,by omega,by rw [HST.out,HF.out],HS2⟩
          case measure=>simp [intOf];omega
        · have h1:=hxa
          have h2:=hxb
          simp [isB] at h1 h2
          obtain ⟨h1,h1'⟩:=h1
          obtain ⟨h2,h2'⟩:=h2
          go_wp2_with fail
          refine (r22is_any x.a _).mono ?_
          rintro e w1 ⟨rfl,rfl⟩
          rw [hxa]
          go_wp2_with fail
          refine (r22is_any x.b _).mono ?_
          rintro e w1 ⟨rfl,rfl⟩
          rw [hxb]
          by_cases hd:1200<x.b-x.a
          · have HF:=hide (HNO.out (by simp [fewA,hxa,hxb,hd]))
            go_wp2
            all_goals first
              | (exfalso;omega)
              | (go_ret;exact ⟨ret_bool HF.out.symm,hBel⟩)
          · have HF:=hide (show fewA x=true by simp [fewA,hd])
            go_wp2
            all_goals first
              | (exfalso;omega)
              | skip
            go_roundw
            case rel=>exact ⟨j+1,by go_num,by omega,by rw [HST.out,HF.out],HS2⟩
            case measure=>simp [intOf];omega
    · obtain rfl:j=A.length:=by omega
      rw [List.take_length] at hall
      have HF:=hide (show fewB c P A=(decide (c.name.size≤100)&&decide (P.length≤16)&&decide (A.length≤6)) by simp [fewB,hall])
      have hBel:=HS.out.2.2.2
      obtain ⟨q0,q1,q2,q3,q4,q5,q6,q7,q8,q9,q10,q11,q12,q13⟩:=HS.out.1
      obtain ⟨⟨k0,k1⟩,_⟩:=blk_two' HS.out.2.1
      by_cases h1:c.name.size≤100
      · by_cases h2:P.length≤16
        · by_cases h3:A.length≤6
          · have HG:=hide (show fewB c P A=true by rw [HF.out];simp [h1,h2,h3])
            go_wp2
            all_goals first
              | (exfalso;omega)
              | (go_ret;exact ⟨ret_bool (by rw [HG.out];simp;omega),hBel⟩)
          · have HG:=hide (show fewB c P A=false by rw [HF.out];simp [h3])
            go_wp2
            all_goals first
              | (exfalso;omega)
              | (go_ret;exact ⟨ret_bool (by rw [HG.out];simp;omega),hBel⟩)
        · have HG:=hide (show fewB c P A=false by rw [HF.out];simp [h2])
          go_wp2
          all_goals first
            | (exfalso;omega)
            | (go_ret;exact ⟨ret_bool HG.out.symm,hBel⟩)
      · have HG:=hide (show fewB c P A=false by rw [HF.out];simp [h1])
        go_wp2
        all_goals first
          | (exfalso;omega)
          | (go_ret;exact ⟨ret_bool HG.out.symm,hBel⟩)
end Go.Proofs.YtjhhmeoibfdcmaaGreat
namespace Go.Proofs.YtjhhmeoibfdcmaaGreat
open Go.RowKit Qd
def inW (y:Int) (a n:Nat) (u:Un):Bool:=decide (u.lv=5∧u.yr=y∧(a:Int)+1≤u.ix∧u.ix<(a:Int)+1+n)
def sumW (L:List (Un × Int)) (q:Un→Bool):Int:=((L.filter fun x=>q x.1).map (·.2)).sum
theorem sumW_cons (x:Un × Int) (L:List (Un × Int)) (q:Un→Bool):sumW (x::L) q=(if q x.1=true then x.2 else 0)+sumW L q:=by
  unfold sumW
  by_cases h:q x.1=true
  · rw [List.filter_cons_of_pos (by simpa using h),if_pos h];simp
  · rw [List.filter_cons_of_neg (by simpa using h),if_neg h];simp
theorem shF_sum (L:List (Un × Int)) (u:Un):(shF L u).sum=sumW L fun x=>decide (u=x):=rfl
theorem wkNs_sum (L:List (Un × Int)) (y:Int) (a n:Nat):(wkNs (shF L) y a n).sum=sumW L (inW y a n):=by
  induction n with
  | zero =>
    have:(L.filter fun x=>inW y a 0 x.1)=[]:=by
      rw [List.filter_eq_nil_iff]
      intro x _
      simp [inW]
    simp [wkNs,sumW,this]
  | succ n ih =>
    rw [wkNs,List.sum_append,ih,shF_sum]
    clear ih
    induction L with
    | nil=>rfl
    | cons x L ih =>
      rw [sumW_cons,sumW_cons,sumW_cons,← ih]
      obtain ⟨⟨l,z,i⟩,v⟩:=x
      by_cases h1:inW y a n ⟨l,z,i⟩=true
      · have h2:inW y a (n+1) ⟨l,z,i⟩=true:=by simp [inW] at h1 ⊢;omega
        have h3:¬ decide ((⟨5,y,(a:Int)+1+n⟩:Un)=⟨l,z,i⟩)=true:=by simp [inW] at h1 ⊢;omega
        simp only [h1,h2,h3];simp;omega
      · by_cases h3:(⟨5,y,(a:Int)+1+n⟩:Un)=⟨l,z,i⟩
        · have h2:inW y a (n+1) ⟨l,z,i⟩=true:=by simp at h3;simp [inW];omega
          have h4:decide ((⟨5,y,(a:Int)+1+n⟩:Un)=⟨l,z,i⟩)=true:=by simpa using h3
          simp only [h1,h2,h4];simp;omega
        · have h2:¬ inW y a (n+1) ⟨l,z,i⟩=true:=by simp at h3;simp [inW] at h1 ⊢;omega
          have h4:¬ decide ((⟨5,y,(a:Int)+1+n⟩:Un)=⟨l,z,i⟩)=true:=by simpa using h3
          simp only [h1,h2,h4];simp
end Go.Proofs.YtjhhmeoibfdcmaaGreat
namespace Go.Proofs.YtjhhmeoibfdcmaaGreat
open Go.RowKit Qd
theorem T_ok {c:Cal} {x:Un} {P:List Po} {A:List Ac} {Z:Parts} (hU:unitE c x=0) (hC:chkE P A=0) (hp:Z.pe x.yr=0):TE c P A Z x=fitE (totL c x P (Z.f x.yr)).sum∧TV c P A Z x=fitV (totL c x P (Z.f x.yr)).sum:=by
  simp [TE,tE,TV,tV,hU,hC,hp]
theorem tots_all {c:Cal} {P:List Po} {A:List Ac} {Z:Parts} {L:List Un} (h:totsE c P A Z L=0):∀ x∈L,TE c P A Z x=0:=by
  induction L with
  | nil=>intro x hx;simp at hx
  | cons x L ih =>
    simp only [totsE] at h
    split at h
    · rename_i h1
      intro y hy
      rcases List.mem_cons.1 hy with rfl | hy
      · exact h1
      · exact ih h y hy
    · rename_i h1;exact absurd h h1
end Go.Proofs.YtjhhmeoibfdcmaaGreat
namespace Go.Proofs.YtjhhmeoibfdcmaaGreat
open Go.RowKit Qd
def Z0:Parts:=⟨fun _=>0,fun _ _=>[]⟩
theorem wkNs_nil (y:Int) (a n:Nat):wkNs (fun _=>[]) y a n=[]:=by
  induction n with
  | zero=>rfl
  | succ n ih=>rw [wkNs,ih];rfl
end Go.Proofs.YtjhhmeoibfdcmaaGreat
namespace Go.Proofs.YtjhhmeoibfdcmaaGreat
open Go.RowKit Qd
def nrf23:Cal:=⟨⟨#[120]⟩,3,6,1,1,1,4,5,4,0,12,2000,2030,1⟩
theorem book0 (c:Cal) (P:List Po) (hn:c.name.size≤1000) (hl:P.length≤5000) (h64:∀ p∈P,in64 p.n):BookOk c P [] (.slice none 0 0) Z0:=
  ⟨⟨hl,by simp⟩,h64,fun u hU _=>⟨partsOk_nil c u.yr none 0 hn (unit_year hU),fun _=>⟨fun x n h=>by simp [Z0] at h,by rw [show Z0.f u.yr=fun _=>[] from rfl,wkNs_nil];simp⟩⟩⟩
end Go.Proofs.YtjhhmeoibfdcmaaGreat
