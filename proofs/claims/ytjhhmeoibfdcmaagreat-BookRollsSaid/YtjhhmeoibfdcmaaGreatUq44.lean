/- The reference of layer 22: whether a book may be. The reference of layer 22: why one posting more can not be. Package book: why one accrual more can not be. The reference of layer 22: why one accrual more can not be. Package book: one posting more, beside any accruals. The reference of layer 22: a book's own copy. The reference of layer 22: one more, where it may be. Package book: one accrual more. The reference of layer 22: books that are the same. The reference of layer 22: two books of the same rows are the same. BookKeeps: what each of the four calls leaves; a row of one's own whose numbers are counted up. Package book: the totals of all units of a year. Plain law of books: the units of a finer level come to what a unit comes to. The closed facts of the row of BookRolls, one by one. -/
import Derived.ArgAppend
import Derived.BigQuiet
import Derived.Test.YtjhhmeoibfdcmaaGreatUq01
import Derived.Test.YtjhhmeoibfdcmaaGreatUq05
import Derived.Test.YtjhhmeoibfdcmaaGreatUq08
import Derived.Test.YtjhhmeoibfdcmaaGreatUq09
import Derived.Test.YtjhhmeoibfdcmaaGreatUq11
import Derived.Test.YtjhhmeoibfdcmaaGreatUq19
import Derived.Test.YtjhhmeoibfdcmaaGreatUq20
import Derived.Test.YtjhhmeoibfdcmaaGreatUq27
set_option linter.unusedSimpArgs false
set_option linter.unusedVariables false
set_option maxRecDepth 100000
set_option maxHeartbeats 12800000
namespace Go.Proofs.YtjhhmeoibfdcmaaGreat
open Go.RowKit Qd
theorem r22check_any (P:List Po) (A:List Ac) (v1 v2:Value) (w:World) (h1:Posts w v1 P) (h2:Accs w v2 A) (hl:P.length≤100000∧A.length≤100000):Calls Tryz.prog 20 #[.agg #[v1,v2]] w fun e w'=>e=.returned (.int .i64 (chkE P A))∧Below w.heap.size w w':=by
  have H0:=hide (show BkSt P A v1 v2 w.heap.size w (w.alloc (.cells #[v1,v2] 30)) from ⟨BlkIs.new _ _ _,by simp,h1.call (by (repeat' exact bel)),h2.call (by (repeat' exact bel)),by (repeat' exact bel)⟩)
  obtain ⟨ad1,cap1,rfl,hc1⟩:=h1
  obtain ⟨ad2,cap2,rfl,hc2⟩:=h2
  clear hc1 hc2
  go_enter Tryz.func20,Tryz.ntmps20
  by_cases hlong:4096<P.length∨4096<A.length
  · have HE:=hide (show chkE P A=6 by unfold chkE;rw [if_pos hlong])
    rcases hlong with hl1 | hl1
    all_goals
      go_wp2
      all_goals first
        | (exfalso;omega)
        | (go_ret;exact ⟨ret_int HE.out.symm,by (repeat' exact bel)⟩)
  · have hp4:P.length≤4096∧A.length≤4096:=by omega
    have HCK:=hide (show chkE P A=if dayB P then accsE A else 4 by unfold chkE;rw [if_neg hlong])
    clear hlong
    go_wp2_with fail
    all_goals first
      | (exfalso;omega)
      | skip
    go_loopw [21] (fun s wr=>∃ j:Nat,s=.int .i64 j∧j≤P.length∧Hid (dayB (P.take j)=true)∧BkSt P A (.slice ad1 P.length cap1) (.slice ad2 A.length cap2) w.heap.size w wr) (fun s _=>(P.length+5-intOf s).toNat)
    case atStart=>exact ⟨0,rfl,Nat.zero_le _,hide (by simp [dayB]),H0.out⟩
    case round =>
      obtain ⟨j,rfl,hj,HA,hS⟩:=hrel
      have HS:=hide hS
      clear hS
      have hBel:=HS.out.2.2.2.2
      by_cases hlt:j<P.length
      · obtain ⟨x,hx⟩:∃ x,P[j]?=some x:=⟨_,List.getElem?_eq_getElem hlt⟩
        obtain ⟨g,o,rfl,hg,a0,a1⟩:=HS.out.2.2.1.at hx
        have hi1:(0:Int)≤(j:Int):=by omega
        have hi3:(j:Int)<(P.length:Int):=by omega
        have HX:=hide hx
        clear hx
        go_wp2_with fail
        refine (r22is_any x.day _).mono ?_
        rintro e w1 ⟨rfl,rfl⟩
        have HS1:=hide (HS.out.call (show Below wr.heap.size wr (wr.alloc (.cells #[.int .i64 x.day,.int .i64 x.n] 32)) by (repeat' exact bel)))
        clear hBel
        have hBel:=HS1.out.2.2.2.2
        cases hb:isB x.day
        · have HE:=hide (show chkE P A=4 by rw [HCK.out,dayB_no HX.out hb];rfl)
          go_wp2
          go_ret
          exact ⟨ret_int HE.out.symm,by (repeat' exact bel)⟩
        · have HT:=hide (show dayB (P.take (j+1))=true by rw [dayB_take HX.out HA.out,hb])
          go_wp2
          go_roundw
          case rel=>exact ⟨j+1,by go_num,by omega,HT,HS1.out⟩
          case measure=>simp [intOf];omega
      · have HT := hide (show chkE P A = accsE A by
          have h:=HA.out
          rw [List.take_of_length_le (by omega)] at h
          rw [HCK.out,h];rfl)
        obtain ⟨⟨b0,b1⟩,_⟩:=blk_two' HS.out.1
        obtain ⟨wo,hwo⟩:∃ wo:World,wo=wr:=⟨_,rfl⟩
        rw [← hwo] at HS b0 b1 ⊢
        clear hwo hBel
        go_wp2_with fail
        go_loopw [33] (fun s wr=>∃ j:Nat,s=.int .i64 j∧j≤A.length∧Hid (accsE (A.take j)=0)∧BkSt P A (.slice ad1 P.length cap1) (.slice ad2 A.length cap2) w.heap.size w wr) (fun s _=>(A.length+5-intOf s).toNat)
        case atStart=>exact ⟨0,rfl,Nat.zero_le _,hide rfl,HS.out⟩
        case round =>
          obtain ⟨k,rfl,hk,HA2,hS⟩:=hrel
          have HS2:=hide hS
          clear hS
          have hBel:=HS2.out.2.2.2.2
          by_cases hlt2:k<A.length
          · obtain ⟨x,hx⟩:∃ x,A[k]?=some x:=⟨_,List.getElem?_eq_getElem hlt2⟩
            obtain ⟨g,o,rfl,hg,a0,a1,a2⟩:=HS2.out.2.2.2.1.at hx
            have hi1:(0:Int)≤(k:Int):=by omega
            have hi3:(k:Int)<(A.length:Int):=by omega
            have HX:=hide hx
            clear hx
            go_wp2_with fail
            refine (r22acc_any x _).mono ?_
            rintro e w1 ⟨rfl,hb1⟩
            have HS3:=hide (HS2.out.call (show Below wr.heap.size wr w1 from (ww hb1).out))
            clear hb1 hBel
            have hBel:=HS3.out.2.2.2.2
            by_cases hb:accE x=0
            · have HT2:=hide (accsE_take HX.out HA2.out hb)
              have HB0:=hide hb
              rw [HB0.out]
              clear hb
              go_wp2
              go_roundw
              case rel=>exact ⟨k+1,by go_num,by omega,HT2,HS3.out⟩
              case measure=>simp [intOf];omega
            · have HE:=hide (show chkE P A=accE x by rw [HT.out,accsE_no HX.out HA2.out hb])
              go_wp2
              go_ret
              exact ⟨ret_int HE.out.symm,by (repeat' exact bel)⟩
          · have HE := hide (show chkE P A = 0 by
              have h:=HA2.out
              rw [List.take_of_length_le (by omega)] at h
              rw [HT.out,h])
            go_wp2
            go_ret
            exact ⟨ret_int HE.out.symm,by (repeat' exact bel)⟩
end Go.Proofs.YtjhhmeoibfdcmaaGreat
namespace Go.Proofs.YtjhhmeoibfdcmaaGreat
open Go.RowKit Qd
end Go.Proofs.YtjhhmeoibfdcmaaGreat
namespace Go.Proofs.YtjhhmeoibfdcmaaGreat
open Go.RowKit Qd
end Go.Proofs.YtjhhmeoibfdcmaaGreat
namespace Go.Proofs.YtjhhmeoibfdcmaaGreat
open Go.RowKit Qd
end Go.Proofs.YtjhhmeoibfdcmaaGreat
namespace Go.Proofs.YtjhhmeoibfdcmaaGreat
open Go.RowKit Qd
end Go.Proofs.YtjhhmeoibfdcmaaGreat
namespace Go.Proofs.YtjhhmeoibfdcmaaGreat
open Go.RowKit Qd
end Go.Proofs.YtjhhmeoibfdcmaaGreat
namespace Go.Proofs.YtjhhmeoibfdcmaaGreat
open Go.RowKit Qd
end Go.Proofs.YtjhhmeoibfdcmaaGreat
namespace Go.Proofs.YtjhhmeoibfdcmaaGreat
open Go.RowKit Qd
end Go.Proofs.YtjhhmeoibfdcmaaGreat
namespace Go.Proofs.YtjhhmeoibfdcmaaGreat
open Go.RowKit Qd
end Go.Proofs.YtjhhmeoibfdcmaaGreat
namespace Go.Proofs.YtjhhmeoibfdcmaaGreat
open Go.RowKit Qd
end Go.Proofs.YtjhhmeoibfdcmaaGreat
namespace Go.Proofs.YtjhhmeoibfdcmaaGreat
open Go.RowKit Qd
section
variable (P:List Po) (A:List Ac) (v1 v2:Value) (w:World) (h1:Posts w v1 P) (h2:Accs w v2 A) (hv:v1=.slice none 0 0∨∃ ad cap,v1=.slice (some ad) P.length cap) (hv2:v2=.slice none 0 0∨∃ ad cap,v2=.slice (some ad) A.length cap) (hl:P.length≤100000∧A.length≤100000)
include h1 h2 hv hv2 hl
end
end Go.Proofs.YtjhhmeoibfdcmaaGreat
namespace Go.Proofs.YtjhhmeoibfdcmaaGreat
open Go.RowKit Qd
def rollE (c:Cal) (lv y:Int) (P:List Po) (A:List Ac) (Z:Parts):Int:=if frameE c lv y=0 then (if chkE P A=0 then (if Z.pe y=0 then totsE c P A Z (yU lv y (cntL c y lv)) else Z.pe y) else chkE P A) else frameE c lv y
def rollL (c:Cal) (lv y:Int) (P:List Po) (A:List Ac) (Z:Parts):List (Un × Int):=(yU lv y (cntL c y lv)).map fun x=>(x,TV c P A Z x)
theorem yUg {lv y:Int} {n j:Nat} (h:j<n):(yU lv y n)[j]?=some ⟨lv,y,(j:Int)+1⟩:=by simp [yU,upto,h]
theorem yUl (lv y:Int) (n:Nat):(yU lv y n).length=n:=by simp [yU,upto_length]
theorem rollL_len (c:Cal) (lv y:Int) (P:List Po) (A:List Ac) (Z:Parts):(rollL c lv y P A Z).length=cntL c y lv:=by simp [rollL,yUl]
theorem rollL_get {c:Cal} {lv y:Int} {P:List Po} {A:List Ac} {Z:Parts} {j:Nat} (h:j<cntL c y lv):(rollL c lv y P A Z)[j]?=some (⟨lv,y,(j:Int)+1⟩,TV c P A Z ⟨lv,y,(j:Int)+1⟩):=by
  rw [rollL,List.getElem?_map,yUg h];rfl
theorem cntBd {c:Cal} {lv y:Int} (hf:frameE c lv y=0):cntL c y lv≤60:=by
  obtain ⟨hok,hk,h1,h5,hy1,hy2,hA⟩:=frame_ok hf
  have hnb:=nWk_bd c y hA
  rcases Nat.eq_zero_or_pos (cntL c y lv) with h | h
  · omega
  · have hU:=un_here (j:=cntL c y lv-1) hf (by omega)
    have:=cutAB hU
    have hmono:∀ i,i≤cntL c y lv→i≤cutN c y lv i:=by
      intro i
      induction i with
      | zero=>intro _;omega
      | succ i ih =>
        intro hi
        have:=cut_lt c y hA lv h1 h5 i (by omega)
        have:=ih (by omega)
        omega
    have h2:=hmono _ (Nat.le_refl _)
    have h3:=cut_le_nWk c y hA lv h1 h5 _ (Nat.le_refl (cntL c y lv))
    omega
theorem broll_any (c:Cal) (lv y:Int) (P:List Po) (A:List Ac) (Z:Parts) (v1 v2:Value) (w:World) (hn:c.name.size≤1000) (hP:Posts w v1 P) (hA:Accs w v2 A) (hB:BookOk c P A v2 Z) :
    Calls Tryz.prog 33 #[calV c,.int .i64 lv,.int .i64 y,.agg #[v1,v2]] w fun e w'=>(∃ v,e=.returned (.tuple #[v,.int .i64 (rollE c lv y P A Z)])∧(rollE c lv y P A Z=0→∃ g,v=.slice (some ⟨g,0,none⟩) (cntL c y lv) (cntL c y lv)∧ShrAt w' g (rollL c lv y P A Z)∧w.heap.size≤g)∧(¬ rollE c lv y P A Z=0→v=.slice none 0 0))∧Below w.heap.size w w':=by
  have HP:=hide hP
  have HA:=hide hA
  have H0:=hide (fwSt_new c v1 v2 w)
  have hlA:P.length≤100000∧A.length≤100000:=⟨by have:=hB.1.1;omega,by have:=hB.1.2;omega⟩
  have HB:=hide hB
  clear hB
  obtain ⟨ad1,cap1,rfl,_⟩:=hP
  obtain ⟨ad2,cap2,rfl,_⟩:=hA
  simp only [calV]
  go_enter Tryz.func33,Tryz.ntmps33
  go_wp2_with fail
  refine (count_any c lv y _ hn).mono ?_
  rintro e w1 ⟨rfl,hb1⟩
  have HS1:=hide (H0.out.call hb1)
  clear hb1
  have hBel:=HS1.out.2.2.2
  by_cases hf:frameE c lv y=0
  rotate_left
  · have HR:=hide (show rollE c lv y P A Z=frameE c lv y by rw [rollE,if_neg hf])
    have hE:(frameE c lv y != 0)=true:=by simpa using hf
    have HF:=hide hf
    obtain ⟨E,hEE⟩:∃ E,frameE c lv y=E:=⟨_,rfl⟩
    rw [hEE] at HR hE HF ⊢
    clear hf hEE
    go_wp2
    go_ret2
    exact ⟨⟨.slice none 0 0,by rw [HR.out];rfl,fun h=>absurd (HR.out.symm.trans h) HF.out,fun _=>rfl⟩,hBel⟩
  have HF:=hide hf
  rw [hf,show countV c lv y=(cntL c y lv:Int) by rw [countV,if_pos hf]]
  have hcb:=cntBd hf
  have HPT:=hide (fun (h:chkE P A=0)=>(HB.out.2.2 ⟨lv,y,1⟩ (un_here (j:=0) hf (by
    obtain ⟨hok,hk,h1,h5,hy1,hy2,hA⟩:=frame_ok hf
    have:=nWk_bd c y hA
    have h2:=cut_end c y lv h1 h5
    rcases Nat.eq_zero_or_pos (cntL c y lv) with h0 | h0
    · rw [h0,cut_0] at h2;omega
    · exact h0)) h).1)
  obtain ⟨n,hnn⟩:∃ n,cntL c y lv=n:=⟨_,rfl⟩
  have HNN:=hide hnn
  rw [hnn] at hcb ⊢
  clear hf hnn
  obtain ⟨⟨k0,k1⟩,_⟩:=blk_two' HS1.out.2.1
  have hsz:=HS1.out.2.2.1
  go_wp2_with fail
  refine (bcheck_any P A _ _ _ (HP.out.call hBel) (HA.out.call hBel) hlA).mono ?_
  rintro e w2 ⟨rfl,hb2⟩
  have HS2:=hide (HS1.out.call hb2)
  clear hb2 k0 k1 hsz hBel
  have hBel:=HS2.out.2.2.2
  by_cases hC:chkE P A=0
  rotate_left
  · have HR:=hide (show rollE c lv y P A Z=chkE P A by rw [rollE,if_pos HF.out,if_neg hC])
    have hE:(chkE P A != 0)=true:=by simpa using hC
    have HC:=hide hC
    obtain ⟨E,hEE⟩:∃ E,chkE P A=E:=⟨_,rfl⟩
    rw [hEE] at HR hE HC ⊢
    clear hC hEE
    go_wp2
    go_ret2
    exact ⟨⟨.slice none 0 0,by rw [HR.out];rfl,fun h=>absurd (HR.out.symm.trans h) HC.out,fun _=>rfl⟩,hBel⟩
  have HC:=hide hC
  rw [hC]
  clear hC
  obtain ⟨q0,q1,q2,q3,q4,q5,q6,q7,q8,q9,q10,q11,q12,q13⟩:=HS2.out.1
  obtain ⟨⟨k0,k1⟩,_⟩:=blk_two' HS2.out.2.1
  have hsz:=HS2.out.2.2.1
  have hy1:w.heap.size<w2.heap.size:=by omega
  go_wp2_with fail
  refine (HPT.out HC.out w2 (HA.out.call hBel)).mono ?_
  rintro e w3 ⟨⟨m,rfl,hpm,hpn⟩,hb3⟩
  have HS3:=hide (HS2.out.call hb3)
  clear hb3 q0 q1 q2 q3 q4 q5 q6 q7 q8 q9 q10 q11 q12 q13 k0 k1 hsz hBel hy1
  have hBel:=HS3.out.2.2.2
  by_cases hZ:Z.pe y=0
  rotate_left
  · obtain rfl:=hpn hZ
    have HR:=hide (show rollE c lv y P A Z=Z.pe y by rw [rollE,if_pos HF.out,if_pos HC.out,if_neg hZ])
    have hE:(Z.pe y != 0)=true:=by simpa using hZ
    have HZ:=hide hZ
    simp only
    obtain ⟨E,hEE⟩:∃ E,Z.pe y=E:=⟨_,rfl⟩
    rw [hEE] at HR hE HZ ⊢
    clear hZ hEE hpm hpn
    go_wp2
    go_ret2
    exact ⟨⟨.slice none 0 0,by rw [HR.out];rfl,fun h=>absurd (HR.out.symm.trans h) HZ.out,fun _=>rfl⟩,hBel⟩
  have HM:=hide (hpm hZ)
  have HZ:=hide hZ
  simp only
  rw [hZ]
  clear hZ hpm hpn
  have HR:=hide (show rollE c lv y P A Z=totsE c P A Z (yU lv y n) by rw [rollE,if_pos HF.out,if_pos HC.out,if_pos HZ.out,HNN.out])
  have hmk:=fun w=>make_sh n (by omega) w
  have HL:=hide (show (rollL c lv y P A Z).length=n by rw [rollL_len,HNN.out])
  have HG:=hide (fun (j:Nat) (h:j<n)=>rollL_get (c:=c) (lv:=lv) (y:=y) (P:=P) (A:=A) (Z:=Z) (j:=j) (by rw [HNN.out];exact h))
  have HSU:=hide (fun (j:Nat) (h:j<n) (W:World) (h1:Posts W (.slice ad1 P.length cap1) P) (h2:PMap W m (Z.f y))=>by
    have hU:=un_here (j:=j) HF.out (by rw [HNN.out];exact h)
    have h3:=(HB.out.2.2 _ hU HC.out).2 HZ.out
    have h4:=T_ok (Z:=Z) (P:=P) (A:=A) hU HC.out HZ.out
    have h5:=bsum_any c ⟨lv,y,(j:Int)+1⟩ P (Z.f y) _ m W hn hU h1 h2 HB.out.1.1 HB.out.2.1 h3.1 h3.2
    rw [← h4.1,← h4.2] at h5
    exact h5)
  simp only [calV,unitV] at HSU
  have H4:=hide (show ShrAt (w3.alloc (shObj n)) w3.heap.size (fillL shZ (rollL c lv y P A Z) 0)∧Below w3.heap.size w3 (w3.alloc (shObj n)) from ⟨by rw [fill_zero,HL.out];exact ShrAt.new w3 n,(Below.refl _ _).alloc (Nat.le_refl _) _⟩)
  go_wp2_with fail
  go_loopw [49] (fun s49 wr=>∃ j:Nat,s49=.int .i64 j∧j≤n∧totsE c P A Z ((yU lv y n).take j)=0∧Hid (ShrAt wr w3.heap.size (fillL shZ (rollL c lv y P A Z) j)∧Below w3.heap.size w3 wr)) (fun s49 _=>(n+5-intOf s49).toNat)
  case atStart=>exact ⟨0,rfl,Nat.zero_le _,rfl,H4⟩
  case round =>
    obtain ⟨j,rfl,hj,htt,HQ⟩:=hrel
    have hS3:=HS3.out.call HQ.out.2
    have hgl:=HQ.out.1.lt
    by_cases hlt:j<n
    · obtain ⟨q0,q1,q2,q3,q4,q5,q6,q7,q8,q9,q10,q11,q12,q13⟩:=hS3.1
      obtain ⟨⟨k0,k1⟩,_⟩:=blk_two' hS3.2.1
      have hsz:=HS3.out.2.2.1
      have hy1:w.heap.size<wr.heap.size:=by omega
      have hy2:w.heap.size+1<wr.heap.size:=by omega
      have hi1:(0:Int)≤(j:Int):=by omega
      have hi3:(j:Int)<(n:Int):=by omega
      have HTT:=hide htt
      clear htt
      clear hS3
      go_wp2_with fail
      have hbw:Below w3.heap.size w3 (wr.alloc (.cells #[.int .i64 lv,.int .i64 y,.int .i64 ((j:Int)+1)] 26)):=HQ.out.2.alloc (by omega) _
      refine (HSU.out j hlt _ (HP.out.call (hBel.trans (hbw.mono hBel.size))) (HM.out.call hbw)).mono ?_
      rintro e w4 ⟨rfl,hb4⟩
      have HQ2:=hide (show ShrAt w4 w3.heap.size (fillL shZ (rollL c lv y P A Z) j)∧Below w3.heap.size w3 w4 from ⟨(HQ.out.1.call ((Below.refl _ _).alloc (Nat.le_refl _) _)).call hb4,hbw.trans (hb4.mono hbw.size)⟩)
      have K:=hide (BlkIs.call (BlkIs.new wr #[.int .i64 lv,.int .i64 y,.int .i64 ((j:Int)+1)] 26) hb4)
      have HW4:=hide (hBel.trans (HQ2.out.2.mono hBel.size))
      clear hb4 hbw q0 q1 q2 q3 q4 q5 q6 q7 q8 q9 q10 q11 q12 q13 k0 k1 hsz hy1 hy2 hBel
      have hx:=yUg (lv:=lv) (y:=y) hlt
      by_cases hT:TE c P A Z ⟨lv,y,(j:Int)+1⟩=0
      rotate_left
      · have HE:=hide (show rollE c lv y P A Z=TE c P A Z ⟨lv,y,(j:Int)+1⟩ by rw [HR.out];exact totsE_no hx HTT.out hT)
        have hE:(TE c P A Z ⟨lv,y,(j:Int)+1⟩ != 0)=true:=by simpa using hT
        have HT:=hide hT
        obtain ⟨E,hEE⟩:∃ E,TE c P A Z ⟨lv,y,(j:Int)+1⟩=E:=⟨_,rfl⟩
        rw [hEE] at HE hE HT ⊢
        clear hT hEE hx
        have hBel4:=HW4.out
        go_wp2
        go_ret2
        exact ⟨⟨.slice none 0 0,by rw [HE.out];rfl,fun h=>absurd (HE.out.symm.trans h) HT.out,fun _=>rfl⟩,hBel4⟩
      have HT2:=hide (totsE_take hx HTT.out hT)
      rw [hT]
      have hgt:=HG.out j hlt
      obtain ⟨X,hX⟩:∃ X,TV c P A Z ⟨lv,y,(j:Int)+1⟩=X:=⟨_,rfl⟩
      rw [hX] at hgt ⊢
      have HN:=hide (show ShrAt (shPut w4 w3.heap.size j (⟨lv,y,(j:Int)+1⟩,X)) w3.heap.size (fillL shZ (rollL c lv y P A Z) (j+1))∧Below w3.heap.size w3 (shPut w4 w3.heap.size j (⟨lv,y,(j:Int)+1⟩,X)) from by
        have h:=HQ2.out.1.put j (⟨lv,y,(j:Int)+1⟩,X) (by rw [fill_len _ _ _ (by rw [HL.out];omega),HL.out];exact hlt)
        rw [fill_set _ _ _ _ hgt] at h
        exact ⟨h,shPut_below HQ2.out.2 (Nat.le_refl _)⟩)
      unfold shPut at HN
      simp only at HN
      obtain ⟨s0,s1,s2,s3⟩:=HQ2.out.1.cell (fill_at shZ (rollL c lv y P A Z) j (by rw [HL.out];exact hlt))
      have n0:=HQ2.out.1.frozen (j*4)
      have n1:=HQ2.out.1.frozen (j*4+1)
      have n2:=HQ2.out.1.frozen (j*4+2)
      have n3:=HQ2.out.1.frozen (j*4+3)
      have hgl4:=HQ2.out.1.lt
      obtain ⟨⟨a0,a1,a2⟩,hza⟩:=blk_three' K.out
      clear hx hgt hX hT
      go_wp2
      go_roundw
      case rel=>exact ⟨j+1,by go_num,by omega,HT2.out,HN⟩
      case measure=>simp [intOf];omega
    · obtain rfl:j=n:=by omega
      have HFI:=hide (show ShrAt wr w3.heap.size (rollL c lv y P A Z) from by
        have h:=HQ.out.1
        have e1:=fill_full shZ (rollL c lv y P A Z)
        rw [HL.out] at e1
        rwa [e1] at h)
      rw [List.take_of_length_le (by rw [yUl];exact Nat.le_refl _)] at htt
      have HE:=hide (HR.out.trans htt)
      have hz3:=hBel.size
      have HBF:=hide (hBel.trans (HQ.out.2.mono hz3))
      clear htt hS3
      go_wp2
      all_goals first
        | (exfalso;omega)
        | skip
      go_ret2
      exact ⟨⟨.slice (some ⟨w3.heap.size,0,none⟩) j j,by rw [HE.out];rfl,fun _=>⟨_,by rw [HNN.out],HFI.out,hz3⟩,fun h=>absurd HE.out h⟩,HBF.out⟩
end Go.Proofs.YtjhhmeoibfdcmaaGreat
namespace Go.Proofs.YtjhhmeoibfdcmaaGreat
open Go.RowKit Qd
theorem roll_zero {c:Cal} {lv y:Int} {P:List Po} {A:List Ac} {Z:Parts} (h:rollE c lv y P A Z=0):frameE c lv y=0∧chkE P A=0∧Z.pe y=0∧∀ j:Nat,j<cntL c y lv→TE c P A Z ⟨lv,y,(j:Int)+1⟩=0:=by
  unfold rollE at h
  split at h
  · rename_i h1
    split at h
    · rename_i h2
      split at h
      · rename_i h3
        exact ⟨h1,h2,h3,fun j hj=>tots_all h _ (List.mem_of_getElem? (yUg hj))⟩
      · rename_i h3;exact absurd h h3
    · rename_i h2;exact absurd h h2
  · rename_i h1;exact absurd h h1
end Go.Proofs.YtjhhmeoibfdcmaaGreat
namespace Go.Proofs.YtjhhmeoibfdcmaaGreat.bookRolls
open Go.ChangeShapes Go.WideShapes Go.ChangeAt Go.RowKit
theorem j1:(Rows.bookRollsRow.wf (OpenSpec.ofChange Rows.bookRollsSpec))=true:=by kernel_rfl
theorem j2:(laidOutB Tryz.pinned.checked.prog)=true:=by kernel_rfl
theorem j3:(mapsRowed Tryz.pinned.checked.prog)=true:=by kernel_rfl
theorem j4:(Tryz.f6.params.all (Tryz.pinned.checked.prog.readableRec ·))=true:=by kernel_rfl
theorem j5:(namedTie Tryz.pinned.checked.prog Rows.bookRollsRow.named Rows.bookRollsSpec.vars)=true:=by kernel_rfl
theorem j6:((Rows.bookRollsRow.stops==[]))=true:=by kernel_rfl
theorem j7:((Tryz.pinned.checked.prog.stops==[]))=true:=by kernel_rfl
theorem j8:((Rows.bookRollsRow.knobs==[]))=true:=by kernel_rfl
theorem j9:((Tryz.pinned.checked.prog.stopKnobs==[]))=true:=by kernel_rfl
theorem j10:((Rows.bookRollsRow.inPlace==Tryz.pinned.checked.prog.inPlace 6))=true:=by kernel_rfl
theorem j11:((Rows.bookRollsRow.unfollowed==Tryz.pinned.checked.prog.unfollowed 6))=true:=by kernel_rfl
theorem j12:((Rows.bookRollsRow.recurses==Tryz.pinned.checked.prog.recurses 6))=true:=by kernel_rfl
theorem j13:((Rows.bookRollsRow.named==Tryz.pinned.checked.prog.varsNamed 6))=true:=by kernel_rfl
theorem j14:((Rows.bookRollsRow.maps==(Tryz.f6.params.toList++Rows.bookRollsSpec.plain.varTypes Tryz.pinned.checked.prog).any (Tryz.pinned.checked.prog.mapsRec ·)))=true:=by kernel_rfl
theorem j15:((Rows.bookRollsRow.ifaces==(Tryz.f6.params.toList++Rows.bookRollsSpec.plain.varTypes Tryz.pinned.checked.prog).any (Tryz.pinned.checked.prog.ifacesRec ·)))=true:=by kernel_rfl
theorem j16:((Rows.bookRollsRow.mapsOut==Tryz.pinned.checked.prog.mapsAmong Tryz.f6.resultTypes.toList))=true:=by kernel_rfl
theorem j17:((Rows.bookRollsRow.loops==(Tryz.f6.params.toList++Rows.bookRollsSpec.plain.varTypes Tryz.pinned.checked.prog).any (Tryz.pinned.checked.prog.loopsFrom ·)))=true:=by kernel_rfl
theorem j18:((Rows.bookRollsRow.wideKeys==(Tryz.f6.params.toList++Rows.bookRollsSpec.plain.varTypes Tryz.pinned.checked.prog++Tryz.f6.resultTypes.toList).any (Tryz.pinned.checked.prog.wideKeysFrom ·)))=true:=by kernel_rfl
theorem j19:(Rows.bookRollsSpec.vars.all (Tryz.pinned.checked.prog.varReadable ·))=true:=by kernel_rfl
theorem j20:(Tryz.f6.resultTypes.all (fun t=>Tryz.pinned.checked.prog.readableRec t&&decide (t<Tryz.pinned.checked.prog.types.size)))=true:=by kernel_rfl
theorem j21:((Rows.bookRollsRow.ifacesOut==Tryz.f6.resultTypes.toList.any (Tryz.pinned.checked.prog.ifacesRec ·)))=true:=by kernel_rfl
theorem j22:((Rows.bookRollsRow.loopsOut==Tryz.f6.resultTypes.toList.any (Tryz.pinned.checked.prog.loopsFrom ·)))=true:=by kernel_rfl
theorem j23:((Rows.bookRollsRow.plainKeys==Tryz.pinned.checked.prog.plainKeys))=true:=by kernel_rfl
theorem j24:(Rows.bookRollsRow.shortTexts.isNone)=true:=by kernel_rfl
theorem j25:(Tryz.pinned.checked.prog.stopsHeard)=true:=by kernel_rfl
theorem j26:(Tryz.pinned.checked.prog.mayEnter)=true:=by kernel_rfl
theorem j27:((Rows.bookRollsRow.lifted==Tryz.pinned.checked.prog.liftsFinal))=true:=by kernel_rfl
theorem j28:((Tryz.pinned.checked.prog.make==some Rows.bookRollsRow.make))=true:=by kernel_rfl
theorem j30:((Rows.bookRollsRow.pinned==Rows.bookRollsRow.pinnedBy))=true:=by kernel_rfl
theorem j31:((Rows.bookRollsRow.veiled==(Tryz.f6.params.toList++Rows.bookRollsSpec.plain.varTypes Tryz.pinned.checked.prog++Tryz.f6.resultTypes.toList).any (Tryz.pinned.checked.prog.veiledRec ·)))=true:=by kernel_rfl
theorem j32:(Rows.bookRollsRow.veiledFits Tryz.pinned.checked.prog Tryz.f6.params.toList (Tryz.f6.params.toList++Rows.bookRollsSpec.plain.varTypes Tryz.pinned.checked.prog++Tryz.f6.resultTypes.toList))=true:=by kernel_rfl
theorem joined:joinedFacts Tryz.pinned.checked.prog 6 Tryz.f6 Rows.bookRollsSpec Rows.bookRollsRow=true:=by
  unfold joinedFacts
  rw [j1,j2,j3,j4,j5,j6,j7,j8,j9,j10,j11,j12,j13,j14,j15,j16,j17,j18,j19,j20,j21,j22,j23,j24,j25,j26,j27,j28,j30,j31,j32]
  kernel_rfl
end Go.Proofs.YtjhhmeoibfdcmaaGreat.bookRolls
