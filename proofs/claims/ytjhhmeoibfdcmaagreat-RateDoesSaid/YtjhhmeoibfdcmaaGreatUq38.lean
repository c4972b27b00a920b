/- The plain law of the document's spans (layer 16): how many units end in the first periods. Contracts of the references: the spans of a level's units (layer 16). -/
import Derived.Test.YtjhhmeoibfdcmaaGreatUq03
import Derived.Test.YtjhhmeoibfdcmaaGreatUq08
import Derived.Test.YtjhhmeoibfdcmaaGreatUq11
import Derived.Test.YtjhhmeoibfdcmaaGreatUq36
set_option linter.unusedSimpArgs false
set_option linter.unusedVariables false
set_option maxRecDepth 100000
set_option maxHeartbeats 12800000
namespace Go.Proofs.YtjhhmeoibfdcmaaGreat
open Go.RowKit Qd
def jq (lv:Int) (n k:Nat):Nat:=if lv=1 then k / n else if lv=2 then (4*k+3) / n / 2 else if lv=3 then (4*k+3) / n else k
def qN (n k:Nat):Nat:=(4*(k+1)+n-1) / n
theorem jq_0 {n:Nat} (hn:n=12∨n=13∨n=26∨n=52) (lv:Int):jq lv n 0=0:=by
  unfold jq
  rcases hn with rfl | rfl | rfl | rfl <;> simp
theorem jq_n {n:Nat} (hn:n=12∨n=13∨n=26∨n=52):jq 1 n n=1∧jq 2 n n=2∧jq 3 n n=4∧jq 4 n n=n:=by
  rcases hn with rfl | rfl | rfl | rfl <;> decide
theorem jq4_step (n k:Nat):jq 4 n (k+1)=jq 4 n k+1∧pcut n 4 (jq 4 n k+1)=k+1:=by simp [jq,pcut]
theorem jq3_last {n k:Nat} (hn:n=12∨n=13∨n=26∨n=52) (hk:k<n) (h:k+1=n∨qN n k<qN n (k+1)) :
    jq 3 n (k+1)=jq 3 n k+1∧pcut n 3 (jq 3 n k+1)=k+1:=by
  rcases hn with rfl | rfl | rfl | rfl <;> (revert h;revert hk;revert k;decide)
theorem jq3_in {n k:Nat} (hn:n=12∨n=13∨n=26∨n=52) (hk:k+1<n) (h:¬ qN n k<qN n (k+1)) :
    jq 3 n (k+1)=jq 3 n k:=by
  rcases hn with rfl | rfl | rfl | rfl <;> (have hk2:=Nat.lt_of_succ_lt hk;revert h;revert hk;revert hk2;revert k;decide)
theorem jq2_last {n k:Nat} (hn:n=12∨n=13∨n=26∨n=52) (hk:k<n) (h:k+1=n∨(qN n k<qN n (k+1)∧qN n k % 2=0)) :
    jq 2 n (k+1)=jq 2 n k+1∧pcut n 2 (jq 2 n k+1)=k+1:=by
  rcases hn with rfl | rfl | rfl | rfl <;> (revert h;revert hk;revert k;decide)
theorem jq2_in {n k:Nat} (hn:n=12∨n=13∨n=26∨n=52) (hk:k+1<n) (h:¬ (qN n k<qN n (k+1)∧qN n k % 2=0)) :
    jq 2 n (k+1)=jq 2 n k:=by
  rcases hn with rfl | rfl | rfl | rfl <;> (have hk2:=Nat.lt_of_succ_lt hk;revert h;revert hk;revert hk2;revert k;decide)
theorem jq1_last {n k:Nat} (hn:n=12∨n=13∨n=26∨n=52) (h:k+1=n) :
    jq 1 n (k+1)=jq 1 n k+1∧pcut n 1 (jq 1 n k+1)=k+1:=by
  simp only [jq,pcut] at *
  rcases hn with rfl | rfl | rfl | rfl <;> simp <;> omega
theorem jq1_in {n k:Nat} (hn:n=12∨n=13∨n=26∨n=52) (hk:k+1<n):jq 1 n (k+1)=jq 1 n k:=by
  simp only [jq] at *
  rcases hn with rfl | rfl | rfl | rfl <;> simp <;> omega
theorem qN_bd {n k:Nat} (hn:n=12∨n=13∨n=26∨n=52) (hk:k<n):1≤qN n k∧qN n k≤4:=by
  simp only [qN] at *
  rcases hn with rfl | rfl | rfl | rfl <;> omega
theorem qN_end {n k:Nat} (hn:n=12∨n=13∨n=26∨n=52) (hk:k+1=n):qN n k=4:=by
  simp only [qN] at *
  rcases hn with rfl | rfl | rfl | rfl <;> omega
theorem pj_le {n k:Nat} (hn:n=12∨n=13∨n=26∨n=52) (hk:k≤n):pcut n 1 (jq 1 n k)≤k∧pcut n 2 (jq 2 n k)≤k∧pcut n 3 (jq 3 n k)≤k∧pcut n 4 (jq 4 n k)≤k:=by
  simp only [jq,pcut] at *
  rcases hn with rfl | rfl | rfl | rfl <;> simp <;> omega
def spI (c:Cal) (lv y:Int) (i:Nat):Int × Int:=(dayW c y (cutN c y lv i),dayW c y (cutN c y lv (i+1))-1)
def spansL (c:Cal) (lv y:Int):List (Int × Int):=upto (spI c lv y) (cntL c y lv)
theorem spans_len (c:Cal) (lv y:Int):(spansL c lv y).length=cntL c y lv:=upto_length _ _
theorem spans_get (c:Cal) (lv y:Int) (i:Nat) (hi:i<cntL c y lv):(spansL c lv y)[i]?=some (spI c lv y i):=by
  simp [spansL,upto,hi]
theorem per_nat {c:Cal} {y:Int} (hA:askE c y 1601=0):perV c=(nPer c y:Int)∧(nPer c y=12∨nPer c y=13∨nPer c y=26∨nPer c y=52):=by
  obtain ⟨hok,_,_⟩:=ask_ok hA
  have hk:c.okB=true:=by simpa [Cal.okB] using hok
  have h1:=ends_len c y hk
  have h2:=per_vals c hk
  have h3:((nPer c y:Nat):Int)=perV c:=h1
  exact ⟨h3.symm,by omega⟩
theorem q_nat {c:Cal} {y:Int} (hA:askE c y 1601=0) (k:Nat) (hk:k<nPer c y):qV c ((k:Int)+1)=(qN (nPer c y) k:Int)∧qE c ((k:Int)+1)=0:=by
  obtain ⟨hok,_,_⟩:=ask_ok hA
  have hkB:c.okB=true:=by simpa [Cal.okB] using hok
  obtain ⟨h1,h2⟩:=per_nat hA
  have h3:qOkB c ((k:Int)+1)=true:=by simp [qOkB,hkB,h1];omega
  refine ⟨?_,by simp [qE,h3]⟩
  rw [qV,if_pos h3,h1,qN]
  rcases h2 with h | h | h | h <;> rw [h] <;> omega
theorem spans_5 {c:Cal} {y:Int} (hA:askE c y 1601=0):spansL c 5 y=spL c y:=by
  apply List.ext_getElem?
  intro i
  by_cases hi:i<nWk c y
  · rw [spans_get c 5 y i (by rw [cnt_5];exact hi),(dayW_get c y hA i hi).1]
    simp [spI,cutN]
  · rw [List.getElem?_eq_none (by rw [spans_len,cnt_5];omega),List.getElem?_eq_none (by rw [spL_len];omega)]
theorem cut_p (c:Cal) (y lv:Int) (h5:¬ lv=5) (i:Nat):cutN c y lv i=cumW c y (pcut (nPer c y) lv i):=by simp [cutN,h5]
theorem sp_last {c:Cal} {y lv:Int} (hA:askE c y 1601=0) (h5:¬ lv=5) {j k:Nat} (hk:k<nPer c y) (hj:pcut (nPer c y) lv j≤k) (h:pcut (nPer c y) lv (j+1)=k+1) :
    spI c lv y j=(fromAt c y (pcut (nPer c y) lv j),endAt c y k):=by
  rw [spI,cut_p c y lv h5,cut_p c y lv h5,h,dayW_cum c y hA _ (by omega),dayW_cum c y hA _ (by omega),from_succ]
  congr 1
  omega
theorem RdI.below {w w':World} {K g:Nat} {L:List Int} (h:RdI w g L) (hb:Below K w w') (hg:g<K):RdI w' g L:=
  ⟨block_lt hb hg h.1,fun k hk=>(hb.cell (p:=⟨g,k,none⟩) hg).trans (h.2 k hk)⟩
def SlStr (c:Cal) (B Bo:Nat) (L:List (Int × Int)) (v:Value) (w0 w:World):Prop:=
  CalAt w B c∧B<Bo∧Bo≤w.heap.size∧w.ownsRow Bo 45 2 v L.length (flat L)∧Below B w0 w
theorem SlStr.call {c:Cal} {B Bo:Nat} {L:List (Int × Int)} {v:Value} {w0 w w':World} (h:SlStr c B Bo L v w0 w) (hb:Below w.heap.size w w'):SlStr c B Bo L v w0 w':=by
  obtain ⟨h1,h2,h3,h4,h6⟩:=h
  exact ⟨calAt_below hb (by omega) h1,h2,Nat.le_trans h3 hb.size,rowns_call h4 hb,h6.trans (hb.mono (by omega))⟩
theorem SlStr.grow {c:Cal} {B Bo:Nat} {L:List (Int × Int)} {a b:Int} {v v':Value} {w0 W w':World} (h:SlStr c B Bo L v w0 W) (o:Obj)
    (ho:w'.ownsRow Bo 45 2 v' (L.length+1) (flat L++[.int .i64 a,.int .i64 b])) (hgrow:(W.alloc o).grownBy w' v.ownBlock):SlStr c B Bo (L++[(a,b)]) v' w0 w'∧Below Bo W w':=by
  obtain ⟨h1,h2,h3,h4,h6⟩:=h
  have hb:Below Bo W w':=((Below.refl Bo W).alloc h3 o).grown hgrow (by simp;omega) (fun k hk=>by have:=(h4.lt k hk).1;omega)
  have hs:W.heap.size≤w'.heap.size:=by have:=hgrow.size;simp at this;omega
  refine ⟨⟨calAt_below hb h2 h1,h2,by omega,?_,h6.trans (hb.mono (by omega))⟩,hb⟩
  rw [flat_append]
  simpa [flat] using ho
def RSpPost (c:Cal) (lv y:Int) (w:World) (e:Ending) (w':World):Prop:=
  ∃ g cap,e=.returned (.tuple #[.slice (some ⟨g,0,none⟩) (cntL c y lv) cap,.int .i64 0])∧w.heap.size≤g∧cntL c y lv≤cap∧SpansAt w' g (spansL c lv y)∧Below w.heap.size w w'
theorem r16spans_no (c:Cal) (lv y:Int) (w:World) (hn:c.name.size≤1000) (hE:¬ frameE c lv y=0) :
    Calls Tryz.prog 64 #[calV c,.int .i64 lv,.int .i64 y] w fun e w'=>e=.returned (.tuple #[.slice none 0 0,.int .i64 (frameE c lv y)])∧Below w.heap.size w w':=by
  rcases okE_cases c with ⟨hok,h1,h2⟩ | ⟨_,h1,h2⟩
  · have HE:=hide h1
    by_cases hl:1≤lv∧lv≤5
    · have hyy : y < c.first ∨ (c.first ≤ y ∧ c.last < y) := by
        by_cases hx:c.first≤y∧y≤c.last
        · exact absurd (frame_is hok hl.1 hl.2 hx.1 hx.2) hE
        · omega
      have HF:=hide (show frameE c lv y=11 by unfold frameE;rw [if_pos h2,if_pos hl,if_neg (by omega)])
      obtain ⟨hl1,hl5⟩:=hl
      clear hE h1 h2 hok
      rcases hyy with hyy | ⟨hy1,hyy⟩
      all_goals
        simp only [calV]
        go_enter Tryz.func64,Tryz.ntmps64
        go_wp2_with fail
        refine (r11check_any c _ hn).mono ?_
        rintro e w1 ⟨rfl,hb1⟩
        rw [HE.out]
        have hz1:w.heap.size<w1.heap.size:=by have:=hb1.size;simp at this;omega
        have HB1:Hid (Below w.heap.size w w1):=ww hb1
        have HQ1:=hide (calAt_below hb1 (by simp) (calAt_new w c))
        obtain ⟨q0,q1,q2,q3,q4,q5,q6,q7,q8,q9,q10,q11,q12,q13⟩:=HQ1.out
        clear hb1
        have hBel:=HB1.out
        go_wp2
        all_goals first
          | (exfalso;omega)
          | (go_ret2;exact ⟨by rw [HF.out];rfl,by (repeat' exact bel)⟩)
    · have HF:=hide (show frameE c lv y=1 by unfold frameE;rw [if_pos h2,if_neg hl])
      have hll:lv<1∨(1≤lv∧5<lv):=by omega
      clear hE h1 h2 hok hl
      rcases hll with hll | ⟨hl1,hll⟩
      all_goals
        simp only [calV]
        go_enter Tryz.func64,Tryz.ntmps64
        go_wp2_with fail
        refine (r11check_any c _ hn).mono ?_
        rintro e w1 ⟨rfl,hb1⟩
        rw [HE.out]
        have hz1:w.heap.size<w1.heap.size:=by have:=hb1.size;simp at this;omega
        have HB1:Hid (Below w.heap.size w w1):=ww hb1
        have HQ1:=hide (calAt_below hb1 (by simp) (calAt_new w c))
        obtain ⟨q0,q1,q2,q3,q4,q5,q6,q7,q8,q9,q10,q11,q12,q13⟩:=HQ1.out
        clear hb1
        have hBel:=HB1.out
        go_wp2
        all_goals first
          | (exfalso;omega)
          | (go_ret2;exact ⟨by rw [HF.out];rfl,by (repeat' exact bel)⟩)
  · have HE:=hide h1
    have HF:=hide (show frameE c lv y=1 by simp [frameE,h2])
    clear hE h1 h2
    simp only [calV]
    go_enter Tryz.func64,Tryz.ntmps64
    go_wp2_with fail
    refine (r11check_any c _ hn).mono ?_
    rintro e w1 ⟨rfl,hb1⟩
    rw [HE.out]
    have hz1:w.heap.size<w1.heap.size:=by have:=hb1.size;simp at this;omega
    have HB1:Hid (Below w.heap.size w w1):=ww hb1
    have HQ1:=hide (calAt_below hb1 (by simp) (calAt_new w c))
    obtain ⟨q0,q1,q2,q3,q4,q5,q6,q7,q8,q9,q10,q11,q12,q13⟩:=HQ1.out
    clear hb1
    have hBel:=HB1.out
    go_wp2
    go_ret2
    exact ⟨by rw [HF.out];rfl,by (repeat' exact bel)⟩
theorem r16spans_1 (c:Cal) (y:Int) (w:World) (hn:c.name.size≤1000) (hE:frameE c 1 y=0) :
    Calls Tryz.prog 64 #[calV c,.int .i64 1,.int .i64 y] w (RSpPost c 1 y w):=by
  obtain ⟨hok,hok2,_,_,hy1,hy2,hA⟩:=frame_ok hE
  obtain ⟨hpn,hpv⟩:=per_nat hA
  have HOK:=hide (show okE c=0 by simp [okE,hok2])
  have hnb:=nPer_bd c y hA
  have hyb:=year_bd c y hA
  have HQ0:=hide (fun k=>q_nat hA k)
  have HFB:=hide (fun k=>from_bd c y hA k)
  have HPB:=hide (fun k=>period_1 c y hA k)
  have HFS:=hide (fun k=>from_succ c y k)
  have HEA:=hide (fun k=>(show (endsL c y)[k]?.getD 0=endAt c y k from rfl))
  have HF0:=hide (show fromAt c y 0=startV c y by simp [fromAt])
  have HSL:=hide (fun j k=>sp_last (c:=c) (y:=y) (lv:=1) hA (by omega) (j:=j) (k:=k))
  have HC:=hide (show (spansL c 1 y)=upto (spI c 1 y) (cntL c y 1) from rfl)
  have hcb:=cnt_bd c y hA 1
  have HCN:=hide (show cntL c y 1=jq 1 (nPer c y) (nPer c y) by have h:=jq_n hpv;simp [cntL,h])
  obtain ⟨N,hN⟩:∃ N,nPer c y=N:=⟨_,rfl⟩
  have HN:=hide (show (endsL c y).length=N from hN)
  have hbN:12≤N∧N≤52:=by omega
  obtain ⟨hbN1,hbN2⟩:=hbN
  rw [hN] at hpv HQ0
  have HQB:=hide (fun k (h:k<N)=>qN_bd hpv h)
  have HQE:=hide (fun k (h:k+1=N)=>qN_end hpv h)
  rw [hN] at HSL HCN
  have HJ0:=hide (jq_0 hpv 1)
  have HPJ:=hide (fun k (h:k≤N)=>(pj_le hpv h).1)
  have HJL:=hide (fun k (h:k+1=N)=>jq1_last hpv h)
  have HJI:=hide (fun k (h:k+1<N)=>jq1_in hpv h)
  obtain ⟨D,hD⟩:∃ D,startV c y=D:=⟨_,rfl⟩
  rw [hD] at HFB HF0 hyb
  have HD:=hide hD
  have HA:=hide hA
  have hDb:0≤D∧D≤3068037:=⟨hyb.1,hyb.2.1⟩
  obtain ⟨i0,hi,hi0,hi1,hi2⟩:=info_parts spans_info
  clear hok hok2 hpn hE hA hyb hD hnb hpv hN
  simp only [calV]
  go_enter Tryz.func64,Tryz.ntmps64
  go_wp2_with fail
  refine (r11check_any c _ hn).mono ?_
  rintro e w1 ⟨rfl,hb1⟩
  rw [HOK.out]
  have hz1:w.heap.size<w1.heap.size:=by have:=hb1.size;simp at this;omega
  have HB1:Hid (Below w.heap.size w w1):=ww hb1
  have HQ1:=hide (calAt_below hb1 (by simp) (calAt_new w c))
  obtain ⟨q0,q1,q2,q3,q4,q5,q6,q7,q8,q9,q10,q11,q12,q13⟩:=HQ1.out
  clear hb1
  go_wp2_with fail
  all_goals first
    | (exfalso;omega)
    | skip
  refine (r13start_any c y _ hn).mono ?_
  rintro e w2 ⟨rfl,hb2⟩
  rw [HA.out,HD.out]
  have hz2:w.heap.size<w2.heap.size:=by have:=hb2.size;(try simp at this);omega
  have HB2:Hid (Below w.heap.size w w2):=by have hp:=HB1.out;exact ww hb2
  have HQ2:Hid (CalAt w2 w.heap.size c):=by have hp:=HQ1.out;exact qq hb2
  clear q0 q1 q2 q3 q4 q5 q6 q7 q8 q9 q10 q11 q12 q13
  obtain ⟨q0,q1,q2,q3,q4,q5,q6,q7,q8,q9,q10,q11,q12,q13⟩:=HQ2.out
  clear hb2
  go_wp2_with fail
  refine (r15ends_any c y _ hn HA.out).mono ?_
  rintro e w3 ⟨v,rfl,hv,hb3⟩
  obtain ⟨g,cap,rfl,hrow⟩:=hv
  rw [HN.out] at hrow ⊢
  have HRD:=hide (rows_rd hrow)
  have hg3:g<w3.heap.size:=HRD.out.1
  clear hrow
  have hz3:w.heap.size<w3.heap.size:=by have:=hb3.size;(try simp at this);omega
  have HB3:Hid (Below w.heap.size w w3):=by have hp:=HB2.out;exact ww hb3
  have HQ3:Hid (CalAt w3 w.heap.size c):=by have hp:=HQ2.out;exact qq hb3
  clear q0 q1 q2 q3 q4 q5 q6 q7 q8 q9 q10 q11 q12 q13
  obtain ⟨q0,q1,q2,q3,q4,q5,q6,q7,q8,q9,q10,q11,q12,q13⟩:=HQ3.out
  clear hb3
  obtain ⟨Bo,hBo⟩:∃ B,B=w3.heap.size:=⟨_,rfl⟩
  have HS0:=hide (show SlStr c w.heap.size Bo [] (.slice none 0 0) w w3 from ⟨HQ3.out,by omega,by omega,World.ownsRow_nil _ _ _ _,HB3.out⟩)
  have hgB:g<Bo:=by omega
  clear hBo
  go_wp2_with fail
  go_loopw [9,13,54] (fun s9 s13 s54 wr=>∃ k:Nat,s54=.int .i64 k∧s9=.int .i64 (fromAt c y (pcut N 1 (jq 1 N k)))∧k≤N∧SlStr c w.heap.size Bo (upto (spI c 1 y) (jq 1 N k)) s13 w wr∧RdI wr g (endsL c y)) (fun _ _ s _=>(60-intOf s).toNat)
  case atStart=>exact ⟨0,rfl,by rw [HJ0.out];simp [pcut,HF0.out],by omega,by rw [HJ0.out];exact HS0.out,HRD.out⟩
  case round =>
    obtain ⟨k,rfl,rfl,hk,hS,hR⟩:=hrel
    have HS:=hide hS
    have HR:=hide hR
    clear hS hR
    clear q0 q1 q2 q3 q4 q5 q6 q7 q8 q9 q10 q11 q12 q13
    by_cases hlt:k<N
    · have c0:=HR.out.2 k (by have:=HN.out;omega)
      rw [HEA.out k] at c0
      have hp:=HPB.out k (by have:=HN.out;omega)
      have hpj:=HPJ.out k hk
      have hfb0:=HFB.out (pcut N 1 (jq 1 N k)) (by have:=HN.out;omega)
      have hfb1:=HFB.out (k+1) (by have:=HN.out;omega)
      have hfbk:=HFB.out k (by have:=HN.out;omega)
      have hfs:=HFS.out k
      have hjk:jq 1 N k≤N:=by
        have:jq 1 N k≤pcut N 1 (jq 1 N k):=by
          simp only [pcut];simp;try (first | exact Nat.le_mul_of_pos_left _ (by omega) | omega)
          all_goals
            have:=Nat.le_mul_of_pos_left (jq 1 N k) (show 0<N by omega)
            have h4:12*(jq 1 N k)≤N*(jq 1 N k):=Nat.mul_le_mul_right _ hbN1
            first | omega | (rw [show N*(2*jq 1 N k)=2*(N*jq 1 N k) by rw [Nat.mul_left_comm]];omega)
        omega
      have hul:(upto (spI c 1 y) (jq 1 N k)).length=jq 1 N k:=upto_length _ _
      have HSN:=hide (upto_succ (spI c 1 y) (jq 1 N k))
      have HSP:=hide (HSL.out (jq 1 N k) k hlt hpj)
      obtain ⟨J,hJ⟩:∃ J,jq 1 N k=J:=⟨_,rfl⟩
      rw [hJ] at HS hul HSN HSP hpj hfb0 hjk
      rw [hJ]
      obtain ⟨F0,hF0⟩:∃ X,fromAt c y (pcut N 1 J)=X:=⟨_,rfl⟩
      obtain ⟨E0,hE0⟩:∃ X,endAt c y k=X:=⟨_,rfl⟩
      rw [hF0] at hfb0 HSP
      rw [hF0]
      rw [hE0] at c0 hfs HSP hp
      have HF:=hide hF0
      have hE0b:0≤E0∧E0≤3080000:=by omega
      have hF0b:0≤F0∧F0≤3080000:=by omega
      obtain ⟨hE01,hE02⟩:=hE0b
      obtain ⟨hF01,hF02⟩:=hF0b
      have HFN:=hide (show fromAt c y (k+1)=E0+1 from hfs)
      obtain ⟨U,hU⟩:∃ U,upto (spI c 1 y) J=U:=⟨_,rfl⟩
      rw [hU] at HS HSN hul
      have HUU:=hide hU
      clear hU hfs hfb0 hfb1 hfbk hp hF0 hE0
      have hi3:(0:Int)≤(k:Int):=by omega
      have hi4:(k:Int)<(N:Int):=by omega
      have hJH:=hide hJ
      clear hJ
      obtain ⟨q0,q1,q2,q3,q4,q5,q6,q7,q8,q9,q10,q11,q12,q13⟩:=HS.out.1
      have hBz:=HS.out.2.1
      have hBs:=HS.out.2.2.1
      have HQV1:=hide (HQ0.out k hlt)
      obtain ⟨hQ1,hQ4⟩:=HQB.out k hlt
      obtain ⟨Q0,hQ0⟩:∃ Q:Nat,qN N k=Q:=⟨_,rfl⟩
      rw [hQ0] at HQV1 hQ1 hQ4
      go_wp2_with fail
      refine (r15quarter_any c ((k:Int)+1) _ hn).mono ?_
      rintro e w4 ⟨rfl,hb4⟩
      rw [HQV1.out.1,HQV1.out.2]
      have HS4:=hide (HS.out.call hb4)
      have HR4:=hide (HR.out.below hb4 (by omega))
      have hs4:wr.heap.size≤w4.heap.size:=hb4.size
      clear q0 q1 q2 q3 q4 q5 q6 q7 q8 q9 q10 q11 q12 q13
      obtain ⟨q0,q1,q2,q3,q4,q5,q6,q7,q8,q9,q10,q11,q12,q13⟩:=HS4.out.1
      clear hb4
      by_cases hl2:k+1<N
      · skip
        have HQV2:=hide (show qV c ((k:Int)+2)=(qN N (k+1):Int)∧qE c ((k:Int)+2)=0 from by
          have h:=HQ0.out (k+1) hl2
          rwa [show (((k+1:Nat):Int)+1)=(k:Int)+2 by omega] at h)
        obtain ⟨hX1,hX4⟩:=HQB.out (k+1) hl2
        obtain ⟨X0,hX0⟩:∃ Q:Nat,qN N (k+1)=Q:=⟨_,rfl⟩
        rw [hX0] at HQV2 hX1 hX4
        go_wp2_with fail
        all_goals first
          | (exfalso;omega)
          | skip
        refine (r15quarter_any c ((k:Int)+2) _ hn).mono ?_
        rintro e w5 ⟨rfl,hb5⟩
        rw [HQV2.out.1,HQV2.out.2]
        have HS5:=hide (HS4.out.call hb5)
        have HR5:=hide (HR4.out.below hb5 (by omega))
        have hs5:w4.heap.size≤w5.heap.size:=hb5.size
        clear q0 q1 q2 q3 q4 q5 q6 q7 q8 q9 q10 q11 q12 q13
        clear hb5
        have hkn:((k:Int)+1==(N:Int))=false:=by simp;omega
        go_wp2
        all_goals first
          | (exfalso;omega)
          | skip
        go_roundw
        case rel =>
          have e1:=HJI.out k hl2
          exact ⟨k+1,by go_num,by rw [e1,hJH.out,HF.out],by omega,by rw [e1,hJH.out,HUU.out];exact HS5.out,HR5.out⟩
        case measure=>simp [intOf];omega
      · have hkN:k+1=N:=by omega
        have hQ4':Q0=4:=by rw [← hQ0];exact HQE.out k hkN
        subst hQ4'
        have HKN:=hide hkN
        have hkn:((k:Int)+1==(N:Int))=true:=by simp;omega
        have hkl:(N:Int)≤(k:Int)+1:=by omega
        clear hkN
        go_wp2_with ((at_builtin;refine wpList_append_own _ rfl _ _ 93 rfl Bo 45 i0 (.agg #[.int .i64 0,.int .i64 0]) 2 16 Tryz.underlying93 hi hi0 hi1 hi2 rfl (by decide) _ _ _ rfl (HS4.out.2.2.2.1.alloc _) ⟨w4.heap.size,0,none⟩ 1 1 [.int .i64 (F0),.int .i64 (E0)] rfl rfl ?c1z ?c2z ?c3z ?c4z ?c5z ?_))
        case c1z =>
          intro i u hu
          match i,hu with
          | 0,hu=>simp at hu;subst hu;simp [Addr.add]
          | 1,hu=>simp at hu;subst hu;simp [Addr.add]
          | i+2,hu=>simp at hu
        case c2z=>intro u hu;simp at hu;rcases hu with rfl | rfl <;> rfl
        case c3z=>unfold maxLen;omega
        case c4z=>omega
        case c5z=>have:=HS4.out.2.2.1;simp;omega
        · intro v' w' hown' hgrow _
          have HG:=hide (HS4.out.grow (a:=F0) (b:=E0) _ (by rw [hul];exact hown') hgrow)
          have HR':=hide (HR4.out.below HG.out.2 hgB)
          clear hown' hgrow
          go_wp2
          go_roundw
          case rel =>
            obtain ⟨e1,e2⟩:=HJL.out k HKN.out
            refine ⟨k+1,by go_num,?_,by omega,?_,HR'.out⟩
            · rw [e1,e2,HFN.out]
            · rw [e1,hJH.out,HSN.out,HSP.out (by rw [← hJH.out];exact e2)];exact HG.out.1
          case measure=>simp [intOf];omega
    · obtain rfl:k=N:=by omega
      have hl:(upto (spI c 1 y) (jq 1 k k)).length=cntL c y 1:=by rw [upto_length,HCN.out]
      have hown:=HS.out.2.2.2.1
      rw [hl] at hown
      obtain ⟨g1,cap1,rfl,hcap,_,hg1,hsp⟩:=owns_spans hown (by omega)
      rw [← HCN.out,← HC.out] at hsp
      have HSP:=hide hsp
      have hBel:=HS.out.2.2.2.2
      have hgw:w.heap.size≤g1:=by have:=HS.out.2.1;omega
      obtain ⟨F0,hF0⟩:∃ X,fromAt c y (pcut k 1 (jq 1 k k))=X:=⟨_,rfl⟩
      rw [hF0]
      clear hown hsp hl hF0
      go_wp2
      all_goals first
        | (exfalso;omega)
        | (go_ret2;exact ⟨g1,cap1,rfl,hgw,hcap,HSP.out,by (repeat' exact bel)⟩)
theorem r16spans_4 (c:Cal) (y:Int) (w:World) (hn:c.name.size≤1000) (hE:frameE c 4 y=0) :
    Calls Tryz.prog 64 #[calV c,.int .i64 4,.int .i64 y] w (RSpPost c 4 y w):=by
  obtain ⟨hok,hok2,_,_,hy1,hy2,hA⟩:=frame_ok hE
  obtain ⟨hpn,hpv⟩:=per_nat hA
  have HOK:=hide (show okE c=0 by simp [okE,hok2])
  have hnb:=nPer_bd c y hA
  have hyb:=year_bd c y hA
  have HQ0:=hide (fun k=>q_nat hA k)
  have HFB:=hide (fun k=>from_bd c y hA k)
  have HPB:=hide (fun k=>period_1 c y hA k)
  have HFS:=hide (fun k=>from_succ c y k)
  have HEA:=hide (fun k=>(show (endsL c y)[k]?.getD 0=endAt c y k from rfl))
  have HF0:=hide (show fromAt c y 0=startV c y by simp [fromAt])
  have HSL:=hide (fun j k=>sp_last (c:=c) (y:=y) (lv:=4) hA (by omega) (j:=j) (k:=k))
  have HC:=hide (show (spansL c 4 y)=upto (spI c 4 y) (cntL c y 4) from rfl)
  have hcb:=cnt_bd c y hA 4
  have HCN:=hide (show cntL c y 4=jq 4 (nPer c y) (nPer c y) by have h:=jq_n hpv;simp [cntL,h])
  obtain ⟨N,hN⟩:∃ N,nPer c y=N:=⟨_,rfl⟩
  have HN:=hide (show (endsL c y).length=N from hN)
  have hbN:12≤N∧N≤52:=by omega
  obtain ⟨hbN1,hbN2⟩:=hbN
  rw [hN] at hpv HQ0
  have HQB:=hide (fun k (h:k<N)=>qN_bd hpv h)
  have HQE:=hide (fun k (h:k+1=N)=>qN_end hpv h)
  rw [hN] at HSL HCN
  have HJ0:=hide (jq_0 hpv 4)
  have HPJ:=hide (fun k (h:k≤N)=>(pj_le hpv h).2.2.2)
  have HJL:=hide (fun k=>jq4_step N k)
  obtain ⟨D,hD⟩:∃ D,startV c y=D:=⟨_,rfl⟩
  rw [hD] at HFB HF0 hyb
  have HD:=hide hD
  have HA:=hide hA
  have hDb:0≤D∧D≤3068037:=⟨hyb.1,hyb.2.1⟩
  obtain ⟨i0,hi,hi0,hi1,hi2⟩:=info_parts spans_info
  clear hok hok2 hpn hE hA hyb hD hnb hpv hN
  simp only [calV]
  go_enter Tryz.func64,Tryz.ntmps64
  go_wp2_with fail
  refine (r11check_any c _ hn).mono ?_
  rintro e w1 ⟨rfl,hb1⟩
  rw [HOK.out]
  have hz1:w.heap.size<w1.heap.size:=by have:=hb1.size;simp at this;omega
  have HB1:Hid (Below w.heap.size w w1):=ww hb1
  have HQ1:=hide (calAt_below hb1 (by simp) (calAt_new w c))
  obtain ⟨q0,q1,q2,q3,q4,q5,q6,q7,q8,q9,q10,q11,q12,q13⟩:=HQ1.out
  clear hb1
  go_wp2_with fail
  all_goals first
    | (exfalso;omega)
    | skip
  refine (r13start_any c y _ hn).mono ?_
  rintro e w2 ⟨rfl,hb2⟩
  rw [HA.out,HD.out]
  have hz2:w.heap.size<w2.heap.size:=by have:=hb2.size;(try simp at this);omega
  have HB2:Hid (Below w.heap.size w w2):=by have hp:=HB1.out;exact ww hb2
  have HQ2:Hid (CalAt w2 w.heap.size c):=by have hp:=HQ1.out;exact qq hb2
  clear q0 q1 q2 q3 q4 q5 q6 q7 q8 q9 q10 q11 q12 q13
  obtain ⟨q0,q1,q2,q3,q4,q5,q6,q7,q8,q9,q10,q11,q12,q13⟩:=HQ2.out
  clear hb2
  go_wp2_with fail
  refine (r15ends_any c y _ hn HA.out).mono ?_
  rintro e w3 ⟨v,rfl,hv,hb3⟩
  obtain ⟨g,cap,rfl,hrow⟩:=hv
  rw [HN.out] at hrow ⊢
  have HRD:=hide (rows_rd hrow)
  have hg3:g<w3.heap.size:=HRD.out.1
  clear hrow
  have hz3:w.heap.size<w3.heap.size:=by have:=hb3.size;(try simp at this);omega
  have HB3:Hid (Below w.heap.size w w3):=by have hp:=HB2.out;exact ww hb3
  have HQ3:Hid (CalAt w3 w.heap.size c):=by have hp:=HQ2.out;exact qq hb3
  clear q0 q1 q2 q3 q4 q5 q6 q7 q8 q9 q10 q11 q12 q13
  obtain ⟨q0,q1,q2,q3,q4,q5,q6,q7,q8,q9,q10,q11,q12,q13⟩:=HQ3.out
  clear hb3
  obtain ⟨Bo,hBo⟩:∃ B,B=w3.heap.size:=⟨_,rfl⟩
  have HS0:=hide (show SlStr c w.heap.size Bo [] (.slice none 0 0) w w3 from ⟨HQ3.out,by omega,by omega,World.ownsRow_nil _ _ _ _,HB3.out⟩)
  have hgB:g<Bo:=by omega
  clear hBo
  go_wp2_with fail
  go_loopw [9,13,54] (fun s9 s13 s54 wr=>∃ k:Nat,s54=.int .i64 k∧s9=.int .i64 (fromAt c y (pcut N 4 (jq 4 N k)))∧k≤N∧SlStr c w.heap.size Bo (upto (spI c 4 y) (jq 4 N k)) s13 w wr∧RdI wr g (endsL c y)) (fun _ _ s _=>(60-intOf s).toNat)
  case atStart=>exact ⟨0,rfl,by rw [HJ0.out];simp [pcut,HF0.out],by omega,by rw [HJ0.out];exact HS0.out,HRD.out⟩
  case round =>
    obtain ⟨k,rfl,rfl,hk,hS,hR⟩:=hrel
    have HS:=hide hS
    have HR:=hide hR
    clear hS hR
    clear q0 q1 q2 q3 q4 q5 q6 q7 q8 q9 q10 q11 q12 q13
    by_cases hlt:k<N
    · have c0:=HR.out.2 k (by have:=HN.out;omega)
      rw [HEA.out k] at c0
      have hp:=HPB.out k (by have:=HN.out;omega)
      have hpj:=HPJ.out k hk
      have hfb0:=HFB.out (pcut N 4 (jq 4 N k)) (by have:=HN.out;omega)
      have hfb1:=HFB.out (k+1) (by have:=HN.out;omega)
      have hfbk:=HFB.out k (by have:=HN.out;omega)
      have hfs:=HFS.out k
      have hjk:jq 4 N k≤N:=by
        have:jq 4 N k≤pcut N 4 (jq 4 N k):=by
          simp only [pcut];simp;try (first | exact Nat.le_mul_of_pos_left _ (by omega) | omega)
          all_goals
            have:=Nat.le_mul_of_pos_left (jq 4 N k) (show 0<N by omega)
            have h4:12*(jq 4 N k)≤N*(jq 4 N k):=Nat.mul_le_mul_right _ hbN1
            first | omega | (rw [show N*(2*jq 4 N k)=2*(N*jq 4 N k) by rw [Nat.mul_left_comm]];omega)
        omega
      have hul:(upto (spI c 4 y) (jq 4 N k)).length=jq 4 N k:=upto_length _ _
      have HSN:=hide (upto_succ (spI c 4 y) (jq 4 N k))
      have HSP:=hide (HSL.out (jq 4 N k) k hlt hpj)
      obtain ⟨J,hJ⟩:∃ J,jq 4 N k=J:=⟨_,rfl⟩
      rw [hJ] at HS hul HSN HSP hpj hfb0 hjk
      rw [hJ]
      obtain ⟨F0,hF0⟩:∃ X,fromAt c y (pcut N 4 J)=X:=⟨_,rfl⟩
      obtain ⟨E0,hE0⟩:∃ X,endAt c y k=X:=⟨_,rfl⟩
      rw [hF0] at hfb0 HSP
      rw [hF0]
      rw [hE0] at c0 hfs HSP hp
      have HF:=hide hF0
      have hE0b:0≤E0∧E0≤3080000:=by omega
      have hF0b:0≤F0∧F0≤3080000:=by omega
      obtain ⟨hE01,hE02⟩:=hE0b
      obtain ⟨hF01,hF02⟩:=hF0b
      have HFN:=hide (show fromAt c y (k+1)=E0+1 from hfs)
      obtain ⟨U,hU⟩:∃ U,upto (spI c 4 y) J=U:=⟨_,rfl⟩
      rw [hU] at HS HSN hul
      have HUU:=hide hU
      clear hU hfs hfb0 hfb1 hfbk hp hF0 hE0
      have hi3:(0:Int)≤(k:Int):=by omega
      have hi4:(k:Int)<(N:Int):=by omega
      have hJH:=hide hJ
      clear hJ
      obtain ⟨q0,q1,q2,q3,q4,q5,q6,q7,q8,q9,q10,q11,q12,q13⟩:=HS.out.1
      have hBz:=HS.out.2.1
      have hBs:=HS.out.2.2.1
      have HQV1:=hide (HQ0.out k hlt)
      obtain ⟨hQ1,hQ4⟩:=HQB.out k hlt
      obtain ⟨Q0,hQ0⟩:∃ Q:Nat,qN N k=Q:=⟨_,rfl⟩
      rw [hQ0] at HQV1 hQ1 hQ4
      go_wp2_with fail
      refine (r15quarter_any c ((k:Int)+1) _ hn).mono ?_
      rintro e w4 ⟨rfl,hb4⟩
      rw [HQV1.out.1,HQV1.out.2]
      have HS4:=hide (HS.out.call hb4)
      have HR4:=hide (HR.out.below hb4 (by omega))
      have hs4:wr.heap.size≤w4.heap.size:=hb4.size
      clear q0 q1 q2 q3 q4 q5 q6 q7 q8 q9 q10 q11 q12 q13
      obtain ⟨q0,q1,q2,q3,q4,q5,q6,q7,q8,q9,q10,q11,q12,q13⟩:=HS4.out.1
      clear hb4
      by_cases hl2:k+1<N
      · skip
        have HQV2:=hide (show qV c ((k:Int)+2)=(qN N (k+1):Int)∧qE c ((k:Int)+2)=0 from by
          have h:=HQ0.out (k+1) hl2
          rwa [show (((k+1:Nat):Int)+1)=(k:Int)+2 by omega] at h)
        obtain ⟨hX1,hX4⟩:=HQB.out (k+1) hl2
        obtain ⟨X0,hX0⟩:∃ Q:Nat,qN N (k+1)=Q:=⟨_,rfl⟩
        rw [hX0] at HQV2 hX1 hX4
        go_wp2_with fail
        all_goals first
          | (exfalso;omega)
          | skip
        refine (r15quarter_any c ((k:Int)+2) _ hn).mono ?_
        rintro e w5 ⟨rfl,hb5⟩
        rw [HQV2.out.1,HQV2.out.2]
        have HS5:=hide (HS4.out.call hb5)
        have HR5:=hide (HR4.out.below hb5 (by omega))
        have hs5:w4.heap.size≤w5.heap.size:=hb5.size
        clear q0 q1 q2 q3 q4 q5 q6 q7 q8 q9 q10 q11 q12 q13
        clear hb5
        go_wp2_with ((at_builtin;refine wpList_append_own _ rfl _ _ 93 rfl Bo 45 i0 (.agg #[.int .i64 0,.int .i64 0]) 2 16 Tryz.underlying93 hi hi0 hi1 hi2 rfl (by decide) _ _ _ rfl (HS5.out.2.2.2.1.alloc _) ⟨w5.heap.size,0,none⟩ 1 1 [.int .i64 (F0),.int .i64 (E0)] rfl rfl ?c1a ?c2a ?c3a ?c4a ?c5a ?_))
        case c1a =>
          intro i u hu
          match i,hu with
          | 0,hu=>simp at hu;subst hu;simp [Addr.add]
          | 1,hu=>simp at hu;subst hu;simp [Addr.add]
          | i+2,hu=>simp at hu
        case c2a=>intro u hu;simp at hu;rcases hu with rfl | rfl <;> rfl
        case c3a=>unfold maxLen;omega
        case c4a=>omega
        case c5a=>have:=HS5.out.2.2.1;simp;omega
        · intro v' w' hown' hgrow _
          have HG:=hide (HS5.out.grow (a:=F0) (b:=E0) _ (by rw [hul];exact hown') hgrow)
          have HR':=hide (HR5.out.below HG.out.2 hgB)
          clear hown' hgrow
          go_wp2
          go_roundw
          case rel =>
            obtain ⟨e1,e2⟩:=HJL.out k
            refine ⟨k+1,by go_num,?_,by omega,?_,HR'.out⟩
            · rw [e1,e2,HFN.out]
            · rw [e1,hJH.out,HSN.out,HSP.out (by rw [← hJH.out];exact e2)];exact HG.out.1
          case measure=>simp [intOf];omega
      · have hkN:k+1=N:=by omega
        have hQ4':Q0=4:=by rw [← hQ0];exact HQE.out k hkN
        subst hQ4'
        have HKN:=hide hkN
        have hkn:((k:Int)+1==(N:Int))=true:=by simp;omega
        have hkl:(N:Int)≤(k:Int)+1:=by omega
        clear hkN
        go_wp2_with ((at_builtin;refine wpList_append_own _ rfl _ _ 93 rfl Bo 45 i0 (.agg #[.int .i64 0,.int .i64 0]) 2 16 Tryz.underlying93 hi hi0 hi1 hi2 rfl (by decide) _ _ _ rfl (HS4.out.2.2.2.1.alloc _) ⟨w4.heap.size,0,none⟩ 1 1 [.int .i64 (F0),.int .i64 (E0)] rfl rfl ?c1z ?c2z ?c3z ?c4z ?c5z ?_))
        case c1z =>
          intro i u hu
          match i,hu with
          | 0,hu=>simp at hu;subst hu;simp [Addr.add]
          | 1,hu=>simp at hu;subst hu;simp [Addr.add]
          | i+2,hu=>simp at hu
        case c2z=>intro u hu;simp at hu;rcases hu with rfl | rfl <;> rfl
        case c3z=>unfold maxLen;omega
        case c4z=>omega
        case c5z=>have:=HS4.out.2.2.1;simp;omega
        · intro v' w' hown' hgrow _
          have HG:=hide (HS4.out.grow (a:=F0) (b:=E0) _ (by rw [hul];exact hown') hgrow)
          have HR':=hide (HR4.out.below HG.out.2 hgB)
          clear hown' hgrow
          go_wp2
          go_roundw
          case rel =>
            obtain ⟨e1,e2⟩:=HJL.out k
            refine ⟨k+1,by go_num,?_,by omega,?_,HR'.out⟩
            · rw [e1,e2,HFN.out]
            · rw [e1,hJH.out,HSN.out,HSP.out (by rw [← hJH.out];exact e2)];exact HG.out.1
          case measure=>simp [intOf];omega
    · obtain rfl:k=N:=by omega
      have hl:(upto (spI c 4 y) (jq 4 k k)).length=cntL c y 4:=by rw [upto_length,HCN.out]
      have hown:=HS.out.2.2.2.1
      rw [hl] at hown
      obtain ⟨g1,cap1,rfl,hcap,_,hg1,hsp⟩:=owns_spans hown (by omega)
      rw [← HCN.out,← HC.out] at hsp
      have HSP:=hide hsp
      have hBel:=HS.out.2.2.2.2
      have hgw:w.heap.size≤g1:=by have:=HS.out.2.1;omega
      obtain ⟨F0,hF0⟩:∃ X,fromAt c y (pcut k 4 (jq 4 k k))=X:=⟨_,rfl⟩
      rw [hF0]
      clear hown hsp hl hF0
      go_wp2
      all_goals first
        | (exfalso;omega)
        | (go_ret2;exact ⟨g1,cap1,rfl,hgw,hcap,HSP.out,by (repeat' exact bel)⟩)
end Go.Proofs.YtjhhmeoibfdcmaaGreat
