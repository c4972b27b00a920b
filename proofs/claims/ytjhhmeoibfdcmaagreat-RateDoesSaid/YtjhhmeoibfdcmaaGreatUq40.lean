/- Contracts of the references: the spans of a level's units (layer 16). -/
import Derived.Test.YtjhhmeoibfdcmaaGreatUq38
set_option linter.unusedSimpArgs false
set_option linter.unusedVariables false
set_option maxRecDepth 100000
set_option maxHeartbeats 12800000
namespace Go.Proofs.YtjhhmeoibfdcmaaGreat
open Go.RowKit Qd
theorem r16spans_5 (c:Cal) (y:Int) (w:World) (hn:c.name.size≤1000) (hE:frameE c 5 y=0) :
    Calls Tryz.prog 64 #[calV c,.int .i64 5,.int .i64 y] w (RSpPost c 5 y w):=by
  obtain ⟨hok,hok2,_,_,hy1,hy2,hA⟩:=frame_ok hE
  obtain ⟨hpn,hpv⟩:=per_nat hA
  have HOK:=hide (show okE c=0 by simp [okE,hok2])
  have hnb:=nPer_bd c y hA
  have hyb:=year_bd c y hA
  have HQ0:=hide (fun k=>q_nat hA k)
  have HFB:=hide (fun k=>from_bd c y hA k)
  have HPB:=hide (fun k=>period_1 c y hA k)
  have HFS:=hide (fun k=>from_succ c y k)
  have HEA:=hide (fun k=>(show (endsL c y)[k]?.getD 0=endAt c y k from rfl))
  have HF0:=hide (show fromAt c y 0=startV c y by simp [fromAt])
  have HC:=hide (spans_5 hA)
  have HCN:=hide (cnt_5 c y)
  have HP:=hide (fun k=>nwk_pos c y hA k)
  have HCW:=hide (fun k m (h:k≤m)=>cumW_le c y h)
  have hnw:=nWk_bd c y hA
  have HNW:=hide (show nWk c y=cumW c y (nPer c y) from rfl)
  have HSPL:=hide (show spL c y=spUp c y (nPer c y) from rfl)
  obtain ⟨N,hN⟩:∃ N,nPer c y=N:=⟨_,rfl⟩
  have HN:=hide (show (endsL c y).length=N from hN)
  have hbN:12≤N∧N≤52:=by omega
  obtain ⟨hbN1,hbN2⟩:=hbN
  rw [hN] at hpv HQ0
  have HQB:=hide (fun k (h:k<N)=>qN_bd hpv h)
  have HQE:=hide (fun k (h:k+1=N)=>qN_end hpv h)
  rw [hN] at HNW HSPL HP
  rw [HNW.out] at hnw
  obtain ⟨hnw1,hnw2⟩:=hnw
  obtain ⟨D,hD⟩:∃ D,startV c y=D:=⟨_,rfl⟩
  rw [hD] at HFB HF0 hyb
  have HD:=hide hD
  have HA:=hide hA
  have hDb:0≤D∧D≤3068037:=⟨hyb.1,hyb.2.1⟩
  obtain ⟨i0,hi,hi0,hi1,hi2⟩:=info_parts spans_info
  clear hok hok2 hpn hE hA hyb hD hnb hpv hN
  simp only [calV]
  go_enter Tryz.func64,Tryz.ntmps64
  go_wp2_with fail
  refine (r11check_any c _ hn).mono ?_
  rintro e w1 ⟨rfl,hb1⟩
  rw [HOK.out]
  have hz1:w.heap.size<w1.heap.size:=by have:=hb1.size;simp at this;omega
  have HB1:Hid (Below w.heap.size w w1):=ww hb1
  have HQ1:=hide (calAt_below hb1 (by simp) (calAt_new w c))
  obtain ⟨q0,q1,q2,q3,q4,q5,q6,q7,q8,q9,q10,q11,q12,q13⟩:=HQ1.out
  clear hb1
  go_wp2_with fail
  all_goals first
    | (exfalso;omega)
    | skip
  refine (r13start_any c y _ hn).mono ?_
  rintro e w2 ⟨rfl,hb2⟩
  rw [HA.out,HD.out]
  have hz2:w.heap.size<w2.heap.size:=by have:=hb2.size;(try simp at this);omega
  have HB2:Hid (Below w.heap.size w w2):=by have hp:=HB1.out;exact ww hb2
  have HQ2:Hid (CalAt w2 w.heap.size c):=by have hp:=HQ1.out;exact qq hb2
  clear q0 q1 q2 q3 q4 q5 q6 q7 q8 q9 q10 q11 q12 q13
  obtain ⟨q0,q1,q2,q3,q4,q5,q6,q7,q8,q9,q10,q11,q12,q13⟩:=HQ2.out
  clear hb2
  go_wp2_with fail
  refine (r15ends_any c y _ hn HA.out).mono ?_
  rintro e w3 ⟨v,rfl,hv,hb3⟩
  obtain ⟨g,cap,rfl,hrow⟩:=hv
  rw [HN.out] at hrow ⊢
  have HRD:=hide (rows_rd hrow)
  have hg3:g<w3.heap.size:=HRD.out.1
  clear hrow
  have hz3:w.heap.size<w3.heap.size:=by have:=hb3.size;(try simp at this);omega
  have HB3:Hid (Below w.heap.size w w3):=by have hp:=HB2.out;exact ww hb3
  have HQ3:Hid (CalAt w3 w.heap.size c):=by have hp:=HQ2.out;exact qq hb3
  clear q0 q1 q2 q3 q4 q5 q6 q7 q8 q9 q10 q11 q12 q13
  obtain ⟨q0,q1,q2,q3,q4,q5,q6,q7,q8,q9,q10,q11,q12,q13⟩:=HQ3.out
  clear hb3
  obtain ⟨Bo,hBo⟩:∃ B,B=w3.heap.size:=⟨_,rfl⟩
  have HS0:=hide (show SlStr c w.heap.size Bo [] (.slice none 0 0) w w3 from ⟨HQ3.out,by omega,by omega,World.ownsRow_nil _ _ _ _,HB3.out⟩)
  have hgB:g<Bo:=by omega
  clear hBo
  go_wp2_with fail
  go_loopw [9,13,54] (fun s9 s13 s54 wr=>∃ k:Nat,s54=.int .i64 k∧s9=.int .i64 (fromAt c y k)∧k≤N∧SlStr c w.heap.size Bo (spUp c y k) s13 w wr∧RdI wr g (endsL c y)) (fun _ _ s _=>(60-intOf s).toNat)
  case atStart=>exact ⟨0,rfl,by rw [HF0.out],by omega,HS0.out,HRD.out⟩
  case round =>
    obtain ⟨k,rfl,rfl,hk,hS,hR⟩:=hrel
    have HS:=hide hS
    have HR:=hide hR
    clear hS hR
    clear q0 q1 q2 q3 q4 q5 q6 q7 q8 q9 q10 q11 q12 q13
    by_cases hlt:k<N
    · have c0:=HR.out.2 k (by have:=HN.out;omega)
      rw [HEA.out k] at c0
      have hp:=HPB.out k (by have:=HN.out;omega)
      have hfb0:=HFB.out k (by have:=HN.out;omega)
      have hfs:=HFS.out k
      have hwk:=HP.out k hlt
      have hnwk:((nwk c y k:Nat):Int)=(endAt c y k-fromAt c y k) / 7+1:=by unfold nwk wkAt;omega
      have HUL:=hide (fun j=>(show (spUp c y k++upto (spAt c y k) j).length=cumW c y k+j by simp [spUp_len,upto_length]))
      have hcw:=HCW.out (k+1) N (by omega)
      have HCK:=hide (show cumW c y (k+1)=cumW c y k+nwk c y k from rfl)
      rw [HCK.out] at hcw
      have HSU:=hide (show spUp c y (k+1)=spUp c y k++upto (spAt c y k) (nwk c y k) from rfl)
      have HSA:=hide (fun j:Nat=>(show spAt c y k j=(fromAt c y k+7*(j:Int),min (fromAt c y k+7*(j:Int)+6) (endAt c y k)) from rfl))
      have HSS:=hide (fun j:Nat=>(show spUp c y k++upto (spAt c y k) (j+1)=(spUp c y k++upto (spAt c y k) j)++[spAt c y k j] by rw [upto_succ,List.append_assoc]))
      obtain ⟨F0,hF0⟩:∃ X,fromAt c y k=X:=⟨_,rfl⟩
      obtain ⟨E0,hE0⟩:∃ X,endAt c y k=X:=⟨_,rfl⟩
      obtain ⟨M,hM⟩:∃ X,nwk c y k=X:=⟨_,rfl⟩
      obtain ⟨C0,hC0⟩:∃ X,cumW c y k=X:=⟨_,rfl⟩
      rw [hF0] at hfb0 hp hnwk HSA
      rw [hF0]
      rw [hE0] at c0 hfs hp hnwk HSA
      rw [hM] at hwk hnwk hcw HSU
      rw [hC0] at hcw HUL
      have hE0b:0≤E0∧E0≤3080000:=by omega
      have hF0b:0≤F0∧F0≤3080000:=by omega
      obtain ⟨hE01,hE02⟩:=hE0b
      obtain ⟨hF01,hF02⟩:=hF0b
      have HFN:=hide (show fromAt c y (k+1)=E0+1 from hfs)
      have hM6:M≤6:=hwk.2
      have HNWK:=hide hnwk
      clear hfs hfb0 hp hF0 hE0 hM hC0 hwk hnwk
      have hi3:(0:Int)≤(k:Int):=by omega
      have hi4:(k:Int)<(N:Int):=by omega
      obtain ⟨q0,q1,q2,q3,q4,q5,q6,q7,q8,q9,q10,q11,q12,q13⟩:=HS.out.1
      have hBz:=HS.out.2.1
      have hBs:=HS.out.2.2.1
      have HQV1:=hide (HQ0.out k hlt)
      obtain ⟨hQ1,hQ4⟩:=HQB.out k hlt
      obtain ⟨Q0,hQ0⟩:∃ Q:Nat,qN N k=Q:=⟨_,rfl⟩
      rw [hQ0] at HQV1 hQ1 hQ4
      go_wp2_with fail
      refine (r15quarter_any c ((k:Int)+1) _ hn).mono ?_
      rintro e w4 ⟨rfl,hb4⟩
      rw [HQV1.out.1,HQV1.out.2]
      have HS4:=hide (HS.out.call hb4)
      have HR4:=hide (HR.out.below hb4 (by omega))
      have hs4:wr.heap.size≤w4.heap.size:=hb4.size
      clear q0 q1 q2 q3 q4 q5 q6 q7 q8 q9 q10 q11 q12 q13
      obtain ⟨q0,q1,q2,q3,q4,q5,q6,q7,q8,q9,q10,q11,q12,q13⟩:=HS4.out.1
      clear hb4
      by_cases hl2:k+1<N
      · skip
        have HQV2:=hide (show qV c ((k:Int)+2)=(qN N (k+1):Int)∧qE c ((k:Int)+2)=0 from by
          have h:=HQ0.out (k+1) hl2
          rwa [show (((k+1:Nat):Int)+1)=(k:Int)+2 by omega] at h)
        obtain ⟨hX1,hX4⟩:=HQB.out (k+1) hl2
        obtain ⟨X0,hX0⟩:∃ Q:Nat,qN N (k+1)=Q:=⟨_,rfl⟩
        rw [hX0] at HQV2 hX1 hX4
        go_wp2_with fail
        all_goals first
          | (exfalso;omega)
          | skip
        refine (r15quarter_any c ((k:Int)+2) _ hn).mono ?_
        rintro e w5 ⟨rfl,hb5⟩
        rw [HQV2.out.1,HQV2.out.2]
        have HS5:=hide (HS4.out.call hb5)
        have HR5:=hide (HR4.out.below hb5 (by omega))
        have hs5:w4.heap.size≤w5.heap.size:=hb5.size
        clear q0 q1 q2 q3 q4 q5 q6 q7 q8 q9 q10 q11 q12 q13
        clear hb5
        obtain ⟨q0,q1,q2,q3,q4,q5,q6,q7,q8,q9,q10,q11,q12,q13⟩:=HS5.out.1
        obtain ⟨wo,hwo⟩:∃ wo:World,wo=w5:=⟨_,rfl⟩
        clear q0 q1 q2 q3 q4 q5 q6 q7 q8 q9 q10 q11 q12 q13
        go_wp2_with fail
        all_goals first
          | (exfalso;omega)
          | skip
        go_loopw [9,13] (fun s9 s13 wr=>∃ j:Nat,s9=.int .i64 (F0+7*(j:Int))∧j≤M∧SlStr c w.heap.size Bo (spUp c y k++upto (spAt c y k) j) s13 w wr∧RdI wr g (endsL c y)) (fun s9 _ _=>(E0+7-intOf s9).toNat)
        case atStart=>exact ⟨0,by simp,Nat.zero_le _,by simpa [upto] using HS5.out,HR5.out⟩
        case round =>
          clear c0
          obtain ⟨j,rfl,hj,hS,hR⟩:=hrel
          have HT:=hide hS
          have HU:=hide hR
          have hBt:=hS.2.2.1
          clear hS hR
          have hnk:=HNWK.out
          have hul:=HUL.out j
          obtain ⟨U,hU⟩:∃ U,spUp c y k++upto (spAt c y k) j=U:=⟨_,rfl⟩
          rw [hU] at HT hul
          have HUU:=hide hU
          clear hU
          by_cases hjl:j<M
          · have hle:F0+7*(j:Int)≤E0:=by omega
            have HSSj:=hide (HSS.out j)
            rw [HUU.out] at HSSj
            rcases (show E0<F0+7*(j:Int)+6∨F0+7*(j:Int)+6≤E0 by omega) with hmin | hmin
            · have HV:=hide (show spAt c y k j=(F0+7*(j:Int),E0) by rw [HSA.out];congr 1;omega)
              clear hnk
              go_wp2_with ((at_builtin;refine wpList_append_own _ rfl _ _ 93 rfl Bo 45 i0 (.agg #[.int .i64 0,.int .i64 0]) 2 16 Tryz.underlying93 hi hi0 hi1 hi2 rfl (by decide) _ _ _ rfl (HT.out.2.2.2.1.alloc _) ⟨wr.heap.size,0,none⟩ 1 1 [.int .i64 (F0+7*(j:Int)),.int .i64 (E0)] rfl rfl ?c1ax ?c2ax ?c3ax ?c4ax ?c5ax ?_))
              case c1ax =>
                intro i u hu
                match i,hu with
                | 0,hu=>simp at hu;subst hu;simp [Addr.add]
                | 1,hu=>simp at hu;subst hu;simp [Addr.add]
                | i+2,hu=>simp at hu
              case c2ax=>intro u hu;simp at hu;rcases hu with rfl | rfl <;> rfl
              case c3ax=>unfold maxLen;omega
              case c4ax=>omega
              case c5ax=>have:=HT.out.2.2.1;simp;omega
              · intro v' w' hown' hgrow _
                have HG:=hide (HT.out.grow (a:=F0+7*(j:Int)) (b:=E0) _ (by rw [hul];exact hown') hgrow)
                have HR':=hide (HU.out.below HG.out.2 hgB)
                clear hown' hgrow
                go_wp2
                go_roundw
                case rel=>exact ⟨j+1,by go_num,by omega,by rw [HSSj.out,HV.out];exact HG.out.1,HR'.out⟩
                case measure=>simp [intOf];omega
            · have HV:=hide (show spAt c y k j=(F0+7*(j:Int),F0+7*(j:Int)+6) by rw [HSA.out];congr 1;omega)
              clear hnk
              go_wp2_with ((at_builtin;refine wpList_append_own _ rfl _ _ 93 rfl Bo 45 i0 (.agg #[.int .i64 0,.int .i64 0]) 2 16 Tryz.underlying93 hi hi0 hi1 hi2 rfl (by decide) _ _ _ rfl (HT.out.2.2.2.1.alloc _) ⟨wr.heap.size,0,none⟩ 1 1 [.int .i64 (F0+7*(j:Int)),.int .i64 (F0+7*(j:Int)+6)] rfl rfl ?c1ay ?c2ay ?c3ay ?c4ay ?c5ay ?_))
              case c1ay =>
                intro i u hu
                match i,hu with
                | 0,hu=>simp at hu;subst hu;simp [Addr.add]
                | 1,hu=>simp at hu;subst hu;simp [Addr.add]
                | i+2,hu=>simp at hu
              case c2ay=>intro u hu;simp at hu;rcases hu with rfl | rfl <;> rfl
              case c3ay=>unfold maxLen;omega
              case c4ay=>omega
              case c5ay=>have:=HT.out.2.2.1;simp;omega
              · intro v' w' hown' hgrow _
                have HG:=hide (HT.out.grow (a:=F0+7*(j:Int)) (b:=F0+7*(j:Int)+6) _ (by rw [hul];exact hown') hgrow)
                have HR':=hide (HU.out.below HG.out.2 hgB)
                clear hown' hgrow
                go_wp2
                go_roundw
                case rel=>exact ⟨j+1,by go_num,by omega,by rw [HSSj.out,HV.out];exact HG.out.1,HR'.out⟩
                case measure=>simp [intOf];omega
          · have hgt:E0<F0+7*(j:Int):=by omega
            obtain rfl:j=M:=by omega
            clear hnk
            go_wp2
            all_goals first
              | (exfalso;omega)
              | skip
            refine ⟨⟨k+1,by go_num,by rw [HFN.out],by omega,by rw [HSU.out,HUU.out];exact HT.out,HU.out⟩,by simp [intOf];omega⟩
      · have hkl:(N:Int)≤(k:Int)+1:=by omega
        obtain ⟨wo,hwo⟩:∃ wo:World,wo=w4:=⟨_,rfl⟩
        clear q0 q1 q2 q3 q4 q5 q6 q7 q8 q9 q10 q11 q12 q13
        go_wp2_with fail
        all_goals first
          | (exfalso;omega)
          | skip
        go_loopw [9,13] (fun s9 s13 wr=>∃ j:Nat,s9=.int .i64 (F0+7*(j:Int))∧j≤M∧SlStr c w.heap.size Bo (spUp c y k++upto (spAt c y k) j) s13 w wr∧RdI wr g (endsL c y)) (fun s9 _ _=>(E0+7-intOf s9).toNat)
        case atStart=>exact ⟨0,by simp,Nat.zero_le _,by simpa [upto] using HS4.out,HR4.out⟩
        case round =>
          clear c0
          obtain ⟨j,rfl,hj,hS,hR⟩:=hrel
          have HT:=hide hS
          have HU:=hide hR
          have hBt:=hS.2.2.1
          clear hS hR
          have hnk:=HNWK.out
          have hul:=HUL.out j
          obtain ⟨U,hU⟩:∃ U,spUp c y k++upto (spAt c y k) j=U:=⟨_,rfl⟩
          rw [hU] at HT hul
          have HUU:=hide hU
          clear hU
          by_cases hjl:j<M
          · have hle:F0+7*(j:Int)≤E0:=by omega
            have HSSj:=hide (HSS.out j)
            rw [HUU.out] at HSSj
            rcases (show E0<F0+7*(j:Int)+6∨F0+7*(j:Int)+6≤E0 by omega) with hmin | hmin
            · have HV:=hide (show spAt c y k j=(F0+7*(j:Int),E0) by rw [HSA.out];congr 1;omega)
              clear hnk
              go_wp2_with ((at_builtin;refine wpList_append_own _ rfl _ _ 93 rfl Bo 45 i0 (.agg #[.int .i64 0,.int .i64 0]) 2 16 Tryz.underlying93 hi hi0 hi1 hi2 rfl (by decide) _ _ _ rfl (HT.out.2.2.2.1.alloc _) ⟨wr.heap.size,0,none⟩ 1 1 [.int .i64 (F0+7*(j:Int)),.int .i64 (E0)] rfl rfl ?c1bx ?c2bx ?c3bx ?c4bx ?c5bx ?_))
              case c1bx =>
                intro i u hu
                match i,hu with
                | 0,hu=>simp at hu;subst hu;simp [Addr.add]
                | 1,hu=>simp at hu;subst hu;simp [Addr.add]
                | i+2,hu=>simp at hu
              case c2bx=>intro u hu;simp at hu;rcases hu with rfl | rfl <;> rfl
              case c3bx=>unfold maxLen;omega
              case c4bx=>omega
              case c5bx=>have:=HT.out.2.2.1;simp;omega
              · intro v' w' hown' hgrow _
                have HG:=hide (HT.out.grow (a:=F0+7*(j:Int)) (b:=E0) _ (by rw [hul];exact hown') hgrow)
                have HR':=hide (HU.out.below HG.out.2 hgB)
                clear hown' hgrow
                go_wp2
                go_roundw
                case rel=>exact ⟨j+1,by go_num,by omega,by rw [HSSj.out,HV.out];exact HG.out.1,HR'.out⟩
                case measure=>simp [intOf];omega
            · have HV:=hide (show spAt c y k j=(F0+7*(j:Int),F0+7*(j:Int)+6) by rw [HSA.out];congr 1;omega)
              clear hnk
              go_wp2_with ((at_builtin;refine wpList_append_own _ rfl _ _ 93 rfl Bo 45 i0 (.agg #[.int .i64 0,.int .i64 0]) 2 16 Tryz.underlying93 hi hi0 hi1 hi2 rfl (by decide) _ _ _ rfl (HT.out.2.2.2.1.alloc _) ⟨wr.heap.size,0,none⟩ 1 1 [.int .i64 (F0+7*(j:Int)),.int .i64 (F0+7*(j:Int)+6)] rfl rfl ?c1by ?c2by ?c3by ?c4by ?c5by ?_))
              case c1by =>
                intro i u hu
                match i,hu with
                | 0,hu=>simp at hu;subst hu;simp [Addr.add]
                | 1,hu=>simp at hu;subst hu;simp [Addr.add]
                | i+2,hu=>simp at hu
              case c2by=>intro u hu;simp at hu;rcases hu with rfl | rfl <;> rfl
              case c3by=>unfold maxLen;omega
              case c4by=>omega
              case c5by=>have:=HT.out.2.2.1;simp;omega
              · intro v' w' hown' hgrow _
                have HG:=hide (HT.out.grow (a:=F0+7*(j:Int)) (b:=F0+7*(j:Int)+6) _ (by rw [hul];exact hown') hgrow)
                have HR':=hide (HU.out.below HG.out.2 hgB)
                clear hown' hgrow
                go_wp2
                go_roundw
                case rel=>exact ⟨j+1,by go_num,by omega,by rw [HSSj.out,HV.out];exact HG.out.1,HR'.out⟩
                case measure=>simp [intOf];omega
          · have hgt:E0<F0+7*(j:Int):=by omega
            obtain rfl:j=M:=by omega
            clear hnk
            go_wp2
            all_goals first
              | (exfalso;omega)
              | skip
            refine ⟨⟨k+1,by go_num,by rw [HFN.out],by omega,by rw [HSU.out,HUU.out];exact HT.out,HU.out⟩,by simp [intOf];omega⟩
    · obtain rfl:k=N:=by omega
      have hl:(spUp c y k).length=cntL c y 5:=by rw [spUp_len,HCN.out,HNW.out]
      have hown:=HS.out.2.2.2.1
      have hpos:0<cntL c y 5:=by rw [HCN.out,HNW.out];omega
      rw [hl] at hown
      obtain ⟨g1,cap1,rfl,hcap,_,hg1,hsp⟩:=owns_spans hown hpos
      rw [← HSPL.out,← HC.out] at hsp
      have HSP:=hide hsp
      have hBel:=HS.out.2.2.2.2
      have hgw:w.heap.size≤g1:=by have:=HS.out.2.1;omega
      obtain ⟨F0,hF0⟩:∃ X,fromAt c y k=X:=⟨_,rfl⟩
      rw [hF0]
      clear hown hsp hl hF0
      go_wp2
      all_goals first
        | (exfalso;omega)
        | (go_ret2;exact ⟨g1,cap1,rfl,hgw,hcap,HSP.out,by (repeat' exact bel)⟩)
end Go.Proofs.YtjhhmeoibfdcmaaGreat
