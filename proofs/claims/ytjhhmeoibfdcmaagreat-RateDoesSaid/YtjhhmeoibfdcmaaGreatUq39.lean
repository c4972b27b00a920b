/- Contracts of the references: the spans of a level's units (layer 16). -/
import Derived.Test.YtjhhmeoibfdcmaaGreatUq38
set_option linter.unusedSimpArgs false
set_option linter.unusedVariables false
set_option maxRecDepth 100000
set_option maxHeartbeats 12800000
namespace Go.Proofs.YtjhhmeoibfdcmaaGreat
open Go.RowKit Qd
theorem r16spans_2 (c:Cal) (y:Int) (w:World) (hn:c.name.size≤1000) (hE:frameE c 2 y=0) :
    Calls Tryz.prog 64 #[calV c,.int .i64 2,.int .i64 y] w (RSpPost c 2 y w):=by
  obtain ⟨hok,hok2,_,_,hy1,hy2,hA⟩:=frame_ok hE
  obtain ⟨hpn,hpv⟩:=per_nat hA
  have HOK:=hide (show okE c=0 by simp [okE,hok2])
  have hnb:=nPer_bd c y hA
  have hyb:=year_bd c y hA
  have HQ0:=hide (fun k=>q_nat hA k)
  have HFB:=hide (fun k=>from_bd c y hA k)
  have HPB:=hide (fun k=>period_1 c y hA k)
  have HFS:=hide (fun k=>from_succ c y k)
  have HEA:=hide (fun k=>(show (endsL c y)[k]?.getD 0=endAt c y k from rfl))
  have HF0:=hide (show fromAt c y 0=startV c y by simp [fromAt])
  have HSL:=hide (fun j k=>sp_last (c:=c) (y:=y) (lv:=2) hA (by omega) (j:=j) (k:=k))
  have HC:=hide (show (spansL c 2 y)=upto (spI c 2 y) (cntL c y 2) from rfl)
  have hcb:=cnt_bd c y hA 2
  have HCN:=hide (show cntL c y 2=jq 2 (nPer c y) (nPer c y) by have h:=jq_n hpv;simp [cntL,h])
  obtain ⟨N,hN⟩:∃ N,nPer c y=N:=⟨_,rfl⟩
  have HN:=hide (show (endsL c y).length=N from hN)
  have hbN:12≤N∧N≤52:=by omega
  obtain ⟨hbN1,hbN2⟩:=hbN
  rw [hN] at hpv HQ0
  have HQB:=hide (fun k (h:k<N)=>qN_bd hpv h)
  have HQE:=hide (fun k (h:k+1=N)=>qN_end hpv h)
  rw [hN] at HSL HCN
  have HJ0:=hide (jq_0 hpv 2)
  have HPJ:=hide (fun k (h:k≤N)=>(pj_le hpv h).2.1)
  have HJL:=hide (fun k (h:k<N)=>jq2_last hpv h)
  have HJI:=hide (fun k (h:k+1<N)=>jq2_in hpv h)
  obtain ⟨D,hD⟩:∃ D,startV c y=D:=⟨_,rfl⟩
  rw [hD] at HFB HF0 hyb
  have HD:=hide hD
  have HA:=hide hA
  have hDb:0≤D∧D≤3068037:=⟨hyb.1,hyb.2.1⟩
  obtain ⟨i0,hi,hi0,hi1,hi2⟩:=info_parts spans_info
  clear hok hok2 hpn hE hA hyb hD hnb hpv hN
  simp only [calV]
  go_enter Tryz.func64,Tryz.ntmps64
  go_wp2_with fail
  refine (r11check_any c _ hn).mono ?_
  rintro e w1 ⟨rfl,hb1⟩
  rw [HOK.out]
  have hz1:w.heap.size<w1.heap.size:=by have:=hb1.size;simp at this;omega
  have HB1:Hid (Below w.heap.size w w1):=ww hb1
  have HQ1:=hide (calAt_below hb1 (by simp) (calAt_new w c))
  obtain ⟨q0,q1,q2,q3,q4,q5,q6,q7,q8,q9,q10,q11,q12,q13⟩:=HQ1.out
  clear hb1
  go_wp2_with fail
  all_goals first
    | (exfalso;omega)
    | skip
  refine (r13start_any c y _ hn).mono ?_
  rintro e w2 ⟨rfl,hb2⟩
  rw [HA.out,HD.out]
  have hz2:w.heap.size<w2.heap.size:=by have:=hb2.size;(try simp at this);omega
  have HB2:Hid (Below w.heap.size w w2):=by have hp:=HB1.out;exact ww hb2
  have HQ2:Hid (CalAt w2 w.heap.size c):=by have hp:=HQ1.out;exact qq hb2
  clear q0 q1 q2 q3 q4 q5 q6 q7 q8 q9 q10 q11 q12 q13
  obtain ⟨q0,q1,q2,q3,q4,q5,q6,q7,q8,q9,q10,q11,q12,q13⟩:=HQ2.out
  clear hb2
  go_wp2_with fail
  refine (r15ends_any c y _ hn HA.out).mono ?_
  rintro e w3 ⟨v,rfl,hv,hb3⟩
  obtain ⟨g,cap,rfl,hrow⟩:=hv
  rw [HN.out] at hrow ⊢
  have HRD:=hide (rows_rd hrow)
  have hg3:g<w3.heap.size:=HRD.out.1
  clear hrow
  have hz3:w.heap.size<w3.heap.size:=by have:=hb3.size;(try simp at this);omega
  have HB3:Hid (Below w.heap.size w w3):=by have hp:=HB2.out;exact ww hb3
  have HQ3:Hid (CalAt w3 w.heap.size c):=by have hp:=HQ2.out;exact qq hb3
  clear q0 q1 q2 q3 q4 q5 q6 q7 q8 q9 q10 q11 q12 q13
  obtain ⟨q0,q1,q2,q3,q4,q5,q6,q7,q8,q9,q10,q11,q12,q13⟩:=HQ3.out
  clear hb3
  obtain ⟨Bo,hBo⟩:∃ B,B=w3.heap.size:=⟨_,rfl⟩
  have HS0:=hide (show SlStr c w.heap.size Bo [] (.slice none 0 0) w w3 from ⟨HQ3.out,by omega,by omega,World.ownsRow_nil _ _ _ _,HB3.out⟩)
  have hgB:g<Bo:=by omega
  clear hBo
  go_wp2_with fail
  go_loopw [9,13,54] (fun s9 s13 s54 wr=>∃ k:Nat,s54=.int .i64 k∧s9=.int .i64 (fromAt c y (pcut N 2 (jq 2 N k)))∧k≤N∧SlStr c w.heap.size Bo (upto (spI c 2 y) (jq 2 N k)) s13 w wr∧RdI wr g (endsL c y)) (fun _ _ s _=>(60-intOf s).toNat)
  case atStart=>exact ⟨0,rfl,by rw [HJ0.out];simp [pcut,HF0.out],by omega,by rw [HJ0.out];exact HS0.out,HRD.out⟩
  case round =>
    obtain ⟨k,rfl,rfl,hk,hS,hR⟩:=hrel
    have HS:=hide hS
    have HR:=hide hR
    clear hS hR
    clear q0 q1 q2 q3 q4 q5 q6 q7 q8 q9 q10 q11 q12 q13
    by_cases hlt:k<N
    · have c0:=HR.out.2 k (by have:=HN.out;omega)
      rw [HEA.out k] at c0
      have hp:=HPB.out k (by have:=HN.out;omega)
      have hpj:=HPJ.out k hk
      have hfb0:=HFB.out (pcut N 2 (jq 2 N k)) (by have:=HN.out;omega)
      have hfb1:=HFB.out (k+1) (by have:=HN.out;omega)
      have hfbk:=HFB.out k (by have:=HN.out;omega)
      have hfs:=HFS.out k
      have hjk:jq 2 N k≤N:=by
        have:jq 2 N k≤pcut N 2 (jq 2 N k):=by
          simp only [pcut];simp;try (first | exact Nat.le_mul_of_pos_left _ (by omega) | omega)
          all_goals
            have:=Nat.le_mul_of_pos_left (jq 2 N k) (show 0<N by omega)
            have h4:12*(jq 2 N k)≤N*(jq 2 N k):=Nat.mul_le_mul_right _ hbN1
            first | omega | (rw [show N*(2*jq 2 N k)=2*(N*jq 2 N k) by rw [Nat.mul_left_comm]];omega)
        omega
      have hul:(upto (spI c 2 y) (jq 2 N k)).length=jq 2 N k:=upto_length _ _
      have HSN:=hide (upto_succ (spI c 2 y) (jq 2 N k))
      have HSP:=hide (HSL.out (jq 2 N k) k hlt hpj)
      obtain ⟨J,hJ⟩:∃ J,jq 2 N k=J:=⟨_,rfl⟩
      rw [hJ] at HS hul HSN HSP hpj hfb0 hjk
      rw [hJ]
      obtain ⟨F0,hF0⟩:∃ X,fromAt c y (pcut N 2 J)=X:=⟨_,rfl⟩
      obtain ⟨E0,hE0⟩:∃ X,endAt c y k=X:=⟨_,rfl⟩
      rw [hF0] at hfb0 HSP
      rw [hF0]
      rw [hE0] at c0 hfs HSP hp
      have HF:=hide hF0
      have hE0b:0≤E0∧E0≤3080000:=by omega
      have hF0b:0≤F0∧F0≤3080000:=by omega
      obtain ⟨hE01,hE02⟩:=hE0b
      obtain ⟨hF01,hF02⟩:=hF0b
      have HFN:=hide (show fromAt c y (k+1)=E0+1 from hfs)
      obtain ⟨U,hU⟩:∃ U,upto (spI c 2 y) J=U:=⟨_,rfl⟩
      rw [hU] at HS HSN hul
      have HUU:=hide hU
      clear hU hfs hfb0 hfb1 hfbk hp hF0 hE0
      have hi3:(0:Int)≤(k:Int):=by omega
      have hi4:(k:Int)<(N:Int):=by omega
      have hJH:=hide hJ
      clear hJ
      obtain ⟨q0,q1,q2,q3,q4,q5,q6,q7,q8,q9,q10,q11,q12,q13⟩:=HS.out.1
      have hBz:=HS.out.2.1
      have hBs:=HS.out.2.2.1
      have HQV1:=hide (HQ0.out k hlt)
      obtain ⟨hQ1,hQ4⟩:=HQB.out k hlt
      obtain ⟨Q0,hQ0⟩:∃ Q:Nat,qN N k=Q:=⟨_,rfl⟩
      rw [hQ0] at HQV1 hQ1 hQ4
      go_wp2_with fail
      refine (r15quarter_any c ((k:Int)+1) _ hn).mono ?_
      rintro e w4 ⟨rfl,hb4⟩
      rw [HQV1.out.1,HQV1.out.2]
      have HS4:=hide (HS.out.call hb4)
      have HR4:=hide (HR.out.below hb4 (by omega))
      have hs4:wr.heap.size≤w4.heap.size:=hb4.size
      clear q0 q1 q2 q3 q4 q5 q6 q7 q8 q9 q10 q11 q12 q13
      obtain ⟨q0,q1,q2,q3,q4,q5,q6,q7,q8,q9,q10,q11,q12,q13⟩:=HS4.out.1
      clear hb4
      by_cases hl2:k+1<N
      · skip
        have HQV2:=hide (show qV c ((k:Int)+2)=(qN N (k+1):Int)∧qE c ((k:Int)+2)=0 from by
          have h:=HQ0.out (k+1) hl2
          rwa [show (((k+1:Nat):Int)+1)=(k:Int)+2 by omega] at h)
        obtain ⟨hX1,hX4⟩:=HQB.out (k+1) hl2
        obtain ⟨X0,hX0⟩:∃ Q:Nat,qN N (k+1)=Q:=⟨_,rfl⟩
        rw [hX0] at HQV2 hX1 hX4
        go_wp2_with fail
        all_goals first
          | (exfalso;omega)
          | skip
        refine (r15quarter_any c ((k:Int)+2) _ hn).mono ?_
        rintro e w5 ⟨rfl,hb5⟩
        rw [HQV2.out.1,HQV2.out.2]
        have HS5:=hide (HS4.out.call hb5)
        have HR5:=hide (HR4.out.below hb5 (by omega))
        have hs5:w4.heap.size≤w5.heap.size:=hb5.size
        clear q0 q1 q2 q3 q4 q5 q6 q7 q8 q9 q10 q11 q12 q13
        clear hb5
        by_cases hb:Q0<X0
        · have hbI:(Q0:Int)<(X0:Int):=by omega
          by_cases hm:Q0 % 2=0
          · have hmI:((Q0:Int) % 2==0)=true:=by simp;omega
            have HM:=hide hm
            clear hm
            go_wp2_with ((at_builtin;refine wpList_append_own _ rfl _ _ 93 rfl Bo 45 i0 (.agg #[.int .i64 0,.int .i64 0]) 2 16 Tryz.underlying93 hi hi0 hi1 hi2 rfl (by decide) _ _ _ rfl (HS5.out.2.2.2.1.alloc _) ⟨w5.heap.size,0,none⟩ 1 1 [.int .i64 (F0),.int .i64 (E0)] rfl rfl ?c1a ?c2a ?c3a ?c4a ?c5a ?_))
            case c1a =>
              intro i u hu
              match i,hu with
              | 0,hu=>simp at hu;subst hu;simp [Addr.add]
              | 1,hu=>simp at hu;subst hu;simp [Addr.add]
              | i+2,hu=>simp at hu
            case c2a=>intro u hu;simp at hu;rcases hu with rfl | rfl <;> rfl
            case c3a=>unfold maxLen;omega
            case c4a=>omega
            case c5a=>have:=HS5.out.2.2.1;simp;omega
            · intro v' w' hown' hgrow _
              have HG:=hide (HS5.out.grow (a:=F0) (b:=E0) _ (by rw [hul];exact hown') hgrow)
              have HR':=hide (HR5.out.below HG.out.2 hgB)
              clear hown' hgrow
              go_wp2
              go_roundw
              case rel =>
                obtain ⟨e1,e2⟩:=HJL.out k hlt (.inr (by rw [hQ0,hX0];exact ⟨hb,HM.out⟩))
                refine ⟨k+1,by go_num,?_,by omega,?_,HR'.out⟩
                · rw [e1,e2,HFN.out]
                · rw [e1,hJH.out,HSN.out,HSP.out (by rw [← hJH.out];exact e2)];exact HG.out.1
              case measure=>simp [intOf];omega
          · have hmI:((Q0:Int) % 2==0)=false:=by simp;omega
            have hkn:((k:Int)+1==(N:Int))=false:=by simp;omega
            have HM:=hide hm
            clear hm
            go_wp2
            all_goals first
              | (exfalso;omega)
              | skip
            go_roundw
            case rel =>
              have e1:=HJI.out k hl2 (by rw [hQ0,hX0];exact fun h=>HM.out h.2)
              exact ⟨k+1,by go_num,by rw [e1,hJH.out,HF.out],by omega,by rw [e1,hJH.out,HUU.out];exact HS5.out,HR5.out⟩
            case measure=>simp [intOf];omega
        · have hbI:(X0:Int)≤(Q0:Int):=by omega
          have hkn:((k:Int)+1==(N:Int))=false:=by simp;omega
          go_wp2
          all_goals first
            | (exfalso;omega)
            | skip
          go_roundw
          case rel =>
            have e1:=HJI.out k hl2 (by rw [hQ0,hX0];exact fun h=>hb h.1)
            exact ⟨k+1,by go_num,by rw [e1,hJH.out,HF.out],by omega,by rw [e1,hJH.out,HUU.out];exact HS5.out,HR5.out⟩
          case measure=>simp [intOf];omega
      · have hkN:k+1=N:=by omega
        have hQ4':Q0=4:=by rw [← hQ0];exact HQE.out k hkN
        subst hQ4'
        have HKN:=hide hkN
        have hkn:((k:Int)+1==(N:Int))=true:=by simp;omega
        have hkl:(N:Int)≤(k:Int)+1:=by omega
        clear hkN
        go_wp2_with ((at_builtin;refine wpList_append_own _ rfl _ _ 93 rfl Bo 45 i0 (.agg #[.int .i64 0,.int .i64 0]) 2 16 Tryz.underlying93 hi hi0 hi1 hi2 rfl (by decide) _ _ _ rfl (HS4.out.2.2.2.1.alloc _) ⟨w4.heap.size,0,none⟩ 1 1 [.int .i64 (F0),.int .i64 (E0)] rfl rfl ?c1z ?c2z ?c3z ?c4z ?c5z ?_))
        case c1z =>
          intro i u hu
          match i,hu with
          | 0,hu=>simp at hu;subst hu;simp [Addr.add]
          | 1,hu=>simp at hu;subst hu;simp [Addr.add]
          | i+2,hu=>simp at hu
        case c2z=>intro u hu;simp at hu;rcases hu with rfl | rfl <;> rfl
        case c3z=>unfold maxLen;omega
        case c4z=>omega
        case c5z=>have:=HS4.out.2.2.1;simp;omega
        · intro v' w' hown' hgrow _
          have HG:=hide (HS4.out.grow (a:=F0) (b:=E0) _ (by rw [hul];exact hown') hgrow)
          have HR':=hide (HR4.out.below HG.out.2 hgB)
          clear hown' hgrow
          go_wp2
          go_roundw
          case rel =>
            obtain ⟨e1,e2⟩:=HJL.out k hlt (.inl HKN.out)
            refine ⟨k+1,by go_num,?_,by omega,?_,HR'.out⟩
            · rw [e1,e2,HFN.out]
            · rw [e1,hJH.out,HSN.out,HSP.out (by rw [← hJH.out];exact e2)];exact HG.out.1
          case measure=>simp [intOf];omega
    · obtain rfl:k=N:=by omega
      have hl:(upto (spI c 2 y) (jq 2 k k)).length=cntL c y 2:=by rw [upto_length,HCN.out]
      have hown:=HS.out.2.2.2.1
      rw [hl] at hown
      obtain ⟨g1,cap1,rfl,hcap,_,hg1,hsp⟩:=owns_spans hown (by omega)
      rw [← HCN.out,← HC.out] at hsp
      have HSP:=hide hsp
      have hBel:=HS.out.2.2.2.2
      have hgw:w.heap.size≤g1:=by have:=HS.out.2.1;omega
      obtain ⟨F0,hF0⟩:∃ X,fromAt c y (pcut k 2 (jq 2 k k))=X:=⟨_,rfl⟩
      rw [hF0]
      clear hown hsp hl hF0
      go_wp2
      all_goals first
        | (exfalso;omega)
        | (go_ret2;exact ⟨g1,cap1,rfl,hgw,hcap,HSP.out,by (repeat' exact bel)⟩)
theorem r16spans_3 (c:Cal) (y:Int) (w:World) (hn:c.name.size≤1000) (hE:frameE c 3 y=0) :
    Calls Tryz.prog 64 #[calV c,.int .i64 3,.int .i64 y] w (RSpPost c 3 y w):=by
  obtain ⟨hok,hok2,_,_,hy1,hy2,hA⟩:=frame_ok hE
  obtain ⟨hpn,hpv⟩:=per_nat hA
  have HOK:=hide (show okE c=0 by simp [okE,hok2])
  have hnb:=nPer_bd c y hA
  have hyb:=year_bd c y hA
  have HQ0:=hide (fun k=>q_nat hA k)
  have HFB:=hide (fun k=>from_bd c y hA k)
  have HPB:=hide (fun k=>period_1 c y hA k)
  have HFS:=hide (fun k=>from_succ c y k)
  have HEA:=hide (fun k=>(show (endsL c y)[k]?.getD 0=endAt c y k from rfl))
  have HF0:=hide (show fromAt c y 0=startV c y by simp [fromAt])
  have HSL:=hide (fun j k=>sp_last (c:=c) (y:=y) (lv:=3) hA (by omega) (j:=j) (k:=k))
  have HC:=hide (show (spansL c 3 y)=upto (spI c 3 y) (cntL c y 3) from rfl)
  have hcb:=cnt_bd c y hA 3
  have HCN:=hide (show cntL c y 3=jq 3 (nPer c y) (nPer c y) by have h:=jq_n hpv;simp [cntL,h])
  obtain ⟨N,hN⟩:∃ N,nPer c y=N:=⟨_,rfl⟩
  have HN:=hide (show (endsL c y).length=N from hN)
  have hbN:12≤N∧N≤52:=by omega
  obtain ⟨hbN1,hbN2⟩:=hbN
  rw [hN] at hpv HQ0
  have HQB:=hide (fun k (h:k<N)=>qN_bd hpv h)
  have HQE:=hide (fun k (h:k+1=N)=>qN_end hpv h)
  rw [hN] at HSL HCN
  have HJ0:=hide (jq_0 hpv 3)
  have HPJ:=hide (fun k (h:k≤N)=>(pj_le hpv h).2.2.1)
  have HJL:=hide (fun k (h:k<N)=>jq3_last hpv h)
  have HJI:=hide (fun k (h:k+1<N)=>jq3_in hpv h)
  obtain ⟨D,hD⟩:∃ D,startV c y=D:=⟨_,rfl⟩
  rw [hD] at HFB HF0 hyb
  have HD:=hide hD
  have HA:=hide hA
  have hDb:0≤D∧D≤3068037:=⟨hyb.1,hyb.2.1⟩
  obtain ⟨i0,hi,hi0,hi1,hi2⟩:=info_parts spans_info
  clear hok hok2 hpn hE hA hyb hD hnb hpv hN
  simp only [calV]
  go_enter Tryz.func64,Tryz.ntmps64
  go_wp2_with fail
  refine (r11check_any c _ hn).mono ?_
  rintro e w1 ⟨rfl,hb1⟩
  rw [HOK.out]
  have hz1:w.heap.size<w1.heap.size:=by have:=hb1.size;simp at this;omega
  have HB1:Hid (Below w.heap.size w w1):=ww hb1
  have HQ1:=hide (calAt_below hb1 (by simp) (calAt_new w c))
  obtain ⟨q0,q1,q2,q3,q4,q5,q6,q7,q8,q9,q10,q11,q12,q13⟩:=HQ1.out
  clear hb1
  go_wp2_with fail
  all_goals first
    | (exfalso;omega)
    | skip
  refine (r13start_any c y _ hn).mono ?_
  rintro e w2 ⟨rfl,hb2⟩
  rw [HA.out,HD.out]
  have hz2:w.heap.size<w2.heap.size:=by have:=hb2.size;(try simp at this);omega
  have HB2:Hid (Below w.heap.size w w2):=by have hp:=HB1.out;exact ww hb2
  have HQ2:Hid (CalAt w2 w.heap.size c):=by have hp:=HQ1.out;exact qq hb2
  clear q0 q1 q2 q3 q4 q5 q6 q7 q8 q9 q10 q11 q12 q13
  obtain ⟨q0,q1,q2,q3,q4,q5,q6,q7,q8,q9,q10,q11,q12,q13⟩:=HQ2.out
  clear hb2
  go_wp2_with fail
  refine (r15ends_any c y _ hn HA.out).mono ?_
  rintro e w3 ⟨v,rfl,hv,hb3⟩
  obtain ⟨g,cap,rfl,hrow⟩:=hv
  rw [HN.out] at hrow ⊢
  have HRD:=hide (rows_rd hrow)
  have hg3:g<w3.heap.size:=HRD.out.1
  clear hrow
  have hz3:w.heap.size<w3.heap.size:=by have:=hb3.size;(try simp at this);omega
  have HB3:Hid (Below w.heap.size w w3):=by have hp:=HB2.out;exact ww hb3
  have HQ3:Hid (CalAt w3 w.heap.size c):=by have hp:=HQ2.out;exact qq hb3
  clear q0 q1 q2 q3 q4 q5 q6 q7 q8 q9 q10 q11 q12 q13
  obtain ⟨q0,q1,q2,q3,q4,q5,q6,q7,q8,q9,q10,q11,q12,q13⟩:=HQ3.out
  clear hb3
  obtain ⟨Bo,hBo⟩:∃ B,B=w3.heap.size:=⟨_,rfl⟩
  have HS0:=hide (show SlStr c w.heap.size Bo [] (.slice none 0 0) w w3 from ⟨HQ3.out,by omega,by omega,World.ownsRow_nil _ _ _ _,HB3.out⟩)
  have hgB:g<Bo:=by omega
  clear hBo
  go_wp2_with fail
  go_loopw [9,13,54] (fun s9 s13 s54 wr=>∃ k:Nat,s54=.int .i64 k∧s9=.int .i64 (fromAt c y (pcut N 3 (jq 3 N k)))∧k≤N∧SlStr c w.heap.size Bo (upto (spI c 3 y) (jq 3 N k)) s13 w wr∧RdI wr g (endsL c y)) (fun _ _ s _=>(60-intOf s).toNat)
  case atStart=>exact ⟨0,rfl,by rw [HJ0.out];simp [pcut,HF0.out],by omega,by rw [HJ0.out];exact HS0.out,HRD.out⟩
  case round =>
    obtain ⟨k,rfl,rfl,hk,hS,hR⟩:=hrel
    have HS:=hide hS
    have HR:=hide hR
    clear hS hR
    clear q0 q1 q2 q3 q4 q5 q6 q7 q8 q9 q10 q11 q12 q13
    by_cases hlt:k<N
    · have c0:=HR.out.2 k (by have:=HN.out;omega)
      rw [HEA.out k] at c0
      have hp:=HPB.out k (by have:=HN.out;omega)
      have hpj:=HPJ.out k hk
      have hfb0:=HFB.out (pcut N 3 (jq 3 N k)) (by have:=HN.out;omega)
      have hfb1:=HFB.out (k+1) (by have:=HN.out;omega)
      have hfbk:=HFB.out k (by have:=HN.out;omega)
      have hfs:=HFS.out k
      have hjk:jq 3 N k≤N:=by
        have:jq 3 N k≤pcut N 3 (jq 3 N k):=by
          simp only [pcut];simp;try (first | exact Nat.le_mul_of_pos_left _ (by omega) | omega)
          all_goals
            have:=Nat.le_mul_of_pos_left (jq 3 N k) (show 0<N by omega)
            have h4:12*(jq 3 N k)≤N*(jq 3 N k):=Nat.mul_le_mul_right _ hbN1
            first | omega | (rw [show N*(2*jq 3 N k)=2*(N*jq 3 N k) by rw [Nat.mul_left_comm]];omega)
        omega
      have hul:(upto (spI c 3 y) (jq 3 N k)).length=jq 3 N k:=upto_length _ _
      have HSN:=hide (upto_succ (spI c 3 y) (jq 3 N k))
      have HSP:=hide (HSL.out (jq 3 N k) k hlt hpj)
      obtain ⟨J,hJ⟩:∃ J,jq 3 N k=J:=⟨_,rfl⟩
      rw [hJ] at HS hul HSN HSP hpj hfb0 hjk
      rw [hJ]
      obtain ⟨F0,hF0⟩:∃ X,fromAt c y (pcut N 3 J)=X:=⟨_,rfl⟩
      obtain ⟨E0,hE0⟩:∃ X,endAt c y k=X:=⟨_,rfl⟩
      rw [hF0] at hfb0 HSP
      rw [hF0]
      rw [hE0] at c0 hfs HSP hp
      have HF:=hide hF0
      have hE0b:0≤E0∧E0≤3080000:=by omega
      have hF0b:0≤F0∧F0≤3080000:=by omega
      obtain ⟨hE01,hE02⟩:=hE0b
      obtain ⟨hF01,hF02⟩:=hF0b
      have HFN:=hide (show fromAt c y (k+1)=E0+1 from hfs)
      obtain ⟨U,hU⟩:∃ U,upto (spI c 3 y) J=U:=⟨_,rfl⟩
      rw [hU] at HS HSN hul
      have HUU:=hide hU
      clear hU hfs hfb0 hfb1 hfbk hp hF0 hE0
      have hi3:(0:Int)≤(k:Int):=by omega
      have hi4:(k:Int)<(N:Int):=by omega
      have hJH:=hide hJ
      clear hJ
      obtain ⟨q0,q1,q2,q3,q4,q5,q6,q7,q8,q9,q10,q11,q12,q13⟩:=HS.out.1
      have hBz:=HS.out.2.1
      have hBs:=HS.out.2.2.1
      have HQV1:=hide (HQ0.out k hlt)
      obtain ⟨hQ1,hQ4⟩:=HQB.out k hlt
      obtain ⟨Q0,hQ0⟩:∃ Q:Nat,qN N k=Q:=⟨_,rfl⟩
      rw [hQ0] at HQV1 hQ1 hQ4
      go_wp2_with fail
      refine (r15quarter_any c ((k:Int)+1) _ hn).mono ?_
      rintro e w4 ⟨rfl,hb4⟩
      rw [HQV1.out.1,HQV1.out.2]
      have HS4:=hide (HS.out.call hb4)
      have HR4:=hide (HR.out.below hb4 (by omega))
      have hs4:wr.heap.size≤w4.heap.size:=hb4.size
      clear q0 q1 q2 q3 q4 q5 q6 q7 q8 q9 q10 q11 q12 q13
      obtain ⟨q0,q1,q2,q3,q4,q5,q6,q7,q8,q9,q10,q11,q12,q13⟩:=HS4.out.1
      clear hb4
      by_cases hl2:k+1<N
      · skip
        have HQV2:=hide (show qV c ((k:Int)+2)=(qN N (k+1):Int)∧qE c ((k:Int)+2)=0 from by
          have h:=HQ0.out (k+1) hl2
          rwa [show (((k+1:Nat):Int)+1)=(k:Int)+2 by omega] at h)
        obtain ⟨hX1,hX4⟩:=HQB.out (k+1) hl2
        obtain ⟨X0,hX0⟩:∃ Q:Nat,qN N (k+1)=Q:=⟨_,rfl⟩
        rw [hX0] at HQV2 hX1 hX4
        go_wp2_with fail
        all_goals first
          | (exfalso;omega)
          | skip
        refine (r15quarter_any c ((k:Int)+2) _ hn).mono ?_
        rintro e w5 ⟨rfl,hb5⟩
        rw [HQV2.out.1,HQV2.out.2]
        have HS5:=hide (HS4.out.call hb5)
        have HR5:=hide (HR4.out.below hb5 (by omega))
        have hs5:w4.heap.size≤w5.heap.size:=hb5.size
        clear q0 q1 q2 q3 q4 q5 q6 q7 q8 q9 q10 q11 q12 q13
        clear hb5
        by_cases hb:Q0<X0
        · have hbI:(Q0:Int)<(X0:Int):=by omega
          go_wp2_with ((at_builtin;refine wpList_append_own _ rfl _ _ 93 rfl Bo 45 i0 (.agg #[.int .i64 0,.int .i64 0]) 2 16 Tryz.underlying93 hi hi0 hi1 hi2 rfl (by decide) _ _ _ rfl (HS5.out.2.2.2.1.alloc _) ⟨w5.heap.size,0,none⟩ 1 1 [.int .i64 (F0),.int .i64 (E0)] rfl rfl ?c1a ?c2a ?c3a ?c4a ?c5a ?_))
          case c1a =>
            intro i u hu
            match i,hu with
            | 0,hu=>simp at hu;subst hu;simp [Addr.add]
            | 1,hu=>simp at hu;subst hu;simp [Addr.add]
            | i+2,hu=>simp at hu
          case c2a=>intro u hu;simp at hu;rcases hu with rfl | rfl <;> rfl
          case c3a=>unfold maxLen;omega
          case c4a=>omega
          case c5a=>have:=HS5.out.2.2.1;simp;omega
          · intro v' w' hown' hgrow _
            have HG:=hide (HS5.out.grow (a:=F0) (b:=E0) _ (by rw [hul];exact hown') hgrow)
            have HR':=hide (HR5.out.below HG.out.2 hgB)
            clear hown' hgrow
            go_wp2
            go_roundw
            case rel =>
              obtain ⟨e1,e2⟩:=HJL.out k hlt (.inr (by rw [hQ0,hX0];exact hb))
              refine ⟨k+1,by go_num,?_,by omega,?_,HR'.out⟩
              · rw [e1,e2,HFN.out]
              · rw [e1,hJH.out,HSN.out,HSP.out (by rw [← hJH.out];exact e2)];exact HG.out.1
            case measure=>simp [intOf];omega
        · have hbI:(X0:Int)≤(Q0:Int):=by omega
          have hkn:((k:Int)+1==(N:Int))=false:=by simp;omega
          go_wp2
          all_goals first
            | (exfalso;omega)
            | skip
          go_roundw
          case rel =>
            have e1:=HJI.out k hl2 (by rw [hQ0,hX0];exact hb)
            exact ⟨k+1,by go_num,by rw [e1,hJH.out,HF.out],by omega,by rw [e1,hJH.out,HUU.out];exact HS5.out,HR5.out⟩
          case measure=>simp [intOf];omega
      · have hkN:k+1=N:=by omega
        have hQ4':Q0=4:=by rw [← hQ0];exact HQE.out k hkN
        subst hQ4'
        have HKN:=hide hkN
        have hkn:((k:Int)+1==(N:Int))=true:=by simp;omega
        have hkl:(N:Int)≤(k:Int)+1:=by omega
        clear hkN
        go_wp2_with ((at_builtin;refine wpList_append_own _ rfl _ _ 93 rfl Bo 45 i0 (.agg #[.int .i64 0,.int .i64 0]) 2 16 Tryz.underlying93 hi hi0 hi1 hi2 rfl (by decide) _ _ _ rfl (HS4.out.2.2.2.1.alloc _) ⟨w4.heap.size,0,none⟩ 1 1 [.int .i64 (F0),.int .i64 (E0)] rfl rfl ?c1z ?c2z ?c3z ?c4z ?c5z ?_))
        case c1z =>
          intro i u hu
          match i,hu with
          | 0,hu=>simp at hu;subst hu;simp [Addr.add]
          | 1,hu=>simp at hu;subst hu;simp [Addr.add]
          | i+2,hu=>simp at hu
        case c2z=>intro u hu;simp at hu;rcases hu with rfl | rfl <;> rfl
        case c3z=>unfold maxLen;omega
        case c4z=>omega
        case c5z=>have:=HS4.out.2.2.1;simp;omega
        · intro v' w' hown' hgrow _
          have HG:=hide (HS4.out.grow (a:=F0) (b:=E0) _ (by rw [hul];exact hown') hgrow)
          have HR':=hide (HR4.out.below HG.out.2 hgB)
          clear hown' hgrow
          go_wp2
          go_roundw
          case rel =>
            obtain ⟨e1,e2⟩:=HJL.out k hlt (.inl HKN.out)
            refine ⟨k+1,by go_num,?_,by omega,?_,HR'.out⟩
            · rw [e1,e2,HFN.out]
            · rw [e1,hJH.out,HSN.out,HSP.out (by rw [← hJH.out];exact e2)];exact HG.out.1
          case measure=>simp [intOf];omega
    · obtain rfl:k=N:=by omega
      have hl:(upto (spI c 3 y) (jq 3 k k)).length=cntL c y 3:=by rw [upto_length,HCN.out]
      have hown:=HS.out.2.2.2.1
      rw [hl] at hown
      obtain ⟨g1,cap1,rfl,hcap,_,hg1,hsp⟩:=owns_spans hown (by omega)
      rw [← HCN.out,← HC.out] at hsp
      have HSP:=hide hsp
      have hBel:=HS.out.2.2.2.2
      have hgw:w.heap.size≤g1:=by have:=HS.out.2.1;omega
      obtain ⟨F0,hF0⟩:∃ X,fromAt c y (pcut k 3 (jq 3 k k))=X:=⟨_,rfl⟩
      rw [hF0]
      clear hown hsp hl hF0
      go_wp2
      all_goals first
        | (exfalso;omega)
        | (go_ret2;exact ⟨g1,cap1,rfl,hgw,hcap,HSP.out,by (repeat' exact bel)⟩)
end Go.Proofs.YtjhhmeoibfdcmaaGreat
