/- Contracts of the references: Check, Periods, Quarter (layers 11, 15). Contracts of the references: when years begin and end (layer 13). Contracts of the references: on which days the periods of a year end (layer 15). Contracts of the references: on which days the periods of a year of weeks end (layer 15). Contracts of the references: weeks of periods, the added week, and when lists are the same (layer 15). Contracts of the references: the added week (layer 15). -/
import Derived.Test.YtjhhmeoibfdcmaaGreatUq04
import Derived.Test.YtjhhmeoibfdcmaaGreatUq05
import Derived.Test.YtjhhmeoibfdcmaaGreatUq07
import Derived.Test.YtjhhmeoibfdcmaaGreatUq29
import Derived.Test.YtjhhmeoibfdcmaaGreatUq30
import Derived.Test.YtjhhmeoibfdcmaaGreatUq31
import Derived.Test.YtjhhmeoibfdcmaaGreatUq32
import Derived.Test.YtjhhmeoibfdcmaaGreatUq33
import Derived.Test.YtjhhmeoibfdcmaaGreatUq34
import Derived.Test.YtjhhmeoibfdcmaaGreatUq35
set_option linter.unusedSimpArgs false
set_option linter.unusedVariables false
set_option maxRecDepth 100000
set_option maxHeartbeats 12800000
namespace Go.Proofs.YtjhhmeoibfdcmaaGreat
open Go.RowKit Qd
theorem r11check_any (c:Cal) (w:World) (hn:c.name.size≤1000) :
    Calls Tryz.prog 100 #[calV c] w fun e w'=>e=.returned (.int .i64 (okE c))∧Below w.heap.size w w':=by
  by_cases h:c.served∧c.polic∧nameB c.name=true
  · by_cases h3:c.kind=3
    · exact rcheck_3 c w hn h h3
    by_cases h4:c.kind=4
    · exact rcheck_4 c w hn h h4
    by_cases h6:c.kind=6
    · exact rcheck_6 c w hn h h6
    by_cases hk:1≤c.kind∧c.kind≤6
    · have hE:=okE_rule h
      have r12:=fun hk=>ruled_12 (c:=c) hk
      have r5:=fun hk=>ruled_5 (c:=c) hk
      obtain ⟨nm,k,d,m,sh,sp,a,b,p,cy,ex,fi,la,po⟩:=c
      simp only at hn h3 h4 h6 hk r12 r5
      by_cases hk5:k=5
      · subst hk5
        by_cases g1:d=7
        · by_cases g2:m=12
          · by_cases g3:sh=0
            · subst g1 g2 g3
              by_cases hc:calShaped (Cal.mk nm 5 7 12 0 sp a b p cy ex fi la po)
              · by_cases hx:ex<1
                · rw [hE,if_neg (fun hr=>by have:=((r5 rfl).1 hr).2.2.2.2.1;omega)]
                  exact rc50l nm sp a b p cy ex fi la po w hn h hc hx
                · by_cases hx2:manyP sp cy<ex
                  · rw [hE,if_neg (fun hr=>by have:=((r5 rfl).1 hr).2.2.2.2.2;omega)]
                    exact rc50g nm sp a b p cy ex fi la po w hn h hc (by omega) hx2
                  · rw [hE,if_pos ((r5 rfl).2 ⟨rfl,rfl,rfl,hc,by omega,by omega⟩)]
                    exact rc50y nm sp a b p cy ex fi la po w hn h hc (by omega) (by omega)
              · rw [hE,if_neg (fun hr=>hc ((r5 rfl).1 hr).2.2.2.1)]
                exact rc50n nm sp a b p cy ex fi la po w hn h hc
            · rw [hE,if_neg (fun hr=>g3 ((r5 rfl).1 hr).2.2.1)]
              exact rn5c nm d m sh sp a b p cy ex fi la po w hn h g1 g2 g3
          · rw [hE,if_neg (fun hr=>g2 ((r5 rfl).1 hr).2.1)]
            exact rn5b nm d m sh sp a b p cy ex fi la po w hn h g1 g2
        · rw [hE,if_neg (fun hr=>g1 ((r5 rfl).1 hr).1)]
          exact rn5a nm d m sh sp a b p cy ex fi la po w hn h g1
      · have hk12:k=1∨k=2:=by omega
        have r12:=r12 hk12
        by_cases g1:d<1
        · rw [hE,if_neg (fun hr=>by have:=(r12.1 hr).1;omega)]
          rcases hk12 with rfl | rfl
          · exact rn1a nm d m sh sp a b p cy ex fi la po w hn h g1
          · exact rn2a nm d m sh sp a b p cy ex fi la po w hn h g1
        by_cases g2:7<d
        · rw [hE,if_neg (fun hr=>by have:=(r12.1 hr).1;omega)]
          rcases hk12 with rfl | rfl
          · exact rn1b nm d m sh sp a b p cy ex fi la po w hn h (by omega) g2
          · exact rn2b nm d m sh sp a b p cy ex fi la po w hn h (by omega) g2
        by_cases g3:m<1
        · rw [hE,if_neg (fun hr=>by have:=(r12.1 hr).2.1;omega)]
          rcases hk12 with rfl | rfl
          · exact rn1c nm d m sh sp a b p cy ex fi la po w hn h (by omega) (by omega) g3
          · exact rn2c nm d m sh sp a b p cy ex fi la po w hn h (by omega) (by omega) g3
        by_cases g4:12<m
        · rw [hE,if_neg (fun hr=>by have:=(r12.1 hr).2.1;omega)]
          rcases hk12 with rfl | rfl
          · exact rn1d nm d m sh sp a b p cy ex fi la po w hn h (by omega) (by omega) (by omega) g4
          · exact rn2d nm d m sh sp a b p cy ex fi la po w hn h (by omega) (by omega) (by omega) g4
        by_cases g5:sh=0∨sh=1
        · have hd:1≤d∧d≤7:=by omega
          have hm:1≤m∧m≤12:=by omega
          by_cases hc:calShaped (Cal.mk nm k d m sh sp a b p cy ex fi la po)
          · by_cases hx:ex<1
            · rw [hE,if_neg (fun hr=>by have:=(r12.1 hr).2.2.2.2.1;omega)]
              rcases hk12 with rfl | rfl <;> rcases g5 with rfl | rfl
              · exact rc10l nm d m sp a b p cy ex fi la po w hn h hd hm hc hx
              · exact rc11l nm d m sp a b p cy ex fi la po w hn h hd hm hc hx
              · exact rc20l nm d m sp a b p cy ex fi la po w hn h hd hm hc hx
              · exact rc21l nm d m sp a b p cy ex fi la po w hn h hd hm hc hx
            · by_cases hx2:manyP sp cy<ex
              · rw [hE,if_neg (fun hr=>by have:=(r12.1 hr).2.2.2.2.2;omega)]
                rcases hk12 with rfl | rfl <;> rcases g5 with rfl | rfl
                · exact rc10g nm d m sp a b p cy ex fi la po w hn h hd hm hc (by omega) hx2
                · exact rc11g nm d m sp a b p cy ex fi la po w hn h hd hm hc (by omega) hx2
                · exact rc20g nm d m sp a b p cy ex fi la po w hn h hd hm hc (by omega) hx2
                · exact rc21g nm d m sp a b p cy ex fi la po w hn h hd hm hc (by omega) hx2
              · rw [hE,if_pos (r12.2 ⟨hd,hm,g5,hc,by omega,by omega⟩)]
                rcases hk12 with rfl | rfl <;> rcases g5 with rfl | rfl
                · exact rc10y nm d m sp a b p cy ex fi la po w hn h hd hm hc (by omega) (by omega)
                · exact rc11y nm d m sp a b p cy ex fi la po w hn h hd hm hc (by omega) (by omega)
                · exact rc20y nm d m sp a b p cy ex fi la po w hn h hd hm hc (by omega) (by omega)
                · exact rc21y nm d m sp a b p cy ex fi la po w hn h hd hm hc (by omega) (by omega)
          · rw [hE,if_neg (fun hr=>hc (r12.1 hr).2.2.2.1)]
            rcases hk12 with rfl | rfl <;> rcases g5 with rfl | rfl
            · exact rc10n nm d m sp a b p cy ex fi la po w hn h hd hm hc
            · exact rc11n nm d m sp a b p cy ex fi la po w hn h hd hm hc
            · exact rc20n nm d m sp a b p cy ex fi la po w hn h hd hm hc
            · exact rc21n nm d m sp a b p cy ex fi la po w hn h hd hm hc
        · rw [hE,if_neg (fun hr=>g5 (r12.1 hr).2.2.1)]
          rcases hk12 with rfl | rfl
          · exact rn1e nm d m sh sp a b p cy ex fi la po w hn h (by omega) (by omega) (by omega) (by omega) g5
          · exact rn2e nm d m sh sp a b p cy ex fi la po w hn h (by omega) (by omega) (by omega) (by omega) g5
    · exact rcheck_n c w hn h hk
  · exact rcheck_pre c w hn h
theorem rmany_ok {c:Cal} (h:c.okB=true):rmanyP c=perV c:=by
  have hk:c.Ok:=by simpa [Cal.okB] using h
  have hp:perV c=manyP c.shape c.cycle:=by simp [perV,h]
  rw [hp,rmanyP,if_neg]
  obtain ⟨_,_,_,hr⟩:=hk
  intro h2
  simp only [Cal.ruled,Cal.weeks,weeksP,Cal.pat0] at hr
  omega
theorem r11per_any (c:Cal) (w:World) (hn:c.name.size≤1000) :
    Calls Tryz.prog 165 #[calV c] w fun e w'=>e=.returned (.tuple #[.int .i64 (perV c),.int .i64 (okE c)])∧Below w.heap.size w w':=by
  rcases okE_cases c with ⟨_,h1,h2⟩ | ⟨_,h1,h2⟩
  · have HM:=hide (rmany_ok h2)
    have HE:=hide h1
    clear h1 h2
    simp only [calV]
    go_enter Tryz.func165,Tryz.ntmps165
    go_wp2_with fail
    refine (r11check_any c _ hn).mono ?_
    rintro e w1 ⟨rfl,hb1⟩
    rw [HE.out]
    have hz1:w.heap.size<w1.heap.size:=by have:=hb1.size;simp at this;omega
    have HB1:Hid (Below w.heap.size w w1):=ww hb1
    have HQ1:=hide (calAt_below hb1 (by simp) (calAt_new w c))
    obtain ⟨q0,q1,q2,q3,q4,q5,q6,q7,q8,q9,q10,q11,q12,q13⟩:=HQ1.out
    clear hb1
    go_wp2_with fail
    refine (rmany_any c _).mono ?_
    rintro e w2 ⟨rfl,hb2⟩
    rw [HM.out]
    have hz2:w.heap.size<w2.heap.size:=by have:=hb2.size;(try simp at this);omega
    have HB2:Hid (Below w.heap.size w w2):=by have hp:=HB1.out;exact ww hb2
    have HQ2:Hid (CalAt w2 w.heap.size c):=by have hp:=HQ1.out;exact qq hb2
    clear q0 q1 q2 q3 q4 q5 q6 q7 q8 q9 q10 q11 q12 q13
    obtain ⟨q0,q1,q2,q3,q4,q5,q6,q7,q8,q9,q10,q11,q12,q13⟩:=HQ2.out
    clear hb2
    have hBel:=HB2.out
    go_wp2
    go_ret2
    exact ⟨ret_int2 rfl HE.out.symm,by (repeat' exact bel)⟩
  · have HE:=hide h1
    have HP:=hide (show perV c=0 by simp [perV,h2])
    clear h1 h2
    simp only [calV]
    go_enter Tryz.func165,Tryz.ntmps165
    go_wp2_with fail
    refine (r11check_any c _ hn).mono ?_
    rintro e w1 ⟨rfl,hb1⟩
    rw [HE.out]
    have hz1:w.heap.size<w1.heap.size:=by have:=hb1.size;simp at this;omega
    have HB1:Hid (Below w.heap.size w w1):=ww hb1
    have HQ1:=hide (calAt_below hb1 (by simp) (calAt_new w c))
    obtain ⟨q0,q1,q2,q3,q4,q5,q6,q7,q8,q9,q10,q11,q12,q13⟩:=HQ1.out
    clear hb1
    have hBel:=HB1.out
    go_wp2
    go_ret2
    exact ⟨ret_int2 HP.out.symm HE.out.symm,by (repeat' exact bel)⟩
theorem r15quarter_any (c:Cal) (p:Int) (w:World) (hn:c.name.size≤1000) :
    Calls Tryz.prog 102 #[calV c,.int .i64 p] w fun e w'=>e=.returned (.tuple #[.int .i64 (qV c p),.int .i64 (qE c p)])∧Below w.heap.size w w':=by
  rcases okE_cases c with ⟨_,h1,h2⟩ | ⟨_,h1,h2⟩
  · have HE:=hide h1
    have hpv:=per_vals c h2
    have hpb:=per_bounds c h2
    by_cases hp:1≤p∧p≤perV c
    · have H1:=hide (show qV c p=(4*p+perV c-1) / perV c by simp [qV,qOkB,h2,hp.1,hp.2])
      have H2:=hide (show qE c p=0 by simp [qE,qOkB,h2,hp.1,hp.2])
      have hqb:=q_bd hpv hp
      have HQS:=hide (fun q hq=>q_step (q:=q) hpv hp hq)
      obtain ⟨n,hnn⟩:∃ n,perV c=n:=⟨_,rfl⟩
      have HN:=hide hnn
      rw [hnn] at hp H1 hqb HQS hpb
      obtain ⟨Q,hQ⟩:∃ Q,(4*p+n-1) / n=Q:=⟨_,rfl⟩
      rw [hQ] at H1 hqb HQS
      obtain ⟨hp1,hp2⟩:=hp
      clear h1 h2 hnn hQ hpv
      simp only [calV]
      go_enter Tryz.func102,Tryz.ntmps102
      go_wp2_with fail
      refine (r11per_any c _ hn).mono ?_
      rintro e w1 ⟨rfl,hb1⟩
      rw [HE.out,HN.out]
      have hz1:w.heap.size<w1.heap.size:=by have:=hb1.size;simp at this;omega
      have HB1:Hid (Below w.heap.size w w1):=ww hb1
      have HQ1:=hide (calAt_below hb1 (by simp) (calAt_new w c))
      obtain ⟨q0,q1,q2,q3,q4,q5,q6,q7,q8,q9,q10,q11,q12,q13⟩:=HQ1.out
      clear hb1
      have hBel:=HB1.out
      go_wp2_with fail
      all_goals first
        | (exfalso;omega)
        | skip
      go_loop [8] (fun s=>∃ q:Int,s=.int .i64 q∧1≤q∧q≤Q) (fun s=>(10-intOf s).toNat)
      case atStart=>exact ⟨1,rfl,by omega,by omega⟩
      case round =>
        obtain ⟨q,rfl,hq1,hq2⟩:=hrel
        have hs:=HQS.out q ⟨hq1,by omega⟩
        have hnq:0≤n*q:=Int.mul_nonneg (by omega) (by omega)
        have hnq2:n*q≤52*4:=Int.mul_le_mul (by omega) (by omega) (by omega) (by omega)
        have htd:(n*q).tdiv 4=n*q / 4:=Int.tdiv_eq_ediv_of_nonneg hnq
        obtain ⟨X,hX⟩:∃ X,n*q=X:=⟨_,rfl⟩
        by_cases hlt:q<Q
        · have h3:=hs.2 hlt
          rw [hX] at h3 hnq hnq2 htd
          have hXw:IntKind.i64.wrap (n*q)=X:=by rw [hX];simp [IntKind.wrap,IntKind.bits,IntKind.signed];omega
          clear hs
          go_wp2
          all_goals first
            | (exfalso;omega)
            | skip
          go_round
          case rel=>exact ⟨q+1,rfl,by omega,by omega⟩
          case measure=>simp [intOf];omega
        · obtain rfl:q=Q:=by omega
          have h3:¬ n*q / 4<p:=fun h=>absurd (hs.1 h) (by omega)
          rw [hX] at h3 hnq hnq2 htd
          have hXw:IntKind.i64.wrap (n*q)=X:=by rw [hX];simp [IntKind.wrap,IntKind.bits,IntKind.signed];omega
          clear hs
          go_wp2
          all_goals first
            | (exfalso;omega)
            | (go_ret2;exact ⟨ret_int2 H1.out.symm H2.out.symm,by (repeat' exact bel)⟩)
    · have hq:qOkB c p=false:=by simp [qOkB,h2];omega
      have H1:=hide (show qV c p=0 by simp [qV,hq])
      have H2:=hide (show qE c p=1 by simp [qE,hq])
      obtain ⟨n,hnn⟩:∃ n,perV c=n:=⟨_,rfl⟩
      have HN:=hide hnn
      rw [hnn] at hp
      clear h1 h2 hnn hpv hpb hq
      simp only [calV]
      rcases (show p<1∨(1≤p∧n<p) by omega) with g | ⟨g,g2⟩
      all_goals
        go_enter Tryz.func102,Tryz.ntmps102
        go_wp2_with fail
        refine (r11per_any c _ hn).mono ?_
        rintro e w1 ⟨rfl,hb1⟩
        rw [HE.out,HN.out]
        have hz1:w.heap.size<w1.heap.size:=by have:=hb1.size;simp at this;omega
        have HB1:Hid (Below w.heap.size w w1):=ww hb1
        have HQ1:=hide (calAt_below hb1 (by simp) (calAt_new w c))
        obtain ⟨q0,q1,q2,q3,q4,q5,q6,q7,q8,q9,q10,q11,q12,q13⟩:=HQ1.out
        clear hb1
        have hBel:=HB1.out
        go_wp2
        all_goals first
          | (exfalso;omega)
          | (go_ret2;exact ⟨ret_int2 H1.out.symm H2.out.symm,by (repeat' exact bel)⟩)
  · have HE:=hide h1
    have hq:qOkB c p=false:=by simp [qOkB,h2]
    have H1:=hide (show qV c p=0 by simp [qV,hq])
    have H2:=hide (show qE c p=1 by simp [qE,hq])
    have HP:=hide (show perV c=0 by simp [perV,h2])
    clear h1 h2 hq
    simp only [calV]
    go_enter Tryz.func102,Tryz.ntmps102
    go_wp2_with fail
    refine (r11per_any c _ hn).mono ?_
    rintro e w1 ⟨rfl,hb1⟩
    rw [HE.out,HP.out]
    have hz1:w.heap.size<w1.heap.size:=by have:=hb1.size;simp at this;omega
    have HB1:Hid (Below w.heap.size w w1):=ww hb1
    have HQ1:=hide (calAt_below hb1 (by simp) (calAt_new w c))
    obtain ⟨q0,q1,q2,q3,q4,q5,q6,q7,q8,q9,q10,q11,q12,q13⟩:=HQ1.out
    clear hb1
    have hBel:=HB1.out
    go_wp2
    go_ret2
    exact ⟨ret_int2 H1.out.symm H2.out.symm,by (repeat' exact bel)⟩
theorem ask_val (c:Cal) (y a:Int):(okE c=1∧askE c y a=1)∨(okE c=0∧(y<a∨(a≤y∧9997<y))∧askE c y a=11)∨(okE c=0∧a≤y∧y≤9997∧askE c y a=0):=by
  rcases okE_cases c with ⟨_,h1,h2⟩ | ⟨_,h1,h2⟩
  · by_cases hy:a≤y∧y≤9997
    · exact .inr (.inr ⟨h1,hy.1,hy.2,by rw [askE,if_pos h2,if_pos hy]⟩)
    · exact .inr (.inl ⟨h1,by omega,by rw [askE,if_pos h2,if_neg hy]⟩)
  · exact .inl ⟨h1,by simp [askE,h2]⟩
theorem r13told_any (c:Cal) (y:Int) (w:World) (hn:c.name.size≤1000) :
    Calls Tryz.prog 118 #[calV c,.int .i64 y] w fun e w'=>e=.returned (.int .i64 (askE c y 1601))∧Below w.heap.size w w':=by
  rcases ask_val c y 1601 with ⟨h1,h2⟩ | ⟨h1,h3,h2⟩ | ⟨h1,h3,h4,h2⟩
  · have HE:=hide h1
    have HA:=hide h2
    clear h1 h2
    simp only [calV]
    go_enter Tryz.func118,Tryz.ntmps118
    go_wp2_with fail
    refine (r11check_any c _ hn).mono ?_
    rintro e w1 ⟨rfl,hb1⟩
    rw [HE.out]
    have hz1:w.heap.size<w1.heap.size:=by have:=hb1.size;simp at this;omega
    have HB1:Hid (Below w.heap.size w w1):=ww hb1
    have HQ1:=hide (calAt_below hb1 (by simp) (calAt_new w c))
    obtain ⟨q0,q1,q2,q3,q4,q5,q6,q7,q8,q9,q10,q11,q12,q13⟩:=HQ1.out
    clear hb1
    have hBel:=HB1.out
    go_wp2
    go_ret
    exact ⟨ret_int HA.out.symm,by (repeat' exact bel)⟩
  · have HE:=hide h1
    have HA:=hide h2
    clear h1 h2
    simp only [calV]
    rcases h3 with h3 | ⟨h3,h4⟩
    all_goals
      go_enter Tryz.func118,Tryz.ntmps118
      go_wp2_with fail
      refine (r11check_any c _ hn).mono ?_
      rintro e w1 ⟨rfl,hb1⟩
      rw [HE.out]
      have hz1:w.heap.size<w1.heap.size:=by have:=hb1.size;simp at this;omega
      have HB1:Hid (Below w.heap.size w w1):=ww hb1
      have HQ1:=hide (calAt_below hb1 (by simp) (calAt_new w c))
      obtain ⟨q0,q1,q2,q3,q4,q5,q6,q7,q8,q9,q10,q11,q12,q13⟩:=HQ1.out
      clear hb1
      have hBel:=HB1.out
      go_wp2
      all_goals first
        | (exfalso;omega)
        | (go_ret;exact ⟨ret_int HA.out.symm,by (repeat' exact bel)⟩)
  · have HE:=hide h1
    have HA:=hide h2
    clear h1 h2
    simp only [calV]
    go_enter Tryz.func118,Tryz.ntmps118
    go_wp2_with fail
    refine (r11check_any c _ hn).mono ?_
    rintro e w1 ⟨rfl,hb1⟩
    rw [HE.out]
    have hz1:w.heap.size<w1.heap.size:=by have:=hb1.size;simp at this;omega
    have HB1:Hid (Below w.heap.size w w1):=ww hb1
    have HQ1:=hide (calAt_below hb1 (by simp) (calAt_new w c))
    obtain ⟨q0,q1,q2,q3,q4,q5,q6,q7,q8,q9,q10,q11,q12,q13⟩:=HQ1.out
    clear hb1
    have hBel:=HB1.out
    go_wp2
    all_goals first
      | (exfalso;omega)
      | (go_ret;exact ⟨ret_int HA.out.symm,by (repeat' exact bel)⟩)
theorem r13end_no (c:Cal) (y:Int) (w:World) (hn:c.name.size≤1000) (hE:¬ askE c y 1600=0) :
    Calls Tryz.prog 71 #[calV c,.int .i64 y] w fun e w'=>e=.returned (.tuple #[.int .i64 (endV c y),.int .i64 (askE c y 1600)])∧Below w.heap.size w w':=by
  have HV:=hide (show endV c y=0 by rw [endV,if_neg hE])
  rcases ask_val c y 1600 with ⟨h1,h2⟩ | ⟨h1,h3,h2⟩ | ⟨h1,h3,h4,h2⟩
  · have HE:=hide h1
    have HA:=hide h2
    clear h1 h2 hE
    simp only [calV]
    go_enter Tryz.func71,Tryz.ntmps71
    go_wp2_with fail
    refine (r11check_any c _ hn).mono ?_
    rintro e w1 ⟨rfl,hb1⟩
    rw [HE.out]
    have hz1:w.heap.size<w1.heap.size:=by have:=hb1.size;simp at this;omega
    have HB1:Hid (Below w.heap.size w w1):=ww hb1
    have HQ1:=hide (calAt_below hb1 (by simp) (calAt_new w c))
    obtain ⟨q0,q1,q2,q3,q4,q5,q6,q7,q8,q9,q10,q11,q12,q13⟩:=HQ1.out
    clear hb1
    have hBel:=HB1.out
    go_wp2
    go_ret2
    exact ⟨ret_int2 HV.out.symm HA.out.symm,by (repeat' exact bel)⟩
  · have HE:=hide h1
    have HA:=hide h2
    clear h1 h2 hE
    simp only [calV]
    rcases h3 with h3 | ⟨h3,h4⟩
    all_goals
      go_enter Tryz.func71,Tryz.ntmps71
      go_wp2_with fail
      refine (r11check_any c _ hn).mono ?_
      rintro e w1 ⟨rfl,hb1⟩
      rw [HE.out]
      have hz1:w.heap.size<w1.heap.size:=by have:=hb1.size;simp at this;omega
      have HB1:Hid (Below w.heap.size w w1):=ww hb1
      have HQ1:=hide (calAt_below hb1 (by simp) (calAt_new w c))
      obtain ⟨q0,q1,q2,q3,q4,q5,q6,q7,q8,q9,q10,q11,q12,q13⟩:=HQ1.out
      clear hb1
      have hBel:=HB1.out
      go_wp2_with fail
      all_goals first
        | (exfalso;omega)
        | (go_ret2;exact ⟨ret_int2 HV.out.symm HA.out.symm,by (repeat' exact bel)⟩)
  · exact absurd h2 hE
theorem r13end_yes (c:Cal) (y:Int) (w:World) (hn:c.name.size≤1000) (hE:askE c y 1600=0) :
    Calls Tryz.prog 71 #[calV c,.int .i64 y] w fun e w'=>e=.returned (.tuple #[.int .i64 (endV c y),.int .i64 (askE c y 1600)])∧Below w.heap.size w w':=by
  obtain ⟨hok,hy1,hy2⟩:=ask_ok hE
  obtain ⟨hm,hs,hk,hd⟩:=ok_rule hok
  have ht:thereB (y+c.shift) c.month=true:=by simp [thereB];omega
  have HE:=hide (okE_yes hok)
  have HV:=hide (show endV c y=finV c (y+c.shift) by simp [endV,hE])
  have HA:=hide hE
  obtain ⟨F,hF⟩:∃ F,finV c (y+c.shift)=F:=⟨_,rfl⟩
  rw [hF] at HV
  by_cases k14:c.kind=1∨c.kind=4
  · have hwk:wkE (y+c.shift) c.month c.day=0:=by simp [wkE,ht];omega
    have HL:=hide (And.intro (show lastV (y+c.shift) c.month c.day=F by rw [← hF];simp [lastV,hwk,finV,k14]) hwk)
    have hkb:((c.kind==1)=true)∨((c.kind==1)=false∧(c.kind==4)=true):=by rcases k14 with h | h <;> simp [h]
    clear hok hE ht hF hwk k14 hd hm hk
    simp only [calV]
    rcases hkb with k1 | ⟨k1,k2⟩
    all_goals
      go_enter Tryz.func71,Tryz.ntmps71
      go_wp2_with fail
      refine (r11check_any c _ hn).mono ?_
      rintro e w1 ⟨rfl,hb1⟩
      rw [HE.out]
      have hz1:w.heap.size<w1.heap.size:=by have:=hb1.size;simp at this;omega
      have HB1:Hid (Below w.heap.size w w1):=ww hb1
      have HQ1:=hide (calAt_below hb1 (by simp) (calAt_new w c))
      obtain ⟨q0,q1,q2,q3,q4,q5,q6,q7,q8,q9,q10,q11,q12,q13⟩:=HQ1.out
      clear hb1
      go_wp2_with fail
      all_goals first
        | (exfalso;omega)
        | skip
      refine (r06last_any (y+c.shift) c.month c.day _).mono ?_
      rintro e w2 ⟨rfl,hb2⟩
      rw [HL.out.1,HL.out.2]
      have hz2:w.heap.size<w2.heap.size:=by have:=hb2.size;(try simp at this);omega
      have HB2:Hid (Below w.heap.size w w2):=by have hp:=HB1.out;exact ww hb2
      have HQ2:Hid (CalAt w2 w.heap.size c):=by have hp:=HQ1.out;exact qq hb2
      clear q0 q1 q2 q3 q4 q5 q6 q7 q8 q9 q10 q11 q12 q13
      obtain ⟨q0,q1,q2,q3,q4,q5,q6,q7,q8,q9,q10,q11,q12,q13⟩:=HQ2.out
      clear hb2
      have hBel:=HB2.out
      go_wp2
      go_ret2
      exact ⟨ret_int2 HV.out.symm HA.out.symm,by (repeat' exact bel)⟩
  · by_cases k6:c.kind=6
    · have hld:dateB (y+c.shift) c.month (lenV (y+c.shift) c.month)=true:=end_date _ _ ht
      have HL:=hide (And.intro (show dayV (y+c.shift) c.month (lenV (y+c.shift) c.month)=F by rw [← hF,finV,if_neg k14,if_pos k6,dayV,if_pos hld];rfl) (show dateE (y+c.shift) c.month (lenV (y+c.shift) c.month)=0 by rw [dateE,if_pos hld]))
      have k1:(c.kind==1)=false:=by simp;omega
      have k2:(c.kind==4)=false:=by simp;omega
      have k3:(c.kind==6)=true:=by simp [k6]
      obtain ⟨L,hL⟩:∃ L,lenV (y+c.shift) c.month=L:=⟨_,rfl⟩
      rw [hL] at HL
      have HLL:=hide (And.intro hL (show lenE (y+c.shift) c.month=0 by simp [lenE,ht]))
      clear hok hE ht hF k14 hd hm hk k6 hld hL
      simp only [calV]
      go_enter Tryz.func71,Tryz.ntmps71
      go_wp2_with fail
      refine (r11check_any c _ hn).mono ?_
      rintro e w1 ⟨rfl,hb1⟩
      rw [HE.out]
      have hz1:w.heap.size<w1.heap.size:=by have:=hb1.size;simp at this;omega
      have HB1:Hid (Below w.heap.size w w1):=ww hb1
      have HQ1:=hide (calAt_below hb1 (by simp) (calAt_new w c))
      obtain ⟨q0,q1,q2,q3,q4,q5,q6,q7,q8,q9,q10,q11,q12,q13⟩:=HQ1.out
      clear hb1
      go_wp2_with fail
      all_goals first
        | (exfalso;omega)
        | skip
      refine (rlength_any (y+c.shift) c.month _).mono ?_
      rintro e w2 ⟨rfl,rfl⟩
      rw [HLL.out.1,HLL.out.2]
      go_wp2_with fail
      refine (rday_any (y+c.shift) c.month L _).mono ?_
      rintro e w2 ⟨rfl,hb2⟩
      rw [HL.out.1,HL.out.2]
      have hz2:w.heap.size<w2.heap.size:=by have:=hb2.size;(try simp at this);omega
      have HB2:Hid (Below w.heap.size w w2):=by have hp:=HB1.out;exact ww hb2
      have HQ2:Hid (CalAt w2 w.heap.size c):=by have hp:=HQ1.out;exact qq hb2
      clear q0 q1 q2 q3 q4 q5 q6 q7 q8 q9 q10 q11 q12 q13
      obtain ⟨q0,q1,q2,q3,q4,q5,q6,q7,q8,q9,q10,q11,q12,q13⟩:=HQ2.out
      clear hb2
      have hBel:=HB2.out
      go_wp2
      go_ret2
      exact ⟨ret_int2 HV.out.symm HA.out.symm,by (repeat' exact bel)⟩
    · have hwk:wkE (y+c.shift) c.month c.day=0:=by simp [wkE,ht];omega
      have hlo:=end_lo _ _ ht
      have hhi:=end_hi _ _ ht (by omega)
      have hnd:-3≤nearD (y+c.shift) c.month c.day∧nearD (y+c.shift) c.month c.day≤3:=by unfold nearD;omega
      have hadd:addB (endN (y+c.shift) c.month) (nearD (y+c.shift) c.month c.day)=true:=by simp [addB,isB];omega
      have HL:=hide (And.intro (show nearV (y+c.shift) c.month c.day=F by rw [← hF,finV,if_neg k14,if_neg k6,nearV,if_pos hwk,addV,if_pos hadd]) (show nearE (y+c.shift) c.month c.day=0 by rw [nearE,if_pos hwk,addE,if_pos hadd]))
      have k1:(c.kind==1)=false:=by simp;omega
      have k2:(c.kind==4)=false:=by simp;omega
      have k3:(c.kind==6)=false:=by simp;omega
      clear hok hE ht hF k14 hd hm hk k6 hwk hlo hhi hnd hadd
      simp only [calV]
      go_enter Tryz.func71,Tryz.ntmps71
      go_wp2_with fail
      refine (r11check_any c _ hn).mono ?_
      rintro e w1 ⟨rfl,hb1⟩
      rw [HE.out]
      have hz1:w.heap.size<w1.heap.size:=by have:=hb1.size;simp at this;omega
      have HB1:Hid (Below w.heap.size w w1):=ww hb1
      have HQ1:=hide (calAt_below hb1 (by simp) (calAt_new w c))
      obtain ⟨q0,q1,q2,q3,q4,q5,q6,q7,q8,q9,q10,q11,q12,q13⟩:=HQ1.out
      clear hb1
      go_wp2_with fail
      all_goals first
        | (exfalso;omega)
        | skip
      refine (r06near_any (y+c.shift) c.month c.day _).mono ?_
      rintro e w2 ⟨rfl,hb2⟩
      rw [HL.out.1,HL.out.2]
      have hz2:w.heap.size<w2.heap.size:=by have:=hb2.size;(try simp at this);omega
      have HB2:Hid (Below w.heap.size w w2):=by have hp:=HB1.out;exact ww hb2
      have HQ2:Hid (CalAt w2 w.heap.size c):=by have hp:=HQ1.out;exact qq hb2
      clear q0 q1 q2 q3 q4 q5 q6 q7 q8 q9 q10 q11 q12 q13
      obtain ⟨q0,q1,q2,q3,q4,q5,q6,q7,q8,q9,q10,q11,q12,q13⟩:=HQ2.out
      clear hb2
      have hBel:=HB2.out
      go_wp2
      go_ret2
      exact ⟨ret_int2 HV.out.symm HA.out.symm,by (repeat' exact bel)⟩
theorem r13end_any (c:Cal) (y:Int) (w:World) (hn:c.name.size≤1000) :
    Calls Tryz.prog 71 #[calV c,.int .i64 y] w fun e w'=>e=.returned (.tuple #[.int .i64 (endV c y),.int .i64 (askE c y 1600)])∧Below w.heap.size w w':=by
  by_cases hE:askE c y 1600=0
  · exact r13end_yes c y w hn hE
  · exact r13end_no c y w hn hE
theorem start_end {c:Cal} {y:Int} (h:askE c y 1601=0):askE c (y-1) 1600=0∧endV c (y-1)+1=startV c y:=by
  obtain ⟨hok,h1,h2⟩:=ask_ok h
  have hk:c.okB=true:=by simpa [Cal.okB] using hok
  have h0:askE c (y-1) 1600=0:=by rw [askE,if_pos hk,if_pos ⟨by omega,by omega⟩]
  exact ⟨h0,by rw [endV,if_pos h0,startV,if_pos h]⟩
theorem r13start_any (c:Cal) (y:Int) (w:World) (hn:c.name.size≤1000) :
    Calls Tryz.prog 70 #[calV c,.int .i64 y] w fun e w'=>e=.returned (.tuple #[.int .i64 (startV c y),.int .i64 (askE c y 1601)])∧Below w.heap.size w w':=by
  by_cases hE:askE c y 1601=0
  · obtain ⟨_,hy1,hy2⟩:=ask_ok hE
    obtain ⟨s1,s2⟩:=start_end hE
    have hb:=year_bd c y hE
    have HA:=hide hE
    obtain ⟨S,hS⟩:∃ S,startV c y=S:=⟨_,rfl⟩
    rw [hS] at s2 hb
    have HS:=hide (And.intro hS (And.intro (show endV c (y-1)=S-1 by omega) s1))
    have hb1':0≤S∧S≤3068037:=⟨hb.1,hb.2.1⟩
    clear hE hS s1 s2 hb
    simp only [calV]
    go_enter Tryz.func70,Tryz.ntmps70
    go_wp2_with fail
    refine (r13told_any c y _ hn).mono ?_
    rintro e w1 ⟨rfl,hb1⟩
    rw [HA.out]
    have hz1:w.heap.size<w1.heap.size:=by have:=hb1.size;simp at this;omega
    have HB1:Hid (Below w.heap.size w w1):=ww hb1
    have HQ1:=hide (calAt_below hb1 (by simp) (calAt_new w c))
    obtain ⟨q0,q1,q2,q3,q4,q5,q6,q7,q8,q9,q10,q11,q12,q13⟩:=HQ1.out
    clear hb1
    go_wp2_with fail
    refine (r13end_any c (y-1) _ hn).mono ?_
    rintro e w2 ⟨rfl,hb2⟩
    rw [HS.out.2.1,HS.out.2.2]
    have hz2:w.heap.size<w2.heap.size:=by have:=hb2.size;(try simp at this);omega
    have HB2:Hid (Below w.heap.size w w2):=by have hp:=HB1.out;exact ww hb2
    have HQ2:Hid (CalAt w2 w.heap.size c):=by have hp:=HQ1.out;exact qq hb2
    clear q0 q1 q2 q3 q4 q5 q6 q7 q8 q9 q10 q11 q12 q13
    obtain ⟨q0,q1,q2,q3,q4,q5,q6,q7,q8,q9,q10,q11,q12,q13⟩:=HQ2.out
    clear hb2
    have hBel:=HB2.out
    go_wp2
    go_ret2
    exact ⟨ret_int2 (by (rw [HS.out.1]) <;> omega) HA.out.symm,by (repeat' exact bel)⟩
  · have HA:=hide (show (askE c y 1601 != 0)=true by simpa using hE)
    have HV:=hide (show startV c y=0 by rw [startV,if_neg hE])
    obtain ⟨E,hEE⟩:∃ E,askE c y 1601=E:=⟨_,rfl⟩
    have HE:=hide hEE
    rw [hEE] at hE
    have hEb:(E != 0)=true:=by simpa using hE
    clear hE hEE HA
    simp only [calV]
    go_enter Tryz.func70,Tryz.ntmps70
    go_wp2_with fail
    refine (r13told_any c y _ hn).mono ?_
    rintro e w1 ⟨rfl,hb1⟩
    rw [HE.out]
    have hz1:w.heap.size<w1.heap.size:=by have:=hb1.size;simp at this;omega
    have HB1:Hid (Below w.heap.size w w1):=ww hb1
    have HQ1:=hide (calAt_below hb1 (by simp) (calAt_new w c))
    obtain ⟨q0,q1,q2,q3,q4,q5,q6,q7,q8,q9,q10,q11,q12,q13⟩:=HQ1.out
    clear hb1
    have hBel:=HB1.out
    go_wp2
    go_ret2
    exact ⟨ret_int2 HV.out.symm HE.out.symm,by (repeat' exact bel)⟩
theorem r13days_any (c:Cal) (y:Int) (w:World) (hn:c.name.size≤1000) :
    Calls Tryz.prog 196 #[calV c,.int .i64 y] w fun e w'=>e=.returned (.tuple #[.int .i64 (daysV c y),.int .i64 (askE c y 1601)])∧Below w.heap.size w w':=by
  by_cases hE:askE c y 1601=0
  · obtain ⟨_,hy1,hy2⟩:=ask_ok hE
    obtain ⟨s1,s2⟩:=start_end hE
    have hb:=year_bd c y hE
    have HA:=hide hE
    have hm:=ask_mono hE
    have hdd:daysV c y=endV c y-startV c y+1:=by rw [daysV,if_pos hE]
    obtain ⟨S,hS⟩:∃ S,startV c y=S:=⟨_,rfl⟩
    obtain ⟨T,hT⟩:∃ S,endV c y=S:=⟨_,rfl⟩
    rw [hS] at s2 hb hdd
    rw [hT] at hb hdd
    have HD:=hide hdd
    have HS:=hide (And.intro (And.intro hT hm) (And.intro (show endV c (y-1)=S-1 by omega) s1))
    have hb1':0≤S∧S≤3068037∧0≤T∧T≤3068037:=⟨hb.1,hb.2.1,hb.2.2.1,hb.2.2.2.1⟩
    clear hE hS s1 s2 hb hdd hT hm
    simp only [calV]
    go_enter Tryz.func196,Tryz.ntmps196
    go_wp2_with fail
    refine (r13told_any c y _ hn).mono ?_
    rintro e w1 ⟨rfl,hb1⟩
    rw [HA.out]
    have hz1:w.heap.size<w1.heap.size:=by have:=hb1.size;simp at this;omega
    have HB1:Hid (Below w.heap.size w w1):=ww hb1
    have HQ1:=hide (calAt_below hb1 (by simp) (calAt_new w c))
    obtain ⟨q0,q1,q2,q3,q4,q5,q6,q7,q8,q9,q10,q11,q12,q13⟩:=HQ1.out
    clear hb1
    go_wp2_with fail
    refine (r13end_any c (y-1) _ hn).mono ?_
    rintro e w2 ⟨rfl,hb2⟩
    rw [HS.out.2.1,HS.out.2.2]
    have hz2:w.heap.size<w2.heap.size:=by have:=hb2.size;(try simp at this);omega
    have HB2:Hid (Below w.heap.size w w2):=by have hp:=HB1.out;exact ww hb2
    have HQ2:Hid (CalAt w2 w.heap.size c):=by have hp:=HQ1.out;exact qq hb2
    clear q0 q1 q2 q3 q4 q5 q6 q7 q8 q9 q10 q11 q12 q13
    obtain ⟨q0,q1,q2,q3,q4,q5,q6,q7,q8,q9,q10,q11,q12,q13⟩:=HQ2.out
    clear hb2
    go_wp2_with fail
    refine (r13end_any c y _ hn).mono ?_
    rintro e w3 ⟨rfl,hb3⟩
    rw [HS.out.1.1,HS.out.1.2]
    have hz3:w.heap.size<w3.heap.size:=by have:=hb3.size;(try simp at this);omega
    have HB3:Hid (Below w.heap.size w w3):=by have hp:=HB2.out;exact ww hb3
    have HQ3:Hid (CalAt w3 w.heap.size c):=by have hp:=HQ2.out;exact qq hb3
    clear q0 q1 q2 q3 q4 q5 q6 q7 q8 q9 q10 q11 q12 q13
    obtain ⟨q0,q1,q2,q3,q4,q5,q6,q7,q8,q9,q10,q11,q12,q13⟩:=HQ3.out
    clear hb3
    have hBel:=HB3.out
    go_wp2
    go_ret2
    exact ⟨ret_int2 (by (rw [HD.out]) <;> omega) HA.out.symm,by (repeat' exact bel)⟩
  · have HV:=hide (show daysV c y=0 by rw [daysV,if_neg hE])
    obtain ⟨E,hEE⟩:∃ E,askE c y 1601=E:=⟨_,rfl⟩
    have HE:=hide hEE
    rw [hEE] at hE
    have hEb:(E != 0)=true:=by simpa using hE
    clear hE hEE
    simp only [calV]
    go_enter Tryz.func196,Tryz.ntmps196
    go_wp2_with fail
    refine (r13told_any c y _ hn).mono ?_
    rintro e w1 ⟨rfl,hb1⟩
    rw [HE.out]
    have hz1:w.heap.size<w1.heap.size:=by have:=hb1.size;simp at this;omega
    have HB1:Hid (Below w.heap.size w w1):=ww hb1
    have HQ1:=hide (calAt_below hb1 (by simp) (calAt_new w c))
    obtain ⟨q0,q1,q2,q3,q4,q5,q6,q7,q8,q9,q10,q11,q12,q13⟩:=HQ1.out
    clear hb1
    have hBel:=HB1.out
    go_wp2
    go_ret2
    exact ⟨ret_int2 HV.out.symm HE.out.symm,by (repeat' exact bel)⟩
theorem r13weeks_any (c:Cal) (y:Int) (w:World) (hn:c.name.size≤1000) :
    Calls Tryz.prog 130 #[calV c,.int .i64 y] w fun e w'=>e=.returned (.tuple #[.int .i64 (wksV c y),.int .i64 (wksE c y)])∧Below w.heap.size w w':=by
  have hnn:=days_nn c y
  rcases okE_cases c with ⟨_,h1,h2⟩ | ⟨_,h1,h2⟩
  · have HE:=hide h1
    by_cases hk:c.kind=6
    · have hkb:(c.kind==6)=true:=by simp [hk]
      have H1:=hide (show wksV c y=0 by simp [wksV,wksB,hk])
      have H2:=hide (show wksE c y=1 by simp [wksE,wksB,hk])
      clear h1 h2 hk
      simp only [calV]
      go_enter Tryz.func130,Tryz.ntmps130
      go_wp2_with fail
      refine (r11check_any c _ hn).mono ?_
      rintro e w1 ⟨rfl,hb1⟩
      rw [HE.out]
      have hz1:w.heap.size<w1.heap.size:=by have:=hb1.size;simp at this;omega
      have HB1:Hid (Below w.heap.size w w1):=ww hb1
      have HQ1:=hide (calAt_below hb1 (by simp) (calAt_new w c))
      obtain ⟨q0,q1,q2,q3,q4,q5,q6,q7,q8,q9,q10,q11,q12,q13⟩:=HQ1.out
      clear hb1
      have hBel:=HB1.out
      go_wp2
      go_ret2
      exact ⟨ret_int2 H1.out.symm H2.out.symm,by (repeat' exact bel)⟩
    · have hkb:(c.kind==6)=false:=by simpa using hk
      have H1:=hide (show wksV c y=daysV c y / 7 by simp [wksV,wksB,hk,h2])
      have H2:=hide (show wksE c y=askE c y 1601 by simp [wksE,wksB,hk,h2])
      obtain ⟨D,hD⟩:∃ D,daysV c y=D:=⟨_,rfl⟩
      obtain ⟨E,hEE⟩:∃ E,askE c y 1601=E:=⟨_,rfl⟩
      rw [hD] at H1 hnn
      rw [hEE] at H2
      have HD:=hide (And.intro hD hEE)
      have htd:D.tdiv 7=D / 7:=Int.tdiv_eq_ediv_of_nonneg hnn.1
      clear h1 h2 hk hD hEE
      simp only [calV]
      go_enter Tryz.func130,Tryz.ntmps130
      go_wp2_with fail
      refine (r11check_any c _ hn).mono ?_
      rintro e w1 ⟨rfl,hb1⟩
      rw [HE.out]
      have hz1:w.heap.size<w1.heap.size:=by have:=hb1.size;simp at this;omega
      have HB1:Hid (Below w.heap.size w w1):=ww hb1
      have HQ1:=hide (calAt_below hb1 (by simp) (calAt_new w c))
      obtain ⟨q0,q1,q2,q3,q4,q5,q6,q7,q8,q9,q10,q11,q12,q13⟩:=HQ1.out
      clear hb1
      go_wp2_with fail
      refine (r13days_any c y _ hn).mono ?_
      rintro e w2 ⟨rfl,hb2⟩
      rw [HD.out.1,HD.out.2]
      have hz2:w.heap.size<w2.heap.size:=by have:=hb2.size;(try simp at this);omega
      have HB2:Hid (Below w.heap.size w w2):=by have hp:=HB1.out;exact ww hb2
      have HQ2:Hid (CalAt w2 w.heap.size c):=by have hp:=HQ1.out;exact qq hb2
      clear q0 q1 q2 q3 q4 q5 q6 q7 q8 q9 q10 q11 q12 q13
      obtain ⟨q0,q1,q2,q3,q4,q5,q6,q7,q8,q9,q10,q11,q12,q13⟩:=HQ2.out
      clear hb2
      have hBel:=HB2.out
      go_wp2
      go_ret2
      exact ⟨ret_int2 (by rw [H1.out]) H2.out.symm,by (repeat' exact bel)⟩
  · have HE:=hide h1
    have H1:=hide (show wksV c y=0 by simp [wksV,wksB,h2])
    have H2:=hide (show wksE c y=1 by simp [wksE,wksB,h2])
    clear h1 h2
    simp only [calV]
    go_enter Tryz.func130,Tryz.ntmps130
    go_wp2_with fail
    refine (r11check_any c _ hn).mono ?_
    rintro e w1 ⟨rfl,hb1⟩
    rw [HE.out]
    have hz1:w.heap.size<w1.heap.size:=by have:=hb1.size;simp at this;omega
    have HB1:Hid (Below w.heap.size w w1):=ww hb1
    have HQ1:=hide (calAt_below hb1 (by simp) (calAt_new w c))
    obtain ⟨q0,q1,q2,q3,q4,q5,q6,q7,q8,q9,q10,q11,q12,q13⟩:=HQ1.out
    clear hb1
    have hBel:=HB1.out
    go_wp2
    go_ret2
    exact ⟨ret_int2 H1.out.symm H2.out.symm,by (repeat' exact bel)⟩
theorem rint_info:(Tryz.prog.info? 3).map (fun i=>(i.zero,i.size,i.bytes))=some (some (.int .i64 0),1,8):=by kernel_rfl
def intsCr (L:List Int):List Value:=L.map (Value.int .i64)
theorem intsC_snoc (L:List Int) (x:Int):intsCr (L++[x])=intsCr L++[.int .i64 x]:=by simp [intsCr]
def IlSt (c:Cal) (B Bo:Nat) (L:List Int) (v:Value) (w0 w:World):Prop:=
  CalAt w B c∧B<Bo∧Bo≤w.heap.size∧(w.ownsRow Bo 3 1 v L.length (intsCr L)∧(v=.slice none 0 0↔L=[]))∧Below B w0 w
theorem rowns_call {w w':World} {base size n:Nat} {e:TypeId} {v:Value} {xs:List Value} (h:w.ownsRow base e size v n xs) (hb:Below w.heap.size w w'):w'.ownsRow base e size v n xs:=by
  refine ⟨h.1,?_⟩
  rcases h.2 with h1 | ⟨g,cap,cur,h1,h2,h3,h4⟩
  · exact .inl h1
  · exact .inr ⟨g,cap,cur,h1,h2,(hb.block g (Array.getElem?_eq_some_iff.1 h3).1).trans h3,h4⟩
theorem IlSt.call {c:Cal} {B Bo:Nat} {L:List Int} {v:Value} {w0 w w':World} (h:IlSt c B Bo L v w0 w) (hb:Below w.heap.size w w'):IlSt c B Bo L v w0 w':=by
  obtain ⟨h1,h2,h3,⟨h4,h5⟩,h6⟩:=h
  exact ⟨calAt_below hb (by omega) h1,h2,Nat.le_trans h3 hb.size,⟨rowns_call h4 hb,h5⟩,h6.trans (hb.mono (by omega))⟩
theorem IlSt.grow {c:Cal} {B Bo:Nat} {L:List Int} {x:Int} {v v':Value} {w0 W w':World} (h:IlSt c B Bo L v w0 W) (o:Obj)
    (ho:w'.ownsRow Bo 3 1 v' (L.length+1) (intsCr L++[.int .i64 x])) (hgrow:(W.alloc o).grownBy w' v.ownBlock):IlSt c B Bo (L++[x]) v' w0 w':=by
  obtain ⟨h1,h2,h3,⟨h4,h5⟩,h6⟩:=h
  have hb:Below Bo W w':=((Below.refl Bo W).alloc h3 o).grown hgrow (by simp;omega) (fun k hk=>by have:=(h4.lt k hk).1;omega)
  obtain ⟨g3,cap3,rfl,_⟩:=owns_slice ho (by omega)
  have hs:W.heap.size≤w'.heap.size:=by have:=hgrow.size;simp at this;omega
  refine ⟨calAt_below hb h2 h1,h2,by omega,⟨?_,by simp⟩,h6.trans (hb.mono (by omega))⟩
  rw [intsC_snoc]
  simpa using ho
theorem rowns_base {w:World} {b b' size n:Nat} {e:TypeId} {v:Value} {xs:List Value} (h:w.ownsRow b e size v n xs) (hb:b'≤b):w.ownsRow b' e size v n xs:=by
  refine ⟨h.1,?_⟩
  rcases h.2 with h1 | ⟨g,cap,cur,h1,h2,h3⟩
  · exact .inl h1
  · exact .inr ⟨g,cap,cur,h1,Nat.le_trans hb h2,h3⟩
def IntsV (w:World) (v:Value) (L:List Int):Prop:=∃ g cap,v=.slice (some ⟨g,0,none⟩) L.length cap∧w.ownsRow 0 3 1 v L.length (intsCr L)
theorem IlSt.ints {c:Cal} {B Bo:Nat} {L:List Int} {v:Value} {w0 w:World} (h:IlSt c B Bo L v w0 w) (h0:0<L.length):IntsV w v L:=by
  obtain ⟨g,cap,rfl,_⟩:=owns_slice h.2.2.2.1.1 h0
  exact ⟨g,cap,rfl,rowns_base h.2.2.2.1.1 (Nat.zero_le _)⟩
def REndsPost (c:Cal) (y:Int) (w:World) (e:Ending) (w':World):Prop:=∃ v,e=.returned (.tuple #[v,.int .i64 0])∧IntsV w' v (endsL c y)∧Below w.heap.size w w'
theorem r15told_any (c:Cal) (y:Int) (w:World) (hn:c.name.size≤1000) :
    Calls Tryz.prog 164 #[calV c,.int .i64 y] w fun e w'=>e=.returned (.int .i64 (askE c y 1601))∧Below w.heap.size w w':=by
  simp only [calV]
  go_enter Tryz.func164,Tryz.ntmps164
  go_wp2_with fail
  refine (r13start_any c y _ hn).mono ?_
  rintro e w1 ⟨rfl,hb1⟩
  have hz1:w.heap.size<w1.heap.size:=by have:=hb1.size;simp at this;omega
  have HB1:Hid (Below w.heap.size w w1):=ww hb1
  have HQ1:=hide (calAt_below hb1 (by simp) (calAt_new w c))
  obtain ⟨q0,q1,q2,q3,q4,q5,q6,q7,q8,q9,q10,q11,q12,q13⟩:=HQ1.out
  clear hb1
  have hBel:=HB1.out
  go_wp2
  go_ret
  exact ⟨rfl,by (repeat' exact bel)⟩
theorem r15ends_broad (c:Cal) (y:Int) (w:World) (hn:c.name.size≤1000) (hE:askE c y 1601=0) (h4:c.shape=4) :
    Calls Tryz.prog 101 #[calV c,.int .i64 y] w (REndsPost c y w):=by
  obtain ⟨_,hy1,hy2⟩:=ask_ok hE
  have HE:=hide hE
  have h4b:(c.shape==4)=true:=by simp [h4]
  have HL:=hide (show endsL c y=upto (sunF y) 12 by rw [endsL,if_pos h4];rfl)
  have HK:=hide (fun (i:Nat) (hi:i<12)=>(show wkE y ((i:Int)+1) 7=0∧lastV y ((i:Int)+1) 7=sunF y i from by
    have ht:thereB y ((i:Int)+1)=true:=by simp [thereB];omega
    exact ⟨by simp [wkE,ht],rfl⟩))
  obtain ⟨i0,hi,hi0,hi1,hi2⟩:=info_parts rint_info
  clear hE h4
  simp only [calV]
  go_enter Tryz.func101,Tryz.ntmps101
  go_wp2_with fail
  refine (r15told_any c y _ hn).mono ?_
  rintro e w1 ⟨rfl,hb1⟩
  rw [HE.out]
  have hz1:w.heap.size<w1.heap.size:=by have:=hb1.size;simp at this;omega
  have HB1:Hid (Below w.heap.size w w1):=ww hb1
  have HQ1:=hide (calAt_below hb1 (by simp) (calAt_new w c))
  obtain ⟨q0,q1,q2,q3,q4,q5,q6,q7,q8,q9,q10,q11,q12,q13⟩:=HQ1.out
  clear hb1
  have HS1:=hide (show IlSt c w.heap.size w1.heap.size [] (.slice none 0 0) w w1 from ⟨HQ1.out,hz1,Nat.le_refl _,⟨World.ownsRow_nil _ _ _ _,by simp⟩,HB1.out⟩)
  go_wp2_with fail
  go_loopw [7,8] (fun s7 s8 wr=>∃ k:Nat,s8=.int .i64 ((k:Int)+1)∧k≤12∧IlSt c w.heap.size w1.heap.size (upto (sunF y) k) s7 w wr) (fun _ s8 _=>(20-intOf s8).toNat)
  case atStart=>exact ⟨0,rfl,by omega,HS1.out⟩
  case round =>
    obtain ⟨k,rfl,hk,hS⟩:=hrel
    have HS:=hide hS
    clear hS
    clear q0 q1 q2 q3 q4 q5 q6 q7 q8 q9 q10 q11 q12 q13
    by_cases hlt:k<12
    · obtain ⟨e1,e2⟩:=HK.out k hlt
      have HKK:=hide (And.intro e1 e2)
      have HSN:=hide (upto_succ (sunF y) k)
      have hul:(upto (sunF y) k).length=k:=upto_length _ _
      obtain ⟨X,hX⟩:∃ X,sunF y k=X:=⟨_,rfl⟩
      rw [hX] at HKK HSN
      obtain ⟨U,hU⟩:∃ U,upto (sunF y) k=U:=⟨_,rfl⟩
      rw [hU] at HS HSN hul
      clear e1 e2 hX hU
      go_wp2_with fail
      all_goals first
        | (exfalso;omega)
        | skip
      refine (r06last_any y ((k:Int)+1) 7 _).mono ?_
      rintro e w2 ⟨rfl,hb2⟩
      rw [HKK.out.1,HKK.out.2]
      have HS2:=hide (HS.out.call hb2)
      have hs2:w1.heap.size≤w2.heap.size:=HS2.out.2.2.1
      clear hb2
      go_wp2_with ((at_builtin;refine wpList_append_own _ rfl _ _ 94 rfl w1.heap.size 3 i0 (.int .i64 0) 1 8 Tryz.underlying94 hi hi0 hi1 hi2 rfl (by decide) _ _ _ rfl (HS2.out.2.2.2.1.1.alloc _) ⟨w2.heap.size,0,none⟩ 1 1 [.int .i64 (X)] rfl rfl ?c1a ?c2a ?c3a ?c4a ?c5a ?_))
      case c1a =>
        intro i u hu
        match i,hu with
        | 0,hu=>simp at hu;subst hu;simp [Addr.add]
        | i+1,hu=>simp at hu
      case c2a=>intro u hu;simp at hu;subst hu;rfl
      case c3a=>unfold maxLen;omega
      case c4a=>omega
      case c5a=>simp;omega
      · intro v' w' hown' hgrow _
        have HG:=hide (HS2.out.grow (x:=X) _ (by rw [hul];exact hown') hgrow)
        clear hown' hgrow
        go_wp2
        go_roundw
        case rel=>exact ⟨k+1,by go_num,by omega,by rw [HSN.out];exact HG.out⟩
        case measure=>simp [intOf];omega
    · obtain rfl:k=12:=by omega
      have HI:=hide (HS.out.ints (by rw [upto_length];omega))
      have hBel:=HS.out.2.2.2.2
      obtain ⟨U,hU⟩:∃ U,upto (sunF y) 12=U:=⟨_,rfl⟩
      have HU:=hide hU
      rw [hU] at HI
      clear hU
      go_wp2
      all_goals first
        | (exfalso;omega)
        | (go_ret2;exact ⟨_,rfl,by rw [HL.out,HU.out];exact HI.out,by (repeat' exact bel)⟩)
theorem r15ends_month (c:Cal) (y:Int) (w:World) (hn:c.name.size≤1000) (hE:askE c y 1601=0) (h5:c.shape=5) :
    Calls Tryz.prog 101 #[calV c,.int .i64 y] w (REndsPost c y w):=by
  obtain ⟨hok,hy1,hy2⟩:=ask_ok hE
  have hk6:c.kind=6:=(ok_shape hok).2.1.2 h5
  have HE:=hide hE
  have h4b:(c.shape==4)=false:=by simp [h5]
  have h5b:(c.shape==5)=true:=by simp [h5]
  have hL:endsL c y=upto (monF (startV c y)) 12:=by rw [endsL,if_neg (by omega),if_pos h5];rfl
  have hst:=start_mFirst c y hE hk6
  have hmo:19200≤mOf c y∧mOf c y+13<120000:=by
    obtain ⟨hm,hs,_,_⟩:=ok_rule hok
    unfold mOf;omega
  have HM:=hide (fun (k:Nat) (hk:k<12)=>(show isB (monS (startV c y) k)=true∧lenE (ofY (monS (startV c y) k)) (ofM (monS (startV c y) k))=0∧monS (startV c y) (k+1)=monS (startV c y) k+lenV (ofY (monS (startV c y) k)) (ofM (monS (startV c y) k)) from by
    have e:=monS_mFirst (mOf c y) hmo.1 k (by omega)
    rw [hst]
    refine ⟨?_,?_,rfl⟩
    · rw [e];exact dayN_bd (mFirst_date _ (by omega) (by omega))
    · rw [e,(of_mFirst _ (by omega) (by omega)).1,(of_mFirst _ (by omega) (by omega)).2,lenE,if_pos (mFirst_there _ (by omega) (by omega))]))
  have HMB:=hide (fun k=>monS_bd (startV c y) k)
  have hyb:=year_bd c y hE
  obtain ⟨D,hD⟩:∃ D,startV c y=D:=⟨_,rfl⟩
  rw [hD] at hL HM HMB hyb
  have HD:=hide hD
  have HL:=hide hL
  have HF:=hide (fun (k:Nat)=>(show monF D k=monS D (k+1)-1 from rfl))
  have hDb:0≤D∧D≤3068037:=⟨hyb.1,hyb.2.1⟩
  obtain ⟨i0,hi,hi0,hi1,hi2⟩:=info_parts rint_info
  clear hE h5 hok hk6 hL hst hmo hyb hD
  simp only [calV]
  go_enter Tryz.func101,Tryz.ntmps101
  go_wp2_with fail
  refine (r15told_any c y _ hn).mono ?_
  rintro e w1 ⟨rfl,hb1⟩
  rw [HE.out]
  have hz1:w.heap.size<w1.heap.size:=by have:=hb1.size;simp at this;omega
  have HB1:Hid (Below w.heap.size w w1):=ww hb1
  have HQ1:=hide (calAt_below hb1 (by simp) (calAt_new w c))
  obtain ⟨q0,q1,q2,q3,q4,q5,q6,q7,q8,q9,q10,q11,q12,q13⟩:=HQ1.out
  clear hb1
  go_wp2_with fail
  refine (r13start_any c y _ hn).mono ?_
  rintro e w2 ⟨rfl,hb2⟩
  rw [HE.out,HD.out]
  have hz2:w.heap.size<w2.heap.size:=by have:=hb2.size;(try simp at this);omega
  have HB2:Hid (Below w.heap.size w w2):=by have hp:=HB1.out;exact ww hb2
  have HQ2:Hid (CalAt w2 w.heap.size c):=by have hp:=HQ1.out;exact qq hb2
  clear q0 q1 q2 q3 q4 q5 q6 q7 q8 q9 q10 q11 q12 q13
  obtain ⟨q0,q1,q2,q3,q4,q5,q6,q7,q8,q9,q10,q11,q12,q13⟩:=HQ2.out
  clear hb2
  have HS1:=hide (show IlSt c w.heap.size w2.heap.size [] (.slice none 0 0) w w2 from ⟨HQ2.out,hz2,Nat.le_refl _,⟨World.ownsRow_nil _ _ _ _,by simp⟩,HB2.out⟩)
  go_wp2_with fail
  go_loopw [7,11,58] (fun s7 s11 s58 wr=>∃ k:Nat,s58=.int .i64 k∧s11=.int .i64 (monS D k)∧k≤12∧IlSt c w.heap.size w2.heap.size (upto (monF D) k) s7 w wr) (fun _ _ s _=>(20-intOf s).toNat)
  case atStart=>exact ⟨0,rfl,rfl,by omega,HS1.out⟩
  case round =>
    obtain ⟨k,rfl,rfl,hk,hS⟩:=hrel
    have HS:=hide hS
    clear hS
    clear q0 q1 q2 q3 q4 q5 q6 q7 q8 q9 q10 q11 q12 q13
    have hmb:=HMB.out k
    by_cases hlt:k<12
    · obtain ⟨e1,e2,e3⟩:=HM.out k hlt
      have hmb1:=HMB.out (k+1)
      have HSN:=hide (upto_succ (monF D) k)
      have hul:(upto (monF D) k).length=k:=upto_length _ _
      have hF:=HF.out k
      have hlb:=len_bd (ofY (monS D k)) (ofM (monS D k))
      obtain ⟨M1,hM1⟩:∃ X,monS D (k+1)=X:=⟨_,rfl⟩
      rw [hM1] at e3 hmb1 hF
      rw [hF] at HSN
      have HM1:=hide hM1
      obtain ⟨M,hM⟩:∃ X,monS D k=X:=⟨_,rfl⟩
      rw [hM] at e1 e2 e3 hmb hlb
      rw [hM]
      obtain ⟨Lv,hLv⟩:∃ X,lenV (ofY M) (ofM M)=X:=⟨_,rfl⟩
      rw [hLv] at e3 hlb
      have HLV:=hide (And.intro hLv e2)
      have HM3:=hide e3
      obtain ⟨U,hU⟩:∃ U,upto (monF D) k=U:=⟨_,rfl⟩
      rw [hU] at HS HSN hul
      have HIS:=hide e1
      clear e1 e2 e3 hF hM1 hM hLv hU
      go_wp2_with fail
      all_goals first
        | (exfalso;omega)
        | skip
      refine (rof_yes M _ HIS.out).mono ?_
      rintro e w3 ⟨rfl,hb3⟩
      have HS3:=hide (HS.out.call hb3)
      clear hb3
      go_wp2_with fail
      refine (rlength_any (ofY M) (ofM M) _).mono ?_
      rintro e w4 ⟨rfl,rfl⟩
      rw [HLV.out.1,HLV.out.2]
      have hs3:w2.heap.size≤w3.heap.size:=HS3.out.2.2.1
      have HS4:=hide (HS3.out.call (show Below w3.heap.size w3 (w3.alloc (.cells #[.int .i64 (ofY M),.int .i64 (ofM M),.int .i64 (ofD M)] 135)) by (repeat' exact bel)))
      go_wp2_with ((at_builtin;refine wpList_append_own _ rfl _ _ 94 rfl w2.heap.size 3 i0 (.int .i64 0) 1 8 Tryz.underlying94 hi hi0 hi1 hi2 rfl (by decide) _ _ _ rfl (HS4.out.2.2.2.1.1.alloc _) ⟨w3.heap.size+1,0,none⟩ 1 1 [.int .i64 (M+Lv-1)] rfl rfl ?c1b ?c2b ?c3b ?c4b ?c5b ?_))
      case c1b =>
        intro i u hu
        match i,hu with
        | 0,hu=>simp at hu;subst hu;simp [Addr.add]
        | i+1,hu=>simp at hu
      case c2b=>intro u hu;simp at hu;subst hu;rfl
      case c3b=>unfold maxLen;omega
      case c4b=>omega
      case c5b=>simp;omega
      · intro v' w' hown' hgrow _
        rw [show M+Lv-1=M1-1 by have:=HM3.out;omega] at hown'
        have HG:=hide (HS4.out.grow (x:=M1-1) _ (by rw [hul];exact hown') hgrow)
        clear hown' hgrow
        go_wp2
        go_roundw
        case rel=>exact ⟨k+1,by go_num,by rw [HM1.out];congr 1;have:=HM3.out;omega,by omega,by rw [HSN.out];exact HG.out⟩
        case measure=>simp [intOf];omega
    · obtain rfl:k=12:=by omega
      have HI:=hide (HS.out.ints (by rw [upto_length];omega))
      have hBel:=HS.out.2.2.2.2
      obtain ⟨U,hU⟩:∃ U,upto (monF D) 12=U:=⟨_,rfl⟩
      have HU:=hide hU
      rw [hU] at HI
      obtain ⟨M,hM⟩:∃ X,monS D 12=X:=⟨_,rfl⟩
      rw [hM]
      clear hU hM hmb
      go_wp2
      all_goals first
        | (exfalso;omega)
        | (go_ret2;exact ⟨_,rfl,by rw [HL.out,HU.out];exact HI.out,by (repeat' exact bel)⟩)
theorem pat_bd {c:Cal} (hok:c.Ok) (h4:¬ c.shape=4) (h5:¬ c.shape=5) (k:Nat):1≤patN c k∧patN c k≤5:=by
  obtain ⟨_,_,_,hr⟩:=hok
  simp only [Cal.ruled,Cal.weeks,weeksP,Cal.pat0] at hr
  unfold patN pat0 pat1 pat2
  repeat' split
  all_goals omega
theorem len_bd2 {c:Cal} (hok:c.Ok) (h4:¬ c.shape=4) (h5:¬ c.shape=5) {wk:Int} (hw:wk=52∨wk=53) (k:Nat):1≤lenAt c wk k∧lenAt c wk k≤6:=by
  have:=pat_bd hok h4 h5 k
  unfold lenAt
  split <;> omega
theorem wkDay_bd {c:Cal} {y:Int} (hok:c.Ok) (h4:¬ c.shape=4) (h5:¬ c.shape=5) (hw:wksV c y=52∨wksV c y=53) (k:Nat):startV c y≤wkDay c y k∧wkDay c y k≤startV c y+42*k:=by
  induction k with
  | zero=>simp [wkDay]
  | succ k ih =>
    have:=len_bd2 hok h4 h5 hw k
    rw [wkDay]
    omega
theorem r15ends_1 (c:Cal) (y:Int) (w:World) (hn:c.name.size≤1000) (hE:askE c y 1601=0) (hsh:c.shape=1) :
    Calls Tryz.prog 101 #[calV c,.int .i64 y] w (REndsPost c y w):=by
  obtain ⟨hok,hy1,hy2⟩:=ask_ok hE
  have hokB:c.okB=true:=by simpa [Cal.okB] using hok
  have hk6:c.kind≠6:=fun h=>by have:=(ok_shape hok).2.1.1 h;omega
  have h4:¬ c.shape=4:=by omega
  have h5:¬ c.shape=5:=by omega
  have hwE:wksE c y=0:=by simp [wksE,wksB,hokB,hk6,hE]
  have hwv:=(wks_ok hwE).2.2.2.2.2.1
  have HE:=hide hE
  have h4b:(c.shape==4)=false:=by simpa using h4
  have h5b:(c.shape==5)=false:=by simpa using h5
  have hpb:=per_bounds c hokB
  obtain ⟨N,hN⟩:∃ N:Nat,(perV c)=(N:Int):=⟨(perV c).toNat,by omega⟩
  have hL:endsL c y=upto (fun i=>wkDay c y (i+1)-1) N:=by rw [endsL,if_neg h4,if_neg h5,hN];rfl
  have HW:=hide (fun k=>wkDay_bd hok h4 h5 hwv k)
  have HLB:=hide (fun k=>len_bd2 hok h4 h5 hwv k)
  have HPB:=hide (fun k=>pat_bd hok h4 h5 k)
  have HWS:=hide (fun k=>(show wkDay c y (k+1)=wkDay c y k+7*lenAt c (wksV c y) k from rfl))
  have HLEN:=hide (fun k=>(show lenAt c (wksV c y) k=patN c k+if (k:Int)+1=c.extra then wksV c y-52 else 0 from rfl))
  have HPAT:=hide (fun k=>(show patN c k=if k % 3=0 then pat0 c else if k % 3=1 then pat1 c else pat2 c from rfl))
  have hyb:=year_bd c y hE
  have H0:=hide (show wkDay c y 0=startV c y from rfl)
  obtain ⟨D,hD⟩:∃ D,startV c y=D:=⟨_,rfl⟩
  obtain ⟨wk,hwk⟩:∃ D,wksV c y=D:=⟨_,rfl⟩
  rw [hD] at HW hyb H0
  rw [hwk] at hwv HWS HLEN HLB
  rw [hN] at hpb
  have HD:=hide hD
  have HWK:=hide (And.intro hwk hwE)
  have HN:=hide (And.intro hN (show okE c=0 from okE_yes hok))
  have HL:=hide hL
  have hDb:0≤D∧D≤3068037:=⟨hyb.1,hyb.2.1⟩
  have hNb:12≤N∧N≤52:=by omega
  obtain ⟨F,hF⟩:∃ F:Nat→Int,wkDay c y=F:=⟨_,rfl⟩
  rw [hF] at HW HWS H0 HL
  obtain ⟨i0,hi,hi0,hi1,hi2⟩:=info_parts rint_info
  have hs1:(c.shape==1)=true:=by simp [hsh]
  have hs3:(c.shape==3)=false:=by simp [hsh]
  have HP0:=hide (And.intro (show pat0 c=c.p0 by simp [pat0,hsh]) (And.intro (show pat1 c=c.p1 by simp [pat1,hsh]) (show pat2 c=c.p2 by simp [pat2,hsh])))
  clear hsh
  clear hE hok hokB hk6 h4 h5 hwE hL hyb hD hwk hN hpb hF
  simp only [calV]
  go_enter Tryz.func101,Tryz.ntmps101
  go_wp2_with fail
  refine (r15told_any c y _ hn).mono ?_
  rintro e w1 ⟨rfl,hb1⟩
  rw [HE.out]
  have hz1:w.heap.size<w1.heap.size:=by have:=hb1.size;simp at this;omega
  have HB1:Hid (Below w.heap.size w w1):=ww hb1
  have HQ1:=hide (calAt_below hb1 (by simp) (calAt_new w c))
  obtain ⟨q0,q1,q2,q3,q4,q5,q6,q7,q8,q9,q10,q11,q12,q13⟩:=HQ1.out
  clear hb1
  go_wp2_with fail
  refine (r11per_any c _ hn).mono ?_
  rintro e w2 ⟨rfl,hb2⟩
  rw [HN.out.1,HN.out.2]
  have hz2:w.heap.size<w2.heap.size:=by have:=hb2.size;(try simp at this);omega
  have HB2:Hid (Below w.heap.size w w2):=by have hp:=HB1.out;exact ww hb2
  have HQ2:Hid (CalAt w2 w.heap.size c):=by have hp:=HQ1.out;exact qq hb2
  clear q0 q1 q2 q3 q4 q5 q6 q7 q8 q9 q10 q11 q12 q13
  obtain ⟨q0,q1,q2,q3,q4,q5,q6,q7,q8,q9,q10,q11,q12,q13⟩:=HQ2.out
  clear hb2
  go_wp2_with fail
  refine (r13weeks_any c y _ hn).mono ?_
  rintro e w3 ⟨rfl,hb3⟩
  rw [HWK.out.1,HWK.out.2]
  have hz3:w.heap.size<w3.heap.size:=by have:=hb3.size;(try simp at this);omega
  have HB3:Hid (Below w.heap.size w w3):=by have hp:=HB2.out;exact ww hb3
  have HQ3:Hid (CalAt w3 w.heap.size c):=by have hp:=HQ2.out;exact qq hb3
  clear q0 q1 q2 q3 q4 q5 q6 q7 q8 q9 q10 q11 q12 q13
  obtain ⟨q0,q1,q2,q3,q4,q5,q6,q7,q8,q9,q10,q11,q12,q13⟩:=HQ3.out
  clear hb3
  go_wp2_with fail
  refine (r13start_any c y _ hn).mono ?_
  rintro e w4 ⟨rfl,hb4⟩
  rw [HE.out,HD.out]
  have hz4:w.heap.size<w4.heap.size:=by have:=hb4.size;(try simp at this);omega
  have HB4:Hid (Below w.heap.size w w4):=by have hp:=HB3.out;exact ww hb4
  have HQ4:Hid (CalAt w4 w.heap.size c):=by have hp:=HQ3.out;exact qq hb4
  clear q0 q1 q2 q3 q4 q5 q6 q7 q8 q9 q10 q11 q12 q13
  obtain ⟨q0,q1,q2,q3,q4,q5,q6,q7,q8,q9,q10,q11,q12,q13⟩:=HQ4.out
  clear hb4
  have HS1:=hide (show IlSt c w.heap.size w4.heap.size [] (.slice none 0 0) w w4 from ⟨HQ4.out,hz4,Nat.le_refl _,⟨World.ownsRow_nil _ _ _ _,by simp⟩,HB4.out⟩)
  go_wp2_with fail
  go_loopw [7,21,23] (fun s7 s21 s23 wr=>∃ k:Nat,s23=.int .i64 ((k:Int)+1)∧s21=.int .i64 (F k)∧k≤N∧IlSt c w.heap.size w4.heap.size (upto (fun i=>F (i+1)-1) k) s7 w wr) (fun _ _ s _=>(60-intOf s).toNat)
  case atStart=>exact ⟨0,rfl,by rw [H0.out],by omega,HS1.out⟩
  case round =>
    obtain ⟨k,rfl,rfl,hk,hS⟩:=hrel
    have HS:=hide hS
    have hBo:=hS.2.2.1
    have hBz:=hS.2.1
    clear hS
    clear q0 q1 q2 q3 q4 q5 q6 q7 q8 q9 q10 q11 q12 q13
    have hfb:=HW.out k
    by_cases hlt:k<N
    · have hfb1:=HW.out (k+1)
      have hws:=HWS.out k
      have hle:=HLEN.out k
      have hpa:=HPAT.out k
      have hpb:=HPB.out k
      have HSN:=hide (upto_succ (fun i=>F (i+1)-1) k)
      have hul:(upto (fun i=>F (i+1)-1) k).length=k:=upto_length _ _
      obtain ⟨F1,hF1⟩:∃ X,F (k+1)=X:=⟨_,rfl⟩
      rw [hF1] at hfb1 hws
      have HF1:=hide hF1
      obtain ⟨F0,hF0⟩:∃ X,F k=X:=⟨_,rfl⟩
      rw [hF0] at hfb hws
      rw [hF0]
      obtain ⟨U,hU⟩:∃ U,upto (fun i=>F (i+1)-1) k=U:=⟨_,rfl⟩
      rw [hU] at HS HSN hul
      rw [hF1] at HSN
      obtain ⟨P,hP⟩:∃ X,patN c k=X:=⟨_,rfl⟩
      rw [hP] at hle hpa hpb
      obtain ⟨G,hG⟩:∃ X,lenAt c wk k=X:=⟨_,rfl⟩
      rw [hG] at hle hws
      have HWSE:=hide hws
      clear hF1 hF0 hU hP hG hws
      obtain ⟨q0,q1,q2,q3,q4,q5,q6,q7,q8,q9,q10,q11,q12,q13⟩:=HS.out.1
      rw [HP0.out.1,HP0.out.2.1,HP0.out.2.2] at hpa
      rcases (show k % 3=0∨k % 3=1∨k % 3=2 by omega) with hr | hr | hr
      · have hrr:((k:Int)).tmod 3=0:=by rw [Int.tmod_eq_emod_of_nonneg (by omega)];omega
        have hPv:P=c.p0:=by rw [hpa];simp [hr]
        rw [hPv] at hle hpb
        clear hpa hPv
        rcases (show ((k:Int)+1=c.extra∧wk=53)∨((k:Int)+1=c.extra∧wk=52)∨¬ (k:Int)+1=c.extra by omega) with ⟨hx,hw⟩ | ⟨hx,hw⟩ | hx
        · skip
          have hxb:((k:Int)+1==c.extra)=true:=by simp;omega
          have hwb:(wk==53)=true:=by simp [hw]
          have hGv:G=c.p0+1:=by rw [hle];rw [if_pos hx,hw];omega
          have HX:=hide (show F0+7*(c.p0+1)=F1 by rw [HWSE.out,hGv])
          clear hle hx hw hGv
          go_wp2_with ((at_builtin;refine wpList_append_own _ rfl _ _ 94 rfl w4.heap.size 3 i0 (.int .i64 0) 1 8 Tryz.underlying94 hi hi0 hi1 hi2 rfl (by decide) _ _ _ rfl (HS.out.2.2.2.1.1.alloc _) ⟨wr.heap.size,0,none⟩ 1 1 [.int .i64 (F0+7*(c.p0+1)-1)] rfl rfl ?c1k11 ?c2k11 ?c3k11 ?c4k11 ?c5k11 ?_))
          case c1k11 =>
            intro i u hu
            match i,hu with
            | 0,hu=>simp at hu;subst hu;simp [Addr.add]
            | i+1,hu=>simp at hu
          case c2k11=>intro u hu;simp at hu;subst hu;rfl
          case c3k11=>unfold maxLen;omega
          case c4k11=>omega
          case c5k11=>simp;omega
          · intro v' w' hown' hgrow _
            rw [show F0+7*(c.p0+1)-1=F1-1 by have:=HX.out;omega] at hown'
            have HG:=hide (HS.out.grow (x:=F1-1) _ (by rw [hul];exact hown') hgrow)
            clear hown' hgrow
            go_wp2
            go_roundw
            case rel=>exact ⟨k+1,by go_num,by (rw [HF1.out]) <;> (congr 1) <;> (have:=HX.out;omega),by omega,by rw [HSN.out];exact HG.out⟩
            case measure=>simp [intOf];omega
        · skip
          have hxb:((k:Int)+1==c.extra)=true:=by simp;omega
          have hwb:(wk==53)=false:=by simp [hw]
          have hGv:G=c.p0+0:=by rw [hle];rw [if_pos hx,hw];omega
          have HX:=hide (show F0+7*(c.p0+0)=F1 by rw [HWSE.out,hGv])
          clear hle hx hw hGv
          go_wp2_with ((at_builtin;refine wpList_append_own _ rfl _ _ 94 rfl w4.heap.size 3 i0 (.int .i64 0) 1 8 Tryz.underlying94 hi hi0 hi1 hi2 rfl (by decide) _ _ _ rfl (HS.out.2.2.2.1.1.alloc _) ⟨wr.heap.size,0,none⟩ 1 1 [.int .i64 (F0+7*c.p0-1)] rfl rfl ?c1k12 ?c2k12 ?c3k12 ?c4k12 ?c5k12 ?_))
          case c1k12 =>
            intro i u hu
            match i,hu with
            | 0,hu=>simp at hu;subst hu;simp [Addr.add]
            | i+1,hu=>simp at hu
          case c2k12=>intro u hu;simp at hu;subst hu;rfl
          case c3k12=>unfold maxLen;omega
          case c4k12=>omega
          case c5k12=>simp;omega
          · intro v' w' hown' hgrow _
            rw [show F0+7*c.p0-1=F1-1 by have:=HX.out;omega] at hown'
            have HG:=hide (HS.out.grow (x:=F1-1) _ (by rw [hul];exact hown') hgrow)
            clear hown' hgrow
            go_wp2
            go_roundw
            case rel=>exact ⟨k+1,by go_num,by (rw [HF1.out]) <;> (congr 1) <;> (have:=HX.out;omega),by omega,by rw [HSN.out];exact HG.out⟩
            case measure=>simp [intOf];omega
        · skip
          have hxb:((k:Int)+1==c.extra)=false:=by simp;omega
          have hGv:G=c.p0+0:=by rw [hle];rw [if_neg hx]
          have HX:=hide (show F0+7*(c.p0+0)=F1 by rw [HWSE.out,hGv])
          clear hle hx hGv
          go_wp2_with ((at_builtin;refine wpList_append_own _ rfl _ _ 94 rfl w4.heap.size 3 i0 (.int .i64 0) 1 8 Tryz.underlying94 hi hi0 hi1 hi2 rfl (by decide) _ _ _ rfl (HS.out.2.2.2.1.1.alloc _) ⟨wr.heap.size,0,none⟩ 1 1 [.int .i64 (F0+7*c.p0-1)] rfl rfl ?c1k13 ?c2k13 ?c3k13 ?c4k13 ?c5k13 ?_))
          case c1k13 =>
            intro i u hu
            match i,hu with
            | 0,hu=>simp at hu;subst hu;simp [Addr.add]
            | i+1,hu=>simp at hu
          case c2k13=>intro u hu;simp at hu;subst hu;rfl
          case c3k13=>unfold maxLen;omega
          case c4k13=>omega
          case c5k13=>simp;omega
          · intro v' w' hown' hgrow _
            rw [show F0+7*c.p0-1=F1-1 by have:=HX.out;omega] at hown'
            have HG:=hide (HS.out.grow (x:=F1-1) _ (by rw [hul];exact hown') hgrow)
            clear hown' hgrow
            go_wp2
            go_roundw
            case rel=>exact ⟨k+1,by go_num,by (rw [HF1.out]) <;> (congr 1) <;> (have:=HX.out;omega),by omega,by rw [HSN.out];exact HG.out⟩
            case measure=>simp [intOf];omega
      · have hrr:((k:Int)).tmod 3=1:=by rw [Int.tmod_eq_emod_of_nonneg (by omega)];omega
        have hPv:P=c.p1:=by rw [hpa];simp [hr]
        rw [hPv] at hle hpb
        clear hpa hPv
        rcases (show ((k:Int)+1=c.extra∧wk=53)∨((k:Int)+1=c.extra∧wk=52)∨¬ (k:Int)+1=c.extra by omega) with ⟨hx,hw⟩ | ⟨hx,hw⟩ | hx
        · skip
          have hxb:((k:Int)+1==c.extra)=true:=by simp;omega
          have hwb:(wk==53)=true:=by simp [hw]
          have hGv:G=c.p1+1:=by rw [hle];rw [if_pos hx,hw];omega
          have HX:=hide (show F0+7*(c.p1+1)=F1 by rw [HWSE.out,hGv])
          clear hle hx hw hGv
          go_wp2_with ((at_builtin;refine wpList_append_own _ rfl _ _ 94 rfl w4.heap.size 3 i0 (.int .i64 0) 1 8 Tryz.underlying94 hi hi0 hi1 hi2 rfl (by decide) _ _ _ rfl (HS.out.2.2.2.1.1.alloc _) ⟨wr.heap.size,0,none⟩ 1 1 [.int .i64 (F0+7*(c.p1+1)-1)] rfl rfl ?c1k14 ?c2k14 ?c3k14 ?c4k14 ?c5k14 ?_))
          case c1k14 =>
            intro i u hu
            match i,hu with
            | 0,hu=>simp at hu;subst hu;simp [Addr.add]
            | i+1,hu=>simp at hu
          case c2k14=>intro u hu;simp at hu;subst hu;rfl
          case c3k14=>unfold maxLen;omega
          case c4k14=>omega
          case c5k14=>simp;omega
          · intro v' w' hown' hgrow _
            rw [show F0+7*(c.p1+1)-1=F1-1 by have:=HX.out;omega] at hown'
            have HG:=hide (HS.out.grow (x:=F1-1) _ (by rw [hul];exact hown') hgrow)
            clear hown' hgrow
            go_wp2
            go_roundw
            case rel=>exact ⟨k+1,by go_num,by (rw [HF1.out]) <;> (congr 1) <;> (have:=HX.out;omega),by omega,by rw [HSN.out];exact HG.out⟩
            case measure=>simp [intOf];omega
        · skip
          have hxb:((k:Int)+1==c.extra)=true:=by simp;omega
          have hwb:(wk==53)=false:=by simp [hw]
          have hGv:G=c.p1+0:=by rw [hle];rw [if_pos hx,hw];omega
          have HX:=hide (show F0+7*(c.p1+0)=F1 by rw [HWSE.out,hGv])
          clear hle hx hw hGv
          go_wp2_with ((at_builtin;refine wpList_append_own _ rfl _ _ 94 rfl w4.heap.size 3 i0 (.int .i64 0) 1 8 Tryz.underlying94 hi hi0 hi1 hi2 rfl (by decide) _ _ _ rfl (HS.out.2.2.2.1.1.alloc _) ⟨wr.heap.size,0,none⟩ 1 1 [.int .i64 (F0+7*c.p1-1)] rfl rfl ?c1k15 ?c2k15 ?c3k15 ?c4k15 ?c5k15 ?_))
          case c1k15 =>
            intro i u hu
            match i,hu with
            | 0,hu=>simp at hu;subst hu;simp [Addr.add]
            | i+1,hu=>simp at hu
          case c2k15=>intro u hu;simp at hu;subst hu;rfl
          case c3k15=>unfold maxLen;omega
          case c4k15=>omega
          case c5k15=>simp;omega
          · intro v' w' hown' hgrow _
            rw [show F0+7*c.p1-1=F1-1 by have:=HX.out;omega] at hown'
            have HG:=hide (HS.out.grow (x:=F1-1) _ (by rw [hul];exact hown') hgrow)
            clear hown' hgrow
            go_wp2
            go_roundw
            case rel=>exact ⟨k+1,by go_num,by (rw [HF1.out]) <;> (congr 1) <;> (have:=HX.out;omega),by omega,by rw [HSN.out];exact HG.out⟩
            case measure=>simp [intOf];omega
        · skip
          have hxb:((k:Int)+1==c.extra)=false:=by simp;omega
          have hGv:G=c.p1+0:=by rw [hle];rw [if_neg hx]
          have HX:=hide (show F0+7*(c.p1+0)=F1 by rw [HWSE.out,hGv])
          clear hle hx hGv
          go_wp2_with ((at_builtin;refine wpList_append_own _ rfl _ _ 94 rfl w4.heap.size 3 i0 (.int .i64 0) 1 8 Tryz.underlying94 hi hi0 hi1 hi2 rfl (by decide) _ _ _ rfl (HS.out.2.2.2.1.1.alloc _) ⟨wr.heap.size,0,none⟩ 1 1 [.int .i64 (F0+7*c.p1-1)] rfl rfl ?c1k16 ?c2k16 ?c3k16 ?c4k16 ?c5k16 ?_))
          case c1k16 =>
            intro i u hu
            match i,hu with
            | 0,hu=>simp at hu;subst hu;simp [Addr.add]
            | i+1,hu=>simp at hu
          case c2k16=>intro u hu;simp at hu;subst hu;rfl
          case c3k16=>unfold maxLen;omega
          case c4k16=>omega
          case c5k16=>simp;omega
          · intro v' w' hown' hgrow _
            rw [show F0+7*c.p1-1=F1-1 by have:=HX.out;omega] at hown'
            have HG:=hide (HS.out.grow (x:=F1-1) _ (by rw [hul];exact hown') hgrow)
            clear hown' hgrow
            go_wp2
            go_roundw
            case rel=>exact ⟨k+1,by go_num,by (rw [HF1.out]) <;> (congr 1) <;> (have:=HX.out;omega),by omega,by rw [HSN.out];exact HG.out⟩
            case measure=>simp [intOf];omega
      · have hrr:((k:Int)).tmod 3=2:=by rw [Int.tmod_eq_emod_of_nonneg (by omega)];omega
        have hPv:P=c.p2:=by rw [hpa];simp [hr]
        rw [hPv] at hle hpb
        clear hpa hPv
        rcases (show ((k:Int)+1=c.extra∧wk=53)∨((k:Int)+1=c.extra∧wk=52)∨¬ (k:Int)+1=c.extra by omega) with ⟨hx,hw⟩ | ⟨hx,hw⟩ | hx
        · skip
          have hxb:((k:Int)+1==c.extra)=true:=by simp;omega
          have hwb:(wk==53)=true:=by simp [hw]
          have hGv:G=c.p2+1:=by rw [hle];rw [if_pos hx,hw];omega
          have HX:=hide (show F0+7*(c.p2+1)=F1 by rw [HWSE.out,hGv])
          clear hle hx hw hGv
          go_wp2_with ((at_builtin;refine wpList_append_own _ rfl _ _ 94 rfl w4.heap.size 3 i0 (.int .i64 0) 1 8 Tryz.underlying94 hi hi0 hi1 hi2 rfl (by decide) _ _ _ rfl (HS.out.2.2.2.1.1.alloc _) ⟨wr.heap.size,0,none⟩ 1 1 [.int .i64 (F0+7*(c.p2+1)-1)] rfl rfl ?c1k17 ?c2k17 ?c3k17 ?c4k17 ?c5k17 ?_))
          case c1k17 =>
            intro i u hu
            match i,hu with
            | 0,hu=>simp at hu;subst hu;simp [Addr.add]
            | i+1,hu=>simp at hu
          case c2k17=>intro u hu;simp at hu;subst hu;rfl
          case c3k17=>unfold maxLen;omega
          case c4k17=>omega
          case c5k17=>simp;omega
          · intro v' w' hown' hgrow _
            rw [show F0+7*(c.p2+1)-1=F1-1 by have:=HX.out;omega] at hown'
            have HG:=hide (HS.out.grow (x:=F1-1) _ (by rw [hul];exact hown') hgrow)
            clear hown' hgrow
            go_wp2
            go_roundw
            case rel=>exact ⟨k+1,by go_num,by (rw [HF1.out]) <;> (congr 1) <;> (have:=HX.out;omega),by omega,by rw [HSN.out];exact HG.out⟩
            case measure=>simp [intOf];omega
        · skip
          have hxb:((k:Int)+1==c.extra)=true:=by simp;omega
          have hwb:(wk==53)=false:=by simp [hw]
          have hGv:G=c.p2+0:=by rw [hle];rw [if_pos hx,hw];omega
          have HX:=hide (show F0+7*(c.p2+0)=F1 by rw [HWSE.out,hGv])
          clear hle hx hw hGv
          go_wp2_with ((at_builtin;refine wpList_append_own _ rfl _ _ 94 rfl w4.heap.size 3 i0 (.int .i64 0) 1 8 Tryz.underlying94 hi hi0 hi1 hi2 rfl (by decide) _ _ _ rfl (HS.out.2.2.2.1.1.alloc _) ⟨wr.heap.size,0,none⟩ 1 1 [.int .i64 (F0+7*c.p2-1)] rfl rfl ?c1k18 ?c2k18 ?c3k18 ?c4k18 ?c5k18 ?_))
          case c1k18 =>
            intro i u hu
            match i,hu with
            | 0,hu=>simp at hu;subst hu;simp [Addr.add]
            | i+1,hu=>simp at hu
          case c2k18=>intro u hu;simp at hu;subst hu;rfl
          case c3k18=>unfold maxLen;omega
          case c4k18=>omega
          case c5k18=>simp;omega
          · intro v' w' hown' hgrow _
            rw [show F0+7*c.p2-1=F1-1 by have:=HX.out;omega] at hown'
            have HG:=hide (HS.out.grow (x:=F1-1) _ (by rw [hul];exact hown') hgrow)
            clear hown' hgrow
            go_wp2
            go_roundw
            case rel=>exact ⟨k+1,by go_num,by (rw [HF1.out]) <;> (congr 1) <;> (have:=HX.out;omega),by omega,by rw [HSN.out];exact HG.out⟩
            case measure=>simp [intOf];omega
        · skip
          have hxb:((k:Int)+1==c.extra)=false:=by simp;omega
          have hGv:G=c.p2+0:=by rw [hle];rw [if_neg hx]
          have HX:=hide (show F0+7*(c.p2+0)=F1 by rw [HWSE.out,hGv])
          clear hle hx hGv
          go_wp2_with ((at_builtin;refine wpList_append_own _ rfl _ _ 94 rfl w4.heap.size 3 i0 (.int .i64 0) 1 8 Tryz.underlying94 hi hi0 hi1 hi2 rfl (by decide) _ _ _ rfl (HS.out.2.2.2.1.1.alloc _) ⟨wr.heap.size,0,none⟩ 1 1 [.int .i64 (F0+7*c.p2-1)] rfl rfl ?c1k19 ?c2k19 ?c3k19 ?c4k19 ?c5k19 ?_))
          case c1k19 =>
            intro i u hu
            match i,hu with
            | 0,hu=>simp at hu;subst hu;simp [Addr.add]
            | i+1,hu=>simp at hu
          case c2k19=>intro u hu;simp at hu;subst hu;rfl
          case c3k19=>unfold maxLen;omega
          case c4k19=>omega
          case c5k19=>simp;omega
          · intro v' w' hown' hgrow _
            rw [show F0+7*c.p2-1=F1-1 by have:=HX.out;omega] at hown'
            have HG:=hide (HS.out.grow (x:=F1-1) _ (by rw [hul];exact hown') hgrow)
            clear hown' hgrow
            go_wp2
            go_roundw
            case rel=>exact ⟨k+1,by go_num,by (rw [HF1.out]) <;> (congr 1) <;> (have:=HX.out;omega),by omega,by rw [HSN.out];exact HG.out⟩
            case measure=>simp [intOf];omega
    · obtain rfl:k=N:=by omega
      have HI:=hide (HS.out.ints (by rw [upto_length];omega))
      have hBel:=HS.out.2.2.2.2
      obtain ⟨U,hU⟩:∃ U,upto (fun i=>F (i+1)-1) k=U:=⟨_,rfl⟩
      have HU:=hide hU
      rw [hU] at HI
      obtain ⟨F0,hF0⟩:∃ X,F k=X:=⟨_,rfl⟩
      rw [hF0]
      clear hU hF0 hfb
      go_wp2
      all_goals first
        | (exfalso;omega)
        | (go_ret2;exact ⟨_,rfl,by rw [HL.out,HU.out];exact HI.out,by (repeat' exact bel)⟩)
theorem r15ends_2 (c:Cal) (y:Int) (w:World) (hn:c.name.size≤1000) (hE:askE c y 1601=0) (hsh:c.shape=2) :
    Calls Tryz.prog 101 #[calV c,.int .i64 y] w (REndsPost c y w):=by
  obtain ⟨hok,hy1,hy2⟩:=ask_ok hE
  have hokB:c.okB=true:=by simpa [Cal.okB] using hok
  have hk6:c.kind≠6:=fun h=>by have:=(ok_shape hok).2.1.1 h;omega
  have h4:¬ c.shape=4:=by omega
  have h5:¬ c.shape=5:=by omega
  have hwE:wksE c y=0:=by simp [wksE,wksB,hokB,hk6,hE]
  have hwv:=(wks_ok hwE).2.2.2.2.2.1
  have HE:=hide hE
  have h4b:(c.shape==4)=false:=by simpa using h4
  have h5b:(c.shape==5)=false:=by simpa using h5
  have hpb:=per_bounds c hokB
  obtain ⟨N,hN⟩:∃ N:Nat,(perV c)=(N:Int):=⟨(perV c).toNat,by omega⟩
  have hL:endsL c y=upto (fun i=>wkDay c y (i+1)-1) N:=by rw [endsL,if_neg h4,if_neg h5,hN];rfl
  have HW:=hide (fun k=>wkDay_bd hok h4 h5 hwv k)
  have HLB:=hide (fun k=>len_bd2 hok h4 h5 hwv k)
  have HPB:=hide (fun k=>pat_bd hok h4 h5 k)
  have HWS:=hide (fun k=>(show wkDay c y (k+1)=wkDay c y k+7*lenAt c (wksV c y) k from rfl))
  have HLEN:=hide (fun k=>(show lenAt c (wksV c y) k=patN c k+if (k:Int)+1=c.extra then wksV c y-52 else 0 from rfl))
  have HPAT:=hide (fun k=>(show patN c k=if k % 3=0 then pat0 c else if k % 3=1 then pat1 c else pat2 c from rfl))
  have hyb:=year_bd c y hE
  have H0:=hide (show wkDay c y 0=startV c y from rfl)
  obtain ⟨D,hD⟩:∃ D,startV c y=D:=⟨_,rfl⟩
  obtain ⟨wk,hwk⟩:∃ D,wksV c y=D:=⟨_,rfl⟩
  rw [hD] at HW hyb H0
  rw [hwk] at hwv HWS HLEN HLB
  rw [hN] at hpb
  have HD:=hide hD
  have HWK:=hide (And.intro hwk hwE)
  have HN:=hide (And.intro hN (show okE c=0 from okE_yes hok))
  have HL:=hide hL
  have hDb:0≤D∧D≤3068037:=⟨hyb.1,hyb.2.1⟩
  have hNb:12≤N∧N≤52:=by omega
  obtain ⟨F,hF⟩:∃ F:Nat→Int,wkDay c y=F:=⟨_,rfl⟩
  rw [hF] at HW HWS H0 HL
  obtain ⟨i0,hi,hi0,hi1,hi2⟩:=info_parts rint_info
  have hs1:(c.shape==1)=false:=by simp [hsh]
  have hs3:(c.shape==3)=false:=by simp [hsh]
  have HP0:=hide (And.intro (show pat0 c=4 by simp [pat0,hsh]) (And.intro (show pat1 c=4 by simp [pat1,hsh]) (show pat2 c=4 by simp [pat2,hsh])))
  clear hsh
  clear hE hok hokB hk6 h4 h5 hwE hL hyb hD hwk hN hpb hF
  simp only [calV]
  go_enter Tryz.func101,Tryz.ntmps101
  go_wp2_with fail
  refine (r15told_any c y _ hn).mono ?_
  rintro e w1 ⟨rfl,hb1⟩
  rw [HE.out]
  have hz1:w.heap.size<w1.heap.size:=by have:=hb1.size;simp at this;omega
  have HB1:Hid (Below w.heap.size w w1):=ww hb1
  have HQ1:=hide (calAt_below hb1 (by simp) (calAt_new w c))
  obtain ⟨q0,q1,q2,q3,q4,q5,q6,q7,q8,q9,q10,q11,q12,q13⟩:=HQ1.out
  clear hb1
  go_wp2_with fail
  refine (r11per_any c _ hn).mono ?_
  rintro e w2 ⟨rfl,hb2⟩
  rw [HN.out.1,HN.out.2]
  have hz2:w.heap.size<w2.heap.size:=by have:=hb2.size;(try simp at this);omega
  have HB2:Hid (Below w.heap.size w w2):=by have hp:=HB1.out;exact ww hb2
  have HQ2:Hid (CalAt w2 w.heap.size c):=by have hp:=HQ1.out;exact qq hb2
  clear q0 q1 q2 q3 q4 q5 q6 q7 q8 q9 q10 q11 q12 q13
  obtain ⟨q0,q1,q2,q3,q4,q5,q6,q7,q8,q9,q10,q11,q12,q13⟩:=HQ2.out
  clear hb2
  go_wp2_with fail
  refine (r13weeks_any c y _ hn).mono ?_
  rintro e w3 ⟨rfl,hb3⟩
  rw [HWK.out.1,HWK.out.2]
  have hz3:w.heap.size<w3.heap.size:=by have:=hb3.size;(try simp at this);omega
  have HB3:Hid (Below w.heap.size w w3):=by have hp:=HB2.out;exact ww hb3
  have HQ3:Hid (CalAt w3 w.heap.size c):=by have hp:=HQ2.out;exact qq hb3
  clear q0 q1 q2 q3 q4 q5 q6 q7 q8 q9 q10 q11 q12 q13
  obtain ⟨q0,q1,q2,q3,q4,q5,q6,q7,q8,q9,q10,q11,q12,q13⟩:=HQ3.out
  clear hb3
  go_wp2_with fail
  refine (r13start_any c y _ hn).mono ?_
  rintro e w4 ⟨rfl,hb4⟩
  rw [HE.out,HD.out]
  have hz4:w.heap.size<w4.heap.size:=by have:=hb4.size;(try simp at this);omega
  have HB4:Hid (Below w.heap.size w w4):=by have hp:=HB3.out;exact ww hb4
  have HQ4:Hid (CalAt w4 w.heap.size c):=by have hp:=HQ3.out;exact qq hb4
  clear q0 q1 q2 q3 q4 q5 q6 q7 q8 q9 q10 q11 q12 q13
  obtain ⟨q0,q1,q2,q3,q4,q5,q6,q7,q8,q9,q10,q11,q12,q13⟩:=HQ4.out
  clear hb4
  have HS1:=hide (show IlSt c w.heap.size w4.heap.size [] (.slice none 0 0) w w4 from ⟨HQ4.out,hz4,Nat.le_refl _,⟨World.ownsRow_nil _ _ _ _,by simp⟩,HB4.out⟩)
  go_wp2_with fail
  go_loopw [7,21,23] (fun s7 s21 s23 wr=>∃ k:Nat,s23=.int .i64 ((k:Int)+1)∧s21=.int .i64 (F k)∧k≤N∧IlSt c w.heap.size w4.heap.size (upto (fun i=>F (i+1)-1) k) s7 w wr) (fun _ _ s _=>(60-intOf s).toNat)
  case atStart=>exact ⟨0,rfl,by rw [H0.out],by omega,HS1.out⟩
  case round =>
    obtain ⟨k,rfl,rfl,hk,hS⟩:=hrel
    have HS:=hide hS
    have hBo:=hS.2.2.1
    have hBz:=hS.2.1
    clear hS
    clear q0 q1 q2 q3 q4 q5 q6 q7 q8 q9 q10 q11 q12 q13
    have hfb:=HW.out k
    by_cases hlt:k<N
    · have hfb1:=HW.out (k+1)
      have hws:=HWS.out k
      have hle:=HLEN.out k
      have hpa:=HPAT.out k
      have hpb:=HPB.out k
      have HSN:=hide (upto_succ (fun i=>F (i+1)-1) k)
      have hul:(upto (fun i=>F (i+1)-1) k).length=k:=upto_length _ _
      obtain ⟨F1,hF1⟩:∃ X,F (k+1)=X:=⟨_,rfl⟩
      rw [hF1] at hfb1 hws
      have HF1:=hide hF1
      obtain ⟨F0,hF0⟩:∃ X,F k=X:=⟨_,rfl⟩
      rw [hF0] at hfb hws
      rw [hF0]
      obtain ⟨U,hU⟩:∃ U,upto (fun i=>F (i+1)-1) k=U:=⟨_,rfl⟩
      rw [hU] at HS HSN hul
      rw [hF1] at HSN
      obtain ⟨P,hP⟩:∃ X,patN c k=X:=⟨_,rfl⟩
      rw [hP] at hle hpa hpb
      obtain ⟨G,hG⟩:∃ X,lenAt c wk k=X:=⟨_,rfl⟩
      rw [hG] at hle hws
      have HWSE:=hide hws
      clear hF1 hF0 hU hP hG hws
      obtain ⟨q0,q1,q2,q3,q4,q5,q6,q7,q8,q9,q10,q11,q12,q13⟩:=HS.out.1
      rw [HP0.out.1,HP0.out.2.1,HP0.out.2.2] at hpa
      · skip
        have hPv:P=4:=by rw [hpa];simp
        subst hPv
        clear hpa
        rcases (show ((k:Int)+1=c.extra∧wk=53)∨((k:Int)+1=c.extra∧wk=52)∨¬ (k:Int)+1=c.extra by omega) with ⟨hx,hw⟩ | ⟨hx,hw⟩ | hx
        · skip
          have hxb:((k:Int)+1==c.extra)=true:=by simp;omega
          have hwb:(wk==53)=true:=by simp [hw]
          have hGv:G=4+1:=by rw [hle];rw [if_pos hx,hw];omega
          have HX:=hide (show F0+7*(4+1)=F1 by rw [HWSE.out,hGv])
          clear hle hx hw hGv
          go_wp2_with ((at_builtin;refine wpList_append_own _ rfl _ _ 94 rfl w4.heap.size 3 i0 (.int .i64 0) 1 8 Tryz.underlying94 hi hi0 hi1 hi2 rfl (by decide) _ _ _ rfl (HS.out.2.2.2.1.1.alloc _) ⟨wr.heap.size,0,none⟩ 1 1 [.int .i64 (F0+35-1)] rfl rfl ?c1k21 ?c2k21 ?c3k21 ?c4k21 ?c5k21 ?_))
          case c1k21 =>
            intro i u hu
            match i,hu with
            | 0,hu=>simp at hu;subst hu;simp [Addr.add]
            | i+1,hu=>simp at hu
          case c2k21=>intro u hu;simp at hu;subst hu;rfl
          case c3k21=>unfold maxLen;omega
          case c4k21=>omega
          case c5k21=>simp;omega
          · intro v' w' hown' hgrow _
            rw [show F0+35-1=F1-1 by have:=HX.out;omega] at hown'
            have HG:=hide (HS.out.grow (x:=F1-1) _ (by rw [hul];exact hown') hgrow)
            clear hown' hgrow
            go_wp2
            go_roundw
            case rel=>exact ⟨k+1,by go_num,by (rw [HF1.out]) <;> (congr 1) <;> (have:=HX.out;omega),by omega,by rw [HSN.out];exact HG.out⟩
            case measure=>simp [intOf];omega
        · skip
          have hxb:((k:Int)+1==c.extra)=true:=by simp;omega
          have hwb:(wk==53)=false:=by simp [hw]
          have hGv:G=4+0:=by rw [hle];rw [if_pos hx,hw];omega
          have HX:=hide (show F0+7*(4+0)=F1 by rw [HWSE.out,hGv])
          clear hle hx hw hGv
          go_wp2_with ((at_builtin;refine wpList_append_own _ rfl _ _ 94 rfl w4.heap.size 3 i0 (.int .i64 0) 1 8 Tryz.underlying94 hi hi0 hi1 hi2 rfl (by decide) _ _ _ rfl (HS.out.2.2.2.1.1.alloc _) ⟨wr.heap.size,0,none⟩ 1 1 [.int .i64 (F0+28-1)] rfl rfl ?c1k22 ?c2k22 ?c3k22 ?c4k22 ?c5k22 ?_))
          case c1k22 =>
            intro i u hu
            match i,hu with
            | 0,hu=>simp at hu;subst hu;simp [Addr.add]
            | i+1,hu=>simp at hu
          case c2k22=>intro u hu;simp at hu;subst hu;rfl
          case c3k22=>unfold maxLen;omega
          case c4k22=>omega
          case c5k22=>simp;omega
          · intro v' w' hown' hgrow _
            rw [show F0+28-1=F1-1 by have:=HX.out;omega] at hown'
            have HG:=hide (HS.out.grow (x:=F1-1) _ (by rw [hul];exact hown') hgrow)
            clear hown' hgrow
            go_wp2
            go_roundw
            case rel=>exact ⟨k+1,by go_num,by (rw [HF1.out]) <;> (congr 1) <;> (have:=HX.out;omega),by omega,by rw [HSN.out];exact HG.out⟩
            case measure=>simp [intOf];omega
        · skip
          have hxb:((k:Int)+1==c.extra)=false:=by simp;omega
          have hGv:G=4+0:=by rw [hle];rw [if_neg hx]
          have HX:=hide (show F0+7*(4+0)=F1 by rw [HWSE.out,hGv])
          clear hle hx hGv
          go_wp2_with ((at_builtin;refine wpList_append_own _ rfl _ _ 94 rfl w4.heap.size 3 i0 (.int .i64 0) 1 8 Tryz.underlying94 hi hi0 hi1 hi2 rfl (by decide) _ _ _ rfl (HS.out.2.2.2.1.1.alloc _) ⟨wr.heap.size,0,none⟩ 1 1 [.int .i64 (F0+28-1)] rfl rfl ?c1k23 ?c2k23 ?c3k23 ?c4k23 ?c5k23 ?_))
          case c1k23 =>
            intro i u hu
            match i,hu with
            | 0,hu=>simp at hu;subst hu;simp [Addr.add]
            | i+1,hu=>simp at hu
          case c2k23=>intro u hu;simp at hu;subst hu;rfl
          case c3k23=>unfold maxLen;omega
          case c4k23=>omega
          case c5k23=>simp;omega
          · intro v' w' hown' hgrow _
            rw [show F0+28-1=F1-1 by have:=HX.out;omega] at hown'
            have HG:=hide (HS.out.grow (x:=F1-1) _ (by rw [hul];exact hown') hgrow)
            clear hown' hgrow
            go_wp2
            go_roundw
            case rel=>exact ⟨k+1,by go_num,by (rw [HF1.out]) <;> (congr 1) <;> (have:=HX.out;omega),by omega,by rw [HSN.out];exact HG.out⟩
            case measure=>simp [intOf];omega
    · obtain rfl:k=N:=by omega
      have HI:=hide (HS.out.ints (by rw [upto_length];omega))
      have hBel:=HS.out.2.2.2.2
      obtain ⟨U,hU⟩:∃ U,upto (fun i=>F (i+1)-1) k=U:=⟨_,rfl⟩
      have HU:=hide hU
      rw [hU] at HI
      obtain ⟨F0,hF0⟩:∃ X,F k=X:=⟨_,rfl⟩
      rw [hF0]
      clear hU hF0 hfb
      go_wp2
      all_goals first
        | (exfalso;omega)
        | (go_ret2;exact ⟨_,rfl,by rw [HL.out,HU.out];exact HI.out,by (repeat' exact bel)⟩)
theorem r15ends_3 (c:Cal) (y:Int) (w:World) (hn:c.name.size≤1000) (hE:askE c y 1601=0) (hsh:c.shape=3) :
    Calls Tryz.prog 101 #[calV c,.int .i64 y] w (REndsPost c y w):=by
  obtain ⟨hok,hy1,hy2⟩:=ask_ok hE
  have hokB:c.okB=true:=by simpa [Cal.okB] using hok
  have hk6:c.kind≠6:=fun h=>by have:=(ok_shape hok).2.1.1 h;omega
  have h4:¬ c.shape=4:=by omega
  have h5:¬ c.shape=5:=by omega
  have hwE:wksE c y=0:=by simp [wksE,wksB,hokB,hk6,hE]
  have hwv:=(wks_ok hwE).2.2.2.2.2.1
  have HE:=hide hE
  have h4b:(c.shape==4)=false:=by simpa using h4
  have h5b:(c.shape==5)=false:=by simpa using h5
  have hpb:=per_bounds c hokB
  obtain ⟨N,hN⟩:∃ N:Nat,(perV c)=(N:Int):=⟨(perV c).toNat,by omega⟩
  have hL:endsL c y=upto (fun i=>wkDay c y (i+1)-1) N:=by rw [endsL,if_neg h4,if_neg h5,hN];rfl
  have HW:=hide (fun k=>wkDay_bd hok h4 h5 hwv k)
  have HLB:=hide (fun k=>len_bd2 hok h4 h5 hwv k)
  have HPB:=hide (fun k=>pat_bd hok h4 h5 k)
  have HWS:=hide (fun k=>(show wkDay c y (k+1)=wkDay c y k+7*lenAt c (wksV c y) k from rfl))
  have HLEN:=hide (fun k=>(show lenAt c (wksV c y) k=patN c k+if (k:Int)+1=c.extra then wksV c y-52 else 0 from rfl))
  have HPAT:=hide (fun k=>(show patN c k=if k % 3=0 then pat0 c else if k % 3=1 then pat1 c else pat2 c from rfl))
  have hyb:=year_bd c y hE
  have H0:=hide (show wkDay c y 0=startV c y from rfl)
  obtain ⟨D,hD⟩:∃ D,startV c y=D:=⟨_,rfl⟩
  obtain ⟨wk,hwk⟩:∃ D,wksV c y=D:=⟨_,rfl⟩
  rw [hD] at HW hyb H0
  rw [hwk] at hwv HWS HLEN HLB
  rw [hN] at hpb
  have HD:=hide hD
  have HWK:=hide (And.intro hwk hwE)
  have HN:=hide (And.intro hN (show okE c=0 from okE_yes hok))
  have HL:=hide hL
  have hDb:0≤D∧D≤3068037:=⟨hyb.1,hyb.2.1⟩
  have hNb:12≤N∧N≤52:=by omega
  obtain ⟨F,hF⟩:∃ F:Nat→Int,wkDay c y=F:=⟨_,rfl⟩
  rw [hF] at HW HWS H0 HL
  obtain ⟨i0,hi,hi0,hi1,hi2⟩:=info_parts rint_info
  have hs1:(c.shape==1)=false:=by simp [hsh]
  have hs3:(c.shape==3)=true:=by simp [hsh]
  have HP0:=hide (And.intro (show pat0 c=c.cycle by simp [pat0,hsh]) (And.intro (show pat1 c=c.cycle by simp [pat1,hsh]) (show pat2 c=c.cycle by simp [pat2,hsh])))
  clear hsh
  clear hE hok hokB hk6 h4 h5 hwE hL hyb hD hwk hN hpb hF
  simp only [calV]
  go_enter Tryz.func101,Tryz.ntmps101
  go_wp2_with fail
  refine (r15told_any c y _ hn).mono ?_
  rintro e w1 ⟨rfl,hb1⟩
  rw [HE.out]
  have hz1:w.heap.size<w1.heap.size:=by have:=hb1.size;simp at this;omega
  have HB1:Hid (Below w.heap.size w w1):=ww hb1
  have HQ1:=hide (calAt_below hb1 (by simp) (calAt_new w c))
  obtain ⟨q0,q1,q2,q3,q4,q5,q6,q7,q8,q9,q10,q11,q12,q13⟩:=HQ1.out
  clear hb1
  go_wp2_with fail
  refine (r11per_any c _ hn).mono ?_
  rintro e w2 ⟨rfl,hb2⟩
  rw [HN.out.1,HN.out.2]
  have hz2:w.heap.size<w2.heap.size:=by have:=hb2.size;(try simp at this);omega
  have HB2:Hid (Below w.heap.size w w2):=by have hp:=HB1.out;exact ww hb2
  have HQ2:Hid (CalAt w2 w.heap.size c):=by have hp:=HQ1.out;exact qq hb2
  clear q0 q1 q2 q3 q4 q5 q6 q7 q8 q9 q10 q11 q12 q13
  obtain ⟨q0,q1,q2,q3,q4,q5,q6,q7,q8,q9,q10,q11,q12,q13⟩:=HQ2.out
  clear hb2
  go_wp2_with fail
  refine (r13weeks_any c y _ hn).mono ?_
  rintro e w3 ⟨rfl,hb3⟩
  rw [HWK.out.1,HWK.out.2]
  have hz3:w.heap.size<w3.heap.size:=by have:=hb3.size;(try simp at this);omega
  have HB3:Hid (Below w.heap.size w w3):=by have hp:=HB2.out;exact ww hb3
  have HQ3:Hid (CalAt w3 w.heap.size c):=by have hp:=HQ2.out;exact qq hb3
  clear q0 q1 q2 q3 q4 q5 q6 q7 q8 q9 q10 q11 q12 q13
  obtain ⟨q0,q1,q2,q3,q4,q5,q6,q7,q8,q9,q10,q11,q12,q13⟩:=HQ3.out
  clear hb3
  go_wp2_with fail
  refine (r13start_any c y _ hn).mono ?_
  rintro e w4 ⟨rfl,hb4⟩
  rw [HE.out,HD.out]
  have hz4:w.heap.size<w4.heap.size:=by have:=hb4.size;(try simp at this);omega
  have HB4:Hid (Below w.heap.size w w4):=by have hp:=HB3.out;exact ww hb4
  have HQ4:Hid (CalAt w4 w.heap.size c):=by have hp:=HQ3.out;exact qq hb4
  clear q0 q1 q2 q3 q4 q5 q6 q7 q8 q9 q10 q11 q12 q13
  obtain ⟨q0,q1,q2,q3,q4,q5,q6,q7,q8,q9,q10,q11,q12,q13⟩:=HQ4.out
  clear hb4
  have HS1:=hide (show IlSt c w.heap.size w4.heap.size [] (.slice none 0 0) w w4 from ⟨HQ4.out,hz4,Nat.le_refl _,⟨World.ownsRow_nil _ _ _ _,by simp⟩,HB4.out⟩)
  go_wp2_with fail
  go_loopw [7,21,23] (fun s7 s21 s23 wr=>∃ k:Nat,s23=.int .i64 ((k:Int)+1)∧s21=.int .i64 (F k)∧k≤N∧IlSt c w.heap.size w4.heap.size (upto (fun i=>F (i+1)-1) k) s7 w wr) (fun _ _ s _=>(60-intOf s).toNat)
  case atStart=>exact ⟨0,rfl,by rw [H0.out],by omega,HS1.out⟩
  case round =>
    obtain ⟨k,rfl,rfl,hk,hS⟩:=hrel
    have HS:=hide hS
    have hBo:=hS.2.2.1
    have hBz:=hS.2.1
    clear hS
    clear q0 q1 q2 q3 q4 q5 q6 q7 q8 q9 q10 q11 q12 q13
    have hfb:=HW.out k
    by_cases hlt:k<N
    · have hfb1:=HW.out (k+1)
      have hws:=HWS.out k
      have hle:=HLEN.out k
      have hpa:=HPAT.out k
      have hpb:=HPB.out k
      have HSN:=hide (upto_succ (fun i=>F (i+1)-1) k)
      have hul:(upto (fun i=>F (i+1)-1) k).length=k:=upto_length _ _
      obtain ⟨F1,hF1⟩:∃ X,F (k+1)=X:=⟨_,rfl⟩
      rw [hF1] at hfb1 hws
      have HF1:=hide hF1
      obtain ⟨F0,hF0⟩:∃ X,F k=X:=⟨_,rfl⟩
      rw [hF0] at hfb hws
      rw [hF0]
      obtain ⟨U,hU⟩:∃ U,upto (fun i=>F (i+1)-1) k=U:=⟨_,rfl⟩
      rw [hU] at HS HSN hul
      rw [hF1] at HSN
      obtain ⟨P,hP⟩:∃ X,patN c k=X:=⟨_,rfl⟩
      rw [hP] at hle hpa hpb
      obtain ⟨G,hG⟩:∃ X,lenAt c wk k=X:=⟨_,rfl⟩
      rw [hG] at hle hws
      have HWSE:=hide hws
      clear hF1 hF0 hU hP hG hws
      obtain ⟨q0,q1,q2,q3,q4,q5,q6,q7,q8,q9,q10,q11,q12,q13⟩:=HS.out.1
      rw [HP0.out.1,HP0.out.2.1,HP0.out.2.2] at hpa
      · skip
        have hPv:P=c.cycle:=by rw [hpa];simp
        rw [hPv] at hle hpb
        clear hpa hPv
        rcases (show ((k:Int)+1=c.extra∧wk=53)∨((k:Int)+1=c.extra∧wk=52)∨¬ (k:Int)+1=c.extra by omega) with ⟨hx,hw⟩ | ⟨hx,hw⟩ | hx
        · skip
          have hxb:((k:Int)+1==c.extra)=true:=by simp;omega
          have hwb:(wk==53)=true:=by simp [hw]
          have hGv:G=c.cycle+1:=by rw [hle];rw [if_pos hx,hw];omega
          have HX:=hide (show F0+7*(c.cycle+1)=F1 by rw [HWSE.out,hGv])
          clear hle hx hw hGv
          go_wp2_with ((at_builtin;refine wpList_append_own _ rfl _ _ 94 rfl w4.heap.size 3 i0 (.int .i64 0) 1 8 Tryz.underlying94 hi hi0 hi1 hi2 rfl (by decide) _ _ _ rfl (HS.out.2.2.2.1.1.alloc _) ⟨wr.heap.size,0,none⟩ 1 1 [.int .i64 (F0+7*(c.cycle+1)-1)] rfl rfl ?c1k31 ?c2k31 ?c3k31 ?c4k31 ?c5k31 ?_))
          case c1k31 =>
            intro i u hu
            match i,hu with
            | 0,hu=>simp at hu;subst hu;simp [Addr.add]
            | i+1,hu=>simp at hu
          case c2k31=>intro u hu;simp at hu;subst hu;rfl
          case c3k31=>unfold maxLen;omega
          case c4k31=>omega
          case c5k31=>simp;omega
          · intro v' w' hown' hgrow _
            rw [show F0+7*(c.cycle+1)-1=F1-1 by have:=HX.out;omega] at hown'
            have HG:=hide (HS.out.grow (x:=F1-1) _ (by rw [hul];exact hown') hgrow)
            clear hown' hgrow
            go_wp2
            go_roundw
            case rel=>exact ⟨k+1,by go_num,by (rw [HF1.out]) <;> (congr 1) <;> (have:=HX.out;omega),by omega,by rw [HSN.out];exact HG.out⟩
            case measure=>simp [intOf];omega
        · skip
          have hxb:((k:Int)+1==c.extra)=true:=by simp;omega
          have hwb:(wk==53)=false:=by simp [hw]
          have hGv:G=c.cycle+0:=by rw [hle];rw [if_pos hx,hw];omega
          have HX:=hide (show F0+7*(c.cycle+0)=F1 by rw [HWSE.out,hGv])
          clear hle hx hw hGv
          go_wp2_with ((at_builtin;refine wpList_append_own _ rfl _ _ 94 rfl w4.heap.size 3 i0 (.int .i64 0) 1 8 Tryz.underlying94 hi hi0 hi1 hi2 rfl (by decide) _ _ _ rfl (HS.out.2.2.2.1.1.alloc _) ⟨wr.heap.size,0,none⟩ 1 1 [.int .i64 (F0+7*c.cycle-1)] rfl rfl ?c1k32 ?c2k32 ?c3k32 ?c4k32 ?c5k32 ?_))
          case c1k32 =>
            intro i u hu
            match i,hu with
            | 0,hu=>simp at hu;subst hu;simp [Addr.add]
            | i+1,hu=>simp at hu
          case c2k32=>intro u hu;simp at hu;subst hu;rfl
          case c3k32=>unfold maxLen;omega
          case c4k32=>omega
          case c5k32=>simp;omega
          · intro v' w' hown' hgrow _
            rw [show F0+7*c.cycle-1=F1-1 by have:=HX.out;omega] at hown'
            have HG:=hide (HS.out.grow (x:=F1-1) _ (by rw [hul];exact hown') hgrow)
            clear hown' hgrow
            go_wp2
            go_roundw
            case rel=>exact ⟨k+1,by go_num,by (rw [HF1.out]) <;> (congr 1) <;> (have:=HX.out;omega),by omega,by rw [HSN.out];exact HG.out⟩
            case measure=>simp [intOf];omega
        · skip
          have hxb:((k:Int)+1==c.extra)=false:=by simp;omega
          have hGv:G=c.cycle+0:=by rw [hle];rw [if_neg hx]
          have HX:=hide (show F0+7*(c.cycle+0)=F1 by rw [HWSE.out,hGv])
          clear hle hx hGv
          go_wp2_with ((at_builtin;refine wpList_append_own _ rfl _ _ 94 rfl w4.heap.size 3 i0 (.int .i64 0) 1 8 Tryz.underlying94 hi hi0 hi1 hi2 rfl (by decide) _ _ _ rfl (HS.out.2.2.2.1.1.alloc _) ⟨wr.heap.size,0,none⟩ 1 1 [.int .i64 (F0+7*c.cycle-1)] rfl rfl ?c1k33 ?c2k33 ?c3k33 ?c4k33 ?c5k33 ?_))
          case c1k33 =>
            intro i u hu
            match i,hu with
            | 0,hu=>simp at hu;subst hu;simp [Addr.add]
            | i+1,hu=>simp at hu
          case c2k33=>intro u hu;simp at hu;subst hu;rfl
          case c3k33=>unfold maxLen;omega
          case c4k33=>omega
          case c5k33=>simp;omega
          · intro v' w' hown' hgrow _
            rw [show F0+7*c.cycle-1=F1-1 by have:=HX.out;omega] at hown'
            have HG:=hide (HS.out.grow (x:=F1-1) _ (by rw [hul];exact hown') hgrow)
            clear hown' hgrow
            go_wp2
            go_roundw
            case rel=>exact ⟨k+1,by go_num,by (rw [HF1.out]) <;> (congr 1) <;> (have:=HX.out;omega),by omega,by rw [HSN.out];exact HG.out⟩
            case measure=>simp [intOf];omega
    · obtain rfl:k=N:=by omega
      have HI:=hide (HS.out.ints (by rw [upto_length];omega))
      have hBel:=HS.out.2.2.2.2
      obtain ⟨U,hU⟩:∃ U,upto (fun i=>F (i+1)-1) k=U:=⟨_,rfl⟩
      have HU:=hide hU
      rw [hU] at HI
      obtain ⟨F0,hF0⟩:∃ X,F k=X:=⟨_,rfl⟩
      rw [hF0]
      clear hU hF0 hfb
      go_wp2
      all_goals first
        | (exfalso;omega)
        | (go_ret2;exact ⟨_,rfl,by rw [HL.out,HU.out];exact HI.out,by (repeat' exact bel)⟩)
theorem r15ends_any (c:Cal) (y:Int) (w:World) (hn:c.name.size≤1000) (hE:askE c y 1601=0) :
    Calls Tryz.prog 101 #[calV c,.int .i64 y] w (REndsPost c y w):=by
  have hs:=(ok_shape (ask_ok hE).1).2.2
  by_cases h4:c.shape=4
  · exact r15ends_broad c y w hn hE h4
  by_cases h5:c.shape=5
  · exact r15ends_month c y w hn hE h5
  by_cases h1:c.shape=1
  · exact r15ends_1 c y w hn hE h1
  by_cases h2:c.shape=2
  · exact r15ends_2 c y w hn hE h2
  · exact r15ends_3 c y w hn hE (by omega)
def RdI (w:World) (g:Nat) (L:List Int):Prop:=g<w.heap.size∧∀ k,k<L.length→w.cell? ⟨g,k,none⟩=some (.int .i64 (L[k]?.getD 0))
theorem rows_rd {w:World} {base g cap n:Nat} {L:List Int} (h:w.ownsRow base 3 1 (.slice (some ⟨g,0,none⟩) n cap) n (intsCr L)):RdI w g L:=by
  have hc:=h.cells (g:=g) rfl
  have e:∀ k:Nat,(⟨g,0,none⟩:Addr).add k=⟨g,k,none⟩:=by intro k;cases k <;> simp [Addr.add]
  refine ⟨?_,fun k hk=>?_⟩
  · rcases h.2 with ⟨h1,_⟩ | ⟨g',cap',cur,he,h2,hg',h3⟩
    · cases h1
    · cases he;exact (Array.getElem?_eq_some_iff.1 hg').1
  · have:=hc k (.int .i64 (L[k]?.getD 0)) (by simp [intsCr,hk])
    rwa [e] at this
end Go.Proofs.YtjhhmeoibfdcmaaGreat
