/- Contracts of the references: the year in which a day lies (layer 14). -/
import Derived.Test.YtjhhmeoibfdcmaaGreatUq08
import Derived.Test.YtjhhmeoibfdcmaaGreatUq10
import Derived.Test.YtjhhmeoibfdcmaaGreatUq11
import Derived.Test.YtjhhmeoibfdcmaaGreatUq35
import Derived.Test.YtjhhmeoibfdcmaaGreatUq36
set_option linter.unusedSimpArgs false
set_option linter.unusedVariables false
set_option maxRecDepth 100000
set_option maxHeartbeats 12800000
namespace Go.Proofs.YtjhhmeoibfdcmaaGreat
open Go.RowKit Qd
theorem r14of_in (c:Cal) (day:Int) (w:World) (hn:c.name.size≤1000) (hk:c.okB=true) (hd:isB day=true) :
    Calls Tryz.prog 160 #[calV c,.int .i64 day] w fun e w'=>e=.returned (.tuple #[.int .i64 (foundY c day),.int .i64 (foundE c day)])∧Below w.heap.size w w':=by
  have hdd:0≤day∧day<3068037:=by simpa [isB] using hd
  have hyb:=ofY_ok day hdd.1 hdd.2
  have HOK:=hide (show okE c=0 by simp [okE,hk])
  have HNO:=hide (fun (h:∀ z,ofY day-2≤z→z<ofY day-2+(5:Nat)→¬ yrOk c day z)=>(show foundY c day=0∧foundE c day=11 from by
    have hne:¬ ∃ y,yrOk c day y:=by
      rintro ⟨y,hy⟩
      have h1:=yr_near1 hy hd
      have h2:=(ok_rule (ask_ok hy.1).1).2.1
      exact h y (by omega) (by omega) hy
    obtain ⟨f1,_,f3⟩:=found_none hne
    exact ⟨f1,f3 hk hd⟩))
  have HYES:=hide (fun y (h:yrOk c day y)=>(show foundY c day=y∧foundE c day=0 from ⟨(found_yes hd h).1,(found_yes hd h).2.2⟩))
  have HIS:=hide hd
  obtain ⟨Y,hY⟩:∃ Y,ofY day=Y:=⟨_,rfl⟩
  rw [hY] at hyb HNO
  have HY:=hide hY
  have hY1:=hyb.1
  have hY2:=hyb.2.1
  clear hd hyb hY hk
  simp only [calV]
  go_enter Tryz.func160,Tryz.ntmps160
  go_wp2_with fail
  refine (r11check_any c _ hn).mono ?_
  rintro e w1 ⟨rfl,hb1⟩
  rw [HOK.out]
  have hz1:w.heap.size<w1.heap.size:=by have:=hb1.size;simp at this;omega
  have HB1:Hid (Below w.heap.size w w1):=ww hb1
  have HQ1:=hide (calAt_below hb1 (by simp) (calAt_new w c))
  obtain ⟨q0,q1,q2,q3,q4,q5,q6,q7,q8,q9,q10,q11,q12,q13⟩:=HQ1.out
  clear hb1
  go_wp2_with fail
  refine (rof_yes day _ HIS.out).mono ?_
  rintro e w2 ⟨rfl,hb2⟩
  rw [HY.out]
  have hz2:w.heap.size<w2.heap.size:=by have:=hb2.size;(try simp at this);omega
  have HB2:Hid (Below w.heap.size w w2):=by have hp:=HB1.out;exact ww hb2
  have HQ2:Hid (CalAt w2 w.heap.size c):=by have hp:=HQ1.out;exact qq hb2
  clear q0 q1 q2 q3 q4 q5 q6 q7 q8 q9 q10 q11 q12 q13
  obtain ⟨q0,q1,q2,q3,q4,q5,q6,q7,q8,q9,q10,q11,q12,q13⟩:=HQ2.out
  clear hb2
  clear q0 q1 q2 q3 q4 q5 q6 q7 q8 q9 q10 q11 q12 q13
  have HQ0:=hide (calAt_alloc HQ2.out (by omega) (.cells #[.int .i64 Y,.int .i64 (ofM day),.int .i64 (ofD day)] 135))
  have HD0:=hide (show (w2.alloc (.cells #[.int .i64 Y,.int .i64 (ofM day),.int .i64 (ofD day)] 135)).cell? ⟨w2.heap.size,0,none⟩=some (.int .i64 Y) by simp [World.cell?_alloc_at])
  have HB0:=hide (show Below w.heap.size w (w2.alloc (.cells #[.int .i64 Y,.int .i64 (ofM day),.int .i64 (ofD day)] 135)) by have hp:=HB2.out;(repeat' exact bel))
  have hz0:w2.heap.size<(w2.alloc (.cells #[.int .i64 Y,.int .i64 (ofM day),.int .i64 (ofD day)] 135)).heap.size:=by simp
  go_wp2_with fail
  obtain ⟨B0,hB0⟩:∃ B,w2.heap.size=B:=⟨_,rfl⟩
  obtain ⟨W0,hW0⟩:∃ W,w2.alloc (.cells #[.int .i64 Y,.int .i64 (ofM day),.int .i64 (ofD day)] 135)=W:=⟨_,rfl⟩
  rw [hW0] at HQ0 HD0 HB0 hz0 ⊢
  rw [hB0] at HD0 hz0 hz2 ⊢
  clear hW0 hB0
  go_loopw [9] (fun s wr=>∃ k:Nat,s=.int .i64 (Y-2+k)∧k≤5∧(∀ z,Y-2≤z→z<Y-2+k→¬ yrOk c day z)∧Below W0.heap.size W0 wr) (fun s _=>(Y+10-intOf s).toNat)
  case atStart=>exact ⟨0,by simp,by omega,fun z h1 h2=>by omega,Below.refl _ _⟩
  case round =>
    obtain ⟨k,rfl,hk,hno,hB⟩:=hrel
    have HNK:=hide hno
    have HBr:=hide hB
    have hsz:=hB.size
    have hcd:wr.cell? ⟨B0,0,none⟩=some (.int .i64 Y):=(hB.cell (p:=⟨B0,0,none⟩) hz0).trans HD0.out
    have HQr:=hide (calAt_below hB (by omega) HQ0.out)
    clear hno hB
    by_cases hlt:k<5
    · obtain ⟨y,hy⟩:∃ y,Y-2+(k:Int)=y:=⟨_,rfl⟩
      have hyl:y≤Y+2:=by omega
      have hyb1:1598≤y:=by omega
      have hyb2:y≤10001:=by omega
      have HY2:=hide hy
      rw [hy]
      clear hy
      obtain ⟨q0,q1,q2,q3,q4,q5,q6,q7,q8,q9,q10,q11,q12,q13⟩:=HQr.out
      go_wp2_with fail
      all_goals first
        | (exfalso;omega)
        | skip
      refine (r13start_any c y _ hn).mono ?_
      rintro e w3 ⟨rfl,hb3⟩
      have HQ3:=hide (calAt_below hb3 (by omega) HQr.out)
      have HB3:=hide (HBr.out.trans (hb3.mono (by omega)))
      have hcd3:=(hb3.cell (p:=⟨B0,0,none⟩) (by show B0<wr.heap.size;omega)).trans hcd
      have hs3:=hb3.size
      clear q0 q1 q2 q3 q4 q5 q6 q7 q8 q9 q10 q11 q12 q13
      clear hb3 hcd
      obtain ⟨q0,q1,q2,q3,q4,q5,q6,q7,q8,q9,q10,q11,q12,q13⟩:=HQ3.out
      go_wp2_with fail
      refine (r13end_any c y _ hn).mono ?_
      rintro e w4 ⟨rfl,hb4⟩
      have HB4:=hide (HB3.out.trans (hb4.mono (by omega)))
      have hcd4:=(hb4.cell (p:=⟨B0,0,none⟩) (by show B0<w3.heap.size;omega)).trans hcd3
      have hs4:=hb4.size
      clear q0 q1 q2 q3 q4 q5 q6 q7 q8 q9 q10 q11 q12 q13
      clear hb4 hcd3
      have hBo:=HB0.out.trans (HB4.out.mono (by omega))
      by_cases hA:askE c y 1601=0
      · have hAb:(askE c y 1601==0)=true:=by simp [hA]
        by_cases h1:startV c y≤day
        · by_cases h2:day≤endV c y
          · have HF:=hide (HYES.out y ⟨hA,h1,h2⟩)
            clear hA
            go_wp2
            all_goals first
              | (exfalso;omega)
              | (go_ret2;exact ⟨ret_int2 HF.out.1.symm HF.out.2.symm,hBo⟩)
          · have HN:=hide (show ¬ yrOk c day y from fun h=>h2 h.2.2)
            have h2':endV c y<day:=by omega
            clear hA h2 hBo
            go_wp2
            all_goals first
              | (exfalso;omega)
              | skip
            go_roundw
            case rel=>exact ⟨k+1,by rw [← HY2.out];congr 1;omega,by omega,fun z z1 z2=>by
              by_cases hz:z<Y-2+(k:Int)
              · exact HNK.out z z1 hz
              · have:z=y:=by have:=HY2.out;omega
                rw [this];exact HN.out,HB4.out⟩
            case measure=>have:=HY2.out;simp [intOf];omega
        · have HN:=hide (show ¬ yrOk c day y from fun h=>h1 h.2.1)
          have h1':day<startV c y:=by omega
          clear hA h1 hBo
          go_wp2
          all_goals first
            | (exfalso;omega)
            | skip
          go_roundw
          case rel=>exact ⟨k+1,by rw [← HY2.out];congr 1;omega,by omega,fun z z1 z2=>by
            by_cases hz:z<Y-2+(k:Int)
            · exact HNK.out z z1 hz
            · have:z=y:=by have:=HY2.out;omega
              rw [this];exact HN.out,HB4.out⟩
          case measure=>have:=HY2.out;simp [intOf];omega
      · have HN:=hide (show ¬ yrOk c day y from fun h=>hA h.1)
        have hAb:(askE c y 1601==0)=false:=by simpa using hA
        clear hA hBo
        go_wp2
        all_goals first
          | (exfalso;omega)
          | skip
        go_roundw
        case rel=>exact ⟨k+1,by rw [← HY2.out];congr 1;omega,by omega,fun z z1 z2=>by
          by_cases hz:z<Y-2+(k:Int)
          · exact HNK.out z z1 hz
          · have:z=y:=by have:=HY2.out;omega
            rw [this];exact HN.out,HB4.out⟩
        case measure=>have:=HY2.out;simp [intOf];omega
    · obtain rfl:k=5:=by omega
      have HF:=hide (HNO.out HNK.out)
      have hBo:=HB0.out.trans (HBr.out.mono (by omega))
      go_wp2
      all_goals first
        | (exfalso;omega)
        | (go_ret2;exact ⟨ret_int2 HF.out.1.symm HF.out.2.symm,hBo⟩)
theorem r14of_any (c:Cal) (day:Int) (w:World) (hn:c.name.size≤1000) :
    Calls Tryz.prog 160 #[calV c,.int .i64 day] w fun e w'=>e=.returned (.tuple #[.int .i64 (foundY c day),.int .i64 (foundE c day)])∧Below w.heap.size w w':=by
  rcases okE_cases c with ⟨_,h1,h2⟩ | ⟨_,h1,h2⟩
  · cases hd:isB day
    · obtain ⟨f1,_,f3⟩:=found_no_day (c:=c) hd
      have HF:=hide (And.intro f1 (f3 h2))
      have HE:=hide h1
      have HD:=hide hd
      clear f1 f3 h1 h2 hd
      simp only [calV]
      go_enter Tryz.func160,Tryz.ntmps160
      go_wp2_with fail
      refine (r11check_any c _ hn).mono ?_
      rintro e w1 ⟨rfl,hb1⟩
      rw [HE.out]
      have hz1:w.heap.size<w1.heap.size:=by have:=hb1.size;simp at this;omega
      have HB1:Hid (Below w.heap.size w w1):=ww hb1
      have HQ1:=hide (calAt_below hb1 (by simp) (calAt_new w c))
      obtain ⟨q0,q1,q2,q3,q4,q5,q6,q7,q8,q9,q10,q11,q12,q13⟩:=HQ1.out
      clear hb1
      go_wp2_with fail
      refine (rof_no day _ HD.out).mono ?_
      rintro e w2 ⟨rfl,hb2⟩
      have hz2:w.heap.size<w2.heap.size:=by have:=hb2.size;(try simp at this);omega
      have HB2:Hid (Below w.heap.size w w2):=by have hp:=HB1.out;exact ww hb2
      have HQ2:Hid (CalAt w2 w.heap.size c):=by have hp:=HQ1.out;exact qq hb2
      clear q0 q1 q2 q3 q4 q5 q6 q7 q8 q9 q10 q11 q12 q13
      obtain ⟨q0,q1,q2,q3,q4,q5,q6,q7,q8,q9,q10,q11,q12,q13⟩:=HQ2.out
      clear hb2
      have hBel:=HB2.out
      go_wp2
      go_ret2
      exact ⟨ret_int2 HF.out.1.symm HF.out.2.symm,by (repeat' exact bel)⟩
    · exact r14of_in c day w hn h2 hd
  · obtain ⟨f1,_,f3⟩:=found_not_ok (day:=day) h2
    have HF:=hide (And.intro f1 f3)
    have HE:=hide h1
    clear f1 f3 h1 h2
    simp only [calV]
    go_enter Tryz.func160,Tryz.ntmps160
    go_wp2_with fail
    refine (r11check_any c _ hn).mono ?_
    rintro e w1 ⟨rfl,hb1⟩
    rw [HE.out]
    have hz1:w.heap.size<w1.heap.size:=by have:=hb1.size;simp at this;omega
    have HB1:Hid (Below w.heap.size w w1):=ww hb1
    have HQ1:=hide (calAt_below hb1 (by simp) (calAt_new w c))
    obtain ⟨q0,q1,q2,q3,q4,q5,q6,q7,q8,q9,q10,q11,q12,q13⟩:=HQ1.out
    clear hb1
    have hBel:=HB1.out
    go_wp2
    go_ret2
    exact ⟨ret_int2 HF.out.1.symm HF.out.2.symm,by (repeat' exact bel)⟩
theorem r14bounds_bad (c:Cal) (w:World) (hn:c.name.size≤1000) (hk:c.okB=false) :
    Calls Tryz.prog 158 #[calV c] w fun e w'=>e=.returned (.tuple #[.agg #[.int .i64 0,.int .i64 0],.int .i64 1])∧Below w.heap.size w w':=by
  have HA:=hide (show askE c c.first 1601=1 by simp [askE,hk])
  clear hk
  simp only [calV]
  go_enter Tryz.func158,Tryz.ntmps158
  go_wp2_with fail
  refine (r13start_any c c.first _ hn).mono ?_
  rintro e w1 ⟨rfl,hb1⟩
  rw [HA.out]
  have r0:w1.cell? ⟨w.heap.size+1,0,none⟩=some (.int .i64 0):=by rw [hb1.cell (p:=⟨w.heap.size+1,0,none⟩) (by simp;try omega)];simp [World.cell?_alloc_at,World.cell?_alloc_past,World.frozen?_alloc_at,World.frozen?_alloc_past]
  have f0:w1.frozen? ⟨w.heap.size+1,0,none⟩=false:=by rw [hb1.frozen (p:=⟨w.heap.size+1,0,none⟩) (by simp;try omega)];simp [World.cell?_alloc_at,World.cell?_alloc_past,World.frozen?_alloc_at,World.frozen?_alloc_past]
  have r1:w1.cell? ⟨w.heap.size+1,1,none⟩=some (.int .i64 0):=by rw [hb1.cell (p:=⟨w.heap.size+1,1,none⟩) (by simp;try omega)];simp [World.cell?_alloc_at,World.cell?_alloc_past,World.frozen?_alloc_at,World.frozen?_alloc_past]
  have f1:w1.frozen? ⟨w.heap.size+1,1,none⟩=false:=by rw [hb1.frozen (p:=⟨w.heap.size+1,1,none⟩) (by simp;try omega)];simp [World.cell?_alloc_at,World.cell?_alloc_past,World.frozen?_alloc_at,World.frozen?_alloc_past]
  have hsz:w.heap.size+1<w1.heap.size:=by have:=hb1.size;simp at this;omega
  have HW:=hide (show Below w.heap.size w w1 by (repeat' exact bel))
  clear hb1
  go_wp2
  exact bodyPost_ret (v:=.tuple #[.agg #[.int .i64 0,.int .i64 0],.int .i64 1]) (by simp (maxDischargeDepth:=9) [results,Tryz.results158,go_sem,r0,r1,f0,f1,hsz]) rfl ⟨rfl,by have hWo:=HW.out;(repeat' exact bel)⟩
theorem r14bounds_ok (c:Cal) (w:World) (hn:c.name.size≤1000) (hk:c.okB=true) :
    Calls Tryz.prog 158 #[calV c] w fun e w'=>e=.returned (.tuple #[.agg #[.int .i64 (startV c c.first),.int .i64 (endV c c.last)],.int .i64 0])∧Below w.heap.size w w':=by
  have HA:=hide (ok_years hk).1
  clear hk
  simp only [calV]
  go_enter Tryz.func158,Tryz.ntmps158
  go_wp2_with fail
  refine (r13start_any c c.first _ hn).mono ?_
  rintro e w1 ⟨rfl,hb1⟩
  rw [HA.out]
  have r0:w1.cell? ⟨w.heap.size+1,0,none⟩=some (.int .i64 0):=by rw [hb1.cell (p:=⟨w.heap.size+1,0,none⟩) (by simp;try omega)];simp [World.cell?_alloc_at,World.cell?_alloc_past,World.frozen?_alloc_at,World.frozen?_alloc_past]
  have f0:w1.frozen? ⟨w.heap.size+1,0,none⟩=false:=by rw [hb1.frozen (p:=⟨w.heap.size+1,0,none⟩) (by simp;try omega)];simp [World.cell?_alloc_at,World.cell?_alloc_past,World.frozen?_alloc_at,World.frozen?_alloc_past]
  have r1:w1.cell? ⟨w.heap.size+1,1,none⟩=some (.int .i64 0):=by rw [hb1.cell (p:=⟨w.heap.size+1,1,none⟩) (by simp;try omega)];simp [World.cell?_alloc_at,World.cell?_alloc_past,World.frozen?_alloc_at,World.frozen?_alloc_past]
  have f1:w1.frozen? ⟨w.heap.size+1,1,none⟩=false:=by rw [hb1.frozen (p:=⟨w.heap.size+1,1,none⟩) (by simp;try omega)];simp [World.cell?_alloc_at,World.cell?_alloc_past,World.frozen?_alloc_at,World.frozen?_alloc_past]
  have hsz:w.heap.size+1<w1.heap.size:=by have:=hb1.size;simp at this;omega
  have hsz0:w.heap.size<w1.heap.size:=by omega
  have HQ1:=hide (calAt_below (B:=w.heap.size) (c:=c) hb1 (by simp;omega) (calAt_alloc (calAt_new w c) (by simp) _))
  have HW:=hide (show Below w.heap.size w w1 by (repeat' exact bel))
  obtain ⟨q0,q1,q2,q3,q4,q5,q6,q7,q8,q9,q10,q11,q12,q13⟩:=HQ1.out
  clear hb1
  go_wp2_with fail
  refine (r13end_any c c.last _ hn).mono ?_
  rintro e w2 ⟨rfl,hb2⟩
  have x0:w2.cell? ⟨w.heap.size+1,0,none⟩=some (.int .i64 0):=by rw [hb2.cell (p:=⟨w.heap.size+1,0,none⟩) (by show w.heap.size+1<w1.heap.size;omega)];exact r0
  have y0:w2.frozen? ⟨w.heap.size+1,0,none⟩=false:=by rw [hb2.frozen (p:=⟨w.heap.size+1,0,none⟩) (by show w.heap.size+1<w1.heap.size;omega)];exact f0
  have x1:w2.cell? ⟨w.heap.size+1,1,none⟩=some (.int .i64 0):=by rw [hb2.cell (p:=⟨w.heap.size+1,1,none⟩) (by show w.heap.size+1<w1.heap.size;omega)];exact r1
  have y1:w2.frozen? ⟨w.heap.size+1,1,none⟩=false:=by rw [hb2.frozen (p:=⟨w.heap.size+1,1,none⟩) (by show w.heap.size+1<w1.heap.size;omega)];exact f1
  have hsz2:w.heap.size+1<w2.heap.size:=Nat.lt_of_lt_of_le hsz hb2.size
  have HW2:=hide (HW.out.trans (hb2.mono (by omega)))
  clear q0 q1 q2 q3 q4 q5 q6 q7 q8 q9 q10 q11 q12 q13
  clear hb2 r0 r1 f0 f1
  go_wp2
  exact bodyPost_ret (v:=.tuple #[.agg #[.int .i64 (startV c c.first),.int .i64 (endV c c.last)],.int .i64 0]) (by simp (maxDischargeDepth:=9) [results,Tryz.results158,go_sem,x0,x1,y0,y1,hsz2]) rfl ⟨rfl,by have hWo:=HW2.out;(repeat' exact bel)⟩
theorem r14served_any (c:Cal) (day:Int) (w:World) (hn:c.name.size≤1000) :
    Calls Tryz.prog 99 #[calV c,.int .i64 day] w fun e w'=>e=.returned (.tuple #[.int .i64 (servY c day),.int .i64 (servE c day)])∧Below w.heap.size w w':=by
  rcases okE_cases c with ⟨_,h1,h2⟩ | ⟨_,h1,h2⟩
  · have HK:=hide h2
    cases hd:isB day
    · have he : servE c day = 4 := by
        have:=(found_no_day (c:=c) hd).2.2 h2
        simp [servE,h2,this]
      have HF:=hide (show servY c day=0∧servE c day=4 from ⟨by rw [servY,if_neg (by omega)],he⟩)
      have HD:=hide hd
      clear h1 h2 hd he
      simp only [calV]
      go_enter Tryz.func99,Tryz.ntmps99
      go_wp2_with fail
      refine (r14bounds_ok c _ hn HK.out).mono ?_
      rintro e w1 ⟨rfl,hb1⟩
      have hz1:w.heap.size<w1.heap.size:=by have:=hb1.size;simp at this;omega
      have HB1:Hid (Below w.heap.size w w1):=ww hb1
      have HQ1:=hide (calAt_below hb1 (by simp) (calAt_new w c))
      obtain ⟨q0,q1,q2,q3,q4,q5,q6,q7,q8,q9,q10,q11,q12,q13⟩:=HQ1.out
      clear hb1
      go_wp2_with fail
      refine (rof_no day _ HD.out).mono ?_
      rintro e w2 ⟨rfl,hb2⟩
      have hz2:w.heap.size<w2.heap.size:=by have:=hb2.size;(try simp at this);omega
      have HB2:Hid (Below w.heap.size w w2):=by have hp:=HB1.out;exact ww hb2
      have HQ2:Hid (CalAt w2 w.heap.size c):=by have hp:=HQ1.out;exact qq hb2
      clear q0 q1 q2 q3 q4 q5 q6 q7 q8 q9 q10 q11 q12 q13
      obtain ⟨q0,q1,q2,q3,q4,q5,q6,q7,q8,q9,q10,q11,q12,q13⟩:=HQ2.out
      clear hb2
      have hBel:=HB2.out
      go_wp2
      go_ret2
      exact ⟨ret_int2 HF.out.1.symm HF.out.2.symm,by (repeat' exact bel)⟩
    · have HD:=hide hd
      rcases (show day<startV c c.first∨(startV c c.first≤day∧endV c c.last<day)∨(startV c c.first≤day∧day≤endV c c.last) by omega) with hx | hx | hx
      · have he : servE c day = 11 := by
          simp only [servE,h2]
          by_cases hy:∃ y,yrOk c day y
          · obtain ⟨y,hy⟩:=hy
            rw [(found_yes hd hy).2.2]
            simp;omega
          · rw [(found_none hy).2.2 h2 hd];simp
        have HF:=hide (show servY c day=0∧servE c day=11 from ⟨by rw [servY,if_neg (by omega)],he⟩)
        clear h1 h2 hd he
        simp only [calV]
        go_enter Tryz.func99,Tryz.ntmps99
        go_wp2_with fail
        refine (r14bounds_ok c _ hn HK.out).mono ?_
        rintro e w1 ⟨rfl,hb1⟩
        have hz1:w.heap.size<w1.heap.size:=by have:=hb1.size;simp at this;omega
        have HB1:Hid (Below w.heap.size w w1):=ww hb1
        have HQ1:=hide (calAt_below hb1 (by simp) (calAt_new w c))
        obtain ⟨q0,q1,q2,q3,q4,q5,q6,q7,q8,q9,q10,q11,q12,q13⟩:=HQ1.out
        clear hb1
        go_wp2_with fail
        refine (rof_yes day _ HD.out).mono ?_
        rintro e w2 ⟨rfl,hb2⟩
        have HS2:=hide (spAt_below (B:=w1.heap.size) (s:=⟨startV c c.first,endV c c.last⟩) hb2 (by simp) (spAt_fresh w1 ⟨startV c c.first,endV c c.last⟩))
        have hS2:w1.heap.size<w2.heap.size:=by have:=hb2.size;simp at this;omega
        have hz2:w.heap.size<w2.heap.size:=by have:=hb2.size;(try simp at this);omega
        have HB2:Hid (Below w.heap.size w w2):=by have hp:=HB1.out;exact ww hb2
        have HQ2:Hid (CalAt w2 w.heap.size c):=by have hp:=HQ1.out;exact qq hb2
        clear q0 q1 q2 q3 q4 q5 q6 q7 q8 q9 q10 q11 q12 q13
        obtain ⟨q0,q1,q2,q3,q4,q5,q6,q7,q8,q9,q10,q11,q12,q13⟩:=HQ2.out
        clear hb2
        have hBel:=HB2.out
        obtain ⟨s0,s1⟩:=HS2.out
        simp only at s0 s1
        go_wp2
        all_goals first
          | (exfalso;omega)
          | (go_ret2;exact ⟨ret_int2 HF.out.1.symm HF.out.2.symm,by (repeat' exact bel)⟩)
      · obtain ⟨hx1,hx2⟩:=hx
        have he:servE c day=11:=by
          simp only [servE,h2]
          by_cases hy:∃ y,yrOk c day y
          · obtain ⟨y,hy⟩:=hy
            rw [(found_yes hd hy).2.2]
            simp;omega
          · rw [(found_none hy).2.2 h2 hd];simp
        have HF:=hide (show servY c day=0∧servE c day=11 from ⟨by rw [servY,if_neg (by omega)],he⟩)
        clear h1 h2 hd he
        simp only [calV]
        go_enter Tryz.func99,Tryz.ntmps99
        go_wp2_with fail
        refine (r14bounds_ok c _ hn HK.out).mono ?_
        rintro e w1 ⟨rfl,hb1⟩
        have hz1:w.heap.size<w1.heap.size:=by have:=hb1.size;simp at this;omega
        have HB1:Hid (Below w.heap.size w w1):=ww hb1
        have HQ1:=hide (calAt_below hb1 (by simp) (calAt_new w c))
        obtain ⟨q0,q1,q2,q3,q4,q5,q6,q7,q8,q9,q10,q11,q12,q13⟩:=HQ1.out
        clear hb1
        go_wp2_with fail
        refine (rof_yes day _ HD.out).mono ?_
        rintro e w2 ⟨rfl,hb2⟩
        have HS2:=hide (spAt_below (B:=w1.heap.size) (s:=⟨startV c c.first,endV c c.last⟩) hb2 (by simp) (spAt_fresh w1 ⟨startV c c.first,endV c c.last⟩))
        have hS2:w1.heap.size<w2.heap.size:=by have:=hb2.size;simp at this;omega
        have hz2:w.heap.size<w2.heap.size:=by have:=hb2.size;(try simp at this);omega
        have HB2:Hid (Below w.heap.size w w2):=by have hp:=HB1.out;exact ww hb2
        have HQ2:Hid (CalAt w2 w.heap.size c):=by have hp:=HQ1.out;exact qq hb2
        clear q0 q1 q2 q3 q4 q5 q6 q7 q8 q9 q10 q11 q12 q13
        obtain ⟨q0,q1,q2,q3,q4,q5,q6,q7,q8,q9,q10,q11,q12,q13⟩:=HQ2.out
        clear hb2
        have hBel:=HB2.out
        obtain ⟨s0,s1⟩:=HS2.out
        simp only at s0 s1
        go_wp2
        all_goals first
          | (exfalso;omega)
          | (go_ret2;exact ⟨ret_int2 HF.out.1.symm HF.out.2.symm,by (repeat' exact bel)⟩)
      · obtain ⟨hx1,hx2⟩:=hx
        have HF:=hide (show servY c day=foundY c day∧servE c day=foundE c day from by
          by_cases hy:∃ y,yrOk c day y
          · obtain ⟨y,hy⟩:=hy
            have h0:=(found_yes hd hy).2.2
            have he:servE c day=0:=by simp [servE,h2,h0,hx1,hx2]
            exact ⟨by rw [servY,if_pos he],by rw [he,h0]⟩
          · obtain ⟨g1,_,g3⟩:=found_none hy
            have h0:=g3 h2 hd
            have he:servE c day=11:=by simp [servE,h2,h0]
            exact ⟨by rw [servY,if_neg (by omega),g1],by rw [he,h0]⟩)
        obtain ⟨FY,hFY⟩:∃ X,foundY c day=X:=⟨_,rfl⟩
        obtain ⟨FE,hFE⟩:∃ X,foundE c day=X:=⟨_,rfl⟩
        rw [hFY,hFE] at HF
        have HFF:=hide (And.intro hFY hFE)
        clear h1 h2 hd hFY hFE
        simp only [calV]
        go_enter Tryz.func99,Tryz.ntmps99
        go_wp2_with fail
        refine (r14bounds_ok c _ hn HK.out).mono ?_
        rintro e w1 ⟨rfl,hb1⟩
        have hz1:w.heap.size<w1.heap.size:=by have:=hb1.size;simp at this;omega
        have HB1:Hid (Below w.heap.size w w1):=ww hb1
        have HQ1:=hide (calAt_below hb1 (by simp) (calAt_new w c))
        obtain ⟨q0,q1,q2,q3,q4,q5,q6,q7,q8,q9,q10,q11,q12,q13⟩:=HQ1.out
        clear hb1
        go_wp2_with fail
        refine (rof_yes day _ HD.out).mono ?_
        rintro e w2 ⟨rfl,hb2⟩
        have HS2:=hide (spAt_below (B:=w1.heap.size) (s:=⟨startV c c.first,endV c c.last⟩) hb2 (by simp) (spAt_fresh w1 ⟨startV c c.first,endV c c.last⟩))
        have hS2:w1.heap.size<w2.heap.size:=by have:=hb2.size;simp at this;omega
        have hz2:w.heap.size<w2.heap.size:=by have:=hb2.size;(try simp at this);omega
        have HB2:Hid (Below w.heap.size w w2):=by have hp:=HB1.out;exact ww hb2
        have HQ2:Hid (CalAt w2 w.heap.size c):=by have hp:=HQ1.out;exact qq hb2
        clear q0 q1 q2 q3 q4 q5 q6 q7 q8 q9 q10 q11 q12 q13
        obtain ⟨q0,q1,q2,q3,q4,q5,q6,q7,q8,q9,q10,q11,q12,q13⟩:=HQ2.out
        clear hb2
        obtain ⟨s0,s1⟩:=HS2.out
        simp only at s0 s1
        go_wp2_with fail
        all_goals first
          | (exfalso;omega)
          | skip
        refine (r14of_any c day _ hn).mono ?_
        rintro e w3 ⟨rfl,hb3⟩
        rw [HFF.out.1,HFF.out.2]
        have hz3:w.heap.size<w3.heap.size:=by have:=hb3.size;(try simp at this);omega
        have HB3:Hid (Below w.heap.size w w3):=by have hp:=HB2.out;exact ww hb3
        have HQ3:Hid (CalAt w3 w.heap.size c):=by have hp:=HQ2.out;exact qq hb3
        clear q0 q1 q2 q3 q4 q5 q6 q7 q8 q9 q10 q11 q12 q13
        obtain ⟨q0,q1,q2,q3,q4,q5,q6,q7,q8,q9,q10,q11,q12,q13⟩:=HQ3.out
        clear hb3
        have hBel:=HB3.out
        go_wp2
        go_ret2
        exact ⟨ret_int2 HF.out.1.symm HF.out.2.symm,by (repeat' exact bel)⟩
  · have HK:=hide h2
    have he:servE c day=1:=by simp [servE,h2]
    have HF:=hide (show servY c day=0∧servE c day=1 from ⟨by rw [servY,if_neg (by omega)],he⟩)
    clear h1 h2 he
    simp only [calV]
    go_enter Tryz.func99,Tryz.ntmps99
    go_wp2_with fail
    refine (r14bounds_bad c _ hn HK.out).mono ?_
    rintro e w1 ⟨rfl,hb1⟩
    have hz1:w.heap.size<w1.heap.size:=by have:=hb1.size;simp at this;omega
    have HB1:Hid (Below w.heap.size w w1):=ww hb1
    have HQ1:=hide (calAt_below hb1 (by simp) (calAt_new w c))
    obtain ⟨q0,q1,q2,q3,q4,q5,q6,q7,q8,q9,q10,q11,q12,q13⟩:=HQ1.out
    clear hb1
    have hBel:=HB1.out
    go_wp2
    go_ret2
    exact ⟨ret_int2 HF.out.1.symm HF.out.2.symm,by (repeat' exact bel)⟩
end Go.Proofs.YtjhhmeoibfdcmaaGreat
