/- Contracts of the references: days (layer 5). Contracts of the references: days, second part; weeks (layers 5, 6). Contracts of the references: last and near weekdays (layer 6). Contracts of the references: dates of days; last and near weekdays (layers 5, 6). -/
import Derived.Test.YtjhhmeoibfdcmaaGreatUq02
import Derived.Test.YtjhhmeoibfdcmaaGreatUq05
set_option linter.unusedSimpArgs false
set_option linter.unusedVariables false
set_option maxRecDepth 100000
set_option maxHeartbeats 12800000
namespace Go.Proofs.YtjhhmeoibfdcmaaGreat
open Go.RowKit Qd
theorem rleap_any (y:Int) (w:World) :
    Calls Tryz.prog 189 #[.int .i64 y] w fun e w'=>e=.returned (.bool (leapB y))∧w=w':=by
  by_cases hy:1600≤y∧y≤9999
  · have e4:y.tmod 4=y % 4:=Int.tmod_eq_emod_of_nonneg (by omega)
    have e100:y.tmod 100=y % 100:=Int.tmod_eq_emod_of_nonneg (by omega)
    have e400:y.tmod 400=y % 400:=Int.tmod_eq_emod_of_nonneg (by omega)
    have H:=hide (show leapB y=(decide (y % 400=0) || (decide (y % 4=0)&&decide (y % 100≠0))) by simp [leapB,hy.1,hy.2])
    go_enter Tryz.func189,Tryz.ntmps189
    go_wp2
    all_goals first
      | (exfalso;omega)
      | (go_ret;refine ⟨ret_bool ?_,rfl⟩;rw [H.out];simp;omega)
      | (go_ret;refine ⟨ret_bool ?_,rfl⟩;rw [H.out];grind)
  · have H:=hide (show leapB y=false by simp [leapB];omega)
    rcases (show y<1600∨(1600≤y∧9999<y) by omega) with h | ⟨h,h2⟩
    all_goals
      go_enter Tryz.func189,Tryz.ntmps189
      go_wp2
      all_goals first
        | (exfalso;omega)
        | (go_ret;exact ⟨ret_bool H.out.symm,rfl⟩)
theorem len_4 (y m:Int) (h:thereB y m=true) (hm:m=4∨m=6∨m=9∨m=11):lenV y m=30:=by
  simp only [lenV,h,if_true,aheadV,tabV]
  rcases hm with rfl | rfl | rfl | rfl <;> simp <;> split <;> omega
theorem len_2 (y:Int) (h:thereB y 2=true):lenV y 2=28+if leapB y=true then 1 else 0:=by
  simp only [lenV,h,if_true,aheadV,tabV]
  cases leapB y <;> simp
theorem len_31 (y m:Int) (h:thereB y m=true) (hm:¬ (m=4∨m=6∨m=9∨m=11)∧¬ m=2):lenV y m=31:=by
  have hm2:m=1∨m=3∨m=5∨m=7∨m=8∨m=10∨m=12:=by simp [thereB] at h;omega
  simp only [lenV,h,if_true,aheadV,tabV]
  rcases hm2 with rfl | rfl | rfl | rfl | rfl | rfl | rfl <;> simp <;> split <;> omega
theorem rlength_any (y m:Int) (w:World) :
    Calls Tryz.prog 120 #[.int .i64 y,.int .i64 m] w fun e w'=>e=.returned (.tuple #[.int .i64 (lenV y m),.int .i64 (lenE y m)])∧w=w':=by
  by_cases hy:1600≤y∧y≤9999∧1≤m∧m≤12
  · have ht:thereB y m=true:=by simp [thereB];omega
    have HE:=hide (show lenE y m=0 by simp [lenE,ht])
    obtain ⟨hy1,hy2,hy3,hy4⟩:=hy
    by_cases h4:m=4∨m=6∨m=9∨m=11
    · have HV:=hide (len_4 y m ht h4)
      clear ht
      rcases h4 with rfl | rfl | rfl | rfl
      all_goals
        go_enter Tryz.func120,Tryz.ntmps120
        go_wp2_with fail
        all_goals first
          | (exfalso;omega)
          | (go_ret2;exact ⟨ret_int2 HV.out.symm HE.out.symm,rfl⟩)
    · by_cases h2:m=2
      · subst h2
        have HV:=hide (len_2 y ht)
        clear ht
        cases hl:leapB y
        all_goals
          rw [hl] at HV
          go_enter Tryz.func120,Tryz.ntmps120
          go_wp2_with (first | (go_at_call 189;refine (rleap_any _ _).mono ?_;rintro e w' ⟨rfl,rfl⟩;rw [hl]))
          all_goals first
            | (exfalso;omega)
            | (go_ret2;exact ⟨ret_int2 (by rw [HV.out];simp) HE.out.symm,rfl⟩)
      · have HV:=hide (len_31 y m ht ⟨h4,h2⟩)
        clear ht
        have n1:(m==4)=false:=by simp;omega
        have n2:(m==6)=false:=by simp;omega
        have n3:(m==9)=false:=by simp;omega
        have n4:(m==11)=false:=by simp;omega
        have n5:(m==2)=false:=by simp;omega
        clear h4 h2
        go_enter Tryz.func120,Tryz.ntmps120
        go_wp2_with fail
        all_goals first
          | (exfalso;omega)
          | (go_ret2;exact ⟨ret_int2 HV.out.symm HE.out.symm,rfl⟩)
  · have HV:=hide (show lenV y m=0 by simp [lenV,thereB];omega)
    have HE:=hide (show lenE y m=4 by simp [lenE,thereB];omega)
    rcases (show y<1600∨(1600≤y∧9999<y)∨(1600≤y∧y≤9999∧m<1)∨(1600≤y∧y≤9999∧1≤m∧12<m) by omega) with h | ⟨h,h2⟩ | ⟨h,h2,h3⟩ | ⟨h,h2,h3,h4⟩
    all_goals
      go_enter Tryz.func120,Tryz.ntmps120
      go_wp2_with fail
      all_goals first
        | (exfalso;omega)
        | (go_ret2;exact ⟨ret_int2 HV.out.symm HE.out.symm,rfl⟩)
theorem rdcheck_any (y m d:Int) (w:World) :
    Calls Tryz.prog 190 #[.agg #[.int .i64 y,.int .i64 m,.int .i64 d]] w fun e w'=>e=.returned (.int .i64 (dateE y m d))∧Below w.heap.size w w':=by
  cases ht:thereB y m
  · have hl:lenE y m=4:=by simp [lenE,ht]
    have H2:Hid (dateE y m d=4):=by simp [Hid,dateE,dateB,ht]
    go_enter Tryz.func190,Tryz.ntmps190
    go_wp2_with fail
    refine (rlength_any _ _ _).mono ?_
    rintro e w1 ⟨rfl,rfl⟩
    rw [hl]
    go_wp2
    all_goals first | (exfalso;omega) | (go_ret;exact ⟨ret_int H2.out.symm,by (repeat' exact bel)⟩)
  · have hl:lenE y m=0:=by simp [lenE,ht]
    have hr:d<1∨(1≤d∧lenV y m<d)∨(1≤d∧d≤lenV y m):=by omega
    have hd:dateE y m d=if 1≤d∧d≤lenV y m then 0 else 4:=by simp [dateE,dateB,ht]
    have HD:=hide hd
    clear hd
    obtain ⟨v,hv⟩:∃ v,dateE y m d=v:=⟨_,rfl⟩
    have HV:=hide hv
    rcases hr with hr | ⟨hr,hr2⟩ | ⟨hr,hr2⟩
    · have h4:v=4:=by rw [← hv,HD.out,if_neg (by omega)]
      subst h4
      clear hv
      go_enter Tryz.func190,Tryz.ntmps190
      go_wp2_with fail
      refine (rlength_any _ _ _).mono ?_
      rintro e w1 ⟨rfl,rfl⟩
      rw [hl]
      go_wp2
      all_goals first
        | (exfalso;omega)
        | (go_ret;exact ⟨ret_int HV.out.symm,by (repeat' exact bel)⟩)
    · have h4:v=4:=by rw [← hv,HD.out,if_neg (by omega)]
      subst h4
      clear hv
      go_enter Tryz.func190,Tryz.ntmps190
      go_wp2_with fail
      refine (rlength_any _ _ _).mono ?_
      rintro e w1 ⟨rfl,rfl⟩
      rw [hl]
      go_wp2
      all_goals first
        | (exfalso;omega)
        | (go_ret;exact ⟨ret_int HV.out.symm,by (repeat' exact bel)⟩)
    · have h4:v=0:=by rw [← hv,HD.out,if_pos ⟨hr,hr2⟩]
      subst h4
      clear hv
      go_enter Tryz.func190,Tryz.ntmps190
      go_wp2_with fail
      refine (rlength_any _ _ _).mono ?_
      rintro e w1 ⟨rfl,rfl⟩
      rw [hl]
      go_wp2
      all_goals first
        | (exfalso;omega)
        | (go_ret;exact ⟨ret_int HV.out.symm,by (repeat' exact bel)⟩)
def longV (y:Int):Int:=if leapB y=true then 366 else 365
theorem rlong_any (y:Int) (w:World) :
    Calls Tryz.prog 191 #[.int .i64 y] w fun e w'=>e=.returned (.int .i64 (longV y))∧w=w':=by
  cases hl:leapB y
  all_goals
    have H:=hide (show longV y=if leapB y=true then 366 else 365 from rfl)
    rw [hl] at H
    go_enter Tryz.func191,Tryz.ntmps191
    go_wp2_with (first | (go_at_call 189;refine (rleap_any _ _).mono ?_;rintro e w' ⟨rfl,rfl⟩;rw [hl]))
    go_ret
    exact ⟨ret_int (by rw [H.out];rfl),rfl⟩
theorem years_long (y:Int) (h1:1600≤y) (h2:y≤9999):yearsV (y+1)=yearsV y+longV y:=by
  rw [years_succ y h1 h2,longV];split <;> omega
theorem years_400 (y:Int) (h1:1600≤y) (h2:(y-1600) % 400=0):yearsV (y+400)=yearsV y+146097:=by
  unfold yearsV;omega
theorem long_bd (y:Int):365≤longV y∧longV y≤366:=by unfold longV;split <;> omega
theorem rday_no (y m d:Int) (w:World) (hd:dateB y m d=false) :
    Calls Tryz.prog 121 #[.agg #[.int .i64 y,.int .i64 m,.int .i64 d]] w fun e w'=>e=.returned (.tuple #[.int .i64 (dayV y m d),.int .i64 (dateE y m d)])∧Below w.heap.size w w':=by
  have hl:dateE y m d=4:=by simp [dateE,hd]
  have H1:=hide (show dayV y m d=0 by simp [dayV,hd])
  have H2:=hide hl
  clear hl
  go_enter Tryz.func121,Tryz.ntmps121
  go_wp2_with fail
  refine (rdcheck_any _ _ _ _).mono ?_
  rintro e w1 ⟨rfl,hb1⟩
  rw [H2.out]
  have hz1:w.heap.size<w1.heap.size:=by have:=hb1.size;simp at this;omega
  have hBel:Below w.heap.size w w1:=by refine Below.trans ?_ (hb1.mono (by simp));(repeat' exact bel)
  clear hb1
  go_wp2
  go_ret2
  exact ⟨ret_int2 H1.out.symm H2.out.symm,by (repeat' exact bel)⟩
theorem rday_yes (y m d:Int) (w:World) (hd:dateB y m d=true) :
    Calls Tryz.prog 121 #[.agg #[.int .i64 y,.int .i64 m,.int .i64 d]] w fun e w'=>e=.returned (.tuple #[.int .i64 (dayV y m d),.int .i64 (dateE y m d)])∧Below w.heap.size w w':=by
  have H2:=hide (show dateE y m d=0 by simp [dateE,hd])
  have H1:=hide (show dayV y m d=yearsV y+aheadV y m+d-1 by rw [dayV,if_pos hd];rfl)
  have ht:1600≤y∧y≤9999∧1≤m∧m≤12∧1≤d∧d≤lenV y m:=by simp [dateB,thereB] at hd;omega
  have hlb:=len_bd y m
  have hyb:=fun z (h1:1600≤z) (h2:z≤10000)=>years_bd z h1 h2
  have HYB:=hide hyb
  have HY4:=hide years_400
  have HYL:=hide years_long
  have hab:=ahead_bd y
  have HAB:=hide hab
  clear hd hyb hab
  go_enter Tryz.func121,Tryz.ntmps121
  go_wp2_with fail
  refine (rdcheck_any _ _ _ _).mono ?_
  rintro e w1 ⟨rfl,hb1⟩
  rw [H2.out]
  have hz1:w.heap.size<w1.heap.size:=by have:=hb1.size;simp at this;omega
  have HB:=hide (show Below w.heap.size w w1 by refine Below.trans ?_ (hb1.mono (by simp));(repeat' exact bel))
  have GD:=hide ((BlkIs.new w #[.int .i64 y,.int .i64 m,.int .i64 d] 135).call hb1)
  have d0:w1.cell? ⟨w.heap.size,0,none⟩=some (.int .i64 y):=GD.out.cell 0
  have d1:w1.cell? ⟨w.heap.size,1,none⟩=some (.int .i64 m):=GD.out.cell 1
  have d2:w1.cell? ⟨w.heap.size,2,none⟩=some (.int .i64 d):=GD.out.cell 2
  clear hb1
  go_wp2_with fail
  go_loop [5,6] (fun sn sy=>∃ z:Int,sy=.int .i64 z∧sn=.int .i64 (yearsV z)∧1600≤z∧z≤y∧(z-1600) % 400=0) (fun _ sy=>(10000-intOf sy).toNat)
  case atStart=>exact ⟨1600,rfl,by rw [years_1600],by omega,by omega,by omega⟩
  case round =>
    obtain ⟨z,rfl,rfl,hz2,hz3,hz4⟩:=hrel
    have hzb:=HYB.out z hz2 (by omega)
    by_cases hlt:z+400≤y
    · have HN:=hide (HY4.out z hz2 hz4)
      obtain ⟨Y,hY⟩:∃ Y,yearsV z=Y:=⟨_,rfl⟩
      rw [hY] at HN hzb
      rw [hY]
      clear hY
      go_wp2
      go_round
      case rel=>exact ⟨z+400,rfl,by rw [HN.out],by omega,by omega,by omega⟩
      case measure=>simp [intOf];omega
    · go_wp2_with fail
      go_loop [5,6] (fun sn sy=>∃ z:Int,sy=.int .i64 z∧sn=.int .i64 (yearsV z)∧1600≤z∧z≤y) (fun _ sy=>(10000-intOf sy).toNat)
      case atStart=>exact ⟨z,rfl,rfl,hz2,hz3⟩
      case round =>
        clear hzb hz4 hlt
        obtain ⟨z,rfl,rfl,hz2,hz3⟩:=hrel
        have hzb:=HYB.out z hz2 (by omega)
        by_cases hlt:z<y
        · have HN:=hide (HYL.out z hz2 (by omega))
          have hlz:=long_bd z
          obtain ⟨Y,hY⟩:∃ Y,yearsV z=Y:=⟨_,rfl⟩
          obtain ⟨G,hG⟩:∃ Y,longV z=Y:=⟨_,rfl⟩
          have HG:=hide hG
          rw [hY,hG] at HN
          rw [hY] at hzb
          rw [hG] at hlz
          rw [hY]
          clear hY hG
          go_wp2_with fail
          refine (rlong_any _ _).mono ?_
          rintro e w2 ⟨rfl,rfl⟩
          rw [HG.out]
          go_wp2
          go_round
          case rel=>exact ⟨z+1,rfl,by rw [HN.out],by omega,by omega⟩
          case measure=>simp [intOf];omega
        · obtain rfl:z=y:=by omega
          obtain ⟨Y,hY⟩:∃ Y,yearsV z=Y:=⟨_,rfl⟩
          rw [hY] at H1 hzb
          rw [hY]
          clear hY
          go_wp2_with fail
          go_loop [5,7] (fun sn sm=>∃ j:Int,sm=.int .i64 j∧sn=.int .i64 (Y+aheadV z j)∧1≤j∧j≤m) (fun _ sm=>(20-intOf sm).toNat)
          case atStart=>exact ⟨1,rfl,by rw [ahead_1];simp,by omega,by omega⟩
          case round =>
            obtain ⟨j,rfl,rfl,hj1,hj2⟩:=hrel
            have ha:=HAB.out j
            by_cases hlt2:j<m
            · have ht2:thereB z j=true:=by simp [thereB];omega
              have HL:=hide (And.intro (show lenE z j=0 by simp [lenE,ht2]) (show lenV z j=aheadV z (j+1)-aheadV z j by simp [lenV,ht2]))
              have ha2:=HAB.out (j+1)
              obtain ⟨A,hA⟩:∃ A,aheadV z j=A:=⟨_,rfl⟩
              obtain ⟨B,hB⟩:∃ A,aheadV z (j+1)=A:=⟨_,rfl⟩
              rw [hA,hB] at HL
              have HBB:=hide hB
              rw [hA] at ha
              rw [hB] at ha2
              rw [hA]
              clear ht2 hA hB
              go_wp2_with fail
              refine (rlength_any _ _ _).mono ?_
              rintro e w2 ⟨rfl,rfl⟩
              rw [HL.out.1,HL.out.2]
              go_wp2
              go_round
              case rel=>exact ⟨j+1,rfl,by rw [HBB.out];congr 1;omega,by omega,by omega⟩
              case measure=>simp [intOf];omega
            · obtain rfl:j=m:=by omega
              obtain ⟨A,hA⟩:∃ A,aheadV z j=A:=⟨_,rfl⟩
              rw [hA] at H1 ha
              rw [hA]
              clear hA
              have hBel:=HB.out
              go_wp2
              go_ret2
              exact ⟨ret_int2 (by rw [H1.out]) H2.out.symm,by (repeat' exact bel)⟩
theorem rday_any (y m d:Int) (w:World) :
    Calls Tryz.prog 121 #[.agg #[.int .i64 y,.int .i64 m,.int .i64 d]] w fun e w'=>e=.returned (.tuple #[.int .i64 (dayV y m d),.int .i64 (dateE y m d)])∧Below w.heap.size w w':=by
  cases hd:dateB y m d
  · exact rday_no y m d w hd
  · exact rday_yes y m d w hd
theorem rweekday_any (day:Int) (w:World) :
    Calls Tryz.prog 188 #[.int .i64 day] w fun e w'=>e=.returned (.tuple #[.int .i64 (wdV day),.int .i64 (isE day)])∧Below w.heap.size w w':=by
  rcases (show day<0∨(0≤day∧3068036<day)∨(0≤day∧day≤3068036) by omega) with h | ⟨h,h2⟩ | ⟨h,h2⟩
  · have ht:isB day=false:=by simp [isB];omega
    have H2:Hid (isE day=4):=by simp [Hid,isE,ht]
    have H1:Hid (wdV day=0):=by simp [Hid,wdV,ht]
    clear ht
    go_enter Tryz.func188,Tryz.ntmps188
    go_wp2
    all_goals first
      | (exfalso;omega)
      | (go_ret2;exact ⟨ret_int2 H1.out.symm H2.out.symm,by (repeat' exact bel)⟩)
  · have ht:isB day=false:=by simp [isB];omega
    have H2:Hid (isE day=4):=by simp [Hid,isE,ht]
    have H1:Hid (wdV day=0):=by simp [Hid,wdV,ht]
    clear ht
    go_enter Tryz.func188,Tryz.ntmps188
    go_wp2
    all_goals first
      | (exfalso;omega)
      | (go_ret2;exact ⟨ret_int2 H1.out.symm H2.out.symm,by (repeat' exact bel)⟩)
  · have ht:isB day=true:=by simp [isB];omega
    have H2:Hid (isE day=0):=by simp [Hid,isE,ht]
    have H1:Hid (wdV day=(day+5) % 7+1):=by simp [Hid,wdV,ht]
    have hm:day.tmod 7=day % 7:=Int.tmod_eq_emod_of_nonneg h
    clear ht
    rcases (show day % 7=0∨day % 7=1∨day % 7=2∨day % 7=3∨day % 7=4∨day % 7=5∨day % 7=6 by omega) with h7 | h7 | h7 | h7 | h7 | h7 | h7
    · have H3:=hide (show wdV day=6 by rw [H1];omega)
      clear H1
      go_enter Tryz.func188,Tryz.ntmps188
      go_wp2
      all_goals first
        | (exfalso;omega)
        | (go_ret2;exact ⟨ret_int2 H3.out.symm H2.out.symm,by (repeat' exact bel)⟩)
    · have H3:=hide (show wdV day=7 by rw [H1];omega)
      clear H1
      go_enter Tryz.func188,Tryz.ntmps188
      go_wp2
      all_goals first
        | (exfalso;omega)
        | (go_ret2;exact ⟨ret_int2 H3.out.symm H2.out.symm,by (repeat' exact bel)⟩)
    · have H3:=hide (show wdV day=1 by rw [H1];omega)
      clear H1
      go_enter Tryz.func188,Tryz.ntmps188
      go_wp2
      all_goals first
        | (exfalso;omega)
        | (go_ret2;exact ⟨ret_int2 H3.out.symm H2.out.symm,by (repeat' exact bel)⟩)
    · have H3:=hide (show wdV day=2 by rw [H1];omega)
      clear H1
      go_enter Tryz.func188,Tryz.ntmps188
      go_wp2
      all_goals first
        | (exfalso;omega)
        | (go_ret2;exact ⟨ret_int2 H3.out.symm H2.out.symm,by (repeat' exact bel)⟩)
    · have H3:=hide (show wdV day=3 by rw [H1];omega)
      clear H1
      go_enter Tryz.func188,Tryz.ntmps188
      go_wp2
      all_goals first
        | (exfalso;omega)
        | (go_ret2;exact ⟨ret_int2 H3.out.symm H2.out.symm,by (repeat' exact bel)⟩)
    · have H3:=hide (show wdV day=4 by rw [H1];omega)
      clear H1
      go_enter Tryz.func188,Tryz.ntmps188
      go_wp2
      all_goals first
        | (exfalso;omega)
        | (go_ret2;exact ⟨ret_int2 H3.out.symm H2.out.symm,by (repeat' exact bel)⟩)
    · have H3:=hide (show wdV day=5 by rw [H1];omega)
      clear H1
      go_enter Tryz.func188,Tryz.ntmps188
      go_wp2
      all_goals first
        | (exfalso;omega)
        | (go_ret2;exact ⟨ret_int2 H3.out.symm H2.out.symm,by (repeat' exact bel)⟩)
theorem r06last_any (y m wd:Int) (w:World) :
    Calls Tryz.prog 119 #[.int .i64 y,.int .i64 m,.int .i64 wd] w fun e w'=>e=.returned (.tuple #[.int .i64 (lastV y m wd),.int .i64 (wkE y m wd)])∧Below w.heap.size w w':=by
  cases ht:thereB y m
  · have HE:=hide (show lenE y m=4 by simp [lenE,ht])
    have hk:wkE y m wd=4:=by simp [wkE,ht]
    have H1:=hide (show lastV y m wd=0 by rw [lastV,if_neg (by omega)])
    have H2:=hide hk
    clear ht hk
    go_enter Tryz.func119,Tryz.ntmps119
    go_wp2_with fail
    refine (rlength_any _ _ _).mono ?_
    rintro e w1 ⟨rfl,rfl⟩
    rw [HE.out]
    go_wp2
    go_ret2
    exact ⟨ret_int2 H1.out.symm H2.out.symm,by (repeat' exact bel)⟩
  · have HE:=hide (show lenE y m=0 by simp [lenE,ht])
    by_cases hw:1≤wd∧wd≤7
    · have hk:wkE y m wd=0:=by rw [wkE,if_pos ht,if_pos hw]
      have H2:=hide hk
      have hld:dateB y m (lenV y m)=true:=end_date y m ht
      have HD:=hide (And.intro (show dayV y m (lenV y m)=endN y m by rw [dayV,if_pos hld];rfl) (show dateE y m (lenV y m)=0 by rw [dateE,if_pos hld]))
      have hel:=end_lo y m ht
      have heb:=end_bd y m ht
      have hWdef:endW y m=(endN y m+5) % 7+1:=rfl
      have H1:=hide (show lastV y m wd=endN y m-(endW y m-wd+7) % 7 by rw [lastV,if_pos hk])
      obtain ⟨J,hJ⟩:∃ J:Nat,(J:Int)=(endW y m-wd+7) % 7:=⟨((endW y m-wd+7) % 7).toNat,by omega⟩
      rw [← hJ] at H1
      have HWD:=hide (fun (j:Nat) (h:j≤J)=>(show wdV (endN y m-j)=(endN y m-j+5) % 7+1∧isE (endN y m-j)=0∧((endN y m-j+5) % 7+1=wd↔j=J) from by
        have hb:isB (endN y m-j)=true:=by simp [isB];omega
        exact ⟨by rw [wdV,if_pos hb],by rw [isE,if_pos hb],by omega⟩))
      have hJ6:J≤6:=by omega
      obtain ⟨E,hE⟩:∃ E,endN y m=E:=⟨_,rfl⟩
      rw [hE] at HD H1 HWD hel heb
      obtain ⟨L,hL⟩:∃ L,lenV y m=L:=⟨_,rfl⟩
      rw [hL] at HD
      have HL:=hide hL
      clear ht hk hld hJ hE hL hWdef
      go_enter Tryz.func119,Tryz.ntmps119
      go_wp2_with fail
      refine (rlength_any _ _ _).mono ?_
      rintro e w1 ⟨rfl,rfl⟩
      rw [HE.out,HL.out]
      go_wp2_with fail
      all_goals first
        | (exfalso;omega)
        | skip
      refine (rday_any y m L _).mono ?_
      rintro e w2 ⟨rfl,hb2⟩
      rw [HD.out.1,HD.out.2]
      go_wp2_with fail
      go_loopw [10] (fun s wr=>∃ j:Nat,s=.int .i64 (E-(j:Int))∧j≤J∧Below w.heap.size w wr) (fun s _=>(intOf s).toNat)
      case atStart=>exact ⟨0,by simp,Nat.zero_le _,hb2⟩
      case round =>
        clear hb2
        obtain ⟨j,rfl,hj,hBel⟩:=hrel
        obtain ⟨d1,d2,d3⟩:=HWD.out j hj
        have HDD:=hide (And.intro d1 d2)
        have hsz:=hBel.size
        go_wp2_with fail
        refine (rweekday_any _ _).mono ?_
        rintro e w3 ⟨rfl,hb3⟩
        rw [HDD.out.1,HDD.out.2]
        have hBel3:=hBel.trans (hb3.mono hsz)
        clear hb3
        by_cases hjj:j=J
        · have heq:=d3.2 hjj
          rw [heq]
          subst hjj
          clear d1 d2 d3 heq
          go_wp2
          all_goals first
            | (exfalso;omega)
            | (go_ret2;exact ⟨ret_int2 H1.out.symm H2.out.symm,by (repeat' exact bel)⟩)
        · have hne:¬ ((E-j+5) % 7+1=wd):=fun h=>hjj (d3.1 h)
          have hneb:((E-(j:Int)+5) % 7+1==wd)=false:=by simpa using hne
          obtain ⟨Q,hQ⟩:∃ Q,(E-(j:Int)+5) % 7+1=Q:=⟨_,rfl⟩
          rw [hQ] at hneb hne ⊢
          clear d1 d2 d3 hQ
          go_wp2
          all_goals first
            | (exfalso;omega)
            | skip
          go_roundw
          case rel=>exact ⟨j+1,by congr 1;omega,by omega,by (repeat' exact bel)⟩
          case measure=>simp [intOf];omega
    · have hk:wkE y m wd=1:=by rw [wkE,if_pos ht,if_neg hw]
      have H1:=hide (show lastV y m wd=0 by rw [lastV,if_neg (by omega)])
      have H2:=hide hk
      obtain ⟨L,hL⟩:∃ L,lenV y m=L:=⟨_,rfl⟩
      have HL:=hide hL
      clear ht hk hL
      rcases (show wd<1∨(1≤wd∧7<wd) by omega) with h | ⟨h,h2⟩
      all_goals
        go_enter Tryz.func119,Tryz.ntmps119
        go_wp2_with fail
        refine (rlength_any _ _ _).mono ?_
        rintro e w1 ⟨rfl,rfl⟩
        rw [HE.out,HL.out]
        go_wp2_with fail
        all_goals first
          | (exfalso;omega)
          | (go_ret2;exact ⟨ret_int2 H1.out.symm H2.out.symm,by (repeat' exact bel)⟩)
theorem r06near_any (y m wd:Int) (w:World) :
    Calls Tryz.prog 122 #[.int .i64 y,.int .i64 m,.int .i64 wd] w fun e w'=>e=.returned (.tuple #[.int .i64 (nearV y m wd),.int .i64 (nearE y m wd)])∧Below w.heap.size w w':=by
  cases ht:thereB y m
  · have HE:=hide (show lenE y m=4 by simp [lenE,ht])
    have hk:wkE y m wd=4:=by simp [wkE,ht]
    have H1:=hide (show nearV y m wd=0 by rw [nearV,if_neg (by omega)])
    have H2:=hide (show nearE y m wd=4 by rw [nearE,if_neg (by omega)];exact hk)
    clear ht hk
    go_enter Tryz.func122,Tryz.ntmps122
    go_wp2_with fail
    refine (rlength_any _ _ _).mono ?_
    rintro e w1 ⟨rfl,rfl⟩
    rw [HE.out]
    go_wp2
    go_ret2
    exact ⟨ret_int2 H1.out.symm H2.out.symm,by (repeat' exact bel)⟩
  · have HE:=hide (show lenE y m=0 by simp [lenE,ht])
    by_cases hw:1≤wd∧wd≤7
    · have hk:wkE y m wd=0:=by rw [wkE,if_pos ht,if_pos hw]
      have hld:dateB y m (lenV y m)=true:=end_date y m ht
      have HD:=hide (And.intro (show dayV y m (lenV y m)=endN y m by rw [dayV,if_pos hld];rfl) (show dateE y m (lenV y m)=0 by rw [dateE,if_pos hld]))
      have hel:=end_lo y m ht
      have heb:=end_bd y m ht
      have hWdef:endW y m=(endN y m+5) % 7+1:=rfl
      have hNd:nearD y m wd=(wd-endW y m+7+3) % 7-3:=rfl
      obtain ⟨J,hJ⟩:∃ J:Nat,(J:Int)=nearD y m wd+3:=⟨(nearD y m wd+3).toNat,by omega⟩
      have hJ6:J≤6:=by omega
      have hiE:isB (endN y m)=true:=by simp [isB];omega
      have hadd:addB (endN y m) (nearD y m wd)=isB (endN y m-3+J):=by
        rw [addB,hiE]
        simp only [isB,Bool.true_and]
        by_cases h1:endN y m-3+J<3068037
        · have a1:decide (-endN y m≤nearD y m wd)=true:=by simp;omega
          have a2:decide (nearD y m wd<3068037-endN y m)=true:=by simp;omega
          have a3:decide (0≤endN y m-3+(J:Int)∧endN y m-3+(J:Int)<3068037)=true:=by simp;omega
          rw [a1,a2,a3];rfl
        · have a2:decide (nearD y m wd<3068037-endN y m)=false:=by simp;omega
          have a3:decide (0≤endN y m-3+(J:Int)∧endN y m-3+(J:Int)<3068037)=false:=by simp;omega
          rw [a2,a3,Bool.and_false]
      have H1:=hide (show nearV y m wd=if isB (endN y m-3+J)=true then endN y m-3+J else 0 by rw [nearV,if_pos hk,addV,hadd];split <;> omega)
      have H2:=hide (show nearE y m wd=if isB (endN y m-3+J)=true then 0 else 4 by rw [nearE,if_pos hk,addE,hadd])
      have HWD:=hide (fun (j:Nat) (h:j≤6)=>(show (isB (endN y m-3+j)=true∧wdV (endN y m-3+j)=(endN y m-3+j+5) % 7+1∧isE (endN y m-3+j)=0∧((endN y m-3+j+5) % 7+1=wd↔j=J))∨(isB (endN y m-3+j)=false∧3068037≤endN y m-3+j∧wdV (endN y m-3+j)=0∧isE (endN y m-3+j)=4) from by
        cases hb:isB (endN y m-3+j)
        · refine .inr ⟨rfl,?_,by simp [wdV,hb],by simp [isE,hb]⟩
          simp [isB] at hb
          omega
        · exact .inl ⟨rfl,by simp [wdV,hb],by simp [isE,hb],by omega⟩))
      obtain ⟨E,hE⟩:∃ E,endN y m=E:=⟨_,rfl⟩
      rw [hE] at HD H1 H2 HWD hel heb
      obtain ⟨L,hL⟩:∃ L,lenV y m=L:=⟨_,rfl⟩
      rw [hL] at HD
      have HL:=hide hL
      have HIS:=hide (fun (j:Nat) (h:isB (E-3+j)=true)=>(show E-3+j<3068037 from by simp [isB] at h;omega))
      clear ht hk hld hJ hE hL hWdef hNd hiE hadd
      go_enter Tryz.func122,Tryz.ntmps122
      go_wp2_with fail
      refine (rlength_any _ _ _).mono ?_
      rintro e w1 ⟨rfl,rfl⟩
      rw [HE.out,HL.out]
      go_wp2_with fail
      all_goals first
        | (exfalso;omega)
        | skip
      refine (rday_any y m L _).mono ?_
      rintro e w2 ⟨rfl,hb2⟩
      rw [HD.out.1,HD.out.2]
      go_wp2_with fail
      go_loopw [12] (fun s wr=>∃ j:Nat,s=.int .i64 (E-3+(j:Int))∧j≤7∧Hid (j≤J∨isB (E-3+J)=false)∧Below w.heap.size w wr) (fun s _=>(E+10-intOf s).toNat)
      case atStart=>exact ⟨0,by simp,by omega,hide (.inl (Nat.zero_le _)),hb2⟩
      case round =>
        clear hb2
        obtain ⟨j,rfl,hj,HJ,hBel⟩:=hrel
        have hsz:=hBel.size
        by_cases hj6:j≤6
        · rcases HWD.out j hj6 with ⟨d0,d1,d2,d3⟩ | ⟨d0,d9,d1,d2⟩
          · have HDD:=hide (And.intro d1 d2)
            have hlt3:=HIS.out j d0
            go_wp2_with fail
            all_goals first
              | (exfalso;omega)
              | skip
            refine (rweekday_any _ _).mono ?_
            rintro e w3 ⟨rfl,hb3⟩
            rw [HDD.out.1,HDD.out.2]
            have hBel3:=hBel.trans (hb3.mono hsz)
            clear hb3
            by_cases hjj:j=J
            · have heq:=d3.2 hjj
              rw [heq]
              subst hjj
              have R1:=hide (show nearV y m wd=E-3+j by rw [H1.out,if_pos d0])
              have R2:=hide (show nearE y m wd=0 by rw [H2.out,if_pos d0])
              clear d0 d1 d2 d3 heq
              go_wp2
              all_goals first
                | (exfalso;omega)
                | (go_ret2;exact ⟨ret_int2 R1.out.symm R2.out.symm,by (repeat' exact bel)⟩)
            · have hne:¬ ((E-3+j+5) % 7+1=wd):=fun h=>hjj (d3.1 h)
              have hneb:((E-3+(j:Int)+5) % 7+1==wd)=false:=by simpa using hne
              have HJ2:=hide (show j+1≤J∨isB (E-3+J)=false by rcases HJ.out with h | h;exact .inl (by omega);exact .inr h)
              obtain ⟨Q,hQ⟩:∃ Q,(E-3+(j:Int)+5) % 7+1=Q:=⟨_,rfl⟩
              rw [hQ] at hneb hne ⊢
              clear d0 d1 d2 d3 hQ
              go_wp2
              all_goals first
                | (exfalso;omega)
                | skip
              go_roundw
              case rel=>exact ⟨j+1,by congr 1;omega,by omega,HJ2,by (repeat' exact bel)⟩
              case measure=>simp [intOf];omega
          · have HDD:=hide (And.intro d1 d2)
            have HJ2:=hide (show j+1≤J∨isB (E-3+J)=false by
              rcases HJ.out with h | h
              · right
                simp only [isB,decide_eq_false_iff_not]
                omega
              · exact .inr h)
            go_wp2_with fail
            all_goals first
              | (exfalso;omega)
              | skip
            refine (rweekday_any _ _).mono ?_
            rintro e w3 ⟨rfl,hb3⟩
            rw [HDD.out.1,HDD.out.2]
            have hBel3:=hBel.trans (hb3.mono hsz)
            clear hb3 d0 d1 d2
            go_wp2
            all_goals first
              | (exfalso;omega)
              | skip
            go_roundw
            case rel=>exact ⟨j+1,by congr 1;omega,by omega,HJ2,by (repeat' exact bel)⟩
            case measure=>simp [intOf];omega
        · obtain rfl:j=7:=by omega
          have hb:isB (E-3+J)=false:=by
            rcases HJ.out with h | h
            · exfalso;omega
            · exact h
          have R1:=hide (show nearV y m wd=0 by rw [H1.out,if_neg (by rw [hb];decide)])
          have R2:=hide (show nearE y m wd=4 by rw [H2.out,if_neg (by rw [hb];decide)])
          clear hb
          go_wp2
          all_goals first
            | (exfalso;omega)
            | (go_ret2;exact ⟨ret_int2 R1.out.symm R2.out.symm,by (repeat' exact bel)⟩)
    · have hk:wkE y m wd=1:=by rw [wkE,if_pos ht,if_neg hw]
      have H1:=hide (show nearV y m wd=0 by rw [nearV,if_neg (by omega)])
      have H2:=hide (show nearE y m wd=1 by rw [nearE,if_neg (by omega)];exact hk)
      obtain ⟨L,hL⟩:∃ L,lenV y m=L:=⟨_,rfl⟩
      have HL:=hide hL
      clear ht hk hL
      rcases (show wd<1∨(1≤wd∧7<wd) by omega) with h | ⟨h,h2⟩
      all_goals
        go_enter Tryz.func122,Tryz.ntmps122
        go_wp2_with fail
        refine (rlength_any _ _ _).mono ?_
        rintro e w1 ⟨rfl,rfl⟩
        rw [HE.out,HL.out]
        go_wp2_with fail
        all_goals first
          | (exfalso;omega)
          | (go_ret2;exact ⟨ret_int2 H1.out.symm H2.out.symm,by (repeat' exact bel)⟩)
theorem BlkIs.set2a {w:World} {B:Nat} {a b c:Value} {t:TypeId} (h:BlkIs w B #[a,b,c] t) (u:Value):BlkIs (w.setCell ⟨B,0,none⟩ u) B #[u,b,c] t:=by
  unfold BlkIs at h ⊢
  simp [World.setCell,Array.getElem?_modify,h]
theorem BlkIs.set2b {w:World} {B:Nat} {a b c:Value} {t:TypeId} (h:BlkIs w B #[a,b,c] t) (u:Value):BlkIs (w.setCell ⟨B,1,none⟩ u) B #[a,u,c] t:=by
  unfold BlkIs at h ⊢
  simp [World.setCell,Array.getElem?_modify,h]
theorem BlkIs.set2c {w:World} {B:Nat} {a b c:Value} {t:TypeId} (h:BlkIs w B #[a,b,c] t) (u:Value):BlkIs (w.setCell ⟨B,2,none⟩ u) B #[a,b,u] t:=by
  unfold BlkIs at h ⊢
  simp [World.setCell,Array.getElem?_modify,h]
theorem BlkIs.fz3 {w:World} {B:Nat} {cs:Array Value} {t:TypeId} (h:BlkIs w B cs t) (i:Nat):w.frozen? ⟨B,i,none⟩=false:=by simp [World.frozen?,show w.heap[B]?=_ from h]
def OfSt (B:Nat) (y m:Int) (w0 w:World):Prop:=BlkIs w B #[.int .i64 0,.int .i64 0,.int .i64 0] 135∧BlkIs w (B+1) #[.int .i64 y,.int .i64 m,.int .i64 1] 135∧Below B w0 w
theorem OfSt.sety {B:Nat} {y m:Int} {w0 w:World} (h:OfSt B y m w0 w) (z:Int):OfSt B z m w0 (w.setCell ⟨B+1,0,none⟩ (.int .i64 z)):=⟨h.1.far (by simp) _,h.2.1.set2a _,h.2.2.setCell (by simp) _⟩
theorem OfSt.setm {B:Nat} {y m:Int} {w0 w:World} (h:OfSt B y m w0 w) (z:Int):OfSt B y z w0 (w.setCell ⟨B+1,1,none⟩ (.int .i64 z)):=⟨h.1.far (by simp) _,h.2.1.set2b _,h.2.2.setCell (by simp) _⟩
theorem OfSt.facts {B:Nat} {y m:Int} {w0 w:World} (h:OfSt B y m w0 w):(w.cell? ⟨B+1,0,none⟩=some (.int .i64 y)∧w.cell? ⟨B+1,1,none⟩=some (.int .i64 m)∧w.cell? ⟨B+1,2,none⟩=some (.int .i64 1))∧(w.frozen? ⟨B+1,0,none⟩=false∧w.frozen? ⟨B+1,1,none⟩=false∧w.frozen? ⟨B+1,2,none⟩=false) ∧
    (w.cell? ⟨B,0,none⟩=some (.int .i64 0)∧w.cell? ⟨B,1,none⟩=some (.int .i64 0)∧w.cell? ⟨B,2,none⟩=some (.int .i64 0))∧(w.frozen? ⟨B,0,none⟩=false∧w.frozen? ⟨B,1,none⟩=false∧w.frozen? ⟨B,2,none⟩=false):=
  ⟨⟨h.2.1.cell 0,h.2.1.cell 1,h.2.1.cell 2⟩,⟨h.2.1.fz3 0,h.2.1.fz3 1,h.2.1.fz3 2⟩,⟨h.1.cell 0,h.1.cell 1,h.1.cell 2⟩,⟨h.1.fz3 0,h.1.fz3 1,h.1.fz3 2⟩⟩
theorem OfSt.lt {B:Nat} {y m:Int} {w0 w:World} (h:OfSt B y m w0 w):B+1<w.heap.size:=h.2.1.lt
theorem res_rof {tmps:Array Value} {W:World} {B:Nat} {a0 a1 a2 e:Int} (h6:tmps[2]?=some (.pointer (some ⟨B,0,none⟩))) (h7:tmps[3]?=some (.int .i64 e))
    (g6:BlkIs W B #[.int .i64 a0,.int .i64 a1,.int .i64 a2] 135) :
    (results Tryz.f159 tmps).run Tryz.prog W=.ok (.tuple #[.agg #[.int .i64 a0,.int .i64 a1,.int .i64 a2],.int .i64 e]) W:=by
  have c0:=g6.cell 0
  have c1:=g6.cell 1
  have c2:=g6.cell 2
  simp at c0 c1 c2
  simp [results,Tryz.results159,go_sem,h6,h7,c0,c1,c2]
theorem rof_no (day:Int) (w:World) (h:isB day=false) :
    Calls Tryz.prog 159 #[.int .i64 day] w fun e w'=>e=.returned (.tuple #[.agg #[.int .i64 0,.int .i64 0,.int .i64 0],.int .i64 4])∧Below w.heap.size w w':=by
  rcases (show day<0∨(0≤day∧3068036<day) by simp [isB] at h;omega) with h1 | ⟨h1,h2⟩
  all_goals
    clear h
    go_enter Tryz.func159,Tryz.ntmps159
    go_wp2_with fail
    all_goals first
      | (exfalso;omega)
      | (refine bodyPost_ret (v:=.tuple #[.agg #[.int .i64 0,.int .i64 0,.int .i64 0],.int .i64 4]) (res_rof rfl rfl (BlkIs.new w #[.int .i64 0,.int .i64 0,.int .i64 0] 135)) rfl ⟨rfl,by (repeat' exact bel)⟩)
theorem rof_yes (day:Int) (w:World) (h:isB day=true) :
    Calls Tryz.prog 159 #[.int .i64 day] w fun e w'=>e=.returned (.tuple #[.agg #[.int .i64 (ofY day),.int .i64 (ofM day),.int .i64 (ofD day)],.int .i64 0])∧Below w.heap.size w w':=by
  have hd:0≤day∧day<3068037:=by simpa [isB] using h
  have HYB:=hide (fun z (h1:1600≤z) (h2:z≤10000)=>years_bd z h1 h2)
  have HY4:=hide years_400
  have HYL:=hide years_long
  have HAB:=hide ahead_bd
  have HYE:=hide years_end
  have HLB:=hide len_bd
  have HOF:=hide (fun y m d (h1:dateB y m d=true) (h2:dayN y m d=day)=>(show ofY day=y∧ofM day=m∧ofD day=d by rw [← h2];exact of_dayN h1))
  clear h
  go_enter Tryz.func159,Tryz.ntmps159
  go_wp2_with fail
  all_goals first
    | (exfalso;omega)
    | skip
  go_loopw [0] (fun sd wr=>∃ z:Int,sd=.int .i64 (day-yearsV z)∧1600≤z∧z≤9999∧(z-1600) % 400=0∧yearsV z≤day∧OfSt w.heap.size z 1 w wr) (fun sd _=>(intOf sd).toNat)
  case atStart =>
    refine ⟨1600,by rw [years_1600,Int.sub_zero],by omega,by omega,by omega,by rw [years_1600];omega,?_,?_,?_⟩
    · exact (BlkIs.new w _ _).alloc _
    · simpa using BlkIs.new (w.alloc (.cells #[.int .i64 0,.int .i64 0,.int .i64 0] 135)) #[.int .i64 1600,.int .i64 1,.int .i64 1] 135
    · (repeat' exact bel)
  case round =>
    obtain ⟨z,rfl,hz1,hz2,hz3,hz4,hS⟩:=hrel
    have HS:=hide hS
    have hlt0:=hS.lt
    clear hS
    obtain ⟨⟨k0,k1,k2⟩,⟨f0,f1,f2⟩,_,_⟩:=HS.out.facts
    have hzb:=HYB.out z hz1 (by omega)
    by_cases hlt:146097≤day-yearsV z
    · have hN:=HY4.out z hz1 hz3
      have h9:z+400≤9999:=by
        rcases Int.lt_or_le 9999 (z+400) with h9 | h9
        · exfalso
          obtain rfl:z=9600:=by omega
          have e:=HYE.out
          have e2:yearsV (9600+400)=yearsV 10000:=rfl
          omega
        · exact h9
      have HN:=hide hN
      obtain ⟨Y,hY⟩:∃ Y,yearsV z=Y:=⟨_,rfl⟩
      rw [hY] at HN hzb hlt hz4
      rw [hY]
      clear hY hN
      go_wp2
      all_goals first
        | (exfalso;omega)
        | skip
      go_roundw
      case rel=>exact ⟨z+400,by rw [HN.out];congr 1;omega,by omega,h9,by omega,by rw [HN.out];omega,HS.out.sety _⟩
      case measure=>simp [intOf];omega
    · clear k0 k1 k2 f0 f1 f2
      go_wp2_with fail
      all_goals first
        | (exfalso;omega)
        | skip
      go_loopw [0] (fun sd wr=>∃ z:Int,sd=.int .i64 (day-yearsV z)∧1600≤z∧z≤9999∧yearsV z≤day∧OfSt w.heap.size z 1 w wr) (fun sd _=>(intOf sd).toNat)
      case atStart=>exact ⟨z,rfl,hz1,hz2,hz4,HS.out⟩
      case round =>
        clear hzb hlt hz3 hz4 hlt0 HS hz1 hz2
        obtain ⟨z,rfl,hz1,hz2,hz4,hS⟩:=hrel
        have HS:=hide hS
        have hlt0:=hS.lt
        clear hS
        obtain ⟨⟨k0,k1,k2⟩,⟨f0,f1,f2⟩,_,_⟩:=HS.out.facts
        have hzb:=HYB.out z hz1 (by omega)
        have hlz:=long_bd z
        have hN:=HYL.out z hz1 hz2
        by_cases hlt:longV z≤day-yearsV z
        · have h9 : z + 1 ≤ 9999 := by
            rcases Int.lt_or_le 9999 (z+1) with h9 | h9
            · exfalso
              obtain rfl:z=9999:=by omega
              have e:=HYE.out
              have e2:yearsV (9999+1)=yearsV 10000:=rfl
              omega
            · exact h9
          have HN:=hide hN
          obtain ⟨Y,hY⟩:∃ Y,yearsV z=Y:=⟨_,rfl⟩
          obtain ⟨G,hG⟩:∃ Y,longV z=Y:=⟨_,rfl⟩
          have HG:=hide hG
          rw [hY,hG] at HN hlt
          rw [hY] at hzb hz4
          rw [hG] at hlz
          rw [hY]
          clear hY hG hN
          go_wp2_with fail
          refine (rlong_any _ _).mono ?_
          rintro e w2 ⟨rfl,rfl⟩
          rw [HG.out]
          go_wp2_with fail
          all_goals first
            | (exfalso;omega)
            | skip
          refine (rlong_any _ _).mono ?_
          rintro e w2 ⟨rfl,rfl⟩
          rw [HG.out]
          go_wp2
          all_goals first
            | (exfalso;omega)
            | skip
          go_roundw
          case rel=>exact ⟨z+1,by rw [HN.out];congr 1;omega,by omega,h9,by rw [HN.out];omega,HS.out.sety _⟩
          case measure=>simp [intOf];omega
        · have h13:=ahead_13 z
          have ha1:=ahead_1 z
          have hlong:longV z=aheadV z 13:=by rw [h13,longV];split <;> rfl
          rw [hlong] at hlt
          have hlt2:day-yearsV z<aheadV z 13:=by omega
          have HLEN:=hide (fun j (h1:1≤j) (h2:j≤12)=>(show thereB z j=true∧lenE z j=0∧lenV z j=aheadV z (j+1)-aheadV z j from by
            have ht:thereB z j=true:=by simp [thereB];omega
            exact ⟨ht,by simp [lenE,ht],by simp [lenV,ht]⟩))
          have HDN:=hide (fun j d=>(show dayN z j d=yearsV z+aheadV z j+d-1 from rfl))
          have h29:=HLB.out z 1
          have hle:=(HLEN.out 1 (by omega) (by omega)).2.1
          obtain ⟨Y,hY⟩:∃ Y,yearsV z=Y:=⟨_,rfl⟩
          rw [hY] at hzb hz4 hlt2 HDN
          rw [hY]
          have HLT:=hide hlt2
          have HLE:=hide hle
          have hGl:day-Y<longV z:=by rw [hlong];exact hlt2
          obtain ⟨G,hG⟩:∃ Y,longV z=Y:=⟨_,rfl⟩
          have HG:=hide hG
          rw [hG] at hGl hlz
          clear h13 hlong hlt hY hN hle hlt2 hG
          go_wp2_with fail
          refine (rlong_any _ _).mono ?_
          rintro e w2 ⟨rfl,rfl⟩
          rw [HG.out]
          go_wp2_with fail
          all_goals first
            | (exfalso;omega)
            | skip
          refine (rlength_any _ _ _).mono ?_
          rintro e w2 ⟨rfl,rfl⟩
          rw [HLE.out]
          clear k0 k1 k2 f0 f1 f2
          go_wp2_with fail
          go_loopw [0,5] (fun sd sn wr=>∃ j:Int,sd=.int .i64 (day-Y-aheadV z j)∧sn=.int .i64 (lenV z j)∧1≤j∧j≤12∧aheadV z j≤day-Y∧OfSt w.heap.size z j w wr) (fun sd _ _=>(intOf sd).toNat)
          case atStart=>exact ⟨1,by rw [ha1,Int.sub_zero],rfl,by omega,by omega,by rw [ha1];omega,HS.out⟩
          case round =>
            clear hlt0 HS
            obtain ⟨j,rfl,rfl,hj1,hj2,hj3,hS⟩:=hrel
            have HS:=hide hS
            have hlt0:=hS.lt
            clear hS
            obtain ⟨⟨k0,k1,k2⟩,⟨f0,f1,f2⟩,⟨r0,r1,r2⟩,⟨e0,e1,e2⟩⟩:=HS.out.facts
            have hab:=HAB.out z j
            have hlb:=HLB.out z j
            obtain ⟨t1,t2,t3⟩:=HLEN.out j hj1 hj2
            have hlo:=len_lo z j t1
            by_cases hlt:lenV z j≤day-Y-aheadV z j
            · have h12 : j + 1 ≤ 12 := by
                rcases Int.lt_or_le 12 (j+1) with h9 | h9
                · exfalso
                  obtain rfl:j=12:=by omega
                  have e:=HLT.out
                  have e2:aheadV z (12+1)=aheadV z 13:=rfl
                  omega
                · exact h9
              have hA1:aheadV z (j+1)=aheadV z j+lenV z j:=by omega
              have HA1:=hide hA1
              have HE2:=hide (HLEN.out (j+1) (by omega) h12).2.1
              obtain ⟨A,hA⟩:∃ A,aheadV z j=A:=⟨_,rfl⟩
              obtain ⟨L,hL⟩:∃ A,lenV z j=A:=⟨_,rfl⟩
              rw [hA,hL] at HA1 hlt
              rw [hA] at hab hj3
              rw [hL] at hlb hlo
              rw [hA,hL]
              clear hA1 hA hL t1 t2 t3
              go_wp2_with fail
              all_goals first
                | (exfalso;omega)
                | skip
              refine (rlength_any _ _ _).mono ?_
              rintro e w2 ⟨rfl,rfl⟩
              rw [HE2.out]
              go_wp2
              all_goals first
                | (exfalso;omega)
                | skip
              go_roundw
              case rel=>exact ⟨j+1,by rw [HA1.out];congr 1;omega,rfl,by omega,h12,by rw [HA1.out];omega,HS.out.setm _⟩
              case measure=>simp [intOf];omega
            · have hdn:=HDN.out j (1+(day-Y-aheadV z j))
              have hdb:dateB z j (1+(day-Y-aheadV z j))=true:=by simp [dateB,t1];omega
              have HO:=hide (HOF.out z j _ hdb (by rw [hdn];omega))
              obtain ⟨A,hA⟩:∃ A,aheadV z j=A:=⟨_,rfl⟩
              rw [hA] at HO
              rw [hA] at hab hj3
              obtain ⟨L,hL⟩:∃ A,lenV z j=A:=⟨_,rfl⟩
              rw [hA,hL] at hlt
              rw [hL] at hlb hlo
              rw [hA,hL]
              clear hdn hdb t1 t2 t3 hA hL
              go_wp2
              all_goals first
                | (exfalso;omega)
                | skip
              rw [HO.out.1,HO.out.2.1,HO.out.2.2]
              have g1:=((((HS.out.1.far (p:=⟨w.heap.size+1,2,none⟩) (by simp) (.int .i64 (1+(day-Y-A)))).set2a (.int .i64 z)).set2b (.int .i64 j)).set2c (.int .i64 (1+(day-Y-A))))
              have hBel:=HS.out.2.2
              exact bodyPost_ret (v:=.tuple #[.agg #[.int .i64 z,.int .i64 j,.int .i64 (1+(day-Y-A))],.int .i64 0]) (res_rof rfl rfl g1) rfl ⟨rfl,by (repeat' exact bel)⟩
end Go.Proofs.YtjhhmeoibfdcmaaGreat
