/- Contracts of the references: the units that meet a span (layer 17). -/
import Derived.Test.YtjhhmeoibfdcmaaGreatUq41
set_option linter.unusedSimpArgs false
set_option linter.unusedVariables false
set_option maxRecDepth 100000
set_option maxHeartbeats 12800000
namespace Go.Proofs.YtjhhmeoibfdcmaaGreat
open Go.RowKit Qd
theorem SpansAt.own {w w':World} {row:Option Nat} {g:Nat} {l:List (Int × Int)} (h:SpansAt w g l) (hg:w.grownBy w' row) (hne:row≠some g):SpansAt w' g l:=
  h.same (hg.block g h.1 (fun e=>hne e.symm))
theorem meets_iff {c:Cal} {lv:Int} {s:Sp} (h:meetsE c lv s=0) {a i:Nat} (ha:a<meetsN c lv s) (hi:i<cntL c (servY c s.a+a) lv) :
    keepU (fdU c s.a lv) (fdU c s.b lv) ⟨lv,servY c s.a+a,(i:Int)+1⟩=true↔(dayW c (servY c s.a+a) (cutN c (servY c s.a+a) lv i)≤s.b∧s.a≤dayW c (servY c s.a+a) (cutN c (servY c s.a+a) lv (i+1))-1):=by
  obtain ⟨hk,l1,l5,hab,hA,hB⟩:=meets_ok h
  obtain ⟨ia,e1,a1,a2,a3⟩:=fd_in hA
  obtain ⟨ib,e2,b1,b2,b3⟩:=fd_in hB
  obtain ⟨_,_,_,_,_,⟨yA,yA2,yA3⟩,fA⟩:=fd_ok hA
  obtain ⟨_,_,_,_,_,⟨yB,yB2,yB3⟩,fB⟩:=fd_ok hB
  have hok:c.Ok:=by simpa [Cal.okB] using hk
  have hyy:servY c s.a+a≤servY c s.b:=by unfold meetsN at ha;omega
  rw [e1,e2,keep_iff]
  simp only
  generalize hYa:servY c s.a=Ya at *
  generalize hYb:servY c s.b=Yb at *
  have r1:=ask_ok yA
  have r2:=ask_ok yB
  generalize hY:Ya+(a:Int)=Y at *
  have hAY:askE c Y 1601=0:=ask_2 hok (by omega) (by omega)
  have hc1:=cut_lt c Y hAY lv l1 l5 i hi
  have hc2:=cut_le_nWk c Y hAY lv l1 l5 (i+1) (by omega)
  have hend:=dayW_end c Y hAY
  have h0:=dayW_0 c Y
  constructor
  · rintro ⟨k1,k2⟩
    constructor
    · by_cases hb:Y=Yb
      · subst hb
        have m:=cut_mono c Y hAY lv l1 l5 (show i≤ib by omega) (by omega)
        have:=dayW_le c Y hAY m (cut_le_nWk c Y hAY lv l1 l5 ib (by omega))
        omega
      · have m:=dayW_lt c Y hAY (show cutN c Y lv i<nWk c Y by omega) (Nat.le_refl _)
        have:=end_lt_start c hok (y:=Y) (z:=Yb) (by omega) (by omega) (by omega)
        omega
    · by_cases hb:Y=Ya
      · subst hb
        have m:=cut_mono c Y hAY lv l1 l5 (show ia+1≤i+1 by omega) (by omega)
        have:=dayW_le c Y hAY m hc2
        omega
      · have m:=dayW_lt c Y hAY (show 0<cutN c Y lv (i+1) by omega) hc2
        have:=end_lt_start c hok (y:=Ya) (z:=Y) (by omega) (by omega) (by omega)
        omega
  · rintro ⟨k1,k2⟩
    constructor
    · rintro ⟨hb,hx⟩
      subst hb
      have m:=cut_mono c Y hAY lv l1 l5 (show i+1≤ia by omega) (by omega)
      have:=dayW_le c Y hAY m (cut_le_nWk c Y hAY lv l1 l5 ia (by omega))
      omega
    · rintro ⟨hb,hx⟩
      subst hb
      have m:=cut_mono c Y hAY lv l1 l5 (show ib+1≤i by omega) (by omega)
      have:=dayW_le c Y hAY m (by omega)
      omega
theorem meets_5 {c:Cal} {lv:Int} {s:Sp} (h:¬ meetsE c lv s=0):(askedE c lv=1∧meetsE c lv s=1)∨(askedE c lv=0∧s.b<s.a∧meetsE c lv s=1)∨(askedE c lv=0∧s.a≤s.b∧¬ servE c s.a=0∧meetsE c lv s=servE c s.a)∨(askedE c lv=0∧s.a≤s.b∧servE c s.a=0∧¬ servE c s.b=0∧meetsE c lv s=servE c s.b):=by
  unfold meetsE at h ⊢
  by_cases hk:c.okB=true∧1≤lv∧lv≤5
  · have e1:askedE c lv=0:=by rw [askedE,if_pos hk]
    by_cases hab:s.a≤s.b
    · have hc:c.okB=true∧(1≤lv∧lv≤5)∧s.a≤s.b:=⟨hk.1,hk.2,hab⟩
      rw [if_pos hc] at h ⊢
      rw [fd_serv hk.2.1 hk.2.2,fd_serv hk.2.1 hk.2.2] at h ⊢
      by_cases h1:servE c s.a=0
      · rw [if_pos h1] at h ⊢
        exact .inr (.inr (.inr ⟨e1,hab,h1,h,rfl⟩))
      · rw [if_neg h1]
        exact .inr (.inr (.inl ⟨e1,hab,h1,rfl⟩))
    · rw [if_neg (fun x=>hab x.2.2)]
      exact .inr (.inl ⟨e1,by omega,rfl⟩)
  · rw [if_neg (fun x=>hk ⟨x.1,x.2.1⟩),askedE,if_neg hk]
    exact .inl ⟨rfl,rfl⟩
theorem spAt_new (w:World) (c:Cal) (s:Sp):SpAt ((w.alloc (calObj c)).alloc (spObj s)) (w.heap.size+1) s:=by
  refine ⟨?_,?_⟩ <;> simp [World.cell?_alloc_at]
theorem r17meets_no (c:Cal) (lv:Int) (s:Sp) (w:World) (hn:c.name.size≤1000) (hE:¬ meetsE c lv s=0) :
    Calls Tryz.prog 63 #[calV c,.int .i64 lv,spanV s] w fun e w'=>e=.returned (.tuple #[.slice none 0 0,.int .i64 (meetsE c lv s)])∧Below w.heap.size w w':=by
  rcases meets_5 hE with ⟨h1,h2⟩ | ⟨h1,h3,h2⟩ | ⟨h1,h3,h4,h2⟩ | ⟨h1,h3,h4,h5,h2⟩
  · have HA:=hide h1
    have HF:=hide h2
    clear hE h1 h2
    simp only [calV,spanV]
    go_enter Tryz.func63,Tryz.ntmps63
    go_wp2_with fail
    refine (r17asked_any c lv _ hn).mono ?_
    rintro e w1 ⟨rfl,hb1⟩
    rw [HA.out]
    have hz1:w.heap.size+1<w1.heap.size:=by have:=hb1.size;simp at this;omega
    have hy1:w.heap.size<w1.heap.size:=by omega
    have HB1:=hide (show Below w.heap.size w w1 by (repeat' exact bel))
    have HQ1:=hide (calAt_below (B:=w.heap.size) (c:=c) hb1 (by simp;omega) (calAt_alloc (calAt_new w c) (by simp) _))
    have HP1:=hide (spAt_below (B:=w.heap.size+1) (s:=s) hb1 (by simp) (spAt_new w c s))
    obtain ⟨q0,q1,q2,q3,q4,q5,q6,q7,q8,q9,q10,q11,q12,q13⟩:=HQ1.out
    obtain ⟨p0,p1⟩:=HP1.out
    clear hb1
    have hBel:=HB1.out
    go_wp2
    all_goals first
      | (exfalso;omega)
      | (go_ret2;exact ⟨by rw [HF.out];rfl,by (repeat' exact bel)⟩)
  · have HA:=hide h1
    have HF:=hide h2
    clear hE h1 h2
    simp only [calV,spanV]
    go_enter Tryz.func63,Tryz.ntmps63
    go_wp2_with fail
    refine (r17asked_any c lv _ hn).mono ?_
    rintro e w1 ⟨rfl,hb1⟩
    rw [HA.out]
    have hz1:w.heap.size+1<w1.heap.size:=by have:=hb1.size;simp at this;omega
    have hy1:w.heap.size<w1.heap.size:=by omega
    have HB1:=hide (show Below w.heap.size w w1 by (repeat' exact bel))
    have HQ1:=hide (calAt_below (B:=w.heap.size) (c:=c) hb1 (by simp;omega) (calAt_alloc (calAt_new w c) (by simp) _))
    have HP1:=hide (spAt_below (B:=w.heap.size+1) (s:=s) hb1 (by simp) (spAt_new w c s))
    obtain ⟨q0,q1,q2,q3,q4,q5,q6,q7,q8,q9,q10,q11,q12,q13⟩:=HQ1.out
    obtain ⟨p0,p1⟩:=HP1.out
    clear hb1
    have hBel:=HB1.out
    go_wp2
    all_goals first
      | (exfalso;omega)
      | (go_ret2;exact ⟨by rw [HF.out];rfl,by (repeat' exact bel)⟩)
  · have HA:=hide h1
    obtain ⟨SE,hSE⟩:∃ X,servE c s.a=X:=⟨_,rfl⟩
    rw [hSE] at h2 h4
    have hSb:(SE != 0)=true:=by simpa using h4
    have HF:=hide h2
    have HV:=hide hSE
    clear hE h1 h2 h4 hSE
    simp only [calV,spanV]
    go_enter Tryz.func63,Tryz.ntmps63
    go_wp2_with fail
    refine (r17asked_any c lv _ hn).mono ?_
    rintro e w1 ⟨rfl,hb1⟩
    rw [HA.out]
    have hz1:w.heap.size+1<w1.heap.size:=by have:=hb1.size;simp at this;omega
    have hy1:w.heap.size<w1.heap.size:=by omega
    have HB1:=hide (show Below w.heap.size w w1 by (repeat' exact bel))
    have HQ1:=hide (calAt_below (B:=w.heap.size) (c:=c) hb1 (by simp;omega) (calAt_alloc (calAt_new w c) (by simp) _))
    have HP1:=hide (spAt_below (B:=w.heap.size+1) (s:=s) hb1 (by simp) (spAt_new w c s))
    obtain ⟨q0,q1,q2,q3,q4,q5,q6,q7,q8,q9,q10,q11,q12,q13⟩:=HQ1.out
    obtain ⟨p0,p1⟩:=HP1.out
    clear hb1
    go_wp2_with fail
    all_goals first
      | (exfalso;omega)
      | skip
    refine (r14served_any c s.a _ hn).mono ?_
    rintro e w2 ⟨rfl,hb2⟩
    rw [HV.out]
    have hz2:w.heap.size+1<w2.heap.size:=Nat.lt_of_lt_of_le hz1 hb2.size
    have hy2:w.heap.size<w2.heap.size:=by omega
    have HB2:=hide (HB1.out.trans (hb2.mono (by omega)))
    have HQ2:=hide (calAt_below hb2 (by omega) HQ1.out)
    have HP2:=hide (spAt_below hb2 (by omega) HP1.out)
    clear q0 q1 q2 q3 q4 q5 q6 q7 q8 q9 q10 q11 q12 q13
    obtain ⟨q0,q1,q2,q3,q4,q5,q6,q7,q8,q9,q10,q11,q12,q13⟩:=HQ2.out
    clear p0 p1
    obtain ⟨p0,p1⟩:=HP2.out
    clear hb2
    have hBel:=HB2.out
    go_wp2
    all_goals first
      | (exfalso;omega)
      | (go_ret2;exact ⟨by rw [HF.out];rfl,by (repeat' exact bel)⟩)
  · have HA:=hide h1
    obtain ⟨SE,hSE⟩:∃ X,servE c s.b=X:=⟨_,rfl⟩
    rw [hSE] at h2 h5
    have hSb:(SE != 0)=true:=by simpa using h5
    have HF:=hide h2
    have HV:=hide hSE
    have HU:=hide h4
    clear hE h1 h2 h4 h5 hSE
    simp only [calV,spanV]
    go_enter Tryz.func63,Tryz.ntmps63
    go_wp2_with fail
    refine (r17asked_any c lv _ hn).mono ?_
    rintro e w1 ⟨rfl,hb1⟩
    rw [HA.out]
    have hz1:w.heap.size+1<w1.heap.size:=by have:=hb1.size;simp at this;omega
    have hy1:w.heap.size<w1.heap.size:=by omega
    have HB1:=hide (show Below w.heap.size w w1 by (repeat' exact bel))
    have HQ1:=hide (calAt_below (B:=w.heap.size) (c:=c) hb1 (by simp;omega) (calAt_alloc (calAt_new w c) (by simp) _))
    have HP1:=hide (spAt_below (B:=w.heap.size+1) (s:=s) hb1 (by simp) (spAt_new w c s))
    obtain ⟨q0,q1,q2,q3,q4,q5,q6,q7,q8,q9,q10,q11,q12,q13⟩:=HQ1.out
    obtain ⟨p0,p1⟩:=HP1.out
    clear hb1
    go_wp2_with fail
    all_goals first
      | (exfalso;omega)
      | skip
    refine (r14served_any c s.a _ hn).mono ?_
    rintro e w2 ⟨rfl,hb2⟩
    rw [HU.out]
    have hz2:w.heap.size+1<w2.heap.size:=Nat.lt_of_lt_of_le hz1 hb2.size
    have hy2:w.heap.size<w2.heap.size:=by omega
    have HB2:=hide (HB1.out.trans (hb2.mono (by omega)))
    have HQ2:=hide (calAt_below hb2 (by omega) HQ1.out)
    have HP2:=hide (spAt_below hb2 (by omega) HP1.out)
    clear q0 q1 q2 q3 q4 q5 q6 q7 q8 q9 q10 q11 q12 q13
    obtain ⟨q0,q1,q2,q3,q4,q5,q6,q7,q8,q9,q10,q11,q12,q13⟩:=HQ2.out
    clear p0 p1
    obtain ⟨p0,p1⟩:=HP2.out
    clear hb2
    go_wp2_with fail
    refine (r14served_any c s.b _ hn).mono ?_
    rintro e w3 ⟨rfl,hb3⟩
    rw [HV.out]
    have hz3:w.heap.size+1<w3.heap.size:=Nat.lt_of_lt_of_le hz2 hb3.size
    have hy3:w.heap.size<w3.heap.size:=by omega
    have HB3:=hide (HB2.out.trans (hb3.mono (by omega)))
    have HQ3:=hide (calAt_below hb3 (by omega) HQ2.out)
    have HP3:=hide (spAt_below hb3 (by omega) HP2.out)
    clear q0 q1 q2 q3 q4 q5 q6 q7 q8 q9 q10 q11 q12 q13
    obtain ⟨q0,q1,q2,q3,q4,q5,q6,q7,q8,q9,q10,q11,q12,q13⟩:=HQ3.out
    clear p0 p1
    obtain ⟨p0,p1⟩:=HP3.out
    clear hb3
    have hBel:=HB3.out
    go_wp2
    all_goals first
      | (exfalso;omega)
      | (go_ret2;exact ⟨by rw [HF.out];rfl,by (repeat' exact bel)⟩)
theorem r17meets_yes (c:Cal) (lv:Int) (s:Sp) (w:World) (hn:c.name.size≤1000) (hE:meetsE c lv s=0) :
    Calls Tryz.prog 63 #[calV c,.int .i64 lv,spanV s] w (RUnsPost (meetsL c lv s) w):=by
  obtain ⟨hk,hl1,hl5,hab,hA,hB⟩:=meets_ok hE
  obtain ⟨n0,hny,hFR,mm,nn,hn1,hL,hmn,_,_⟩:=meets_facts hE
  rw [fd_serv hl1 hl5] at hA hB
  have r1:=ask_ok (serv_ok hA).2.2.1.1
  have r2:=ask_ok (serv_ok hB).2.2.1.1
  have HA:=hide (show askedE c lv=0 by rw [askedE,if_pos ⟨hk,hl1,hl5⟩])
  have HIFF:=hide (fun a i (ha:a<meetsN c lv s) (hi:i<cntL c (servY c s.a+a) lv)=>meets_iff hE ha hi)
  have HM:=hide (show meetsL c lv s=(allUp c lv (servY c s.a) (meetsN c lv s)).filter (keepU (fdU c s.a lv) (fdU c s.b lv)) by rw [meetsL,if_pos hE])
  have hpos:0<(meetsL c lv s).length:=by rw [hL];simp [List.length_take,List.length_drop];omega
  obtain ⟨K,hK⟩:∃ K,keepU (fdU c s.a lv) (fdU c s.b lv)=K:=⟨_,rfl⟩
  rw [hK] at HM HIFF
  obtain ⟨Ya,hYa⟩:∃ y,servY c s.a=y:=⟨_,rfl⟩
  obtain ⟨Yb,hYb⟩:∃ y,servY c s.b=y:=⟨_,rfl⟩
  obtain ⟨ny,hnn⟩:∃ y,meetsN c lv s=y:=⟨_,rfl⟩
  rw [hYa] at hFR HIFF HM hny r1
  rw [hYb] at hny r2
  rw [hnn] at hFR HIFF HM hny n0
  rw [HM.out] at hpos ⊢
  obtain ⟨len1,len2⟩:=all_len c lv Ya ny hFR
  have HPRE:=hide (fun a i (ha:a<ny) (hi:i<cntL c (Ya+a) lv)=>pre_lt c lv Ya a ny i ha hi)
  have HFR:=hide hFR
  have HCB:=hide (fun a (ha:a<ny)=>cnt_bd c (Ya+a) (frame_ok (hFR a ha)).2.2.2.2.2.2 lv)
  have HSU:=hide (fun a:Nat=>(show allUp c lv Ya (a+1)=allUp c lv Ya a++yU lv (Ya+a) (cntL c (Ya+a) lv) from rfl))
  have HV:=hide (And.intro (And.intro hA hYa) (And.intro hB hYb))
  obtain ⟨T,hT⟩:∃ T,(allUp c lv Ya ny).length=T:=⟨_,rfl⟩
  rw [hT] at len1 len2 HPRE
  have hny2:ny≤9000:=by omega
  have hyb1:1601≤Ya:=r1.2.1
  have hyb2:Yb≤9997:=r2.2.2
  have HNY:=hide (show Ya+(ny:Int)=Yb+1 from hny)
  have HPOS:=hide hpos
  obtain ⟨sa,sb⟩:=s
  simp only at hab HIFF HV
  obtain ⟨i0,hi,hi0,hi1,hi2⟩:=info_parts unit_info
  clear hk hFR hT hny hE hn1 hL hmn hA hB r1 r2 hK hYa hYb hnn hpos HM
  simp only [calV,spanV]
  go_enter Tryz.func63,Tryz.ntmps63
  go_wp2_with fail
  refine (r17asked_any c lv _ hn).mono ?_
  rintro e w1 ⟨rfl,hb1⟩
  rw [HA.out]
  have hz1:w.heap.size+1<w1.heap.size:=by have:=hb1.size;simp at this;omega
  have hy1:w.heap.size<w1.heap.size:=by omega
  have HB1:=hide (show Below w.heap.size w w1 by (repeat' exact bel))
  have HQ1:=hide (calAt_below (B:=w.heap.size) (c:=c) hb1 (by simp;omega) (calAt_alloc (calAt_new w c) (by simp) _))
  have HP1:=hide (spAt_below (B:=w.heap.size+1) (s:=⟨sa,sb⟩) hb1 (by simp) (spAt_new w c ⟨sa,sb⟩))
  obtain ⟨q0,q1,q2,q3,q4,q5,q6,q7,q8,q9,q10,q11,q12,q13⟩:=HQ1.out
  obtain ⟨p0,p1⟩:=HP1.out
  simp only at p0 p1
  clear hb1
  go_wp2_with fail
  all_goals first
    | (exfalso;omega)
    | skip
  refine (r14served_any c sa _ hn).mono ?_
  rintro e w2 ⟨rfl,hb2⟩
  rw [HV.out.1.1,HV.out.1.2]
  have hz2:w.heap.size+1<w2.heap.size:=Nat.lt_of_lt_of_le hz1 hb2.size
  have hy2:w.heap.size<w2.heap.size:=by omega
  have HB2:=hide (HB1.out.trans (hb2.mono (by omega)))
  have HQ2:=hide (calAt_below hb2 (by omega) HQ1.out)
  have HP2:=hide (spAt_below hb2 (by omega) HP1.out)
  clear q0 q1 q2 q3 q4 q5 q6 q7 q8 q9 q10 q11 q12 q13
  obtain ⟨q0,q1,q2,q3,q4,q5,q6,q7,q8,q9,q10,q11,q12,q13⟩:=HQ2.out
  clear p0 p1
  obtain ⟨p0,p1⟩:=HP2.out
  clear hb2
  simp only at p0 p1
  go_wp2_with fail
  refine (r14served_any c sb _ hn).mono ?_
  rintro e w3 ⟨rfl,hb3⟩
  rw [HV.out.2.1,HV.out.2.2]
  have hz3:w.heap.size+1<w3.heap.size:=Nat.lt_of_lt_of_le hz2 hb3.size
  have hy3:w.heap.size<w3.heap.size:=by omega
  have HB3:=hide (HB2.out.trans (hb3.mono (by omega)))
  have HQ3:=hide (calAt_below hb3 (by omega) HQ2.out)
  have HP3:=hide (spAt_below hb3 (by omega) HP2.out)
  clear q0 q1 q2 q3 q4 q5 q6 q7 q8 q9 q10 q11 q12 q13
  obtain ⟨q0,q1,q2,q3,q4,q5,q6,q7,q8,q9,q10,q11,q12,q13⟩:=HQ3.out
  clear p0 p1
  obtain ⟨p0,p1⟩:=HP3.out
  clear hb3
  simp only at p0 p1
  obtain ⟨Bo,hBo⟩:∃ B,B=w3.heap.size:=⟨_,rfl⟩
  have HS0:=hide (show UlSt c w.heap.size Bo [] (.slice none 0 0) w w3 from ⟨HQ3.out,by omega,by omega,World.ownsRow_nil _ _ _ _,HB3.out⟩)
  have hpB:w.heap.size+1<Bo:=by omega
  clear hBo p0 p1
  clear q0 q1 q2 q3 q4 q5 q6 q7 q8 q9 q10 q11 q12 q13
  go_wp2_with fail
  go_loopw [11,12] (fun s11 s12 wr=>∃ a:Nat,s12=.int .i64 (Ya+(a:Int))∧a≤ny∧SpAt wr (w.heap.size+1) ⟨sa,sb⟩∧UlSt c w.heap.size Bo ((allUp c lv Ya a).filter K) s11 w wr) (fun _ s _=>(Yb+5-intOf s).toNat)
  case atStart=>exact ⟨0,by simp,by omega,HP3.out,HS0.out⟩
  case round =>
    obtain ⟨a,rfl,ha,hP,hS⟩:=hrel
    have HS:=hide hS
    have HP:=hide hP
    have hBs:=hS.2.2.1
    have hBz:=hS.2.1
    clear hS hP
    have hny:=HNY.out
    by_cases hlt:a<ny
    · have hFa:=HFR.out a hlt
      have hcb:=HCB.out a hlt
      have HSUa:=hide (HSU.out a)
      have HPa:=hide (fun i hi=>HPRE.out a i hlt hi)
      have HIa:=hide (fun i hi=>HIFF.out a i hlt hi)
      obtain ⟨A,hA⟩:∃ A,allUp c lv Ya a=A:=⟨_,rfl⟩
      rw [hA] at HS HSUa HPa
      obtain ⟨y,hy⟩:∃ y,Ya+(a:Int)=y:=⟨_,rfl⟩
      rw [hy] at hFa hcb HSUa HPa HIa
      have hyt:y≤Yb:=by omega
      rw [hy]
      have hy1:1601≤y:=by omega
      obtain ⟨M,hM⟩:∃ M,cntL c y lv=M:=⟨_,rfl⟩
      rw [hM] at hcb HSUa HPa HIa
      have HCV:=hide (And.intro hM hFa)
      have HY:=hide hy
      obtain ⟨hM1,hM2⟩:=hcb
      clear hA hy hM hFa hny
      obtain ⟨q0,q1,q2,q3,q4,q5,q6,q7,q8,q9,q10,q11,q12,q13⟩:=HS.out.1
      go_wp2_with fail
      all_goals first
        | (exfalso;omega)
        | skip
      refine (r16spans_yes c lv y _ hn HCV.out.2).mono ?_
      rintro e w4 ⟨g,cap,rfl,hg,hcap,hsp,hb4⟩
      rw [HCV.out.1] at hcap ⊢
      have HS4:=hide (HS.out.call hb4)
      have HP4:=hide (spAt_below hb4 (by omega) HP.out)
      have HG4:=hide hsp
      have HNE:=hide (show u11.ownBlock≠some g from fun e=>by have:=(HS.out.2.2.2.1.lt g e).2;omega)
      have hg4:=hsp.1
      clear hb4 hsp
      clear q0 q1 q2 q3 q4 q5 q6 q7 q8 q9 q10 q11 q12 q13
      go_wp2_with fail
      go_loopw [11,63] (fun s11 s63 wr=>∃ j:Nat,s63=.int .i64 (j:Int)∧j≤M∧(SpAt wr (w.heap.size+1) ⟨sa,sb⟩∧SpansAt wr g (spansL c lv y)∧s11.ownBlock≠some g)∧UlSt c w.heap.size Bo ((A++yU lv y j).filter K) s11 w wr) (fun _ s _=>(100-intOf s).toNat)
      case atStart=>exact ⟨0,by simp,by omega,⟨HP4.out,HG4.out,HNE.out⟩,by simpa [yU,upto] using HS4.out⟩
      case round =>
        obtain ⟨j,rfl,hj,⟨hP,hSp,hne⟩,hS⟩:=hrel
        have HT2:=hide hS
        have HPr:=hide hP
        have HGr:=hide hSp
        have HNr:=hide hne
        have hBt:=hS.2.2.1
        have hgr:=hSp.1
        clear hS hSp hne
        by_cases hjl:j<M
        · have hlen:=HPa.out j hjl
          obtain ⟨d1,d2⟩:=spans_at HGr.out j (by rw [HCV.out.1];exact hjl)
          obtain ⟨p0,p1⟩:=hP
          simp only at p0 p1
          have hiff:=HIa.out j hjl
          have HSS:=hide (show A++yU lv y (j+1)=(A++yU lv y j)++[⟨lv,y,(j:Int)+1⟩] by rw [yU_lt lv y j M hjl,List.append_assoc])
          obtain ⟨U,hU⟩:∃ U,A++yU lv y j=U:=⟨_,rfl⟩
          rw [hU] at HT2 hlen HSS
          have hfl:(U.filter K).length≤U.length:=List.length_filter_le _ _
          obtain ⟨n,hul⟩:∃ n,(U.filter K).length=n:=⟨_,rfl⟩
          rw [hul] at hfl
          have hn1:n<T:=by omega
          have HUL:=hide hul
          obtain ⟨X1,hX1⟩:∃ X,dayW c y (cutN c y lv j)=X:=⟨_,rfl⟩
          obtain ⟨X2,hX2⟩:∃ X,dayW c y (cutN c y lv (j+1))-1=X:=⟨_,rfl⟩
          rw [hX1] at d1 hiff
          rw [hX2] at d2 hiff
          have HI:=hide hiff
          have hi3:(0:Int)≤(j:Int):=by omega
          have hi4:(j:Int)<(M:Int):=by omega
          have hpz:w.heap.size+1<wr.heap.size:=by omega
          clear hU hul hX1 hX2 hfl hlen hiff
          have hcase:(X1≤sb∧sa≤X2)∨sb<X1∨(X1≤sb∧X2<sa):=by omega
          rcases hcase with ⟨x1,x2⟩ | x1 | ⟨x1,x2⟩
          · have HKt:=hide (HI.out.2 ⟨x1,x2⟩)
            go_wp2_with ((at_builtin;refine wpList_append_own_at _ rfl _ _ 115 rfl Bo 26 i0 (.agg #[.int .i64 0,.int .i64 0,.int .i64 0]) 3 24 Tryz.underlying115 hi hi0 hi1 hi2 rfl (by decide) _ _ _ rfl ((HT2.out.call (show Below wr.heap.size wr (wr.alloc (spObj ⟨X1,X2⟩)) by (repeat' exact bel))).2.2.2.1.alloc _) ⟨wr.heap.size+1,0,none⟩ 1 1 [.int .i64 lv,.int .i64 (y),.int .i64 ((j:Int)+1)] rfl rfl ?c1m ?c2m ?c3m ?c4m ?c5m ?_))
            case c1m =>
              intro i u hu
              match i,hu with
              | 0,hu=>simp at hu;subst hu;simp [Addr.add]
              | 1,hu=>simp at hu;subst hu;simp [Addr.add]
              | 2,hu=>simp at hu;subst hu;simp [Addr.add]
              | i+3,hu=>simp at hu
            case c2m=>intro u hu;simp at hu;rcases hu with rfl | rfl | rfl <;> rfl
            case c3m=>have:=HUL.out;unfold maxLen;omega
            case c4m=>have:=HUL.out;omega
            case c5m=>simp;omega
            · intro v' w' hown' hgrow _ hat
              have HG:=hide ((HT2.out.call (show Below wr.heap.size wr (wr.alloc (spObj ⟨X1,X2⟩)) by (repeat' exact bel))).grow (x:=⟨lv,y,(j:Int)+1⟩) _ (by rw [HUL.out];exact (by rw [HUL.out] at hown';exact hown')) hgrow)
              have HP':=hide (spAt_below HG.out.2 (by omega) (spAt_alloc HPr.out (by omega) (spObj ⟨X1,X2⟩)))
              have HG':=hide (((HGr.out.alloc (spObj ⟨X1,X2⟩)).alloc _).own hgrow HNr.out)
              have HN':=hide (show v'.ownBlock≠some g from fun e=>by
                rcases hat with h | h
                · exact HNr.out (by rw [← h];exact e)
                · rw [e] at h
                  have:=Option.some.inj h
                  first | omega | (simp at this;omega))
              clear hown' hgrow hat
              go_wp2
              go_roundw
              case rel=>exact ⟨j+1,by go_num,by omega,⟨HP'.out,HG'.out,HN'.out⟩,by rw [HSS.out,filter_yes _ _ _ HKt.out];exact HG.out.1⟩
              case measure=>simp [intOf];omega
          · have HKf:=hide (show ¬ K ⟨lv,y,(j:Int)+1⟩=true from fun h=>by have:=(HI.out.1 h).1;omega)
            go_wp2
            all_goals first
              | (exfalso;omega)
              | skip
            go_roundw
            case rel=>exact ⟨j+1,by go_num,by omega,⟨spAt_alloc HPr.out (by omega) _,HGr.out.alloc _,HNr.out⟩,by rw [HSS.out,filter_no _ _ _ HKf.out];exact HT2.out.call (by (repeat' exact bel))⟩
            case measure=>simp [intOf];omega
          · have HKf:=hide (show ¬ K ⟨lv,y,(j:Int)+1⟩=true from fun h=>by have:=(HI.out.1 h).2;omega)
            go_wp2
            all_goals first
              | (exfalso;omega)
              | skip
            go_roundw
            case rel=>exact ⟨j+1,by go_num,by omega,⟨spAt_alloc HPr.out (by omega) _,HGr.out.alloc _,HNr.out⟩,by rw [HSS.out,filter_no _ _ _ HKf.out];exact HT2.out.call (by (repeat' exact bel))⟩
            case measure=>simp [intOf];omega
        · obtain rfl:j=M:=by omega
          have hny:=HNY.out
          have hyy:=HY.out
          go_wp2
          all_goals first
            | (exfalso;omega)
            | skip
          refine ⟨⟨a+1,by rw [← hyy];congr 1;omega,by omega,HPr.out,by rw [HSUa.out];exact HT2.out⟩,by simp [intOf];omega⟩
    · obtain rfl:a=ny:=by omega
      obtain ⟨g,cap,rfl,hg,hun⟩:=HS.out.uns HPOS.out
      have HUN:=hide hun
      have hBel:=HS.out.2.2.2.2
      have hlt:¬ Ya+(a:Int)≤Yb:=by omega
      clear hun
      go_wp2
      all_goals first
        | (exfalso;omega)
        | (go_ret2;exact ⟨g,cap,rfl,HUN.out,by (repeat' exact bel)⟩)
end Go.Proofs.YtjhhmeoibfdcmaaGreat
