/- The reference of layer 22: what a unit comes to: the walk. -/
import Derived.Test.YtjhhmeoibfdcmaaGreatUq20
import Derived.Test.YtjhhmeoibfdcmaaGreatUq24
import Derived.Test.YtjhhmeoibfdcmaaGreatUq36
import Derived.Test.YtjhhmeoibfdcmaaGreatUq43
import Derived.Test.YtjhhmeoibfdcmaaGreatUq44
set_option linter.unusedSimpArgs false
set_option linter.unusedVariables false
set_option maxRecDepth 100000
set_option maxHeartbeats 12800000
namespace Go.Proofs.YtjhhmeoibfdcmaaGreat
open Go.RowKit Qd
theorem frame_5 {c:Cal} {u:Un} (h:unitE c u=0):frameE c 5 u.yr=0:=by
  obtain ⟨hf,_⟩:=un_lv h
  have h:=frame_ok hf
  simp [frameE,h.2.1,h.2.2.2.2.1,h.2.2.2.2.2.1]
theorem ny_span {c:Cal} {u:Un} (h:unitE c u=0):spV c ⟨1,u.yr,1⟩=⟨startV c u.yr,endV c u.yr⟩:=by
  obtain ⟨hf,l1,l5,hA,hx,hi⟩:=un_lv h
  have hY:=unit_year h
  have e0:cutA c ⟨1,u.yr,1⟩=0:=cut_0 c u.yr 1
  have e1:cutB c ⟨1,u.yr,1⟩=nWk c u.yr:=by
    have:=cut_end c u.yr 1 (by omega) (by omega)
    have h1:cntL c u.yr 1=1:=by simp [cntL]
    rw [h1] at this
    exact this
  rw [sp_get hY,e0,e1,dayW_0,dayW_end c u.yr hA]
  congr 1
  omega
theorem SpC.below {c:Cal} {lv y:Int} {g K:Nat} {w w':World} (h:SpC c lv y g w) (hb:Below K w w') (hg:g<K):SpC c lv y g w':=
  ⟨Nat.lt_of_lt_of_le h.1 hb.size,fun i hi=>⟨(hb.cell (p:=⟨g,i*2,none⟩) hg).trans (h.2 i hi).1,(hb.cell (p:=⟨g,i*2+1,none⟩) hg).trans (h.2 i hi).2⟩⟩
def ToSt (c:Cal) (u:Un) (v1 v2:Value) (B8 g Bo:Nat) (v:Value) (l:List Int) (w0 w:World):Prop:=
  CalAt w w0.heap.size c∧UnAt w (w0.heap.size+1) u∧BlkIs w (w0.heap.size+2) #[v1,v2] 30∧BlkIs w B8 #[.int .i64 (spV c u).a,.int .i64 (spV c u).b] 45∧SpC c 5 u.yr g w ∧
  w0.heap.size+2<Bo∧B8<Bo∧g<Bo∧Bo≤w.heap.size∧OwnI w Bo v l∧Below w0.heap.size w0 w
theorem ToSt.call {c:Cal} {u:Un} {v1 v2:Value} {B8 g Bo:Nat} {v:Value} {l:List Int} {w0 w w':World} (h:ToSt c u v1 v2 B8 g Bo v l w0 w) (hb:Below w.heap.size w w'):ToSt c u v1 v2 B8 g Bo v l w0 w':=by
  obtain ⟨h1,h2,h3,h4,h5,h6,h7,h8,h9,h10,h11⟩:=h
  exact ⟨calAt_below hb (by omega) h1,unAt_below hb (by omega) h2,h3.call hb,h4.call hb,h5.call hb,h6,h7,h8,Nat.le_trans h9 hb.size,ownI_call h10 hb,h11.trans (hb.mono (by omega))⟩
theorem ToSt.app {c:Cal} {u:Un} {v1 v2:Value} {B8 g Bo:Nat} {v v':Value} {l l':List Int} {w0 w w':World} (h:ToSt c u v1 v2 B8 g Bo v l w0 w) (ho:OwnI w' Bo v' l') (hb:Below Bo w w'):ToSt c u v1 v2 B8 g Bo v' l' w0 w':=by
  obtain ⟨h1,h2,h3,h4,h5,h6,h7,h8,h9,h10,h11⟩:=h
  exact ⟨calAt_below hb (by omega) h1,unAt_below hb (by omega) h2,h3.below hb h6,h4.below hb h7,h5.below hb h8,h6,h7,h8,Nat.le_trans h9 hb.size,ho,h11.trans (hb.mono (by omega))⟩
theorem ToSt.cells {c:Cal} {u:Un} {v1 v2:Value} {B8 g Bo:Nat} {v:Value} {l:List Int} {w0 w:World} (h:ToSt c u v1 v2 B8 g Bo v l w0 w):CalAt w w0.heap.size c∧UnAt w (w0.heap.size+1) u∧(w.cell? ⟨w0.heap.size+1+1,0,none⟩=some v1∧w.cell? ⟨w0.heap.size+1+1,1,none⟩=some v2)∧(w.cell? ⟨B8,0,none⟩=some (.int .i64 (spV c u).a)∧w.cell? ⟨B8,1,none⟩=some (.int .i64 (spV c u).b))∧w0.heap.size+2<w.heap.size∧B8<w.heap.size∧g<w.heap.size∧Below w0.heap.size w0 w:=
  ⟨h.1,h.2.1,⟨h.2.2.1.cell 0,h.2.2.1.cell 1⟩,⟨h.2.2.2.1.cell 0,h.2.2.2.1.cell 1⟩,by have:=h.2.2.2.2.2.1;have:=h.2.2.2.2.2.2.2.2.1;omega,h.2.2.2.1.lt,h.2.2.2.2.1.1,h.2.2.2.2.2.2.2.2.2.2⟩
theorem ToSt.own {c:Cal} {u:Un} {v1 v2:Value} {B8 g Bo:Nat} {v:Value} {l:List Int} {w0 w:World} (h:ToSt c u v1 v2 B8 g Bo v l w0 w):OwnI w Bo v l∧Bo≤w.heap.size∧SpC c 5 u.yr g w:=⟨h.2.2.2.2.2.2.2.2.2.1,h.2.2.2.2.2.2.2.2.1,h.2.2.2.2.1⟩
theorem cell_new_at (W:World) (k:Nat) (m:Value) (t:TypeId) (h:W.heap.size=k):(W.alloc (.cells #[m] t)).cell? ⟨k,0,none⟩=some m:=by
  subst h
  exact (BlkIs.new W #[m] t).cell 0
def Shs (w:World) (v:Value) (D:List (Un × Int)):Prop:=∃ ad cap,v=.slice ad D.length cap∧∀ (i:Nat) (x:Un × Int),D[i]?=some x→∃ g,ad=some ⟨g,0,none⟩∧g<w.heap.size∧w.cell? ⟨g,i*4,none⟩=some (.int .i64 x.1.lv)∧w.cell? ⟨g,i*4+1,none⟩=some (.int .i64 x.1.yr)∧w.cell? ⟨g,i*4+2,none⟩=some (.int .i64 x.1.ix)∧w.cell? ⟨g,i*4+3,none⟩=some (.int .i64 x.2)
theorem Shs.call {w w':World} {v:Value} {D:List (Un × Int)} (h:Shs w v D) (hb:Below w.heap.size w w'):Shs w' v D:=by
  obtain ⟨ad,cap,h1,h2⟩:=h
  refine ⟨ad,cap,h1,fun i x hx=>?_⟩
  obtain ⟨g,e,hg,c1,c2,c3,c4⟩:=h2 i x hx
  exact ⟨g,e,Nat.lt_of_lt_of_le hg hb.size,(hb.cell (p:=⟨g,_,none⟩) hg).trans c1,(hb.cell (p:=⟨g,_,none⟩) hg).trans c2,(hb.cell (p:=⟨g,_,none⟩) hg).trans c3,(hb.cell (p:=⟨g,_,none⟩) hg).trans c4⟩
theorem Shs.keepI {w w':World} {b:Nat} {v:Value} {D:List (Un × Int)} (h:OwnS w b v D) (hk:KeepI w w'):OwnS w' b v D:=by
  refine ⟨h.1,?_⟩
  rcases h.2 with h1 | ⟨g',cap',cur,he,h2,hg',h3⟩
  · exact .inl h1
  · exact .inr ⟨g',cap',cur,he,h2,hk.2 _ _ _ (by decide) hg',h3⟩
theorem ownS_shs {w:World} {b:Nat} {v:Value} {D:List (Un × Int)} (h:OwnS w b v D):Shs w v D:=by
  have hfl:∀ D:List (Un × Int),(D.flatMap shC).length=D.length*4:=by
    intro D
    induction D with
    | nil=>rfl
    | cons x D ih=>simp only [List.flatMap_cons,List.length_append,List.length_cons,ih,shC,List.length_nil];omega
  rcases h.2 with ⟨h1,h2⟩ | ⟨g,cap,cur,h1,h2,h3,h4,h5,h6,h7⟩
  · have hl:D=[]:=List.length_eq_zero_iff.1 h2
    subst hl
    exact ⟨none,0,h1,fun i x hx=>by simp at hx⟩
  · refine ⟨_,_,h1,fun i x hx=>⟨g,rfl,(Array.getElem?_eq_some_iff.1 h3).1,?_⟩⟩
    subst h1
    have hi:=(List.getElem?_eq_some_iff.1 hx).1
    have h8:=hfl D
    obtain ⟨s0,s1,s2,s3⟩:=sh_get D i x hx
    refine ⟨?_,?_,?_,?_⟩
    · rw [h.cellAt _ (by omega)];simp [s0]
    · rw [h.cellAt _ (by omega)];simp [s1]
    · rw [h.cellAt _ (by omega)];simp [s2]
    · rw [h.cellAt _ (by omega)];simp [s3]
theorem r22total_main (c:Cal) (u:Un) (P:List Po) (A:List Ac) (v1 v2:Value) (w:World) (hn:c.name.size≤1000) (hP:Posts w v1 P) (hA:Accs w v2 A) (hl:P.length≤5000∧A.length≤16) (hp64:∀ p∈P,in64 p.n) (ha64:∀ a∈A,in64 a.n)
    (hml:∀ a∈A,meetsE c 5 ⟨a.a,a.b⟩=0→(meetsL c 5 ⟨a.a,a.b⟩).length≤420) (hU:unitE c u=0) (hC:chkE P A=0) :
    Calls Tryz.prog 32 #[calV c,unitV u,.agg #[v1,v2]] w fun e w'=>e=.returned (.tuple #[.int .i64 (TV c P A (ZA c A) u),.int .i64 (TE c P A (ZA c A) u)])∧Below w.heap.size w w':=by
  have HP:=hide hP
  have HA:=hide hA
  have HML:=hide hml
  have H64:=hide (And.intro hp64 ha64)
  have H0:=hide (ttSt_new c u v1 v2 w)
  have hlP:P.length≤100000∧A.length≤100000:=by omega
  have HU:=hide hU
  have HC:=hide hC
  have HF:=hide (frame_5 hU)
  have HNY:=hide (ny_span hU)
  obtain ⟨sa,hsa⟩:∃ x,(spV c u).a=x:=⟨_,rfl⟩
  obtain ⟨sb,hsb⟩:∃ x,(spV c u).b=x:=⟨_,rfl⟩
  have HSP:=hide (And.intro hsa hsb)
  clear hp64 ha64 hml hU hC hsa hsb
  obtain ⟨ad1,cap1,rfl,_⟩:=hP
  obtain ⟨ad2,cap2,rfl,_⟩:=hA
  simp only [calV,unitV]
  go_enter Tryz.func32,Tryz.ntmps32
  go_wp2_with fail
  refine (r16span_any c u _ hn).mono ?_
  rintro e w1 ⟨rfl,hb1⟩
  rw [HU.out]
  simp only [spanV]
  rw [HSP.out.1,HSP.out.2]
  have HS1:=hide (H0.out.call hb1)
  clear hb1
  have HS2:=hide (HS1.out.call (show Below w1.heap.size w1 (w1.alloc (.cells #[.int .i64 sa,.int .i64 sb] 45)) by (repeat' exact bel)))
  have K2:=hide (BlkIs.new w1 #[.int .i64 sa,.int .i64 sb] 45)
  have hz1:=HS1.out.2.2.2.1
  obtain ⟨⟨q0,q1,q2,q3,q4,q5,q6,q7,q8,q9,q10,q11,q12,q13⟩,⟨u0,u1,u2⟩,⟨k0,k1⟩,hsz,hBel⟩:=HS1.out.cells
  have HP2:=hide (HP.out.call HS2.out.2.2.2.2)
  have HA2:=hide (HA.out.call HS2.out.2.2.2.2)
  go_wp2_with fail
  refine (r22check_any P A _ _ _ HP2.out HA2.out hlP).mono ?_
  rintro e w3 ⟨rfl,hb3⟩
  clear q0 q1 q2 q3 q4 q5 q6 q7 q8 q9 q10 q11 q12 q13 u0 u1 u2 k0 k1 hsz hBel
  rw [HC.out]
  have HS3:=hide (HS2.out.call hb3)
  have K3:=hide (K2.out.call hb3)
  clear hb3 HP2 HA2 HS2 K2 HS1 hz1
  obtain ⟨⟨q0,q1,q2,q3,q4,q5,q6,q7,q8,q9,q10,q11,q12,q13⟩,⟨u0,u1,u2⟩,⟨k0,k1⟩,hsz,hBel⟩:=HS3.out.cells
  go_wp2_with fail
  refine (r13start_any c u.yr _ hn).mono ?_
  rintro e w4 ⟨rfl,hb4⟩
  clear q0 q1 q2 q3 q4 q5 q6 q7 q8 q9 q10 q11 q12 q13 u0 u1 u2 k0 k1 hsz hBel
  have HS4:=hide (HS3.out.call hb4)
  have K4:=hide (K3.out.call hb4)
  clear hb4 HS3 K3
  obtain ⟨⟨q0,q1,q2,q3,q4,q5,q6,q7,q8,q9,q10,q11,q12,q13⟩,⟨u0,u1,u2⟩,⟨k0,k1⟩,hsz,hBel⟩:=HS4.out.cells
  go_wp2_with fail
  refine (r13end_any c u.yr _ hn).mono ?_
  rintro e w5 ⟨rfl,hb5⟩
  clear q0 q1 q2 q3 q4 q5 q6 q7 q8 q9 q10 q11 q12 q13 u0 u1 u2 k0 k1 hsz hBel
  have HS5:=hide (HS4.out.call hb5)
  have K5:=hide (K4.out.call hb5)
  clear hb5 HS4 K4
  obtain ⟨⟨q0,q1,q2,q3,q4,q5,q6,q7,q8,q9,q10,q11,q12,q13⟩,⟨u0,u1,u2⟩,⟨k0,k1⟩,hsz,hBel⟩:=HS5.out.cells
  go_wp2_with fail
  refine (spans_c c 5 u.yr _ hn HF.out).mono ?_
  rintro e w6 ⟨gs,caps,rfl,_,hsp,hb6⟩
  clear q0 q1 q2 q3 q4 q5 q6 q7 q8 q9 q10 q11 q12 q13 u0 u1 u2 k0 k1 hsz hBel
  have HT0:=hide (show ToSt c u (.slice ad1 P.length cap1) (.slice ad2 A.length cap2) w1.heap.size gs w6.heap.size (.slice none 0 0) (accN c u (A.take 0)) w w6 from by
    have h:=HS5.out.call hb6
    have hk:=K5.out.call hb6
    refine ⟨h.1,h.2.1,h.2.2.1,?_,hsp,h.2.2.2.1,hk.lt,hsp.1,Nat.le_refl _,?_,h.2.2.2.2⟩
    · rw [HSP.out.1,HSP.out.2];exact hk
    · exact World.ownsRow_nil _ _ _ _)
  clear hsp hb6 HS5 K5
  obtain ⟨⟨q0,q1,q2,q3,q4,q5,q6,q7,q8,q9,q10,q11,q12,q13⟩,⟨u0,u1,u2⟩,⟨k0,k1⟩,⟨z0,z1⟩,hsz,hz8,hzg,hBel⟩:=HT0.out.cells
  go_wp2_with fail
  go_loopw [17,64] (fun s17 s64 wr=>∃ i:Nat,s64=.int .i64 i∧i≤A.length∧ptE c u.yr (A.take i)=0∧Hid (ToSt c u (.slice ad1 P.length cap1) (.slice ad2 A.length cap2) w1.heap.size gs w6.heap.size s17 (accN c u (A.take i)) w wr)) (fun _ s64 _=>(A.length+5-intOf s64).toNat)
  case atStart=>exact ⟨0,rfl,Nat.zero_le _,rfl,HT0⟩
  case round =>
    obtain ⟨i,rfl,hi,hpt,HS⟩:=hrel
    clear q0 q1 q2 q3 q4 q5 q6 q7 q8 q9 q10 q11 q12 q13 u0 u1 u2 k0 k1 z0 z1 hsz hz8 hzg hBel
    obtain ⟨⟨q0,q1,q2,q3,q4,q5,q6,q7,q8,q9,q10,q11,q12,q13⟩,⟨u0,u1,u2⟩,⟨k0,k1⟩,⟨z0,z1⟩,hsz,hz8,hzg,hBel⟩:=HS.out.cells
    rw [HSP.out.1] at z0
    rw [HSP.out.2] at z1
    have hyr:w.heap.size<wr.heap.size:=by omega
    have hyr1:w.heap.size+1<wr.heap.size:=by omega
    have hyr2:w.heap.size+1+1<wr.heap.size:=by omega
    by_cases hlt:i<A.length
    · obtain ⟨x,hx⟩:∃ x,A[i]?=some x:=⟨_,List.getElem?_eq_getElem hlt⟩
      obtain ⟨g,o,rfl,hg,d0,d1,d2⟩:=(HA.out.call hBel).at hx
      have hst:=ptE_step c u.yr A i x hx hpt
      have HAN:=hide (accN_take c u A i x hx)
      have hi1:(0:Int)≤(i:Int):=by omega
      have hi3:(i:Int)<(A.length:Int):=by omega
      have HX:=hide (List.mem_of_getElem? hx)
      have HPT:=hide hpt
      clear hx hpt
      by_cases hne:nearA c u.yr x=true
      · rw [hne] at hst HAN
        simp only [if_true] at HAN
        have hne2:=hne
        unfold nearA at hne2
        rw [decide_eq_true_eq,HNY.out] at hne2
        obtain ⟨hn1,hn2⟩:=hne2
        simp only at hn1 hn2
        by_cases hE:meetsE c 5 ⟨x.a,x.b⟩=0
        · have HST:=hide (hst.2 (by simp [hE]))
          have HSY:=hide (fun W=>r21split_yes c 5 x.n ⟨x.a,x.b⟩ W hn hE (Nat.le_trans (HML.out x HX.out hE) (by omega)) (H64.out.2 x HX.out))
          have HUN:=hide (fun (su:Un) (hu:su∈meetsL c 5 ⟨x.a,x.b⟩)=>clip_meets hE hu)
          have hsl:=shL_len c 5 x.n ⟨x.a,x.b⟩
          have hml2:=HML.out x HX.out hE
          rw [← hsl] at hml2
          have HMEM:=hide (show ∀ y∈shL c 5 x.n ⟨x.a,x.b⟩,y.1∈meetsL c 5 ⟨x.a,x.b⟩ from fun y hy=>(List.of_mem_zip hy).1)
          have hpl:=pL_len c u.yr (A.take i) 420 HPT.out fun a ha=>HML.out a (List.mem_of_mem_take ha)
          have hac:(accN c u (A.take i)).length≤6720:=by
            refine Nat.le_trans (by rw [accN,List.length_map];exact List.length_filter_le _ _) (Nat.le_trans hpl ?_)
            rw [List.length_take]
            exact Nat.le_trans (Nat.mul_le_mul (show min i A.length≤16 by omega) (Nat.le_refl 420)) (by omega)
          obtain ⟨S,hS⟩:∃ S,shL c 5 x.n ⟨x.a,x.b⟩=S:=⟨_,rfl⟩
          rw [hS] at HAN HSY hml2 HMEM
          simp only [calV,spanV] at HSY
          clear hE hst hS hsl hpl hne
          go_wp2_with fail
          all_goals first
            | (exfalso;omega)
            | skip
          refine (HSY.out _).mono ?_
          rintro e w7 ⟨⟨vs,rfl,hsh⟩,hb7⟩
          clear q0 q1 q2 q3 q4 q5 q6 q7 q8 q9 q10 q11 q12 q13 u0 u1 u2 k0 k1 z0 z1 hsz hz8 hzg hBel d0 d1 d2 hyr hyr1 hyr2 hg
          have HS7:=hide (show ToSt c u (.slice ad1 P.length cap1) (.slice (some ⟨g,o,none⟩) A.length cap2) w1.heap.size gs w6.heap.size u17 (accN c u (A.take i)++((S.take 0).filter fun y=>inU c u y.1).map (·.2)) w w7 from by
            rw [List.take_zero,List.filter_nil,List.map_nil,List.append_nil]
            exact HS.out.call (ww hb7).out)
          have HSH7:=hide hsh
          obtain ⟨ads,capS,rfl,_⟩:=ownS_shs hsh
          clear hsh hb7
          go_wp2_with fail
          go_loopw [17,94] (fun s17 s94 wr=>∃ j:Nat,s94=.int .i64 j∧j≤S.length∧Hid (ToSt c u (.slice ad1 P.length cap1) (.slice (some ⟨g,o,none⟩) A.length cap2) w1.heap.size gs w6.heap.size s17 (accN c u (A.take i)++((S.take j).filter fun y=>inU c u y.1).map (·.2)) w wr∧∃ b,OwnS wr b (.slice ads S.length capS) S)) (fun _ s94 _=>(S.length+5-intOf s94).toNat)
          case atStart=>exact ⟨0,rfl,Nat.zero_le _,hide ⟨HS7.out,_,HSH7.out⟩⟩
          case round =>
            obtain ⟨j,rfl,hj,HR⟩:=hrel
            obtain ⟨⟨q0,q1,q2,q3,q4,q5,q6,q7,q8,q9,q10,q11,q12,q13⟩,⟨u0,u1,u2⟩,⟨k0,k1⟩,⟨z0,z1⟩,hsz,hz8,hzg,hBel⟩:=HR.out.1.cells
            rw [HSP.out.1] at z0
            rw [HSP.out.2] at z1
            by_cases hlt2:j<S.length
            · obtain ⟨⟨su,m⟩,hsu⟩:∃ y,S[j]?=some y:=⟨_,List.getElem?_eq_getElem hlt2⟩
              obtain ⟨b,hOS⟩:=HR.out.2
              have HOS:=hide hOS
              obtain ⟨ad',cap',eq1,h2⟩:=ownS_shs hOS
              obtain ⟨gh,hgh1,hgh,a0,a1,a2,a3⟩:=h2 j _ hsu
              cases eq1
              subst hgh1
              simp only at a0 a1 a2 a3
              obtain ⟨hSU,h5,_⟩:=HUN.out su (HMEM.out _ (List.mem_of_getElem? hsu))
              have hSF:=un_lv hSU
              rw [h5] at hSF
              have HSK:=hide (And.intro hSF.2.2.2.2.1 hSF.2.2.2.2.2)
              rw [HSK.out.1] at a2
              have HFT:=hide (show (S.take (j+1)).filter (fun y=>inU c u y.1)=(S.take j).filter (fun y=>inU c u y.1)++(if inU c u su=true then [(su,m)] else []) by
                rw [List.take_add_one,hsu,Option.toList_some,List.filter_append]
                congr 1
                by_cases hin:inU c u su=true <;> simp [List.filter,hin])
              have hj0:(0:Int)≤(j:Int):=by omega
              have hj1:(j:Int)<(S.length:Int):=by omega
              have hyr:w.heap.size<wr.heap.size:=by omega
              have hyr1:w.heap.size+1<wr.heap.size:=by omega
              have hkk:(0:Int)≤(uI su:Int):=by omega
              have hgl:gs<wr.heap.size:=hzg
              have hk60:uI su<60:=by have h1:=cnt_bd c su.yr hSF.2.2.2.1 5;have:=hSF.2.2.2.2.2;omega
              have HSY5:=hide (And.intro hSU h5)
              clear hsu hSF h2 hOS hSU h5
              by_cases hy:su.yr=u.yr
              · rw [hy] at a1
                obtain ⟨c1,c2⟩:=HR.out.1.own.2.2.2 (uI su) (by rw [← hy];exact HSK.out.2)
                have hkc:(uI su:Int)<(cntL c u.yr 5:Int):=by have:=HSK.out.2;rw [hy] at this;omega
                have HWK:=hide (wk_in HU.out HSY5.out.1 HSY5.out.2 hy)
                have HSV:=hide (show spV c su=⟨dayW c u.yr (cutN c u.yr 5 (uI su)),dayW c u.yr (cutN c u.yr 5 (uI su+1))-1⟩ by rw [spV,if_pos HSY5.out.1];unfold spanF spanT cutA cutB;rw [HSY5.out.2,hy])
                have hw:=HWK.out
                rw [HSV.out] at hw
                simp only at hw
                rw [HSP.out.1,HSP.out.2] at hw
                generalize dayW c u.yr (cutN c u.yr 5 (uI su))=D1 at c1 hw
                generalize dayW c u.yr (cutN c u.yr 5 (uI su+1))-1=D2 at c2 hw
                have hwr:IntKind.i64.wrap ((uI su:Int)+1-1)=(uI su:Int):=by
                  rw [show (uI su:Int)+1-1=(uI su:Int) by omega]
                  exact IntWalk.i64_in _ (by omega)
                by_cases hD1:sa≤D1
                · have hd1:decide (sa≤D1)=true:=by simpa using hD1
                  by_cases hD2:D2≤sb
                  · have hd2:decide (D2≤sb)=true:=by simpa using hD2
                    have HIN:=hide (hw.1 ⟨hD1,hD2⟩)
                    clear hw
                    go_wp2_with fail
                    go_quiet (fail)
                    clear hwr
                    have HLN:=hide (show (accN c u (A.take i)++((S.take j).filter fun y=>inU c u y.1).map (·.2)).length≤7140 by
                      have h1:=List.length_filter_le (fun y:Un × Int=>inU c u y.1) (S.take j)
                      rw [List.length_take] at h1
                      rw [List.length_append,List.length_map]
                      omega)
                    have hBo:=HR.out.1.own.2.1
                    go_wp2_with ((at_builtin;refine app_nums rfl _ _ rfl w6.heap.size _ _ _ [m] rfl (ownsI_call HR.out.1.own.1 ?hw) rfl (.inr ⟨_,_,by simp,rfl,?hl,?hc⟩) (Nat.le_trans (Nat.add_le_add_right HLN.out _) (by simp)) ?hz ?_))
                    case hw=>(repeat' exact bel)
                    case hl=>simp
                    case hc =>
                      intro i y hy
                      match i,hy with
                      | 0,hy=>simp at hy;subst hy;exact cell_new_at _ _ _ _ (by first | (simp;done) | (show (World.alloc _ _).heap.size=_;simp))
                    case hz=>first | omega | (simp;omega)
                    intro v' w' hown' hbel hkeep
                    have key:∀ W,Below wr.heap.size wr W→Below w6.heap.size W w'→ToSt c u (.slice ad1 P.length cap1) (.slice (some ⟨g,o,none⟩) A.length cap2) w1.heap.size gs w6.heap.size v' (accN c u (A.take i)++((S.take (j+1)).filter fun y=>inU c u y.1).map (·.2)) w w':=fun W h1 h2=>(HR.out.1.call h1).app (by rw [HFT.out,if_pos HIN.out,List.map_append,← List.append_assoc];unfold OwnI;simpa using hown') h2
                    have key2:∀ W,Below wr.heap.size wr W→KeepI W w'→OwnS w' b (.slice (some ⟨gh,0,none⟩) S.length capS) S:=fun W h1 h2=>Shs.keepI (ownS_call HOS.out h1) h2
                    have HS3:=hide (key _ (by (repeat' exact bel)) hbel)
                    have HS4:=hide (key2 _ (by (repeat' exact bel)) hkeep)
                    clear hown' hbel hkeep key key2
                    go_wp2
                    go_roundw
                    case rel=>exact ⟨j+1,by go_num,by omega,hide ⟨HS3.out,_,HS4.out⟩⟩
                    case measure=>simp [intOf];omega
                  · have hd2:decide (D2≤sb)=false:=by simpa using hD2
                    have HIN:=hide (show ¬ inU c u su=true from fun h=>hD2 (hw.2 h).2)
                    clear hw
                    go_wp2_with fail
                    go_quiet (fail)
                    clear hwr
                    go_wp2
                    go_roundw
                    case rel=>exact ⟨j+1,by go_num,by omega,hide ⟨by rw [HFT.out,if_neg HIN.out,List.append_nil];exact HR.out.1.call (by (repeat' exact bel)),_,ownS_call HOS.out (by (repeat' exact bel))⟩⟩
                    case measure=>simp [intOf];omega
                · have hd1:decide (sa≤D1)=false:=by simpa using hD1
                  have HIN:=hide (show ¬ inU c u su=true from fun h=>hD1 (hw.2 h).1)
                  clear hw
                  go_wp2_with fail
                  go_quiet (fail)
                  clear hwr
                  go_wp2
                  go_roundw
                  case rel=>exact ⟨j+1,by go_num,by omega,hide ⟨by rw [HFT.out,if_neg HIN.out,List.append_nil];exact HR.out.1.call (by (repeat' exact bel)),_,ownS_call HOS.out (by (repeat' exact bel))⟩⟩
                  case measure=>simp [intOf];omega
              · have HIN := hide (show ¬ inU c u su = true by
                  unfold inU inW
                  simp [hy])
                have hyb:(su.yr==u.yr)=false:=by simpa using hy
                have hyd:decide (su.yr=u.yr)=false:=by simpa using hy
                go_wp2_with fail
                go_quiet (fail)
                go_wp2
                go_roundw
                case rel=>exact ⟨j+1,by go_num,by omega,hide ⟨by rw [HFT.out,if_neg HIN.out,List.append_nil];exact HR.out.1.call (by (repeat' exact bel)),_,ownS_call HOS.out (by (repeat' exact bel))⟩⟩
                case measure=>simp [intOf];omega
            · have HD := hide (show ToSt c u (.slice ad1 P.length cap1) (.slice (some ⟨g, o, none⟩) A.length cap2) w1.heap.size gs w6.heap.size _ (accN c u (A.take (i + 1))) w _ from by
                have h:=HR.out.1
                rw [show S.take j=S from List.take_of_length_le (by omega),← HAN.out] at h
                exact h)
              go_wp2
              all_goals first
                | (exfalso;omega)
                | skip
              go_roundw
              case rel=>exact ⟨i+1,by go_num,by omega,HST.out,HD⟩
              case measure=>simp [intOf];omega
        · have HV := hide (show TV c P A (ZA c A) u = 0 by
            have:=hst.1 ⟨rfl,hE⟩
            simp [TV,tV,ZA,this,hE])
          have HEE:=hide (show TE c P A (ZA c A) u=meetsE c 5 ⟨x.a,x.b⟩ by
            have:=hst.1 ⟨rfl,hE⟩
            simp [TE,tE,ZA,this,hE,HU.out,HC.out])
          have HSN:=hide (fun W=>r21split_no c 5 x.n ⟨x.a,x.b⟩ W hn hE)
          have hEb:(meetsE c 5 ⟨x.a,x.b⟩ != 0)=true:=by simpa using hE
          generalize meetsE c 5 ⟨x.a,x.b⟩=E at *
          simp only [calV,spanV] at HSN
          clear hst hE hne
          go_wp2_with fail
          all_goals first
            | (exfalso;omega)
            | skip
          refine (HSN.out _).mono ?_
          rintro e w7 ⟨rfl,hb7⟩
          have HB6:=hide (show Below wr.heap.size wr w7 from (ww hb7).out)
          have HB7:=hide (show Below w.heap.size w w7 from hBel.trans (HB6.out.mono (by omega)))
          clear hb7
          go_wp2
          go_ret2
          exact ⟨ret_int2 HV.out.symm HEE.out.symm,HB7.out⟩
      · have hne1:nearA c u.yr x=false:=by simpa using hne
        rw [hne1] at hst HAN
        have HST:=hide (hst.2 (by simp))
        simp only [Bool.false_eq_true,if_false,List.append_nil] at HAN
        unfold nearA at hne
        rw [decide_eq_true_eq,HNY.out] at hne
        simp only at hne
        clear hst hne1
        rcases (show x.b<startV c u.yr∨(startV c u.yr≤x.b∧endV c u.yr<x.a) by omega) with hq | ⟨hq,hq2⟩
        all_goals
          clear hne
          go_wp2
          all_goals first
            | (exfalso;omega)
            | skip
          go_roundw
          case rel=>exact ⟨i+1,by go_num,by omega,HST.out,hide (by rw [HAN.out];exact HS.out.call (by (repeat' exact bel)))⟩
          case measure=>simp [intOf];omega
    · have HAF:=hide (show accN c u (A.take i)=accN c u A by rw [List.take_of_length_le (by omega)])
      have HE:=hide (show TE c P A (ZA c A) u=fitE (rfN c u P A).sum by
        rw [List.take_of_length_le (by omega)] at hpt
        rw [rfN_sum]
        simp [TE,tE,ZA,hpt,HU.out,HC.out])
      have HV:=hide (show TV c P A (ZA c A) u=fitV (rfN c u P A).sum by
        rw [List.take_of_length_le (by omega)] at hpt
        rw [rfN_sum]
        simp [TV,tV,ZA,hpt,HU.out,HC.out])
      have HSS:=hide (show ToSt c u (.slice ad1 P.length cap1) (.slice ad2 A.length cap2) w1.heap.size gs w6.heap.size u17 (accN c u A++inD (spV c u) (P.take 0)) w wr from by
        have h:=HS.out
        rw [HAF.out] at h
        simpa [inD] using h)
      have hac:(accN c u A).length≤6720:=by
        rw [List.take_of_length_le (by omega)] at hpt
        refine Nat.le_trans (by rw [accN,List.length_map];exact List.length_filter_le _ _) (Nat.le_trans (pL_len c u.yr A 420 hpt HML.out) ?_)
        exact Nat.le_trans (Nat.mul_le_mul (show A.length≤16 by omega) (Nat.le_refl 420)) (by omega)
      have HAC64:=hide (show ∀ n∈accN c u A,in64 n by
        rw [List.take_of_length_le (by omega)] at hpt
        intro n hn2
        unfold accN at hn2
        obtain ⟨y,hy,rfl⟩:=List.mem_map.1 hn2
        obtain ⟨a,ha,hne,h⟩:=pL_mem (List.mem_filter.1 hy).1
        exact shL_in (ptE_near c u.yr A hpt a ha hne) (H64.out.2 a ha) h)
      clear hpt
      go_wp2_with fail
      all_goals first
        | (exfalso;omega)
        | skip
      go_loopw [17,140] (fun s17 s140 wr=>∃ j:Nat,s140=.int .i64 j∧j≤P.length∧Hid (ToSt c u (.slice ad1 P.length cap1) (.slice ad2 A.length cap2) w1.heap.size gs w6.heap.size s17 (accN c u A++inD (spV c u) (P.take j)) w wr)) (fun _ s140 _=>(6000-intOf s140).toNat)
      case atStart=>exact ⟨0,rfl,Nat.zero_le _,HSS⟩
      case round =>
        obtain ⟨j,rfl,hj,HR⟩:=hrel
        clear q0 q1 q2 q3 q4 q5 q6 q7 q8 q9 q10 q11 q12 q13 u0 u1 u2 k0 k1 z0 z1 hsz hz8 hzg hBel hyr hyr1 hyr2
        obtain ⟨_,_,_,⟨z0,z1⟩,hsz,hz8,hzg,hBel⟩:=HR.out.cells
        rw [HSP.out.1] at z0
        rw [HSP.out.2] at z1
        have hl2:=inD_len (spV c u) (P.take j)
        rw [List.length_take] at hl2
        by_cases hlt2:j<P.length
        · obtain ⟨x,hx⟩:∃ x,P[j]?=some x:=⟨_,List.getElem?_eq_getElem hlt2⟩
          obtain ⟨g,o,rfl,hg,d0,d1⟩:=(HP.out.call hBel).at hx
          have hi1:(0:Int)≤(j:Int):=by omega
          have hi3:(j:Int)<(P.length:Int):=by omega
          have HX:=hide hx
          clear hx
          by_cases hd:sa≤x.day∧x.day≤sb
          · have HI:=hide (show inD (spV c u) (P.take (j+1))=inD (spV c u) (P.take j)++[x.n] from inD_yes HX.out (by rw [HSP.out.1,HSP.out.2];exact hd))
            obtain ⟨hd1,hd2⟩:=hd
            go_wp2_with ((at_builtin;refine app_nums rfl _ _ rfl w6.heap.size _ _ _ [x.n] rfl (ownsI_call HR.out.own.1 ?hw) rfl (.inr ⟨_,_,by simp,rfl,?hl,?hc⟩) (by simp;omega) ?hz ?_))
            case hw=>(repeat' exact bel)
            case hl=>simp
            case hc =>
              intro i y hy
              match i,hy with
              | 0,hy=>simp at hy;subst hy;simp
            case hz=>have:=HR.out.own.2.1;simp;omega
            intro v' w' hown' hbel hkeep
            have HS3:=hide ((HR.out.call (show Below wr.heap.size wr ((wr.alloc (.cells #[.int .i64 x.day,.int .i64 x.n] 32)).alloc (.cells #[.int .i64 x.n] 2)) by (repeat' exact bel))).app (l':=accN c u A++inD (spV c u) (P.take j)++[x.n]) (by unfold OwnI;simpa using hown') hbel)
            clear hown' hbel hkeep
            go_wp2
            go_roundw
            case rel=>exact ⟨j+1,by go_num,by omega,hide (by rw [HI.out,← List.append_assoc];exact HS3.out)⟩
            case measure=>simp [intOf];omega
          · have HI:=hide (show inD (spV c u) (P.take (j+1))=inD (spV c u) (P.take j) from inD_no HX.out (by rw [HSP.out.1,HSP.out.2];exact hd))
            rcases (show x.day<sa∨(sa≤x.day∧sb<x.day) by omega) with hd2 | ⟨hd2,hd3⟩
            all_goals
              go_wp2
              all_goals first
                | (exfalso;omega)
                | skip
              go_roundw
              case rel=>exact ⟨j+1,by go_num,by omega,hide (by rw [HI.out];exact HR.out.call (by (repeat' exact bel)))⟩
              case measure=>simp [intOf];omega
        · have HN := hide (show Nums wr _ (rfN c u P A) from by
            have h:=owns_nums HR.out.own.1
            rw [List.take_of_length_le (by omega)] at h
            exact h)
          have h64:=hide (show ∀ y∈rfN c u P A,in64 y from fun y hy=>by
            rcases List.mem_append.1 hy with h | h
            · exact HAC64.out y h
            · obtain ⟨p,hp1,rfl⟩:=inD_mem h;exact H64.out.1 p hp1)
          have hlen:=hide (show (rfN c u P A).length≤1000000 by
            have:=inD_len (spV c u) P
            rw [rfN,List.length_append];omega)
          clear hl2
          go_wp2_with fail
          refine (r02sum_any _ (rfN c u P A) _ HN.out h64.out hlen.out).mono ?_
          rintro e w8 ⟨rfl,hb8⟩
          have HB8:=hide (hBel.trans (hb8.mono hBel.size))
          clear hb8
          go_wp2
          go_ret2
          exact ⟨ret_int2 HV.out.symm HE.out.symm,HB8.out⟩
end Go.Proofs.YtjhhmeoibfdcmaaGreat
