/- The walk of RateDoes. The statement RateDoes: for every input the law answers true, and its arguments read behind the call as they read before. No condition. -/
import Derived.Test.YtjhhmeoibfdcmaaGreatUq18
import Derived.Test.YtjhhmeoibfdcmaaGreatUq27
import Derived.Test.YtjhhmeoibfdcmaaGreatUq47
import Derived.Test.YtjhhmeoibfdcmaaGreatUq53
set_option linter.unusedSimpArgs false
set_option linter.unusedVariables false
set_option maxRecDepth 100000
set_option maxHeartbeats 12800000
namespace Go.Proofs.YtjhhmeoibfdcmaaGreat
open Go.RowKit Qd
def FmB (c:Cal) (s:Sp) (B:Nat) (w0 w:World):Prop:=CalAt w B c∧SpAt w (B+1) s∧B+1<w.heap.size∧Below B w0 w
theorem FmB.call {c:Cal} {s:Sp} {B:Nat} {w0 w w':World} (h:FmB c s B w0 w) (hb:Below w.heap.size w w'):FmB c s B w0 w':=⟨calAt_below hb (by have:=h.2.2.1;omega) h.1,spAt_below hb h.2.2.1 h.2.1,Nat.lt_of_lt_of_le h.2.2.1 hb.size,h.2.2.2.trans (hb.mono (by have:=h.2.2.1;omega))⟩
theorem fmB_new (c:Cal) (s:Sp) (w:World):FmB c s w.heap.size w ((w.alloc (calObj c)).alloc (spObj s)):=by
  refine ⟨calAt_alloc (calAt_new w c) (by simp) _,?_,by simp,by (repeat' exact bel)⟩
  have:=spAt_fresh (w.alloc (calObj c)) s
  simpa using this
def Shz (w:World) (v:Value) (D:List (Un × Int)):Prop:=∃ ad cap,v=.slice ad D.length cap∧∀ (i:Nat) (x:Un × Int),D[i]?=some x→∃ g,ad=some ⟨g,0,none⟩∧g<w.heap.size∧w.cell? ⟨g,i*4,none⟩=some (.int .i64 x.1.lv)∧w.cell? ⟨g,i*4+1,none⟩=some (.int .i64 x.1.yr)∧w.cell? ⟨g,i*4+2,none⟩=some (.int .i64 x.1.ix)∧w.cell? ⟨g,i*4+3,none⟩=some (.int .i64 x.2)
theorem Shz.call {w w':World} {v:Value} {D:List (Un × Int)} (h:Shz w v D) (hb:Below w.heap.size w w'):Shz w' v D:=by
  obtain ⟨ad,cap,h1,h2⟩:=h
  refine ⟨ad,cap,h1,fun i x hx=>?_⟩
  obtain ⟨g,e,hg,c1,c2,c3,c4⟩:=h2 i x hx
  exact ⟨g,e,Nat.lt_of_lt_of_le hg hb.size,(hb.cell (p:=⟨g,_,none⟩) hg).trans c1,(hb.cell (p:=⟨g,_,none⟩) hg).trans c2,(hb.cell (p:=⟨g,_,none⟩) hg).trans c3,(hb.cell (p:=⟨g,_,none⟩) hg).trans c4⟩
theorem shz_nil (w:World):Shz w (.slice none 0 0) []:=⟨none,0,rfl,fun i x hx=>by simp at hx⟩
theorem nums_nil (w:World):Nums w (.slice none 0 0) []:=⟨none,0,rfl,fun i x hx=>by simp at hx⟩
theorem ShrAt.shz {w:World} {g:Nat} {D:List (Un × Int)} (h:ShrAt w g D) (cap:Nat):Shz w (.slice (some ⟨g,0,none⟩) D.length cap) D:=
  ⟨_,_,rfl,fun i x hx=>⟨g,rfl,h.lt,h.cell hx⟩⟩
theorem ownS_shz {w:World} {b:Nat} {v:Value} {D:List (Un × Int)} (h:OwnS w b v D):Shz w v D:=by
  have hfl:∀ D:List (Un × Int),(D.flatMap shC).length=D.length*4:=by
    intro D
    induction D with
    | nil=>rfl
    | cons x D ih=>simp only [List.flatMap_cons,List.length_append,List.length_cons,ih,shC,List.length_nil];omega
  rcases h.2 with ⟨h1,h2⟩ | ⟨g,cap,cur,h1,h2,h3,h4,h5,h6,h7⟩
  · have hl:D=[]:=List.length_eq_zero_iff.1 h2
    subst hl
    exact ⟨none,0,h1,fun i x hx=>by simp at hx⟩
  · refine ⟨_,_,h1,fun i x hx=>⟨g,rfl,(Array.getElem?_eq_some_iff.1 h3).1,?_⟩⟩
    subst h1
    have hi:=(List.getElem?_eq_some_iff.1 hx).1
    have h8:=hfl D
    obtain ⟨s0,s1,s2,s3⟩:=sh_get D i x hx
    refine ⟨?_,?_,?_,?_⟩
    · rw [h.cellAt _ (by omega)];simp [s0]
    · rw [h.cellAt _ (by omega)];simp [s1]
    · rw [h.cellAt _ (by omega)];simp [s2]
    · rw [h.cellAt _ (by omega)];simp [s3]
@[go_sem high] theorem neqz_share (a b c d a' b' c' d':Int) (w:World):(binOp .neq 111 (.agg #[.int .i64 a,.int .i64 b,.int .i64 c,.int .i64 d]) (.agg #[.int .i64 a',.int .i64 b',.int .i64 c',.int .i64 d'])).run Tryz.prog w=.ok (.bool (!shB a b c d a' b' c' d')) w:=by
  rw [run_neq_struct,eqShare 9997];rfl
theorem r21samez_yes (D:List (Un × Int)) (v1 v2:Value) (w:World) (h1:Shz w v1 D) (h2:Shz w v2 D) (hl:D.length≤100000) :
    Calls Tryz.prog 30 #[v1,v2] w fun e w'=>e=.returned (.bool true)∧Below w.heap.size w w':=by
  have H1:=hide h1
  have H2:=hide h2
  obtain ⟨ad1,cap1,rfl,_⟩:=h1
  obtain ⟨ad2,cap2,rfl,_⟩:=h2
  go_enter Tryz.func30,Tryz.ntmps30
  go_wp2_with fail
  go_loopw [13] (fun s wr=>∃ j:Nat,s=.int .i64 j∧j≤D.length∧Hid (Below w.heap.size w wr)) (fun s _=>(100001-intOf s).toNat)
  case atStart=>exact ⟨0,rfl,Nat.zero_le _,hide (Below.refl _ _)⟩
  case round =>
    obtain ⟨j,rfl,hj,HB⟩:=hrel
    by_cases hlt:j<D.length
    · obtain ⟨x,hx⟩:∃ x,D[j]?=some x:=⟨_,List.getElem?_eq_getElem hlt⟩
      have HX1:=H1.out.call HB.out
      have HX2:=H2.out.call HB.out
      obtain ⟨ad1',cap1',e1,hx1⟩:=HX1
      obtain ⟨g,e3,hg,c0,c1,c2,c3⟩:=hx1 j x hx
      obtain ⟨ad2',cap2',e2,hx2⟩:=HX2
      obtain ⟨g',e4,hg',d0,d1,d2,d3⟩:=hx2 j x hx
      cases e1
      cases e2
      subst e3
      subst e4
      clear hx hx1 hx2
      have hi3:(0:Int)≤(j:Int):=by omega
      have hi4:(j:Int)<(D.length:Int):=by omega
      have hub:=shB_same x.1.lv x.1.yr x.1.ix x.2
      go_wp2_with fail
      go_quiet (fail)
      go_wp2
      all_goals first
        | (exfalso;omega)
        | skip
      go_roundw
      case rel=>exact ⟨j+1,by go_num,by omega,hide (below_drewN HB.out _)⟩
      case measure=>simp [intOf];omega
    · go_wp2
      all_goals first
        | (exfalso;omega)
        | skip
      go_ret
      exact ⟨rfl,HB.out⟩
theorem rd_main (c:Cal) (lv a:Int) (s:Sp) (hn:c.name.size≤1000) (ha:in64 a) (hs:0≤s.a→s.a≤s.b→s.b<3068037→s.b-s.a≤1500) :
    ∃ (D:List Int) (SL:List (Un × Int)) (XL:List (Int × Int)) (E EX:Int),(D.length≤4096∧SL.length≤4096∧XL.length≤4096) ∧
      (∀ w,Calls Tryz.prog 23 #[calV c,.int .i64 lv,spanV s] w fun e w'=>(∃ v,e=.returned (.tuple #[v,.int .i64 E])∧Nums w' v D)∧Below w.heap.size w w') ∧
      (∀ w,Calls Tryz.prog 24 #[calV c,.int .i64 lv,spanV s] w fun e w'=>(∃ v,e=.returned (.tuple #[v,.int .i64 E])∧Nums w' v D)∧Below w.heap.size w w') ∧
      (∀ w,Calls Tryz.prog 25 #[calV c,.int .i64 lv,.int .i64 a,spanV s] w fun e w'=>(∃ v,e=.returned (.tuple #[v,.int .i64 E])∧Shz w' v SL)∧Below w.heap.size w w') ∧
      (∀ w,Calls Tryz.prog 26 #[calV c,.int .i64 lv,.int .i64 a,spanV s] w fun e w'=>(∃ v,e=.returned (.tuple #[v,.int .i64 E])∧Shz w' v SL)∧Below w.heap.size w w') ∧
      (∀ w,Calls Tryz.prog 27 #[calV c,.int .i64 lv,.int .i64 a,spanV s] w fun e w'=>(∃ v,e=.returned (.tuple #[v,.int .i64 EX])∧Rts w' v XL)∧Below w.heap.size w w') ∧
      (∀ w,Calls Tryz.prog 28 #[calV c,.int .i64 lv,.int .i64 a,spanV s] w fun e w'=>(∃ v,e=.returned (.tuple #[v,.int .i64 EX])∧Rts w' v XL)∧Below w.heap.size w w'):=by
  by_cases hE:meetsE c lv s=0
  · obtain ⟨_,hlen⟩:=brief_len hE hs
    have hex:∃ XL:List (Int × Int),XL.length≤4096∧(exsE a (dysL c lv s)=0→XL=exsL a (dysL c lv s))∧(¬ exsE a (dysL c lv s)=0→XL=[]):=by
      by_cases h0:exsE a (dysL c lv s)=0
      · exact ⟨_,by rw [exsL_len,dysL_len];omega,fun _=>rfl,fun h=>absurd h0 h⟩
      · exact ⟨[],by simp,fun h=>absurd h h0,fun _=>rfl⟩
    obtain ⟨XL,hx1,hx2,hx3⟩:=hex
    have hpost:∀ w e w',ExPost a (dysL c lv s) w e w'→(∃ v,e=.returned (.tuple #[v,.int .i64 (exsE a (dysL c lv s))])∧Rts w' v XL)∧Below w.heap.size w w':=by
      rintro w e w' ⟨⟨v,he,h1,h2⟩,hb⟩
      refine ⟨⟨v,he,?_⟩,hb⟩
      by_cases h0:exsE a (dysL c lv s)=0
      · rw [hx2 h0];exact h1 h0
      · rw [hx3 h0,h2 h0];exact rts_nil _
    refine ⟨dysL c lv s,shL c lv a s,XL,0,exsE a (dysL c lv s),⟨by rw [dysL_len];omega,by rw [shL_len];omega,hx1⟩,?_,?_,?_,?_,?_,?_⟩
    · intro w
      refine (rdays_yes c lv s w hn hE (by omega)).mono ?_
      rintro e w' ⟨⟨g,he,h,_⟩,hb⟩
      exact ⟨⟨_,he,by have h2:=h.nums (cap:=(meetsL c lv s).length);rwa [dysL_len] at h2⟩,hb⟩
    · intro w
      refine (r21days_yes c lv s w hn hE (by omega)).mono ?_
      rintro e w' ⟨⟨v,he,h⟩,hb⟩
      exact ⟨⟨_,he,owns_nums h⟩,hb⟩
    · intro w
      refine (rsplit_yes c lv a s w hn hE (by omega) ha).mono ?_
      rintro e w' ⟨⟨g,he,h,_⟩,hb⟩
      exact ⟨⟨_,he,by have h2:=h.shz (meetsL c lv s).length;rwa [shL_len] at h2⟩,hb⟩
    · intro w
      refine (r21split_yes c lv a s w hn hE (by omega) ha).mono ?_
      rintro e w' ⟨⟨v,he,h⟩,hb⟩
      exact ⟨⟨_,he,ownS_shz h⟩,hb⟩
    · intro w
      exact (rexact_yes c lv a s w hn hE (by omega) ha).mono fun e w' h=>hpost w e w' h
    · intro w
      exact (r21exact_yes c lv a s w hn hE (by omega) ha).mono fun e w' h=>hpost w e w' h
  · refine ⟨[],[],[],meetsE c lv s,meetsE c lv s,⟨by simp,by simp,by simp⟩,?_,?_,?_,?_,?_,?_⟩
    · intro w
      exact (rdays_no c lv s w hn hE).mono fun e w' h=>⟨⟨_,h.1,nums_nil _⟩,h.2⟩
    · intro w
      exact (r21days_no c lv s w hn hE).mono fun e w' h=>⟨⟨_,h.1,nums_nil _⟩,h.2⟩
    · intro w
      exact (rsplit_no c lv a s w hn hE).mono fun e w' h=>⟨⟨_,h.1,shz_nil _⟩,h.2⟩
    · intro w
      exact (r21split_no c lv a s w hn hE).mono fun e w' h=>⟨⟨_,h.1,shz_nil _⟩,h.2⟩
    · intro w
      exact (rexact_no c lv a s w hn hE).mono fun e w' h=>⟨⟨_,h.1,rts_nil _⟩,h.2⟩
    · intro w
      exact (r21exact_no c lv a s w hn hE).mono fun e w' h=>⟨⟨_,h.1,rts_nil _⟩,h.2⟩
theorem rdo_walk (c:Cal) (hn:c.name.size≤9223372036854775807) (lv a:Int) (s:Sp) (w:World) (ha:in64 a) :
    Calls Tryz.prog 5 #[calV c,.int .i64 lv,.int .i64 a,spanV s] w fun e w'=>e=.returned (.bool true)∧Below w.heap.size w w':=by
  have HA:=hide ha
  clear ha
  have HMAIN:=hide (fun h1 h2=>rd_main c lv a s h1 HA.out h2)
  simp only [calV,spanV] at HMAIN ⊢
  go_enter Tryz.func5,Tryz.ntmps5
  go_wp2_with fail
  refine (live21_any _).mono ?_
  rintro e w1 ⟨rfl,hb1⟩
  have HM1:=hide ((fmB_new c s w).call hb1)
  clear hb1
  obtain ⟨q0,q1,q2,q3,q4,q5,q6,q7,q8,q9,q10,q11,q12,q13⟩:=HM1.out.1
  obtain ⟨p0,p1⟩:=HM1.out.2.1
  have hz1:=HM1.out.2.2.1
  have hy1:w.heap.size<w1.heap.size:=by omega
  go_wp2_with fail
  refine (brief21_any c s _).mono ?_
  rintro e w2 ⟨⟨b,rfl,hsh⟩,hb2⟩
  have HSH:=hide hsh
  have HM2:=hide (HM1.out.call hb2)
  clear hsh hb2 p0 p1
  clear q0 q1 q2 q3 q4 q5 q6 q7 q8 q9 q10 q11 q12 q13
  obtain ⟨q0,q1,q2,q3,q4,q5,q6,q7,q8,q9,q10,q11,q12,q13⟩:=HM2.out.1
  obtain ⟨p0,p1⟩:=HM2.out.2.1
  have hz2:=HM2.out.2.2.1
  have hy2:w.heap.size<w2.heap.size:=by omega
  cases b
  · have hBel:=HM2.out.2.2.2
    go_wp2
    go_ret
    exact ⟨rfl,by (repeat' exact bel)⟩
  have hnm:c.name.size≤1000:=by have:=(HSH.out rfl).1;omega
  obtain ⟨D,SL,XL,E,EX,⟨hl1,hl2,hl3⟩,hc1,hc2,hc3,hc4,hc5,hc6⟩:=HMAIN.out hnm (HSH.out rfl).2
  have HC1:=hide hc1
  have HC2:=hide hc2
  have HC3:=hide hc3
  have HC4:=hide hc4
  have HC5:=hide hc5
  have HC6:=hide hc6
  clear hc1 hc2 hc3 hc4 hc5 hc6 HMAIN hnm
  go_wp2_with fail
  refine (HC1.out _).mono ?_
  rintro e w3 ⟨⟨v3,rfl,h3⟩,hb3⟩
  have HM3:=hide (HM2.out.call hb3)
  have HV3:=hide h3
  obtain ⟨ad3,cap3,rfl,_⟩:=h3
  clear hb3 p0 p1
  clear q0 q1 q2 q3 q4 q5 q6 q7 q8 q9 q10 q11 q12 q13
  obtain ⟨q0,q1,q2,q3,q4,q5,q6,q7,q8,q9,q10,q11,q12,q13⟩:=HM3.out.1
  obtain ⟨p0,p1⟩:=HM3.out.2.1
  have hz3:=HM3.out.2.2.1
  have hy3:w.heap.size<w3.heap.size:=by omega
  go_wp2_with fail
  refine (HC2.out _).mono ?_
  rintro e w4 ⟨⟨v4,rfl,h4⟩,hb4⟩
  have HM4:=hide (HM3.out.call hb4)
  have HV34:=hide (HV3.out.call hb4)
  have HV4:=hide h4
  obtain ⟨ad4,cap4,rfl,_⟩:=h4
  clear hb4 p0 p1
  clear q0 q1 q2 q3 q4 q5 q6 q7 q8 q9 q10 q11 q12 q13
  obtain ⟨q0,q1,q2,q3,q4,q5,q6,q7,q8,q9,q10,q11,q12,q13⟩:=HM4.out.1
  obtain ⟨p0,p1⟩:=HM4.out.2.1
  have hz4:=HM4.out.2.2.1
  have hy4:w.heap.size<w4.heap.size:=by omega
  go_wp2_with fail
  refine (HC3.out _).mono ?_
  rintro e w5 ⟨⟨v5,rfl,h5⟩,hb5⟩
  have HM5:=hide (HM4.out.call hb5)
  have HV35:=hide (HV34.out.call hb5)
  have HV45:=hide (HV4.out.call hb5)
  have HV5:=hide h5
  obtain ⟨ad5,cap5,rfl,_⟩:=h5
  clear hb5 p0 p1
  clear q0 q1 q2 q3 q4 q5 q6 q7 q8 q9 q10 q11 q12 q13
  obtain ⟨q0,q1,q2,q3,q4,q5,q6,q7,q8,q9,q10,q11,q12,q13⟩:=HM5.out.1
  obtain ⟨p0,p1⟩:=HM5.out.2.1
  have hz5:=HM5.out.2.2.1
  have hy5:w.heap.size<w5.heap.size:=by omega
  go_wp2_with fail
  refine (HC4.out _).mono ?_
  rintro e w6 ⟨⟨v6,rfl,h6⟩,hb6⟩
  have HM6:=hide (HM5.out.call hb6)
  have HV36:=hide (HV35.out.call hb6)
  have HV46:=hide (HV45.out.call hb6)
  have HV56:=hide (HV5.out.call hb6)
  have HV6:=hide h6
  obtain ⟨ad6,cap6,rfl,_⟩:=h6
  clear hb6 p0 p1
  clear q0 q1 q2 q3 q4 q5 q6 q7 q8 q9 q10 q11 q12 q13
  obtain ⟨q0,q1,q2,q3,q4,q5,q6,q7,q8,q9,q10,q11,q12,q13⟩:=HM6.out.1
  obtain ⟨p0,p1⟩:=HM6.out.2.1
  have hz6:=HM6.out.2.2.1
  have hy6:w.heap.size<w6.heap.size:=by omega
  go_wp2_with fail
  refine (HC5.out _).mono ?_
  rintro e w7 ⟨⟨v7,rfl,h7⟩,hb7⟩
  have HM7:=hide (HM6.out.call hb7)
  have HV37:=hide (HV36.out.call hb7)
  have HV47:=hide (HV46.out.call hb7)
  have HV57:=hide (HV56.out.call hb7)
  have HV67:=hide (HV6.out.call hb7)
  have HV7:=hide h7
  obtain ⟨ad7,cap7,rfl,_⟩:=h7
  clear hb7 p0 p1
  clear q0 q1 q2 q3 q4 q5 q6 q7 q8 q9 q10 q11 q12 q13
  obtain ⟨q0,q1,q2,q3,q4,q5,q6,q7,q8,q9,q10,q11,q12,q13⟩:=HM7.out.1
  obtain ⟨p0,p1⟩:=HM7.out.2.1
  have hz7:=HM7.out.2.2.1
  have hy7:w.heap.size<w7.heap.size:=by omega
  go_wp2_with fail
  refine (HC6.out _).mono ?_
  rintro e w8 ⟨⟨v8,rfl,h8⟩,hb8⟩
  have HM8:=hide (HM7.out.call hb8)
  have HV38:=hide (HV37.out.call hb8)
  have HV48:=hide (HV47.out.call hb8)
  have HV58:=hide (HV57.out.call hb8)
  have HV68:=hide (HV67.out.call hb8)
  have HV78:=hide (HV7.out.call hb8)
  have HV8:=hide h8
  obtain ⟨ad8,cap8,rfl,_⟩:=h8
  clear hb8 p0 p1
  clear q0 q1 q2 q3 q4 q5 q6 q7 q8 q9 q10 q11 q12 q13
  have hEE:(E==E)=true:=by simp
  have hXX:(EX==EX)=true:=by simp
  go_wp2_with fail
  refine (r04same_yes D _ _ _ HV38.out HV48.out (by omega)).mono ?_
  rintro e w9 ⟨rfl,hb9⟩
  have HB9:=hide (show Below w.heap.size w w9 from HM8.out.2.2.2.trans (hb9.mono HM8.out.2.2.2.size))
  have HV59:=hide (HV58.out.call hb9)
  have HV69:=hide (HV68.out.call hb9)
  have HV79:=hide (HV78.out.call hb9)
  have HV89:=hide (HV8.out.call hb9)
  clear hb9
  go_wp2_with fail
  refine (r21samez_yes SL _ _ _ HV59.out HV69.out (by omega)).mono ?_
  rintro e w10 ⟨rfl,hb10⟩
  have HB10:=hide (show Below w.heap.size w w10 from HB9.out.trans (hb10.mono HB9.out.size))
  have HV710:=hide (HV79.out.call hb10)
  have HV810:=hide (HV89.out.call hb10)
  clear hb10
  go_wp2_with fail
  refine (r04ratios_yes XL _ _ _ HV710.out HV810.out (by omega)).mono ?_
  rintro e w11 ⟨rfl,hb11⟩
  have HB11:=hide (show Below w.heap.size w w11 from HB10.out.trans (hb11.mono HB10.out.size))
  clear hb11
  go_wp2
  go_ret
  exact ⟨by first | rfl | exact ret_bool (by simp),HB11.out⟩
end Go.Proofs.YtjhhmeoibfdcmaaGreat
namespace Go.Proofs.YtjhhmeoibfdcmaaGreat.rateDoes
open Go.ChangeShapes Go.WideShapes Go.ChangeAt Go.RowKit Qd
theorem rd0:Tryz.prog.readableRec 24=true∧24<Tryz.prog.types.size:=⟨by kernel_rfl,of_decide_eq_true (by kernel_rfl)⟩
theorem rd1:Tryz.prog.readableRec 3=true∧3<Tryz.prog.types.size:=⟨by kernel_rfl,of_decide_eq_true (by kernel_rfl)⟩
theorem rd2:Tryz.prog.readableRec 2=true∧2<Tryz.prog.types.size:=⟨by kernel_rfl,of_decide_eq_true (by kernel_rfl)⟩
theorem rd3:Tryz.prog.readableRec 45=true∧45<Tryz.prog.types.size:=⟨by kernel_rfl,of_decide_eq_true (by kernel_rfl)⟩
theorem lifted (os:Os) (started:os.Started) (H:Type) (enc:TypeId × Value→H) :
    ReturnsInHanded {} Tryz.checked os 5 .any (Rows.rateDoesSpec.pre6 enc Tryz.prog Tryz.f5 Rows.rateDoesRow.domain false) (Rows.rateDoesSpec.post enc Tryz.prog Tryz.f5 false true false false):=by
  refine returnsInHanded_of_change (C:=Tryz.checked) own started (by kernel_rfl) Tryz.func5
    (ChangeSpec.witness6 (enc:=enc) (C:=Tryz.checked) false ⟨#[],#[.agg #[.string ⟨#[]⟩,.int .i64 0,.int .i64 0,.int .i64 0,.int .i64 0,.int .i64 0,.int .i64 0,.int .i64 0,.int .i64 0,.int .i64 0,.int .i64 0,.int .i64 0,.int .i64 0,.int .i64 0],.int .i64 0,.int .i64 0,.agg #[.int .i64 0,.int .i64 0]],[]⟩ 8 (by kernel_rfl) (by kernel_rfl) (by kernel_rfl) (by kernel_rfl)) ?_
  intro W base args ds gs before hval0 hW hcnd _
  have hval:∀ (j:Nat) t v,Tryz.f5.params[j]?=some t→args[j]?=some v→Value.okWide Tryz.prog W .any base t v:=hval0
  have hW':=hW
  obtain ⟨p,q,hA0,hV,rfl,hfz,hnd⟩:=hW
  have hA:DataW.TrodAll enc Tryz.prog W 0 (fun _=>true) true Tryz.f5.params.toList args.toList ds p:=hA0
  have hA2:=hA
  rw [Tryz.params5] at hA hval
  obtain ⟨v0,vs0,d0,ds0,p0,q0,hargs,rfl,hp0,h0,r0⟩:=trodAll_cons hA
  obtain ⟨v1,vs1,d1,ds1,p1,q1,rfl,rfl,hp1,h1,r1⟩:=trodAll_cons r0
  obtain ⟨v2,vs2,d2,ds2,p2,q2,rfl,rfl,hp2,h2,r2⟩:=trodAll_cons r1
  obtain ⟨v3,vs3,d3,ds3,p3,q3,rfl,rfl,hp3,h3,r3⟩:=trodAll_cons r2
  obtain ⟨rfl,rfl,hpn⟩:=trodAll_nil r3
  obtain rfl:args=#[v0,v1,v2,v3]:=by cases args;simp_all
  obtain ⟨rfl,rfl⟩:=trodVars_none hV
  obtain ⟨c0,rfl,hn0,hw0⟩:=open_cal (hval 0 24 v0 rfl rfl) h0
  obtain ⟨a1,rfl,_,_,w1⟩:=open_int Tryz.underlying3 (hval 1 3 v1 rfl rfl) h1
  obtain ⟨a2,rfl,_,_,w2⟩:=open_int Tryz.underlying2 (hval 2 2 v2 rfl rfl) h2
  obtain ⟨s3,rfl,hw3⟩:=open_span (hval 3 45 v3 rfl rfl) h3
  clear hA0 hval0
  refine ((fun c hn _ lv _ a wa s _ W=>rdo_walk c hn lv a s W (wf64_bd wa)) c0 hn0 hw0 a1 w1 a2 w2 s3 hw3 W).mono fun e W' ⟨he,hb⟩=>?_
  subst he
  have hlt:∀ x∈p++[],x.block<W.heap.size:=fun x hx=>hW'.lt x hx
  refine ⟨_,rfl,post_of_below (pa:=p) (pv:=[]) hW' (fun _ _ _=>(trodAll_cons_mk (shut_bool Tryz.underlying4 _) trodAll_mk0)) (fun sp hs=>?_) (fun _ _=>rfl) rfl hb (ok_one (by kernel_rfl) rfl (okWide_bool_mk Tryz.underlying4 _))⟩
  exact trodAll_stays laidOut (by rw [Tryz.params5];intro t ht;simp only [List.mem_cons,List.not_mem_nil,or_false] at ht;rcases ht with rfl | rfl | rfl | rfl <;> first | exact rd0 | exact rd1 | exact rd2 | exact rd3) hA2 (fun x hx=>hb.same (hlt x (List.mem_append_left _ hx))) (fun x hx=>hs x (List.mem_append_left _ hx))
theorem over:Rows.rateDoesRow.holds Tryz.pinned (OpenSpec.ofChange Rows.rateDoesSpec):=
  OpenClaim.holds_of_wide 5 Tryz.f5 rfl rfl rfl rfl rfl rfl rfl ⟨rfl,rfl,rfl,rfl,rfl⟩ rfl rfl rfl rfl rfl (by kernel_rfl) Tryz.func5 joined
    (of_decide_eq_true (by kernel_rfl)) (by unfold Func.isWrapper;rw [if_neg (of_decide_eq_false (by kernel_rfl))];exact ⟨rfl,rfl⟩)
    (fun os started H enc _=>lifted os started H enc)
theorem proved:Rows.RateDoesSaid:=
  over
#print axioms proved
end Go.Proofs.YtjhhmeoibfdcmaaGreat.rateDoes
