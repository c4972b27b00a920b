/- Package book: one posting more. The reference of layer 22: what a unit comes to: the plain law. Package book: the chapter's example. -/
import Derived.Test.YtjhhmeoibfdcmaaGreatUq05
import Derived.Test.YtjhhmeoibfdcmaaGreatUq09
import Derived.Test.YtjhhmeoibfdcmaaGreatUq10
import Derived.Test.YtjhhmeoibfdcmaaGreatUq19
set_option linter.unusedSimpArgs false
set_option linter.unusedVariables false
set_option maxRecDepth 100000
set_option maxHeartbeats 12800000
namespace Go.Proofs.YtjhhmeoibfdcmaaGreat
open Go.RowKit Qd
theorem clonep_any (P:List Po) (v:Value) (w:World) (hP:Posts w v P) (hv:v=.slice none 0 0∨∃ ad cap,v=.slice (some ad) P.length cap) (hl:P.length≤100000) :
    Calls Tryz.prog 45 #[v] w fun e w'=>(∃ v,e=.returned v∧OwnP w' w.heap.size v P)∧Below w.heap.size w w':=by
  rcases hv with rfl | ⟨ad,cap,rfl⟩
  · refine (clonep_nil w).mono ?_
    rintro e w' ⟨rfl,rfl⟩
    obtain ⟨ad,cap,h1,_⟩:=hP
    have h0:P.length=0:=by injection h1 with _ h2 _;exact h2.symm
    have:P=[]:=List.length_eq_zero_iff.1 h0
    subst this
    exact ⟨⟨_,rfl,World.ownsRow_nil _ _ _ _⟩,Below.refl _ _⟩
  · exact clonep_some P ad cap w hP hl
theorem broom_ok (P:List Po) (A:List Ac) (v1 v2:Value) (many:Int) (w:World) (h1:Posts w v1 P) (h2:Accs w v2 A) (hl:P.length≤100000∧A.length≤100000) (hc:chkE P A=0) (hm:many<4096):Calls Tryz.prog 43 #[.agg #[v1,v2],.int .i64 many] w fun e w'=>e=.returned (.int .i64 0)∧Below w.heap.size w w':=by
  have H1:=hide h1
  have H2:=hide h2
  have HC:=hide hc
  obtain ⟨ad1,cap1,rfl,_⟩:=h1
  obtain ⟨ad2,cap2,rfl,_⟩:=h2
  clear hc
  have hmb:(many==4096)=false:=by simp;omega
  go_enter Tryz.func43,Tryz.ntmps43
  go_wp2_with fail
  refine (bcheck_any P A _ _ (w.alloc (.cells #[.slice ad1 P.length cap1,.slice ad2 A.length cap2] 30)) (H1.out.call (by (repeat' exact bel))) (H2.out.call (by (repeat' exact bel))) hl).mono ?_
  rintro e w1 ⟨rfl,hb1⟩
  rw [HC.out]
  have HB1:Hid (Below w.heap.size w w1):=ww hb1
  clear hb1
  have hBel:=HB1.out
  go_wp2
  go_ret
  exact ⟨rfl,by (repeat' exact bel)⟩
theorem cellsN {w:World} {B:Nat} {a b:Value} {t:TypeId} (h:BlkIs w B #[a,b] t):∀ (j:Nat) (u:Value),[a,b][j]?=some u→w.cell? ((⟨B,0,none⟩:Addr).add j)=some u:=by
  intro j u hj
  match j,hj with
  | 0,hj=>simp at hj;subst hj;simpa [Addr.add] using h.cell 0
  | 1,hj=>simp at hj;subst hj;simpa [Addr.add] using h.cell 1
theorem ownP_base {w:World} {b b':Nat} {v:Value} {l:List Po} (h:OwnP w b v l) (hb:b'≤b):OwnP w b' v l:=by
  refine ⟨h.1,?_⟩
  rcases h.2 with h1 | ⟨g',cap',cur,he,h2,h3⟩
  · exact .inl h1
  · exact .inr ⟨g',cap',cur,he,Nat.le_trans hb h2,h3⟩
theorem ownP_far {w:World} {b:Nat} {v:Value} {l:List Po} (h:OwnP w b v l) (p:Addr) (u:Value) (hp:p.block<b):OwnP (w.setCell p u) b v l:=by
  refine ⟨h.1,?_⟩
  rcases h.2 with h1 | ⟨g',cap',cur,he,h2,hg',h3⟩
  · exact .inl h1
  · exact .inr ⟨g',cap',cur,he,h2,(Below.heap_setCell w p u g' (by omega)).trans hg',h3⟩
theorem int_one {a b:Int}:∀ u∈[Value.int .i64 a,Value.int .i64 b],u.oneCell'=true:=by
  intro u hu;simp at hu;rcases hu with rfl | rfl <;> rfl
theorem ownP_lt {w:World} {b:Nat} {v:Value} {l:List Po} (h:OwnP w b v l):∀ k,v.ownBlock=some k→b≤k:=fun k hk=>(h.lt k hk).1
theorem blk_s0 {w:World} {B:Nat} {a b:Value} {t:TypeId} (h:BlkIs w B #[a,b] t) (u:Value):BlkIs (w.setCell ⟨B,0,none⟩ u) B #[u,b] t:=by
  unfold BlkIs at h ⊢
  simp [World.setCell,Array.getElem?_modify,h]
theorem blk_s1 {w:World} {B:Nat} {a b:Value} {t:TypeId} (h:BlkIs w B #[a,b] t) (u:Value):BlkIs (w.setCell ⟨B,1,none⟩ u) B #[a,u] t:=by
  unfold BlkIs at h ⊢
  simp [World.setCell,Array.getElem?_modify,h]
def PutE (B m b:Nat) (l:List Po) (w wx:World):Prop:=∃ g cap,BlkIs wx B #[.slice (some ⟨g,0,none⟩) l.length cap,.slice none 0 0] 30∧OwnP wx m (.slice (some ⟨g,0,none⟩) l.length cap) l∧Below b w wx
theorem put_end {w w2 w4:World} {B g cap:Nat} {x y:Value} {l:List Po} {p:Po} (h2:BlkIs w2 B #[x,y] 30) (hw:Below w.heap.size w w2) (h4:Below w2.heap.size w2 w4) (hB:w.heap.size≤B) (hl:B<w2.heap.size)
    (ho:w4.ownsRow w2.heap.size 32 2 (.slice (some ⟨g,0,none⟩) (l.length+1) cap) (l.length+1) (flatP l++[.int .i64 p.day,.int .i64 p.n])) :
    PutE B w2.heap.size w.heap.size (l++[p]) w ((w4.setCell ⟨B,0,none⟩ (.slice (some ⟨g,0,none⟩) (l.length+1) cap)).setCell ⟨B,1,none⟩ (.slice none 0 0)):=by
  have ho':OwnP w4 w2.heap.size (.slice (some ⟨g,0,none⟩) (l++[p]).length cap) (l++[p]):=by
    unfold OwnP
    rw [flatP_snoc]
    simpa using ho
  refine ⟨g,cap,?_,ownP_far (ownP_far ho' ⟨B,0,none⟩ _ hl) ⟨B,1,none⟩ _ hl,((hw.trans (h4.mono hw.size)).setCell hB _).setCell hB _⟩
  rw [List.length_append]
  exact blk_s1 (blk_s0 (h2.call h4) _) _
theorem put_ok (P:List Po) (p:Po) (v1:Value) (w:World) (h1:Posts w v1 P) (hv:v1=.slice none 0 0∨∃ ad cap,v1=.slice (some ad) P.length cap) (hl:P.length<4096) (hc:chkE P []=0) (hd:isB p.day=true) :
    Calls Tryz.prog 11 #[.agg #[v1,.slice none 0 0],.agg #[.int .i64 p.day,.int .i64 p.n]] w fun e w'=>(∃ v,e=.returned (.tuple #[.agg #[v,.slice none 0 0],.int .i64 0])∧OwnP w' w.heap.size v (P++[p]))∧Below w.heap.size w w':=by
  have H1:=hide h1
  have HC:=hide hc
  have HV:=hide hv
  have HDY:=hide (show daysE [p.day]=0 by simp [daysE,hd])
  obtain ⟨ad1,cap1,hv1,_⟩:=h1
  obtain ⟨i0,hi,hi0,hi1,hi2⟩:=info_parts post_info
  clear hc hd hv
  subst hv1
  go_enter Tryz.func11,Tryz.ntmps11
  go_wp2_with fail
  refine (broom_ok P [] _ _ _ (((w.alloc (.cells #[.slice ad1 P.length cap1,.slice none 0 0] 30)).alloc (.cells #[.int .i64 p.day,.int .i64 p.n] 32)).alloc (.cells #[.slice none 0 0,.slice none 0 0] 30)) (H1.out.call (by (repeat' exact bel))) (Accs.nil _) (by simp;omega) HC.out (by omega)).mono ?_
  rintro e w1 ⟨rfl,hb1⟩
  have HS1:=hide (show BlkIs w1 w.heap.size #[.slice ad1 P.length cap1,.slice none 0 0] 30∧BlkIs w1 (w.heap.size+1) #[.int .i64 p.day,.int .i64 p.n] 32∧BlkIs w1 (w.heap.size+1+1) #[.slice none 0 0,.slice none 0 0] 30 by
    refine ⟨BlkIs.call (((BlkIs.new w _ _).alloc _).alloc _) hb1,BlkIs.call (BlkIs.alloc ?_ _) hb1,BlkIs.call ?_ hb1⟩
    · simpa using BlkIs.new (w.alloc (.cells #[.slice ad1 P.length cap1,.slice none 0 0] 30)) #[.int .i64 p.day,.int .i64 p.n] 32
    · simpa using BlkIs.new ((w.alloc (.cells #[.slice ad1 P.length cap1,.slice none 0 0] 30)).alloc (.cells #[.int .i64 p.day,.int .i64 p.n] 32)) #[.slice none 0 0,.slice none 0 0] 30)
  have HB1:Hid (Below w.heap.size w w1):=ww hb1
  clear hb1
  obtain ⟨⟨k0,k1⟩,_,_,hz0⟩:=blk_two' HS1.out.1
  obtain ⟨⟨p0,p1⟩,_,_,hz1⟩:=blk_two' HS1.out.2.1
  obtain ⟨⟨r0,r1⟩,f0,f1,hz2⟩:=blk_two' HS1.out.2.2
  go_wp2_with fail
  refine (bdays_any w1.heap.size 0 1 [p.day] (w1.alloc (.cells #[.int .i64 p.day] 3)) (by simp) (fun i y hy=>by
    match i,hy with
    | 0,hy=>simp at hy;subst hy;simp) (by simp)).mono ?_
  rintro e w2 ⟨rfl,hb2⟩
  rw [HDY.out]
  have HB2:Hid (Below w1.heap.size w1 w2):=ww hb2
  clear hb2 k0 k1 p0 p1 r0 r1 f0 f1 hz0 hz1 hz2
  have HS2:=hide (And.intro (HS1.out.1.call HB2.out) (And.intro (HS1.out.2.1.call HB2.out) (HS1.out.2.2.call HB2.out)))
  have HBW:=hide (HB1.out.trans (HB2.out.mono HB1.out.size))
  obtain ⟨⟨k0,k1⟩,_,_,hz0⟩:=blk_two' HS2.out.1
  obtain ⟨⟨p0,p1⟩,_,_,hz1⟩:=blk_two' HS2.out.2.1
  obtain ⟨⟨r0,r1⟩,f0,f1,hz2⟩:=blk_two' HS2.out.2.2
  have HP2:=hide (H1.out.call HBW.out)
  have HL:=hide (show P.length≤100000 by omega)
  go_upto_region 7 with fail
  have hmx:P.length+1≤maxLen:=by unfold maxLen;omega
  have hbx:(P.length+1)*16≤140737488355328:=by omega
  have k7:=hide trivial
  go_cut [5] (fun s5 wx=>s5=.int .i64 0∧PutE (w.heap.size+1+1) w2.heap.size w.heap.size (P++[p]) w wx)
  case first =>
    go_region_law (first
      | (go_simp;go_at_call 46;refine (clonea_nil _).mono ?_;rintro e w5 ⟨rfl,rfl⟩)
      | (go_simp;go_at_call 45;refine (clonep_any P _ w2.drew (HP2.out.call (by (repeat' exact bel))) HV.out HL.out).mono ?_;rintro e w3 ⟨⟨vc,rfl,hoc⟩,hb3⟩;have HW3:=hide (show Below w2.heap.size w2 w3 from (ww hb3).out);obtain ⟨⟨a0,a1⟩,_⟩:=blk_two' (HS2.out.1.call HW3.out);obtain ⟨⟨b0,b1⟩,_⟩:=blk_two' (HS2.out.2.1.call HW3.out);obtain ⟨⟨c0,c1⟩,d0,d1,hzc⟩:=blk_two' (HS2.out.2.2.call HW3.out);have hz3:w2.heap.size≤w3.heap.size:=HW3.out.size;have HOC:=hide (ownP_base hoc (show w2.heap.size≤_ by simp));clear hoc hb3)
      | (go_simp;go_at_call 45;refine (clonep_any P _ (w2.alloc (.cells #[.int .i64 p.day,.int .i64 p.n] 32)).drew (HP2.out.call (by (repeat' exact bel))) HV.out HL.out).mono ?_;rintro e w3 ⟨⟨vc,rfl,hoc⟩,hb3⟩;have HW3:=hide (show Below w2.heap.size w2 w3 from (ww hb3).out);obtain ⟨⟨a0,a1⟩,_⟩:=blk_two' (HS2.out.1.call HW3.out);obtain ⟨⟨b0,b1⟩,_⟩:=blk_two' (HS2.out.2.1.call HW3.out);obtain ⟨⟨c0,c1⟩,d0,d1,hzc⟩:=blk_two' (HS2.out.2.2.call HW3.out);have hz3:w2.heap.size≤w3.heap.size:=HW3.out.size;have HOC:=hide (ownP_base hoc (show w2.heap.size≤_ by simp));have k7:=hide (BlkIs.call (show BlkIs (w2.alloc (.cells #[.int .i64 p.day,.int .i64 p.n] 32)).drew w2.heap.size #[.int .i64 p.day,.int .i64 p.n] 32 from BlkIs.new _ _ _) hb3);clear hoc hb3)
      | (refine step_append_lies w3 rfl (.tmp 27) (.tmp 29) 27 rfl w2.heap.size 32 i0 (.agg #[.int .i64 0,.int .i64 0]) 2 16 Tryz.underlying27 hi hi0 hi1 hi2 rfl (by decide) vc P.length (flatP P) (by simp [Act.eval,Act.put]) HOC.out ⟨w2.heap.size,0,none⟩ 1 1 [.int .i64 p.day,.int .i64 p.n] (by simp [Act.eval,Act.put]) rfl (cellsN k7.out) int_one (by decide) hmx hbx sz _ rfl ?_;intro g4 cap4 w4 hown4 hgrow4 _ hlt4;have HW4:=hide (show Below w2.heap.size w2 w4 from (show Below w2.heap.size w2 w3 by have hw3:=HW3.out;exact bel).grown hgrow4 sz (ownP_lt (HOC.out)));obtain ⟨⟨a0,a1⟩,_⟩:=blk_two' (HS2.out.1.call HW4.out);obtain ⟨⟨b0,b1⟩,_⟩:=blk_two' (HS2.out.2.1.call HW4.out);obtain ⟨⟨c0,c1⟩,d0,d1,hzc⟩:=blk_two' (HS2.out.2.2.call HW4.out);have HO4:=hide hown4;have hz4:w2.heap.size≤w4.heap.size:=HW4.out.size;clear hown4 hgrow4)
      | (refine step_append_lies (w3.alloc (.cells #[.int .i64 p.day,.int .i64 p.n] 32)) rfl (.tmp 27) (.tmp 29) 27 rfl w2.heap.size 32 i0 (.agg #[.int .i64 0,.int .i64 0]) 2 16 Tryz.underlying27 hi hi0 hi1 hi2 rfl (by decide) vc P.length (flatP P) (by simp [Act.eval,Act.put]) (ownP_call HOC.out (by (repeat' exact bel))) ⟨w3.heap.size,0,none⟩ 1 1 [.int .i64 p.day,.int .i64 p.n] (by simp [Act.eval,Act.put]) rfl (cellsN (BlkIs.new w3 _ _)) int_one (by decide) hmx hbx sz _ rfl ?_;intro g4 cap4 w4 hown4 hgrow4 _ hlt4;have HW4:=hide (show Below w2.heap.size w2 w4 from (show Below w2.heap.size w2 (w3.alloc (.cells #[.int .i64 p.day,.int .i64 p.n] 32)) by have hw3:=HW3.out;exact bel).grown hgrow4 sz (ownP_lt (HOC.out)));obtain ⟨⟨a0,a1⟩,_⟩:=blk_two' (HS2.out.1.call HW4.out);obtain ⟨⟨b0,b1⟩,_⟩:=blk_two' (HS2.out.2.1.call HW4.out);obtain ⟨⟨c0,c1⟩,d0,d1,hzc⟩:=blk_two' (HS2.out.2.2.call HW4.out);have HO4:=hide hown4;have hz4:w2.heap.size≤w4.heap.size:=HW4.out.size;clear hown4 hgrow4))
    all_goals (go_wp2_with fail;go_meet;exact ⟨rfl,put_end HS2.out.2.2 HBW.out HW4.out (by omega) hz2 HO4.out⟩)
  case rest =>
    obtain ⟨rfl,hE⟩:=hcut
    obtain ⟨g,cap,hk,ho,hb⟩:=hE
    have hbs:=hb.size
    obtain ⟨⟨c0,c1⟩,d0,d1,hzc⟩:=blk_two' hk
    have HO5:=hide ho
    have HB5:=hide hb
    have hle:=HBW.out.size
    clear hk ho hb
    go_wp2
    refine bodyPost_ret (v:=.tuple #[.agg #[.slice (some ⟨g,0,none⟩) (P++[p]).length cap,.slice none 0 0],.int .i64 0]) (by simp (maxDischargeDepth:=9) [results,Tryz.results11,go_sem,c0,c1,d0,d1,hzc]) rfl ⟨⟨_,rfl,ownP_base HO5.out hle⟩,HB5.out⟩
end Go.Proofs.YtjhhmeoibfdcmaaGreat
namespace Go.Proofs.YtjhhmeoibfdcmaaGreat
open Go.RowKit Qd
def inU (c:Cal) (u:Un) (x:Un):Bool:=inW u.yr (cutA c u) (cutB c u-cutA c u) x
noncomputable def accN (c:Cal) (u:Un) (A:List Ac):List Int:=((pL c u.yr A).filter fun x=>inU c u x.1).map (·.2)
noncomputable def rfN (c:Cal) (u:Un) (P:List Po) (A:List Ac):List Int:=accN c u A++inD (spV c u) P
theorem rfN_sum (c:Cal) (u:Un) (P:List Po) (A:List Ac):(rfN c u P A).sum=(totL c u P ((ZA c A).f u.yr)).sum:=by
  unfold rfN totL accN
  rw [List.sum_append,List.sum_append]
  show _=(wkNs (shF (pL c u.yr A)) u.yr (cutA c u) (cutB c u-cutA c u)).sum+_
  rw [wkNs_sum]
  rfl
theorem accN_take (c:Cal) (u:Un) (A:List Ac) (i:Nat) (a:Ac) (h:A[i]?=some a):accN c u (A.take (i+1))=accN c u (A.take i)++(if nearA c u.yr a=true then ((shL c 5 a.n ⟨a.a,a.b⟩).filter fun x=>inU c u x.1).map (·.2) else []):=by
  unfold accN pL
  rw [List.take_add_one,h,Option.toList_some,List.flatMap_append,List.filter_append,List.map_append]
  congr 1
  simp only [List.flatMap_cons,List.flatMap_nil,List.append_nil]
  split <;> rfl
theorem wk_in {c:Cal} {u x:Un} (hU:unitE c u=0) (hX:unitE c x=0) (h5:x.lv=5) (hy:x.yr=u.yr):((spV c u).a≤(spV c x).a∧(spV c x).b≤(spV c u).b)↔inU c u x=true:=by
  obtain ⟨_,_,_,hA,hix,hi⟩:=un_lv hU
  obtain ⟨_,_,_,hA2,hix2,hi2⟩:=un_lv hX
  have h1:=cutAB hU
  have h2:=cutAB hX
  have eA:cutA c x=uI x:=by unfold cutA cutN;simp [h5]
  have eB:cutB c x=uI x+1:=by unfold cutB cutN;simp [h5]
  rw [sp_get hU,sp_get hX,eA,eB,hy]
  rw [eA,eB,hy] at h2
  have m1:∀ i j,i≤nWk c u.yr→j≤nWk c u.yr→(dayW c u.yr i≤dayW c u.yr j↔i≤j):=by
    intro i j hi hj
    constructor
    · intro h
      rcases Nat.lt_or_ge j i with h3 | h3
      · have:=dayW_lt c u.yr hA h3 hi
        omega
      · exact h3
    · intro h
      exact dayW_le c u.yr hA h hj
  have e1:=m1 (cutA c u) (uI x) (by omega) (by omega)
  have e2:=m1 (uI x+1) (cutB c u) (by omega) (by omega)
  unfold inU inW
  simp only [decide_eq_true_eq,h5,hy,true_and]
  omega
end Go.Proofs.YtjhhmeoibfdcmaaGreat
namespace Go.Proofs.YtjhhmeoibfdcmaaGreat
open Go.RowKit Qd
noncomputable def sa22:Int:=(spV nrf23 ⟨5,2023,7⟩).a
noncomputable def pd22:List Po:=[⟨sa22,3⟩,⟨sa22,4⟩]
theorem n22_b:isB sa22=true∧unitE nrf23 ⟨5,2023,7⟩=0:=by decide +kernel
theorem n22_s:servE nrf23 sa22=0∧servY nrf23 sa22=2023:=
  serv_yes (by decide +kernel) (by unfold yrOk;decide +kernel) (by decide) (by decide)
theorem n22_x1:TE nrf23 pd22 [] Z0 ⟨1,2023,(ixN nrf23 2023 1 (wkN nrf23 2023 sa22):Int)+1⟩=0∧TV nrf23 pd22 [] Z0 ⟨1,2023,(ixN nrf23 2023 1 (wkN nrf23 2023 sa22):Int)+1⟩=7:=by decide +kernel
theorem n22_1:fdE nrf23 sa22 1=0∧TE nrf23 pd22 [] Z0 (fdU nrf23 sa22 1)=0∧TV nrf23 pd22 [] Z0 (fdU nrf23 sa22 1)=7:=by
  have h:=fd_served n22_s.1 1 (by omega) (by omega)
  rw [fdU,if_pos h,n22_s.2]
  exact ⟨h,n22_x1⟩
theorem n22_x2:TE nrf23 pd22 [] Z0 ⟨2,2023,(ixN nrf23 2023 2 (wkN nrf23 2023 sa22):Int)+1⟩=0∧TV nrf23 pd22 [] Z0 ⟨2,2023,(ixN nrf23 2023 2 (wkN nrf23 2023 sa22):Int)+1⟩=7:=by decide +kernel
theorem n22_2:fdE nrf23 sa22 2=0∧TE nrf23 pd22 [] Z0 (fdU nrf23 sa22 2)=0∧TV nrf23 pd22 [] Z0 (fdU nrf23 sa22 2)=7:=by
  have h:=fd_served n22_s.1 2 (by omega) (by omega)
  rw [fdU,if_pos h,n22_s.2]
  exact ⟨h,n22_x2⟩
theorem n22_x3:TE nrf23 pd22 [] Z0 ⟨3,2023,(ixN nrf23 2023 3 (wkN nrf23 2023 sa22):Int)+1⟩=0∧TV nrf23 pd22 [] Z0 ⟨3,2023,(ixN nrf23 2023 3 (wkN nrf23 2023 sa22):Int)+1⟩=7:=by decide +kernel
theorem n22_3:fdE nrf23 sa22 3=0∧TE nrf23 pd22 [] Z0 (fdU nrf23 sa22 3)=0∧TV nrf23 pd22 [] Z0 (fdU nrf23 sa22 3)=7:=by
  have h:=fd_served n22_s.1 3 (by omega) (by omega)
  rw [fdU,if_pos h,n22_s.2]
  exact ⟨h,n22_x3⟩
theorem n22_x4:TE nrf23 pd22 [] Z0 ⟨4,2023,(ixN nrf23 2023 4 (wkN nrf23 2023 sa22):Int)+1⟩=0∧TV nrf23 pd22 [] Z0 ⟨4,2023,(ixN nrf23 2023 4 (wkN nrf23 2023 sa22):Int)+1⟩=7:=by decide +kernel
theorem n22_4:fdE nrf23 sa22 4=0∧TE nrf23 pd22 [] Z0 (fdU nrf23 sa22 4)=0∧TV nrf23 pd22 [] Z0 (fdU nrf23 sa22 4)=7:=by
  have h:=fd_served n22_s.1 4 (by omega) (by omega)
  rw [fdU,if_pos h,n22_s.2]
  exact ⟨h,n22_x4⟩
theorem n22_x5:TE nrf23 pd22 [] Z0 ⟨5,2023,(ixN nrf23 2023 5 (wkN nrf23 2023 sa22):Int)+1⟩=0∧TV nrf23 pd22 [] Z0 ⟨5,2023,(ixN nrf23 2023 5 (wkN nrf23 2023 sa22):Int)+1⟩=7:=by decide +kernel
theorem n22_5:fdE nrf23 sa22 5=0∧TE nrf23 pd22 [] Z0 (fdU nrf23 sa22 5)=0∧TV nrf23 pd22 [] Z0 (fdU nrf23 sa22 5)=7:=by
  have h:=fd_served n22_s.1 5 (by omega) (by omega)
  rw [fdU,if_pos h,n22_s.2]
  exact ⟨h,n22_x5⟩
theorem n22_all (lv:Int) (h1:1≤lv) (h5:lv≤5):fdE nrf23 sa22 lv=0∧TE nrf23 pd22 [] Z0 (fdU nrf23 sa22 lv)=0∧TV nrf23 pd22 [] Z0 (fdU nrf23 sa22 lv)=7:=by
  rcases (show lv=1∨lv=2∨lv=3∨lv=4∨lv=5 by omega) with rfl | rfl | rfl | rfl | rfl
  · exact n22_1
  · exact n22_2
  · exact n22_3
  · exact n22_4
  · exact n22_5
theorem pd22_ok:(∀ p∈pd22,in64 p.n)∧pd22.length=2∧chkE [⟨sa22,3⟩] []=0∧chkE [] []=0:=by
  refine ⟨fun p hp=>?_,rfl,?_,by decide⟩
  · simp [pd22] at hp
    rcases hp with rfl | rfl <;> exact ⟨by decide,by decide⟩
  · simp [chkE,dayB,n22_b.1,accsE]
def St22 (S:Sp) (v2:Value) (B B2 B6:Nat) (w0 w:World):Prop:=CalAt w B nrf23∧B<w.heap.size∧BlkIs w B2 #[.int .i64 S.a,.int .i64 S.b] 45∧BlkIs w B6 #[v2,.slice none 0 0] 30∧Posts w v2 pd22∧Below B w0 w
theorem St22.call {S:Sp} {v2:Value} {B B2 B6:Nat} {w0 w w':World} (h:St22 S v2 B B2 B6 w0 w) (hb:Below w.heap.size w w'):St22 S v2 B B2 B6 w0 w':=
  ⟨calAt_below hb h.2.1 h.1,Nat.lt_of_lt_of_le h.2.1 hb.size,h.2.2.1.call hb,h.2.2.2.1.call hb,h.2.2.2.2.1.call hb,h.2.2.2.2.2.trans (hb.mono (Nat.le_of_lt h.2.1))⟩
theorem live22_any (w:World):Calls Tryz.prog 9 #[] w fun e w'=>e=.returned (.bool true)∧Below w.heap.size w w':=by
  obtain ⟨g64,gl,gc1,gc0⟩:=pd22_ok
  have HB:=hide (book0 nrf23 pd22 (by decide) (by rw [gl];decide) g64)
  have HN:=hide n22_b
  have HGC:=hide (And.intro gc1 gc0)
  have HPD:=hide (show pd22=[]++[⟨sa22,3⟩]++[⟨sa22,4⟩] from rfl)
  have HAL:=hide n22_all
  obtain ⟨S,hS⟩:∃ S,spV nrf23 ⟨5,2023,7⟩=S:=⟨_,rfl⟩
  have HS:=hide (show spV nrf23 ⟨5,2023,7⟩=S∧sa22=S.a from ⟨hS,by rw [← hS];rfl⟩)
  rw [HS.out.2] at HPD HAL HN HGC
  clear hS g64 gl gc1 gc0
  go_enter Tryz.func9,Tryz.ntmps9
  go_wp2_with fail
  refine (uspan_any nrf23 ⟨5,2023,7⟩ _ (by decide)).mono ?_
  rintro e w1 ⟨rfl,hb1⟩
  rw [HN.out.2,HS.out.1]
  simp only [spanV]
  have hz1:w.heap.size<w1.heap.size:=by have:=hb1.size;simp at this;omega
  have HB1:Hid (Below w.heap.size w w1):=ww hb1
  have HQ1:=hide (calAt_below hb1 (by simp) (calAt_new w nrf23))
  clear hb1
  go_wp2_with fail
  refine (put_ok [] ⟨S.a,3⟩ (.slice none 0 0) _ (Posts.nil _) (.inl rfl) (by decide) HGC.out.2 HN.out.1).mono ?_
  rintro e w2 ⟨⟨v1,rfl,ho1⟩,hb2⟩
  have hz2:w1.heap.size<w2.heap.size:=by have:=hb2.size;simp at this;omega
  have HB2:Hid (Below w.heap.size w w2):=by have hp:=HB1.out;exact ww hb2
  have HQ2:Hid (CalAt w2 w.heap.size nrf23):=by have hp:=HQ1.out;exact qq hb2
  have HO1:=hide ho1
  have HSP:=hide (BlkIs.call (BlkIs.new w1 #[.int .i64 S.a,.int .i64 S.b] 45) hb2)
  clear hb2 ho1
  obtain ⟨⟨s0,s1⟩,_,_,hs0⟩:=blk_two' HSP.out
  obtain ⟨ad1,cap1,rfl,_⟩:=ownP_posts HO1.out
  obtain ⟨g1,o1,rfl,_,_,_⟩:=(ownP_posts HO1.out).at (i:=0) (x:=⟨S.a,3⟩) rfl
  go_wp2_with fail
  refine (put_ok [⟨S.a,3⟩] ⟨S.a,4⟩ (.slice (some ⟨g1,o1,none⟩) 1 cap1) _ ((ownP_posts HO1.out).call (by (repeat' exact bel))) (.inr ⟨_,_,rfl⟩) (by simp) HGC.out.1 HN.out.1).mono ?_
  rintro e w3 ⟨⟨v2,rfl,ho2⟩,hb3⟩
  have hz3:w2.heap.size<w3.heap.size:=by have:=hb3.size;simp at this;omega
  have HB3:Hid (Below w.heap.size w w3):=by have hp:=HB2.out;exact ww hb3
  have HQ3:Hid (CalAt w3 w.heap.size nrf23):=by have hp:=HQ2.out;exact qq hb3
  have HSP3:=hide (BlkIs.call (HSP.out.alloc _) hb3)
  have HO2:=hide ho2
  clear hb3 ho2 s0 s1 hs0
  obtain ⟨ad2,cap2,rfl,_⟩:=ownP_posts HO2.out
  have HP3:=hide (show Posts w3 (.slice ad2 2 cap2) pd22 by rw [HPD.out];exact ownP_posts HO2.out)
  have HS0:=hide (show St22 S (.slice ad2 2 cap2) w.heap.size w1.heap.size w3.heap.size w (w3.alloc (.cells #[.slice ad2 2 cap2,.slice none 0 0] 30)) from by
    have hBel:=HB3.out
    exact ⟨calAt_alloc HQ3.out (by omega) _,by simp;omega,HSP3.out.alloc _,BlkIs.new _ _ _,HP3.out.call (by (repeat' exact bel)),by (repeat' exact bel)⟩)
  go_wp2_with fail
  all_goals first
    | (exfalso;omega)
    | skip
  go_loopw [8] (fun s8 wr=>∃ lv:Int,s8=.int .i64 lv∧1≤lv∧lv≤6∧St22 S (.slice ad2 2 cap2) w.heap.size w1.heap.size w3.heap.size w wr) (fun s8 _=>(10-intOf s8).toNat)
  case atStart=>exact ⟨1,rfl,by omega,by omega,HS0.out⟩
  case round =>
    obtain ⟨lv,rfl,h1,h6,hS⟩:=hrel
    have HV1:=hide hS
    clear hS
    obtain ⟨q0,q1,q2,q3,q4,q5,q6,q7,q8,q9,q10,q11,q12,q13⟩:=HV1.out.1
    obtain ⟨⟨s0,s1⟩,_⟩:=blk_two' HV1.out.2.2.1
    have hzB:=HV1.out.2.1
    have hBel:=HV1.out.2.2.2.2.2
    by_cases hlt:lv≤5
    · have HF:=hide (HAL.out lv h1 hlt)
      go_wp2_with fail
      refine (fday_any nrf23 S.a lv _ (by decide)).mono ?_
      rintro e w4 ⟨rfl,hb4⟩
      have HV2:=hide (HV1.out.call (show Below wr.heap.size wr w4 from (ww hb4).out))
      rw [HF.out.1]
      obtain ⟨U,hU⟩:∃ U,fdU nrf23 S.a lv=U:=⟨_,rfl⟩
      rw [hU] at HF ⊢
      simp only [unitV]
      clear hb4 hU s0 s1 hBel hzB
      clear q0 q1 q2 q3 q4 q5 q6 q7 q8 q9 q10 q11 q12 q13
      obtain ⟨q0,q1,q2,q3,q4,q5,q6,q7,q8,q9,q10,q11,q12,q13⟩:=HV2.out.1
      obtain ⟨⟨c0,c1⟩,_,_,hz6⟩:=blk_two' HV2.out.2.2.2.1
      have hzB:=HV2.out.2.1
      have hBel:=HV2.out.2.2.2.2.2
      go_wp2_with fail
      refine (btotal_bk nrf23 U pd22 [] Z0 _ _ (w4.alloc (unObj U)) (by decide) (HV2.out.2.2.2.2.1.call (by (repeat' exact bel))) (Accs.nil _) HB.out).mono ?_
      rintro e w5 ⟨rfl,hb5⟩
      rw [HF.out.2.1,HF.out.2.2]
      have HV3:=hide (HV2.out.call (show Below w4.heap.size w4 w5 from (ww hb5).out))
      clear hb5
      go_wp2
      all_goals first
        | (exfalso;omega)
        | skip
      go_roundw
      case rel=>exact ⟨lv+1,rfl,by omega,by omega,HV3.out⟩
      case measure=>simp [intOf];omega
    · go_wp2
      all_goals first
        | (exfalso;omega)
        | (go_ret;exact ⟨ret_bool (by simp),by (repeat' exact bel)⟩)
end Go.Proofs.YtjhhmeoibfdcmaaGreat
