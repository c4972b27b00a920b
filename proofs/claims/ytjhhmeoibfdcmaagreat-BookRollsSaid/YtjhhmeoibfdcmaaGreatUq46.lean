/- The reference of layer 22: what a unit comes to, refusals too. The reference of layer 22: the totals of all units of a year. The reference of layer 22: the totals of all units of a year: the walk. The reference of layer 21: two rows of shares are the same: the walk. -/
import Derived.Test.YtjhhmeoibfdcmaaGreatUq18
import Derived.Test.YtjhhmeoibfdcmaaGreatUq41
import Derived.Test.YtjhhmeoibfdcmaaGreatUq44
import Derived.Test.YtjhhmeoibfdcmaaGreatUq45
set_option linter.unusedSimpArgs false
set_option linter.unusedVariables false
set_option maxRecDepth 100000
set_option maxHeartbeats 12800000
namespace Go.Proofs.YtjhhmeoibfdcmaaGreat
open Go.RowKit Qd
theorem r22total_any (c:Cal) (u:Un) (P:List Po) (A:List Ac) (v1 v2:Value) (w:World) (hn:c.name.size≤1000) (hP:Posts w v1 P) (hA:Accs w v2 A) (hl:P.length≤5000∧A.length≤16) (hp64:∀ p∈P,in64 p.n) (ha64:∀ a∈A,in64 a.n)
    (hml:∀ a∈A,meetsE c 5 ⟨a.a,a.b⟩=0→(meetsL c 5 ⟨a.a,a.b⟩).length≤420) :
    Calls Tryz.prog 32 #[calV c,unitV u,.agg #[v1,v2]] w fun e w'=>e=.returned (.tuple #[.int .i64 (TV c P A (ZA c A) u),.int .i64 (TE c P A (ZA c A) u)])∧Below w.heap.size w w':=by
  by_cases hU:unitE c u=0
  · by_cases hC:chkE P A=0
    · exact r22total_main c u P A v1 v2 w hn hP hA hl hp64 ha64 hml hU hC
    · have HV:=hide (show TV c P A (ZA c A) u=0 by simp [TV,tV,hC])
      have HE:=hide (show TE c P A (ZA c A) u=chkE P A by simp [TE,tE,hU,hC])
      have HP:=hide hP
      have HA:=hide hA
      have H0:=hide (ttSt_new c u v1 v2 w)
      have hlP:P.length≤100000∧A.length≤100000:=by omega
      have HU:=hide hU
      have hCb:(chkE P A != 0)=true:=by simpa using hC
      obtain ⟨sa,hsa⟩:∃ x,spanV (spV c u)=.agg #[.int .i64 x,.int .i64 (spV c u).b]:=⟨_,rfl⟩
      clear hU hC hp64 ha64 hml
      obtain ⟨ad1,cap1,rfl,_⟩:=hP
      obtain ⟨ad2,cap2,rfl,_⟩:=hA
      simp only [calV,unitV]
      go_enter Tryz.func32,Tryz.ntmps32
      go_wp2_with fail
      refine (r16span_any c u _ hn).mono ?_
      rintro e w1 ⟨rfl,hb1⟩
      rw [HU.out]
      simp only [spanV]
      clear hsa
      have HS1:=hide (H0.out.call hb1)
      clear hb1
      have HS2:=hide (HS1.out.call (show Below w1.heap.size w1 (w1.alloc (.cells #[.int .i64 (spV c u).a,.int .i64 (spV c u).b] 45)) by (repeat' exact bel)))
      have hz1:=HS1.out.2.2.2.1
      obtain ⟨⟨q0,q1,q2,q3,q4,q5,q6,q7,q8,q9,q10,q11,q12,q13⟩,⟨u0,u1,u2⟩,⟨k0,k1⟩,hsz,hBel⟩:=HS1.out.cells
      have HP2:=hide (HP.out.call HS2.out.2.2.2.2)
      have HA2:=hide (HA.out.call HS2.out.2.2.2.2)
      go_wp2_with fail
      refine (r22check_any P A _ _ _ HP2.out HA2.out hlP).mono ?_
      rintro e w3 ⟨rfl,hb3⟩
      have HS3:=hide (HS2.out.call hb3)
      clear q0 q1 q2 q3 q4 q5 q6 q7 q8 q9 q10 q11 q12 q13 u0 u1 u2 k0 k1 hsz hBel hb3
      generalize chkE P A=E at *
      go_wp2
      go_ret2
      exact ⟨ret_int2 HV.out.symm HE.out.symm,HS3.out.2.2.2.2⟩
  · have HV:=hide (show TV c P A (ZA c A) u=0 by simp [TV,tV,hU])
    have HE:=hide (show TE c P A (ZA c A) u=unitE c u by simp [TE,tE,hU])
    have hUb:(unitE c u != 0)=true:=by simpa using hU
    have H0:=hide (ttSt_new c u v1 v2 w)
    clear hU hp64 ha64 hml
    simp only [calV,unitV]
    go_enter Tryz.func32,Tryz.ntmps32
    go_wp2_with fail
    refine (r16span_any c u _ hn).mono ?_
    rintro e w1 ⟨rfl,hb1⟩
    simp only [spanV]
    have HS1:=hide (H0.out.call hb1)
    clear hb1
    generalize unitE c u=E at *
    have hBel:=HS1.out.2.2.2.2
    have HB1:=hide (show Below w.heap.size w (w1.alloc (.cells #[.int .i64 (spV c u).a,.int .i64 (spV c u).b] 45)) from hBel.trans ((show Below w1.heap.size w1 (w1.alloc (.cells #[.int .i64 (spV c u).a,.int .i64 (spV c u).b] 45)) by (repeat' exact bel)).mono hBel.size))
    go_wp2
    go_ret2
    exact ⟨ret_int2 HV.out.symm HE.out.symm,HB1.out⟩
end Go.Proofs.YtjhhmeoibfdcmaaGreat
namespace Go.Proofs.YtjhhmeoibfdcmaaGreat
open Go.RowKit Qd
theorem app_shr {ops:Array Oper} {rest:List Oper} {o:Oper} {a:Act} {Q:Exit→Act→World→Prop} {w:World} (hgd:o.guard=none) (s x:Operand)
    (ho:o.op=.call { callee:=.builtin .append,args:=#[s,x],argTypes:=#[56,56] }) (base:Nat) (v:Value) (m:List (Un × Int)) (u:Un) (n:Int) (B:Nat)
    (hs:a.eval s=v) (hown:OwnS w base v m) (hx:a.eval x=.slice (some ⟨B,0,none⟩) 1 1) (hB:BlkIs w B #[.int .i64 u.lv,.int .i64 u.yr,.int .i64 u.ix,.int .i64 n] 111) (hml:m.length≤100000) (hbase:base≤w.heap.size)
    (h:∀ v' w',OwnS w' base v' (m++[(u,n)])→Below base w w'→KeepS w w'→wpList Tryz.prog ops Q rest (a.put o.dst v') w'):wpList Tryz.prog ops Q (o::rest) a w:=by
  obtain ⟨i0,hi,hi0,hi1,hi2⟩:=info_parts sh_info
  have hfl:∀ D:List (Un × Int),(D.flatMap shC).length=D.length*4:=by
    intro D
    induction D with
    | nil=>rfl
    | cons x D ih=>simp only [List.flatMap_cons,List.length_append,List.length_cons,ih,shC,List.length_nil];omega
  refine wpList_append_own w hgd s x 56 ho base 111 i0 (.agg #[.int .i64 0,.int .i64 0,.int .i64 0,.int .i64 0]) 4 32 Tryz.underlying56 hi hi0 hi1 hi2 rfl (by decide) v m.length (m.flatMap shC) hs hown ⟨B,0,none⟩ 1 1 (shC (u,n)) hx rfl ?_ ?_ (by unfold maxLen;omega) (by omega) hbase ?_
  · intro j y hj
    match j,hj with
    | 0,hj=>simp [shC] at hj;subst hj;simpa [Addr.add] using hB.cell 0
    | 1,hj=>simp [shC] at hj;subst hj;simpa [Addr.add] using hB.cell 1
    | 2,hj=>simp [shC] at hj;subst hj;simpa [Addr.add] using hB.cell 2
    | 3,hj=>simp [shC] at hj;subst hj;simpa [Addr.add] using hB.cell 3
  · intro y hy
    simp [shC] at hy
    rcases hy with rfl | rfl | rfl | rfl <;> rfl
  · intro v' w' ho' hg _
    refine h v' w' (by unfold OwnS;rw [List.length_append,List.flatMap_append];simpa using ho') ((Below.refl base w).grown hg hbase fun k hk=>(hown.lt k hk).1) ⟨hg.size,fun B cs t ht hB=>(hg.block B (Array.getElem?_eq_some_iff.1 hB).1 (fun e=>?_)).trans hB⟩
    rcases hown.2 with ⟨h1,_⟩ | ⟨g',cap',cur,h1,_,h3',_⟩
    · rw [h1] at e;simp [Value.ownBlock] at e
    · rw [h1] at e
      obtain rfl:B=g':=by simpa [Value.ownBlock] using e
      rw [h3'] at hB
      cases hB
      exact ht rfl
theorem cnt_pos {c:Cal} {lv y:Int} (hf:frameE c lv y=0):0<cntL c y lv:=by
  obtain ⟨hok,hk,h1,h5,hy1,hy2,hA⟩:=frame_ok hf
  have:=nWk_bd c y hA
  have h2:=cut_end c y lv h1 h5
  rcases Nat.eq_zero_or_pos (cntL c y lv) with h0 | h0
  · rw [h0,cut_0] at h2;omega
  · exact h0
theorem rollE_tots {c:Cal} {lv y:Int} {P:List Po} {A:List Ac} {Z:Parts} (hf:frameE c lv y=0):rollE c lv y P A Z=totsE c P A Z (yU lv y (cntL c y lv)):=by
  have h0:=cnt_pos hf
  have hU:=un_here (j:=0) hf h0
  have hx:=yUg (lv:=lv) (y:=y) h0
  rw [rollE,if_pos hf]
  by_cases hC:chkE P A=0
  · rw [if_pos hC]
    by_cases hZ:Z.pe y=0
    · rw [if_pos hZ]
    · rw [if_neg hZ]
      have ht:TE c P A Z ⟨lv,y,((0:Nat):Int)+1⟩=Z.pe y:=by simp only [TE,tE];rw [if_pos hU,if_pos hC,if_neg hZ]
      rw [totsE_no hx (by rw [List.take_zero];rfl) (by rw [ht];exact hZ),ht]
  · rw [if_neg hC]
    have ht:TE c P A Z ⟨lv,y,((0:Nat):Int)+1⟩=chkE P A:=by simp only [TE,tE];rw [if_pos hU,if_neg hC]
    rw [totsE_no hx (by rw [List.take_zero];rfl) (by rw [ht];exact hC),ht]
end Go.Proofs.YtjhhmeoibfdcmaaGreat
namespace Go.Proofs.YtjhhmeoibfdcmaaGreat
open Go.RowKit Qd
theorem rollL_take {c:Cal} {lv y:Int} {P:List Po} {A:List Ac} {Z:Parts} {j:Nat} (h:j<cntL c y lv):(rollL c lv y P A Z).take (j+1)=(rollL c lv y P A Z).take j++[(⟨lv,y,(j:Int)+1⟩,TV c P A Z ⟨lv,y,(j:Int)+1⟩)]:=by
  rw [List.take_add_one,rollL_get h];rfl
theorem r22roll_any (c:Cal) (lv y:Int) (P:List Po) (A:List Ac) (v1 v2:Value) (w:World) (hn:c.name.size≤1000) (hP:Posts w v1 P) (hA:Accs w v2 A) (hl:P.length≤5000∧A.length≤16) (hp64:∀ p∈P,in64 p.n) (ha64:∀ a∈A,in64 a.n)
    (hml:∀ a∈A,meetsE c 5 ⟨a.a,a.b⟩=0→(meetsL c 5 ⟨a.a,a.b⟩).length≤420) :
    Calls Tryz.prog 34 #[calV c,.int .i64 lv,.int .i64 y,.agg #[v1,v2]] w fun e w'=>(∃ v,e=.returned (.tuple #[v,.int .i64 (rollE c lv y P A (ZA c A))])∧(rollE c lv y P A (ZA c A)=0→OwnS w' w.heap.size v (rollL c lv y P A (ZA c A)))∧(¬ rollE c lv y P A (ZA c A)=0→v=.slice none 0 0))∧Below w.heap.size w w':=by
  have HP:=hide hP
  have HA:=hide hA
  have H0:=hide (fwSt_new c v1 v2 w)
  have HSU:=hide (fun (u:Un) (W:World) (h1:Posts W v1 P) (h2:Accs W v2 A)=>r22total_any c u P A v1 v2 W hn h1 h2 hl hp64 ha64 hml)
  clear hl hp64 ha64 hml
  obtain ⟨ad1,cap1,rfl,_⟩:=hP
  obtain ⟨ad2,cap2,rfl,_⟩:=hA
  generalize ZA c A=Z at *
  simp only [calV,unitV] at HSU
  simp only [calV]
  go_enter Tryz.func34,Tryz.ntmps34
  go_wp2_with fail
  refine (r16count_any c lv y _ hn).mono ?_
  rintro e w1 ⟨rfl,hb1⟩
  have HS1:=hide (H0.out.call hb1)
  clear hb1
  have hBel:=HS1.out.2.2.2
  by_cases hf:frameE c lv y=0
  rotate_left
  · have HR:=hide (show rollE c lv y P A Z=frameE c lv y by rw [rollE,if_neg hf])
    have hE:(frameE c lv y != 0)=true:=by simpa using hf
    have HF:=hide hf
    obtain ⟨E,hEE⟩:∃ E,frameE c lv y=E:=⟨_,rfl⟩
    rw [hEE] at HR hE HF ⊢
    clear hf hEE
    go_wp2
    go_ret2
    exact ⟨⟨.slice none 0 0,by rw [HR.out];rfl,fun h=>absurd (HR.out.symm.trans h) HF.out,fun _=>rfl⟩,hBel⟩
  have HF:=hide hf
  rw [hf,show countV c lv y=(cntL c y lv:Int) by rw [countV,if_pos hf]]
  have hcb:=cntBd hf
  have HR:=hide (rollE_tots (P:=P) (A:=A) (Z:=Z) hf)
  obtain ⟨n,hnn⟩:∃ n,cntL c y lv=n:=⟨_,rfl⟩
  have HNN:=hide hnn
  rw [hnn] at hcb HR ⊢
  clear hf hnn
  go_wp2_with fail
  go_loopw [12,13] (fun s12 s13 wr=>∃ j:Nat,s13=.int .i64 ((j:Int)+1)∧j≤n∧totsE c P A Z ((yU lv y n).take j)=0∧Hid (OwnS wr w1.heap.size s12 ((rollL c lv y P A Z).take j)∧Below w1.heap.size w1 wr)) (fun _ s13 _=>(n+5-intOf s13).toNat)
  case atStart=>exact ⟨0,rfl,Nat.zero_le _,rfl,hide ⟨World.ownsRow_nil _ _ _ _,Below.refl _ _⟩⟩
  case round =>
    obtain ⟨j,rfl,hj,htt,HQ⟩:=hrel
    have HS:=hide (HS1.out.call HQ.out.2)
    have hle:=HQ.out.2.size
    by_cases hlt:j<n
    · obtain ⟨q0,q1,q2,q3,q4,q5,q6,q7,q8,q9,q10,q11,q12,q13⟩:=HS.out.1
      obtain ⟨⟨k0,k1⟩,_⟩:=blk_two' HS.out.2.1
      have hsz:=HS.out.2.2.1
      have hy1:w.heap.size<wr.heap.size:=by omega
      have hi1:(0:Int)≤(j:Int):=by omega
      have hi3:(j:Int)<(n:Int):=by omega
      have HTT:=hide htt
      clear htt
      go_wp2_with fail
      all_goals first
        | (exfalso;omega)
        | skip
      have hbw:Below wr.heap.size wr (wr.alloc (.cells #[.int .i64 lv,.int .i64 y,.int .i64 ((j:Int)+1)] 26)):=by (repeat' exact bel)
      have hbW:=HS.out.2.2.2.trans (hbw.mono (by omega))
      refine (HSU.out ⟨lv,y,(j:Int)+1⟩ _ (HP.out.call hbW) (HA.out.call hbW)).mono ?_
      rintro e w4 ⟨rfl,hb4⟩
      have K:=hide (BlkIs.call (BlkIs.new wr #[.int .i64 lv,.int .i64 y,.int .i64 ((j:Int)+1)] 26) hb4)
      have HB4:=hide (show Below wr.heap.size wr w4 from (ww hb4).out)
      have HO4:=hide (ownS_call HQ.out.1 HB4.out)
      have HW4:=hide (show Below w.heap.size w w4 from HS.out.2.2.2.trans (HB4.out.mono (by omega)))
      have HL4:=hide (show Below w1.heap.size w1 w4 from HQ.out.2.trans (HB4.out.mono hle))
      clear hb4 hbw hbW q0 q1 q2 q3 q4 q5 q6 q7 q8 q9 q10 q11 q12 q13 k0 k1 hsz hy1 hBel
      have hx:=yUg (lv:=lv) (y:=y) hlt
      by_cases hT:TE c P A Z ⟨lv,y,(j:Int)+1⟩=0
      rotate_left
      · have HE:=hide (show rollE c lv y P A Z=TE c P A Z ⟨lv,y,(j:Int)+1⟩ by rw [HR.out];exact totsE_no hx HTT.out hT)
        have hE:(TE c P A Z ⟨lv,y,(j:Int)+1⟩ != 0)=true:=by simpa using hT
        have HT:=hide hT
        obtain ⟨E,hEE⟩:∃ E,TE c P A Z ⟨lv,y,(j:Int)+1⟩=E:=⟨_,rfl⟩
        rw [hEE] at HE hE HT ⊢
        clear hT hEE hx
        go_wp2
        go_ret2
        exact ⟨⟨.slice none 0 0,by rw [HE.out];rfl,fun h=>absurd (HE.out.symm.trans h) HT.out,fun _=>rfl⟩,HW4.out⟩
      have HT2:=hide (totsE_take hx HTT.out hT)
      rw [hT]
      have HTK:=hide (rollL_take (c:=c) (lv:=lv) (y:=y) (P:=P) (A:=A) (Z:=Z) (j:=j) (by rw [HNN.out];exact hlt))
      obtain ⟨X,hX⟩:∃ X,TV c P A Z ⟨lv,y,(j:Int)+1⟩=X:=⟨_,rfl⟩
      rw [hX] at HTK ⊢
      obtain ⟨⟨a0,a1,a2⟩,hza⟩:=blk_three' K.out
      have hle4:w1.heap.size≤w4.heap.size:=HL4.out.size
      clear hx hX hT
      go_wp2_with ((at_builtin;refine app_shr rfl _ _ rfl w1.heap.size _ ((rollL c lv y P A Z).take j) ⟨lv,y,(j:Int)+1⟩ X w4.heap.size rfl (ownS_call HO4.out (by (repeat' exact bel))) rfl (BlkIs.new w4 #[.int .i64 lv,.int .i64 y,.int .i64 ((j:Int)+1),.int .i64 X] 111) (by rw [List.length_take];omega) (by simp;omega) ?_))
      intro v' w5 ho5 hb5 hk5
      have HN:=hide (show OwnS w5 w1.heap.size v' ((rollL c lv y P A Z).take (j+1))∧Below w1.heap.size w1 w5 from ⟨by rw [HTK.out];exact ho5,(show Below w1.heap.size w1 (w4.alloc (.cells #[.int .i64 lv,.int .i64 y,.int .i64 ((j:Int)+1),.int .i64 X] 111)) by have hx:=HL4.out;exact bel).trans hb5⟩)
      clear ho5 hb5 hk5
      go_wp2
      go_roundw
      case rel=>exact ⟨j+1,by go_num,by omega,HT2.out,HN⟩
      case measure=>simp [intOf];omega
    · obtain rfl:j=n:=by omega
      have hz3:=hBel.size
      have HFI:=hide (show OwnS wr w.heap.size _ (rollL c lv y P A Z) from by
        have h:=ownS_base HQ.out.1 hz3
        rwa [List.take_of_length_le (by rw [rollL_len,HNN.out];exact Nat.le_refl _)] at h)
      rw [List.take_of_length_le (by rw [yUl];exact Nat.le_refl _)] at htt
      have HE:=hide (HR.out.trans htt)
      have HBF:=hide (HS.out.2.2.2)
      clear htt
      go_wp2
      all_goals first
        | (exfalso;omega)
        | skip
      go_ret2
      exact ⟨⟨_,by rw [HE.out];rfl,fun _=>HFI.out,fun h=>absurd HE.out h⟩,HBF.out⟩
end Go.Proofs.YtjhhmeoibfdcmaaGreat
namespace Go.Proofs.YtjhhmeoibfdcmaaGreat
open Go.RowKit Qd
@[go_sem high] theorem neq_share (a b c d a' b' c' d':Int) (w:World):(binOp .neq 111 (.agg #[.int .i64 a,.int .i64 b,.int .i64 c,.int .i64 d]) (.agg #[.int .i64 a',.int .i64 b',.int .i64 c',.int .i64 d'])).run Tryz.prog w=.ok (.bool (!shB a b c d a' b' c' d')) w:=by
  rw [run_neq_struct,eqShare 9997];rfl
theorem ShrAt.shs {w:World} {g:Nat} {D:List (Un × Int)} (h:ShrAt w g D) (cap:Nat):Shs w (.slice (some ⟨g,0,none⟩) D.length cap) D:=
  ⟨_,_,rfl,fun i x hx=>⟨g,rfl,h.lt,h.cell hx⟩⟩
theorem r21same_yes (D:List (Un × Int)) (v1 v2:Value) (w:World) (h1:Shs w v1 D) (h2:Shs w v2 D) (hl:D.length≤100000) :
    Calls Tryz.prog 30 #[v1,v2] w fun e w'=>e=.returned (.bool true)∧Below w.heap.size w w':=by
  have H1:=hide h1
  have H2:=hide h2
  obtain ⟨ad1,cap1,rfl,_⟩:=h1
  obtain ⟨ad2,cap2,rfl,_⟩:=h2
  go_enter Tryz.func30,Tryz.ntmps30
  go_wp2_with fail
  go_loopw [13] (fun s wr=>∃ j:Nat,s=.int .i64 j∧j≤D.length∧Hid (Below w.heap.size w wr)) (fun s _=>(100001-intOf s).toNat)
  case atStart=>exact ⟨0,rfl,Nat.zero_le _,hide (Below.refl _ _)⟩
  case round =>
    obtain ⟨j,rfl,hj,HB⟩:=hrel
    by_cases hlt:j<D.length
    · obtain ⟨x,hx⟩:∃ x,D[j]?=some x:=⟨_,List.getElem?_eq_getElem hlt⟩
      have HX1:=H1.out.call HB.out
      have HX2:=H2.out.call HB.out
      obtain ⟨ad1',cap1',e1,hx1⟩:=HX1
      obtain ⟨g,e3,hg,c0,c1,c2,c3⟩:=hx1 j x hx
      obtain ⟨ad2',cap2',e2,hx2⟩:=HX2
      obtain ⟨g',e4,hg',d0,d1,d2,d3⟩:=hx2 j x hx
      cases e1
      cases e2
      subst e3
      subst e4
      clear hx hx1 hx2
      have hi3:(0:Int)≤(j:Int):=by omega
      have hi4:(j:Int)<(D.length:Int):=by omega
      have hub:=shB_same x.1.lv x.1.yr x.1.ix x.2
      go_wp2_with fail
      go_quiet (fail)
      go_wp2
      all_goals first
        | (exfalso;omega)
        | skip
      go_roundw
      case rel=>exact ⟨j+1,by go_num,by omega,hide (below_drewN HB.out _)⟩
      case measure=>simp [intOf];omega
    · go_wp2
      all_goals first
        | (exfalso;omega)
        | skip
      go_ret
      exact ⟨rfl,HB.out⟩
end Go.Proofs.YtjhhmeoibfdcmaaGreat
