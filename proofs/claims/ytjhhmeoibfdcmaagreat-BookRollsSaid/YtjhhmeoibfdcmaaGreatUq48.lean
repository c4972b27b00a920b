/- Postings that a law takes. Accruals, postings and books that a law takes. The walk of BookRolls. The statement BookRolls: for every input the law answers true, and its arguments read behind the call as they read before. No condition. -/
import Derived.Deep.SlicePairs
import Derived.Deep.Slices
import Derived.Test.YtjhhmeoibfdcmaaGreatUq09
import Derived.Test.YtjhhmeoibfdcmaaGreatUq20
import Derived.Test.YtjhhmeoibfdcmaaGreatUq44
import Derived.Test.YtjhhmeoibfdcmaaGreatUq46
import Derived.Test.YtjhhmeoibfdcmaaGreatUq47
set_option linter.unusedSimpArgs false
set_option linter.unusedVariables false
set_option maxRecDepth 100000
set_option maxHeartbeats 12800000
namespace Go.Proofs.YtjhhmeoibfdcmaaGreat
open Go.ChangeShapes Go.WideShapes Go.ChangeAt Go.RowKit Qd
section
variable {H:Type} {enc:TypeId × Value→H} {base:Nat} {spare:Nat→Bool} {held:Bool}
def iOf:Value→Int
  | .int _ x=>x
  | _=>0
theorem cell_lt {w:World} {a:Addr} {v:Value} (h:w.cell? a=some v):a.block<w.heap.size:=by
  unfold World.cell? at h
  split at h
  · rename_i c t f hh
    exact (Array.getElem?_eq_some_iff.1 hh).1
  · cases h
end
end Go.Proofs.YtjhhmeoibfdcmaaGreat
namespace Go.Proofs.YtjhhmeoibfdcmaaGreat
open Go.ChangeShapes Go.WideShapes Go.ChangeAt Go.RowKit Qd
section
variable {H:Type} {enc:TypeId × Value→H} {base:Nat} {spare:Nat→Bool} {held:Bool}
def AcWf (a:Ac):Prop:=in64 a.a∧in64 a.b∧in64 a.n
def PoWf (p:Po):Prop:=in64 p.day∧in64 p.n
theorem cells_acc:Tryz.prog.cellsOf 47=3:=by kernel_rfl
theorem cells_book:Tryz.prog.cellsOf 30=2:=by kernel_rfl
theorem cells_posts:Tryz.prog.cellsOf 27=1:=by kernel_rfl
theorem cells_accs:Tryz.prog.cellsOf 28=1:=by kernel_rfl
theorem cells_i64:Tryz.prog.cellsOf 2=1:=by kernel_rfl
theorem cells_span2:Tryz.prog.cellsOf 45=2:=by kernel_rfl
theorem trod_acc {w:World} {n:Nat} {cs:List Value} {x:DataW H × List MemPlace} (hl:cs.length=3) (h:DataW.trod enc Tryz.prog w base spare held n 47 cs=some x) :
    ∃ a:Ac,cs=[.int .i64 a.a,.int .i64 a.b,.int .i64 a.n]∧AcWf a:=by
  match cs,hl with
  | [c0,c1,c2],_ =>
    obtain ⟨xs,k,_,hx,_,hlen,hg⟩:=DataW.trod_struct Tryz.underlying47 h
    match xs,hlen with
    | [y0,y1],_ =>
      have g0:=hg 0 _ rfl
      have g1:=hg 1 _ rfl
      simp [cells_int,cells_i64,cells_span2] at g0 g1
      obtain ⟨zs,m,_,_,_,hzl,hz⟩:=DataW.trod_struct Tryz.underlying45 g0
      match zs,hzl with
      | [z0,z1],_ =>
        have k0:=hz 0 _ rfl
        have k1:=hz 1 _ rfl
        simp [cells_int] at k0 k1
        obtain ⟨x0,e0,_,s0⟩:=DataW.trod_int Tryz.underlying3 k0
        obtain ⟨x1,e1,_,s1⟩:=DataW.trod_int Tryz.underlying3 k1
        obtain ⟨x2,e2,_,s2⟩:=DataW.trod_int Tryz.underlying2 g1
        simp only [List.cons.injEq,and_true] at e0 e1 e2
        subst e0 e1 e2
        exact ⟨⟨x0,x1,x2⟩,rfl,wf64_bd s0,wf64_bd s1,wf64_bd s2⟩
theorem trod_accs {w:World} {fuel:Nat} {v:Value} {x:DataW H × List MemPlace} (hf:DataW.trod enc Tryz.prog w base spare held fuel 28 [v]=some x) :
    ∃ A:List Ac,Accs w v A∧(∀ x∈A,AcWf x)∧A.length≤9223372036854775807:=by
  rcases Go.Deep.open_slice Tryz.underlying28 hf with ⟨h1,_⟩ | ⟨ad,len,cap,m,n,D,Pl,h1,_,hlc,hcm,hm,_,hel⟩
  · simp at h1
    subst h1
    exact ⟨[],Accs.nil w,by simp,by simp⟩
  · simp at h1
    subst h1
    have hlm:len≤m:=by rw [hm];split <;> omega
    have key:∀ i,i<len→∃ x:Ac,w.cell? (ad.add (i*3))=some (.int .i64 x.a)∧w.cell? (ad.add (i*3+1))=some (.int .i64 x.b)∧w.cell? (ad.add (i*3+2))=some (.int .i64 x.n)∧AcWf x:=by
      intro i hi
      obtain ⟨cs,g0,g1⟩:=hel i (by omega)
      rw [cells_acc] at g0
      obtain ⟨_,hlen,hcell⟩:=World.cells?_some g0
      obtain ⟨x,e,hx⟩:=trod_acc hlen g1
      subst e
      have e0:=hcell 0 (by omega)
      have e1:=hcell 1 (by omega)
      have e2:=hcell 2 (by omega)
      rw [Go.Deep.add_add] at e0 e1 e2
      exact ⟨x,by simpa using e0,by simpa using e1,by simpa using e2,hx⟩
    obtain ⟨q,hq⟩:=Go.Deep.choose_lt (α:=Ac) key
    refine ⟨(List.range len).map q,⟨some ad,cap,by simp,fun i x hx=>?_⟩,?_,by simp;unfold maxLen at hcm;omega⟩
    · simp only [List.getElem?_map,Option.map_eq_some_iff,List.getElem?_range] at hx
      obtain ⟨j,hj,rfl⟩:=hx
      have hij:i<len∧j=i:=by
        rw [List.getElem?_eq_some_iff] at hj
        obtain ⟨h1,h2⟩:=hj
        simp at h1 h2
        exact ⟨h1,h2.symm⟩
      obtain ⟨hi,rfl⟩:=hij
      obtain ⟨k0,k1,k2,_⟩:=hq j hi
      obtain ⟨z0,_⟩:=hq 0 (by omega)
      obtain ⟨b,o,spot⟩:=ad
      have hsp:spot=none:=by simpa [Addr.add] using World.cell?_spot z0
      subst hsp
      have c0:w.cell? ⟨b,o+j*3,none⟩=some (.int .i64 (q j).a):=by
        rw [← k0]
        by_cases h0:j=0
        · subst h0;simp [Addr.add]
        · have h2:j*3≠0:=by omega
          simp [Addr.add,h2]
      have c1:w.cell? ⟨b,o+j*3+1,none⟩=some (.int .i64 (q j).b):=by
        rw [← k1]
        simp [Addr.add,Nat.add_assoc]
      have c2:w.cell? ⟨b,o+j*3+2,none⟩=some (.int .i64 (q j).n):=by
        rw [← k2]
        simp [Addr.add,Nat.add_assoc]
      exact ⟨b,o,rfl,cell_lt c0,c0,c1,c2⟩
    · intro x hx
      simp only [List.mem_map,List.mem_range] at hx
      obtain ⟨i,hi,rfl⟩:=hx
      exact (hq i hi).2.2.2
theorem trod_posts {w:World} {fuel:Nat} {v:Value} {x:DataW H × List MemPlace} (hf:DataW.trod enc Tryz.prog w base spare held fuel 27 [v]=some x) :
    ∃ P:List Po,Posts w v P∧(∀ x∈P,PoWf x)∧P.length≤9223372036854775807:=by
  rcases Go.Deep.open_slice_pairs Tryz.underlying27 Tryz.underlying32 (by kernel_rfl) rfl rfl (by kernel_rfl) (by kernel_rfl) hf with ⟨h1,_⟩ | ⟨ad,len,cap,m,n,V0,V1,D0,D1,P0,P1,h1,_,hlc,hcm,hm,_,hel⟩
  · simp at h1
    subst h1
    exact ⟨[],Posts.nil w,by simp,by simp⟩
  · simp at h1
    subst h1
    have hlm:len≤m:=by rw [hm];split <;> omega
    have key:∀ i,i<len→∃ x y:Int,V0 i=.int .i64 x∧V1 i=.int .i64 y∧in64 x∧in64 y:=by
      intro i hi
      obtain ⟨_,_,g0,g1⟩:=hel i (by omega)
      obtain ⟨x,e0,_,s0⟩:=DataW.trod_int Tryz.underlying3 g0
      obtain ⟨y,e1,_,s1⟩:=DataW.trod_int Tryz.underlying2 g1
      simp only [List.cons.injEq,and_true] at e0 e1
      exact ⟨x,y,e0,e1,wf64_bd s0,wf64_bd s1⟩
    refine ⟨(List.range len).map fun i=>⟨iOf (V0 i),iOf (V1 i)⟩,⟨some ad,cap,by simp,fun i x hx=>?_⟩,?_,by simp;unfold maxLen at hcm;omega⟩
    · simp only [List.getElem?_map,Option.map_eq_some_iff,List.getElem?_range] at hx
      obtain ⟨j,hj,rfl⟩:=hx
      have hij:i<len∧j=i:=by
        rw [List.getElem?_eq_some_iff] at hj
        obtain ⟨h1,h2⟩:=hj
        simp at h1 h2
        exact ⟨h1,h2.symm⟩
      obtain ⟨hi,rfl⟩:=hij
      obtain ⟨x,y,e0,e1,_,_⟩:=key j hi
      obtain ⟨k0,k1,_,_⟩:=hel j (by omega)
      obtain ⟨z0,_,_,_⟩:=hel 0 (by omega)
      obtain ⟨b,o,spot⟩:=ad
      have hsp:spot=none:=by simpa [Addr.add] using World.cell?_spot z0
      subst hsp
      have c0:w.cell? ⟨b,o+j*2,none⟩=some (V0 j):=by
        rw [← k0]
        by_cases h0:j=0
        · subst h0;simp [Addr.add]
        · have h2:j*2≠0:=by omega
          simp [Addr.add,h2]
      have c1:w.cell? ⟨b,o+j*2+1,none⟩=some (V1 j):=by
        rw [← k1]
        simp [Addr.add,Nat.add_assoc]
      rw [e0] at c0
      rw [e1] at c1
      exact ⟨b,o,rfl,cell_lt c0,by rw [e0];exact c0,by rw [e1];exact c1⟩
    · intro x hx
      simp only [List.mem_map,List.mem_range] at hx
      obtain ⟨i,hi,rfl⟩:=hx
      obtain ⟨x,y,e0,e1,h0,h1⟩:=key i hi
      rw [e0,e1]
      exact ⟨h0,h1⟩
theorem open_book {w:World} {r:Reach} {b0:Nat} {v:Value} {d:DataW H} {p:List MemPlace} (hv:Value.okWide Tryz.prog w r b0 30 v) (h:DataW.Trod enc Tryz.prog w base spare held 30 v d p) :
    ∃ (v1 v2:Value) (P:List Po) (A:List Ac),v=.agg #[v1,v2]∧Posts w v1 P∧Accs w v2 A∧(∀ x∈P,PoWf x)∧(∀ x∈A,AcWf x)∧P.length≤9223372036854775807∧A.length≤9223372036854775807:=by
  have hv0:=hv
  obtain ⟨cs,rfl,hsz⟩:=okWide_struct Tryz.underlying30 hv
  rw [cells_book] at hsz
  obtain ⟨l⟩:=cs
  match l,hsz with
  | [c0,c1],_ =>
    obtain ⟨fuel,hf⟩:=h
    obtain ⟨xs,n,_,hx,_,hlen,hg⟩:=DataW.trod_struct Tryz.underlying30 hf
    match xs,hlen with
    | [y0,y1],_ =>
      have g0:=hg 0 _ rfl
      have g1:=hg 1 _ rfl
      simp [Value.cells,cells_posts,cells_accs] at g0 g1
      obtain ⟨P,p1,p2,p3⟩:=trod_posts g0
      obtain ⟨A,a1,a2,a3⟩:=trod_accs g1
      exact ⟨c0,c1,P,A,rfl,p1,a1,p2,a2,p3,a3⟩
end
end Go.Proofs.YtjhhmeoibfdcmaaGreat
namespace Go.Proofs.YtjhhmeoibfdcmaaGreat
open Go.RowKit Qd
theorem shs_nil (w:World):Shs w (.slice none 0 0) []:=⟨none,0,rfl,fun i x hx=>by simp at hx⟩
theorem brl_walk (c:Cal) (hn:c.name.size≤9223372036854775807) (u:Un) (v1 v2:Value) (P:List Po) (A:List Ac) (w:World) (hP:Posts w v1 P) (hA:Accs w v2 A) (hp:∀ x∈P,PoWf x) (ha:∀ x∈A,AcWf x) (hl1:P.length≤9223372036854775807) (hl2:A.length≤9223372036854775807) :
    Calls Tryz.prog 6 #[calV c,unitV u,.agg #[v1,v2]] w fun e w'=>e=.returned (.bool true)∧Below w.heap.size w w':=by
  have HP:=hide hP
  have HA:=hide hA
  have HW:=hide (And.intro (fun x h=>(hp x h).2) (fun x h=>(ha x h).2.2))
  have H0:=hide (ttSt_new c u v1 v2 w)
  clear hp ha
  obtain ⟨ad1,cap1,rfl,_⟩:=hP
  obtain ⟨ad2,cap2,rfl,_⟩:=hA
  simp only [calV,unitV]
  go_enter Tryz.func6,Tryz.ntmps6
  go_wp2_with fail
  refine (live22_any _).mono ?_
  rintro e w1 ⟨rfl,hb1⟩
  have HS1:=hide (H0.out.call hb1)
  clear hb1
  obtain ⟨⟨q0,q1,q2,q3,q4,q5,q6,q7,q8,q9,q10,q11,q12,q13⟩,⟨u0,u1,u2⟩,⟨k0,k1⟩,hsz,hBel⟩:=HS1.out.cells
  have hy1:w.heap.size<w1.heap.size:=by omega
  go_wp2_with fail
  refine (few_any c P A _ _ _ (HP.out.call HS1.out.2.2.2.2) (HA.out.call HS1.out.2.2.2.2) hn hl1 hl2).mono ?_
  rintro e w2 ⟨rfl,hb2⟩
  have HS2:=hide (HS1.out.call hb2)
  clear hb2 q0 q1 q2 q3 q4 q5 q6 q7 q8 q9 q10 q11 q12 q13 u0 u1 u2 k0 k1 hsz hBel hy1
  cases hF:fewB c P A
  · have hBel:=HS2.out.2.2.2.2
    go_wp2
    go_ret
    exact ⟨rfl,hBel⟩
  obtain ⟨hf1,hf2,hf3,hf4⟩:=few_out hF
  have HBK:=hide (bookF c P A (.slice ad2 A.length cap2) hF HW.out.1 HW.out.2)
  have hnm:c.name.size≤1000:=by omega
  have hln:P.length≤5000∧A.length≤16:=by omega
  have HML:=hide (show ∀ a∈A,meetsE c 5 ⟨a.a,a.b⟩=0→(meetsL c 5 ⟨a.a,a.b⟩).length≤420 from fun a hx h=>ac_len h (hf4 a hx))
  clear hF hf4
  have HBT:=hide (fun W (h1:Posts W (.slice ad1 P.length cap1) P) (h2:Accs W (.slice ad2 A.length cap2) A)=>btotal_bk c u P A (ZA c A) _ _ W hnm h1 h2 HBK.out)
  have HRT:=hide (fun W (h1:Posts W (.slice ad1 P.length cap1) P) (h2:Accs W (.slice ad2 A.length cap2) A)=>r22total_any c u P A _ _ W hnm h1 h2 hln HW.out.1 HW.out.2 HML.out)
  have HRO:=hide (fun W (h1:Posts W (.slice ad1 P.length cap1) P) (h2:Accs W (.slice ad2 A.length cap2) A)=>broll_any c u.lv u.yr P A (ZA c A) _ _ W hnm h1 h2 HBK.out)
  have HRR:=hide (fun W (h1:Posts W (.slice ad1 P.length cap1) P) (h2:Accs W (.slice ad2 A.length cap2) A)=>r22roll_any c u.lv u.yr P A _ _ W hnm h1 h2 hln HW.out.1 HW.out.2 HML.out)
  have HLN:=hide (rollL_len (c:=c) (lv:=u.lv) (y:=u.yr) (P:=P) (A:=A) (Z:=ZA c A))
  have HCB:=hide (fun (h:rollE c u.lv u.yr P A (ZA c A)=0)=>cntBd (roll_zero h).1)
  obtain ⟨T,hT⟩:∃ x,TV c P A (ZA c A) u=x:=⟨_,rfl⟩
  obtain ⟨E,hE⟩:∃ x,TE c P A (ZA c A) u=x:=⟨_,rfl⟩
  obtain ⟨R,hR⟩:∃ x,rollE c u.lv u.yr P A (ZA c A)=x:=⟨_,rfl⟩
  obtain ⟨L,hL⟩:∃ x,rollL c u.lv u.yr P A (ZA c A)=x:=⟨_,rfl⟩
  obtain ⟨n,hnn⟩:∃ x,cntL c u.yr u.lv=x:=⟨_,rfl⟩
  rw [hT,hE] at HBT HRT
  rw [hR] at HRO HCB HRR
  rw [hL] at HRO HRR HLN
  rw [hnn] at HRO HCB HLN
  simp only [calV,unitV] at HBT HRO HRT HRR
  clear hT hE hR hL hnn
  obtain ⟨⟨q0,q1,q2,q3,q4,q5,q6,q7,q8,q9,q10,q11,q12,q13⟩,⟨u0,u1,u2⟩,⟨k0,k1⟩,hsz,hBel⟩:=HS2.out.cells
  have hy1:w.heap.size<w2.heap.size:=by omega
  go_wp2_with fail
  refine (HBT.out _ (HP.out.call hBel) (HA.out.call hBel)).mono ?_
  rintro e w3 ⟨rfl,hb3⟩
  have HS3:=hide (HS2.out.call hb3)
  clear hb3 q0 q1 q2 q3 q4 q5 q6 q7 q8 q9 q10 q11 q12 q13 u0 u1 u2 k0 k1 hsz hBel hy1
  obtain ⟨⟨q0,q1,q2,q3,q4,q5,q6,q7,q8,q9,q10,q11,q12,q13⟩,⟨u0,u1,u2⟩,⟨k0,k1⟩,hsz,hBel⟩:=HS3.out.cells
  have hy1:w.heap.size<w3.heap.size:=by omega
  go_wp2_with fail
  refine (HRT.out _ (HP.out.call hBel) (HA.out.call hBel)).mono ?_
  rintro e w4 ⟨rfl,hb4⟩
  have HS4:=hide (HS3.out.call hb4)
  clear hb4 q0 q1 q2 q3 q4 q5 q6 q7 q8 q9 q10 q11 q12 q13 u0 u1 u2 k0 k1 hsz hBel hy1
  obtain ⟨⟨q0,q1,q2,q3,q4,q5,q6,q7,q8,q9,q10,q11,q12,q13⟩,⟨u0,u1,u2⟩,⟨k0,k1⟩,hsz,hBel⟩:=HS4.out.cells
  have hy1:w.heap.size<w4.heap.size:=by omega
  go_wp2_with fail
  refine (HRO.out _ (HP.out.call hBel) (HA.out.call hBel)).mono ?_
  rintro e w5 ⟨⟨vl,rfl,hv1,hv2⟩,hb5⟩
  have HS5:=hide (HS4.out.call hb5)
  have HV:=hide (show ∃ L',L'.length≤100000∧Shs w5 vl L'∧(R=0→L'=L)∧(¬ R=0→L'=[]) from by
    by_cases hR:R=0
    · obtain ⟨g,h1,h2,_⟩:=hv1 hR
      subst h1
      have h3:=h2.shs n
      rw [HLN.out] at h3
      exact ⟨L,by rw [HLN.out];have:=HCB.out hR;omega,h3,fun _=>rfl,fun h=>absurd hR h⟩
    · exact ⟨[],by simp,by rw [hv2 hR];exact shs_nil _,fun h=>absurd h hR,fun _=>rfl⟩)
  obtain ⟨L',HVL⟩:∃ L',Hid (L'.length≤100000∧Shs w5 vl L'∧(R=0→L'=L)∧(¬ R=0→L'=[])):=by
    obtain ⟨L',h⟩:=HV.out
    exact ⟨L',hide h⟩
  have hvf:∃ ad n cap,vl=.slice ad n cap:=by
    obtain ⟨ad,cap,h,_⟩:=HVL.out.2.1
    exact ⟨_,_,_,h⟩
  obtain ⟨ad5,n5,cap5,rfl⟩:=hvf
  clear HV hv1 hv2 hb5 q0 q1 q2 q3 q4 q5 q6 q7 q8 q9 q10 q11 q12 q13 u0 u1 u2 k0 k1 hsz hBel hy1
  obtain ⟨⟨q0,q1,q2,q3,q4,q5,q6,q7,q8,q9,q10,q11,q12,q13⟩,⟨u0,u1,u2⟩,⟨k0,k1⟩,hsz,hBel⟩:=HS5.out.cells
  have hy1:w.heap.size<w5.heap.size:=by omega
  go_wp2_with fail
  refine (HRR.out _ (HP.out.call hBel) (HA.out.call hBel)).mono ?_
  rintro e w6 ⟨⟨vk,rfl,hv1,hv2⟩,hb6⟩
  have HS6:=hide (HS5.out.call hb6)
  have HVK:=hide (show Shs w6 vk L' from by
    by_cases hR:R=0
    · rw [HVL.out.2.2.1 hR];exact ownS_shs (hv1 hR)
    · rw [HVL.out.2.2.2 hR,hv2 hR];exact shs_nil _)
  have HVJ:=hide (HVL.out.2.1.call hb6)
  have hvf:∃ ad n cap,vk=.slice ad n cap:=by
    obtain ⟨ad,cap,h,_⟩:=HVK.out
    exact ⟨_,_,_,h⟩
  obtain ⟨ad6,n6,cap6,rfl⟩:=hvf
  clear hv1 hv2 hb6 q0 q1 q2 q3 q4 q5 q6 q7 q8 q9 q10 q11 q12 q13 u0 u1 u2 k0 k1 hsz hBel hy1
  have hBel:=HS6.out.2.2.2.2
  have hle:=hBel.size
  have hTT:(T==T)=true:=by simp
  have hEE:(E==E)=true:=by simp
  have hRR:(R==R)=true:=by simp
  go_wp2_with fail
  refine (r21same_yes L' _ _ _ HVJ.out HVK.out HVL.out.1).mono ?_
  rintro e w7 ⟨rfl,hb7⟩
  have hB7:Below w.heap.size w w7:=hBel.trans (hb7.mono hle)
  clear hb7
  go_wp2
  go_ret
  exact ⟨by first | rfl | exact ret_bool (by simp),hB7⟩
end Go.Proofs.YtjhhmeoibfdcmaaGreat
namespace Go.Proofs.YtjhhmeoibfdcmaaGreat.bookRolls
open Go.ChangeShapes Go.WideShapes Go.ChangeAt Go.RowKit Qd
theorem rd0:Tryz.prog.readableRec 24=true∧24<Tryz.prog.types.size:=⟨by kernel_rfl,of_decide_eq_true (by kernel_rfl)⟩
theorem rd1:Tryz.prog.readableRec 26=true∧26<Tryz.prog.types.size:=⟨by kernel_rfl,of_decide_eq_true (by kernel_rfl)⟩
theorem rd2:Tryz.prog.readableRec 30=true∧30<Tryz.prog.types.size:=⟨by kernel_rfl,of_decide_eq_true (by kernel_rfl)⟩
theorem lifted (os:Os) (started:os.Started) (H:Type) (enc:TypeId × Value→H) :
    ReturnsInHanded {} Tryz.checked os 6 .any (Rows.bookRollsSpec.pre6 enc Tryz.prog Tryz.f6 Rows.bookRollsRow.domain false) (Rows.bookRollsSpec.post enc Tryz.prog Tryz.f6 false true false false):=by
  refine returnsInHanded_of_change (C:=Tryz.checked) own started (by kernel_rfl) Tryz.func6
    (ChangeSpec.witness6 (enc:=enc) (C:=Tryz.checked) false ⟨#[],#[.agg #[.string ⟨#[]⟩,.int .i64 0,.int .i64 0,.int .i64 0,.int .i64 0,.int .i64 0,.int .i64 0,.int .i64 0,.int .i64 0,.int .i64 0,.int .i64 0,.int .i64 0,.int .i64 0,.int .i64 0],.agg #[.int .i64 0,.int .i64 0,.int .i64 0],.agg #[.slice none 0 0,.slice none 0 0]],[]⟩ 8 (by kernel_rfl) (by kernel_rfl) (by kernel_rfl) (by kernel_rfl)) ?_
  intro W base args ds gs before hval0 hW hcnd _
  have hval:∀ (j:Nat) t v,Tryz.f6.params[j]?=some t→args[j]?=some v→Value.okWide Tryz.prog W .any base t v:=hval0
  have hW':=hW
  obtain ⟨p,q,hA0,hV,rfl,hfz,hnd⟩:=hW
  have hA:DataW.TrodAll enc Tryz.prog W 0 (fun _=>true) true Tryz.f6.params.toList args.toList ds p:=hA0
  have hA2:=hA
  rw [Tryz.params6] at hA hval
  obtain ⟨v0,vs0,d0,ds0,p0,q0,hargs,rfl,hp0,h0,r0⟩:=trodAll_cons hA
  obtain ⟨v1,vs1,d1,ds1,p1,q1,rfl,rfl,hp1,h1,r1⟩:=trodAll_cons r0
  obtain ⟨v2,vs2,d2,ds2,p2,q2,rfl,rfl,hp2,h2,r2⟩:=trodAll_cons r1
  obtain ⟨rfl,rfl,hpn⟩:=trodAll_nil r2
  obtain rfl:args=#[v0,v1,v2]:=by cases args;simp_all
  obtain ⟨rfl,rfl⟩:=trodVars_none hV
  obtain ⟨c0,rfl,hn0,hw0⟩:=open_cal (hval 0 24 v0 rfl rfl) h0
  obtain ⟨u1,rfl,hw1⟩:=open_unit (hval 1 26 v1 rfl rfl) h1
  obtain ⟨x2,y2,P2,A2,rfl,gP2,gA2,hp2w,ha2w,hl2,hm2⟩:=open_book (hval 2 30 v2 rfl rfl) h2
  clear hA0 hval0
  refine ((fun c hn _ u _ x y P A hP hA hp ha hl hm _=>brl_walk c hn u x y P A _ hP hA hp ha hl hm) c0 hn0 hw0 u1 hw1 x2 y2 P2 A2 gP2 gA2 hp2w ha2w hl2 hm2 W).mono fun e W' ⟨he,hb⟩=>?_
  subst he
  have hlt:∀ x∈p++[],x.block<W.heap.size:=fun x hx=>hW'.lt x hx
  refine ⟨_,rfl,post_of_below (pa:=p) (pv:=[]) hW' (fun _ _ _=>(trodAll_cons_mk (shut_bool Tryz.underlying4 _) trodAll_mk0)) (fun sp hs=>?_) (fun _ _=>rfl) rfl hb (ok_one (by kernel_rfl) rfl (okWide_bool_mk Tryz.underlying4 _))⟩
  exact trodAll_stays laidOut (by rw [Tryz.params6];intro t ht;simp only [List.mem_cons,List.not_mem_nil,or_false] at ht;rcases ht with rfl | rfl | rfl <;> first | exact rd0 | exact rd1 | exact rd2) hA2 (fun x hx=>hb.same (hlt x (List.mem_append_left _ hx))) (fun x hx=>hs x (List.mem_append_left _ hx))
theorem over:Rows.bookRollsRow.holds Tryz.pinned (OpenSpec.ofChange Rows.bookRollsSpec):=
  OpenClaim.holds_of_wide 6 Tryz.f6 rfl rfl rfl rfl rfl rfl rfl ⟨rfl,rfl,rfl,rfl,rfl⟩ rfl rfl rfl rfl rfl (by kernel_rfl) Tryz.func6 joined
    (of_decide_eq_true (by kernel_rfl)) (by unfold Func.isWrapper;rw [if_neg (of_decide_eq_false (by kernel_rfl))];exact ⟨rfl,rfl⟩)
    (fun os started H enc _=>lifted os started H enc)
theorem proved:Rows.BookRollsSaid:=
  over
#print axioms proved
end Go.Proofs.YtjhhmeoibfdcmaaGreat.bookRolls
