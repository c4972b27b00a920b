/- Package ratio: Mul. Ratios in memory. The reference of layer 3: what is common, what may be, what is made. -/
import Derived.Test.YtjhhmeoibfdcmaaGreatUq15
import Derived.Test.YtjhhmeoibfdcmaaGreatUq22
import Derived.Test.YtjhhmeoibfdcmaaGreatUq26
import Derived.Test.YtjhhmeoibfdcmaaGreatUq47
import Derived.Test.YtjhhmeoibfdcmaaGreatUq49
set_option linter.unusedSimpArgs false
set_option linter.unusedVariables false
set_option maxRecDepth 100000
set_option maxHeartbeats 12800000
namespace Go.Proofs.YtjhhmeoibfdcmaaGreat
open Go.RowKit Qd
def CtS (a:Int) (X D:Nat) (w0 w:World):Prop:=BlkIs w w0.heap.size #[.int .i64 a,.int .i64 1] 125∧BlkIs w (w0.heap.size+1) #[.int .i64 (X:Int),.int .i64 (D:Int)] 125∧BlkIs w (w0.heap.size+1+1) #[.int .i64 0,.int .i64 0] 125∧Below w0.heap.size w0 w
theorem ctS_new (a:Int) (X D:Nat) (w:World):CtS a X D w (((w.alloc (.cells #[.int .i64 a,.int .i64 1] 125)).alloc (.cells #[.int .i64 (X:Int),.int .i64 (D:Int)] 125)).alloc (.cells #[.int .i64 0,.int .i64 0] 125)):=by
  refine ⟨((BlkIs.new w _ _).alloc _).alloc _,?_,?_,by (repeat' exact bel)⟩
  · have h:=(BlkIs.new (w.alloc (.cells #[.int .i64 a,.int .i64 1] 125)) #[.int .i64 (X:Int),.int .i64 (D:Int)] 125).alloc (.cells #[.int .i64 0,.int .i64 0] 125)
    simpa using h
  · have h:=BlkIs.new ((w.alloc (.cells #[.int .i64 a,.int .i64 1] 125)).alloc (.cells #[.int .i64 (X:Int),.int .i64 (D:Int)] 125)) #[.int .i64 0,.int .i64 0] 125
    simpa using h
theorem CtS.call {a:Int} {X D:Nat} {w0 w w':World} (h:CtS a X D w0 w) (hb:Below w.heap.size w w'):CtS a X D w0 w':=by
  refine ⟨h.1.call hb,h.2.1.call hb,h.2.2.1.call hb,h.2.2.2.trans (hb.mono h.2.2.2.size)⟩
theorem rcounted_any (a:Int) (X D B1 B2:Nat) (w:World) (hS:RtS a X D B1 B2 w) (ha:in64 a) (hX:X≤9223372036854775807) (h1:1≤D) (h2:D≤9223372036854775807) (hg:Nat.gcd X D=1) :
    Calls Tryz.prog 181 #[ratV a 1,ratV X D,.func (.func 182) #[] #[.pointer (some ⟨B1,0,none⟩),.pointer (some ⟨B2,0,none⟩)]] w fun e w'=>e=.returned (.tuple #[exV a X D,.int .i64 (fitE (exN a X D))])∧Below w.heap.size w w':=by
  have HC1:=hide (fun W=>rcheck_yes a 1 W ha (by omega) (by omega) (Nat.gcd_one_right _))
  have HC2:=hide (fun W=>rcheck_yes X D W (by unfold in64;omega) h1 h2 (by simpa using hg))
  have HK:=hide (fun W (h:RtS a X D B1 B2 W)=>rmul1_any a X D B1 B2 W h ha hX h1 h2)
  obtain ⟨x,y,hxy⟩:=ex_form a X D
  rw [hxy] at HK ⊢
  obtain ⟨E,hE⟩:∃ E,fitE (exN a X D)=E:=⟨_,rfl⟩
  rw [hE] at HK ⊢
  have HS:=hide hS
  have H0:=hide (ctS_new a X D w)
  clear hS hxy hE hg
  simp only [ratV,Int.natCast_one] at HC1 HC2 ⊢
  go_enter Tryz.func181,Tryz.ntmps181
  go_wp2_with fail
  refine (HC1.out _).mono ?_
  rintro e w1 ⟨rfl,hb1⟩
  have HS1:=hide (H0.out.call hb1)
  clear hb1
  obtain ⟨⟨c0,c1⟩,_,_,hz⟩:=rat_blk HS1.out.2.1
  go_wp2_with fail
  refine (HC2.out _).mono ?_
  rintro e w2 ⟨rfl,hb2⟩
  have HS2:=hide (HS1.out.call hb2)
  clear hb2 c0 c1 hz
  go_wp2_with fail
  refine (HK.out _ (HS.out.call HS2.out.2.2.2)).mono ?_
  rintro e w3 ⟨rfl,hb3⟩
  have HS3:=hide (HS2.out.call hb3)
  clear hb3
  obtain ⟨⟨r0,r1⟩,f0,f1,hsz⟩:=rat_blk HS3.out.2.2.1
  have hBel:=HS3.out.2.2.2
  have hle:=hBel.size
  go_wp2
  exact bodyPost_ret (v:=.tuple #[.agg #[.int .i64 x,.int .i64 y],.int .i64 E]) (by simp (maxDischargeDepth:=9) [results,Tryz.results181,go_sem,r0,r1,f0,f1,hsz]) rfl ⟨rfl,by (repeat' exact bel)⟩
theorem rmul_any (a:Int) (X D:Nat) (w:World) (ha:in64 a) (hX:X≤9223372036854775807) (h1:1≤D) (h2:D≤9223372036854775807) (hg:Nat.gcd X D=1) :
    Calls Tryz.prog 115 #[ratV a 1,ratV X D] w fun e w'=>e=.returned (.tuple #[exV a X D,.int .i64 (fitE (exN a X D))])∧Below w.heap.size w w':=by
  have H0:=hide (ctS_new a X D w)
  have HK:=hide (fun W (h:RtS a X D w.heap.size (w.heap.size+1) W)=>rcounted_any a X D w.heap.size (w.heap.size+1) W h ha hX h1 h2 hg)
  obtain ⟨x,y,hxy⟩:=ex_form a X D
  rw [hxy] at HK ⊢
  obtain ⟨E,hE⟩:∃ E,fitE (exN a X D)=E:=⟨_,rfl⟩
  rw [hE] at HK ⊢
  clear hxy hE hg
  simp only [ratV,Int.natCast_one] at HK ⊢
  go_enter Tryz.func115,Tryz.ntmps115
  go_wp2_with fail
  refine (HK.out _ ⟨H0.out.1,H0.out.2.1⟩).mono ?_
  rintro e w3 ⟨rfl,hb3⟩
  have HS3:=hide (H0.out.call hb3)
  clear hb3
  obtain ⟨⟨r0,r1⟩,f0,f1,hsz⟩:=rat_blk HS3.out.2.2.1
  have hBel:=HS3.out.2.2.2
  have hle:=hBel.size
  go_wp2
  exact bodyPost_ret (v:=.tuple #[.agg #[.int .i64 x,.int .i64 y],.int .i64 E]) (by simp (maxDischargeDepth:=9) [results,Tryz.results115,go_sem,r0,r1,f0,f1,hsz]) rfl ⟨rfl,by (repeat' exact bel)⟩
end Go.Proofs.YtjhhmeoibfdcmaaGreat
namespace Go.Proofs.YtjhhmeoibfdcmaaGreat
open Go.RowKit Qd
def rtC (x:Int × Int):List Value:=[.int .i64 x.1,.int .i64 x.2]
def RtsAt (w:World) (g:Nat) (D:List (Int × Int)):Prop:=w.heap[g]?=some (.cells (D.flatMap rtC).toArray 125 (0,0))
theorem RtsAt.lt {w:World} {g:Nat} {D:List (Int × Int)} (h:RtsAt w g D):g<w.heap.size:=(Array.getElem?_eq_some_iff.1 h).1
theorem rt_get (D:List (Int × Int)) (i:Nat) (x:Int × Int) (h:D[i]?=some x):(D.flatMap rtC)[i*2]?=some (.int .i64 x.1)∧(D.flatMap rtC)[i*2+1]?=some (.int .i64 x.2):=by
  induction D generalizing i with
  | nil=>simp at h
  | cons y l ih =>
    cases i with
    | zero=>simp at h;subst h;simp [rtC]
    | succ i =>
      have:=ih i (by simpa using h)
      rw [show (i+1)*2=i*2+1+1 by omega]
      simpa [rtC] using this
theorem rt_set (D:List (Int × Int)) (i:Nat) (x:Int × Int) (h:i<D.length):((D.flatMap rtC).set (i*2) (.int .i64 x.1)).set (i*2+1) (.int .i64 x.2)=(D.set i x).flatMap rtC:=by
  induction D generalizing i with
  | nil=>simp at h
  | cons y l ih =>
    cases i with
    | zero=>simp [rtC]
    | succ i =>
      have:=ih i (by simpa using h)
      rw [show (i+1)*2=i*2+1+1 by omega]
      simpa [rtC] using this
theorem RtsAt.cell {w:World} {g:Nat} {D:List (Int × Int)} (h:RtsAt w g D) {i:Nat} {x:Int × Int} (hi:D[i]?=some x):w.cell? ⟨g,i*2,none⟩=some (.int .i64 x.1)∧w.cell? ⟨g,i*2+1,none⟩=some (.int .i64 x.2):=by
  have:=rt_get D i x hi
  simp [World.cell?,show w.heap[g]?=_ from h,this]
theorem RtsAt.frozen {w:World} {g:Nat} {D:List (Int × Int)} (h:RtsAt w g D) (k:Nat):w.frozen? ⟨g,k,none⟩=false:=by simp [World.frozen?,show w.heap[g]?=_ from h]
theorem RtsAt.call {w w':World} {g:Nat} {D:List (Int × Int)} (h:RtsAt w g D) (hb:Below w.heap.size w w'):RtsAt w' g D:=(hb.block g h.lt).trans h
def rtPut (w:World) (g i:Nat) (x:Int × Int):World:=(w.setCell ⟨g,i*2,none⟩ (.int .i64 x.1)).setCell ⟨g,i*2+1,none⟩ (.int .i64 x.2)
theorem RtsAt.put {w:World} {g:Nat} {D:List (Int × Int)} (h:RtsAt w g D) (i:Nat) (x:Int × Int) (hi:i<D.length):RtsAt (rtPut w g i x) g (D.set i x):=by
  unfold RtsAt rtPut at *
  rw [← rt_set D i x hi]
  simp [World.setCell,Array.getElem?_modify,h]
theorem rtPut_below {w0 w:World} {K g i:Nat} {x:Int × Int} (h:Below K w0 w) (hg:K≤g):Below K w0 (rtPut w g i x):=(h.setCell hg _).setCell hg _
theorem rt_info:(Tryz.prog.info? 125).map (fun i=>(i.zero,i.size,i.bytes))=some (some (.agg #[.int .i64 0,.int .i64 0]),2,16):=by kernel_rfl
abbrev rtZ:Int × Int:=(0,0)
def rtObj (n:Nat):Obj:=.cells ((List.replicate n rtZ).flatMap rtC).toArray 125
theorem RtsAt.new (w:World) (n:Nat):RtsAt (w.alloc (rtObj n)) w.heap.size (List.replicate n rtZ):=by
  unfold RtsAt rtObj
  rw [heap_alloc_new]
theorem rt_flen:∀ D:List (Int × Int),(D.flatMap rtC).length=D.length*2:=by
  intro D
  induction D with
  | nil=>rfl
  | cons x D ih=>simp only [List.flatMap_cons,List.length_append,List.length_cons,ih,rtC,List.length_nil];omega
theorem rt_flat_at (n i:Nat) (h:i<n*2):((List.replicate n rtZ).flatMap rtC)[i]?=some (.int .i64 0):=by
  have hd:i / 2<n:=by omega
  have hr:(List.replicate n rtZ)[i / 2]?=some rtZ:=by simp [hd]
  obtain ⟨g0,g1⟩:=rt_get _ _ _ hr
  rcases (show i % 2=0∨i % 2=1 by omega) with h | h
  · have e:i / 2*2=i:=by omega
    rw [e] at g0
    exact g0
  · have e:i / 2*2+1=i:=by omega
    rw [e] at g1
    exact g1
theorem make_rt (n:Nat) (hn:n≤100000) (w:World):(Instr.makeSlice 59 (.int .i64 (n:Int)) (.int .i64 (n:Int))).run Tryz.prog w=.ok (.slice (some ⟨w.heap.size,0,none⟩) n n) (w.alloc (rtObj n)):=by
  obtain ⟨i0,hi,hz0,hz1,hz2⟩:=info_parts rt_info
  have hr:=run_make (P:=Tryz.prog) w 59 125 i0 (.agg #[.int .i64 0,.int .i64 0]) Tryz.underlying59 hi hz0 .i64 .i64 n n (by omega) (by omega) (by rw [hz2];omega) (by omega)
  rw [hr,hz1]
  have e:madeCells (Value.agg #[.int .i64 0,.int .i64 0]).cells (((n:Int)).toNat*2)=((List.replicate n rtZ).flatMap rtC).toArray:=by
    apply Array.ext
    · simp [madeCells,rtC]
    · intro i h1 h2
      have h3:i<n*2:=by simpa [rtC] using h2
      have h4:=rt_flat_at n i h3
      have h5:=(List.getElem?_eq_some_iff.1 h4).2
      have h6:((List.replicate n rtZ).flatMap rtC).toArray[i]'h2=Value.int .i64 0:=by
        rw [List.getElem_toArray];exact h5
      rw [h6]
      rcases (show i % 2=0∨i % 2=1 by omega) with h | h <;> simp [madeCells,Value.cells,h]
  rw [e]
  simp [rtObj]
abbrev OwnQ (w:World) (b:Nat) (v:Value) (D:List (Int × Int)):Prop:=w.ownsRow b 125 2 v D.length (D.flatMap rtC)
theorem ownQ_call {w w':World} {b:Nat} {v:Value} {l:List (Int × Int)} (h:OwnQ w b v l) (hb:Below w.heap.size w w'):OwnQ w' b v l:=by
  refine ⟨h.1,?_⟩
  rcases h.2 with h1 | ⟨g',cap',cur,he,h2,hg',h3⟩
  · exact .inl h1
  · exact .inr ⟨g',cap',cur,he,h2,(hb.block g' (Array.getElem?_eq_some_iff.1 hg').1).trans hg',h3⟩
theorem app_rt {ops:Array Oper} {rest:List Oper} {o:Oper} {a:Act} {Q:Exit→Act→World→Prop} {w:World} (hgd:o.guard=none) (s x:Operand)
    (ho:o.op=.call { callee:=.builtin .append,args:=#[s,x],argTypes:=#[59,59] }) (base:Nat) (v:Value) (m:List (Int × Int)) (r:Int × Int) (B:Nat)
    (hs:a.eval s=v) (hown:OwnQ w base v m) (hx:a.eval x=.slice (some ⟨B,0,none⟩) 1 1) (hB:BlkIs w B #[.int .i64 r.1,.int .i64 r.2] 125) (hml:m.length≤100000) (hbase:base≤w.heap.size)
    (h:∀ v' w',OwnQ w' base v' (m++[r])→Below base w w'→wpList Tryz.prog ops Q rest (a.put o.dst v') w'):wpList Tryz.prog ops Q (o::rest) a w:=by
  obtain ⟨i0,hi,hi0,hi1,hi2⟩:=info_parts rt_info
  have hfl:=rt_flen
  refine wpList_append_own w hgd s x 59 ho base 125 i0 (.agg #[.int .i64 0,.int .i64 0]) 2 16 Tryz.underlying59 hi hi0 hi1 hi2 rfl (by decide) v m.length (m.flatMap rtC) hs hown ⟨B,0,none⟩ 1 1 (rtC r) hx rfl ?_ ?_ (by unfold maxLen;omega) (by omega) hbase ?_
  · intro j y hj
    match j,hj with
    | 0,hj=>simp [rtC] at hj;subst hj;simpa [Addr.add] using hB.cell 0
    | 1,hj=>simp [rtC] at hj;subst hj;simpa [Addr.add] using hB.cell 1
  · intro y hy
    simp [rtC] at hy
    rcases hy with rfl | rfl <;> rfl
  · intro v' w' ho' hg _
    exact h v' w' (by unfold OwnQ;rw [List.length_append,List.flatMap_append];simpa using ho') ((Below.refl base w).grown hg hbase fun k hk=>(hown.lt k hk).1)
def Rts (w:World) (v:Value) (D:List (Int × Int)):Prop:=∃ ad cap,v=.slice ad D.length cap∧∀ (i:Nat) (x:Int × Int),D[i]?=some x→∃ g,ad=some ⟨g,0,none⟩∧g<w.heap.size∧w.cell? ⟨g,i*2,none⟩=some (.int .i64 x.1)∧w.cell? ⟨g,i*2+1,none⟩=some (.int .i64 x.2)
theorem Rts.call {w w':World} {v:Value} {D:List (Int × Int)} (h:Rts w v D) (hb:Below w.heap.size w w'):Rts w' v D:=by
  obtain ⟨ad,cap,h1,h2⟩:=h
  refine ⟨ad,cap,h1,fun i x hx=>?_⟩
  obtain ⟨g,e,hg,c0,c1⟩:=h2 i x hx
  exact ⟨g,e,Nat.lt_of_lt_of_le hg hb.size,(hb.cell (p:=⟨g,_,none⟩) hg).trans c0,(hb.cell (p:=⟨g,_,none⟩) hg).trans c1⟩
theorem RtsAt.rts {w:World} {g:Nat} {D:List (Int × Int)} (h:RtsAt w g D) (cap:Nat):Rts w (.slice (some ⟨g,0,none⟩) D.length cap) D:=
  ⟨_,_,rfl,fun i x hx=>⟨g,rfl,h.lt,h.cell hx⟩⟩
theorem rts_nil (w:World):Rts w (.slice none 0 0) []:=⟨none,0,rfl,fun i x hx=>by simp at hx⟩
theorem ownQ_rts {w:World} {b:Nat} {v:Value} {D:List (Int × Int)} (h:OwnQ w b v D):Rts w v D:=by
  have hfl:=rt_flen
  rcases h.2 with ⟨h1,h2⟩ | ⟨g,cap,cur,h1,h2,h3,h4,h5,h6,h7⟩
  · have hl:D=[]:=List.length_eq_zero_iff.1 h2
    subst hl
    exact ⟨none,0,h1,fun i x hx=>by simp at hx⟩
  · refine ⟨_,_,h1,fun i x hx=>⟨g,rfl,(Array.getElem?_eq_some_iff.1 h3).1,?_⟩⟩
    subst h1
    have hi:=(List.getElem?_eq_some_iff.1 hx).1
    have h8:=hfl D
    obtain ⟨s0,s1⟩:=rt_get D i x hx
    refine ⟨?_,?_⟩
    · rw [h.cellAt _ (by omega)];simp [s0]
    · rw [h.cellAt _ (by omega)];simp [s1]
theorem eqRatio (n:Nat) (a b x y:Int) (w:World):(Op.equalIn (n+2) 125 (.agg #[.int .i64 a,.int .i64 b]) (.agg #[.int .i64 x,.int .i64 y])).run Tryz.prog w=.ok (a==x&&b==y) w:=by
  have u3:=Tryz.underlying2
  have a3:=Tryz.isAgg2
  have z3:=Tryz.sizeOf2
  rw [run_equalIn_struct w _ _ _ _ (by simp [Program.fieldsOf,Tryz.underlying125]) (by kernel_rfl)]
  simp only [Program.fieldsOf,Tryz.underlying125]
  go_simp
  by_cases h1:a=x <;> by_cases h2:b=y <;> simp [h1,h2]
@[go_sem high] theorem neq_ratio (a b x y:Int) (w:World):(binOp .neq 125 (.agg #[.int .i64 a,.int .i64 b]) (.agg #[.int .i64 x,.int .i64 y])).run Tryz.prog w=.ok (.bool (!(a==x&&b==y))) w:=by
  rw [run_neq_struct,eqRatio 9998];rfl
def exQ (a n x:Int):Int × Int:=(exN a (x.toNat / Nat.gcd x.toNat n.toNat) (n.toNat / Nat.gcd x.toNat n.toNat),(exM a (n.toNat / Nat.gcd x.toNat n.toNat):Int))
def exsL (a:Int) (ws:List Int):List (Int × Int):=ws.map (exQ a ws.sum)
def exsR (a n:Int):List Int→Int
  | []=>0
  | x::l=>if fitE (exQ a n x).1=0 then exsR a n l else fitE (exQ a n x).1
def exsE (a:Int) (ws:List Int):Int:=exsR a ws.sum ws
theorem exsL_len (a:Int) (ws:List Int):(exsL a ws).length=ws.length:=by simp [exsL]
theorem exsR_take {a n:Int} {L:List Int} {j:Nat} {x:Int} (hx:L[j]?=some x) (h:exsR a n (L.take j)=0) (h0:fitE (exQ a n x).1=0):exsR a n (L.take (j+1))=0:=by
  induction L generalizing j with
  | nil=>simp at hx
  | cons y l ih =>
    cases j with
    | zero=>simp at hx;subst hx;simp [exsR,h0]
    | succ j =>
      simp only [List.take_succ_cons,exsR] at h ⊢
      by_cases hy:fitE (exQ a n y).1=0
      · rw [if_pos hy] at h ⊢;exact ih (by simpa using hx) h
      · rw [if_neg hy] at h;exact absurd h hy
theorem exsR_no {a n:Int} {L:List Int} {j:Nat} {x:Int} (hx:L[j]?=some x) (h:exsR a n (L.take j)=0) (h0:¬ fitE (exQ a n x).1=0):exsR a n L=fitE (exQ a n x).1:=by
  induction L generalizing j with
  | nil=>simp at hx
  | cons y l ih =>
    cases j with
    | zero=>simp at hx;subst hx;simp [exsR,h0]
    | succ j =>
      simp only [List.take_succ_cons,exsR] at h ⊢
      by_cases hy:fitE (exQ a n y).1=0
      · rw [if_pos hy] at h ⊢;exact ih (by simpa using hx) h
      · rw [if_neg hy] at h;exact absurd h hy
theorem ex_facts {n x:Int} (h0:0≤x) (h1:x≤n) (hn:0<n) (hn2:n<4294967296) :
    x=(x.toNat:Int)∧n=(n.toNat:Int)∧1≤n.toNat∧n.toNat<4294967296∧x.toNat<4294967296∧1≤n.toNat / Nat.gcd x.toNat n.toNat∧n.toNat / Nat.gcd x.toNat n.toNat<4294967296∧x.toNat / Nat.gcd x.toNat n.toNat<4294967296∧Nat.gcd (x.toNat / Nat.gcd x.toNat n.toNat) (n.toNat / Nat.gcd x.toNat n.toNat)=1:=by
  have hg:0<Nat.gcd x.toNat n.toNat:=Nat.gcd_pos_of_pos_right _ (by omega)
  refine ⟨by omega,by omega,by omega,by omega,by omega,?_,Nat.lt_of_le_of_lt (Nat.div_le_self _ _) (by omega),Nat.lt_of_le_of_lt (Nat.div_le_self _ _) (by omega),?_⟩
  · exact (Nat.one_le_div_iff hg).2 (Nat.le_of_dvd (by omega) (Nat.gcd_dvd_right _ _))
  · exact Nat.coprime_div_gcd_div_gcd hg
theorem exV_get (a n x:Int) (h:fitE (exQ a n x).1=0):exV a (x.toNat / Nat.gcd x.toNat n.toNat) (n.toNat / Nat.gcd x.toNat n.toNat)=.agg #[.int .i64 (exQ a n x).1,.int .i64 (exQ a n x).2]:=by
  have h':fitE (exN a (x.toNat / Nat.gcd x.toNat n.toNat) (n.toNat / Nat.gcd x.toNat n.toNat))=0:=h
  unfold exV
  rw [if_pos h']
  rfl
end Go.Proofs.YtjhhmeoibfdcmaaGreat
namespace Go.Proofs.YtjhhmeoibfdcmaaGreat
open Go.RowKit Qd
theorem r03common_any (a b:Nat) (w:World) (ha:a<18446744073709551616) (hb:b<18446744073709551616):Calls Tryz.prog 184 #[.int .u64 a,.int .u64 b] w fun e w'=>e=.returned (.int .u64 ((Nat.gcd a b:Nat):Int))∧Below w.heap.size w w':=by
  obtain ⟨G,hG⟩:∃ G,Nat.gcd a b=G:=⟨_,rfl⟩
  have HG:=hide hG
  rw [hG]
  clear hG
  go_enter Tryz.func184,Tryz.ntmps184
  go_wp2_with fail
  go_loopw [0,1] (fun s0 s1 wr=>∃ x y:Nat,s0=.int .u64 x∧s1=.int .u64 y∧x<18446744073709551616∧y<18446744073709551616∧Hid (Nat.gcd x y=G∧Below w.heap.size w wr)) (fun _ s1 _=>(intOf s1).toNat)
  case atStart=>exact ⟨a,b,rfl,rfl,ha,hb,hide ⟨HG.out,Below.refl _ _⟩⟩
  case round =>
    obtain ⟨x,y,rfl,rfl,hx,hy,HQ⟩:=hrel
    by_cases h0:0<y
    · have hy0:¬ (y:Int)=0:=by omega
      have hy1:¬ y=0:=by omega
      have hlt:=Nat.mod_lt x h0
      have hyb:((y:Int) != 0)=true:=by simpa using hy0
      have hnt:=nat_tmod x y
      have hwx:=m64_wrap (x % y) (by omega)
      go_wp2
      all_goals first
        | (exfalso;omega)
        | skip
      go_roundw
      case rel=>exact ⟨y,x % y,rfl,by first | rfl | (rw [nat_tmod]) | (rw [nat_tmod,hwx]),hy,by omega,hide ⟨by rw [gcd_step];exact HQ.out.1,HQ.out.2⟩⟩
      case measure=>simp [intOf,nat_tmod];omega
    · obtain rfl:y=0:=by omega
      have HX:=hide (show x=G by have:=HQ.out.1;rwa [Nat.gcd_zero_right] at this)
      go_wp2
      all_goals first
        | (exfalso;omega)
        | skip
      go_ret
      exact ⟨ret_int (by rw [HX.out]),HQ.out.2⟩
theorem r03check_yes (n:Int) (d:Nat) (w:World) (hn:in64 n) (h1:1≤d) (h2:d≤9223372036854775807) (hg:Nat.gcd n.natAbs d=1):Calls Tryz.prog 221 #[ratV n d] w fun e w'=>e=.returned (.int .i64 0)∧Below w.heap.size w w':=by
  have HS:=hide (fun W=>r01size_any n W hn)
  have HC:=hide (fun W=>show Calls Tryz.prog 184 #[.int .u64 (n.natAbs:Int),.int .u64 (d:Int)] W fun e w'=>e=.returned (.int .u64 1)∧Below W.heap.size W w' from (r03common_any n.natAbs d W (by unfold in64 at hn;omega) (by omega)).mono fun _ _ h=>by rw [hg] at h;exact h)
  obtain ⟨⟨r0,r1⟩,f0,f1,hsz⟩:=rat_blk (BlkIs.new w #[.int .i64 n,.int .i64 (d:Int)] 125)
  have hd:decide ((d:Int)<1)=false:=by simp;omega
  have hd2:¬ (d:Int)<1:=by omega
  have k0:=cell_regrown r0
  have k1:=cell_regrown r1
  clear hg hn
  simp only [ratV]
  go_enter Tryz.func221,Tryz.ntmps221
  go_wp2_with fail
  refine wp_region_quiet_below (by kernel_rfl) (by kernel_rfl) ?_
  repeat (go_big_quiet_step (first | exact Calls.regrown_of (HS.out _) | exact Calls.regrown_of (HC.out _) | fail))
  refine wpQuiet_nil ?_
  intro _ hw'
  obtain ⟨⟨dq,osq⟩,hw2⟩:=hw'
  subst hw2
  obtain ⟨wq,hwq⟩:∃ wq,Go.Sort.grow (redrawn (w.alloc (.cells #[.int .i64 n,.int .i64 (d:Int)] 125)) dq) osq=wq:=⟨_,rfl⟩
  have HBQ:=hide (show Below w.heap.size w wq from by
    rw [← hwq]
    have h:=below_regrown (w.alloc (.cells #[.int .i64 n,.int .i64 (d:Int)] 125)) dq osq
    exact (ww (n:=w.heap.size) (w:=w) h).out)
  rw [hwq]
  clear hwq
  go_wp2
  go_ret
  exact ⟨rfl,HBQ.out⟩
theorem two_boxes (n m:Int) (d c:Int) (w:World):(BlkIs ((w.alloc (.cells #[.int .i64 n,.int .i64 d] 125)).alloc (.cells #[.int .i64 m,.int .i64 c] 125)) w.heap.size #[.int .i64 n,.int .i64 d] 125)∧(BlkIs ((w.alloc (.cells #[.int .i64 n,.int .i64 d] 125)).alloc (.cells #[.int .i64 m,.int .i64 c] 125)) (w.heap.size+1) #[.int .i64 m,.int .i64 c] 125):=by
  refine ⟨(BlkIs.new w _ _).alloc _,?_⟩
  have h:=BlkIs.new (w.alloc (.cells #[.int .i64 n,.int .i64 d] 125)) #[.int .i64 m,.int .i64 c] 125
  simpa using h
theorem r03may_yes (n m:Int) (d c:Nat) (w:World) (hn:in64 n) (h1:1≤d) (h2:d≤9223372036854775807) (hg:Nat.gcd n.natAbs d=1) (hm:in64 m) (h3:1≤c) (h4:c≤9223372036854775807) (hg2:Nat.gcd m.natAbs c=1):Calls Tryz.prog 186 #[ratV n d,ratV m c] w fun e w'=>e=.returned (.int .i64 0)∧Below w.heap.size w w':=by
  have HC1:=hide (fun W=>r03check_yes n d W hn h1 h2 hg)
  have HC2:=hide (fun W=>r03check_yes m c W hm h3 h4 hg2)
  have H0:=hide (two_boxes n m d c w).2
  clear hg hg2 hn hm
  simp only [ratV] at HC1 HC2 ⊢
  go_enter Tryz.func186,Tryz.ntmps186
  go_wp2_with fail
  refine (HC1.out _).mono ?_
  rintro e w1 ⟨rfl,hb1⟩
  obtain ⟨⟨c0,c1⟩,_,_,hz⟩:=rat_blk (H0.out.call hb1)
  have HB1:=hide (show Below w.heap.size w w1 from (ww hb1).out)
  clear hb1
  go_wp2_with fail
  refine (HC2.out _).mono ?_
  rintro e w2 ⟨rfl,hb2⟩
  have HB2:=hide (show Below w.heap.size w w2 from HB1.out.trans (hb2.mono HB1.out.size))
  clear hb2
  go_wp2
  go_ret
  exact ⟨rfl,HB2.out⟩
theorem r03make_yes (x n:Nat) (w:World) (h1:1≤n) (h2:n≤9223372036854775807) (hx:x≤9223372036854775807):Calls Tryz.prog 116 #[.int .i64 x,.int .i64 n] w fun e w'=>e=.returned (.tuple #[ratV ((x / Nat.gcd x n:Nat):Int) ((n / Nat.gcd x n:Nat):Int),.int .i64 0])∧Below w.heap.size w w':=by
  have hg0:0<Nat.gcd x n:=Nat.gcd_pos_of_pos_right _ (by omega)
  have HC:=hide (fun W=>r03common_any x n W (by omega) (by omega))
  have HSX:=hide (fun W=>show Calls Tryz.prog 185 #[.int .i64 (x:Int)] W fun e w'=>e=.returned (.int .u64 (x:Int))∧Below W.heap.size W w' from r01size_any x W (by unfold in64;omega))
  have HSN:=hide (fun W=>show Calls Tryz.prog 185 #[.int .i64 (n:Int)] W fun e w'=>e=.returned (.int .u64 (n:Int))∧Below W.heap.size W w' from r01size_any n W (by unfold in64;omega))
  have hX:x / Nat.gcd x n≤9223372036854775807:=Nat.le_trans (Nat.div_le_self _ _) hx
  have hN:n / Nat.gcd x n≤9223372036854775807:=Nat.le_trans (Nat.div_le_self _ _) h2
  have hxd:=nat_tdiv x (Nat.gcd x n)
  have hnd:=nat_tdiv n (Nat.gcd x n)
  generalize Nat.gcd x n=g at *
  generalize x / g=X at *
  generalize n / g=D at *
  have hg1:¬ (g:Int)=0:=by omega
  have hg2:¬ g=0:=by omega
  have hn0:¬ (n:Int)=0:=by omega
  have hwX:=m64_wrap X (by omega)
  have hwD:=m64_wrap D (by omega)
  have hx0:decide ((x:Int)<0)=false:=by simp
  have hx00:¬ (x:Int)<0:=by omega
  have hn00:decide ((n:Int)<0)=false:=by simp
  have hn01:¬ (n:Int)<0:=by omega
  have K0:=hide (BlkIs.new w #[.int .i64 0,.int .i64 0] 125)
  simp only [ratV]
  go_enter Tryz.func116,Tryz.ntmps116
  go_wp2_with fail
  refine (HSX.out _).mono ?_
  rintro e w1 ⟨rfl,hb1⟩
  have K1:=hide (K0.out.call hb1)
  have HB1:=hide (show Below w.heap.size w w1 from (ww hb1).out)
  clear hb1
  go_wp2_with fail
  refine (HSN.out _).mono ?_
  rintro e w2 ⟨rfl,hb2⟩
  have K2:=hide (K1.out.call hb2)
  have HB2:=hide (show Below w.heap.size w w2 from HB1.out.trans (hb2.mono HB1.out.size))
  clear hb2
  go_wp2_with fail
  refine (HC.out _).mono ?_
  rintro e w3 ⟨rfl,hb3⟩
  have K3:=hide (K2.out.call hb3)
  have HB3:=hide (show Below w.heap.size w w3 from HB2.out.trans (hb3.mono HB2.out.size))
  clear hb3
  go_wp2_with fail
  refine (HSX.out _).mono ?_
  rintro e w4 ⟨rfl,hb4⟩
  have K4:=hide (K3.out.call hb4)
  have HB4:=hide (show Below w.heap.size w w4 from HB3.out.trans (hb4.mono HB3.out.size))
  clear hb4
  go_wp2_with fail
  refine (HSN.out _).mono ?_
  rintro e w5 ⟨rfl,hb5⟩
  obtain ⟨⟨r0,r1⟩,f0,f1,hsz⟩:=rat_blk (K4.out.call hb5)
  have HB5:=hide (show Below w.heap.size w w5 from HB4.out.trans (hb5.mono HB4.out.size))
  clear hb5
  have hBel:=HB5.out
  have hle:=hBel.size
  go_wp2
  all_goals first
    | (exfalso;omega)
    | exact bodyPost_ret (v:=.tuple #[.agg #[.int .i64 (X:Int),.int .i64 (D:Int)],.int .i64 0]) (by simp (maxDischargeDepth:=9) [results,Tryz.results116,go_sem,r0,r1,f0,f1,hsz]) rfl ⟨rfl,by (repeat' exact bel)⟩
end Go.Proofs.YtjhhmeoibfdcmaaGreat
