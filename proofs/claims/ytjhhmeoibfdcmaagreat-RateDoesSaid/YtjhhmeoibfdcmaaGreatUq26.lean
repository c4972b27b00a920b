/- The reference of layer 4: weights together; numbers together, as a Wide. The reference of layer 4: an amount cut. Contracts of the references: which calendars may be; quarters (layers 11, 15). Contracts of the references: which calendars may be, second part: years of weeks by a rule. -/
import Derived.Test.YtjhhmeoibfdcmaaGreatUq04
import Derived.Test.YtjhhmeoibfdcmaaGreatUq05
import Derived.Test.YtjhhmeoibfdcmaaGreatUq11
import Derived.Test.YtjhhmeoibfdcmaaGreatUq17
import Derived.Test.YtjhhmeoibfdcmaaGreatUq18
import Derived.Test.YtjhhmeoibfdcmaaGreatUq21
import Derived.Test.YtjhhmeoibfdcmaaGreatUq25
set_option linter.unusedSimpArgs false
set_option linter.unusedVariables false
set_option maxRecDepth 100000
set_option maxHeartbeats 12800000
namespace Go.Proofs.YtjhhmeoibfdcmaaGreat
open Go.RowKit Qd
theorem r04all_yes (v:Value) (ws:List Int) (w:World) (hv:Nums w v ws) (hl:∀ x∈ws,0≤x) (hn:ws.length≤4096) (h64:∀ x∈ws,in64 x) (hs:in64 ws.sum) (h0:0<ws.sum) :
    Calls Tryz.prog 109 #[v] w fun e w'=>e=.returned (.tuple #[.int .i64 ws.sum,.int .i64 0])∧Below w.heap.size w w':=by
  have HV:=hide hv
  have HL:=hide hl
  obtain ⟨S,hS⟩:∃ S,ws.sum=S:=⟨_,rfl⟩
  have HSM:=hide (fun W (h:Nums W v ws)=>r02sum_any v ws W h h64 (by omega))
  rw [(fit_yes hs).1,(fit_yes hs).2,hS] at HSM
  rw [hS] at h0 ⊢
  obtain ⟨ad,cap,rfl,hc⟩:=hv
  clear hc hl h64 hs hS
  go_enter Tryz.func109,Tryz.ntmps109
  have hS0:(S==0)=false:=by simp;omega
  go_wp2_with fail
  all_goals first
    | (exfalso;omega)
    | skip
  go_loopw [13] (fun s wr=>∃ j:Nat,s=.int .i64 j∧j≤ws.length∧Below w.heap.size w wr) (fun s _=>(5000-intOf s).toNat)
  case atStart=>exact ⟨0,rfl,Nat.zero_le _,Below.refl _ _⟩
  case round =>
    obtain ⟨j,rfl,hj,hBel⟩:=hrel
    have hV:=HV.out.call hBel
    by_cases hlt:j<ws.length
    · obtain ⟨x,hx⟩:∃ x,ws[j]?=some x:=⟨_,List.getElem?_eq_getElem hlt⟩
      have hx0:=HL.out x (List.mem_of_getElem? hx)
      obtain ⟨ad',cap',e,hc⟩:=hV
      cases e
      obtain ⟨g,o,rfl,hg,a0⟩:=hc j x hx
      have hi1:(0:Int)≤(j:Int):=by omega
      have hi3:(j:Int)<(ws.length:Int):=by omega
      clear hc hx
      go_wp2
      all_goals first
        | (exfalso;omega)
        | skip
      go_roundw
      case rel=>exact ⟨j+1,by go_num,by omega,by (repeat' exact bel)⟩
      case measure=>simp [intOf];omega
    · have HVr:=hide hV
      clear hV
      go_wp2_with fail
      refine (HSM.out _ HVr.out).mono ?_
      rintro e w1 ⟨rfl,hb1⟩
      have HB1:Hid (Below w.heap.size w w1):=by have hs:=hBel.size;exact ww hb1
      clear hb1
      go_wp2
      go_ret2
      exact ⟨rfl,HB1.out⟩
theorem r04sums_any (v:Value) (l:List Int) (w:World) (hv:Nums w v l) (hl:∀ x∈l,in64 x) (hn:l.length≤1000000):Calls Tryz.prog 112 #[v] w fun e w'=>e=.returned (wideV l.sum)∧Below w.heap.size w w':=by
  have HR0:=hide (show BlkIs ((w.alloc wideZ).alloc wideZ) w.heap.size #[.int .i64 0,.int .u64 0] 103 from (wide_new w).alloc _)
  have H0:=hide (show SmSt ([]:List Int).sum (w.heap.size+1) (w.alloc wideZ) ((w.alloc wideZ).alloc wideZ) from ⟨by simpa [wideCs] using wide_new (w.alloc wideZ),by simp,(Below.refl _ _).alloc (by simp) _⟩)
  obtain ⟨ad,cap,rfl,hc⟩:=hv
  have HC:=hide hc
  have HL:=hide hl
  clear hc hl
  go_enter Tryz.func112,Tryz.ntmps112
  go_wp2_with fail
  go_loopw [8] (fun s wr=>∃ j:Nat,s=.int .i64 j∧j≤l.length∧SmSt (l.take j).sum (w.heap.size+1) (w.alloc wideZ) wr∧BlkIs wr w.heap.size #[.int .i64 0,.int .u64 0] 103∧Below w.heap.size w wr) (fun s _=>(l.length+5-intOf s).toNat)
  case atStart=>exact ⟨0,rfl,Nat.zero_le _,by simpa using H0.out,HR0.out,by (repeat' exact bel)⟩
  case round =>
    obtain ⟨j,rfl,hj,hS,hR,hBel⟩:=hrel
    have HS:=hide hS
    have HR:=hide hR
    have HBr:=hide hBel
    clear hS hR
    have hB2:=HS.out.2.1
    by_cases hlt:j<l.length
    · obtain ⟨x,hx⟩:∃ x,l[j]?=some x:=⟨_,List.getElem?_eq_getElem hlt⟩
      obtain ⟨g,o,rfl,hg,a0⟩:=HC.out j x hx
      have hx64:=HL.out x (List.mem_of_getElem? hx)
      have HTK:=hide (show (l.take (j+1)).sum=(l.take j).sum+x by rw [List.take_add_one,hx];simp)
      have hw1:=sum_wd (l:=l.take j) (fun y hy=>HL.out y (List.mem_of_mem_take hy)) (by rw [List.length_take];omega)
      have hw2:=sum_wd (l:=l.take (j+1)) (fun y hy=>HL.out y (List.mem_of_mem_take hy)) (by rw [List.length_take];omega)
      rw [HTK.out] at hw2
      have ha:wr.cell? ⟨g,o+j,none⟩=some (.int .i64 x):=by
        rw [hBel.cell (p:=⟨g,o+j,none⟩) hg];exact a0
      obtain ⟨S,hSS⟩:∃ S,(l.take j).sum=S:=⟨_,rfl⟩
      rw [hSS] at hw1 hw2 HTK HS
      have hi1:(0:Int)≤(j:Int):=by omega
      have hi3:(j:Int)<(l.length:Int):=by omega
      have HOF:=hide (fun w=>r02of64_any x w hx64)
      have HAD:=hide (fun w=>r02add_ok S x w hw1 (in_wd hx64) hw2)
      simp only [wideV] at HOF HAD
      obtain ⟨⟨b0,b1⟩,f0,f1⟩:=HS.out.cells
      clear hx hx64 hw1 hw2 hSS a0
      go_wp2_with fail
      go_region_with (first
        | (go_at_call 124;(with_reducible refine (HOF.out _).mono ?_);rintro e w1 ⟨rfl,hb1⟩;have HD1:=hide (show Below wr.heap.size wr w1 from (ww hb1).out);have HS1:=hide (HS.out.call HD1.out);obtain ⟨⟨c0,c1⟩,g0,g1⟩:=HS1.out.cells;have hB1:=HS1.out.2.1;clear hb1)
        | (go_at_call 123;(with_reducible refine (HAD.out w1).mono ?_);rintro e w2 ⟨rfl,hb2⟩;have HS2:=hide (HS1.out.call hb2);have HD2:=hide (HD1.out.trans (hb2.mono HD1.out.size));obtain ⟨⟨y0,y1⟩,y2,y3⟩:=HS2.out.cells;have hB3:=HS2.out.2.1;clear hb2))
      all_goals
        go_simp
        go_wp2
        go_roundw
        case rel =>
          have hR2:=HR.out.call HD2.out
          have hb2:=HBr.out.trans (HD2.out.mono HBr.out.size)
          exact ⟨j+1,by go_num,by omega,by rw [HTK.out];exact HS2.out.set,blk_off (blk_off hR2 (by simp) _) (by simp) _,(hb2.setCell (by simp) _).setCell (by simp) _⟩
        case measure=>simp [intOf];omega
    · have hjl:j=l.length:=by omega
      have HSL:=hide (show SmSt l.sum (w.heap.size+1) (w.alloc wideZ) wr by have h:=HS.out;rwa [List.take_of_length_le (by omega)] at h)
      obtain ⟨⟨b0,b1⟩,f0,f1⟩:=HSL.out.cells
      obtain ⟨⟨r0,r1⟩,k0,k1,hz⟩:=blk_two HR.out
      obtain ⟨hi,hhi⟩:∃ x,l.sum / 18446744073709551616=x:=⟨_,rfl⟩
      obtain ⟨lo,hlo⟩:∃ x,l.sum % 18446744073709551616=x:=⟨_,rfl⟩
      have HF:=hide (show wideV l.sum=.agg #[.int .i64 hi,.int .u64 lo] by rw [wideV,hhi,hlo])
      rw [hhi] at b0
      rw [hlo] at b1
      clear hhi hlo hjl
      go_wp2
      all_goals first
        | (exfalso;omega)
        | (refine bodyPost_ret (v:=.agg #[.int .i64 hi,.int .u64 lo]) (by simp (maxDischargeDepth:=9) [results,Tryz.results112,go_sem,r0,r1,k0,k1,hz]) rfl ⟨by rw [HF.out],by (repeat' exact bel)⟩)
end Go.Proofs.YtjhhmeoibfdcmaaGreat
namespace Go.Proofs.YtjhhmeoibfdcmaaGreat
open Go.RowKit Qd
abbrev OwnI (w:World) (b:Nat) (v:Value) (l:List Int):Prop:=w.ownsRow b 2 1 v l.length (intsC l)
def Apart (v u:Value):Prop:=∀ k,v.ownBlock=some k→u.ownBlock≠some k
theorem Apart.symm {v u:Value} (h:Apart v u):Apart u v:=fun k h1 h2=>h k h2 h1
theorem ownI_call {w w':World} {b:Nat} {v:Value} {l:List Int} (h:OwnI w b v l) (hb:Below w.heap.size w w'):OwnI w' b v l:=by
  refine ⟨h.1,?_⟩
  rcases h.2 with h1 | ⟨g',cap',cur,he,h2,hg',h3⟩
  · exact .inl h1
  · exact .inr ⟨g',cap',cur,he,h2,(hb.block g' (Array.getElem?_eq_some_iff.1 hg').1).trans hg',h3⟩
theorem ownI_base {w:World} {b b':Nat} {v:Value} {l:List Int} (h:OwnI w b v l) (hb:b'≤b):OwnI w b' v l:=by
  refine ⟨h.1,?_⟩
  rcases h.2 with h1 | ⟨g',cap',cur,he,h2,h3⟩
  · exact .inl h1
  · exact .inr ⟨g',cap',cur,he,Nat.le_trans hb h2,h3⟩
def TwoI (b:Nat) (w0:World) (v u:Value) (l m:List Int) (w:World):Prop:=OwnI w b v l∧OwnI w b u m∧Apart v u∧Below b w0 w∧b≤w.heap.size
theorem TwoI.call {b:Nat} {w0:World} {v u:Value} {l m:List Int} {w w':World} (h:TwoI b w0 v u l m w) (hb:Below w.heap.size w w'):TwoI b w0 v u l m w':=
  ⟨ownI_call h.1 hb,ownI_call h.2.1 hb,h.2.2.1,h.2.2.2.1.trans (hb.mono h.2.2.2.2),Nat.le_trans h.2.2.2.2 hb.size⟩
theorem TwoI.swap {b:Nat} {w0:World} {v u:Value} {l m:List Int} {w:World} (h:TwoI b w0 v u l m w):TwoI b w0 u v m l w:=⟨h.2.1,h.1,h.2.2.1.symm,h.2.2.2⟩
theorem TwoI.app {b:Nat} {w0:World} {v v' u:Value} {l l' m:List Int} {w w':World} (h:TwoI b w0 v u l m w) (ho:OwnI w' b v' l') (hg:w.grownBy w' v.ownBlock) (hat:v'.ownBlock=v.ownBlock∨v'.ownBlock=some w.heap.size):TwoI b w0 v' u l' m w':=by
  refine ⟨ho,h.2.1.kept hg ?_,?_,h.2.2.2.1.trans ((Below.refl b w).grown hg h.2.2.2.2 fun k hk=>(h.1.lt k hk).1),Nat.le_trans h.2.2.2.2 hg.size⟩
  · cases hv:v.ownBlock with
    | none =>
      cases hu:u.ownBlock with
      | none=>exact .inl rfl
      | some k=>right;simp
    | some k =>
      right
      exact h.2.2.1 k hv
  · intro k hk
    rcases hat with e | e
    · exact h.2.2.1 k (by rw [← e];exact hk)
    · rw [e] at hk
      intro hu
      have:=(h.2.1.lt k hu).2
      cases hk
      omega
theorem intsC_set (l:List Int) (i:Nat) (y:Int):(intsC l).set i (.int .i64 y)=intsC (l.set i y):=by simp [intsC,List.map_set]
theorem ownI_set {w:World} {b g n cap:Nat} {l:List Int} (h:OwnI w b (.slice (some ⟨g,0,none⟩) n cap) l) (hn:n=l.length) (i:Nat) (y:Int) :
    OwnI (w.setCell ⟨g,i,none⟩ (.int .i64 y)) b (.slice (some ⟨g,0,none⟩) n cap) (l.set i y):=by
  subst hn
  have:=(World.ownsRow.stored h i (.int .i64 y)).1
  unfold OwnI
  rw [← intsC_set,List.length_set]
  exact this
theorem TwoI.set {b:Nat} {w0:World} {g n cap:Nat} {u:Value} {l m:List Int} {w:World} (h:TwoI b w0 (.slice (some ⟨g,0,none⟩) n cap) u l m w) (hn:n=l.length) (i:Nat) (y:Int) :
    TwoI b w0 (.slice (some ⟨g,0,none⟩) n cap) u (l.set i y) m (w.setCell ⟨g,i,none⟩ (.int .i64 y)):=
  ⟨ownI_set h.1 hn i y,ownsRow_setCell_other h.2.1 (h.2.2.1 g rfl) _,h.2.2.1,h.2.2.2.1.setCell (h.1.lt g rfl).1 _,by simpa using h.2.2.2.2⟩
theorem ownI_cell {w:World} {b g n cap:Nat} {l:List Int} (h:OwnI w b (.slice (some ⟨g,0,none⟩) n cap) l) (hn:n=l.length) {i:Nat} {y:Int} (hy:l[i]?=some y):w.cell? ⟨g,i,none⟩=some (.int .i64 y)∧w.frozen? ⟨g,i,none⟩=false:=by
  subst hn
  have hlt:=(List.getElem?_eq_some_iff.1 hy).1
  refine ⟨?_,World.ownsRow.frozenAt h _⟩
  rw [World.ownsRow.cellAt h i (by omega)]
  simp [intsC,hy]
theorem modify_set {l:List Int} {i:Nat} {x:Int} (h:l[i]?=some x):l.modify i (· + 1)=l.set i (x+1):=by
  refine List.ext_getElem? fun j=>?_
  rw [List.getElem?_modify,List.getElem?_set]
  have hl:=(List.getElem?_eq_some_iff.1 h).1
  by_cases hij:i=j
  · subst hij
    rw [h]
    simp [hl]
  · simp [hij]
theorem bump_next {a:Int} {ws:List Int} {S:List Pt} (ha:in64 a) (hw:∀ x∈ws,0≤x) (hn:0<ws.sum) (h:Put (ptL a ws.sum ws) S) (hS:outV a ws=outL a ws.sum ws S) {t:Nat} (ht:(t:Int)<moreV a ws.sum ws) {p:Pt} (hp:S[t]?=some p) :
    ∃ y,(bumpL (qL a ws.sum ws) (S.take t))[p.pos.toNat]?=some y∧bumpL (qL a ws.sum ws) (S.take (t+1))=(bumpL (qL a ws.sum ws) (S.take t)).set p.pos.toNat (y+1)∧in64 (y+1):=by
  have hle:∀ x∈ws,x≤ws.sum:=fun x hx=>pos_sum hw x hx
  have hmp:=(put_mem h).1 (List.mem_of_getElem? hp)
  obtain ⟨p0,p1,p2,p3⟩:=ab_bd hn hmp
  have hpl:p.pos.toNat<ws.length:=by omega
  have hq:(qL a ws.sum ws)[p.pos.toNat]?=some ((qL a ws.sum ws)[p.pos.toNat]'(by rw [qL_len];exact hpl)):=List.getElem?_eq_getElem _
  generalize hqe:(qL a ws.sum ws)[p.pos.toNat]'(by rw [qL_len];exact hpl)=q at hq
  have hqin:=qL_in ha hn (fun x hx=>⟨hw x hx,hle x hx⟩) q (List.mem_of_getElem? hq)
  have g1:=bumpL_get (qL a ws.sum ws) (S.take t) p.pos.toNat q hq
  have g2:=bumpL_get (qL a ws.sum ws) (S.take (t+1)) p.pos.toNat q hq
  have g3:=bumpL_get (qL a ws.sum ws) (S.take (moreV a ws.sum ws).toNat) p.pos.toNat q hq
  have e1:S.take (t+1)=S.take t++[p]:=by rw [List.take_add_one,hp];rfl
  have hset:bumpL (qL a ws.sum ws) (S.take (t+1))=(bumpL (qL a ws.sum ws) (S.take t)).set p.pos.toNat (q+((S.take t).countP fun r=>r.pos.toNat==p.pos.toNat)+1):=by
    rw [e1,bumpL_snoc]
    exact modify_set g1
  refine ⟨_,g1,hset,?_⟩
  have hc1:(S.take (t+1)).countP (fun r=>r.pos.toNat==p.pos.toNat)=(S.take t).countP (fun r=>r.pos.toNat==p.pos.toNat)+1:=by rw [e1,List.countP_append];simp
  have hc2:(S.take (t+1)).countP (fun r=>r.pos.toNat==p.pos.toNat)≤(S.take (moreV a ws.sum ws).toNat).countP (fun r=>r.pos.toNat==p.pos.toNat):=by
    refine List.Sublist.countP_le ?_
    rw [show S.take (t+1)=(S.take (moreV a ws.sum ws).toNat).take (t+1) by rw [List.take_take,Nat.min_eq_left (by omega)]]
    exact List.take_sublist _ _
  have hfin:in64 (q+((S.take (moreV a ws.sum ws).toNat).countP fun r=>r.pos.toNat==p.pos.toNat)):=out_in ha hw hn (i:=p.pos.toNat) (by rw [hS];exact g3)
  unfold in64 at *
  omega
end Go.Proofs.YtjhhmeoibfdcmaaGreat
namespace Go.Proofs.YtjhhmeoibfdcmaaGreat
open Go.RowKit Qd
theorem okE_cases (c:Cal):(c.Ok∧okE c=0∧c.okB=true)∨(¬ c.Ok∧okE c=1∧c.okB=false):=by
  by_cases h:c.Ok
  · exact .inl ⟨h,okE_yes h,by simpa [Cal.okB] using h⟩
  · exact .inr ⟨h,okE_no h,by simpa [Cal.okB] using h⟩
theorem rcheck_pre (c:Cal) (w:World) (hn:c.name.size≤1000) (h:¬ (c.served∧c.polic∧nameB c.name=true)) :
    Calls Tryz.prog 100 #[calV c] w fun e w'=>e=.returned (.int .i64 (okE c))∧Below w.heap.size w w':=by
  have HE:=hide (show okE c=1 from okE_no (fun hk=>h ⟨hk.1,hk.2.1,hk.2.2.1⟩))
  have hcase : nameB c.name = false ∨ (nameB c.name = true ∧ c.first < 1602) ∨ (nameB c.name = true ∧ 1602 ≤ c.first ∧ 9996 < c.last) ∨ (nameB c.name = true ∧ 1602 ≤ c.first ∧ c.last ≤ 9996 ∧ c.last < c.first) ∨ (nameB c.name = true ∧ 1602 ≤ c.first ∧ c.last ≤ 9996 ∧ c.first ≤ c.last ∧ 400 ≤ c.last - c.first) ∨
      (nameB c.name=true∧1602≤c.first∧c.last≤9996∧c.first≤c.last∧c.last-c.first<400∧c.policy<1)∨(nameB c.name=true∧1602≤c.first∧c.last≤9996∧c.first≤c.last∧c.last-c.first<400∧1≤c.policy∧4<c.policy) ∨
      (nameB c.name=true∧1602≤c.first∧c.last≤9996∧c.first≤c.last∧c.last-c.first<400∧1≤c.policy∧c.policy≤4∧(c.policy==4)=true∧(c.kind==6)=false) ∨
      (nameB c.name=true∧1602≤c.first∧c.last≤9996∧c.first≤c.last∧c.last-c.first<400∧1≤c.policy∧c.policy≤4∧(c.policy==4)=false∧(c.kind==6)=true):=by
    cases hnm:nameB c.name
    · exact .inl rfl
    · simp only [Cal.served,Cal.polic,hnm] at h
      have h1:(c.policy==4)=decide (c.policy=4):=rfl
      have h2:(c.kind==6)=decide (c.kind=6):=rfl
      rw [h1,h2]
      simp only [decide_eq_true_eq,decide_eq_false_iff_not,reduceCtorEq,false_or,true_and]
      simp only [and_true] at h
      omega
  clear h
  simp only [calV]
  rcases hcase with h | ⟨h,h1⟩ | ⟨h,h1,h2⟩ | ⟨h,h1,h2,h3⟩ | ⟨h,h1,h2,h3,h4⟩ | ⟨h,h1,h2,h3,h4,h5⟩ | ⟨h,h1,h2,h3,h4,h5,h6⟩ | ⟨h,h1,h2,h3,h4,h5,h6,h7,h8⟩ | ⟨h,h1,h2,h3,h4,h5,h6,h7,h8⟩
  all_goals
    go_enter Tryz.func100,Tryz.ntmps100
    go_wp2_with fail
    refine (rname_any _ _ hn).mono ?_
    rintro e w1 ⟨rfl,rfl⟩
    rw [h]
    go_wp2_with fail
    all_goals first
      | (exfalso;omega)
      | (go_ret;exact ⟨ret_int HE.out.symm,by (repeat' exact bel)⟩)
theorem okE_rule {c:Cal} (h:c.served∧c.polic∧nameB c.name=true):okE c=if c.ruled then 0 else 1:=by
  by_cases hr:c.ruled
  · rw [if_pos hr];exact okE_yes ⟨h.1,h.2.1,h.2.2,hr⟩
  · rw [if_neg hr];exact okE_no (fun hk=>hr hk.2.2.2)
theorem rcheck_3 (c:Cal) (w:World) (hn:c.name.size≤1000) (h:c.served∧c.polic∧nameB c.name=true) (hk:c.kind=3) :
    Calls Tryz.prog 100 #[calV c] w fun e w'=>e=.returned (.int .i64 (okE c))∧Below w.heap.size w w':=by
  have HE:=hide (okE_rule h)
  obtain ⟨⟨s1,s2,s3,s4⟩,⟨⟨p1,p2⟩,p3⟩,hnm⟩:=h
  have hp4:(c.policy==4)=false:=by simp;omega
  have hk6:(c.kind==6)=false:=by simp [hk]
  have HNM:=hide hnm
  obtain ⟨nm,k,d,m,sh,sp,a,b,p,cy,ex,fi,la,po⟩:=c
  obtain rfl:k=3:=hk
  simp only at s1 s2 s3 s4 p1 p2 hp4 hk6 hn HNM
  clear p3 hnm
  simp only [calV]
  go_enter Tryz.func100,Tryz.ntmps100
  go_wp2_with fail
  refine (rname_any _ _ hn).mono ?_
  rintro e w1 ⟨rfl,rfl⟩
  rw [HNM.out]
  go_wp2_with fail
  all_goals first
    | (exfalso;omega)
    | skip
  all_goals
    go_ret
    refine ⟨ret_int ?_,by (repeat' exact bel)⟩
    subst_vars
    rw [HE.out]
    simp only [Cal.ruled,Cal.pat0,Cal.weeks,weeksP]
    first
      | rw [if_pos (by omega)]
      | rw [if_neg (by omega)]
      | (clear HE HNM;grind)
theorem rcheck_4 (c:Cal) (w:World) (hn:c.name.size≤1000) (h:c.served∧c.polic∧nameB c.name=true) (hk:c.kind=4) :
    Calls Tryz.prog 100 #[calV c] w fun e w'=>e=.returned (.int .i64 (okE c))∧Below w.heap.size w w':=by
  have HE:=hide (okE_rule h)
  obtain ⟨⟨s1,s2,s3,s4⟩,⟨⟨p1,p2⟩,p3⟩,hnm⟩:=h
  have hp4:(c.policy==4)=false:=by simp;omega
  have hk6:(c.kind==6)=false:=by simp [hk]
  have HNM:=hide hnm
  obtain ⟨nm,k,d,m,sh,sp,a,b,p,cy,ex,fi,la,po⟩:=c
  obtain rfl:k=4:=hk
  simp only at s1 s2 s3 s4 p1 p2 hp4 hk6 hn HNM
  clear p3 hnm
  simp only [calV]
  go_enter Tryz.func100,Tryz.ntmps100
  go_wp2_with fail
  refine (rname_any _ _ hn).mono ?_
  rintro e w1 ⟨rfl,rfl⟩
  rw [HNM.out]
  go_wp2_with fail
  all_goals first
    | (exfalso;omega)
    | skip
  all_goals
    go_ret
    refine ⟨ret_int ?_,by (repeat' exact bel)⟩
    subst_vars
    rw [HE.out]
    simp only [Cal.ruled,Cal.pat0,Cal.weeks,weeksP]
    first
      | rw [if_pos (by omega)]
      | rw [if_neg (by omega)]
      | (clear HE HNM;grind)
theorem rcheck_6 (c:Cal) (w:World) (hn:c.name.size≤1000) (h:c.served∧c.polic∧nameB c.name=true) (hk:c.kind=6) :
    Calls Tryz.prog 100 #[calV c] w fun e w'=>e=.returned (.int .i64 (okE c))∧Below w.heap.size w w':=by
  have HE:=hide (okE_rule h)
  obtain ⟨⟨s1,s2,s3,s4⟩,⟨⟨p1,p2⟩,p3⟩,hnm⟩:=h
  have hp4:(c.policy==4)=true:=by simp;omega
  have hk6:(c.kind==6)=true:=by simp [hk]
  have HNM:=hide hnm
  obtain ⟨nm,k,d,m,sh,sp,a,b,p,cy,ex,fi,la,po⟩:=c
  obtain rfl:k=6:=hk
  simp only at s1 s2 s3 s4 p1 p2 hp4 hk6 hn HNM
  clear p3 hnm
  simp only [calV]
  go_enter Tryz.func100,Tryz.ntmps100
  go_wp2_with fail
  refine (rname_any _ _ hn).mono ?_
  rintro e w1 ⟨rfl,rfl⟩
  rw [HNM.out]
  go_wp2_with fail
  all_goals first
    | (exfalso;omega)
    | skip
  all_goals (try (go_quiet (fail)))
  all_goals (try go_wp2)
  all_goals
    go_ret
    refine ⟨ret_int ?_,by (repeat' exact bel)⟩
    subst_vars
    rw [HE.out]
    simp only [Cal.ruled,Cal.pat0,Cal.weeks,weeksP]
    first
      | rw [if_pos (by omega)]
      | rw [if_neg (by omega)]
      | (clear HE HNM;grind)
theorem rcheck_n (c:Cal) (w:World) (hn:c.name.size≤1000) (h:c.served∧c.polic∧nameB c.name=true) (hk:¬ (1≤c.kind∧c.kind≤6)) :
    Calls Tryz.prog 100 #[calV c] w fun e w'=>e=.returned (.int .i64 (okE c))∧Below w.heap.size w w':=by
  have HE:=hide (okE_rule h)
  obtain ⟨⟨s1,s2,s3,s4⟩,⟨⟨p1,p2⟩,p3⟩,hnm⟩:=h
  have hp4:(c.policy==4)=false:=by simp;omega
  have hk6:(c.kind==6)=false:=by simp;omega
  have hk1:(c.kind==1)=false:=by simp;omega
  have hk2:(c.kind==2)=false:=by simp;omega
  have hk3:(c.kind==3)=false:=by simp;omega
  have hk4:(c.kind==4)=false:=by simp;omega
  have hk5:(c.kind==5)=false:=by simp;omega
  have HNM:=hide hnm
  have HK:=hide hk
  have HR:=hide (show okE c=1 by rw [HE.out,if_neg (by unfold Cal.ruled;omega)])
  clear p3 hnm hk
  simp only [calV]
  go_enter Tryz.func100,Tryz.ntmps100
  go_wp2_with fail
  refine (rname_any _ _ hn).mono ?_
  rintro e w1 ⟨rfl,rfl⟩
  rw [HNM.out]
  go_wp2_with fail
  all_goals first
    | (exfalso;omega)
    | skip
  all_goals
    go_ret
    exact ⟨ret_int HR.out.symm,by (repeat' exact bel)⟩
end Go.Proofs.YtjhhmeoibfdcmaaGreat
namespace Go.Proofs.YtjhhmeoibfdcmaaGreat
open Go.RowKit Qd
theorem rmany_shaped {c:Cal} (h:calShaped c):rmanyP c=manyP c.shape c.cycle:=by
  rw [rmanyP,if_neg]
  intro h2
  unfold calShaped at h
  omega
theorem ruled_12 {c:Cal} (hk:c.kind=1∨c.kind=2):c.ruled↔(1≤c.day∧c.day≤7)∧(1≤c.month∧c.month≤12)∧(c.shift=0∨c.shift=1)∧calShaped c∧1≤c.extra∧c.extra≤manyP c.shape c.cycle:=by
  rw [← weeks_shaped]
  unfold Cal.ruled
  generalize c.weeks=P
  constructor
  · intro h
    rcases h with h | h | h | h | h
    · omega
    · omega
    · exact ⟨h.2.2.2.1,h.2.1,by have:=h.2.2.1;omega,h.2.2.2.2⟩
    · omega
    · omega
  · intro ⟨h1,h2,h3,h4⟩
    exact .inr (.inr (.inl ⟨hk,h2,by omega,h1,h4⟩))
theorem ruled_5 {c:Cal} (hk:c.kind=5):c.ruled↔c.day=7∧c.month=12∧c.shift=0∧calShaped c∧1≤c.extra∧c.extra≤manyP c.shape c.cycle:=by
  rw [← weeks_shaped]
  unfold Cal.ruled
  generalize c.weeks=P
  constructor
  · intro h
    rcases h with h | h | h | h | h
    · omega
    · omega
    · omega
    · exact h.2
    · omega
  · intro h
    exact .inr (.inr (.inr (.inl ⟨hk,h⟩)))
theorem shaped_x (nm:ByteArray) (k d m sh sp a b p cy ex fi la po:Int) (w:World) (v:Bool) (hv:decide (calShaped (Cal.mk nm k d m sh sp a b p cy ex fi la po))=v) :
    Calls Tryz.prog 162 #[.agg #[.string nm,.int .i64 k,.int .i64 d,.int .i64 m,.int .i64 sh,.int .i64 sp,.int .i64 a,.int .i64 b,.int .i64 p,.int .i64 cy,.int .i64 ex,.int .i64 fi,.int .i64 la,.int .i64 po]] w
      fun e w'=>e=.returned (.bool v)∧Below w.heap.size w w':=by subst hv;exact shaped_any ⟨nm,k,d,m,sh,sp,a,b,p,cy,ex,fi,la,po⟩ w
theorem many_x (nm:ByteArray) (k d m sh sp a b p cy ex fi la po:Int) (w:World) (v:Int) (hv:rmanyP (Cal.mk nm k d m sh sp a b p cy ex fi la po)=v) :
    Calls Tryz.prog 163 #[.agg #[.string nm,.int .i64 k,.int .i64 d,.int .i64 m,.int .i64 sh,.int .i64 sp,.int .i64 a,.int .i64 b,.int .i64 p,.int .i64 cy,.int .i64 ex,.int .i64 fi,.int .i64 la,.int .i64 po]] w
      fun e w'=>e=.returned (.int .i64 v)∧Below w.heap.size w w':=by subst hv;exact rmany_any ⟨nm,k,d,m,sh,sp,a,b,p,cy,ex,fi,la,po⟩ w
end Go.Proofs.YtjhhmeoibfdcmaaGreat
