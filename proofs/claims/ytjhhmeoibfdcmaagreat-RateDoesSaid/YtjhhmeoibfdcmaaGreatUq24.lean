/- The reference of layer 2: sums. The reference of layer 2: sums of numbers. The reference of layer 2: products. -/
import Derived.Test.YtjhhmeoibfdcmaaGreatUq23
set_option linter.unusedSimpArgs false
set_option linter.unusedVariables false
set_option maxRecDepth 100000
set_option maxHeartbeats 12800000
namespace Go.Proofs.YtjhhmeoibfdcmaaGreat
open Go.RowKit Qd
def sgI (b:Bool) (N:Nat):Int:=if b then -(N:Int) else N
def plS (a b:Bool) (A B:Nat):Bool:=if a=b then a else if A<B then b else a
def plK (a b:Bool) (A B:Nat):Nat:=if a=b then A+B else if A<B then B-A else A-B
theorem pl_val (a b:Bool) (A B:Nat):sgI (plS a b A B) (plK a b A B)=sgI a A+sgI b B:=by
  unfold plS plK sgI
  by_cases h:A<B
  · cases a <;> cases b <;> simp [h] <;> omega
  · cases a <;> cases b <;> simp [h] <;> omega
theorem r02plus_any (a b:Bool) (A B:Nat) (w:World) (hA:A<65536 ^ 8) (hB:B<65536 ^ 8) (hs:a=b→A+B<65536 ^ 8) :
    Calls Tryz.prog 174 #[numV a A,numV b B] w fun e w'=>e=.returned (.tuple #[numV (plS a b A B) (plK a b A B),.bool true])∧Below w.heap.size w w':=by
  unfold plS plK
  by_cases h:a=b
  · subst h
    have:=r02plus_same a A B w (hide hA) (hide hB)
    rw [show decide (A+B<65536 ^ 8)=true by simpa using hs rfl] at this
    rw [if_pos rfl,if_pos rfl]
    exact this
  · rw [if_neg h,if_neg h]
    by_cases hl:A<B
    · rw [if_pos hl,if_pos hl]
      exact r02plus_lt a b A B w h (hide hA) (hide hB) (hide hl)
    · rw [if_neg hl,if_neg hl]
      exact r02plus_ge a b A B w h (hide hA) (hide hB) (hide (by omega))
theorem wd_nat {n:Int} (h:wideOk n):n.natAbs<65536 ^ 8∧(n.natAbs:Int)≤170141183460469231731687303715884105728:=by unfold wideOk at h;omega
theorem blk_putFar {w:World} {B B':Nat} {cs:Array Value} {t:TypeId} {c:Bool} (h:BlkIs w B cs t) (hB:B≠B') (N:Nat):BlkIs (numPut w B' c N) B cs t:=by
  unfold BlkIs at *
  exact (Below.heap_setCell _ _ _ B hB).trans ((Below.heap_setCell _ _ _ B hB).trans ((Below.heap_setCell _ _ _ B hB).trans ((Below.heap_setCell _ _ _ B hB).trans ((Below.heap_setCell _ _ _ B hB).trans ((Below.heap_setCell _ _ _ B hB).trans ((Below.heap_setCell _ _ _ B hB).trans ((Below.heap_setCell _ _ _ B hB).trans ((Below.heap_setCell _ _ _ B hB).trans (h)))))))))
def AdE (S:Bool) (K:Nat) (B4:Nat) (w:World) (s6 s7:Value) (wx:World):Prop:=∃ B6,s6=.pointer (some ⟨B6,0,none⟩)∧s7=.bool true∧DgAt wx B6 S (dgL K)∧BlkIs wx B4 #[.int .i64 0,.int .u64 0] 103∧Below w.heap.size w wx
theorem r02add_gen (h1 l1 h2 l2 h3 l3:Int) (a b S:Bool) (A B K:Nat) (w:World)
    (HA:Hid (∀ w,Calls Tryz.prog 173 #[.agg #[.int .i64 h1,.int .u64 l1]] w fun e w'=>e=.returned (numV a A)∧Below w.heap.size w w'))
    (HB:Hid (∀ w,Calls Tryz.prog 173 #[.agg #[.int .i64 h2,.int .u64 l2]] w fun e w'=>e=.returned (numV b B)∧Below w.heap.size w w'))
    (HP:Hid (∀ w,Calls Tryz.prog 174 #[numV a A,numV b B] w fun e w'=>e=.returned (.tuple #[numV S K,.bool true])∧Below w.heap.size w w'))
    (HK:Hid (∀ w,Calls Tryz.prog 176 #[numV S K] w fun e w'=>e=.returned (.tuple #[.agg #[.int .i64 h3,.int .u64 l3],.bool true])∧Below w.heap.size w w')) :
    Calls Tryz.prog 123 #[.agg #[.int .i64 h1,.int .u64 l1],.agg #[.int .i64 h2,.int .u64 l2]] w fun e w'=>e=.returned (.tuple #[.agg #[.int .i64 h3,.int .u64 l3],.int .i64 0])∧Below w.heap.size w w':=by
  have H0:=hide (show BlkIs (((w.alloc (.cells #[.int .i64 h1,.int .u64 l1] 103)).alloc (.cells #[.int .i64 h2,.int .u64 l2] 103)).alloc wideZ) (w.heap.size+1+1) #[.int .i64 0,.int .u64 0] 103 by
    simpa using wide_new ((w.alloc (.cells #[.int .i64 h1,.int .u64 l1] 103)).alloc (.cells #[.int .i64 h2,.int .u64 l2] 103)))
  go_enter Tryz.func123,Tryz.ntmps123
  have HS0:=hide (show (((w.alloc (.cells #[.int .i64 h1,.int .u64 l1] 103)).alloc (.cells #[.int .i64 h2,.int .u64 l2] 103)).alloc (.cells #[.int .i64 0,.int .u64 0] 103)).heap.size=w.heap.size+1+1+1 by simp)
  obtain ⟨W0,hW0⟩:∃ W0,((w.alloc (.cells #[.int .i64 h1,.int .u64 l1] 103)).alloc (.cells #[.int .i64 h2,.int .u64 l2] 103)).alloc (.cells #[.int .i64 0,.int .u64 0] 103)=W0:=⟨_,rfl⟩
  have HT:=hide (show BlkIs W0 w.heap.size #[.int .i64 h1,.int .u64 l1] 103∧BlkIs W0 (w.heap.size+1) #[.int .i64 h2,.int .u64 l2] 103 by
    rw [← hW0]
    refine ⟨((BlkIs.new w _ _).alloc _).alloc _,BlkIs.alloc ?_ _⟩
    simpa using BlkIs.new (w.alloc (.cells #[.int .i64 h1,.int .u64 l1] 103)) #[.int .i64 h2,.int .u64 l2] 103)
  have HBW:=hide (show Below w.heap.size w W0 by rw [← hW0];exact bel)
  go_upto_region 1 with fail
  rw [hW0] at H0 HS0
  clear hW0
  obtain ⟨⟨p0,p1⟩,_,_,hz1⟩:=blk_two HT.out.1
  obtain ⟨⟨q0,q1⟩,_,_,hz2⟩:=blk_two HT.out.2
  have hsz:w.heap.size+1+1<W0.heap.size:=by have:=HS0.out;omega
  go_cut [6,7] (fun s6 s7 wx=>AdE S K (w.heap.size+1+1) W0 s6 s7 wx)
  case first =>
    go_region_held3 (fun w'=>(w'.cell? ⟨w.heap.size,0,none⟩=some (.int .i64 h1)∧w'.cell? ⟨w.heap.size,1,none⟩=some (.int .u64 l1))∧(w'.cell? ⟨w.heap.size+1,0,none⟩=some (.int .i64 h2)∧w'.cell? ⟨w.heap.size+1,1,none⟩=some (.int .u64 l2))) (exact ⟨(blk_two (HT.out.1.call (by (repeat' exact bel)))).1,(blk_two (HT.out.2.call (by (repeat' exact bel)))).1⟩)
      (first
      | (go_at_call 173;(with_reducible refine (HA.out W0.drew).mono ?_);rintro e w1 ⟨rfl,hb1⟩;have k7:=hide trivial;have hs1:W0.heap.size≤w1.heap.size:=hb1.size;have hb1:Below W0.heap.size W0 w1:=(ww hb1).out)
      | (go_at_call 173;(with_reducible refine (HA.out (W0.alloc (zerO false)).drew).mono ?_);rintro e w1 ⟨rfl,hb1⟩;have k7:=hide (DgAt.call (show DgAt (W0.alloc (zerO false)).drew W0.heap.size false zer8 from DgAt.zero W0 false) hb1);have hs1:W0.heap.size≤w1.heap.size:=Nat.le_of_lt k7.out.lt;have hb1:Below W0.heap.size W0 w1:=(ww hb1).out)
      | (go_at_call 173;(with_reducible refine (HB.out w1).mono ?_);rintro e w2 ⟨rfl,hb2⟩;have k7:=hide (k7.out.call hb2);have hs2:W0.heap.size≤w2.heap.size:=Nat.le_trans hs1 hb2.size;have hb2:Below W0.heap.size W0 w2:=(ww hb2).out)
      | (go_at_call 173;(with_reducible refine (HB.out w1).mono ?_);rintro e w2 ⟨rfl,hb2⟩;have hs2:W0.heap.size≤w2.heap.size:=Nat.le_trans hs1 hb2.size;have hb2:Below W0.heap.size W0 w2:=(ww hb2).out)
      | (go_at_call 173;(with_reducible refine (HB.out (w1.alloc (zerO false))).mono ?_);rintro e w2 ⟨rfl,hb2⟩;have k7:=hide (DgAt.call (DgAt.zero w1 false) hb2);have hs2:W0.heap.size≤w2.heap.size:=Nat.le_trans hs1 (Nat.le_of_lt k7.out.lt);have hb2:Below W0.heap.size W0 w2:=(ww hb2).out)
      | (go_at_call 174;(with_reducible refine (HP.out w2).mono ?_);rintro e w3 ⟨rfl,hb3⟩;have k7:=hide (k7.out.call hb3);obtain ⟨⟨r0,r1,r2,r3,r4,r5,r6,r7,r8⟩,⟨f0,f1,f2,f3,f4,f5,f6,f7,f8⟩,hz⟩:=DgAt.nine k7.out;have hs3:W0.heap.size≤w3.heap.size:=Nat.le_trans hs2 hb3.size;have hb3:Below W0.heap.size W0 w3:=(ww hb3).out)
      | (go_at_call 174;(with_reducible refine (HP.out w2).mono ?_);rintro e w3 ⟨rfl,hb3⟩;obtain ⟨⟨r0,r1,r2,r3,r4,r5,r6,r7,r8⟩,⟨f0,f1,f2,f3,f4,f5,f6,f7,f8⟩,hz⟩:=DgAt.nine (show DgAt (w3.alloc (.cells #[.bool false,.int .u64 0,.int .u64 0,.int .u64 0,.int .u64 0,.int .u64 0,.int .u64 0,.int .u64 0,.int .u64 0] 212)) w3.heap.size false zer8 from DgAt.zero w3 false);have hs3:W0.heap.size≤w3.heap.size:=Nat.le_trans hs2 hb3.size;have hb3:Below W0.heap.size W0 w3:=(ww hb3).out)
      | (go_at_call 174;(with_reducible refine (HP.out (w2.alloc (zerO false))).mono ?_);rintro e w3 ⟨rfl,hb3⟩;have k7:=hide (DgAt.call (DgAt.zero w2 false) hb3);obtain ⟨⟨r0,r1,r2,r3,r4,r5,r6,r7,r8⟩,⟨f0,f1,f2,f3,f4,f5,f6,f7,f8⟩,hz⟩:=DgAt.nine k7.out;have hs3:W0.heap.size≤w3.heap.size:=Nat.le_trans hs2 (Nat.le_of_lt k7.out.lt);have hb3:Below W0.heap.size W0 w3:=(ww hb3).out))
    all_goals
      go_wp2_with fail
      go_meet
      first
        | exact ⟨_,rfl,rfl,k7.out.put K,blk_putFar (H0.out.call hb3) (by omega) K,below_numPut hb3 (by omega) S K⟩
        | exact ⟨_,rfl,rfl,DgAt.numO w3 S K,(H0.out.call hb3).alloc _,hb3.alloc hs3 _⟩
  case rest =>
    obtain ⟨B6,rfl,rfl,hD,hR,hb⟩:=hcut
    have hz6:=hD.lt
    obtain ⟨⟨a0,a1,a2,a3,a4,a5,a6,a7,a8⟩,_⟩:=DgAt.nine hD
    have HR:=hide hR
    have HB1:=hide (HBW.out.trans (hb.mono HBW.out.size))
    have hle:=HB1.out.size
    clear hD hR hb
    go_wp2_with fail
    refine (HK.out _).mono ?_
    rintro e w4 ⟨rfl,hb4⟩
    have HR4:=hide (HR.out.call hb4)
    have HB4:Hid (Below w.heap.size w w4):=by have hp:=HB1.out;exact ww hb4
    have hBel:=HB4.out
    have hle4:=hBel.size
    clear hb4 a0 a1 a2 a3 a4 a5 a6 a7 a8
    obtain ⟨⟨r0,r1⟩,f0,f1,hz⟩:=blk_two HR4.out
    go_wp2
    refine bodyPost_ret (v:=.tuple #[.agg #[.int .i64 h3,.int .u64 l3],.int .i64 0]) (by simp (maxDischargeDepth:=9) [results,Tryz.results123,go_sem,r0,r1,f0,f1,hz]) rfl ⟨rfl,by (repeat' exact bel)⟩
theorem r02add_ok (M N:Int) (w:World) (hM:wideOk M) (hN:wideOk N) (hS:wideOk (M+N)):Calls Tryz.prog 123 #[wideV M,wideV N] w fun e w'=>e=.returned (.tuple #[wideV (M+N),.int .i64 0])∧Below w.heap.size w w':=by
  obtain ⟨a1,a2⟩:=wd_nat hM
  obtain ⟨b1,b2⟩:=wd_nat hN
  refine r02add_gen _ _ _ _ _ _ (decide (M<0)) (decide (N<0)) (plS (decide (M<0)) (decide (N<0)) M.natAbs N.natAbs) M.natAbs N.natAbs (plK (decide (M<0)) (decide (N<0)) M.natAbs N.natAbs) w (hide (fun w=>r02of_any M w hM)) (hide (fun w=>r02of_any N w hN)) (hide (fun w=>r02plus_any _ _ _ _ w a1 b1 ?_)) (hide (fun w=>r02back_ok _ _ (M+N) w ?_ hS))
  · intro h
    unfold wideOk at hS
    by_cases h0:M<0
    · have:N<0:=by simpa [h0] using h
      have e:((M.natAbs+N.natAbs:Nat):Int)=-(M+N):=by omega
      omega
    · have:¬ N<0:=by simpa [h0] using h
      have e:((M.natAbs+N.natAbs:Nat):Int)=M+N:=by omega
      omega
  · have h:=pl_val (decide (M<0)) (decide (N<0)) M.natAbs N.natAbs
    unfold sgI at h
    rw [h,← abs_val M,← abs_val N]
end Go.Proofs.YtjhhmeoibfdcmaaGreat
namespace Go.Proofs.YtjhhmeoibfdcmaaGreat
open Go.RowKit Qd
theorem r02sum_any (v:Value) (l:List Int) (w:World) (hv:Nums w v l) (hl:∀ x∈l,in64 x) (hn:l.length≤1000000):Calls Tryz.prog 72 #[v] w fun e w'=>e=.returned (.tuple #[.int .i64 (fitV l.sum),.int .i64 (fitE l.sum)])∧Below w.heap.size w w':=by
  obtain ⟨ad,cap,rfl,hc⟩:=hv
  have HC:=hide hc
  have HL:=hide hl
  clear hc hl
  go_enter Tryz.func72,Tryz.ntmps72
  go_wp2_with fail
  have H0:=hide (show SmSt ([]:List Int).sum w.heap.size w (w.alloc (.cells #[.int .i64 0,.int .u64 0] 103)) from ⟨by simpa [wideCs] using BlkIs.new w #[.int .i64 0,.int .u64 0] 103,by simp,by (repeat' exact bel)⟩)
  go_loopw [10] (fun s wr=>∃ j:Nat,s=.int .i64 j∧j≤l.length∧SmSt (l.take j).sum w.heap.size w wr) (fun s _=>(l.length+5-intOf s).toNat)
  case atStart=>exact ⟨0,rfl,Nat.zero_le _,by simpa using H0.out⟩
  case round =>
    obtain ⟨j,rfl,hj,hS⟩:=hrel
    have HS:=hide hS
    clear hS
    have hB2:=HS.out.2.1
    by_cases hlt:j<l.length
    · obtain ⟨x,hx⟩:∃ x,l[j]?=some x:=⟨_,List.getElem?_eq_getElem hlt⟩
      obtain ⟨g,o,rfl,hg,a0⟩:=HC.out j x hx
      have hx64:=HL.out x (List.mem_of_getElem? hx)
      have HTK:=hide (show (l.take (j+1)).sum=(l.take j).sum+x by rw [List.take_add_one,hx];simp)
      have hw1:=sum_wd (l:=l.take j) (fun y hy=>HL.out y (List.mem_of_mem_take hy)) (by rw [List.length_take];omega)
      have hw2:=sum_wd (l:=l.take (j+1)) (fun y hy=>HL.out y (List.mem_of_mem_take hy)) (by rw [List.length_take];omega)
      rw [HTK.out] at hw2
      have ha:wr.cell? ⟨g,o+j,none⟩=some (.int .i64 x):=by
        rw [HS.out.2.2.cell (p:=⟨g,o+j,none⟩) hg];exact a0
      obtain ⟨S,hSS⟩:∃ S,(l.take j).sum=S:=⟨_,rfl⟩
      rw [hSS] at hw1 hw2 HTK HS
      have hi1:(0:Int)≤(j:Int):=by omega
      have hi3:(j:Int)<(l.length:Int):=by omega
      have HOF:=hide (fun w=>r02of64_any x w hx64)
      have HAD:=hide (fun w=>r02add_ok S x w hw1 (in_wd hx64) hw2)
      simp only [wideV] at HOF HAD
      obtain ⟨⟨b0,b1⟩,f0,f1⟩:=HS.out.cells
      clear hx hx64 hw1 hw2 hSS a0
      go_wp2_with fail
      go_region_with (first
        | (go_at_call 124;(with_reducible refine (HOF.out _).mono ?_);rintro e w1 ⟨rfl,hb1⟩;have HS1:=hide (HS.out.call (show Below wr.heap.size wr w1 from (ww hb1).out));obtain ⟨⟨c0,c1⟩,g0,g1⟩:=HS1.out.cells;have hB1:=HS1.out.2.1;clear hb1)
        | (go_at_call 123;(with_reducible refine (HAD.out w1).mono ?_);rintro e w2 ⟨rfl,hb2⟩;have HS2:=hide (HS1.out.call hb2);obtain ⟨⟨y0,y1⟩,y2,y3⟩:=HS2.out.cells;have hB3:=HS2.out.2.1;clear hb2))
      all_goals
        go_simp
        go_wp2
        go_roundw
        case rel=>exact ⟨j+1,by go_num,by omega,by rw [HTK.out];exact HS2.out.set⟩
        case measure=>simp [intOf];omega
    · have hjl:j=l.length:=by omega
      have HSL:=hide (show SmSt l.sum w.heap.size w wr by have h:=HS.out;rwa [List.take_of_length_le (by omega)] at h)
      have hFI:=hide (fun w=>r02fit_any l.sum w (sum_wd HL.out (by omega)))
      simp only [wideV] at hFI
      obtain ⟨⟨b0,b1⟩,f0,f1⟩:=HSL.out.cells
      go_wp2_with fail
      refine (hFI.out _).mono ?_
      rintro e w1 ⟨rfl,hb1⟩
      have HB1:Hid (Below w.heap.size w w1):=by have hp:=HSL.out.2.2;exact ww hb1
      clear hb1
      go_wp2
      go_ret2
      exact ⟨rfl,HB1.out⟩
end Go.Proofs.YtjhhmeoibfdcmaaGreat
namespace Go.Proofs.YtjhhmeoibfdcmaaGreat
open Go.RowKit Qd
structure MlSt (R Bx By Bo:Nat) (sx sy so:Bool) (X Y:Nat) (D:List Int) (w0 w:World):Prop where
  x:DgAt w Bx sx (dgL X)
  y:DgAt w By sy (dgL Y)
  o:DgAt w Bo so D
  r:BlkIs w R #[.int .i64 0,.int .u64 0] 103
  nx:Bx≠Bo
  ny:By≠Bo
  nr:R≠Bo
  hR:w0.heap.size≤R
  hB:w0.heap.size≤Bo
  b:Below w0.heap.size w0 w
theorem MlSt.call {R Bx By Bo:Nat} {sx sy so:Bool} {X Y:Nat} {D:List Int} {w0 w w':World} (h:MlSt R Bx By Bo sx sy so X Y D w0 w) (hb:Below w.heap.size w w'):MlSt R Bx By Bo sx sy so X Y D w0 w':=
  ⟨h.x.call hb,h.y.call hb,h.o.call hb,h.r.call hb,h.nx,h.ny,h.nr,h.hR,h.hB,h.b.trans (hb.mono h.b.size)⟩
theorem MlSt.drew {R Bx By Bo:Nat} {sx sy so:Bool} {X Y:Nat} {D:List Int} {w0 w:World} {n:Nat} (h:MlSt R Bx By Bo sx sy so X Y D w0 w):MlSt R Bx By Bo sx sy so X Y D w0 (w.drewN n):=h.call (below_drewN (Below.refl _ _) n)
theorem blk_off {w:World} {B:Nat} {cs:Array Value} {t:TypeId} (h:BlkIs w B cs t) {p:Addr} (hp:B≠p.block) (u:Value):BlkIs (w.setCell p u) B cs t:=(Below.heap_setCell w p u B hp).trans h
theorem MlSt.set {R Bx By Bo:Nat} {sx sy so:Bool} {X Y:Nat} {D:List Int} {w0 w:World} (h:MlSt R Bx By Bo sx sy so X Y D w0 w) (k:Nat) (v:Int):MlSt R Bx By Bo sx sy so X Y (D.set k v) w0 (w.setCell ⟨Bo,1+k,none⟩ (.int .u64 v)):=
  ⟨h.x.far h.nx _,h.y.far h.ny _,h.o.set k v,blk_off h.r h.nr _,h.nx,h.ny,h.nr,h.hR,h.hB,h.b.setCell h.hB _⟩
theorem ml_cast1 {a b c d e:Nat} (h:(a+(b+c*d)) % 65536=e):((a:Int)+((b:Int)+(c:Int)*(d:Int))) % 65536=(e:Int):=by
  rw [← Int.natCast_mul];omega
theorem ml_cast2 {a b c d e:Nat} (h:(a+(b+c*d)) / 65536=e):((a:Int)+((b:Int)+(c:Int)*(d:Int))) / 65536=(e:Int):=by
  rw [← Int.natCast_mul];omega
theorem r02mul_gen (a b hi lo:Int) (sa sb:Bool) (X Y:Nat) (w:World) (ha:decide (a<0)=sa) (hb:decide (b<0)=sb) (hX:Hid (X<65536 ^ 4)) (hY:Hid (Y<65536 ^ 4))
    (HSA:Hid (∀ w,Calls Tryz.prog 185 #[.int .i64 a] w fun e w'=>e=.returned (.int .u64 (X:Int))∧Below w.heap.size w w'))
    (HSB:Hid (∀ w,Calls Tryz.prog 185 #[.int .i64 b] w fun e w'=>e=.returned (.int .u64 (Y:Int))∧Below w.heap.size w w'))
    (HPA:Hid (∀ w,Calls Tryz.prog 175 #[.bool sa,.int .u64 0,.int .u64 (X:Int)] w fun e w'=>e=.returned (numV sa X)∧Below w.heap.size w w'))
    (HPB:Hid (∀ w,Calls Tryz.prog 175 #[.bool sb,.int .u64 0,.int .u64 (Y:Int)] w fun e w'=>e=.returned (numV sb Y)∧Below w.heap.size w w'))
    (HK:Hid (∀ w,Calls Tryz.prog 176 #[numV (!(sa==sb)) (X*Y)] w fun e w'=>e=.returned (.tuple #[.agg #[.int .i64 hi,.int .u64 lo],.bool true])∧Below w.heap.size w w')) :
    Calls Tryz.prog 172 #[.int .i64 a,.int .i64 b] w fun e w'=>e=.returned (.agg #[.int .i64 hi,.int .u64 lo])∧Below w.heap.size w w':=by
  have HZ:=hide (wide_new w)
  go_enter Tryz.func172,Tryz.ntmps172
  go_wp2_with fail
  refine (HSA.out _).mono ?_
  rintro e w1 ⟨rfl,hb1⟩
  have HZ1:=hide (HZ.out.call hb1)
  have HB1:Hid (Below w.heap.size w w1):=ww hb1
  clear hb1
  go_wp2_with fail
  refine (HPA.out _).mono ?_
  rintro e w2 ⟨rfl,hb2⟩
  have HZ2:=hide (HZ1.out.call hb2)
  have HB2:Hid (Below w.heap.size w w2):=by have hp:=HB1.out;have hs:=hp.size;exact ww hb2
  have HX2:=hide (DgAt.numO w2 sa X)
  clear hb2
  go_wp2_with fail
  refine (HSB.out _).mono ?_
  rintro e w3 ⟨rfl,hb3⟩
  have HZ3:=hide ((HZ2.out.alloc _).call hb3)
  have HX3:=hide (HX2.out.call hb3)
  have HB3:Hid (Below w.heap.size w w3):=by have hp:=HB2.out;have hs:=hp.size;exact ww hb3
  clear hb3
  go_wp2_with fail
  refine (HPB.out _).mono ?_
  rintro e w4 ⟨rfl,hb4⟩
  have HZ4:=hide (HZ3.out.call hb4)
  have HX4:=hide (HX3.out.call hb4)
  have HB4:Hid (Below w.heap.size w w4):=by have hp:=HB3.out;have hs:=hp.size;exact ww hb4
  have HY4:=hide (DgAt.numO w4 sb Y)
  have hxl:=HX4.out.lt
  have hrl:=HZ4.out.lt
  have x0:=HX4.out.sign
  clear hb4
  obtain ⟨so,hso⟩:∃ so,(!(sa==sb))=so:=⟨_,rfl⟩
  rw [hso] at HK
  have HM0:=hide (show MlSt w.heap.size w2.heap.size w4.heap.size (w4.heap.size+1) sa sb so X Y (dgL (mlV X Y 0)) w ((w4.alloc (numO sb Y)).alloc (zerO so)) by
    refine ⟨(HX4.out.alloc _).alloc _,HY4.out.alloc _,?_,(HZ4.out.alloc _).alloc _,by omega,by omega,by omega,Nat.le_refl _,by omega,?_⟩
    · have:=DgAt.zero (w4.alloc (numO sb Y)) so
      rw [mlV_zero,show dgL 0=zer8 by simp [dgL,dg]]
      simpa using this
    · have hp:=HB4.out
      have hs:=hp.size
      exact bel)
  go_wp2_with fail
  go_loopw [29] (fun s wr=>∃ i:Nat,s=.int .i64 i∧i≤4∧MlSt w.heap.size w2.heap.size w4.heap.size (w4.heap.size+1) sa sb so X Y (dgL (mlV X Y i)) w wr) (fun s _=>(5-intOf s).toNat)
  case atStart=>exact ⟨0,rfl,by omega,HM0.out⟩
  case round =>
    obtain ⟨i,rfl,hi5,hS⟩:=hrel
    have HS:=hide hS
    clear hS x0
    rcases (show i=4∨i<4 by omega) with rfl | hi4
    · have hD:=HS.out.o
      rw [mlV_4 hX.out] at hD
      obtain ⟨⟨a0,a1,a2,a3,a4,a5,a6,a7,a8⟩,_,hz⟩:=DgAt.nine hD
      have hBel:=HS.out.b
      have HR:=hide HS.out.r
      clear hD
      go_wp2_with fail
      refine (HK.out _).mono ?_
      rintro e w5 ⟨rfl,hb5⟩
      have HR5:=hide (HR.out.call hb5)
      have HB5:Hid (Below w.heap.size w w5):=by have hs:=hBel.size;exact ww hb5
      clear hb5 hBel a0 a1 a2 a3 a4 a5 a6 a7 a8
      obtain ⟨⟨r0,r1⟩,f0,f1,hz5⟩:=blk_two HR5.out
      have hBel:=HB5.out
      have hle:=hBel.size
      go_wp2
      refine bodyPost_ret (v:=.agg #[.int .i64 hi,.int .u64 lo]) (by simp (maxDischargeDepth:=9) [results,Tryz.results172,go_sem,r0,r1,f0,f1,hz5]) rfl ⟨rfl,by (repeat' exact bel)⟩
    · obtain ⟨wo,hwo⟩:∃ wo:World,wo=wr:=⟨_,rfl⟩
      rw [← hwo] at HS ⊢
      clear hwo
      go_wp2_with fail
      go_loopw [9,32] (fun s9 s wr=>∃ j:Nat,s9=.int .u64 (mlC X Y i j:Int)∧s=.int .i64 j∧j≤4∧MlSt w.heap.size w2.heap.size w4.heap.size (w4.heap.size+1) sa sb so X Y (mixD (mlV X Y (i+1)) (mlV X Y i) (i+j)) w wr) (fun _ s _=>(5-intOf s).toNat)
      case atStart =>
        refine ⟨0,by rw [mlC_zero];rfl,rfl,by omega,?_⟩
        rw [show mixD (mlV X Y (i+1)) (mlV X Y i) (i+0)=dgL (mlV X Y i) from ml_mix0 hi4]
        exact HS.out
      case round =>
        obtain ⟨j,rfl,rfl,hj5,hS2⟩:=hrel
        have HT:=hide hS2
        clear hS2
        rcases (show j=4∨j<4 by omega) with rfl | hj4
        · have c1:=HT.out.o.cell (mixD_get (X:=mlV X Y (i+1)) (Y:=mlV X Y i) (j:=i+4) (by omega))
          rw [ml_top hY.out] at c1
          have f1:=HT.out.o.frozen (1+(i+4))
          have HE:=hide (ml_end (X:=X) (i:=i) hY.out)
          have HM:=hide (mixD_set (X:=mlV X Y (i+1)) (Y:=mlV X Y i) (j:=i+4) (by omega))
          have HQ:=hide (ml_mix (X:=X) hY.out hi4)
          have h1:0≤(mlC X Y i 4:Int)∧(mlC X Y i 4:Int)≤65536:=by have:=mlC_le X Y i 4;omega
          have HC:=hide (show (mlC X Y i 4:Int)=(dg (mlV X Y (i+1)) (i+4):Int) by rw [HE.out])
          obtain ⟨h1,h2⟩:=h1
          generalize (mlC X Y i 4:Int)=Z at *
          go_wp2
          go_roundw
          case rel=>exact ⟨i+1,by go_num,by omega,by rw [HC.out,← HQ.out,show i+5=i+4+1 from rfl,← HM.out];exact HT.out.set (i+4) _⟩
          case measure=>simp [intOf];omega
        · have c1:=HT.out.o.cell (mixD_get (X:=mlV X Y (i+1)) (Y:=mlV X Y i) (j:=i+j) (by omega))
          have c2:=HT.out.x.cell (dgL_get (N:=X) (i:=i) (by omega))
          have c3:=HT.out.y.cell (dgL_get (N:=Y) (i:=j) (by omega))
          have f1:=HT.out.o.frozen (1+(i+j))
          have HD:=hide (show ((mlC X Y i j:Int)+((dg (mlV X Y i) (i+j):Int)+(dg X i:Int)*(dg Y j:Int))) % 65536=(dg (mlV X Y (i+1)) (i+j):Int) from ml_cast1 (mlC_digit X Y i j))
          have HN:=hide (show ((mlC X Y i j:Int)+((dg (mlV X Y i) (i+j):Int)+(dg X i:Int)*(dg Y j:Int))) / 65536=(mlC X Y i (j+1):Int) from ml_cast2 (mlC_next X Y i j))
          have HM:=hide (mixD_set (X:=mlV X Y (i+1)) (Y:=mlV X Y i) (j:=i+j) (by omega))
          have h1:0≤(mlC X Y i j:Int)∧(mlC X Y i j:Int)≤65536:=by have:=mlC_le X Y i j;omega
          have h2:0≤(dg (mlV X Y i) (i+j):Int)∧(dg (mlV X Y i) (i+j):Int)<65536:=by have:=dg_lt (mlV X Y i) (i+j);omega
          have hp:0≤(dg X i:Int)*(dg Y j:Int)∧(dg X i:Int)*(dg Y j:Int)≤4294967296:=by
            have h3:=dg_lt X i
            have h4:=dg_lt Y j
            have:=Nat.mul_le_mul (Nat.le_of_lt h3) (Nat.le_of_lt h4)
            rw [← Int.natCast_mul]
            omega
          obtain ⟨h1,h1'⟩:=h1
          obtain ⟨h2,h2'⟩:=h2
          obtain ⟨hp,hp'⟩:=hp
          have hl1:=HT.out.o.lt
          have hl2:=HT.out.x.lt
          generalize (mlC X Y i j:Int)=Z1 at *
          generalize (dg (mlV X Y i) (i+j):Int)=Z2 at *
          generalize (dg X i:Int)=Z3 at *
          generalize (dg Y j:Int)=Z4 at *
          go_wp2_with fail
          go_quiet (fail)
          go_wp2
          go_roundw
          case rel=>exact ⟨j+1,by rw [HN.out],by go_num,by omega,by rw [HD.out,show i+(j+1)=i+j+1 from rfl,← HM.out];exact HT.out.drew.set (i+j) _⟩
          case measure=>simp [intOf];omega
theorem mul_abs (a b:Int):a*b=if (!(decide (a<0)==decide (b<0))) then -((a.natAbs*b.natAbs:Nat):Int) else ((a.natAbs*b.natAbs:Nat):Int):=by
  rw [Int.natCast_mul]
  by_cases ha:a<0 <;> by_cases hb:b<0
  · rw [show (a.natAbs:Int)=-a by omega,show (b.natAbs:Int)=-b by omega]
    simp [ha,hb,Int.neg_mul_neg]
  · rw [show (a.natAbs:Int)=-a by omega,show (b.natAbs:Int)=b by omega]
    simp [ha,hb,Int.neg_mul]
  · rw [show (a.natAbs:Int)=a by omega,show (b.natAbs:Int)=-b by omega]
    simp [ha,hb,Int.mul_neg]
  · rw [show (a.natAbs:Int)=a by omega,show (b.natAbs:Int)=b by omega]
    simp [ha,hb]
theorem mul_wide {a b:Int} (ha:in64 a) (hb:in64 b):wideOk (a*b):=by
  unfold in64 at ha hb
  have h1:a.natAbs*b.natAbs≤9223372036854775808*9223372036854775808:=Nat.mul_le_mul (by omega) (by omega)
  have h2:=mul_abs a b
  unfold wideOk
  rw [h2]
  split <;> omega
theorem r02mul_any (a b:Int) (w:World) (ha:in64 a) (hb:in64 b):Calls Tryz.prog 172 #[.int .i64 a,.int .i64 b] w fun e w'=>e=.returned (wideV (a*b))∧Below w.heap.size w w':=by
  have ha':=ha
  have hb':=hb
  unfold in64 at ha' hb'
  exact r02mul_gen a b _ _ _ _ a.natAbs b.natAbs w rfl rfl (hide (by omega)) (hide (by omega)) (hide (fun w=>r01size_any a w ha)) (hide (fun w=>r01size_any b w hb))
    (hide (fun w=>r02put_int _ 0 _ _ w (hide (by omega)) (hide (by omega)) (hide (by omega)))) (hide (fun w=>r02put_int _ 0 _ _ w (hide (by omega)) (hide (by omega)) (hide (by omega))))
    (hide (fun w=>r02back_ok _ _ (a*b) w (mul_abs a b) (mul_wide ha hb)))
end Go.Proofs.YtjhhmeoibfdcmaaGreat
