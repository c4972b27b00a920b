/- The reference of layer 2: the Wide of digits, where there is one. The reference of layer 2: small numbers made Wides, and Wides made small. Digits multiplied, digit by digit: the plain law. -/
import Derived.Test.YtjhhmeoibfdcmaaGreatUq22
set_option linter.unusedSimpArgs false
set_option linter.unusedVariables false
set_option maxRecDepth 100000
set_option maxHeartbeats 12800000
namespace Go.Proofs.YtjhhmeoibfdcmaaGreat
open Go.RowKit Qd
abbrev wideZ:Obj:=.cells #[.int .i64 0,.int .u64 0] 103
theorem num_wide (w:World) (b:Bool) (N:Nat):DgAt ((w.alloc (numO b N)).alloc wideZ) w.heap.size b (dgL N)∧BlkIs ((w.alloc (numO b N)).alloc wideZ) (w.heap.size+1) #[.int .i64 0,.int .u64 0] 103:=
  ⟨(DgAt.numO w b N).alloc _,by simpa using BlkIs.new (w.alloc (numO b N)) #[.int .i64 0,.int .u64 0] 103⟩
theorem r02back_pos (N:Nat) (H L:Int) (w:World) (h7:H<9223372036854775808) (h3:0≤H) (h4:H<18446744073709551616) (h5:0≤L) (h6:L<18446744073709551616) (hN:Hid (H*18446744073709551616+L=N)) :
    Calls Tryz.prog 176 #[numV false N] w fun e w'=>e=.returned (.tuple #[.agg #[.int .i64 (H),.int .u64 (L)],.bool true])∧Below w.heap.size w w':=by
  obtain ⟨R,hR⟩:∃ R:Int,R=H:=⟨_,rfl⟩
  rw [← hR]
  have HZ:=hide (num_wide w false N)
  have HC:=hide (fun w=>show Calls Tryz.prog 177 #[numV false N] w fun e w'=>e=.returned (.tuple #[.int .u64 H,.int .u64 L])∧Below w.heap.size w w' by
    obtain ⟨H',rfl⟩:=Int.eq_ofNat_of_zero_le h3
    obtain ⟨L',rfl⟩:=Int.eq_ofNat_of_zero_le h5
    exact r02words_gen false N H' L' w (hide (by omega)) (hide (by omega)) (hide (by have:=hN.out;omega)))
  obtain ⟨⟨a0,a1,a2,a3,a4,a5,a6,a7,a8⟩,_⟩:=DgAt.nine HZ.out.1
  clear hN
  go_enter Tryz.func176,Tryz.ntmps176
  go_wp2_with fail
  refine (HC.out _).mono ?_
  rintro e w1 ⟨rfl,hb1⟩
  have HB1:Hid (Below w.heap.size w w1):=ww hb1
  have hBel:=HB1.out
  have hle:=hBel.size
  have HZ1:=hide (HZ.out.1.call hb1)
  obtain ⟨⟨r0,r1⟩,f0,f1,hz⟩:=blk_two (HZ.out.2.call hb1)
  clear hb1 a0 a1 a2 a3 a4 a5 a6 a7 a8
  have a0:=HZ1.out.sign
  all_goals
    go_wp2
    all_goals first
      | (exfalso;omega)
      | (refine bodyPost_ret (v:=.tuple #[.agg #[.int .i64 R,.int .u64 (L)],.bool true]) (by simp (maxDischargeDepth:=9) [results,Tryz.results176,go_sem,r0,r1,f0,f1,hz] <;> omega) rfl ⟨by first | rfl | rw [hR],by (repeat' exact bel)⟩)
theorem r02back_zero (N:Nat) (H L:Int) (w:World) (h7:H=0) (h8:L=0) (h3:0≤H) (h4:H<18446744073709551616) (h5:0≤L) (h6:L<18446744073709551616) (hN:Hid (H*18446744073709551616+L=N)) :
    Calls Tryz.prog 176 #[numV true N] w fun e w'=>e=.returned (.tuple #[.agg #[.int .i64 (0),.int .u64 (0)],.bool true])∧Below w.heap.size w w':=by
  obtain ⟨R,hR⟩:∃ R:Int,R=0:=⟨_,rfl⟩
  rw [← hR]
  have HZ:=hide (num_wide w true N)
  have HC:=hide (fun w=>show Calls Tryz.prog 177 #[numV true N] w fun e w'=>e=.returned (.tuple #[.int .u64 H,.int .u64 L])∧Below w.heap.size w w' by
    obtain ⟨H',rfl⟩:=Int.eq_ofNat_of_zero_le h3
    obtain ⟨L',rfl⟩:=Int.eq_ofNat_of_zero_le h5
    exact r02words_gen true N H' L' w (hide (by omega)) (hide (by omega)) (hide (by have:=hN.out;omega)))
  obtain ⟨⟨a0,a1,a2,a3,a4,a5,a6,a7,a8⟩,_⟩:=DgAt.nine HZ.out.1
  clear hN
  go_enter Tryz.func176,Tryz.ntmps176
  go_wp2_with fail
  refine (HC.out _).mono ?_
  rintro e w1 ⟨rfl,hb1⟩
  have HB1:Hid (Below w.heap.size w w1):=ww hb1
  have hBel:=HB1.out
  have hle:=hBel.size
  have HZ1:=hide (HZ.out.1.call hb1)
  obtain ⟨⟨r0,r1⟩,f0,f1,hz⟩:=blk_two (HZ.out.2.call hb1)
  clear hb1 a0 a1 a2 a3 a4 a5 a6 a7 a8
  have a0:=HZ1.out.sign
  subst h7 h8
  all_goals
    go_wp2
    all_goals first
      | (exfalso;omega)
      | (refine bodyPost_ret (v:=.tuple #[.agg #[.int .i64 R,.int .u64 (0)],.bool true]) (by simp (maxDischargeDepth:=9) [results,Tryz.results176,go_sem,r0,r1,f0,f1,hz] <;> omega) rfl ⟨by first | rfl | rw [hR],by (repeat' exact bel)⟩)
theorem r02back_low (N:Nat) (H L:Int) (w:World) (h7:0<H) (h8:H≤9223372036854775808) (h9:L=0) (h3:0≤H) (h4:H<18446744073709551616) (h5:0≤L) (h6:L<18446744073709551616) (hN:Hid (H*18446744073709551616+L=N)) :
    Calls Tryz.prog 176 #[numV true N] w fun e w'=>e=.returned (.tuple #[.agg #[.int .i64 (-H),.int .u64 (0)],.bool true])∧Below w.heap.size w w':=by
  obtain ⟨R,hR⟩:∃ R:Int,R=-H:=⟨_,rfl⟩
  rw [← hR]
  have HZ:=hide (num_wide w true N)
  have HC:=hide (fun w=>show Calls Tryz.prog 177 #[numV true N] w fun e w'=>e=.returned (.tuple #[.int .u64 H,.int .u64 L])∧Below w.heap.size w w' by
    obtain ⟨H',rfl⟩:=Int.eq_ofNat_of_zero_le h3
    obtain ⟨L',rfl⟩:=Int.eq_ofNat_of_zero_le h5
    exact r02words_gen true N H' L' w (hide (by omega)) (hide (by omega)) (hide (by have:=hN.out;omega)))
  obtain ⟨⟨a0,a1,a2,a3,a4,a5,a6,a7,a8⟩,_⟩:=DgAt.nine HZ.out.1
  clear hN
  go_enter Tryz.func176,Tryz.ntmps176
  go_wp2_with fail
  refine (HC.out _).mono ?_
  rintro e w1 ⟨rfl,hb1⟩
  have HB1:Hid (Below w.heap.size w w1):=ww hb1
  have hBel:=HB1.out
  have hle:=hBel.size
  have HZ1:=hide (HZ.out.1.call hb1)
  obtain ⟨⟨r0,r1⟩,f0,f1,hz⟩:=blk_two (HZ.out.2.call hb1)
  clear hb1 a0 a1 a2 a3 a4 a5 a6 a7 a8
  have a0:=HZ1.out.sign
  subst h9
  have hH:(H==0)=false:=by simp;omega
  rcases (show H=9223372036854775808∨H<9223372036854775808 by omega) with hq | hq
  rotate_left
  have hqb:(H==9223372036854775808)=false:=by simp;omega
  rotate_left
  subst hq
  all_goals
    go_wp2
    all_goals first
      | (exfalso;omega)
      | (refine bodyPost_ret (v:=.tuple #[.agg #[.int .i64 R,.int .u64 (0)],.bool true]) (by simp (maxDischargeDepth:=9) [results,Tryz.results176,go_sem,r0,r1,f0,f1,hz] <;> omega) rfl ⟨by first | rfl | rw [hR],by (repeat' exact bel)⟩)
theorem r02back_neg (N:Nat) (H L:Int) (w:World) (h7:H<9223372036854775808) (h8:0<L) (h3:0≤H) (h4:H<18446744073709551616) (h5:0≤L) (h6:L<18446744073709551616) (hN:Hid (H*18446744073709551616+L=N)) :
    Calls Tryz.prog 176 #[numV true N] w fun e w'=>e=.returned (.tuple #[.agg #[.int .i64 (-H-1),.int .u64 (18446744073709551616-L)],.bool true])∧Below w.heap.size w w':=by
  obtain ⟨R,hR⟩:∃ R:Int,R=-H-1:=⟨_,rfl⟩
  rw [← hR]
  have HZ:=hide (num_wide w true N)
  have HC:=hide (fun w=>show Calls Tryz.prog 177 #[numV true N] w fun e w'=>e=.returned (.tuple #[.int .u64 H,.int .u64 L])∧Below w.heap.size w w' by
    obtain ⟨H',rfl⟩:=Int.eq_ofNat_of_zero_le h3
    obtain ⟨L',rfl⟩:=Int.eq_ofNat_of_zero_le h5
    exact r02words_gen true N H' L' w (hide (by omega)) (hide (by omega)) (hide (by have:=hN.out;omega)))
  obtain ⟨⟨a0,a1,a2,a3,a4,a5,a6,a7,a8⟩,_⟩:=DgAt.nine HZ.out.1
  clear hN
  go_enter Tryz.func176,Tryz.ntmps176
  go_wp2_with fail
  refine (HC.out _).mono ?_
  rintro e w1 ⟨rfl,hb1⟩
  have HB1:Hid (Below w.heap.size w w1):=ww hb1
  have hBel:=HB1.out
  have hle:=hBel.size
  have HZ1:=hide (HZ.out.1.call hb1)
  obtain ⟨⟨r0,r1⟩,f0,f1,hz⟩:=blk_two (HZ.out.2.call hb1)
  clear hb1 a0 a1 a2 a3 a4 a5 a6 a7 a8
  have a0:=HZ1.out.sign
  have hL:(L==0)=false:=by simp;omega
  rcases (show H=0∨0<H by omega) with hq | hq
  rotate_left
  have hqb:(H==0)=false:=by simp;omega
  have hqc:(H==9223372036854775808)=false:=by simp;omega
  rotate_left
  subst hq
  all_goals
    go_wp2
    all_goals first
      | (exfalso;omega)
      | (refine bodyPost_ret (v:=.tuple #[.agg #[.int .i64 R,.int .u64 (18446744073709551616-L)],.bool true]) (by simp (maxDischargeDepth:=9) [results,Tryz.results176,go_sem,r0,r1,f0,f1,hz] <;> omega) rfl ⟨by first | rfl | rw [hR],by (repeat' exact bel)⟩)
theorem r02back_ok (b:Bool) (N:Nat) (n:Int) (w:World) (hn:n=if b then -(N:Int) else N) (h:wideOk n):Calls Tryz.prog 176 #[numV b N] w fun e w'=>e=.returned (.tuple #[wideV n,.bool true])∧Below w.heap.size w w':=by
  unfold wideOk at h
  have h5:0≤(N:Int) % 18446744073709551616:=Int.emod_nonneg _ (by decide)
  have h6:(N:Int) % 18446744073709551616<18446744073709551616:=Int.emod_lt_of_pos _ (by decide)
  cases b
  · simp at hn
    have h1:=r02back_pos N (n / 18446744073709551616) (n % 18446744073709551616) w (by omega) (by omega) (by omega) (by omega) (by omega) (hide (by omega))
    exact h1
  · simp at hn
    by_cases hL:(N:Int) % 18446744073709551616=0
    · by_cases h0:(N:Int) / 18446744073709551616=0
      · have h1:=r02back_zero N ((N:Int) / 18446744073709551616) ((N:Int) % 18446744073709551616) w h0 hL (by omega) (by omega) h5 h6 (hide (by omega))
        rw [wideV,show n / 18446744073709551616=0 by omega,show n % 18446744073709551616=0 by omega]
        exact h1
      · have h1:=r02back_low N ((N:Int) / 18446744073709551616) ((N:Int) % 18446744073709551616) w (by omega) (by omega) hL (by omega) (by omega) h5 h6 (hide (by omega))
        rw [wideV,show n / 18446744073709551616=-((N:Int) / 18446744073709551616) by omega,show n % 18446744073709551616=0 by omega]
        exact h1
    · have h1:=r02back_neg N ((N:Int) / 18446744073709551616) ((N:Int) % 18446744073709551616) w (by omega) (by omega) (by omega) (by omega) h5 h6 (hide (by omega))
      rw [wideV,show n / 18446744073709551616=-((N:Int) / 18446744073709551616)-1 by omega,show n % 18446744073709551616=18446744073709551616-(N:Int) % 18446744073709551616 by omega]
      exact h1
end Go.Proofs.YtjhhmeoibfdcmaaGreat
namespace Go.Proofs.YtjhhmeoibfdcmaaGreat
open Go.RowKit Qd
theorem wide_new (w:World):BlkIs (w.alloc wideZ) w.heap.size #[.int .i64 0,.int .u64 0] 103:=BlkIs.new w _ _
theorem abs_val (a:Int):a=if decide (a<0) then -(a.natAbs:Int) else a.natAbs:=by
  by_cases h:a<0
  · simp [h];omega
  · simp [h];omega
theorem r02of64_gen (a hi lo:Int) (N:Nat) (b:Bool) (w:World) (hb:decide (a<0)=b)
    (HS:Hid (∀ w,Calls Tryz.prog 185 #[.int .i64 a] w fun e w'=>e=.returned (.int .u64 (N:Int))∧Below w.heap.size w w'))
    (HP:Hid (∀ w,Calls Tryz.prog 175 #[.bool b,.int .u64 0,.int .u64 (N:Int)] w fun e w'=>e=.returned (numV b N)∧Below w.heap.size w w'))
    (HB:Hid (∀ w,Calls Tryz.prog 176 #[numV b N] w fun e w'=>e=.returned (.tuple #[.agg #[.int .i64 hi,.int .u64 lo],.bool true])∧Below w.heap.size w w')) :
    Calls Tryz.prog 124 #[.int .i64 a] w fun e w'=>e=.returned (.agg #[.int .i64 hi,.int .u64 lo])∧Below w.heap.size w w':=by
  have HZ:=hide (wide_new w)
  go_enter Tryz.func124,Tryz.ntmps124
  go_wp2_with fail
  refine (HS.out _).mono ?_
  rintro e w1 ⟨rfl,hb1⟩
  have HZ1:=hide (HZ.out.call hb1)
  have HB1:Hid (Below w.heap.size w w1):=ww hb1
  clear hb1
  go_wp2_with fail
  refine (HP.out _).mono ?_
  rintro e w2 ⟨rfl,hb2⟩
  have HZ2:=hide (HZ1.out.call hb2)
  have HB2:Hid (Below w.heap.size w w2):=by have hp:=HB1.out;have hs:=hp.size;exact ww hb2
  clear hb2
  go_wp2_with fail
  refine (HB.out _).mono ?_
  rintro e w3 ⟨rfl,hb3⟩
  have HZ3:=hide (HZ2.out.call hb3)
  have HB3:Hid (Below w.heap.size w w3):=by have hp:=HB2.out;have hs:=hp.size;exact ww hb3
  have hBel:=HB3.out
  have hle:=hBel.size
  clear hb3
  obtain ⟨⟨r0,r1⟩,f0,f1,hz⟩:=blk_two HZ3.out
  go_wp2
  refine bodyPost_ret (v:=.agg #[.int .i64 hi,.int .u64 lo]) (by simp (maxDischargeDepth:=9) [results,Tryz.results124,go_sem,r0,r1,f0,f1,hz]) rfl ⟨rfl,by (repeat' exact bel)⟩
theorem r02of64_any (a:Int) (w:World) (h:in64 a):Calls Tryz.prog 124 #[.int .i64 a] w fun e w'=>e=.returned (wideV a)∧Below w.heap.size w w':=by
  have h':=h
  unfold in64 at h'
  exact r02of64_gen a _ _ a.natAbs _ w rfl (hide (fun w=>r01size_any a w h)) (hide (fun w=>r02put_int _ 0 _ _ w (hide (by omega)) (hide (by omega)) (hide (by omega)))) (hide (fun w=>r02back_ok _ _ a w (abs_val a) (in_wd h)))
theorem r02fit_gen (hi lo H L V E:Int) (N:Nat) (b:Bool) (w:World) (h1:0≤H) (h1':H<18446744073709551616) (h2:0≤L) (h2':L<18446744073709551616)
    (hv:Hid (0<H∨9223372036854775808<L∨(L=9223372036854775808∧b=false)→V=0∧E=2))
    (hw:Hid (H=0→L≤9223372036854775808→b=true→0<L→V=-L∧E=0))
    (hx:Hid (H=0→L≤9223372036854775807→b=false∨L=0→V=L∧E=0))
    (HO:Hid (∀ w,Calls Tryz.prog 173 #[.agg #[.int .i64 hi,.int .u64 lo]] w fun e w'=>e=.returned (numV b N)∧Below w.heap.size w w'))
    (HW:Hid (∀ w,Calls Tryz.prog 177 #[numV b N] w fun e w'=>e=.returned (.tuple #[.int .u64 H,.int .u64 L])∧Below w.heap.size w w')) :
    Calls Tryz.prog 113 #[.agg #[.int .i64 hi,.int .u64 lo]] w fun e w'=>e=.returned (.tuple #[.int .i64 V,.int .i64 E])∧Below w.heap.size w w':=by
  go_enter Tryz.func113,Tryz.ntmps113
  go_wp2_with fail
  refine (HO.out _).mono ?_
  rintro e w1 ⟨rfl,hb1⟩
  have HB1:Hid (Below w.heap.size w w1):=ww hb1
  have hBel:=HB1.out
  have hle:=hBel.size
  clear hb1
  go_wp2_with fail
  have HD:=hide (DgAt.numO w1 b N)
  refine (HW.out _).mono ?_
  rintro e w2 ⟨rfl,hb2⟩
  have HB2:Hid (Below w.heap.size w w2):=by have hp:=HB1.out;have hs:=hp.size;exact ww hb2
  have HD2:=hide (HD.out.call hb2)
  have a0:=HD2.out.sign
  clear hb2 hBel
  have hBel:=HB2.out
  by_cases c1:0<H
  · have HF:=hide (hv.out (.inl c1))
    go_wp2
    all_goals first
      | (exfalso;omega)
      | (go_ret2;exact ⟨by rw [HF.out.1,HF.out.2];rfl,by (repeat' exact bel)⟩)
  · have hH:H=0:=by omega
    subst hH
    by_cases c2:9223372036854775808<L
    · have HF:=hide (hv.out (.inr (.inl c2)))
      go_wp2
      all_goals first
        | (exfalso;omega)
        | (go_ret2;exact ⟨by rw [HF.out.1,HF.out.2];rfl,by (repeat' exact bel)⟩)
    · cases b
      · by_cases c3:L=9223372036854775808
        · have HF:=hide (hv.out (.inr (.inr ⟨c3,rfl⟩)))
          subst c3
          go_wp2
          all_goals first
            | (exfalso;omega)
            | (go_ret2;exact ⟨by rw [HF.out.1,HF.out.2];rfl,by (repeat' exact bel)⟩)
        · have HF:=hide (hx.out rfl (by omega) (.inl rfl))
          have c4:(L==9223372036854775808)=false:=by simpa using c3
          go_wp2
          all_goals first
            | (exfalso;omega)
            | (go_ret2;exact ⟨by rw [HF.out.1,HF.out.2];rfl,by (repeat' exact bel)⟩)
      · by_cases c3:L=0
        · have HF:=hide (hx.out rfl (by omega) (.inr c3))
          subst c3
          go_wp2
          all_goals first
            | (exfalso;omega)
            | (go_ret2;exact ⟨by rw [HF.out.1,HF.out.2];rfl,by (repeat' exact bel)⟩)
        · have HF:=hide (hw.out rfl (by omega) rfl (by omega))
          have hL0:0<L:=by omega
          clear c3
          rcases (show L=9223372036854775808∨L<9223372036854775808 by omega) with hq | hq
          · subst hq
            go_wp2
            all_goals first
              | (exfalso;omega)
              | (go_ret2;refine ⟨(show Ending.returned (.tuple #[.int .i64 (-9223372036854775808),.int .i64 0])=_ by rw [HF.out.1,HF.out.2]),by (repeat' exact bel)⟩)
          · have hqb:(L==9223372036854775808)=false:=by simp;omega
            go_wp2
            all_goals first
              | (exfalso;omega)
              | (go_ret2;refine ⟨(show Ending.returned (.tuple #[.int .i64 (-(L-1)-1),.int .i64 0])=_ by rw [HF.out.1,HF.out.2,show -(L-1)-1=-L by omega]),by (repeat' exact bel)⟩)
theorem r02fit_any (n:Int) (w:World) (h:wideOk n):Calls Tryz.prog 113 #[wideV n] w fun e w'=>e=.returned (.tuple #[.int .i64 (fitV n),.int .i64 (fitE n)])∧Below w.heap.size w w':=by
  have h':=h
  unfold wideOk at h'
  have hno:=fun h=>fit_no (n:=n) h
  have hyes:=fun h=>fit_yes (n:=n) h
  unfold in64 at hno hyes
  refine r02fit_gen _ _ ((n.natAbs / 18446744073709551616:Nat):Int) ((n.natAbs % 18446744073709551616:Nat):Int) _ _ n.natAbs (decide (n<0)) w (by omega) (by omega) (by omega) (by omega) (hide ?_) (hide ?_) (hide ?_) (hide (fun w=>r02of_any n w h)) (hide (fun w=>r02words_any _ _ w (by omega)))
  · intro h; exact hno (by
      rcases h with h | h | ⟨h,k⟩
      · omega
      · omega
      · simp at k;omega)
  · intro h1 h2 h3 h4
    simp at h3
    rw [(hyes (by omega)).1,(hyes (by omega)).2]
    exact ⟨by omega,rfl⟩
  · intro h1 h2 h3
    simp at h3
    rw [(hyes (by omega)).1,(hyes (by omega)).2]
    exact ⟨by omega,rfl⟩
end Go.Proofs.YtjhhmeoibfdcmaaGreat
namespace Go.Proofs.YtjhhmeoibfdcmaaGreat
open Go.RowKit
def mlV (X Y i:Nat):Nat:=(X % 65536 ^ i)*Y
def mlN (X Y i j:Nat):Nat:=mlV X Y i % 65536 ^ (i+j)+dg X i*65536 ^ i*(Y % 65536 ^ j)
def mlC (X Y i j:Nat):Nat:=mlN X Y i j / 65536 ^ (i+j)
theorem mlV_zero (X Y:Nat):mlV X Y 0=0:=by simp [mlV,Nat.mod_one]
theorem mlV_succ (X Y i:Nat):mlV X Y (i+1)=mlV X Y i+dg X i*65536 ^ i*Y:=by
  unfold mlV
  rw [mod_step,Nat.add_mul,Nat.mul_comm (65536 ^ i) (dg X i)]
theorem mlN_succ (X Y i j:Nat):mlN X Y i (j+1)=mlN X Y i j+65536 ^ (i+j)*(dg (mlV X Y i) (i+j)+dg X i*dg Y j):=by
  unfold mlN
  rw [← Nat.add_assoc,mod_step,mod_step,Nat.mul_add,Nat.mul_add,Nat.pow_add]
  have e:dg X i*65536 ^ i*(65536 ^ j*dg Y j)=65536 ^ i*65536 ^ j*(dg X i*dg Y j):=by
    rw [Nat.mul_comm (dg X i) (65536 ^ i),Nat.mul_assoc,Nat.mul_assoc,Nat.mul_left_comm (dg X i)]
  rw [e]
  omega
theorem mlC_zero (X Y i:Nat):mlC X Y i 0=0:=by
  unfold mlC mlN
  simp only [Nat.pow_zero,Nat.mod_one,Nat.mul_zero,Nat.add_zero]
  exact Nat.div_eq_of_lt (Nat.mod_lt _ (pow_pos' _))
theorem mlC_sum (X Y i j:Nat):mlC X Y i j+(dg (mlV X Y i) (i+j)+dg X i*dg Y j)=mlN X Y i (j+1) / 65536 ^ (i+j):=by
  rw [mlN_succ,Nat.add_mul_div_left _ _ (pow_pos' _)]
  rfl
theorem mlC_next (X Y i j:Nat):(mlC X Y i j+(dg (mlV X Y i) (i+j)+dg X i*dg Y j)) / 65536=mlC X Y i (j+1):=by
  rw [mlC_sum,mlC,← Nat.add_assoc,Nat.pow_succ,← Nat.div_div_eq_div_mul]
theorem mlN_mod (X Y i j:Nat):mlN X Y i j % 65536 ^ (i+j)=mlV X Y (i+1) % 65536 ^ (i+j):=by
  rw [mlV_succ]
  have h:dg X i*65536 ^ i*Y=dg X i*65536 ^ i*(Y % 65536 ^ j)+65536 ^ (i+j)*(dg X i*(Y / 65536 ^ j)):=by
    conv=>lhs;rw [← Nat.mod_add_div Y (65536 ^ j),Nat.mul_add]
    congr 1
    rw [Nat.pow_add,Nat.mul_comm (dg X i) (65536 ^ i),Nat.mul_assoc,Nat.mul_assoc,Nat.mul_left_comm (dg X i)]
  rw [h,← Nat.add_assoc,Nat.add_mul_mod_self_left]
  unfold mlN
  rw [Nat.add_mod,Nat.mod_mod,← Nat.add_mod]
theorem mlC_digit (X Y i j:Nat):(mlC X Y i j+(dg (mlV X Y i) (i+j)+dg X i*dg Y j)) % 65536=dg (mlV X Y (i+1)) (i+j):=by
  rw [mlC_sum]
  have h:=mlN_mod X Y i (j+1)
  rw [← Nat.add_assoc,Nat.pow_succ] at h
  have key:∀ N:Nat,N / 65536 ^ (i+j) % 65536=N % (65536 ^ (i+j)*65536) / 65536 ^ (i+j):=fun N=>by rw [Nat.mod_mul_right_div_self]
  rw [key,h,dg,key]
theorem mlC_le (X Y i j:Nat):mlC X Y i j≤65536:=by
  have h1:=Nat.mod_lt (mlV X Y i) (pow_pos' (i+j))
  have h2:=Nat.mod_lt Y (pow_pos' j)
  have h3:=dg_lt X i
  have h4:dg X i*65536 ^ i*(Y % 65536 ^ j)≤65535*65536 ^ (i+j):=by
    rw [Nat.pow_add,← Nat.mul_assoc]
    exact Nat.mul_le_mul (Nat.mul_le_mul_right _ (by omega)) (by omega)
  have h5:mlN X Y i j<65536 ^ (i+j)*65537:=by unfold mlN;omega
  have:=Nat.div_lt_of_lt_mul h5
  unfold mlC;omega
theorem mlV_lt {X Y i:Nat} (hY:Y<65536 ^ 4):mlV X Y i<65536 ^ (i+4):=by
  unfold mlV
  have h1:=Nat.mod_lt X (pow_pos' i)
  rw [Nat.pow_add]
  exact Nat.mul_lt_mul_of_lt_of_le h1 (Nat.le_of_lt hY) (by decide)
theorem ml_top {X Y i:Nat} (hY:Y<65536 ^ 4):dg (mlV X Y i) (i+4)=0:=dg_zero_of (mlV_lt hY)
theorem ml_end {X Y i:Nat} (hY:Y<65536 ^ 4):mlC X Y i 4=dg (mlV X Y (i+1)) (i+4):=by
  have h1:mlN X Y i 4=mlV X Y (i+1):=by
    unfold mlN
    rw [Nat.mod_eq_of_lt (mlV_lt hY),Nat.mod_eq_of_lt hY,mlV_succ]
  have h2:mlV X Y (i+1) / 65536 ^ (i+4)<65536:=by
    refine Nat.div_lt_of_lt_mul ?_
    rw [← Nat.pow_succ]
    have:=mlV_lt (X:=X) (i:=i+1) hY
    rwa [show i+1+4=i+4+1 by omega] at this
  unfold mlC dg
  rw [h1,Nat.mod_eq_of_lt h2]
theorem ml_mix {X Y i:Nat} (hY:Y<65536 ^ 4) (hi:i<4):mixD (mlV X Y (i+1)) (mlV X Y i) (i+5)=dgL (mlV X Y (i+1)):=by
  have hz:∀ k,i+5≤k→dg (mlV X Y i) k=dg (mlV X Y (i+1)) k:=by
    intro k hk
    rw [dg_zero_of (Nat.lt_of_lt_of_le (mlV_lt (X:=X) (i:=i) hY) (Nat.pow_le_pow_right (by decide) (by omega))),dg_zero_of (Nat.lt_of_lt_of_le (mlV_lt (X:=X) (i:=i+1) hY) (Nat.pow_le_pow_right (by decide) (by omega)))]
  match i,hi with
  | 0,_=>simp [mixD,dgL,hz 5 (by omega),hz 6 (by omega),hz 7 (by omega)]
  | 1,_=>simp [mixD,dgL,hz 6 (by omega),hz 7 (by omega)]
  | 2,_=>simp [mixD,dgL,hz 7 (by omega)]
  | 3,_=>simp [mixD,dgL]
theorem dg_mod (N k:Nat):dg N k=N % 65536 ^ (k+1) / 65536 ^ k:=by rw [dg,Nat.pow_succ,Nat.mod_mul_right_div_self]
theorem ml_low {X Y i k:Nat} (hk:k<i):dg (mlV X Y (i+1)) k=dg (mlV X Y i) k:=by
  rw [dg_mod,dg_mod,mlV_succ]
  obtain ⟨d,rfl⟩:∃ d,i=k+1+d:=⟨i-(k+1),by omega⟩
  rw [Nat.pow_add 65536 (k+1) d,show dg X (k+1+d)*(65536 ^ (k+1)*65536 ^ d)*Y=65536 ^ (k+1)*(dg X (k+1+d)*65536 ^ d*Y) by
    rw [Nat.mul_left_comm,Nat.mul_assoc],Nat.add_mul_mod_self_left]
theorem ml_mix0 {X Y i:Nat} (hi:i<4):mixD (mlV X Y (i+1)) (mlV X Y i) i=dgL (mlV X Y i):=by
  match i,hi with
  | 0,_=>simp [mixD,dgL]
  | 1,_=>simp [mixD,dgL,ml_low (X:=X) (Y:=Y) (i:=1) (k:=0) (by omega)]
  | 2,_=>simp [mixD,dgL,ml_low (X:=X) (Y:=Y) (i:=2) (k:=0) (by omega),ml_low (X:=X) (Y:=Y) (i:=2) (k:=1) (by omega)]
  | 3,_=>simp [mixD,dgL,ml_low (X:=X) (Y:=Y) (i:=3) (k:=0) (by omega),ml_low (X:=X) (Y:=Y) (i:=3) (k:=1) (by omega),ml_low (X:=X) (Y:=Y) (i:=3) (k:=2) (by omega)]
theorem mlV_4 {X Y:Nat} (hX:X<65536 ^ 4):mlV X Y 4=X*Y:=by unfold mlV;rw [Nat.mod_eq_of_lt hX]
end Go.Proofs.YtjhhmeoibfdcmaaGreat
