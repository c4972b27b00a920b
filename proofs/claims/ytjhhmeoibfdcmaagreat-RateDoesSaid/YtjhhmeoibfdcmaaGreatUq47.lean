/- Spans that a law takes. Package ratio: sizes, what is common, what is made of them. Package ratio: what may be, and what is made. The plain law of exact shares: a whole number times a ratio in lowest terms. The closed facts of the row of RateDoes, one by one. -/
import Derived.StillTailTactics
import Derived.Test.YtjhhmeoibfdcmaaGreatUq14
import Derived.Test.YtjhhmeoibfdcmaaGreatUq27
set_option linter.unusedSimpArgs false
set_option linter.unusedVariables false
set_option maxRecDepth 100000
set_option maxHeartbeats 12800000
namespace Go.Proofs.YtjhhmeoibfdcmaaGreat
open Go.ChangeShapes Go.WideShapes Go.ChangeAt Go.RowKit Qd
section
variable {H:Type} {enc:TypeId × Value→H} {base:Nat} {spare:Nat→Bool} {held:Bool}
theorem cells_span:Tryz.prog.cellsOf 45=2:=by kernel_rfl
theorem open_span {w:World} {r:Reach} {b0:Nat} {v:Value} {d:DataW H} {p:List MemPlace} (hv:Value.okWide Tryz.prog w r b0 45 v) (h:DataW.Trod enc Tryz.prog w base spare held 45 v d p) :
    ∃ s:Sp,v=spanV s∧SpWf s:=by
  obtain ⟨cs,rfl,hsz⟩:=okWide_struct Tryz.underlying45 hv
  rw [cells_span] at hsz
  obtain ⟨l⟩:=cs
  match l,hsz with
  | [c0,c1],_ =>
    obtain ⟨fuel,hf⟩:=h
    obtain ⟨xs,n,_,hx,_,hlen,hg⟩:=DataW.trod_struct Tryz.underlying45 hf
    match xs,hlen with
    | [y0,y1],_ =>
      have g0:=hg 0 _ rfl
      have g1:=hg 1 _ rfl
      simp [Value.cells,cells_int] at g0 g1
      obtain ⟨x0,e0,_,s0⟩:=DataW.trod_int Tryz.underlying3 g0
      obtain ⟨x1,e1,_,s1⟩:=DataW.trod_int Tryz.underlying3 g1
      simp only [List.cons.injEq,and_true] at e0 e1
      subst e0 e1
      exact ⟨⟨x0,x1⟩,rfl,s0,s1⟩
end
end Go.Proofs.YtjhhmeoibfdcmaaGreat
namespace Go.Proofs.YtjhhmeoibfdcmaaGreat
open Go.RowKit Qd
theorem rsize_any (a:Int) (w:World) (h:in64 a):Calls Tryz.prog 179 #[.int .i64 a] w fun e w'=>e=.returned (.int .u64 (a.natAbs:Int))∧w=w':=by
  unfold in64 at h
  obtain ⟨h1,h2⟩:=h
  by_cases h0:a<0
  · have HN:=hide (show (a.natAbs:Int)=-a by omega)
    go_enter Tryz.func179,Tryz.ntmps179
    go_wp2
    all_goals first
      | (exfalso;omega)
      | (go_ret;exact ⟨ret_int (by rw [HN.out];simp only [IntKind.wrap_u64];omega),rfl⟩)
  · have HN:=hide (show (a.natAbs:Int)=a by omega)
    go_enter Tryz.func179,Tryz.ntmps179
    go_wp2
    all_goals first
      | (exfalso;omega)
      | (go_ret;exact ⟨ret_int (by rw [HN.out] <;> first | rfl | (simp only [IntKind.wrap_u64];omega)),rfl⟩)
theorem nat_tmod (x y:Nat):(x:Int).tmod (y:Int)=((x % y:Nat):Int):=by
  rw [Int.tmod_eq_emod_of_nonneg (by omega)];rfl
theorem nat_tdiv (x y:Nat):(x:Int).tdiv (y:Int)=((x / y:Nat):Int):=by
  rw [Int.tdiv_eq_ediv_of_nonneg (by omega)];rfl
theorem gcd_step (x y:Nat):Nat.gcd y (x % y)=Nat.gcd x y:=by
  rw [Nat.gcd_comm y,← Nat.gcd_rec,Nat.gcd_comm]
theorem rcommon_any (a b:Nat) (w:World) (ha:a<18446744073709551616) (hb:b<18446744073709551616):Calls Tryz.prog 178 #[.int .u64 a,.int .u64 b] w fun e w'=>e=.returned (.int .u64 ((Nat.gcd a b:Nat):Int))∧Below w.heap.size w w':=by
  obtain ⟨G,hG⟩:∃ G,Nat.gcd a b=G:=⟨_,rfl⟩
  have HG:=hide hG
  rw [hG]
  clear hG
  go_enter Tryz.func178,Tryz.ntmps178
  go_wp2_with fail
  go_loopw [0,1] (fun s0 s1 wr=>∃ x y:Nat,s0=.int .u64 x∧s1=.int .u64 y∧x<18446744073709551616∧y<18446744073709551616∧Hid (Nat.gcd x y=G∧Below w.heap.size w wr)) (fun _ s1 _=>(intOf s1).toNat)
  case atStart=>exact ⟨a,b,rfl,rfl,ha,hb,hide ⟨HG.out,Below.refl _ _⟩⟩
  case round =>
    obtain ⟨x,y,rfl,rfl,hx,hy,HQ⟩:=hrel
    by_cases h0:0<y
    · have hy0:¬ (y:Int)=0:=by omega
      have hlt:=Nat.mod_lt x h0
      go_wp2_with fail
      all_goals first
        | (exfalso;omega)
        | skip
      go_quiet (fail)
      go_wp2
      go_roundw
      case rel=>exact ⟨y,x % y,rfl,by first | rfl | (rw [nat_tmod]),hy,by omega,hide ⟨by rw [gcd_step];exact HQ.out.1,below_drewN HQ.out.2 _⟩⟩
      case measure=>simp [intOf,nat_tmod];omega
    · obtain rfl:y=0:=by omega
      have HX:=hide (show x=G by have:=HQ.out.1;rwa [Nat.gcd_zero_right] at this)
      go_wp2
      all_goals first
        | (exfalso;omega)
        | skip
      go_ret
      exact ⟨ret_int (by rw [HX.out]),HQ.out.2⟩
theorem rat_blk {a b:Value} {t:TypeId} {B:Nat} {w:World} (h:BlkIs w B #[a,b] t):(w.cell? ⟨B,0,none⟩=some a∧w.cell? ⟨B,1,none⟩=some b)∧w.frozen? ⟨B,0,none⟩=false∧w.frozen? ⟨B,1,none⟩=false∧B<w.heap.size:=⟨⟨h.cell 0,h.cell 1⟩,by simp [World.frozen?,show w.heap[B]?=_ from h],by simp [World.frozen?,show w.heap[B]?=_ from h],h.lt⟩
def mkE (b:Bool) (n d high:Nat):Int:=if high > 0∨d > 9223372036854775807∨n > 9223372036854775808∨(n > 9223372036854775807∧b=false) then 2 else 0
def ratV (n d:Int):Value:=.agg #[.int .i64 n,.int .i64 d]
def mkV (b:Bool) (n d high:Nat):Value:=if mkE b n d high=0 then ratV (if b then -(n:Int) else n) d else ratV 0 0
theorem neg_back (n:Nat) (h:n≤9223372036854775808):wrap64 (IntKind.u64.wrap (-(n:Int)))=-(n:Int):=by
  simp only [IntKind.wrap_u64]
  unfold wrap64
  omega
theorem rmade_any (b:Bool) (n d high:Nat) (w:World) (h1:n<18446744073709551616) (h2:d<18446744073709551616) (h3:high<18446744073709551616):Calls Tryz.prog 180 #[.bool b,.int .u64 n,.int .u64 d,.int .u64 high] w fun e w'=>e=.returned (.tuple #[mkV b n d high,.int .i64 (mkE b n d high)])∧Below w.heap.size w w':=by
  obtain ⟨⟨r0,r1⟩,f0,f1,hsz⟩:=rat_blk (BlkIs.new w #[.int .i64 0,.int .i64 0] 125)
  by_cases h:high > 0∨d > 9223372036854775807∨n > 9223372036854775808∨(n > 9223372036854775807∧b=false)
  · have HE:=hide (show mkE b n d high=2 by rw [mkE,if_pos h])
    have hv:=hide (show mkV b n d high=.agg #[.int .i64 0,.int .i64 0] by rw [mkV,HE.out];rfl)
    obtain ⟨E,hE⟩:∃ E,mkE b n d high=E:=⟨_,rfl⟩
    obtain ⟨V,hV⟩:∃ V,mkV b n d high=V:=⟨_,rfl⟩
    rw [hE] at HE ⊢
    rw [hV] at hv ⊢
    clear hE hV
    cases b
    all_goals
      simp at h
      rcases (show 0<high∨(high=0∧9223372036854775807<d)∨(high=0∧d≤9223372036854775807∧9223372036854775808<n)∨(high=0∧d≤9223372036854775807∧n=9223372036854775808) by omega) with g1 | ⟨rfl,g2⟩ | ⟨rfl,g2,g3⟩ | ⟨rfl,g2,g3⟩
      all_goals
        go_enter Tryz.func180,Tryz.ntmps180
        go_wp2
        all_goals first
          | (exfalso;omega)
          | exact bodyPost_ret (v:=.tuple #[.agg #[.int .i64 0,.int .i64 0],.int .i64 2]) (by simp (maxDischargeDepth:=9) [results,Tryz.results180,go_sem,r0,r1,f0,f1,hsz]) rfl ⟨by rw [hv.out,HE.out],by (repeat' exact bel)⟩
  · have HE:=hide (show mkE b n d high=0 by rw [mkE,if_neg h])
    have hv:=hide (show mkV b n d high=.agg #[.int .i64 (if b then -(n:Int) else n),.int .i64 d] by rw [mkV,if_pos HE.out];rfl)
    obtain ⟨E,hE⟩:∃ E,mkE b n d high=E:=⟨_,rfl⟩
    obtain ⟨V,hV⟩:∃ V,mkV b n d high=V:=⟨_,rfl⟩
    rw [hE] at HE ⊢
    rw [hV] at hv ⊢
    clear hE hV
    have hnb:=neg_back n (by omega)
    cases b
    all_goals
      simp at h
      obtain ⟨g1,g2,g3⟩:=h
      have HNB:=hide hnb
      clear hnb
      go_enter Tryz.func180,Tryz.ntmps180
      go_wp2
      all_goals first
        | (exfalso;omega)
        | exact bodyPost_ret (v:=.tuple #[.agg #[.int .i64 (n:Int),.int .i64 d],.int .i64 0]) (by simp (maxDischargeDepth:=9) [results,Tryz.results180,go_sem,r0,r1,f0,f1,hsz]) rfl ⟨by rw [hv.out,HE.out];rfl,by (repeat' exact bel)⟩
        | (rw [HNB.out];exact bodyPost_ret (v:=.tuple #[.agg #[.int .i64 (-(n:Int)),.int .i64 d],.int .i64 0]) (by simp (maxDischargeDepth:=9) [results,Tryz.results180,go_sem,r0,r1,f0,f1,hsz]) rfl ⟨by rw [hv.out,HE.out];rfl,by (repeat' exact bel)⟩)
end Go.Proofs.YtjhhmeoibfdcmaaGreat
namespace Go.Proofs.YtjhhmeoibfdcmaaGreat
open Go.RowKit Qd
theorem rsize_b (a:Int) (w:World) (h:in64 a):Calls Tryz.prog 179 #[.int .i64 a] w fun e w'=>e=.returned (.int .u64 (a.natAbs:Int))∧Below w.heap.size w w':=
  (rsize_any a w h).mono fun _ _ ⟨he,hw⟩=>⟨he,by rw [← hw];exact Below.refl _ _⟩
theorem rcheck_yes (n:Int) (d:Nat) (w:World) (hn:in64 n) (h1:1≤d) (h2:d≤9223372036854775807) (hg:Nat.gcd n.natAbs d=1):Calls Tryz.prog 220 #[ratV n d] w fun e w'=>e=.returned (.int .i64 0)∧Below w.heap.size w w':=by
  have HS:=hide (fun W=>rsize_b n W hn)
  have HC:=hide (fun W=>show Calls Tryz.prog 178 #[.int .u64 (n.natAbs:Int),.int .u64 (d:Int)] W fun e w'=>e=.returned (.int .u64 1)∧Below W.heap.size W w' from (rcommon_any n.natAbs d W (by unfold in64 at hn;omega) (by omega)).mono fun _ _ h=>by rw [hg] at h;exact h)
  obtain ⟨⟨r0,r1⟩,f0,f1,hsz⟩:=rat_blk (BlkIs.new w #[.int .i64 n,.int .i64 (d:Int)] 125)
  have hd:decide ((d:Int)<1)=false:=by simp;omega
  have hd2:¬ (d:Int)<1:=by omega
  have k0:=cell_regrown r0
  have k1:=cell_regrown r1
  clear hg hn
  simp only [ratV]
  go_enter Tryz.func220,Tryz.ntmps220
  go_wp2_with fail
  refine wp_region_quiet_below (by kernel_rfl) (by kernel_rfl) ?_
  repeat (go_big_quiet_step (first | exact Calls.regrown_of (HS.out _) | exact Calls.regrown_of (HC.out _) | fail))
  refine wpQuiet_nil ?_
  intro _ hw'
  obtain ⟨⟨dq,osq⟩,hw2⟩:=hw'
  subst hw2
  obtain ⟨wq,hwq⟩:∃ wq,Go.Sort.grow (redrawn (w.alloc (.cells #[.int .i64 n,.int .i64 (d:Int)] 125)) dq) osq=wq:=⟨_,rfl⟩
  have HBQ:=hide (show Below w.heap.size w wq from by
    rw [← hwq]
    have h:=below_regrown (w.alloc (.cells #[.int .i64 n,.int .i64 (d:Int)] 125)) dq osq
    exact (ww (n:=w.heap.size) (w:=w) h).out)
  rw [hwq]
  clear hwq
  go_wp2
  go_ret
  exact ⟨rfl,HBQ.out⟩
theorem rmake_yes (x n:Nat) (w:World) (h1:1≤n) (h2:n≤9223372036854775807) (hx:x≤9223372036854775807):Calls Tryz.prog 114 #[.int .i64 x,.int .i64 n] w fun e w'=>e=.returned (.tuple #[ratV ((x / Nat.gcd x n:Nat):Int) ((n / Nat.gcd x n:Nat):Int),.int .i64 0])∧Below w.heap.size w w':=by
  obtain ⟨⟨r0,r1⟩,f0,f1,hsz⟩:=rat_blk (BlkIs.new w #[.int .i64 0,.int .i64 0] 125)
  have hg0:0<Nat.gcd x n:=Nat.gcd_pos_of_pos_right _ (by omega)
  have HC:=hide (fun W=>rcommon_any x n W (by omega) (by omega))
  have HSX:=hide (fun W=>show Calls Tryz.prog 179 #[.int .i64 (x:Int)] W fun e w'=>e=.returned (.int .u64 (x:Int))∧w'=W from (rsize_any x W (by unfold in64;omega)).mono fun _ _ h=>⟨h.1,h.2.symm⟩)
  have HSN:=hide (fun W=>show Calls Tryz.prog 179 #[.int .i64 (n:Int)] W fun e w'=>e=.returned (.int .u64 (n:Int))∧w'=W from (rsize_any n W (by unfold in64;omega)).mono fun _ _ h=>⟨h.1,h.2.symm⟩)
  have hX:x / Nat.gcd x n≤9223372036854775807:=Nat.le_trans (Nat.div_le_self _ _) hx
  have hN:n / Nat.gcd x n≤9223372036854775807:=Nat.le_trans (Nat.div_le_self _ _) h2
  have hm0:mkE false (x / Nat.gcd x n) (n / Nat.gcd x n) 0=0:=by rw [mkE,if_neg (by omega)]
  have hm1:mkV false (x / Nat.gcd x n) (n / Nat.gcd x n) 0=ratV ((x / Nat.gcd x n:Nat):Int) ((n / Nat.gcd x n:Nat):Int):=by rw [mkV,if_pos hm0];rfl
  have HM:=hide (fun W=>rmade_any false (x / Nat.gcd x n) (n / Nat.gcd x n) 0 W (by omega) (by omega) (by omega))
  rw [hm0,hm1] at HM
  have hxn:¬ (bits .xor .i64 (x:Int) (n:Int)<0):=by rw [xor_neg (by unfold in64;omega) (by unfold in64;omega)];omega
  have hxn2:decide (bits .xor .i64 (x:Int) (n:Int)<0)=false:=by simpa using hxn
  have hxd:=nat_tdiv x (Nat.gcd x n)
  have hnd:=nat_tdiv n (Nat.gcd x n)
  generalize Nat.gcd x n=g at *
  generalize x / g=X at *
  generalize n / g=D at *
  have hg1:¬ (g:Int)=0:=by omega
  have hg2:¬ g=0:=by omega
  have hwX:=m64_wrap X (by omega)
  have hwD:=m64_wrap D (by omega)
  have hn0:¬ (n:Int)=0:=by omega
  simp only [ratV] at HM ⊢
  have HXN:=hide hxn
  clear hm0 hm1 hxn
  go_enter Tryz.func114,Tryz.ntmps114
  go_wp2_with fail
  refine (HSX.out _).mono ?_
  rintro e w1 ⟨rfl,rfl⟩
  go_wp2_with fail
  refine (HSN.out _).mono ?_
  rintro e w1 ⟨rfl,rfl⟩
  go_wp2_with fail
  refine (HC.out _).mono ?_
  rintro e w1 ⟨rfl,hb1⟩
  have K1:=hide (BlkIs.call (BlkIs.new w #[.int .i64 0,.int .i64 0] 125) hb1)
  have HB1:=hide (show Below w.heap.size w w1 from (ww (n:=w.heap.size) (w:=w) hb1).out)
  clear hb1 r0 r1 f0 f1 hsz
  go_wp2_with fail
  refine wp_region_any (by kernel_rfl) ?_
  change wpAny _ _ _ _ _ _ _ (World.drew w1)
  have K2:=hide (K1.out.call (by (repeat' exact bel):Below w1.heap.size w1 w1.drew))
  have HB2:=hide (show Below w.heap.size w w1.drew from by have h:=HB1.out;(repeat' exact bel))
  generalize w1.drew=w2 at *
  refine wpAny_take (i:=0) (v:=?_) rfl (by kernel_rfl) (by kernel_rfl) (by kernel_rfl) (fun _ _ _ h=>h) (Or.inl ⟨by rfl,?_⟩) ?_
  rotate_left
  · (intro wz;go_simp;try with_reducible rfl)
  refine wpAny_take (i:=1) (v:=?_) rfl (by kernel_rfl) (by kernel_rfl) (by kernel_rfl) (fun _ _ _ h=>h) (Or.inl ⟨by rfl,?_⟩) ?_
  rotate_left
  · (intro wz;go_simp;try with_reducible rfl)
  refine wpAny_take (i:=2) (v:=?_) rfl (by kernel_rfl) (by kernel_rfl) (by kernel_rfl) (fun _ _ _ h=>h) (Or.inl ⟨by rfl,?_⟩) ?_
  rotate_left
  · (intro wz;go_simp;try with_reducible rfl)
  refine wpAny_take (i:=3) (v:=?_) rfl (by kernel_rfl) (by kernel_rfl) (by kernel_rfl) (fun _ _ _ h=>h) (Or.inl ⟨by rfl,?_⟩) ?_
  rotate_left
  · (intro wz;go_simp;try with_reducible rfl)
  refine wpAny_take (i:=4) (v:=?_) rfl (by kernel_rfl) (by kernel_rfl) (by kernel_rfl) (fun _ _ _ h=>h) (Or.inl ⟨by rfl,?_⟩) ?_
  rotate_left
  · (intro wz;go_simp;try with_reducible rfl)
  refine wpAny_take (i:=5) (v:=undef) rfl (by kernel_rfl) (by kernel_rfl) (by kernel_rfl) (fun _ _ _ h=>h) (Or.inr ⟨by rfl,rfl⟩) ?_
  refine wpAny_take (i:=6) (v:=undef) rfl (by kernel_rfl) (by kernel_rfl) (by kernel_rfl) (fun _ _ _ h=>h) (Or.inr ⟨by rfl,rfl⟩) ?_
  refine wpAny_take (i:=7) (v:=?_) rfl (by kernel_rfl) (by kernel_rfl) (by kernel_rfl) (fun _ _ _ h=>h) (Or.inl ⟨by rfl,?_⟩) ?_
  rotate_left
  · (intro wz;go_simp;try with_reducible rfl)
  refine wpAny_take (i:=8) (v:=?_) rfl (by kernel_rfl) (by kernel_rfl) (by kernel_rfl) (fun _ _ _ h=>h) (Or.inl ⟨by rfl,?_⟩) ?_
  rotate_left
  · (intro wz;go_simp;try with_reducible rfl)
  refine wpAny_take (i:=10) (v:=?_) rfl (by kernel_rfl) (by kernel_rfl) (by kernel_rfl) (fun _ _ _ h=>h) (Or.inl ⟨by rfl,?_⟩) ?_
  rotate_left
  · (intro wz;go_simp;try with_reducible rfl)
  refine wpAny_take (i:=12) (v:=?_) rfl (by kernel_rfl) (by kernel_rfl) (by kernel_rfl) (fun _ _ _ h=>h) (Or.inl ⟨by rfl,?_⟩) ?_
  rotate_left
  · (intro wz;go_simp;try with_reducible rfl)
  refine wpAny_take (i:=14) (v:=?_) rfl (by kernel_rfl) (by kernel_rfl) (by kernel_rfl) (fun _ _ _ h=>h) (Or.inl ⟨by rfl,?_⟩) ?_
  rotate_left
  · (intro wz;go_simp;try with_reducible rfl)
  refine wpAny_ready (rs:=[9]) (by kernel_rfl) (by simp) ?_
  refine AllReady.cons rfl (fun K hK=>?_) AllReady.nil
  go_simp
  refine (HSX.out _).mono ?_
  rintro e w3 ⟨rfl,rfl⟩
  refine hK _ _ ?_
  clear hK K
  refine wpAny_take (i:=11) (v:=?_) rfl (by kernel_rfl) (by kernel_rfl) (by kernel_rfl) (fun _ _ _ h=>h) (Or.inl ⟨by rfl,?_⟩) ?_
  rotate_left
  · (intro wz;go_simp;try with_reducible rfl)
  refine wpAny_ready (rs:=[13]) (by kernel_rfl) (by simp) ?_
  refine AllReady.cons rfl (fun K hK=>?_) AllReady.nil
  go_simp
  refine (HSN.out _).mono ?_
  rintro e w4 ⟨rfl,rfl⟩
  refine hK _ _ ?_
  clear hK K
  refine wpAny_take (i:=15) (v:=?_) rfl (by kernel_rfl) (by kernel_rfl) (by kernel_rfl) (fun _ _ _ h=>h) (Or.inl ⟨by rfl,?_⟩) ?_
  rotate_left
  · (intro wz;go_simp;try with_reducible rfl)
  refine wpAny_ready (rs:=[16]) (by kernel_rfl) (by simp) ?_
  refine AllReady.cons rfl (fun K hK=>?_) AllReady.nil
  go_simp
  refine (HM.out _).mono ?_
  rintro e w3 ⟨rfl,hb3⟩
  obtain ⟨⟨r0,r1⟩,f0,f1,hsz⟩:=rat_blk (K2.out.call hb3)
  have HB3:=hide (show Below w.heap.size w w3 from by have h:=HB2.out;have h2:=h.size;exact h.trans (hb3.mono h2))
  clear hb3
  have hBel:=HB3.out
  have hle:=hBel.size
  refine hK _ _ ?_
  clear hK K
  refine wpAny_take (i:=17) (v:=?_) rfl (by kernel_rfl) (by kernel_rfl) (by kernel_rfl) (fun _ _ _ h=>h) (Or.inl ⟨by rfl,?_⟩) ?_
  rotate_left
  · (intro wz;go_simp;try with_reducible rfl)
  refine wpAny_take (i:=18) (v:=?_) rfl (by kernel_rfl) (by kernel_rfl) (by kernel_rfl) (fun _ _ _ h=>h) (Or.inl ⟨by rfl,?_⟩) ?_
  rotate_left
  · (intro wz;go_simp;try with_reducible rfl)
  refine wpAny_ready (rs:=[19]) (by kernel_rfl) (by simp) ?_
  refine AllReady.cons rfl (fun K hK=>?_) AllReady.nil
  go_simp
  refine hK _ _ ?_
  clear hK K
  refine wpAny_take (i:=20) (v:=?_) rfl (by kernel_rfl) (by kernel_rfl) (by kernel_rfl) (fun _ _ _ h=>h) (Or.inl ⟨by rfl,?_⟩) ?_
  rotate_left
  · (intro wz;go_simp;try with_reducible rfl)
  refine wpAny_done (by kernel_rfl) ?_ _
  go_simp
  go_wp2
  exact bodyPost_ret (v:=.tuple #[.agg #[.int .i64 (X:Int),.int .i64 (D:Int)],.int .i64 0]) (by simp (maxDischargeDepth:=9) [results,Tryz.results114,go_sem,r0,r1,f0,f1,hsz]) rfl ⟨rfl,by (repeat' exact bel)⟩
end Go.Proofs.YtjhhmeoibfdcmaaGreat
namespace Go.Proofs.YtjhhmeoibfdcmaaGreat
open Go.RowKit Qd
def exP (a:Int) (X D:Nat):Nat:=a.natAbs / Nat.gcd a.natAbs D*X
def exN (a:Int) (X D:Nat):Int:=if a<0 then -(exP a X D:Int) else (exP a X D:Int)
def exM (a:Int) (D:Nat):Nat:=D / Nat.gcd a.natAbs D
def exV (a:Int) (X D:Nat):Value:=if fitE (exN a X D)=0 then ratV (exN a X D) (exM a D) else ratV 0 0
theorem ex_form (a:Int) (X D:Nat):∃ x y:Int,exV a X D=.agg #[.int .i64 x,.int .i64 y]:=by
  unfold exV ratV
  split <;> exact ⟨_,_,rfl⟩
theorem mk_ex (a:Int) (X D:Nat) (hM:exM a D≤9223372036854775807) :
    mkE (decide (a<0)&&decide (0<exP a X D % 18446744073709551616)) (exP a X D % 18446744073709551616) (exM a D) (exP a X D / 18446744073709551616)=fitE (exN a X D) ∧
    mkV (decide (a<0)&&decide (0<exP a X D % 18446744073709551616)) (exP a X D % 18446744073709551616) (exM a D) (exP a X D / 18446744073709551616)=exV a X D:=by
  have key:mkE (decide (a<0)&&decide (0<exP a X D % 18446744073709551616)) (exP a X D % 18446744073709551616) (exM a D) (exP a X D / 18446744073709551616)=fitE (exN a X D):=by
    unfold exN
    generalize exP a X D=P
    by_cases hf:in64 (if a<0 then -(P:Int) else (P:Int))
    · rw [(fit_yes hf).2,mkE,if_neg]
      unfold in64 at hf
      by_cases ha:a<0
      · rw [if_pos ha] at hf
        simp only [ha,decide_true,Bool.true_and,decide_eq_false_iff_not]
        omega
      · rw [if_neg ha] at hf
        simp only [ha,decide_false,Bool.false_and,and_true]
        omega
    · rw [(fit_no hf).2,mkE,if_pos]
      unfold in64 at hf
      by_cases ha:a<0
      · rw [if_pos ha] at hf
        simp only [ha,decide_true,Bool.true_and,decide_eq_false_iff_not]
        omega
      · rw [if_neg ha] at hf
        simp only [ha,decide_false,Bool.false_and,and_true]
        omega
  refine ⟨key,?_⟩
  unfold mkV exV
  rw [key]
  by_cases h0:fitE (exN a X D)=0
  · rw [if_pos h0,if_pos h0]
    have hin:in64 (exN a X D):=by
      by_cases hf:in64 (exN a X D)
      · exact hf
      · rw [(fit_no hf).2] at h0;exact absurd h0 (by decide)
    have:(if (decide (a<0)&&decide (0<exP a X D % 18446744073709551616))=true then -((exP a X D % 18446744073709551616:Nat):Int) else ((exP a X D % 18446744073709551616:Nat):Int))=exN a X D:=by
      unfold exN at hin ⊢
      generalize exP a X D=P at *
      unfold in64 at hin
      by_cases ha:a<0
      · rw [if_pos ha] at hin ⊢
        simp only [ha,decide_true,Bool.true_and,decide_eq_true_eq]
        split <;> omega
      · rw [if_neg ha] at hin ⊢
        simp only [ha,decide_false,Bool.false_and,Bool.false_eq_true,if_false]
        omega
    rw [this]
  · rw [if_neg h0,if_neg h0]
theorem exM_le (a:Int) (D:Nat):exM a D≤D:=Nat.div_le_self _ _
end Go.Proofs.YtjhhmeoibfdcmaaGreat
namespace Go.Proofs.YtjhhmeoibfdcmaaGreat.rateDoes
open Go.ChangeShapes Go.WideShapes Go.ChangeAt Go.RowKit
theorem j1:(Rows.rateDoesRow.wf (OpenSpec.ofChange Rows.rateDoesSpec))=true:=by kernel_rfl
theorem j2:(laidOutB Tryz.pinned.checked.prog)=true:=by kernel_rfl
theorem j3:(mapsRowed Tryz.pinned.checked.prog)=true:=by kernel_rfl
theorem j4:(Tryz.f5.params.all (Tryz.pinned.checked.prog.readableRec ·))=true:=by kernel_rfl
theorem j5:(namedTie Tryz.pinned.checked.prog Rows.rateDoesRow.named Rows.rateDoesSpec.vars)=true:=by kernel_rfl
theorem j6:((Rows.rateDoesRow.stops==[]))=true:=by kernel_rfl
theorem j7:((Tryz.pinned.checked.prog.stops==[]))=true:=by kernel_rfl
theorem j8:((Rows.rateDoesRow.knobs==[]))=true:=by kernel_rfl
theorem j9:((Tryz.pinned.checked.prog.stopKnobs==[]))=true:=by kernel_rfl
theorem j10:((Rows.rateDoesRow.inPlace==Tryz.pinned.checked.prog.inPlace 5))=true:=by kernel_rfl
theorem j11:((Rows.rateDoesRow.unfollowed==Tryz.pinned.checked.prog.unfollowed 5))=true:=by kernel_rfl
theorem j12:((Rows.rateDoesRow.recurses==Tryz.pinned.checked.prog.recurses 5))=true:=by kernel_rfl
theorem j13:((Rows.rateDoesRow.named==Tryz.pinned.checked.prog.varsNamed 5))=true:=by kernel_rfl
theorem j14:((Rows.rateDoesRow.maps==(Tryz.f5.params.toList++Rows.rateDoesSpec.plain.varTypes Tryz.pinned.checked.prog).any (Tryz.pinned.checked.prog.mapsRec ·)))=true:=by kernel_rfl
theorem j15:((Rows.rateDoesRow.ifaces==(Tryz.f5.params.toList++Rows.rateDoesSpec.plain.varTypes Tryz.pinned.checked.prog).any (Tryz.pinned.checked.prog.ifacesRec ·)))=true:=by kernel_rfl
theorem j16:((Rows.rateDoesRow.mapsOut==Tryz.pinned.checked.prog.mapsAmong Tryz.f5.resultTypes.toList))=true:=by kernel_rfl
theorem j17:((Rows.rateDoesRow.loops==(Tryz.f5.params.toList++Rows.rateDoesSpec.plain.varTypes Tryz.pinned.checked.prog).any (Tryz.pinned.checked.prog.loopsFrom ·)))=true:=by kernel_rfl
theorem j18:((Rows.rateDoesRow.wideKeys==(Tryz.f5.params.toList++Rows.rateDoesSpec.plain.varTypes Tryz.pinned.checked.prog++Tryz.f5.resultTypes.toList).any (Tryz.pinned.checked.prog.wideKeysFrom ·)))=true:=by kernel_rfl
theorem j19:(Rows.rateDoesSpec.vars.all (Tryz.pinned.checked.prog.varReadable ·))=true:=by kernel_rfl
theorem j20:(Tryz.f5.resultTypes.all (fun t=>Tryz.pinned.checked.prog.readableRec t&&decide (t<Tryz.pinned.checked.prog.types.size)))=true:=by kernel_rfl
theorem j21:((Rows.rateDoesRow.ifacesOut==Tryz.f5.resultTypes.toList.any (Tryz.pinned.checked.prog.ifacesRec ·)))=true:=by kernel_rfl
theorem j22:((Rows.rateDoesRow.loopsOut==Tryz.f5.resultTypes.toList.any (Tryz.pinned.checked.prog.loopsFrom ·)))=true:=by kernel_rfl
theorem j23:((Rows.rateDoesRow.plainKeys==Tryz.pinned.checked.prog.plainKeys))=true:=by kernel_rfl
theorem j24:(Rows.rateDoesRow.shortTexts.isNone)=true:=by kernel_rfl
theorem j25:(Tryz.pinned.checked.prog.stopsHeard)=true:=by kernel_rfl
theorem j26:(Tryz.pinned.checked.prog.mayEnter)=true:=by kernel_rfl
theorem j27:((Rows.rateDoesRow.lifted==Tryz.pinned.checked.prog.liftsFinal))=true:=by kernel_rfl
theorem j28:((Tryz.pinned.checked.prog.make==some Rows.rateDoesRow.make))=true:=by kernel_rfl
theorem j30:((Rows.rateDoesRow.pinned==Rows.rateDoesRow.pinnedBy))=true:=by kernel_rfl
theorem j31:((Rows.rateDoesRow.veiled==(Tryz.f5.params.toList++Rows.rateDoesSpec.plain.varTypes Tryz.pinned.checked.prog++Tryz.f5.resultTypes.toList).any (Tryz.pinned.checked.prog.veiledRec ·)))=true:=by kernel_rfl
theorem j32:(Rows.rateDoesRow.veiledFits Tryz.pinned.checked.prog Tryz.f5.params.toList (Tryz.f5.params.toList++Rows.rateDoesSpec.plain.varTypes Tryz.pinned.checked.prog++Tryz.f5.resultTypes.toList))=true:=by kernel_rfl
theorem joined:joinedFacts Tryz.pinned.checked.prog 5 Tryz.f5 Rows.rateDoesSpec Rows.rateDoesRow=true:=by
  unfold joinedFacts
  rw [j1,j2,j3,j4,j5,j6,j7,j8,j9,j10,j11,j12,j13,j14,j15,j16,j17,j18,j19,j20,j21,j22,j23,j24,j25,j26,j27,j28,j30,j31,j32]
  kernel_rfl
end Go.Proofs.YtjhhmeoibfdcmaaGreat.rateDoes
