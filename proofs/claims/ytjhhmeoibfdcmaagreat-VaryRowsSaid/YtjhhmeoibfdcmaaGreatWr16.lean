/- Lemmas. -/
import Derived.Lib.QuietBelow
import Derived.Test.YtjhhmeoibfdcmaaGreatWr06
import Derived.Test.YtjhhmeoibfdcmaaGreatWr07
import Derived.Test.YtjhhmeoibfdcmaaGreatWr08
import Derived.Test.YtjhhmeoibfdcmaaGreatWr09
import Derived.Test.YtjhhmeoibfdcmaaGreatWr10
set_option linter.unusedSimpArgs false
set_option linter.unusedVariables false
set_option maxRecDepth 100000
set_option maxHeartbeats 12800000
namespace Go.Proofs.YtjhhmeoibfdcmaaGreat
section
open Go.RowKit Qd
theorem kE (a:Int) (w:World) (h:aX a):Calls Tryz.prog 185 #[a] w fun e o=>e=.returned (.int .u64 (a.natAbs:Int))∧Below w w o:=by
 have E:=hide h;unfold aX at h;obtain ⟨G,H⟩:=h;go_enter Tryz.func185,Tryz.ntmps185;by_cases F:a<0
 ·have f:=hide (show (a.natAbs:Int)=-(a+1)+1 by omega)
  go_wp2
  all_goals first
   | (exfalso;omega)
   | (go_ret;exact ⟨aZ (by rw [f.out]),by (repeat' exact bel)⟩)
 ·have f:=hide (show (a.natAbs:Int)=a by omega)
  go_wp2
  all_goals first
   | (exfalso;omega)
   | (go_ret;exact ⟨aZ (by rw [f.out]),by (repeat' exact bel)⟩)
theorem fD (b:Bool) (H L:Int) (N:Nat) (w:World) (F:Hid (0≤H∧H<18446744073709551616)) (G:Hid (0≤L∧L<18446744073709551616)) (I:Hid (H*18446744073709551616+L=N)) :
  Calls Tryz.prog 175 #[.bool b,.int .u64 H,.int .u64 L] w fun e J=>e=.returned (cU b N)∧Below w w J:=by
 obtain ⟨o,O⟩:=F.out;obtain ⟨E,R⟩:=G.out;have S:=I.out;obtain ⟨f,rfl⟩:=Int.eq_ofNat_of_zero_le o;obtain ⟨h,rfl⟩:=Int.eq_ofNat_of_zero_le E;exact xX b f h N w (hide om) (hide om) (hide om)
theorem qk (w:World) (hi lo:Int):bn ((w.alloc (.cells #[hi,.int .u64 lo] 103)).alloc (nD false)) (w.heap.size+1) false rb:=by
 simpa using bn.zero (w.alloc (.cells #[hi,.int .u64 lo] 103)) false
theorem AU (hi lo:Int) (N:Nat) (w:World) (h1:0≤hi) (h2:hi≤9223372036854775807) (W:0≤lo) (h4:lo<18446744073709551616) (E:Hid (hi*18446744073709551616+lo=N)) :
  Calls Tryz.prog 173 #[.agg #[hi,.int .u64 lo]] w fun e w'=>e=.returned (cU false N)∧Below w w w':=by
 have F:=hide (fun w=>fD false hi lo N w (hide om) (hide ⟨W,h4⟩) E);have G:=hide (qk w hi lo);clear E;go_enter Tryz.func173,Tryz.ntmps173;go_wp2_with fail;refine (F.out _).mono ?_;rintro e w1 ⟨rfl,f⟩;obtain ⟨⟨r0,r1,r2,r3,r4,r5,r6,r7,r8⟩,⟨H,I,J,O,R,S,T,U,V⟩,hz⟩:=bn.nine (G.out.call f);have o:Hid (Below w w w1):=ww f;have h:=o.out;have ab:=h.size;clear f;go_wp2;refine bodyPost_ret (v:=cU false N) (by simp (maxDischargeDepth:=9) [results,Tryz.results173,go_sem,r0,r1,r2,r3,r4,r5,r6,r7,r8,H,I,J,O,R,S,T,U,V,hz]) rfl ⟨rfl,by (repeat' exact bel)⟩
theorem BR (hi lo:Int) (N:Nat) (w:World) (h1:-9223372036854775808≤hi) (h2:hi<0) (h3:0≤lo) (h4:lo<18446744073709551616) (hN:Hid (-(hi*18446744073709551616+lo)=N)) :
  Calls Tryz.prog 173 #[.agg #[hi,.int .u64 lo]] w fun e w'=>e=.returned (cU true N)∧Below w w w':=by
 have HZ:=hide (qk w hi lo);have G:=hide (fun (h:lo=0) w=>fD true (-(hi+1)+1) 0 N w (hide om) (hide om) (hide (by have:=hN.out;omega)));have H:=hide (fun (h:0<lo) w=>fD true (-(hi+1)) (18446744073709551615-lo+1) N w (hide om) (hide om) (hide (by have:=hN.out;omega)));clear hN;go_enter Tryz.func173,Tryz.ntmps173;by_cases h0:lo=0
 ·have F:=hide (G.out h0)
  subst h0;go_wp2_with fail;refine (F.out _).mono ?_;rintro e w1 ⟨rfl,f⟩;obtain ⟨⟨r0,r1,r2,r3,r4,r5,r6,r7,r8⟩,⟨I,J,O,R,S,T,U,V,W⟩,hz⟩:=bn.nine (HZ.out.call f);have E:Hid (Below w w w1):=ww f;have o:=E.out;have ab:=o.size;clear f;go_wp2;refine bodyPost_ret (v:=cU true N) (by simp (maxDischargeDepth:=9) [results,Tryz.results173,go_sem,r0,r1,r2,r3,r4,r5,r6,r7,r8,I,J,O,R,S,T,U,V,W,hz]) rfl ⟨rfl,by (repeat' exact bel)⟩
 ·have F:=hide (H.out om)
  have hb:(18446744073709551615-lo==18446744073709551615)=false:=ae;go_wp2_with fail;refine (F.out _).mono ?_;rintro e w1 ⟨rfl,f⟩;obtain ⟨⟨r0,r1,r2,r3,r4,r5,r6,r7,r8⟩,⟨I,J,O,R,S,T,U,V,W⟩,hz⟩:=bn.nine (HZ.out.call f);have E:Hid (Below w w w1):=ww f;have o:=E.out;have ab:=o.size;clear f;go_wp2;refine bodyPost_ret (v:=cU true N) (by simp (maxDischargeDepth:=9) [results,Tryz.results173,go_sem,r0,r1,r2,r3,r4,r5,r6,r7,r8,I,J,O,R,S,T,U,V,W,hz]) rfl ⟨rfl,by (repeat' exact bel)⟩
theorem lK (x:Int) (w:World) (h:bL x):Calls Tryz.prog 173 #[cv x] w fun e F=>e=.returned (cU (decide (x<0)) x.natAbs)∧Below w w F:=by
 have hi:=rH h;unfold aX at hi;have f:0≤x % 18446744073709551616:=Int.emod_nonneg _ ag;have o:x % 18446744073709551616<18446744073709551616:=Int.emod_lt_of_pos _ ag;by_cases E:0≤x / 18446744073709551616
 ·rw [show decide (x<0)=false by simp;omega]
  exact AU _ _ _ w E hi.2 f o (hide om)
 ·rw [show decide (x<0)=true by simp;omega]
  exact BR _ _ _ w hi.1 om f o (hide om)
abbrev jL:Obj:=.cells #[.int .i64 0,.int .u64 0] 103
theorem mY (w:World) (b:Bool) (N:Nat):bn ((w.alloc (us b N)).alloc jL) w.heap.size b (ga N)∧ap ((w.alloc (us b N)).alloc jL) (w.heap.size+1) #[.int .i64 0,.int .u64 0] 103:=
 ⟨(bn.numO w b N).alloc _,by simpa using ap.new (w.alloc (us b N)) #[.int .i64 0,.int .u64 0] 103⟩
theorem uK (N:Nat) (H L:Int) (w:World) (h7:H<9223372036854775808) (h3:0≤H) (h4:H<18446744073709551616) (h5:0≤L) (h6:L<18446744073709551616) (J:Hid (H*18446744073709551616+L=N)) :
  Calls Tryz.prog 176 #[cU false N] w fun e G=>e=.returned (.tuple #[.agg #[H,.int .u64 (L)],.bool true])∧Below w w G:=by
 obtain ⟨R,O⟩:∃ R:Int,R=H:=⟨_,rfl⟩;rw [← O];have E:=hide (mY w false N);have T:=hide (fun w=>show Calls Tryz.prog 177 #[cU false N] w fun e G=>e=.returned (.tuple #[.int .u64 H,.int .u64 L])∧Below w w G by
  obtain ⟨S,rfl⟩:=Int.eq_ofNat_of_zero_le h3;obtain ⟨U,rfl⟩:=Int.eq_ofNat_of_zero_le h5;exact fU false N S U w (hide om) (hide om) (hide (by have:=J.out;omega)))
 obtain ⟨⟨I,V,W,a3,a4,a5,a6,a7,a8⟩,_⟩:=bn.nine E.out.1;clear J;go_enter Tryz.func176,Tryz.ntmps176;go_wp2_with fail;refine (T.out _).mono ?_;rintro e w1 ⟨rfl,f⟩;have o:Hid (Below w w w1):=ww f;have h:=o.out;have ab:=h.size;have F:=hide (E.out.1.call f);obtain ⟨⟨r0,r1⟩,f0,f1,hz⟩:=cO (E.out.2.call f);clear f I V W a3 a4 a5 a6 a7 a8;have I:=F.out.sign
 all_goals
  go_wp2
  all_goals first
   | (exfalso;omega)
   | (refine bodyPost_ret (v:=.tuple #[.agg #[R,.int .u64 (L)],.bool true]) (by simp (maxDischargeDepth:=9) [results,Tryz.results176,go_sem,r0,r1,f0,f1,hz] <;> omega) rfl ⟨by first | rfl | rw [O],by (repeat' exact bel)⟩)
theorem tS (N:Nat) (H L:Int) (w:World) (h7:H=0) (h8:L=0) (h3:0≤H) (h4:H<18446744073709551616) (h5:0≤L) (h6:L<18446744073709551616) (J:Hid (H*18446744073709551616+L=N)) :
  Calls Tryz.prog 176 #[cU true N] w fun e G=>e=.returned (.tuple #[.agg #[.int .i64 (0),.int .u64 (0)],.bool true])∧Below w w G:=by
 obtain ⟨R,O⟩:∃ R:Int,R=0:=⟨_,rfl⟩;rw [← O];have E:=hide (mY w true N);have T:=hide (fun w=>show Calls Tryz.prog 177 #[cU true N] w fun e G=>e=.returned (.tuple #[.int .u64 H,.int .u64 L])∧Below w w G by
  obtain ⟨S,rfl⟩:=Int.eq_ofNat_of_zero_le h3;obtain ⟨U,rfl⟩:=Int.eq_ofNat_of_zero_le h5;exact fU true N S U w (hide om) (hide om) (hide (by have:=J.out;omega)))
 obtain ⟨⟨I,V,W,a3,a4,a5,a6,a7,a8⟩,_⟩:=bn.nine E.out.1;clear J;go_enter Tryz.func176,Tryz.ntmps176;go_wp2_with fail;refine (T.out _).mono ?_;rintro e w1 ⟨rfl,f⟩;have o:Hid (Below w w w1):=ww f;have h:=o.out;have ab:=h.size;have F:=hide (E.out.1.call f);obtain ⟨⟨r0,r1⟩,f0,f1,hz⟩:=cO (E.out.2.call f);clear f I V W a3 a4 a5 a6 a7 a8;have I:=F.out.sign;subst h7 h8
 all_goals
  go_wp2
  all_goals first
   | (exfalso;omega)
   | (refine bodyPost_ret (v:=.tuple #[.agg #[R,.int .u64 (0)],.bool true]) (by simp (maxDischargeDepth:=9) [results,Tryz.results176,go_sem,r0,r1,f0,f1,hz] <;> omega) rfl ⟨by first | rfl | rw [O],by (repeat' exact bel)⟩)
theorem vT (N:Nat) (H L:Int) (w:World) (h7:0<H) (h8:H≤9223372036854775808) (h9:L=0) (h3:0≤H) (h4:H<18446744073709551616) (h5:0≤L) (h6:L<18446744073709551616) (J:Hid (H*18446744073709551616+L=N)) :
  Calls Tryz.prog 176 #[cU true N] w fun e G=>e=.returned (.tuple #[.agg #[.int .i64 (-H),.int .u64 (0)],.bool true])∧Below w w G:=by
 obtain ⟨R,O⟩:∃ R:Int,R=-H:=⟨_,rfl⟩;rw [← O];have E:=hide (mY w true N);have U:=hide (fun w=>show Calls Tryz.prog 177 #[cU true N] w fun e G=>e=.returned (.tuple #[.int .u64 H,.int .u64 L])∧Below w w G by
  obtain ⟨T,rfl⟩:=Int.eq_ofNat_of_zero_le h3;obtain ⟨V,rfl⟩:=Int.eq_ofNat_of_zero_le h5;exact fU true N T V w (hide om) (hide om) (hide (by have:=J.out;omega)))
 obtain ⟨⟨I,W,a2,a3,a4,a5,a6,a7,a8⟩,_⟩:=bn.nine E.out.1;clear J;go_enter Tryz.func176,Tryz.ntmps176;go_wp2_with fail;refine (U.out _).mono ?_;rintro e w1 ⟨rfl,f⟩;have o:Hid (Below w w w1):=ww f;have h:=o.out;have ab:=h.size;have F:=hide (E.out.1.call f);obtain ⟨⟨r0,r1⟩,f0,f1,hz⟩:=cO (E.out.2.call f);clear f I W a2 a3 a4 a5 a6 a7 a8;have I:=F.out.sign;subst h9;have hH:(H==0)=false:=ae;rcases (show H=9223372036854775808∨H<9223372036854775808 by omega) with S | S
 rotate_left
 have ad:(H==9223372036854775808)=false:=ae
 rotate_left
 subst S
 all_goals
  go_wp2
  all_goals first
   | (exfalso;omega)
   | (refine bodyPost_ret (v:=.tuple #[.agg #[R,.int .u64 (0)],.bool true]) (by simp (maxDischargeDepth:=9) [results,Tryz.results176,go_sem,r0,r1,f0,f1,hz] <;> omega) rfl ⟨by first | rfl | rw [O],by (repeat' exact bel)⟩)
theorem wE (N:Nat) (H L:Int) (w:World) (h7:H<9223372036854775808) (h8:0<L) (h3:0≤H) (h4:H<18446744073709551616) (h5:0≤L) (h6:L<18446744073709551616) (J:Hid (H*18446744073709551616+L=N)) :
  Calls Tryz.prog 176 #[cU true N] w fun e G=>e=.returned (.tuple #[.agg #[.int .i64 (-H-1),.int .u64 (18446744073709551616-L)],.bool true])∧Below w w G:=by
 obtain ⟨R,O⟩:∃ R:Int,R=-H-1:=⟨_,rfl⟩;rw [← O];have E:=hide (mY w true N);have U:=hide (fun w=>show Calls Tryz.prog 177 #[cU true N] w fun e G=>e=.returned (.tuple #[.int .u64 H,.int .u64 L])∧Below w w G by
  obtain ⟨T,rfl⟩:=Int.eq_ofNat_of_zero_le h3;obtain ⟨V,rfl⟩:=Int.eq_ofNat_of_zero_le h5;exact fU true N T V w (hide om) (hide om) (hide (by have:=J.out;omega)))
 obtain ⟨⟨I,W,a2,a3,a4,a5,a6,a7,a8⟩,_⟩:=bn.nine E.out.1;clear J;go_enter Tryz.func176,Tryz.ntmps176;go_wp2_with fail;refine (U.out _).mono ?_;rintro e w1 ⟨rfl,f⟩;have o:Hid (Below w w w1):=ww f;have h:=o.out;have ab:=h.size;have F:=hide (E.out.1.call f);obtain ⟨⟨r0,r1⟩,f0,f1,hz⟩:=cO (E.out.2.call f);clear f I W a2 a3 a4 a5 a6 a7 a8;have I:=F.out.sign;have hL:(L==0)=false:=ae;rcases (show H=0∨0<H by omega) with S | S
 rotate_left
 have ad:(H==0)=false:=ae;have ah:(H==9223372036854775808)=false:=ae
 rotate_left
 subst S
 all_goals
  go_wp2
  all_goals first
   | (exfalso;omega)
   | (refine bodyPost_ret (v:=.tuple #[.agg #[R,.int .u64 (18446744073709551616-L)],.bool true]) (by simp (maxDischargeDepth:=9) [results,Tryz.results176,go_sem,r0,r1,f0,f1,hz] <;> omega) rfl ⟨by first | rfl | rw [O],by (repeat' exact bel)⟩)
theorem gp (b:Bool) (N:Nat) (n:Int) (w:World) (G:n=if b then -(N:Int) else N) (h:bL n):Calls Tryz.prog 176 #[cU b N] w fun e I=>e=.returned (.tuple #[cv n,.bool true])∧Below w w I:=by
 unfold bL at h;have o:0≤(N:Int) % 18446744073709551616:=Int.emod_nonneg _ ag;have E:(N:Int) % 18446744073709551616<18446744073709551616:=Int.emod_lt_of_pos _ ag;cases b
 ·simp at G
  have f:=uK N (n / 18446744073709551616) (n % 18446744073709551616) w om om om om om (hide om);exact f
 ·simp at G
  by_cases F:(N:Int) % 18446744073709551616=0
  ·by_cases H:(N:Int) / 18446744073709551616=0
   ·have f:=tS N ((N:Int) / 18446744073709551616) ((N:Int) % 18446744073709551616) w H F om om o E (hide om)
    rw [cv,show n / 18446744073709551616=0 by omega,show n % 18446744073709551616=0 by omega];exact f
   ·have f:=vT N ((N:Int) / 18446744073709551616) ((N:Int) % 18446744073709551616) w om om F om om o E (hide om)
    rw [cv,show n / 18446744073709551616=-((N:Int) / 18446744073709551616) by omega,show n % 18446744073709551616=0 by omega];exact f
  ·have f:=wE N ((N:Int) / 18446744073709551616) ((N:Int) % 18446744073709551616) w om om om om o E (hide om)
   rw [cv,show n / 18446744073709551616=-((N:Int) / 18446744073709551616)-1 by omega,show n % 18446744073709551616=18446744073709551616-(N:Int) % 18446744073709551616 by omega];exact f
theorem jz (w:World):ap (w.alloc jL) w.heap.size #[.int .i64 0,.int .u64 0] 103:=ap.new w _ _
theorem ut (a:Int):a=if decide (a<0) then -(a.natAbs:Int) else a.natAbs:=by
 by_cases h:a<0
 ·simp [h];omega
 ·simp [h];omega
theorem uV (a hi lo:Int) (N:Nat) (b:Bool) (w:World) (hb:decide (a<0)=b)
  (V:Hid (∀ w,Calls Tryz.prog 185 #[a] w fun e E=>e=.returned (.int .u64 (N:Int))∧Below w w E))
  (U:Hid (∀ w,Calls Tryz.prog 175 #[.bool b,.int .u64 0,.int .u64 (N:Int)] w fun e E=>e=.returned (cU b N)∧Below w w E))
  (T:Hid (∀ w,Calls Tryz.prog 176 #[cU b N] w fun e E=>e=.returned (.tuple #[.agg #[hi,.int .u64 lo],.bool true])∧Below w w E)) :
  Calls Tryz.prog 124 #[a] w fun e E=>e=.returned (.agg #[hi,.int .u64 lo])∧Below w w E:=by
 have W:=hide (jz w);go_enter Tryz.func124,Tryz.ntmps124;go_wp2_with fail;refine (V.out _).mono ?_;rintro e w1 ⟨rfl,f⟩;have J:=hide (W.out.call f);have G:Hid (Below w w w1):=ww f;clear f;go_wp2_with fail;refine (U.out _).mono ?_;rintro e w2 ⟨rfl,h⟩;have O:=hide (J.out.call h);have H:Hid (Below w w w2):=by have S:=G.out;have hs:=S.size;exact ww h
 clear h;go_wp2_with fail;refine (T.out _).mono ?_;rintro e w3 ⟨rfl,o⟩;have R:=hide (O.out.call o);have I:Hid (Below w w w3):=by have S:=H.out;have hs:=S.size;exact ww o
 have F:=I.out;have ab:=F.size;clear o;obtain ⟨⟨r0,r1⟩,f0,f1,hz⟩:=cO R.out;go_wp2;refine bodyPost_ret (v:=.agg #[hi,.int .u64 lo]) (by simp (maxDischargeDepth:=9) [results,Tryz.results124,go_sem,r0,r1,f0,f1,hz]) rfl ⟨rfl,by (repeat' exact bel)⟩
theorem ow (a:Int) (w:World) (h:aX a):Calls Tryz.prog 124 #[a] w fun e o=>e=.returned (cv a)∧Below w w o:=by
 have f:=h;unfold aX at f;exact uV a _ _ a.natAbs _ w rfl (hide (fun w=>kE a w h)) (hide (fun w=>fD _ 0 _ _ w (hide om) (hide om) (hide om))) (hide (fun w=>gp _ _ a w (ut a) (mP h)))
theorem yF (hi lo H L V E:Int) (N:Nat) (b:Bool) (w:World) (h1:0≤H) (ab:H<18446744073709551616) (h2:0≤L) (ad:L<18446744073709551616)
  (S:Hid (0<H∨9223372036854775808<L∨(L=9223372036854775808∧b=false)→V=0∧E=2))
  (hw:Hid (H=0→L≤9223372036854775808→b=true→0<L→V=-L∧E=0))
  (U:Hid (H=0→L≤9223372036854775807→b=false∨L=0→V=L∧E=0))
  (HO:Hid (∀ w,Calls Tryz.prog 173 #[.agg #[hi,.int .u64 lo]] w fun e J=>e=.returned (cU b N)∧Below w w J))
  (HW:Hid (∀ w,Calls Tryz.prog 177 #[cU b N] w fun e J=>e=.returned (.tuple #[.int .u64 H,.int .u64 L])∧Below w w J)) :
  Calls Tryz.prog 113 #[.agg #[hi,.int .u64 lo]] w fun e J=>e=.returned (.tuple #[V,E])∧Below w w J:=by
 go_enter Tryz.func113,Tryz.ntmps113;go_wp2_with fail;refine (HO.out _).mono ?_;rintro e W ⟨rfl,I⟩;have G:Hid (Below w w W):=ww I;have h:=G.out;have al:=h.size;clear I;go_wp2_with fail;have HD:=hide (bn.numO W b N);refine (HW.out _).mono ?_;rintro e w2 ⟨rfl,F⟩;have O:Hid (Below w w w2):=by have hp:=G.out;have hs:=hp.size;exact ww F
 have R:=hide (HD.out.call F);have a0:=R.out.sign;clear F h;have h:=O.out;by_cases c1:0<H
 ·have f:=hide (S.out (.inl c1))
  go_wp2
  all_goals first
   | (exfalso;omega)
   | (go_ret2;exact ⟨by rw [f.out.1,f.out.2];rfl,by (repeat' exact bel)⟩)
 ·have hH:H=0:=om
  subst hH;by_cases c2:9223372036854775808<L
  ·have f:=hide (S.out (.inr (.inl c2)))
   go_wp2
   all_goals first
    | (exfalso;omega)
    | (go_ret2;exact ⟨by rw [f.out.1,f.out.2];rfl,by (repeat' exact bel)⟩)
  ·cases b
   ·by_cases o:L=9223372036854775808
    ·have f:=hide (S.out (.inr (.inr ⟨o,rfl⟩)))
     subst o;go_wp2
     all_goals first
      | (exfalso;omega)
      | (go_ret2;exact ⟨by rw [f.out.1,f.out.2];rfl,by (repeat' exact bel)⟩)
    ·have f:=hide (U.out rfl om (.inl rfl))
     have c4:(L==9223372036854775808)=false:=by simpa using o
     go_wp2
     all_goals first
      | (exfalso;omega)
      | (go_ret2;exact ⟨by rw [f.out.1,f.out.2];rfl,by (repeat' exact bel)⟩)
   ·by_cases o:L=0
    ·have f:=hide (U.out rfl om (.inr o))
     subst o;go_wp2
     all_goals first
      | (exfalso;omega)
      | (go_ret2;exact ⟨by rw [f.out.1,f.out.2];rfl,by (repeat' exact bel)⟩)
    ·have f:=hide (hw.out rfl om rfl om)
     have ah:0<L:=om;clear o;rcases (show L=9223372036854775808∨L<9223372036854775808 by omega) with T | T
     ·subst T
      go_wp2
      all_goals first
       | (exfalso;omega)
       | (go_ret2;refine ⟨(show Ending.returned (.tuple #[.int .i64 (-9223372036854775808),.int .i64 0])=_ by rw [f.out.1,f.out.2]),by (repeat' exact bel)⟩)
     ·have aq:(L==9223372036854775808)=false:=ae
      go_wp2
      all_goals first
       | (exfalso;omega)
       | (go_ret2;refine ⟨(show Ending.returned (.tuple #[.int .i64 (-(L-1)-1),.int .i64 0])=_ by rw [f.out.1,f.out.2,show -(L-1)-1=-L by omega]),by (repeat' exact bel)⟩)
theorem mg (n:Int) (w:World) (h:bL n):Calls Tryz.prog 113 #[cv n] w fun e I=>e=.returned (.tuple #[jN n,jn n])∧Below w w I:=by
  have F:=h;unfold bL at F;have o:=fun h=>jj (n:=n) h
  have f:=fun h=>cB (n:=n) h
  unfold aX at o f;refine yF _ _ ((n.natAbs / 18446744073709551616:Nat):Int) ((n.natAbs % 18446744073709551616:Nat):Int) _ _ n.natAbs (decide (n<0)) w om om om om (hide ?_) (hide ?_) (hide ?_) (hide (fun w=>lK n w h)) (hide (fun w=>tZ _ _ w om))
  · intro h; exact o (by
      rcases h with h | h | ⟨h,k⟩
      · omega
      · omega
      · simp at k;omega)
  · intro G H E J
    simp at E;rw [(f om).1,(f om).2];exact ⟨by omega,rfl⟩
  · intro G H E
    simp at E;rw [(f om).1,(f om).2];exact ⟨by omega,rfl⟩
theorem uQ (c:ar) (h:c.okB=true):cj c=12∨cj c=13∨cj c=26∨cj c=52:=by
 have o:c.Ok:=by simpa [ar.okB] using h
 have:cj c=bC c.shape c.cycle:=by simp [cj,h]
 rw [this];obtain ⟨_,_,_,E⟩:=o;unfold bC;simp only [ar.ruled,ar.weeks,dB,ar.pat0] at E
 split
 ·omega
 ·split
  ·have f:c.cycle=1∨c.cycle=2∨c.cycle=4:=om
   rcases f with f | f | f <;> rw [f] <;> decide
  ·split
   ·omega
   ·omega
theorem IL {n p q:Int} (h:n=12∨n=13∨n=26∨n=52) (o:1≤p∧p≤n) (E:1≤q∧q≤4):n*q / 4<p↔q<(4*p+n-1) / n:=by
 have f:q=1∨q=2∨q=3∨q=4:=om;rcases h with rfl | rfl | rfl | rfl <;> rcases f with rfl | rfl | rfl | rfl <;> omega
theorem LQ {n p:Int} (f:n=12∨n=13∨n=26∨n=52) (h:1≤p∧p≤n):1≤(4*p+n-1) / n∧(4*p+n-1) / n≤4:=by
 rcases f with rfl | rfl | rfl | rfl <;> omega
theorem eY (c:ar):(c.Ok∧co c=0∧c.okB=true)∨(¬ c.Ok∧co c=1∧c.okB=false):=by
 by_cases h:c.Ok
 ·exact .inl ⟨h,kj h,by simpa [ar.okB] using h⟩
 ·exact .inr ⟨h,sY h,by simpa [ar.okB] using h⟩
theorem xR (c:ar) (w:World) (U:c.name.size≤1000) (h:¬ (c.served∧c.polic∧bH c.name=true)) :
    Calls Tryz.prog 100 #[av c] w fun e V=>e=.returned (.int .i64 (co c))∧Below w w V:=by
  have R:=hide (show co c=1 from sY (fun I=>h ⟨I.1,I.2.1,I.2.2.1⟩))
  have E : bH c.name = false ∨ (bH c.name = true ∧ c.first < 1602) ∨ (bH c.name = true ∧ 1602 ≤ c.first ∧ 9996 < c.last) ∨ (bH c.name = true ∧ 1602 ≤ c.first ∧ c.last ≤ 9996 ∧ c.last < c.first) ∨ (bH c.name = true ∧ 1602 ≤ c.first ∧ c.last ≤ 9996 ∧ c.first ≤ c.last ∧ 400 ≤ c.last - c.first) ∨
      (bH c.name=true∧1602≤c.first∧c.last≤9996∧c.first≤c.last∧c.last-c.first<400∧c.policy<1)∨(bH c.name=true∧1602≤c.first∧c.last≤9996∧c.first≤c.last∧c.last-c.first<400∧1≤c.policy∧4<c.policy) ∨
      (bH c.name=true∧1602≤c.first∧c.last≤9996∧c.first≤c.last∧c.last-c.first<400∧1≤c.policy∧c.policy≤4∧(c.policy==4)=true∧(c.kind==6)=false) ∨
      (bH c.name=true∧1602≤c.first∧c.last≤9996∧c.first≤c.last∧c.last-c.first<400∧1≤c.policy∧c.policy≤4∧(c.policy==4)=false∧(c.kind==6)=true):=by
    cases J:bH c.name
    · exact .inl rfl
    · simp only [ar.served,ar.polic,J] at h
      have f:(c.policy==4)=decide (c.policy=4):=rfl;have o:(c.kind==6)=decide (c.kind=6):=rfl;rw [f,o];simp only [decide_eq_true_eq,decide_eq_false_iff_not,reduceCtorEq,false_or,true_and];simp only [and_true] at h;omega
  clear h;simp only [av];rcases E with h | ⟨h,f⟩ | ⟨h,f,o⟩ | ⟨h,f,o,F⟩ | ⟨h,f,o,F,G⟩ | ⟨h,f,o,F,G,H⟩ | ⟨h,f,o,F,G,H,O⟩ | ⟨h,f,o,F,G,H,O,S,T⟩ | ⟨h,f,o,F,G,H,O,S,T⟩
  all_goals
    go_enter Tryz.func100,Tryz.ntmps100;go_wp2_with fail;refine (bj _ _ U).mono ?_;rintro e W ⟨rfl,rfl⟩;rw [h];go_wp2_with fail
    all_goals first
      | (exfalso;omega)
      | (go_ret;exact ⟨aZ R.out.symm,by (repeat' exact bel)⟩)
theorem kT {c:ar} (h:c.served∧c.polic∧bH c.name=true):co c=if c.ruled then 0 else 1:=by
 by_cases f:c.ruled
 ·rw [if_pos f];exact kj ⟨h.1,h.2.1,h.2.2,f⟩
 ·rw [if_neg f];exact sY (fun o=>f o.2.2.2)
theorem Ff (c:ar) (w:World) (I:c.name.size≤1000) (h:c.served∧c.polic∧bH c.name=true) (H:c.kind=3) :
  Calls Tryz.prog 100 #[av c] w fun e U=>e=.returned (.int .i64 (co c))∧Below w w U:=by
 have G:=hide (kT h);obtain ⟨⟨s1,s2,S,T⟩,⟨⟨J,O⟩,R⟩,o⟩:=h;have F:(c.policy==4)=false:=ae;have E:(c.kind==6)=false:=by simp [H]
 have f:=hide o;obtain ⟨nm,k,d,m,sh,sp,a,b,p,V,W,fi,la,po⟩:=c;obtain rfl:k=3:=H;simp only at s1 s2 S T J O F E I f;clear R o;simp only [av];go_enter Tryz.func100,Tryz.ntmps100;go_wp2_with fail;refine (bj _ _ I).mono ?_;rintro e w1 ⟨rfl,rfl⟩;rw [f.out];go_wp2_with fail
 all_goals first
  | (exfalso;omega)
  | skip
 all_goals
  go_ret;refine ⟨aZ ?_,by (repeat' exact bel)⟩
  subst_vars
  rw [G.out];simp only [ar.ruled,ar.pat0,ar.weeks,dB]
  first
   | rw [if_pos om]
   | rw [if_neg om]
   | (clear G f;grind)
theorem Dz (c:ar) (w:World) (I:c.name.size≤1000) (h:c.served∧c.polic∧bH c.name=true) (H:c.kind=4) :
  Calls Tryz.prog 100 #[av c] w fun e U=>e=.returned (.int .i64 (co c))∧Below w w U:=by
 have G:=hide (kT h);obtain ⟨⟨s1,s2,S,T⟩,⟨⟨J,O⟩,R⟩,o⟩:=h;have F:(c.policy==4)=false:=ae;have E:(c.kind==6)=false:=by simp [H]
 have f:=hide o;obtain ⟨nm,k,d,m,sh,sp,a,b,p,V,W,fi,la,po⟩:=c;obtain rfl:k=4:=H;simp only at s1 s2 S T J O F E I f;clear R o;simp only [av];go_enter Tryz.func100,Tryz.ntmps100;go_wp2_with fail;refine (bj _ _ I).mono ?_;rintro e w1 ⟨rfl,rfl⟩;rw [f.out];go_wp2_with fail
 all_goals first
  | (exfalso;omega)
  | skip
 all_goals
  go_ret;refine ⟨aZ ?_,by (repeat' exact bel)⟩
  subst_vars
  rw [G.out];simp only [ar.ruled,ar.pat0,ar.weeks,dB]
  first
   | rw [if_pos om]
   | rw [if_neg om]
   | (clear G f;grind)
theorem FI (c:ar) (w:World) (I:c.name.size≤1000) (h:c.served∧c.polic∧bH c.name=true) (H:c.kind=6) :
  Calls Tryz.prog 100 #[av c] w fun e U=>e=.returned (.int .i64 (co c))∧Below w w U:=by
 have G:=hide (kT h);obtain ⟨⟨s1,s2,S,T⟩,⟨⟨J,O⟩,R⟩,o⟩:=h;have F:(c.policy==4)=true:=ae;have E:(c.kind==6)=true:=by simp [H]
 have f:=hide o;obtain ⟨nm,k,d,m,sh,sp,a,b,p,V,W,fi,la,po⟩:=c;obtain rfl:k=6:=H;simp only at s1 s2 S T J O F E I f;clear R o;simp only [av];go_enter Tryz.func100,Tryz.ntmps100;go_wp2_with fail;refine (bj _ _ I).mono ?_;rintro e w1 ⟨rfl,rfl⟩;rw [f.out];go_wp2_with fail
 all_goals first
  | (exfalso;omega)
  | skip
 all_goals (try (go_quiet (fail)))
 all_goals (try go_wp2)
 all_goals
  go_ret;refine ⟨aZ ?_,by (repeat' exact bel)⟩
  subst_vars
  rw [G.out];simp only [ar.ruled,ar.pat0,ar.weeks,dB]
  first
   | rw [if_pos om]
   | rw [if_neg om]
   | (clear G f;grind)
theorem E7 (c:ar) (w:World) (T:c.name.size≤1000) (h:c.served∧c.polic∧bH c.name=true) (E:¬ (1≤c.kind∧c.kind≤6)) :
  Calls Tryz.prog 100 #[av c] w fun e W=>e=.returned (.int .i64 (co c))∧Below w w W:=by
 have F:=hide (kT h);obtain ⟨⟨s1,s2,s3,s4⟩,⟨⟨p1,p2⟩,V⟩,f⟩:=h;have U:(c.policy==4)=false:=ae;have S:(c.kind==6)=false:=ae;have H:(c.kind==1)=false:=ae;have I:(c.kind==2)=false:=ae;have J:(c.kind==3)=false:=ae;have O:(c.kind==4)=false:=ae;have R:(c.kind==5)=false:=ae;have o:=hide f;have HK:=hide E;have G:=hide (show co c=1 by rw [F.out,if_neg (by unfold ar.ruled;omega)]);clear V f E;simp only [av];go_enter Tryz.func100,Tryz.ntmps100;go_wp2_with fail;refine (bj _ _ T).mono ?_;rintro e w1 ⟨rfl,rfl⟩;rw [o.out];go_wp2_with fail
 all_goals first
  | (exfalso;omega)
  | skip
 all_goals
  go_ret;exact ⟨aZ G.out.symm,by (repeat' exact bel)⟩
theorem cW {c:ar} (h:aQ c):eR c=bC c.shape c.cycle:=by
 rw [eR,if_neg];intro f;unfold aQ at h;omega
theorem D4 {c:ar} (F:c.kind=1∨c.kind=2):c.ruled↔(1≤c.day∧c.day≤7)∧(1≤c.month∧c.month≤12)∧(c.shift=0∨c.shift=1)∧aQ c∧1≤c.extra∧c.extra≤bC c.shape c.cycle:=by
 rw [← mT];unfold ar.ruled;generalize c.weeks=P;constructor
 ·intro h
  rcases h with h | h | h | h | h
  ·omega
  ·omega
  ·exact ⟨h.2.2.2.1,h.2.1,by have:=h.2.2.1;omega,h.2.2.2.2⟩
  ·omega
  ·omega
 ·intro ⟨f,o,G,E⟩
  exact .inr (.inr (.inl ⟨F,o,by omega,f,E⟩))
theorem H6 {c:ar} (f:c.kind=5):c.ruled↔c.day=7∧c.month=12∧c.shift=0∧aQ c∧1≤c.extra∧c.extra≤bC c.shape c.cycle:=by
 rw [← mT];unfold ar.ruled;generalize c.weeks=P;constructor
 ·intro h
  rcases h with h | h | h | h | h
  ·omega
  ·omega
  ·omega
  ·exact h.2
  ·omega
 ·intro h
  exact .inr (.inr (.inr (.inl ⟨f,h⟩)))
theorem cm (F:ByteArray) (k d m H I a b p f h o E G:Int) (w:World) (v:Bool) (J:decide (aQ (ar.mk F k d m H I a b p f h o E G))=v) :
  Calls Tryz.prog 162 #[.agg #[.string F,k,d,m,H,I,a,b,p,f,h,o,E,G]] w
   fun e O=>e=.returned (.bool v)∧Below w w O:=by subst J;exact yg ⟨F,k,d,m,H,I,a,b,p,f,h,o,E,G⟩ w
theorem jt (F:ByteArray) (k d m H I a b p f h o E G:Int) (w:World) (v:Int) (J:eR (ar.mk F k d m H I a b p f h o E G)=v) :
  Calls Tryz.prog 163 #[.agg #[.string F,k,d,m,H,I,a,b,p,f,h,o,E,G]] w
   fun e O=>e=.returned v∧Below w w O:=by subst J;exact sw ⟨F,k,d,m,H,I,a,b,p,f,h,o,E,G⟩ w
end
section
open Go.RowKit Go.Sort Qd
theorem Kx (o:ByteArray) (d m H a b p E F J O G:Int) (w:World) (hn:o.size≤1000) (h:(ar.mk o 2 d m 0 H a b p E F J O G).served∧(ar.mk o 2 d m 0 H a b p E F J O G).polic∧bH o=true) (hd:1≤d∧d≤7) (hm:1≤m∧m≤12) (hc:¬ aQ (ar.mk o 2 d m 0 H a b p E F J O G)) :
  Calls Tryz.prog 100 #[.agg #[.string o,.int .i64 2,d,m,.int .i64 0,H,a,b,p,E,F,J,O,G]] w fun e w'=>e=.returned (.int .i64 1)∧Below w w w':=by
 obtain ⟨⟨s1,s2,s3,s4⟩,⟨⟨p1,p2⟩,p3⟩,V⟩:=h;simp only at s1 s2 s3 s4 p1 p2 p3;have aA:(G==4)=false:=ae;have ad:=hide V;have W:decide (aQ (ar.mk o 2 d m 0 H a b p E F J O G))=false:=by simp [hc]
 have al:=hide W;have e1:decide (1≤d)=true:=ae;have e2:decide (d≤7)=true:=ae;have e3:decide (1≤m)=true:=ae;have e4:decide (m≤12)=true:=ae;clear p3 V hc W hd hm;go_enter Tryz.func100,Tryz.ntmps100;go_wp2_with fail;refine (bj _ _ hn).mono ?_;rintro e w1 ⟨rfl,rfl⟩;rw [ad.out];go_wp2_with fail
 all_goals first
  | (exfalso;omega)
  | skip
 obtain ⟨I,f⟩:∃ I:World,I=((w.alloc (.cells #[.string o,.int .i64 2,d,m,.int .i64 0,H,a,b,p,E,F,J,O,G] 24)).alloc (.cells #[.string ⟨#[]⟩,.int .i64 2,d,m,.int .i64 0,H,a,b,p,E,F,.int .i64 0,.int .i64 0,.int .i64 0] 24)):=⟨_,rfl⟩;have aB:w.heap.size<I.heap.size:=by rw [f];simp;omega
 have ab:=hide (show Below w w I by rw [f];(repeat' exact bel));have ah:=hide (show aG I w (ar.mk o 2 d m 0 H a b p E F J O G) by rw [f];exact az (au w (ar.mk o 2 d m 0 H a b p E F J O G)) ac _);rw [← f];clear f;obtain ⟨q0,q1,q2,q3,q4,q5,q6,q7,q8,q9,R,S,T,U⟩:=ah.out;simp only at q0 q1 q2 q3 q4 q5 q6 q7 q8 q9 R S T U;have k0:=cell_regrown q0;have k1:=cell_regrown q1;have k2:=cell_regrown q2;have k3:=cell_regrown q3;have k4:=cell_regrown q4;have k5:=cell_regrown q5;have k6:=cell_regrown q6;have k7:=cell_regrown q7;have k8:=cell_regrown q8;have k9:=cell_regrown q9;have aF:=cell_regrown R;have a0:=cell_regrown S;have a1:=cell_regrown T;have a2:=cell_regrown U;clear q0 q1 q2 q3 q4 q5 q6 q7 q8 q9 R S T U;have cS:=fun dd os=>Calls.regrown_of (d:=dd) (os:=os) (w:=I) (cm o _ _ _ _ _ _ _ _ _ _ _ _ _ (grow (redrawn I dd) os) _ al.out)
 refine wp_region_quiet_below (by kernel_rfl) (by kernel_rfl) ?_
 repeat (quiet_step (exact cS _ _))
 refine wpQuiet_nil ?_;intro _ aq;obtain ⟨⟨dq,osq⟩,ay⟩:=aq;subst ay;go_wp2
 all_goals first
  | (exfalso;omega)
  | (go_ret;exact ⟨rfl,ab.out.trans ((below_regrown I dq osq).mono om)⟩)
theorem J6 (E:ByteArray) (d m H a b p F f J O G:Int) (w:World) (hn:E.size≤1000) (h:(ar.mk E 2 d m 0 H a b p F f J O G).served∧(ar.mk E 2 d m 0 H a b p F f J O G).polic∧bH E=true) (hd:1≤d∧d≤7) (hm:1≤m∧m≤12) (hc:aQ (ar.mk E 2 d m 0 H a b p F f J O G)) (hx:f<1) :
  Calls Tryz.prog 100 #[.agg #[.string E,.int .i64 2,d,m,.int .i64 0,H,a,b,p,F,f,J,O,G]] w fun e w'=>e=.returned (.int .i64 1)∧Below w w w':=by
 obtain ⟨⟨s1,s2,s3,s4⟩,⟨⟨p1,p2⟩,p3⟩,V⟩:=h;simp only at s1 s2 s3 s4 p1 p2 p3;have aA:(G==4)=false:=ae;have ad:=hide V;have W:decide (aQ (ar.mk E 2 d m 0 H a b p F f J O G))=true:=by simp [hc]
 have al:=hide W;have e1:decide (1≤d)=true:=ae;have e2:decide (d≤7)=true:=ae;have e3:decide (1≤m)=true:=ae;have e4:decide (m≤12)=true:=ae;have e7:decide (1≤f)=false:=ae;clear p3 V hc W hd hm hx;go_enter Tryz.func100,Tryz.ntmps100;go_wp2_with fail;refine (bj _ _ hn).mono ?_;rintro e w1 ⟨rfl,rfl⟩;rw [ad.out];go_wp2_with fail
 all_goals first
  | (exfalso;omega)
  | skip
 obtain ⟨I,o⟩:∃ I:World,I=((w.alloc (.cells #[.string E,.int .i64 2,d,m,.int .i64 0,H,a,b,p,F,f,J,O,G] 24)).alloc (.cells #[.string ⟨#[]⟩,.int .i64 2,d,m,.int .i64 0,H,a,b,p,F,f,.int .i64 0,.int .i64 0,.int .i64 0] 24)):=⟨_,rfl⟩;have aB:w.heap.size<I.heap.size:=by rw [o];simp;omega
 have ab:=hide (show Below w w I by rw [o];(repeat' exact bel));have ah:=hide (show aG I w (ar.mk E 2 d m 0 H a b p F f J O G) by rw [o];exact az (au w (ar.mk E 2 d m 0 H a b p F f J O G)) ac _);rw [← o];clear o;obtain ⟨q0,q1,q2,q3,q4,q5,q6,q7,q8,q9,R,S,T,U⟩:=ah.out;simp only at q0 q1 q2 q3 q4 q5 q6 q7 q8 q9 R S T U;have k0:=cell_regrown q0;have k1:=cell_regrown q1;have k2:=cell_regrown q2;have k3:=cell_regrown q3;have k4:=cell_regrown q4;have k5:=cell_regrown q5;have k6:=cell_regrown q6;have k7:=cell_regrown q7;have k8:=cell_regrown q8;have k9:=cell_regrown q9;have aF:=cell_regrown R;have a0:=cell_regrown S;have a1:=cell_regrown T;have a2:=cell_regrown U;clear q0 q1 q2 q3 q4 q5 q6 q7 q8 q9 R S T U;have cS:=fun dd os=>Calls.regrown_of (d:=dd) (os:=os) (w:=I) (cm E _ _ _ _ _ _ _ _ _ _ _ _ _ (grow (redrawn I dd) os) _ al.out)
 refine wp_region_quiet_below (by kernel_rfl) (by kernel_rfl) ?_
 repeat (quiet_step (exact cS _ _))
 refine wpQuiet_nil ?_;intro _ aq;obtain ⟨⟨dq,osq⟩,ay⟩:=aq;subst ay;go_wp2
 all_goals first
  | (exfalso;omega)
  | (go_ret;exact ⟨rfl,ab.out.trans ((below_regrown I dq osq).mono om)⟩)
theorem Kw (E:ByteArray) (d m F a b p o f J O I:Int) (w:World) (hn:E.size≤1000) (h:(ar.mk E 2 d m 0 F a b p o f J O I).served∧(ar.mk E 2 d m 0 F a b p o f J O I).polic∧bH E=true) (hd:1≤d∧d≤7) (hm:1≤m∧m≤12) (hc:aQ (ar.mk E 2 d m 0 F a b p o f J O I)) (hx:1≤f) (aB:bC F o<f) :
  Calls Tryz.prog 100 #[.agg #[.string E,.int .i64 2,d,m,.int .i64 0,F,a,b,p,o,f,J,O,I]] w fun e w'=>e=.returned (.int .i64 1)∧Below w w w':=by
 obtain ⟨⟨s1,s2,s3,s4⟩,⟨⟨p1,p2⟩,p3⟩,W⟩:=h;simp only at s1 s2 s3 s4 p1 p2 p3;have aF:(I==4)=false:=ae;have ah:=hide W;have ab:decide (aQ (ar.mk E 2 d m 0 F a b p o f J O I))=true:=by simp [hc]
 have aq:=hide ab;have e1:decide (1≤d)=true:=ae;have e2:decide (d≤7)=true:=ae;have e3:decide (1≤m)=true:=ae;have e4:decide (m≤12)=true:=ae;have e7:decide (1≤f)=true:=ae;have HM:=hide (show eR (ar.mk E 2 d m 0 F a b p o f J O I)=bC F o from cW hc);obtain ⟨M,hM⟩:∃ M,bC F o=M:=⟨_,rfl⟩;rw [hM] at HM aB;clear hM;have e8:decide (f≤M)=false:=ae;clear p3 W hc ab hd hm hx;go_enter Tryz.func100,Tryz.ntmps100;go_wp2_with fail;refine (bj _ _ hn).mono ?_;rintro e w1 ⟨rfl,rfl⟩;rw [ah.out];go_wp2_with fail
 all_goals first
  | (exfalso;omega)
  | skip
 obtain ⟨H,G⟩:∃ H:World,H=((w.alloc (.cells #[.string E,.int .i64 2,d,m,.int .i64 0,F,a,b,p,o,f,J,O,I] 24)).alloc (.cells #[.string ⟨#[]⟩,.int .i64 2,d,m,.int .i64 0,F,a,b,p,o,f,.int .i64 0,.int .i64 0,.int .i64 0] 24)):=⟨_,rfl⟩;have a0:w.heap.size<H.heap.size:=by rw [G];simp;omega
 have ad:=hide (show Below w w H by rw [G];(repeat' exact bel));have al:=hide (show aG H w (ar.mk E 2 d m 0 F a b p o f J O I) by rw [G];exact az (au w (ar.mk E 2 d m 0 F a b p o f J O I)) ac _);rw [← G];clear G;obtain ⟨q0,q1,q2,q3,q4,q5,q6,q7,q8,q9,R,S,T,U⟩:=al.out;simp only at q0 q1 q2 q3 q4 q5 q6 q7 q8 q9 R S T U;have k0:=cell_regrown q0;have k1:=cell_regrown q1;have k2:=cell_regrown q2;have k3:=cell_regrown q3;have k4:=cell_regrown q4;have k5:=cell_regrown q5;have k6:=cell_regrown q6;have k7:=cell_regrown q7;have k8:=cell_regrown q8;have k9:=cell_regrown q9;have a1:=cell_regrown R;have a2:=cell_regrown S;have a3:=cell_regrown T;have a4:=cell_regrown U;clear q0 q1 q2 q3 q4 q5 q6 q7 q8 q9 R S T U;have cS:=fun V os=>Calls.regrown_of (d:=V) (os:=os) (w:=H) (cm E _ _ _ _ _ _ _ _ _ _ _ _ _ (grow (redrawn H V) os) _ aq.out)
 have cM:=fun V os=>Calls.regrown_of (d:=V) (os:=os) (w:=H) (jt E _ _ _ _ _ _ _ _ _ _ _ _ _ (grow (redrawn H V) os) _ HM.out)
 refine wp_region_quiet_below (by kernel_rfl) (by kernel_rfl) ?_
 repeat (quiet_step (first | exact cS _ _ | exact cM _ _))
 refine wpQuiet_nil ?_;intro _ ay;obtain ⟨⟨dq,osq⟩,aA⟩:=ay;subst aA;go_wp2
 all_goals first
  | (exfalso;omega)
  | (go_ret;exact ⟨rfl,ad.out.trans ((below_regrown H dq osq).mono om)⟩)
theorem JS (E:ByteArray) (d m F a b p o f J O I:Int) (w:World) (hn:E.size≤1000) (h:(ar.mk E 2 d m 0 F a b p o f J O I).served∧(ar.mk E 2 d m 0 F a b p o f J O I).polic∧bH E=true) (hd:1≤d∧d≤7) (hm:1≤m∧m≤12) (hc:aQ (ar.mk E 2 d m 0 F a b p o f J O I)) (hx:1≤f) (aB:f≤bC F o) :
  Calls Tryz.prog 100 #[.agg #[.string E,.int .i64 2,d,m,.int .i64 0,F,a,b,p,o,f,J,O,I]] w fun e w'=>e=.returned (.int .i64 0)∧Below w w w':=by
 obtain ⟨⟨s1,s2,s3,s4⟩,⟨⟨p1,p2⟩,p3⟩,W⟩:=h;simp only at s1 s2 s3 s4 p1 p2 p3;have aF:(I==4)=false:=ae;have ah:=hide W;have ab:decide (aQ (ar.mk E 2 d m 0 F a b p o f J O I))=true:=by simp [hc]
 have aq:=hide ab;have e1:decide (1≤d)=true:=ae;have e2:decide (d≤7)=true:=ae;have e3:decide (1≤m)=true:=ae;have e4:decide (m≤12)=true:=ae;have e7:decide (1≤f)=true:=ae;have HM:=hide (show eR (ar.mk E 2 d m 0 F a b p o f J O I)=bC F o from cW hc);obtain ⟨M,hM⟩:∃ M,bC F o=M:=⟨_,rfl⟩;rw [hM] at HM aB;clear hM;have e8:decide (f≤M)=true:=ae;clear p3 W hc ab hd hm hx;go_enter Tryz.func100,Tryz.ntmps100;go_wp2_with fail;refine (bj _ _ hn).mono ?_;rintro e w1 ⟨rfl,rfl⟩;rw [ah.out];go_wp2_with fail
 all_goals first
  | (exfalso;omega)
  | skip
 obtain ⟨H,G⟩:∃ H:World,H=((w.alloc (.cells #[.string E,.int .i64 2,d,m,.int .i64 0,F,a,b,p,o,f,J,O,I] 24)).alloc (.cells #[.string ⟨#[]⟩,.int .i64 2,d,m,.int .i64 0,F,a,b,p,o,f,.int .i64 0,.int .i64 0,.int .i64 0] 24)):=⟨_,rfl⟩;have a0:w.heap.size<H.heap.size:=by rw [G];simp;omega
 have ad:=hide (show Below w w H by rw [G];(repeat' exact bel));have al:=hide (show aG H w (ar.mk E 2 d m 0 F a b p o f J O I) by rw [G];exact az (au w (ar.mk E 2 d m 0 F a b p o f J O I)) ac _);rw [← G];clear G;obtain ⟨q0,q1,q2,q3,q4,q5,q6,q7,q8,q9,R,S,T,U⟩:=al.out;simp only at q0 q1 q2 q3 q4 q5 q6 q7 q8 q9 R S T U;have k0:=cell_regrown q0;have k1:=cell_regrown q1;have k2:=cell_regrown q2;have k3:=cell_regrown q3;have k4:=cell_regrown q4;have k5:=cell_regrown q5;have k6:=cell_regrown q6;have k7:=cell_regrown q7;have k8:=cell_regrown q8;have k9:=cell_regrown q9;have a1:=cell_regrown R;have a2:=cell_regrown S;have a3:=cell_regrown T;have a4:=cell_regrown U;clear q0 q1 q2 q3 q4 q5 q6 q7 q8 q9 R S T U;have cS:=fun V os=>Calls.regrown_of (d:=V) (os:=os) (w:=H) (cm E _ _ _ _ _ _ _ _ _ _ _ _ _ (grow (redrawn H V) os) _ aq.out)
 have cM:=fun V os=>Calls.regrown_of (d:=V) (os:=os) (w:=H) (jt E _ _ _ _ _ _ _ _ _ _ _ _ _ (grow (redrawn H V) os) _ HM.out)
 refine wp_region_quiet_below (by kernel_rfl) (by kernel_rfl) ?_
 repeat (quiet_step (first | exact cS _ _ | exact cM _ _))
 refine wpQuiet_nil ?_;intro _ ay;obtain ⟨⟨dq,osq⟩,aA⟩:=ay;subst aA;go_wp2
 all_goals first
  | (exfalso;omega)
  | (go_ret;exact ⟨rfl,ad.out.trans ((below_regrown H dq osq).mono om)⟩)
end
end Go.Proofs.YtjhhmeoibfdcmaaGreat
