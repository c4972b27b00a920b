/- Lemmas. -/
import Derived.Test.YtjhhmeoibfdcmaaGreatWr12
import Derived.Test.YtjhhmeoibfdcmaaGreatWr13
import Derived.Test.YtjhhmeoibfdcmaaGreatWr15
import Derived.Test.YtjhhmeoibfdcmaaGreatWr28
import Derived.Test.YtjhhmeoibfdcmaaGreatWr37
set_option linter.unusedSimpArgs false
set_option linter.unusedVariables false
set_option maxRecDepth 100000
set_option maxHeartbeats 12800000
namespace Go.Proofs.YtjhhmeoibfdcmaaGreat
section
open Go.RowKit Qd
theorem Bz {X Y i:Nat} (h:i<8):(fR X Y (i+1)).set i (dg Y i:Int)=fR X Y i:=by
 match i,h with
 | 0,_ | 1,_ | 2,_ | 3,_ | 4,_ | 5,_ | 6,_ | 7,_=>rfl
theorem Cn {X Y i:Nat} (h:i<8):(fR X Y (i+1))[i]?=some (dg X i:Int):=by
 match i,h with
 | 0,_ | 1,_ | 2,_ | 3,_ | 4,_ | 5,_ | 6,_ | 7,_=>rfl
theorem I2 {Z t:Nat} (h:t<16):Z % 65536 / 2 ^ t % 2=Z / 2 ^ t % 2:=by
 have f:t=0∨t=1∨t=2∨t=3∨t=4∨t=5∨t=6∨t=7∨t=8∨t=9∨t=10∨t=11∨t=12∨t=13∨t=14∨t=15:=om;rcases f with rfl | rfl | rfl | rfl | rfl | rfl | rfl | rfl | rfl | rfl | rfl | rfl | rfl | rfl | rfl | rfl <;> (simp only [Nat.reducePow];omega)
theorem Fp (m:Nat):2 ^ (m+1) / 2=2 ^ m:=by rw [Nat.pow_succ];omega
def IA (Z d m left f:Nat):Prop:=left=Z / 2 ^ m % d∧Z / 2 ^ 16 / d*2 ^ (16-m)+f=Z / 2 ^ m / d∧f<2 ^ (16-m)
theorem Bv (Z d:Nat):IA Z d 16 (Z / 2 ^ 16 % d) 0:=⟨rfl,by simp,by simp⟩
theorem C8 {Z d m left f:Nat} (R:0<d) (T:m<16) (h:IA Z d (m+1) left f) :
  (if d≤left*2+Z / 2 ^ m % 2 then IA Z d m (left*2+Z / 2 ^ m % 2-d) (f*2+1) else IA Z d m (left*2+Z / 2 ^ m % 2) (f*2)):=by
 obtain ⟨I,J,S⟩:=h;have E:Z / 2 ^ (m+1)=Z / 2 ^ m / 2:=by rw [Nat.pow_succ,Nat.div_div_eq_div_mul]
 have o:=Ij (Z / 2 ^ m) d left (Z / 2 ^ m / 2 / d) R (by rw [I,E]) rfl;have F:16-m=16-(m+1)+1:=om;have G:Z / 2 ^ 16 / d*2 ^ (16-m)+f*2=Z / 2 ^ m / 2 / d*2:=by
  rw [← E,← J,F];generalize Z / 2 ^ 16 / d=Q;rw [Nat.pow_succ,← Nat.mul_assoc];omega
 have O:f*2+1<2 ^ (16-m):=by rw [F,Nat.pow_succ];omega
 by_cases H:d≤left*2+Z / 2 ^ m % 2
 ·rw [if_pos H] at o ⊢
  exact ⟨o.1,by rw [← o.2,← G];omega,O⟩
 ·rw [if_neg H] at o ⊢
  exact ⟨o.1,by rw [← o.2,← G],by omega⟩
theorem Hv {A d i left f:Nat} (h:IA (A / 65536 ^ i) d 0 left f):left=A / 65536 ^ i % d∧f=dg (A / d) i:=by
 obtain ⟨G,o,H⟩:=h;refine ⟨by simpa using G,?_⟩;have F:A / 65536 ^ i / 2 ^ 16=A / 65536 ^ (i+1):=by rw [mD]
 have E:∀ M:Nat,A / M / d=A / d / M:=fun M=>by rw [Nat.div_div_eq_div_mul,Nat.div_div_eq_div_mul,Nat.mul_comm]
 have I:=iG (A / d) i;rw [F,E] at o;simp only [Nat.pow_zero,Nat.div_one,Nat.sub_zero] at o;rw [E] at o;have:(2:Nat) ^ 16=65536:=by decide
 omega
theorem IT {Z d m left f:Nat} (F:0<d) (h:IA Z d m left f):left<d∧f<65536:=by
 obtain ⟨o,G,E⟩:=h;refine ⟨by rw [o];exact Nat.mod_lt _ F,Nat.lt_of_lt_of_le E ?_⟩;exact Nat.le_trans (Nat.pow_le_pow_right ag (show 16-m≤16 by omega)) ag
theorem Bg (a b:Nat):(a:Int) / (b:Int) % 2=((a / b % 2:Nat):Int):=by rw [← Int.natCast_ediv];omega
structure ko (R Bn:Nat) (s:Bool) (D:List Int) (w0 w:World):Prop where
 n:bn w Bn s D
 r:ap w R #[.int .i64 0,.int .u64 0] 103
 nr:R≠Bn
 hR:w0.heap.size≤R
 hB:w0.heap.size≤Bn
 b:Below w0 w0 w
theorem ko.call {R o:Nat} {s:Bool} {D:List Int} {F w E:World} (h:ko R o s D F w) (f:Below w w E):ko R o s D F E:=⟨h.n.call f,h.r.call f,h.nr,h.hR,h.hB,h.b.trans (f.mono h.b.size)⟩
theorem ko.set {R f:Nat} {s:Bool} {D:List Int} {o w:World} (h:ko R f s D o w) (k:Nat) (v:Int):ko R f s (D.set k v) o (w.setCell ⟨f,1+k,none⟩ (.int .u64 v)):=⟨h.n.set k v,o0 h.r h.nr _,h.nr,h.hR,h.hB,h.b.setCell h.hB _⟩
theorem ko.put {R f:Nat} {s c:Bool} {M:Nat} {o w:World} (h:ko R f s (ga M) o w) (N:Nat):ko R f c (ga N) o (nC w f c N):=⟨h.n.put N,qz h.r h.nr N,h.nr,h.hR,h.hB,ig h.b h.hB c N⟩
theorem ko.zero {R f X Y:Nat} {s:Bool} {o w:World} (h:ko R f s (fR X Y 0) o w):ko R f s (ga Y) o w:=by rwa [gw] at h
theorem za (hi lo d h3 l3 r3:Int) (D:Nat) (s:Bool) (A:Nat) (w:World) (bp:d=(D:Int)) (et:0<d) (ew:d≤9223372036854775807) (hA:Hid (A<65536 ^ 8))
  (HO:Hid (∀ w,Calls Tryz.prog 173 #[.agg #[hi,.int .u64 lo]] w fun e J=>e=.returned (cU s A)∧Below w w J))
  (H1:Hid (s=false∨A % D=0→r3=(A % D:Nat)∧∀ w,Calls Tryz.prog 176 #[cU s (A / D)] w fun e J=>e=.returned (.tuple #[.agg #[h3,.int .u64 l3],.bool true])∧Below w w J))
  (H2:Hid (s=true→¬ A % D=0→r3=(D:Int)-(A % D:Nat)∧(∀ w,Calls Tryz.prog 175 #[.bool true,.int .u64 0,.int .u64 1] w fun e J=>e=.returned (cU true 1)∧Below w w J)∧(∀ w,∃ ok,Calls Tryz.prog 174 #[cU true (A / D),cU true 1] w fun e J=>e=.returned (.tuple #[cU true (A / D+1),.bool ok])∧Below w w J)∧∀ w,Calls Tryz.prog 176 #[cU true (A / D+1)] w fun e J=>e=.returned (.tuple #[.agg #[h3,.int .u64 l3],.bool true])∧Below w w J)) :
  Calls Tryz.prog 111 #[.agg #[hi,.int .u64 lo],d] w fun e J=>e=.returned (.tuple #[.agg #[h3,.int .u64 l3],r3,.int .i64 0])∧Below w w J:=by
 have cM:=hide (show ap ((w.alloc (.cells #[hi,.int .u64 lo] 103)).alloc jL) (w.heap.size+1) #[.int .i64 0,.int .u64 0] 103 by
  simpa using jz (w.alloc (.cells #[hi,.int .u64 lo] 103)))
 have S:=hide (show 0<D by omega);have G:=hide bp;clear bp;go_enter Tryz.func111,Tryz.ntmps111;go_wp2_with fail;refine (HO.out _).mono ?_;rintro e O ⟨rfl,ad⟩;have aA:=hide (cM.out.call ad);have cc:Hid (Below w w O):=ww ad;have eL:=aA.out.lt;have dd:=hide (show ko (w.heap.size+1) O.heap.size s (fR A (A / D) 8) w (O.alloc (us s A)) from ⟨by rw [ms];exact bn.numO O s A,aA.out.alloc _,by omega,by omega,by omega,by have hp:=cc.out;have hs:=hp.size;exact bel⟩);clear ad;go_wp2_with fail;go_loopw [8,9] (fun s8 s9 wr=>∃ k:Nat,s8=.int .u64 ((A / 65536 ^ k % D:Nat):Int)∧s9=.int .i64 ((k:Int)-1)∧k≤8∧ko (w.heap.size+1) O.heap.size s (fR A (A / D) k) w wr) (fun _ s9 _=>(intOf s9+1).toNat)
 case atStart=>exact ⟨8,by rw [Nat.div_eq_of_lt hA.out];simp,rfl,by omega,dd.out⟩
 case round =>
  obtain ⟨k,rfl,rfl,hk,hS⟩:=hrel;have V:=hide hS;clear hS;rcases Nat.eq_zero_or_pos k with rfl | eA
  ·have hD:=V.out.n
   rw [gw] at hD;obtain ⟨⟨a0,a1,a2,a3,a4,a5,a6,a7,a8⟩,⟨g0,g1,g2,g3,g4,g5,g6,g7,g8⟩,hz⟩:=bn.nine hD;have f:=V.out.b;have c9:=hide V.out.r;have cs:=hide (show ((A / 65536 ^ 0 % D:Nat):Int)=((A % D:Nat):Int) by simp);rw [cs.out];have bw:0≤((A % D:Nat):Int)∧((A % D:Nat):Int)<d:=by have:=Nat.mod_lt A S.out;have:=G.out;omega
   obtain ⟨bw,eD⟩:=bw;clear hD;by_cases hq:s=false∨A % D=0
   ·obtain ⟨hr,hk⟩:=H1.out hq
    have HK:=hide hk;have U:=hide hr;have H:s=false∨((A % D:Nat):Int)=0:=by rcases hq with h | h;exact .inl h;right;omega
    generalize ((A % D:Nat):Int)=L at *;clear hk hr hq;have eb:s=false∨(s=true∧L=0):=by
     rcases H with h | h
     ·exact .inl h
     ·cases s
      ·exact .inl rfl
      ·exact .inr ⟨rfl,h⟩
    clear H;rcases eb with rfl | ⟨rfl,rfl⟩
    all_goals
     go_wp2_with fail;refine (HK.out _).mono ?_;rintro e w5 ⟨rfl,F⟩;have T:=hide (c9.out.call F);have R:Hid (Below w w w5):=by have hs:=f.size;exact ww F
     clear F f;obtain ⟨⟨r0,r1⟩,f0,f1,al⟩:=cO T.out;have f:=R.out;have d9:=f.size;go_wp2;refine bodyPost_ret (v:=.tuple #[.agg #[h3,.int .u64 l3],r3,.int .i64 0]) (by simp (maxDischargeDepth:=9) [results,Tryz.results111,go_sem,r0,r1,f0,f1,al];exact U.out.symm) rfl ⟨rfl,by (repeat' exact bel)⟩
   ·have hs:s=true:=by cases s;exact absurd (.inl rfl) hq;rfl
    have hm:¬ A % D=0:=fun h=>hq (.inr h)
    obtain ⟨hr,hp,bX,hk⟩:=H2.out hs hm;have HK:=hide hk;have U:=hide (show r3=d-((A % D:Nat):Int) by rw [hr,G.out]);have cE:=hide hp;have cy:=hide bX;have eF:0<((A % D:Nat):Int):=om;generalize ((A % D:Nat):Int)=L at *;subst hs;clear hk hr hq hp bX hm;have cI:=hide (cy.out);go_wp2_with fail;have el:=hide V.out.n;go_cut [7] (fun s7 wx=>s7=.pointer (some ⟨O,0,none⟩)∧ko (w.heap.size+1) O.heap.size true (ga (A / D+1)) w wx)
    case first =>
     go_region_with (first
      | (go_at_call 175;(with_reducible refine (cE.out _).mono ?_);rintro e w6 ⟨rfl,bd⟩;have aB:=hide (V.out.call (ww bd).out);obtain ⟨⟨b0,b1,b2,b3,b4,b5,b6,b7,b8⟩,_⟩:=bn.nine (show bn w6 O.heap.size true (ga (A / D)) by have:=aB.out.n;rwa [gw] at this);clear bd)
      | (go_at_call 174;obtain ⟨ok,b9⟩:=cI.out w6;(with_reducible refine b9.mono ?_);rintro e w7 ⟨rfl,bh⟩;have aF:=hide (aB.out.call bh);have cl:=hide (show bn w7 O.heap.size true (ga (A / D)) by have:=aF.out.n;rwa [gw] at this);obtain ⟨⟨c0,c1,c2,c3,c4,c5,c6,c7,c8⟩,⟨d0,d1,d2,d3,d4,d5,d6,d7,d8⟩,eU⟩:=bn.nine cl.out;clear bh b9))
     all_goals
      go_wp2_with fail;go_meet;exact ⟨rfl,ko.put (ko.zero aF.out) (A / D+1)⟩
    case rest =>
     obtain ⟨rfl,I⟩:=hcut;have cS:=hide I.r;have f:=I.b;have hz:=I.n.lt;obtain ⟨⟨a0,a1,a2,a3,a4,a5,a6,a7,a8⟩,⟨g0,g1,g2,g3,g4,g5,g6,g7,g8⟩,_⟩:=bn.nine I.n;clear I;go_wp2_with fail;refine (HK.out _).mono ?_;rintro e w5 ⟨rfl,F⟩;have T:=hide (cS.out.call F);have R:Hid (Below w w w5):=by have hs:=f.size;exact ww F
     clear F f;obtain ⟨⟨r0,r1⟩,f0,f1,al⟩:=cO T.out;have f:=R.out;have d9:=f.size;go_wp2;refine bodyPost_ret (v:=.tuple #[.agg #[h3,.int .u64 l3],r3,.int .i64 0]) (by simp (maxDischargeDepth:=9) [results,Tryz.results111,go_sem,r0,r1,f0,f1,al];rw [U.out]) rfl ⟨rfl,by (repeat' exact bel)⟩
  ·obtain ⟨i,rfl⟩:∃ i,k=i+1:=⟨k-1,by omega⟩
   have bt:i<8:=om;obtain ⟨wo,cb⟩:∃ wo:World,wo=wr:=⟨_,rfl⟩;rw [← cb] at V ⊢;clear cb;have dq:=hide (show IA (A / 65536 ^ i) D 16 (A / 65536 ^ (i+1) % D) 0 by
    have:=Bv (A / 65536 ^ i) D
    rwa [show A / 65536 ^ i / 2 ^ 16=A / 65536 ^ (i+1) by rw [mD]] at this)
   generalize A / 65536 ^ (i+1) % D=L0 at *;go_wp2_with fail;go_loopw [8,10,11] (fun s8 ek aq wr=>∃ (m l g:Nat),s8=.int .u64 (l:Int)∧ek=.int .u64 (g:Int)∧aq=.int .u64 ((2 ^ m / 2:Nat):Int)∧m≤16∧Hid (IA (A / 65536 ^ i) D m l g)∧ko (w.heap.size+1) O.heap.size s (fR A (A / D) (i+1)) w wr) (fun _ _ aq _=>(intOf aq).toNat)
   case atStart=>exact ⟨16,L0,0,rfl,rfl,rfl,by omega,dq,V.out⟩
   case round =>
    obtain ⟨m,l,g,rfl,rfl,rfl,hm,HB,bb⟩:=hrel;have HT:=hide bb;clear bb;have ah:=IT S.out HB.out;have f1:=HT.out.n.frozen (1+i);have c1:=HT.out.n.cell (Cn (X:=A) (Y:=A / D) bt);have eE:(l:Int)<d:=by have:=G.out;omega
    have ey:(g:Int)<65536:=om;have eB:0≤(l:Int):=Int.natCast_nonneg _;have ex:0≤(g:Int):=Int.natCast_nonneg _;rcases Nat.eq_zero_or_pos m with rfl | bx
    ·obtain ⟨e1,e2⟩:=Hv HB.out
     have cp:=hide (show (l:Int)=((A / 65536 ^ i % D:Nat):Int) by rw [e1]);have cr:=hide (show (g:Int)=(dg (A / D) i:Int) by rw [e2]);have HM:=hide (Bz (X:=A) (Y:=A / D) bt);rw [show ((2 ^ 0 / 2:Nat):Int)=0 from rfl];clear HB e1 e2 ah;generalize (l:Int)=l at *;generalize (g:Int)=g at *;go_wp2;go_roundw
     case rel=>exact ⟨i,by rw [cp.out],by go_num,by omega,by rw [cr.out,← HM.out];exact HT.out.set i _⟩
     case measure=>simp [intOf]
    ·obtain ⟨t,rfl⟩:∃ t,m=t+1:=⟨m-1,by omega⟩
     have E:=C8 S.out om HB.out;have bl:=I2 (Z:=A / 65536 ^ i) (t:=t) om;have HQ:=hide (show (dg A i:Int) / ((2 ^ t:Nat):Int) % 2=((A / 65536 ^ i / 2 ^ t % 2:Nat):Int) by rw [← bl];exact Bg _ _);have H:((A / 65536 ^ i / 2 ^ t % 2:Nat):Int)<2∧0≤((A / 65536 ^ i / 2 ^ t % 2:Nat):Int):=by have:=Nat.mod_lt (A / 65536 ^ i / 2 ^ t) (show 0<2 by decide);omega
     have o:=hide E;have ba:=hide (show 1≤2 ^ t∧2 ^ t≤32768 from ⟨Nat.one_le_two_pow,by have:=Nat.pow_le_pow_right (show 0<2 by decide) (show t≤15 by omega);simpa using this⟩);have em:0<((2 ^ t:Nat):Int):=by have:=ba.out.1;omega
     have es:((2 ^ t:Nat):Int)≤32768:=by have:=ba.out.2;omega
     rw [show ((2 ^ (t+1) / 2:Nat):Int)=((2 ^ t:Nat):Int) by rw [Fp]];have ay:=hide (show ((2 ^ t:Nat):Int) / 2=((2 ^ t / 2:Nat):Int) by omega);have hY:0≤(dg A i:Int)∧(dg A i:Int)<65536:=by have:=iS A i;omega
     obtain ⟨bc,ds⟩:=hY;obtain ⟨H,ea⟩:=H;rw [← HQ.out] at H ea;have eN:0≤(dg A i:Int) / ((2 ^ t:Nat):Int):=Int.ediv_nonneg bc om;have eS:(dg A i:Int) / ((2 ^ t:Nat):Int)<65536:=Int.lt_of_le_of_lt (Int.ediv_le_self _ bc) ds;obtain ⟨qn,ca⟩:∃ qn,A / 65536 ^ i / 2 ^ t % 2=qn:=⟨_,rfl⟩;rw [ca] at HQ E;clear bl o ca;by_cases hc:D≤l*2+qn
     ·rw [if_pos hc] at E
      have o:=hide E;have W:=hide (show (l:Int)*2+(dg A i:Int) / ((2 ^ t:Nat):Int) % 2-d=((l*2+qn-D:Nat):Int) by rw [HQ.out];have:=G.out;omega);have ab:=hide (show (g:Int)*2+1=((g*2+1:Nat):Int) by omega);have dY:d≤(l:Int)*2+(dg A i:Int) / ((2 ^ t:Nat):Int) % 2:=by rw [HQ.out];have:=G.out;omega
      clear E hc ah bx HB;generalize (dg A i:Int)=Y at *;generalize ((2 ^ t:Nat):Int)=B at *;go_wp2
      all_goals first
       | (exfalso;omega)
       | skip
      go_roundw
      case rel=>exact ⟨t,l*2+qn-D,g*2+1,by rw [W.out],by rw [ab.out],by rw [ay.out],by omega,o,HT.out⟩
      case measure=>simp [intOf];omega
     ·rw [if_neg hc] at E
      have o:=hide E;have W:=hide (show (l:Int)*2+(dg A i:Int) / ((2 ^ t:Nat):Int) % 2=((l*2+qn:Nat):Int) by rw [HQ.out];omega);have ab:=hide (show (g:Int)*2=((g*2:Nat):Int) by omega);have dY:decide (d≤(l:Int)*2+(dg A i:Int) / ((2 ^ t:Nat):Int) % 2)=false:=by rw [HQ.out];have:=G.out;simp;omega
      clear E hc ah bx HB;generalize (dg A i:Int)=Y at *;generalize ((2 ^ t:Nat):Int)=B at *;go_wp2
      all_goals first
       | (exfalso;omega)
       | skip
      go_roundw
      case rel=>exact ⟨t,l*2+qn,g*2,by rw [W.out],by rw [ab.out],by rw [ay.out],by omega,o,HT.out⟩
      case measure=>simp [intOf];omega
theorem uZ (A D:Nat) (f:0<D):(A:Int) / (D:Int)=((A / D:Nat):Int)∧(A:Int) % (D:Int)=((A % D:Nat):Int):=⟨(Int.natCast_ediv A D).symm,(Int.natCast_emod A D).symm⟩
theorem FM {A D:Nat} (f:0<D) (h:A % D=0):(-(A:Int)) / (D:Int)=-((A / D:Nat):Int)∧(-(A:Int)) % (D:Int)=0:=by
 have e:D*(A / D)+A % D=A:=Nat.div_add_mod A D;refine (Int.ediv_emod_unique (show (0:Int)<D by omega)).2 ⟨?_,by omega,by omega⟩;rw [Int.mul_neg,← Int.natCast_mul];omega
theorem Fb {A D:Nat} (f:0<D) (h:¬ A % D=0):(-(A:Int)) / (D:Int)=-((A / D:Nat):Int)-1∧(-(A:Int)) % (D:Int)=(D:Int)-((A % D:Nat):Int):=by
 have e:D*(A / D)+A % D=A:=Nat.div_add_mod A D;have o:=Nat.mod_lt A f;refine (Int.ediv_emod_unique (show (0:Int)<D by omega)).2 ⟨?_,by omega,by omega⟩;rw [Int.mul_sub,Int.mul_neg,← Int.natCast_mul,Int.mul_one];omega
theorem Fz {N d:Int} (F:bL N) (f:0<d):bL (N / d):=by
  unfold bL at *;rcases Int.lt_or_le N 0 with h | h
  · have o : N ≤ N / d := (Int.le_ediv_iff_mul_le f).2 (by
      have:=Int.mul_le_mul_of_nonpos_left (a:=N) (b:=d) (c:=1) om om;omega)
    have E:N / d<0:=Int.ediv_neg_of_neg_of_pos h f;omega
  · have o:N / d≤N:=Int.ediv_le_self _ h
    have E:0≤N / d:=Int.ediv_nonneg h om;omega
theorem pY (N d:Int) (w:World) (o:bL N) (G:0<d) (J:d≤9223372036854775807) :
    Calls Tryz.prog 111 #[cv N,d] w fun e O=>e=.returned (.tuple #[cv (N / d),.int .i64 (N % d),.int .i64 0])∧Below w w O:=by
  obtain ⟨I,R⟩:=wV o;obtain ⟨D,rfl⟩:=Int.eq_ofNat_of_zero_le (show 0≤d by omega);have f:0<D:=om;have F:=Fz o G;refine za _ _ _ _ _ _ D (decide (N<0)) N.natAbs w rfl G J (hide I) (hide (fun w=>lK N w o)) (hide fun h=>?_) (hide fun h k=>?_)
  · by_cases E:N<0
    · have H : N.natAbs % D = 0 := by
        rcases h with h | h
        · simp at h;omega
        · exact h
      have e:=FM f H;rw [show -((N.natAbs:Nat):Int)=N by omega] at e;refine ⟨by rw [e.2,H];rfl,fun w=>gp _ _ _ w ?_ F⟩;rw [e.1];simp [E]
    · have e:=uZ N.natAbs D f
      rw [show ((N.natAbs:Nat):Int)=N by omega] at e;refine ⟨e.2,fun w=>gp _ _ _ w ?_ F⟩;rw [e.1];simp [E]
  · have E:N<0:=by simpa using h
    have e:=Fb f k;rw [show -((N.natAbs:Nat):Int)=N by omega] at e;have S:N.natAbs / D<65536 ^ 8-1:=by
      have:=Nat.div_le_self N.natAbs D;omega
    refine ⟨e.2,fun w=>fD true 0 1 1 w (hide om) (hide om) (hide om),fun w=>⟨_,mN true (N.natAbs / D) 1 w (hide om) (hide ag)⟩,fun w=>gp _ _ _ w ?_ F⟩;rw [e.1];simp;omega
theorem ra (a b c hi lo O R q r:Int) (w:World)
  (U:Hid (∀ w,Calls Tryz.prog 172 #[a,b] w fun e f=>e=.returned (.agg #[hi,.int .u64 lo])∧Below w w f))
  (S:Hid (∀ w,Calls Tryz.prog 111 #[.agg #[hi,.int .u64 lo],c] w fun e f=>e=.returned (.tuple #[.agg #[O,.int .u64 R],r,.int .i64 0])∧Below w w f))
  (T:Hid (∀ w,Calls Tryz.prog 113 #[.agg #[O,.int .u64 R]] w fun e f=>e=.returned (.tuple #[q,.int .i64 0])∧Below w w f)) :
  Calls Tryz.prog 110 #[a,b,c] w fun e f=>e=.returned (.tuple #[q,r,.int .i64 0])∧Below w w f:=by
 go_enter Tryz.func110,Tryz.ntmps110;go_wp2_with fail;refine (U.out _).mono ?_;rintro e W ⟨rfl,h⟩;have F:Hid (Below w w W):=ww h;clear h;go_wp2_with fail;refine (S.out _).mono ?_;rintro e w2 ⟨rfl,o⟩;have G:Hid (Below w w w2):=by have I:=F.out;have V:=I.size;exact ww o
 clear o;go_wp2_with fail;refine (T.out _).mono ?_;rintro e w3 ⟨rfl,E⟩;have H:Hid (Below w w w3):=by have I:=G.out;have V:=I.size;exact ww E
 clear E;go_wp2;have J:=H.out;refine bodyPost_ret (v:=.tuple #[q,r,.int .i64 0]) (by simp (maxDischargeDepth:=9) [results,Tryz.results110,go_sem]) rfl ⟨rfl,by (repeat' exact bel)⟩
theorem sP (a b c:Int) (w:World) (h:aX a) (o:aX b) (E:0<c) (F:c≤9223372036854775807) (f:aX (a*b / c)) :
  Calls Tryz.prog 110 #[a,b,c] w fun e G=>e=.returned (.tuple #[.int .i64 (a*b / c),.int .i64 (a*b % c),.int .i64 0])∧Below w w G:=by
 refine ra a b c _ _ _ _ _ _ w (hide (fun w=>xB a b w h o)) (hide (fun w=>pY (a*b) c w (wm h o) E F)) (hide (fun w=>?_));have:=mg (a*b / c) w (mP f);rw [(cB f).1,(cB f).2] at this;exact this
theorem EF (c:ar) (day:Int) (w:World) (hn:c.name.size≤1000) (hk:c.okB=true) (hd:cH day=true) :
  Calls Tryz.prog 160 #[av c,day] w fun e w'=>e=.returned (.tuple #[cC c day,cG c day])∧Below w w w':=by
 have a5:0≤day∧day<3068037:=by simpa [cH] using hd
 have V:=nd day a5.1 a5.2;have bc:=hide (show co c=0 by simp [co,hk]);have ay:=hide (fun (h:∀ z,dL day-2≤z→z<dL day-2+(5:Nat)→¬ eO c day z)=>(show cC c day=0∧cG c day=11 from by
  have bl:¬ ∃ y,eO c day y:=by
   rintro ⟨y,hy⟩;have h1:=Fu hy hd;have h2:=(cg (bo hy.1).1).2.1;exact h y om om hy
  obtain ⟨f1,_,f3⟩:=fw bl;exact ⟨f1,f3 hk hd⟩))
 have a1:=hide (fun y (h:eO c day y)=>(show cC c day=y∧cG c day=0 from ⟨(eX hd h).1,(eX hd h).2.2⟩));have bb:=hide hd;obtain ⟨Y,hY⟩:∃ Y,dL day=Y:=⟨_,rfl⟩;rw [hY] at V ay;have HY:=hide hY;have b1:=V.1;have b2:=V.2.1;clear hd V hY hk;simp only [av];go_enter Tryz.func160,Tryz.ntmps160;go_wp2_with fail;refine (aH c _ hn).mono ?_;rintro e w1 ⟨rfl,S⟩;rw [bc.out];have b8:w.heap.size<w1.heap.size:=aj S;have a7:Hid (Below w w w1):=ww S;have aB:=hide (aa S ac (au w c));obtain ⟨q0,q1,q2,q3,q4,q5,q6,q7,q8,q9,o,E,F,G⟩:=aB.out;clear S;go_wp2_with fail;refine (mW day _ bb.out).mono ?_;rintro e J ⟨rfl,T⟩;rw [HY.out];have bp:w.heap.size<J.heap.size:=aj T;have a8:Hid (Below w w J):=ao a7.out T;have aF:Hid (aG J w c):=by have hp:=aB.out;exact qq T
 clear q0 q1 q2 q3 q4 q5 q6 q7 q8 q9 o E F G;obtain ⟨q0,q1,q2,q3,q4,q5,q6,q7,q8,q9,o,E,F,G⟩:=aF.out;clear T;clear q0 q1 q2 q3 q4 q5 q6 q7 q8 q9 o E F G;have aA:=hide (az aF.out om (.cells #[.int .i64 Y,jU day,wU day] 135));have ah:=hide (show (J.alloc (.cells #[.int .i64 Y,jU day,wU day] 135)).cell? ⟨J,0,none⟩=some (.int .i64 Y) by simp [World.cell?_alloc_at]);have ad:=hide (show Below w w (J.alloc (.cells #[.int .i64 Y,jU day,wU day] 135)) by have hp:=a8.out;(repeat' exact bel));have al:J.heap.size<(J.alloc (.cells #[.int .i64 Y,jU day,wU day] 135)).heap.size:=ac;go_wp2_with fail;obtain ⟨B0,a2⟩:∃ B,J.heap.size=B:=⟨_,rfl⟩;obtain ⟨W0,a3⟩:∃ W,J.alloc (.cells #[.int .i64 Y,jU day,wU day] 135)=W:=⟨_,rfl⟩;rw [a3] at aA ah ad al ⊢;rw [a2] at ah al bp ⊢;clear a3 a2;go_loopw [9] (fun s wr=>∃ k:Nat,s=.int .i64 (Y-2+k)∧k≤5∧(∀ z,Y-2≤z→z<Y-2+k→¬ eO c day z)∧Below W0 W0 wr) (fun s _=>(Y+10-intOf s).toNat)
 case atStart=>exact ⟨0,by simp,by omega,fun z h1 h2=>by omega,Below.refl _ _⟩
 case round =>
  obtain ⟨k,rfl,hk,a6,hB⟩:=hrel;have R:=hide a6;have aq:=hide hB;have b6:=hB.size;have a4:wr.cell? ⟨B0,0,none⟩=some (.int .i64 Y):=(hB.cell (p:=⟨B0,0,none⟩) al).trans ah.out;have a0:=hide (aa hB om aA.out);clear a6 hB;by_cases b3:k<5
  ·obtain ⟨y,hy⟩:∃ y,Y-2+(k:Int)=y:=⟨_,rfl⟩
   have b7:y≤Y+2:=om;have bw:1598≤y:=om;have bx:y≤10001:=om;have f:=hide hy;rw [hy];clear hy;obtain ⟨q0,q1,q2,q3,q4,q5,q6,q7,q8,q9,o,E,F,G⟩:=a0.out;go_wp2_with fail
   all_goals first
    | (exfalso;omega)
    | skip
   refine (bO c y _ hn).mono ?_;rintro e w3 ⟨rfl,I⟩;have bd:=hide (aa I om a0.out);have ba:=hide (aq.out.trans (I.mono om));have ab:=(I.cell (p:=⟨B0,0,none⟩) (by show B0<wr.heap.size;omega)).trans a4;have b4:=I.size;clear q0 q1 q2 q3 q4 q5 q6 q7 q8 q9 o E F G;clear I a4;obtain ⟨q0,q1,q2,q3,q4,q5,q6,q7,q8,q9,o,E,F,G⟩:=bd.out;go_wp2_with fail;refine (gq c y _ hn).mono ?_;rintro e w4 ⟨rfl,U⟩;have O:=hide (ba.out.trans (U.mono om));have bt:=(U.cell (p:=⟨B0,0,none⟩) (by show B0<w3.heap.size;omega)).trans ab;have b5:=U.size;clear q0 q1 q2 q3 q4 q5 q6 q7 q8 q9 o E F G;clear U ab;have H:=ad.out.trans (O.out.mono om);by_cases hA:aO c y 1601=0
   ·have bh:(aO c y 1601==0)=true:=by simp [hA]
    by_cases h1:ax c y≤day
    ·by_cases h2:day≤bv c y
     ·have HF:=hide (a1.out y ⟨hA,h1,h2⟩)
      clear hA;go_wp2
      all_goals first
       | (exfalso;omega)
       | (go_ret2;exact ⟨aw HF.out.1.symm HF.out.2.symm,H⟩)
     ·have HN:=hide (show ¬ eO c day y from fun h=>h2 h.2.2)
      have b0:bv c y<day:=om;clear hA h2 H;go_wp2
      all_goals first
       | (exfalso;omega)
       | skip
      go_roundw
      case rel=>exact ⟨k+1,by rw [← f.out];congr 1;omega,by omega,fun z z1 z2=>by
       by_cases hz:z<Y-2+(k:Int)
       ·exact R.out z z1 hz
       ·have:z=y:=by have:=f.out;omega
        rw [this];exact HN.out,O.out⟩
      case measure=>have:=f.out;simp [intOf];omega
    ·have HN:=hide (show ¬ eO c day y from fun h=>h1 h.2.1)
     have bX:day<ax c y:=om;clear hA h1 H;go_wp2
     all_goals first
      | (exfalso;omega)
      | skip
     go_roundw
     case rel=>exact ⟨k+1,by rw [← f.out];congr 1;omega,by omega,fun z z1 z2=>by
      by_cases hz:z<Y-2+(k:Int)
      ·exact R.out z z1 hz
      ·have:z=y:=by have:=f.out;omega
       rw [this];exact HN.out,O.out⟩
     case measure=>have:=f.out;simp [intOf];omega
   ·have HN:=hide (show ¬ eO c day y from fun h=>hA h.1)
    have bh:(aO c y 1601==0)=false:=by simpa using hA
    clear hA H;go_wp2
    all_goals first
     | (exfalso;omega)
     | skip
    go_roundw
    case rel=>exact ⟨k+1,by rw [← f.out];congr 1;omega,by omega,fun z z1 z2=>by
     by_cases hz:z<Y-2+(k:Int)
     ·exact R.out z z1 hz
     ·have:z=y:=by have:=f.out;omega
      rw [this];exact HN.out,O.out⟩
    case measure=>have:=f.out;simp [intOf];omega
  ·obtain rfl:k=5:=om
   have HF:=hide (ay.out R.out);have H:=ad.out.trans (aq.out.mono om);go_wp2
   all_goals first
    | (exfalso;omega)
    | (go_ret2;exact ⟨aw HF.out.1.symm HF.out.2.symm,H⟩)
theorem Cx (c:ar) (day:Int) (w:World) (hn:c.name.size≤1000) :
  Calls Tryz.prog 160 #[av c,day] w fun e w'=>e=.returned (.tuple #[cC c day,cG c day])∧Below w w w':=by
 rcases eY c with ⟨_,T,J⟩ | ⟨_,T,J⟩
 ·cases W:cH day
  ·obtain ⟨R,_,S⟩:=ic (c:=c) W
   have O:=hide (And.intro R (S J));have HE:=hide T;have HD:=hide W;clear R S T J W;simp only [av];go_enter Tryz.func160,Tryz.ntmps160;go_wp2_with fail;refine (aH c _ hn).mono ?_;rintro e V ⟨rfl,f⟩;rw [HE.out];have ah:w.heap.size<V.heap.size:=aj f;have E:Hid (Below w w V):=ww f;have h:=hide (aa f ac (au w c));obtain ⟨q0,q1,q2,q3,q4,q5,q6,q7,q8,q9,F,G,H,I⟩:=h.out;clear f;go_wp2_with fail;refine (Df day _ HD.out).mono ?_;rintro e w2 ⟨rfl,o⟩;have al:w.heap.size<w2.heap.size:=aj o;have ab:Hid (Below w w w2):=ao E.out o;have ad:Hid (aG w2 w c):=by have hp:=h.out;exact qq o
   clear q0 q1 q2 q3 q4 q5 q6 q7 q8 q9 F G H I;obtain ⟨q0,q1,q2,q3,q4,q5,q6,q7,q8,q9,F,G,H,I⟩:=ad.out;clear o;have U:=ab.out;go_wp2;go_ret2;exact ⟨aw O.out.1.symm O.out.2.symm,by (repeat' exact bel)⟩
  ·exact EF c day w hn J W
 ·obtain ⟨R,_,S⟩:=jZ (day:=day) J
  have O:=hide (And.intro R S);have HE:=hide T;clear R S T J;simp only [av];go_enter Tryz.func160,Tryz.ntmps160;go_wp2_with fail;refine (aH c _ hn).mono ?_;rintro e V ⟨rfl,f⟩;rw [HE.out];have ah:w.heap.size<V.heap.size:=aj f;have E:Hid (Below w w V):=ww f;have h:=hide (aa f ac (au w c));obtain ⟨q0,q1,q2,q3,q4,q5,q6,q7,q8,q9,F,G,H,I⟩:=h.out;clear f;have U:=E.out;go_wp2;go_ret2;exact ⟨aw O.out.1.symm O.out.2.symm,by (repeat' exact bel)⟩
theorem rk (c:ar) (w:World) (O:c.name.size≤1000) (E:c.okB=false) :
  Calls Tryz.prog 158 #[av c] w fun e S=>e=.returned (.tuple #[.agg #[.int .i64 0,.int .i64 0],.int .i64 1])∧Below w w S:=by
 have F:=hide (show aO c c.first 1601=1 by simp [aO,E]);clear E;simp only [av];go_enter Tryz.func158,Tryz.ntmps158;go_wp2_with fail;refine (bO c c.first _ O).mono ?_;rintro e h ⟨rfl,f⟩;rw [F.out];have R:h.cell? ⟨w+1,0,none⟩=some (.int .i64 0):=am f;have H:h.frozen? ⟨w+1,0,none⟩=false:=ak f;have r1:h.cell? ⟨w+1,1,none⟩=some (.int .i64 0):=am f;have I:h.frozen? ⟨w+1,1,none⟩=false:=ak f;have o:w.heap.size+1<h.heap.size:=aj f;have G:=hide (show Below w w h by (repeat' exact bel));clear f;go_wp2;exact bodyPost_ret (v:=.tuple #[.agg #[.int .i64 0,.int .i64 0],.int .i64 1]) (by simp (maxDischargeDepth:=9) [results,Tryz.results158,go_sem,R,r1,H,I,o]) rfl ⟨rfl,by have J:=G.out;(repeat' exact bel)⟩
theorem ii (c:ar) (w:World) (W:c.name.size≤1000) (V:c.okB=true) :
  Calls Tryz.prog 158 #[av c] w fun e w'=>e=.returned (.tuple #[.agg #[ax c c.first,bv c c.last],.int .i64 0])∧Below w w w':=by
 have HA:=hide (dR V).1;clear V;simp only [av];go_enter Tryz.func158,Tryz.ntmps158;go_wp2_with fail;refine (bO c c.first _ W).mono ?_;rintro e o ⟨rfl,f⟩;rw [HA.out];have r0:o.cell? ⟨w+1,0,none⟩=some (.int .i64 0):=am f;have T:o.frozen? ⟨w+1,0,none⟩=false:=ak f;have r1:o.cell? ⟨w+1,1,none⟩=some (.int .i64 0):=am f;have U:o.frozen? ⟨w+1,1,none⟩=false:=ak f;have I:w.heap.size+1<o.heap.size:=aj f;have ab:w.heap.size<o.heap.size:=om;have G:=hide (aa (B:=w.heap.size) (c:=c) f ae (az (au w c) ac _));have HW:=hide (show Below w w o by (repeat' exact bel));obtain ⟨q0,q1,q2,q3,q4,q5,q6,q7,q8,q9,J,O,R,S⟩:=G.out;clear f;go_wp2_with fail;refine (gq c c.last _ W).mono ?_;rintro e F ⟨rfl,h⟩;have x0:F.cell? ⟨w+1,0,none⟩=some (.int .i64 0):=by rw [h.cell (p:=⟨w+1,0,none⟩) (by show w.heap.size+1<o.heap.size;omega)];exact r0
 have y0:F.frozen? ⟨w+1,0,none⟩=false:=by rw [h.frozen (p:=⟨w+1,0,none⟩) (by show w.heap.size+1<o.heap.size;omega)];exact T
 have x1:F.cell? ⟨w+1,1,none⟩=some (.int .i64 0):=by rw [h.cell (p:=⟨w+1,1,none⟩) (by show w.heap.size+1<o.heap.size;omega)];exact r1
 have y1:F.frozen? ⟨w+1,1,none⟩=false:=by rw [h.frozen (p:=⟨w+1,1,none⟩) (by show w.heap.size+1<o.heap.size;omega)];exact U
 have E:w.heap.size+1<F.heap.size:=Nat.lt_of_lt_of_le I h.size;have H:=hide (HW.out.trans (h.mono om));clear q0 q1 q2 q3 q4 q5 q6 q7 q8 q9 J O R S;clear h r0 r1 T U;go_wp2;exact bodyPost_ret (v:=.tuple #[.agg #[ax c c.first,bv c c.last],.int .i64 0]) (by simp (maxDischargeDepth:=9) [results,Tryz.results158,go_sem,x0,x1,y0,y1,E]) rfl ⟨rfl,by have ad:=H.out;(repeat' exact bel)⟩
theorem fl (c:ar) (day:Int) (w:World) (hn:c.name.size≤1000) :
    Calls Tryz.prog 99 #[av c,day] w fun e w'=>e=.returned (.tuple #[aN c day,bQ c day])∧Below w w w':=by
  rcases eY c with ⟨_,h1,O⟩ | ⟨_,h1,O⟩
  · have HK:=hide O
    cases hd:cH day
    · have T : bQ c day = 4 := by
        have:=(ic (c:=c) hd).2.2 O;simp [bQ,O,this]
      have V:=hide (show aN c day=0∧bQ c day=4 from ⟨by rw [aN,if_neg om],T⟩);have HD:=hide hd;clear h1 O hd T;simp only [av];go_enter Tryz.func99,Tryz.ntmps99;go_wp2_with fail;refine (ii c _ hn HK.out).mono ?_;rintro e I ⟨rfl,h⟩;have ah:w.heap.size<I.heap.size:=aj h;have J:Hid (Below w w I):=ww h;have H:=hide (aa h ac (au w c));obtain ⟨q0,q1,q2,q3,q4,q5,q6,q7,q8,q9,o,E,F,G⟩:=H.out;clear h;go_wp2_with fail;refine (Df day _ HD.out).mono ?_;rintro e R ⟨rfl,f⟩;have ay:w.heap.size<R.heap.size:=aj f;have U:Hid (Below w w R):=ao J.out f;have S:Hid (aG R w c):=by have hp:=H.out;exact qq f
      clear q0 q1 q2 q3 q4 q5 q6 q7 q8 q9 o E F G;obtain ⟨q0,q1,q2,q3,q4,q5,q6,q7,q8,q9,o,E,F,G⟩:=S.out;clear f;have W:=U.out;go_wp2;go_ret2;exact ⟨aw V.out.1.symm V.out.2.symm,by (repeat' exact bel)⟩
    · have HD:=hide hd
      rcases (show day<ax c c.first∨(ax c c.first≤day∧bv c c.last<day)∨(ax c c.first≤day∧day≤bv c c.last) by omega) with hx | hx | hx
      · have T : bQ c day = 11 := by
          simp only [bQ,O];by_cases hy:∃ y,eO c day y
          · obtain ⟨y,hy⟩:=hy
            rw [(eX hd hy).2.2];simp;omega
          · rw [(fw hy).2.2 O hd];simp
        have V:=hide (show aN c day=0∧bQ c day=11 from ⟨by rw [aN,if_neg om],T⟩);clear h1 O hd T;simp only [av];go_enter Tryz.func99,Tryz.ntmps99;go_wp2_with fail;refine (ii c _ hn HK.out).mono ?_;rintro e I ⟨rfl,h⟩;have ah:w.heap.size<I.heap.size:=aj h;have J:Hid (Below w w I):=ww h;have H:=hide (aa h ac (au w c));obtain ⟨q0,q1,q2,q3,q4,q5,q6,q7,q8,q9,o,E,F,G⟩:=H.out;clear h;go_wp2_with fail;refine (mW day _ HD.out).mono ?_;rintro e R ⟨rfl,f⟩;have ab:=hide (bu (B:=I.heap.size) (s:=⟨ax c c.first,bv c c.last⟩) f ac (fC I ⟨ax c c.first,bv c c.last⟩));have aB:I.heap.size<R.heap.size:=aj f;have ay:w.heap.size<R.heap.size:=aj f;have U:Hid (Below w w R):=ao J.out f;have S:Hid (aG R w c):=by have hp:=H.out;exact qq f
        clear q0 q1 q2 q3 q4 q5 q6 q7 q8 q9 o E F G;obtain ⟨q0,q1,q2,q3,q4,q5,q6,q7,q8,q9,o,E,F,G⟩:=S.out;clear f;have W:=U.out;obtain ⟨s0,s1⟩:=ab.out;simp only at s0 s1;go_wp2
        all_goals first
          | (exfalso;omega)
          | (go_ret2;exact ⟨aw V.out.1.symm V.out.2.symm,by (repeat' exact bel)⟩)
      · obtain ⟨aF,a0⟩:=hx
        have T:bQ c day=11:=by
          simp only [bQ,O];by_cases hy:∃ y,eO c day y
          · obtain ⟨y,hy⟩:=hy
            rw [(eX hd hy).2.2];simp;omega
          · rw [(fw hy).2.2 O hd];simp
        have V:=hide (show aN c day=0∧bQ c day=11 from ⟨by rw [aN,if_neg om],T⟩);clear h1 O hd T;simp only [av];go_enter Tryz.func99,Tryz.ntmps99;go_wp2_with fail;refine (ii c _ hn HK.out).mono ?_;rintro e I ⟨rfl,h⟩;have ah:w.heap.size<I.heap.size:=aj h;have J:Hid (Below w w I):=ww h;have H:=hide (aa h ac (au w c));obtain ⟨q0,q1,q2,q3,q4,q5,q6,q7,q8,q9,o,E,F,G⟩:=H.out;clear h;go_wp2_with fail;refine (mW day _ HD.out).mono ?_;rintro e R ⟨rfl,f⟩;have ab:=hide (bu (B:=I.heap.size) (s:=⟨ax c c.first,bv c c.last⟩) f ac (fC I ⟨ax c c.first,bv c c.last⟩));have aB:I.heap.size<R.heap.size:=aj f;have ay:w.heap.size<R.heap.size:=aj f;have U:Hid (Below w w R):=ao J.out f;have S:Hid (aG R w c):=by have hp:=H.out;exact qq f
        clear q0 q1 q2 q3 q4 q5 q6 q7 q8 q9 o E F G;obtain ⟨q0,q1,q2,q3,q4,q5,q6,q7,q8,q9,o,E,F,G⟩:=S.out;clear f;have W:=U.out;obtain ⟨s0,s1⟩:=ab.out;simp only at s0 s1;go_wp2
        all_goals first
          | (exfalso;omega)
          | (go_ret2;exact ⟨aw V.out.1.symm V.out.2.symm,by (repeat' exact bel)⟩)
      · obtain ⟨aF,a0⟩:=hx
        have V:=hide (show aN c day=cC c day∧bQ c day=cG c day from by
          by_cases hy:∃ y,eO c day y
          · obtain ⟨y,hy⟩:=hy
            have h0:=(eX hd hy).2.2;have T:bQ c day=0:=by simp [bQ,O,h0,aF,a0]
            exact ⟨by rw [aN,if_pos T],by rw [T,h0]⟩
          · obtain ⟨g1,_,g3⟩:=fw hy
            have h0:=g3 O hd;have T:bQ c day=11:=by simp [bQ,O,h0]
            exact ⟨by rw [aN,if_neg om,g1],by rw [T,h0]⟩)
        obtain ⟨FY,aq⟩:∃ X,cC c day=X:=⟨_,rfl⟩;obtain ⟨FE,al⟩:∃ X,cG c day=X:=⟨_,rfl⟩;rw [aq,al] at V;have aA:=hide (And.intro aq al);clear h1 O hd aq al;simp only [av];go_enter Tryz.func99,Tryz.ntmps99;go_wp2_with fail;refine (ii c _ hn HK.out).mono ?_;rintro e I ⟨rfl,h⟩;have ah:w.heap.size<I.heap.size:=aj h;have J:Hid (Below w w I):=ww h;have H:=hide (aa h ac (au w c));obtain ⟨q0,q1,q2,q3,q4,q5,q6,q7,q8,q9,o,E,F,G⟩:=H.out;clear h;go_wp2_with fail;refine (mW day _ HD.out).mono ?_;rintro e R ⟨rfl,f⟩;have ab:=hide (bu (B:=I.heap.size) (s:=⟨ax c c.first,bv c c.last⟩) f ac (fC I ⟨ax c c.first,bv c c.last⟩));have aB:I.heap.size<R.heap.size:=aj f;have ay:w.heap.size<R.heap.size:=aj f;have U:Hid (Below w w R):=ao J.out f;have S:Hid (aG R w c):=by have hp:=H.out;exact qq f
        clear q0 q1 q2 q3 q4 q5 q6 q7 q8 q9 o E F G;obtain ⟨q0,q1,q2,q3,q4,q5,q6,q7,q8,q9,o,E,F,G⟩:=S.out;clear f;obtain ⟨s0,s1⟩:=ab.out;simp only at s0 s1;go_wp2_with fail
        all_goals first
          | (exfalso;omega)
          | skip
        refine (Cx c day _ hn).mono ?_;rintro e w3 ⟨rfl,ad⟩;rw [aA.out.1,aA.out.2];have a3:w.heap.size<w3.heap.size:=aj ad;have a1:Hid (Below w w w3):=ao U.out ad;have a2:Hid (aG w3 w c):=by have hp:=S.out;exact qq ad
        clear q0 q1 q2 q3 q4 q5 q6 q7 q8 q9 o E F G;obtain ⟨q0,q1,q2,q3,q4,q5,q6,q7,q8,q9,o,E,F,G⟩:=a2.out;clear ad;have W:=a1.out;go_wp2;go_ret2;exact ⟨aw V.out.1.symm V.out.2.symm,by (repeat' exact bel)⟩
  · have HK:=hide O
    have T:bQ c day=1:=by simp [bQ,O]
    have V:=hide (show aN c day=0∧bQ c day=1 from ⟨by rw [aN,if_neg om],T⟩);clear h1 O T;simp only [av];go_enter Tryz.func99,Tryz.ntmps99;go_wp2_with fail;refine (rk c _ hn HK.out).mono ?_;rintro e I ⟨rfl,h⟩;have ah:w.heap.size<I.heap.size:=aj h;have J:Hid (Below w w I):=ww h;have H:=hide (aa h ac (au w c));obtain ⟨q0,q1,q2,q3,q4,q5,q6,q7,q8,q9,o,E,F,G⟩:=H.out;clear h;have W:=J.out;go_wp2;go_ret2;exact ⟨aw V.out.1.symm V.out.2.symm,by (repeat' exact bel)⟩
end
end Go.Proofs.YtjhhmeoibfdcmaaGreat
