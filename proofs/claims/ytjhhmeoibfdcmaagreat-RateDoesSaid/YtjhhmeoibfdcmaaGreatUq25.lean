/- The reference of layer 2: quotients. -/
import Derived.Test.YtjhhmeoibfdcmaaGreatUq24
set_option linter.unusedSimpArgs false
set_option linter.unusedVariables false
set_option maxRecDepth 100000
set_option maxHeartbeats 12800000
namespace Go.Proofs.YtjhhmeoibfdcmaaGreat
open Go.RowKit Qd
theorem mixD_setR {X Y i:Nat} (h:i<8):(mixD X Y (i+1)).set i (dg Y i:Int)=mixD X Y i:=by
  match i,h with
  | 0,_ | 1,_ | 2,_ | 3,_ | 4,_ | 5,_ | 6,_ | 7,_=>rfl
theorem mixD_getL {X Y i:Nat} (h:i<8):(mixD X Y (i+1))[i]?=some (dg X i:Int):=by
  match i,h with
  | 0,_ | 1,_ | 2,_ | 3,_ | 4,_ | 5,_ | 6,_ | 7,_=>rfl
theorem bit_of {Z t:Nat} (h:t<16):Z % 65536 / 2 ^ t % 2=Z / 2 ^ t % 2:=by
  have hc:t=0∨t=1∨t=2∨t=3∨t=4∨t=5∨t=6∨t=7∨t=8∨t=9∨t=10∨t=11∨t=12∨t=13∨t=14∨t=15:=by omega
  rcases hc with rfl | rfl | rfl | rfl | rfl | rfl | rfl | rfl | rfl | rfl | rfl | rfl | rfl | rfl | rfl | rfl <;> (simp only [Nat.reducePow];omega)
theorem two_half (m:Nat):2 ^ (m+1) / 2=2 ^ m:=by rw [Nat.pow_succ];omega
def DvB (Z d m left digit:Nat):Prop:=left=Z / 2 ^ m % d∧Z / 2 ^ 16 / d*2 ^ (16-m)+digit=Z / 2 ^ m / d∧digit<2 ^ (16-m)
theorem dvB_start (Z d:Nat):DvB Z d 16 (Z / 2 ^ 16 % d) 0:=⟨rfl,by simp,by simp⟩
theorem dvB_step {Z d m left digit:Nat} (hd:0<d) (hm:m<16) (h:DvB Z d (m+1) left digit) :
    (if d≤left*2+Z / 2 ^ m % 2 then DvB Z d m (left*2+Z / 2 ^ m % 2-d) (digit*2+1) else DvB Z d m (left*2+Z / 2 ^ m % 2) (digit*2)):=by
  obtain ⟨h1,h2,h3⟩:=h
  have e1:Z / 2 ^ (m+1)=Z / 2 ^ m / 2:=by rw [Nat.pow_succ,Nat.div_div_eq_div_mul]
  have hb:=div_bit (Z / 2 ^ m) d left (Z / 2 ^ m / 2 / d) hd (by rw [h1,e1]) rfl
  have e2:16-m=16-(m+1)+1:=by omega
  have h4:Z / 2 ^ 16 / d*2 ^ (16-m)+digit*2=Z / 2 ^ m / 2 / d*2:=by
    rw [← e1,← h2,e2]
    generalize Z / 2 ^ 16 / d=Q
    rw [Nat.pow_succ,← Nat.mul_assoc];omega
  have h5:digit*2+1<2 ^ (16-m):=by rw [e2,Nat.pow_succ];omega
  by_cases hc:d≤left*2+Z / 2 ^ m % 2
  · rw [if_pos hc] at hb ⊢
    exact ⟨hb.1,by rw [← hb.2,← h4];omega,h5⟩
  · rw [if_neg hc] at hb ⊢
    exact ⟨hb.1,by rw [← hb.2,← h4],by omega⟩
theorem dvB_end {A d i left digit:Nat} (h:DvB (A / 65536 ^ i) d 0 left digit):left=A / 65536 ^ i % d∧digit=dg (A / d) i:=by
  obtain ⟨h1,h2,h3⟩:=h
  refine ⟨by simpa using h1,?_⟩
  have e1:A / 65536 ^ i / 2 ^ 16=A / 65536 ^ (i+1):=by rw [div_succ]
  have e2:∀ M:Nat,A / M / d=A / d / M:=fun M=>by rw [Nat.div_div_eq_div_mul,Nat.div_div_eq_div_mul,Nat.mul_comm]
  have h4:=div_step (A / d) i
  rw [e1,e2] at h2
  simp only [Nat.pow_zero,Nat.div_one,Nat.sub_zero] at h2
  rw [e2] at h2
  have:(2:Nat) ^ 16=65536:=by decide
  omega
theorem dvB_bd {Z d m left digit:Nat} (hd:0<d) (h:DvB Z d m left digit):left<d∧digit<65536:=by
  obtain ⟨h1,h2,h3⟩:=h
  refine ⟨by rw [h1];exact Nat.mod_lt _ hd,Nat.lt_of_lt_of_le h3 ?_⟩
  exact Nat.le_trans (Nat.pow_le_pow_right (by decide) (show 16-m≤16 by omega)) (by decide)
theorem cast_div2 (a b:Nat):(a:Int) / (b:Int) % 2=((a / b % 2:Nat):Int):=by rw [← Int.natCast_ediv];omega
structure DvSt (R Bn:Nat) (s:Bool) (D:List Int) (w0 w:World):Prop where
  n:DgAt w Bn s D
  r:BlkIs w R #[.int .i64 0,.int .u64 0] 103
  nr:R≠Bn
  hR:w0.heap.size≤R
  hB:w0.heap.size≤Bn
  b:Below w0.heap.size w0 w
theorem DvSt.call {R Bn:Nat} {s:Bool} {D:List Int} {w0 w w':World} (h:DvSt R Bn s D w0 w) (hb:Below w.heap.size w w'):DvSt R Bn s D w0 w':=⟨h.n.call hb,h.r.call hb,h.nr,h.hR,h.hB,h.b.trans (hb.mono h.b.size)⟩
theorem DvSt.set {R Bn:Nat} {s:Bool} {D:List Int} {w0 w:World} (h:DvSt R Bn s D w0 w) (k:Nat) (v:Int):DvSt R Bn s (D.set k v) w0 (w.setCell ⟨Bn,1+k,none⟩ (.int .u64 v)):=⟨h.n.set k v,blk_off h.r h.nr _,h.nr,h.hR,h.hB,h.b.setCell h.hB _⟩
theorem DvSt.put {R Bn:Nat} {s c:Bool} {M:Nat} {w0 w:World} (h:DvSt R Bn s (dgL M) w0 w) (N:Nat):DvSt R Bn c (dgL N) w0 (numPut w Bn c N):=⟨h.n.put N,blk_putFar h.r h.nr N,h.nr,h.hR,h.hB,below_numPut h.b h.hB c N⟩
theorem DvSt.zero {R Bn X Y:Nat} {s:Bool} {w0 w:World} (h:DvSt R Bn s (mixD X Y 0) w0 w):DvSt R Bn s (dgL Y) w0 w:=by rwa [mixD_zero] at h
theorem r02div_gen (hi lo d h3 l3 r3:Int) (D:Nat) (s:Bool) (A:Nat) (w:World) (hdD:d=(D:Int)) (hd0:0<d) (hd1:d≤9223372036854775807) (hA:Hid (A<65536 ^ 8))
    (HO:Hid (∀ w,Calls Tryz.prog 173 #[.agg #[.int .i64 hi,.int .u64 lo]] w fun e w'=>e=.returned (numV s A)∧Below w.heap.size w w'))
    (H1:Hid (s=false∨A % D=0→r3=(A % D:Nat)∧∀ w,Calls Tryz.prog 176 #[numV s (A / D)] w fun e w'=>e=.returned (.tuple #[.agg #[.int .i64 h3,.int .u64 l3],.bool true])∧Below w.heap.size w w'))
    (H2:Hid (s=true→¬ A % D=0→r3=(D:Int)-(A % D:Nat)∧(∀ w,Calls Tryz.prog 175 #[.bool true,.int .u64 0,.int .u64 1] w fun e w'=>e=.returned (numV true 1)∧Below w.heap.size w w')∧(∀ w,∃ ok,Calls Tryz.prog 174 #[numV true (A / D),numV true 1] w fun e w'=>e=.returned (.tuple #[numV true (A / D+1),.bool ok])∧Below w.heap.size w w')∧∀ w,Calls Tryz.prog 176 #[numV true (A / D+1)] w fun e w'=>e=.returned (.tuple #[.agg #[.int .i64 h3,.int .u64 l3],.bool true])∧Below w.heap.size w w')) :
    Calls Tryz.prog 111 #[.agg #[.int .i64 hi,.int .u64 lo],.int .i64 d] w fun e w'=>e=.returned (.tuple #[.agg #[.int .i64 h3,.int .u64 l3],.int .i64 r3,.int .i64 0])∧Below w.heap.size w w':=by
  have HR0:=hide (show BlkIs ((w.alloc (.cells #[.int .i64 hi,.int .u64 lo] 103)).alloc wideZ) (w.heap.size+1) #[.int .i64 0,.int .u64 0] 103 by
    simpa using wide_new (w.alloc (.cells #[.int .i64 hi,.int .u64 lo] 103)))
  have HD0:=hide (show 0<D by omega)
  have HDD:=hide hdD
  clear hdD
  go_enter Tryz.func111,Tryz.ntmps111
  go_wp2_with fail
  refine (HO.out _).mono ?_
  rintro e w1 ⟨rfl,hb1⟩
  have HR1:=hide (HR0.out.call hb1)
  have HB1:Hid (Below w.heap.size w w1):=ww hb1
  have hrl:=HR1.out.lt
  have HS0:=hide (show DvSt (w.heap.size+1) w1.heap.size s (mixD A (A / D) 8) w (w1.alloc (numO s A)) from ⟨by rw [mixD_all];exact DgAt.numO w1 s A,HR1.out.alloc _,by omega,by omega,by omega,by have hp:=HB1.out;have hs:=hp.size;exact bel⟩)
  clear hb1
  go_wp2_with fail
  go_loopw [8,9] (fun s8 s9 wr=>∃ k:Nat,s8=.int .u64 ((A / 65536 ^ k % D:Nat):Int)∧s9=.int .i64 ((k:Int)-1)∧k≤8∧DvSt (w.heap.size+1) w1.heap.size s (mixD A (A / D) k) w wr) (fun _ s9 _=>(intOf s9+1).toNat)
  case atStart=>exact ⟨8,by rw [Nat.div_eq_of_lt hA.out];simp,rfl,by omega,HS0.out⟩
  case round =>
    obtain ⟨k,rfl,rfl,hk,hS⟩:=hrel
    have HS:=hide hS
    clear hS
    rcases Nat.eq_zero_or_pos k with rfl | hk0
    · have hD:=HS.out.n
      rw [mixD_zero] at hD
      obtain ⟨⟨a0,a1,a2,a3,a4,a5,a6,a7,a8⟩,⟨g0,g1,g2,g3,g4,g5,g6,g7,g8⟩,hz⟩:=DgAt.nine hD
      have hBel:=HS.out.b
      have HRN:=hide HS.out.r
      have HL0:=hide (show ((A / 65536 ^ 0 % D:Nat):Int)=((A % D:Nat):Int) by simp)
      rw [HL0.out]
      have hl1:0≤((A % D:Nat):Int)∧((A % D:Nat):Int)<d:=by have:=Nat.mod_lt A HD0.out;have:=HDD.out;omega
      obtain ⟨hl1,hl2⟩:=hl1
      clear hD
      by_cases hq:s=false∨A % D=0
      · obtain ⟨hr,hk⟩:=H1.out hq
        have HK:=hide hk
        have HRE:=hide hr
        have hq2:s=false∨((A % D:Nat):Int)=0:=by rcases hq with h | h;exact .inl h;right;omega
        generalize ((A % D:Nat):Int)=L at *
        clear hk hr hq
        have hq3:s=false∨(s=true∧L=0):=by
          rcases hq2 with h | h
          · exact .inl h
          · cases s
            · exact .inl rfl
            · exact .inr ⟨rfl,h⟩
        clear hq2
        rcases hq3 with rfl | ⟨rfl,rfl⟩
        all_goals
          go_wp2_with fail
          refine (HK.out _).mono ?_
          rintro e w5 ⟨rfl,hb5⟩
          have HR5:=hide (HRN.out.call hb5)
          have HB5:Hid (Below w.heap.size w w5):=by have hs:=hBel.size;exact ww hb5
          clear hb5 hBel
          obtain ⟨⟨r0,r1⟩,f0,f1,hz5⟩:=blk_two HR5.out
          have hBel:=HB5.out
          have hle:=hBel.size
          go_wp2
          refine bodyPost_ret (v:=.tuple #[.agg #[.int .i64 h3,.int .u64 l3],.int .i64 r3,.int .i64 0]) (by simp (maxDischargeDepth:=9) [results,Tryz.results111,go_sem,r0,r1,f0,f1,hz5];exact HRE.out.symm) rfl ⟨rfl,by (repeat' exact bel)⟩
      · have hs:s=true:=by cases s;exact absurd (.inl rfl) hq;rfl
        have hm:¬ A % D=0:=fun h=>hq (.inr h)
        obtain ⟨hr,hp,hpl,hk⟩:=H2.out hs hm
        have HK:=hide hk
        have HRE:=hide (show r3=d-((A % D:Nat):Int) by rw [hr,HDD.out])
        have HPT:=hide hp
        have HPL:=hide hpl
        have hm2:0<((A % D:Nat):Int):=by omega
        generalize ((A % D:Nat):Int)=L at *
        subst hs
        clear hk hr hq hp hpl hm
        have HPW:=hide (HPL.out)
        go_wp2_with fail
        have HDW:=hide HS.out.n
        go_cut [7] (fun s7 wx=>s7=.pointer (some ⟨w1.heap.size,0,none⟩)∧DvSt (w.heap.size+1) w1.heap.size true (dgL (A / D+1)) w wx)
        case first =>
          go_region_with (first
            | (go_at_call 175;(with_reducible refine (HPT.out _).mono ?_);rintro e w6 ⟨rfl,hb6⟩;have HS6:=hide (HS.out.call (ww hb6).out);obtain ⟨⟨b0,b1,b2,b3,b4,b5,b6,b7,b8⟩,_⟩:=DgAt.nine (show DgAt w6 w1.heap.size true (dgL (A / D)) by have:=HS6.out.n;rwa [mixD_zero] at this);clear hb6)
            | (go_at_call 174;obtain ⟨ok,hpq⟩:=HPW.out w6;(with_reducible refine hpq.mono ?_);rintro e w7 ⟨rfl,hb7⟩;have HS7:=hide (HS6.out.call hb7);have HD7:=hide (show DgAt w7 w1.heap.size true (dgL (A / D)) by have:=HS7.out.n;rwa [mixD_zero] at this);obtain ⟨⟨c0,c1,c2,c3,c4,c5,c6,c7,c8⟩,⟨d0,d1,d2,d3,d4,d5,d6,d7,d8⟩,hzd⟩:=DgAt.nine HD7.out;clear hb7 hpq))
          all_goals
            go_wp2_with fail
            go_meet
            exact ⟨rfl,DvSt.put (DvSt.zero HS7.out) (A / D+1)⟩
        case rest =>
          obtain ⟨rfl,hcS⟩:=hcut
          have HRM:=hide hcS.r
          have hBel:=hcS.b
          have hz:=hcS.n.lt
          obtain ⟨⟨a0,a1,a2,a3,a4,a5,a6,a7,a8⟩,⟨g0,g1,g2,g3,g4,g5,g6,g7,g8⟩,_⟩:=DgAt.nine hcS.n
          clear hcS
          go_wp2_with fail
          refine (HK.out _).mono ?_
          rintro e w5 ⟨rfl,hb5⟩
          have HR5:=hide (HRM.out.call hb5)
          have HB5:Hid (Below w.heap.size w w5):=by have hs:=hBel.size;exact ww hb5
          clear hb5 hBel
          obtain ⟨⟨r0,r1⟩,f0,f1,hz5⟩:=blk_two HR5.out
          have hBel:=HB5.out
          have hle:=hBel.size
          go_wp2
          refine bodyPost_ret (v:=.tuple #[.agg #[.int .i64 h3,.int .u64 l3],.int .i64 r3,.int .i64 0]) (by simp (maxDischargeDepth:=9) [results,Tryz.results111,go_sem,r0,r1,f0,f1,hz5];rw [HRE.out]) rfl ⟨rfl,by (repeat' exact bel)⟩
    · obtain ⟨i,rfl⟩:∃ i,k=i+1:=⟨k-1,by omega⟩
      have hi8:i<8:=by omega
      obtain ⟨wo,hwo⟩:∃ wo:World,wo=wr:=⟨_,rfl⟩
      rw [← hwo] at HS ⊢
      clear hwo
      have HST:=hide (show DvB (A / 65536 ^ i) D 16 (A / 65536 ^ (i+1) % D) 0 by
        have:=dvB_start (A / 65536 ^ i) D
        rwa [show A / 65536 ^ i / 2 ^ 16=A / 65536 ^ (i+1) by rw [div_succ]] at this)
      generalize A / 65536 ^ (i+1) % D=L0 at *
      go_wp2_with fail
      go_loopw [8,10,11] (fun s8 s10 s11 wr=>∃ (m l g:Nat),s8=.int .u64 (l:Int)∧s10=.int .u64 (g:Int)∧s11=.int .u64 ((2 ^ m / 2:Nat):Int)∧m≤16∧Hid (DvB (A / 65536 ^ i) D m l g)∧DvSt (w.heap.size+1) w1.heap.size s (mixD A (A / D) (i+1)) w wr) (fun _ _ s11 _=>(intOf s11).toNat)
      case atStart=>exact ⟨16,L0,0,rfl,rfl,rfl,by omega,HST,HS.out⟩
      case round =>
        obtain ⟨m,l,g,rfl,rfl,rfl,hm,HB,hS2⟩:=hrel
        have HT:=hide hS2
        clear hS2
        have hbd:=dvB_bd HD0.out HB.out
        have f1:=HT.out.n.frozen (1+i)
        have c1:=HT.out.n.cell (mixD_getL (X:=A) (Y:=A / D) hi8)
        have hld:(l:Int)<d:=by have:=HDD.out;omega
        have hg6:(g:Int)<65536:=by omega
        have hl0:0≤(l:Int):=Int.natCast_nonneg _
        have hg0:0≤(g:Int):=Int.natCast_nonneg _
        rcases Nat.eq_zero_or_pos m with rfl | hm0
        · obtain ⟨e1,e2⟩:=dvB_end HB.out
          have HE1:=hide (show (l:Int)=((A / 65536 ^ i % D:Nat):Int) by rw [e1])
          have HE2:=hide (show (g:Int)=(dg (A / D) i:Int) by rw [e2])
          have HM:=hide (mixD_setR (X:=A) (Y:=A / D) hi8)
          rw [show ((2 ^ 0 / 2:Nat):Int)=0 from rfl]
          clear HB e1 e2 hbd
          generalize (l:Int)=l at *
          generalize (g:Int)=g at *
          go_wp2
          go_roundw
          case rel=>exact ⟨i,by rw [HE1.out],by go_num,by omega,by rw [HE2.out,← HM.out];exact HT.out.set i _⟩
          case measure=>simp [intOf]
        · obtain ⟨t,rfl⟩:∃ t,m=t+1:=⟨m-1,by omega⟩
          have hst:=dvB_step HD0.out (by omega) HB.out
          have hbt:=bit_of (Z:=A / 65536 ^ i) (t:=t) (by omega)
          have HQ:=hide (show (dg A i:Int) / ((2 ^ t:Nat):Int) % 2=((A / 65536 ^ i / 2 ^ t % 2:Nat):Int) by rw [← hbt];exact cast_div2 _ _)
          have hq2:((A / 65536 ^ i / 2 ^ t % 2:Nat):Int)<2∧0≤((A / 65536 ^ i / 2 ^ t % 2:Nat):Int):=by have:=Nat.mod_lt (A / 65536 ^ i / 2 ^ t) (show 0<2 by decide);omega
          have HST2:=hide hst
          have HY2:=hide (show 1≤2 ^ t∧2 ^ t≤32768 from ⟨Nat.one_le_two_pow,by have:=Nat.pow_le_pow_right (show 0<2 by decide) (show t≤15 by omega);simpa using this⟩)
          have hB0:0<((2 ^ t:Nat):Int):=by have:=HY2.out.1;omega
          have hB1:((2 ^ t:Nat):Int)≤32768:=by have:=HY2.out.2;omega
          rw [show ((2 ^ (t+1) / 2:Nat):Int)=((2 ^ t:Nat):Int) by rw [two_half]]
          have HBN:=hide (show ((2 ^ t:Nat):Int) / 2=((2 ^ t / 2:Nat):Int) by omega)
          have hY:0≤(dg A i:Int)∧(dg A i:Int)<65536:=by have:=dg_lt A i;omega
          obtain ⟨hY0,hY1⟩:=hY
          obtain ⟨hq2,hq0⟩:=hq2
          rw [← HQ.out] at hq2 hq0
          have hv0:0≤(dg A i:Int) / ((2 ^ t:Nat):Int):=Int.ediv_nonneg hY0 (by omega)
          have hv1:(dg A i:Int) / ((2 ^ t:Nat):Int)<65536:=Int.lt_of_le_of_lt (Int.ediv_le_self _ hY0) hY1
          obtain ⟨qn,hqn⟩:∃ qn,A / 65536 ^ i / 2 ^ t % 2=qn:=⟨_,rfl⟩
          rw [hqn] at HQ hst
          clear hbt HST2 hqn
          by_cases hc:D≤l*2+qn
          · rw [if_pos hc] at hst
            have HST2:=hide hst
            have HV1:=hide (show (l:Int)*2+(dg A i:Int) / ((2 ^ t:Nat):Int) % 2-d=((l*2+qn-D:Nat):Int) by rw [HQ.out];have:=HDD.out;omega)
            have HV2:=hide (show (g:Int)*2+1=((g*2+1:Nat):Int) by omega)
            have hcd:d≤(l:Int)*2+(dg A i:Int) / ((2 ^ t:Nat):Int) % 2:=by rw [HQ.out];have:=HDD.out;omega
            clear hst hc hbd hm0 HB
            generalize (dg A i:Int)=Y at *
            generalize ((2 ^ t:Nat):Int)=B at *
            go_wp2
            all_goals first
              | (exfalso;omega)
              | skip
            go_roundw
            case rel=>exact ⟨t,l*2+qn-D,g*2+1,by rw [HV1.out],by rw [HV2.out],by rw [HBN.out],by omega,HST2,HT.out⟩
            case measure=>simp [intOf];omega
          · rw [if_neg hc] at hst
            have HST2:=hide hst
            have HV1:=hide (show (l:Int)*2+(dg A i:Int) / ((2 ^ t:Nat):Int) % 2=((l*2+qn:Nat):Int) by rw [HQ.out];omega)
            have HV2:=hide (show (g:Int)*2=((g*2:Nat):Int) by omega)
            have hcd:decide (d≤(l:Int)*2+(dg A i:Int) / ((2 ^ t:Nat):Int) % 2)=false:=by rw [HQ.out];have:=HDD.out;simp;omega
            clear hst hc hbd hm0 HB
            generalize (dg A i:Int)=Y at *
            generalize ((2 ^ t:Nat):Int)=B at *
            go_wp2
            all_goals first
              | (exfalso;omega)
              | skip
            go_roundw
            case rel=>exact ⟨t,l*2+qn,g*2,by rw [HV1.out],by rw [HV2.out],by rw [HBN.out],by omega,HST2,HT.out⟩
            case measure=>simp [intOf];omega
theorem nat_div_mod (A D:Nat) (hD:0<D):(A:Int) / (D:Int)=((A / D:Nat):Int)∧(A:Int) % (D:Int)=((A % D:Nat):Int):=⟨(Int.natCast_ediv A D).symm,(Int.natCast_emod A D).symm⟩
theorem neg_div0 {A D:Nat} (hD:0<D) (h:A % D=0):(-(A:Int)) / (D:Int)=-((A / D:Nat):Int)∧(-(A:Int)) % (D:Int)=0:=by
  have e:D*(A / D)+A % D=A:=Nat.div_add_mod A D
  refine (Int.ediv_emod_unique (show (0:Int)<D by omega)).2 ⟨?_,by omega,by omega⟩
  rw [Int.mul_neg,← Int.natCast_mul]
  omega
theorem neg_div1 {A D:Nat} (hD:0<D) (h:¬ A % D=0):(-(A:Int)) / (D:Int)=-((A / D:Nat):Int)-1∧(-(A:Int)) % (D:Int)=(D:Int)-((A % D:Nat):Int):=by
  have e:D*(A / D)+A % D=A:=Nat.div_add_mod A D
  have hlt:=Nat.mod_lt A hD
  refine (Int.ediv_emod_unique (show (0:Int)<D by omega)).2 ⟨?_,by omega,by omega⟩
  rw [Int.mul_sub,Int.mul_neg,← Int.natCast_mul,Int.mul_one]
  omega
theorem div_wide {N d:Int} (hN:wideOk N) (h0:0<d):wideOk (N / d):=by
  unfold wideOk at *
  rcases Int.lt_or_le N 0 with h | h
  · have h1 : N ≤ N / d := (Int.le_ediv_iff_mul_le h0).2 (by
      have:=Int.mul_le_mul_of_nonpos_left (a:=N) (b:=d) (c:=1) (by omega) (by omega)
      omega)
    have h2:N / d<0:=Int.ediv_neg_of_neg_of_pos h h0
    omega
  · have h1:N / d≤N:=Int.ediv_le_self _ h
    have h2:0≤N / d:=Int.ediv_nonneg h (by omega)
    omega
theorem r02div_any (N d:Int) (w:World) (hN:wideOk N) (h0:0<d) (h1:d≤9223372036854775807) :
    Calls Tryz.prog 111 #[wideV N,.int .i64 d] w fun e w'=>e=.returned (.tuple #[wideV (N / d),.int .i64 (N % d),.int .i64 0])∧Below w.heap.size w w':=by
  obtain ⟨a1,a2⟩:=wd_nat hN
  obtain ⟨D,rfl⟩:=Int.eq_ofNat_of_zero_le (show 0≤d by omega)
  have hD:0<D:=by omega
  have hq:=div_wide hN h0
  refine r02div_gen _ _ _ _ _ _ D (decide (N<0)) N.natAbs w rfl h0 h1 (hide a1) (hide (fun w=>r02of_any N w hN)) (hide fun h=>?_) (hide fun h k=>?_)
  · by_cases hn:N<0
    · have hm : N.natAbs % D = 0 := by
        rcases h with h | h
        · simp at h;omega
        · exact h
      have e:=neg_div0 hD hm
      rw [show -((N.natAbs:Nat):Int)=N by omega] at e
      refine ⟨by rw [e.2,hm];rfl,fun w=>r02back_ok _ _ _ w ?_ hq⟩
      rw [e.1];simp [hn]
    · have e:=nat_div_mod N.natAbs D hD
      rw [show ((N.natAbs:Nat):Int)=N by omega] at e
      refine ⟨e.2,fun w=>r02back_ok _ _ _ w ?_ hq⟩
      rw [e.1];simp [hn]
  · have hn:N<0:=by simpa using h
    have e:=neg_div1 hD k
    rw [show -((N.natAbs:Nat):Int)=N by omega] at e
    have hA:N.natAbs / D<65536 ^ 8-1:=by
      have:=Nat.div_le_self N.natAbs D
      omega
    refine ⟨e.2,fun w=>r02put_int true 0 1 1 w (hide (by omega)) (hide (by omega)) (hide (by omega)),fun w=>⟨_,r02plus_same true (N.natAbs / D) 1 w (hide (by omega)) (hide (by decide))⟩,fun w=>r02back_ok _ _ _ w ?_ hq⟩
    rw [e.1];simp;omega
theorem r02muldiv_gen (a b c hi lo qh ql q r:Int) (w:World)
    (HM:Hid (∀ w,Calls Tryz.prog 172 #[.int .i64 a,.int .i64 b] w fun e w'=>e=.returned (.agg #[.int .i64 hi,.int .u64 lo])∧Below w.heap.size w w'))
    (HD:Hid (∀ w,Calls Tryz.prog 111 #[.agg #[.int .i64 hi,.int .u64 lo],.int .i64 c] w fun e w'=>e=.returned (.tuple #[.agg #[.int .i64 qh,.int .u64 ql],.int .i64 r,.int .i64 0])∧Below w.heap.size w w'))
    (HF:Hid (∀ w,Calls Tryz.prog 113 #[.agg #[.int .i64 qh,.int .u64 ql]] w fun e w'=>e=.returned (.tuple #[.int .i64 q,.int .i64 0])∧Below w.heap.size w w')) :
    Calls Tryz.prog 110 #[.int .i64 a,.int .i64 b,.int .i64 c] w fun e w'=>e=.returned (.tuple #[.int .i64 q,.int .i64 r,.int .i64 0])∧Below w.heap.size w w':=by
  go_enter Tryz.func110,Tryz.ntmps110
  go_wp2_with fail
  refine (HM.out _).mono ?_
  rintro e w1 ⟨rfl,hb1⟩
  have HB1:Hid (Below w.heap.size w w1):=ww hb1
  clear hb1
  go_wp2_with fail
  refine (HD.out _).mono ?_
  rintro e w2 ⟨rfl,hb2⟩
  have HB2:Hid (Below w.heap.size w w2):=by have hp:=HB1.out;have hs:=hp.size;exact ww hb2
  clear hb2
  go_wp2_with fail
  refine (HF.out _).mono ?_
  rintro e w3 ⟨rfl,hb3⟩
  have HB3:Hid (Below w.heap.size w w3):=by have hp:=HB2.out;have hs:=hp.size;exact ww hb3
  clear hb3
  go_wp2
  have hBel:=HB3.out
  refine bodyPost_ret (v:=.tuple #[.int .i64 q,.int .i64 r,.int .i64 0]) (by simp (maxDischargeDepth:=9) [results,Tryz.results110,go_sem]) rfl ⟨rfl,by (repeat' exact bel)⟩
theorem r02muldiv_ok (a b c:Int) (w:World) (ha:in64 a) (hb:in64 b) (h0:0<c) (h1:c≤9223372036854775807) (hq:in64 (a*b / c)) :
    Calls Tryz.prog 110 #[.int .i64 a,.int .i64 b,.int .i64 c] w fun e w'=>e=.returned (.tuple #[.int .i64 (a*b / c),.int .i64 (a*b % c),.int .i64 0])∧Below w.heap.size w w':=by
  refine r02muldiv_gen a b c _ _ _ _ _ _ w (hide (fun w=>r02mul_any a b w ha hb)) (hide (fun w=>r02div_any (a*b) c w (mul_wide ha hb) h0 h1)) (hide (fun w=>?_))
  have:=r02fit_any (a*b / c) w (in_wd hq)
  rw [(fit_yes hq).1,(fit_yes hq).2] at this
  exact this
end Go.Proofs.YtjhhmeoibfdcmaaGreat
