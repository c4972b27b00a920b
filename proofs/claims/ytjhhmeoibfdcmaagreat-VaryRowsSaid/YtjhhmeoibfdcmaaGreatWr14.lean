/- Lemmas. -/
import Derived.BigQuiet
import Derived.Deep.DeepCutAuto
import Derived.Laws.Bits64b
import Derived.Laws.MathBits
import Derived.Lib.Mul64
import Derived.Lib.QuietBelow
import Derived.Test.YtjhhmeoibfdcmaaGreatWr10
set_option linter.unusedSimpArgs false
set_option linter.unusedVariables false
set_option maxRecDepth 100000
set_option maxHeartbeats 12800000
namespace Go.Proofs.YtjhhmeoibfdcmaaGreat
section
open Go.RowKit
theorem kK (a:Nat) (f:a<18446744073709551616):bits .and .u64 (a:Int) 4294967295=((a % 4294967296:Nat):Int):=by
 have h:=bits_and_u64_nat a 4294967295 f om;have e:a &&& 4294967295=a % 4294967296:=Nat.and_two_pow_sub_one_eq_mod a 32;rw [e] at h;exact h
theorem G8 (a:Nat):(a:Int) / 4294967296=((a / 4294967296:Nat):Int):=om
theorem lc (a b:Nat):(a:Int)*(b:Int)=((a*b:Nat):Int):=(Int.natCast_mul a b).symm
theorem Ha (a b:Nat):(a:Int)+(b:Int)=((a+b:Nat):Int):=(Int.natCast_add a b).symm
theorem ei (a:Nat) (f:a<18446744073709551616):IntKind.u64.wrap (a:Int)=(a:Int):=by rw [IntKind.wrap_u64];omega
theorem rU (a:Nat):IntKind.u64.wrap (a:Int)=((a % 18446744073709551616:Nat):Int):=by rw [IntKind.wrap_u64];omega
theorem Bh (x y:Nat) (H:x<18446744073709551616) (I:y<18446744073709551616) (w:World) :
  Calls Tryz.prog 216 #[.int .u64 x,.int .u64 y] w fun e S=>e=.returned (.tuple #[.int .u64 ((x*y / 18446744073709551616:Nat):Int),.int .u64 ((x*y % 18446744073709551616:Nat):Int)])∧w=S:=by
 obtain ⟨J,G,R,F⟩:=Lib.mul64_hi x y H I;have T:=Lib.half_mul_le (a:=x / 4294967296) (b:=y / 4294967296) om om;have U:=Lib.half_mul_le (a:=x / 4294967296) (b:=y % 4294967296) om om;have V:=Lib.half_mul_le (a:=x % 4294967296) (b:=y / 4294967296) om om;have f:x / 4294967296*(y / 4294967296)<18446744073709551616:=om;have h:x / 4294967296*(y % 4294967296)<18446744073709551616:=om;have o:x % 4294967296*(y / 4294967296)<18446744073709551616:=om;have E:x / 4294967296*(y / 4294967296)+(x / 4294967296*(y % 4294967296)+x % 4294967296*(y % 4294967296) / 4294967296) / 4294967296<18446744073709551616:=om;have O:x / 4294967296*(y / 4294967296)+(x / 4294967296*(y % 4294967296)+x % 4294967296*(y % 4294967296) / 4294967296) / 4294967296+((x / 4294967296*(y % 4294967296)+x % 4294967296*(y % 4294967296) / 4294967296) % 4294967296+x % 4294967296*(y / 4294967296)) / 4294967296<18446744073709551616:=om;go_enter Tryz.func216,Tryz.ntmps216;go_wp2;simp only [kK x H,kK y I,G8,lc,Ha,ei _ J,ei _ h,ei _ G,kK _ G,ei _ o,ei _ R,ei _ f,ei _ E,ei _ O,rU (x*y)];rw [F];go_ret2;exact ⟨rfl,rfl⟩
def pK:ByteArray:=⟨(([0,1,2,2,3,3,3,3,4,4,4,4,4,4,4,4,5,5,5,5,5,5,5,5,5,5,5,5,5,5,5,5,6,6,6,6,6,6,6,6,6,6,6,6,6,6,6,6,6,6,6,6,6,6,6,6,6,6,6,6,6,6,6,6].append [7,7,7,7,7,7,7,7,7,7,7,7,7,7,7,7,7,7,7,7,7,7,7,7,7,7,7,7,7,7,7,7,7,7,7,7,7,7,7,7,7,7,7,7,7,7,7,7,7,7,7,7,7,7,7,7,7,7,7,7,7,7,7,7]).append ([8,8,8,8,8,8,8,8,8,8,8,8,8,8,8,8,8,8,8,8,8,8,8,8,8,8,8,8,8,8,8,8,8,8,8,8,8,8,8,8,8,8,8,8,8,8,8,8,8,8,8,8,8,8,8,8,8,8,8,8,8,8,8,8].append [8,8,8,8,8,8,8,8,8,8,8,8,8,8,8,8,8,8,8,8,8,8,8,8,8,8,8,8,8,8,8,8,8,8,8,8,8,8,8,8,8,8,8,8,8,8,8,8,8,8,8,8,8,8,8,8,8,8,8,8,8,8,8,8])).toArray⟩
theorem xt:∀ j:Fin 256,(pK.data[j.val]?.map UInt8.toNat)=some (bitLen j.val):=by decide +kernel
theorem uW:pK.size=256:=by decide +kernel
theorem Gq (T:ByteArray) (k:∀ j:Fin 256,(T.data[j.val]?.map UInt8.toNat)=some (bitLen j.val)) (i:Nat) (h:i<256) (f:i<T.size):(T[i]'f).toNat=bitLen i:=by
 have:=k ⟨i,h⟩;simp only at this;rw [Array.getElem?_eq_getElem f] at this;have o:(T.data[i]'f).toNat=bitLen i:=by simpa using this
 exact o
theorem oX (T:ByteArray) (h:∀ (i:Nat),i<256→∀ (f:i<T.size),(T[i]'f).toNat=bitLen i) (y b:Nat) (j:Int) (G:j=((y / 2 ^ b:Nat):Int)) (o:y / 2 ^ b<256) (E:y / 2 ^ b≠0∨b=0) (f:j.toNat<T.size) :
  wrap64 ((T[j.toNat]'f).toNat:Int)=((T[j.toNat]'f).toNat:Int)∧(b:Int)+((T[j.toNat]'f).toNat:Int)=(bitLen y:Int)∧(T[j.toNat]'f).toNat≤8:=by
 have e:j.toNat=y / 2 ^ b:=by rw [G];exact Int.toNat_natCast _
 have k:=h j.toNat (by rw [e];exact o) f;have F:=bitLen_le8 (y / 2 ^ b) o;rw [k,e];refine ⟨by unfold wrap64;omega,?_,F⟩;rcases E with E | rfl
 ·have:=bitLen_shift y b E;omega
 ·simp
theorem BF (y:Nat) (S:0<y) (R:y<4294967296) (w:World) :
    Calls Tryz.prog 242 #[.int .u64 y] w fun e w'=>e=.returned (.int .i64 (bitLen y:Int))∧w=w':=by
  obtain ⟨x,I⟩:∃ x:Int,x=(y:Int):=⟨_,rfl⟩;have U:0≤x:=om;have V:x<4294967296:=om;rw [← I];have o:=hide (And.intro I R);clear I R S;rcases (show x<256∨(256≤x∧x<65536)∨(65536≤x∧x / 65536<256)∨(65536≤x∧256≤x / 65536) by omega) with h | ⟨h,J⟩ | ⟨h,J⟩ | ⟨h,J⟩
  all_goals
    refine calls_of_wp Tryz.func242 rfl ?_;have O:=pK.eq_1;rw [← O];clear O;have E:=uW;have f:=hide (Gq pK xt);generalize pK=T at E f ⊢;have W:=hide E;clear E;simp only [Tryz.ntmps242,List.size_toArray,List.length_cons,List.length_nil,Nat.reduceAdd,Nat.reduceSub,Array.replicate_succ,Array.replicate_zero,List.push_toArray,List.append_toArray,List.nil_append,List.cons_append];have E:=W.out;go_wp2
    all_goals first
      | (exfalso;omega)
      | (go_ret
         obtain ⟨F,G,H⟩:=oX T f.out y 0 x (by have:=o.out;simp;omega) (by have:=o.out;simp;omega) (.inr rfl) om;exact ⟨aZ (by rw [F,F];simpa using G),rfl⟩)
      | (go_ret
         obtain ⟨F,G,H⟩:=oX T f.out y 8 (x / 256) (by have:=o.out;simp;omega) (by have:=o.out;simp;omega) (by have:=o.out;simp;omega) om;exact ⟨aZ (by rw [F,← G];unfold wrap64;omega),rfl⟩)
      | (go_ret
         obtain ⟨F,G,H⟩:=oX T f.out y 16 (x / 65536) (by have:=o.out;simp;omega) (by have:=o.out;simp;omega) (by have:=o.out;simp;omega) om;exact ⟨aZ (by rw [F,← G];unfold wrap64;omega),rfl⟩)
      | (go_ret
         obtain ⟨F,G,H⟩:=oX T f.out y 24 (x / 65536 / 256) (by have:=o.out;simp;omega) (by have:=o.out;simp;omega) (by have:=o.out;simp;omega) om;exact ⟨aZ (by rw [F,← G];unfold wrap64;omega),rfl⟩)
theorem yu (y:Nat) (E:0<y) (G:y<4294967296) (w:World) :
  Calls Tryz.prog 233 #[.int .u64 y] w fun e O=>e=.returned (.int .i64 (64-(bitLen y:Int)))∧w=O:=by
 have I:(bitLen y:Int)≤32:=by
  have H:=bitLen_spec y;rcases Nat.lt_or_ge 32 (bitLen y) with h | h
  ·have R:=H.2 om
   have S:2 ^ 32≤2 ^ (bitLen y-1):=Nat.pow_le_pow_right om om;omega
  ·omega
 have o:=hide (fun w=>BF y E G w);obtain ⟨b,f⟩:∃ b:Int,b=(bitLen y:Int):=⟨_,rfl⟩;have J:0≤b:=om;rw [← f] at I o ⊢;clear f;obtain ⟨x,F⟩:∃ x:Int,x=(y:Int):=⟨_,rfl⟩;rw [← F] at o ⊢;clear F E G;go_enter Tryz.func233,Tryz.ntmps233;go_wp2_with fail;refine (o.out _).mono ?_;rintro e T ⟨rfl,rfl⟩;go_wp2;go_ret;exact ⟨rfl,rfl⟩
end
section
open Go.RowKit Go.Sort
theorem A6 (hi lo y s Y J h E G F o I T H S f U R:Int) (b:Int) (w:World) (h1:0<hi) (h2:hi<y) (h3:y<4294967296) (h4:0≤lo) (h5:lo<18446744073709551616) (hs:64-b=s) (bb:32≤s) (bc:s≤63)
  (HL:Hid (∀ w,Calls Tryz.prog 233 #[.int .u64 y] w fun e w'=>e=.returned (.int .i64 (64-b))∧w=w'))
  (e1:IntKind.u64.wrap (y*2 ^ s.toNat)=Y) (e2:bits .and .u64 Y 4294967295=0) (e3:IntKind.u64.wrap (hi*2 ^ s.toNat)=J) (e4:bits .or .u64 J (lo / 2 ^ (64-s).toNat)=h) (e5:IntKind.u64.wrap (lo*2 ^ s.toNat)=E)
  (e6:bits .and .u64 E 4294967295=F) (e7:E / 4294967296=G) (e8:Y / 4294967296=o) (e9:h / o=I) (V:IntKind.u64.wrap (I*o)=T)
  (b1:0<Y) (b2:0<o) (b3:o<4294967296) (b4:0≤h) (b5:h<18446744073709551616) (b6:0≤E) (b7:E<18446744073709551616) (b8:0≤F) (b9:F<4294967296) (ad:0≤G) (ah:G<4294967296)
  (al:0≤I) (aq:I<4294967296) (ay:0≤T) (aA:T≤h) (aB:h-T<o)
  (a8:IntKind.u64.wrap (IntKind.u64.wrap (IntKind.u64.wrap (h*4294967296)+G)-IntKind.u64.wrap (I*Y))=f) (O:f / o=H) (W:IntKind.u64.wrap (H*o)=S)
  (aF:0≤f) (a0:f<18446744073709551616) (a1:0≤H) (a2:H<4294967296) (a3:0≤S) (a4:S≤f) (a5:f-S<o)
  (ba:IntKind.u64.wrap (IntKind.u64.wrap (IntKind.u64.wrap (f*4294967296)+F)-IntKind.u64.wrap (H*Y))=U) (a6:0≤U) (a7:U<18446744073709551616) (ab:U / 2 ^ s.toNat=R) :
  Calls Tryz.prog 215 #[.int .u64 hi,.int .u64 lo,.int .u64 y] w fun e w'=>e=.returned (.tuple #[.int .u64 (I*4294967296+H),.int .u64 R])∧w=w':=by
 have z1:(o==0)=false:=ae;go_enter Tryz.func215,Tryz.ntmps215;go_wp2_with fail;refine (HL.out _).mono ?_;rintro e w1 ⟨rfl,rfl⟩;rw [hs];go_wp2_with fail;go_loop [15,16] (fun x z=>x=.int .u64 I∧z=.int .u64 (h-T)) (fun _ _=>0)
 case atStart=>exact ⟨by simp [e9],by simp [e9,V]⟩
 case round =>
  obtain ⟨rfl,rfl⟩:=hrel;go_wp2_with fail;go_loop [18,16] (fun x z=>x=.int .u64 H∧z=.int .u64 (f-S)) (fun _ _=>0)
  case atStart=>exact ⟨by simp [O],by simp [O,W]⟩
  case round =>
   obtain ⟨rfl,rfl⟩:=hrel;go_wp2
   all_goals first
    | (exfalso;omega)
    | (go_ret2;exact ⟨aw rfl (by simp [ab]),rfl⟩)
theorem vq (a b c:Int):IntKind.u64.wrap (IntKind.u64.wrap (IntKind.u64.wrap a+b)-IntKind.u64.wrap c)=(a+b-c) % 18446744073709551616:=by
 simp only [IntKind.wrap_u64];omega
theorem I9 (a c k:Nat) (f:c<2 ^ k) (o:2 ^ k*a+c<18446744073709551616):bits .or .u64 ((2 ^ k*a:Nat):Int) (c:Int)=((2 ^ k*a+c:Nat):Int):=by
 have h:=bits_or_u64_nat (2 ^ k*a) c om om;rw [h,Nat.two_pow_add_eq_or_of_lt f]
theorem yq (lo y:Int) (w:World) (O:0<y) (R:0≤lo) (S:lo<18446744073709551616) (T:y<18446744073709551616) (a c:Int) (o:lo / y=a) (G:lo % y=c) (f:0≤a∧a<18446744073709551616) (h:0≤c∧c<18446744073709551616) :
  Calls Tryz.prog 215 #[.int .u64 0,.int .u64 lo,.int .u64 y] w fun e J=>e=.returned (.tuple #[.int .u64 a,.int .u64 c])∧∃ n,J=w.drewN n:=by
 obtain ⟨E,F⟩:=f;obtain ⟨H,I⟩:=h;have U:(y==0)=false:=ae;go_enter Tryz.func215,Tryz.ntmps215;go_wp2_with fail
 all_goals first
  | (exfalso;omega)
  | skip
 go_quiet (fail);go_wp2;go_ret2;exact ⟨by simp [o,G],_,rfl⟩
theorem se (a b k:Nat):(a:Int)*((b*k:Nat):Int)=((a*b:Nat):Int)*(k:Int):=by rw [Int.natCast_mul,Int.natCast_mul,Int.mul_assoc]
theorem It {a m u c:Nat} (h:m≤a) (o:u=(a-m)*4294967296+c) (f:u<18446744073709551616):((a:Int)*4294967296+(c:Int)-(m:Int)*4294967296) % 18446744073709551616=(u:Int):=by
 have e:(a:Int)*4294967296+(c:Int)-(m:Int)*4294967296=(u:Int):=om;rw [e];exact Int.emod_eq_of_lt om om
theorem Bi (hi lo y:Nat) (w:World) (h1:0<hi) (h2:hi<y) (h3:y<4294967296) (h5:lo<18446744073709551616) :
  Calls Tryz.prog 215 #[.int .u64 hi,.int .u64 lo,.int .u64 y] w fun e w'=>e=.returned (.tuple #[.int .u64 (((hi*18446744073709551616+lo) / y:Nat):Int),.int .u64 (((hi*18446744073709551616+lo) % y:Nat):Int)])∧w=w':=by
 have ay:=bitLen_spec y;have bl:=ay.2 om;have aq:=ay.1;have bc:bitLen y≤32:=by
  rcases Nat.lt_or_ge 32 (bitLen y) with h | h
  ·have bd:2 ^ 32≤2 ^ (bitLen y-1):=Nat.pow_le_pow_right om om
   omega
  ·omega
 have bh:1≤bitLen y:=by
  rcases Nat.eq_zero_or_pos (bitLen y) with h | h
  ·rw [h] at aq;omega
  ·exact h
 obtain ⟨n,hn⟩:∃ n,64-bitLen y=n:=⟨_,rfl⟩;have bt:bitLen y+n=64:=om;have G:2 ^ n*2 ^ (64-n)=4294967296*4294967296:=by rw [← Nat.pow_add,show n+(64-n)=64 by omega]
 have a7:2 ^ n*2 ^ bitLen y=4294967296*4294967296:=by rw [← Nat.pow_add,show n+bitLen y=64 by omega]
 have ad:2 ^ n=4294967296*2 ^ (n-32):=by rw [show (4294967296:Nat)=2 ^ 32 by decide,← Nat.pow_add,show 32+(n-32)=n by omega]
 have a6:0<2 ^ n:=Nat.two_pow_pos n;have a2:y*2 ^ n<4294967296*4294967296:=by rw [← a7,Nat.mul_comm];exact Nat.mul_lt_mul_of_pos_left aq a6
 obtain ⟨P,hP⟩:∃ P,P=2 ^ n:=⟨_,rfl⟩;obtain ⟨Q,hQ⟩:∃ Q,Q=2 ^ (64-n):=⟨_,rfl⟩;have ah:0<Q:=by rw [hQ];exact Nat.two_pow_pos _
 rw [← hP] at G ad a2;rw [← hQ] at G;obtain ⟨lq,I⟩:∃ q,q=lo / Q:=⟨_,rfl⟩;obtain ⟨Y,hY⟩:∃ Y,Y=y*P:=⟨_,rfl⟩;obtain ⟨T,o⟩:∃ Y,Y=hi*P+lo / Q:=⟨_,rfl⟩;obtain ⟨f,O⟩:∃ Y,Y=lo*P % (4294967296*4294967296):=⟨_,rfl⟩;obtain ⟨U,bb⟩:∃ x,x=Y / 4294967296:=⟨_,rfl⟩;obtain ⟨q1,a1⟩:∃ x,x=T / U:=⟨_,rfl⟩;obtain ⟨F,E⟩:∃ x,x=(T-q1*U)*4294967296+f / 4294967296:=⟨_,rfl⟩;obtain ⟨q0,a0⟩:∃ x,x=F / U:=⟨_,rfl⟩;obtain ⟨c1,c2,c3,c4,c5,c6,c7,c8,c9,V,a3,W,a4,ab⟩:=An (A:=4294967296) (hi:=hi) (lo:=lo) (y:=y) (P:=P) (Q:=Q) (K:=2 ^ (n-32)) ag h2 om G ah a2 ad hY o O bb a1 E a0;have aA:lq<P:=by rw [I,Nat.div_lt_iff_lt_mul ah,G];omega
 have a5:=hide (fun w=>yu y om h3 w);have H:(2:Int) ^ n=(P:Int):=by rw [hP];push_cast;rfl
 have a8:(2:Int) ^ (64-n)=(Q:Int):=by rw [hQ];push_cast;rfl
 have aF:=I9 hi lq n (by rw [← hP];exact aA) (by rw [← hP,Nat.mul_comm,I,← o];omega);rw [← hP,Nat.mul_comm P hi] at aF;have aB:(lo:Int) / (Q:Int)=(lq:Int):=by rw [I];push_cast;rfl
 rw [← I] at o;obtain ⟨m1,S⟩:∃ x,x=q1*U:=⟨_,rfl⟩;obtain ⟨m0,R⟩:∃ x,x=q0*U:=⟨_,rfl⟩;rw [← S] at c6 c7 E;rw [← R] at V a3 ab;have al:Y<18446744073709551616:=om;have J:(64-(bitLen y:Int)).toNat=n:=om;have ba:(64-(64-(bitLen y:Int))).toNat=64-n:=om;have bp:((F-m0)*4294967296+f % 4294967296)<18446744073709551616:=om
 have h:=A6 hi lo y (64-(bitLen y:Int)) Y (hi*P:Nat) T f (f / 4294967296:Nat) (f % 4294967296:Nat) U q1 m1 q0 m0 F ((F-m0)*4294967296+f % 4294967296:Nat) (((F-m0)*4294967296+f % 4294967296) / P:Nat) (bitLen y) w
  om om om om om rfl om om a5
  (by rw [J,H,lc,← hY,ei _ al])
  (by rw [kK _ al,c1];rfl)
  (by rw [J,H,lc,ei _ c2])
  (by rw [ba,a8,aB,aF,← o])
  (by rw [J,H,lc,rU,O])
  (by rw [kK _ om])
  om om (by rw [a1];push_cast;rfl)
  (by rw [lc,← S,ei _ om])
  om om om om om om om om om om om
  om om om om om
  (by
   rw [vq,W,se,← S];exact It c6 E om)
  (by rw [a0];push_cast;rfl)
  (by rw [lc,← R,ei _ om])
  om om om om om om om
  (by
   rw [vq,W,se,← R];exact It V rfl om)
  om om
  (by rw [J,H];exact (Int.natCast_ediv _ _).symm)
 refine h.mono ?_;rintro e w' ⟨rfl,rfl⟩;refine ⟨aw ?_ ?_,rfl⟩
 ·rw [show hi*18446744073709551616=hi*(4294967296*4294967296) by rfl,← a4];omega
 ·rw [show hi*18446744073709551616=hi*(4294967296*4294967296) by rfl,← ab]
theorem sv (x y:Int) (h:0≤x∧x<18446744073709551616) (o:0≤y∧y<18446744073709551616) (w:World) :
  Calls Tryz.prog 216 #[.int .u64 x,.int .u64 y] w fun e f=>e=.returned (.tuple #[.int .u64 (x*y / 18446744073709551616),.int .u64 (x*y % 18446744073709551616)])∧w=f:=by
 obtain ⟨a,rfl⟩:=Int.eq_ofNat_of_zero_le h.1;obtain ⟨b,rfl⟩:=Int.eq_ofNat_of_zero_le o.1;refine (Bh a b om om w).mono ?_;rintro e f ⟨rfl,rfl⟩;refine ⟨aw ?_ ?_,rfl⟩
 ·rw [← Int.natCast_mul];omega
 ·rw [← Int.natCast_mul];omega
theorem Cj (hi lo y:Int) (w:World) (h:0≤hi) (I:hi<y) (J:y<4294967296) (o:0≤lo) (E:lo<18446744073709551616) :
    Calls Tryz.prog 215 #[.int .u64 hi,.int .u64 lo,.int .u64 y] w fun e f=>e=.returned (.tuple #[.int .u64 ((hi*18446744073709551616+lo) / y),.int .u64 ((hi*18446744073709551616+lo) % y)])∧Below w w f:=by
  obtain ⟨a,rfl⟩:=Int.eq_ofNat_of_zero_le h;obtain ⟨b,rfl⟩:=Int.eq_ofNat_of_zero_le o;obtain ⟨y,rfl⟩:=Int.eq_ofNat_of_zero_le (show 0≤y by omega);rcases Nat.eq_zero_or_pos a with rfl | F
  · have G : 0 ≤ (b : Int) / (y : Int) ∧ (b : Int) / (y : Int) < 18446744073709551616 := by
      refine ⟨Int.ediv_nonneg om om,?_⟩;have:=Int.ediv_le_self (a:=(b:Int)) (y:Int) om;omega
    have H:0≤(b:Int) % (y:Int)∧(b:Int) % (y:Int)<18446744073709551616:=by
      have O:=Int.emod_nonneg (b:Int) (show (y:Int)≠0 by omega);have R:=Int.emod_lt_of_pos (b:Int) (show (0:Int)<y by omega);omega
    refine (yq b y w om om E om _ _ rfl rfl G H).mono ?_;rintro e f ⟨rfl,n,rfl⟩;refine ⟨aw ?_ ?_,below_drewN (Below.refl _ _) n⟩ <;> simp
  · refine (Bi a b y w F om om om).mono ?_
    rintro e f ⟨rfl,rfl⟩;refine ⟨aw ?_ ?_,Below.refl _ _⟩
    · rw [Int.natCast_ediv,Int.natCast_add,Int.natCast_mul];rfl
    · rw [Int.natCast_emod,Int.natCast_add,Int.natCast_mul];rfl
theorem Bb {a b:Int} (f:aX a) (h:0≤b) (o:b≤9223372036854775807):aX (a*b / 18446744073709551616)∧(a<0→((a+18446744073709551616)*b / 18446744073709551616-b=a*b / 18446744073709551616∧(a+18446744073709551616)*b % 18446744073709551616=a*b % 18446744073709551616)):=by
 have e:(a+18446744073709551616)*b=a*b+b*18446744073709551616:=by rw [Int.add_mul,Int.mul_comm 18446744073709551616 b]
 rw [e];unfold aX at f ⊢;have E:-9223372036854775808*b≤a*b:=Int.mul_le_mul_of_nonneg_right f.1 h;have F:a*b≤9223372036854775807*b:=Int.mul_le_mul_of_nonneg_right f.2 h;generalize a*b=p at *;refine ⟨by omega,fun _=>by omega⟩
theorem oT {x y a b:Value} {t:TypeId} {B:Nat} {w:World} (h:ap w B #[x,y] t):((w.setCell ⟨B,0,none⟩ a).setCell ⟨B,1,none⟩ b).cell? ⟨B,0,none⟩=some a∧((w.setCell ⟨B,0,none⟩ a).setCell ⟨B,1,none⟩ b).cell? ⟨B,1,none⟩=some b∧(w.setCell ⟨B,0,none⟩ a).cell? ⟨B,0,none⟩=some a:=by
 have f:ap (w.setCell ⟨B,0,none⟩ a) B #[a,y] t:=by
  unfold ap at h ⊢;simp [World.setCell,Array.getElem?_modify,h]
 have e:ap ((w.setCell ⟨B,0,none⟩ a).setCell ⟨B,1,none⟩ b) B #[a,b] t:=by
  unfold ap at h ⊢;simp [World.setCell,Array.getElem?_modify,h]
 exact ⟨e.cell 0,e.cell 1,f.cell 0⟩
theorem EN (a b:Int) (w:World):(Instr.index 244 (.agg #[a,b,b,a]) (.int .i64 0)).run Tryz.prog w=.ok (.agg #[a,b]) w:=by kernel_rfl
theorem EZ (a b:Int) (w:World):(Instr.index 244 (.agg #[a,b,b,a]) (.int .i64 1)).run Tryz.prog w=.ok (.agg #[b,a]) w:=by kernel_rfl
theorem Ev (a b P Q:Int) (w:World) (h0:0≤a) (h1:a≤9223372036854775807) (hb:0≤b) (U:b≤9223372036854775807) (G:a*b / 18446744073709551616=P) (H:a*b % 18446744073709551616=Q) (O:0≤P) (R:P≤9223372036854775807) (S:0≤Q) (T:Q<18446744073709551616) :
  Calls Tryz.prog 169 #[a,b] w fun e w'=>e=.returned (.agg #[P,.int .u64 Q])∧Below w w w':=by
 have ab:=EN a b;have ad:=EZ a b;have E:=hide (fun w=>sv a b om om w);rw [G,H] at E;clear G H;go_enter Tryz.func169,Tryz.ntmps169;go_wp2_with fail;refine (E.out _).mono ?_;rintro e w1 ⟨rfl,rfl⟩;go_wp2_with fail;go_loopw [5,24] (fun h s wr=>(h=.int .u64 P∧(s=.int .i64 0∨s=.int .i64 1∨s=.int .i64 2))∧ap wr w #[.int .i64 0,.int .u64 0] 103∧Below w w wr) (fun _ s _=>(5-intOf s).toNat)
 case atStart=>exact ⟨⟨rfl,.inl rfl⟩,ap.new _ _ _,by (repeat' exact bel)⟩
 case round =>
  obtain ⟨V,F,f⟩:=hrel;have o:=hide F;obtain ⟨⟨b0,b1⟩,f0,f1,b3⟩:=cO o.out;clear F;have W:=f.size;rcases V with ⟨rfl,rfl | rfl | rfl⟩
  ·go_wp2
   all_goals first
    | (exfalso;omega)
    | skip
   go_roundw
   case rel=>exact ⟨⟨rfl,.inr (.inl rfl)⟩,o.out.alloc _,by (repeat' exact bel)⟩
   case measure=>simp [intOf]
  ·go_wp2
   all_goals first
    | (exfalso;omega)
    | skip
   go_roundw
   case rel=>exact ⟨⟨rfl,.inr (.inr rfl)⟩,o.out.alloc _,by (repeat' exact bel)⟩
   case measure=>simp [intOf]
  ·obtain ⟨g0,I,J⟩:=oT (a:=.int .i64 P) (b:=.int .u64 Q) o.out
   go_wp2;exact bodyPost_ret (v:=.agg #[P,.int .u64 Q]) (by simp [results,Tryz.results169,go_sem,I,J]) rfl ⟨rfl,by (repeat' exact bel)⟩
theorem E2 (a b P o Q:Int) (w:World) (h0:a<0) (h1:-9223372036854775808≤a) (hb:0≤b) (aA:b≤9223372036854775807) (S:(a+18446744073709551616)*b / 18446744073709551616=P) (T:(a+18446744073709551616)*b % 18446744073709551616=Q) (ab:0≤P) (ad:P<18446744073709551616) (aq:0≤Q) (ay:Q<18446744073709551616)
  (G:P-b=o) (ah:-9223372036854775808≤o) (al:o≤9223372036854775807) :
  Calls Tryz.prog 169 #[a,b] w fun e w'=>e=.returned (.agg #[o,.int .u64 Q])∧Below w w w':=by
 have aF:=EN a b;have a0:=EZ a b;have J:=hide (fun w=>sv (a+18446744073709551616) b om om w);rw [S,T] at J;have E:=hide G;have U:=hide (show IntKind.u64.wrap a=a+18446744073709551616 by rw [IntKind.wrap_u64];omega);clear S T G;go_enter Tryz.func169,Tryz.ntmps169;go_wp2_with fail;rw [U.out];refine (J.out _).mono ?_;rintro e w1 ⟨rfl,rfl⟩;obtain ⟨O,f⟩:∃ x,IntKind.u64.wrap (P-b)=x:=⟨_,rfl⟩;have I:=hide f;have V:=hide (show IntKind.i64.wrap O=o by rw [← f,← E.out,IntKind.wrap_u64,IntKind.wrap_i64];have:=E.out;omega);go_wp2_with fail;go_loopw [5,24] (fun h s wr=>((h=.int .u64 P∧s=.int .i64 0)∨(h=.int .u64 O∧(s=.int .i64 1∨s=.int .i64 2)))∧ap wr w #[.int .i64 0,.int .u64 0] 103∧Below w w wr) (fun _ s _=>(5-intOf s).toNat)
 case atStart=>exact ⟨.inl ⟨rfl,rfl⟩,ap.new _ _ _,by (repeat' exact bel)⟩
 case round =>
  obtain ⟨hs,R,F⟩:=hrel;have H:=hide R;obtain ⟨⟨b0,b1⟩,f0,f1,b3⟩:=cO H.out;clear R;have aB:=F.size;rcases hs with ⟨rfl,rfl⟩ | ⟨rfl,rfl | rfl⟩
  ·go_wp2
   all_goals first
    | (exfalso;omega)
    | skip
   go_roundw
   case rel=>exact ⟨.inr ⟨by first | rfl | simp [I.out],.inl rfl⟩,H.out.alloc _,by (repeat' exact bel)⟩
   case measure=>simp [intOf]
  ·clear f
   go_wp2
   all_goals first
    | (exfalso;omega)
    | skip
   go_roundw
   case rel=>exact ⟨.inr ⟨rfl,.inr rfl⟩,H.out.alloc _,by (repeat' exact bel)⟩
   case measure=>simp [intOf]
  ·clear f
   have hw:=V.out;obtain ⟨g0,W,g2⟩:=oT (a:=.int .i64 o) (b:=.int .u64 Q) H.out;go_wp2;exact bodyPost_ret (v:=.agg #[o,.int .u64 Q]) (by simp [results,Tryz.results169,go_sem,W,g2]) rfl ⟨rfl,by (repeat' exact bel)⟩
theorem Eu (a b:Int) (w:World) (F:aX a) (o:0≤b) (f:b≤9223372036854775807):Calls Tryz.prog 169 #[a,b] w fun e R=>e=.returned (cv (a*b))∧Below w w R:=by
 obtain ⟨E,O⟩:=Bb F o f;have G:0≤a*b % 18446744073709551616∧a*b % 18446744073709551616<18446744073709551616:=om;unfold aX at F E;rcases Int.lt_or_le a 0 with h | h
 ·obtain ⟨H,I⟩:=O h
  have J:=Int.ediv_nonneg (Int.mul_nonneg (show 0≤a+18446744073709551616 by omega) o) (show (0:Int)≤18446744073709551616 by decide);exact E2 a b _ _ _ w h F.1 o f rfl I J om G.1 G.2 H E.1 E.2
 ·exact Ev a b _ _ w h F.2 o f rfl rfl (Int.ediv_nonneg (Int.mul_nonneg h o) ag) E.2 G.1 G.2
theorem Fw (H lo b T R q l Q r:Int) (w:World) (hb:0<b) (V:b<4294967296) (hH:-9223372036854775808≤H) (a1:H≤9223372036854775807) (ab:0≤lo) (F:lo<18446744073709551616)
  (hT:H.tdiv b=T) (hR:H.tmod b=R) (U:-9223372036854775808≤T∧T≤9223372036854775807) (a4:-9223372036854775808≤q) (S:-b<R∧R<b) (hq:(R<0∧q=T-1∧l=R+b)∨(0≤R∧q=T∧l=R)) (hQ:(l*18446744073709551616+lo) / b=Q) (hr:(l*18446744073709551616+lo) % b=r) (O:0≤Q∧Q<18446744073709551616) (ad:0≤r∧r<b) :
  Calls Tryz.prog 168 #[.agg #[H,.int .u64 lo],b] w fun e w'=>e=.returned (.tuple #[.agg #[q,.int .u64 Q],r,.int .i64 0])∧Below w w w':=by
 have W:0≤l∧l<b:=om;have HD:=hide (fun w=>Cj l lo b w W.1 W.2 V ab F);rw [hQ,hr] at HD;obtain ⟨aA,aB⟩:=U;obtain ⟨aq,ay⟩:=S;obtain ⟨ah,al⟩:=O;obtain ⟨aF,a0⟩:=ad;obtain ⟨a2,a3⟩:=W;clear hQ hr;rcases hq with ⟨hs,rfl,rfl⟩ | ⟨hs,rfl,rfl⟩
 all_goals
  go_enter Tryz.func168,Tryz.ntmps168;go_wp2_with fail
  all_goals first
   | (exfalso;omega)
   | skip
  refine (HD.out _).mono ?_;rintro e w1 ⟨rfl,f⟩;have G:=hide (show ap w1 (w+1) #[.int .i64 0,.int .u64 0] 103 from by
   have h:=ap.call (ap.new (w.alloc (.cells #[H,.int .u64 lo] 103)) #[.int .i64 0,.int .u64 0] 103) f;simpa using h)
  obtain ⟨⟨k0,k1⟩,k2,k3,k4⟩:=cO G.out;have o:Hid (Below w w w1):=ww f;clear f
 ·obtain ⟨g0,I,J⟩:=oT (a:=.int .i64 (T-1)) (b:=.int .u64 Q) G.out
  have E:=o.out;go_wp2;exact bodyPost_ret (v:=.tuple #[.agg #[.int .i64 (T-1),.int .u64 Q],r,.int .i64 0]) (by simp [results,Tryz.results168,go_sem,I,J]) rfl ⟨rfl,by (repeat' exact bel)⟩
 ·obtain ⟨g0,I,J⟩:=oT (a:=.int .i64 q) (b:=.int .u64 Q) G.out
  have E:=o.out;go_wp2;exact bodyPost_ret (v:=.tuple #[.agg #[q,.int .u64 Q],r,.int .i64 0]) (by simp [results,Tryz.results168,go_sem,I,J]) rfl ⟨rfl,by (repeat' exact bel)⟩
theorem Bs {N b:Int} (E:0<b):N / b / 18446744073709551616=N / 18446744073709551616 / b∧N / b % 18446744073709551616=(N / 18446744073709551616 % b*18446744073709551616+N % 18446744073709551616) / b∧N % b=(N / 18446744073709551616 % b*18446744073709551616+N % 18446744073709551616) % b ∧
  0≤(N / 18446744073709551616 % b*18446744073709551616+N % 18446744073709551616) / b∧(N / 18446744073709551616 % b*18446744073709551616+N % 18446744073709551616) / b<18446744073709551616:=by
 obtain ⟨H,S⟩:∃ H,N / 18446744073709551616=H:=⟨_,rfl⟩;obtain ⟨lo,h⟩:∃ H,N % 18446744073709551616=H:=⟨_,rfl⟩;have T:N=H*18446744073709551616+lo:=om;have W:0≤lo∧lo<18446744073709551616:=om;rw [S,h];obtain ⟨q,F⟩:∃ q,H / b=q:=⟨_,rfl⟩;obtain ⟨l,f⟩:∃ q,H % b=q:=⟨_,rfl⟩;have G:H=q*b+l:=by rw [← F,← f];exact (Int.ediv_mul_add_emod H b).symm
 have U:0≤l:=by rw [← f];exact Int.emod_nonneg _ om
 have V:l<b:=by rw [← f];exact Int.emod_lt_of_pos _ E
 rw [F,f];have o:N=(l*18446744073709551616+lo)+b*(q*18446744073709551616):=by
  rw [T,G,Int.add_mul,Int.mul_comm q b,Int.mul_assoc];omega
 have I:N / b=(l*18446744073709551616+lo) / b+q*18446744073709551616:=by rw [o,Int.add_mul_ediv_left _ _ om]
 have J:N % b=(l*18446744073709551616+lo) % b:=by rw [o,Int.add_mul_emod_self_left]
 have O:0≤(l*18446744073709551616+lo) / b:=Int.ediv_nonneg om om;have R:(l*18446744073709551616+lo) / b<18446744073709551616:=Int.ediv_lt_of_lt_mul E (by
  have:(l+1)*18446744073709551616≤b*18446744073709551616:=Int.mul_le_mul_of_nonneg_right om ag;rw [Int.mul_comm 18446744073709551616 b];omega)
 rw [I,J];generalize (l*18446744073709551616+lo) / b=Q at *;refine ⟨by omega,by omega,rfl,O,R⟩
theorem F8 (N b:Int) (w:World) (U:bL N) (f:0<b) (G:b<4294967296) :
  Calls Tryz.prog 168 #[cv N,b] w fun e w'=>e=.returned (.tuple #[cv (N / b),.int .i64 (N % b),.int .i64 0])∧Below w w w':=by
 have E:=rH U;obtain ⟨I,J,F,O,R⟩:=Bs (N:=N) f;have S:0≤N % 18446744073709551616∧N % 18446744073709551616<18446744073709551616:=om;unfold aX at E;obtain ⟨H,o⟩:∃ H,N / 18446744073709551616=H:=⟨_,rfl⟩;rw [o] at E I J F O R;have t1:=Int.tmod_add_mul_tdiv H b;have T:=Int.tmod_lt_of_pos H f;have t3:-b<H.tmod b:=Int.lt_tmod_of_pos H f;have t4:-9223372036854775808≤H.tdiv b∧H.tdiv b≤9223372036854775807:=by
  constructor
  ·rcases Int.lt_or_le (H.tdiv b) (-9223372036854775808) with h | h
   ·have:=Int.mul_le_mul_of_nonneg_left (show H.tdiv b≤-9223372036854775809 by omega) (show 0≤b by omega)
    omega
   ·exact h
  ·rcases Int.lt_or_le 9223372036854775807 (H.tdiv b) with h | h
   ·have:=Int.mul_le_mul_of_nonneg_left (show 9223372036854775808≤H.tdiv b by omega) (show 0≤b by omega)
    omega
   ·exact h
 have t5:-9223372036854775808≤H / b:=by
  have h1:-9223372036854775808*b≤-9223372036854775808*1:=om;exact (Int.le_ediv_iff_mul_le f).2 om
 have W:(H.tmod b<0∧H / b=H.tdiv b-1∧H % b=H.tmod b+b)∨(0≤H.tmod b∧H / b=H.tdiv b∧H % b=H.tmod b):=by
  rcases Int.lt_or_le (H.tmod b) 0 with h | h
  ·left
   have:=(Int.ediv_emod_unique (a:=H) (b:=b) (r:=H.tmod b+b) (q:=H.tdiv b-1) f).2 ⟨by rw [Int.mul_sub,Int.mul_one];omega,by omega,by omega⟩;exact ⟨h,this.1,this.2⟩
  ·right
   have:=(Int.ediv_emod_unique (a:=H) (b:=b) (r:=H.tmod b) (q:=H.tdiv b) f).2 ⟨t1,h,T⟩;exact ⟨h,this.1,this.2⟩
 have V:0≤N % b∧N % b<b:=⟨Int.emod_nonneg _ om,Int.emod_lt_of_pos _ f⟩;have h:=Fw H (N % 18446744073709551616) b (H.tdiv b) (H.tmod b) (H / b) (H % b) _ _ w f G E.1 E.2 S.1 S.2 rfl rfl t4 t5 ⟨t3,T⟩ W rfl rfl ⟨O,R⟩ (by rw [← F];exact V);rw [← F,← J,← I] at h;rw [← o] at h;exact h
theorem jE {a x n:Int} (E:aX a) (G:0≤x) (f:x≤n) (F:0<n):aX (a*x / n):=by
  unfold aX at *;constructor
  · refine (Int.le_ediv_iff_mul_le F).2 ?_
    rcases Int.lt_or_le a 0 with h | h
    · have o:a*n≤a*x:=Int.mul_le_mul_of_nonpos_left om f
      have H:-9223372036854775808*n≤a*n:=Int.mul_le_mul_of_nonneg_right E.1 om;omega
    · have:=Int.mul_nonneg h G;omega
  · have I : a * x / n < 9223372036854775807 + 1 := by
      refine Int.ediv_lt_of_lt_mul F ?_;rcases Int.lt_or_le a 0 with h | h
      · have o:a*x≤0*x:=Int.mul_le_mul_of_nonneg_right om G
        omega
      · have o:a*x≤a*n:=Int.mul_le_mul_of_nonneg_left f h
        have H:a*n≤9223372036854775807*n:=Int.mul_le_mul_of_nonneg_right E.2 om;omega
    omega
theorem G5 (a x n:Int) (w:World) (o:aX a) (I:0≤x) (W:x≤n) (hn:0<n) (V:n<4294967296) :
  Calls Tryz.prog 104 #[a,x,n] w fun e w'=>e=.returned (.tuple #[.int .i64 (a*x / n),.int .i64 (a*x % n),.int .i64 0])∧Below w w w':=by
 have H:=jE o I W hn;have hp:bL (a*x):=by
  have h1:-9223372036854775808*x≤a*x:=Int.mul_le_mul_of_nonneg_right o.1 I;have h2:a*x≤9223372036854775807*x:=Int.mul_le_mul_of_nonneg_right o.2 I;unfold bL;omega
 have HM:=hide (fun w=>Eu a x w o I om);have T:=hide (fun w=>F8 (a*x) n w hp hn V);have F:=hide (fun w=>qG (a*x / n) w (mP H));rw [(cB H).1,(cB H).2] at F;obtain ⟨Q,G⟩:∃ Q,a*x / n=Q:=⟨_,rfl⟩;obtain ⟨R,U⟩:∃ Q,a*x % n=Q:=⟨_,rfl⟩;rw [G,U] at T;rw [G] at F;rw [G,U];simp only [cv] at HM T F;clear H hp o G U;go_enter Tryz.func104,Tryz.ntmps104;go_wp2_with fail;refine (HM.out _).mono ?_;rintro e w1 ⟨rfl,f⟩;have J:Hid (Below w w w1):=ww f;have ab:=f.size;clear f;go_wp2_with fail;refine (T.out _).mono ?_;rintro e w2 ⟨rfl,h⟩;have O:Hid (Below w w w2):=ao J.out h;have ad:=h.size;clear h;go_wp2_with fail;refine (F.out _).mono ?_;rintro e w3 ⟨rfl,E⟩;have S:Hid (Below w w w3):=ao O.out E;clear E;go_wp2;exact bodyPost_ret (v:=.tuple #[.int .i64 Q,R,.int .i64 0]) (by simp [results,Tryz.results104,go_sem]) rfl ⟨rfl,S.out⟩
end
end Go.Proofs.YtjhhmeoibfdcmaaGreat
