/- Lemmas. -/
import Derived.BigQuiet
import Derived.Deep.DeepCutAuto
import Derived.Laws.Bits64b
import Derived.Laws.MathBits
import Derived.Lib.Mul64
import Derived.Lib.QuietBelow
import Derived.Test.YtpebkobmhhnojaaGreatDoorTp16
set_option linter.unusedSimpArgs false
set_option linter.unusedVariables false
set_option maxRecDepth 100000
set_option maxHeartbeats 12800000
namespace Go.Proofs.YtpebkobmhhnojaaGreatDoor
section
open Go.RowKit
theorem iL (a:Nat) (f:a<18446744073709551616):bits .and .u64 (a:Int) 4294967295=((a % 4294967296:Nat):Int):=by
 have h:=bits_and_u64_nat a 4294967295 f om;have e:a &&& 4294967295=a % 4294967296:=Nat.and_two_pow_sub_one_eq_mod a 32;rw [e] at h;exact h
theorem Dc (a:Nat):(a:Int) / 4294967296=((a / 4294967296:Nat):Int):=om
theorem jg (a b:Nat):(a:Int)*(b:Int)=((a*b:Nat):Int):=(Int.natCast_mul a b).symm
theorem AW (a b:Nat):(a:Int)+(b:Int)=((a+b:Nat):Int):=(Int.natCast_add a b).symm
theorem di (a:Nat) (f:a<18446744073709551616):IntKind.u64.wrap (a:Int)=(a:Int):=by rw [IntKind.wrap_u64];omega
theorem ou (a:Nat):IntKind.u64.wrap (a:Int)=((a % 18446744073709551616:Nat):Int):=by rw [IntKind.wrap_u64];omega
theorem vD (x y:Nat) (H:x<18446744073709551616) (I:y<18446744073709551616) (w:World) :
  Calls Tryz.prog 230 #[.int .u64 x,.int .u64 y] w fun e w'=>e=.returned (.tuple #[.int .u64 ((x*y / 18446744073709551616:Nat):Int),.int .u64 ((x*y % 18446744073709551616:Nat):Int)])∧w=w':=by
 obtain ⟨J,G,U,F⟩:=Lib.mul64_hi x y H I;have V:=Lib.half_mul_le (a:=x / 4294967296) (b:=y / 4294967296) om om;have W:=Lib.half_mul_le (a:=x / 4294967296) (b:=y % 4294967296) om om;have Y:=Lib.half_mul_le (a:=x % 4294967296) (b:=y / 4294967296) om om;have f:x / 4294967296*(y / 4294967296)<18446744073709551616:=om;have h:x / 4294967296*(y % 4294967296)<18446744073709551616:=om;have o:x % 4294967296*(y / 4294967296)<18446744073709551616:=om;have E:x / 4294967296*(y / 4294967296)+(x / 4294967296*(y % 4294967296)+x % 4294967296*(y % 4294967296) / 4294967296) / 4294967296<18446744073709551616:=om;have O:x / 4294967296*(y / 4294967296)+(x / 4294967296*(y % 4294967296)+x % 4294967296*(y % 4294967296) / 4294967296) / 4294967296+((x / 4294967296*(y % 4294967296)+x % 4294967296*(y % 4294967296) / 4294967296) % 4294967296+x % 4294967296*(y / 4294967296)) / 4294967296<18446744073709551616:=om;go_enter Tryz.func230,Tryz.ntmps230;go_wp2;simp only [iL x H,iL y I,Dc,jg,AW,di _ J,di _ h,di _ G,iL _ G,di _ o,di _ U,di _ f,di _ E,di _ O,ou (x*y)];rw [F];go_ret2;exact ⟨rfl,rfl⟩
def mm:ByteArray:=⟨(([0,1,2,2,3,3,3,3,4,4,4,4,4,4,4,4,5,5,5,5,5,5,5,5,5,5,5,5,5,5,5,5,6,6,6,6,6,6,6,6,6,6,6,6,6,6,6,6,6,6,6,6,6,6,6,6,6,6,6,6,6,6,6,6].append [7,7,7,7,7,7,7,7,7,7,7,7,7,7,7,7,7,7,7,7,7,7,7,7,7,7,7,7,7,7,7,7,7,7,7,7,7,7,7,7,7,7,7,7,7,7,7,7,7,7,7,7,7,7,7,7,7,7,7,7,7,7,7,7]).append ([8,8,8,8,8,8,8,8,8,8,8,8,8,8,8,8,8,8,8,8,8,8,8,8,8,8,8,8,8,8,8,8,8,8,8,8,8,8,8,8,8,8,8,8,8,8,8,8,8,8,8,8,8,8,8,8,8,8,8,8,8,8,8,8].append [8,8,8,8,8,8,8,8,8,8,8,8,8,8,8,8,8,8,8,8,8,8,8,8,8,8,8,8,8,8,8,8,8,8,8,8,8,8,8,8,8,8,8,8,8,8,8,8,8,8,8,8,8,8,8,8,8,8,8,8,8,8,8,8])).toArray⟩
theorem sn:∀ j:Fin 256,(mm.data[j.val]?.map UInt8.toNat)=some (bitLen j.val):=by decide +kernel
theorem qa:mm.size=256:=by decide +kernel
theorem BQ (T:ByteArray) (k:∀ j:Fin 256,(T.data[j.val]?.map UInt8.toNat)=some (bitLen j.val)) (i:Nat) (h:i<256) (f:i<T.size):(T[i]'f).toNat=bitLen i:=by
 have:=k ⟨i,h⟩;simp only at this;rw [Array.getElem?_eq_getElem f] at this;have o:(T.data[i]'f).toNat=bitLen i:=by simpa using this
 exact o
theorem mg (T:ByteArray) (h:∀ (i:Nat),i<256→∀ (f:i<T.size),(T[i]'f).toNat=bitLen i) (y b:Nat) (j:Int) (G:j=((y / 2 ^ b:Nat):Int)) (o:y / 2 ^ b<256) (E:y / 2 ^ b≠0∨b=0) (f:j.toNat<T.size) :
  wrap64 ((T[j.toNat]'f).toNat:Int)=((T[j.toNat]'f).toNat:Int)∧(b:Int)+((T[j.toNat]'f).toNat:Int)=(bitLen y:Int)∧(T[j.toNat]'f).toNat≤8:=by
 have e:j.toNat=y / 2 ^ b:=by rw [G];exact Int.toNat_natCast _
 have k:=h j.toNat (by rw [e];exact o) f;have F:=bitLen_le8 (y / 2 ^ b) o;rw [k,e];refine ⟨by unfold wrap64;omega,?_,F⟩;rcases E with E | rfl
 ·have:=bitLen_shift y b E;omega
 ·simp
theorem wO (y:Nat) (V:0<y) (U:y<4294967296) (w:World) :
    Calls Tryz.prog 258 #[.int .u64 y] w fun e w'=>e=.returned (.int .i64 (bitLen y:Int))∧w=w':=by
  obtain ⟨x,I⟩:∃ x:Int,x=(y:Int):=⟨_,rfl⟩;have W:0≤x:=om;have Y:x<4294967296:=om;rw [← I];have o:=hide (And.intro I U);clear I U V;rcases (show x<256∨(256≤x∧x<65536)∨(65536≤x∧x / 65536<256)∨(65536≤x∧256≤x / 65536) by omega) with h | ⟨h,J⟩ | ⟨h,J⟩ | ⟨h,J⟩
  all_goals
    refine calls_of_wp Tryz.func258 rfl ?_;have O:=mm.eq_1;rw [← O];clear O;have E:=qa;have f:=hide (BQ mm sn);generalize mm=T at E f ⊢;have hz:=hide E;clear E;simp only [Tryz.ntmps258,List.size_toArray,List.length_cons,List.length_nil,Nat.reduceAdd,Nat.reduceSub,Array.replicate_succ,Array.replicate_zero,List.push_toArray,List.append_toArray,List.nil_append,List.cons_append];have E:=hz.out;go_wp2
    all_goals first
      | (exfalso;omega)
      | (go_ret
         obtain ⟨F,G,H⟩:=mg T f.out y 0 x (by have:=o.out;simp;omega) (by have:=o.out;simp;omega) (.inr rfl) om;exact ⟨bD (by rw [F,F];simpa using G),rfl⟩)
      | (go_ret
         obtain ⟨F,G,H⟩:=mg T f.out y 8 (x / 256) (by have:=o.out;simp;omega) (by have:=o.out;simp;omega) (by have:=o.out;simp;omega) om;exact ⟨bD (by rw [F,← G];unfold wrap64;omega),rfl⟩)
      | (go_ret
         obtain ⟨F,G,H⟩:=mg T f.out y 16 (x / 65536) (by have:=o.out;simp;omega) (by have:=o.out;simp;omega) (by have:=o.out;simp;omega) om;exact ⟨bD (by rw [F,← G];unfold wrap64;omega),rfl⟩)
      | (go_ret
         obtain ⟨F,G,H⟩:=mg T f.out y 24 (x / 65536 / 256) (by have:=o.out;simp;omega) (by have:=o.out;simp;omega) (by have:=o.out;simp;omega) om;exact ⟨bD (by rw [F,← G];unfold wrap64;omega),rfl⟩)
theorem sk (y:Nat) (E:0<y) (G:y<4294967296) (w:World) :
  Calls Tryz.prog 262 #[.int .u64 y] w fun e w'=>e=.returned (.int .i64 (64-(bitLen y:Int)))∧w=w':=by
 have I:(bitLen y:Int)≤32:=by
  have H:=bitLen_spec y;rcases Nat.lt_or_ge 32 (bitLen y) with h | h
  ·have O:=H.2 om
   have U:2 ^ 32≤2 ^ (bitLen y-1):=Nat.pow_le_pow_right om om;omega
  ·omega
 have o:=hide (fun w=>wO y E G w);obtain ⟨b,f⟩:∃ b:Int,b=(bitLen y:Int):=⟨_,rfl⟩;have J:0≤b:=om;rw [← f] at I o ⊢;clear f;obtain ⟨x,F⟩:∃ x:Int,x=(y:Int):=⟨_,rfl⟩;rw [← F] at o ⊢;clear F E G;go_enter Tryz.func262,Tryz.ntmps262;go_wp2_with fail;refine (o.out _).mono ?_;rintro e V ⟨rfl,rfl⟩;go_wp2;go_ret;exact ⟨rfl,rfl⟩
end
section
open Go.RowKit Go.Sort
theorem uZ (hi lo y s Y J h E G F o I V H U f W R:Int) (b:Int) (w:World) (h1:0<hi) (h2:hi<y) (h3:y<4294967296) (h4:0≤lo) (h5:lo<18446744073709551616) (hs:64-b=s) (bb:32≤s) (bc:s≤63)
  (HL:Hid (∀ w,Calls Tryz.prog 262 #[.int .u64 y] w fun e w'=>e=.returned (.int .i64 (64-b))∧w=w'))
  (e1:IntKind.u64.wrap (y*2 ^ s.toNat)=Y) (e2:bits .and .u64 Y 4294967295=0) (e3:IntKind.u64.wrap (hi*2 ^ s.toNat)=J) (e4:bits .or .u64 J (lo / 2 ^ (64-s).toNat)=h) (e5:IntKind.u64.wrap (lo*2 ^ s.toNat)=E)
  (e6:bits .and .u64 E 4294967295=F) (e7:E / 4294967296=G) (e8:Y / 4294967296=o) (e9:h / o=I) (aa:IntKind.u64.wrap (I*o)=V)
  (b1:0<Y) (b2:0<o) (b3:o<4294967296) (b4:0≤h) (b5:h<18446744073709551616) (b6:0≤E) (b7:E<18446744073709551616) (b8:0≤F) (b9:F<4294967296) (ad:0≤G) (ah:G<4294967296)
  (al:0≤I) (ao:I<4294967296) (aq:0≤V) (aA:V≤h) (aB:h-V<o)
  (a9:IntKind.u64.wrap (IntKind.u64.wrap (IntKind.u64.wrap (h*4294967296)+G)-IntKind.u64.wrap (I*Y))=f) (O:f / o=H) (ab:IntKind.u64.wrap (H*o)=U)
  (a0:0≤f) (a1:f<18446744073709551616) (a2:0≤H) (a3:H<4294967296) (a4:0≤U) (a5:U≤f) (a6:f-U<o)
  (ba:IntKind.u64.wrap (IntKind.u64.wrap (IntKind.u64.wrap (f*4294967296)+F)-IntKind.u64.wrap (H*Y))=W) (a7:0≤W) (a8:W<18446744073709551616) (ac:W / 2 ^ s.toNat=R) :
  Calls Tryz.prog 229 #[.int .u64 hi,.int .u64 lo,.int .u64 y] w fun e w'=>e=.returned (.tuple #[.int .u64 (I*4294967296+H),.int .u64 R])∧w=w':=by
 have z1:(o==0)=false:=ag;go_enter Tryz.func229,Tryz.ntmps229;go_wp2_with fail;refine (HL.out _).mono ?_;rintro e w1 ⟨rfl,rfl⟩;rw [hs];go_wp2_with fail;go_loop [15,16] (fun x z=>x=.int .u64 I∧z=.int .u64 (h-V)) (fun _ _=>0)
 case atStart=>exact ⟨by simp [e9],by simp [e9,aa]⟩
 case round =>
  obtain ⟨rfl,rfl⟩:=hrel;go_wp2_with fail;go_loop [18,16] (fun x z=>x=.int .u64 H∧z=.int .u64 (f-U)) (fun _ _=>0)
  case atStart=>exact ⟨by simp [O],by simp [O,ab]⟩
  case round =>
   obtain ⟨rfl,rfl⟩:=hrel;go_wp2
   all_goals first
    | (exfalso;omega)
    | (go_ret2;exact ⟨aW rfl (by simp [ac]),rfl⟩)
theorem rf (a b c:Int):IntKind.u64.wrap (IntKind.u64.wrap (IntKind.u64.wrap a+b)-IntKind.u64.wrap c)=(a+b-c) % 18446744073709551616:=by
 simp only [IntKind.wrap_u64];omega
theorem DN (a c k:Nat) (f:c<2 ^ k) (o:2 ^ k*a+c<18446744073709551616):bits .or .u64 ((2 ^ k*a:Nat):Int) (c:Int)=((2 ^ k*a+c:Nat):Int):=by
 have h:=bits_or_u64_nat (2 ^ k*a) c om om;rw [h,Nat.two_pow_add_eq_or_of_lt f]
theorem rR (lo y:Int) (w:World) (J:0<y) (O:0≤lo) (U:lo<18446744073709551616) (V:y<18446744073709551616) (a c:Int) (o:lo / y=a) (G:lo % y=c) (f:0≤a∧a<18446744073709551616) (h:0≤c∧c<18446744073709551616) :
  Calls Tryz.prog 229 #[.int .u64 0,.int .u64 lo,.int .u64 y] w fun e w'=>e=.returned (.tuple #[.int .u64 a,.int .u64 c])∧∃ n,w'=w.drewN n:=by
 obtain ⟨E,F⟩:=f;obtain ⟨H,I⟩:=h;have W:(y==0)=false:=ag;go_enter Tryz.func229,Tryz.ntmps229;go_wp2_with fail
 all_goals first
  | (exfalso;omega)
  | skip
 go_quiet (fail);go_wp2;go_ret2;exact ⟨by simp [o,G],_,rfl⟩
theorem ow (a b k:Nat):(a:Int)*((b*k:Nat):Int)=((a*b:Nat):Int)*(k:Int):=by rw [Int.natCast_mul,Int.natCast_mul,Int.mul_assoc]
theorem DC {a m u c:Nat} (h:m≤a) (o:u=(a-m)*4294967296+c) (f:u<18446744073709551616):((a:Int)*4294967296+(c:Int)-(m:Int)*4294967296) % 18446744073709551616=(u:Int):=by
 have e:(a:Int)*4294967296+(c:Int)-(m:Int)*4294967296=(u:Int):=om;rw [e];exact Int.emod_eq_of_lt om om
theorem vO (hi lo y:Nat) (w:World) (h1:0<hi) (h2:hi<y) (h3:y<4294967296) (h5:lo<18446744073709551616) :
  Calls Tryz.prog 229 #[.int .u64 hi,.int .u64 lo,.int .u64 y] w fun e w'=>e=.returned (.tuple #[.int .u64 (((hi*18446744073709551616+lo) / y:Nat):Int),.int .u64 (((hi*18446744073709551616+lo) % y:Nat):Int)])∧w=w':=by
 have aq:=bitLen_spec y;have bk:=aq.2 om;have ao:=aq.1;have bc:bitLen y≤32:=by
  rcases Nat.lt_or_ge 32 (bitLen y) with h | h
  ·have bd:2 ^ 32≤2 ^ (bitLen y-1):=Nat.pow_le_pow_right om om
   omega
  ·omega
 have bh:1≤bitLen y:=by
  rcases Nat.eq_zero_or_pos (bitLen y) with h | h
  ·rw [h] at ao;omega
  ·exact h
 obtain ⟨n,hn⟩:∃ n,64-bitLen y=n:=⟨_,rfl⟩;have bp:bitLen y+n=64:=om;have G:2 ^ n*2 ^ (64-n)=4294967296*4294967296:=by rw [← Nat.pow_add,show n+(64-n)=64 by omega]
 have a8:2 ^ n*2 ^ bitLen y=4294967296*4294967296:=by rw [← Nat.pow_add,show n+bitLen y=64 by omega]
 have ad:2 ^ n=4294967296*2 ^ (n-32):=by rw [show (4294967296:Nat)=2 ^ 32 by decide,← Nat.pow_add,show 32+(n-32)=n by omega]
 have a7:0<2 ^ n:=Nat.two_pow_pos n;have a3:y*2 ^ n<4294967296*4294967296:=by rw [← a8,Nat.mul_comm];exact Nat.mul_lt_mul_of_pos_left ao a7
 obtain ⟨P,hP⟩:∃ P,P=2 ^ n:=⟨_,rfl⟩;obtain ⟨Q,hQ⟩:∃ Q,Q=2 ^ (64-n):=⟨_,rfl⟩;have ah:0<Q:=by rw [hQ];exact Nat.two_pow_pos _
 rw [← hP] at G ad a3;rw [← hQ] at G;obtain ⟨lq,I⟩:∃ q,q=lo / Q:=⟨_,rfl⟩;obtain ⟨Y,hY⟩:∃ Y,Y=y*P:=⟨_,rfl⟩;obtain ⟨W,o⟩:∃ Y,Y=hi*P+lo / Q:=⟨_,rfl⟩;obtain ⟨f,O⟩:∃ Y,Y=lo*P % (4294967296*4294967296):=⟨_,rfl⟩;obtain ⟨yn,bb⟩:∃ x,x=Y / 4294967296:=⟨_,rfl⟩;obtain ⟨q1,a2⟩:∃ x,x=W / yn:=⟨_,rfl⟩;obtain ⟨F,E⟩:∃ x,x=(W-q1*yn)*4294967296+f / 4294967296:=⟨_,rfl⟩;obtain ⟨q0,a1⟩:∃ x,x=F / yn:=⟨_,rfl⟩;obtain ⟨c1,c2,c3,c4,c5,c6,c7,c8,c9,aa,a4,ab,a5,ac⟩:=uV (A:=4294967296) (hi:=hi) (lo:=lo) (y:=y) (P:=P) (Q:=Q) (K:=2 ^ (n-32)) aj h2 om G ah a3 ad hY o O bb a2 E a1;have aA:lq<P:=by rw [I,Nat.div_lt_iff_lt_mul ah,G];omega
 have a6:=hide (fun w=>sk y om h3 w);have H:(2:Int) ^ n=(P:Int):=by rw [hP];push_cast;rfl
 have a9:(2:Int) ^ (64-n)=(Q:Int):=by rw [hQ];push_cast;rfl
 have a0:=DN hi lq n (by rw [← hP];exact aA) (by rw [← hP,Nat.mul_comm,I,← o];omega);rw [← hP,Nat.mul_comm P hi] at a0;have aB:(lo:Int) / (Q:Int)=(lq:Int):=by rw [I];push_cast;rfl
 rw [← I] at o;obtain ⟨m1,V⟩:∃ x,x=q1*yn:=⟨_,rfl⟩;obtain ⟨m0,U⟩:∃ x,x=q0*yn:=⟨_,rfl⟩;rw [← V] at c6 c7 E;rw [← U] at aa a4 ac;have al:Y<18446744073709551616:=om;have J:(64-(bitLen y:Int)).toNat=n:=om;have ba:(64-(64-(bitLen y:Int))).toNat=64-n:=om;have bl:((F-m0)*4294967296+f % 4294967296)<18446744073709551616:=om
 have h:=uZ hi lo y (64-(bitLen y:Int)) Y (hi*P:Nat) W f (f / 4294967296:Nat) (f % 4294967296:Nat) yn q1 m1 q0 m0 F ((F-m0)*4294967296+f % 4294967296:Nat) (((F-m0)*4294967296+f % 4294967296) / P:Nat) (bitLen y) w
  om om om om om rfl om om a6
  (by rw [J,H,jg,← hY,di _ al])
  (by rw [iL _ al,c1];rfl)
  (by rw [J,H,jg,di _ c2])
  (by rw [ba,a9,aB,a0,← o])
  (by rw [J,H,jg,ou,O])
  (by rw [iL _ om])
  om om (by rw [a2];push_cast;rfl)
  (by rw [jg,← V,di _ om])
  om om om om om om om om om om om
  om om om om om
  (by
   rw [rf,ab,ow,← V];exact DC c6 E om)
  (by rw [a1];push_cast;rfl)
  (by rw [jg,← U,di _ om])
  om om om om om om om
  (by
   rw [rf,ab,ow,← U];exact DC aa rfl om)
  om om
  (by rw [J,H];exact (Int.natCast_ediv _ _).symm)
 refine h.mono ?_;rintro e w' ⟨rfl,rfl⟩;refine ⟨aW ?_ ?_,rfl⟩
 ·rw [show hi*18446744073709551616=hi*(4294967296*4294967296) by rfl,← a5];omega
 ·rw [show hi*18446744073709551616=hi*(4294967296*4294967296) by rfl,← ac]
theorem nX (x y:Int) (f:0≤x∧x<18446744073709551616) (h:0≤y∧y<18446744073709551616) (w:World) :
  Calls Tryz.prog 230 #[.int .u64 x,.int .u64 y] w fun e w'=>e=.returned (.tuple #[.int .u64 (x*y / 18446744073709551616),.int .u64 (x*y % 18446744073709551616)])∧w=w':=by
 obtain ⟨a,rfl⟩:=Int.eq_ofNat_of_zero_le f.1;obtain ⟨b,rfl⟩:=Int.eq_ofNat_of_zero_le h.1;refine (vD a b om om w).mono ?_;rintro e w' ⟨rfl,rfl⟩;refine ⟨aW ?_ ?_,rfl⟩
 ·rw [← Int.natCast_mul];omega
 ·rw [← Int.natCast_mul];omega
theorem wj (hi lo y:Int) (w:World) (f:0≤hi) (H:hi<y) (I:y<4294967296) (h:0≤lo) (o:lo<18446744073709551616) :
    Calls Tryz.prog 229 #[.int .u64 hi,.int .u64 lo,.int .u64 y] w fun e w'=>e=.returned (.tuple #[.int .u64 ((hi*18446744073709551616+lo) / y),.int .u64 ((hi*18446744073709551616+lo) % y)])∧Below w w w':=by
  obtain ⟨a,rfl⟩:=Int.eq_ofNat_of_zero_le f;obtain ⟨b,rfl⟩:=Int.eq_ofNat_of_zero_le h;obtain ⟨y,rfl⟩:=Int.eq_ofNat_of_zero_le (show 0≤y by omega);rcases Nat.eq_zero_or_pos a with rfl | E
  · have F : 0 ≤ (b : Int) / (y : Int) ∧ (b : Int) / (y : Int) < 18446744073709551616 := by
      refine ⟨Int.ediv_nonneg om om,?_⟩;have:=Int.ediv_le_self (a:=(b:Int)) (y:Int) om;omega
    have G:0≤(b:Int) % (y:Int)∧(b:Int) % (y:Int)<18446744073709551616:=by
      have J:=Int.emod_nonneg (b:Int) (show (y:Int)≠0 by omega);have O:=Int.emod_lt_of_pos (b:Int) (show (0:Int)<y by omega);omega
    refine (rR b y w om om o om _ _ rfl rfl F G).mono ?_;rintro e w' ⟨rfl,n,rfl⟩;refine ⟨aW ?_ ?_,below_drewN (Below.refl _ _) n⟩ <;> simp
  · refine (vO a b y w E om om om).mono ?_
    rintro e w' ⟨rfl,rfl⟩;refine ⟨aW ?_ ?_,Below.refl _ _⟩
    · rw [Int.natCast_ediv,Int.natCast_add,Int.natCast_mul];rfl
    · rw [Int.natCast_emod,Int.natCast_add,Int.natCast_mul];rfl
theorem wH {a b:Int} (f:bE a) (h:0≤b) (o:b≤9223372036854775807):bE (a*b / 18446744073709551616)∧(a<0→((a+18446744073709551616)*b / 18446744073709551616-b=a*b / 18446744073709551616∧(a+18446744073709551616)*b % 18446744073709551616=a*b % 18446744073709551616)):=by
 have e:(a+18446744073709551616)*b=a*b+b*18446744073709551616:=by rw [Int.add_mul,Int.mul_comm 18446744073709551616 b]
 rw [e];unfold bE at f ⊢;have E:-9223372036854775808*b≤a*b:=Int.mul_le_mul_of_nonneg_right f.1 h;have F:a*b≤9223372036854775807*b:=Int.mul_le_mul_of_nonneg_right f.2 h;generalize a*b=p at *;refine ⟨by omega,fun _=>by omega⟩
theorem mb {x y a b:Value} {t:TypeId} {B:Nat} {w:World} (h:ax w B #[x,y] t):((w.setCell ⟨B,0,none⟩ a).setCell ⟨B,1,none⟩ b).cell? ⟨B,0,none⟩=some a∧((w.setCell ⟨B,0,none⟩ a).setCell ⟨B,1,none⟩ b).cell? ⟨B,1,none⟩=some b∧(w.setCell ⟨B,0,none⟩ a).cell? ⟨B,0,none⟩=some a:=by
 have f:ax (w.setCell ⟨B,0,none⟩ a) B #[a,y] t:=by
  unfold ax at h ⊢;simp [World.setCell,Array.getElem?_modify,h]
 have e:ax ((w.setCell ⟨B,0,none⟩ a).setCell ⟨B,1,none⟩ b) B #[a,b] t:=by
  unfold ax at h ⊢;simp [World.setCell,Array.getElem?_modify,h]
 exact ⟨e.cell 0,e.cell 1,f.cell 0⟩
theorem zC (a b:Int) (w:World):(Instr.index 325 (.agg #[a,b,b,a]) (.int .i64 0)).run Tryz.prog w=.ok (.agg #[a,b]) w:=by kernel_rfl
theorem yf (a b:Int) (w:World):(Instr.index 325 (.agg #[a,b,b,a]) (.int .i64 1)).run Tryz.prog w=.ok (.agg #[b,a]) w:=by kernel_rfl
theorem yv (a b P Q:Int) (w:World) (h0:0≤a) (h1:a≤9223372036854775807) (hb:0≤b) (Y:b≤9223372036854775807) (G:a*b / 18446744073709551616=P) (H:a*b % 18446744073709551616=Q) (O:0≤P) (U:P≤9223372036854775807) (V:0≤Q) (W:Q<18446744073709551616) :
  Calls Tryz.prog 188 #[a,b] w fun e w'=>e=.returned (.agg #[P,.int .u64 Q])∧Below w w w':=by
 have ab:=zC a b;have ac:=yf a b;have E:=hide (fun w=>nX a b om om w);rw [G,H] at E;clear G H;go_enter Tryz.func188,Tryz.ntmps188;go_wp2_with fail;refine (E.out _).mono ?_;rintro e w1 ⟨rfl,rfl⟩;go_wp2_with fail;go_loopw [5,24] (fun h s wr=>(h=.int .u64 P∧(s=.int .i64 0∨s=.int .i64 1∨s=.int .i64 2))∧ax wr w #[.int .i64 0,.int .u64 0] 100∧Below w w wr) (fun _ s _=>(5-intOf s).toNat)
 case atStart=>exact ⟨⟨rfl,.inl rfl⟩,ax.new _ _ _,by (repeat' exact bel)⟩
 case round =>
  obtain ⟨hs,F,f⟩:=hrel;have o:=hide F;obtain ⟨⟨b0,b1⟩,f0,f1,b3⟩:=ec o.out;clear F;have aa:=f.size;rcases hs with ⟨rfl,rfl | rfl | rfl⟩
  ·go_wp2
   all_goals first
    | (exfalso;omega)
    | skip
   go_roundw
   case rel=>exact ⟨⟨rfl,.inr (.inl rfl)⟩,o.out.alloc _,by (repeat' exact bel)⟩
   case measure=>simp [intOf]
  ·go_wp2
   all_goals first
    | (exfalso;omega)
    | skip
   go_roundw
   case rel=>exact ⟨⟨rfl,.inr (.inr rfl)⟩,o.out.alloc _,by (repeat' exact bel)⟩
   case measure=>simp [intOf]
  ·obtain ⟨g0,I,J⟩:=mb (a:=.int .i64 P) (b:=.int .u64 Q) o.out
   go_wp2;exact bodyPost_ret (v:=.agg #[P,.int .u64 Q]) (by simp [results,Tryz.results188,go_sem,I,J]) rfl ⟨rfl,by (repeat' exact bel)⟩
theorem AI (a b P o Q:Int) (w:World) (h0:a<0) (h1:-9223372036854775808≤a) (hb:0≤b) (ao:b≤9223372036854775807) (V:(a+18446744073709551616)*b / 18446744073709551616=P) (W:(a+18446744073709551616)*b % 18446744073709551616=Q) (aa:0≤P) (ab:P<18446744073709551616) (ah:0≤Q) (al:Q<18446744073709551616)
  (G:P-b=o) (ac:-9223372036854775808≤o) (ad:o≤9223372036854775807) :
  Calls Tryz.prog 188 #[a,b] w fun e w'=>e=.returned (.agg #[o,.int .u64 Q])∧Below w w w':=by
 have aA:=zC a b;have aB:=yf a b;have J:=hide (fun w=>nX (a+18446744073709551616) b om om w);rw [V,W] at J;have E:=hide G;have Y:=hide (show IntKind.u64.wrap a=a+18446744073709551616 by rw [IntKind.wrap_u64];omega);clear V W G;go_enter Tryz.func188,Tryz.ntmps188;go_wp2_with fail;rw [Y.out];refine (J.out _).mono ?_;rintro e w1 ⟨rfl,rfl⟩;obtain ⟨O,f⟩:∃ x,IntKind.u64.wrap (P-b)=x:=⟨_,rfl⟩;have I:=hide f;have HW:=hide (show IntKind.i64.wrap O=o by rw [← f,← E.out,IntKind.wrap_u64,IntKind.wrap_i64];have:=E.out;omega);go_wp2_with fail;go_loopw [5,24] (fun h s wr=>((h=.int .u64 P∧s=.int .i64 0)∨(h=.int .u64 O∧(s=.int .i64 1∨s=.int .i64 2)))∧ax wr w #[.int .i64 0,.int .u64 0] 100∧Below w w wr) (fun _ s _=>(5-intOf s).toNat)
 case atStart=>exact ⟨.inl ⟨rfl,rfl⟩,ax.new _ _ _,by (repeat' exact bel)⟩
 case round =>
  obtain ⟨hs,U,F⟩:=hrel;have H:=hide U;obtain ⟨⟨b0,b1⟩,f0,f1,b3⟩:=ec H.out;clear U;have aq:=F.size;rcases hs with ⟨rfl,rfl⟩ | ⟨rfl,rfl | rfl⟩
  ·go_wp2
   all_goals first
    | (exfalso;omega)
    | skip
   go_roundw
   case rel=>exact ⟨.inr ⟨by first | rfl | simp [I.out],.inl rfl⟩,H.out.alloc _,by (repeat' exact bel)⟩
   case measure=>simp [intOf]
  ·clear f
   go_wp2
   all_goals first
    | (exfalso;omega)
    | skip
   go_roundw
   case rel=>exact ⟨.inr ⟨rfl,.inr rfl⟩,H.out.alloc _,by (repeat' exact bel)⟩
   case measure=>simp [intOf]
  ·clear f
   have hw:=HW.out;obtain ⟨g0,g1,g2⟩:=mb (a:=.int .i64 o) (b:=.int .u64 Q) H.out;go_wp2;exact bodyPost_ret (v:=.agg #[o,.int .u64 Q]) (by simp [results,Tryz.results188,go_sem,g1,g2]) rfl ⟨rfl,by (repeat' exact bel)⟩
theorem AP (a b:Int) (w:World) (F:bE a) (o:0≤b) (f:b≤9223372036854775807):Calls Tryz.prog 188 #[a,b] w fun e w'=>e=.returned (dK (a*b))∧Below w w w':=by
 obtain ⟨E,O⟩:=wH F o f;have G:0≤a*b % 18446744073709551616∧a*b % 18446744073709551616<18446744073709551616:=om;unfold bE at F E;rcases Int.lt_or_le a 0 with h | h
 ·obtain ⟨H,I⟩:=O h
  have J:=Int.ediv_nonneg (Int.mul_nonneg (show 0≤a+18446744073709551616 by omega) o) (show (0:Int)≤18446744073709551616 by decide);exact AI a b _ _ _ w h F.1 o f rfl I J om G.1 G.2 H E.1 E.2
 ·exact yv a b _ _ w h F.2 o f rfl rfl (Int.ediv_nonneg (Int.mul_nonneg h o) aj) E.2 G.1 G.2
theorem Ab (H lo b T R q l Q r:Int) (w:World) (hb:0<b) (W:b<4294967296) (hH:-9223372036854775808≤H) (a0:H≤9223372036854775807) (aa:0≤lo) (F:lo<18446744073709551616)
  (hT:H.tdiv b=T) (hR:H.tmod b=R) (V:-9223372036854775808≤T∧T≤9223372036854775807) (a3:-9223372036854775808≤q) (U:-b<R∧R<b) (hq:(R<0∧q=T-1∧l=R+b)∨(0≤R∧q=T∧l=R)) (hQ:(l*18446744073709551616+lo) / b=Q) (hr:(l*18446744073709551616+lo) % b=r) (O:0≤Q∧Q<18446744073709551616) (ab:0≤r∧r<b) :
  Calls Tryz.prog 187 #[.agg #[H,.int .u64 lo],b] w fun e w'=>e=.returned (.tuple #[.agg #[q,.int .u64 Q],r,.int .i64 0])∧Below w w w':=by
 have Y:0≤l∧l<b:=om;have HD:=hide (fun w=>wj l lo b w Y.1 Y.2 W aa F);rw [hQ,hr] at HD;obtain ⟨ao,aq⟩:=V;obtain ⟨ah,al⟩:=U;obtain ⟨ac,ad⟩:=O;obtain ⟨aA,aB⟩:=ab;obtain ⟨a1,a2⟩:=Y;clear hQ hr;rcases hq with ⟨hs,rfl,rfl⟩ | ⟨hs,rfl,rfl⟩
 all_goals
  go_enter Tryz.func187,Tryz.ntmps187;go_wp2_with fail
  all_goals first
   | (exfalso;omega)
   | skip
  refine (HD.out _).mono ?_;rintro e w1 ⟨rfl,f⟩;have G:=hide (show ax w1 (w+1) #[.int .i64 0,.int .u64 0] 100 from by
   have h:=ax.call (ax.new (w.alloc (.cells #[H,.int .u64 lo] 100)) #[.int .i64 0,.int .u64 0] 100) f;simpa using h)
  obtain ⟨⟨k0,k1⟩,k2,k3,k4⟩:=ec G.out;have o:Hid (Below w w w1):=ww f;clear f
 ·obtain ⟨g0,I,J⟩:=mb (a:=.int .i64 (T-1)) (b:=.int .u64 Q) G.out
  have E:=o.out;go_wp2;exact bodyPost_ret (v:=.tuple #[.agg #[.int .i64 (T-1),.int .u64 Q],r,.int .i64 0]) (by simp [results,Tryz.results187,go_sem,I,J]) rfl ⟨rfl,by (repeat' exact bel)⟩
 ·obtain ⟨g0,I,J⟩:=mb (a:=.int .i64 q) (b:=.int .u64 Q) G.out
  have E:=o.out;go_wp2;exact bodyPost_ret (v:=.tuple #[.agg #[q,.int .u64 Q],r,.int .i64 0]) (by simp [results,Tryz.results187,go_sem,I,J]) rfl ⟨rfl,by (repeat' exact bel)⟩
theorem xv {N b:Int} (E:0<b):N / b / 18446744073709551616=N / 18446744073709551616 / b∧N / b % 18446744073709551616=(N / 18446744073709551616 % b*18446744073709551616+N % 18446744073709551616) / b∧N % b=(N / 18446744073709551616 % b*18446744073709551616+N % 18446744073709551616) % b ∧
  0≤(N / 18446744073709551616 % b*18446744073709551616+N % 18446744073709551616) / b∧(N / 18446744073709551616 % b*18446744073709551616+N % 18446744073709551616) / b<18446744073709551616:=by
 obtain ⟨H,V⟩:∃ H,N / 18446744073709551616=H:=⟨_,rfl⟩;obtain ⟨lo,h⟩:∃ H,N % 18446744073709551616=H:=⟨_,rfl⟩;have W:N=H*18446744073709551616+lo:=om;have hl:0≤lo∧lo<18446744073709551616:=om;rw [V,h];obtain ⟨q,F⟩:∃ q,H / b=q:=⟨_,rfl⟩;obtain ⟨l,f⟩:∃ q,H % b=q:=⟨_,rfl⟩;have G:H=q*b+l:=by rw [← F,← f];exact (Int.ediv_mul_add_emod H b).symm
 have Y:0≤l:=by rw [← f];exact Int.emod_nonneg _ om
 have e3:l<b:=by rw [← f];exact Int.emod_lt_of_pos _ E
 rw [F,f];have o:N=(l*18446744073709551616+lo)+b*(q*18446744073709551616):=by
  rw [W,G,Int.add_mul,Int.mul_comm q b,Int.mul_assoc];omega
 have I:N / b=(l*18446744073709551616+lo) / b+q*18446744073709551616:=by rw [o,Int.add_mul_ediv_left _ _ om]
 have J:N % b=(l*18446744073709551616+lo) % b:=by rw [o,Int.add_mul_emod_self_left]
 have O:0≤(l*18446744073709551616+lo) / b:=Int.ediv_nonneg om om;have U:(l*18446744073709551616+lo) / b<18446744073709551616:=Int.ediv_lt_of_lt_mul E (by
  have:(l+1)*18446744073709551616≤b*18446744073709551616:=Int.mul_le_mul_of_nonneg_right om aj;rw [Int.mul_comm 18446744073709551616 b];omega)
 rw [I,J];generalize (l*18446744073709551616+lo) / b=Q at *;refine ⟨by omega,by omega,rfl,O,U⟩
theorem Ag (N b:Int) (w:World) (Y:cE N) (f:0<b) (G:b<4294967296) :
  Calls Tryz.prog 187 #[dK N,b] w fun e w'=>e=.returned (.tuple #[dK (N / b),.int .i64 (N % b),.int .i64 0])∧Below w w w':=by
 have E:=qy Y;obtain ⟨I,J,F,O,U⟩:=xv (N:=N) f;have V:0≤N % 18446744073709551616∧N % 18446744073709551616<18446744073709551616:=om;unfold bE at E;obtain ⟨H,o⟩:∃ H,N / 18446744073709551616=H:=⟨_,rfl⟩;rw [o] at E I J F O U;have t1:=Int.tmod_add_mul_tdiv H b;have W:=Int.tmod_lt_of_pos H f;have t3:-b<H.tmod b:=Int.lt_tmod_of_pos H f;have t4:-9223372036854775808≤H.tdiv b∧H.tdiv b≤9223372036854775807:=by
  constructor
  ·rcases Int.lt_or_le (H.tdiv b) (-9223372036854775808) with h | h
   ·have:=Int.mul_le_mul_of_nonneg_left (show H.tdiv b≤-9223372036854775809 by omega) (show 0≤b by omega)
    omega
   ·exact h
  ·rcases Int.lt_or_le 9223372036854775807 (H.tdiv b) with h | h
   ·have:=Int.mul_le_mul_of_nonneg_left (show 9223372036854775808≤H.tdiv b by omega) (show 0≤b by omega)
    omega
   ·exact h
 have t5:-9223372036854775808≤H / b:=by
  have h1:-9223372036854775808*b≤-9223372036854775808*1:=om;exact (Int.le_ediv_iff_mul_le f).2 om
 have hu:(H.tmod b<0∧H / b=H.tdiv b-1∧H % b=H.tmod b+b)∨(0≤H.tmod b∧H / b=H.tdiv b∧H % b=H.tmod b):=by
  rcases Int.lt_or_le (H.tmod b) 0 with h | h
  ·left
   have:=(Int.ediv_emod_unique (a:=H) (b:=b) (r:=H.tmod b+b) (q:=H.tdiv b-1) f).2 ⟨by rw [Int.mul_sub,Int.mul_one];omega,by omega,by omega⟩;exact ⟨h,this.1,this.2⟩
  ·right
   have:=(Int.ediv_emod_unique (a:=H) (b:=b) (r:=H.tmod b) (q:=H.tdiv b) f).2 ⟨t1,h,W⟩;exact ⟨h,this.1,this.2⟩
 have hr:0≤N % b∧N % b<b:=⟨Int.emod_nonneg _ om,Int.emod_lt_of_pos _ f⟩;have h:=Ab H (N % 18446744073709551616) b (H.tdiv b) (H.tmod b) (H / b) (H % b) _ _ w f G E.1 E.2 V.1 V.2 rfl rfl t4 t5 ⟨t3,W⟩ hu rfl rfl ⟨O,U⟩ (by rw [← F];exact hr);rw [← F,← J,← I] at h;rw [← o] at h;exact h
theorem gN {a x n:Int} (E:bE a) (G:0≤x) (f:x≤n) (F:0<n):bE (a*x / n):=by
  unfold bE at *;constructor
  · refine (Int.le_ediv_iff_mul_le F).2 ?_
    rcases Int.lt_or_le a 0 with h | h
    · have o:a*n≤a*x:=Int.mul_le_mul_of_nonpos_left om f
      have H:-9223372036854775808*n≤a*n:=Int.mul_le_mul_of_nonneg_right E.1 om;omega
    · have:=Int.mul_nonneg h G;omega
  · have I : a * x / n < 9223372036854775807 + 1 := by
      refine Int.ediv_lt_of_lt_mul F ?_;rcases Int.lt_or_le a 0 with h | h
      · have o:a*x≤0*x:=Int.mul_le_mul_of_nonneg_right om G
        omega
      · have o:a*x≤a*n:=Int.mul_le_mul_of_nonneg_left f h
        have H:a*n≤9223372036854775807*n:=Int.mul_le_mul_of_nonneg_right E.2 om;omega
    omega
theorem Ch (a x n:Int) (w:World) (o:bE a) (I:0≤x) (aa:x≤n) (hn:0<n) (Y:n<4294967296) :
  Calls Tryz.prog 131 #[a,x,n] w fun e w'=>e=.returned (.tuple #[.int .i64 (a*x / n),.int .i64 (a*x % n),.int .i64 0])∧Below w w w':=by
 have H:=gN o I aa hn;have hp:cE (a*x):=by
  have h1:-9223372036854775808*x≤a*x:=Int.mul_le_mul_of_nonneg_right o.1 I;have h2:a*x≤9223372036854775807*x:=Int.mul_le_mul_of_nonneg_right o.2 I;unfold cE;omega
 have HM:=hide (fun w=>AP a x w o I om);have V:=hide (fun w=>Ag (a*x) n w hp hn Y);have F:=hide (fun w=>mR (a*x / n) w (uD H));rw [(gr H).1,(gr H).2] at F;obtain ⟨Q,G⟩:∃ Q,a*x / n=Q:=⟨_,rfl⟩;obtain ⟨R,W⟩:∃ Q,a*x % n=Q:=⟨_,rfl⟩;rw [G,W] at V;rw [G] at F;rw [G,W];simp only [dK] at HM V F;clear H hp o G W;go_enter Tryz.func131,Tryz.ntmps131;go_wp2_with fail;refine (HM.out _).mono ?_;rintro e w1 ⟨rfl,f⟩;have J:Hid (Below w w w1):=ww f;have ab:=f.size;clear f;go_wp2_with fail;refine (V.out _).mono ?_;rintro e w2 ⟨rfl,h⟩;have O:Hid (Below w w w2):=au J.out h;have ac:=h.size;clear h;go_wp2_with fail;refine (F.out _).mono ?_;rintro e w3 ⟨rfl,E⟩;have U:Hid (Below w w w3):=au O.out E;clear E;go_wp2;exact bodyPost_ret (v:=.tuple #[.int .i64 Q,R,.int .i64 0]) (by simp [results,Tryz.results131,go_sem]) rfl ⟨rfl,U.out⟩
end
end Go.Proofs.YtpebkobmhhnojaaGreatDoor
