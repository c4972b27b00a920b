/- Lemmas. -/
import Derived.BigQuiet
import Derived.Laws.Bits64
import Derived.Laws.Externs
import Derived.Laws.OwnMore
import Derived.Lib.QuietBelow
import Derived.Test.YtpebkobmhhnojaaGreatDoorTp02
import Derived.Test.YtpebkobmhhnojaaGreatDoorTp11
set_option linter.unusedSimpArgs false
set_option linter.unusedVariables false
set_option maxRecDepth 100000
set_option maxHeartbeats 12800000
namespace Go.Proofs.YtpebkobmhhnojaaGreatDoor
section
open Go.RowKit
def bE (x:Int):Prop:=-9223372036854775808≤x∧x≤9223372036854775807
theorem ql (o:BinOp) (f:BitVec 64→BitVec 64→BitVec 64) (a b:Int) (h:bits o .i64 a b=IntKind.i64.wrap ((f (BitVec.ofInt 64 a) (BitVec.ofInt 64 b)).toNat:Int)):bits o .i64 a b=(f (BitVec.ofInt 64 a) (BitVec.ofInt 64 b)).toInt:=by
 rw [h,IntKind.wrap_i64,BitVec.toInt_eq_toNat_cond];have:=(f (BitVec.ofInt 64 a) (BitVec.ofInt 64 b)).isLt
 split <;> omega
theorem oW (a b:Int):bits .xor .i64 a b=(BitVec.ofInt 64 a ^^^ BitVec.ofInt 64 b).toInt:=ql _ (· ^^^ ·) _ _ rfl
theorem Be (a b:Int):bits .and .i64 a b=(BitVec.ofInt 64 a &&& BitVec.ofInt 64 b).toInt:=ql _ (· &&& ·) _ _ rfl
theorem pB {a:Int} (h:bE a):(BitVec.ofInt 64 a).msb=decide (a<0):=by
 rw [BitVec.msb_eq_toInt,BitVec.toInt_ofInt_eq_self aj (by simpa using h.1) (by have:=h.2;simp;omega)]
theorem A4 (A:BitVec 64):bE A.toInt:=by
 have f:=BitVec.le_two_mul_toInt (x:=A);have h:=BitVec.two_mul_toInt_lt (x:=A);unfold bE;omega
theorem tM {a b:Int} (F:bE a) (G:bE b):(bits .xor .i64 a b<0)↔¬ (a<0↔b<0):=by
 have h:(BitVec.ofInt 64 a ^^^ BitVec.ofInt 64 b).msb=(decide (a<0) ^^ decide (b<0)):=by rw [BitVec.msb_xor,pB F,pB G]
 rw [BitVec.msb_eq_toInt] at h;rw [oW];have f:((BitVec.ofInt 64 a ^^^ BitVec.ofInt 64 b).toInt<0)↔(decide (a<0) ^^ decide (b<0))=true:=by rw [← h];simp
 rw [f];by_cases o:a<0 <;> by_cases E:b<0 <;> simp [o,E]
theorem za (a b:Int):bE (bits .xor .i64 a b):=by rw [oW];exact A4 _
theorem C5 {a b:Int} (F:bE a) (G:bE b):(bits .and .i64 a b<0)↔(a<0∧b<0):=by
 have h:(BitVec.ofInt 64 a &&& BitVec.ofInt 64 b).msb=(decide (a<0)&&decide (b<0)):=by rw [BitVec.msb_and,pB F,pB G]
 rw [BitVec.msb_eq_toInt] at h;rw [Be];have f:((BitVec.ofInt 64 a &&& BitVec.ofInt 64 b).toInt<0)↔(decide (a<0)&&decide (b<0))=true:=by rw [← h];simp
 rw [f];by_cases o:a<0 <;> by_cases E:b<0 <;> simp [o,E]
theorem EP {a b n:Int} (F:bE a) (G:bE b) (f:bE n):(bits .and .i64 (bits .xor .i64 a n) (bits .xor .i64 b n)<0)↔((a<0↔b<0)∧¬ (a<0↔n<0)):=by
 rw [C5 (za _ _) (za _ _),tM F f,tM G f];by_cases h:a<0 <;> by_cases o:b<0 <;> by_cases E:n<0 <;> simp [h,o,E]
theorem A3 {b:Int} (f:0≤b) (o:b<18446744073709551616):bits .xor .u64 IntKind.u64.max b=18446744073709551615-b:=by
 have h:bits .xor .u64 IntKind.u64.max b=IntKind.u64.wrap ((BitVec.ofInt 64 IntKind.u64.max ^^^ BitVec.ofInt 64 b).toNat:Int):=rfl;rw [h,show BitVec.ofInt 64 IntKind.u64.max=BitVec.allOnes 64 by decide,BitVec.allOnes_xor,BitVec.toNat_not,BitVec.toNat_ofInt,IntKind.wrap_u64];omega
theorem Da {a:Int} (h:bE a):bits .xor .i64 (-1) a=-1-a:=by
 obtain ⟨f,o⟩:=h;rw [oW,show BitVec.ofInt 64 (-1)=BitVec.allOnes 64 by decide,BitVec.allOnes_xor,BitVec.toInt_not,BitVec.toNat_ofInt];simp only [Int.bmod_def];omega
abbrev dK (n:Int):Value:=.agg #[.int .i64 (n / 18446744073709551616),.int .u64 (n % 18446744073709551616)]
def cE (n:Int):Prop:=-170141183460469231731687303715884105728≤n∧n<170141183460469231731687303715884105728
def lL (n:Int):Bool:=decide (-9223372036854775808≤n)&&decide (n≤9223372036854775807)
def kh (n:Int):Int:=if lL n then n else 0
def iH (n:Int):Int:=if lL n then 0 else 2
theorem gr {n:Int} (h:bE n):kh n=n∧iH n=0:=by
 have:lL n=true:=by simp [lL];exact h
 simp [kh,iH,this]
theorem yO {n:Int} (h:¬ bE n):kh n=0∧iH n=2:=by
 have:lL n=false:=by
  cases f:lL n
  ·rfl
  ·exact absurd (show -9223372036854775808≤n∧n≤9223372036854775807 by simpa [lL] using f) h
 simp [kh,iH,this]
theorem EG (n:Int):bE (kh n):=by
 by_cases h:bE n
 ·rw [(gr h).1];exact h
 ·rw [(yO h).1];exact ⟨by decide,by decide⟩
theorem uD {n:Int} (h:bE n):cE n:=by unfold cE;unfold bE at h;omega
theorem qy {n:Int} (h:cE n):bE (n / 18446744073709551616):=by unfold cE at h;unfold bE;omega
theorem DU {a b n:Int} (f:a=n / 18446744073709551616) (h:b=n % 18446744073709551616):Ending.returned (.agg #[a,.int .u64 b])=.returned (dK n):=by rw [f,h]
def lK (w:World) (v:Value) (l:List Int):Prop:=∃ f cap,v=.slice f l.length cap∧∀ (i:Nat) (x:Int),l[i]?=some x→∃ g o,f=some ⟨g,o,none⟩∧g<w.heap.size∧w.cell? ⟨g,o+i,none⟩=some (.int .i64 x)
theorem lK.call {w w':World} {v:Value} {l:List Int} (h:lK w v l) (f:Below w w w'):lK w' v l:=by
 obtain ⟨F,cap,G,H⟩:=h;refine ⟨F,cap,G,fun i x J=>?_⟩;obtain ⟨g,o,e,E,I⟩:=H i x J;exact ⟨g,o,e,Nat.lt_of_lt_of_le E f.size,(f.cell (p:=⟨g,o+i,none⟩) E).trans I⟩
theorem AA {l:List Int} (h:∀ x∈l,bE x):-(9223372036854775808*(l.length:Int))≤l.sum∧l.sum≤9223372036854775808*(l.length:Int):=by
 induction l with
 | nil=>simp
 | cons x l E =>
  have F:=E fun y o=>h y (List.mem_cons_of_mem _ o)
  have f:=h x af;unfold bE at f;simp only [List.sum_cons,List.length_cons,Int.natCast_add,Int.mul_add];omega
theorem tB {l:List Int} (h:∀ x∈l,bE x) (f:l.length≤1000000000):cE l.sum:=by
 have:=AA h;unfold cE;omega
theorem li {a b k:Nat} (h:a<b):a*k+k≤b*k:=by
 have:=Nat.mul_le_mul_right k (Nat.succ_le_of_lt h)
 rwa [Nat.succ_mul] at this
theorem uV {A hi lo y P Q K Y F o f H E G:Nat} (V:0<A) (a1:hi<y) (a2:lo<A*A) (hP:P*Q=A*A) (hQ:0<Q) (h2:y*P<A*A) (hK:P=A*K)
  (dY:Y=y*P) (aq:F=hi*P+lo / Q) (aa:o=lo*P % (A*A)) (aA:f=Y / A) (U:H=F / f) (a7:E=(F-H*f)*A+o / A) (O:G=E / f) :
  Y % A=0∧hi*P<A*A∧F<Y∧0<f∧H<A∧H*f≤F∧F-H*f<f∧E<Y∧G<A∧G*f≤E∧E-G*f<f∧Y=f*A ∧
  H*A+G=(hi*(A*A)+lo) / y∧((E-G*f)*A+o % A) / P=(hi*(A*A)+lo) % y:=by
 have W:0<P:=by
  rcases Nat.eq_zero_or_pos P with h | h
  ·rw [h,Nat.zero_mul] at hP
   have:=Nat.mul_pos V V;omega
  ·exact h
 have ao:0<y:=om;have aB:0<K:=by
  rcases Nat.eq_zero_or_pos K with h | h
  ·rw [h] at hK;omega
  ·exact h
 have hY:Y=y*K*A:=by rw [dY,hK,Nat.mul_comm A K,Nat.mul_assoc]
 have e1:Y % A=0:=by rw [hY];exact Nat.mul_mod_left _ _
 have e4:f=y*K:=by rw [aA,hY,Nat.mul_div_cancel _ V]
 have I:0<f:=by rw [e4];exact Nat.mul_pos ao aB
 have J:Y=f*A:=by rw [hY,e4]
 have a6:lo / Q<P:=by rw [Nat.div_lt_iff_lt_mul hQ,hP];exact a2
 have a5:=li (k:=P) a1;have e3:F<Y:=om;have e2:hi*P<A*A:=om;have e5:H<A:=by rw [U,Nat.div_lt_iff_lt_mul I,Nat.mul_comm,← J];exact e3
 have f1:H*f≤F:=by rw [U];exact Nat.div_mul_le_self _ _
 have m1:F-H*f=F % f:=by have:=Nat.div_add_mod F f;rw [Nat.mul_comm,← U] at this;omega
 have e6:F-H*f<f:=by rw [m1];exact Nat.mod_lt _ I
 have al:o<A*A:=by rw [aa];exact Nat.mod_lt _ (Nat.mul_pos V V)
 have bb:o / A<A:=by rw [Nat.div_lt_iff_lt_mul V];exact al
 have e7:E<Y:=by
  have:=li (k:=A) e6;omega
 have e8:G<A:=by rw [O,Nat.div_lt_iff_lt_mul I,Nat.mul_comm,← J];exact e7
 have f2:G*f≤E:=by rw [O];exact Nat.div_mul_le_self _ _
 have m2:E-G*f=E % f:=by have:=Nat.div_add_mod E f;rw [Nat.mul_comm,← O] at this;omega
 have e9:E-G*f<f:=by rw [m2];exact Nat.mod_lt _ I
 have a3:lo*P=lo / Q*(A*A)+o:=by
  have h:=Nat.div_add_mod (lo*P) (A*A);have hd:lo*P / (A*A)=lo / Q:=by rw [← hP,Nat.mul_comm lo P,Nat.mul_div_mul_left _ _ W]
  rw [hd,← aa,Nat.mul_comm] at h;exact h.symm
 have hN:(hi*(A*A)+lo)*P=F*(A*A)+o:=by
  rw [Nat.add_mul,a3,Nat.mul_right_comm,aq,Nat.add_mul,Nat.add_assoc]
 have hR:F*(A*A)+o=(H*A+G)*Y+((E-G*f)*A+o % A):=by
  generalize ba:F-H*f=r1 at *;generalize a9:E-G*f=r0 at *;have hu:F=H*f+r1:=om;have a4:G*f+r0=r1*A+o / A:=om;have bc:o=A*(o / A)+o % A:=(Nat.div_add_mod o A).symm;have k:(G*f+r0)*A=(r1*A+o / A)*A:=by rw [a4]
  rw [Nat.add_mul,Nat.add_mul,Nat.mul_comm (o / A) A,Nat.mul_assoc r1 A A] at k;rw [hu,J,Nat.add_mul,Nat.add_mul (H*A),Nat.mul_mul_mul_comm H A f A,← Nat.mul_assoc G f A];omega
 have ah:(E-G*f)*A+o % A<Y:=by
  have:=li (k:=A) e9;have:=Nat.mod_lt o V;omega
 generalize hr:(E-G*f)*A+o % A=R at *;have ac:(hi*(A*A)+lo)*P=(H*A+G)*(y*P)+R:=by rw [hN,hR,dY]
 have a8:R % P=0:=by
  have h3:((hi*(A*A)+lo)*P) % P=0:=Nat.mul_mod_left _ _;rw [ac,← Nat.mul_assoc,Nat.mul_add_mod_self_right] at h3;exact h3
 have a0:R=R / P*P:=by have:=Nat.div_add_mod R P;rw [Nat.mul_comm] at this;omega
 have ab:hi*(A*A)+lo=(H*A+G)*y+R / P:=by
  refine Nat.eq_of_mul_eq_mul_right W ?_;rw [ac,Nat.add_mul _ (R / P),← a0,Nat.mul_assoc]
 have ad:R / P<y:=by rw [Nat.div_lt_iff_lt_mul W,← dY];exact ah
 refine ⟨e1,e2,e3,I,e5,f1,e6,e7,e8,f2,e9,J,?_,?_⟩
 ·rw [ab,Nat.mul_comm _ y,Nat.mul_add_div ao,Nat.div_eq_of_lt ad];rfl
 ·rw [ab,Nat.mul_comm _ y,Nat.mul_add_mod,Nat.mod_eq_of_lt ad]
end
section
open Go.RowKit Go.Sort
theorem DV (d:Nat) (a b x y:Int) (w:World):(Op.equalIn (d+2) 100 (.agg #[a,.int .u64 b]) (.agg #[x,.int .u64 y])).run Tryz.prog w=.ok (a==x&&b==y) w:=by
 have F:=Tryz.underlying2;have o:=Tryz.isAgg2;have H:=Tryz.sizeOf2;have G:=Tryz.underlying98;have E:=Tryz.isAgg98;have I:=Tryz.sizeOf98;rw [run_equalIn_struct w _ _ _ _ (by simp [Program.fieldsOf,Tryz.underlying100]) (by kernel_rfl)];simp only [Program.fieldsOf,Tryz.underlying100];go_simp;by_cases f:a=x <;> by_cases h:b=y <;> simp [f,h]
@[go_sem high] theorem FT (a b x y:Int) (w:World):(binOp .eql 100 (.agg #[a,.int .u64 b]) (.agg #[x,.int .u64 y])).run Tryz.prog w=.ok (.bool (a==x&&b==y)) w:=by
 rw [run_eql_struct,DV 9998];rfl
theorem ob (x y c:Int) (h:0≤x∧0≤y∧0≤c∧c≤1) (w:World) :
  (callFunc 73 #[.int .u64 x,.int .u64 y,.int .u64 c]).run Tryz.prog w=.ok (.value (.tuple #[.int .u64 ((x+y+c) % 18446744073709551616),.int .u64 ((x+y+c) / 18446744073709551616)])) w:=by
 obtain ⟨f,o,E,F⟩:=h;obtain ⟨a,rfl⟩:=Int.eq_ofNat_of_zero_le f;obtain ⟨b,rfl⟩:=Int.eq_ofNat_of_zero_le o;obtain ⟨d,rfl⟩:=Int.eq_ofNat_of_zero_le E;rw [run_callFunc_extern Tryz.func73 (by kernel_rfl) (by kernel_rfl) (by kernel_rfl) (e:=add64Entry) (by kernel_rfl),run_add64 a b d om om om om];simp only [Result.andThen]
theorem lY (a:Int) (w:World) (h:bE a):Calls Tryz.prog 43 #[a] w fun e w'=>e=.returned (dK a)∧Below w w w':=by
 unfold bE at h;go_enter Tryz.func43,Tryz.ntmps43;go_wp2;exact bodyPost_ret (v:=.agg #[.int .i64 (a / 9223372036854775808),.int .u64 (a % 18446744073709551616)]) (by simp [results,Tryz.results43,go_sem,IntKind.wrap_u64]) rfl ⟨DU om rfl,by (repeat' exact bel)⟩
theorem oT (M N:Int) (w:World) (hM:cE M) (hN:cE N) (hS:cE (M+N)):Calls Tryz.prog 42 #[dK M,dK N] w fun e w'=>e=.returned (.tuple #[dK (M+N),.int .i64 0])∧Below w w w':=by
 have ha:=qy hM;have hb:=qy hN;have hs:=qy hS;obtain ⟨V,f⟩:∃ x,M / 18446744073709551616=x:=⟨_,rfl⟩;obtain ⟨F,I⟩:∃ x,M % 18446744073709551616=x:=⟨_,rfl⟩;obtain ⟨W,h⟩:∃ x,N / 18446744073709551616=x:=⟨_,rfl⟩;obtain ⟨G,J⟩:∃ x,N % 18446744073709551616=x:=⟨_,rfl⟩;obtain ⟨U,E⟩:∃ x,(M+N) / 18446744073709551616=x:=⟨_,rfl⟩;obtain ⟨sl,O⟩:∃ x,(M+N) % 18446744073709551616=x:=⟨_,rfl⟩;have k1:0≤F∧F<18446744073709551616∧0≤G∧G<18446744073709551616:=om;obtain ⟨H,Y⟩:∃ x,(F+G+0) / 18446744073709551616=x:=⟨_,rfl⟩;have aa:(F+G+0) % 18446744073709551616=sl:=om;have k2:0≤H∧H≤1:=om;have k3:U=V+W+H:=om;rw [f] at ha;rw [h] at hb;rw [E] at hs;have e1:=fun w=>ob F G 0 om w
 rw [aa,Y] at e1;have e2:=fun w=>ob (IntKind.u64.wrap V) (IntKind.u64.wrap W) H (by simp only [IntKind.wrap_u64];omega) w
 obtain ⟨hu,o⟩:∃ x,(IntKind.u64.wrap V+IntKind.u64.wrap W+H) % 18446744073709551616=x:=⟨_,rfl⟩;rw [o] at e2;have ac:IntKind.i64.wrap hu=U:=by unfold bE at hs;rw [IntKind.wrap_i64];simp only [IntKind.wrap_u64] at o;omega
 have ab:=hide (show ¬ (bits .and .i64 (bits .xor .i64 V U) (bits .xor .i64 W U)<0) by rw [EP ha hb hs];omega);simp only [dK,f,I,h,J,E,O];clear o hM hN hS f I h J E O k3;go_enter Tryz.func42,Tryz.ntmps42;go_wp2;exact bodyPost_ret (v:=.tuple #[.agg #[U,.int .u64 sl],.int .i64 0]) (by simp [results,Tryz.results42,go_sem]) rfl ⟨rfl,by (repeat' exact bel)⟩
theorem BO (N:Int) (w:World) (I:cE N) (h:cE (-N)):Calls Tryz.prog 132 #[dK N] w fun e w'=>e=.returned (.tuple #[dK (-N),.int .i64 0])∧Below w w w':=by
 have J:=qy I;have V:=Da J;have W:=A3 (b:=N % 18446744073709551616) om om;have O:-1-N / 18446744073709551616=(-N-1) / 18446744073709551616:=om;have U:18446744073709551615-N % 18446744073709551616=(-N-1) % 18446744073709551616:=om;rw [O] at V;rw [U] at W;have E:=hide (fun w=>oT (-N-1) 1 w (by unfold cE at *;omega) (by unfold cE;omega) (by unfold cE at *;omega));have H:-N-1+1=-N:=om;rw [H] at E;simp only [dK] at E ⊢;simp only [show (1:Int) / 18446744073709551616=0 by decide,show (1:Int) % 18446744073709551616=1 by decide] at E;clear J O U H I h;go_enter Tryz.func132,Tryz.ntmps132;go_wp2_with fail;refine (E.out _).mono ?_;rintro e o ⟨rfl,f⟩;have r0:o.cell? ⟨w+1,0,none⟩=some (.int .i64 0):=ap f;have r1:o.cell? ⟨w+1,1,none⟩=some (.int .u64 0):=ap f;have Y:o.frozen? ⟨w+1,0,none⟩=false:=an f;have f1:o.frozen? ⟨w+1,1,none⟩=false:=an f;have G:w.heap.size+1<o.heap.size:=am f;have F:Hid (Below w w o):=ww f;clear f;go_wp2;exact bodyPost_ret (v:=.tuple #[.agg #[.int .i64 (-N / 18446744073709551616),.int .u64 (-N % 18446744073709551616)],.int .i64 0]) (by simp (maxDischargeDepth:=9) [results,Tryz.results132,go_sem,r0,r1,Y,f1,G]) rfl ⟨rfl,(F.out.setCell af _).setCell af _⟩
theorem mR (n:Int) (w:World) (h:cE n):Calls Tryz.prog 44 #[dK n] w fun e w'=>e=.returned (.tuple #[kh n,iH n])∧Below w w w':=by
 obtain ⟨m,hm⟩:∃ m,IntKind.i64.wrap (n % 18446744073709551616)=m:=⟨_,rfl⟩;have G:=hm;rw [IntKind.wrap_i64] at G;have H:bE m:=by unfold bE;omega
 have HB:=hide (show (m / 18446744073709551616==n / 18446744073709551616&&m % 18446744073709551616==n % 18446744073709551616)=lL n by
  unfold lL;unfold cE at h;rw [Bool.eq_iff_iff];simp only [Bool.and_eq_true,beq_iff_eq,decide_eq_true_eq];constructor <;> intro hh <;> omega)
 have HM:=hide (show lL n=true→m=n by unfold lL;simp;omega);obtain ⟨nh,J⟩:∃ x,n / 18446744073709551616=x:=⟨_,rfl⟩;obtain ⟨nl,o⟩:∃ x,n % 18446744073709551616=x:=⟨_,rfl⟩;simp only [dK];rw [o] at hm;rw [J,o] at HB ⊢;have HI:=hide H;clear G H J o h;go_enter Tryz.func44,Tryz.ntmps44;go_wp2_with fail;generalize O:w.alloc (.cells #[nh,.int .u64 nl] 100)=W;have c0:W.cell? ⟨w,0,none⟩=some (.int .i64 nh):=by rw [← O];simp
 have c1:W.cell? ⟨w,1,none⟩=some (.int .u64 nl):=by rw [← O];simp
 have HW:=hide (show Below w w W by rw [← O];(repeat' exact bel));clear O;have k0:=cell_regrown c0;have k1:=cell_regrown c1;have V:=fun dd os=>Calls.regrown_of (d:=dd) (os:=os) (w:=W) (lY m (grow (redrawn W dd) os) HI.out)
 simp only [dK] at V;refine wp_region_quiet_below (by kernel_rfl) (by kernel_rfl) ?_
 repeat (go_big_quiet_step (first | exact V _ _ | fail))
 refine wpQuiet_nil ?_;intro _ aa;obtain ⟨⟨Y,osq⟩,ab⟩:=aa;subst ab;have F:=hide (show Below w w (grow (redrawn W Y) osq) from HW.out.trans ((below_regrown W Y osq).mono HW.out.size));clear k0 k1 V;generalize grow (redrawn W Y) osq=wq at *;have E:=HB.out;cases f:lL n
 ·rw [f] at E
  go_wp2
  all_goals first
   | (exfalso;simp_all;done)
   | (go_ret2;exact ⟨aW (by simp [kh,f]) (by simp [iH,f]),F.out⟩)
 ·rw [f] at E
  have I:=HM.out f;have U:=hide I;clear I;go_wp2
  all_goals first
   | (exfalso;simp_all;done)
   | (go_ret2;exact ⟨aW (by simp [kh,f,U.out]) (by simp [iH,f]),F.out⟩)
abbrev sL (n:Int):Array Value:=#[.int .i64 (n / 18446744073709551616),.int .u64 (n % 18446744073709551616)]
def iW (n:Int) (B:Nat) (f w:World):Prop:=ax w B (sL n) 100∧B<w.heap.size∧Below B f w
theorem iW.call {n:Int} {B:Nat} {o w w':World} (h:iW n B o w) (f:Below w w w'):iW n B o w':=⟨h.1.call f,Nat.lt_of_lt_of_le h.2.1 f.size,h.2.2.trans (f.mono (Nat.le_of_lt h.2.1))⟩
theorem iW.drew {n:Int} {B:Nat} {f w:World} (h:iW n B f w):iW n B f w.drew:=⟨h.1,h.2.1,h.2.2.drew⟩
theorem iW.far {n:Int} {B:Nat} {f w:World} (h:iW n B f w) (p:Addr) (u:Value) (o:B<p.block):iW n B f (w.setCell p u):=⟨(Below.heap_setCell w p u B om).trans h.1,by simpa using h.2.1,h.2.2.setCell (Nat.le_of_lt o) _⟩
theorem Bn {f:Array Value} {t:TypeId} {B m:Nat} {w W w':World} (h:ax w B f t) (F:Below m W w') (o:Below w w W:=by exact bel) (E:w.heap.size≤m:=by exact sz):ax w' B f t:=h.call (o.trans (F.mono E))
theorem ec {a b:Value} {t:TypeId} {B:Nat} {w:World} (h:ax w B #[a,b] t):(w.cell? ⟨B,0,none⟩=some a∧w.cell? ⟨B,1,none⟩=some b)∧w.frozen? ⟨B,0,none⟩=false∧w.frozen? ⟨B,1,none⟩=false∧B<w.heap.size:=⟨⟨h.cell 0,h.cell 1⟩,by simp [World.frozen?,show w.heap[B]?=_ from h],by simp [World.frozen?,show w.heap[B]?=_ from h],h.lt⟩
theorem iW.set {n m:Int} {B:Nat} {o w:World} (h:iW n B o w):iW m B o ((w.setCell ⟨B,0,none⟩ (.int .i64 (m / 18446744073709551616))).setCell ⟨B,1,none⟩ (.int .u64 (m % 18446744073709551616))):=by
 obtain ⟨f,E,F⟩:=h;refine ⟨?_,by simpa using E,(F.setCell (Nat.le_refl _) _).setCell (Nat.le_refl _) _⟩;unfold ax at f ⊢;simp [World.setCell,Array.getElem?_modify,f]
theorem iW.cells {n:Int} {B:Nat} {f w:World} (h:iW n B f w):(w.cell? ⟨B,0,none⟩=some (.int .i64 (n / 18446744073709551616))∧w.cell? ⟨B,1,none⟩=some (.int .u64 (n % 18446744073709551616)))∧w.frozen? ⟨B,0,none⟩=false∧w.frozen? ⟨B,1,none⟩=false:=⟨⟨h.1.cell 0,h.1.cell 1⟩,by simp [World.frozen?,show w.heap[B]?=_ from h.1],by simp [World.frozen?,show w.heap[B]?=_ from h.1]⟩
theorem rh (v:Value) (l:List Int) (w:World) (hv:lK w v l) (hl:∀ x∈l,bE x) (hn:l.length≤1000000):Calls Tryz.prog 19 #[v] w fun e w'=>e=.returned (.tuple #[kh l.sum,iH l.sum])∧Below w w w':=by
 obtain ⟨ad,cap,rfl,hc⟩:=hv;have HC:=hide hc;have HL:=hide hl;clear hc hl;go_enter Tryz.func19,Tryz.ntmps19;go_wp2_with fail;have H0:=hide (show iW ([]:List Int).sum w.heap.size w (w.alloc (.cells #[.int .i64 0,.int .u64 0] 100)) from ⟨by simpa [sL] using ax.new w #[.int .i64 0,.int .u64 0] 100,by simp,by (repeat' exact bel)⟩);go_loopw [11] (fun s wr=>∃ j:Nat,s=.int .i64 j∧j≤l.length∧iW (l.take j).sum w.heap.size w wr) (fun s _=>(l.length+5-intOf s).toNat)
 case atStart=>exact ⟨0,rfl,Nat.zero_le _,by simpa using H0.out⟩
 case round =>
  obtain ⟨j,rfl,hj,hS⟩:=hrel;have U:=hide hS;clear hS;have aA:=U.out.2.1;by_cases ao:j<l.length
  ·obtain ⟨x,hx⟩:∃ x,l[j]?=some x:=⟨_,List.getElem?_eq_getElem ao⟩
   obtain ⟨g,o,rfl,hg,a0⟩:=HC.out j x hx;have G:=HL.out x (List.mem_of_getElem? hx);have V:=hide (show (l.take (j+1)).sum=(l.take j).sum+x by rw [List.take_add_one,hx];simp);have W:=tB (l:=l.take j) (fun y hy=>HL.out y (List.mem_of_mem_take hy)) (by rw [List.length_take];omega);have J:=tB (l:=l.take (j+1)) (fun y hy=>HL.out y (List.mem_of_mem_take hy)) (by rw [List.length_take];omega);rw [V.out] at J;have ha:wr.cell? ⟨g,o+j,none⟩=some (.int .i64 x):=by
    rw [U.out.2.2.cell (p:=⟨g,o+j,none⟩) hg];exact a0
   obtain ⟨S,ac⟩:∃ S,(l.take j).sum=S:=⟨_,rfl⟩;rw [ac] at W J V U;have a1:(0:Int)≤(j:Int):=om;have a2:(j:Int)<(l.length:Int):=om;have O:=hide (fun w=>lY x w G);have H:=hide (fun w=>oT S x w W (uD G) J);simp only [dK] at O H;obtain ⟨⟨b0,b1⟩,f0,f1⟩:=U.out.cells;clear hx G W J ac a0;go_wp2_with fail
   go_region_held3 (fun w'=>w'.cell? ⟨w,0,none⟩=some (.int .i64 (S / 18446744073709551616))∧w'.cell? ⟨w,1,none⟩=some (.int .u64 (S % 18446744073709551616))) (exact (U.out.call ar).cells.1)
    (first
    | (go_at_call 43;refine (O.out wr.drew).mono ?_;rintro e f ⟨rfl,E⟩;have k7:=hide trivial;have aq:wr.heap.size≤f.heap.size:=E.size)
    | (go_at_call 43;refine (O.out (wr.alloc (.cells #[.int .i64 0,.int .u64 0] 100)).drew).mono ?_;rintro e f ⟨rfl,E⟩;have k7:=hide (ax.call (show ax (wr.alloc (.cells #[.int .i64 0,.int .u64 0] 100)).drew wr.heap.size #[.int .i64 0,.int .u64 0] 100 from ax.new wr _ _) E);have aq:wr.heap.size≤f.heap.size:=Nat.le_of_lt k7.out.lt)
    | (go_at_call 42;refine (H.out f).mono ?_;rintro e Y ⟨rfl,F⟩;have k8:=Bn k7.out F;obtain ⟨⟨z0,z1⟩,z2,z3,z4⟩:=ec k8;have ah:f.heap.size≤Y.heap.size:=F.size)
    | (go_at_call 42;refine (H.out f).mono ?_;rintro e Y ⟨rfl,F⟩;have ah:f.heap.size≤Y.heap.size:=F.size)
    | (go_at_call 42;refine (H.out (f.alloc (.cells #[.int .i64 0,.int .u64 0] 100))).mono ?_;rintro e Y ⟨rfl,F⟩;have k7:=hide (ax.call (show ax (f.alloc (.cells #[.int .i64 0,.int .u64 0] 100)) f.heap.size #[.int .i64 0,.int .u64 0] 100 from ax.new f _ _) F);obtain ⟨⟨z0,z1⟩,z2,z3,z4⟩:=ec k7.out;have ah:f.heap.size≤Y.heap.size:=Nat.le_of_lt z4))
   all_goals
    have I:=hide (U.out.call (show Below wr wr Y by (repeat' exact bel)));obtain ⟨⟨y0,y1⟩,y2,y3⟩:=I.out.cells;have aB:=I.out.2.1;go_simp;go_wp2;go_roundw
    case rel=>exact ⟨j+1,by go_num,by omega,by rw [V.out];first | exact ((I.out.far _ _ sz).far _ _ sz).set | exact I.out.set.call ((Below.refl _ _).alloc (Nat.le_refl _) _)⟩
    case measure=>simp [intOf];omega
  ·have a3:j=l.length:=om
   have aa:=hide (show iW l.sum w.heap.size w wr by have h:=U.out;rwa [List.take_of_length_le om] at h);have ab:=hide (fun w=>mR l.sum w (tB HL.out om));simp only [dK] at ab;obtain ⟨⟨b0,b1⟩,f0,f1⟩:=aa.out.cells;go_wp2_with fail;refine (ab.out _).mono ?_;rintro e f ⟨rfl,E⟩;have al:Hid (Below w w f):=by have hp:=aa.out.2.2;exact ww E
   clear E;go_wp2;go_ret2;exact ⟨rfl,al.out⟩
end
section
open Go.RowKit
def cd (l:List Int):List Value:=l.map (Value.int .i64)
theorem oL (l m:List Int):cd (l++m)=cd l++cd m:=by simp [cd]
theorem mN:(Tryz.prog.info? 2).map (fun i=>(i.zero,i.size,i.bytes))=some (some (.int .i64 0),1,8):=by kernel_rfl
def lC (w:World) (v:Value) (l:List Int):Prop:=(l=[]∧v=.slice none 0 0)∨∃ g cap,l≠[]∧v=.slice (some ⟨g,0,none⟩) l.length cap∧g<w.heap.size∧∀ (i:Nat) (x:Int),l[i]?=some x→w.cell? ⟨g,i,none⟩=some (.int .i64 x)
theorem lC.call {w w':World} {v:Value} {l:List Int} (h:lC w v l) (o:Below w w w'):lC w' v l:=by
 rcases h with h | ⟨g,cap,E,F,f,G⟩
 ·exact .inl h
 ·exact .inr ⟨g,cap,E,F,Nat.lt_of_lt_of_le f o.size,fun i x H=>(o.cell (p:=⟨g,i,none⟩) f).trans (G i x H)⟩
theorem lC.nums {w:World} {v:Value} {l:List Int} (h:lC w v l):lK w v l:=by
 rcases h with ⟨rfl,rfl⟩ | ⟨g,cap,G,o,E,F⟩
 ·exact ⟨none,0,rfl,fun i x f=>by simp at f⟩
 ·exact ⟨_,_,o,fun i x f=>⟨g,0,rfl,E,by simpa using F i x f⟩⟩
theorem wD {w:World} {f:Nat} {v:Value} {l:List Int} (h:w.ownsRow f 2 1 v l.length (cd l)):lK w v l:=by
 rcases h.2 with ⟨o,F⟩ | ⟨g,cap,G,o,F,H,O,U,V,W⟩
 ·have J:l.length=0:=F
  have I:l=[]:=List.length_eq_zero_iff.1 J;subst I;exact ⟨none,0,o,fun i x E=>by simp at E⟩
 ·refine ⟨_,_,o,fun i x E=>⟨g,0,rfl,(Array.getElem?_eq_some_iff.1 H).1,?_⟩⟩
  subst o;have:=h.cellAt i (by have:=(List.getElem?_eq_some_iff.1 E).1;omega);rw [Nat.zero_add,this];simp [cd,E]
def nS (w w':World):Prop:=w.heap.size≤w'.heap.size∧∀ (B:Nat) (f:Array Value) (t:TypeId),t≠2→w.heap[B]?=some (.cells f t (0,0))→w'.heap[B]?=some (.cells f t (0,0))
theorem nS.refl (w:World):nS w w:=⟨Nat.le_refl _,fun _ _ _ _ h=>h⟩
theorem qe {J:Array Oper} {G:List Oper} {o:Oper} {a:Act} {Q:Exit→Act→World→Prop} {w:World} (H:o.guard=none) (s x:Operand)
  (ho:o.op=.call { callee:=.builtin .append,args:=#[s,x],argTypes:=#[60,60] }) (f:Nat) (v u:Value) (m l:List Int)
  (hs:a.eval s=v) (E:w.ownsRow f 2 1 v m.length (cd m)) (hx:a.eval x=u) (V:lC w u l) (ao:m.length+l.length≤1000000) (F:f≤w.heap.size)
  (h:∀ v' w',w'.ownsRow f 2 1 v' (m++l).length (cd (m++l))→Below f w w'→nS w w'→wpList Tryz.prog J Q G (a.put o.dst v') w'):wpList Tryz.prog J Q (o::G) a w:=by
 obtain ⟨i,hi,aa,ab,ac⟩:=info_parts mN;rcases V with ⟨rfl,rfl⟩ | ⟨g,cap,O,rfl,h3,h4⟩
 ·refine wpList_plain H fun K hK=>?_
  have hr:=run_append_owned_none (P:=Tryz.prog) w f 60 o.type 2 i 1 Tryz.underlying60 hi v m.length (cd m) E;unfold Oper.wp execOp;simp only [ho,resolve,invoke,builtin,Sem.run_bind,Sem.run_pure,Result.andThen_ok,List.map_toArray,List.map_cons,List.map_nil,hs,hx,hr];exact hK _ _ (h v w (by simpa using E) (Below.refl _ _) (nS.refl _))
 ·refine wpList_append_own w H s x 60 ho f 2 i (.int .i64 0) 1 8 Tryz.underlying60 hi aa ab ac rfl aj v m.length (cd m) hs E ⟨g,0,none⟩ l.length cap (cd l) hx (by simp [cd]) ?_ ?_ ?_ ?_ F ?_
  ·intro j u hj
   simp only [cd,List.getElem?_map,Option.map_eq_some_iff] at hj;obtain ⟨y,hy,rfl⟩:=hj;have h5:=h4 j y hy;by_cases I:j=0
   ·subst I;simpa [Addr.add] using h5
   ·simpa [Addr.add,I] using h5
  ·intro u V
   simp only [cd,List.mem_map] at V;obtain ⟨y,_,rfl⟩:=V;rfl
  ·unfold maxLen;omega
  ·omega
  ·intro v' w' ad Y _
   refine h v' w' (by rw [List.length_append,oL];exact ad) ((Below.refl f w).grown Y F fun k hk=>(E.lt k hk).1) ⟨Y.size,fun B cs t ht U=>(Y.block B (Array.getElem?_eq_some_iff.1 U).1 (fun e=>?_)).trans U⟩;rcases E.2 with ⟨O,_⟩ | ⟨g',ah,al,O,_,W,_⟩
   ·rw [O] at e;simp [Value.ownBlock] at e
   ·rw [O] at e
    obtain rfl:B=g':=by simpa [Value.ownBlock] using e
    rw [W] at U;cases U;exact ht rfl
def bo (w:World) (g:Nat) (f:List Int):Prop:=w.heap[g]?=some (.cells (cd f).toArray 2 (0,0))
theorem bo.lt {w:World} {g:Nat} {f:List Int} (h:bo w g f):g<w.heap.size:=(Array.getElem?_eq_some_iff.1 h).1
theorem bo.cell {w:World} {g:Nat} {f:List Int} (h:bo w g f) {k:Nat} {x:Int} (o:f[k]?=some x):w.cell? ⟨g,k,none⟩=some (.int .i64 x):=by
 rw [cell_of_row w g k _ _ _ h];simp [cd,o]
theorem bo.frozen {w:World} {g:Nat} {f:List Int} (h:bo w g f) (k:Nat):w.frozen? ⟨g,k,none⟩=false:=by
 unfold bo at h;simp [World.frozen?,h]
theorem bo.below {w w':World} {K g:Nat} {f:List Int} (h:bo w g f) (o:Below K w w') (E:g<K):bo w' g f:=(o.block g E).trans h
theorem bo.call {w w':World} {g:Nat} {f:List Int} (h:bo w g f) (o:Below w w w'):bo w' g f:=h.below o h.lt
theorem bo.far {w:World} {g:Nat} {f:List Int} (h:bo w g f) {p:Addr} (o:g≠p.block) (u:Value):bo (w.setCell p u) g f:=(Below.heap_setCell w p u g o).trans h
theorem bo.set {w:World} {g:Nat} {f:List Int} (h:bo w g f) (k:Nat) (v:Int):bo (w.setCell ⟨g,k,none⟩ (.int .i64 v)) g (f.set k v):=by
 unfold bo at h ⊢;simp [World.setCell,Array.getElem?_modify,h,cd,List.map_set]
theorem bo.nums {w:World} {g cap:Nat} {f:List Int} (h:bo w g f):lK w (.slice (some ⟨g,0,none⟩) f.length cap) f:=⟨_,_,rfl,fun i x o=>⟨g,0,rfl,h.lt,by rw [Nat.zero_add];exact h.cell o⟩⟩
def dU (n:Nat):Obj:=.cells (List.replicate n (Value.int .i64 0)).toArray 2
theorem bo.new (w:World) (n:Nat):bo (w.alloc (dU n)) w.heap.size (List.replicate n 0):=by
 unfold bo dU;rw [heap_alloc_new];simp [cd]
theorem mx (n:Nat) (I:n≤100000) (w:World):(Instr.makeSlice 60 (.int .i64 (n:Int)) (.int .i64 (n:Int))).run Tryz.prog w=.ok (.slice (some ⟨w,0,none⟩) n n) (w.alloc (dU n)):=by
 obtain ⟨F,hi,f,h,o⟩:=info_parts mN;have E:=run_make (P:=Tryz.prog) w 60 2 F (.int .i64 0) Tryz.underlying60 hi f .i64 .i64 n n om om (by rw [o];omega) om;rw [E,h];have e:madeCells (Value.int .i64 0).cells (((n:Int)).toNat*1)=(List.replicate n (Value.int .i64 0)).toArray:=by
  apply Array.ext
  ·simp [madeCells]
  ·intro i G H
   simp [madeCells,Value.cells,Nat.mod_one]
 rw [e];simp [dU]
end
end Go.Proofs.YtpebkobmhhnojaaGreatDoor
