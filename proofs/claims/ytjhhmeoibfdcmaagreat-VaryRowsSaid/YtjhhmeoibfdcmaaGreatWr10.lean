/- Lemmas. -/
import Derived.BigQuiet
import Derived.Laws.Bits64
import Derived.Laws.Externs
import Derived.Laws.OwnMore
import Derived.Lib.QuietBelow
import Derived.Test.YtjhhmeoibfdcmaaGreatWr01
import Derived.Test.YtjhhmeoibfdcmaaGreatWr06
import Derived.Test.YtjhhmeoibfdcmaaGreatWr09
set_option linter.unusedSimpArgs false
set_option linter.unusedVariables false
set_option maxRecDepth 100000
set_option maxHeartbeats 12800000
namespace Go.Proofs.YtjhhmeoibfdcmaaGreat
section
open Go.RowKit
def aX (x:Int):Prop:=-9223372036854775808≤x∧x≤9223372036854775807
theorem uU (o:BinOp) (f:BitVec 64→BitVec 64→BitVec 64) (a b:Int) (h:bits o .i64 a b=IntKind.i64.wrap ((f (BitVec.ofInt 64 a) (BitVec.ofInt 64 b)).toNat:Int)):bits o .i64 a b=(f (BitVec.ofInt 64 a) (BitVec.ofInt 64 b)).toInt:=by
 rw [h,IntKind.wrap_i64,BitVec.toInt_eq_toNat_cond];have:=(f (BitVec.ofInt 64 a) (BitVec.ofInt 64 b)).isLt
 split <;> omega
theorem sQ (a b:Int):bits .xor .i64 a b=(BitVec.ofInt 64 a ^^^ BitVec.ofInt 64 b).toInt:=uU _ (· ^^^ ·) _ _ rfl
theorem Ic (a b:Int):bits .and .i64 a b=(BitVec.ofInt 64 a &&& BitVec.ofInt 64 b).toInt:=uU _ (· &&& ·) _ _ rfl
theorem tB {a:Int} (h:aX a):(BitVec.ofInt 64 a).msb=decide (a<0):=by
 rw [BitVec.msb_eq_toInt,BitVec.toInt_ofInt_eq_self ag (by simpa using h.1) (by have:=h.2;simp;omega)]
theorem Ib (A:BitVec 64):aX A.toInt:=by
 have f:=BitVec.le_two_mul_toInt (x:=A);have h:=BitVec.two_mul_toInt_lt (x:=A);unfold aX;omega
theorem oS {a b:Int} (F:aX a) (G:aX b):(bits .xor .i64 a b<0)↔¬ (a<0↔b<0):=by
 have h:(BitVec.ofInt 64 a ^^^ BitVec.ofInt 64 b).msb=(decide (a<0) ^^ decide (b<0)):=by rw [BitVec.msb_xor,tB F,tB G]
 rw [BitVec.msb_eq_toInt] at h;rw [sQ];have f:((BitVec.ofInt 64 a ^^^ BitVec.ofInt 64 b).toInt<0)↔(decide (a<0) ^^ decide (b<0))=true:=by rw [← h];simp
 rw [f];by_cases o:a<0 <;> by_cases E:b<0 <;> simp [o,E]
theorem t7 (a b:Int):aX (bits .xor .i64 a b):=by rw [sQ];exact Ib _
theorem z8 {a b:Int} (F:aX a) (G:aX b):(bits .and .i64 a b<0)↔(a<0∧b<0):=by
 have h:(BitVec.ofInt 64 a &&& BitVec.ofInt 64 b).msb=(decide (a<0)&&decide (b<0)):=by rw [BitVec.msb_and,tB F,tB G]
 rw [BitVec.msb_eq_toInt] at h;rw [Ic];have f:((BitVec.ofInt 64 a &&& BitVec.ofInt 64 b).toInt<0)↔(decide (a<0)&&decide (b<0))=true:=by rw [← h];simp
 rw [f];by_cases o:a<0 <;> by_cases E:b<0 <;> simp [o,E]
theorem IK {a b n:Int} (F:aX a) (G:aX b) (f:aX n):(bits .and .i64 (bits .xor .i64 a n) (bits .xor .i64 b n)<0)↔((a<0↔b<0)∧¬ (a<0↔n<0)):=by
 rw [z8 (t7 _ _) (t7 _ _),oS F f,oS G f];by_cases h:a<0 <;> by_cases o:b<0 <;> by_cases E:n<0 <;> simp [h,o,E]
theorem Ih {a b n:Int} (f:aX a) (h:aX b) (o:aX n):(bits .and .i64 (bits .xor .i64 a b) (bits .xor .i64 a n)<0)↔(¬ (a<0↔b<0)∧¬ (a<0↔n<0)):=by
 rw [z8 (t7 _ _) (t7 _ _),oS f o,oS f h]
theorem Gy {b:Int} (f:0≤b) (o:b<18446744073709551616):bits .xor .u64 IntKind.u64.max b=18446744073709551615-b:=by
 have h:bits .xor .u64 IntKind.u64.max b=IntKind.u64.wrap ((BitVec.ofInt 64 IntKind.u64.max ^^^ BitVec.ofInt 64 b).toNat:Int):=rfl;rw [h,show BitVec.ofInt 64 IntKind.u64.max=BitVec.allOnes 64 by decide,BitVec.allOnes_xor,BitVec.toNat_not,BitVec.toNat_ofInt,IntKind.wrap_u64];omega
theorem GU {a:Int} (h:aX a):bits .xor .i64 (-1) a=-1-a:=by
 obtain ⟨f,o⟩:=h;rw [sQ,show BitVec.ofInt 64 (-1)=BitVec.allOnes 64 by decide,BitVec.allOnes_xor,BitVec.toInt_not,BitVec.toNat_ofInt];simp only [Int.bmod_def];omega
abbrev cv (n:Int):Value:=.agg #[.int .i64 (n / 18446744073709551616),.int .u64 (n % 18446744073709551616)]
def bL (n:Int):Prop:=-170141183460469231731687303715884105728≤n∧n<170141183460469231731687303715884105728
def oD (n:Int):Bool:=decide (-9223372036854775808≤n)&&decide (n≤9223372036854775807)
def jN (n:Int):Int:=if oD n then n else 0
def jn (n:Int):Int:=if oD n then 0 else 2
theorem cB {n:Int} (h:aX n):jN n=n∧jn n=0:=by
 have:oD n=true:=by simp [oD];exact h
 simp [jN,jn,this]
theorem jj {n:Int} (h:¬ aX n):jN n=0∧jn n=2:=by
 have:oD n=false:=by
  cases f:oD n
  ·rfl
  ·exact absurd (show -9223372036854775808≤n∧n≤9223372036854775807 by simpa [oD] using f) h
 simp [jN,jn,this]
theorem EP (n:Int):aX (jN n):=by
 by_cases h:aX n
 ·rw [(cB h).1];exact h
 ·rw [(jj h).1];exact ⟨by decide,by decide⟩
theorem mP {n:Int} (h:aX n):bL n:=by unfold bL;unfold aX at h;omega
theorem rH {n:Int} (h:bL n):aX (n / 18446744073709551616):=by unfold bL at h;unfold aX;omega
theorem Jb {a b n:Int} (f:a=n / 18446744073709551616) (h:b=n % 18446744073709551616):Ending.returned (.agg #[a,.int .u64 b])=.returned (cv n):=by rw [f,h]
def iJ (w:World) (v:Value) (l:List Int):Prop:=∃ f cap,v=.slice f l.length cap∧∀ (i:Nat) (x:Int),l[i]?=some x→∃ g o,f=some ⟨g,o,none⟩∧g<w.heap.size∧w.cell? ⟨g,o+i,none⟩=some (.int .i64 x)
theorem iJ.call {w F:World} {v:Value} {l:List Int} (h:iJ w v l) (f:Below w w F):iJ F v l:=by
 obtain ⟨G,cap,H,I⟩:=h;refine ⟨G,cap,H,fun i x O=>?_⟩;obtain ⟨g,o,e,E,J⟩:=I i x O;exact ⟨g,o,e,Nat.lt_of_lt_of_le E f.size,(f.cell (p:=⟨g,o+i,none⟩) E).trans J⟩
theorem FR {l:List Int} (h:∀ x∈l,aX x):-(9223372036854775808*(l.length:Int))≤l.sum∧l.sum≤9223372036854775808*(l.length:Int):=by
 induction l with
 | nil=>simp
 | cons x l E =>
  have F:=E fun y o=>h y (List.mem_cons_of_mem _ o)
  have f:=h x ac;unfold aX at f;simp only [List.sum_cons,List.length_cons,Int.natCast_add,Int.mul_add];omega
theorem kh {l:List Int} (h:∀ x∈l,aX x) (f:l.length≤1000000000):bL l.sum:=by
 have:=FR h;unfold bL;omega
theorem nw {a b k:Nat} (h:a<b):a*k+k≤b*k:=by
 have:=Nat.mul_le_mul_right k (Nat.succ_le_of_lt h)
 rwa [Nat.succ_mul] at this
theorem An {A hi lo y P Q K Y F o f H E G:Nat} (T:0<A) (a0:hi<y) (a1:lo<A*A) (hP:P*Q=A*A) (hQ:0<Q) (h2:y*P<A*A) (hK:P=A*K)
  (dY:Y=y*P) (ay:F=hi*P+lo / Q) (V:o=lo*P % (A*A)) (aA:f=Y / A) (S:H=F / f) (a6:E=(F-H*f)*A+o / A) (O:G=E / f) :
  Y % A=0∧hi*P<A*A∧F<Y∧0<f∧H<A∧H*f≤F∧F-H*f<f∧E<Y∧G<A∧G*f≤E∧E-G*f<f∧Y=f*A ∧
  H*A+G=(hi*(A*A)+lo) / y∧((E-G*f)*A+o % A) / P=(hi*(A*A)+lo) % y:=by
 have U:0<P:=by
  rcases Nat.eq_zero_or_pos P with h | h
  ·rw [h,Nat.zero_mul] at hP
   have:=Nat.mul_pos T T;omega
  ·exact h
 have aq:0<y:=om;have aB:0<K:=by
  rcases Nat.eq_zero_or_pos K with h | h
  ·rw [h] at hK;omega
  ·exact h
 have hY:Y=y*K*A:=by rw [dY,hK,Nat.mul_comm A K,Nat.mul_assoc]
 have e1:Y % A=0:=by rw [hY];exact Nat.mul_mod_left _ _
 have e4:f=y*K:=by rw [aA,hY,Nat.mul_div_cancel _ T]
 have I:0<f:=by rw [e4];exact Nat.mul_pos aq aB
 have J:Y=f*A:=by rw [hY,e4]
 have a5:lo / Q<P:=by rw [Nat.div_lt_iff_lt_mul hQ,hP];exact a1
 have a4:=nw (k:=P) a0;have e3:F<Y:=om;have e2:hi*P<A*A:=om;have e5:H<A:=by rw [S,Nat.div_lt_iff_lt_mul I,Nat.mul_comm,← J];exact e3
 have f1:H*f≤F:=by rw [S];exact Nat.div_mul_le_self _ _
 have m1:F-H*f=F % f:=by have:=Nat.div_add_mod F f;rw [Nat.mul_comm,← S] at this;omega
 have e6:F-H*f<f:=by rw [m1];exact Nat.mod_lt _ I
 have al:o<A*A:=by rw [V];exact Nat.mod_lt _ (Nat.mul_pos T T)
 have bb:o / A<A:=by rw [Nat.div_lt_iff_lt_mul T];exact al
 have e7:E<Y:=by
  have:=nw (k:=A) e6;omega
 have e8:G<A:=by rw [O,Nat.div_lt_iff_lt_mul I,Nat.mul_comm,← J];exact e7
 have f2:G*f≤E:=by rw [O];exact Nat.div_mul_le_self _ _
 have m2:E-G*f=E % f:=by have:=Nat.div_add_mod E f;rw [Nat.mul_comm,← O] at this;omega
 have e9:E-G*f<f:=by rw [m2];exact Nat.mod_lt _ I
 have a2:lo*P=lo / Q*(A*A)+o:=by
  have h:=Nat.div_add_mod (lo*P) (A*A);have hd:lo*P / (A*A)=lo / Q:=by rw [← hP,Nat.mul_comm lo P,Nat.mul_div_mul_left _ _ U]
  rw [hd,← V,Nat.mul_comm] at h;exact h.symm
 have hN:(hi*(A*A)+lo)*P=F*(A*A)+o:=by
  rw [Nat.add_mul,a2,Nat.mul_right_comm,ay,Nat.add_mul,Nat.add_assoc]
 have hR:F*(A*A)+o=(H*A+G)*Y+((E-G*f)*A+o % A):=by
  generalize ba:F-H*f=r1 at *;generalize a8:E-G*f=r0 at *;have hu:F=H*f+r1:=om;have a3:G*f+r0=r1*A+o / A:=om;have bc:o=A*(o / A)+o % A:=(Nat.div_add_mod o A).symm;have k:(G*f+r0)*A=(r1*A+o / A)*A:=by rw [a3]
  rw [Nat.add_mul,Nat.add_mul,Nat.mul_comm (o / A) A,Nat.mul_assoc r1 A A] at k;rw [hu,J,Nat.add_mul,Nat.add_mul (H*A),Nat.mul_mul_mul_comm H A f A,← Nat.mul_assoc G f A];omega
 have ah:(E-G*f)*A+o % A<Y:=by
  have:=nw (k:=A) e9;have:=Nat.mod_lt o T;omega
 generalize hr:(E-G*f)*A+o % A=R at *;have ab:(hi*(A*A)+lo)*P=(H*A+G)*(y*P)+R:=by rw [hN,hR,dY]
 have a7:R % P=0:=by
  have h3:((hi*(A*A)+lo)*P) % P=0:=Nat.mul_mod_left _ _;rw [ab,← Nat.mul_assoc,Nat.mul_add_mod_self_right] at h3;exact h3
 have aF:R=R / P*P:=by have:=Nat.div_add_mod R P;rw [Nat.mul_comm] at this;omega
 have W:hi*(A*A)+lo=(H*A+G)*y+R / P:=by
  refine Nat.eq_of_mul_eq_mul_right U ?_;rw [ab,Nat.add_mul _ (R / P),← aF,Nat.mul_assoc]
 have ad:R / P<y:=by rw [Nat.div_lt_iff_lt_mul U,← dY];exact ah
 refine ⟨e1,e2,e3,I,e5,f1,e6,e7,e8,f2,e9,J,?_,?_⟩
 ·rw [W,Nat.mul_comm _ y,Nat.mul_add_div aq,Nat.div_eq_of_lt ad];rfl
 ·rw [W,Nat.mul_comm _ y,Nat.mul_add_mod,Nat.mod_eq_of_lt ad]
end
section
open Go.RowKit Go.Sort
theorem II (d:Nat) (a b x y:Int) (w:World):(Op.equalIn (d+2) 103 (.agg #[a,.int .u64 b]) (.agg #[x,.int .u64 y])).run Tryz.prog w=.ok (a==x&&b==y) w:=by
 have F:=Tryz.underlying2;have o:=Tryz.isAgg2;have H:=Tryz.sizeOf2;have G:=Tryz.underlying101;have E:=Tryz.isAgg101;have I:=Tryz.sizeOf101;rw [run_equalIn_struct w _ _ _ _ (by simp [Program.fieldsOf,Tryz.underlying103]) (by kernel_rfl)];simp only [Program.fieldsOf,Tryz.underlying103];go_simp;by_cases f:a=x <;> by_cases h:b=y <;> simp [f,h]
@[go_sem high] theorem Ka (a b x y:Int) (w:World):(binOp .eql 103 (.agg #[a,.int .u64 b]) (.agg #[x,.int .u64 y])).run Tryz.prog w=.ok (.bool (a==x&&b==y)) w:=by
 rw [run_eql_struct,II 9998];rfl
theorem rz (x y c:Int) (h:0≤x∧0≤y∧0≤c∧c≤1) (w:World) :
  (callFunc 94 #[.int .u64 x,.int .u64 y,.int .u64 c]).run Tryz.prog w=.ok (.value (.tuple #[.int .u64 ((x+y+c) % 18446744073709551616),.int .u64 ((x+y+c) / 18446744073709551616)])) w:=by
 obtain ⟨f,o,E,F⟩:=h;obtain ⟨a,rfl⟩:=Int.eq_ofNat_of_zero_le f;obtain ⟨b,rfl⟩:=Int.eq_ofNat_of_zero_le o;obtain ⟨d,rfl⟩:=Int.eq_ofNat_of_zero_le E;rw [run_callFunc_extern Tryz.func94 (by kernel_rfl) (by kernel_rfl) (by kernel_rfl) (e:=add64Entry) (by kernel_rfl),run_add64 a b d om om om om];simp only [Result.andThen]
theorem oN (a:Int) (w:World) (h:aX a):Calls Tryz.prog 57 #[a] w fun e f=>e=.returned (cv a)∧Below w w f:=by
 unfold aX at h;go_enter Tryz.func57,Tryz.ntmps57;go_wp2;exact bodyPost_ret (v:=.agg #[.int .i64 (a / 9223372036854775808),.int .u64 (a % 18446744073709551616)]) (by simp [results,Tryz.results57,go_sem,IntKind.wrap_u64]) rfl ⟨Jb om rfl,by (repeat' exact bel)⟩
theorem sX (M N:Int) (w:World) (hM:bL M) (hN:bL N) (hS:bL (M+N)):Calls Tryz.prog 56 #[cv M,cv N] w fun e w'=>e=.returned (.tuple #[cv (M+N),.int .i64 0])∧Below w w w':=by
 have ha:=rH hM;have hb:=rH hN;have W:=rH hS;obtain ⟨S,f⟩:∃ x,M / 18446744073709551616=x:=⟨_,rfl⟩;obtain ⟨F,I⟩:∃ x,M % 18446744073709551616=x:=⟨_,rfl⟩;obtain ⟨T,h⟩:∃ x,N / 18446744073709551616=x:=⟨_,rfl⟩;obtain ⟨G,J⟩:∃ x,N % 18446744073709551616=x:=⟨_,rfl⟩;obtain ⟨R,E⟩:∃ x,(M+N) / 18446744073709551616=x:=⟨_,rfl⟩;obtain ⟨sl,O⟩:∃ x,(M+N) % 18446744073709551616=x:=⟨_,rfl⟩;have k1:0≤F∧F<18446744073709551616∧0≤G∧G<18446744073709551616:=om;obtain ⟨H,U⟩:∃ x,(F+G+0) / 18446744073709551616=x:=⟨_,rfl⟩;have V:(F+G+0) % 18446744073709551616=sl:=om;have k2:0≤H∧H≤1:=om;have k3:R=S+T+H:=om;rw [f] at ha;rw [h] at hb;rw [E] at W;have e1:=fun w=>rz F G 0 om w
 rw [V,U] at e1;have e2:=fun w=>rz (IntKind.u64.wrap S) (IntKind.u64.wrap T) H (by simp only [IntKind.wrap_u64];omega) w
 obtain ⟨hu,o⟩:∃ x,(IntKind.u64.wrap S+IntKind.u64.wrap T+H) % 18446744073709551616=x:=⟨_,rfl⟩;rw [o] at e2;have ad:IntKind.i64.wrap hu=R:=by unfold aX at W;rw [IntKind.wrap_i64];simp only [IntKind.wrap_u64] at o;omega
 have ab:=hide (show ¬ (bits .and .i64 (bits .xor .i64 S R) (bits .xor .i64 T R)<0) by rw [IK ha hb W];omega);simp only [cv,f,I,h,J,E,O];clear o hM hN hS f I h J E O k3;go_enter Tryz.func56,Tryz.ntmps56;go_wp2;exact bodyPost_ret (v:=.tuple #[.agg #[R,.int .u64 sl],.int .i64 0]) (by simp [results,Tryz.results56,go_sem]) rfl ⟨rfl,by (repeat' exact bel)⟩
theorem GZ (N:Int) (w:World) (I:bL N) (h:bL (-N)):Calls Tryz.prog 105 #[cv N] w fun e w'=>e=.returned (.tuple #[cv (-N),.int .i64 0])∧Below w w w':=by
 have J:=rH I;have S:=GU J;have T:=Gy (b:=N % 18446744073709551616) om om;have O:-1-N / 18446744073709551616=(-N-1) / 18446744073709551616:=om;have R:18446744073709551615-N % 18446744073709551616=(-N-1) % 18446744073709551616:=om;rw [O] at S;rw [R] at T;have E:=hide (fun w=>sX (-N-1) 1 w (by unfold bL at *;omega) (by unfold bL;omega) (by unfold bL at *;omega));have H:-N-1+1=-N:=om;rw [H] at E;simp only [cv] at E ⊢;simp only [show (1:Int) / 18446744073709551616=0 by decide,show (1:Int) % 18446744073709551616=1 by decide] at E;clear J O R H I h;go_enter Tryz.func105,Tryz.ntmps105;go_wp2_with fail;refine (E.out _).mono ?_;rintro e o ⟨rfl,f⟩;have W:o.cell? ⟨w+1,0,none⟩=some (.int .i64 0):=am f;have r1:o.cell? ⟨w+1,1,none⟩=some (.int .u64 0):=am f;have U:o.frozen? ⟨w+1,0,none⟩=false:=ak f;have V:o.frozen? ⟨w+1,1,none⟩=false:=ak f;have G:w.heap.size+1<o.heap.size:=aj f;have F:Hid (Below w w o):=ww f;clear f;go_wp2;exact bodyPost_ret (v:=.tuple #[.agg #[.int .i64 (-N / 18446744073709551616),.int .u64 (-N % 18446744073709551616)],.int .i64 0]) (by simp (maxDischargeDepth:=9) [results,Tryz.results105,go_sem,W,r1,U,V,G]) rfl ⟨rfl,(F.out.setCell ac _).setCell ac _⟩
theorem qG (n:Int) (w:World) (h:bL n):Calls Tryz.prog 58 #[cv n] w fun e w'=>e=.returned (.tuple #[jN n,jn n])∧Below w w w':=by
 obtain ⟨m,hm⟩:∃ m,IntKind.i64.wrap (n % 18446744073709551616)=m:=⟨_,rfl⟩;have G:=hm;rw [IntKind.wrap_i64] at G;have H:aX m:=by unfold aX;omega
 have HB:=hide (show (m / 18446744073709551616==n / 18446744073709551616&&m % 18446744073709551616==n % 18446744073709551616)=oD n by
  unfold oD;unfold bL at h;rw [Bool.eq_iff_iff];simp only [Bool.and_eq_true,beq_iff_eq,decide_eq_true_eq];constructor <;> intro hh <;> omega)
 have HM:=hide (show oD n=true→m=n by unfold oD;simp;omega);obtain ⟨nh,J⟩:∃ x,n / 18446744073709551616=x:=⟨_,rfl⟩;obtain ⟨nl,o⟩:∃ x,n % 18446744073709551616=x:=⟨_,rfl⟩;simp only [cv];rw [o] at hm;rw [J,o] at HB ⊢;have HI:=hide H;clear G H J o h;go_enter Tryz.func58,Tryz.ntmps58;go_wp2_with fail;generalize O:w.alloc (.cells #[nh,.int .u64 nl] 103)=W;have c0:W.cell? ⟨w,0,none⟩=some (.int .i64 nh):=by rw [← O];simp
 have c1:W.cell? ⟨w,1,none⟩=some (.int .u64 nl):=by rw [← O];simp
 have HW:=hide (show Below w w W by rw [← O];(repeat' exact bel));clear O;have k0:=cell_regrown c0;have k1:=cell_regrown c1;have S:=fun dd os=>Calls.regrown_of (d:=dd) (os:=os) (w:=W) (oN m (grow (redrawn W dd) os) HI.out)
 simp only [cv] at S;refine wp_region_quiet_below (by kernel_rfl) (by kernel_rfl) ?_
 repeat (go_big_quiet_step (first | exact S _ _ | fail))
 refine wpQuiet_nil ?_;intro _ U;obtain ⟨⟨T,osq⟩,V⟩:=U;subst V;have F:=hide (show Below w w (grow (redrawn W T) osq) from HW.out.trans ((below_regrown W T osq).mono HW.out.size));clear k0 k1 S;generalize grow (redrawn W T) osq=wq at *;have E:=HB.out;cases f:oD n
 ·rw [f] at E
  go_wp2
  all_goals first
   | (exfalso;simp_all;done)
   | (go_ret2;exact ⟨aw (by simp [jN,f]) (by simp [jn,f]),F.out⟩)
 ·rw [f] at E
  have I:=HM.out f;have R:=hide I;clear I;go_wp2
  all_goals first
   | (exfalso;simp_all;done)
   | (go_ret2;exact ⟨aw (by simp [jN,f,R.out]) (by simp [jn,f]),F.out⟩)
abbrev qO (n:Int):Array Value:=#[.int .i64 (n / 18446744073709551616),.int .u64 (n % 18446744073709551616)]
def gP (n:Int) (B:Nat) (f w:World):Prop:=ap w B (qO n) 103∧B<w.heap.size∧Below B f w
theorem gP.call {n:Int} {B:Nat} {E w o:World} (h:gP n B E w) (f:Below w w o):gP n B E o:=⟨h.1.call f,Nat.lt_of_lt_of_le h.2.1 f.size,h.2.2.trans (f.mono (Nat.le_of_lt h.2.1))⟩
theorem gP.drew {n:Int} {B:Nat} {f w:World} (h:gP n B f w):gP n B f w.drew:=⟨h.1,h.2.1,h.2.2.drew⟩
theorem gP.via {n:Int} {B m:Nat} {o w W f:World} (h:gP n B o w) (G:Below m W f) (E:Below w w W:=by exact bel) (F:w.heap.size≤m:=by exact sz):gP n B o f:=h.call (E.trans (G.mono F))
theorem gP.far {n:Int} {B:Nat} {f w:World} (h:gP n B f w) (p:Addr) (u:Value) (o:B<p.block):gP n B f (w.setCell p u):=⟨(Below.heap_setCell w p u B om).trans h.1,by simpa using h.2.1,h.2.2.setCell (Nat.le_of_lt o) _⟩
theorem GR {f:Array Value} {t:TypeId} {B m:Nat} {w W o:World} (h:ap w B f t) (G:Below m W o) (E:Below w w W:=by exact bel) (F:w.heap.size≤m:=by exact sz):ap o B f t:=h.call (E.trans (G.mono F))
theorem cO {a b:Value} {t:TypeId} {B:Nat} {w:World} (h:ap w B #[a,b] t):(w.cell? ⟨B,0,none⟩=some a∧w.cell? ⟨B,1,none⟩=some b)∧w.frozen? ⟨B,0,none⟩=false∧w.frozen? ⟨B,1,none⟩=false∧B<w.heap.size:=⟨⟨h.cell 0,h.cell 1⟩,by simp [World.frozen?,show w.heap[B]?=_ from h],by simp [World.frozen?,show w.heap[B]?=_ from h],h.lt⟩
theorem gP.set {n m:Int} {B:Nat} {o w:World} (h:gP n B o w):gP m B o ((w.setCell ⟨B,0,none⟩ (.int .i64 (m / 18446744073709551616))).setCell ⟨B,1,none⟩ (.int .u64 (m % 18446744073709551616))):=by
 obtain ⟨f,E,F⟩:=h;refine ⟨?_,by simpa using E,(F.setCell (Nat.le_refl _) _).setCell (Nat.le_refl _) _⟩;unfold ap at f ⊢;simp [World.setCell,Array.getElem?_modify,f]
theorem gP.cells {n:Int} {B:Nat} {f w:World} (h:gP n B f w):(w.cell? ⟨B,0,none⟩=some (.int .i64 (n / 18446744073709551616))∧w.cell? ⟨B,1,none⟩=some (.int .u64 (n % 18446744073709551616)))∧w.frozen? ⟨B,0,none⟩=false∧w.frozen? ⟨B,1,none⟩=false:=⟨⟨h.1.cell 0,h.1.cell 1⟩,by simp [World.frozen?,show w.heap[B]?=_ from h.1],by simp [World.frozen?,show w.heap[B]?=_ from h.1]⟩
theorem pN (v:Value) (l:List Int) (w:World) (hv:iJ w v l) (hl:∀ x∈l,aX x) (hn:l.length≤1000000):Calls Tryz.prog 14 #[v] w fun e w'=>e=.returned (.tuple #[jN l.sum,jn l.sum])∧Below w w w':=by
 obtain ⟨ad,cap,rfl,hc⟩:=hv;have HC:=hide hc;have HL:=hide hl;clear hc hl;go_enter Tryz.func14,Tryz.ntmps14;go_wp2_with fail;have H0:=hide (show gP ([]:List Int).sum w.heap.size w (w.alloc (.cells #[.int .i64 0,.int .u64 0] 103)) from ⟨by simpa [qO] using ap.new w #[.int .i64 0,.int .u64 0] 103,by simp,by (repeat' exact bel)⟩);go_loopw [11] (fun s wr=>∃ j:Nat,s=.int .i64 j∧j≤l.length∧gP (l.take j).sum w.heap.size w wr) (fun s _=>(l.length+5-intOf s).toNat)
 case atStart=>exact ⟨0,rfl,Nat.zero_le _,by simpa using H0.out⟩
 case round =>
  obtain ⟨j,rfl,hj,hS⟩:=hrel;have R:=hide hS;clear hS;have aB:=R.out.2.1;by_cases ay:j<l.length
  ·obtain ⟨x,hx⟩:∃ x,l[j]?=some x:=⟨_,List.getElem?_eq_getElem ay⟩
   obtain ⟨g,o,rfl,hg,a0⟩:=HC.out j x hx;have G:=HL.out x (List.mem_of_getElem? hx);have T:=hide (show (l.take (j+1)).sum=(l.take j).sum+x by rw [List.take_add_one,hx];simp);have U:=kh (l:=l.take j) (fun y hy=>HL.out y (List.mem_of_mem_take hy)) (by rw [List.length_take];omega);have J:=kh (l:=l.take (j+1)) (fun y hy=>HL.out y (List.mem_of_mem_take hy)) (by rw [List.length_take];omega);rw [T.out] at J;have ha:wr.cell? ⟨g,o+j,none⟩=some (.int .i64 x):=by
    rw [R.out.2.2.cell (p:=⟨g,o+j,none⟩) hg];exact a0
   obtain ⟨S,ah⟩:∃ S,(l.take j).sum=S:=⟨_,rfl⟩;rw [ah] at U J T R;have a1:(0:Int)≤(j:Int):=om;have a2:(j:Int)<(l.length:Int):=om;have O:=hide (fun w=>oN x w G);have H:=hide (fun w=>sX S x w U (mP G) J);simp only [cv] at O H;obtain ⟨⟨b0,b1⟩,f0,f1⟩:=R.out.cells;clear hx G U J ah a0;go_wp2_with fail
   go_region_held3 (fun w'=>w'.cell? ⟨w,0,none⟩=some (.int .i64 (S / 18446744073709551616))∧w'.cell? ⟨w,1,none⟩=some (.int .u64 (S % 18446744073709551616))) (exact (R.out.call an).cells.1)
    (first
    | (go_at_call 57;refine (O.out wr.drew).mono ?_;rintro e f ⟨rfl,E⟩;have k7:=hide trivial;have aA:wr.heap.size≤f.heap.size:=E.size)
    | (go_at_call 57;refine (O.out (wr.alloc (.cells #[.int .i64 0,.int .u64 0] 103)).drew).mono ?_;rintro e f ⟨rfl,E⟩;have k7:=hide (ap.call (show ap (wr.alloc (.cells #[.int .i64 0,.int .u64 0] 103)).drew wr.heap.size #[.int .i64 0,.int .u64 0] 103 from ap.new wr _ _) E);have aA:wr.heap.size≤f.heap.size:=Nat.le_of_lt k7.out.lt)
    | (go_at_call 56;refine (H.out f).mono ?_;rintro e V ⟨rfl,F⟩;have k8:=GR k7.out F;obtain ⟨⟨z0,z1⟩,z2,z3,z4⟩:=cO k8;have al:f.heap.size≤V.heap.size:=F.size)
    | (go_at_call 56;refine (H.out f).mono ?_;rintro e V ⟨rfl,F⟩;have al:f.heap.size≤V.heap.size:=F.size)
    | (go_at_call 56;refine (H.out (f.alloc (.cells #[.int .i64 0,.int .u64 0] 103))).mono ?_;rintro e V ⟨rfl,F⟩;have k7:=hide (ap.call (show ap (f.alloc (.cells #[.int .i64 0,.int .u64 0] 103)) f.heap.size #[.int .i64 0,.int .u64 0] 103 from ap.new f _ _) F);obtain ⟨⟨z0,z1⟩,z2,z3,z4⟩:=cO k7.out;have al:f.heap.size≤V.heap.size:=Nat.le_of_lt z4))
   all_goals
    have I:=hide (R.out.call (show Below wr wr V by (repeat' exact bel)));obtain ⟨⟨y0,y1⟩,y2,y3⟩:=I.out.cells;have aF:=I.out.2.1;go_simp;go_wp2;go_roundw
    case rel=>exact ⟨j+1,by go_num,by omega,by rw [T.out];first | exact ((I.out.far _ _ sz).far _ _ sz).set | exact I.out.set.call ((Below.refl _ _).alloc (Nat.le_refl _) _)⟩
    case measure=>simp [intOf];omega
  ·have a3:j=l.length:=om
   have W:=hide (show gP l.sum w.heap.size w wr by have h:=R.out;rwa [List.take_of_length_le om] at h);have ab:=hide (fun w=>qG l.sum w (kh HL.out om));simp only [cv] at ab;obtain ⟨⟨b0,b1⟩,f0,f1⟩:=W.out.cells;go_wp2_with fail;refine (ab.out _).mono ?_;rintro e f ⟨rfl,E⟩;have aq:Hid (Below w w f):=by have hp:=W.out.2.2;exact ww E
   clear E;go_wp2;go_ret2;exact ⟨rfl,aq.out⟩
end
section
open Go.RowKit
def cu (l:List Int):List Value:=l.map (Value.int .i64)
theorem sF (l m:List Int):cu (l++m)=cu l++cu m:=by simp [cu]
theorem qu:(Tryz.prog.info? 2).map (fun i=>(i.zero,i.size,i.bytes))=some (some (.int .i64 0),1,8):=by kernel_rfl
def oe (w:World) (v:Value) (l:List Int):Prop:=(l=[]∧v=.slice none 0 0)∨∃ g cap,l≠[]∧v=.slice (some ⟨g,0,none⟩) l.length cap∧g<w.heap.size∧∀ (i:Nat) (x:Int),l[i]?=some x→w.cell? ⟨g,i,none⟩=some (.int .i64 x)
theorem oe.call {w E:World} {v:Value} {l:List Int} (h:oe w v l) (o:Below w w E):oe E v l:=by
 rcases h with h | ⟨g,cap,F,G,f,H⟩
 ·exact .inl h
 ·exact .inr ⟨g,cap,F,G,Nat.lt_of_lt_of_le f o.size,fun i x I=>(o.cell (p:=⟨g,i,none⟩) f).trans (H i x I)⟩
theorem oe.nums {w:World} {v:Value} {l:List Int} (h:oe w v l):iJ w v l:=by
 rcases h with ⟨rfl,rfl⟩ | ⟨g,cap,G,o,E,F⟩
 ·exact ⟨none,0,rfl,fun i x f=>by simp at f⟩
 ·exact ⟨_,_,o,fun i x f=>⟨g,0,rfl,E,by simpa using F i x f⟩⟩
theorem jP {w:World} {f:Nat} {v:Value} {l:List Int} (h:w.ownsRow f 2 1 v l.length (cu l)):iJ w v l:=by
 rcases h.2 with ⟨o,F⟩ | ⟨g,cap,G,o,F,H,O,R,S,T⟩
 ·have J:l.length=0:=F
  have I:l=[]:=List.length_eq_zero_iff.1 J;subst I;exact ⟨none,0,o,fun i x E=>by simp at E⟩
 ·refine ⟨_,_,o,fun i x E=>⟨g,0,rfl,(Array.getElem?_eq_some_iff.1 H).1,?_⟩⟩
  subst o;have:=h.cellAt i (by have:=(List.getElem?_eq_some_iff.1 E).1;omega);rw [Nat.zero_add,this];simp [cu,E]
def oh (w h:World):Prop:=w.heap.size≤h.heap.size∧∀ (B:Nat) (f:Array Value) (t:TypeId),t≠2→w.heap[B]?=some (.cells f t (0,0))→h.heap[B]?=some (.cells f t (0,0))
theorem oh.refl (w:World):oh w w:=⟨Nat.le_refl _,fun _ _ _ _ h=>h⟩
theorem kS {O:Array Oper} {G:List Oper} {o:Oper} {a:Act} {Q:Exit→Act→World→Prop} {w:World} (I:o.guard=none) (s x:Operand)
  (ho:o.op=.call { callee:=.builtin .append,args:=#[s,x],argTypes:=#[53,53] }) (f:Nat) (v u:Value) (m l:List Int)
  (hs:a.eval s=v) (E:w.ownsRow f 2 1 v m.length (cu m)) (hx:a.eval x=u) (T:oe w u l) (ay:m.length+l.length≤1000000) (F:f≤w.heap.size)
  (h:∀ v' H,H.ownsRow f 2 1 v' (m++l).length (cu (m++l))→Below f w H→oh w H→wpList Tryz.prog O Q G (a.put o.dst v') H):wpList Tryz.prog O Q (o::G) a w:=by
 obtain ⟨i,hi,W,ab,ad⟩:=info_parts qu;rcases T with ⟨rfl,rfl⟩ | ⟨g,cap,R,rfl,h3,h4⟩
 ·refine wpList_plain I fun K hK=>?_
  have hr:=run_append_owned_none (P:=Tryz.prog) w f 53 o.type 2 i 1 Tryz.underlying53 hi v m.length (cu m) E;unfold Oper.wp execOp;simp only [ho,resolve,invoke,builtin,Sem.run_bind,Sem.run_pure,Result.andThen_ok,List.map_toArray,List.map_cons,List.map_nil,hs,hx,hr];exact hK _ _ (h v w (by simpa using E) (Below.refl _ _) (oh.refl _))
 ·refine wpList_append_own w I s x 53 ho f 2 i (.int .i64 0) 1 8 Tryz.underlying53 hi W ab ad rfl ag v m.length (cu m) hs E ⟨g,0,none⟩ l.length cap (cu l) hx (by simp [cu]) ?_ ?_ ?_ ?_ F ?_
  ·intro j u hj
   simp only [cu,List.getElem?_map,Option.map_eq_some_iff] at hj;obtain ⟨y,hy,rfl⟩:=hj;have h5:=h4 j y hy;by_cases J:j=0
   ·subst J;simpa [Addr.add] using h5
   ·simpa [Addr.add,J] using h5
  ·intro u T
   simp only [cu,List.mem_map] at T;obtain ⟨y,_,rfl⟩:=T;rfl
  ·unfold maxLen;omega
  ·omega
  ·intro v' H ah V _
   refine h v' H (by rw [List.length_append,sF];exact ah) ((Below.refl f w).grown V F fun k hk=>(E.lt k hk).1) ⟨V.size,fun B cs t ht S=>(V.block B (Array.getElem?_eq_some_iff.1 S).1 (fun e=>?_)).trans S⟩;rcases E.2 with ⟨R,_⟩ | ⟨g',al,aq,R,_,U,_⟩
   ·rw [R] at e;simp [Value.ownBlock] at e
   ·rw [R] at e
    obtain rfl:B=g':=by simpa [Value.ownBlock] using e
    rw [U] at S;cases S;exact ht rfl
def bA (w:World) (g:Nat) (f:List Int):Prop:=w.heap[g]?=some (.cells (cu f).toArray 2 (0,0))
theorem bA.lt {w:World} {g:Nat} {f:List Int} (h:bA w g f):g<w.heap.size:=(Array.getElem?_eq_some_iff.1 h).1
theorem bA.cell {w:World} {g:Nat} {f:List Int} (h:bA w g f) {k:Nat} {x:Int} (o:f[k]?=some x):w.cell? ⟨g,k,none⟩=some (.int .i64 x):=by
 rw [cell_of_row w g k _ _ _ h];simp [cu,o]
theorem bA.frozen {w:World} {g:Nat} {f:List Int} (h:bA w g f) (k:Nat):w.frozen? ⟨g,k,none⟩=false:=by
 unfold bA at h;simp [World.frozen?,h]
theorem bA.below {w f:World} {K g:Nat} {o:List Int} (h:bA w g o) (E:Below K w f) (F:g<K):bA f g o:=(E.block g F).trans h
theorem bA.call {w f:World} {g:Nat} {o:List Int} (h:bA w g o) (E:Below w w f):bA f g o:=h.below E h.lt
theorem bA.far {w:World} {g:Nat} {f:List Int} (h:bA w g f) {p:Addr} (o:g≠p.block) (u:Value):bA (w.setCell p u) g f:=(Below.heap_setCell w p u g o).trans h
theorem bA.set {w:World} {g:Nat} {f:List Int} (h:bA w g f) (k:Nat) (v:Int):bA (w.setCell ⟨g,k,none⟩ (.int .i64 v)) g (f.set k v):=by
 unfold bA at h ⊢;simp [World.setCell,Array.getElem?_modify,h,cu,List.map_set]
theorem bA.nums {w:World} {g cap:Nat} {f:List Int} (h:bA w g f):iJ w (.slice (some ⟨g,0,none⟩) f.length cap) f:=⟨_,_,rfl,fun i x o=>⟨g,0,rfl,h.lt,by rw [Nat.zero_add];exact h.cell o⟩⟩
def eZ (n:Nat):Obj:=.cells (List.replicate n (Value.int .i64 0)).toArray 2
theorem bA.new (w:World) (n:Nat):bA (w.alloc (eZ n)) w.heap.size (List.replicate n 0):=by
 unfold bA eZ;rw [heap_alloc_new];simp [cu]
theorem l9 (n:Nat) (I:n≤100000) (w:World):(Instr.makeSlice 53 (.int .i64 (n:Int)) (.int .i64 (n:Int))).run Tryz.prog w=.ok (.slice (some ⟨w,0,none⟩) n n) (w.alloc (eZ n)):=by
 obtain ⟨F,hi,f,h,o⟩:=info_parts qu;have E:=run_make (P:=Tryz.prog) w 53 2 F (.int .i64 0) Tryz.underlying53 hi f .i64 .i64 n n om om (by rw [o];omega) om;rw [E,h];have e:madeCells (Value.int .i64 0).cells (((n:Int)).toNat*1)=(List.replicate n (Value.int .i64 0)).toArray:=by
  apply Array.ext
  ·simp [madeCells]
  ·intro i G H
   simp [madeCells,Value.cells,Nat.mod_one]
 rw [e];simp [eZ]
end
end Go.Proofs.YtjhhmeoibfdcmaaGreat
