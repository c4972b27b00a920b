/- Lemmas. -/
import Derived.Test.YtjhhmeoibfdcmaaGreatWr01
import Derived.Test.YtjhhmeoibfdcmaaGreatWr02
set_option linter.unusedSimpArgs false
set_option linter.unusedVariables false
set_option maxRecDepth 100000
set_option maxHeartbeats 12800000
namespace Go.Proofs.YtjhhmeoibfdcmaaGreat
section
open Go.RowKit Qd
theorem dH (n a b:Int) (w:World) :
  Calls Tryz.prog 83 #[n,a,b] w fun e f=>e=.returned (.bool (decide (a≤n∧n≤b)))∧w=f:=by
 go_enter Tryz.func83,Tryz.ntmps83;go_wp2
 all_goals (go_ret;refine ⟨aY ?_,rfl⟩;simp;try omega)
theorem o6 (b:Int) (w:World) :
  Calls Tryz.prog 136 #[.int .u8 b] w fun e f=>e=.returned (.bool (gC b))∧w=f:=by
 go_enter Tryz.func136,Tryz.ntmps136;go_wp2
 all_goals (go_ret;refine ⟨aY ?_,rfl⟩;simp [gC];try omega)
theorem CH (b:Int) (w:World) :
  Calls Tryz.prog 200 #[.int .u8 b] w fun e f=>e=.returned (.bool (o9 b))∧w=f:=by
 go_enter Tryz.func200,Tryz.ntmps200;go_wp2
 all_goals (go_ret;refine ⟨aY ?_,rfl⟩;simp [o9];try omega)
theorem rV (b:Int) (w:World) :
  Calls Tryz.prog 138 #[.int .u8 b] w fun e f=>e=.returned (.bool (gk b))∧w=f:=by
 go_enter Tryz.func138,Tryz.ntmps138;go_wp2_with (first | (go_at_call 136;refine (o6 _ _).mono ?_;rintro e f ⟨rfl,rfl⟩) | (go_at_call 200;refine (CH _ _).mono ?_;rintro e f ⟨rfl,rfl⟩))
 all_goals (go_ret;refine ⟨aY ?_,rfl⟩;simp_all [gk];try rfl)
theorem er (s:ByteArray):s.data.toList.length=s.size:=rfl
theorem B9 (s:ByteArray) (w:World) (O:s.size≤1000) :
  Calls Tryz.prog 137 #[.string s,.func (.func 138) #[] #[]] w fun e I=>e=.returned (.int .i64 (kP s.data.toList))∧w=I:=by
 go_enter Tryz.func137,Tryz.ntmps137;go_wp2;go_loop [5] (fun n=>∃ k:Nat,k≤s.size∧n=.int .i64 k∧Hid (∀ j,(f:j<k)→(o:j<s.size)→gk (mn s[j])=true)) (fun n=>s.size-(intOf n).toNat)
 case atStart=>exact ⟨0,Nat.zero_le _,rfl,Lib.hid (fun j f=>by omega)⟩
 case round =>
  obtain ⟨k,J,rfl,H⟩:=hrel;by_cases G:k<s.size
  ·by_cases hi:gk (mn s[k])=true
   ·have E:=Lib.hid hi
    have F:gk (s[k].toNat:Int)=true:=hi;clear hi;go_wp2_with (go_at_call 138;refine (rV _ _).mono ?_;rintro e I ⟨rfl,rfl⟩);go_round
    case rel=>exact ⟨k+1,by omega,by go_num,Lib.hid (fun j f o=>by
     rcases Nat.lt_or_ge j k with h | h
     ·exact H.out j h o
     ·obtain rfl:j=k:=om
      exact E.out)⟩
    case measure=>simp [intOf];omega
   ·have E:=Lib.hid hi
    have F:gk (s[k].toNat:Int)=false:=by simpa [mn] using hi
    clear hi;go_wp2_with (go_at_call 138;refine (rV _ _).mono ?_;rintro e I ⟨rfl,rfl⟩);go_ret;refine ⟨aZ ?_,rfl⟩;have:kP s.data.toList=k:=iM _ _ k (by rw [er];exact G) (fun j f=>H.out j f om) (by have:=E.out;simp only [Bool.not_eq_true] at this;exact this);rw [this]
  ·go_wp2
   go_ret;refine ⟨aZ ?_,rfl⟩;have:kP s.data.toList=s.data.toList.length:=jm _ _ (fun j f=>H.out j (by have:=er s;omega) (by have:=er s;omega));rw [this,er];show (k:Int)=(s.size:Int);omega
theorem EL (s:ByteArray) (w:World) (H:s.size≤1000) :
    Calls Tryz.prog 84 #[.string s] w fun e F=>e=.returned (.bool (bH s))∧w=F:=by
  by_cases G:0<s.size
  · have o : (s.toList == []) = false := by
      rw [ByteArray.toList_eq,beq_eq_false_iff_ne];intro h;have f:=er s;rw [h] at f;simp at f;omega
    go_enter Tryz.func84,Tryz.ntmps84;go_wp2_with (first | (go_at_call 136;refine (o6 _ _).mono ?_;rintro e F ⟨rfl,rfl⟩) | (go_at_call 137;refine (B9 _ _ H).mono ?_;rintro e F ⟨rfl,rfl⟩))
    all_goals (go_ret;refine ⟨aY ?_,rfl⟩;rw [lr s G];clear o)
    · have E:s.size≤16:=om
      have f:gC ↑s[0].toNat=true:=by assumption
      simp [E,f,EX]
    · have f:gC ↑s[0].toNat=false:=by assumption
      simp [f]
    · have E:¬ s.size≤16:=om
      simp [E]
  · have o : (s.toList == []) = true := by
      rw [ByteArray.toList_eq,beq_iff_eq];apply List.eq_nil_of_length_eq_zero;rw [er];omega
    go_enter Tryz.func84,Tryz.ntmps84;go_wp2
    all_goals (go_ret;refine ⟨aY ?_,rfl⟩;rw [vj s G])
theorem iQ (s c:Int) (w:World) :
  Calls Tryz.prog 203 #[s,c] w fun e f=>e=.returned (.int .i64 (bC s c))∧w=f:=by
 go_enter Tryz.func203,Tryz.ntmps203;go_wp2
 all_goals (go_ret;refine ⟨aZ ?_,rfl⟩;simp_all [bC];try omega)
theorem GG (w:World) :
  Calls Tryz.prog 139 #[.int .i64 3] w fun e f=>e=.returned (.tuple #[.agg #[.string ⟨#[]⟩,.int .i64 3,.int .i64 6,.int .i64 1,.int .i64 1,.int .i64 1,.int .i64 4,.int .i64 5,.int .i64 4,.int .i64 0,.int .i64 12,.int .i64 0,.int .i64 0,.int .i64 0],.bool true])∧Below w w f:=by
 go_enter Tryz.func139,Tryz.ntmps139;go_wp2
 all_goals (go_returns;refine ⟨rfl,?_⟩;go_grown)
theorem Gh (w:World) :
  Calls Tryz.prog 139 #[.int .i64 4] w fun e f=>e=.returned (.tuple #[.agg #[.string ⟨#[]⟩,.int .i64 4,.int .i64 7,.int .i64 12,.int .i64 0,.int .i64 4,.int .i64 0,.int .i64 0,.int .i64 0,.int .i64 0,.int .i64 12,.int .i64 0,.int .i64 0,.int .i64 0],.bool true])∧Below w w f:=by
 go_enter Tryz.func139,Tryz.ntmps139;go_wp2
 all_goals (go_returns;refine ⟨rfl,?_⟩;go_grown)
theorem uN (k:Int) (h:(k==3)=false) (o:(k==4)=false) (w:World) :
  Calls Tryz.prog 139 #[k] w fun e f=>e=.returned (.tuple #[.agg #[.string ⟨#[]⟩,.int .i64 0,.int .i64 0,.int .i64 0,.int .i64 0,.int .i64 0,.int .i64 0,.int .i64 0,.int .i64 0,.int .i64 0,.int .i64 0,.int .i64 0,.int .i64 0,.int .i64 0],.bool false])∧Below w w f:=by
 go_enter Tryz.func139,Tryz.ntmps139;go_wp2
 all_goals (go_returns;refine ⟨rfl,?_⟩;go_grown)
def tl:Obj:=.cells #[.int .i64 4,.int .i64 4,.int .i64 5,.int .i64 4,.int .i64 5,.int .i64 4,.int .i64 5,.int .i64 4,.int .i64 4] 22
theorem tv (w:World) :
  Calls Tryz.prog 202 #[] w fun e f=>e=.returned (.slice (some ⟨w,0,none⟩) 3 3)∧w.alloc tl=f:=by
 go_enter Tryz.func202,Tryz.ntmps202;go_wp2
 all_goals (go_ret;exact ⟨rfl,rfl⟩)
theorem AC (B:Nat) (a b c:Int) (w:World) (h:w.cell? ⟨B,0,none⟩=some (.int .i64 4)) (o:w.cell? ⟨B,1,none⟩=some (.int .i64 4)) (E:w.cell? ⟨B,2,none⟩=some (.int .i64 5))
  (F:w.cell? ⟨B,3,none⟩=some (.int .i64 4)) (G:w.cell? ⟨B,4,none⟩=some (.int .i64 5)) (H:w.cell? ⟨B,5,none⟩=some (.int .i64 4))
  (I:w.cell? ⟨B,6,none⟩=some (.int .i64 5)) (J:w.cell? ⟨B,7,none⟩=some (.int .i64 4)) (O:w.cell? ⟨B,8,none⟩=some (.int .i64 4)) (R:B<w.heap.size) :
  Calls Tryz.prog 230 #[.slice (some ⟨B,0,none⟩) 3 3,.agg #[a,b,c]] w fun e f=>e=.returned (.int .i64 (km a b c))∧Below w w f:=by
 go_enter Tryz.func230,Tryz.ntmps230;go_wp2;refine wp_loop_rounds 4 ?_;rw [rounds_succ];go_wp2;go_quiet (fail);go_wp2
 ·go_ret
  refine ⟨aZ ?_,by (repeat' exact bel)⟩;simp_all [km]
 ·rw [rounds_succ]
  go_wp2;go_quiet (fail);go_wp2
  ·go_ret
   refine ⟨aZ ?_,by (repeat' exact bel)⟩;simp_all [km]
  ·rw [rounds_succ]
   go_wp2;go_quiet (fail);go_wp2
   ·go_ret
    refine ⟨aZ ?_,by (repeat' exact bel)⟩;simp_all [km]
   ·rw [rounds_succ]
    go_wp2;go_ret;refine ⟨aZ ?_,by (repeat' exact bel)⟩;simp_all [km]
    try omega
def vX (w:World) (B:Nat):Prop:=
 w.cell? ⟨B,0,none⟩=some (.int .i64 4)∧w.cell? ⟨B,1,none⟩=some (.int .i64 4)∧w.cell? ⟨B,2,none⟩=some (.int .i64 5) ∧
 w.cell? ⟨B,3,none⟩=some (.int .i64 4)∧w.cell? ⟨B,4,none⟩=some (.int .i64 5)∧w.cell? ⟨B,5,none⟩=some (.int .i64 4) ∧
 w.cell? ⟨B,6,none⟩=some (.int .i64 5)∧w.cell? ⟨B,7,none⟩=some (.int .i64 4)∧w.cell? ⟨B,8,none⟩=some (.int .i64 4)∧B<w.heap.size
theorem AJ (w:World):vX (w.alloc tl) w.heap.size:=by
 refine ⟨?_,?_,?_,?_,?_,?_,?_,?_,?_,?_⟩ <;> simp [tl]
theorem FL (w:World) (B:Nat) (h:B=w.heap.size):vX (w.alloc tl) B:=by rw [h];exact AJ w
theorem uA {w:World} {B:Nat} (h:vX w B) (o:Obj):vX (w.alloc o) B:=by
 obtain ⟨f,E,F,G,H,I,J,O,R,S⟩:=h;have k:∀ i,(w.alloc o).cell? ⟨B,i,none⟩=w.cell? ⟨B,i,none⟩:=fun i=>World.cell?_alloc_lt w o ⟨B,i,none⟩ S
 exact ⟨(k 0).trans f,(k 1).trans E,(k 2).trans F,(k 3).trans G,(k 4).trans H,(k 5).trans I,(k 6).trans J,(k 7).trans O,(k 8).trans R,by simp;omega⟩
theorem BI (B:Nat) (a b c:Int) (w:World) (h:vX w B) :
  Calls Tryz.prog 201 #[.slice (some ⟨B,0,none⟩) 3 3,.agg #[a,b,c]] w fun e U=>e=.returned (.int .i64 (km a b c+1))∧Below w w U:=by
 have V:-1≤km a b c∧km a b c≤2:=by unfold km;split <;> (try split) <;> (try split) <;> omega
 have H:=hide h;clear h;go_enter Tryz.func201,Tryz.ntmps201;go_wp2_with fail;obtain ⟨o,E,F,G,I,J,O,R,S,T⟩:=uA (IV H) (.cells #[a,b,c] 22);refine (AC B a b c _ o E F G I J O R S T).mono ?_;clear o E F G I J O R S T;rintro e W ⟨rfl,f⟩;go_wp2;go_ret;refine ⟨rfl,?_⟩;exact (((Below.refl _ _).alloc (Nat.le_refl _) _).trans (f.mono ac))
abbrev av (c:ar):Value:=.agg #[.string c.name,c.kind,c.day,c.month,c.shift,c.shape,c.p0,c.p1,c.p2,c.cycle,c.extra,c.first,c.last,c.policy]
theorem GX (c:ar) (w:World) (o:c.shape=2) :
  Calls Tryz.prog 140 #[av c] w fun e F=>e=.returned (.bool (decide c.weeks))∧Below w w F:=by
 obtain ⟨O,k,d,m,S,E,a,b,p,f,G,H,J,R⟩:=c;obtain rfl:E=2:=o;simp only [av];cases h:(f==0)
 all_goals
  go_enter Tryz.func140,Tryz.ntmps140;go_wp2;go_quiet (fail);go_wp2;cases I:(a==0&&(b==0&&p==0))
  all_goals
   go_quiet ((first | (go_at_call 203;first | exact gn (iQ _ _ _) | exact dU (iQ _ _ _)) | (go_at_call 83;first | exact gn (dH _ _ _ _) | exact dU (dH _ _ _ _))));go_wp2;go_ret;refine ⟨aY ?_,by (repeat' exact bel)⟩;simp_all [ar.weeks,dB]
theorem Ie (c:ar) (w:World) (F:c.shape=3) :
  Calls Tryz.prog 140 #[av c] w fun e H=>e=.returned (.bool (decide c.weeks))∧Below w w H:=by
 obtain ⟨S,k,d,m,U,G,a,b,p,f,I,J,R,T⟩:=c;obtain rfl:G=3:=F;simp only [av];cases h:(f==1) <;> cases o:(f==2) <;> cases E:(f==4)
 all_goals first
  | (exfalso;simp_all;done)
  | skip
 all_goals
  go_enter Tryz.func140,Tryz.ntmps140;go_wp2;go_quiet (fail);go_wp2;cases O:(a==0&&(b==0&&p==0))
  all_goals
   go_quiet ((first | (go_at_call 203;first | exact gn (iQ _ _ _) | exact dU (iQ _ _ _)) | (go_at_call 83;first | exact gn (dH _ _ _ _) | exact dU (dH _ _ _ _))));go_wp2;go_ret;refine ⟨aY ?_,by (repeat' exact bel)⟩;simp_all [ar.weeks,dB]
theorem Eh (c:ar) (w:World) (h:(c.shape==1)=false) (o:(c.shape==2)=false) (E:(c.shape==3)=false) :
  Calls Tryz.prog 140 #[av c] w fun e f=>e=.returned (.bool (decide c.weeks))∧Below w w f:=by
 simp only [av];go_enter Tryz.func140,Tryz.ntmps140;go_wp2;go_quiet (fail);go_wp2;go_ret;refine ⟨aY ?_,by (repeat' exact bel)⟩;simp_all [ar.weeks,dB]
theorem Hc (c:ar) (w:World) (O:c.shape=1) :
    Calls Tryz.prog 140 #[av c] w fun e E=>e=.returned (.bool (decide c.weeks))∧Below w w E:=by
  obtain ⟨nm,k,d,m,sh,R,a,b,p,F,T,U,W,po⟩:=c;obtain rfl:R=1:=O;simp only [av];cases H:(F==0)
  all_goals
    go_enter Tryz.func140,Tryz.ntmps140;go_wp2;go_quiet (fail);go_wp2;go_region_with (first | (go_at_call 202;refine (tv _).mono ?_;rintro e E ⟨rfl,rfl⟩) | (go_at_call 201;refine (BI _ _ _ _ _ (FL _ _ ac)).mono ?_;rintro e S ⟨rfl,f⟩))
    all_goals
      go_simp;obtain ⟨G,I⟩:=gI f;have o:=f.size;simp at o;have h : Below w w S := by
          refine Below.trans ?_ (f.mono ae)
          (repeat' exact bel)
      clear f;cases J:(decide (0<km a b p+1))
      all_goals
        go_wp2;go_quiet ((first | (go_at_call 203;first | exact gn (iQ _ _ _) | exact dU (iQ _ _ _)) | (go_at_call 83;first | exact gn (dH _ _ _ _) | exact dU (dH _ _ _ _))));go_wp2;go_ret;refine ⟨aY ?_,below_drewN h _⟩;have V:=J;clear G I;simp_all [ar.weeks,dB,JC] <;> omega
theorem AQ (c:ar) (w:World) :
  Calls Tryz.prog 140 #[av c] w fun e E=>e=.returned (.bool (decide c.weeks))∧Below w w E:=by
 by_cases f:c.shape=1
 ·exact Hc c w f
 ·by_cases h:c.shape=2
  ·exact GX c w h
  ·by_cases o:c.shape=3
   ·exact Ie c w o
   ·exact Eh c w (beq_eq_false_iff_ne.2 f) (beq_eq_false_iff_ne.2 h) (beq_eq_false_iff_ne.2 o)
theorem Hy (F:ByteArray) (k d m H I a b p f h o E G:Int) (w:World) :
  Calls Tryz.prog 140 #[.agg #[.string F,k,d,m,H,I,a,b,p,f,h,o,E,G]] w
   fun e J=>e=.returned (.bool (decide (ar.mk F k d m H I a b p f h o E G).weeks))∧Below w w J:=AQ ⟨F,k,d,m,H,I,a,b,p,f,h,o,E,G⟩ w
theorem Gw (c:ar) (w:World) (H:c.kind=3) :
  Calls Tryz.prog 85 #[av c] w fun e I=>e=.returned (.bool (decide c.ruled))∧Below w w I:=by
 obtain ⟨T,k,d,m,V,W,a,b,p,J,O,R,S,U⟩:=c;obtain rfl:k=3:=H;simp only [av];go_enter Tryz.func85,Tryz.ntmps85;go_wp2_with fail;refine (GG _).mono ?_;rintro e E ⟨rfl,f⟩;obtain ⟨F,G⟩:=gI f;have o:w.heap.size<E.heap.size:=aj f;have h:Below w w E:=by
  refine Below.trans ?_ (f.mono ac)
  (repeat' exact bel)
 clear f;go_wp2;go_region
 all_goals go_wp2
 all_goals
  go_ret;refine ⟨aY ?_,by (repeat' exact bel)⟩;clear F G h o;simp_all [ar.ruled,ar.pat0]
 all_goals omega
theorem GJ (c:ar) (w:World) (H:c.kind=4) :
  Calls Tryz.prog 85 #[av c] w fun e I=>e=.returned (.bool (decide c.ruled))∧Below w w I:=by
 obtain ⟨T,k,d,m,V,W,a,b,p,J,O,R,S,U⟩:=c;obtain rfl:k=4:=H;simp only [av];go_enter Tryz.func85,Tryz.ntmps85;go_wp2_with fail;refine (Gh _).mono ?_;rintro e E ⟨rfl,f⟩;obtain ⟨F,G⟩:=gI f;have o:w.heap.size<E.heap.size:=aj f;have h:Below w w E:=by
  refine Below.trans ?_ (f.mono ac)
  (repeat' exact bel)
 clear f;go_wp2;go_region
 all_goals go_wp2
 all_goals
  go_ret;refine ⟨aY ?_,by (repeat' exact bel)⟩;clear F G h o;simp_all [ar.ruled,ar.pat0]
 all_goals omega
theorem G4 (c:ar) (w:World) (J:(c.kind==3)=false) (O:(c.kind==4)=false) :
  Calls Tryz.prog 85 #[av c] w fun e I=>e=.returned (.bool (decide c.ruled))∧Below w w I:=by
 simp only [av];cases R:(decide (1≤c.month∧c.month≤12))
 case false =>
  go_enter Tryz.func85,Tryz.ntmps85;go_wp2_with fail;refine (uN _ J O _).mono ?_;rintro e F ⟨rfl,f⟩;obtain ⟨G,H⟩:=gI f;have o:w.heap.size<F.heap.size:=aj f;have h:Below w w F:=by
   refine Below.trans ?_ (f.mono ac)
   (repeat' exact bel)
  clear f;go_wp2_with (first | (go_at_call 83;refine (dH _ _ _ _).mono ?_;rintro e I ⟨rfl,rfl⟩));go_ret;refine ⟨aY ?_,by (repeat' exact bel)⟩;clear G H h o;simp_all [ar.ruled]
  try omega
 case true =>
  go_enter Tryz.func85,Tryz.ntmps85;go_wp2_with fail;refine (uN _ J O _).mono ?_;rintro e F ⟨rfl,f⟩;obtain ⟨G,H⟩:=gI f;have o:w.heap.size<F.heap.size:=aj f;have h:Below w w F:=by
   refine Below.trans ?_ (f.mono ac)
   (repeat' exact bel)
  clear f;go_wp2_with (first | (go_at_call 83;refine (dH _ _ _ _).mono ?_;rintro e I ⟨rfl,rfl⟩) | (go_at_call 140;(with_reducible refine (Hy _ _ _ _ _ _ _ _ _ _ _ _ _ _ _).mono ?_);rintro e S ⟨rfl,E⟩))
  all_goals
   go_ret;refine ⟨aY ?_,by first | (repeat' exact bel) | (refine Below.trans ?_ (E.mono ae);(repeat' exact bel))⟩;clear G H h o
   try clear E
   simp_all [ar.ruled,ar.pat0,ar.weeks]
  all_goals grind
theorem AX (c:ar) (w:World) :
  Calls Tryz.prog 85 #[av c] w fun e o=>e=.returned (.bool (decide c.ruled))∧Below w w o:=by
 by_cases f:c.kind=3
 ·exact Gw c w f
 ·by_cases h:c.kind=4
  ·exact GJ c w h
  ·exact G4 c w (beq_eq_false_iff_ne.2 f) (beq_eq_false_iff_ne.2 h)
theorem Hg (F:ByteArray) (k d m H I a b p f h o E G:Int) (w:World) :
  Calls Tryz.prog 85 #[.agg #[.string F,k,d,m,H,I,a,b,p,f,h,o,E,G]] w
   fun e J=>e=.returned (.bool (decide (ar.mk F k d m H I a b p f h o E G).ruled))∧Below w w J:=AX ⟨F,k,d,m,H,I,a,b,p,f,h,o,E,G⟩ w
def co (c:ar):Int:=if c.okB then 0 else 1
theorem kj {c:ar} (h:c.Ok):co c=0:=by unfold co ar.okB;rw [decide_eq_true h];rfl
theorem sY {c:ar} (h:¬ c.Ok):co c=1:=by unfold co ar.okB;rw [decide_eq_false h];rfl
theorem tI (x y:Int):(x==y)=decide (x=y):=by by_cases h:x=y <;> simp [h]
theorem bs (c:ar) (w:World) (o:c.name.size≤1000) :
  Calls Tryz.prog 50 #[av c] w fun e h=>e=.returned (.int .i64 (co c))∧Below w w h:=by
 obtain ⟨I,k,d,m,O,R,a,b,p,E,F,G,H,J⟩:=c;simp only [av]
 dsimp only at o
 go_enter Tryz.func50,Tryz.ntmps50;go_wp2_with (first | (go_at_call 83;refine (dH _ _ _ _).mono ?_;rintro e h ⟨rfl,rfl⟩) | (go_at_call 84;(with_reducible refine (EL _ _ o).mono ?_);rintro e h ⟨rfl,rfl⟩) | (go_at_call 85;(with_reducible refine (Hg _ _ _ _ _ _ _ _ _ _ _ _ _ _ _).mono ?_);rintro e S ⟨rfl,f⟩))
 all_goals
  go_ret;refine ⟨aZ ?_,by first | (repeat' exact bel) | (refine Below.trans ?_ (f.mono ac);(repeat' exact bel))⟩
  try clear f
  first
   | refine (kj ?_).symm
   | refine (sY ?_).symm
  simp only [ar.Ok,ar.served,ar.polic]
  try simp only [tI] at *
 all_goals grind
def cj (c:ar):Int:=if c.okB then bC c.shape c.cycle else 0
theorem uS (c:ar) (w:World) (G:c.name.size≤1000) :
  Calls Tryz.prog 148 #[av c] w fun e H=>e=.returned (.tuple #[cj c,co c])∧Below w w H:=by
 simp only [av];cases o:c.okB
 ·have h:co c=1:=by simp [co,o]
  have F:cj c=0:=by simp [cj,o]
  go_enter Tryz.func148,Tryz.ntmps148;go_wp2_with fail;refine (bs c _ G).mono ?_;rintro e I ⟨rfl,f⟩;rw [h];go_wp2;go_ret2;refine ⟨aw F.symm h.symm,?_⟩;refine Below.trans ?_ (f.mono ac)
  (repeat' exact bel)
 ·have h:co c=0:=by simp [co,o]
  have F:cj c=bC c.shape c.cycle:=by simp [cj,o]
  go_enter Tryz.func148,Tryz.ntmps148;go_wp2_with fail;refine (bs c _ G).mono ?_;rintro e I ⟨rfl,f⟩;rw [h];obtain ⟨J,O⟩:=gI f;have E:Below w w I:=by
   refine Below.trans ?_ (f.mono ac)
   (repeat' exact bel)
  clear f;go_wp2_with (first | (go_at_call 203;(with_reducible refine (iQ _ _ _).mono ?_);rintro e H ⟨rfl,rfl⟩));go_ret2;exact ⟨aw F.symm h.symm,E⟩
end
end Go.Proofs.YtjhhmeoibfdcmaaGreat
