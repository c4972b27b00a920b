/- Lemmas. -/
import Derived.Test.YtpebkobmhhnojaaGreatDoorTp02
import Derived.Test.YtpebkobmhhnojaaGreatDoorTp03
set_option linter.unusedSimpArgs false
set_option linter.unusedVariables false
set_option maxRecDepth 100000
set_option maxHeartbeats 12800000
namespace Go.Proofs.YtpebkobmhhnojaaGreatDoor
section
open Go.RowKit Qd
theorem cK (n a b:Int) (w:World) :
  Calls Tryz.prog 31 #[n,a,b] w fun e w'=>e=.returned (.bool (decide (a≤n∧n≤b)))∧w=w':=by
 go_enter Tryz.func31,Tryz.ntmps31;go_wp2
 all_goals (go_ret;refine ⟨bA ?_,rfl⟩;simp;try omega)
theorem il (b:Int) (w:World) :
  Calls Tryz.prog 64 #[.int .u8 b] w fun e w'=>e=.returned (.bool (d6 b))∧w=w':=by
 go_enter Tryz.func64,Tryz.ntmps64;go_wp2
 all_goals (go_ret;refine ⟨bA ?_,rfl⟩;simp [d6];try omega)
theorem gX (b:Int) (w:World) :
  Calls Tryz.prog 98 #[.int .u8 b] w fun e w'=>e=.returned (.bool (dR b))∧w=w':=by
 go_enter Tryz.func98,Tryz.ntmps98;go_wp2
 all_goals (go_ret;refine ⟨bA ?_,rfl⟩;simp [dR];try omega)
theorem lg (b:Int) (w:World) :
  Calls Tryz.prog 66 #[.int .u8 b] w fun e w'=>e=.returned (.bool (gC b))∧w=w':=by
 go_enter Tryz.func66,Tryz.ntmps66;go_wp2_with (first | (go_at_call 64;refine (il _ _).mono ?_;rintro e w' ⟨rfl,rfl⟩) | (go_at_call 98;refine (gX _ _).mono ?_;rintro e w' ⟨rfl,rfl⟩))
 all_goals (go_ret;refine ⟨bA ?_,rfl⟩;simp_all [gC];try rfl)
theorem bK (s:ByteArray):s.data.toList.length=s.size:=rfl
theorem nO (s:ByteArray) (w:World) (J:s.size≤1000) :
  Calls Tryz.prog 65 #[.string s,.func (.func 66) #[] #[]] w fun e w'=>e=.returned (.int .i64 (iS s.data.toList))∧w=w':=by
 go_enter Tryz.func65,Tryz.ntmps65;go_wp2;go_loop [5] (fun n=>∃ k:Nat,k≤s.size∧n=.int .i64 k∧Hid (∀ j,(f:j<k)→(o:j<s.size)→gC (ci s[j])=true)) (fun n=>s.size-(intOf n).toNat)
 case atStart=>exact ⟨0,Nat.zero_le _,rfl,Lib.hid (fun j f=>by omega)⟩
 case round =>
  obtain ⟨k,I,rfl,H⟩:=hrel;by_cases G:k<s.size
  ·by_cases hi:gC (ci s[k])=true
   ·have E:=Lib.hid hi
    have F:gC (s[k].toNat:Int)=true:=hi;clear hi;go_wp2_with (go_at_call 66;refine (lg _ _).mono ?_;rintro e w' ⟨rfl,rfl⟩);go_round
    case rel=>exact ⟨k+1,by omega,by go_num,Lib.hid (fun j f o=>by
     rcases Nat.lt_or_ge j k with h | h
     ·exact H.out j h o
     ·obtain rfl:j=k:=om
      exact E.out)⟩
    case measure=>simp [intOf];omega
   ·have E:=Lib.hid hi
    have F:gC (s[k].toNat:Int)=false:=by simpa [ci] using hi
    clear hi;go_wp2_with (go_at_call 66;refine (lg _ _).mono ?_;rintro e w' ⟨rfl,rfl⟩);go_ret;refine ⟨bD ?_,rfl⟩;have:iS s.data.toList=k:=d8 _ _ k (by rw [bK];exact G) (fun j f=>H.out j f om) (by have:=E.out;simp only [Bool.not_eq_true] at this;exact this);rw [this]
  ·go_wp2
   go_ret;refine ⟨bD ?_,rfl⟩;have:iS s.data.toList=s.data.toList.length:=eR _ _ (fun j f=>H.out j (by have:=bK s;omega) (by have:=bK s;omega));rw [this,bK];show (k:Int)=(s.size:Int);omega
theorem ky (s:ByteArray) (w:World) (G:s.size≤1000) :
    Calls Tryz.prog 32 #[.string s] w fun e w'=>e=.returned (.bool (jU s))∧w=w':=by
  by_cases F:0<s.size
  · have o : (s.toList == []) = false := by
      rw [ByteArray.toList_eq,beq_eq_false_iff_ne];intro h;have f:=bK s;rw [h] at f;simp at f;omega
    go_enter Tryz.func32,Tryz.ntmps32;go_wp2_with (first | (go_at_call 64;refine (il _ _).mono ?_;rintro e w' ⟨rfl,rfl⟩) | (go_at_call 65;refine (nO _ _ G).mono ?_;rintro e w' ⟨rfl,rfl⟩))
    all_goals (go_ret;refine ⟨bA ?_,rfl⟩;rw [wS s F];clear o)
    · have E:s.size≤16:=om
      have f:d6 ↑s[0].toNat=true:=by assumption
      simp [E,f,AD]
    · have f:d6 ↑s[0].toNat=false:=by assumption
      simp [f]
    · have E:¬ s.size≤16:=om
      simp [E]
  · have o : (s.toList == []) = true := by
      rw [ByteArray.toList_eq,beq_iff_eq];apply List.eq_nil_of_length_eq_zero;rw [bK];omega
    go_enter Tryz.func32,Tryz.ntmps32;go_wp2
    all_goals (go_ret;refine ⟨bA ?_,rfl⟩;rw [AR s F])
theorem jA (w:World) (o o':Obj):({ w.alloc o with heap:=(w.alloc o).heap.setIfInBounds w.heap.size o' }:World)=w.alloc o':=by
 have h:(w.alloc o).heap.setIfInBounds w.heap.size o'=(w.alloc o').heap:=by
  show (w.heap.push o).setIfInBounds w.heap.size o'=w.heap.push o';apply Array.ext';simp [Array.toList_push]
 rw [h];rfl
theorem nz (w:World) (h:Array MapEntry) (f:Nat) (k:Int) (v:Value) (H:Instr.findNow (.int .u8) (.int .u8 k) h.toList 0=some none) :
  (Instr.mapUpdate 328 (.map (some w.heap.size)) (.int .u8 k) v).run Tryz.prog (w.alloc (.map h f))=.ok () (w.alloc (.map (h.push ⟨.int .u8 k,v,f⟩) (f+1))):=by
 have F:=Tryz.underlying5;have I:=Tryz.underlying328;have o:(w.alloc (.map h f)).heap[w.heap.size]?=some (.map h f):=heap_alloc_new w _;have E:=jA w (.map h f);have G:(Instr.checkKey false 10000 5 (.int .u8 k)).run Tryz.prog (w.alloc (.map h f))=.ok () (w.alloc (.map h f)):=MapKept.run_checkKey (k:=.int .u8 k) F (by simp [MapKept.IsKey]) false 9999;simp [Instr.mapUpdate,run_underlying I,MapKept.run_getObj_map o,G,MapKept.run_findKey F H,MapKept.run_setObj_map _ o,Result.andThen,E];exact E _
theorem k9 (w:World) (M:Nat) (h:Array MapEntry) (f:Nat) (k:Int) (i:Nat) (v:Value) (G:w.heap[M]?=some (.map h f)) (F:Instr.findNow (.int .u8) (.int .u8 k) h.toList 0=some (some (i,v))) :
  (Instr.lookup 328 (.map (some M)) (.int .u8 k) true).run Tryz.prog w=.ok (.tuple #[v,.bool true]) w:=by
 have o:=Tryz.underlying5;have H:=Tryz.underlying328;have E:∀ e,(Instr.checkKey e 10000 5 (.int .u8 k)).run Tryz.prog w=.ok () w:=fun e=>MapKept.run_checkKey (k:=.int .u8 k) o (by simp [MapKept.IsKey]) e 9999
 simp [Instr.lookup,run_underlying H,MapKept.run_getObj_map G,E,MapKept.run_findKey o F,Result.andThen]
theorem mO (w:World):(zeroValue 3).run Tryz.prog w=.ok (.int .i64 0) w:=by kernel_rfl
theorem vo (w:World) (M:Nat) (h:Array MapEntry) (f:Nat) (k:Int) (G:w.heap[M]?=some (.map h f)) (F:Instr.findNow (.int .u8) (.int .u8 k) h.toList 0=some none) :
  (Instr.lookup 328 (.map (some M)) (.int .u8 k) true).run Tryz.prog w=.ok (.tuple #[.int .i64 0,.bool false]) w:=by
 have o:=Tryz.underlying5;have I:=Tryz.underlying328;have H:=mO w;have E:∀ e,(Instr.checkKey e 10000 5 (.int .u8 k)).run Tryz.prog w=.ok () w:=fun e=>MapKept.run_checkKey (k:=.int .u8 k) o (by simp [MapKept.IsKey]) e 9999
 simp [Instr.lookup,run_underlying I,MapKept.run_getObj_map G,E,MapKept.run_findKey o F,Result.andThen,H]
abbrev qp:Array MapEntry:=#[⟨.int .u8 123,.int .i64 3,0⟩,⟨.int .u8 125,.int .i64 4,1⟩,⟨.int .u8 59,.int .i64 5,2⟩]
def oK (b:Int):Int:=if b=123 then 3 else if b=125 then 4 else if b=59 then 5 else 0
theorem A0 (w:World) (M:Nat) (b:Int) (f:w.heap[M]?=some (.map qp 3)) :
  (Instr.lookup 328 (.map (some M)) (.int .u8 b) true).run Tryz.prog w=.ok (.tuple #[oK b,.bool (decide (oK b≠0))]) w:=by
 by_cases h:b=123
 ·subst h;exact k9 w M qp 3 123 0 _ f rfl
 by_cases o:b=125
 ·subst o;exact k9 w M qp 3 125 1 _ f rfl
 by_cases E:b=59
 ·subst E;exact k9 w M qp 3 59 2 _ f rfl
 have e:oK b=0:=by simp [oK,h,o,E]
 rw [e];have F:(b==123)=false:=by simpa using h
 have G:(b==125)=false:=by simpa using o
 have H:(b==59)=false:=by simpa using E
 exact vo w M qp 3 b f (by simp [qp,Instr.findNow,Instr.sameNow,F,G,H])
theorem mL (b:Int) (w:World):Calls Tryz.prog 193 #[.int .u8 b] w fun e w'=>e=.returned (.tuple #[oK b,.bool (decide (oK b≠0))])∧w.alloc (.map qp 3)=w':=by
 have E:=@run_makeMap Tryz.prog;have f:=nz w #[] 0 123 (.int .i64 3) rfl;have h:=nz w #[⟨.int .u8 123,.int .i64 3,0⟩] 1 125 (.int .i64 4) rfl;have o:=nz w #[⟨.int .u8 123,.int .i64 3,0⟩,⟨.int .u8 125,.int .i64 4,1⟩] 2 59 (.int .i64 5) rfl;simp only [List.push_toArray,List.cons_append,List.nil_append] at f h o;have F:=A0 (w.alloc (.map qp 3)) w.heap.size b (heap_alloc_new w _);generalize oK b=k at *;generalize decide (k≠0)=q at *;go_enter Tryz.func193,Tryz.ntmps193;go_wp2;go_ret2;exact ⟨rfl,rfl⟩
def eJ (l:List UInt8):Nat:=(l.takeWhile fun u=>dR (ci u)).length
theorem xd (s:ByteArray) (w:World) (J:s.size≤100000) :
  Calls Tryz.prog 65 #[.string s,.func (.func 98) #[] #[]] w fun e w'=>e=.returned (.int .i64 (eJ s.data.toList))∧w=w':=by
 go_enter Tryz.func65,Tryz.ntmps65;go_wp2;go_loop [5] (fun n=>∃ k:Nat,k≤s.size∧n=.int .i64 k∧Hid (∀ j,(f:j<k)→(o:j<s.size)→dR (ci s[j])=true)) (fun n=>s.size-(intOf n).toNat)
 case atStart=>exact ⟨0,Nat.zero_le _,rfl,Lib.hid (fun j f=>by omega)⟩
 case round =>
  obtain ⟨k,I,rfl,H⟩:=hrel;by_cases G:k<s.size
  ·by_cases hi:dR (ci s[k])=true
   ·have E:=Lib.hid hi
    have F:dR (s[k].toNat:Int)=true:=hi;clear hi;go_wp2_with (go_at_call 98;refine (gX _ _).mono ?_;rintro e w' ⟨rfl,rfl⟩);go_round
    case rel=>exact ⟨k+1,by omega,by go_num,Lib.hid (fun j f o=>by
     rcases Nat.lt_or_ge j k with h | h
     ·exact H.out j h o
     ·obtain rfl:j=k:=om
      exact E.out)⟩
    case measure=>simp [intOf];omega
   ·have E:=Lib.hid hi
    have F:dR (s[k].toNat:Int)=false:=by simpa [ci] using hi
    clear hi;go_wp2_with (go_at_call 98;refine (gX _ _).mono ?_;rintro e w' ⟨rfl,rfl⟩);go_ret;refine ⟨bD ?_,rfl⟩;have:eJ s.data.toList=k:=d8 _ _ k (by rw [bK];exact G) (fun j f=>H.out j f om) (by have:=E.out;simp only [Bool.not_eq_true] at this;exact this);rw [this]
  ·go_wp2
   go_ret;refine ⟨bD ?_,rfl⟩;have:eJ s.data.toList=s.data.toList.length:=eR _ _ (fun j f=>H.out j (by have:=bK s;omega) (by have:=bK s;omega));rw [this,bK];show (k:Int)=(s.size:Int);omega
theorem fZ (s c:Int) (w:World) :
  Calls Tryz.prog 34 #[s,c] w fun e w'=>e=.returned (.int .i64 (dl s c))∧w=w':=by
 go_enter Tryz.func34,Tryz.ntmps34;go_wp2
 all_goals (go_ret;refine ⟨bD ?_,rfl⟩;simp_all [dl];try omega)
theorem ft (w:World) :
  Calls Tryz.prog 67 #[.int .i64 3] w fun e w'=>e=.returned (.tuple #[.agg #[.string ⟨#[]⟩,.int .i64 3,.int .i64 6,.int .i64 1,.int .i64 1,.int .i64 1,.int .i64 4,.int .i64 5,.int .i64 4,.int .i64 0,.int .i64 12,.int .i64 0,.int .i64 0,.int .i64 0],.bool true])∧Below w w w':=by
 go_enter Tryz.func67,Tryz.ntmps67;go_wp2
 all_goals (go_returns;refine ⟨rfl,?_⟩;go_grown)
theorem Bq (w:World) :
  Calls Tryz.prog 67 #[.int .i64 4] w fun e w'=>e=.returned (.tuple #[.agg #[.string ⟨#[]⟩,.int .i64 4,.int .i64 7,.int .i64 12,.int .i64 0,.int .i64 4,.int .i64 0,.int .i64 0,.int .i64 0,.int .i64 0,.int .i64 12,.int .i64 0,.int .i64 0,.int .i64 0],.bool true])∧Below w w w':=by
 go_enter Tryz.func67,Tryz.ntmps67;go_wp2
 all_goals (go_returns;refine ⟨rfl,?_⟩;go_grown)
theorem qx (k:Int) (f:(k==3)=false) (h:(k==4)=false) (w:World) :
  Calls Tryz.prog 67 #[k] w fun e w'=>e=.returned (.tuple #[.agg #[.string ⟨#[]⟩,.int .i64 0,.int .i64 0,.int .i64 0,.int .i64 0,.int .i64 0,.int .i64 0,.int .i64 0,.int .i64 0,.int .i64 0,.int .i64 0,.int .i64 0,.int .i64 0,.int .i64 0],.bool false])∧Below w w w':=by
 go_enter Tryz.func67,Tryz.ntmps67;go_wp2
 all_goals (go_returns;refine ⟨rfl,?_⟩;go_grown)
def oX:Obj:=.cells #[.int .i64 4,.int .i64 4,.int .i64 5,.int .i64 4,.int .i64 5,.int .i64 4,.int .i64 5,.int .i64 4,.int .i64 4] 22
theorem oV (w:World) :
  Calls Tryz.prog 100 #[] w fun e w'=>e=.returned (.slice (some ⟨w,0,none⟩) 3 3)∧w.alloc oX=w':=by
 go_enter Tryz.func100,Tryz.ntmps100;go_wp2
 all_goals (go_ret;exact ⟨rfl,rfl⟩)
theorem uM (B:Nat) (a b c:Int) (w:World) (f:w.cell? ⟨B,0,none⟩=some (.int .i64 4)) (h:w.cell? ⟨B,1,none⟩=some (.int .i64 4)) (o:w.cell? ⟨B,2,none⟩=some (.int .i64 5))
  (E:w.cell? ⟨B,3,none⟩=some (.int .i64 4)) (F:w.cell? ⟨B,4,none⟩=some (.int .i64 5)) (G:w.cell? ⟨B,5,none⟩=some (.int .i64 4))
  (H:w.cell? ⟨B,6,none⟩=some (.int .i64 5)) (I:w.cell? ⟨B,7,none⟩=some (.int .i64 4)) (J:w.cell? ⟨B,8,none⟩=some (.int .i64 4)) (O:B<w.heap.size) :
  Calls Tryz.prog 127 #[.slice (some ⟨B,0,none⟩) 3 3,.agg #[a,b,c]] w fun e w'=>e=.returned (.int .i64 (iz a b c))∧Below w w w':=by
 go_enter Tryz.func127,Tryz.ntmps127;go_wp2;refine wp_loop_rounds 4 ?_;rw [rounds_succ];go_wp2;go_quiet (fail);go_wp2
 ·go_ret
  refine ⟨bD ?_,by (repeat' exact bel)⟩;simp_all [iz]
 ·rw [rounds_succ]
  go_wp2;go_quiet (fail);go_wp2
  ·go_ret
   refine ⟨bD ?_,by (repeat' exact bel)⟩;simp_all [iz]
  ·rw [rounds_succ]
   go_wp2;go_quiet (fail);go_wp2
   ·go_ret
    refine ⟨bD ?_,by (repeat' exact bel)⟩;simp_all [iz]
   ·rw [rounds_succ]
    go_wp2;go_ret;refine ⟨bD ?_,by (repeat' exact bel)⟩;simp_all [iz]
    try omega
def ra (w:World) (B:Nat):Prop:=
 w.cell? ⟨B,0,none⟩=some (.int .i64 4)∧w.cell? ⟨B,1,none⟩=some (.int .i64 4)∧w.cell? ⟨B,2,none⟩=some (.int .i64 5) ∧
 w.cell? ⟨B,3,none⟩=some (.int .i64 4)∧w.cell? ⟨B,4,none⟩=some (.int .i64 5)∧w.cell? ⟨B,5,none⟩=some (.int .i64 4) ∧
 w.cell? ⟨B,6,none⟩=some (.int .i64 5)∧w.cell? ⟨B,7,none⟩=some (.int .i64 4)∧w.cell? ⟨B,8,none⟩=some (.int .i64 4)∧B<w.heap.size
theorem xk (w:World):ra (w.alloc oX) w.heap.size:=by
 refine ⟨?_,?_,?_,?_,?_,?_,?_,?_,?_,?_⟩ <;> simp [oX]
theorem xW (w:World) (B:Nat) (h:B=w.heap.size):ra (w.alloc oX) B:=by rw [h];exact xk w
theorem qk {w:World} {B:Nat} (h:ra w B) (o:Obj):ra (w.alloc o) B:=by
 obtain ⟨f,E,F,G,H,I,J,O,U,V⟩:=h;have k:∀ i,(w.alloc o).cell? ⟨B,i,none⟩=w.cell? ⟨B,i,none⟩:=fun i=>World.cell?_alloc_lt w o ⟨B,i,none⟩ V
 exact ⟨(k 0).trans f,(k 1).trans E,(k 2).trans F,(k 3).trans G,(k 4).trans H,(k 5).trans I,(k 6).trans J,(k 7).trans O,(k 8).trans U,by simp;omega⟩
theorem vh (B:Nat) (a b c:Int) (w:World) (h:ra w B) :
  Calls Tryz.prog 99 #[.slice (some ⟨B,0,none⟩) 3 3,.agg #[a,b,c]] w fun e w'=>e=.returned (.int .i64 (iz a b c+1))∧Below w w w':=by
 have Y:-1≤iz a b c∧iz a b c≤2:=by unfold iz;split <;> (try split) <;> (try split) <;> omega
 have H:=hide h;clear h;go_enter Tryz.func99,Tryz.ntmps99;go_wp2_with fail;obtain ⟨o,E,F,G,I,J,O,U,V,W⟩:=qk (EL H) (.cells #[a,b,c] 22);refine (uM B a b c _ o E F G I J O U V W).mono ?_;clear o E F G I J O U V W;rintro e w1 ⟨rfl,f⟩;go_wp2;go_ret;refine ⟨rfl,?_⟩;exact (((Below.refl _ _).alloc (Nat.le_refl _) _).trans (f.mono af))
abbrev aI (c:aC):Value:=.agg #[.string c.name,c.kind,c.day,c.month,c.shift,c.shape,c.p0,c.p1,c.p2,c.cycle,c.extra,c.first,c.last,c.policy]
theorem C2 (c:aC) (w:World) (o:c.shape=2) :
  Calls Tryz.prog 68 #[aI c] w fun e w'=>e=.returned (.bool (decide c.weeks))∧Below w w w':=by
 obtain ⟨J,k,d,m,U,E,a,b,p,f,F,G,I,O⟩:=c;obtain rfl:E=2:=o;simp only [aI];cases h:(f==0)
 all_goals
  go_enter Tryz.func68,Tryz.ntmps68;go_wp2;go_quiet (fail);go_wp2;cases H:(a==0&&(b==0&&p==0))
  all_goals
   go_quiet ((first | (go_at_call 34;first | exact eK (fZ _ _ _) | exact cV (fZ _ _ _)) | (go_at_call 31;first | exact eK (cK _ _ _ _) | exact cV (cK _ _ _ _))));go_wp2;go_ret;refine ⟨bA ?_,by (repeat' exact bel)⟩;simp_all [aC.weeks,eG]
theorem Ce (c:aC) (w:World) (F:c.shape=3) :
  Calls Tryz.prog 68 #[aI c] w fun e w'=>e=.returned (.bool (decide c.weeks))∧Below w w w':=by
 obtain ⟨U,k,d,m,W,G,a,b,p,f,H,I,O,V⟩:=c;obtain rfl:G=3:=F;simp only [aI];cases h:(f==1) <;> cases o:(f==2) <;> cases E:(f==4)
 all_goals first
  | (exfalso;simp_all;done)
  | skip
 all_goals
  go_enter Tryz.func68,Tryz.ntmps68;go_wp2;go_quiet (fail);go_wp2;cases J:(a==0&&(b==0&&p==0))
  all_goals
   go_quiet ((first | (go_at_call 34;first | exact eK (fZ _ _ _) | exact cV (fZ _ _ _)) | (go_at_call 31;first | exact eK (cK _ _ _ _) | exact cV (cK _ _ _ _))));go_wp2;go_ret;refine ⟨bA ?_,by (repeat' exact bel)⟩;simp_all [aC.weeks,eG]
theorem yc (c:aC) (w:World) (f:(c.shape==1)=false) (h:(c.shape==2)=false) (o:(c.shape==3)=false) :
  Calls Tryz.prog 68 #[aI c] w fun e w'=>e=.returned (.bool (decide c.weeks))∧Below w w w':=by
 simp only [aI];go_enter Tryz.func68,Tryz.ntmps68;go_wp2;go_quiet (fail);go_wp2;go_ret;refine ⟨bA ?_,by (repeat' exact bel)⟩;simp_all [aC.weeks,eG]
theorem BB (c:aC) (w:World) (J:c.shape=1) :
    Calls Tryz.prog 68 #[aI c] w fun e w'=>e=.returned (.bool (decide c.weeks))∧Below w w w':=by
  obtain ⟨nm,k,d,m,sh,O,a,b,p,E,V,W,la,po⟩:=c;obtain rfl:O=1:=J;simp only [aI];cases G:(E==0)
  all_goals
    go_enter Tryz.func68,Tryz.ntmps68;go_wp2;go_quiet (fail);go_wp2;go_region_with (first | (go_at_call 100;refine (oV _).mono ?_;rintro e w' ⟨rfl,rfl⟩) | (go_at_call 99;refine (vh _ _ _ _ _ (xW _ _ af)).mono ?_;rintro e U ⟨rfl,f⟩))
    all_goals
      go_simp;obtain ⟨F,H⟩:=fc f;have o:=f.size;simp at o;have h : Below w w U := by
          refine Below.trans ?_ (f.mono ag)
          (repeat' exact bel)
      clear f;cases I:(decide (0<iz a b p+1))
      all_goals
        go_wp2;go_quiet ((first | (go_at_call 34;first | exact eK (fZ _ _ _) | exact cV (fZ _ _ _)) | (go_at_call 31;first | exact eK (cK _ _ _ _) | exact cV (cK _ _ _ _))));go_wp2;go_ret;refine ⟨bA ?_,below_drewN h _⟩;have Y:=I;clear F H;simp_all [aC.weeks,eG,Eg] <;> omega
theorem vH (c:aC) (w:World) :
  Calls Tryz.prog 68 #[aI c] w fun e w'=>e=.returned (.bool (decide c.weeks))∧Below w w w':=by
 by_cases f:c.shape=1
 ·exact BB c w f
 ·by_cases h:c.shape=2
  ·exact C2 c w h
  ·by_cases o:c.shape=3
   ·exact Ce c w o
   ·exact yc c w (beq_eq_false_iff_ne.2 f) (beq_eq_false_iff_ne.2 h) (beq_eq_false_iff_ne.2 o)
theorem Ca (F:ByteArray) (k d m H I a b p f h o E G:Int) (w:World) :
  Calls Tryz.prog 68 #[.agg #[.string F,k,d,m,H,I,a,b,p,f,h,o,E,G]] w
   fun e w'=>e=.returned (.bool (decide (aC.mk F k d m H I a b p f h o E G).weeks))∧Below w w w':=vH ⟨F,k,d,m,H,I,a,b,p,f,h,o,E,G⟩ w
end
end Go.Proofs.YtpebkobmhhnojaaGreatDoor
