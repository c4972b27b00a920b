/- Lemmas. -/
import Derived.BigGuardPart
import Derived.BigQuiet
import Derived.BigRegion
import Derived.ChangeAlike
import Derived.Deep.AppendLies
import Derived.Deep.DeepCutAuto
import Derived.Deep.DeepFit
import Derived.Deep.Draws
import Derived.Deep.LoopGhost
import Derived.Deep.QuietTactic
import Derived.Deep.RegionHeld3
import Derived.Deep.RegionWith
import Derived.Handy
import Derived.Lib.Hide
import Derived.Maps.AppendAt
import Derived.RegionTactic
import Derived.StillTailTactics
import Derived.Test.YtjhhmeoibfdcmaaGreatRows
import Derived.Test.YtjhhmeoibfdcmaaGreatWr00
import Derived.WalkKit
import Derived.WalkLawsBesides
import Derived.WalkSpells
set_option linter.unusedSimpArgs false
set_option linter.unusedVariables false
set_option maxRecDepth 100000
set_option maxHeartbeats 12800000
namespace Go.Proofs.YtjhhmeoibfdcmaaGreat
section
open Go.RowKit
theorem ai {α:Sort _} {a b:α} (h:a=b:=by kernel_rfl):a=b:=h
theorem aj {n m:Nat} {a b:World} (h:Below m a b) (g:n<a.heap.size:=by first | (simp;done) | (simp;omega) | omega):n<b.heap.size:=Nat.lt_of_lt_of_le g h.size
theorem ak {m:Nat} {a b:World} {p:Addr} {v:Bool} (h:Below m a b) (g:p.block<m:=by simp;try omega) (k:a.frozen? p=v:=by simp [World.cell?_alloc_at,World.cell?_alloc_past,World.frozen?_alloc_at,World.frozen?_alloc_past]):b.frozen? p=v:=by rw [h.frozen g];exact k
theorem am {m:Nat} {a b:World} {p:Addr} {v:Option Value} (h:Below m a b) (g:p.block<m:=by simp;try omega) (k:a.cell? p=v:=by simp [World.cell?_alloc_at,World.cell?_alloc_past,World.frozen?_alloc_at,World.frozen?_alloc_past]):b.cell? p=v:=by rw [h.cell g];exact k
instance:Coe Int Value:=⟨fun x=>.int .i64 x⟩
instance:Coe Nat Value:=⟨fun x=>.int .i64 (x:Int)⟩
instance:Coe World Nat:=⟨fun w=>w.heap.size⟩
theorem aY {a b:Bool} (h:a=b):Ending.returned (.bool a)=.returned (.bool b):=by rw [h]
theorem aZ {k:IntKind} {a b:Int} (h:a=b):Ending.returned (.int k a)=.returned (.int k b):=by rw [h]
theorem aw {k l:IntKind} {a b c d:Int} (h:a=c) (f:b=d):Ending.returned (.tuple #[.int k a,.int l b])=.returned (.tuple #[.int k c,.int l d]):=by rw [h,f]
theorem hide {p:Prop} (h:p):Hid p:=h
theorem IV {p:Prop} (h:Hid p):p:=h
theorem dU {P:Program} {f:FuncId} {o:Array Value} {w:World} {a n:Nat} {v:Value}
  (h:Calls P f o (w.drewN (a+n)) fun e G=>e=.returned v∧w.drewN (a+n)=G) :
  Calls P f o (w.drewN (a+n)) fun e E=>e=.returned v∧∃ m,E=w.drewN (a+m):=
 h.mono fun _ _ ⟨F,hm⟩=>⟨F,n,hm.symm⟩
theorem gn {P:Program} {f:FuncId} {o:Array Value} {w:World} {n:Nat} {v:Value}
  (h:Calls P f o (w.drewN n) fun e G=>e=.returned v∧w.drewN n=G):Calls P f o (w.drewN n) fun e E=>e=.returned v∧∃ m,E=w.drewN m:=
 h.mono fun _ _ ⟨F,hm⟩=>⟨F,n,hm.symm⟩
theorem gI {W f:World} (E:Below W.heap.size W f):(∀ b o,b<W.heap.size→f.cell? ⟨b,o,none⟩=W.cell? ⟨b,o,none⟩)∧(∀ b o,b<W.heap.size→f.frozen? ⟨b,o,none⟩=W.frozen? ⟨b,o,none⟩):=
 ⟨fun b o h=>E.cell (p:=⟨b,o,none⟩) h,fun b o h=>E.frozen (p:=⟨b,o,none⟩) h⟩
theorem sz {p:Prop} (h:p:=by first | omega | (simp;done) | (simp;omega)):p:=h
theorem bel {n:Nat} {w f:World} (h:Below n w f:=by repeat' (first | (with_reducible exact Below.refl _ _) | (with_reducible assumption) | (with_reducible refine Below.alloc ?_ ?_ _) | (with_reducible refine below_drewN ?_ _) | (with_reducible refine Below.drew ?_) | (with_reducible refine Below.setCell ?_ ?_ _) | (with_reducible refine Below.trans ?_ (Below.mono (by assumption) ?_)) | go_size | (simp at *;omega))):Below n w f:=h
theorem ww {n m:Nat} {w W f:World} (E:Below m W f) (h:Below n w W:=by exact bel) (o:n≤m:=by exact sz):Hid (Below n w f):=h.trans (E.mono o)
theorem an {n:Nat} {w f:World} (h:Below n w f:=by repeat' exact bel):Below n w f:=h
theorem ao {n m:Nat} {w W f o:World} (p:Below n w W) (F:Below m f o) (h:Below n w W→Below n w f:=by intro _;exact bel) (E:n≤m:=by exact sz):Hid (Below n w o):=(h p).trans (F.mono E)
@[go_sem] theorem L4 (d:Nat) (a b c x y z:Int) (w:World):(Op.equalIn (d+2) 22 (.agg #[.int .i64 a,.int .i64 b,.int .i64 c]) (.agg #[.int .i64 x,.int .i64 y,.int .i64 z])).run Tryz.prog w=.ok (a==x&&(b==y&&c==z)) w:=by
 have F:=Tryz.underlying3;have E:=Tryz.isAgg3;have G:=Tryz.sizeOf3;rw [Op.equalIn];simp only [Sem.run_bind,run_underlying Tryz.underlying22,Result.andThen_ok];simp only [Std.Legacy.Range.forIn_eq_forIn_range',Std.Legacy.Range.size,Nat.sub_zero,Nat.add_sub_cancel,Nat.div_one,List.range'_succ,List.range'_zero,List.forIn_cons,List.forIn_nil];go_simp;by_cases f:a=x <;> by_cases h:b=y <;> by_cases o:c=z <;> simp [f,h,o]
def dg (N i:Nat):Nat:=N / 65536 ^ i % 65536
theorem iS (N i:Nat):dg N i<65536:=Nat.mod_lt _ ag
theorem dr (i:Nat):0<65536 ^ i:=Nat.pow_pos ag
theorem mD (N i:Nat):N / 65536 ^ (i+1)=N / 65536 ^ i / 65536:=by rw [Nat.pow_succ,Nat.div_div_eq_div_mul]
theorem iG (N i:Nat):N / 65536 ^ i=N / 65536 ^ (i+1)*65536+dg N i:=by
 rw [mD,dg];omega
theorem iH (N i:Nat):N % 65536 ^ (i+1)=N % 65536 ^ i+65536 ^ i*dg N i:=by
 rw [Nat.pow_succ,Nat.mod_mul,dg]
theorem mi {N i:Nat} (h:N<65536 ^ i):dg N i=0:=by rw [dg,Nat.div_eq_of_lt h]
theorem my {H L i:Nat} (f:L<18446744073709551616):dg (H*18446744073709551616+L) (4+i)=dg H i:=by
 unfold dg;rw [Nat.pow_add,← Nat.div_div_eq_div_mul,show (65536:Nat) ^ 4=18446744073709551616 by decide,Nat.add_comm,Nat.add_mul_div_right _ _ ag,Nat.div_eq_of_lt f,Nat.zero_add]
theorem pO {H L i:Nat} (hi:i<4):dg (H*18446744073709551616+L) i=dg L i:=by
 unfold dg
 match i,hi with
 | 0,_=>simp;omega
 | 1,_=>simp;omega
 | 2,_=>simp;omega
 | 3,_=>simp;omega
def nZ (A B i:Nat):Nat:=(A % 65536 ^ i+B % 65536 ^ i) / 65536 ^ i
theorem Dv (A B:Nat):nZ A B 0=0:=by simp [nZ,Nat.mod_one]
theorem Ea (A B i:Nat):nZ A B i+dg A i+dg B i=(A % 65536 ^ (i+1)+B % 65536 ^ (i+1)) / 65536 ^ i:=by
 rw [iH,iH,nZ,show A % 65536 ^ i+65536 ^ i*dg A i+(B % 65536 ^ i+65536 ^ i*dg B i)=(A % 65536 ^ i+B % 65536 ^ i)+65536 ^ i*(dg A i+dg B i) by rw [Nat.mul_add];omega,Nat.add_mul_div_left _ _ (dr i)];omega
theorem D8 (A B i:Nat):(nZ A B i+dg A i+dg B i) / 65536=nZ A B (i+1):=by
 rw [Ea,nZ,Nat.pow_succ,← Nat.div_div_eq_div_mul]
theorem rG (A B i:Nat):(nZ A B i+dg A i+dg B i) % 65536=dg (A+B) i:=by
 rw [nZ,dg,dg,dg];have h:=Nat.add_div (a:=A) (b:=B) (dr i);rw [h];have f:(A % 65536 ^ i+B % 65536 ^ i) / 65536 ^ i=if 65536 ^ i≤A % 65536 ^ i+B % 65536 ^ i then 1 else 0:=by
  have o:=Nat.mod_lt A (dr i);have E:=Nat.mod_lt B (dr i)
  split
  ·exact Nat.div_eq_of_lt_le om om
  ·exact Nat.div_eq_of_lt om
 rw [f];omega
theorem DG (A B i:Nat):nZ A B i≤1:=by
 have f:=Nat.mod_lt A (dr i);have h:=Nat.mod_lt B (dr i);have:nZ A B i<2:=Nat.div_lt_of_lt_mul om;omega
theorem GQ {A B:Nat} (f:A<65536 ^ 8) (o:B<65536 ^ 8):nZ A B 8=0↔A+B<65536 ^ 8:=by
 rw [nZ,Nat.mod_eq_of_lt f,Nat.mod_eq_of_lt o];exact ⟨fun h=>by rcases Nat.div_eq_zero_iff.1 h with h | h <;> omega,fun h=>Nat.div_eq_of_lt h⟩
def nF (A B i:Nat):Nat:=if A % 65536 ^ i<B % 65536 ^ i then 1 else 0
theorem vr (A B:Nat):nF A B 0=0:=by simp [nF,Nat.mod_one]
theorem Ej (A B i:Nat):nF A B i≤1:=by unfold nF;split <;> omega
theorem uF (A B i:Nat):1-(dg A i+65536-dg B i-nF A B i) / 65536=nF A B (i+1):=by
 have o:=iS A i;have E:=iS B i;have F:=Nat.mod_lt A (dr i);have G:=Nat.mod_lt B (dr i);rw [nF,nF,iH A,iH B];generalize A % 65536 ^ i=a at *;generalize B % 65536 ^ i=b at *;generalize dg A i=x at *;generalize dg B i=y at *;generalize 65536 ^ i=M at *;rcases Nat.lt_trichotomy x y with h | h | h
 ·have:M*x+M≤M*y:=by rw [← Nat.mul_succ];exact Nat.mul_le_mul_left _ h
  rw [if_pos (show a+M*x<b+M*y by omega)]
  split <;> omega
 ·subst h
  by_cases f:a<b
  ·rw [if_pos f,if_pos om];omega
  ·rw [if_neg f,if_neg om];omega
 ·have:M*y+M≤M*x:=by rw [← Nat.mul_succ];exact Nat.mul_le_mul_left _ h
  rw [if_neg (show ¬ a+M*x<b+M*y by omega)]
  split <;> omega
theorem rF {A B:Nat} (h:B≤A) (i:Nat):(dg A i+65536-dg B i-nF A B i) % 65536=dg (A-B) i:=by
  have e:A=(A-B)+B:=om;generalize H:A-B=C at *;subst e;clear h H;have f:=Nat.mod_lt C (dr i);have o:=Nat.mod_lt B (dr i);have J:=rG C B i;have O:=DG C B i;have I:nF (C+B) B i=nZ C B i:=by
    clear J O;rw [nF,nZ,Nat.add_mod];generalize C % 65536 ^ i=c at f ⊢;generalize B % 65536 ^ i=b at o ⊢;generalize 65536 ^ i=M at f o ⊢;by_cases E:c+b<M
    · rw [Nat.mod_eq_of_lt E,if_neg om,Nat.div_eq_of_lt E]
    · have F : (c + b) % M = c + b - M := by
        rw [Nat.mod_eq_sub_mod om,Nat.mod_eq_of_lt om]
      have G:(c+b) / M=1:=Nat.div_eq_of_lt_le om om;rw [F,G,if_pos om]
  rw [I];have R:=iS C i;have S:=iS B i;omega
theorem Ij (X b left f:Nat) (o:0<b) (G:left=X / 2 % b) (I:f=X / 2 / b) :
  (if b≤left*2+X % 2 then left*2+X % 2-b=X % b∧f*2+1=X / b else left*2+X % 2=X % b∧f*2=X / b):=by
 have O:X=(X / 2)*2+X % 2:=om;have H:X / 2=b*(X / 2 / b)+X / 2 % b:=(Nat.div_add_mod _ _).symm;have J:left<b:=by rw [G];exact Nat.mod_lt _ o
 rw [← G,← I] at H;have E:X=left*2+X % 2+b*(f*2):=by
  rw [show b*(f*2)=(b*f)*2 by rw [Nat.mul_assoc]];omega
 have R:X % 2<2:=Nat.mod_lt _ ag;generalize X % 2=r at *
 split
 ·rename_i h
  have F:X=(left*2+r-b)+b*(f*2+1):=by rw [Nat.mul_add b,Nat.mul_one];omega
  exact ⟨by rw [F,Nat.add_mul_mod_self_left,Nat.mod_eq_of_lt om],by rw [F,Nat.add_mul_div_left _ _ o,Nat.div_eq_of_lt om];omega⟩
 ·rename_i h
  exact ⟨by rw [E,Nat.add_mul_mod_self_left,Nat.mod_eq_of_lt om],by rw [E,Nat.add_mul_div_left _ _ o,Nat.div_eq_of_lt om];omega⟩
end
end Go.Proofs.YtjhhmeoibfdcmaaGreat
