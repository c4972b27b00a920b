/- Quarters counted: no program in sight. -/
set_option linter.unusedSimpArgs false
set_option linter.unusedVariables false
namespace Qd
/-- The quarter of the period behind k of them. -/
def qq (per k : Int) : Int := (4 * (k + 1) + per - 1) / per
def lastq (per : Int) (k : Nat) : Int := if k = 0 then 1 else qq per (k - 1)
def cntQ (per : Int) : Nat → Int → Int
  | 0, _ => 0
  | k + 1, i => cntQ per k i + if qq per k = i then 1 else 0
def Pers (per : Int) : Prop := per = 12 ∨ per = 13 ∨ per = 26 ∨ per = 52
theorem qq_step (per : Int) (hp : Pers per) (k : Nat) (hk : (k : Int) < per) : 1 ≤ qq per k ∧ qq per k ≤ 4 ∧ lastq per k ≤ qq per k ∧ qq per k ≤ lastq per k + 1 := by
  unfold lastq qq
  rcases hp with rfl | rfl | rfl | rfl <;> (split <;> omega)
theorem lastq_succ (per : Int) (k : Nat) : lastq per (k + 1) = qq per k := by
  unfold lastq
  rw [if_neg (by omega)]
  congr 1
  omega
theorem lastq_end (per : Int) (hp : Pers per) : lastq per per.toNat = 4 := by
  rcases hp with rfl | rfl | rfl | rfl <;> decide +kernel
theorem cntQ_bd (per : Int) (k : Nat) (i : Int) : 0 ≤ cntQ per k i ∧ cntQ per k i ≤ k := by
  induction k with
  | zero => simp [cntQ]
  | succ k ih => unfold cntQ; split <;> omega
theorem cnt_end (per : Int) (hp : Pers per) : 3 ≤ cntQ per per.toNat 1 ∧ 3 ≤ cntQ per per.toNat 2 ∧ 3 ≤ cntQ per per.toNat 3 ∧ 3 ≤ cntQ per per.toNat 4 ∧
    (cntQ per per.toNat 3 + cntQ per per.toNat 4 - cntQ per per.toNat 1 - cntQ per per.toNat 2 = 0 ∨ cntQ per per.toNat 3 + cntQ per per.toNat 4 - cntQ per per.toNat 1 - cntQ per per.toNat 2 = 1) := by
  rcases hp with rfl | rfl | rfl | rfl <;> decide +kernel
end Qd
