/- Contracts of shape.Weeks. -/
import Derived.Test.YtpngdeegdkifnaaYearA
namespace Go.Proofs.Ytpngdeegdkifnaa
open Go.RowKit Qd
set_option linter.unusedSimpArgs false
set_option linter.unusedVariables false

theorem ends_any (c : Cal) (y : Int) (w : World) (hn : c.name.size ≤ 1000) (hE : askE c y 1601 = 0) : Calls Try.prog 54 #[calV c, .int .i64 y] w (EndsPost c y w) := by
  by_cases h4 : c.shape = 4
  · exact ends_broad c y w hn hE h4
  · by_cases h5 : c.shape = 5
    · exact ends_month c y w hn hE h5
    · exact ends_weeks c y w hn hE h4 h5

/-- How many weeks the period behind k of them has. -/
def wkAt (c : Cal) (y : Int) (k : Nat) : Int := (endAt c y k - fromAt c y k) / 7 + 1
def weeksL (c : Cal) (y : Int) : List Int := (List.range (endsL c y).length).map (wkAt c y)
theorem weeks_len (c : Cal) (y : Int) : (weeksL c y).length = (endsL c y).length := by simp [weeksL]
def WeeksPost (c : Cal) (y : Int) (w : World) (e : Ending) (w' : World) : Prop :=
  ∃ g, w.heap.size ≤ g ∧ e = .returned (.tuple #[.slice (some ⟨g, 0, none⟩) (endsL c y).length (endsL c y).length, .int .i64 0]) ∧ IntsAt w' g (weeksL c y) ∧ Below w.heap.size w w'

/-- k of one list, the rest of another one. -/
def mixL (A B : List Int) (k : Nat) : List Int := A.take k ++ B.drop k
theorem mix_zero (A B : List Int) : mixL A B 0 = B := by simp [mixL]
theorem mix_len (A B : List Int) (k : Nat) (h : A.length = B.length) (hk : k ≤ B.length) : (mixL A B k).length = B.length := by simp [mixL]; omega
theorem mix_get (A B : List Int) (k : Nat) (h : A.length = B.length) (hk : k < B.length) : (mixL A B k)[k]?.getD 0 = B[k]?.getD 0 := by
  unfold mixL
  rw [List.getElem?_append_right (by simp; omega)]
  simp [h, Nat.min_eq_left (Nat.le_of_lt hk)]
theorem mix_set (A B : List Int) (k : Nat) (h : A.length = B.length) (hk : k < B.length) : (mixL A B k).set k (A[k]?.getD 0) = mixL A B (k + 1) := by
  unfold mixL
  have h1 : (A.take k).length = k := by simp; omega
  rw [List.set_append_right _ _ (by omega), h1, Nat.sub_self]
  have h2 : B.drop k = B[k] :: B.drop (k + 1) := List.drop_eq_getElem_cons hk
  rw [h2, List.set_cons_zero, List.take_succ_eq_append_getElem (by omega), List.append_assoc]
  congr 1
  simp [show k < A.length by omega]
theorem mix_full (A B : List Int) (h : A.length = B.length) : mixL A B B.length = A := by simp [mixL, ← h]

end Go.Proofs.Ytpngdeegdkifnaa
