/- Package vary: what the comparable weeks come to. -/
import Derived.Test.YtamnccechaooaaaGreatBookE
import Derived.Test.YtamnccechaooaaaGreatNTwinE
import Derived.Test.YtamnccechaooaaaGreatLongs
namespace Go.Proofs.YtamnccechaooaaaGreat
open Go.RowKit Qd
set_option linter.unusedSimpArgs false
set_option linter.unusedVariables false

set_option maxHeartbeats 800000 in
theorem wsub_any (a b : Int) (w : World) (ha : in64 a) (hb : in64 b) : Calls Tryz.prog 47 #[.int .i64 a, .int .i64 b] w fun e w' => e = .returned (.tuple #[.int .i64 (fitV (a - b)), .int .i64 (fitE (a - b))]) ∧ w = w' := by
  obtain ⟨n, hn⟩ : ∃ n, IntKind.i64.wrap (a - b) = n := ⟨_, rfl⟩
  have hn2 := hn
  rw [IntKind.wrap_i64] at hn2
  have hni : in64 n := by unfold in64; omega
  have har := around2 ha hb hni
  by_cases hf : in64 (a - b)
  · have HV := hide (fit_yes hf).1
    have HE := hide (fit_yes hf).2
    have hnn : n = a - b := by unfold in64 at hf; omega
    have hs : ¬ (bits .and .i64 (bits .xor .i64 a b) (bits .xor .i64 a n) < 0) := by rw [har]; unfold in64 at ha hb hf; omega
    have HN := hide hnn
    have hs2 : decide (bits .and .i64 (bits .xor .i64 a b) (bits .xor .i64 a n) < 0) = false := by simpa using hs
    clear hnn har hn2 hni hf hs
    go_enter Tryz.func47, Tryz.ntmps47
    go_wp2
    go_ret2
    exact ⟨ret_int2 (by rw [HV.out, HN.out]) HE.out.symm, rfl⟩
  · have HV := hide (fit_no hf).1
    have HE := hide (fit_no hf).2
    have hs : (bits .and .i64 (bits .xor .i64 a b) (bits .xor .i64 a n) < 0) := by rw [har]; unfold in64 at ha hb hf; omega
    have hs2 : decide (bits .and .i64 (bits .xor .i64 a b) (bits .xor .i64 a n) < 0) = true := by simpa using hs
    clear har hn2 hni hf hs
    go_enter Tryz.func47, Tryz.ntmps47
    go_wp2
    go_ret2
    exact ⟨ret_int2 HV.out.symm HE.out.symm, rfl⟩

/-- What the accruals are to a year: why they can not be split, and what falls to each week. -/
structure Parts where
  pe : Int → Int
  f : Int → Un → List Int
def TV (c : Cal) (P : List Po) (A : List Ac) (Z : Parts) (x : Un) : Int := tV c x P A (Z.pe x.yr) (Z.f x.yr)
def TE (c : Cal) (P : List Po) (A : List Ac) (Z : Parts) (x : Un) : Int := tE c x P A (Z.pe x.yr) (Z.f x.yr)
def totsE (c : Cal) (P : List Po) (A : List Ac) (Z : Parts) : List Un → Int
  | [] => 0
  | x :: l => if TE c P A Z x = 0 then totsE c P A Z l else TE c P A Z x
/-- What is known of a book in a calendar. -/
def BookOk (c : Cal) (P : List Po) (A : List Ac) (v2 : Value) (Z : Parts) : Prop := (P.length ≤ 5000 ∧ A.length ≤ 5000) ∧ (∀ p ∈ P, in64 p.n) ∧
  ∀ u : Un, unitE c u = 0 → chkE P A = 0 → PartsOk c u.yr A v2 (Z.pe u.yr) (Z.f u.yr) ∧ (Z.pe u.yr = 0 → (∀ x, ∀ n ∈ Z.f u.yr x, in64 n) ∧ (wkNs (Z.f u.yr) u.yr (cutA c u) (cutB c u - cutA c u)).length ≤ 500000)
theorem btotal_bk (c : Cal) (u : Un) (P : List Po) (A : List Ac) (Z : Parts) (v1 v2 : Value) (w : World) (hn : c.name.size ≤ 1000) (hP : Posts w v1 P) (hA : Accs w v2 A) (hB : BookOk c P A v2 Z) :
    Calls Tryz.prog 32 #[calV c, unitV u, .agg #[v1, v2]] w fun e w' => e = .returned (.tuple #[.int .i64 (TV c P A Z u), .int .i64 (TE c P A Z u)]) ∧ Below w.heap.size w w' :=
  btotal_any c u P A (Z.pe u.yr) (Z.f u.yr) v1 v2 w hn hP hA hB.1 hB.2.1 (fun h1 h2 => (hB.2.2 u h1 h2).1) (fun h1 h2 h3 => (hB.2.2 u h1 h2).2 h3)
theorem totsE_take {c : Cal} {P : List Po} {A : List Ac} {Z : Parts} {L : List Un} {j : Nat} {x : Un} (hx : L[j]? = some x) (h : totsE c P A Z (L.take j) = 0) (h0 : TE c P A Z x = 0) : totsE c P A Z (L.take (j + 1)) = 0 := by
  induction L generalizing j with
  | nil => simp at hx
  | cons y l ih =>
    cases j with
    | zero => simp at hx; subst hx; simp [totsE, h0]
    | succ j =>
      simp only [List.take_succ_cons, totsE] at h ⊢
      by_cases hy : TE c P A Z y = 0
      · rw [if_pos hy] at h ⊢; exact ih (by simpa using hx) h
      · rw [if_neg hy] at h; exact absurd h hy
theorem totsE_no {c : Cal} {P : List Po} {A : List Ac} {Z : Parts} {L : List Un} {j : Nat} {x : Un} (hx : L[j]? = some x) (h : totsE c P A Z (L.take j) = 0) (h0 : ¬ TE c P A Z x = 0) : totsE c P A Z L = TE c P A Z x := by
  induction L generalizing j with
  | nil => simp at hx
  | cons y l ih =>
    cases j with
    | zero => simp at hx; subst hx; simp [totsE, h0]
    | succ j =>
      simp only [List.take_succ_cons, totsE] at h ⊢
      by_cases hy : TE c P A Z y = 0
      · rw [if_pos hy] at h ⊢; exact ih (by simpa using hx) h
      · rw [if_neg hy] at h; exact absurd h hy
/-- What the comparable weeks come to. -/
def thS (c : Cal) (u : Un) (k : Int) (P : List Po) (A : List Ac) (Z : Parts) : Int := ((twL c u k).map (TV c P A Z)).sum
def thOk (c : Cal) (u : Un) (k : Int) (P : List Po) (A : List Ac) (Z : Parts) : Bool := decide (twE c u k = 0) && decide (totsE c P A Z (twL c u k) = 0)
def thV (c : Cal) (u : Un) (k : Int) (P : List Po) (A : List Ac) (Z : Parts) : Int := if thOk c u k P A Z then fitV (thS c u k P A Z) else 0
def thE (c : Cal) (u : Un) (k : Int) (P : List Po) (A : List Ac) (Z : Parts) : Int := if twE c u k = 12 then 0 else if twE c u k = 0 then (if totsE c P A Z (twL c u k) = 0 then fitE (thS c u k P A Z) else totsE c P A Z (twL c u k)) else twE c u k
def donL (L : List Int) (j : Nat) : List Int := L.take j ++ List.replicate (L.length - j) 0
theorem donL_len (L : List Int) (j : Nat) (h : j ≤ L.length) : (donL L j).length = L.length := by simp [donL]; omega
theorem donL_set (L : List Int) (j : Nat) (x : Int) (h : L[j]? = some x) : (donL L j).set j x = donL L (j + 1) := by
  have hj := (List.getElem?_eq_some_iff.1 h).1
  unfold donL
  have h1 : (L.take j).length = j := by rw [List.length_take]; omega
  rw [List.set_append_right _ _ (by omega), h1, Nat.sub_self, show L.length - j = (L.length - (j + 1)) + 1 by omega, List.replicate_succ, List.set_cons_zero, List.take_add_one, h]
  simp
theorem donL_full (L : List Int) : donL L L.length = L := by simp [donL]
theorem donL_zero (L : List Int) : donL L 0 = List.replicate L.length 0 := by simp [donL]

end Go.Proofs.YtamnccechaooaaaGreat
