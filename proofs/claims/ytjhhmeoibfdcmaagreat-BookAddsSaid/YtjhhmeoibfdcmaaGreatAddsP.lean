/- Plain law of BookAdds: one posting more. -/
import Derived.Test.YtjhhmeoibfdcmaaGreatBookX
import Derived.Test.YtjhhmeoibfdcmaaGreatMRl
namespace Go.Proofs.YtjhhmeoibfdcmaaGreat
open Go.RowKit Qd
set_option linter.unusedSimpArgs false
set_option linter.unusedVariables false

theorem inD_snoc (s : Sp) (P : List Po) (p : Po) : (inD s (P ++ [p])).sum = (inD s P).sum + (if s.a ≤ p.day ∧ p.day ≤ s.b then p.n else 0) := by
  induction P with
  | nil => rw [List.nil_append, inD_cons]; simp [inD]
  | cons x P ih => rw [List.cons_append, inD_cons, inD_cons, ih]; omega
theorem tot_snoc (c : Cal) (u : Un) (P : List Po) (p : Po) (f : Un → List Int) : (totL c u (P ++ [p]) f).sum = (totL c u P f).sum + (if (spV c u).a ≤ p.day ∧ p.day ≤ (spV c u).b then p.n else 0) := by
  rw [totL, totL, List.sum_append, List.sum_append, inD_snoc]; omega
theorem chk_snoc {P : List Po} {A : List Ac} {p : Po} (h : chkE P A = 0) (hl : P.length < 4096) (hd : isB p.day = true) : chkE (P ++ [p]) A = 0 := by
  obtain ⟨h1, h2, h3, h4⟩ := chk_all h
  refine chk_mk (by simp; omega) h2 (fun q hq => ?_) h4
  rcases List.mem_append.1 hq with hq | hq
  · exact h3 q hq
  · simp at hq; subst hq; exact hd
/-- A day lies in a unit just if it is found there. -/
theorem day_in {c : Cal} {u : Un} (hU : unitE c u = 0) (d : Int) : ((spV c u).a ≤ d ∧ d ≤ (spV c u).b) ↔ (fdE c d u.lv = 0 ∧ fdU c d u.lv = u) := by
  constructor
  · intro h
    have := fd_unit (c := c) (d := d) hU h.1 h.2
    exact this
  · intro ⟨h1, h2⟩
    have := fd_sp h1
    rw [h2] at this
    exact this
theorem adds_T {c : Cal} {u : Un} {P : List Po} {A : List Ac} {Z : Parts} {p : Po} (hT : TE c P A Z u = 0) (hl : P.length < 4096) (hd : isB p.day = true) :
    ((fdE c p.day u.lv = 0 ∧ fdU c p.day u.lv = u) → TE c (P ++ [p]) A Z u = fitE (TV c P A Z u + p.n) ∧ TV c (P ++ [p]) A Z u = fitV (TV c P A Z u + p.n)) ∧
    (¬ (fdE c p.day u.lv = 0 ∧ fdU c p.day u.lv = u) → TE c (P ++ [p]) A Z u = 0 ∧ TV c (P ++ [p]) A Z u = TV c P A Z u) := by
  obtain ⟨hU, hC, hp, h64, hV⟩ := T_zero hT
  obtain ⟨t1, t2⟩ := T_ok (Z := Z) hU (chk_snoc hC hl hd) hp
  rw [tot_snoc] at t1 t2
  have hiff := day_in hU p.day
  constructor
  · intro h
    rw [if_pos (hiff.2 h), ← hV] at t1 t2
    exact ⟨t1, t2⟩
  · intro h
    rw [if_neg (fun x => h (hiff.1 x)), Int.add_zero] at t1 t2
    rw [(fit_yes h64).2] at t1
    rw [(fit_yes h64).1] at t2
    exact ⟨t1, by rw [t2, hV]⟩
end Go.Proofs.YtjhhmeoibfdcmaaGreat
