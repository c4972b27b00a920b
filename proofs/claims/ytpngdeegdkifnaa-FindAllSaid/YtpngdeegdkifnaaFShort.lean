/- Few years: the contract of short. -/
import Derived.Test.YtpngdeegdkifnaaUnitP
import Derived.BigQuiet
namespace Go.Proofs.Ytpngdeegdkifnaa
open Go.RowKit Go.Shelf Qd
set_option linter.unusedSimpArgs false
set_option linter.unusedVariables false

/-- Few years, and a short name. -/
def ShortP (c : Cal) (f t : Int) (e : Ending) : Prop := ∃ b : Bool, e = .returned (.bool b) ∧ (b = true → c.name.size ≤ 100 ∧ (-100000 ≤ f → f ≤ t → t ≤ 100000 → c.first ≤ f → t ≤ c.last → t - f ≤ 6))
set_option maxHeartbeats 1600000 in
theorem short_any (c : Cal) (f t : Int) (w : World) :
    Calls Try.prog 19 #[calV c, .int .i64 f, .int .i64 t] w fun e w' => ShortP c f t e ∧ Below w.heap.size w w' := by
  simp only [calV]
  go_enter Try.func19, Try.ntmps19
  by_cases h0 : c.name.size ≤ 100
  · by_cases h1 : t < f
    · go_wp2
      all_goals first
        | (exfalso; omega)
        | (go_ret; exact ⟨⟨_, rfl, fun _ => ⟨h0, fun _ h => by omega⟩⟩, by (repeat' (first | (with_reducible exact Below.refl _ _) | (with_reducible assumption) | (with_reducible refine Below.alloc ?_ ?_ _) | (with_reducible refine below_drewN ?_ _) | (with_reducible refine Below.drew ?_) | (with_reducible refine Below.setCell ?_ ?_ _) | (with_reducible refine Below.trans ?_ (Below.mono (by assumption) ?_)) | go_size | (simp at *; omega)))⟩)
    · by_cases h2 : f < c.first
      · go_wp2
        all_goals first
          | (exfalso; omega)
          | (go_ret; exact ⟨⟨_, rfl, fun _ => ⟨h0, fun _ _ _ h => by omega⟩⟩, by (repeat' (first | (with_reducible exact Below.refl _ _) | (with_reducible assumption) | (with_reducible refine Below.alloc ?_ ?_ _) | (with_reducible refine below_drewN ?_ _) | (with_reducible refine Below.drew ?_) | (with_reducible refine Below.setCell ?_ ?_ _) | (with_reducible refine Below.trans ?_ (Below.mono (by assumption) ?_)) | go_size | (simp at *; omega)))⟩)
      · by_cases h3 : c.last < t
        · go_wp2
          all_goals first
            | (exfalso; omega)
            | (go_ret; exact ⟨⟨_, rfl, fun _ => ⟨h0, fun _ _ _ _ h => by omega⟩⟩, by (repeat' (first | (with_reducible exact Below.refl _ _) | (with_reducible assumption) | (with_reducible refine Below.alloc ?_ ?_ _) | (with_reducible refine below_drewN ?_ _) | (with_reducible refine Below.drew ?_) | (with_reducible refine Below.setCell ?_ ?_ _) | (with_reducible refine Below.trans ?_ (Below.mono (by assumption) ?_)) | go_size | (simp at *; omega)))⟩)
        · go_wp2
          all_goals first
            | (exfalso; omega)
            | (go_ret
               refine ⟨⟨_, rfl, fun hb => ⟨h0, fun g1 g2 g3 _ _ => ?_⟩⟩, by (repeat' (first | (with_reducible exact Below.refl _ _) | (with_reducible assumption) | (with_reducible refine Below.alloc ?_ ?_ _) | (with_reducible refine below_drewN ?_ _) | (with_reducible refine Below.drew ?_) | (with_reducible refine Below.setCell ?_ ?_ _) | (with_reducible refine Below.trans ?_ (Below.mono (by assumption) ?_)) | go_size | (simp at *; omega)))⟩
               have hw : wrap64 (t - f) = t - f := by unfold wrap64; omega
               rw [hw] at hb; simpa using hb)
  · go_wp2
    all_goals first
      | (exfalso; omega)
      | (go_ret; exact ⟨⟨_, rfl, fun h => by simp at h⟩, by (repeat' (first | (with_reducible exact Below.refl _ _) | (with_reducible assumption) | (with_reducible refine Below.alloc ?_ ?_ _) | (with_reducible refine below_drewN ?_ _) | (with_reducible refine Below.drew ?_) | (with_reducible refine Below.setCell ?_ ?_ _) | (with_reducible refine Below.trans ?_ (Below.mono (by assumption) ?_)) | go_size | (simp at *; omega)))⟩)
end Go.Proofs.Ytpngdeegdkifnaa
