/- Contracts of frames: looking up in sorted numbers. -/
import Derived.Test.YtpngdeegdkifnaaFrameA
import Derived.Outline
namespace Go.Proofs.Ytpngdeegdkifnaa
open Go.RowKit Qd
set_option linter.unusedSimpArgs false
set_option linter.unusedVariables false

theorem nan_int (a : Int) (w : World) : Calls Try.prog 85 #[.int .i64 a] w fun e w' => e = .returned (.bool false) ∧ w = w' := by
  go_enter Try.func85, Try.ntmps85
  go_wp2
  go_ret
  exact ⟨ret_bool (by simp), rfl⟩
theorem nan_int2 (a : Int) (w : World) : Calls Try.prog 105 #[.int .i64 a] w fun e w' => e = .returned (.bool false) ∧ w = w' := by
  go_enter Try.func105, Try.ntmps105
  go_wp2
  go_ret
  exact ⟨ret_bool (by simp), rfl⟩
theorem less_int (a b : Int) (w : World) : Calls Try.prog 84 #[.int .i64 a, .int .i64 b] w fun e w' => e = .returned (.bool (decide (a < b))) ∧ w = w' := by
  go_enter Try.func84, Try.ntmps84
  go_wp2_with (go_at_call 105; refine (nan_int2 _ _).mono ?_; rintro e w' ⟨rfl, rfl⟩)
  all_goals (go_ret; exact ⟨ret_bool (by simp), rfl⟩)

def BsPost (l : List Int) (x : Int) (w : World) (e : Ending) (w' : World) : Prop := ∃ b, e = .returned (.tuple #[.int .i64 (bsL l x : Int), .bool b]) ∧ w = w'
set_option maxRecDepth 100000 in
set_option maxHeartbeats 1600000 in
theorem bsearch_any (g : Nat) (l : List Int) (x : Int) (w : World) (hl : l.length ≤ 100000) (hI : IntsAt w g l) (hs : ∀ i j, i ≤ j → j < l.length → l[i]?.getD 0 ≤ l[j]?.getD 0) :
    Calls Try.prog 61 #[.slice (some ⟨g, 0, none⟩) l.length l.length, .int .i64 x] w (BsPost l x w) := by
  have HS := hide hs
  have HI := hide hI
  obtain ⟨n, hn⟩ : ∃ n, n = l.length := ⟨_, rfl⟩
  have hn2 : n ≤ 100000 := by omega
  have HN := hide hn
  rw [← hn]
  clear hs hI hn hl
  go_enter Try.func61, Try.ntmps61
  go_wp2_with fail
  go_loop [7, 8] (fun s7 s8 => ∃ a b : Nat, s7 = .int .i64 a ∧ s8 = .int .i64 b ∧ a ≤ b ∧ b ≤ n ∧ Hid (∀ t, t < a → l[t]?.getD 0 < x) ∧ Hid (∀ t, b ≤ t → t < n → x ≤ l[t]?.getD 0)) (fun s7 s8 => (intOf s8 - intOf s7).toNat)
  case atStart => exact ⟨0, n, rfl, rfl, by omega, by omega, hide (fun t ht => by omega), hide (fun t h1 h2 => by omega)⟩
  case round =>
    obtain ⟨a, b, rfl, rfl, hab, hbn, HA, HB⟩ := hrel
    by_cases hlt : a < b
    · have c1 : w.cell? ⟨g, (a + b) / 2, none⟩ = some (.int .i64 (l[(a + b) / 2]?.getD 0)) := HI.out.cell (by rw [← HN.out]; omega)
      by_cases hx : l[(a + b) / 2]?.getD 0 < x
      · have hxb : decide (l[(a + b) / 2]?.getD 0 < x) = true := by simpa using hx
        have HX := hide hx
        clear hx
        go_wp2_with (go_at_call 84; refine (less_int _ _ _).mono ?_; rintro e w' ⟨rfl, rfl⟩)
        refine ⟨⟨(a + b) / 2 + 1, b, ?_, rfl, by omega, hbn, hide (fun t ht => ?_), HB⟩, by simp [intOf]; omega⟩
        · congr 1
        · have h1 := HS.out t ((a + b) / 2) (by omega) (by rw [← HN.out]; omega)
          have h2 := HX.out
          omega
      · have hxb : decide (l[(a + b) / 2]?.getD 0 < x) = false := by simpa using hx
        have HX := hide hx
        clear hx
        go_wp2_with (go_at_call 84; refine (less_int _ _ _).mono ?_; rintro e w' ⟨rfl, rfl⟩)
        refine ⟨⟨a, (a + b) / 2, rfl, ?_, by omega, by omega, HA, hide (fun t ht1 ht2 => ?_)⟩, by simp [intOf]; omega⟩
        · congr 1
        · have h1 := HS.out ((a + b) / 2) t (by omega) (by rw [← HN.out]; omega)
          have h2 := HX.out
          omega
    · obtain rfl : a = b := by omega
      have HR := hide (show bsL l x = a from bsL_eq l x a (by rw [← HN.out]; omega) (fun j hj => HA.out j hj) (fun h => HB.out a (Nat.le_refl _) (by rw [HN.out]; exact h)))
      by_cases hn : a < n
      · have c1 : w.cell? ⟨g, a, none⟩ = some (.int .i64 (l[a]?.getD 0)) := HI.out.cell (by rw [← HN.out]; omega)
        go_wp2_with (go_at_call 85; refine (nan_int _ _).mono ?_; rintro e w' ⟨rfl, rfl⟩)
        all_goals
          go_ret2
          exact ⟨_, by rw [HR.out]; rfl, rfl⟩
      · go_wp2_with (go_at_call 85; refine (nan_int _ _).mono ?_; rintro e w' ⟨rfl, rfl⟩)
        all_goals
          go_ret2
          exact ⟨_, by rw [HR.out]; rfl, rfl⟩
end Go.Proofs.Ytpngdeegdkifnaa
