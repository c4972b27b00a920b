/- Contracts of the references: names, calendars, first part. -/
import Derived.Test.YtojdngkleiokgaaGreatQuarter
namespace Go.Proofs.YtojdngkleiokgaaGreat
open Go.RowKit Qd
set_option linter.unusedSimpArgs false
set_option linter.unusedVariables false

set_option maxHeartbeats 400000 in
theorem rletter_any (b : Int) (w : World) :
    Calls Tryz.prog 136 #[.int .u8 b] w fun e w' => e = .returned (.bool (letterB b)) ∧ w = w' := by
  go_enter Tryz.func136, Tryz.ntmps136
  go_wp2
  all_goals (go_ret; refine ⟨ret_bool ?_, rfl⟩; simp [letterB]; try omega)
set_option maxHeartbeats 400000 in
theorem rdigit_any (b : Int) (w : World) :
    Calls Tryz.prog 155 #[.int .u8 b] w fun e w' => e = .returned (.bool (digitB b)) ∧ w = w' := by
  go_enter Tryz.func155, Tryz.ntmps155
  go_wp2
  all_goals (go_ret; refine ⟨ret_bool ?_, rfl⟩; simp [digitB]; try omega)
set_option maxHeartbeats 400000 in
theorem rinner_any (b : Int) (w : World) :
    Calls Tryz.prog 137 #[.int .u8 b] w fun e w' => e = .returned (.bool (innerB b)) ∧ w = w' := by
  go_enter Tryz.func137, Tryz.ntmps137
  go_wp2_with (first | (go_at_call 136; refine (rletter_any _ _).mono ?_; rintro e w' ⟨rfl, rfl⟩) | (go_at_call 155; refine (rdigit_any _ _).mono ?_; rintro e w' ⟨rfl, rfl⟩))
  all_goals (go_ret; refine ⟨ret_bool ?_, rfl⟩; simp_all [innerB]; try rfl)

set_option maxHeartbeats 800000 in
theorem rname_any (s : ByteArray) (w : World) (hs : s.size ≤ 1000) :
    Calls Tryz.prog 95 #[.string s] w fun e w' => e = .returned (.bool (nameB s)) ∧ w = w' := by
  by_cases h0 : 0 < s.size
  · by_cases h16 : s.size ≤ 16
    · cases hl : letterB (s[0].toNat : Int)
      · have HN := hide (show nameB s = false by rw [nameB_yes s h0, hl]; simp)
        go_enter Tryz.func95, Tryz.ntmps95
        go_wp2_with (first | (go_at_call 136; refine (rletter_any _ _).mono ?_; rintro e w' ⟨rfl, rfl⟩))
        all_goals first
          | (exfalso; omega)
          | (go_ret; exact ⟨ret_bool HN.out.symm, rfl⟩)
      · have HN := hide (show nameB s = decide (runLen s.data.toList = s.size) by rw [nameB_yes s h0, hl]; simp [h16])
        go_enter Tryz.func95, Tryz.ntmps95
        go_wp2_with (first | (go_at_call 136; refine (rletter_any _ _).mono ?_; rintro e w' ⟨rfl, rfl⟩))
        all_goals first
          | (exfalso; omega)
          | skip
        go_loop [20] (fun n => ∃ k : Nat, k ≤ s.size ∧ n = .int .i64 k ∧ Hid (∀ j, (hj : j < k) → (hjs : j < s.size) → innerB (byteI s[j]) = true)) (fun n => s.size - (intOf n).toNat)
        case atStart => exact ⟨0, Nat.zero_le _, rfl, Lib.hid (fun j hj => by omega)⟩
        case round =>
          obtain ⟨k, hk, rfl, H⟩ := hrel
          by_cases hlt : k < s.size
          · by_cases hi : innerB (byteI s[k]) = true
            · have HI := Lib.hid hi
              have hi2 : innerB (s[k].toNat : Int) = true := hi
              clear hi
              go_wp2_with (go_at_call 137; refine (rinner_any _ _).mono ?_; rintro e w' ⟨rfl, rfl⟩)
              go_round
              case rel => exact ⟨k + 1, by omega, by go_num, Lib.hid (fun j hj hjs => by
                rcases Nat.lt_or_ge j k with h | h
                · exact H.out j h hjs
                · obtain rfl : j = k := by omega
                  exact HI.out)⟩
              case measure => simp [intOf]; omega
            · have HI := Lib.hid hi
              have hi2 : innerB (s[k].toNat : Int) = false := by simpa [byteI] using hi
              clear hi
              go_wp2_with (go_at_call 137; refine (rinner_any _ _).mono ?_; rintro e w' ⟨rfl, rfl⟩)
              go_ret
              refine ⟨ret_bool ?_, rfl⟩
              have : runLen s.data.toList = k := takeWhile_stop _ _ k (by rw [len_bytes]; exact hlt) (fun j hj => H.out j hj (by omega)) (by have := HI.out; simp only [Bool.not_eq_true] at this; exact this)
              rw [HN.out, this]
              simp
              omega
          · go_wp2
            go_ret
            refine ⟨ret_bool ?_, rfl⟩
            have : runLen s.data.toList = s.data.toList.length := takeWhile_all _ _ (fun j hj => H.out j (by have := len_bytes s; omega) (by have := len_bytes s; omega))
            rw [HN.out, this, len_bytes]
            simp
    · have HN := hide (show nameB s = false by rw [nameB_yes s h0]; simp [h16])
      go_enter Tryz.func95, Tryz.ntmps95
      go_wp2
      all_goals first
        | (exfalso; omega)
        | (go_ret; exact ⟨ret_bool HN.out.symm, rfl⟩)
  · have HN := hide (nameB_no s h0)
    go_enter Tryz.func95, Tryz.ntmps95
    go_wp2
    all_goals first
      | (exfalso; omega)
      | (go_ret; exact ⟨ret_bool HN.out.symm, rfl⟩)

def rmanyP (c : Cal) : Int := if c.shape = 3 ∧ c.cycle ≤ 0 then 0 else manyP c.shape c.cycle
set_option maxHeartbeats 400000 in
theorem rmany_any (c : Cal) (w : World) :
    Calls Tryz.prog 97 #[calV c] w fun e w' => e = .returned (.int .i64 (rmanyP c)) ∧ Below w.heap.size w w' := by
  simp only [calV]
  go_enter Tryz.func97, Tryz.ntmps97
  go_wp2
  all_goals
    go_ret
    refine ⟨ret_int ?_, by (repeat' exact bel)⟩
    simp_all [rmanyP, manyP]
  all_goals (try omega)

/-- The shape of weeks may be. -/
def calShaped (c : Cal) : Prop :=
  (c.shape = 1 ∧ ((c.p0 = 4 ∧ c.p1 = 4 ∧ c.p2 = 5) ∨ (c.p0 = 4 ∧ c.p1 = 5 ∧ c.p2 = 4) ∨ (c.p0 = 5 ∧ c.p1 = 4 ∧ c.p2 = 4)) ∧ c.cycle = 0) ∨ (c.shape = 2 ∧ (c.p0 = 0 ∧ c.p1 = 0 ∧ c.p2 = 0) ∧ c.cycle = 0) ∨ (c.shape = 3 ∧ (c.p0 = 0 ∧ c.p1 = 0 ∧ c.p2 = 0) ∧ (c.cycle = 1 ∨ c.cycle = 2 ∨ c.cycle = 4))
instance (c : Cal) : Decidable (calShaped c) := by unfold calShaped; infer_instance
theorem weeks_shaped (c : Cal) : c.weeks ↔ calShaped c ∧ 1 ≤ c.extra ∧ c.extra ≤ manyP c.shape c.cycle := by
  unfold Cal.weeks weeksP calShaped
  exact Iff.rfl

set_option maxHeartbeats 1600000 in
theorem shaped_any (c : Cal) (w : World) :
    Calls Tryz.prog 96 #[calV c] w fun e w' => e = .returned (.bool (decide (calShaped c))) ∧ Below w.heap.size w w' := by
  simp only [calV]
  have h1 : c.shape = 1 ∨ c.shape = 2 ∨ c.shape = 3 ∨ (c.shape ≠ 1 ∧ c.shape ≠ 2 ∧ c.shape ≠ 3) := by omega
  cases hp : (c.p0 == 0 && (c.p1 == 0 && c.p2 == 0)) <;> cases hc : (c.cycle == 0) <;> rcases h1 with h | h | h | ⟨h, h', h''⟩
  all_goals
    first
      | (have e1 : (c.shape == 1) = true := by simp [h])
      | (have e1 : (c.shape == 1) = false := by simp [h])
    first
      | (have e2 : (c.shape == 2) = true := by simp [h])
      | (have e2 : (c.shape == 2) = false := by simp [h])
      | (have e2 : (c.shape == 2) = false := by simp [h'])
    first
      | (have e3 : (c.shape == 3) = true := by simp [h])
      | (have e3 : (c.shape == 3) = false := by simp [h])
      | (have e3 : (c.shape == 3) = false := by simp [h''])
    go_enter Tryz.func96, Tryz.ntmps96
    go_wp2
  all_goals first
    | (go_ret; refine ⟨ret_bool ?_, by (repeat' exact bel)⟩; simp_all [calShaped]; try omega; done)
    | skip
  all_goals (first | (rw [beq_dec]; done) | (simp only [beq_dec]; grind) | grind)
end Go.Proofs.YtojdngkleiokgaaGreat
