/- Contracts of lex and field, first part. -/
import Derived.Test.YtjhhmeoibfdcmaaGreatDoorBase
import Derived.Test.YtjhhmeoibfdcmaaGreatDoorPlainA
namespace Go.Proofs.YtjhhmeoibfdcmaaGreatDoor
open Go.RowKit Qd
set_option linter.unusedSimpArgs false
set_option linter.unusedVariables false


set_option maxHeartbeats 400000 in
theorem between_any (n a b : Int) (w : World) :
    Calls Tryz.prog 62 #[.int .i64 n, .int .i64 a, .int .i64 b] w fun e w' => e = .returned (.bool (decide (a ≤ n ∧ n ≤ b))) ∧ w = w' := by
  go_enter Tryz.func62, Tryz.ntmps62
  go_wp2
  all_goals (go_ret; refine ⟨ret_bool ?_, rfl⟩; simp; try omega)

set_option maxHeartbeats 400000 in
theorem letter_any (b : Int) (w : World) :
    Calls Tryz.prog 86 #[.int .u8 b] w fun e w' => e = .returned (.bool (letterB b)) ∧ w = w' := by
  go_enter Tryz.func86, Tryz.ntmps86
  go_wp2
  all_goals (go_ret; refine ⟨ret_bool ?_, rfl⟩; simp [letterB]; try omega)

set_option maxHeartbeats 400000 in
theorem digit_any (b : Int) (w : World) :
    Calls Tryz.prog 106 #[.int .u8 b] w fun e w' => e = .returned (.bool (digitB b)) ∧ w = w' := by
  go_enter Tryz.func106, Tryz.ntmps106
  go_wp2
  all_goals (go_ret; refine ⟨ret_bool ?_, rfl⟩; simp [digitB]; try omega)

set_option maxHeartbeats 400000 in
theorem inner_any (b : Int) (w : World) :
    Calls Tryz.prog 88 #[.int .u8 b] w fun e w' => e = .returned (.bool (innerB b)) ∧ w = w' := by
  go_enter Tryz.func88, Tryz.ntmps88
  go_wp2_with (first | (go_at_call 86; refine (letter_any _ _).mono ?_; rintro e w' ⟨rfl, rfl⟩) | (go_at_call 106; refine (digit_any _ _).mono ?_; rintro e w' ⟨rfl, rfl⟩))
  all_goals (go_ret; refine ⟨ret_bool ?_, rfl⟩; simp_all [innerB]; try rfl)

theorem len_bytes (s : ByteArray) : s.data.toList.length = s.size := rfl
theorem take_list (s : ByteArray) (k : Nat) (hk : k < s.size) : s.data.toList[k]'(by simpa using hk) = s[k] := rfl

set_option maxHeartbeats 400000 in
theorem run_inner (s : ByteArray) (w : World) (hs : s.size ≤ 1000) :
    Calls Tryz.prog 87 #[.string s, .func (.func 88) #[] #[]] w fun e w' => e = .returned (.int .i64 (runLen s.data.toList)) ∧ w = w' := by
  go_enter Tryz.func87, Tryz.ntmps87
  go_wp2
  go_loop [5] (fun n => ∃ k : Nat, k ≤ s.size ∧ n = .int .i64 k ∧ Hid (∀ j, (hj : j < k) → (hjs : j < s.size) → innerB (byteI s[j]) = true)) (fun n => s.size - (intOf n).toNat)
  case atStart => exact ⟨0, Nat.zero_le _, rfl, Lib.hid (fun j hj => by omega)⟩
  case round =>
    obtain ⟨k, hk, rfl, H⟩ := hrel
    by_cases hlt : k < s.size
    · by_cases hi : innerB (byteI s[k]) = true
      · have HI := Lib.hid hi
        have hi2 : innerB (s[k].toNat : Int) = true := hi
        clear hi
        go_wp2_with (go_at_call 88; refine (inner_any _ _).mono ?_; rintro e w' ⟨rfl, rfl⟩)
        go_round
        case rel => exact ⟨k + 1, by omega, by go_num, Lib.hid (fun j hj hjs => by
          rcases Nat.lt_or_ge j k with h | h
          · exact H.out j h hjs
          · obtain rfl : j = k := by omega
            exact HI.out)⟩
        case measure => simp [intOf]; omega
      · have HI := Lib.hid hi
        have hi2 : innerB (s[k].toNat : Int) = false := by simpa [byteI] using hi
        clear hi
        go_wp2_with (go_at_call 88; refine (inner_any _ _).mono ?_; rintro e w' ⟨rfl, rfl⟩)
        go_ret
        refine ⟨ret_int ?_, rfl⟩
        have : runLen s.data.toList = k := takeWhile_stop _ _ k (by rw [len_bytes]; exact hlt) (fun j hj => H.out j hj (by omega)) (by have := HI.out; simp only [Bool.not_eq_true] at this; exact this)
        rw [this]
    · go_wp2
      go_ret
      refine ⟨ret_int ?_, rfl⟩
      have : runLen s.data.toList = s.data.toList.length := takeWhile_all _ _ (fun j hj => H.out j (by have := len_bytes s; omega) (by have := len_bytes s; omega))
      rw [this, len_bytes]; show (k : Int) = (s.size : Int); omega

set_option maxHeartbeats 400000 in
theorem name_any (s : ByteArray) (w : World) (hs : s.size ≤ 1000) :
    Calls Tryz.prog 63 #[.string s] w fun e w' => e = .returned (.bool (nameB s)) ∧ w = w' := by
  by_cases h0 : 0 < s.size
  · have hne : (s.toList == []) = false := by
      rw [ByteArray.toList_eq, beq_eq_false_iff_ne]; intro h; have h2 := len_bytes s; rw [h] at h2; simp at h2; omega
    go_enter Tryz.func63, Tryz.ntmps63
    go_wp2_with (first | (go_at_call 86; refine (letter_any _ _).mono ?_; rintro e w' ⟨rfl, rfl⟩) | (go_at_call 87; refine (run_inner _ _ hs).mono ?_; rintro e w' ⟨rfl, rfl⟩))
    all_goals (go_ret; refine ⟨ret_bool ?_, rfl⟩; rw [nameB_yes s h0]; clear hne)
    · have h1 : s.size ≤ 16 := by omega
      have h2 : letterB ↑s[0].toNat = true := by assumption
      simp [h1, h2, beq_cast]
    · have h2 : letterB ↑s[0].toNat = false := by assumption
      simp [h2]
    · have h1 : ¬ s.size ≤ 16 := by omega
      simp [h1]
  · have hne : (s.toList == []) = true := by
      rw [ByteArray.toList_eq, beq_iff_eq]; apply List.eq_nil_of_length_eq_zero; rw [len_bytes]; omega
    go_enter Tryz.func63, Tryz.ntmps63
    go_wp2
    all_goals (go_ret; refine ⟨ret_bool ?_, rfl⟩; rw [nameB_no s h0])

end Go.Proofs.YtjhhmeoibfdcmaaGreatDoor
