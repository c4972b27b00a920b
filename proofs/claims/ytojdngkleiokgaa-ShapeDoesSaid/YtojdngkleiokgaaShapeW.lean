/- Contracts of shape.Weeks. -/
import Derived.Test.YtojdngkleiokgaaYearA
namespace Go.Proofs.Ytojdngkleiokgaa
open Go.RowKit Qd
set_option linter.unusedSimpArgs false
set_option linter.unusedVariables false

theorem ends_any (c : Cal) (y : Int) (w : World) (hn : c.name.size ≤ 1000) (hE : askE c y 1601 = 0) : Calls Try.prog 12 #[calV c, .int .i64 y] w (EndsPost c y w) := by
  by_cases h4 : c.shape = 4
  · exact ends_broad c y w hn hE h4
  · by_cases h5 : c.shape = 5
    · exact ends_month c y w hn hE h5
    · exact ends_weeks c y w hn hE h4 h5

/-- How many weeks the period behind k of them has. -/
def wkAt (c : Cal) (y : Int) (k : Nat) : Int := (endAt c y k - fromAt c y k) / 7 + 1
def weeksL (c : Cal) (y : Int) : List Int := (List.range (endsL c y).length).map (wkAt c y)
theorem weeks_len (c : Cal) (y : Int) : (weeksL c y).length = (endsL c y).length := by simp [weeksL]
def WeeksPost (c : Cal) (y : Int) (w : World) (e : Ending) (w' : World) : Prop :=
  ∃ g, w.heap.size ≤ g ∧ e = .returned (.tuple #[.slice (some ⟨g, 0, none⟩) (endsL c y).length (endsL c y).length, .int .i64 0]) ∧ IntsAt w' g (weeksL c y) ∧ Below w.heap.size w w'

/-- k of one list, the rest of another one. -/
def mixL (A B : List Int) (k : Nat) : List Int := A.take k ++ B.drop k
theorem mix_zero (A B : List Int) : mixL A B 0 = B := by simp [mixL]
theorem mix_len (A B : List Int) (k : Nat) (h : A.length = B.length) (hk : k ≤ B.length) : (mixL A B k).length = B.length := by simp [mixL]; omega
theorem mix_get (A B : List Int) (k : Nat) (h : A.length = B.length) (hk : k < B.length) : (mixL A B k)[k]?.getD 0 = B[k]?.getD 0 := by
  unfold mixL
  rw [List.getElem?_append_right (by simp; omega)]
  simp [h, Nat.min_eq_left (Nat.le_of_lt hk)]
theorem mix_set (A B : List Int) (k : Nat) (h : A.length = B.length) (hk : k < B.length) : (mixL A B k).set k (A[k]?.getD 0) = mixL A B (k + 1) := by
  unfold mixL
  have h1 : (A.take k).length = k := by simp; omega
  rw [List.set_append_right _ _ (by omega), h1, Nat.sub_self]
  have h2 : B.drop k = B[k] :: B.drop (k + 1) := List.drop_eq_getElem_cons hk
  rw [h2, List.set_cons_zero, List.take_succ_eq_append_getElem (by omega), List.append_assoc]
  congr 1
  simp [show k < A.length by omega]
theorem mix_full (A B : List Int) (h : A.length = B.length) : mixL A B B.length = A := by simp [mixL, ← h]

set_option maxRecDepth 100000 in
set_option maxHeartbeats 1600000 in
theorem sweeks_no (c : Cal) (y : Int) (w : World) (hn : c.name.size ≤ 1000) (hE : ¬ askE c y 1601 = 0) :
    Calls Try.prog 10 #[calV c, .int .i64 y] w fun e w' => e = .returned (.tuple #[.slice none 0 0, .int .i64 (askE c y 1601)]) ∧ Below w.heap.size w w' := by
  have hE' : (askE c y 1601 != 0) = true := by simpa using hE
  have HE := hide hE
  clear hE
  simp only [calV]
  go_enter Try.func10, Try.ntmps10
  go_wp2_with fail
  refine (ends_no c y _ hn HE.out).mono ?_
  rintro e w1 ⟨rfl, hb1⟩
  go_wp2
  go_ret2
  exact ⟨rfl, ((Below.refl _ _).alloc (Nat.le_refl _) _).trans (hb1.mono (by simp))⟩

set_option maxRecDepth 100000 in
set_option maxHeartbeats 1600000 in
theorem sweeks_any (c : Cal) (y : Int) (w : World) (hn : c.name.size ≤ 1000) (hE : askE c y 1601 = 0) :
    Calls Try.prog 10 #[calV c, .int .i64 y] w (WeeksPost c y w) := by
  have HE := hide hE
  have hok2 : c.okB = true := by have := (ask_ok hE).1; simpa [Cal.okB] using this
  have hlen := ends_len c y hok2
  have hpb := per_bounds c hok2
  have hyb := year_bd c y hE
  have HP := hide (fun k hk => period_1 c y hE k hk)
  have HF := hide (fun k hk => from_bd c y hE k hk)
  have hn52 : (endsL c y).length ≤ 52 := by omega
  have HWL := hide (weeks_len c y)
  have HF0 := hide (show fromAt c y 0 = startV c y by simp [fromAt])
  obtain ⟨n, hnn⟩ : ∃ n, n = (endsL c y).length := ⟨_, rfl⟩
  have HN := hide hnn
  have hn52' : n ≤ 52 := by omega
  clear hE hok2 hlen hpb hn52 hnn
  simp only [calV]
  go_enter Try.func10, Try.ntmps10
  go_wp2_with fail
  refine (ends_any c y _ hn HE.out).mono ?_
  rintro e w1 ⟨g, hg, rfl, hI, hb1⟩
  have hz1 : w.heap.size < w1.heap.size := by have := hb1.size; simp at this; omega
  have HB1 := hide (Below.trans ((Below.refl _ _).alloc (Nat.le_refl _) _) (hb1.mono (by simp)) : Below w.heap.size w w1)
  have HQ := hide (calAt_below hb1 (by simp) (calAt_new w c))
  obtain ⟨q0, q1, q2, q3, q4, q5, q6, q7, q8, q9, q10, q11, q12, q13⟩ := HQ.out
  have hg1 : w.heap.size ≤ g := by simp at hg; omega
  have HI := hide hI
  clear hb1 hI hg
  rw [← HN.out]
  go_wp2_with fail
  refine (start_any c y _ hn).mono ?_
  rintro e w2 ⟨rfl, hb2⟩
  clear q0 q1 q2 q3 q4 q5 q6 q7 q8 q9 q10 q11 q12 q13
  rw [HE.out]
  have HI2 := hide (HI.out.call hb2)
  have HB2 := hide (HB1.out.trans (hb2.mono (Nat.le_of_lt hz1)))
  clear hb2
  go_wp2
  go_loopw [8, 31] (fun s8 s wr => ∃ k : Nat, s = .int .i64 k ∧ s8 = .int .i64 (fromAt c y k) ∧ k ≤ n ∧ IntsAt wr g (mixL (weeksL c y) (endsL c y) k) ∧ Below w.heap.size w wr) (fun _ s _ => (60 - intOf s).toNat)
  case atStart => exact ⟨0, rfl, by rw [HF0.out], by omega, by rw [mix_zero]; exact HI2.out, HB2.out⟩
  case round =>
    obtain ⟨k, rfl, rfl, hk, hI, hB⟩ := hrel
    by_cases hlt : k < n
    · have hke : k < (endsL c y).length := by rw [← HN.out]; exact hlt
      have c1 : wr.cell? ⟨g, k, none⟩ = some (.int .i64 (endAt c y k)) := by
        rw [hI.cell (by rw [mix_len _ _ _ HWL.out (Nat.le_of_lt hke)]; exact hke), mix_get _ _ _ HWL.out hke]; rfl
      have f1 := hI.frozen k
      have hp := HP.out k hke
      have hf1 := HF.out k (Nat.le_of_lt hke)
      have HX := hide hI
      have HS := hide (from_succ c y k)
      have HK := hide (show (weeksL c y)[k]?.getD 0 = (endAt c y k - fromAt c y k) / 7 + 1 by simp [weeksL, hke, wkAt])
      have hp1 := hp.1
      have hp2 := hp.2.1
      have HM := hide (mix_set (weeksL c y) (endsL c y) k HWL.out hke)
      clear hp hI hke
      go_wp2
      refine ⟨⟨k + 1, by go_num, by rw [HS.out], by omega, ?_, hB.setCell (by simp; omega) _⟩, by simp [intOf]; omega⟩
      rw [← HM.out, HK.out]
      exact HX.out.set k _
    · obtain rfl : k = n := by omega
      go_wp2
      go_ret2
      refine ⟨g, hg1, by rw [← HN.out]; rfl, ?_, hB⟩
      have := hI
      rw [HN.out, mix_full _ _ HWL.out] at this
      exact this
end Go.Proofs.Ytojdngkleiokgaa
