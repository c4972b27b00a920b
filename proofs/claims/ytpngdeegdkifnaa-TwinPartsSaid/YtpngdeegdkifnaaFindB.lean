/- Layer 17's example. -/
import Derived.Test.YtpngdeegdkifnaaFindA
import Derived.Test.YtpngdeegdkifnaaUnAt
namespace Go.Proofs.Ytpngdeegdkifnaa
open Go.RowKit Qd
set_option linter.unusedSimpArgs false
set_option linter.unusedVariables false

def nrf17 : Cal := ⟨⟨#[120]⟩, 3, 6, 1, 1, 1, 4, 5, 4, 0, 12, 2000, 2030, 1⟩
theorem n17_3 : fdE nrf17 154896 3 = 0 ∧ fdU nrf17 154896 3 = ⟨3, 2023, 4⟩ := by
  have h := fd_of (c := nrf17) (lv := 3) (y := 2023) (d := 154896) (by decide +kernel) 3 (by decide +kernel) (by decide +kernel) (by decide +kernel)
  exact ⟨h.1, h.2.2.2⟩
theorem n17_4 : fdE nrf17 154896 4 = 0 ∧ fdU nrf17 154896 4 = ⟨4, 2023, 12⟩ := by
  have h := fd_of (c := nrf17) (lv := 4) (y := 2023) (d := 154896) (by decide +kernel) 11 (by decide +kernel) (by decide +kernel) (by decide +kernel)
  exact ⟨h.1, h.2.2.2⟩
theorem n17_5 : fdE nrf17 154896 5 = 0 ∧ fdU nrf17 154896 5 = ⟨5, 2023, 53⟩ := by
  have h := fd_of (c := nrf17) (lv := 5) (y := 2023) (d := 154896) (by decide +kernel) 52 (by decide +kernel) (by decide +kernel) (by decide +kernel)
  exact ⟨h.1, h.2.2.2⟩

set_option maxRecDepth 100000 in
set_option maxHeartbeats 1600000 in
theorem live17_any (w : World) :
    Calls Try.prog 18 #[] w fun e w' => e = .returned (.bool true) ∧ Below w.heap.size w w' := by
  go_enter Try.func18, Try.ntmps18
  go_wp2_with fail
  refine (parse_any _).mono ?_
  rintro e w1 ⟨rfl, hb1⟩
  have hz1 : w.heap.size < w1.heap.size := by have := hb1.size; simp at this; omega
  have HB1 := hide (show Below w.heap.size w w1 by refine Below.trans ?_ (hb1.mono (by simp)); (repeat' (first | (with_reducible exact Below.refl _ _) | (with_reducible assumption) | (with_reducible refine Below.alloc ?_ ?_ _) | (with_reducible refine below_drewN ?_ _) | (with_reducible refine Below.drew ?_) | (with_reducible refine Below.setCell ?_ ?_ _) | (with_reducible refine Below.trans ?_ (Below.mono (by assumption) ?_)) | go_size | (simp at *; omega))))
  have HQ1 := hide (calAt_below hb1 (by simp) (calAt_new w nrf17))
  clear hb1
  go_wp2_with fail
  go_loopw [16] (fun s wr => ∃ k : Nat, k ≤ 3 ∧ s = .int .i64 k ∧ CalAt wr w.heap.size nrf17 ∧ BlkIs wr w1.heap.size #[.int .i64 4, .int .i64 12, .int .i64 53] 3 ∧ Below w.heap.size w wr ∧ w.heap.size < wr.heap.size) (fun s _ => (3 - intOf s).toNat)
  case atStart => exact ⟨0, by omega, rfl, calAt_alloc HQ1.out hz1 _, BlkIs.new w1 _ _, HB1.out.alloc (by omega) _, by simp; omega⟩
  case round =>
    obtain ⟨k, hk, rfl, hQ, hL, hB, hlt⟩ := hrel
    have HQ := hide hQ
    have HL := hide hL
    have HB := hide hB
    have hLlt := hL.lt
    obtain ⟨q0, q1, q2, q3, q4, q5, q6, q7, q8, q9, q10, q11, q12, q13⟩ := hQ
    simp only [nrf17] at q0 q1 q2 q3 q4 q5 q6 q7 q8 q9 q10 q11 q12 q13
    clear hB
    have hks : k = 0 ∨ k = 1 ∨ k = 2 ∨ k = 3 := by omega
    rcases hks with rfl | rfl | rfl | rfl
    · have c1 : wr.cell? ⟨w1.heap.size, 0, none⟩ = some (.int .i64 4) := hL.cell 0
      clear hL
      go_wp2_with fail
      refine (fday_any nrf17 154896 3 _ (by decide)).mono ?_
      rintro e w3 ⟨rfl, hb3⟩
      rw [n17_3.1, n17_3.2]
      simp only [unitV]
      have HQ3 := hide (show CalAt w3 w.heap.size nrf17 from calAt_below hb3 hlt HQ.out)
      have HL3 := hide (HL.out.call hb3)
      have HB3 := hide (HB.out.trans (hb3.mono (Nat.le_of_lt hlt)))
      have hlt3 : w.heap.size < w3.heap.size := Nat.lt_of_lt_of_le hlt hb3.size
      clear q0 q1 q2 q3 q4 q5 q6 q7 q8 q9 q10 q11 q12 q13
      clear hb3 c1
      have hub : unB 3 2023 4 3 2023 4 = true := unB_same _ _ _
      go_wp2
      exact ⟨⟨1, by omega, rfl, calAt_alloc HQ3.out hlt3 _, HL3.out.alloc _, HB3.out.alloc (by omega) _, by simp; omega⟩, by simp [intOf]⟩
    · have c1 : wr.cell? ⟨w1.heap.size, 1, none⟩ = some (.int .i64 12) := hL.cell 1
      clear hL
      go_wp2_with fail
      refine (fday_any nrf17 154896 4 _ (by decide)).mono ?_
      rintro e w3 ⟨rfl, hb3⟩
      rw [n17_4.1, n17_4.2]
      simp only [unitV]
      have HQ3 := hide (show CalAt w3 w.heap.size nrf17 from calAt_below hb3 hlt HQ.out)
      have HL3 := hide (HL.out.call hb3)
      have HB3 := hide (HB.out.trans (hb3.mono (Nat.le_of_lt hlt)))
      have hlt3 : w.heap.size < w3.heap.size := Nat.lt_of_lt_of_le hlt hb3.size
      clear q0 q1 q2 q3 q4 q5 q6 q7 q8 q9 q10 q11 q12 q13
      clear hb3 c1
      have hub : unB 4 2023 12 4 2023 12 = true := unB_same _ _ _
      go_wp2
      exact ⟨⟨2, by omega, rfl, calAt_alloc HQ3.out hlt3 _, HL3.out.alloc _, HB3.out.alloc (by omega) _, by simp; omega⟩, by simp [intOf]⟩
    · have c1 : wr.cell? ⟨w1.heap.size, 2, none⟩ = some (.int .i64 53) := hL.cell 2
      clear hL
      go_wp2_with fail
      refine (fday_any nrf17 154896 5 _ (by decide)).mono ?_
      rintro e w3 ⟨rfl, hb3⟩
      rw [n17_5.1, n17_5.2]
      simp only [unitV]
      have HQ3 := hide (show CalAt w3 w.heap.size nrf17 from calAt_below hb3 hlt HQ.out)
      have HL3 := hide (HL.out.call hb3)
      have HB3 := hide (HB.out.trans (hb3.mono (Nat.le_of_lt hlt)))
      have hlt3 : w.heap.size < w3.heap.size := Nat.lt_of_lt_of_le hlt hb3.size
      clear q0 q1 q2 q3 q4 q5 q6 q7 q8 q9 q10 q11 q12 q13
      clear hb3 c1
      have hub : unB 5 2023 53 5 2023 53 = true := unB_same _ _ _
      go_wp2
      exact ⟨⟨3, by omega, rfl, calAt_alloc HQ3.out hlt3 _, HL3.out.alloc _, HB3.out.alloc (by omega) _, by simp; omega⟩, by simp [intOf]⟩
    · clear hL
      go_wp2
      go_ret
      exact ⟨rfl, HB.out⟩

end Go.Proofs.Ytpngdeegdkifnaa
