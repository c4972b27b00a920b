/- Contracts of shape: the months of a broadcast year, and civil months. -/
import Derived.Test.YtepmfpgljcbkmaaAnchorD
import Derived.Test.YtepmfpgljcbkmaaInts
namespace Go.Proofs.Ytepmfpgljcbkmaa
open Go.RowKit Qd
set_option linter.unusedSimpArgs false
set_option linter.unusedVariables false

def sunF (y : Int) (i : Nat) : Int := lastV y ((i : Int) + 1) 7
/-- The last Sundays of a year's months. -/
def sunL (y : Int) : List Int := (List.range 12).map (sunF y)

set_option maxRecDepth 100000 in
set_option maxHeartbeats 1600000 in
theorem sundays_any (y : Int) (w : World) (h1 : 1600 ≤ y) (h2 : y ≤ 9999) :
    Calls Try.prog 63 #[.int .i64 y] w fun e w' => ∃ g, w.heap.size ≤ g ∧ e = .returned (.tuple #[.slice (some ⟨g, 0, none⟩) 12 12, .int .i64 0]) ∧ IntsAt w' g (sunL y) ∧ Below w.heap.size w w' := by
  have hmk := make_12
  go_enter Try.func63, Try.ntmps63
  go_wp2
  go_loopw [11] (fun s wr => ∃ k : Nat, s = .int .i64 k ∧ k ≤ 12 ∧ IntsAt wr w.heap.size (upTo 12 k (sunF y)) ∧ Below w.heap.size w wr) (fun s _ => (13 - intOf s).toNat)
  case atStart => exact ⟨0, rfl, by omega, by rw [upTo_zero]; exact IntsAt.new w 12, (Below.refl _ _).alloc (Nat.le_refl _) _⟩
  case round =>
    obtain ⟨k, rfl, hk, hI, hB⟩ := hrel
    have hlt0 := hI.lt
    by_cases hlt : k < 12
    · have hE : wkE y ((k : Int) + 1) 7 = 0 := by simp [wkE, thereB]; omega
      have HE := hide hE
      clear hE
      go_wp2_with fail
      refine (last_any _ _ _ _).mono ?_
      rintro e w1 ⟨rfl, hb1⟩
      rw [HE.out]
      have hI1 := hI.call hb1
      have hz1 : w.heap.size < w1.heap.size := Nat.lt_of_lt_of_le hlt0 hb1.size
      have c1 := hI1.cell (k := k) (by rw [upTo_len]; exact hlt)
      have f1 := hI1.frozen k
      have HX := hide hI1
      clear hI1
      go_wp2
      refine ⟨⟨k + 1, by go_num, by omega, ?_, ?_⟩, by simp [intOf]; omega⟩
      · rw [← upTo_set]; exact HX.out.set k _
      · exact (hB.trans (hb1.mono (Nat.le_of_lt hlt0))).setCell (by simp) _
    · obtain rfl : k = 12 := by omega
      go_wp2
      go_ret2
      exact ⟨w.heap.size, Nat.le_refl _, rfl, by rw [upTo_full] at hI; exact hI, hB⟩

/-- The first day of the k-th month behind one that begins on a day. -/
def monS (d : Int) : Nat → Int
  | 0 => d
  | k + 1 => monS d k + lenV (ofY (monS d k)) (ofM (monS d k))
theorem monS_bd (d : Int) (k : Nat) : d ≤ monS d k ∧ monS d k ≤ d + 31 * k := by
  induction k with
  | zero => simp [monS]
  | succ k ih =>
    have := len_bd (ofY (monS d k)) (ofM (monS d k))
    unfold monS
    omega
def monF (d : Int) (i : Nat) : Int := monS d (i + 1) - 1
/-- The last days of twelve months. -/
def monL (d : Int) : List Int := (List.range 12).map (monF d)

set_option maxRecDepth 100000 in
set_option maxHeartbeats 1600000 in
theorem months_any (d : Int) (w : World) (h1 : 0 ≤ d) (h2 : d + 400 < 3068037) :
    Calls Try.prog 64 #[.int .i64 d] w fun e w' => ∃ g, w.heap.size ≤ g ∧ e = .returned (.tuple #[.slice (some ⟨g, 0, none⟩) 12 12, .int .i64 0]) ∧ IntsAt w' g (monL d) ∧ Below w.heap.size w w' := by
  have hmk := make_12
  go_enter Try.func64, Try.ntmps64
  go_wp2
  go_loopw [0, 12] (fun s0 s wr => ∃ k : Nat, s0 = .int .i64 (monS d k) ∧ s = .int .i64 k ∧ k ≤ 12 ∧ IntsAt wr w.heap.size (upTo 12 k (monF d)) ∧ Below w.heap.size w wr) (fun _ s _ => (13 - intOf s).toNat)
  case atStart => exact ⟨0, rfl, rfl, by omega, by rw [upTo_zero]; exact IntsAt.new w 12, (Below.refl _ _).alloc (Nat.le_refl _) _⟩
  case round =>
    obtain ⟨k, rfl, rfl, hk, hI, hB⟩ := hrel
    have hlt0 := hI.lt
    by_cases hlt : k < 12
    · have hmb := monS_bd d k
      have his : isB (monS d k) = true := by simp [isB]; omega
      obtain ⟨hdt, _⟩ := of_ok _ his
      have hth : thereB (ofY (monS d k)) (ofM (monS d k)) = true := by
        simp only [dateB, Bool.and_eq_true] at hdt; exact hdt.1
      have HL := hide (show lenE (ofY (monS d k)) (ofM (monS d k)) = 0 by simp [lenE, hth])
      have hlb := len_bd (ofY (monS d k)) (ofM (monS d k))
      have HF := hide (show monF d k = monS d k + lenV (ofY (monS d k)) (ofM (monS d k)) - 1 from rfl)
      have HS := hide (show monS d (k + 1) = monS d k + lenV (ofY (monS d k)) (ofM (monS d k)) from rfl)
      clear hdt hth
      go_wp2_with fail
      refine (of_yes _ _ his).mono ?_
      rintro e w1 ⟨rfl, hb1⟩
      clear his
      have hI1 := hide (hI.call hb1)
      have hz1 : w.heap.size < w1.heap.size := Nat.lt_of_lt_of_le hlt0 hb1.size
      have HB1 := hide (hB.trans (hb1.mono (Nat.le_of_lt hlt0)))
      clear hb1
      go_wp2_with fail
      refine (length_any _ _ _).mono ?_
      rintro e w2 ⟨rfl, hb2⟩
      rw [HL.out]
      have hI2 := ((hI1.out).alloc _).call hb2
      have hz2 : w.heap.size < w2.heap.size := Nat.lt_of_lt_of_le (by simp; omega) hb2.size
      have c1 := hI2.cell (k := k) (by rw [upTo_len]; exact hlt)
      have f1 := hI2.frozen k
      have HX := hide hI2
      clear hI2
      go_wp2
      refine ⟨⟨k + 1, by rw [HS.out], by go_num, by omega, ?_, ?_⟩, by simp [intOf]; omega⟩
      · rw [← upTo_set, HF.out]; exact HX.out.set k _
      · exact ((HB1.out.alloc (Nat.le_of_lt hz1) _).trans (hb2.mono (by simp; omega))).setCell (by simp) _
    · obtain rfl : k = 12 := by omega
      go_wp2
      go_ret2
      exact ⟨w.heap.size, Nat.le_refl _, rfl, by rw [upTo_full] at hI; exact hI, hB⟩
end Go.Proofs.Ytepmfpgljcbkmaa
