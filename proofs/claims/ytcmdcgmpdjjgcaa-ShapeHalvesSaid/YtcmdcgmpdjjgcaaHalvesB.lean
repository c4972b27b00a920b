/- The walk of ShapeHalves: a calendar that may be. -/
import Derived.Test.YtcmdcgmpdjjgcaaHalves
namespace Go.Proofs.Ytcmdcgmpdjjgcaa
open Go.RowKit Qd
set_option linter.unusedSimpArgs false
set_option linter.unusedVariables false

/-- The counters' block. -/
def CntAt (wr : World) (B : Nat) (per : Int) (k : Nat) : Prop :=
  ∃ z, wr.heap[B]? = some (.cells #[.int .i64 z, .int .i64 (cntQ per k 1), .int .i64 (cntQ per k 2), .int .i64 (cntQ per k 3), .int .i64 (cntQ per k 4)] 31 (0, 0))

theorem CntAt.lt {wr : World} {B : Nat} {per : Int} {k : Nat} (h : CntAt wr B per k) : B < wr.heap.size := by
  obtain ⟨z, h⟩ := h
  exact (Array.getElem?_eq_some_iff.1 h).1
theorem CntAt.below {wr w' : World} {B : Nat} {per : Int} {k : Nat} (h : CntAt wr B per k) (hb : Below wr.heap.size wr w') : CntAt w' B per k := by
  obtain ⟨z, h1⟩ := h
  exact ⟨z, (hb.block B (Array.getElem?_eq_some_iff.1 h1).1).trans h1⟩
theorem CntAt.cells {wr : World} {B : Nat} {per : Int} {k : Nat} (h : CntAt wr B per k) :
    wr.cell? ⟨B, 1, none⟩ = some (.int .i64 (cntQ per k 1)) ∧ wr.cell? ⟨B, 2, none⟩ = some (.int .i64 (cntQ per k 2)) ∧
    wr.cell? ⟨B, 3, none⟩ = some (.int .i64 (cntQ per k 3)) ∧ wr.cell? ⟨B, 4, none⟩ = some (.int .i64 (cntQ per k 4)) ∧ (∀ o, wr.frozen? ⟨B, o, none⟩ = false) := by
  obtain ⟨z, h1⟩ := h
  have k := fun i => cell_of_row wr B i _ _ _ h1
  refine ⟨(k 1).trans rfl, (k 2).trans rfl, (k 3).trans rfl, (k 4).trans rfl, fun o => ?_⟩
  simp [World.frozen?, h1]
theorem CntAt.step {wr : World} {B : Nat} {per : Int} {k : Nat} (h : CntAt wr B per k) (q : Nat) (hq : q = 1 ∨ q = 2 ∨ q = 3 ∨ q = 4) (he : qq per k = q) :
    CntAt (wr.setCell ⟨B, q, none⟩ (.int .i64 (cntQ per k q + 1))) B per (k + 1) := by
  obtain ⟨z, h1⟩ := h
  refine ⟨z, ?_⟩
  simp only [World.setCell, Array.getElem?_modify, h1]
  rcases hq with rfl | rfl | rfl | rfl <;> simp [cntQ, he]

theorem qV_qq (c : Cal) (hk : c.okB = true) (k : Nat) (hlt : (k : Int) < perV c) : qV c ((k : Int) + 1) = qq (perV c) k ∧ qE c ((k : Int) + 1) = 0 := by
  have h : qOkB c ((k : Int) + 1) = true := by simp [qOkB, hk]; omega
  simp [qV, qE, h, qq]

set_option maxRecDepth 100000 in
set_option maxHeartbeats 1600000 in
theorem halves_ok (c : Cal) (w : World) (hn : c.name.size ≤ 100) (hk : c.okB = true) :
    Calls Try.prog 4 #[calV c] w fun e w' => e = .returned (.bool true) ∧ Below w.heap.size w w' := by
  have hE : okE c = 0 := by simp [okE, hk]
  have hpers := hide (per_pers c hk)
  have hpb := per_bounds c hk
  simp only [calV]
  go_enter Try.func4, Try.ntmps4
  go_wp2_with fail
  refine (live15_any _).mono ?_
  rintro e w1 ⟨rfl, hb1⟩
  obtain ⟨hc, hf⟩ := bcell hb1
  have hz1 : w.heap.size < w1.heap.size := by have := hb1.size; simp at this; omega
  have hB1 : Below w.heap.size w w1 := by
    refine Below.trans ?_ (hb1.mono (by simp))
    (repeat' (first | (with_reducible exact Below.refl _ _) | (with_reducible assumption) | (with_reducible refine Below.alloc ?_ ?_ _) | (with_reducible refine below_drewN ?_ _) | (with_reducible refine Below.drew ?_) | (with_reducible refine Below.setCell ?_ ?_ _) | (with_reducible refine Below.trans ?_ (Below.mono (by assumption) ?_)) | go_size | (simp at *; omega)))
  clear hb1
  go_wp2_with fail
  refine (periods_any c _ (by omega)).mono ?_
  rintro e w2 ⟨rfl, hb2⟩
  obtain ⟨hc2, hf2⟩ := bcell hb2
  have hz2 : w.heap.size < w2.heap.size := by have := hb2.size; omega
  have hB2 : Below w.heap.size w w2 := hB1.trans (hb2.mono (by omega))
  clear hb2 hB1
  rw [hE]
  go_wp2
  go_loopw [8, 9] (fun s8 s9 wr => ∃ k : Nat, (k : Int) ≤ perV c ∧ s9 = .int .i64 ((k : Int) + 1) ∧ s8 = .int .i64 (lastq (perV c) k) ∧ CntAt wr w2.heap.size (perV c) k ∧ Below w2.heap.size w2 wr) (fun _ s9 _ => (60 - intOf s9).toNat)
  case atStart =>
    exact ⟨0, by omega, rfl, rfl, ⟨0, heap_alloc_new _ _⟩, (Below.refl _ _).alloc (Nat.le_refl _) _⟩
  case round =>
    obtain ⟨k, hkp, rfl, rfl, hcnt, hB⟩ := hrel
    have hcw : ∀ b o, b < w2.heap.size → wr.cell? ⟨b, o, none⟩ = w2.cell? ⟨b, o, none⟩ := fun b o h => hB.cell (p := ⟨b, o, none⟩) h
    have hlt2 := hcnt.lt
    have hcntB := cntQ_bd (perV c) k
    by_cases hlt : (k : Int) < perV c
    · obtain ⟨hv1, hv2⟩ := qV_qq c hk k hlt
      obtain ⟨hs1, hs2, hs3, hs4⟩ := qq_step (perV c) hpers.out k hlt
      have hq4 : qq (perV c) k = 1 ∨ qq (perV c) k = 2 ∨ qq (perV c) k = 3 ∨ qq (perV c) k = 4 := by omega
      have HCB := hide hcntB
      clear hcntB
      rcases hq4 with hq | hq | hq | hq
      all_goals
        rw [hq] at hv1 hs3 hs4
        have HQ := hide hq
        have HV := hide (And.intro hv1 hv2)
        clear hq hv1 hv2 hs1 hs2
        go_wp2_with fail
        refine (quarter_any c _ _ (by omega)).mono ?_
        rintro e w3 ⟨rfl, hb3⟩
        obtain ⟨hc3, hf3⟩ := bcell hb3
        rw [HV.out.1, HV.out.2]
        have hcnt3 := hcnt.below hb3
        obtain ⟨d1, d2, d3, d4, d5⟩ := hcnt.cells
        have b1 := HCB.out 1
        have b2 := HCB.out 2
        have b3 := HCB.out 3
        have b4 := HCB.out 4
        go_wp2
        all_goals first
          | (exfalso; omega)
          | (refine ⟨⟨k + 1, by omega, by go_num, ?_, hcnt3.step _ (by decide) HQ.out, hB.trans (Below.setCell (hb3.mono (by omega)) (by simp) _)⟩, by simp [intOf]; omega⟩
             rw [lastq_succ, HQ.out])
    · obtain rfl : k = (perV c).toNat := by omega
      have hkp2 : (((perV c).toNat : Nat) : Int) = perV c := by omega
      have hl := lastq_end (perV c) hpers.out
      rw [hl]
      clear hl
      have HE := hide (cnt_end (perV c) hpers.out)
      have HCB := hide hcntB
      clear hcntB
      obtain ⟨d1, d2, d3, d4, d5⟩ := hcnt.cells
      generalize hg1 : cntQ (perV c) (perV c).toNat 1 = g1 at *
      generalize hg2 : cntQ (perV c) (perV c).toNat 2 = g2 at *
      generalize hg3 : cntQ (perV c) (perV c).toNat 3 = g3 at *
      generalize hg4 : cntQ (perV c) (perV c).toNat 4 = g4 at *
      have b1 : 0 ≤ g1 ∧ g1 ≤ perV c := by have := HCB.out 1; rw [hg1] at this; omega
      have b2 : 0 ≤ g2 ∧ g2 ≤ perV c := by have := HCB.out 2; rw [hg2] at this; omega
      have b3 : 0 ≤ g3 ∧ g3 ≤ perV c := by have := HCB.out 3; rw [hg3] at this; omega
      have b4 : 0 ≤ g4 ∧ g4 ≤ perV c := by have := HCB.out 4; rw [hg4] at this; omega
      clear hg1 hg2 hg3 hg4
      obtain ⟨f1, f2, f3, f4, f5⟩ := HE.out
      have o0 : qV c 0 = 0 ∧ qE c 0 = 1 := by simp [qV, qE, qOkB]
      have o1 : qV c (perV c + 1) = 0 ∧ qE c (perV c + 1) = 1 := by
        have : qOkB c (perV c + 1) = false := by simp [qOkB]; omega
        simp [qV, qE, this]
      have O0 := hide o0
      have O1 := hide o1
      have HK := hide hkp2
      clear o0 o1 hkp2
      have hkk : perV c < ((perV c).toNat : Int) + 1 := by have := HK.out; omega
      go_wp2_with fail
      refine (quarter_any c _ _ (by omega)).mono ?_
      rintro e w3 ⟨rfl, hb3⟩
      obtain ⟨hc3, hf3⟩ := bcell hb3
      have hz3 : wr.heap.size ≤ w3.heap.size := hb3.size
      have hz4 : w2.heap.size < w3.heap.size := by omega
      have hz5 : w.heap.size < w3.heap.size := by omega
      have hz6 : w.heap.size < wr.heap.size := by omega
      rw [O0.out.1, O0.out.2]
      go_wp2_with fail
      refine (quarter_any c _ _ (by omega)).mono ?_
      rintro e w4 ⟨rfl, hb4⟩
      obtain ⟨hc4, hf4⟩ := bcell hb4
      rw [O1.out.1, O1.out.2]
      have hBB : Below w.heap.size w w4 := (hB2.trans (hB.mono (by omega))).trans ((hb3.mono (by omega)).trans (hb4.mono (by omega)))
      go_wp2
      all_goals
        go_ret
        refine ⟨ret_bool ?_, hBB⟩
        clear hc hf hc2 hf2 hc3 hf3 hc4 hf4 hcw
      all_goals first
        | rfl
        | (simp; omega)

theorem halves_walk (c : Cal) (hn : c.name.size ≤ 9223372036854775807) (w : World) :
    Calls Try.prog 4 #[calV c] w fun e w' => e = .returned (.bool true) ∧ Below w.heap.size w w' := by
  by_cases h : 100 < c.name.size
  · exact halves_long c w h hn
  · cases hk : c.okB
    · exact halves_bad c w (by omega) hk
    · exact halves_ok c w (by omega) hk
end Go.Proofs.Ytcmdcgmpdjjgcaa
