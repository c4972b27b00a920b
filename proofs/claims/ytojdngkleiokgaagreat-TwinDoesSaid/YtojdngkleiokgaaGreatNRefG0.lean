/- Contracts of the references: which calendars may be: a rule's parts that may not be. -/
import Derived.Test.YtojdngkleiokgaaGreatNRefG
import Derived.Lib.QuietBelow
namespace Go.Proofs.YtojdngkleiokgaaGreat
open Go.RowKit Go.Sort Qd
set_option linter.unusedSimpArgs false
set_option linter.unusedVariables false

set_option maxRecDepth 100000 in
set_option maxHeartbeats 3200000 in
theorem rn1a (nm : ByteArray) (d m sh sp a b p cy ex fi la po : Int) (w : World) (hn : nm.size ≤ 1000) (h : (Cal.mk nm 1 d m sh sp a b p cy ex fi la po).served ∧ (Cal.mk nm 1 d m sh sp a b p cy ex fi la po).polic ∧ nameB nm = true) (g1 : d < 1) :
    Calls Tryz.prog 57 #[.agg #[.string nm, .int .i64 1, .int .i64 d, .int .i64 m, .int .i64 sh, .int .i64 sp, .int .i64 a, .int .i64 b, .int .i64 p, .int .i64 cy, .int .i64 ex, .int .i64 fi, .int .i64 la, .int .i64 po]] w fun e w' => e = .returned (.int .i64 1) ∧ Below w.heap.size w w' := by
  obtain ⟨⟨s1, s2, s3, s4⟩, ⟨⟨p1, p2⟩, p3⟩, hnm⟩ := h
  simp only at s1 s2 s3 s4 p1 p2 p3
  have hp4 : (po == 4) = false := by simp; omega
  have HNM := hide hnm
  have g88804 : decide (1 ≤ d) = false := by simp; omega
  clear p3 hnm
  go_enter Tryz.func57, Tryz.ntmps57
  go_wp2_with fail
  refine (rname_any _ _ hn).mono ?_
  rintro e w1 ⟨rfl, rfl⟩
  rw [HNM.out]
  go_wp2_with fail
  all_goals first
    | (exfalso; omega)
    | skip
  all_goals
    go_quiet (fail)
    go_wp2
    all_goals first
      | (exfalso; omega)
      | (go_ret; exact ⟨rfl, by (repeat' exact bel)⟩)

set_option maxRecDepth 100000 in
set_option maxHeartbeats 3200000 in
theorem rn1b (nm : ByteArray) (d m sh sp a b p cy ex fi la po : Int) (w : World) (hn : nm.size ≤ 1000) (h : (Cal.mk nm 1 d m sh sp a b p cy ex fi la po).served ∧ (Cal.mk nm 1 d m sh sp a b p cy ex fi la po).polic ∧ nameB nm = true) (g1 : 1 ≤ d) (g2 : 7 < d) :
    Calls Tryz.prog 57 #[.agg #[.string nm, .int .i64 1, .int .i64 d, .int .i64 m, .int .i64 sh, .int .i64 sp, .int .i64 a, .int .i64 b, .int .i64 p, .int .i64 cy, .int .i64 ex, .int .i64 fi, .int .i64 la, .int .i64 po]] w fun e w' => e = .returned (.int .i64 1) ∧ Below w.heap.size w w' := by
  obtain ⟨⟨s1, s2, s3, s4⟩, ⟨⟨p1, p2⟩, p3⟩, hnm⟩ := h
  simp only at s1 s2 s3 s4 p1 p2 p3
  have hp4 : (po == 4) = false := by simp; omega
  have HNM := hide hnm
  have g84401 : decide (1 ≤ d) = true := by simp; omega
  have g51352 : decide (d ≤ 7) = false := by simp; omega
  clear p3 hnm
  go_enter Tryz.func57, Tryz.ntmps57
  go_wp2_with fail
  refine (rname_any _ _ hn).mono ?_
  rintro e w1 ⟨rfl, rfl⟩
  rw [HNM.out]
  go_wp2_with fail
  all_goals first
    | (exfalso; omega)
    | skip
  all_goals
    go_quiet (fail)
    go_wp2
    all_goals first
      | (exfalso; omega)
      | (go_ret; exact ⟨rfl, by (repeat' exact bel)⟩)

set_option maxRecDepth 100000 in
set_option maxHeartbeats 3200000 in
theorem rn1c (nm : ByteArray) (d m sh sp a b p cy ex fi la po : Int) (w : World) (hn : nm.size ≤ 1000) (h : (Cal.mk nm 1 d m sh sp a b p cy ex fi la po).served ∧ (Cal.mk nm 1 d m sh sp a b p cy ex fi la po).polic ∧ nameB nm = true) (g1 : 1 ≤ d) (g2 : d ≤ 7) (g3 : m < 1) :
    Calls Tryz.prog 57 #[.agg #[.string nm, .int .i64 1, .int .i64 d, .int .i64 m, .int .i64 sh, .int .i64 sp, .int .i64 a, .int .i64 b, .int .i64 p, .int .i64 cy, .int .i64 ex, .int .i64 fi, .int .i64 la, .int .i64 po]] w fun e w' => e = .returned (.int .i64 1) ∧ Below w.heap.size w w' := by
  obtain ⟨⟨s1, s2, s3, s4⟩, ⟨⟨p1, p2⟩, p3⟩, hnm⟩ := h
  simp only at s1 s2 s3 s4 p1 p2 p3
  have hp4 : (po == 4) = false := by simp; omega
  have HNM := hide hnm
  have g84401 : decide (1 ≤ d) = true := by simp; omega
  have g97581 : decide (d ≤ 7) = true := by simp; omega
  have g38816 : decide (1 ≤ m) = false := by simp; omega
  clear p3 hnm
  go_enter Tryz.func57, Tryz.ntmps57
  go_wp2_with fail
  refine (rname_any _ _ hn).mono ?_
  rintro e w1 ⟨rfl, rfl⟩
  rw [HNM.out]
  go_wp2_with fail
  all_goals first
    | (exfalso; omega)
    | skip
  all_goals
    go_quiet (fail)
    go_wp2
    all_goals first
      | (exfalso; omega)
      | (go_ret; exact ⟨rfl, by (repeat' exact bel)⟩)

set_option maxRecDepth 100000 in
set_option maxHeartbeats 3200000 in
theorem rn1d (nm : ByteArray) (d m sh sp a b p cy ex fi la po : Int) (w : World) (hn : nm.size ≤ 1000) (h : (Cal.mk nm 1 d m sh sp a b p cy ex fi la po).served ∧ (Cal.mk nm 1 d m sh sp a b p cy ex fi la po).polic ∧ nameB nm = true) (g1 : 1 ≤ d) (g2 : d ≤ 7) (g3 : 1 ≤ m) (g4 : 12 < m) :
    Calls Tryz.prog 57 #[.agg #[.string nm, .int .i64 1, .int .i64 d, .int .i64 m, .int .i64 sh, .int .i64 sp, .int .i64 a, .int .i64 b, .int .i64 p, .int .i64 cy, .int .i64 ex, .int .i64 fi, .int .i64 la, .int .i64 po]] w fun e w' => e = .returned (.int .i64 1) ∧ Below w.heap.size w w' := by
  obtain ⟨⟨s1, s2, s3, s4⟩, ⟨⟨p1, p2⟩, p3⟩, hnm⟩ := h
  simp only at s1 s2 s3 s4 p1 p2 p3
  have hp4 : (po == 4) = false := by simp; omega
  have HNM := hide hnm
  have g84401 : decide (1 ≤ d) = true := by simp; omega
  have g97581 : decide (d ≤ 7) = true := by simp; omega
  have g6363 : decide (1 ≤ m) = true := by simp; omega
  have g51732 : decide (m ≤ 12) = false := by simp; omega
  clear p3 hnm
  go_enter Tryz.func57, Tryz.ntmps57
  go_wp2_with fail
  refine (rname_any _ _ hn).mono ?_
  rintro e w1 ⟨rfl, rfl⟩
  rw [HNM.out]
  go_wp2_with fail
  all_goals first
    | (exfalso; omega)
    | skip
  all_goals
    go_quiet (fail)
    go_wp2
    all_goals first
      | (exfalso; omega)
      | (go_ret; exact ⟨rfl, by (repeat' exact bel)⟩)

set_option maxRecDepth 100000 in
set_option maxHeartbeats 3200000 in
theorem rn1e (nm : ByteArray) (d m sh sp a b p cy ex fi la po : Int) (w : World) (hn : nm.size ≤ 1000) (h : (Cal.mk nm 1 d m sh sp a b p cy ex fi la po).served ∧ (Cal.mk nm 1 d m sh sp a b p cy ex fi la po).polic ∧ nameB nm = true) (g1 : 1 ≤ d) (g2 : d ≤ 7) (g3 : 1 ≤ m) (g4 : m ≤ 12) (g5 : ¬ (sh = 0 ∨ sh = 1)) :
    Calls Tryz.prog 57 #[.agg #[.string nm, .int .i64 1, .int .i64 d, .int .i64 m, .int .i64 sh, .int .i64 sp, .int .i64 a, .int .i64 b, .int .i64 p, .int .i64 cy, .int .i64 ex, .int .i64 fi, .int .i64 la, .int .i64 po]] w fun e w' => e = .returned (.int .i64 1) ∧ Below w.heap.size w w' := by
  obtain ⟨⟨s1, s2, s3, s4⟩, ⟨⟨p1, p2⟩, p3⟩, hnm⟩ := h
  simp only at s1 s2 s3 s4 p1 p2 p3
  have hp4 : (po == 4) = false := by simp; omega
  have HNM := hide hnm
  have g84401 : decide (1 ≤ d) = true := by simp; omega
  have g97581 : decide (d ≤ 7) = true := by simp; omega
  have g6363 : decide (1 ≤ m) = true := by simp; omega
  have g75278 : decide (m ≤ 12) = true := by simp; omega
  have f308 : (sh == 0) = false := by simp; omega
  have f16395 : decide (sh = 0) = false := by simp; omega
  have f94622 : (sh == 1) = false := by simp; omega
  have f38771 : decide (sh = 1) = false := by simp; omega
  clear p3 hnm
  go_enter Tryz.func57, Tryz.ntmps57
  go_wp2_with fail
  refine (rname_any _ _ hn).mono ?_
  rintro e w1 ⟨rfl, rfl⟩
  rw [HNM.out]
  go_wp2_with fail
  all_goals first
    | (exfalso; omega)
    | skip
  all_goals
    go_quiet (fail)
    go_wp2
    all_goals first
      | (exfalso; omega)
      | (go_ret; exact ⟨rfl, by (repeat' exact bel)⟩)

set_option maxRecDepth 100000 in
set_option maxHeartbeats 3200000 in
theorem rn2a (nm : ByteArray) (d m sh sp a b p cy ex fi la po : Int) (w : World) (hn : nm.size ≤ 1000) (h : (Cal.mk nm 2 d m sh sp a b p cy ex fi la po).served ∧ (Cal.mk nm 2 d m sh sp a b p cy ex fi la po).polic ∧ nameB nm = true) (g1 : d < 1) :
    Calls Tryz.prog 57 #[.agg #[.string nm, .int .i64 2, .int .i64 d, .int .i64 m, .int .i64 sh, .int .i64 sp, .int .i64 a, .int .i64 b, .int .i64 p, .int .i64 cy, .int .i64 ex, .int .i64 fi, .int .i64 la, .int .i64 po]] w fun e w' => e = .returned (.int .i64 1) ∧ Below w.heap.size w w' := by
  obtain ⟨⟨s1, s2, s3, s4⟩, ⟨⟨p1, p2⟩, p3⟩, hnm⟩ := h
  simp only at s1 s2 s3 s4 p1 p2 p3
  have hp4 : (po == 4) = false := by simp; omega
  have HNM := hide hnm
  have g88804 : decide (1 ≤ d) = false := by simp; omega
  clear p3 hnm
  go_enter Tryz.func57, Tryz.ntmps57
  go_wp2_with fail
  refine (rname_any _ _ hn).mono ?_
  rintro e w1 ⟨rfl, rfl⟩
  rw [HNM.out]
  go_wp2_with fail
  all_goals first
    | (exfalso; omega)
    | skip
  all_goals
    go_quiet (fail)
    go_wp2
    all_goals first
      | (exfalso; omega)
      | (go_ret; exact ⟨rfl, by (repeat' exact bel)⟩)

set_option maxRecDepth 100000 in
set_option maxHeartbeats 3200000 in
theorem rn2b (nm : ByteArray) (d m sh sp a b p cy ex fi la po : Int) (w : World) (hn : nm.size ≤ 1000) (h : (Cal.mk nm 2 d m sh sp a b p cy ex fi la po).served ∧ (Cal.mk nm 2 d m sh sp a b p cy ex fi la po).polic ∧ nameB nm = true) (g1 : 1 ≤ d) (g2 : 7 < d) :
    Calls Tryz.prog 57 #[.agg #[.string nm, .int .i64 2, .int .i64 d, .int .i64 m, .int .i64 sh, .int .i64 sp, .int .i64 a, .int .i64 b, .int .i64 p, .int .i64 cy, .int .i64 ex, .int .i64 fi, .int .i64 la, .int .i64 po]] w fun e w' => e = .returned (.int .i64 1) ∧ Below w.heap.size w w' := by
  obtain ⟨⟨s1, s2, s3, s4⟩, ⟨⟨p1, p2⟩, p3⟩, hnm⟩ := h
  simp only at s1 s2 s3 s4 p1 p2 p3
  have hp4 : (po == 4) = false := by simp; omega
  have HNM := hide hnm
  have g84401 : decide (1 ≤ d) = true := by simp; omega
  have g51352 : decide (d ≤ 7) = false := by simp; omega
  clear p3 hnm
  go_enter Tryz.func57, Tryz.ntmps57
  go_wp2_with fail
  refine (rname_any _ _ hn).mono ?_
  rintro e w1 ⟨rfl, rfl⟩
  rw [HNM.out]
  go_wp2_with fail
  all_goals first
    | (exfalso; omega)
    | skip
  all_goals
    go_quiet (fail)
    go_wp2
    all_goals first
      | (exfalso; omega)
      | (go_ret; exact ⟨rfl, by (repeat' exact bel)⟩)

set_option maxRecDepth 100000 in
set_option maxHeartbeats 3200000 in
theorem rn2c (nm : ByteArray) (d m sh sp a b p cy ex fi la po : Int) (w : World) (hn : nm.size ≤ 1000) (h : (Cal.mk nm 2 d m sh sp a b p cy ex fi la po).served ∧ (Cal.mk nm 2 d m sh sp a b p cy ex fi la po).polic ∧ nameB nm = true) (g1 : 1 ≤ d) (g2 : d ≤ 7) (g3 : m < 1) :
    Calls Tryz.prog 57 #[.agg #[.string nm, .int .i64 2, .int .i64 d, .int .i64 m, .int .i64 sh, .int .i64 sp, .int .i64 a, .int .i64 b, .int .i64 p, .int .i64 cy, .int .i64 ex, .int .i64 fi, .int .i64 la, .int .i64 po]] w fun e w' => e = .returned (.int .i64 1) ∧ Below w.heap.size w w' := by
  obtain ⟨⟨s1, s2, s3, s4⟩, ⟨⟨p1, p2⟩, p3⟩, hnm⟩ := h
  simp only at s1 s2 s3 s4 p1 p2 p3
  have hp4 : (po == 4) = false := by simp; omega
  have HNM := hide hnm
  have g84401 : decide (1 ≤ d) = true := by simp; omega
  have g97581 : decide (d ≤ 7) = true := by simp; omega
  have g38816 : decide (1 ≤ m) = false := by simp; omega
  clear p3 hnm
  go_enter Tryz.func57, Tryz.ntmps57
  go_wp2_with fail
  refine (rname_any _ _ hn).mono ?_
  rintro e w1 ⟨rfl, rfl⟩
  rw [HNM.out]
  go_wp2_with fail
  all_goals first
    | (exfalso; omega)
    | skip
  all_goals
    go_quiet (fail)
    go_wp2
    all_goals first
      | (exfalso; omega)
      | (go_ret; exact ⟨rfl, by (repeat' exact bel)⟩)

set_option maxRecDepth 100000 in
set_option maxHeartbeats 3200000 in
theorem rn2d (nm : ByteArray) (d m sh sp a b p cy ex fi la po : Int) (w : World) (hn : nm.size ≤ 1000) (h : (Cal.mk nm 2 d m sh sp a b p cy ex fi la po).served ∧ (Cal.mk nm 2 d m sh sp a b p cy ex fi la po).polic ∧ nameB nm = true) (g1 : 1 ≤ d) (g2 : d ≤ 7) (g3 : 1 ≤ m) (g4 : 12 < m) :
    Calls Tryz.prog 57 #[.agg #[.string nm, .int .i64 2, .int .i64 d, .int .i64 m, .int .i64 sh, .int .i64 sp, .int .i64 a, .int .i64 b, .int .i64 p, .int .i64 cy, .int .i64 ex, .int .i64 fi, .int .i64 la, .int .i64 po]] w fun e w' => e = .returned (.int .i64 1) ∧ Below w.heap.size w w' := by
  obtain ⟨⟨s1, s2, s3, s4⟩, ⟨⟨p1, p2⟩, p3⟩, hnm⟩ := h
  simp only at s1 s2 s3 s4 p1 p2 p3
  have hp4 : (po == 4) = false := by simp; omega
  have HNM := hide hnm
  have g84401 : decide (1 ≤ d) = true := by simp; omega
  have g97581 : decide (d ≤ 7) = true := by simp; omega
  have g6363 : decide (1 ≤ m) = true := by simp; omega
  have g51732 : decide (m ≤ 12) = false := by simp; omega
  clear p3 hnm
  go_enter Tryz.func57, Tryz.ntmps57
  go_wp2_with fail
  refine (rname_any _ _ hn).mono ?_
  rintro e w1 ⟨rfl, rfl⟩
  rw [HNM.out]
  go_wp2_with fail
  all_goals first
    | (exfalso; omega)
    | skip
  all_goals
    go_quiet (fail)
    go_wp2
    all_goals first
      | (exfalso; omega)
      | (go_ret; exact ⟨rfl, by (repeat' exact bel)⟩)

set_option maxRecDepth 100000 in
set_option maxHeartbeats 3200000 in
theorem rn2e (nm : ByteArray) (d m sh sp a b p cy ex fi la po : Int) (w : World) (hn : nm.size ≤ 1000) (h : (Cal.mk nm 2 d m sh sp a b p cy ex fi la po).served ∧ (Cal.mk nm 2 d m sh sp a b p cy ex fi la po).polic ∧ nameB nm = true) (g1 : 1 ≤ d) (g2 : d ≤ 7) (g3 : 1 ≤ m) (g4 : m ≤ 12) (g5 : ¬ (sh = 0 ∨ sh = 1)) :
    Calls Tryz.prog 57 #[.agg #[.string nm, .int .i64 2, .int .i64 d, .int .i64 m, .int .i64 sh, .int .i64 sp, .int .i64 a, .int .i64 b, .int .i64 p, .int .i64 cy, .int .i64 ex, .int .i64 fi, .int .i64 la, .int .i64 po]] w fun e w' => e = .returned (.int .i64 1) ∧ Below w.heap.size w w' := by
  obtain ⟨⟨s1, s2, s3, s4⟩, ⟨⟨p1, p2⟩, p3⟩, hnm⟩ := h
  simp only at s1 s2 s3 s4 p1 p2 p3
  have hp4 : (po == 4) = false := by simp; omega
  have HNM := hide hnm
  have g84401 : decide (1 ≤ d) = true := by simp; omega
  have g97581 : decide (d ≤ 7) = true := by simp; omega
  have g6363 : decide (1 ≤ m) = true := by simp; omega
  have g75278 : decide (m ≤ 12) = true := by simp; omega
  have f308 : (sh == 0) = false := by simp; omega
  have f16395 : decide (sh = 0) = false := by simp; omega
  have f94622 : (sh == 1) = false := by simp; omega
  have f38771 : decide (sh = 1) = false := by simp; omega
  clear p3 hnm
  go_enter Tryz.func57, Tryz.ntmps57
  go_wp2_with fail
  refine (rname_any _ _ hn).mono ?_
  rintro e w1 ⟨rfl, rfl⟩
  rw [HNM.out]
  go_wp2_with fail
  all_goals first
    | (exfalso; omega)
    | skip
  all_goals
    go_quiet (fail)
    go_wp2
    all_goals first
      | (exfalso; omega)
      | (go_ret; exact ⟨rfl, by (repeat' exact bel)⟩)

end Go.Proofs.YtojdngkleiokgaaGreat
