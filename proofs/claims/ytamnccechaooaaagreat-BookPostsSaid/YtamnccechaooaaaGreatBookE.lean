/- Package book: the total of a unit. -/
import Derived.Test.YtamnccechaooaaaGreatBookD
namespace Go.Proofs.YtamnccechaooaaaGreat
open Go.RowKit Qd
set_option linter.unusedSimpArgs false
set_option linter.unusedVariables false

/-- What a unit comes to, and why it can not be told; pe: why the accruals can not be split; f: what falls to each week. -/
def tE (c : Cal) (u : Un) (P : List Po) (A : List Ac) (pe : Int) (f : Un → List Int) : Int := if unitE c u = 0 then (if chkE P A = 0 then (if pe = 0 then fitE (totL c u P f).sum else pe) else chkE P A) else unitE c u
def tV (c : Cal) (u : Un) (P : List Po) (A : List Ac) (pe : Int) (f : Un → List Int) : Int := if unitE c u = 0 ∧ chkE P A = 0 ∧ pe = 0 then fitV (totL c u P f).sum else 0
/-- What book.parts is asked for. -/
def PartsOk (c : Cal) (y : Int) (A : List Ac) (v2 : Value) (pe : Int) (f : Un → List Int) : Prop := ∀ W, Accs W v2 A →
  Calls Tryz.prog 68 #[calV c, .int .i64 y, v2] W fun e w' => (∃ m, e = .returned (.tuple #[m, .int .i64 pe]) ∧ (pe = 0 → PMap w' m f) ∧ (¬ pe = 0 → m = .map none)) ∧ Below W.heap.size W w'
theorem partsOk_nil (c : Cal) (y : Int) (ad : Option Addr) (cap : Nat) (hn : c.name.size ≤ 1000) (hU : unitE c ⟨1, y, 1⟩ = 0) : PartsOk c y [] (.slice ad 0 cap) 0 (fun _ => []) := fun W _ =>
  (bparts_nil c y cap ad W hn hU).mono fun e w' ⟨⟨m, h1, h2⟩, hb⟩ => ⟨⟨m, h1, fun _ => h2, fun h => absurd rfl h⟩, hb⟩

/-- A calendar, a unit and a book in three blocks. -/
def TtSt (c : Cal) (u : Un) (v1 v2 : Value) (B : Nat) (w0 w : World) : Prop := CalAt w B c ∧ UnAt w (B + 1) u ∧ BlkIs w (B + 2) #[v1, v2] 60 ∧ B + 2 < w.heap.size ∧ Below B w0 w
theorem TtSt.call {c : Cal} {u : Un} {v1 v2 : Value} {B : Nat} {w0 w w' : World} (h : TtSt c u v1 v2 B w0 w) (hb : Below w.heap.size w w') : TtSt c u v1 v2 B w0 w' := by
  obtain ⟨h1, h2, h3, h4, h5⟩ := h
  exact ⟨calAt_below hb (by omega) h1, unAt_below hb (by omega) h2, h3.call hb, Nat.lt_of_lt_of_le h4 hb.size, h5.trans (hb.mono (by omega))⟩
theorem TtSt.via {c : Cal} {u : Un} {v1 v2 : Value} {B m : Nat} {w0 w W w' : World} (h : TtSt c u v1 v2 B w0 w) (hb : Below m W w') (h1 : Below w.heap.size w W := by exact bel) (h2 : w.heap.size ≤ m := by exact sz) : TtSt c u v1 v2 B w0 w' := h.call (h1.trans (hb.mono h2))
theorem ttSt_new (c : Cal) (u : Un) (v1 v2 : Value) (w : World) : TtSt c u v1 v2 w.heap.size w (((w.alloc (calObj c)).alloc (unObj u)).alloc (.cells #[v1, v2] 60)) := by
  refine ⟨calAt_alloc (calAt_alloc (calAt_new w c) (by simp) _) (by simp; omega) _, unAt_alloc (unAt_new w c u) (by simp) _, ?_, by simp, by (repeat' exact bel)⟩
  simpa using BlkIs.new ((w.alloc (calObj c)).alloc (unObj u)) #[v1, v2] 60
theorem TtSt.cells {c : Cal} {u : Un} {v1 v2 : Value} {B : Nat} {w0 w : World} (h : TtSt c u v1 v2 B w0 w) : CalAt w B c ∧ UnAt w (B + 1) u ∧ (w.cell? ⟨B + 1 + 1, 0, none⟩ = some v1 ∧ w.cell? ⟨B + 1 + 1, 1, none⟩ = some v2) ∧ B + 2 < w.heap.size ∧ Below B w0 w := ⟨h.1, h.2.1, ⟨h.2.2.1.cell 0, h.2.2.1.cell 1⟩, h.2.2.2.1, h.2.2.2.2⟩

set_option maxRecDepth 100000 in
set_option maxHeartbeats 6400000 in
theorem btotal_any (c : Cal) (u : Un) (P : List Po) (A : List Ac) (pe : Int) (f : Un → List Int) (v1 v2 : Value) (w : World) (hn : c.name.size ≤ 1000) (hP : Posts w v1 P) (hA : Accs w v2 A) (hl : P.length ≤ 5000 ∧ A.length ≤ 5000) (hp64 : ∀ p ∈ P, in64 p.n)
    (hpt : unitE c u = 0 → chkE P A = 0 → PartsOk c u.yr A v2 pe f) (hf64 : unitE c u = 0 → chkE P A = 0 → pe = 0 → (∀ x, ∀ n ∈ f x, in64 n) ∧ (wkNs f u.yr (cutA c u) (cutB c u - cutA c u)).length ≤ 500000) :
    Calls Tryz.prog 32 #[calV c, unitV u, .agg #[v1, v2]] w fun e w' => e = .returned (.tuple #[.int .i64 (tV c u P A pe f), .int .i64 (tE c u P A pe f)]) ∧ Below w.heap.size w w' := by
  have HP := hide hP
  have HA := hide hA
  have HL := hide hl
  have H64 := hide hp64
  have H0 := hide (ttSt_new c u v1 v2 w)
  have hlP : P.length ≤ 100000 ∧ A.length ≤ 100000 := by omega
  have hlQ : P.length ≤ 5000 := hl.1
  clear hl hp64
  by_cases hU : unitE c u = 0
  · have HU := hide hU
    by_cases hC : chkE P A = 0
    · have HC := hide hC
      have HPT := hide (hpt hU hC)
      have HFB := hide (hf64 hU hC)
      clear hpt hf64
      by_cases hpe : pe = 0
      · have HV := hide (show tV c u P A pe f = fitV (totL c u P f).sum by simp [tV, hU, hC, hpe])
        have HE := hide (show tE c u P A pe f = fitE (totL c u P f).sum by simp [tE, hU, hC, hpe])
        have HFF := hide (HFB.out hpe)
        subst hpe
        clear hU hC HFB
        obtain ⟨ad1, cap1, rfl, _⟩ := hP
        obtain ⟨ad2, cap2, rfl, _⟩ := hA
        simp only [calV, unitV]
        go_enter Tryz.func32, Tryz.ntmps32
        go_wp2_with fail
        refine (ucheck_any c u _ hn).mono ?_
        rintro e w1 ⟨rfl, hb1⟩
        rw [HU.out]
        have HS1 := hide (H0.out.call hb1)
        have HP1 := hide (HP.out.call (HS1.out.2.2.2.2))
        have HA1 := hide (HA.out.call (HS1.out.2.2.2.2))
        clear hb1
        obtain ⟨⟨q0, q1, q2, q3, q4, q5, q6, q7, q8, q9, q10, q11, q12, q13⟩, ⟨u0, u1, u2⟩, ⟨k0, k1⟩, hsz, hBel⟩ := HS1.out.cells
        go_wp2_with fail
        refine (bcheck_any P A _ _ _ HP1.out HA1.out hlP).mono ?_
        rintro e w2 ⟨rfl, hb2⟩
        clear q0 q1 q2 q3 q4 q5 q6 q7 q8 q9 q10 q11 q12 q13 u0 u1 u2 k0 k1 hsz hBel
        rw [HC.out]
        have HS2 := hide (HS1.out.call hb2)
        have HP2 := hide (HP.out.call (HS2.out.2.2.2.2))
        have HA2 := hide (HA.out.call (HS2.out.2.2.2.2))
        clear hb2
        obtain ⟨⟨q0, q1, q2, q3, q4, q5, q6, q7, q8, q9, q10, q11, q12, q13⟩, ⟨u0, u1, u2⟩, ⟨k0, k1⟩, hsz, hBel⟩ := HS2.out.cells
        go_wp2_with fail
        refine (HPT.out _ HA2.out).mono ?_
        rintro e w3 ⟨⟨m, rfl, hpm, hnm⟩, hb3⟩
        clear q0 q1 q2 q3 q4 q5 q6 q7 q8 q9 q10 q11 q12 q13 u0 u1 u2 k0 k1 hsz hBel
        have HPM := hide (hpm rfl)
        clear hpm hnm
        have HS3 := hide (HS2.out.call hb3)
        have HP3 := hide (HP.out.call (HS3.out.2.2.2.2))
        have HA3 := hide (HA.out.call (HS3.out.2.2.2.2))
        clear hb3
        obtain ⟨⟨q0, q1, q2, q3, q4, q5, q6, q7, q8, q9, q10, q11, q12, q13⟩, ⟨u0, u1, u2⟩, ⟨k0, k1⟩, hsz, hBel⟩ := HS3.out.cells
        go_wp2_with fail
        refine (bsum_any c u P f _ _ _ hn HU.out HP3.out HPM.out hlQ H64.out HFF.out.1 HFF.out.2).mono ?_
        rintro e w4 ⟨rfl, hb4⟩
        clear q0 q1 q2 q3 q4 q5 q6 q7 q8 q9 q10 q11 q12 q13 u0 u1 u2 k0 k1 hsz hBel
        have HS4 := hide (HS3.out.call hb4)
        have HP4 := hide (HP.out.call (HS4.out.2.2.2.2))
        have HA4 := hide (HA.out.call (HS4.out.2.2.2.2))
        clear hb4
        obtain ⟨⟨q0, q1, q2, q3, q4, q5, q6, q7, q8, q9, q10, q11, q12, q13⟩, ⟨u0, u1, u2⟩, ⟨k0, k1⟩, hsz, hBel⟩ := HS4.out.cells
        go_wp2
        go_ret2
        exact ⟨ret_int2 HV.out.symm HE.out.symm, hBel⟩
      · have HV := hide (show tV c u P A pe f = 0 by simp [tV, hpe])
        have HE := hide (show tE c u P A pe f = pe by simp [tE, HU.out, HC.out, hpe])
        have hub : (pe != 0) = true := by simpa using hpe
        have HPE := hide hpe
        clear hpe hU hC
        obtain ⟨ad1, cap1, rfl, _⟩ := hP
        obtain ⟨ad2, cap2, rfl, _⟩ := hA
        simp only [calV, unitV]
        go_enter Tryz.func32, Tryz.ntmps32
        go_wp2_with fail
        refine (ucheck_any c u _ hn).mono ?_
        rintro e w1 ⟨rfl, hb1⟩
        rw [HU.out]
        have HS1 := hide (H0.out.call hb1)
        have HP1 := hide (HP.out.call (HS1.out.2.2.2.2))
        have HA1 := hide (HA.out.call (HS1.out.2.2.2.2))
        clear hb1
        obtain ⟨⟨q0, q1, q2, q3, q4, q5, q6, q7, q8, q9, q10, q11, q12, q13⟩, ⟨u0, u1, u2⟩, ⟨k0, k1⟩, hsz, hBel⟩ := HS1.out.cells
        go_wp2_with fail
        refine (bcheck_any P A _ _ _ HP1.out HA1.out hlP).mono ?_
        rintro e w2 ⟨rfl, hb2⟩
        clear q0 q1 q2 q3 q4 q5 q6 q7 q8 q9 q10 q11 q12 q13 u0 u1 u2 k0 k1 hsz hBel
        rw [HC.out]
        have HS2 := hide (HS1.out.call hb2)
        have HP2 := hide (HP.out.call (HS2.out.2.2.2.2))
        have HA2 := hide (HA.out.call (HS2.out.2.2.2.2))
        clear hb2
        obtain ⟨⟨q0, q1, q2, q3, q4, q5, q6, q7, q8, q9, q10, q11, q12, q13⟩, ⟨u0, u1, u2⟩, ⟨k0, k1⟩, hsz, hBel⟩ := HS2.out.cells
        go_wp2_with fail
        refine (HPT.out _ HA2.out).mono ?_
        rintro e w3 ⟨⟨m, rfl, hpm, hnm⟩, hb3⟩
        clear q0 q1 q2 q3 q4 q5 q6 q7 q8 q9 q10 q11 q12 q13 u0 u1 u2 k0 k1 hsz hBel
        obtain rfl := hnm HPE.out
        clear hpm hnm
        have HS3 := hide (HS2.out.call hb3)
        have HP3 := hide (HP.out.call (HS3.out.2.2.2.2))
        have HA3 := hide (HA.out.call (HS3.out.2.2.2.2))
        clear hb3
        obtain ⟨⟨q0, q1, q2, q3, q4, q5, q6, q7, q8, q9, q10, q11, q12, q13⟩, ⟨u0, u1, u2⟩, ⟨k0, k1⟩, hsz, hBel⟩ := HS3.out.cells
        go_wp2
        go_ret2
        exact ⟨ret_int2 HV.out.symm HE.out.symm, hBel⟩
    · have HV := hide (show tV c u P A pe f = 0 by simp [tV, hC])
      have HE := hide (show tE c u P A pe f = chkE P A by simp [tE, HU.out, hC])
      have hub : (chkE P A != 0) = true := by simpa using hC
      clear hpt hf64 hC hU
      obtain ⟨ad1, cap1, rfl, _⟩ := hP
      obtain ⟨ad2, cap2, rfl, _⟩ := hA
      simp only [calV, unitV]
      go_enter Tryz.func32, Tryz.ntmps32
      go_wp2_with fail
      refine (ucheck_any c u _ hn).mono ?_
      rintro e w1 ⟨rfl, hb1⟩
      rw [HU.out]
      have HS1 := hide (H0.out.call hb1)
      have HP1 := hide (HP.out.call (HS1.out.2.2.2.2))
      have HA1 := hide (HA.out.call (HS1.out.2.2.2.2))
      clear hb1
      obtain ⟨⟨q0, q1, q2, q3, q4, q5, q6, q7, q8, q9, q10, q11, q12, q13⟩, ⟨u0, u1, u2⟩, ⟨k0, k1⟩, hsz, hBel⟩ := HS1.out.cells
      go_wp2_with fail
      refine (bcheck_any P A _ _ _ HP1.out HA1.out hlP).mono ?_
      rintro e w2 ⟨rfl, hb2⟩
      clear q0 q1 q2 q3 q4 q5 q6 q7 q8 q9 q10 q11 q12 q13 u0 u1 u2 k0 k1 hsz hBel
      have HS2 := hide (HS1.out.call hb2)
      have HP2 := hide (HP.out.call (HS2.out.2.2.2.2))
      have HA2 := hide (HA.out.call (HS2.out.2.2.2.2))
      clear hb2
      obtain ⟨⟨q0, q1, q2, q3, q4, q5, q6, q7, q8, q9, q10, q11, q12, q13⟩, ⟨u0, u1, u2⟩, ⟨k0, k1⟩, hsz, hBel⟩ := HS2.out.cells
      go_wp2
      go_ret2
      exact ⟨ret_int2 HV.out.symm HE.out.symm, hBel⟩
  · have HV := hide (show tV c u P A pe f = 0 by simp [tV, hU])
    have HE := hide (show tE c u P A pe f = unitE c u by simp [tE, hU])
    have hub : (unitE c u != 0) = true := by simpa using hU
    clear hpt hf64 hU
    obtain ⟨ad1, cap1, rfl, _⟩ := hP
    obtain ⟨ad2, cap2, rfl, _⟩ := hA
    simp only [calV, unitV]
    go_enter Tryz.func32, Tryz.ntmps32
    go_wp2_with fail
    refine (ucheck_any c u _ hn).mono ?_
    rintro e w1 ⟨rfl, hb1⟩
    have HS1 := hide (H0.out.call hb1)
    have HP1 := hide (HP.out.call (HS1.out.2.2.2.2))
    have HA1 := hide (HA.out.call (HS1.out.2.2.2.2))
    clear hb1
    obtain ⟨⟨q0, q1, q2, q3, q4, q5, q6, q7, q8, q9, q10, q11, q12, q13⟩, ⟨u0, u1, u2⟩, ⟨k0, k1⟩, hsz, hBel⟩ := HS1.out.cells
    go_wp2
    go_ret2
    exact ⟨ret_int2 HV.out.symm HE.out.symm, hBel⟩
end Go.Proofs.YtamnccechaooaaaGreat
