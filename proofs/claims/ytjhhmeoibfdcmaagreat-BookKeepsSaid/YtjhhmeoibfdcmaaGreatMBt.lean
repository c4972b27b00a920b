/- The reference of layer 22: days, accruals. Package book: a small book of postings and short accruals; the test of the statements of layer 22. The reference of layer 22: whether a book is small enough. Plain law of books: what falls to the weeks of a unit; a single accrual. -/
import Derived.Test.YtjhhmeoibfdcmaaGreatMBk
import Derived.Test.YtjhhmeoibfdcmaaGreatMBs
import Derived.Test.YtjhhmeoibfdcmaaGreatRateS
import Derived.Test.YtjhhmeoibfdcmaaGreatMVy
namespace Go.Proofs.YtjhhmeoibfdcmaaGreat
open Go.RowKit Qd
set_option linter.unusedSimpArgs false
set_option linter.unusedVariables false

set_option maxRecDepth 100000 in
set_option maxHeartbeats 1600000 in
theorem r22is_any (d : Int) (w : World) : Calls Tryz.prog 42 #[.int .i64 d] w fun e w' => e = .returned (.bool (isB d)) ∧ w = w' := by
  by_cases h1 : 0 ≤ d
  · by_cases h2 : d ≤ 3068036
    · have HE := hide (show isB d = true by simp [isB]; omega)
      have hb1 : decide (0 ≤ d) = true := by simpa using h1
      have hb2 : decide (d ≤ 3068036) = true := by simpa using h2
      go_enter Tryz.func42, Tryz.ntmps42
      go_wp2
      all_goals first
        | (exfalso; omega)
        | (go_ret; exact ⟨ret_bool HE.out.symm, rfl⟩)
    · have HE := hide (show isB d = false by simp [isB]; omega)
      have hb1 : decide (0 ≤ d) = true := by simpa using h1
      have hb2 : decide (d ≤ 3068036) = false := by simpa using h2
      go_enter Tryz.func42, Tryz.ntmps42
      go_wp2
      all_goals first
        | (exfalso; omega)
        | (go_ret; exact ⟨ret_bool HE.out.symm, rfl⟩)
  · have HE := hide (show isB d = false by simp [isB]; omega)
    have hb1 : decide (0 ≤ d) = false := by simpa using h1
    go_enter Tryz.func42, Tryz.ntmps42
    go_wp2
    all_goals first
      | (exfalso; omega)
      | (go_ret; exact ⟨ret_bool HE.out.symm, rfl⟩)

set_option maxRecDepth 100000 in
set_option maxHeartbeats 1600000 in
theorem r22acc_any (x : Ac) (w : World) : Calls Tryz.prog 61 #[.agg #[.int .i64 x.a, .int .i64 x.b, .int .i64 x.n]] w fun e w' => e = .returned (.int .i64 (accE x)) ∧ Below w.heap.size w w' := by
  cases ha : isB x.a
  · have HE := hide (show accE x = 4 by simp [accE, ha])
    go_enter Tryz.func61, Tryz.ntmps61
    go_wp2_with fail
    refine (r22is_any x.a _).mono ?_
    rintro e w1 ⟨rfl, rfl⟩
    rw [ha]
    go_wp2
    go_ret
    exact ⟨ret_int HE.out.symm, by (repeat' exact bel)⟩
  · cases hb : isB x.b
    · have HE := hide (show accE x = 4 by simp [accE, hb])
      go_enter Tryz.func61, Tryz.ntmps61
      go_wp2_with fail
      refine (r22is_any x.a _).mono ?_
      rintro e w1 ⟨rfl, rfl⟩
      rw [ha]
      go_wp2_with fail
      refine (r22is_any x.b _).mono ?_
      rintro e w1 ⟨rfl, rfl⟩
      rw [hb]
      go_wp2
      go_ret
      exact ⟨ret_int HE.out.symm, by (repeat' exact bel)⟩
    · by_cases h2 : x.b < x.a
      all_goals
        have HE := hide (show accE x = if x.b < x.a then 1 else 0 by simp [accE, ha, hb])
        first | rw [if_pos h2] at HE | rw [if_neg h2] at HE
        go_enter Tryz.func61, Tryz.ntmps61
        go_wp2_with fail
        refine (r22is_any x.a _).mono ?_
        rintro e w1 ⟨rfl, rfl⟩
        rw [ha]
        go_wp2_with fail
        refine (r22is_any x.b _).mono ?_
        rintro e w1 ⟨rfl, rfl⟩
        rw [hb]
        go_wp2
        all_goals first
          | (exfalso; omega)
          | (go_ret; exact ⟨ret_int HE.out.symm, by (repeat' exact bel)⟩)
end Go.Proofs.YtjhhmeoibfdcmaaGreat

namespace Go.Proofs.YtjhhmeoibfdcmaaGreat
open Go.RowKit Qd
set_option linter.unusedSimpArgs false
set_option linter.unusedVariables false

/-- What the accruals are to each year. -/
noncomputable def ZA (c : Cal) (A : List Ac) : Parts := ⟨fun y => ptE c y A, fun y => shF (pL c y A)⟩
theorem wkNs_bd (f : Un → List Int) (y : Int) (a n k : Nat) (h : ∀ x, (f x).length ≤ k) : (wkNs f y a n).length ≤ n * k := by
  induction n with
  | zero => simp [wkNs]
  | succ n ih => rw [wkNs, List.length_append, Nat.succ_mul]; exact Nat.add_le_add ih (h _)
theorem ac_len {c : Cal} {a : Ac} (h : meetsE c 5 ⟨a.a, a.b⟩ = 0) (hb : accE a = 0 → a.b - a.a ≤ 1500) : (meetsL c 5 ⟨a.a, a.b⟩).length ≤ 420 :=
  (brief_len h fun h1 h2 h3 => hb (by simp only at h1 h2 h3; rw [accE, if_pos (by simp [isB]; omega), if_neg (by omega)])).2
theorem pL_mem {c : Cal} {y : Int} {A : List Ac} {x : Un × Int} (h : x ∈ pL c y A) : ∃ a ∈ A, nearA c y a = true ∧ x ∈ shL c 5 a.n ⟨a.a, a.b⟩ := by
  unfold pL at h
  obtain ⟨a, ha, hx⟩ := List.mem_flatMap.1 h
  split at hx
  · rename_i hn; exact ⟨a, ha, hn, hx⟩
  · simp at hx
theorem shL_in {c : Cal} {lv a : Int} {s : Sp} (hE : meetsE c lv s = 0) (ha : in64 a) {x : Un × Int} (h : x ∈ shL c lv a s) : in64 x.2 := by
  have hdf := dys_facts hE
  have hok := meets_ok hE
  obtain ⟨u, n⟩ := x
  have hn : n ∈ outV a (dysL c lv s) := (List.of_mem_zip h).2
  obtain ⟨i, hi⟩ := List.mem_iff_getElem?.1 hn
  have hpos : 0 < (dysL c lv s).sum := by
    rw [hdf.1]
    have := hok.2.2.1
    omega
  exact out_in ha (fun x hx => by have := hdf.2 x hx; omega) hpos hi
theorem bookA (c : Cal) (P : List Po) (A : List Ac) (v2 : Value) (hn : c.name.size ≤ 1000) (hl : P.length ≤ 5000 ∧ A.length ≤ 16) (h64 : ∀ p ∈ P, in64 p.n) (ha64 : ∀ a ∈ A, in64 a.n) (hb : ∀ a ∈ A, accE a = 0 → a.b - a.a ≤ 1500) : BookOk c P A v2 (ZA c A) := by
  refine ⟨⟨hl.1, by omega⟩, h64, fun u hU _ => ⟨fun W hW => ?_, fun h0 => ⟨fun x n hx => ?_, ?_⟩⟩⟩
  · exact bparts_any c u.yr A v2 W hn (unit_year hU) hW (by omega) ha64 fun a ha h => Nat.le_trans (ac_len h (hb a ha)) (by omega)
  · obtain ⟨a, ha, hne, h⟩ := pL_mem (shF_mem hx)
    exact shL_in (ptE_near c u.yr A h0 a ha hne) (ha64 a ha) h
  · have h1 := fun x => Nat.le_trans (shF_len (pL c u.yr A) x) (pL_len c u.yr A 420 h0 fun a ha h => ac_len h (hb a ha))
    have h2 := nWk_bd c u.yr (un_lv hU).2.2.2.1
    have h3 := cutAB hU
    refine Nat.le_trans (wkNs_bd _ _ _ _ _ h1) (Nat.le_trans (Nat.mul_le_mul (show cutB c u - cutA c u ≤ 60 by omega) (Nat.mul_le_mul (show A.length ≤ 16 by omega) (Nat.le_refl 420))) (by omega))
/-- Whether a book is small enough. -/
def fewA (a : Ac) : Bool := !(isB a.a && isB a.b && decide (1200 < a.b - a.a))
def fewB (c : Cal) (P : List Po) (A : List Ac) : Bool := A.all fewA && decide (c.name.size ≤ 100) && decide (P.length ≤ 16) && decide (A.length ≤ 6)
theorem few_out {c : Cal} {P : List Po} {A : List Ac} (h : fewB c P A = true) : c.name.size ≤ 100 ∧ P.length ≤ 16 ∧ A.length ≤ 6 ∧ ∀ a ∈ A, accE a = 0 → a.b - a.a ≤ 1500 := by
  simp [fewB] at h
  obtain ⟨⟨⟨h1, h2⟩, h3⟩, h4⟩ := h
  refine ⟨h2, h3, h4, fun a ha h0 => ?_⟩
  have := h1 a ha
  unfold accE at h0
  split at h0
  · rename_i h5
    simp [fewA] at this
    simp at h5
    rcases this with (h6 | h6) | h6
    · rw [h5.1] at h6; cases h6
    · rw [h5.2] at h6; cases h6
    · omega
  · cases h0
theorem bookF (c : Cal) (P : List Po) (A : List Ac) (v2 : Value) (h : fewB c P A = true) (h64 : ∀ p ∈ P, in64 p.n) (ha64 : ∀ a ∈ A, in64 a.n) : BookOk c P A v2 (ZA c A) := by
  obtain ⟨h1, h2, h3, h4⟩ := few_out h
  exact bookA c P A v2 (by omega) ⟨by omega, by omega⟩ h64 ha64 h4
end Go.Proofs.YtjhhmeoibfdcmaaGreat

namespace Go.Proofs.YtjhhmeoibfdcmaaGreat
open Go.RowKit Qd
set_option linter.unusedSimpArgs false
set_option linter.unusedVariables false

theorem few_step {A : List Ac} {j : Nat} {x : Ac} (hx : A[j]? = some x) (h : (A.take j).all fewA = true) : (A.take (j + 1)).all fewA = fewA x := by
  rw [List.take_add_one, hx, List.all_append, h]; simp
theorem few_no {A : List Ac} {j : Nat} {x : Ac} (hx : A[j]? = some x) (h : fewA x = false) (c : Cal) (P : List Po) : fewB c P A = false := by
  have : A.all fewA = false := by
    rw [List.all_eq_false]
    exact ⟨x, List.mem_of_getElem? hx, by simp [h]⟩
  simp [fewB, this]
def FwSt (c : Cal) (v1 v2 : Value) (B : Nat) (w0 w : World) : Prop := CalAt w B c ∧ BlkIs w (B + 1) #[v1, v2] 30 ∧ B + 1 < w.heap.size ∧ Below B w0 w
theorem FwSt.call {c : Cal} {v1 v2 : Value} {B : Nat} {w0 w w' : World} (h : FwSt c v1 v2 B w0 w) (hb : Below w.heap.size w w') : FwSt c v1 v2 B w0 w' :=
  ⟨calAt_below hb (by have := h.2.2.1; omega) h.1, h.2.1.call hb, Nat.lt_of_lt_of_le h.2.2.1 hb.size, h.2.2.2.trans (hb.mono (by have := h.2.2.1; omega))⟩
theorem fwSt_new (c : Cal) (v1 v2 : Value) (w : World) : FwSt c v1 v2 w.heap.size w ((w.alloc (calObj c)).alloc (.cells #[v1, v2] 30)) := by
  refine ⟨calAt_alloc (calAt_new w c) (by simp) _, ?_, by simp, by (repeat' exact bel)⟩
  simpa using BlkIs.new (w.alloc (calObj c)) #[v1, v2] 30

set_option maxRecDepth 100000 in
set_option maxHeartbeats 3200000 in
theorem few_any (c : Cal) (P : List Po) (A : List Ac) (v1 v2 : Value) (w : World) (hP : Posts w v1 P) (hA : Accs w v2 A) (hn : c.name.size ≤ 9223372036854775807) (hl1 : P.length ≤ 9223372036854775807) (hl2 : A.length ≤ 9223372036854775807) :
    Calls Tryz.prog 10 #[calV c, .agg #[v1, v2]] w fun e w' => e = .returned (.bool (fewB c P A)) ∧ Below w.heap.size w w' := by
  have HA := hide hA
  have H0 := hide (fwSt_new c v1 v2 w)
  obtain ⟨ad1, cap1, rfl, _⟩ := hP
  obtain ⟨ad2, cap2, rfl, _⟩ := hA
  simp only [calV]
  go_enter Tryz.func10, Tryz.ntmps10
  obtain ⟨q0, q1, q2, q3, q4, q5, q6, q7, q8, q9, q10, q11, q12, q13⟩ := H0.out.1
  obtain ⟨⟨k0, k1⟩, _⟩ := blk_two' H0.out.2.1
  go_wp2_with fail
  clear q0 q1 q2 q3 q4 q5 q6 q7 q8 q9 q10 q11 q12 q13
  clear k0 k1
  go_loopw [10] (fun s10 wr => ∃ j : Nat, s10 = .int .i64 j ∧ j ≤ A.length ∧ (A.take j).all fewA = true ∧ Hid (FwSt c (.slice ad1 P.length cap1) (.slice ad2 A.length cap2) w.heap.size w wr)) (fun s10 _ => (A.length + 5 - intOf s10).toNat)
  case atStart => exact ⟨0, rfl, Nat.zero_le _, rfl, H0⟩
  case round =>
    obtain ⟨j, rfl, hj, hall, HS⟩ := hrel
    have hz := HS.out.2.2.1
    have hyr : w.heap.size < wr.heap.size := by omega
    by_cases hlt : j < A.length
    · obtain ⟨x, hx⟩ : ∃ x, A[j]? = some x := ⟨_, List.getElem?_eq_getElem hlt⟩
      obtain ⟨g, o, rfl, hg, d0, d1, d2⟩ := (HA.out.call HS.out.2.2.2).at hx
      have HST := hide (few_step hx hall)
      have HNO := hide (fun h => few_no hx h c P)
      have hi1 : (0 : Int) ≤ (j : Int) := by omega
      have hi3 : (j : Int) < (A.length : Int) := by omega
      clear hx hall
      have HS2 := hide (HS.out.call ((Below.refl wr.heap.size wr).alloc (Nat.le_refl _) (.cells #[.int .i64 x.a, .int .i64 x.b, .int .i64 x.n] 47)))
      have hBel := HS2.out.2.2.2
      cases hxa : isB x.a
      · have HF := hide (show fewA x = true by simp [fewA, hxa])
        go_wp2_with fail
        refine (r22is_any x.a _).mono ?_
        rintro e w1 ⟨rfl, rfl⟩
        rw [hxa]
        go_wp2
        go_roundw
        case rel => exact ⟨j + 1, by go_num, by omega, by rw [HST.out, HF.out], HS2⟩
        case measure => simp [intOf]; omega
      · cases hxb : isB x.b
        · have HF := hide (show fewA x = true by simp [fewA, hxb])
          go_wp2_with fail
          refine (r22is_any x.a _).mono ?_
          rintro e w1 ⟨rfl, rfl⟩
          rw [hxa]
          go_wp2_with fail
          refine (r22is_any x.b _).mono ?_
          rintro e w1 ⟨rfl, rfl⟩
          rw [hxb]
          go_wp2
          go_roundw
          case rel => exact ⟨j + 1, by go_num, by omega, by rw [HST.out, HF.out], HS2⟩
          case measure => simp [intOf]; omega
        · have h1 := hxa
          have h2 := hxb
          simp [isB] at h1 h2
          obtain ⟨h1, h1'⟩ := h1
          obtain ⟨h2, h2'⟩ := h2
          go_wp2_with fail
          refine (r22is_any x.a _).mono ?_
          rintro e w1 ⟨rfl, rfl⟩
          rw [hxa]
          go_wp2_with fail
          refine (r22is_any x.b _).mono ?_
          rintro e w1 ⟨rfl, rfl⟩
          rw [hxb]
          by_cases hd : 1200 < x.b - x.a
          · have HF := hide (HNO.out (by simp [fewA, hxa, hxb, hd]))
            go_wp2
            all_goals first
              | (exfalso; omega)
              | (go_ret; exact ⟨ret_bool HF.out.symm, hBel⟩)
          · have HF := hide (show fewA x = true by simp [fewA, hd])
            go_wp2
            all_goals first
              | (exfalso; omega)
              | skip
            go_roundw
            case rel => exact ⟨j + 1, by go_num, by omega, by rw [HST.out, HF.out], HS2⟩
            case measure => simp [intOf]; omega
    · obtain rfl : j = A.length := by omega
      rw [List.take_length] at hall
      have HF := hide (show fewB c P A = (decide (c.name.size ≤ 100) && decide (P.length ≤ 16) && decide (A.length ≤ 6)) by simp [fewB, hall])
      have hBel := HS.out.2.2.2
      obtain ⟨q0, q1, q2, q3, q4, q5, q6, q7, q8, q9, q10, q11, q12, q13⟩ := HS.out.1
      obtain ⟨⟨k0, k1⟩, _⟩ := blk_two' HS.out.2.1
      by_cases h1 : c.name.size ≤ 100
      · by_cases h2 : P.length ≤ 16
        · by_cases h3 : A.length ≤ 6
          · have HG := hide (show fewB c P A = true by rw [HF.out]; simp [h1, h2, h3])
            go_wp2
            all_goals first
              | (exfalso; omega)
              | (go_ret; exact ⟨ret_bool (by rw [HG.out]; simp; omega), hBel⟩)
          · have HG := hide (show fewB c P A = false by rw [HF.out]; simp [h3])
            go_wp2
            all_goals first
              | (exfalso; omega)
              | (go_ret; exact ⟨ret_bool (by rw [HG.out]; simp; omega), hBel⟩)
        · have HG := hide (show fewB c P A = false by rw [HF.out]; simp [h2])
          go_wp2
          all_goals first
            | (exfalso; omega)
            | (go_ret; exact ⟨ret_bool HG.out.symm, hBel⟩)
      · have HG := hide (show fewB c P A = false by rw [HF.out]; simp [h1])
        go_wp2
        all_goals first
          | (exfalso; omega)
          | (go_ret; exact ⟨ret_bool HG.out.symm, hBel⟩)
end Go.Proofs.YtjhhmeoibfdcmaaGreat

namespace Go.Proofs.YtjhhmeoibfdcmaaGreat
open Go.RowKit Qd
set_option linter.unusedSimpArgs false
set_option linter.unusedVariables false

/-- A day within the bounds is served. -/
theorem serv_in {c : Cal} {d : Int} (hk : c.okB = true) (h1 : startV c c.first ≤ d) (h2 : d ≤ endV c c.last) : servE c d = 0 := by
  obtain ⟨hA, hB, b1, b2, b3⟩ := ok_years hk
  have hok : c.Ok := by simpa [Cal.okB] using hk
  have key : ∀ n : Nat, c.first + n ≤ c.last → d ≤ endV c (c.first + n) → ∃ y, c.first ≤ y ∧ y ≤ c.last ∧ startV c y ≤ d ∧ d ≤ endV c y := by
    intro n
    induction n with
    | zero => intro h3 h4; exact ⟨c.first, Int.le_refl _, b3, h1, by simpa using h4⟩
    | succ n ih =>
      intro h3 h4
      rcases Int.lt_or_le d (startV c (c.first + ((n + 1 : Nat) : Int))) with h5 | h5
      · have e : c.first + ((n + 1 : Nat) : Int) = c.first + (n : Int) + 1 := by omega
        rw [e, start_next c (c.first + (n : Int)) (ask_2 hok (by omega) (by omega))] at h5
        exact ih (by omega) (by omega)
      · exact ⟨_, by omega, h3, h5, h4⟩
  obtain ⟨n, hn⟩ : ∃ n : Nat, c.last = c.first + n := ⟨(c.last - c.first).toNat, by omega⟩
  obtain ⟨y, y1, y2, y3, y4⟩ := key n (by omega) (by rw [← hn]; exact h2)
  exact (serv_yes hk ⟨ask_2 hok (by omega) (by omega), y3, y4⟩ y1 y2).1
theorem serv_is {c : Cal} {d : Int} (hk : c.okB = true) (hd : isB d = true) : servE c d = if startV c c.first ≤ d ∧ d ≤ endV c c.last then 0 else 11 := by
  split
  · rename_i h; exact serv_in hk h.1 h.2
  · rename_i h
    unfold servE
    by_cases hy : ∃ y, yrOk c d y
    · obtain ⟨y, hy⟩ := hy
      rw [(found_yes hd hy).2.2]
      simp [hk, h]
    · rw [(found_none hy).2.2 hk hd]
      simp [hk]
/-- An accrual is split just if all of its days are served. -/
theorem acc_meets {c : Cal} {a : Ac} (hk : c.okB = true) (ha : accE a = 0) : meetsE c 5 ⟨a.a, a.b⟩ = if startV c c.first ≤ a.a ∧ a.b ≤ endV c c.last then 0 else 11 := by
  unfold accE at ha
  split at ha
  · rename_i h1
    split at ha
    · cases ha
    · rename_i h2
      simp at h1
      unfold meetsE
      rw [if_pos ⟨hk, by omega, by simp only; omega⟩]
      have e : ∀ d, fdE c d 5 = servE c d := fun d => by rw [fdE, if_pos ⟨hk, by omega⟩]
      simp only [e]
      rw [serv_is hk h1.1, serv_is hk h1.2]
      by_cases h3 : startV c c.first ≤ a.a
      · by_cases h4 : a.b ≤ endV c c.last
        · simp [h3, h4, show a.a ≤ endV c c.last by omega, show startV c c.first ≤ a.b by omega]
        · by_cases h5 : a.a ≤ endV c c.last
          · simp [h3, h4, h5]
          · simp [h3, h4, h5]
      · simp [h3]
  · cases ha
/-- Weeks of a unit. -/
def inW (y : Int) (a n : Nat) (u : Un) : Bool := decide (u.lv = 5 ∧ u.yr = y ∧ (a : Int) + 1 ≤ u.ix ∧ u.ix < (a : Int) + 1 + n)
def sumW (L : List (Un × Int)) (q : Un → Bool) : Int := ((L.filter fun x => q x.1).map (·.2)).sum
theorem sumW_cons (x : Un × Int) (L : List (Un × Int)) (q : Un → Bool) : sumW (x :: L) q = (if q x.1 = true then x.2 else 0) + sumW L q := by
  unfold sumW
  by_cases h : q x.1 = true
  · rw [List.filter_cons_of_pos (by simpa using h), if_pos h]; simp
  · rw [List.filter_cons_of_neg (by simpa using h), if_neg h]; simp
theorem shF_sum (L : List (Un × Int)) (u : Un) : (shF L u).sum = sumW L fun x => decide (u = x) := rfl
theorem wkNs_sum (L : List (Un × Int)) (y : Int) (a n : Nat) : (wkNs (shF L) y a n).sum = sumW L (inW y a n) := by
  induction n with
  | zero =>
    have : (L.filter fun x => inW y a 0 x.1) = [] := by
      rw [List.filter_eq_nil_iff]
      intro x _
      simp [inW]
    simp [wkNs, sumW, this]
  | succ n ih =>
    rw [wkNs, List.sum_append, ih, shF_sum]
    clear ih
    induction L with
    | nil => rfl
    | cons x L ih =>
      rw [sumW_cons, sumW_cons, sumW_cons, ← ih]
      obtain ⟨⟨l, z, i⟩, v⟩ := x
      by_cases h1 : inW y a n ⟨l, z, i⟩ = true
      · have h2 : inW y a (n + 1) ⟨l, z, i⟩ = true := by simp [inW] at h1 ⊢; omega
        have h3 : ¬ decide ((⟨5, y, (a : Int) + 1 + n⟩ : Un) = ⟨l, z, i⟩) = true := by simp [inW] at h1 ⊢; omega
        simp only [h1, h2, h3]; simp; omega
      · by_cases h3 : (⟨5, y, (a : Int) + 1 + n⟩ : Un) = ⟨l, z, i⟩
        · have h2 : inW y a (n + 1) ⟨l, z, i⟩ = true := by simp at h3; simp [inW]; omega
          have h4 : decide ((⟨5, y, (a : Int) + 1 + n⟩ : Un) = ⟨l, z, i⟩) = true := by simpa using h3
          simp only [h1, h2, h4]; simp; omega
        · have h2 : ¬ inW y a (n + 1) ⟨l, z, i⟩ = true := by simp at h3; simp [inW] at h1 ⊢; omega
          have h4 : ¬ decide ((⟨5, y, (a : Int) + 1 + n⟩ : Un) = ⟨l, z, i⟩) = true := by simpa using h3
          simp only [h1, h2, h4]; simp
theorem sumW_pos (L : List (Un × Int)) (q : Un → Bool) (h : ∀ x ∈ L, 0 ≤ x.2) : 0 ≤ sumW L q ∧ sumW L q ≤ (L.map (·.2)).sum := by
  induction L with
  | nil => simp [sumW]
  | cons x L ih =>
    have h1 := ih fun y hy => h y (List.mem_cons_of_mem _ hy)
    have h2 := h x (by simp)
    rw [sumW_cons, List.map_cons, List.sum_cons]
    split <;> omega
theorem sumW_neg (L : List (Un × Int)) (q : Un → Bool) (h : ∀ x ∈ L, x.2 ≤ 0) : (L.map (·.2)).sum ≤ sumW L q ∧ sumW L q ≤ 0 := by
  induction L with
  | nil => simp [sumW]
  | cons x L ih =>
    have h1 := ih fun y hy => h y (List.mem_cons_of_mem _ hy)
    have h2 := h x (by simp)
    rw [sumW_cons, List.map_cons, List.sum_cons]
    split <;> omega
/-- Shares have the amount's sign. -/
theorem out_sign {a : Int} {ws : List Int} (hw : ∀ x ∈ ws, 0 ≤ x) (hn : 0 < ws.sum) {N : Int} (h : N ∈ outV a ws) : (0 ≤ a → 0 ≤ N) ∧ (a ≤ 0 → N ≤ 0) := by
  obtain ⟨i, hi⟩ := List.mem_iff_getElem?.1 h
  have hl := (List.getElem?_eq_some_iff.1 hi).1
  rw [outV_len] at hl
  obtain ⟨x, hx⟩ : ∃ x, ws[i]? = some x := ⟨_, List.getElem?_eq_getElem hl⟩
  obtain ⟨M, h1, h2⟩ := out_get (a := a) hn hx
  rw [hi] at h1
  cases h1
  have h0 := hw x (List.mem_of_getElem? hx)
  have hE := Int.mul_ediv_add_emod (a * x) ws.sum
  have hM := Int.emod_nonneg (a * x) (show ws.sum ≠ 0 by omega)
  have hM2 := Int.emod_lt_of_pos (a * x) hn
  obtain ⟨S, hS⟩ : ∃ S, ws.sum = S := ⟨_, rfl⟩
  obtain ⟨Q, hQ⟩ : ∃ Q, a * x / ws.sum = Q := ⟨_, rfl⟩
  obtain ⟨R, hR⟩ : ∃ R, a * x % ws.sum = R := ⟨_, rfl⟩
  obtain ⟨T, hT⟩ : ∃ T, a * x = T := ⟨_, rfl⟩
  rw [hQ, hR] at h2
  rw [hQ, hR, hT, hS] at hE
  rw [hS] at hn
  rw [hR, hS] at hM2
  rw [hR] at hM
  constructor
  · intro ha
    have h3 : 0 ≤ T := by rw [← hT]; exact Int.mul_nonneg ha h0
    have h4 : 0 ≤ Q := by
      rcases Int.lt_or_le Q 0 with h5 | h5
      · have : S * Q ≤ S * (-1) := Int.mul_le_mul_of_nonneg_left (by omega) (by omega)
        omega
      · exact h5
    rcases h2 with rfl | ⟨rfl, _⟩ <;> omega
  · intro ha
    have h3 : T ≤ 0 := by rw [← hT]; exact Int.mul_nonpos_of_nonpos_of_nonneg ha h0
    rcases h2 with rfl | ⟨rfl, h6⟩
    · rcases Int.lt_or_le 0 N with h5 | h5
      · have : S * 1 ≤ S * N := Int.mul_le_mul_of_nonneg_left (by omega) (by omega)
        omega
      · exact h5
    · rcases Int.lt_or_le (-1) Q with h5 | h5
      · have : S * 0 ≤ S * Q := Int.mul_le_mul_of_nonneg_left (by omega) (by omega)
        omega
      · omega
theorem shL_sign {c : Cal} {lv a : Int} {s : Sp} (hE : meetsE c lv s = 0) : ((shL c lv a s).map (·.2)).sum = a ∧ (0 ≤ a → ∀ x ∈ shL c lv a s, 0 ≤ x.2) ∧ (a ≤ 0 → ∀ x ∈ shL c lv a s, x.2 ≤ 0) := by
  have hdf := dys_facts hE
  have hok := meets_ok hE
  have hpos : 0 < (dysL c lv s).sum := by rw [hdf.1]; have := hok.2.2.2.1; omega
  have hw : ∀ x ∈ dysL c lv s, 0 ≤ x := fun x hx => by have := hdf.2 x hx; omega
  refine ⟨?_, fun h x hx => (out_sign hw hpos (List.of_mem_zip (show (x.1, x.2) ∈ (meetsL c lv s).zip (outV a (dysL c lv s)) from hx)).2).1 h, fun h x hx => (out_sign hw hpos (List.of_mem_zip (show (x.1, x.2) ∈ (meetsL c lv s).zip (outV a (dysL c lv s)) from hx)).2).2 h⟩
  unfold shL
  rw [List.map_snd_zip (by rw [outV_len, dysL_len]; exact Nat.le_refl _), outV_sum hpos]
/-- One accrual alone. -/
theorem pL_one (c : Cal) (y : Int) (a : Ac) : pL c y [a] = if nearA c y a = true then shL c 5 a.n ⟨a.a, a.b⟩ else [] := by simp [pL]
theorem one_T {c : Cal} {u : Un} {a : Ac} (hU : unitE c u = 0) (ha : accE a = 0) (h64 : in64 a.n) :
    (nearA c u.yr a = true → ¬ (startV c c.first ≤ a.a ∧ a.b ≤ endV c c.last) → TE c [] [a] (ZA c [a]) u = 11 ∧ TV c [] [a] (ZA c [a]) u = 0) ∧
    (¬ (nearA c u.yr a = true ∧ ¬ (startV c c.first ≤ a.a ∧ a.b ≤ endV c c.last)) → TE c [] [a] (ZA c [a]) u = 0 ∧ (nearA c u.yr a = false → TV c [] [a] (ZA c [a]) u = 0)) := by
  have hk : c.okB = true := by simpa [Cal.okB] using (ask_ok (un_lv hU).2.2.2.1).1
  have hC : chkE [] [a] = 0 := by simp [chkE, dayB, accsE, ha]
  have hm := acc_meets hk ha
  have hpe : ptE c u.yr [a] = if nearA c u.yr a = true ∧ ¬ (startV c c.first ≤ a.a ∧ a.b ≤ endV c c.last) then 11 else 0 := by
    simp only [ptE, hm]
    by_cases h : startV c c.first ≤ a.a ∧ a.b ≤ endV c c.last
    · rw [if_pos h]; simp [h]
    · rw [if_neg h]; simp [h]
  constructor
  · intro h1 h2
    rw [if_pos ⟨h1, h2⟩] at hpe
    refine ⟨?_, ?_⟩
    · simp only [TE, tE, ZA, hU, hC, hpe]; simp
    · simp only [TV, tV, ZA, hU, hC, hpe]; simp
  · intro h
    rw [if_neg h] at hpe
    have hT : totL c u [] (shF (pL c u.yr [a])) = wkNs (shF (pL c u.yr [a])) u.yr (cutA c u) (cutB c u - cutA c u) := by simp [totL, inD]
    have hS := wkNs_sum (pL c u.yr [a]) u.yr (cutA c u) (cutB c u - cutA c u)
    rw [pL_one] at hS
    have hin : in64 (sumW (if nearA c u.yr a = true then shL c 5 a.n ⟨a.a, a.b⟩ else []) (inW u.yr (cutA c u) (cutB c u - cutA c u))) := by
      by_cases hn : nearA c u.yr a = true
      · rw [if_pos hn]
        have hE : meetsE c 5 ⟨a.a, a.b⟩ = 0 := by
          rw [hm, if_pos]
          by_cases h3 : startV c c.first ≤ a.a ∧ a.b ≤ endV c c.last
          · exact h3
          · exact absurd ⟨hn, h3⟩ h
        obtain ⟨g1, g2, g3⟩ := shL_sign (a := a.n) hE
        rcases Int.le_total 0 a.n with h0 | h0
        · have := sumW_pos _ (inW u.yr (cutA c u) (cutB c u - cutA c u)) (g2 h0)
          rw [g1] at this
          unfold in64 at *
          omega
        · have := sumW_neg _ (inW u.yr (cutA c u) (cutB c u - cutA c u)) (g3 h0)
          rw [g1] at this
          unfold in64 at *
          omega
      · rw [if_neg hn]; exact ⟨by simp [sumW], by simp [sumW]⟩
    rw [← hS, ← pL_one] at hin
    refine ⟨?_, fun hn => ?_⟩
    · simp only [TE, tE, ZA, hU, hC, hpe, hT]
      simpa using (fit_yes hin).2
    · simp only [TV, tV, ZA, hU, hC, hpe, hT]
      have h0 : (wkNs (shF (pL c u.yr [a])) u.yr (cutA c u) (cutB c u - cutA c u)).sum = 0 := by
        rw [wkNs_sum, pL_one, if_neg (by simp [hn])]; rfl
      simp [h0, fitV, fitB]
end Go.Proofs.YtjhhmeoibfdcmaaGreat
