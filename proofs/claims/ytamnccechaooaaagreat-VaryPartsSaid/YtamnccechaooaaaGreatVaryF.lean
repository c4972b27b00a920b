/- Package vary: the table of a year. -/
import Derived.Test.YtamnccechaooaaaGreatBookZ
import Derived.Test.YtamnccechaooaaaGreatVaryE
namespace Go.Proofs.YtamnccechaooaaaGreat
open Go.RowKit Qd
set_option linter.unusedSimpArgs false
set_option linter.unusedVariables false

def rwC (x : Rw) : List Value := [.int .i64 x.u.lv, .int .i64 x.u.yr, .int .i64 x.u.ix, .int .i64 x.this, .int .i64 x.that, .int .i64 x.diff, .bool x.gone]
/-- Rows that lie in a block. -/
def RwsAt (w : World) (g : Nat) (D : List Rw) : Prop := w.heap[g]? = some (.cells (D.flatMap rwC).toArray 86 (0, 0))
theorem RwsAt.lt {w : World} {g : Nat} {D : List Rw} (h : RwsAt w g D) : g < w.heap.size := (Array.getElem?_eq_some_iff.1 h).1
theorem rw_get (D : List Rw) (i : Nat) (x : Rw) (h : D[i]? = some x) : (D.flatMap rwC)[i * 7]? = some (.int .i64 x.u.lv) ∧ (D.flatMap rwC)[i * 7 + 1]? = some (.int .i64 x.u.yr) ∧ (D.flatMap rwC)[i * 7 + 2]? = some (.int .i64 x.u.ix) ∧ (D.flatMap rwC)[i * 7 + 3]? = some (.int .i64 x.this) ∧ (D.flatMap rwC)[i * 7 + 4]? = some (.int .i64 x.that) ∧ (D.flatMap rwC)[i * 7 + 5]? = some (.int .i64 x.diff) ∧ (D.flatMap rwC)[i * 7 + 6]? = some (.bool x.gone) := by
  induction D generalizing i with
  | nil => simp at h
  | cons y l ih =>
    cases i with
    | zero => simp at h; subst h; simp [rwC]
    | succ i =>
      have := ih i (by simpa using h)
      rw [show (i + 1) * 7 = i * 7 + 1 + 1 + 1 + 1 + 1 + 1 + 1 by omega]
      simpa [rwC] using this
theorem rw_set (D : List Rw) (i : Nat) (x : Rw) (h : i < D.length) : (((((((D.flatMap rwC).set (i * 7) (.int .i64 x.u.lv)).set (i * 7 + 1) (.int .i64 x.u.yr)).set (i * 7 + 2) (.int .i64 x.u.ix)).set (i * 7 + 3) (.int .i64 x.this)).set (i * 7 + 4) (.int .i64 x.that)).set (i * 7 + 5) (.int .i64 x.diff)).set (i * 7 + 6) (.bool x.gone) = (D.set i x).flatMap rwC := by
  induction D generalizing i with
  | nil => simp at h
  | cons y l ih =>
    cases i with
    | zero => simp [rwC]
    | succ i =>
      have := ih i (by simpa using h)
      rw [show (i + 1) * 7 = i * 7 + 1 + 1 + 1 + 1 + 1 + 1 + 1 by omega]
      simpa [rwC] using this
theorem RwsAt.cell {w : World} {g : Nat} {D : List Rw} (h : RwsAt w g D) {i : Nat} {x : Rw} (hi : D[i]? = some x) : w.cell? ⟨g, i * 7, none⟩ = some (.int .i64 x.u.lv) ∧ w.cell? ⟨g, i * 7 + 1, none⟩ = some (.int .i64 x.u.yr) ∧ w.cell? ⟨g, i * 7 + 2, none⟩ = some (.int .i64 x.u.ix) ∧ w.cell? ⟨g, i * 7 + 3, none⟩ = some (.int .i64 x.this) ∧ w.cell? ⟨g, i * 7 + 4, none⟩ = some (.int .i64 x.that) ∧ w.cell? ⟨g, i * 7 + 5, none⟩ = some (.int .i64 x.diff) ∧ w.cell? ⟨g, i * 7 + 6, none⟩ = some (.bool x.gone) := by
  have := rw_get D i x hi
  simp [World.cell?, show w.heap[g]? = _ from h, this]
theorem RwsAt.frozen {w : World} {g : Nat} {D : List Rw} (h : RwsAt w g D) (k : Nat) : w.frozen? ⟨g, k, none⟩ = false := by simp [World.frozen?, show w.heap[g]? = _ from h]
theorem RwsAt.call {w w' : World} {g : Nat} {D : List Rw} (h : RwsAt w g D) (hb : Below w.heap.size w w') : RwsAt w' g D := (hb.block g h.lt).trans h
def rwPut (w : World) (g i : Nat) (x : Rw) : World := (((((((w).setCell ⟨g, i * 7, none⟩ (.int .i64 x.u.lv)).setCell ⟨g, i * 7 + 1, none⟩ (.int .i64 x.u.yr)).setCell ⟨g, i * 7 + 2, none⟩ (.int .i64 x.u.ix)).setCell ⟨g, i * 7 + 3, none⟩ (.int .i64 x.this)).setCell ⟨g, i * 7 + 4, none⟩ (.int .i64 x.that)).setCell ⟨g, i * 7 + 5, none⟩ (.int .i64 x.diff)).setCell ⟨g, i * 7 + 6, none⟩ (.bool x.gone)
theorem RwsAt.put {w : World} {g : Nat} {D : List Rw} (h : RwsAt w g D) (i : Nat) (x : Rw) (hi : i < D.length) : RwsAt (rwPut w g i x) g (D.set i x) := by
  unfold RwsAt rwPut at *
  rw [← rw_set D i x hi]
  simp [World.setCell, Array.getElem?_modify, h]
theorem rwPut_below {w0 w : World} {K g i : Nat} {x : Rw} (h : Below K w0 w) (hg : K ≤ g) : Below K w0 (rwPut w g i x) := (((((((h.setCell hg _).setCell hg _).setCell hg _).setCell hg _).setCell hg _).setCell hg _).setCell hg _)
theorem rw_info : (Tryz.prog.info? 86).map (fun i => (i.zero, i.size, i.bytes)) = some (some (.agg #[.int .i64 0, .int .i64 0, .int .i64 0, .int .i64 0, .int .i64 0, .int .i64 0, .bool false]), 7, 56) := by kernel_rfl
abbrev rwZ : Rw := ⟨⟨0, 0, 0⟩, 0, 0, 0, false⟩
def rwObj (n : Nat) : Obj := .cells ((List.replicate n rwZ).flatMap rwC).toArray 86
theorem RwsAt.new (w : World) (n : Nat) : RwsAt (w.alloc (rwObj n)) w.heap.size (List.replicate n rwZ) := by
  unfold RwsAt rwObj
  rw [heap_alloc_new]
theorem rw_flat_len (n : Nat) : ((List.replicate n rwZ).flatMap rwC).length = n * 7 := by
  induction n with
  | zero => rfl
  | succ n ih => rw [List.replicate_succ, List.flatMap_cons, List.length_append, ih]; simp [rwC]; omega
theorem rw_flat_at (n i : Nat) (h : i < n * 7) : ((List.replicate n rwZ).flatMap rwC)[i]? = some (#[.int .i64 0, .int .i64 0, .int .i64 0, .int .i64 0, .int .i64 0, .int .i64 0, Value.bool false].toList.getD (i % 7) undef) := by
  have hd : i / 7 < n := by omega
  have hr : (List.replicate n rwZ)[i / 7]? = some rwZ := by simp [hd]
  obtain ⟨g0, g1, g2, g3, g4, g5, g6⟩ := rw_get _ _ _ hr
  rcases (show i % 7 = 0 ∨ i % 7 = 1 ∨ i % 7 = 2 ∨ i % 7 = 3 ∨ i % 7 = 4 ∨ i % 7 = 5 ∨ i % 7 = 6 by omega) with h | h | h | h | h | h | h
  · have e : i / 7 * 7 = i := by omega
    have := g0
    rw [e] at this
    rw [h]
    exact this
  · have e : i / 7 * 7 + 1 = i := by omega
    have := g1
    rw [e] at this
    rw [h]
    exact this
  · have e : i / 7 * 7 + 2 = i := by omega
    have := g2
    rw [e] at this
    rw [h]
    exact this
  · have e : i / 7 * 7 + 3 = i := by omega
    have := g3
    rw [e] at this
    rw [h]
    exact this
  · have e : i / 7 * 7 + 4 = i := by omega
    have := g4
    rw [e] at this
    rw [h]
    exact this
  · have e : i / 7 * 7 + 5 = i := by omega
    have := g5
    rw [e] at this
    rw [h]
    exact this
  · have e : i / 7 * 7 + 6 = i := by omega
    have := g6
    rw [e] at this
    rw [h]
    exact this
theorem make_rw (n : Nat) (hn : n ≤ 100000) (w : World) : (Instr.makeSlice 91 (.int .i64 (n : Int)) (.int .i64 (n : Int))).run Tryz.prog w = .ok (.slice (some ⟨w.heap.size, 0, none⟩) n n) (w.alloc (rwObj n)) := by
  obtain ⟨i0, hi, hz0, hz1, hz2⟩ := info_parts rw_info
  have hr := run_make (P := Tryz.prog) w 91 86 i0 (.agg #[.int .i64 0, .int .i64 0, .int .i64 0, .int .i64 0, .int .i64 0, .int .i64 0, .bool false]) Tryz.underlying91 hi hz0 .i64 .i64 n n (by omega) (by omega) (by rw [hz2]; omega) (by omega)
  rw [hr, hz1]
  have e : madeCells (Value.agg #[.int .i64 0, .int .i64 0, .int .i64 0, .int .i64 0, .int .i64 0, .int .i64 0, .bool false]).cells (((n : Int)).toNat * 7) = ((List.replicate n rwZ).flatMap rwC).toArray := by
    apply Array.ext
    · simp [madeCells, rwC]
    · intro i h1 h2
      have h3 : i < n * 7 := by simpa [rwC] using h2
      have h4 := rw_flat_at n i h3
      have h5 := (List.getElem?_eq_some_iff.1 h4).2
      have h6 : ((List.replicate n rwZ).flatMap rwC).toArray[i]'h2 = #[.int .i64 0, .int .i64 0, .int .i64 0, .int .i64 0, .int .i64 0, .int .i64 0, Value.bool false].toList.getD (i % 7) undef := by
        rw [List.getElem_toArray]; exact h5
      rw [h6]
      rcases (show i % 7 = 0 ∨ i % 7 = 1 ∨ i % 7 = 2 ∨ i % 7 = 3 ∨ i % 7 = 4 ∨ i % 7 = 5 ∨ i % 7 = 6 by omega) with h | h | h | h | h | h | h <;> simp [madeCells, Value.cells, h]
  rw [e]
  simp [rwObj]
/-- Why a table is none: the first row that is none. -/
def rowsE (c : Cal) (k : Int) (P : List Po) (A : List Ac) (Z : Parts) : List Un → Int
  | [] => 0
  | x :: l => if rwE c x k P A Z = 0 then rowsE c k P A Z l else rwE c x k P A Z
theorem rowsE_take {c : Cal} {k : Int} {P : List Po} {A : List Ac} {Z : Parts} {L : List Un} {j : Nat} {x : Un} (hx : L[j]? = some x) (h : rowsE c k P A Z (L.take j) = 0) (h0 : rwE c x k P A Z = 0) : rowsE c k P A Z (L.take (j + 1)) = 0 := by
  induction L generalizing j with
  | nil => simp at hx
  | cons y l ih =>
    cases j with
    | zero => simp at hx; subst hx; simp [rowsE, h0]
    | succ j =>
      simp only [List.take_succ_cons, rowsE] at h ⊢
      by_cases hy : rwE c y k P A Z = 0
      · rw [if_pos hy] at h ⊢; exact ih (by simpa using hx) h
      · rw [if_neg hy] at h; exact absurd h hy
theorem rowsE_no {c : Cal} {k : Int} {P : List Po} {A : List Ac} {Z : Parts} {L : List Un} {j : Nat} {x : Un} (hx : L[j]? = some x) (h : rowsE c k P A Z (L.take j) = 0) (h0 : ¬ rwE c x k P A Z = 0) : rowsE c k P A Z L = rwE c x k P A Z := by
  induction L generalizing j with
  | nil => simp at hx
  | cons y l ih =>
    cases j with
    | zero => simp at hx; subst hx; simp [rowsE, h0]
    | succ j =>
      simp only [List.take_succ_cons, rowsE] at h ⊢
      by_cases hy : rwE c y k P A Z = 0
      · rw [if_pos hy] at h ⊢; exact ih (by simpa using hx) h
      · rw [if_neg hy] at h; exact absurd h hy
theorem rowsE_all {c : Cal} {k : Int} {P : List Po} {A : List Ac} {Z : Parts} {L : List Un} (h : rowsE c k P A Z L = 0) : ∀ x ∈ L, rwE c x k P A Z = 0 := by
  induction L with
  | nil => intro x hx; simp at hx
  | cons x L ih =>
    simp only [rowsE] at h
    split at h
    · rename_i h1
      intro y hy
      rcases List.mem_cons.1 hy with rfl | hy
      · exact h1
      · exact ih h y hy
    · rename_i h1; exact absurd h h1
def tabE (c : Cal) (lv y k : Int) (P : List Po) (A : List Ac) (Z : Parts) : Int := if frameE c lv y = 0 then rowsE c k P A Z (yU lv y (cntL c y lv)) else frameE c lv y
def tabL (c : Cal) (lv y k : Int) (P : List Po) (A : List Ac) (Z : Parts) : List Rw := (yU lv y (cntL c y lv)).map fun x => rwV c x k P A Z
theorem tabL_len (c : Cal) (lv y k : Int) (P : List Po) (A : List Ac) (Z : Parts) : (tabL c lv y k P A Z).length = cntL c y lv := by simp [tabL, yUl]
theorem tabL_get {c : Cal} {lv y k : Int} {P : List Po} {A : List Ac} {Z : Parts} {j : Nat} (h : j < cntL c y lv) : (tabL c lv y k P A Z)[j]? = some (rwV c ⟨lv, y, (j : Int) + 1⟩ k P A Z) := by
  rw [tabL, List.getElem?_map, yUg h]; rfl

set_option maxRecDepth 100000 in
set_option maxHeartbeats 6400000 in
theorem vtab_any (c : Cal) (lv y k : Int) (P : List Po) (A : List Ac) (Z : Parts) (v1 v2 : Value) (w : World) (hn : c.name.size ≤ 1000) (hP : Posts w v1 P) (hA : Accs w v2 A) (hB : BookOk c P A v2 Z) :
    Calls Tryz.prog 49 #[calV c, .int .i64 lv, .int .i64 y, .int .i64 k, .agg #[v1, v2]] w fun e w' => (∃ v, e = .returned (.tuple #[v, .int .i64 (tabE c lv y k P A Z)]) ∧ (tabE c lv y k P A Z = 0 → ∃ g, v = .slice (some ⟨g, 0, none⟩) (cntL c y lv) (cntL c y lv) ∧ RwsAt w' g (tabL c lv y k P A Z) ∧ w.heap.size ≤ g) ∧ (¬ tabE c lv y k P A Z = 0 → v = .slice none 0 0)) ∧ Below w.heap.size w w' := by
  have HP := hide hP
  have HA := hide hA
  have H0 := hide (fwSt_new c v1 v2 w)
  have HB := hide hB
  clear hB
  obtain ⟨ad1, cap1, rfl, _⟩ := hP
  obtain ⟨ad2, cap2, rfl, _⟩ := hA
  simp only [calV]
  go_enter Tryz.func49, Tryz.ntmps49
  go_wp2_with fail
  refine (count_any c lv y _ hn).mono ?_
  rintro e w1 ⟨rfl, hb1⟩
  have HS1 := hide (H0.out.call hb1)
  clear hb1
  have hBel := HS1.out.2.2.2
  by_cases hf : frameE c lv y = 0
  rotate_left
  · have HR := hide (show tabE c lv y k P A Z = frameE c lv y by rw [tabE, if_neg hf])
    have hE : (frameE c lv y != 0) = true := by simpa using hf
    have HF := hide hf
    obtain ⟨E, hEE⟩ : ∃ E, frameE c lv y = E := ⟨_, rfl⟩
    rw [hEE] at HR hE HF ⊢
    clear hf hEE
    go_wp2
    go_ret2
    exact ⟨⟨.slice none 0 0, by rw [HR.out]; rfl, fun h => absurd (HR.out.symm.trans h) HF.out, fun _ => rfl⟩, hBel⟩
  have HF := hide hf
  rw [hf, show countV c lv y = (cntL c y lv : Int) by rw [countV, if_pos hf]]
  have hcb := cntBd hf
  have HR := hide (show tabE c lv y k P A Z = rowsE c k P A Z (yU lv y (cntL c y lv)) by rw [tabE, if_pos hf])
  obtain ⟨n, hnn⟩ : ∃ n, cntL c y lv = n := ⟨_, rfl⟩
  have HNN := hide hnn
  rw [hnn] at hcb HR ⊢
  clear hf hnn
  have hmk := fun w => make_rw n (by omega) w
  have HL := hide (show (tabL c lv y k P A Z).length = n by rw [tabL_len, HNN.out])
  have HG := hide (fun (j : Nat) (h : j < n) => tabL_get (c := c) (lv := lv) (y := y) (k := k) (P := P) (A := A) (Z := Z) (j := j) (by rw [HNN.out]; exact h))
  have HRW := hide (fun (x : Un) (W : World) (h1 : Posts W (.slice ad1 P.length cap1) P) (h2 : Accs W (.slice ad2 A.length cap2) A) => vrow_any c x k P A Z _ _ W hn h1 h2 HB.out)
  simp only [calV, unitV] at HRW
  have H4 := hide (show RwsAt (w1.alloc (rwObj n)) w1.heap.size (fillL rwZ (tabL c lv y k P A Z) 0) ∧ Below w1.heap.size w1 (w1.alloc (rwObj n)) from ⟨by rw [fill_zero, HL.out]; exact RwsAt.new w1 n, (Below.refl _ _).alloc (Nat.le_refl _) _⟩)
  go_wp2_with fail
  go_loopw [29] (fun s29 wr => ∃ j : Nat, s29 = .int .i64 j ∧ j ≤ n ∧ rowsE c k P A Z ((yU lv y n).take j) = 0 ∧ Hid (RwsAt wr w1.heap.size (fillL rwZ (tabL c lv y k P A Z) j) ∧ Below w1.heap.size w1 wr)) (fun s29 _ => (n + 5 - intOf s29).toNat)
  case atStart => exact ⟨0, rfl, Nat.zero_le _, rfl, H4⟩
  case round =>
    obtain ⟨j, rfl, hj, htt, HQ⟩ := hrel
    have hS3 := HS1.out.call HQ.out.2
    have hgl := HQ.out.1.lt
    by_cases hlt : j < n
    · obtain ⟨q0, q1, q2, q3, q4, q5, q6, q7, q8, q9, q10, q11, q12, q13⟩ := hS3.1
      obtain ⟨⟨k0, k1⟩, _⟩ := blk_two' hS3.2.1
      have hsz := HS1.out.2.2.1
      have hy1 : w.heap.size < wr.heap.size := by omega
      have hy2 : w.heap.size + 1 < wr.heap.size := by omega
      have hi1 : (0 : Int) ≤ (j : Int) := by omega
      have hi3 : (j : Int) < (n : Int) := by omega
      have HTT := hide htt
      clear htt hS3
      go_wp2_with fail
      have hbw := hBel.trans (HQ.out.2.mono hBel.size)
      refine (HRW.out ⟨lv, y, (j : Int) + 1⟩ _ (HP.out.call hbw) (HA.out.call hbw)).mono ?_
      rintro e w4 ⟨rfl, hb4⟩
      have HQ2 := hide (show RwsAt w4 w1.heap.size (fillL rwZ (tabL c lv y k P A Z) j) ∧ Below w1.heap.size w1 w4 from ⟨HQ.out.1.call hb4, HQ.out.2.trans (hb4.mono HQ.out.2.size)⟩)
      clear hb4 q0 q1 q2 q3 q4 q5 q6 q7 q8 q9 q10 q11 q12 q13 k0 k1 hsz hy1 hy2
      have hx := yUg (lv := lv) (y := y) hlt
      have hgt := HG.out j hlt
      obtain ⟨x, hxx⟩ : ∃ x : Rw, rwV c ⟨lv, y, (j : Int) + 1⟩ k P A Z = x := ⟨_, rfl⟩
      rw [hxx] at hgt ⊢
      have HN := hide (show RwsAt (rwPut w4 w1.heap.size j x) w1.heap.size (fillL rwZ (tabL c lv y k P A Z) (j + 1)) ∧ Below w1.heap.size w1 (rwPut w4 w1.heap.size j x) from by
        have h := HQ2.out.1.put j x (by rw [fill_len _ _ _ (by rw [HL.out]; omega), HL.out]; exact hlt)
        rw [fill_set _ _ _ _ hgt] at h
        exact ⟨h, rwPut_below HQ2.out.2 (Nat.le_refl _)⟩)
      have hBelN := hBel.trans (HN.out.2.mono hBel.size)
      unfold rwPut at HN hBelN
      obtain ⟨s0, s1, s2, s3, s4, s5, s6⟩ := HQ2.out.1.cell (fill_at rwZ (tabL c lv y k P A Z) j (by rw [HL.out]; exact hlt))
      have n0 := HQ2.out.1.frozen (j * 7)
      have n1 := HQ2.out.1.frozen (j * 7 + 1)
      have n2 := HQ2.out.1.frozen (j * 7 + 2)
      have n3 := HQ2.out.1.frozen (j * 7 + 3)
      have n4 := HQ2.out.1.frozen (j * 7 + 4)
      have n5 := HQ2.out.1.frozen (j * 7 + 5)
      have n6 := HQ2.out.1.frozen (j * 7 + 6)
      have hgl4 := HQ2.out.1.lt
      simp only [rowCs]
      by_cases hT : rwE c ⟨lv, y, (j : Int) + 1⟩ k P A Z = 0
      rotate_left
      · have HE := hide (show tabE c lv y k P A Z = rwE c ⟨lv, y, (j : Int) + 1⟩ k P A Z by rw [HR.out]; exact rowsE_no hx HTT.out hT)
        have hE : (rwE c ⟨lv, y, (j : Int) + 1⟩ k P A Z != 0) = true := by simpa using hT
        have HT := hide hT
        obtain ⟨E, hEE⟩ : ∃ E, rwE c ⟨lv, y, (j : Int) + 1⟩ k P A Z = E := ⟨_, rfl⟩
        rw [hEE] at HE hE HT ⊢
        clear hT hEE hx hxx hgt
        go_wp2
        go_ret2
        exact ⟨⟨.slice none 0 0, by rw [HE.out]; rfl, fun h => absurd (HE.out.symm.trans h) HT.out, fun _ => rfl⟩, hBelN⟩
      have HT2 := hide (rowsE_take hx HTT.out hT)
      rw [hT]
      clear hx hgt hxx hT
      go_wp2
      go_roundw
      case rel => exact ⟨j + 1, by go_num, by omega, HT2.out, HN⟩
      case measure => simp [intOf]; omega
    · obtain rfl : j = n := by omega
      have HFI := hide (show RwsAt wr w1.heap.size (tabL c lv y k P A Z) from by
        have h := HQ.out.1
        have e1 := fill_full rwZ (tabL c lv y k P A Z)
        rw [HL.out] at e1
        rwa [e1] at h)
      rw [List.take_of_length_le (by rw [yUl]; exact Nat.le_refl _)] at htt
      have HE := hide (HR.out.trans htt)
      have hz3 := hBel.size
      have HBF := hide (hBel.trans (HQ.out.2.mono hz3))
      clear htt hS3
      go_wp2
      all_goals first
        | (exfalso; omega)
        | skip
      go_ret2
      exact ⟨⟨.slice (some ⟨w1.heap.size, 0, none⟩) j j, by rw [HE.out]; rfl, fun _ => ⟨_, by rw [HNN.out], HFI.out, hz3⟩, fun h => absurd HE.out h⟩, HBF.out⟩
end Go.Proofs.YtamnccechaooaaaGreat
