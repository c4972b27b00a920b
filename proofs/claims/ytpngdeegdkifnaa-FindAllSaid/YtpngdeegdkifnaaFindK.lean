/- Contracts of find.All on what it refuses. -/
import Derived.Test.YtpngdeegdkifnaaFindF
import Derived.Test.YtpngdeegdkifnaaFindH
namespace Go.Proofs.Ytpngdeegdkifnaa
open Go.RowKit Go.Shelf Qd
set_option linter.unusedSimpArgs false
set_option linter.unusedVariables false

theorem BlkIs.fz' {w : World} {B : Nat} {cs : Array Value} {t : TypeId} (h : BlkIs w B cs t) (i : Nat) : w.frozen? ⟨B, i, none⟩ = false := by simp [World.frozen?, show w.heap[B]? = _ from h]
/-- Why the units of some years are not told. -/
def allE (c : Cal) (lv f t : Int) : Int := if c.okB = true ∧ 1 ≤ lv ∧ lv ≤ 5 then (if c.first ≤ f ∧ t ≤ c.last ∧ f ≤ t then 0 else 11) else 1
theorem all_ok {c : Cal} {lv f t : Int} (h : allE c lv f t = 0) : c.okB = true ∧ (1 ≤ lv ∧ lv ≤ 5) ∧ c.first ≤ f ∧ t ≤ c.last ∧ f ≤ t := by
  unfold allE at h
  split at h
  · split at h
    · rename_i h1 h2; exact ⟨h1.1, h1.2, h2⟩
    · omega
  · omega
theorem res_allV {tmps : Array Value} {W : World} {B1 B2 : Nat} {v : Value} {e : Int} (h8 : tmps[8]? = some (.pointer (some ⟨B1, 0, none⟩))) (h9 : tmps[9]? = some (.pointer (some ⟨B2, 0, none⟩)))
    (g1 : BlkIs W B1 #[v] 40) (g2 : BlkIs W B2 #[.int .i64 e] 26) :
    (results Try.f20 tmps).run Try.prog W = .ok (.tuple #[v, .int .i64 e]) W := by
  have c0 := g1.cell 0
  have c1 := g2.cell 0
  simp at c0 c1
  simp [results, Try.results20, go_sem, h8, h9, c0, c1]
set_option maxRecDepth 100000 in
set_option maxHeartbeats 1600000 in
theorem all_cal (c : Cal) (lv f t : Int) (w : World) (hn : c.name.size ≤ 1000) (hk : c.okB = false) :
    Calls Try.prog 20 #[calV c, .int .i64 lv, .int .i64 f, .int .i64 t] w fun e w' => e = .returned (.tuple #[.slice none 0 0, .int .i64 1]) ∧ Below w.heap.size w w' := by
  have HO := hide (show okE c = 1 by simp [okE, hk])
  clear hk
  simp only [calV]
  go_enter Try.func20, Try.ntmps20
  go_wp2_with fail
  refine (check_any c _ hn).mono ?_
  rintro e w1 ⟨rfl, hb1⟩
  rw [HO.out]
  have G0 : BlkIs w1 w.heap.size (calCs c) 24 := (((BlkIs.new w _ _).alloc _).alloc _).call (by exact hb1)
  have G2 : BlkIs w1 (w.heap.size + 1) #[.slice none 0 0] 40 := by
    have := ((BlkIs.new (w.alloc (.cells (calCs c) 24)) #[.slice none 0 0] 40).alloc (.cells #[.int .i64 0] 26))
    refine BlkIs.call ?_ (by exact hb1)
    simpa using this
  have G3 : BlkIs w1 (w.heap.size + 2) #[.int .i64 0] 26 := by
    have := BlkIs.new ((w.alloc (.cells (calCs c) 24)).alloc (.cells #[.slice none 0 0] 40)) #[.int .i64 0] 26
    refine BlkIs.call ?_ (by exact hb1)
    simpa using this
  have HB1 := hide (show Below w.heap.size w w1 by (repeat' (first | (with_reducible exact Below.refl _ _) | (with_reducible assumption) | (with_reducible refine Below.alloc ?_ ?_ _) | (with_reducible refine below_drewN ?_ _) | (with_reducible refine Below.drew ?_) | (with_reducible refine Below.setCell ?_ ?_ _) | (with_reducible refine Below.trans ?_ (Below.mono (by assumption) ?_)) | go_size | (simp at *; omega))))
  clear hb1
  obtain ⟨q0, q1, q2, q3, q4, q5, q6, q7, q8, q9, q10, q11, q12, q13⟩ := G0.cal
  have r0 := G2.cell 0
  have r1 := G3.cell 0
  have f0 := G2.fz' 0
  have f1 := G3.fz' 0
  have hsz := G3.lt
  simp at r0 r1
  have HG2 := hide G2
  have HG3 := hide G3
  clear G0 G2 G3
  go_wp2
  exact bodyPost_ret (v := .tuple #[.slice none 0 0, .int .i64 1]) (res_allV rfl rfl ((HG2.out.set0 (.slice none 0 0)).far (p := ⟨w.heap.size + 2, 0, none⟩) (by simp) _) ((HG3.out.far (p := ⟨w.heap.size + 1, 0, none⟩) (by simp) (.slice none 0 0)).set0 (.int .i64 1))) rfl ⟨rfl, by have hB := HB1.out; exact ((hB.setCell (by first | (simp; done) | (simp; omega)) _).setCell (by first | (simp; done) | (simp; omega)) _)⟩

set_option maxRecDepth 100000 in
set_option maxHeartbeats 1600000 in
theorem all_lv (c : Cal) (lv f t : Int) (w : World) (hn : c.name.size ≤ 1000) (hk : c.okB = true) (hl : ¬ (1 ≤ lv ∧ lv ≤ 5)) :
    Calls Try.prog 20 #[calV c, .int .i64 lv, .int .i64 f, .int .i64 t] w fun e w' => e = .returned (.tuple #[.slice none 0 0, .int .i64 1]) ∧ Below w.heap.size w w' := by
  have hlb : decide (1 ≤ lv ∧ lv ≤ 5) = false := by simpa using hl
  clear hl
  have HO := hide (show okE c = 0 by simp [okE, hk])
  clear hk
  simp only [calV]
  go_enter Try.func20, Try.ntmps20
  go_wp2_with fail
  refine (check_any c _ hn).mono ?_
  rintro e w1 ⟨rfl, hb1⟩
  rw [HO.out]
  have G0 : BlkIs w1 w.heap.size (calCs c) 24 := (((BlkIs.new w _ _).alloc _).alloc _).call (by exact hb1)
  have G2 : BlkIs w1 (w.heap.size + 1) #[.slice none 0 0] 40 := by
    have := ((BlkIs.new (w.alloc (.cells (calCs c) 24)) #[.slice none 0 0] 40).alloc (.cells #[.int .i64 0] 26))
    refine BlkIs.call ?_ (by exact hb1)
    simpa using this
  have G3 : BlkIs w1 (w.heap.size + 2) #[.int .i64 0] 26 := by
    have := BlkIs.new ((w.alloc (.cells (calCs c) 24)).alloc (.cells #[.slice none 0 0] 40)) #[.int .i64 0] 26
    refine BlkIs.call ?_ (by exact hb1)
    simpa using this
  have HB1 := hide (show Below w.heap.size w w1 by (repeat' (first | (with_reducible exact Below.refl _ _) | (with_reducible assumption) | (with_reducible refine Below.alloc ?_ ?_ _) | (with_reducible refine below_drewN ?_ _) | (with_reducible refine Below.drew ?_) | (with_reducible refine Below.setCell ?_ ?_ _) | (with_reducible refine Below.trans ?_ (Below.mono (by assumption) ?_)) | go_size | (simp at *; omega))))
  clear hb1
  obtain ⟨q0, q1, q2, q3, q4, q5, q6, q7, q8, q9, q10, q11, q12, q13⟩ := G0.cal
  have r0 := G2.cell 0
  have r1 := G3.cell 0
  have f0 := G2.fz' 0
  have f1 := G3.fz' 0
  have hsz := G3.lt
  simp at r0 r1
  have HG2 := hide G2
  have HG3 := hide G3
  clear G0 G2 G3
  go_wp2_with (go_at_call 38; refine (levelled_any _ _).mono ?_; rintro e w' ⟨rfl, rfl⟩; rw [hlb])
  exact bodyPost_ret (v := .tuple #[.slice none 0 0, .int .i64 1]) (res_allV rfl rfl ((HG2.out.set0 (.slice none 0 0)).far (p := ⟨w.heap.size + 2, 0, none⟩) (by simp) _) ((HG3.out.far (p := ⟨w.heap.size + 1, 0, none⟩) (by simp) (.slice none 0 0)).set0 (.int .i64 1))) rfl ⟨rfl, by have hB := HB1.out; exact ((hB.setCell (by first | (simp; done) | (simp; omega)) _).setCell (by first | (simp; done) | (simp; omega)) _)⟩

set_option maxRecDepth 100000 in
set_option maxHeartbeats 1600000 in
theorem all_rng (c : Cal) (lv f t : Int) (w : World) (hn : c.name.size ≤ 1000) (hk : c.okB = true) (hl : 1 ≤ lv ∧ lv ≤ 5) (hs : f < c.first ∨ (c.first ≤ f ∧ c.last < t) ∨ (c.first ≤ f ∧ t ≤ c.last ∧ t < f)) :
    Calls Try.prog 20 #[calV c, .int .i64 lv, .int .i64 f, .int .i64 t] w fun e w' => e = .returned (.tuple #[.slice none 0 0, .int .i64 11]) ∧ Below w.heap.size w w' := by
  have hlb : decide (1 ≤ lv ∧ lv ≤ 5) = true := by simpa using hl
  clear hl
  have HO := hide (show okE c = 0 by simp [okE, hk])
  clear hk
  simp only [calV]
  go_enter Try.func20, Try.ntmps20
  go_wp2_with fail
  refine (check_any c _ hn).mono ?_
  rintro e w1 ⟨rfl, hb1⟩
  rw [HO.out]
  have G0 : BlkIs w1 w.heap.size (calCs c) 24 := (((BlkIs.new w _ _).alloc _).alloc _).call (by exact hb1)
  have G2 : BlkIs w1 (w.heap.size + 1) #[.slice none 0 0] 40 := by
    have := ((BlkIs.new (w.alloc (.cells (calCs c) 24)) #[.slice none 0 0] 40).alloc (.cells #[.int .i64 0] 26))
    refine BlkIs.call ?_ (by exact hb1)
    simpa using this
  have G3 : BlkIs w1 (w.heap.size + 2) #[.int .i64 0] 26 := by
    have := BlkIs.new ((w.alloc (.cells (calCs c) 24)).alloc (.cells #[.slice none 0 0] 40)) #[.int .i64 0] 26
    refine BlkIs.call ?_ (by exact hb1)
    simpa using this
  have HB1 := hide (show Below w.heap.size w w1 by (repeat' (first | (with_reducible exact Below.refl _ _) | (with_reducible assumption) | (with_reducible refine Below.alloc ?_ ?_ _) | (with_reducible refine below_drewN ?_ _) | (with_reducible refine Below.drew ?_) | (with_reducible refine Below.setCell ?_ ?_ _) | (with_reducible refine Below.trans ?_ (Below.mono (by assumption) ?_)) | go_size | (simp at *; omega))))
  clear hb1
  obtain ⟨q0, q1, q2, q3, q4, q5, q6, q7, q8, q9, q10, q11, q12, q13⟩ := G0.cal
  have r0 := G2.cell 0
  have r1 := G3.cell 0
  have f0 := G2.fz' 0
  have f1 := G3.fz' 0
  have hsz := G3.lt
  simp at r0 r1
  have HG2 := hide G2
  have HG3 := hide G3
  clear G0 G2 G3
  rcases hs with hs | ⟨hs, hs2⟩ | ⟨hs, hs2, hs3⟩
  all_goals
    first | go_wp2_with (go_at_call 38; refine (levelled_any _ _).mono ?_; rintro e w' ⟨rfl, rfl⟩; rw [hlb]) | skip
    exact bodyPost_ret (v := .tuple #[.slice none 0 0, .int .i64 11]) (res_allV rfl rfl ((HG2.out.set0 (.slice none 0 0)).far (p := ⟨w.heap.size + 2, 0, none⟩) (by simp) _) ((HG3.out.far (p := ⟨w.heap.size + 1, 0, none⟩) (by simp) (.slice none 0 0)).set0 (.int .i64 11))) rfl ⟨rfl, by have hB := HB1.out; exact ((hB.setCell (by first | (simp; done) | (simp; omega)) _).setCell (by first | (simp; done) | (simp; omega)) _)⟩

theorem all_no (c : Cal) (lv f t : Int) (w : World) (hn : c.name.size ≤ 1000) (h : ¬ allE c lv f t = 0) :
    Calls Try.prog 20 #[calV c, .int .i64 lv, .int .i64 f, .int .i64 t] w fun e w' => e = .returned (.tuple #[.slice none 0 0, .int .i64 (allE c lv f t)]) ∧ Below w.heap.size w w' := by
  unfold allE at h ⊢
  by_cases hk : c.okB = true
  · by_cases hl : 1 ≤ lv ∧ lv ≤ 5
    · rw [if_pos ⟨hk, hl⟩] at h ⊢
      by_cases hs : c.first ≤ f ∧ t ≤ c.last ∧ f ≤ t
      · rw [if_pos hs] at h; omega
      · rw [if_neg hs]
        exact all_rng c lv f t w hn hk hl (by omega)
    · rw [if_neg (fun x => hl x.2)]
      exact all_lv c lv f t w hn hk hl
  · rw [if_neg (fun x => hk x.1)]
    exact all_cal c lv f t w hn (by simpa using hk)
end Go.Proofs.Ytpngdeegdkifnaa
