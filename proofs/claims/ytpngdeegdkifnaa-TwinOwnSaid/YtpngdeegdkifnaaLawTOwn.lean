/- The walk of TwinOwn. -/
import Derived.Test.YtpngdeegdkifnaaTwinC
import Derived.Test.YtpngdeegdkifnaaTwinB
namespace Go.Proofs.Ytpngdeegdkifnaa
open Go.RowKit Qd
set_option linter.unusedSimpArgs false
set_option linter.unusedVariables false

set_option maxRecDepth 100000 in
set_option maxHeartbeats 1600000 in
theorem to_long (c : Cal) (u : Un) (k : Int) (w : World) (hn : 100 < c.name.size) (hm : c.name.size ≤ 9223372036854775807) :
    Calls Try.prog 10 #[calV c, unitV u, .int .i64 k] w fun e w' => e = .returned (.bool true) ∧ Below w.heap.size w w' := by
  simp only [calV, unitV]
  go_enter Try.func10, Try.ntmps10
  go_wp2_with fail
  refine (live20_any _).mono ?_
  rintro e w1 ⟨rfl, hb1⟩
  have hz1 : w.heap.size + 1 < w1.heap.size := by have := hb1.size; simp at this; omega
  have HB1 := hide (show Below w.heap.size w w1 by refine Below.trans ?_ (hb1.mono (by first | omega | (simp; done) | (simp; omega))); (repeat' (first | (with_reducible exact Below.refl _ _) | (with_reducible assumption) | (with_reducible refine Below.alloc ?_ ?_ _) | (with_reducible refine below_drewN ?_ _) | (with_reducible refine Below.drew ?_) | (with_reducible refine Below.setCell ?_ ?_ _) | (with_reducible refine Below.trans ?_ (Below.mono (by assumption) ?_)) | go_size | (simp at *; omega))))
  have HQ1 := hide (calAt_below hb1 (by simp; omega) (calAt_alloc (calAt_new w c) (by simp) _))
  have HU1 := hide (unAt_below hb1 (by simp) (unAt_new w c u))
  obtain ⟨q0, q1, q2, q3, q4, q5, q6, q7, q8, q9, q10, q11, q12, q13⟩ := HQ1.out
  obtain ⟨u0, u1, u2⟩ := HU1.out
  have hy1 : w.heap.size < w1.heap.size := by omega
  clear hb1
  go_wp2
  all_goals first
    | (exfalso; omega)
    | (go_ret; exact ⟨rfl, HB1.out⟩)


set_option maxRecDepth 100000 in
set_option maxHeartbeats 3200000 in
theorem to_triv (c : Cal) (u : Un) (k : Int) (w : World) (hn : c.name.size ≤ 100) (h : k < -400 ∨ (-400 ≤ k ∧ 400 < k)) :
    Calls Try.prog 10 #[calV c, unitV u, .int .i64 k] w fun e w' => e = .returned (.bool true) ∧ Below w.heap.size w w' := by
  rcases h with h2 | ⟨h2, h3⟩
  all_goals
    simp only [calV, unitV]
    go_enter Try.func10, Try.ntmps10
    go_wp2_with fail
    refine (live20_any _).mono ?_
    rintro e w1 ⟨rfl, hb1⟩
    have hz1 : w.heap.size + 1 < w1.heap.size := by have := hb1.size; simp at this; omega
    have HB1 := hide (show Below w.heap.size w w1 by refine Below.trans ?_ (hb1.mono (by first | omega | (simp; done) | (simp; omega))); (repeat' (first | (with_reducible exact Below.refl _ _) | (with_reducible assumption) | (with_reducible refine Below.alloc ?_ ?_ _) | (with_reducible refine below_drewN ?_ _) | (with_reducible refine Below.drew ?_) | (with_reducible refine Below.setCell ?_ ?_ _) | (with_reducible refine Below.trans ?_ (Below.mono (by assumption) ?_)) | go_size | (simp at *; omega))))
    have HQ1 := hide (calAt_below hb1 (by simp; omega) (calAt_alloc (calAt_new w c) (by simp) _))
    have HU1 := hide (unAt_below hb1 (by simp) (unAt_new w c u))
    obtain ⟨q0, q1, q2, q3, q4, q5, q6, q7, q8, q9, q10, q11, q12, q13⟩ := HQ1.out
    obtain ⟨u0, u1, u2⟩ := HU1.out
    have hy1 : w.heap.size < w1.heap.size := by omega
    clear hb1
    have hBel := HB1.out
    go_wp2
    all_goals first
      | (exfalso; omega)
      | (go_ret; exact ⟨rfl, by (repeat' (first | (with_reducible exact Below.refl _ _) | (with_reducible assumption) | (with_reducible refine Below.alloc ?_ ?_ _) | (with_reducible refine below_drewN ?_ _) | (with_reducible refine Below.drew ?_) | (with_reducible refine Below.setCell ?_ ?_ _) | (with_reducible refine Below.trans ?_ (Below.mono (by assumption) ?_)) | go_size | (simp at *; omega)))⟩)

set_option maxRecDepth 100000 in
set_option maxHeartbeats 3200000 in
theorem to_no (c : Cal) (u : Un) (k : Int) (w : World) (hn : c.name.size ≤ 100) (k1 : -400 ≤ k) (k2 : k ≤ 400) (hU : ¬ unitE c u = 0) :
    Calls Try.prog 10 #[calV c, unitV u, .int .i64 k] w fun e w' => e = .returned (.bool true) ∧ Below w.heap.size w w' := by
  have hUb : (unitE c u != 0) = true := by simpa using hU
  have hE : twE c u 0 = unitE c u := by rw [twE, if_neg hU]
  have HNO := hide (fun (w : World) (h : c.name.size ≤ 1000) => runs_no c u 0 w h (by rw [hE]; exact hU))
  rw [hE] at HNO
  obtain ⟨S, hS⟩ : ∃ S, spV c u = S := ⟨_, rfl⟩
  have HS := hide hS
  clear hU hE hS
  simp only [calV, unitV]
  go_enter Try.func10, Try.ntmps10
  go_wp2_with fail
  refine (live20_any _).mono ?_
  rintro e w1 ⟨rfl, hb1⟩
  have hz1 : w.heap.size + 1 < w1.heap.size := by have := hb1.size; simp at this; omega
  have HB1 := hide (show Below w.heap.size w w1 by refine Below.trans ?_ (hb1.mono (by first | omega | (simp; done) | (simp; omega))); (repeat' (first | (with_reducible exact Below.refl _ _) | (with_reducible assumption) | (with_reducible refine Below.alloc ?_ ?_ _) | (with_reducible refine below_drewN ?_ _) | (with_reducible refine Below.drew ?_) | (with_reducible refine Below.setCell ?_ ?_ _) | (with_reducible refine Below.trans ?_ (Below.mono (by assumption) ?_)) | go_size | (simp at *; omega))))
  have HQ1 := hide (calAt_below hb1 (by simp; omega) (calAt_alloc (calAt_new w c) (by simp) _))
  have HU1 := hide (unAt_below hb1 (by simp) (unAt_new w c u))
  obtain ⟨q0, q1, q2, q3, q4, q5, q6, q7, q8, q9, q10, q11, q12, q13⟩ := HQ1.out
  obtain ⟨u0, u1, u2⟩ := HU1.out
  have hy1 : w.heap.size < w1.heap.size := by omega
  clear hb1
  go_wp2_with fail
  all_goals first
    | (exfalso; omega)
    | skip
  refine (uspan_any c u _ (by omega)).mono ?_
  rintro e w2 ⟨rfl, hb2⟩
  rw [HS.out]
  simp only [spanV]
  have hz2 : w.heap.size + 1 < w2.heap.size := by have := hb2.size; (try simp at this); omega
  have HB2 := hide (show Below w.heap.size w w2 by have hp := HB1.out; refine Below.trans ?_ (hb2.mono (by first | omega | (simp; done) | (simp; omega))); (repeat' (first | (with_reducible exact Below.refl _ _) | (with_reducible assumption) | (with_reducible refine Below.alloc ?_ ?_ _) | (with_reducible refine below_drewN ?_ _) | (with_reducible refine Below.drew ?_) | (with_reducible refine Below.setCell ?_ ?_ _) | (with_reducible refine Below.trans ?_ (Below.mono (by assumption) ?_)) | go_size | (simp at *; omega))))
  have HQ2 := hide (show CalAt w2 w.heap.size c from calAt_below hb2 (by first | omega | (simp; done) | (simp; omega)) (by first | exact HQ1.out | exact calAt_alloc HQ1.out (by omega) _ | exact calAt_alloc (calAt_alloc HQ1.out (by omega) _) (by simp; omega) _))
  clear q0 q1 q2 q3 q4 q5 q6 q7 q8 q9 q10 q11 q12 q13
  obtain ⟨q0, q1, q2, q3, q4, q5, q6, q7, q8, q9, q10, q11, q12, q13⟩ := HQ2.out
  have HU2 := hide (show UnAt w2 (w.heap.size + 1) u from unAt_below hb2 (by first | omega | (simp; done) | (simp; omega)) (by first | exact HU1.out | exact unAt_alloc HU1.out (by omega) _ | exact unAt_alloc (unAt_alloc HU1.out (by omega) _) (by simp; omega) _))
  clear u0 u1 u2
  obtain ⟨u0, u1, u2⟩ := HU2.out
  have hy2 : w.heap.size < w2.heap.size := by omega
  clear hb2
  go_wp2_with fail
  all_goals first
    | (exfalso; omega)
    | skip
  refine (HNO.out _ (by omega)).mono ?_
  rintro e w3 ⟨rfl, hb3⟩
  have hz3 : w.heap.size + 1 < w3.heap.size := by have := hb3.size; (try simp at this); omega
  have HB3 := hide (show Below w.heap.size w w3 by have hp := HB2.out; refine Below.trans ?_ (hb3.mono (by first | omega | (simp; done) | (simp; omega))); (repeat' (first | (with_reducible exact Below.refl _ _) | (with_reducible assumption) | (with_reducible refine Below.alloc ?_ ?_ _) | (with_reducible refine below_drewN ?_ _) | (with_reducible refine Below.drew ?_) | (with_reducible refine Below.setCell ?_ ?_ _) | (with_reducible refine Below.trans ?_ (Below.mono (by assumption) ?_)) | go_size | (simp at *; omega))))
  have HQ3 := hide (show CalAt w3 w.heap.size c from calAt_below hb3 (by first | omega | (simp; done) | (simp; omega)) (by first | exact HQ2.out | exact calAt_alloc HQ2.out (by omega) _ | exact calAt_alloc (calAt_alloc HQ2.out (by omega) _) (by simp; omega) _))
  clear q0 q1 q2 q3 q4 q5 q6 q7 q8 q9 q10 q11 q12 q13
  obtain ⟨q0, q1, q2, q3, q4, q5, q6, q7, q8, q9, q10, q11, q12, q13⟩ := HQ3.out
  have HU3 := hide (show UnAt w3 (w.heap.size + 1) u from unAt_below hb3 (by first | omega | (simp; done) | (simp; omega)) (by first | exact HU2.out | exact unAt_alloc HU2.out (by omega) _ | exact unAt_alloc (unAt_alloc HU2.out (by omega) _) (by simp; omega) _))
  clear u0 u1 u2
  obtain ⟨u0, u1, u2⟩ := HU3.out
  have hy3 : w.heap.size < w3.heap.size := by omega
  clear hb3
  have hBel := HB3.out
  go_wp2
  all_goals first
    | (exfalso; omega)
    | (go_ret; exact ⟨ret_bool (by simp), by (repeat' (first | (with_reducible exact Below.refl _ _) | (with_reducible assumption) | (with_reducible refine Below.alloc ?_ ?_ _) | (with_reducible refine below_drewN ?_ _) | (with_reducible refine Below.drew ?_) | (with_reducible refine Below.setCell ?_ ?_ _) | (with_reducible refine Below.trans ?_ (Below.mono (by assumption) ?_)) | go_size | (simp at *; omega)))⟩)
    | (go_ret; exact ⟨ret_bool (by simp; omega), by (repeat' (first | (with_reducible exact Below.refl _ _) | (with_reducible assumption) | (with_reducible refine Below.alloc ?_ ?_ _) | (with_reducible refine below_drewN ?_ _) | (with_reducible refine Below.drew ?_) | (with_reducible refine Below.setCell ?_ ?_ _) | (with_reducible refine Below.trans ?_ (Below.mono (by assumption) ?_)) | go_size | (simp at *; omega)))⟩)
    | (go_ret; exact ⟨rfl, by (repeat' (first | (with_reducible exact Below.refl _ _) | (with_reducible assumption) | (with_reducible refine Below.alloc ?_ ?_ _) | (with_reducible refine below_drewN ?_ _) | (with_reducible refine Below.drew ?_) | (with_reducible refine Below.setCell ?_ ?_ _) | (with_reducible refine Below.trans ?_ (Below.mono (by assumption) ?_)) | go_size | (simp at *; omega)))⟩)

set_option maxRecDepth 100000 in
set_option maxHeartbeats 3200000 in
theorem to_yes1 (c : Cal) (u : Un) (k : Int) (w : World) (hn : c.name.size ≤ 100) (k1 : -400 ≤ k) (k2 : k ≤ 400) (hU : unitE c u = 0) (h : ¬ u.lv = 1 ∨ (u.lv = 1 ∧ ¬ c.policy = 3)) :
    Calls Try.prog 10 #[calV c, unitV u, .int .i64 k] w fun e w' => e = .returned (.bool true) ∧ Below w.heap.size w w' := by
  obtain ⟨hE0, hR0⟩ := tw_self hU
  obtain ⟨S, hS⟩ : ∃ S, spV c u = S := ⟨_, rfl⟩
  rw [hS] at hR0
  have HR := hide hR0
  have HE0 := hide hE0
  have HS := hide (And.intro hS hU)
  clear hU hE0 hR0 hS
  have hg : ((u.lv != 1) = true) ∨ ((u.lv != 1) = false ∧ (c.policy != 3) = true) := by
    rcases h with h | ⟨h, h2⟩
    · left; simpa using h
    · right; exact ⟨by simp [h], by simpa using h2⟩
  clear h
  simp only [calV, unitV]
  go_enter Try.func10, Try.ntmps10
  go_wp2_with fail
  refine (live20_any _).mono ?_
  rintro e w1 ⟨rfl, hb1⟩
  have hz1 : w.heap.size + 1 < w1.heap.size := by have := hb1.size; simp at this; omega
  have HB1 := hide (show Below w.heap.size w w1 by refine Below.trans ?_ (hb1.mono (by first | omega | (simp; done) | (simp; omega))); (repeat' (first | (with_reducible exact Below.refl _ _) | (with_reducible assumption) | (with_reducible refine Below.alloc ?_ ?_ _) | (with_reducible refine below_drewN ?_ _) | (with_reducible refine Below.drew ?_) | (with_reducible refine Below.setCell ?_ ?_ _) | (with_reducible refine Below.trans ?_ (Below.mono (by assumption) ?_)) | go_size | (simp at *; omega))))
  have HQ1 := hide (calAt_below hb1 (by simp; omega) (calAt_alloc (calAt_new w c) (by simp) _))
  have HU1 := hide (unAt_below hb1 (by simp) (unAt_new w c u))
  obtain ⟨q0, q1, q2, q3, q4, q5, q6, q7, q8, q9, q10, q11, q12, q13⟩ := HQ1.out
  obtain ⟨u0, u1, u2⟩ := HU1.out
  have hy1 : w.heap.size < w1.heap.size := by omega
  clear hb1
  go_wp2_with fail
  all_goals first
    | (exfalso; omega)
    | skip
  refine (uspan_any c u _ (by omega)).mono ?_
  rintro e w2 ⟨rfl, hb2⟩
  rw [HS.out.1, HS.out.2]
  simp only [spanV]
  have hz2 : w.heap.size + 1 < w2.heap.size := by have := hb2.size; (try simp at this); omega
  have HB2 := hide (show Below w.heap.size w w2 by have hp := HB1.out; refine Below.trans ?_ (hb2.mono (by first | omega | (simp; done) | (simp; omega))); (repeat' (first | (with_reducible exact Below.refl _ _) | (with_reducible assumption) | (with_reducible refine Below.alloc ?_ ?_ _) | (with_reducible refine below_drewN ?_ _) | (with_reducible refine Below.drew ?_) | (with_reducible refine Below.setCell ?_ ?_ _) | (with_reducible refine Below.trans ?_ (Below.mono (by assumption) ?_)) | go_size | (simp at *; omega))))
  have HQ2 := hide (show CalAt w2 w.heap.size c from calAt_below hb2 (by first | omega | (simp; done) | (simp; omega)) (by first | exact HQ1.out | exact calAt_alloc HQ1.out (by omega) _ | exact calAt_alloc (calAt_alloc HQ1.out (by omega) _) (by simp; omega) _))
  clear q0 q1 q2 q3 q4 q5 q6 q7 q8 q9 q10 q11 q12 q13
  obtain ⟨q0, q1, q2, q3, q4, q5, q6, q7, q8, q9, q10, q11, q12, q13⟩ := HQ2.out
  have HU2 := hide (show UnAt w2 (w.heap.size + 1) u from unAt_below hb2 (by first | omega | (simp; done) | (simp; omega)) (by first | exact HU1.out | exact unAt_alloc HU1.out (by omega) _ | exact unAt_alloc (unAt_alloc HU1.out (by omega) _) (by simp; omega) _))
  clear u0 u1 u2
  obtain ⟨u0, u1, u2⟩ := HU2.out
  have hy2 : w.heap.size < w2.heap.size := by omega
  clear hb2
  go_wp2_with fail
  all_goals first
    | (exfalso; omega)
    | skip
  refine (runs_yes c u 0 _ (by omega) HE0.out).mono ?_
  rintro e w3 ⟨⟨g, cap, rfl, hsp⟩, hb3⟩
  rw [HR.out] at hsp ⊢
  have hgl := spsLt hsp (by simp)
  obtain ⟨s0, s1⟩ := SpsAt.cell hsp (i := 0) (s := S) rfl
  simp only [Nat.zero_mul, Nat.zero_add] at s0 s1
  simp only [List.length_cons, List.length_nil, Nat.zero_add]
  clear hsp
  have GS3 := hide ((BlkIs.new w2 #[.int .i64 S.a, .int .i64 S.b] 35).call hb3)
  have x0 : w3.cell? ⟨w2.heap.size, 0, none⟩ = some (.int .i64 S.a) := GS3.out.cell 0
  have x1 : w3.cell? ⟨w2.heap.size, 1, none⟩ = some (.int .i64 S.b) := GS3.out.cell 1
  have hz3 : w.heap.size + 1 < w3.heap.size := by have := hb3.size; (try simp at this); omega
  have HB3 := hide (show Below w.heap.size w w3 by have hp := HB2.out; refine Below.trans ?_ (hb3.mono (by first | omega | (simp; done) | (simp; omega))); (repeat' (first | (with_reducible exact Below.refl _ _) | (with_reducible assumption) | (with_reducible refine Below.alloc ?_ ?_ _) | (with_reducible refine below_drewN ?_ _) | (with_reducible refine Below.drew ?_) | (with_reducible refine Below.setCell ?_ ?_ _) | (with_reducible refine Below.trans ?_ (Below.mono (by assumption) ?_)) | go_size | (simp at *; omega))))
  have HQ3 := hide (show CalAt w3 w.heap.size c from calAt_below hb3 (by first | omega | (simp; done) | (simp; omega)) (by first | exact HQ2.out | exact calAt_alloc HQ2.out (by omega) _ | exact calAt_alloc (calAt_alloc HQ2.out (by omega) _) (by simp; omega) _))
  clear q0 q1 q2 q3 q4 q5 q6 q7 q8 q9 q10 q11 q12 q13
  obtain ⟨q0, q1, q2, q3, q4, q5, q6, q7, q8, q9, q10, q11, q12, q13⟩ := HQ3.out
  have HU3 := hide (show UnAt w3 (w.heap.size + 1) u from unAt_below hb3 (by first | omega | (simp; done) | (simp; omega)) (by first | exact HU2.out | exact unAt_alloc HU2.out (by omega) _ | exact unAt_alloc (unAt_alloc HU2.out (by omega) _) (by simp; omega) _))
  clear u0 u1 u2
  obtain ⟨u0, u1, u2⟩ := HU3.out
  have hy3 : w.heap.size < w3.heap.size := by omega
  clear hb3
  have hi0 : (0 : Int) < (1 : Int) := by decide
  have hsb := spB_same S.a S.b
  go_wp2_with fail
  all_goals first
    | (exfalso; omega)
    | skip
  go_quiet (fail)
  clear s0 s1 x0 x1
  have hBel := HB3.out
  rcases hg with hg | ⟨hg, hg2⟩
  all_goals
    go_wp2
    all_goals first
      | (exfalso; omega)
      | (go_ret; exact ⟨rfl, by (repeat' (first | (with_reducible exact Below.refl _ _) | (with_reducible assumption) | (with_reducible refine Below.alloc ?_ ?_ _) | (with_reducible refine below_drewN ?_ _) | (with_reducible refine Below.drew ?_) | (with_reducible refine Below.setCell ?_ ?_ _) | (with_reducible refine Below.trans ?_ (Below.mono (by assumption) ?_)) | go_size | (simp at *; omega)))⟩)

set_option maxRecDepth 100000 in
set_option maxHeartbeats 3200000 in
theorem to_yes2 (c : Cal) (u : Un) (k : Int) (w : World) (hn : c.name.size ≤ 100) (k1 : -400 ≤ k) (k2 : k ≤ 400) (hU : unitE c u = 0) (h1 : u.lv = 1) (hp : c.policy = 3) (hE : ¬ twE c u k = 0) :
    Calls Try.prog 10 #[calV c, unitV u, .int .i64 k] w fun e w' => e = .returned (.bool true) ∧ Below w.heap.size w w' := by
  obtain ⟨hE0, hR0⟩ := tw_self hU
  obtain ⟨S, hS⟩ : ∃ S, spV c u = S := ⟨_, rfl⟩
  rw [hS] at hR0
  have HR := hide hR0
  have HE0 := hide hE0
  have HS := hide (And.intro hS hU)
  have h11 : twE c u k = 11 := by
    have h := year_gone (k := k) hU h1 hp
    unfold twE at h hE ⊢
    rw [if_pos hU] at h hE ⊢
    split at hE
    · rename_i hh
      rw [if_pos hh] at h ⊢
      split at hE
      · rename_i hh2
        rw [if_pos hh2] at h ⊢
        split at hE
        · rename_i hh3; rw [if_pos hh3] at h; omega
        · omega
      · rename_i hh2
        rw [if_neg hh2]
    · rename_i hh
      rw [if_neg hh]
  have HNO := hide (fun (w : World) (h : c.name.size ≤ 1000) => runs_no c u k w h hE)
  rw [h11] at HNO
  have hg1 : (u.lv != 1) = false := by simp [h1]
  have hg2 : (c.policy != 3) = false := by simp [hp]
  clear hU hE0 hR0 hS hE h11 h1 hp
  simp only [calV, unitV]
  go_enter Try.func10, Try.ntmps10
  go_wp2_with fail
  refine (live20_any _).mono ?_
  rintro e w1 ⟨rfl, hb1⟩
  have hz1 : w.heap.size + 1 < w1.heap.size := by have := hb1.size; simp at this; omega
  have HB1 := hide (show Below w.heap.size w w1 by refine Below.trans ?_ (hb1.mono (by first | omega | (simp; done) | (simp; omega))); (repeat' (first | (with_reducible exact Below.refl _ _) | (with_reducible assumption) | (with_reducible refine Below.alloc ?_ ?_ _) | (with_reducible refine below_drewN ?_ _) | (with_reducible refine Below.drew ?_) | (with_reducible refine Below.setCell ?_ ?_ _) | (with_reducible refine Below.trans ?_ (Below.mono (by assumption) ?_)) | go_size | (simp at *; omega))))
  have HQ1 := hide (calAt_below hb1 (by simp; omega) (calAt_alloc (calAt_new w c) (by simp) _))
  have HU1 := hide (unAt_below hb1 (by simp) (unAt_new w c u))
  obtain ⟨q0, q1, q2, q3, q4, q5, q6, q7, q8, q9, q10, q11, q12, q13⟩ := HQ1.out
  obtain ⟨u0, u1, u2⟩ := HU1.out
  have hy1 : w.heap.size < w1.heap.size := by omega
  clear hb1
  go_wp2_with fail
  all_goals first
    | (exfalso; omega)
    | skip
  refine (uspan_any c u _ (by omega)).mono ?_
  rintro e w2 ⟨rfl, hb2⟩
  rw [HS.out.1, HS.out.2]
  simp only [spanV]
  have hz2 : w.heap.size + 1 < w2.heap.size := by have := hb2.size; (try simp at this); omega
  have HB2 := hide (show Below w.heap.size w w2 by have hp := HB1.out; refine Below.trans ?_ (hb2.mono (by first | omega | (simp; done) | (simp; omega))); (repeat' (first | (with_reducible exact Below.refl _ _) | (with_reducible assumption) | (with_reducible refine Below.alloc ?_ ?_ _) | (with_reducible refine below_drewN ?_ _) | (with_reducible refine Below.drew ?_) | (with_reducible refine Below.setCell ?_ ?_ _) | (with_reducible refine Below.trans ?_ (Below.mono (by assumption) ?_)) | go_size | (simp at *; omega))))
  have HQ2 := hide (show CalAt w2 w.heap.size c from calAt_below hb2 (by first | omega | (simp; done) | (simp; omega)) (by first | exact HQ1.out | exact calAt_alloc HQ1.out (by omega) _ | exact calAt_alloc (calAt_alloc HQ1.out (by omega) _) (by simp; omega) _))
  clear q0 q1 q2 q3 q4 q5 q6 q7 q8 q9 q10 q11 q12 q13
  obtain ⟨q0, q1, q2, q3, q4, q5, q6, q7, q8, q9, q10, q11, q12, q13⟩ := HQ2.out
  have HU2 := hide (show UnAt w2 (w.heap.size + 1) u from unAt_below hb2 (by first | omega | (simp; done) | (simp; omega)) (by first | exact HU1.out | exact unAt_alloc HU1.out (by omega) _ | exact unAt_alloc (unAt_alloc HU1.out (by omega) _) (by simp; omega) _))
  clear u0 u1 u2
  obtain ⟨u0, u1, u2⟩ := HU2.out
  have hy2 : w.heap.size < w2.heap.size := by omega
  clear hb2
  go_wp2_with fail
  all_goals first
    | (exfalso; omega)
    | skip
  refine (runs_yes c u 0 _ (by omega) HE0.out).mono ?_
  rintro e w3 ⟨⟨g, cap, rfl, hsp⟩, hb3⟩
  rw [HR.out] at hsp ⊢
  have hgl := spsLt hsp (by simp)
  obtain ⟨s0, s1⟩ := SpsAt.cell hsp (i := 0) (s := S) rfl
  simp only [Nat.zero_mul, Nat.zero_add] at s0 s1
  simp only [List.length_cons, List.length_nil, Nat.zero_add]
  clear hsp
  have GS3 := hide ((BlkIs.new w2 #[.int .i64 S.a, .int .i64 S.b] 35).call hb3)
  have x0 : w3.cell? ⟨w2.heap.size, 0, none⟩ = some (.int .i64 S.a) := GS3.out.cell 0
  have x1 : w3.cell? ⟨w2.heap.size, 1, none⟩ = some (.int .i64 S.b) := GS3.out.cell 1
  have hz3 : w.heap.size + 1 < w3.heap.size := by have := hb3.size; (try simp at this); omega
  have HB3 := hide (show Below w.heap.size w w3 by have hp := HB2.out; refine Below.trans ?_ (hb3.mono (by first | omega | (simp; done) | (simp; omega))); (repeat' (first | (with_reducible exact Below.refl _ _) | (with_reducible assumption) | (with_reducible refine Below.alloc ?_ ?_ _) | (with_reducible refine below_drewN ?_ _) | (with_reducible refine Below.drew ?_) | (with_reducible refine Below.setCell ?_ ?_ _) | (with_reducible refine Below.trans ?_ (Below.mono (by assumption) ?_)) | go_size | (simp at *; omega))))
  have HQ3 := hide (show CalAt w3 w.heap.size c from calAt_below hb3 (by first | omega | (simp; done) | (simp; omega)) (by first | exact HQ2.out | exact calAt_alloc HQ2.out (by omega) _ | exact calAt_alloc (calAt_alloc HQ2.out (by omega) _) (by simp; omega) _))
  clear q0 q1 q2 q3 q4 q5 q6 q7 q8 q9 q10 q11 q12 q13
  obtain ⟨q0, q1, q2, q3, q4, q5, q6, q7, q8, q9, q10, q11, q12, q13⟩ := HQ3.out
  have HU3 := hide (show UnAt w3 (w.heap.size + 1) u from unAt_below hb3 (by first | omega | (simp; done) | (simp; omega)) (by first | exact HU2.out | exact unAt_alloc HU2.out (by omega) _ | exact unAt_alloc (unAt_alloc HU2.out (by omega) _) (by simp; omega) _))
  clear u0 u1 u2
  obtain ⟨u0, u1, u2⟩ := HU3.out
  have hy3 : w.heap.size < w3.heap.size := by omega
  clear hb3
  have hi0 : (0 : Int) < (1 : Int) := by decide
  have hsb := spB_same S.a S.b
  go_wp2_with fail
  all_goals first
    | (exfalso; omega)
    | skip
  go_quiet (fail)
  clear s0 s1 x0 x1
  go_wp2_with fail
  all_goals first
    | (exfalso; omega)
    | skip
  refine (HNO.out _ (by omega)).mono ?_
  rintro e w4 ⟨rfl, hb4⟩
  have HB4 := hide (show Below w.heap.size w w4 by refine Below.trans HB3.out ?_; refine Below.trans ?_ (hb4.mono (by simp; omega)); (repeat' (first | (with_reducible exact Below.refl _ _) | (with_reducible assumption) | (with_reducible refine Below.alloc ?_ ?_ _) | (with_reducible refine below_drewN ?_ _) | (with_reducible refine Below.drew ?_) | (with_reducible refine Below.setCell ?_ ?_ _) | (with_reducible refine Below.trans ?_ (Below.mono (by assumption) ?_)) | go_size | (simp at *; omega))))
  have hBel := HB4.out
  clear hb4
  go_wp2
  all_goals first
    | (exfalso; omega)
    | (go_ret; exact ⟨rfl, by (repeat' (first | (with_reducible exact Below.refl _ _) | (with_reducible assumption) | (with_reducible refine Below.alloc ?_ ?_ _) | (with_reducible refine below_drewN ?_ _) | (with_reducible refine Below.drew ?_) | (with_reducible refine Below.setCell ?_ ?_ _) | (with_reducible refine Below.trans ?_ (Below.mono (by assumption) ?_)) | go_size | (simp at *; omega)))⟩)

set_option maxRecDepth 100000 in
set_option maxHeartbeats 3200000 in
theorem to_yes3 (c : Cal) (u : Un) (k : Int) (w : World) (hn : c.name.size ≤ 100) (k1 : -400 ≤ k) (k2 : k ≤ 400) (hU : unitE c u = 0) (h1 : u.lv = 1) (hp : c.policy = 3) (hE : twE c u k = 0) :
    Calls Try.prog 10 #[calV c, unitV u, .int .i64 k] w fun e w' => e = .returned (.bool true) ∧ Below w.heap.size w w' := by
  obtain ⟨hE0, hR0⟩ := tw_self hU
  obtain ⟨S, hS⟩ : ∃ S, spV c u = S := ⟨_, rfl⟩
  rw [hS] at hR0
  have HR := hide hR0
  have HE0 := hide hE0
  have HS := hide (And.intro hS hU)
  obtain ⟨_, ys1, ya1, ya2, ys2, ys3, ys4⟩ := year_sum hE h1 hp
  obtain ⟨_, ht, _, _, _⟩ := tw_ok hE
  have hf := (un_lv hU).1
  obtain ⟨hok, hk, _, _, hy1, hy2, _⟩ := frame_ok hf
  have hyb := ok_years hk
  have hyb2 : 1602 ≤ c.first ∧ c.last ≤ 9996 := ⟨hyb.2.2.1, hyb.2.2.2.1⟩
  have hg1 : (u.lv != 1) = false := by simp [h1]
  have hg2 : (c.policy != 3) = false := by simp [hp]
  obtain ⟨R, hRR⟩ : ∃ R, rnL c u k = R := ⟨_, rfl⟩
  rw [hRR] at ys1 ys2 ys3 ys4
  have hd1 := days_nn c u.yr
  have hd2 := days_nn c (u.yr + k)
  obtain ⟨D1, hD1⟩ : ∃ D, daysV c u.yr = D := ⟨_, rfl⟩
  obtain ⟨D2, hD2⟩ : ∃ D, daysV c (u.yr + k) = D := ⟨_, rfl⟩
  rw [hD1, hD2] at ys1
  rw [hD1] at hd1
  rw [hD2] at hd2
  have HD := hide (And.intro (And.intro hD1 ya1) (And.intro hD2 ya2))
  have HE := hide hE
  have HRR := hide hRR
  have HY1 := hide ys1
  have HY3 := hide ys3
  have HY4 := hide ys4
  clear hU hE0 hR0 hS hE h1 hp hf hok hk hyb ya1 ya2 ys1 ys3 ys4 hRR hD1 hD2
  simp only [calV, unitV]
  go_enter Try.func10, Try.ntmps10
  go_wp2_with fail
  refine (live20_any _).mono ?_
  rintro e w1 ⟨rfl, hb1⟩
  have hz1 : w.heap.size + 1 < w1.heap.size := by have := hb1.size; simp at this; omega
  have HB1 := hide (show Below w.heap.size w w1 by refine Below.trans ?_ (hb1.mono (by first | omega | (simp; done) | (simp; omega))); (repeat' (first | (with_reducible exact Below.refl _ _) | (with_reducible assumption) | (with_reducible refine Below.alloc ?_ ?_ _) | (with_reducible refine below_drewN ?_ _) | (with_reducible refine Below.drew ?_) | (with_reducible refine Below.setCell ?_ ?_ _) | (with_reducible refine Below.trans ?_ (Below.mono (by assumption) ?_)) | go_size | (simp at *; omega))))
  have HQ1 := hide (calAt_below hb1 (by simp; omega) (calAt_alloc (calAt_new w c) (by simp) _))
  have HU1 := hide (unAt_below hb1 (by simp) (unAt_new w c u))
  obtain ⟨q0, q1, q2, q3, q4, q5, q6, q7, q8, q9, q10, q11, q12, q13⟩ := HQ1.out
  obtain ⟨u0, u1, u2⟩ := HU1.out
  have hy1 : w.heap.size < w1.heap.size := by omega
  clear hb1
  go_wp2_with fail
  all_goals first
    | (exfalso; omega)
    | skip
  refine (uspan_any c u _ (by omega)).mono ?_
  rintro e w2 ⟨rfl, hb2⟩
  rw [HS.out.1, HS.out.2]
  simp only [spanV]
  have hz2 : w.heap.size + 1 < w2.heap.size := by have := hb2.size; (try simp at this); omega
  have HB2 := hide (show Below w.heap.size w w2 by have hp := HB1.out; refine Below.trans ?_ (hb2.mono (by first | omega | (simp; done) | (simp; omega))); (repeat' (first | (with_reducible exact Below.refl _ _) | (with_reducible assumption) | (with_reducible refine Below.alloc ?_ ?_ _) | (with_reducible refine below_drewN ?_ _) | (with_reducible refine Below.drew ?_) | (with_reducible refine Below.setCell ?_ ?_ _) | (with_reducible refine Below.trans ?_ (Below.mono (by assumption) ?_)) | go_size | (simp at *; omega))))
  have HQ2 := hide (show CalAt w2 w.heap.size c from calAt_below hb2 (by first | omega | (simp; done) | (simp; omega)) (by first | exact HQ1.out | exact calAt_alloc HQ1.out (by omega) _ | exact calAt_alloc (calAt_alloc HQ1.out (by omega) _) (by simp; omega) _))
  clear q0 q1 q2 q3 q4 q5 q6 q7 q8 q9 q10 q11 q12 q13
  obtain ⟨q0, q1, q2, q3, q4, q5, q6, q7, q8, q9, q10, q11, q12, q13⟩ := HQ2.out
  have HU2 := hide (show UnAt w2 (w.heap.size + 1) u from unAt_below hb2 (by first | omega | (simp; done) | (simp; omega)) (by first | exact HU1.out | exact unAt_alloc HU1.out (by omega) _ | exact unAt_alloc (unAt_alloc HU1.out (by omega) _) (by simp; omega) _))
  clear u0 u1 u2
  obtain ⟨u0, u1, u2⟩ := HU2.out
  have hy2 : w.heap.size < w2.heap.size := by omega
  clear hb2
  go_wp2_with fail
  all_goals first
    | (exfalso; omega)
    | skip
  refine (runs_yes c u 0 _ (by omega) HE0.out).mono ?_
  rintro e w3 ⟨⟨g, cap, rfl, hsp⟩, hb3⟩
  rw [HR.out] at hsp ⊢
  have hgl := spsLt hsp (by simp)
  obtain ⟨s0, s1⟩ := SpsAt.cell hsp (i := 0) (s := S) rfl
  simp only [Nat.zero_mul, Nat.zero_add] at s0 s1
  simp only [List.length_cons, List.length_nil, Nat.zero_add]
  clear hsp
  have GS3 := hide ((BlkIs.new w2 #[.int .i64 S.a, .int .i64 S.b] 35).call hb3)
  have x0 : w3.cell? ⟨w2.heap.size, 0, none⟩ = some (.int .i64 S.a) := GS3.out.cell 0
  have x1 : w3.cell? ⟨w2.heap.size, 1, none⟩ = some (.int .i64 S.b) := GS3.out.cell 1
  have hz3 : w.heap.size + 1 < w3.heap.size := by have := hb3.size; (try simp at this); omega
  have HB3 := hide (show Below w.heap.size w w3 by have hp := HB2.out; refine Below.trans ?_ (hb3.mono (by first | omega | (simp; done) | (simp; omega))); (repeat' (first | (with_reducible exact Below.refl _ _) | (with_reducible assumption) | (with_reducible refine Below.alloc ?_ ?_ _) | (with_reducible refine below_drewN ?_ _) | (with_reducible refine Below.drew ?_) | (with_reducible refine Below.setCell ?_ ?_ _) | (with_reducible refine Below.trans ?_ (Below.mono (by assumption) ?_)) | go_size | (simp at *; omega))))
  have HQ3 := hide (show CalAt w3 w.heap.size c from calAt_below hb3 (by first | omega | (simp; done) | (simp; omega)) (by first | exact HQ2.out | exact calAt_alloc HQ2.out (by omega) _ | exact calAt_alloc (calAt_alloc HQ2.out (by omega) _) (by simp; omega) _))
  clear q0 q1 q2 q3 q4 q5 q6 q7 q8 q9 q10 q11 q12 q13
  obtain ⟨q0, q1, q2, q3, q4, q5, q6, q7, q8, q9, q10, q11, q12, q13⟩ := HQ3.out
  have HU3 := hide (show UnAt w3 (w.heap.size + 1) u from unAt_below hb3 (by first | omega | (simp; done) | (simp; omega)) (by first | exact HU2.out | exact unAt_alloc HU2.out (by omega) _ | exact unAt_alloc (unAt_alloc HU2.out (by omega) _) (by simp; omega) _))
  clear u0 u1 u2
  obtain ⟨u0, u1, u2⟩ := HU3.out
  have hy3 : w.heap.size < w3.heap.size := by omega
  clear hb3
  have hi0 : (0 : Int) < (1 : Int) := by decide
  have hsb := spB_same S.a S.b
  go_wp2_with fail
  all_goals first
    | (exfalso; omega)
    | skip
  go_quiet (fail)
  clear s0 s1 x0 x1
  go_wp2_with fail
  all_goals first
    | (exfalso; omega)
    | skip
  refine (runs_yes c u k _ (by omega) HE.out).mono ?_
  rintro e w4 ⟨⟨g2, cap2, rfl, hsp⟩, hb4⟩
  rw [HRR.out] at hsp ⊢
  have HSP4 := hide hsp
  clear hsp
  have hs4 := hb4.size
  (try simp at hs4)
  have HB4 := hide (show Below w.heap.size w w4 by refine Below.trans HB3.out ?_; refine Below.trans ?_ (hb4.mono (by simp; omega)); (repeat' (first | (with_reducible exact Below.refl _ _) | (with_reducible assumption) | (with_reducible refine Below.alloc ?_ ?_ _) | (with_reducible refine below_drewN ?_ _) | (with_reducible refine Below.drew ?_) | (with_reducible refine Below.setCell ?_ ?_ _) | (with_reducible refine Below.trans ?_ (Below.mono (by assumption) ?_)) | go_size | (simp at *; omega))))
  have HQ4 := hide (show CalAt w4 w.heap.size c from calAt_below hb4 (by first | omega | (simp; omega)) (by exact HQ3.out))
  have HU4 := hide (show UnAt w4 (w.heap.size + 1) u from unAt_below hb4 (by first | omega | (simp; omega)) (by exact HU3.out))
  clear hb4 u0 u1 u2
  clear q0 q1 q2 q3 q4 q5 q6 q7 q8 q9 q10 q11 q12 q13
  obtain ⟨q0, q1, q2, q3, q4, q5, q6, q7, q8, q9, q10, q11, q12, q13⟩ := HQ4.out
  obtain ⟨u0, u1, u2⟩ := HU4.out
  have hz4 : w.heap.size + 1 < w4.heap.size := by omega
  have hy4 : w.heap.size < w4.heap.size := by omega
  go_wp2_with fail
  all_goals first
    | (exfalso; omega)
    | skip
  refine (days_any c u.yr _ (by omega)).mono ?_
  rintro e w5 ⟨rfl, hb5⟩
  rw [HD.out.1.1, HD.out.1.2]
  have HSP5 := hide (HSP4.out.call hb5)
  have hz5 : w.heap.size + 1 < w5.heap.size := by have := hb5.size; (try simp at this); omega
  have HB5 := hide (show Below w.heap.size w w5 by have hp := HB4.out; refine Below.trans ?_ (hb5.mono (by first | omega | (simp; done) | (simp; omega))); (repeat' (first | (with_reducible exact Below.refl _ _) | (with_reducible assumption) | (with_reducible refine Below.alloc ?_ ?_ _) | (with_reducible refine below_drewN ?_ _) | (with_reducible refine Below.drew ?_) | (with_reducible refine Below.setCell ?_ ?_ _) | (with_reducible refine Below.trans ?_ (Below.mono (by assumption) ?_)) | go_size | (simp at *; omega))))
  have HQ5 := hide (show CalAt w5 w.heap.size c from calAt_below hb5 (by first | omega | (simp; done) | (simp; omega)) (by first | exact HQ4.out | exact calAt_alloc HQ4.out (by omega) _ | exact calAt_alloc (calAt_alloc HQ4.out (by omega) _) (by simp; omega) _))
  clear q0 q1 q2 q3 q4 q5 q6 q7 q8 q9 q10 q11 q12 q13
  obtain ⟨q0, q1, q2, q3, q4, q5, q6, q7, q8, q9, q10, q11, q12, q13⟩ := HQ5.out
  have HU5 := hide (show UnAt w5 (w.heap.size + 1) u from unAt_below hb5 (by first | omega | (simp; done) | (simp; omega)) (by first | exact HU4.out | exact unAt_alloc HU4.out (by omega) _ | exact unAt_alloc (unAt_alloc HU4.out (by omega) _) (by simp; omega) _))
  clear u0 u1 u2
  obtain ⟨u0, u1, u2⟩ := HU5.out
  have hy5 : w.heap.size < w5.heap.size := by omega
  clear hb5
  go_wp2_with fail
  all_goals first
    | (exfalso; omega)
    | skip
  refine (days_any c (u.yr + k) _ (by omega)).mono ?_
  rintro e w6 ⟨rfl, hb6⟩
  rw [HD.out.2.1, HD.out.2.2]
  have HSP6 := hide (HSP5.out.call hb6)
  have hz6 : w.heap.size + 1 < w6.heap.size := by have := hb6.size; (try simp at this); omega
  have HB6 := hide (show Below w.heap.size w w6 by have hp := HB5.out; refine Below.trans ?_ (hb6.mono (by first | omega | (simp; done) | (simp; omega))); (repeat' (first | (with_reducible exact Below.refl _ _) | (with_reducible assumption) | (with_reducible refine Below.alloc ?_ ?_ _) | (with_reducible refine below_drewN ?_ _) | (with_reducible refine Below.drew ?_) | (with_reducible refine Below.setCell ?_ ?_ _) | (with_reducible refine Below.trans ?_ (Below.mono (by assumption) ?_)) | go_size | (simp at *; omega))))
  have HQ6 := hide (show CalAt w6 w.heap.size c from calAt_below hb6 (by first | omega | (simp; done) | (simp; omega)) (by first | exact HQ5.out | exact calAt_alloc HQ5.out (by omega) _ | exact calAt_alloc (calAt_alloc HQ5.out (by omega) _) (by simp; omega) _))
  clear q0 q1 q2 q3 q4 q5 q6 q7 q8 q9 q10 q11 q12 q13
  obtain ⟨q0, q1, q2, q3, q4, q5, q6, q7, q8, q9, q10, q11, q12, q13⟩ := HQ6.out
  have HU6 := hide (show UnAt w6 (w.heap.size + 1) u from unAt_below hb6 (by first | omega | (simp; done) | (simp; omega)) (by first | exact HU5.out | exact unAt_alloc HU5.out (by omega) _ | exact unAt_alloc (unAt_alloc HU5.out (by omega) _) (by simp; omega) _))
  clear u0 u1 u2
  obtain ⟨u0, u1, u2⟩ := HU6.out
  have hy6 : w.heap.size < w6.heap.size := by omega
  clear hb6
  go_wp2_with fail
  go_loopw [15, 110] (fun s15 s wr => ∃ j : Nat, s = .int .i64 j ∧ j ≤ R.length ∧ s15 = .int .i64 (sumR (R.take j)) ∧ SpsAt wr g2 cap2 R ∧ Below w.heap.size w wr) (fun _ s _ => (10 - intOf s).toNat)
  case atStart => exact ⟨0, rfl, Nat.zero_le _, by simp [sumR], HSP6.out, HB6.out⟩
  case round =>
    obtain ⟨j, rfl, hj, rfl, hsp, hBel⟩ := hrel
    have HSP := hide hsp
    have hwz : w.heap.size ≤ wr.heap.size := hBel.size
    have hsj := HY3.out j
    clear hsp
    by_cases hlt : j < R.length
    · obtain ⟨x, hx⟩ : ∃ x, R[j]? = some x := ⟨_, List.getElem?_eq_getElem hlt⟩
      obtain ⟨a0, a1⟩ := SpsAt.cell HSP.out hx
      have hgr := (spsLt HSP.out (by omega)).1
      have hxb := HY4.out x (List.mem_of_getElem? hx)
      have hsj1 := HY3.out (j + 1)
      have htk : sumR (R.take (j + 1)) = sumR (R.take j) + (x.b - x.a + 1) := by rw [List.take_add_one, hx, Option.toList_some, sumR_snoc]
      rw [htk] at hsj1
      have HTK := hide htk
      clear hx htk
      generalize sumR (R.take j) = T at *
      have hi1 : (0 : Int) ≤ (j : Int) := by omega
      have hi3 : (j : Int) < (R.length : Int) := by omega
      go_wp2
      all_goals first
        | (exfalso; omega)
        | skip
      go_roundw
      case rel => exact ⟨j + 1, by go_num, by omega, by (rw [HTK.out]) <;> rfl, HSP.out.call (by (repeat' (first | (with_reducible exact Below.refl _ _) | (with_reducible assumption) | (with_reducible refine Below.alloc ?_ ?_ _) | (with_reducible refine below_drewN ?_ _) | (with_reducible refine Below.drew ?_) | (with_reducible refine Below.setCell ?_ ?_ _) | (with_reducible refine Below.trans ?_ (Below.mono (by assumption) ?_)) | go_size | (simp at *; omega)))), by (repeat' (first | (with_reducible exact Below.refl _ _) | (with_reducible assumption) | (with_reducible refine Below.alloc ?_ ?_ _) | (with_reducible refine below_drewN ?_ _) | (with_reducible refine Below.drew ?_) | (with_reducible refine Below.setCell ?_ ?_ _) | (with_reducible refine Below.trans ?_ (Below.mono (by assumption) ?_)) | go_size | (simp at *; omega)))⟩
      case measure => simp [intOf]; omega
    · have hjl : j = R.length := by omega
      subst hjl
      rw [List.take_length]
      rw [List.take_length] at hsj
      have hsum := HY1.out
      generalize sumR R = T at *
      go_wp2
      all_goals first
        | (exfalso; omega)
        | (go_ret; exact ⟨ret_bool (by simp; omega), by (repeat' (first | (with_reducible exact Below.refl _ _) | (with_reducible assumption) | (with_reducible refine Below.alloc ?_ ?_ _) | (with_reducible refine below_drewN ?_ _) | (with_reducible refine Below.drew ?_) | (with_reducible refine Below.setCell ?_ ?_ _) | (with_reducible refine Below.trans ?_ (Below.mono (by assumption) ?_)) | go_size | (simp at *; omega)))⟩)
        | (go_ret; exact ⟨rfl, by (repeat' (first | (with_reducible exact Below.refl _ _) | (with_reducible assumption) | (with_reducible refine Below.alloc ?_ ?_ _) | (with_reducible refine below_drewN ?_ _) | (with_reducible refine Below.drew ?_) | (with_reducible refine Below.setCell ?_ ?_ _) | (with_reducible refine Below.trans ?_ (Below.mono (by assumption) ?_)) | go_size | (simp at *; omega)))⟩)

theorem to_walk (c : Cal) (hn : c.name.size ≤ 9223372036854775807) (u : Un) (k : Int) (w : World) :
    Calls Try.prog 10 #[calV c, unitV u, .int .i64 k] w fun e w' => e = .returned (.bool true) ∧ Below w.heap.size w w' := by
  by_cases h : 100 < c.name.size
  · exact to_long c u k w h hn
  · have h' : c.name.size ≤ 100 := by omega
    by_cases hk : -400 ≤ k ∧ k ≤ 400
    · by_cases hU : unitE c u = 0
      · by_cases h1 : u.lv = 1
        · by_cases hp : c.policy = 3
          · by_cases hE : twE c u k = 0
            · exact to_yes3 c u k w h' hk.1 hk.2 hU h1 hp hE
            · exact to_yes2 c u k w h' hk.1 hk.2 hU h1 hp hE
          · exact to_yes1 c u k w h' hk.1 hk.2 hU (.inr ⟨h1, hp⟩)
        · exact to_yes1 c u k w h' hk.1 hk.2 hU (.inl h1)
      · exact to_no c u k w h' hk.1 hk.2 hU
    · exact to_triv c u k w h' (by omega)
end Go.Proofs.Ytpngdeegdkifnaa
