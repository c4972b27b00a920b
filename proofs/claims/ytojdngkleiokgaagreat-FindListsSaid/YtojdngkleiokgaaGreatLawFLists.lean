/- The walk of FindLists. -/
import Derived.Test.YtojdngkleiokgaaGreatMRw
import Derived.Test.YtojdngkleiokgaaGreatMFi
import Derived.Test.YtojdngkleiokgaaGreatNRdUn
import Derived.BigQuiet
namespace Go.Proofs.YtojdngkleiokgaaGreat
open Go.RowKit Go.Shelf Qd
set_option linter.unusedSimpArgs false
set_option linter.unusedVariables false

/-- Few years, and a short name. -/
def ShortP (c : Cal) (f t : Int) (e : Ending) : Prop := ∃ b : Bool, e = .returned (.bool b) ∧ (b = true → c.name.size ≤ 100 ∧ (-100000 ≤ f → f ≤ t → t ≤ 100000 → c.first ≤ f → t ≤ c.last → t - f ≤ 6))
set_option maxHeartbeats 1600000 in
theorem short_any (c : Cal) (f t : Int) (w : World) :
    Calls Tryz.prog 9 #[calV c, .int .i64 f, .int .i64 t] w fun e w' => ShortP c f t e ∧ Below w.heap.size w w' := by
  simp only [calV]
  go_enter Tryz.func9, Tryz.ntmps9
  by_cases h0 : c.name.size ≤ 100
  · by_cases h1 : t < f
    · go_wp2
      all_goals first
        | (exfalso; omega)
        | (go_ret; exact ⟨⟨_, rfl, fun _ => ⟨h0, fun _ h => by omega⟩⟩, by (repeat' (first | (with_reducible exact Below.refl _ _) | (with_reducible assumption) | (with_reducible refine Below.alloc ?_ ?_ _) | (with_reducible refine below_drewN ?_ _) | (with_reducible refine Below.drew ?_) | (with_reducible refine Below.setCell ?_ ?_ _) | (with_reducible refine Below.trans ?_ (Below.mono (by assumption) ?_)) | go_size | (simp at *; omega)))⟩)
    · by_cases h2 : f < c.first
      · go_wp2
        all_goals first
          | (exfalso; omega)
          | (go_ret; exact ⟨⟨_, rfl, fun _ => ⟨h0, fun _ _ _ h => by omega⟩⟩, by (repeat' (first | (with_reducible exact Below.refl _ _) | (with_reducible assumption) | (with_reducible refine Below.alloc ?_ ?_ _) | (with_reducible refine below_drewN ?_ _) | (with_reducible refine Below.drew ?_) | (with_reducible refine Below.setCell ?_ ?_ _) | (with_reducible refine Below.trans ?_ (Below.mono (by assumption) ?_)) | go_size | (simp at *; omega)))⟩)
      · by_cases h3 : c.last < t
        · go_wp2
          all_goals first
            | (exfalso; omega)
            | (go_ret; exact ⟨⟨_, rfl, fun _ => ⟨h0, fun _ _ _ _ h => by omega⟩⟩, by (repeat' (first | (with_reducible exact Below.refl _ _) | (with_reducible assumption) | (with_reducible refine Below.alloc ?_ ?_ _) | (with_reducible refine below_drewN ?_ _) | (with_reducible refine Below.drew ?_) | (with_reducible refine Below.setCell ?_ ?_ _) | (with_reducible refine Below.trans ?_ (Below.mono (by assumption) ?_)) | go_size | (simp at *; omega)))⟩)
        · go_wp2
          all_goals first
            | (exfalso; omega)
            | (go_ret
               refine ⟨⟨_, rfl, fun hb => ⟨h0, fun g1 g2 g3 _ _ => ?_⟩⟩, by (repeat' (first | (with_reducible exact Below.refl _ _) | (with_reducible assumption) | (with_reducible refine Below.alloc ?_ ?_ _) | (with_reducible refine below_drewN ?_ _) | (with_reducible refine Below.drew ?_) | (with_reducible refine Below.setCell ?_ ?_ _) | (with_reducible refine Below.trans ?_ (Below.mono (by assumption) ?_)) | go_size | (simp at *; omega)))⟩
               have hw : wrap64 (t - f) = t - f := by unfold wrap64; omega
               rw [hw] at hb; simpa using hb)
  · go_wp2
    all_goals first
      | (exfalso; omega)
      | (go_ret; exact ⟨⟨_, rfl, fun h => by simp at h⟩, by (repeat' (first | (with_reducible exact Below.refl _ _) | (with_reducible assumption) | (with_reducible refine Below.alloc ?_ ?_ _) | (with_reducible refine below_drewN ?_ _) | (with_reducible refine Below.drew ?_) | (with_reducible refine Below.setCell ?_ ?_ _) | (with_reducible refine Below.trans ?_ (Below.mono (by assumption) ?_)) | go_size | (simp at *; omega)))⟩)

def BriefP (c : Cal) (s : Sp) (e : Ending) : Prop := ∃ b : Bool, e = .returned (.bool b) ∧ (b = true → c.name.size ≤ 100 ∧ (0 ≤ s.a → s.a ≤ s.b → s.b < 3068037 → s.b - s.a ≤ 2000))
set_option maxHeartbeats 1600000 in
theorem brief_any (c : Cal) (s : Sp) (w : World) :
    Calls Tryz.prog 10 #[calV c, spanV s] w fun e w' => BriefP c s e ∧ Below w.heap.size w w' := by
  simp only [calV, spanV]
  go_enter Tryz.func10, Tryz.ntmps10
  by_cases h0 : c.name.size ≤ 100
  · by_cases h1 : s.b < s.a
    · go_wp2
      all_goals first
        | (exfalso; omega)
        | (go_ret; exact ⟨⟨_, rfl, fun _ => ⟨h0, fun _ h => by omega⟩⟩, by (repeat' (first | (with_reducible exact Below.refl _ _) | (with_reducible assumption) | (with_reducible refine Below.alloc ?_ ?_ _) | (with_reducible refine below_drewN ?_ _) | (with_reducible refine Below.drew ?_) | (with_reducible refine Below.setCell ?_ ?_ _) | (with_reducible refine Below.trans ?_ (Below.mono (by assumption) ?_)) | go_size | (simp at *; omega)))⟩)
    · by_cases h2 : s.a < 0
      · go_wp2
        all_goals first
          | (exfalso; omega)
          | (go_ret; exact ⟨⟨_, rfl, fun _ => ⟨h0, fun h => by omega⟩⟩, by (repeat' (first | (with_reducible exact Below.refl _ _) | (with_reducible assumption) | (with_reducible refine Below.alloc ?_ ?_ _) | (with_reducible refine below_drewN ?_ _) | (with_reducible refine Below.drew ?_) | (with_reducible refine Below.setCell ?_ ?_ _) | (with_reducible refine Below.trans ?_ (Below.mono (by assumption) ?_)) | go_size | (simp at *; omega)))⟩)
      · by_cases h3 : 3068037 ≤ s.b
        · go_wp2
          all_goals first
            | (exfalso; omega)
            | (go_ret; exact ⟨⟨_, rfl, fun _ => ⟨h0, fun _ _ h => by omega⟩⟩, by (repeat' (first | (with_reducible exact Below.refl _ _) | (with_reducible assumption) | (with_reducible refine Below.alloc ?_ ?_ _) | (with_reducible refine below_drewN ?_ _) | (with_reducible refine Below.drew ?_) | (with_reducible refine Below.setCell ?_ ?_ _) | (with_reducible refine Below.trans ?_ (Below.mono (by assumption) ?_)) | go_size | (simp at *; omega)))⟩)
        · go_wp2
          all_goals first
            | (exfalso; omega)
            | (go_ret
               refine ⟨⟨_, rfl, fun hb => ⟨h0, fun g1 g2 g3 => ?_⟩⟩, by (repeat' (first | (with_reducible exact Below.refl _ _) | (with_reducible assumption) | (with_reducible refine Below.alloc ?_ ?_ _) | (with_reducible refine below_drewN ?_ _) | (with_reducible refine Below.drew ?_) | (with_reducible refine Below.setCell ?_ ?_ _) | (with_reducible refine Below.trans ?_ (Below.mono (by assumption) ?_)) | go_size | (simp at *; omega)))⟩
               have hw : wrap64 (s.b - s.a) = s.b - s.a := by unfold wrap64; omega
               rw [hw] at hb; simpa using hb)
            | (go_ret
               refine ⟨⟨_, rfl, fun hb => ⟨h0, fun g1 g2 g3 => ?_⟩⟩, by (repeat' (first | (with_reducible exact Below.refl _ _) | (with_reducible assumption) | (with_reducible refine Below.alloc ?_ ?_ _) | (with_reducible refine below_drewN ?_ _) | (with_reducible refine Below.drew ?_) | (with_reducible refine Below.setCell ?_ ?_ _) | (with_reducible refine Below.trans ?_ (Below.mono (by assumption) ?_)) | go_size | (simp at *; omega)))⟩
               simp at hb; omega)
  · go_wp2
    all_goals first
      | (exfalso; omega)
      | (go_ret; exact ⟨⟨_, rfl, fun h => by simp at h⟩, by (repeat' (first | (with_reducible exact Below.refl _ _) | (with_reducible assumption) | (with_reducible refine Below.alloc ?_ ?_ _) | (with_reducible refine below_drewN ?_ _) | (with_reducible refine Below.drew ?_) | (with_reducible refine Below.setCell ?_ ?_ _) | (with_reducible refine Below.trans ?_ (Below.mono (by assumption) ?_)) | go_size | (simp at *; omega)))⟩)

/-- What lies in the frame: the calendar and the span. -/
def FmA (c : Cal) (s : Sp) (B : Nat) (w0 w : World) : Prop := CalAt w B c ∧ SpAt w (B + 1) s ∧ B + 1 < w.heap.size ∧ Below B w0 w
theorem FmA.call {c : Cal} {s : Sp} {B : Nat} {w0 w w' : World} (h : FmA c s B w0 w) (hb : Below w.heap.size w w') : FmA c s B w0 w' := ⟨calAt_below hb (by have := h.2.2.1; omega) h.1, spAt_below hb h.2.2.1 h.2.1, Nat.lt_of_lt_of_le h.2.2.1 hb.size, h.2.2.2.trans (hb.mono (by have := h.2.2.1; omega))⟩
theorem FmA.alloc {c : Cal} {s : Sp} {B : Nat} {w0 w : World} (h : FmA c s B w0 w) (o : Obj) : FmA c s B w0 (w.alloc o) := h.call ((Below.refl _ _).alloc (Nat.le_refl _) _)
theorem fmA_new (c : Cal) (s : Sp) (w : World) : FmA c s w.heap.size w ((w.alloc (calObj c)).alloc (spObj s)) := by
  refine ⟨calAt_alloc (calAt_new w c) (by simp) _, ?_, by simp, by (repeat' (first | (with_reducible exact Below.refl _ _) | (with_reducible assumption) | (with_reducible refine Below.alloc ?_ ?_ _) | (with_reducible refine below_drewN ?_ _) | (with_reducible refine Below.drew ?_) | (with_reducible refine Below.setCell ?_ ?_ _) | (with_reducible refine Below.trans ?_ (Below.mono (by assumption) ?_)) | go_size | (simp at *; omega)))⟩
  have := spAt_fresh (w.alloc (calObj c)) s
  simpa using this


def LUPost (L : List Un) (E : Int) (w : World) (e : Ending) (w' : World) : Prop := ∃ a n cap, e = .returned (.tuple #[.slice a n cap, .int .i64 E]) ∧ RU w' a n cap L ∧ Below w.heap.size w w'
noncomputable def allLst (c : Cal) (lv f t : Int) : List Un := if allE c lv f t = 0 then allUp c lv f (t + 1 - f).toNat else []
theorem all_ny {c : Cal} {lv f t : Int} (h : allE c lv f t = 0) : f + ((t + 1 - f).toNat : Int) = t + 1 ∧ 0 < (allUp c lv f (t + 1 - f).toNat).length ∧ (allUp c lv f (t + 1 - f).toNat).length ≤ 1000000 := by
  obtain ⟨hk, hl, hf, ht, hft⟩ := all_ok h
  obtain ⟨_, _, y3, y4, _⟩ := ok_years hk
  have hok : c.Ok := by simpa [Cal.okB] using hk
  have := all_len c lv f (t + 1 - f).toNat (fun a ha => frame_is hok hl.1 hl.2 (by omega) (by omega))
  omega
theorem fall_lu (c : Cal) (lv f t : Int) (w : World) (hn : c.name.size ≤ 1000) : Calls Tryz.prog 11 #[calV c, .int .i64 lv, .int .i64 f, .int .i64 t] w (LUPost (allLst c lv f t) (allE c lv f t) w) := by
  by_cases h : allE c lv f t = 0
  · obtain ⟨hny, h0, _⟩ := all_ny h
    obtain ⟨hk, hl, hf, ht, hft⟩ := all_ok h
    rw [allLst, if_pos h, h]
    refine (all_yes c lv f t w hn _ hny hk hl hf ht hft).mono ?_
    rintro e w1 ⟨g, cap, rfl, hu, _, hb⟩
    exact ⟨_, _, _, rfl, .inr ⟨h0, rfl, g, 0, rfl, hu.rdu h0⟩, hb⟩
  · rw [allLst, if_neg h]
    refine (all_no c lv f t w hn h).mono ?_
    rintro e w1 ⟨rfl, hb⟩
    exact ⟨_, _, _, rfl, .inl ⟨rfl, rfl, rfl, rfl⟩, hb⟩
theorem rall_lu (c : Cal) (lv f t : Int) (w : World) (hn : c.name.size ≤ 1000) : Calls Tryz.prog 12 #[calV c, .int .i64 lv, .int .i64 f, .int .i64 t] w (LUPost (allLst c lv f t) (allE c lv f t) w) := by
  by_cases h : allE c lv f t = 0
  · obtain ⟨hny, h0, _⟩ := all_ny h
    rw [allLst, if_pos h, h]
    refine (r17all_yes c lv f t w hn _ hny h).mono ?_
    rintro e w1 ⟨g, cap, rfl, hu, hb⟩
    exact ⟨_, _, _, rfl, .inr ⟨h0, rfl, g, 0, rfl, hu.rdu h0⟩, hb⟩
  · rw [allLst, if_neg h]
    refine (r17all_no c lv f t w hn h).mono ?_
    rintro e w1 ⟨rfl, hb⟩
    exact ⟨_, _, _, rfl, .inl ⟨rfl, rfl, rfl, rfl⟩, hb⟩
theorem allLst_len (c : Cal) (lv f t : Int) : (allLst c lv f t).length ≤ 1000000 := by
  unfold allLst
  split
  · rename_i h; exact (all_ny h).2.2
  · simp
theorem meetsL_len (c : Cal) (lv : Int) (s : Sp) : (meetsL c lv s).length ≤ 1000000 := by
  by_cases h : meetsE c lv s = 0
  · obtain ⟨n0, hny, hFR, mm, nn, hn1, hL, hmn, _, _⟩ := meets_facts h
    have h1 := all_len c lv (servY c s.a) (meetsN c lv s) hFR
    obtain ⟨hk, _, _, _, hA, hB⟩ := meets_ok h
    have r1 := ask_ok (fd_ok hA).2.2.2.2.2.1.1
    have r2 := ask_ok (fd_ok hB).2.2.2.2.2.1.1
    rw [hL]
    simp only [List.length_take, List.length_drop]
    omega
  · rw [meets_no h]; simp
theorem meetsL_pos {c : Cal} {lv : Int} {s : Sp} (h : meetsE c lv s = 0) : 0 < (meetsL c lv s).length := by
  obtain ⟨n0, hny, hFR, mm, nn, hn1, hL, hmn, _, _⟩ := meets_facts h
  rw [hL]
  simp only [List.length_take, List.length_drop]
  omega
theorem fmeets_lu (c : Cal) (lv : Int) (s : Sp) (w : World) (hn : c.name.size ≤ 1000) : Calls Tryz.prog 13 #[calV c, .int .i64 lv, spanV s] w (LUPost (meetsL c lv s) (meetsE c lv s) w) := by
  by_cases h : meetsE c lv s = 0
  · have h0 := meetsL_pos h
    rw [h]
    refine (meets_yes c lv s w hn h).mono ?_
    rintro e w1 ⟨g, cap, rfl, hu, _, hb⟩
    exact ⟨_, _, _, rfl, .inr ⟨h0, rfl, g, 0, rfl, hu.rdu h0⟩, hb⟩
  · rw [meets_no h]
    refine (meets_any_no c lv s w hn h).mono ?_
    rintro e w1 ⟨rfl, hb⟩
    exact ⟨_, _, _, rfl, .inl ⟨rfl, rfl, rfl, rfl⟩, hb⟩
theorem rmeets_lu (c : Cal) (lv : Int) (s : Sp) (w : World) (hn : c.name.size ≤ 1000) : Calls Tryz.prog 14 #[calV c, .int .i64 lv, spanV s] w (LUPost (meetsL c lv s) (meetsE c lv s) w) := by
  by_cases h : meetsE c lv s = 0
  · have h0 := meetsL_pos h
    rw [h]
    refine (r17meets_yes c lv s w hn h).mono ?_
    rintro e w1 ⟨g, cap, rfl, hu, hb⟩
    exact ⟨_, _, _, rfl, .inr ⟨h0, rfl, g, 0, rfl, hu.rdu h0⟩, hb⟩
  · rw [meets_no h]
    refine (r17meets_no c lv s w hn h).mono ?_
    rintro e w1 ⟨rfl, hb⟩
    exact ⟨_, _, _, rfl, .inl ⟨rfl, rfl, rfl, rfl⟩, hb⟩

set_option maxRecDepth 100000 in
set_option maxHeartbeats 6400000 in
theorem fli_walk (c : Cal) (hn : c.name.size ≤ 9223372036854775807) (lv f t : Int) (s : Sp) (w : World) :
    Calls Tryz.prog 3 #[calV c, .int .i64 lv, .int .i64 f, .int .i64 t, spanV s] w fun e w' => e = .returned (.bool true) ∧ Below w.heap.size w w' := by
  have HAL := hide (allLst_len c lv f t)
  have HML := hide (meetsL_len c lv s)
  have HN := hide hn
  obtain ⟨AE, hAE⟩ : ∃ X, allE c lv f t = X := ⟨_, rfl⟩
  obtain ⟨AL, hAL⟩ : ∃ X, allLst c lv f t = X := ⟨_, rfl⟩
  obtain ⟨ME, hME⟩ : ∃ X, meetsE c lv s = X := ⟨_, rfl⟩
  obtain ⟨ML, hML⟩ : ∃ X, meetsL c lv s = X := ⟨_, rfl⟩
  rw [hAL] at HAL
  rw [hML] at HML
  have CA := fun (W : World) (h : c.name.size ≤ 1000) => fall_lu c lv f t W h
  have CB := fun (W : World) (h : c.name.size ≤ 1000) => rall_lu c lv f t W h
  have CM := fun (W : World) (h : c.name.size ≤ 1000) => fmeets_lu c lv s W h
  have CN := fun (W : World) (h : c.name.size ≤ 1000) => rmeets_lu c lv s W h
  rw [hAE, hAL] at CA CB
  rw [hME, hML] at CM CN
  have HCA := hide CA
  have HCB := hide CB
  have HCM := hide CM
  have HCN := hide CN
  obtain ⟨sa, sb⟩ := s
  simp only [calV, spanV]
  clear hAE hAL hME hML CA CB CM CN hn
  go_enter Tryz.func3, Tryz.ntmps3
  go_wp2_with fail
  refine (live17_any _).mono ?_
  rintro e w1 ⟨rfl, hb1⟩
  have HK1 := hide ((fmA_new c ⟨sa, sb⟩ w).call hb1)
  obtain ⟨q0, q1, q2, q3, q4, q5, q6, q7, q8, q9, q10, q11, q12, q13⟩ := HK1.out.1
  obtain ⟨p0, p1⟩ := HK1.out.2.1
  simp only at p0 p1
  have hk1 : w.heap.size + 1 < w1.heap.size := HK1.out.2.2.1
  have hj1 : w.heap.size < w1.heap.size := by omega
  clear hb1
  go_wp2_with fail
  refine (short_any c f t _).mono ?_
  rintro e w2 ⟨⟨sh, rfl, hsh⟩, hb2⟩
  have HK2 := hide (HK1.out.call hb2)
  clear q0 q1 q2 q3 q4 q5 q6 q7 q8 q9 q10 q11 q12 q13
  clear p0 p1 hk1 hj1
  obtain ⟨q0, q1, q2, q3, q4, q5, q6, q7, q8, q9, q10, q11, q12, q13⟩ := HK2.out.1
  obtain ⟨p0, p1⟩ := HK2.out.2.1
  simp only at p0 p1
  have hk2 : w.heap.size + 1 < w2.heap.size := HK2.out.2.2.1
  have hj2 : w.heap.size < w2.heap.size := by omega
  clear hb2
  cases sh
  · clear hsh
    have hBel := HK2.out.2.2.2
    go_wp2
    all_goals first
      | (go_ret; exact ⟨rfl, by (repeat' (first | (with_reducible exact Below.refl _ _) | (with_reducible assumption) | (with_reducible refine Below.alloc ?_ ?_ _) | (with_reducible refine below_drewN ?_ _) | (with_reducible refine Below.drew ?_) | (with_reducible refine Below.setCell ?_ ?_ _) | (with_reducible refine Below.trans ?_ (Below.mono (by assumption) ?_)) | go_size | (simp at *; omega)))⟩)
      | (go_ret; exact ⟨ret_bool (by simp), by (repeat' (first | (with_reducible exact Below.refl _ _) | (with_reducible assumption) | (with_reducible refine Below.alloc ?_ ?_ _) | (with_reducible refine below_drewN ?_ _) | (with_reducible refine Below.drew ?_) | (with_reducible refine Below.setCell ?_ ?_ _) | (with_reducible refine Below.trans ?_ (Below.mono (by assumption) ?_)) | go_size | (simp at *; omega)))⟩)
  · have hn := (hsh rfl).1
    clear hsh
    go_wp2_with fail
    refine (brief_any c ⟨sa, sb⟩ _).mono ?_
    rintro e w3 ⟨⟨br, rfl, _⟩, hb3⟩
    have HK3 := hide (HK2.out.call hb3)
    clear q0 q1 q2 q3 q4 q5 q6 q7 q8 q9 q10 q11 q12 q13
    clear p0 p1 hk2 hj2
    obtain ⟨q0, q1, q2, q3, q4, q5, q6, q7, q8, q9, q10, q11, q12, q13⟩ := HK3.out.1
    obtain ⟨p0, p1⟩ := HK3.out.2.1
    simp only at p0 p1
    have hk3 : w.heap.size + 1 < w3.heap.size := HK3.out.2.2.1
    have hj3 : w.heap.size < w3.heap.size := by omega
    clear hb3
    cases br
    · have hBel := HK3.out.2.2.2
      go_wp2
      all_goals first
        | (go_ret; exact ⟨rfl, by (repeat' (first | (with_reducible exact Below.refl _ _) | (with_reducible assumption) | (with_reducible refine Below.alloc ?_ ?_ _) | (with_reducible refine below_drewN ?_ _) | (with_reducible refine Below.drew ?_) | (with_reducible refine Below.setCell ?_ ?_ _) | (with_reducible refine Below.trans ?_ (Below.mono (by assumption) ?_)) | go_size | (simp at *; omega)))⟩)
        | (go_ret; exact ⟨ret_bool (by simp), by (repeat' (first | (with_reducible exact Below.refl _ _) | (with_reducible assumption) | (with_reducible refine Below.alloc ?_ ?_ _) | (with_reducible refine below_drewN ?_ _) | (with_reducible refine Below.drew ?_) | (with_reducible refine Below.setCell ?_ ?_ _) | (with_reducible refine Below.trans ?_ (Below.mono (by assumption) ?_)) | go_size | (simp at *; omega)))⟩)
    · go_wp2_with fail
      refine (HCA.out _ (by omega)).mono ?_
      rintro e w4 ⟨a1, n1, cap1, rfl, hlu, hb4⟩
      have HL1 := hide hlu
      clear hlu
      have HK4 := hide (HK3.out.call hb4)
      clear q0 q1 q2 q3 q4 q5 q6 q7 q8 q9 q10 q11 q12 q13
      clear p0 p1 hk3 hj3
      obtain ⟨q0, q1, q2, q3, q4, q5, q6, q7, q8, q9, q10, q11, q12, q13⟩ := HK4.out.1
      obtain ⟨p0, p1⟩ := HK4.out.2.1
      simp only at p0 p1
      have hk4 : w.heap.size + 1 < w4.heap.size := HK4.out.2.2.1
      have hj4 : w.heap.size < w4.heap.size := by omega
      clear hb4
      go_wp2_with fail
      refine (HCB.out _ (by omega)).mono ?_
      rintro e w5 ⟨a2, n2, cap2, rfl, hlu, hb5⟩
      have HL2 := hide hlu
      have HL1b := hide (HL1.out.call hb5)
      clear hlu
      have HK5 := hide (HK4.out.call hb5)
      clear q0 q1 q2 q3 q4 q5 q6 q7 q8 q9 q10 q11 q12 q13
      clear p0 p1 hk4 hj4
      obtain ⟨q0, q1, q2, q3, q4, q5, q6, q7, q8, q9, q10, q11, q12, q13⟩ := HK5.out.1
      obtain ⟨p0, p1⟩ := HK5.out.2.1
      simp only at p0 p1
      have hk5 : w.heap.size + 1 < w5.heap.size := HK5.out.2.2.1
      have hj5 : w.heap.size < w5.heap.size := by omega
      clear hb5
      go_wp2_with fail
      refine (HCM.out _ (by omega)).mono ?_
      rintro e w6 ⟨a3, n3, cap3, rfl, hlu, hb6⟩
      have HM1 := hide hlu
      have HL1c := hide (HL1b.out.call hb6)
      have HL2c := hide (HL2.out.call hb6)
      clear hlu
      have HK6 := hide (HK5.out.call hb6)
      clear q0 q1 q2 q3 q4 q5 q6 q7 q8 q9 q10 q11 q12 q13
      clear p0 p1 hk5 hj5
      obtain ⟨q0, q1, q2, q3, q4, q5, q6, q7, q8, q9, q10, q11, q12, q13⟩ := HK6.out.1
      obtain ⟨p0, p1⟩ := HK6.out.2.1
      simp only at p0 p1
      have hk6 : w.heap.size + 1 < w6.heap.size := HK6.out.2.2.1
      have hj6 : w.heap.size < w6.heap.size := by omega
      clear hb6
      go_wp2_with fail
      refine (HCN.out _ (by omega)).mono ?_
      rintro e w7 ⟨a4, n4, cap4, rfl, hlu, hb7⟩
      have HM2 := hide hlu
      have HM1d := hide (HM1.out.call hb7)
      have HL1d := hide (HL1c.out.call hb7)
      have HL2d := hide (HL2c.out.call hb7)
      clear hlu
      have HK7 := hide (HK6.out.call hb7)
      clear q0 q1 q2 q3 q4 q5 q6 q7 q8 q9 q10 q11 q12 q13
      clear p0 p1 hk6 hj6
      obtain ⟨q0, q1, q2, q3, q4, q5, q6, q7, q8, q9, q10, q11, q12, q13⟩ := HK7.out.1
      obtain ⟨p0, p1⟩ := HK7.out.2.1
      simp only at p0 p1
      have hk7 : w.heap.size + 1 < w7.heap.size := HK7.out.2.2.1
      have hj7 : w.heap.size < w7.heap.size := by omega
      clear hb7
      go_wp2_with fail
      refine (same17_ru AL a1 a2 n1 cap1 n2 cap2 _ HL1d.out HL2d.out HAL.out).mono ?_
      rintro e w8 ⟨rfl, hb8⟩
      have HM1e := hide (HM1d.out.call hb8)
      have HM2e := hide (HM2.out.call hb8)
      have HK8 := hide (HK7.out.call hb8)
      clear q0 q1 q2 q3 q4 q5 q6 q7 q8 q9 q10 q11 q12 q13
      clear p0 p1 hk7 hj7
      obtain ⟨q0, q1, q2, q3, q4, q5, q6, q7, q8, q9, q10, q11, q12, q13⟩ := HK8.out.1
      obtain ⟨p0, p1⟩ := HK8.out.2.1
      simp only at p0 p1
      have hk8 : w.heap.size + 1 < w8.heap.size := HK8.out.2.2.1
      have hj8 : w.heap.size < w8.heap.size := by omega
      clear hb8
      go_wp2_with fail
      refine (same17_ru ML a3 a4 n3 cap3 n4 cap4 _ HM1e.out HM2e.out HML.out).mono ?_
      rintro e w9 ⟨rfl, hb9⟩
      have HK9 := hide (HK8.out.call hb9)
      clear q0 q1 q2 q3 q4 q5 q6 q7 q8 q9 q10 q11 q12 q13
      clear p0 p1 hk8 hj8
      obtain ⟨q0, q1, q2, q3, q4, q5, q6, q7, q8, q9, q10, q11, q12, q13⟩ := HK9.out.1
      obtain ⟨p0, p1⟩ := HK9.out.2.1
      simp only at p0 p1
      have hk9 : w.heap.size + 1 < w9.heap.size := HK9.out.2.2.1
      have hj9 : w.heap.size < w9.heap.size := by omega
      clear hb9
      have hBel := HK9.out.2.2.2
      go_wp2
      all_goals first
        | (exfalso; omega)
        | (go_ret; exact ⟨rfl, by (repeat' (first | (with_reducible exact Below.refl _ _) | (with_reducible assumption) | (with_reducible refine Below.alloc ?_ ?_ _) | (with_reducible refine below_drewN ?_ _) | (with_reducible refine Below.drew ?_) | (with_reducible refine Below.setCell ?_ ?_ _) | (with_reducible refine Below.trans ?_ (Below.mono (by assumption) ?_)) | go_size | (simp at *; omega)))⟩)
        | (go_ret; exact ⟨ret_bool (by simp), by (repeat' (first | (with_reducible exact Below.refl _ _) | (with_reducible assumption) | (with_reducible refine Below.alloc ?_ ?_ _) | (with_reducible refine below_drewN ?_ _) | (with_reducible refine Below.drew ?_) | (with_reducible refine Below.setCell ?_ ?_ _) | (with_reducible refine Below.trans ?_ (Below.mono (by assumption) ?_)) | go_size | (simp at *; omega)))⟩)
end Go.Proofs.YtojdngkleiokgaaGreat
