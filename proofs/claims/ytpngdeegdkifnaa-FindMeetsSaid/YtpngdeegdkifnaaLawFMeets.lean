/- The walk of FindMeets. -/
import Derived.Test.YtpngdeegdkifnaaFindJ
import Derived.Test.YtpngdeegdkifnaaLawFNext
import Derived.Deep.RegionHeld3
namespace Go.Proofs.Ytpngdeegdkifnaa
open Go.RowKit Go.Shelf Qd
set_option linter.unusedSimpArgs false
set_option linter.unusedVariables false

/-- The frame of the law behind the call: the calendar, and the units. -/
def FaSt (c : Cal) (L : List Un) (g cap B : Nat) (w0 w : World) : Prop := CalAt w B c ∧ B < w.heap.size ∧ UnsAt w g cap L ∧ g < w.heap.size ∧ Below B w0 w
theorem FaSt.call {c : Cal} {L : List Un} {g cap B : Nat} {w0 w w' : World} (h : FaSt c L g cap B w0 w) (hb : Below w.heap.size w w') : FaSt c L g cap B w0 w' := ⟨calAt_below hb h.2.1 h.1, Nat.lt_of_lt_of_le h.2.1 hb.size, h.2.2.1.call hb, Nat.lt_of_lt_of_le h.2.2.2.1 hb.size, h.2.2.2.2.trans (hb.mono (Nat.le_of_lt h.2.1))⟩
theorem FaSt.alloc {c : Cal} {L : List Un} {g cap B : Nat} {w0 w : World} (h : FaSt c L g cap B w0 w) (o : Obj) : FaSt c L g cap B w0 (w.alloc o) := h.call ((Below.refl _ _).alloc (Nat.le_refl _) _)
theorem FaSt.drew {c : Cal} {L : List Un} {g cap B : Nat} {w0 w : World} (h : FaSt c L g cap B w0 w) : FaSt c L g cap B w0 w.drew := h.call ((Below.refl _ _).drew)

theorem blk_drew1 (w : World) (o : Obj) (cs : Array Value) (t : TypeId) : BlkIs ((w.alloc o).drew.alloc (.cells cs t)) (w.heap.size + 1) cs t := by
  have h := BlkIs.new ((w.alloc o).drew) cs t
  have e : ((w.alloc o).drew).heap.size = w.heap.size + 1 := by simp
  rw [e] at h
  exact h
theorem blk_drew2 (w : World) (o : Obj) (cs : Array Value) (t : TypeId) : BlkIs (((w.alloc o).alloc (.cells cs t)).drew) (w.heap.size + 1) cs t := by
  have h := BlkIs.new (w.alloc o) cs t
  have e : (w.alloc o).heap.size = w.heap.size + 1 := by simp
  rw [e] at h
  exact h
theorem blk_box1 (w : World) (cs : Array Value) (t : TypeId) : BlkIs ((w.alloc (.cells cs t)).drew) w.heap.size cs t := BlkIs.new w cs t
theorem blk_box2 (w : World) (o : Obj) (cs : Array Value) (t : TypeId) : BlkIs (((w.alloc (.cells cs t)).drew).alloc o) w.heap.size cs t := BlkIs.alloc (blk_box1 w cs t) o
theorem blk_box3 (w : World) (o : Obj) (cs : Array Value) (t : TypeId) : BlkIs (((w.alloc (.cells cs t)).alloc o).drew) w.heap.size cs t := BlkIs.alloc (BlkIs.new w cs t) o
theorem FaSt.s {c : Cal} {L : List Un} {g cap B : Nat} {w0 w : World} (h : FaSt c L g cap B w0 w) {k : Nat} {u : Un} (hu : L[k]? = some u) : CalAt w B c ∧ (w.cell? ⟨g, k * 3, none⟩ = some (.int .i64 u.lv) ∧ w.cell? ⟨g, k * 3 + 1, none⟩ = some (.int .i64 u.yr) ∧ w.cell? ⟨g, k * 3 + 2, none⟩ = some (.int .i64 u.ix)) := ⟨h.1, UnsAt.cell h.2.2.1 hu⟩

theorem meets_11 {c : Cal} {lv : Int} {s : Sp} (h : ¬ meetsE c lv s = 0) : s.b < s.a ∨ (s.a ≤ s.b ∧ ¬ fdE c s.a lv = 0) ∨ (s.a ≤ s.b ∧ fdE c s.a lv = 0 ∧ ¬ fdE c s.b lv = 0) := by
  rcases Int.lt_or_le s.b s.a with h1 | h1
  · exact .inl h1
  · right
    by_cases h2 : fdE c s.a lv = 0
    · right
      refine ⟨h1, h2, fun h3 => h ?_⟩
      have hk := fd_ok h2
      unfold meetsE
      rw [if_pos ⟨hk.1, ⟨hk.2.1, hk.2.2.1⟩, h1⟩, if_pos h2]
      exact h3
    · exact .inl ⟨h1, h2⟩

/-- A short span, and a short name. -/
def BriefP (c : Cal) (s : Sp) (e : Ending) : Prop := ∃ b : Bool, e = .returned (.bool b) ∧ (b = true → c.name.size ≤ 100 ∧ (0 ≤ s.a → s.a ≤ s.b → s.b < 3068037 → s.b - s.a ≤ 2000))
set_option maxHeartbeats 1600000 in
theorem brief_any (c : Cal) (s : Sp) (w : World) :
    Calls Try.prog 24 #[calV c, spanV s] w fun e w' => BriefP c s e ∧ Below w.heap.size w w' := by
  simp only [calV, spanV]
  go_enter Try.func24, Try.ntmps24
  by_cases h0 : c.name.size ≤ 100
  · by_cases h1 : s.b < s.a
    · go_wp2
      all_goals first
        | (exfalso; omega)
        | (go_ret; exact ⟨⟨_, rfl, fun _ => ⟨h0, fun _ h => by omega⟩⟩, by (repeat' (first | (with_reducible exact Below.refl _ _) | (with_reducible assumption) | (with_reducible refine Below.alloc ?_ ?_ _) | (with_reducible refine below_drewN ?_ _) | (with_reducible refine Below.drew ?_) | (with_reducible refine Below.setCell ?_ ?_ _) | (with_reducible refine Below.trans ?_ (Below.mono (by assumption) ?_)) | go_size | (simp at *; omega)))⟩)
    · by_cases h2 : s.a < 0
      · go_wp2
        all_goals first
          | (exfalso; omega)
          | (go_ret; exact ⟨⟨_, rfl, fun _ => ⟨h0, fun h => by omega⟩⟩, by (repeat' (first | (with_reducible exact Below.refl _ _) | (with_reducible assumption) | (with_reducible refine Below.alloc ?_ ?_ _) | (with_reducible refine below_drewN ?_ _) | (with_reducible refine Below.drew ?_) | (with_reducible refine Below.setCell ?_ ?_ _) | (with_reducible refine Below.trans ?_ (Below.mono (by assumption) ?_)) | go_size | (simp at *; omega)))⟩)
      · by_cases h3 : 3068037 ≤ s.b
        · go_wp2
          all_goals first
            | (exfalso; omega)
            | (go_ret; exact ⟨⟨_, rfl, fun _ => ⟨h0, fun _ _ h => by omega⟩⟩, by (repeat' (first | (with_reducible exact Below.refl _ _) | (with_reducible assumption) | (with_reducible refine Below.alloc ?_ ?_ _) | (with_reducible refine below_drewN ?_ _) | (with_reducible refine Below.drew ?_) | (with_reducible refine Below.setCell ?_ ?_ _) | (with_reducible refine Below.trans ?_ (Below.mono (by assumption) ?_)) | go_size | (simp at *; omega)))⟩)
        · go_wp2
          all_goals first
            | (exfalso; omega)
            | (go_ret
               refine ⟨⟨_, rfl, fun hb => ⟨h0, fun g1 g2 g3 => ?_⟩⟩, by (repeat' (first | (with_reducible exact Below.refl _ _) | (with_reducible assumption) | (with_reducible refine Below.alloc ?_ ?_ _) | (with_reducible refine below_drewN ?_ _) | (with_reducible refine Below.drew ?_) | (with_reducible refine Below.setCell ?_ ?_ _) | (with_reducible refine Below.trans ?_ (Below.mono (by assumption) ?_)) | go_size | (simp at *; omega)))⟩
               have hw : wrap64 (s.b - s.a) = s.b - s.a := by unfold wrap64; omega
               rw [hw] at hb; simpa using hb)
            | (go_ret
               refine ⟨⟨_, rfl, fun hb => ⟨h0, fun g1 g2 g3 => ?_⟩⟩, by (repeat' (first | (with_reducible exact Below.refl _ _) | (with_reducible assumption) | (with_reducible refine Below.alloc ?_ ?_ _) | (with_reducible refine below_drewN ?_ _) | (with_reducible refine Below.drew ?_) | (with_reducible refine Below.setCell ?_ ?_ _) | (with_reducible refine Below.trans ?_ (Below.mono (by assumption) ?_)) | go_size | (simp at *; omega)))⟩
               simp at hb; omega)
  · go_wp2
    all_goals first
      | (exfalso; omega)
      | (go_ret; exact ⟨⟨_, rfl, fun h => by simp at h⟩, by (repeat' (first | (with_reducible exact Below.refl _ _) | (with_reducible assumption) | (with_reducible refine Below.alloc ?_ ?_ _) | (with_reducible refine below_drewN ?_ _) | (with_reducible refine Below.drew ?_) | (with_reducible refine Below.setCell ?_ ?_ _) | (with_reducible refine Below.trans ?_ (Below.mono (by assumption) ?_)) | go_size | (simp at *; omega)))⟩)

/-- What lies in the frame: the calendar and the span. -/
def FmA (c : Cal) (s : Sp) (B : Nat) (w0 w : World) : Prop := CalAt w B c ∧ SpAt w (B + 1) s ∧ B + 1 < w.heap.size ∧ Below B w0 w
theorem FmA.call {c : Cal} {s : Sp} {B : Nat} {w0 w w' : World} (h : FmA c s B w0 w) (hb : Below w.heap.size w w') : FmA c s B w0 w' := ⟨calAt_below hb (by have := h.2.2.1; omega) h.1, spAt_below hb h.2.2.1 h.2.1, Nat.lt_of_lt_of_le h.2.2.1 hb.size, h.2.2.2.trans (hb.mono (by have := h.2.2.1; omega))⟩
theorem FmA.alloc {c : Cal} {s : Sp} {B : Nat} {w0 w : World} (h : FmA c s B w0 w) (o : Obj) : FmA c s B w0 (w.alloc o) := h.call ((Below.refl _ _).alloc (Nat.le_refl _) _)
theorem fmA_new (c : Cal) (s : Sp) (w : World) : FmA c s w.heap.size w ((w.alloc (calObj c)).alloc (spObj s)) := by
  refine ⟨calAt_alloc (calAt_new w c) (by simp) _, ?_, by simp, by (repeat' (first | (with_reducible exact Below.refl _ _) | (with_reducible assumption) | (with_reducible refine Below.alloc ?_ ?_ _) | (with_reducible refine below_drewN ?_ _) | (with_reducible refine Below.drew ?_) | (with_reducible refine Below.setCell ?_ ?_ _) | (with_reducible refine Below.trans ?_ (Below.mono (by assumption) ?_)) | go_size | (simp at *; omega)))⟩
  have := spAt_fresh (w.alloc (calObj c)) s
  simpa using this

set_option maxRecDepth 100000 in
set_option maxHeartbeats 1600000 in
theorem fm_no (c : Cal) (lv : Int) (s : Sp) (w : World) (hn : c.name.size ≤ 9223372036854775807) (hE : ¬ meetsE c lv s = 0) :
    Calls Try.prog 5 #[calV c, .int .i64 lv, spanV s] w fun e w' => e = .returned (.bool true) ∧ Below w.heap.size w w' := by
  have hE' : (meetsE c lv s != 0) = true := by simpa using hE
  have HC := hide (meets_11 hE)
  have HNO := hide (fun (w : World) (h : c.name.size ≤ 1000) => meets_any_no c lv s w h hE)
  obtain ⟨E, hEE⟩ : ∃ E, E = meetsE c lv s := ⟨_, rfl⟩
  obtain ⟨F, hFF⟩ : ∃ F, fdE c s.a lv = F := ⟨_, rfl⟩
  obtain ⟨G, hGG⟩ : ∃ G, fdE c s.b lv = G := ⟨_, rfl⟩
  rw [← hEE] at hE' HNO
  rw [hFF, hGG] at HC
  have HFF := hide hFF
  have HGG := hide hGG
  clear hE hEE hFF hGG
  simp only [calV, spanV]
  go_enter Try.func5, Try.ntmps5
  go_wp2_with fail
  refine (live17_any _).mono ?_
  rintro e w1 ⟨rfl, hb1⟩
  have HM1 := hide ((fmA_new c s w).call hb1)
  clear hb1
  obtain ⟨q0, q1, q2, q3, q4, q5, q6, q7, q8, q9, q10, q11, q12, q13⟩ := HM1.out.1
  obtain ⟨p0, p1⟩ := HM1.out.2.1
  have hz1 := HM1.out.2.2.1
  have hy1 : w.heap.size < w1.heap.size := by omega
  go_wp2_with fail
  refine (brief_any c s _).mono ?_
  rintro e w2 ⟨⟨b, rfl, hsh⟩, hb2⟩
  have HSH := hide hsh
  have HM2 := hide (HM1.out.call hb2)
  clear hsh hb2 p0 p1
  clear q0 q1 q2 q3 q4 q5 q6 q7 q8 q9 q10 q11 q12 q13
  obtain ⟨q0, q1, q2, q3, q4, q5, q6, q7, q8, q9, q10, q11, q12, q13⟩ := HM2.out.1
  obtain ⟨p0, p1⟩ := HM2.out.2.1
  have hz2 := HM2.out.2.2.1
  have hy2 : w.heap.size < w2.heap.size := by omega
  cases b
  · have hBel := HM2.out.2.2.2
    go_wp2
    go_ret
    exact ⟨rfl, by (repeat' (first | (with_reducible exact Below.refl _ _) | (with_reducible assumption) | (with_reducible refine Below.alloc ?_ ?_ _) | (with_reducible refine below_drewN ?_ _) | (with_reducible refine Below.drew ?_) | (with_reducible refine Below.setCell ?_ ?_ _) | (with_reducible refine Below.trans ?_ (Below.mono (by assumption) ?_)) | go_size | (simp at *; omega)))⟩
  · have hnm : c.name.size ≤ 100 := (HSH.out rfl).1
    go_wp2_with fail
    refine (HNO.out _ (by omega)).mono ?_
    rintro e w3 ⟨rfl, hb3⟩
    have HM3 := hide (HM2.out.call hb3)
    clear hb3 p0 p1
    clear q0 q1 q2 q3 q4 q5 q6 q7 q8 q9 q10 q11 q12 q13
    obtain ⟨q0, q1, q2, q3, q4, q5, q6, q7, q8, q9, q10, q11, q12, q13⟩ := HM3.out.1
    obtain ⟨p0, p1⟩ := HM3.out.2.1
    have hz3 := HM3.out.2.2.1
    have hy3 : w.heap.size < w3.heap.size := by omega
    go_wp2_with fail
    refine (fday_any c s.a lv _ (by omega)).mono ?_
    rintro e w4 ⟨rfl, hb4⟩
    rw [HFF.out]
    have HM4 := hide (HM3.out.call hb4)
    clear hb4 p0 p1
    clear q0 q1 q2 q3 q4 q5 q6 q7 q8 q9 q10 q11 q12 q13
    obtain ⟨q0, q1, q2, q3, q4, q5, q6, q7, q8, q9, q10, q11, q12, q13⟩ := HM4.out.1
    obtain ⟨p0, p1⟩ := HM4.out.2.1
    have hz4 := HM4.out.2.2.1
    have hy4 : w.heap.size < w4.heap.size := by omega
    go_wp2_with fail
    refine (fday_any c s.b lv _ (by omega)).mono ?_
    rintro e w5 ⟨rfl, hb5⟩
    rw [HGG.out]
    have HM5 := hide ((HM4.out.alloc _).call hb5)
    clear hb5 p0 p1
    clear q0 q1 q2 q3 q4 q5 q6 q7 q8 q9 q10 q11 q12 q13
    obtain ⟨q0, q1, q2, q3, q4, q5, q6, q7, q8, q9, q10, q11, q12, q13⟩ := HM5.out.1
    obtain ⟨p0, p1⟩ := HM5.out.2.1
    have hz5 := HM5.out.2.2.1
    have hy5 : w.heap.size < w5.heap.size := by omega
    have hBel := HM5.out.2.2.2
    rcases HC.out with h | ⟨h, h2⟩ | ⟨h, h2, h3⟩
    all_goals
      go_wp2
      all_goals first
        | (exfalso; omega)
        | (go_ret; exact ⟨ret_bool (by simp_all), by (repeat' (first | (with_reducible exact Below.refl _ _) | (with_reducible assumption) | (with_reducible refine Below.alloc ?_ ?_ _) | (with_reducible refine below_drewN ?_ _) | (with_reducible refine Below.drew ?_) | (with_reducible refine Below.setCell ?_ ?_ _) | (with_reducible refine Below.trans ?_ (Below.mono (by assumption) ?_)) | go_size | (simp at *; omega)))⟩)
        | (go_ret; exact ⟨ret_bool (by simp; omega), by (repeat' (first | (with_reducible exact Below.refl _ _) | (with_reducible assumption) | (with_reducible refine Below.alloc ?_ ?_ _) | (with_reducible refine below_drewN ?_ _) | (with_reducible refine Below.drew ?_) | (with_reducible refine Below.setCell ?_ ?_ _) | (with_reducible refine Below.trans ?_ (Below.mono (by assumption) ?_)) | go_size | (simp at *; omega)))⟩)

set_option maxRecDepth 100000 in
set_option maxHeartbeats 6400000 in
theorem fm_yes (c : Cal) (lv : Int) (s : Sp) (w : World) (hn : c.name.size ≤ 9223372036854775807) (hE : meetsE c lv s = 0) :
    Calls Try.prog 5 #[calV c, .int .i64 lv, spanV s] w fun e w' => e = .returned (.bool true) ∧ Below w.heap.size w w' := by
  obtain ⟨hk, l1, l5, hab, ha, hb⟩ := meets_ok hE
  obtain ⟨k1, k2, k3, k4, k5⟩ := meets_chain hE
  have hda := (fd_ok ha).2.2.2.2.1
  have hdb := (fd_ok hb).2.2.2.2.1
  have hbd : 0 ≤ s.a ∧ s.b < 3068037 := by
    have h1 : 0 ≤ s.a ∧ s.a < 3068037 := by simpa [isB] using hda
    have h2 : 0 ≤ s.b ∧ s.b < 3068037 := by simpa [isB] using hdb
    omega
  have HFEW := hide (fun h => meets_few hE h)
  have HYES := hide (fun (w : World) (h : c.name.size ≤ 1000) => meets_yes c lv s w h hE)
  have hsb : decide (s.b < s.a) = false := by simp; omega
  obtain ⟨L, hL⟩ : ∃ L, meetsL c lv s = L := ⟨_, rfl⟩
  obtain ⟨ua, hua⟩ : ∃ ua, fdU c s.a lv = ua := ⟨_, rfl⟩
  obtain ⟨ub, hub⟩ : ∃ ub, fdU c s.b lv = ub := ⟨_, rfl⟩
  rw [hL] at k1 k2 k3 k4 k5 HYES
  rw [hua] at k2
  rw [hub] at k3
  have HK := hide (And.intro k1 (And.intro k2 k3))
  have HA := hide (And.intro ha hua)
  have HBB := hide (And.intro hb hub)
  have HLEN := hide k5
  have HAB := hide (And.intro hab hbd)
  clear k1 k2 k3 k5 ha hb hda hdb hk hL hua hub hE hab hbd
  simp only [calV, spanV]
  go_enter Try.func5, Try.ntmps5
  go_wp2_with fail
  refine (live17_any _).mono ?_
  rintro e w1 ⟨rfl, hb1⟩
  have HM1 := hide ((fmA_new c s w).call hb1)
  clear hb1
  obtain ⟨q0, q1, q2, q3, q4, q5, q6, q7, q8, q9, q10, q11, q12, q13⟩ := HM1.out.1
  obtain ⟨p0, p1⟩ := HM1.out.2.1
  have hz1 := HM1.out.2.2.1
  have hy1 : w.heap.size < w1.heap.size := by omega
  go_wp2_with fail
  refine (brief_any c s _).mono ?_
  rintro e w2 ⟨⟨b, rfl, hsh⟩, hb2⟩
  have HSH := hide hsh
  have HM2 := hide (HM1.out.call hb2)
  clear hsh hb2 p0 p1
  clear q0 q1 q2 q3 q4 q5 q6 q7 q8 q9 q10 q11 q12 q13
  obtain ⟨q0, q1, q2, q3, q4, q5, q6, q7, q8, q9, q10, q11, q12, q13⟩ := HM2.out.1
  obtain ⟨p0, p1⟩ := HM2.out.2.1
  have hz2 := HM2.out.2.2.1
  have hy2 : w.heap.size < w2.heap.size := by omega
  cases b
  · have hBel := HM2.out.2.2.2
    go_wp2
    go_ret
    exact ⟨rfl, by (repeat' (first | (with_reducible exact Below.refl _ _) | (with_reducible assumption) | (with_reducible refine Below.alloc ?_ ?_ _) | (with_reducible refine below_drewN ?_ _) | (with_reducible refine Below.drew ?_) | (with_reducible refine Below.setCell ?_ ?_ _) | (with_reducible refine Below.trans ?_ (Below.mono (by assumption) ?_)) | go_size | (simp at *; omega)))⟩
  have hnm : c.name.size ≤ 100 := (HSH.out rfl).1
  have hlen : L.length ≤ 420 := by
    have h1 := (HSH.out rfl).2 HAB.out.2.1 HAB.out.1 HAB.out.2.2
    have h2 := HFEW.out h1
    have h3 := HLEN.out
    omega
  go_wp2_with fail
  refine (HYES.out _ (by omega)).mono ?_
  rintro e w3 ⟨g, cap, rfl, hun, hg, hb3⟩
  have hgl := hun.lt (by omega)
  have HN3 := hide hun
  have HM3 := hide (HM2.out.call hb3)
  clear hb3 p0 p1 hun
  clear q0 q1 q2 q3 q4 q5 q6 q7 q8 q9 q10 q11 q12 q13
  obtain ⟨q0, q1, q2, q3, q4, q5, q6, q7, q8, q9, q10, q11, q12, q13⟩ := HM3.out.1
  obtain ⟨p0, p1⟩ := HM3.out.2.1
  have hz3 := HM3.out.2.2.1
  have hy3 : w.heap.size < w3.heap.size := by omega
  go_wp2_with fail
  refine (fday_any c s.a lv _ (by omega)).mono ?_
  rintro e w4 ⟨rfl, hb4⟩
  rw [HA.out.1, HA.out.2]
  have HM4 := hide (HM3.out.call hb4)
  have HN4 := hide (HN3.out.call hb4)
  have hg4 : g < w4.heap.size := Nat.lt_of_lt_of_le hgl.1 hb4.size
  clear hb4 p0 p1
  clear q0 q1 q2 q3 q4 q5 q6 q7 q8 q9 q10 q11 q12 q13
  obtain ⟨q0, q1, q2, q3, q4, q5, q6, q7, q8, q9, q10, q11, q12, q13⟩ := HM4.out.1
  obtain ⟨p0, p1⟩ := HM4.out.2.1
  have hz4 := HM4.out.2.2.1
  have hy4 : w.heap.size < w4.heap.size := by omega
  go_wp2_with fail
  refine (fday_any c s.b lv _ (by omega)).mono ?_
  rintro e w5 ⟨rfl, hb5⟩
  rw [HBB.out.1, HBB.out.2]
  have HM5 := hide ((HM4.out.alloc _).call hb5)
  have HN5 := hide ((HN4.out.alloc _).call hb5)
  have hg5 : g < w5.heap.size := by have := hb5.size; simp at this; omega
  obtain ⟨⟨g0, g1, g2⟩, _⟩ := ((BlkIs.new w4 #[.int .i64 ua.lv, .int .i64 ua.yr, .int .i64 ua.ix] 31).call hb5).three
  have hw45 : w4.heap.size < w5.heap.size := by have := hb5.size; simp at this; omega
  clear hb5 p0 p1
  clear q0 q1 q2 q3 q4 q5 q6 q7 q8 q9 q10 q11 q12 q13
  obtain ⟨q0, q1, q2, q3, q4, q5, q6, q7, q8, q9, q10, q11, q12, q13⟩ := HM5.out.1
  obtain ⟨p0, p1⟩ := HM5.out.2.1
  have hz5 := HM5.out.2.2.1
  have hy5 : w.heap.size < w5.heap.size := by omega
  have hc0 := UnsAt.cell HN5.out HK.out.2.1
  simp only [Nat.zero_mul, Nat.zero_add] at hc0
  obtain ⟨x0, x1, x2⟩ := hc0
  obtain ⟨e0, e1, e2⟩ := UnsAt.cell HN5.out HK.out.2.2
  have HS6 := hide (show FaSt c L g cap w.heap.size w (w5.alloc (.cells #[.int .i64 ub.lv, .int .i64 ub.yr, .int .i64 ub.ix] 31)) from ⟨calAt_alloc HM5.out.1 (by omega) _, by simp; omega, HN5.out.alloc _, by simp; omega, HM5.out.2.2.2.alloc (by omega) _⟩)
  have hua := unB_same ua.lv ua.yr ua.ix
  have hub := unB_same ub.lv ub.yr ub.ix
  have hi1 : (0 : Int) < (L.length : Int) := by omega
  have hi2 : (0 : Int) ≤ (L.length : Int) - 1 := by omega
  have hi3 : (L.length : Int) - 1 < (L.length : Int) := by omega
  have hl0 : ((L.length : Int) == 0) = false := by simp only [beq_eq_false_iff_ne]; omega
  have hl1 : decide (2100 < (L.length : Int)) = false := by simp; omega
  go_wp2_with fail
  go_quiet (fail)
  by_cases hcap : cap = 1
  · have hL1 : L.length = 1 := by omega
    go_wp2_with fail
    go_loopw [109] (fun s' wr => ∃ k : Nat, s' = .int .i64 k ∧ k + 1 ≤ L.length ∧ FaSt c L g cap w.heap.size w wr) (fun s' _ => (2200 - intOf s').toNat)
    case atStart => exact ⟨0, rfl, by omega, HS6.out.call (below_drewN (Below.refl _ _) _)⟩
    case round =>
      obtain ⟨k, rfl, hk, hS⟩ := hrel
      have HS := hide hS
      clear hS
      obtain ⟨q0, q1, q2, q3, q4, q5, q6, q7, q8, q9, q10, q11, q12, q13⟩ := HS.out.1
      have hB2 := HS.out.2.1
      have hkl : k + 1 = L.length := by omega
      have hBel := HS.out.2.2.2.2
      go_wp2
      go_ret
      exact ⟨rfl, by (repeat' (first | (with_reducible exact Below.refl _ _) | (with_reducible assumption) | (with_reducible refine Below.alloc ?_ ?_ _) | (with_reducible refine below_drewN ?_ _) | (with_reducible refine Below.drew ?_) | (with_reducible refine Below.setCell ?_ ?_ _) | (with_reducible refine Below.trans ?_ (Below.mono (by assumption) ?_)) | go_size | (simp at *; omega)))⟩
  · go_wp2_with fail
    go_loopw [109] (fun s' wr => ∃ k : Nat, s' = .int .i64 k ∧ k + 1 ≤ L.length ∧ FaSt c L g cap w.heap.size w wr) (fun s' _ => (2200 - intOf s').toNat)
    case atStart => exact ⟨0, rfl, by omega, HS6.out.call (below_drewN (Below.refl _ _) _)⟩
    case round =>
      obtain ⟨k, rfl, hk, hS⟩ := hrel
      have HS := hide hS
      clear hS
      obtain ⟨q0, q1, q2, q3, q4, q5, q6, q7, q8, q9, q10, q11, q12, q13⟩ := HS.out.1
      have hB2 := HS.out.2.1
      by_cases hlt : k + 1 < L.length
      · obtain ⟨u, hu⟩ : ∃ u, L[k]? = some u := ⟨_, List.getElem?_eq_getElem (by omega)⟩
        obtain ⟨v, hv⟩ : ∃ v, L[k + 1]? = some v := ⟨_, List.getElem?_eq_getElem hlt⟩
        have HN := hide (HK.out.1 k u v hu hv)
        have HUu := hide hu
        obtain ⟨a0, a1, a2⟩ := UnsAt.cell HS.out.2.2.1 hu
        obtain ⟨b0, b1, b2⟩ := UnsAt.cell HS.out.2.2.1 hv
        rw [show (k + 1) * 3 = 3 + k * 3 by omega] at b0 b1 b2
        clear hu hv
        have hgl2 := HS.out.2.2.2.1
        have hi1 : (0 : Int) ≤ (k : Int) := by omega
        have hi2 : (k : Int) ≤ (L.length : Int) := by omega
        have hi3 : (k : Int) < (L.length : Int) := by omega
        have hub3 := unB_same v.lv v.yr v.ix
        go_wp2_with fail
        go_region_held3 (fun w' => (w'.cell? ⟨w.heap.size, 0, none⟩ = some (.string c.name) ∧ w'.cell? ⟨w.heap.size, 1, none⟩ = some (.int .i64 c.kind) ∧ w'.cell? ⟨w.heap.size, 2, none⟩ = some (.int .i64 c.day) ∧ w'.cell? ⟨w.heap.size, 3, none⟩ = some (.int .i64 c.month) ∧ w'.cell? ⟨w.heap.size, 4, none⟩ = some (.int .i64 c.shift) ∧ w'.cell? ⟨w.heap.size, 5, none⟩ = some (.int .i64 c.shape) ∧ w'.cell? ⟨w.heap.size, 6, none⟩ = some (.int .i64 c.p0) ∧ w'.cell? ⟨w.heap.size, 7, none⟩ = some (.int .i64 c.p1) ∧ w'.cell? ⟨w.heap.size, 8, none⟩ = some (.int .i64 c.p2) ∧ w'.cell? ⟨w.heap.size, 9, none⟩ = some (.int .i64 c.cycle) ∧ w'.cell? ⟨w.heap.size, 10, none⟩ = some (.int .i64 c.extra) ∧ w'.cell? ⟨w.heap.size, 11, none⟩ = some (.int .i64 c.first) ∧ w'.cell? ⟨w.heap.size, 12, none⟩ = some (.int .i64 c.last) ∧ w'.cell? ⟨w.heap.size, 13, none⟩ = some (.int .i64 c.policy)) ∧ (w'.cell? ⟨g, k * 3, none⟩ = some (.int .i64 u.lv) ∧ w'.cell? ⟨g, k * 3 + 1, none⟩ = some (.int .i64 u.yr) ∧ w'.cell? ⟨g, k * 3 + 2, none⟩ = some (.int .i64 u.ix))) (exact FaSt.s (HS.out.call (by (repeat' (first | (with_reducible exact Below.refl _ _) | (with_reducible assumption) | (with_reducible refine Below.alloc ?_ ?_ _) | (with_reducible refine below_drewN ?_ _) | (with_reducible refine Below.drew ?_) | (with_reducible refine Below.setCell ?_ ?_ _) | (with_reducible refine Below.trans ?_ (Below.mono (by assumption) ?_)) | go_size | (simp at *; omega))))) HUu.out)
          (first | (go_at_call 22; refine (fnext_any c u _ (by omega)).mono ?_; rintro e w4 ⟨rfl, hb4⟩; rw [HN.out.1, HN.out.2]; have hz4 : wr.heap.size < w4.heap.size := by { have := hb4.size; simp at this; omega }; (first | (have k5 := BlkIs.call (blk_drew1 _ _ _ _) hb4; have k6 := BlkIs.call (blk_box2 _ _ _ _) hb4; obtain ⟨⟨s0, s1, s2⟩, t0, t1, t2⟩ := k5.three; obtain ⟨⟨r0, r1, r2⟩, _⟩ := k6.three) | (have k5 := BlkIs.call (blk_drew2 _ _ _ _) hb4; have k6 := BlkIs.call (blk_box3 _ _ _ _) hb4; obtain ⟨⟨s0, s1, s2⟩, t0, t1, t2⟩ := k5.three; obtain ⟨⟨r0, r1, r2⟩, _⟩ := k6.three) | (have k6 := BlkIs.call (blk_box1 _ _ _) hb4; obtain ⟨⟨r0, r1, r2⟩, _⟩ := k6.three) | skip)))
        all_goals
          go_simp
          go_wp2
          go_roundw
          case rel => exact ⟨k + 1, by go_num, by omega, HS.out.call (by (repeat' (first | (with_reducible exact Below.refl _ _) | (with_reducible assumption) | (with_reducible refine Below.alloc ?_ ?_ _) | (with_reducible refine below_drewN ?_ _) | (with_reducible refine Below.drew ?_) | (with_reducible refine Below.setCell ?_ ?_ _) | (with_reducible refine Below.trans ?_ (Below.mono (by assumption) ?_)) | go_size | (simp at *; omega))))⟩
          case measure => simp [intOf]; omega
      · have hkl : k + 1 = L.length := by omega
        have hBel := HS.out.2.2.2.2
        go_wp2
        go_ret
        exact ⟨rfl, by (repeat' (first | (with_reducible exact Below.refl _ _) | (with_reducible assumption) | (with_reducible refine Below.alloc ?_ ?_ _) | (with_reducible refine below_drewN ?_ _) | (with_reducible refine Below.drew ?_) | (with_reducible refine Below.setCell ?_ ?_ _) | (with_reducible refine Below.trans ?_ (Below.mono (by assumption) ?_)) | go_size | (simp at *; omega)))⟩

theorem fm_walk (c : Cal) (hn : c.name.size ≤ 9223372036854775807) (lv : Int) (s : Sp) (w : World) :
    Calls Try.prog 5 #[calV c, .int .i64 lv, spanV s] w fun e w' => e = .returned (.bool true) ∧ Below w.heap.size w w' := by
  by_cases h : meetsE c lv s = 0
  · exact fm_yes c lv s w hn h
  · exact fm_no c lv s w hn h
end Go.Proofs.Ytpngdeegdkifnaa
