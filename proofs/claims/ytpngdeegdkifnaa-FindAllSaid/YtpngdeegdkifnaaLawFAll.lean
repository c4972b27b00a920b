/- The walk of FindAll. -/
import Derived.Test.YtpngdeegdkifnaaFindK
import Derived.Test.YtpngdeegdkifnaaFShort
import Derived.Test.YtpngdeegdkifnaaLawFNext
import Derived.Deep.RegionHeld3
namespace Go.Proofs.Ytpngdeegdkifnaa
open Go.RowKit Go.Shelf Qd
set_option linter.unusedSimpArgs false
set_option linter.unusedVariables false

theorem all_11 {c : Cal} {lv f t : Int} (h : ¬ allE c lv f t = 0) : (c.okB = false ∧ allE c lv f t = 1) ∨ (c.okB = true ∧ lv < 1 ∧ allE c lv f t = 1) ∨ (c.okB = true ∧ 1 ≤ lv ∧ 5 < lv ∧ allE c lv f t = 1) ∨
    (c.okB = true ∧ 1 ≤ lv ∧ lv ≤ 5 ∧ allE c lv f t = 11 ∧ (t < f ∨ (f ≤ t ∧ f < c.first) ∨ (f ≤ t ∧ c.first ≤ f ∧ c.last < t))) := by
  unfold allE at h ⊢
  cases hk : c.okB
  · simp
  · by_cases h1 : 1 ≤ lv ∧ lv ≤ 5
    · rw [if_pos ⟨hk, h1⟩] at h
      by_cases h2 : c.first ≤ f ∧ t ≤ c.last ∧ f ≤ t
      · rw [if_pos h2] at h; omega
      · rw [if_pos ⟨rfl, h1⟩, if_neg h2]
        refine .inr (.inr (.inr ⟨rfl, h1.1, h1.2, rfl, by omega⟩))
    · rw [if_neg (fun x => h1 x.2)]
      by_cases h2 : lv < 1
      · exact .inr (.inl ⟨rfl, h2, rfl⟩)
      · exact .inr (.inr (.inl ⟨rfl, by omega, by omega, rfl⟩))

set_option maxRecDepth 100000 in
set_option maxHeartbeats 1600000 in
theorem fa_no (c : Cal) (lv f t : Int) (w : World) (hn : c.name.size ≤ 9223372036854775807) (hE : ¬ allE c lv f t = 0) :
    Calls Try.prog 4 #[calV c, .int .i64 lv, .int .i64 f, .int .i64 t] w fun e w' => e = .returned (.bool true) ∧ Below w.heap.size w w' := by
  have hE' : (allE c lv f t != 0) = true := by simpa using hE
  have HC := hide (all_11 hE)
  have HNO := hide (fun (w : World) (h : c.name.size ≤ 1000) => all_no c lv f t w h hE)
  have HO1 := hide (show c.okB = true → okE c = 0 from fun h => by simp [okE, h])
  have HO2 := hide (show c.okB = false → okE c = 1 from fun h => by simp [okE, h])
  obtain ⟨E, hEE⟩ : ∃ E, E = allE c lv f t := ⟨_, rfl⟩
  rw [← hEE] at hE' HNO HC
  clear hE hEE
  simp only [calV]
  go_enter Try.func4, Try.ntmps4
  go_wp2_with fail
  refine (live17_any _).mono ?_
  rintro e w1 ⟨rfl, hb1⟩
  have hz1 : w.heap.size < w1.heap.size := by have := hb1.size; simp at this; omega
  have HB1 := hide (show Below w.heap.size w w1 by refine Below.trans ?_ (hb1.mono (by first | omega | (simp; done) | (simp; omega))); (repeat' (first | (with_reducible exact Below.refl _ _) | (with_reducible assumption) | (with_reducible refine Below.alloc ?_ ?_ _) | (with_reducible refine below_drewN ?_ _) | (with_reducible refine Below.drew ?_) | (with_reducible refine Below.setCell ?_ ?_ _) | (with_reducible refine Below.trans ?_ (Below.mono (by assumption) ?_)) | go_size | (simp at *; omega))))
  have HQ1 := hide (calAt_below hb1 (by simp) (calAt_new w c))
  obtain ⟨q0, q1, q2, q3, q4, q5, q6, q7, q8, q9, q10, q11, q12, q13⟩ := HQ1.out
  clear hb1
  go_wp2_with fail
  refine (short_any c f t _).mono ?_
  rintro e w2 ⟨⟨b, rfl, hsh⟩, hb2⟩
  have HSH := hide hsh
  clear hsh
  have hz2 : w.heap.size < w2.heap.size := by have := hb2.size; (try simp at this); omega
  have HB2 := hide (show Below w.heap.size w w2 by have hp := HB1.out; refine Below.trans ?_ (hb2.mono (by first | omega | (simp; done) | (simp; omega))); (repeat' (first | (with_reducible exact Below.refl _ _) | (with_reducible assumption) | (with_reducible refine Below.alloc ?_ ?_ _) | (with_reducible refine below_drewN ?_ _) | (with_reducible refine Below.drew ?_) | (with_reducible refine Below.setCell ?_ ?_ _) | (with_reducible refine Below.trans ?_ (Below.mono (by assumption) ?_)) | go_size | (simp at *; omega))))
  have HQ2 := hide (show CalAt w2 w.heap.size c from calAt_below hb2 (by first | omega | (simp; done) | (simp; omega)) (by first | exact HQ1.out | exact calAt_alloc HQ1.out (by omega) _ | exact calAt_alloc (calAt_alloc HQ1.out (by omega) _) (by simp; omega) _))
  clear q0 q1 q2 q3 q4 q5 q6 q7 q8 q9 q10 q11 q12 q13
  obtain ⟨q0, q1, q2, q3, q4, q5, q6, q7, q8, q9, q10, q11, q12, q13⟩ := HQ2.out
  clear hb2
  clear q0 q1 q2 q3 q4 q5 q6 q7 q8 q9 q10 q11 q12 q13
  cases b
  · go_wp2
    go_ret
    exact ⟨rfl, HB2.out⟩
  · have hnm : c.name.size ≤ 100 := (HSH.out rfl).1
    obtain ⟨q0, q1, q2, q3, q4, q5, q6, q7, q8, q9, q10, q11, q12, q13⟩ := HQ2.out
    go_wp2_with fail
    refine (HNO.out _ (by omega)).mono ?_
    rintro e w3 ⟨rfl, hb3⟩
    have hz3 : w.heap.size < w3.heap.size := by have := hb3.size; (try simp at this); omega
    have HB3 := hide (show Below w.heap.size w w3 by have hp := HB2.out; refine Below.trans ?_ (hb3.mono (by first | omega | (simp; done) | (simp; omega))); (repeat' (first | (with_reducible exact Below.refl _ _) | (with_reducible assumption) | (with_reducible refine Below.alloc ?_ ?_ _) | (with_reducible refine below_drewN ?_ _) | (with_reducible refine Below.drew ?_) | (with_reducible refine Below.setCell ?_ ?_ _) | (with_reducible refine Below.trans ?_ (Below.mono (by assumption) ?_)) | go_size | (simp at *; omega))))
    have HQ3 := hide (show CalAt w3 w.heap.size c from calAt_below hb3 (by first | omega | (simp; done) | (simp; omega)) (by first | exact HQ2.out | exact calAt_alloc HQ2.out (by omega) _ | exact calAt_alloc (calAt_alloc HQ2.out (by omega) _) (by simp; omega) _))
    clear q0 q1 q2 q3 q4 q5 q6 q7 q8 q9 q10 q11 q12 q13
    obtain ⟨q0, q1, q2, q3, q4, q5, q6, q7, q8, q9, q10, q11, q12, q13⟩ := HQ3.out
    clear hb3
    go_wp2_with fail
    refine (check_any c _ (by omega)).mono ?_
    rintro e w4 ⟨rfl, hb4⟩
    have hz4 : w.heap.size < w4.heap.size := by have := hb4.size; (try simp at this); omega
    have HB4 := hide (show Below w.heap.size w w4 by have hp := HB3.out; refine Below.trans ?_ (hb4.mono (by first | omega | (simp; done) | (simp; omega))); (repeat' (first | (with_reducible exact Below.refl _ _) | (with_reducible assumption) | (with_reducible refine Below.alloc ?_ ?_ _) | (with_reducible refine below_drewN ?_ _) | (with_reducible refine Below.drew ?_) | (with_reducible refine Below.setCell ?_ ?_ _) | (with_reducible refine Below.trans ?_ (Below.mono (by assumption) ?_)) | go_size | (simp at *; omega))))
    have HQ4 := hide (show CalAt w4 w.heap.size c from calAt_below hb4 (by first | omega | (simp; done) | (simp; omega)) (by first | exact HQ3.out | exact calAt_alloc HQ3.out (by omega) _ | exact calAt_alloc (calAt_alloc HQ3.out (by omega) _) (by simp; omega) _))
    clear q0 q1 q2 q3 q4 q5 q6 q7 q8 q9 q10 q11 q12 q13
    obtain ⟨q0, q1, q2, q3, q4, q5, q6, q7, q8, q9, q10, q11, q12, q13⟩ := HQ4.out
    clear hb4
    have hBel := HB4.out
    rcases HC.out with ⟨hk, rfl⟩ | ⟨hk, h1, rfl⟩ | ⟨hk, h1, h2, rfl⟩ | ⟨hk, h1, h2, rfl, h3 | ⟨h3, h4⟩ | ⟨h3, h4, h5⟩⟩
    · rw [HO2.out hk]
      go_wp2
      all_goals first
        | (exfalso; omega)
        | (go_ret; exact ⟨rfl, by (repeat' (first | (with_reducible exact Below.refl _ _) | (with_reducible assumption) | (with_reducible refine Below.alloc ?_ ?_ _) | (with_reducible refine below_drewN ?_ _) | (with_reducible refine Below.drew ?_) | (with_reducible refine Below.setCell ?_ ?_ _) | (with_reducible refine Below.trans ?_ (Below.mono (by assumption) ?_)) | go_size | (simp at *; omega)))⟩)
    · rw [HO1.out hk]
      go_wp2
      all_goals first
        | (exfalso; omega)
        | (go_ret; exact ⟨rfl, by (repeat' (first | (with_reducible exact Below.refl _ _) | (with_reducible assumption) | (with_reducible refine Below.alloc ?_ ?_ _) | (with_reducible refine below_drewN ?_ _) | (with_reducible refine Below.drew ?_) | (with_reducible refine Below.setCell ?_ ?_ _) | (with_reducible refine Below.trans ?_ (Below.mono (by assumption) ?_)) | go_size | (simp at *; omega)))⟩)
    · rw [HO1.out hk]
      go_wp2
      all_goals first
        | (exfalso; omega)
        | (go_ret; exact ⟨rfl, by (repeat' (first | (with_reducible exact Below.refl _ _) | (with_reducible assumption) | (with_reducible refine Below.alloc ?_ ?_ _) | (with_reducible refine below_drewN ?_ _) | (with_reducible refine Below.drew ?_) | (with_reducible refine Below.setCell ?_ ?_ _) | (with_reducible refine Below.trans ?_ (Below.mono (by assumption) ?_)) | go_size | (simp at *; omega)))⟩)
    · rw [HO1.out hk]
      go_wp2
      all_goals first
        | (exfalso; omega)
        | (go_ret; exact ⟨rfl, by (repeat' (first | (with_reducible exact Below.refl _ _) | (with_reducible assumption) | (with_reducible refine Below.alloc ?_ ?_ _) | (with_reducible refine below_drewN ?_ _) | (with_reducible refine Below.drew ?_) | (with_reducible refine Below.setCell ?_ ?_ _) | (with_reducible refine Below.trans ?_ (Below.mono (by assumption) ?_)) | go_size | (simp at *; omega)))⟩)
    · rw [HO1.out hk]
      go_wp2
      all_goals first
        | (exfalso; omega)
        | (go_ret; exact ⟨rfl, by (repeat' (first | (with_reducible exact Below.refl _ _) | (with_reducible assumption) | (with_reducible refine Below.alloc ?_ ?_ _) | (with_reducible refine below_drewN ?_ _) | (with_reducible refine Below.drew ?_) | (with_reducible refine Below.setCell ?_ ?_ _) | (with_reducible refine Below.trans ?_ (Below.mono (by assumption) ?_)) | go_size | (simp at *; omega)))⟩)
    · rw [HO1.out hk]
      go_wp2
      all_goals first
        | (exfalso; omega)
        | (go_ret; exact ⟨rfl, by (repeat' (first | (with_reducible exact Below.refl _ _) | (with_reducible assumption) | (with_reducible refine Below.alloc ?_ ?_ _) | (with_reducible refine below_drewN ?_ _) | (with_reducible refine Below.drew ?_) | (with_reducible refine Below.setCell ?_ ?_ _) | (with_reducible refine Below.trans ?_ (Below.mono (by assumption) ?_)) | go_size | (simp at *; omega)))⟩)

/-- The frame of the law behind the call: the calendar, and the units. -/
def FaSt (c : Cal) (L : List Un) (g cap B : Nat) (w0 w : World) : Prop := CalAt w B c ∧ B < w.heap.size ∧ UnsAt w g cap L ∧ g < w.heap.size ∧ Below B w0 w
theorem FaSt.call {c : Cal} {L : List Un} {g cap B : Nat} {w0 w w' : World} (h : FaSt c L g cap B w0 w) (hb : Below w.heap.size w w') : FaSt c L g cap B w0 w' := ⟨calAt_below hb h.2.1 h.1, Nat.lt_of_lt_of_le h.2.1 hb.size, h.2.2.1.call hb, Nat.lt_of_lt_of_le h.2.2.2.1 hb.size, h.2.2.2.2.trans (hb.mono (Nat.le_of_lt h.2.1))⟩
theorem FaSt.alloc {c : Cal} {L : List Un} {g cap B : Nat} {w0 w : World} (h : FaSt c L g cap B w0 w) (o : Obj) : FaSt c L g cap B w0 (w.alloc o) := h.call ((Below.refl _ _).alloc (Nat.le_refl _) _)
theorem FaSt.drew {c : Cal} {L : List Un} {g cap B : Nat} {w0 w : World} (h : FaSt c L g cap B w0 w) : FaSt c L g cap B w0 w.drew := h.call ((Below.refl _ _).drew)

theorem blk_drew1 (w : World) (o : Obj) (cs : Array Value) (t : TypeId) : BlkIs ((w.alloc o).drew.alloc (.cells cs t)) (w.heap.size + 1) cs t := by
  have h := BlkIs.new ((w.alloc o).drew) cs t
  have e : ((w.alloc o).drew).heap.size = w.heap.size + 1 := by simp
  rw [e] at h
  exact h
theorem blk_drew2 (w : World) (o : Obj) (cs : Array Value) (t : TypeId) : BlkIs (((w.alloc o).alloc (.cells cs t)).drew) (w.heap.size + 1) cs t := by
  have h := BlkIs.new (w.alloc o) cs t
  have e : (w.alloc o).heap.size = w.heap.size + 1 := by simp
  rw [e] at h
  exact h
theorem blk_box1 (w : World) (cs : Array Value) (t : TypeId) : BlkIs ((w.alloc (.cells cs t)).drew) w.heap.size cs t := BlkIs.new w cs t
theorem blk_box2 (w : World) (o : Obj) (cs : Array Value) (t : TypeId) : BlkIs (((w.alloc (.cells cs t)).drew).alloc o) w.heap.size cs t := BlkIs.alloc (blk_box1 w cs t) o
theorem blk_box3 (w : World) (o : Obj) (cs : Array Value) (t : TypeId) : BlkIs (((w.alloc (.cells cs t)).alloc o).drew) w.heap.size cs t := BlkIs.alloc (BlkIs.new w cs t) o
theorem FaSt.s {c : Cal} {L : List Un} {g cap B : Nat} {w0 w : World} (h : FaSt c L g cap B w0 w) {k : Nat} {u : Un} (hu : L[k]? = some u) : CalAt w B c ∧ (w.cell? ⟨g, k * 3, none⟩ = some (.int .i64 u.lv) ∧ w.cell? ⟨g, k * 3 + 1, none⟩ = some (.int .i64 u.yr) ∧ w.cell? ⟨g, k * 3 + 2, none⟩ = some (.int .i64 u.ix)) := ⟨h.1, UnsAt.cell h.2.2.1 hu⟩

set_option maxRecDepth 100000 in
set_option maxHeartbeats 6400000 in
theorem fa_yes (c : Cal) (lv f t : Int) (w : World) (hn : c.name.size ≤ 9223372036854775807) (hE : allE c lv f t = 0) :
    Calls Try.prog 4 #[calV c, .int .i64 lv, .int .i64 f, .int .i64 t] w fun e w' => e = .returned (.bool true) ∧ Below w.heap.size w w' := by
  obtain ⟨hk, hl, hf, ht, hft⟩ := all_ok hE
  have hyb : -10000 ≤ f ∧ t ≤ 20000 := by
    have h1 := ok_years hk
    omega
  obtain ⟨ny, hny⟩ : ∃ ny : Nat, f + (ny : Int) = t + 1 := ⟨(t + 1 - f).toNat, by omega⟩
  have hok : c.Ok := by simpa [Cal.okB] using hk
  have hFE : ∀ a : Nat, a < ny → frameE c lv (f + a) = 0 := fun a ha => frame_is hok hl.1 hl.2 (by omega) (by omega)
  obtain ⟨k1, k2, k3⟩ := all_facts c lv f ny (by omega) hFE
  have hlen := all_len c lv f ny hFE
  rw [show f + (ny : Int) - 1 = t by omega] at k3
  have HK := hide (And.intro k1 (And.intro k2 k3))
  have HCT := hide (show countV c lv t = (cntL c t lv : Int) ∧ frameE c lv t = 0 from ⟨count_yes (by have := hFE (ny - 1) (by omega); rwa [show f + ((ny - 1 : Nat) : Int) = t by omega] at this), by have := hFE (ny - 1) (by omega); rwa [show f + ((ny - 1 : Nat) : Int) = t by omega] at this⟩)
  have HYES := hide (fun (w : World) (h : c.name.size ≤ 1000) => all_yes c lv f t w h ny hny hk hl hf ht hft)
  obtain ⟨L, hL⟩ : ∃ L, L = allUp c lv f ny := ⟨_, rfl⟩
  rw [← hL] at HK HYES hlen
  have HLF := hide (And.intro hyb (And.intro hf (And.intro ht hft)))
  have HLEN := hide hlen
  have HNY := hide hny
  clear k1 k2 k3 hL hFE hok hk hE hlen hny hl hf ht hft
  simp only [calV]
  go_enter Try.func4, Try.ntmps4
  go_wp2_with fail
  refine (live17_any _).mono ?_
  rintro e w1 ⟨rfl, hb1⟩
  have hz1 : w.heap.size < w1.heap.size := by have := hb1.size; simp at this; omega
  have HB1 := hide (show Below w.heap.size w w1 by refine Below.trans ?_ (hb1.mono (by first | omega | (simp; done) | (simp; omega))); (repeat' (first | (with_reducible exact Below.refl _ _) | (with_reducible assumption) | (with_reducible refine Below.alloc ?_ ?_ _) | (with_reducible refine below_drewN ?_ _) | (with_reducible refine Below.drew ?_) | (with_reducible refine Below.setCell ?_ ?_ _) | (with_reducible refine Below.trans ?_ (Below.mono (by assumption) ?_)) | go_size | (simp at *; omega))))
  have HQ1 := hide (calAt_below hb1 (by simp) (calAt_new w c))
  obtain ⟨q0, q1, q2, q3, q4, q5, q6, q7, q8, q9, q10, q11, q12, q13⟩ := HQ1.out
  clear hb1
  go_wp2_with fail
  refine (short_any c f t _).mono ?_
  rintro e w2 ⟨⟨b, rfl, hsh⟩, hb2⟩
  have HSH := hide hsh
  clear hsh
  have hz2 : w.heap.size < w2.heap.size := by have := hb2.size; (try simp at this); omega
  have HB2 := hide (show Below w.heap.size w w2 by have hp := HB1.out; refine Below.trans ?_ (hb2.mono (by first | omega | (simp; done) | (simp; omega))); (repeat' (first | (with_reducible exact Below.refl _ _) | (with_reducible assumption) | (with_reducible refine Below.alloc ?_ ?_ _) | (with_reducible refine below_drewN ?_ _) | (with_reducible refine Below.drew ?_) | (with_reducible refine Below.setCell ?_ ?_ _) | (with_reducible refine Below.trans ?_ (Below.mono (by assumption) ?_)) | go_size | (simp at *; omega))))
  have HQ2 := hide (show CalAt w2 w.heap.size c from calAt_below hb2 (by first | omega | (simp; done) | (simp; omega)) (by first | exact HQ1.out | exact calAt_alloc HQ1.out (by omega) _ | exact calAt_alloc (calAt_alloc HQ1.out (by omega) _) (by simp; omega) _))
  clear q0 q1 q2 q3 q4 q5 q6 q7 q8 q9 q10 q11 q12 q13
  obtain ⟨q0, q1, q2, q3, q4, q5, q6, q7, q8, q9, q10, q11, q12, q13⟩ := HQ2.out
  clear hb2
  clear q0 q1 q2 q3 q4 q5 q6 q7 q8 q9 q10 q11 q12 q13
  cases b
  · go_wp2
    go_ret
    exact ⟨rfl, HB2.out⟩
  · have hnm : c.name.size ≤ 100 := (HSH.out rfl).1
    have hsix : L.length ≤ 420 ∧ 0 < L.length := by
      have h1 := HLF.out
      have h2 := (HSH.out rfl).2 (by omega) h1.2.2.2 (by omega) h1.2.1 h1.2.2.1
      have h3 := HLEN.out
      have h4 := HNY.out
      omega
    obtain ⟨q0, q1, q2, q3, q4, q5, q6, q7, q8, q9, q10, q11, q12, q13⟩ := HQ2.out
    go_wp2_with fail
    refine (HYES.out _ (by omega)).mono ?_
    rintro e w3 ⟨g, cap, rfl, hun, hg, hb3⟩
    have hgl := hun.lt hsix.2
    have HS3 := hide (show FaSt c L g cap w.heap.size w w3 from ⟨calAt_below hb3 (by omega) HQ2.out, by have := hb3.size; omega, hun, hgl.1, HB2.out.trans (hb3.mono (by omega))⟩)
    clear hun hb3 hg
    clear q0 q1 q2 q3 q4 q5 q6 q7 q8 q9 q10 q11 q12 q13
    obtain ⟨q0, q1, q2, q3, q4, q5, q6, q7, q8, q9, q10, q11, q12, q13⟩ := HS3.out.1
    have hc0 := UnsAt.cell HS3.out.2.2.1 HK.out.2.1
    simp only [Nat.zero_mul, Nat.zero_add] at hc0
    obtain ⟨x0, x1, x2⟩ := hc0
    have hub : unB lv f 1 lv f 1 = true := unB_same _ _ _
    go_wp2_with fail
    all_goals first
      | (exfalso; omega)
      | skip
    · have hL1 : L.length = 1 := by omega
      go_loopw [96] (fun s wr => ∃ k : Nat, s = .int .i64 k ∧ k + 1 ≤ L.length ∧ FaSt c L g cap w.heap.size w wr) (fun s _ => (500 - intOf s).toNat)
      case atStart => exact ⟨0, rfl, by omega, HS3.out⟩
      case round =>
        obtain ⟨k, rfl, hk, hS⟩ := hrel
        have HS := hide hS
        clear hS
        clear q0 q1 q2 q3 q4 q5 q6 q7 q8 q9 q10 q11 q12 q13
        obtain ⟨q0, q1, q2, q3, q4, q5, q6, q7, q8, q9, q10, q11, q12, q13⟩ := HS.out.1
        have hB2 := HS.out.2.1
        have hkl : k + 1 = L.length := by omega
        have hc1 := UnsAt.cell HS.out.2.2.1 HK.out.2.2
        simp only at hc1
        rw [hL1] at hc1
        simp only [Nat.sub_self, Nat.zero_mul, Nat.zero_add] at hc1
        obtain ⟨e0, e1, e2⟩ := hc1
        have hub2 := unB_same lv t (cntL c t lv : Int)
        go_wp2_with fail
        refine (count_any c lv t _ (by omega)).mono ?_
        rintro e w5 ⟨rfl, hb5⟩
        rw [HCT.out.1, HCT.out.2]
        obtain ⟨g0, g1, g2⟩ := ((BlkIs.new wr #[.int .i64 lv, .int .i64 t, .int .i64 (cntL c t lv : Int)] 31).call hb5).three.1
        have hBel := HS.out.2.2.2.2
        go_wp2
        go_ret
        exact ⟨rfl, by (repeat' (first | (with_reducible exact Below.refl _ _) | (with_reducible assumption) | (with_reducible refine Below.alloc ?_ ?_ _) | (with_reducible refine below_drewN ?_ _) | (with_reducible refine Below.drew ?_) | (with_reducible refine Below.setCell ?_ ?_ _) | (with_reducible refine Below.trans ?_ (Below.mono (by assumption) ?_)) | go_size | (simp at *; omega)))⟩
    · go_loopw [96] (fun s wr => ∃ k : Nat, s = .int .i64 k ∧ k + 1 ≤ L.length ∧ FaSt c L g cap w.heap.size w wr) (fun s _ => (500 - intOf s).toNat)
      case atStart => exact ⟨0, rfl, by omega, HS3.out⟩
      case round =>
        obtain ⟨k, rfl, hk, hS⟩ := hrel
        have HS := hide hS
        clear hS
        clear q0 q1 q2 q3 q4 q5 q6 q7 q8 q9 q10 q11 q12 q13
        obtain ⟨q0, q1, q2, q3, q4, q5, q6, q7, q8, q9, q10, q11, q12, q13⟩ := HS.out.1
        have hB2 := HS.out.2.1
        by_cases hlt : k + 1 < L.length
        · obtain ⟨u, hu⟩ : ∃ u, L[k]? = some u := ⟨_, List.getElem?_eq_getElem (by omega)⟩
          obtain ⟨v, hv⟩ : ∃ v, L[k + 1]? = some v := ⟨_, List.getElem?_eq_getElem hlt⟩
          have HN := hide (HK.out.1 k u v hu hv)
          have HUu := hide hu
          obtain ⟨a0, a1, a2⟩ := UnsAt.cell HS.out.2.2.1 hu
          obtain ⟨b0, b1, b2⟩ := UnsAt.cell HS.out.2.2.1 hv
          rw [show (k + 1) * 3 = 3 + k * 3 by omega] at b0 b1 b2
          clear hu hv
          have hgl2 := HS.out.2.2.2.1
          have hi1 : (0 : Int) ≤ (k : Int) := by omega
          have hi2 : (k : Int) ≤ (L.length : Int) := by omega
          have hi3 : (k : Int) < (L.length : Int) := by omega
          have hub3 := unB_same v.lv v.yr v.ix
          go_wp2_with fail
          go_region_held3 (fun w' => (w'.cell? ⟨w.heap.size, 0, none⟩ = some (.string c.name) ∧ w'.cell? ⟨w.heap.size, 1, none⟩ = some (.int .i64 c.kind) ∧ w'.cell? ⟨w.heap.size, 2, none⟩ = some (.int .i64 c.day) ∧ w'.cell? ⟨w.heap.size, 3, none⟩ = some (.int .i64 c.month) ∧ w'.cell? ⟨w.heap.size, 4, none⟩ = some (.int .i64 c.shift) ∧ w'.cell? ⟨w.heap.size, 5, none⟩ = some (.int .i64 c.shape) ∧ w'.cell? ⟨w.heap.size, 6, none⟩ = some (.int .i64 c.p0) ∧ w'.cell? ⟨w.heap.size, 7, none⟩ = some (.int .i64 c.p1) ∧ w'.cell? ⟨w.heap.size, 8, none⟩ = some (.int .i64 c.p2) ∧ w'.cell? ⟨w.heap.size, 9, none⟩ = some (.int .i64 c.cycle) ∧ w'.cell? ⟨w.heap.size, 10, none⟩ = some (.int .i64 c.extra) ∧ w'.cell? ⟨w.heap.size, 11, none⟩ = some (.int .i64 c.first) ∧ w'.cell? ⟨w.heap.size, 12, none⟩ = some (.int .i64 c.last) ∧ w'.cell? ⟨w.heap.size, 13, none⟩ = some (.int .i64 c.policy)) ∧ (w'.cell? ⟨g, k * 3, none⟩ = some (.int .i64 u.lv) ∧ w'.cell? ⟨g, k * 3 + 1, none⟩ = some (.int .i64 u.yr) ∧ w'.cell? ⟨g, k * 3 + 2, none⟩ = some (.int .i64 u.ix))) (exact FaSt.s (HS.out.call (by (repeat' (first | (with_reducible exact Below.refl _ _) | (with_reducible assumption) | (with_reducible refine Below.alloc ?_ ?_ _) | (with_reducible refine below_drewN ?_ _) | (with_reducible refine Below.drew ?_) | (with_reducible refine Below.setCell ?_ ?_ _) | (with_reducible refine Below.trans ?_ (Below.mono (by assumption) ?_)) | go_size | (simp at *; omega))))) HUu.out)
            (first | (go_at_call 22; refine (fnext_any c u _ (by omega)).mono ?_; rintro e w4 ⟨rfl, hb4⟩; rw [HN.out.1, HN.out.2]; have hz4 : wr.heap.size < w4.heap.size := by { have := hb4.size; simp at this; omega }; (first | (have k5 := BlkIs.call (blk_drew1 _ _ _ _) hb4; have k6 := BlkIs.call (blk_box2 _ _ _ _) hb4; obtain ⟨⟨s0, s1, s2⟩, t0, t1, t2⟩ := k5.three; obtain ⟨⟨r0, r1, r2⟩, _⟩ := k6.three) | (have k5 := BlkIs.call (blk_drew2 _ _ _ _) hb4; have k6 := BlkIs.call (blk_box3 _ _ _ _) hb4; obtain ⟨⟨s0, s1, s2⟩, t0, t1, t2⟩ := k5.three; obtain ⟨⟨r0, r1, r2⟩, _⟩ := k6.three) | (have k6 := BlkIs.call (blk_box1 _ _ _) hb4; obtain ⟨⟨r0, r1, r2⟩, _⟩ := k6.three) | skip)))
          all_goals
            go_simp
            go_wp2
            go_roundw
            case rel => exact ⟨k + 1, by go_num, by omega, HS.out.call (by (repeat' (first | (with_reducible exact Below.refl _ _) | (with_reducible assumption) | (with_reducible refine Below.alloc ?_ ?_ _) | (with_reducible refine below_drewN ?_ _) | (with_reducible refine Below.drew ?_) | (with_reducible refine Below.setCell ?_ ?_ _) | (with_reducible refine Below.trans ?_ (Below.mono (by assumption) ?_)) | go_size | (simp at *; omega))))⟩
            case measure => simp [intOf]; omega
        · have hkl : k + 1 = L.length := by omega
          have hc1 := UnsAt.cell HS.out.2.2.1 HK.out.2.2
          simp only at hc1
          obtain ⟨e0, e1, e2⟩ := hc1
          have hub2 := unB_same lv t (cntL c t lv : Int)
          go_wp2_with fail
          refine (count_any c lv t _ (by omega)).mono ?_
          rintro e w5 ⟨rfl, hb5⟩
          rw [HCT.out.1, HCT.out.2]
          obtain ⟨g0, g1, g2⟩ := ((BlkIs.new wr #[.int .i64 lv, .int .i64 t, .int .i64 (cntL c t lv : Int)] 31).call hb5).three.1
          have hBel := HS.out.2.2.2.2
          go_wp2
          go_ret
          exact ⟨rfl, by (repeat' (first | (with_reducible exact Below.refl _ _) | (with_reducible assumption) | (with_reducible refine Below.alloc ?_ ?_ _) | (with_reducible refine below_drewN ?_ _) | (with_reducible refine Below.drew ?_) | (with_reducible refine Below.setCell ?_ ?_ _) | (with_reducible refine Below.trans ?_ (Below.mono (by assumption) ?_)) | go_size | (simp at *; omega)))⟩

theorem fa_walk (c : Cal) (hn : c.name.size ≤ 9223372036854775807) (lv f t : Int) (w : World) :
    Calls Try.prog 4 #[calV c, .int .i64 lv, .int .i64 f, .int .i64 t] w fun e w' => e = .returned (.bool true) ∧ Below w.heap.size w w' := by
  by_cases h : allE c lv f t = 0
  · exact fa_yes c lv f t w hn h
  · exact fa_no c lv f t w hn h
end Go.Proofs.Ytpngdeegdkifnaa
