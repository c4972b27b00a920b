/- Contracts of find.All and find.Meets on what they refuse. -/
import Derived.Test.YtpngdeegdkifnaaFindF
import Derived.Test.YtpngdeegdkifnaaFindH
namespace Go.Proofs.Ytpngdeegdkifnaa
open Go.RowKit Go.Shelf Qd
set_option linter.unusedSimpArgs false
set_option linter.unusedVariables false

theorem BlkIs.fz {w : World} {B : Nat} {cs : Array Value} {t : TypeId} (h : BlkIs w B cs t) (i : Nat) : w.frozen? ⟨B, i, none⟩ = false := by simp [World.frozen?, show w.heap[B]? = _ from h]

/-- What lies in the frame of find.Meets: the calendar, the span, both results. -/
def MtSt (c : Cal) (s : Sp) (B : Nat) (w : World) : Prop := BlkIs w B (calCs c) 24 ∧ BlkIs w (B + 1) #[.int .i64 s.a, .int .i64 s.b] 35 ∧ BlkIs w (B + 2) #[.slice none 0 0] 40 ∧ BlkIs w (B + 3) #[.int .i64 0] 26
theorem MtSt.call {c : Cal} {s : Sp} {B : Nat} {w w' : World} (h : MtSt c s B w) (hb : Below w.heap.size w w') : MtSt c s B w' := ⟨h.1.call hb, h.2.1.call hb, h.2.2.1.call hb, h.2.2.2.call hb⟩
theorem MtSt.alloc {c : Cal} {s : Sp} {B : Nat} {w : World} (h : MtSt c s B w) (o : Obj) : MtSt c s B (w.alloc o) := ⟨h.1.alloc o, h.2.1.alloc o, h.2.2.1.alloc o, h.2.2.2.alloc o⟩
theorem MtSt.lt {c : Cal} {s : Sp} {B : Nat} {w : World} (h : MtSt c s B w) : B + 3 < w.heap.size := h.2.2.2.lt
theorem MtSt.sp {c : Cal} {s : Sp} {B : Nat} {w : World} (h : MtSt c s B w) : w.cell? ⟨B + 1, 0, none⟩ = some (.int .i64 s.a) ∧ w.cell? ⟨B + 1, 1, none⟩ = some (.int .i64 s.b) := ⟨h.2.1.cell 0, h.2.1.cell 1⟩
theorem MtSt.res {c : Cal} {s : Sp} {B : Nat} {w : World} (h : MtSt c s B w) : (w.cell? ⟨B + 2, 0, none⟩ = some (.slice none 0 0) ∧ w.cell? ⟨B + 3, 0, none⟩ = some (.int .i64 0)) ∧ w.frozen? ⟨B + 2, 0, none⟩ = false ∧ w.frozen? ⟨B + 3, 0, none⟩ = false := ⟨⟨h.2.2.1.cell 0, h.2.2.2.cell 0⟩, h.2.2.1.fz 0, h.2.2.2.fz 0⟩
theorem mtSt_new (c : Cal) (s : Sp) (w : World) : MtSt c s w.heap.size ((((w.alloc (.cells (calCs c) 24)).alloc (.cells #[.int .i64 s.a, .int .i64 s.b] 35)).alloc (.cells #[.slice none 0 0] 40)).alloc (.cells #[.int .i64 0] 26)) := by
  refine ⟨(((BlkIs.new w _ _).alloc _).alloc _).alloc _, ?_, ?_, ?_⟩
  · have := ((BlkIs.new (w.alloc (.cells (calCs c) 24)) #[.int .i64 s.a, .int .i64 s.b] 35).alloc (.cells #[.slice none 0 0] 40)).alloc (.cells #[.int .i64 0] 26)
    simpa using this
  · have := (BlkIs.new ((w.alloc (.cells (calCs c) 24)).alloc (.cells #[.int .i64 s.a, .int .i64 s.b] 35)) #[.slice none 0 0] 40).alloc (.cells #[.int .i64 0] 26)
    simpa using this
  · have := BlkIs.new (((w.alloc (.cells (calCs c) 24)).alloc (.cells #[.int .i64 s.a, .int .i64 s.b] 35)).alloc (.cells #[.slice none 0 0] 40)) #[.int .i64 0] 26
    simpa using this

theorem MtSt.fin {c : Cal} {s : Sp} {B : Nat} {w : World} (h : MtSt c s B w) (v : Value) (e : Int) : BlkIs ((w.setCell ⟨B + 1 + 1, 0, none⟩ v).setCell ⟨B + 1 + 1 + 1, 0, none⟩ (.int .i64 e)) (B + 1 + 1) #[v] 40 ∧ BlkIs ((w.setCell ⟨B + 1 + 1, 0, none⟩ v).setCell ⟨B + 1 + 1 + 1, 0, none⟩ (.int .i64 e)) (B + 1 + 1 + 1) #[.int .i64 e] 26 :=
  ⟨(h.2.2.1.set0 v).far (p := ⟨B + 1 + 1 + 1, 0, none⟩) (by simp) _, (h.2.2.2.far (p := ⟨B + 1 + 1, 0, none⟩) (by simp) v).set0 _⟩
theorem res_meetsV {tmps : Array Value} {W : World} {B1 B2 : Nat} {v : Value} {e : Int} (h8 : tmps[6]? = some (.pointer (some ⟨B1, 0, none⟩))) (h9 : tmps[7]? = some (.pointer (some ⟨B2, 0, none⟩)))
    (g1 : BlkIs W B1 #[v] 40) (g2 : BlkIs W B2 #[.int .i64 e] 26) :
    (results Try.f25 tmps).run Try.prog W = .ok (.tuple #[v, .int .i64 e]) W := by
  have c0 := g1.cell 0
  have c1 := g2.cell 0
  simp at c0 c1
  simp [results, Try.results25, go_sem, h8, h9, c0, c1]

set_option maxRecDepth 100000 in
set_option maxHeartbeats 1600000 in
theorem meets_cal (c : Cal) (lv : Int) (s : Sp) (w : World) (hn : c.name.size ≤ 1000) (hk : c.okB = false) :
    Calls Try.prog 25 #[calV c, .int .i64 lv, spanV s] w fun e w' => e = .returned (.tuple #[.slice none 0 0, .int .i64 1]) ∧ Below w.heap.size w w' := by
  have HO := hide (show okE c = 1 by simp [okE, hk])
  clear hk
  simp only [calV, spanV]
  go_enter Try.func25, Try.ntmps25
  go_wp2_with fail
  refine (check_any c _ hn).mono ?_
  rintro e w1 ⟨rfl, hb1⟩
  rw [HO.out]
  have HM1 := hide ((mtSt_new c s w).call (by exact hb1))
  have HB1 := hide (show Below w.heap.size w w1 by (repeat' (first | (with_reducible exact Below.refl _ _) | (with_reducible assumption) | (with_reducible refine Below.alloc ?_ ?_ _) | (with_reducible refine below_drewN ?_ _) | (with_reducible refine Below.drew ?_) | (with_reducible refine Below.setCell ?_ ?_ _) | (with_reducible refine Below.trans ?_ (Below.mono (by assumption) ?_)) | go_size | (simp at *; omega))))
  clear hb1
  obtain ⟨q0, q1, q2, q3, q4, q5, q6, q7, q8, q9, q10, q11, q12, q13⟩ := HM1.out.1.cal
  obtain ⟨p0, p1⟩ := HM1.out.sp
  obtain ⟨⟨r0, r1⟩, f0, f1⟩ := HM1.out.res
  have hsz := HM1.out.lt
  have hz0 : w.heap.size < w1.heap.size := by omega
  have hz1 : w.heap.size + 1 < w1.heap.size := by omega
  have hz2 : w.heap.size + 1 + 1 < w1.heap.size := by omega
  have hz3 : w.heap.size + 1 + 1 + 1 < w1.heap.size := by omega
  go_wp2
  exact bodyPost_ret (v := .tuple #[.slice none 0 0, .int .i64 1]) (res_meetsV rfl rfl ((HM1.out.fin (.slice none 0 0) 1).1) ((HM1.out.fin (.slice none 0 0) 1).2)) rfl ⟨rfl, by have hB := HB1.out; exact ((hB.setCell (by first | (simp; done) | (simp; omega)) _).setCell (by first | (simp; done) | (simp; omega)) _)⟩

set_option maxRecDepth 100000 in
set_option maxHeartbeats 1600000 in
theorem meets_lv (c : Cal) (lv : Int) (s : Sp) (w : World) (hn : c.name.size ≤ 1000) (hk : c.okB = true) (hl : ¬ (1 ≤ lv ∧ lv ≤ 5)) :
    Calls Try.prog 25 #[calV c, .int .i64 lv, spanV s] w fun e w' => e = .returned (.tuple #[.slice none 0 0, .int .i64 1]) ∧ Below w.heap.size w w' := by
  have hlb : decide (1 ≤ lv ∧ lv ≤ 5) = false := by simpa using hl
  clear hl
  have HO := hide (show okE c = 0 by simp [okE, hk])
  clear hk
  simp only [calV, spanV]
  go_enter Try.func25, Try.ntmps25
  go_wp2_with fail
  refine (check_any c _ hn).mono ?_
  rintro e w1 ⟨rfl, hb1⟩
  rw [HO.out]
  have HM1 := hide ((mtSt_new c s w).call (by exact hb1))
  have HB1 := hide (show Below w.heap.size w w1 by (repeat' (first | (with_reducible exact Below.refl _ _) | (with_reducible assumption) | (with_reducible refine Below.alloc ?_ ?_ _) | (with_reducible refine below_drewN ?_ _) | (with_reducible refine Below.drew ?_) | (with_reducible refine Below.setCell ?_ ?_ _) | (with_reducible refine Below.trans ?_ (Below.mono (by assumption) ?_)) | go_size | (simp at *; omega))))
  clear hb1
  obtain ⟨q0, q1, q2, q3, q4, q5, q6, q7, q8, q9, q10, q11, q12, q13⟩ := HM1.out.1.cal
  obtain ⟨p0, p1⟩ := HM1.out.sp
  obtain ⟨⟨r0, r1⟩, f0, f1⟩ := HM1.out.res
  have hsz := HM1.out.lt
  have hz0 : w.heap.size < w1.heap.size := by omega
  have hz1 : w.heap.size + 1 < w1.heap.size := by omega
  have hz2 : w.heap.size + 1 + 1 < w1.heap.size := by omega
  have hz3 : w.heap.size + 1 + 1 + 1 < w1.heap.size := by omega
  go_wp2_with (go_at_call 38; refine (levelled_any _ _).mono ?_; rintro e w' ⟨rfl, rfl⟩; rw [hlb])
  exact bodyPost_ret (v := .tuple #[.slice none 0 0, .int .i64 1]) (res_meetsV rfl rfl ((HM1.out.fin (.slice none 0 0) 1).1) ((HM1.out.fin (.slice none 0 0) 1).2)) rfl ⟨rfl, by have hB := HB1.out; exact ((hB.setCell (by first | (simp; done) | (simp; omega)) _).setCell (by first | (simp; done) | (simp; omega)) _)⟩

set_option maxRecDepth 100000 in
set_option maxHeartbeats 1600000 in
theorem meets_arg (c : Cal) (lv : Int) (s : Sp) (w : World) (hn : c.name.size ≤ 1000) (hk : c.okB = true) (hl : 1 ≤ lv ∧ lv ≤ 5) (hs : s.b < s.a) :
    Calls Try.prog 25 #[calV c, .int .i64 lv, spanV s] w fun e w' => e = .returned (.tuple #[.slice none 0 0, .int .i64 1]) ∧ Below w.heap.size w w' := by
  have hlb : decide (1 ≤ lv ∧ lv ≤ 5) = true := by simpa using hl
  clear hl
  have HO := hide (show okE c = 0 by simp [okE, hk])
  clear hk
  simp only [calV, spanV]
  go_enter Try.func25, Try.ntmps25
  go_wp2_with fail
  refine (check_any c _ hn).mono ?_
  rintro e w1 ⟨rfl, hb1⟩
  rw [HO.out]
  have HM1 := hide ((mtSt_new c s w).call (by exact hb1))
  have HB1 := hide (show Below w.heap.size w w1 by (repeat' (first | (with_reducible exact Below.refl _ _) | (with_reducible assumption) | (with_reducible refine Below.alloc ?_ ?_ _) | (with_reducible refine below_drewN ?_ _) | (with_reducible refine Below.drew ?_) | (with_reducible refine Below.setCell ?_ ?_ _) | (with_reducible refine Below.trans ?_ (Below.mono (by assumption) ?_)) | go_size | (simp at *; omega))))
  clear hb1
  obtain ⟨q0, q1, q2, q3, q4, q5, q6, q7, q8, q9, q10, q11, q12, q13⟩ := HM1.out.1.cal
  obtain ⟨p0, p1⟩ := HM1.out.sp
  obtain ⟨⟨r0, r1⟩, f0, f1⟩ := HM1.out.res
  have hsz := HM1.out.lt
  have hz0 : w.heap.size < w1.heap.size := by omega
  have hz1 : w.heap.size + 1 < w1.heap.size := by omega
  have hz2 : w.heap.size + 1 + 1 < w1.heap.size := by omega
  have hz3 : w.heap.size + 1 + 1 + 1 < w1.heap.size := by omega
  go_wp2_with (go_at_call 38; refine (levelled_any _ _).mono ?_; rintro e w' ⟨rfl, rfl⟩; rw [hlb])
  exact bodyPost_ret (v := .tuple #[.slice none 0 0, .int .i64 1]) (res_meetsV rfl rfl ((HM1.out.fin (.slice none 0 0) 1).1) ((HM1.out.fin (.slice none 0 0) 1).2)) rfl ⟨rfl, by have hB := HB1.out; exact ((hB.setCell (by first | (simp; done) | (simp; omega)) _).setCell (by first | (simp; done) | (simp; omega)) _)⟩

set_option maxRecDepth 100000 in
set_option maxHeartbeats 1600000 in
theorem meets_e1 (c : Cal) (lv : Int) (s : Sp) (w : World) (hn : c.name.size ≤ 1000) (hk : c.okB = true) (hl : 1 ≤ lv ∧ lv ≤ 5) (hs : s.a ≤ s.b) (h1 : ¬ fdE c s.a lv = 0) :
    Calls Try.prog 25 #[calV c, .int .i64 lv, spanV s] w fun e w' => e = .returned (.tuple #[.slice none 0 0, .int .i64 (fdE c s.a lv)]) ∧ Below w.heap.size w w' := by
  have hlb : decide (1 ≤ lv ∧ lv ≤ 5) = true := by simpa using hl
  have h1' : (fdE c s.a lv != 0) = true := by simpa using h1
  clear hl h1
  have HO := hide (show okE c = 0 by simp [okE, hk])
  clear hk
  simp only [calV, spanV]
  go_enter Try.func25, Try.ntmps25
  go_wp2_with fail
  refine (check_any c _ hn).mono ?_
  rintro e w1 ⟨rfl, hb1⟩
  rw [HO.out]
  have HM1 := hide ((mtSt_new c s w).call (by exact hb1))
  have HB1 := hide (show Below w.heap.size w w1 by (repeat' (first | (with_reducible exact Below.refl _ _) | (with_reducible assumption) | (with_reducible refine Below.alloc ?_ ?_ _) | (with_reducible refine below_drewN ?_ _) | (with_reducible refine Below.drew ?_) | (with_reducible refine Below.setCell ?_ ?_ _) | (with_reducible refine Below.trans ?_ (Below.mono (by assumption) ?_)) | go_size | (simp at *; omega))))
  clear hb1
  obtain ⟨q0, q1, q2, q3, q4, q5, q6, q7, q8, q9, q10, q11, q12, q13⟩ := HM1.out.1.cal
  obtain ⟨p0, p1⟩ := HM1.out.sp
  obtain ⟨⟨r0, r1⟩, f0, f1⟩ := HM1.out.res
  have hsz := HM1.out.lt
  have hz0 : w.heap.size < w1.heap.size := by omega
  have hz1 : w.heap.size + 1 < w1.heap.size := by omega
  have hz2 : w.heap.size + 1 + 1 < w1.heap.size := by omega
  have hz3 : w.heap.size + 1 + 1 + 1 < w1.heap.size := by omega
  have hsb : s.a ≤ s.b := hs
  go_wp2_with (go_at_call 38; refine (levelled_any _ _).mono ?_; rintro e w' ⟨rfl, rfl⟩; rw [hlb])
  refine (fday_any c s.a lv _ hn).mono ?_
  rintro e w2 ⟨rfl, hb2⟩
  clear q0 q1 q2 q3 q4 q5 q6 q7 q8 q9 q10 q11 q12 q13
  clear p0 p1 r0 r1 f0 f1
  have HM2 := hide (HM1.out.call hb2)
  have HB2 := hide (HB1.out.trans (hb2.mono (by omega)))
  clear hb2 hsz hz0 hz1 hz2 hz3
  obtain ⟨q0, q1, q2, q3, q4, q5, q6, q7, q8, q9, q10, q11, q12, q13⟩ := HM2.out.1.cal
  obtain ⟨p0, p1⟩ := HM2.out.sp
  obtain ⟨⟨r0, r1⟩, f0, f1⟩ := HM2.out.res
  have hsz := HM2.out.lt
  have hz0 : w.heap.size < w2.heap.size := by omega
  have hz1 : w.heap.size + 1 < w2.heap.size := by omega
  have hz2 : w.heap.size + 1 + 1 < w2.heap.size := by omega
  have hz3 : w.heap.size + 1 + 1 + 1 < w2.heap.size := by omega
  go_wp2
  exact bodyPost_ret (v := .tuple #[.slice none 0 0, .int .i64 (fdE c s.a lv)]) (res_meetsV rfl rfl ((HM2.out.fin (.slice none 0 0) (fdE c s.a lv)).1.alloc _) ((HM2.out.fin (.slice none 0 0) (fdE c s.a lv)).2.alloc _)) rfl ⟨rfl, by have hB := HB2.out; exact (((hB.setCell (by first | (simp; done) | (simp; omega)) _).setCell (by first | (simp; done) | (simp; omega)) _).alloc (by simp; omega) _)⟩

set_option maxRecDepth 100000 in
set_option maxHeartbeats 1600000 in
theorem meets_e2 (c : Cal) (lv : Int) (s : Sp) (w : World) (hn : c.name.size ≤ 1000) (hk : c.okB = true) (hl : 1 ≤ lv ∧ lv ≤ 5) (hs : s.a ≤ s.b) (h1 : fdE c s.a lv = 0) (h2 : ¬ fdE c s.b lv = 0) :
    Calls Try.prog 25 #[calV c, .int .i64 lv, spanV s] w fun e w' => e = .returned (.tuple #[.slice none 0 0, .int .i64 (fdE c s.b lv)]) ∧ Below w.heap.size w w' := by
  have hlb : decide (1 ≤ lv ∧ lv ≤ 5) = true := by simpa using hl
  have h2' : (fdE c s.b lv != 0) = true := by simpa using h2
  have H1 := hide h1
  clear hl h2 h1
  have HO := hide (show okE c = 0 by simp [okE, hk])
  clear hk
  simp only [calV, spanV]
  go_enter Try.func25, Try.ntmps25
  go_wp2_with fail
  refine (check_any c _ hn).mono ?_
  rintro e w1 ⟨rfl, hb1⟩
  rw [HO.out]
  have HM1 := hide ((mtSt_new c s w).call (by exact hb1))
  have HB1 := hide (show Below w.heap.size w w1 by (repeat' (first | (with_reducible exact Below.refl _ _) | (with_reducible assumption) | (with_reducible refine Below.alloc ?_ ?_ _) | (with_reducible refine below_drewN ?_ _) | (with_reducible refine Below.drew ?_) | (with_reducible refine Below.setCell ?_ ?_ _) | (with_reducible refine Below.trans ?_ (Below.mono (by assumption) ?_)) | go_size | (simp at *; omega))))
  clear hb1
  obtain ⟨q0, q1, q2, q3, q4, q5, q6, q7, q8, q9, q10, q11, q12, q13⟩ := HM1.out.1.cal
  obtain ⟨p0, p1⟩ := HM1.out.sp
  obtain ⟨⟨r0, r1⟩, f0, f1⟩ := HM1.out.res
  have hsz := HM1.out.lt
  have hz0 : w.heap.size < w1.heap.size := by omega
  have hz1 : w.heap.size + 1 < w1.heap.size := by omega
  have hz2 : w.heap.size + 1 + 1 < w1.heap.size := by omega
  have hz3 : w.heap.size + 1 + 1 + 1 < w1.heap.size := by omega
  have hsb : s.a ≤ s.b := hs
  go_wp2_with (go_at_call 38; refine (levelled_any _ _).mono ?_; rintro e w' ⟨rfl, rfl⟩; rw [hlb])
  refine (fday_any c s.a lv _ hn).mono ?_
  rintro e w2 ⟨rfl, hb2⟩
  clear q0 q1 q2 q3 q4 q5 q6 q7 q8 q9 q10 q11 q12 q13
  clear p0 p1 r0 r1 f0 f1
  have HM2 := hide (HM1.out.call hb2)
  have HB2 := hide (HB1.out.trans (hb2.mono (by omega)))
  clear hb2 hsz hz0 hz1 hz2 hz3
  obtain ⟨q0, q1, q2, q3, q4, q5, q6, q7, q8, q9, q10, q11, q12, q13⟩ := HM2.out.1.cal
  obtain ⟨p0, p1⟩ := HM2.out.sp
  obtain ⟨⟨r0, r1⟩, f0, f1⟩ := HM2.out.res
  have hsz := HM2.out.lt
  have hz0 : w.heap.size < w2.heap.size := by omega
  have hz1 : w.heap.size + 1 < w2.heap.size := by omega
  have hz2 : w.heap.size + 1 + 1 < w2.heap.size := by omega
  have hz3 : w.heap.size + 1 + 1 + 1 < w2.heap.size := by omega
  rw [H1.out]
  go_wp2_with fail
  refine (fday_any c s.b lv _ hn).mono ?_
  rintro e w3 ⟨rfl, hb3⟩
  clear q0 q1 q2 q3 q4 q5 q6 q7 q8 q9 q10 q11 q12 q13
  clear p0 p1 r0 r1 f0 f1
  have HM3 := hide ((HM2.out.alloc _).call hb3)
  have HB3 := hide ((HB2.out.alloc (by omega) _).trans (hb3.mono (by simp; omega)))
  clear hb3 hsz hz0 hz1 hz2 hz3
  obtain ⟨q0, q1, q2, q3, q4, q5, q6, q7, q8, q9, q10, q11, q12, q13⟩ := HM3.out.1.cal
  obtain ⟨p0, p1⟩ := HM3.out.sp
  obtain ⟨⟨r0, r1⟩, f0, f1⟩ := HM3.out.res
  have hsz := HM3.out.lt
  have hz0 : w.heap.size < w3.heap.size := by omega
  have hz1 : w.heap.size + 1 < w3.heap.size := by omega
  have hz2 : w.heap.size + 1 + 1 < w3.heap.size := by omega
  have hz3 : w.heap.size + 1 + 1 + 1 < w3.heap.size := by omega
  go_wp2
  exact bodyPost_ret (v := .tuple #[.slice none 0 0, .int .i64 (fdE c s.b lv)]) (res_meetsV rfl rfl ((HM3.out.fin (.slice none 0 0) (fdE c s.b lv)).1.alloc _) ((HM3.out.fin (.slice none 0 0) (fdE c s.b lv)).2.alloc _)) rfl ⟨rfl, by have hB := HB3.out; exact (((hB.setCell (by first | (simp; done) | (simp; omega)) _).setCell (by first | (simp; done) | (simp; omega)) _).alloc (by simp; omega) _)⟩

theorem meets_any_no (c : Cal) (lv : Int) (s : Sp) (w : World) (hn : c.name.size ≤ 1000) (h : ¬ meetsE c lv s = 0) :
    Calls Try.prog 25 #[calV c, .int .i64 lv, spanV s] w fun e w' => e = .returned (.tuple #[.slice none 0 0, .int .i64 (meetsE c lv s)]) ∧ Below w.heap.size w w' := by
  unfold meetsE at h ⊢
  by_cases hk : c.okB = true
  · by_cases hl : 1 ≤ lv ∧ lv ≤ 5
    · by_cases hs : s.a ≤ s.b
      · rw [if_pos ⟨hk, hl, hs⟩] at h ⊢
        by_cases h1 : fdE c s.a lv = 0
        · rw [if_pos h1] at h ⊢
          exact meets_e2 c lv s w hn hk hl hs h1 h
        · rw [if_neg h1]
          exact meets_e1 c lv s w hn hk hl hs h1
      · rw [if_neg (fun x => hs x.2.2)]
        exact meets_arg c lv s w hn hk hl (by omega)
    · rw [if_neg (fun x => hl x.2.1)]
      exact meets_lv c lv s w hn hk hl
  · rw [if_neg (fun x => hk x.1)]
    exact meets_cal c lv s w hn (by simpa using hk)

end Go.Proofs.Ytpngdeegdkifnaa
