/- Contracts of shape.Ends: years that are not told, broadcast years, years by months. Contracts of shape.Ends: years of weeks. -/
import Derived.Test.YtojdngkleiokgaaShapeC
import Derived.Test.YtojdngkleiokgaaQuarter
namespace Go.Proofs.Ytojdngkleiokgaa
open Go.RowKit Qd
set_option linter.unusedSimpArgs false
set_option linter.unusedVariables false

/-- The day behind the first k periods of a year of weeks. -/
def wkDay (c : Cal) (y : Int) : Nat → Int
  | 0 => startV c y
  | k + 1 => wkDay c y k + 7 * lenAt c (wksV c y) k
/-- The last days of a year's periods. -/
def endsL (c : Cal) (y : Int) : List Int :=
  if c.shape = 4 then sunL y else if c.shape = 5 then monL (startV c y) else (List.range (perV c).toNat).map fun i => wkDay c y (i + 1) - 1
def EndsPost (c : Cal) (y : Int) (w : World) (e : Ending) (w' : World) : Prop :=
  ∃ g, w.heap.size ≤ g ∧ e = .returned (.tuple #[.slice (some ⟨g, 0, none⟩) (endsL c y).length (endsL c y).length, .int .i64 0]) ∧ IntsAt w' g (endsL c y) ∧ Below w.heap.size w w'

theorem ok_shape {c : Cal} (h : c.Ok) : (c.kind = 4 ↔ c.shape = 4) ∧ (c.kind = 6 ↔ c.shape = 5) ∧ 1 ≤ c.shape ∧ c.shape ≤ 5 := by
  obtain ⟨_, _, _, hr⟩ := h
  unfold Cal.ruled Cal.weeks weeksP at hr
  omega

set_option maxRecDepth 100000 in
set_option maxHeartbeats 1600000 in
theorem ends_no (c : Cal) (y : Int) (w : World) (hn : c.name.size ≤ 1000) (hE : ¬ askE c y 1601 = 0) :
    Calls Try.prog 12 #[calV c, .int .i64 y] w fun e w' => e = .returned (.tuple #[.slice none 0 0, .int .i64 (askE c y 1601)]) ∧ Below w.heap.size w w' := by
  have hE' : (askE c y 1601 != 0) = true := by simpa using hE
  clear hE
  simp only [calV]
  go_enter Try.func12, Try.ntmps12
  go_wp2_with fail
  refine (start_any c _ _ hn).mono ?_
  rintro e w1 ⟨rfl, hb1⟩
  go_wp2
  go_ret2
  exact ⟨rfl, by refine Below.alloc (((Below.refl _ _).alloc (Nat.le_refl _) _).trans (hb1.mono (by simp))) ?_ _; have := hb1.size; simp at this; omega⟩

set_option maxRecDepth 100000 in
set_option maxHeartbeats 1600000 in
theorem ends_broad (c : Cal) (y : Int) (w : World) (hn : c.name.size ≤ 1000) (hE : askE c y 1601 = 0) (hs : c.shape = 4) :
    Calls Try.prog 12 #[calV c, .int .i64 y] w (EndsPost c y w) := by
  have HL := hide (show endsL c y = sunL y by simp [endsL, hs])
  obtain ⟨hok, hy1, hy2⟩ := ask_ok hE
  have hs' : (c.shape == 4) = true := by simp [hs]
  have H2 := hide hE
  clear hE hs hok
  simp only [calV]
  go_enter Try.func12, Try.ntmps12
  go_wp2_with fail
  refine (start_any c _ _ hn).mono ?_
  rintro e w1 ⟨rfl, hb1⟩
  have hz1 : w.heap.size < w1.heap.size := by have := hb1.size; simp at this; omega
  have HB1 := hide (Below.trans ((Below.refl _ _).alloc (Nat.le_refl _) _) (hb1.mono (by simp)) : Below w.heap.size w w1)
  have HQ := hide (calAt_below hb1 (by simp) (calAt_new w c))
  obtain ⟨q0, q1, q2, q3, q4, q5, q6, q7, q8, q9, q10, q11, q12, q13⟩ := HQ.out
  clear hb1
  rw [H2.out]
  go_wp2_with fail
  refine (sundays_any y _ (by omega) (by omega)).mono ?_
  rintro e w2 ⟨g, hg, rfl, hI, hb2⟩
  clear q0 q1 q2 q3 q4 q5 q6 q7 q8 q9 q10 q11 q12 q13
  go_wp2
  go_ret2
  refine ⟨g, ?_, ?_, by rw [HL.out]; exact hI, (HB1.out.alloc (Nat.le_of_lt hz1) _).trans (hb2.mono (by simp; omega))⟩
  · simp at hg; omega
  · rw [HL.out]; simp [sunL]

set_option maxRecDepth 100000 in
set_option maxHeartbeats 1600000 in
theorem ends_month (c : Cal) (y : Int) (w : World) (hn : c.name.size ≤ 1000) (hE : askE c y 1601 = 0) (hs : c.shape = 5) :
    Calls Try.prog 12 #[calV c, .int .i64 y] w (EndsPost c y w) := by
  have HL := hide (show endsL c y = monL (startV c y) by simp [endsL, hs])
  obtain ⟨hok, hy1, hy2⟩ := ask_ok hE
  have hs' : (c.shape == 5) = true := by simp [hs]
  have hs4 : (c.shape == 4) = false := by simp [hs]
  have hst : 0 ≤ startV c y ∧ startV c y + 400 < 3068037 := by
    obtain ⟨hm, hsh, hk, hd⟩ := ok_rule hok
    have t1 := ask_there1 hE
    have b0 := fin_bd c (y - 1 + c.shift) hok t1 (by omega)
    have e0 : startV c y = finV c (y - 1 + c.shift) + 1 := by simp [startV, hE]
    have hk6 : c.kind = 6 := (ok_shape hok).2.1.2 hs
    have e1 : finV c (y - 1 + c.shift) = endN (y - 1 + c.shift) c.month := by simp [finV, hk6]
    have h3 : thereB (y - 1 + c.shift + 1) c.month = true := by simp [thereB]; omega
    have h4 := endN_next (y - 1 + c.shift) c.month t1 (by omega)
    have h5 := end_hi (y - 1 + c.shift + 1) c.month h3 (by omega)
    omega
  have H2 := hide hE
  clear hE hs hok
  simp only [calV]
  go_enter Try.func12, Try.ntmps12
  go_wp2_with fail
  refine (start_any c _ _ hn).mono ?_
  rintro e w1 ⟨rfl, hb1⟩
  have hz1 : w.heap.size < w1.heap.size := by have := hb1.size; simp at this; omega
  have HB1 := hide (Below.trans ((Below.refl _ _).alloc (Nat.le_refl _) _) (hb1.mono (by simp)) : Below w.heap.size w w1)
  have HQ := hide (calAt_below hb1 (by simp) (calAt_new w c))
  obtain ⟨q0, q1, q2, q3, q4, q5, q6, q7, q8, q9, q10, q11, q12, q13⟩ := HQ.out
  clear hb1
  rw [H2.out]
  go_wp2_with fail
  refine (months_any (startV c y) _ (by omega) (by omega)).mono ?_
  rintro e w2 ⟨g, hg, rfl, hI, hb2⟩
  clear q0 q1 q2 q3 q4 q5 q6 q7 q8 q9 q10 q11 q12 q13
  go_wp2
  go_ret2
  refine ⟨g, ?_, ?_, by rw [HL.out]; exact hI, (HB1.out.alloc (Nat.le_of_lt hz1) _).trans (hb2.mono (by simp; omega))⟩
  · simp at hg; omega
  · rw [HL.out]; simp [monL]
end Go.Proofs.Ytojdngkleiokgaa

namespace Go.Proofs.Ytojdngkleiokgaa
open Go.RowKit Go.Shelf Qd
set_option linter.unusedSimpArgs false
set_option linter.unusedVariables false
attribute [local go_sem] Oper.semAt_some

theorem week_cal {c : Cal} (h : c.Ok) (h4 : ¬ c.shape = 4) (h5 : ¬ c.shape = 5) : WeekCal c := by
  obtain ⟨_, _, _, hr⟩ := h
  unfold Cal.ruled Cal.weeks weeksP Cal.pat0 at hr
  unfold WeekCal Go.Proofs.Ytojdngkleiokgaa.pat0 pat1 pat2
  split <;> (try split) <;> omega

/-- What the loop holds: the day, and the list so far. -/
def stP {n : Nat} (d0 : Int) (pre : List (PW n)) : Int × List Int := pre.foldl (fun s x => (s.1 + 7 * x.1.2, s.2.set x.1.1 (s.1 + 7 * x.1.2 - 1))) (d0, List.replicate n 0)
theorem stP_snoc {n : Nat} (d0 : Int) (pre : List (PW n)) (x : PW n) : stP d0 (pre ++ [x]) = ((stP d0 pre).1 + 7 * x.1.2, (stP d0 pre).2.set x.1.1 ((stP d0 pre).1 + 7 * x.1.2 - 1)) := by simp [stP]
theorem stP_len {n : Nat} (d0 : Int) (pre : List (PW n)) : (stP d0 pre).2.length = n := by
  unfold stP
  have : ∀ (l : List (PW n)) (s : Int × List Int), (l.foldl (fun s x => (s.1 + 7 * x.1.2, s.2.set x.1.1 (s.1 + 7 * x.1.2 - 1))) s).2.length = s.2.length := by
    intro l
    induction l with
    | nil => intro s; rfl
    | cons a l ih => intro s; rw [List.foldl_cons, ih]; simp
  rw [this]
  simp
theorem stP_bd {n : Nat} (d0 : Int) (pre : List (PW n)) : d0 ≤ (stP d0 pre).1 ∧ (stP d0 pre).1 ≤ d0 + 700 * pre.length := by
  unfold stP
  have : ∀ (l : List (PW n)) (s : Int × List Int), s.1 ≤ (l.foldl (fun s x => (s.1 + 7 * x.1.2, s.2.set x.1.1 (s.1 + 7 * x.1.2 - 1))) s).1 ∧ (l.foldl (fun s x => (s.1 + 7 * x.1.2, s.2.set x.1.1 (s.1 + 7 * x.1.2 - 1))) s).1 ≤ s.1 + 700 * l.length := by
    intro l
    induction l with
    | nil => intro s; simp
    | cons a l ih =>
      intro s
      have h := ih (s.1 + 7 * a.1.2, s.2.set a.1.1 (s.1 + 7 * a.1.2 - 1))
      have ha := a.2
      rw [List.foldl_cons]
      simp only [List.length_cons] at h ⊢
      omega
  exact this _ _
theorem stP_upto (c : Cal) (y : Int) (n : Nat) (hn0 : 0 < n) (hw : WeekCal c) (hwk : wksV c y = 52 ∨ wksV c y = 53) (k : Nat) (hk : k ≤ n) :
    stP (startV c y) (upto (mkPW c (wksV c y) n hn0) k) = (wkDay c y k, upTo n k fun i => wkDay c y (i + 1) - 1) := by
  induction k with
  | zero => simp [upto, stP, wkDay, upTo_zero]
  | succ k ih =>
    have hb := lenAt_bd c (wksV c y) k hw hwk
    have e1 : min k (n - 1) = k := by omega
    have e2 : min (max (lenAt c (wksV c y) k) 0) 100 = lenAt c (wksV c y) k := by omega
    rw [upto_succ, stP_snoc, ih (by omega)]
    simp only [mkPW, e1, e2]
    rw [← upTo_set]
    rfl
theorem keepsBut_putObj {A B : Nat} (W : World) (l : Nat) (o o' : Obj) (h : W.heap[l]? = some o) (ho : o.isCells = false) : KeepsBut A B W (W.putObj l o') := by
  have hg := grownBy_putObj' W l o'
  refine ⟨hg.size, fun k cs t z _ _ hk => ?_⟩
  have hlt := (Array.getElem?_eq_some_iff.1 hk).1
  refine (hg.block k hlt (fun e => ?_)).trans hk
  cases e
  rw [h] at hk
  cases hk
  cases ho
theorem keepsBut_set {A B : Nat} (W : World) (p : Addr) (u : Value) (hp : p.block = A ∨ p.block = B) : KeepsBut A B W (W.setCell p u) :=
  ⟨by simp, fun k cs t z h1 h2 hk => (Below.heap_setCell W p u k (by rcases hp with h | h <;> omega)).trans hk⟩
theorem BlkIs.far {w : World} {B : Nat} {cs : Array Value} {t : TypeId} (h : BlkIs w B cs t) {p : Addr} (hp : B ≠ p.block) (u : Value) : BlkIs (w.setCell p u) B cs t := (Below.heap_setCell w p u B hp).trans h
theorem BlkIs.set0 {w : World} {B : Nat} {v : Value} {t : TypeId} (h : BlkIs w B #[v] t) (u : Value) : BlkIs (w.setCell ⟨B, 0, none⟩ u) B #[u] t := by
  unfold BlkIs at h ⊢
  simp [World.setCell, Array.getElem?_modify, h]
theorem blk_own {X Y : World} {row : Option Nat} {B : Nat} {cs : Array Value} {t : TypeId} (h : BlkIs X B cs t) (hg : X.grownBy Y row) (hr : ∀ r, row = some r → ∃ o : Obj, X.heap[r]? = some o ∧ o.isCells = false) : BlkIs Y B cs t := by
  refine (hg.block B h.lt (fun e => ?_)).trans h
  obtain ⟨o, ho, hc⟩ := hr B e.symm
  unfold BlkIs at h
  rw [h] at ho
  cases ho
  cases hc
theorem ints_own {X Y : World} {row : Option Nat} {B : Nat} {xs : List Int} (h : IntsAt X B xs) (hg : X.grownBy Y row) (hr : ∀ r, row = some r → ∃ o : Obj, X.heap[r]? = some o ∧ o.isCells = false) : IntsAt Y B xs := blk_own h hg hr

set_option maxRecDepth 100000 in
set_option maxHeartbeats 4000000 in
theorem ends_weeks (c : Cal) (y : Int) (w : World) (hn : c.name.size ≤ 1000) (hE : askE c y 1601 = 0) (hs4 : ¬ c.shape = 4) (hs5 : ¬ c.shape = 5) :
    Calls Try.prog 12 #[calV c, .int .i64 y] w (EndsPost c y w) := by
  obtain ⟨hok, hy1, hy2⟩ := ask_ok hE
  have hok2 : c.okB = true := by simpa [Cal.okB] using hok
  have hk6 : c.kind ≠ 6 := fun e => hs5 ((ok_shape hok).2.1.1 e)
  have hwc := week_cal hok hs4 hs5
  have hdw := days_weeks c y hE hk6
  have hwb : wksB c = true := by simp [wksB, hok2, hk6]
  have hwv : wksV c y = daysV c y / 7 := by simp [wksV, hwb]
  have hwk : wksV c y = 52 ∨ wksV c y = 53 := by omega
  have hwE : wksE c y = 0 := by simp [wksE, hwb, hE]
  have hper := per_bounds c hok2
  have hoE : okE c = 0 := by simp [okE, hok2]
  have hyb := year_bd c y hE
  have HL := hide (show endsL c y = (List.range (perV c).toNat).map fun i => wkDay c y (i + 1) - 1 by simp [endsL, hs4, hs5])
  have HWC := hide hwc
  have HWK := hide hwk
  have e4 : (c.shape == 4) = false := by simp [hs4]
  have e5 : (c.shape == 5) = false := by simp [hs5]
  have H1 := hide hE
  have H2 := hide hwE
  have H3 := hide hoE
  clear hE hs4 hs5 hok hok2 hk6 hwc hdw hwb hwv hwk hwE hoE
  obtain ⟨n, hnp⟩ : ∃ n : Nat, (n : Int) = perV c := ⟨(perV c).toNat, by omega⟩
  have HN := hide hnp
  have hn52 : 12 ≤ n ∧ n ≤ 52 := by omega
  have hmk := fun W => make_ints n (by omega) W
  clear hnp
  simp only [calV]
  refine (callsIn_wide (n := 5)).1 ?_
  refine callsIn_of_wp_marks Try.func12 rfl trivial ?_ rfl
  simp only [Try.ntmps12, List.size_toArray, List.length_cons, List.length_nil, Nat.reduceAdd, Nat.reduceSub, Array.replicate_succ, Array.replicate_zero, List.push_toArray, List.append_toArray, List.nil_append, List.cons_append]
  gi_wp2_with fail
  refine ⟨trivial, (callsIn_wide.2 (start_any c _ _ hn)).mono ?_⟩
  rintro e w1 ⟨rfl, hb1⟩
  have hz1 : w.heap.size < w1.heap.size := by have := hb1.size; simp at this; omega
  have HB1 := hide (Below.trans ((Below.refl _ _).alloc (Nat.le_refl _) _) (hb1.mono (by simp)) : Below w.heap.size w w1)
  have HQ := hide (calAt_below hb1 (by simp) (calAt_new w c))
  obtain ⟨q0, q1, q2, q3, q4, q5, q6, q7, q8, q9, q10, q11, q12, q13⟩ := HQ.out
  clear hb1
  rw [H1.out]
  gi_wp2_with fail
  refine ⟨trivial, (callsIn_wide.2 (aweeks_any c _ _ hn)).mono ?_⟩
  rintro e w2 ⟨rfl, hb2⟩
  clear q0 q1 q2 q3 q4 q5 q6 q7 q8 q9 q10 q11 q12 q13
  have HQ2 := hide (calAt_below hb2 (by simp; omega) (calAt_alloc HQ.out hz1 _))
  obtain ⟨q0, q1, q2, q3, q4, q5, q6, q7, q8, q9, q10, q11, q12, q13⟩ := HQ2.out
  rw [H2.out]
  gi_wp2_with fail
  refine ⟨trivial, (callsIn_wide.2 (periods_any c _ hn)).mono ?_⟩
  rintro e w3 ⟨rfl, hb3⟩
  clear q0 q1 q2 q3 q4 q5 q6 q7 q8 q9 q10 q11 q12 q13
  have hz2 : w1.heap.size + 1 ≤ w2.heap.size := by have := hb2.size; simp at this; omega
  have HQ3 := hide (calAt_below hb3 (by omega) HQ2.out)
  have hdayB : BlkIs w3 w1.heap.size #[.int .i64 (startV c y)] 3 := ((BlkIs.new w1 #[.int .i64 (startV c y)] 3).call hb2).call hb3
  have hz3 : w2.heap.size ≤ w3.heap.size := hb3.size
  have hz4 : w.heap.size < w3.heap.size := by omega
  obtain ⟨q0, q1, q2, q3, q4, q5, q6, q7, q8, q9, q10, q11, q12, q13⟩ := HQ3.out
  rw [H3.out, ← HN.out]
  gi_wp2_with fail
  refine ⟨trivial, (lengths_any _ c _ _ _).mono ?_⟩
  rintro e w5 ⟨rfl, rfl⟩
  clear q0 q1 q2 q3 q4 q5 q6 q7 q8 q9 q10 q11 q12 q13
  gi_wp2_with fail
  have hn0 : 0 < n := by omega
  obtain ⟨W5, hW5⟩ : ∃ W5 : World, W5 = ((((w3.alloc (zeroObj n)).alloc (.cells #[.slice (some ⟨w3.heap.size, 0, none⟩) n n] 30)).alloc (.cells (calCs c) 24)).alloc (.cells #[.int .i64 (n : Int)] 3)).alloc (.cells #[.int .i64 (wksV c y)] 3) := ⟨_, rfl⟩
  have hsz : W5.heap.size = w3.heap.size + 5 := by rw [hW5]; simp
  have s0 : BlkIs W5 (w3.heap.size + 2) (calCs c) 24 := by
    rw [hW5]
    have := ((BlkIs.new ((w3.alloc (zeroObj n)).alloc (.cells #[.slice (some ⟨w3.heap.size, 0, none⟩) n n] 30)) (calCs c) 24).alloc (.cells #[.int .i64 (n : Int)] 3)).alloc (.cells #[.int .i64 (wksV c y)] 3)
    simpa using this
  have s1 : BlkIs W5 (w3.heap.size + 3) #[.int .i64 (n : Int)] 3 := by
    rw [hW5]
    have := (BlkIs.new (((w3.alloc (zeroObj n)).alloc (.cells #[.slice (some ⟨w3.heap.size, 0, none⟩) n n] 30)).alloc (.cells (calCs c) 24)) #[.int .i64 (n : Int)] 3).alloc (.cells #[.int .i64 (wksV c y)] 3)
    simpa using this
  have s2 : BlkIs W5 (w3.heap.size + 4) #[.int .i64 (wksV c y)] 3 := by
    rw [hW5]
    have := BlkIs.new ((((w3.alloc (zeroObj n)).alloc (.cells #[.slice (some ⟨w3.heap.size, 0, none⟩) n n] 30)).alloc (.cells (calCs c) 24)).alloc (.cells #[.int .i64 (n : Int)] 3)) #[.int .i64 (wksV c y)] 3
    simpa using this
  have s3 : BlkIs W5 (w3.heap.size + 1) #[.slice (some ⟨w3.heap.size, 0, none⟩) n n] 30 := by
    rw [hW5]
    have := (((BlkIs.new (w3.alloc (zeroObj n)) #[.slice (some ⟨w3.heap.size, 0, none⟩) n n] 30).alloc (.cells (calCs c) 24)).alloc (.cells #[.int .i64 (n : Int)] 3)).alloc (.cells #[.int .i64 (wksV c y)] 3)
    simpa using this
  have s4 : IntsAt W5 w3.heap.size (List.replicate n 0) := by
    rw [hW5]
    exact ((((IntsAt.new w3 n).alloc _).alloc _).alloc _).alloc _
  have s5 : BlkIs W5 w1.heap.size #[.int .i64 (startV c y)] 3 := by
    rw [hW5]
    exact ((((hdayB.alloc _).alloc _).alloc _).alloc _).alloc _
  have hBW : Below w.heap.size w W5 := by
    have b1 : Below w.heap.size w w2 := (HB1.out.alloc (Nat.le_of_lt hz1) _).trans (hb2.mono (by simp; omega))
    have b2 : Below w.heap.size w w3 := b1.trans (hb3.mono (by omega))
    rw [hW5]
    refine Below.alloc (Below.alloc (Below.alloc (Below.alloc (Below.alloc b2 ?_ _) ?_ _) ?_ _) ?_ _) ?_ _ <;> first | omega | (simp; omega)
  rw [← hW5]
  have hl1 : w1.heap.size < w3.heap.size := by omega
  clear hdayB hb2 hb3 hW5
  refine wpIn_rangeFunc_ownF (α := PW n) rfl (by omega) (gf := 61) (lb := #[.pointer (some ⟨w3.heap.size + 2, 0, none⟩), .pointer (some ⟨w3.heap.size + 3, 0, none⟩), .pointer (some ⟨w3.heap.size + 4, 0, none⟩)]) rfl trivial (enters_of Try.func61 (by kernel_rfl) rfl)
    (lengths_stops c n (wksV c y) HWC.out HWK.out (by omega) hn0 (w3.heap.size + 2) (w3.heap.size + 3) (w3.heap.size + 4) w1.heap.size w3.heap.size W5 s0 s1 s2 (by omega) (by omega) (by omega) (by omega) (by omega))
    keepsBut_trans (fun W l o o' _ h1 h2 _ => keepsBut_putObj W l o o' h1 h2) (Below.refl _ _) (fun _ => rfl)
    (fun pre W => (BlkIs W w1.heap.size #[.int .i64 (stP (startV c y) pre).1] 3 ∧ BlkIs W (w3.heap.size + 1) #[.slice (some ⟨w3.heap.size, 0, none⟩) n n] 30 ∧ IntsAt W w3.heap.size (stP (startV c y) pre).2) ∧ Below w.heap.size w W)
    (fun _ _ _ => False)
    (OwnFrom.and (Own.from (fun s A B row hs hg hr => ⟨blk_own hs.1 hg hr, blk_own hs.2.1 hg hr, ints_own hs.2.2 hg hr⟩) _) (ownFrom_below (Nat.le_refl _) (by omega)))
    (fun _ _ _ _ _ hs _ _ => hs)
    ⟨⟨s5, s3, s4⟩, hBW⟩ ?a1 ?assign ?body ?done ?stop
  case assign =>
    intro l x W K hK
    gi_wp2
    exact hK
  case body =>
    rintro l pre x W ⟨⟨u0, u1, u2⟩, hB⟩ hlt
    have hx := x.2
    have hsd := stP_bd (startV c y) pre
    have hln := stP_len (startV c y) pre
    have HSN := hide (stP_snoc (startV c y) pre x)
    have k0 : W.cell? ⟨w1.heap.size, 0, none⟩ = some (.int .i64 (stP (startV c y) pre).1) := u0.cell 0
    have k0f : W.frozen? ⟨w1.heap.size, 0, none⟩ = false := by simp [World.frozen?, show W.heap[w1.heap.size]? = _ from u0]
    have k1 : W.cell? ⟨w3.heap.size + 1, 0, none⟩ = some (.slice (some ⟨w3.heap.size, 0, none⟩) n n) := u1.cell 0
    have k2 := u2.cell (k := x.1.1) (by rw [hln]; exact hx.1)
    have k2f := u2.frozen x.1.1
    have hx1 : (x.1.1 : Int) < (n : Int) := by have := hx.1; omega
    have hx2 := hx.2
    have hne : ¬ w1.heap.size = w3.heap.size := by omega
    have hne2 : ¬ w3.heap.size = w1.heap.size := by omega
    have hne3 : ¬ w3.heap.size + 1 = w1.heap.size := by omega
    have U0 := hide u0
    have U1 := hide u1
    have U2 := hide u2
    clear u0 u1 u2 hln hx
    generalize hg1 : (stP (startV c y) pre).1 = dd at *
    generalize hg2 : (stP (startV c y) pre).2 = ll at *
    have HG := hide (And.intro hg1 hg2)
    clear hg1 hg2
    gi_wp2
    refine ⟨(KeepsOthers.setCell _ _ _).trans (KeepsOthers.setCell _ _ _), keepsBut_trans (keepsBut_set _ _ _ (.inl rfl)) (keepsBut_set _ _ _ (.inr rfl)), ⟨⟨?_, ?_, ?_⟩, ?_⟩⟩
    · rw [HSN.out]; exact (U0.out.set0 _).far (by simp; omega) _
    · exact (U1.out.far (by simp; omega) _).far (by simp) _
    · rw [HSN.out]; exact (U2.out.far (by simp; omega) _).set _ _
    · exact (hB.setCell (by simp; omega) _).setCell (by simp; omega) _
  case done =>
    rintro D xs W hD rfl ⟨⟨u0, u1, u2⟩, hB⟩ hK
    have k1 : W.cell? ⟨w3.heap.size + 1, 0, none⟩ = some (.slice (some ⟨w3.heap.size, 0, none⟩) n n) := u1.cell 0
    have U2 := hide u2
    clear u0 u1 u2
    gi_wp2
    refine ⟨by simp, .inl ⟨_, _, rfl, run_takeDeferred hK, ?_⟩⟩
    have hst := stP_upto c y n hn0 HWC.out HWK.out n (Nat.le_refl _)
    have hI := U2.out
    rw [hst] at hI
    simp only [upTo_full] at hI
    have hEq : endsL c y = (List.range n).map fun i => wkDay c y (i + 1) - 1 := by rw [HL.out, ← HN.out]; simp
    refine ⟨_, results_tmp2 rfl _ _ _, w3.heap.size, by omega, ?_, ?_, ?_⟩
    · rw [hEq]; simp
    · rw [hEq]
      exact ints_own hI (grownBy_putObj' W D _) (fun r e => by cases e; exact ⟨_, hK, rfl⟩)
    · exact hB.trans (belowK_b (w := w) (Nat.le_refl _) W D _ _ (by omega) hK rfl rfl)
  case stop =>
    rintro D cc pre W _ _ h _
    exact h.elim
end Go.Proofs.Ytojdngkleiokgaa
