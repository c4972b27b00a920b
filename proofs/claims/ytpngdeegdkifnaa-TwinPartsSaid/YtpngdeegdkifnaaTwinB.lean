/- Twin, plain: so many weeks, and how spans are joined. Twin, second part: twin.place, and where a week stands that is counted from a year's first one. Twin, plain: with which weeks a unit of a year of weeks is compared. Twin, plain: what twin.Weeks tells, and which days these weeks have. Twin, plain: a unit compared with its own year, and units of years by months. Twin: spans that rise, and their sums. Twin: the days of a unit, and those with which they are compared. Twin: a unit and its parts. -/
import Derived.Test.YtpngdeegdkifnaaShapeA
import Derived.Test.YtpngdeegdkifnaaUnitV
import Derived.Test.YtpngdeegdkifnaaCompP
import Derived.Test.YtpngdeegdkifnaaUnitP
import Derived.Test.YtpngdeegdkifnaaUnitD
namespace Go.Proofs.Ytpngdeegdkifnaa
open Go.RowKit Qd
set_option linter.unusedSimpArgs false
set_option linter.unusedVariables false

/-- So many weeks, from one on. -/
def wkU (u : Un) (n : Nat) : List Un := upto (fun j : Nat => (⟨u.lv, u.yr, u.ix + (j : Int)⟩ : Un)) n
theorem wkU_succ (u : Un) (n : Nat) : wkU u (n + 1) = wkU u n ++ [⟨u.lv, u.yr, u.ix + (n : Int)⟩] := upto_succ _ _
theorem wkU_len (u : Un) (n : Nat) : (wkU u n).length = n := by simp [wkU, upto_length]
theorem upto_add {α : Type} (f : Nat → α) (m n : Nat) : upto f (m + n) = upto f m ++ upto (fun j => f (m + j)) n := by
  induction n with
  | zero => simp [upto]
  | succ n ih => rw [← Nat.add_assoc, upto_succ, ih, upto_succ, List.append_assoc]
theorem upto_congr {α : Type} {f g : Nat → α} {n : Nat} (h : ∀ j, j < n → f j = g j) : upto f n = upto g n := by
  unfold upto
  exact List.map_congr_left fun j hj => h j (List.mem_range.1 hj)
theorem upto_get {α : Type} (f : Nat → α) (n j : Nat) (h : j < n) : (upto f n)[j]? = some (f j) := by simp [upto, h]
theorem upto_some {α : Type} {f : Nat → α} {n j : Nat} {x : α} (h : (upto f n)[j]? = some x) : j < n ∧ x = f j := by
  have hj : j < n := by have := (List.getElem?_eq_some_iff.1 h).1; simpa [upto_length] using this
  rw [upto_get f n j hj] at h
  exact ⟨hj, (Option.some.inj h).symm⟩
theorem upto_zero {α : Type} (f : Nat → α) : upto f 0 = [] := by simp [upto]
theorem wkU_add (u : Un) (m n : Nat) : wkU u (m + n) = wkU u m ++ wkU ⟨u.lv, u.yr, u.ix + (m : Int)⟩ n := by
  rw [wkU, upto_add]
  congr 1
  refine upto_congr fun j _ => ?_
  simp only [Un.mk.injEq, true_and]
  omega

/-- A span more, joined to the last one where it adjoins it. -/
def runAdd (r : List Sp) (s : Sp) : List Sp := match r.getLast? with
  | some p => if p.b = s.a - 1 then r.dropLast ++ [⟨p.a, s.b⟩] else r ++ [s]
  | none => [s]
theorem runAdd_nil (s : Sp) : runAdd [] s = [s] := rfl
theorem runAdd_join (r : List Sp) (p s : Sp) (h : p.b = s.a - 1) : runAdd (r ++ [p]) s = r ++ [⟨p.a, s.b⟩] := by simp [runAdd, h]
theorem runAdd_new (r : List Sp) (p s : Sp) (h : ¬ p.b = s.a - 1) : runAdd (r ++ [p]) s = r ++ [p] ++ [s] := by simp [runAdd, h]
/-- Spans, joined. -/
def runsL (l : List Sp) : List Sp := l.foldl runAdd []
theorem runs_snoc (l : List Sp) (s : Sp) : runsL (l ++ [s]) = runAdd (runsL l) s := by simp [runsL]
/-- Spans that adjoin each other are one. -/
theorem fold_run (f : Nat → Int) (m : Nat) (r : List Sp) (a : Int) : (upto (fun j => (⟨f j, f (j + 1) - 1⟩ : Sp)) m).foldl runAdd (r ++ [⟨a, f 0 - 1⟩]) = r ++ [⟨a, f m - 1⟩] := by
  induction m with
  | zero => simp [upto]
  | succ m ih =>
    rw [upto_succ, List.foldl_append, ih]
    exact runAdd_join _ _ _ rfl
theorem runs_one (f : Nat → Int) (m : Nat) (h : 0 < m) : runsL (upto (fun j => (⟨f j, f (j + 1) - 1⟩ : Sp)) m) = [⟨f 0, f m - 1⟩] := by
  obtain ⟨n, rfl⟩ : ∃ n, m = n + 1 := ⟨m - 1, by omega⟩
  induction n with
  | zero => simp [upto, runsL, runAdd]
  | succ n ih =>
    rw [upto_succ, runs_snoc, ih (by omega)]
    exact runAdd_join [] _ _ rfl
theorem runs_two (f g : Nat → Int) (m n : Nat) (h : 0 < m) (hn : 0 < n) (hg : ¬ f m = g 0) :
    runsL (upto (fun j => (⟨f j, f (j + 1) - 1⟩ : Sp)) m ++ upto (fun j => (⟨g j, g (j + 1) - 1⟩ : Sp)) n) = [⟨f 0, f m - 1⟩, ⟨g 0, g n - 1⟩] := by
  obtain ⟨k, rfl⟩ : ∃ k, n = k + 1 := ⟨n - 1, by omega⟩
  induction k with
  | zero =>
    rw [show upto (fun j => (⟨g j, g (j + 1) - 1⟩ : Sp)) (0 + 1) = [⟨g 0, g (0 + 1) - 1⟩] by simp [upto], runs_snoc, runs_one f m h]
    exact runAdd_new [] _ _ (by simp only; omega)
  | succ k ih =>
    rw [upto_succ, ← List.append_assoc, runs_snoc, ih (by omega)]
    exact runAdd_join [⟨f 0, f m - 1⟩] _ _ rfl
end Go.Proofs.Ytpngdeegdkifnaa

namespace Go.Proofs.Ytpngdeegdkifnaa
open Go.RowKit Qd
set_option linter.unusedSimpArgs false
set_option linter.unusedVariables false

/-- The week of a number, counted from a year's first one: of the year ahead, or of the one behind, where it must be. -/
def plU (c : Cal) (t n : Int) : Un := if n < 1 then ⟨5, t - 1, n + wksV c (t - 1)⟩ else if n ≤ wksV c t then ⟨5, t, n⟩ else ⟨5, t + 1, n - wksV c t⟩
theorem wks_beside {c : Cal} {t : Int} (hk : c.okB = true) (hk6 : c.kind ≠ 6) (h : srv c t) (z : Int) (h1 : t - 1 ≤ z) (h2 : z ≤ t + 1) : wksE c z = 0 ∧ askE c z 1601 = 0 ∧ (wksV c z = 52 ∨ wksV c z = 53) ∧ daysV c z = 7 * wksV c z := by
  have hok : c.Ok := by simpa [Cal.okB] using hk
  obtain ⟨_, _, b1, b2, _⟩ := ok_years hk
  obtain ⟨a1, a2⟩ := h
  have hA : askE c z 1601 = 0 := ask_2 hok (by omega) (by omega)
  have hE : wksE c z = 0 := by simp [wksE, wksB, hk, hk6, hA]
  exact ⟨hE, hA, (wks_ok hE).2.2.2.2.2.1, (wks_ok hE).2.2.2.2.2.2⟩
theorem res_place {tmps : Array Value} {W : World} {B : Nat} {a0 a1 a2 e : Int} (h6 : tmps[6]? = some (.pointer (some ⟨B, 0, none⟩))) (h7 : tmps[7]? = some (.int .i64 e))
    (g6 : BlkIs W B #[.int .i64 a0, .int .i64 a1, .int .i64 a2] 31) :
    (results Try.f75 tmps).run Try.prog W = .ok (.tuple #[.agg #[.int .i64 a0, .int .i64 a1, .int .i64 a2], .int .i64 e]) W := by
  have c0 := g6.cell 0
  have c1 := g6.cell 1
  have c2 := g6.cell 2
  simp at c0 c1 c2
  simp [results, Try.results75, go_sem, h6, h7, c0, c1, c2]
/-- The frame of twin.place: the calendar, and the result. -/
def PlSt (c : Cal) (B : Nat) (w0 w : World) : Prop := BlkIs w B (calCs c) 24 ∧ BlkIs w (B + 1) #[.int .i64 0, .int .i64 0, .int .i64 0] 31 ∧ Below B w0 w
theorem PlSt.call {c : Cal} {B : Nat} {w0 w w' : World} (h : PlSt c B w0 w) (hb : Below w.heap.size w w') : PlSt c B w0 w' := ⟨h.1.call hb, h.2.1.call hb, h.2.2.trans (hb.mono (Nat.le_of_lt h.1.lt))⟩
theorem PlSt.set {c : Cal} {B : Nat} {w0 w : World} (h : PlSt c B w0 w) (x y z : Value) : BlkIs (((w.setCell ⟨B + 1, 0, none⟩ x).setCell ⟨B + 1, 1, none⟩ y).setCell ⟨B + 1, 2, none⟩ z) (B + 1) #[x, y, z] 31 ∧ Below B w0 (((w.setCell ⟨B + 1, 0, none⟩ x).setCell ⟨B + 1, 1, none⟩ y).setCell ⟨B + 1, 2, none⟩ z) :=
  ⟨h.2.1.set123 x y z, ((h.2.2.setCell (by simp) _).setCell (by simp) _).setCell (by simp) _⟩

theorem PlSt.unx {c : Cal} {B : Nat} {w0 w : World} (h : PlSt c B w0 w) : (w.cell? ⟨B + 1, 0, none⟩ = some (.int .i64 0) ∧ w.cell? ⟨B + 1, 1, none⟩ = some (.int .i64 0) ∧ w.cell? ⟨B + 1, 2, none⟩ = some (.int .i64 0)) ∧ w.frozen? ⟨B + 1, 0, none⟩ = false ∧ w.frozen? ⟨B + 1, 1, none⟩ = false ∧ w.frozen? ⟨B + 1, 2, none⟩ = false :=
  ⟨⟨h.2.1.cell 0, h.2.1.cell 1, h.2.1.cell 2⟩, by simp [World.frozen?, show w.heap[B + 1]? = _ from h.2.1], by simp [World.frozen?, show w.heap[B + 1]? = _ from h.2.1], by simp [World.frozen?, show w.heap[B + 1]? = _ from h.2.1]⟩

set_option maxRecDepth 100000 in
set_option maxHeartbeats 4000000 in
theorem tplace_any (c : Cal) (t n : Int) (w : World) (hn : c.name.size ≤ 1000) (hk : c.okB = true) (hk6 : c.kind ≠ 6) (ht : srv c t) (hb : -40 ≤ n ∧ n ≤ 100) :
    Calls Try.prog 75 #[calV c, .int .i64 t, .int .i64 n] w fun e w' => e = .returned (.tuple #[unitV (plU c t n), .int .i64 0]) ∧ Below w.heap.size w w' := by
  have hty : 1602 ≤ t ∧ t ≤ 9996 := by
    obtain ⟨_, _, b1, b2, _⟩ := ok_years hk
    have h1 := ht.1
    have h2 := ht.2
    omega
  have n0 := wks_beside hk hk6 ht t (by omega) (by omega)
  have n1 := wks_beside hk hk6 ht (t - 1) (by omega) (by omega)
  have n2 := wks_beside hk hk6 ht (t + 1) (by omega) (by omega)
  have HE0 := hide n0.1
  have HE1 := hide n1.1
  have HE2 := hide n2.1
  have hw0 := n0.2.2.1
  have hw1 := n1.2.2.1
  have hw2 := n2.2.2.1
  clear n0 n1 n2 ht hk hk6
  simp only [calV]
  go_enter Try.func75, Try.ntmps75
  go_wp2_with fail
  have P0 := hide (show PlSt c w.heap.size w ((w.alloc (.cells (calCs c) 24)).alloc (.cells #[.int .i64 0, .int .i64 0, .int .i64 0] 31)) from ⟨(BlkIs.new w _ _).alloc _, by simpa using BlkIs.new (w.alloc (.cells (calCs c) 24)) #[.int .i64 0, .int .i64 0, .int .i64 0] 31, by (repeat' (first | (with_reducible exact Below.refl _ _) | (with_reducible assumption) | (with_reducible refine Below.alloc ?_ ?_ _) | (with_reducible refine below_drewN ?_ _) | (with_reducible refine Below.drew ?_) | (with_reducible refine Below.setCell ?_ ?_ _) | (with_reducible refine Below.trans ?_ (Below.mono (by assumption) ?_)) | go_size | (simp at *; omega)))⟩)
  go_loopw [1, 2] (fun s1 s2 wr => ∃ T N : Int, s1 = .int .i64 T ∧ s2 = .int .i64 N ∧ Hid ((T = t ∧ N = n) ∨ (n < 1 ∧ T = t - 1 ∧ N = n + wksV c (t - 1))) ∧ PlSt c w.heap.size w wr) (fun _ s2 _ => (1 - intOf s2).toNat)
  case atStart => exact ⟨t, n, rfl, rfl, hide (.inl ⟨rfl, rfl⟩), P0.out⟩
  case round =>
    obtain ⟨T, N, rfl, rfl, HTN, hP⟩ := hrel
    have HP := hide hP
    obtain ⟨q0, q1, q2, q3, q4, q5, q6, q7, q8, q9, q10, q11, q12, q13⟩ := HP.out.1.cal
    have hTN := HTN.out
    by_cases hN : N < 1
    · have h2 : T = t ∧ N = n := by omega
      obtain ⟨rfl, rfl⟩ := h2
      go_wp2_with fail
      refine (aweeks_any c _ _ hn).mono ?_
      rintro e w1 ⟨rfl, hb1⟩
      rw [HE1.out]
      have HP1 := hide (HP.out.call hb1)
      clear hb1
      go_wp2
      all_goals first
        | (exfalso; omega)
        | exact ⟨⟨_, _, rfl, rfl, hide (.inr ⟨hN, rfl, rfl⟩), HP1.out⟩, by simp [intOf]; omega⟩
    · have hN1 : ¬ N < 1 := hN
      go_wp2_with fail
      go_loopw [1, 2] (fun s1 s2 wr => ∃ T2 N2 : Int, s1 = .int .i64 T2 ∧ s2 = .int .i64 N2 ∧ Hid ((T2 = T ∧ N2 = N) ∨ (1 ≤ n ∧ wksV c t < n ∧ T2 = t + 1 ∧ N2 = n - wksV c t)) ∧ PlSt c w.heap.size w wr) (fun _ s2 _ => (intOf s2).toNat)
      case atStart => exact ⟨T, N, rfl, rfl, hide (.inl ⟨rfl, rfl⟩), HP.out⟩
      case round =>
        obtain ⟨T2, N2, rfl, rfl, HTN2, hP2⟩ := hrel
        have HP2 := hide hP2
        clear q0 q1 q2 q3 q4 q5 q6 q7 q8 q9 q10 q11 q12 q13
        obtain ⟨q0, q1, q2, q3, q4, q5, q6, q7, q8, q9, q10, q11, q12, q13⟩ := HP2.out.1.cal
        have hTN2 := HTN2.out
        rcases (show (T2 = t ∧ N2 = n ∧ 1 ≤ n) ∨ (n < 1 ∧ T2 = t - 1 ∧ N2 = n + wksV c (t - 1)) ∨ (1 ≤ n ∧ wksV c t < n ∧ T2 = t + 1 ∧ N2 = n - wksV c t) by omega) with ⟨rfl, rfl, h1⟩ | ⟨h1, rfl, rfl⟩ | ⟨h1, h2, rfl, rfl⟩
        · by_cases hle : N2 ≤ wksV c T2
          · have HV := hide (show plU c T2 N2 = ⟨5, T2, N2⟩ by rw [plU, if_neg (by omega), if_pos hle])
            go_wp2_with fail
            refine (aweeks_any c _ _ hn).mono ?_
            rintro e w1 ⟨rfl, hb1⟩
            rw [HE0.out]
            have HP3 := hide (HP2.out.call hb1)
            clear hb1
            obtain ⟨⟨k0, k1, k2⟩, k3, k4, k5⟩ := HP3.out.unx
            go_wp2
            rw [HV.out]
            obtain ⟨s1, s2⟩ := HP3.out.set (.int .i64 5) (.int .i64 T2) (.int .i64 N2)
            exact bodyPost_ret (v := .tuple #[.agg #[.int .i64 5, .int .i64 T2, .int .i64 N2], .int .i64 0]) (res_place rfl rfl s1) rfl ⟨rfl, s2⟩
          · go_wp2_with fail
            refine (aweeks_any c _ _ hn).mono ?_
            rintro e w1 ⟨rfl, hb1⟩
            rw [HE0.out]
            have HP3 := hide (HP2.out.call hb1)
            clear hb1
            go_wp2
            all_goals first
              | (exfalso; omega)
              | exact ⟨⟨_, _, rfl, rfl, hide (.inr ⟨h1, by omega, rfl, rfl⟩), HP3.out⟩, by simp [intOf]; omega⟩
        · have HV := hide (show plU c t n = ⟨5, t - 1, n + wksV c (t - 1)⟩ by rw [plU, if_pos h1])
          have hle : n + wksV c (t - 1) ≤ wksV c (t - 1) := by omega
          go_wp2_with fail
          refine (aweeks_any c _ _ hn).mono ?_
          rintro e w1 ⟨rfl, hb1⟩
          rw [HE1.out]
          have HP3 := hide (HP2.out.call hb1)
          clear hb1
          obtain ⟨⟨k0, k1, k2⟩, k3, k4, k5⟩ := HP3.out.unx
          go_wp2
          all_goals first
            | (exfalso; omega)
            | (rw [HV.out]
               obtain ⟨s1, s2⟩ := HP3.out.set (.int .i64 5) (.int .i64 (t - 1)) (.int .i64 (n + wksV c (t - 1)))
               exact bodyPost_ret (v := .tuple #[.agg #[.int .i64 5, .int .i64 (t - 1), .int .i64 (n + wksV c (t - 1))], .int .i64 0]) (res_place rfl rfl s1) rfl ⟨rfl, s2⟩)
        · have HV := hide (show plU c t n = ⟨5, t + 1, n - wksV c t⟩ by rw [plU, if_neg (by omega), if_neg (by omega)])
          have hle : n - wksV c t ≤ wksV c (t + 1) := by omega
          go_wp2_with fail
          refine (aweeks_any c _ _ hn).mono ?_
          rintro e w1 ⟨rfl, hb1⟩
          rw [HE2.out]
          have HP3 := hide (HP2.out.call hb1)
          clear hb1
          obtain ⟨⟨k0, k1, k2⟩, k3, k4, k5⟩ := HP3.out.unx
          go_wp2
          all_goals first
            | (exfalso; omega)
            | (rw [HV.out]
               obtain ⟨s1, s2⟩ := HP3.out.set (.int .i64 5) (.int .i64 (t + 1)) (.int .i64 (n - wksV c t))
               exact bodyPost_ret (v := .tuple #[.agg #[.int .i64 5, .int .i64 (t + 1), .int .i64 (n - wksV c t)], .int .i64 0]) (res_place rfl rfl s1) rfl ⟨rfl, s2⟩)
end Go.Proofs.Ytpngdeegdkifnaa

namespace Go.Proofs.Ytpngdeegdkifnaa
open Go.RowKit Qd
set_option linter.unusedSimpArgs false
set_option linter.unusedVariables false

/-- The weeks with which some weeks are compared. -/
def cmpL (c : Cal) (y t : Int) (l : List Un) : List Un := l.flatMap fun x => if cwE c y t x.ix = 0 then [plU c t (cwV c y t x.ix)] else []
theorem cmpL_snoc (c : Cal) (y t : Int) (l : List Un) (x : Un) : cmpL c y t (l ++ [x]) = cmpL c y t l ++ (if cwE c y t x.ix = 0 then [plU c t (cwV c y t x.ix)] else []) := by simp [cmpL]
theorem cmpL_yes {c : Cal} {y t : Int} (l : List Un) {x : Un} (h : cwE c y t x.ix = 0) : cmpL c y t (l ++ [x]) = cmpL c y t l ++ [plU c t (cwV c y t x.ix)] := by rw [cmpL_snoc, if_pos h]
theorem cmpL_no {c : Cal} {y t : Int} (l : List Un) {x : Un} (h : ¬ cwE c y t x.ix = 0) : cmpL c y t (l ++ [x]) = cmpL c y t l := by rw [cmpL_snoc, if_neg h, List.append_nil]
theorem cmpL_le (c : Cal) (y t : Int) (l : List Un) : (cmpL c y t l).length ≤ l.length := by
  induction l with
  | nil => simp [cmpL]
  | cons a l ih =>
    have e : cmpL c y t (a :: l) = (if cwE c y t a.ix = 0 then [plU c t (cwV c y t a.ix)] else []) ++ cmpL c y t l := by simp [cmpL]
    rw [e, List.length_append, List.length_cons]
    split <;> simp <;> omega
/-- The weeks of a unit. -/
def wksL (c : Cal) (u : Un) : List Un := wkU ⟨5, u.yr, (cutA c u : Int) + 1⟩ (cutB c u - cutA c u)
theorem ix_5 (c : Cal) (y : Int) (hA : askE c y 1601 = 0) (i : Nat) (hi : i < nWk c y) : ixN c y 5 i = i := ix_eq c y hA 5 (by omega) (by omega) i i (by rw [cnt_5]; exact hi) (by simp [cutN]) (by simp [cutN])
theorem dn_5 {c : Cal} {u : Un} (h : unitE c u = 0) : dnE c u 5 = 0 ∧ dnA c u 5 = ⟨5, u.yr, (cutA c u : Int) + 1⟩ ∧ dnB c u 5 = ⟨5, u.yr, (cutB c u : Int)⟩ := by
  obtain ⟨hf, l1, l5, hA, _, _⟩ := un_lv h
  have hab := cutAB h
  have e : dnE c u 5 = 0 := by simp [dnE, h, l5]
  refine ⟨e, ?_, ?_⟩
  · rw [dnA, if_pos e, ix_5 c u.yr hA _ (by omega)]
  · rw [dnB, if_pos e, ix_5 c u.yr hA _ (by omega)]
    congr 1
    omega
theorem cw_two {c : Cal} {y t x : Int} (hk : c.okB = true) (hk6 : c.kind ≠ 6) (hy : srv c y) (ht : srv c t) (hx : 1 ≤ x ∧ x ≤ wksV c y) : cwE c y t x = 0 ∨ cwE c y t x = 12 := by
  rcases cw_cases hk hk6 hy ht hx with h | h | ⟨_, h | h⟩
  · exact .inl h.2.1
  · exact .inl h.2.1
  · exact .inr h.2.2.1
  · exact .inl h.2.1
theorem nwk_wks {c : Cal} {z : Int} (hk : c.okB = true) (hk6 : c.kind ≠ 6) (hz : srv c z) : (nWk c z : Int) = wksV c z := by
  obtain ⟨_, hA, _, h7⟩ := wks_beside hk hk6 hz z (by omega) (by omega)
  have := nWk_7 c z hA hk6
  omega
/-- Weeks one behind the other, counted from a year's first one. -/
def segL (c : Cal) (t n : Int) (m : Nat) : List Un := upto (fun j : Nat => plU c t (n + (j : Int))) m
theorem segL_len (c : Cal) (t n : Int) (m : Nat) : (segL c t n m).length = m := upto_length _ _
theorem cmp_app (c : Cal) (y t : Int) (l1 l2 : List Un) : cmpL c y t (l1 ++ l2) = cmpL c y t l1 ++ cmpL c y t l2 := by simp [cmpL]
theorem cmp_run {c : Cal} {y t : Int} (x s : Int) (m : Nat) (h : ∀ j : Nat, j < m → cwE c y t (x + j) = 0 ∧ cwV c y t (x + j) = x + j + s) : cmpL c y t (wkU ⟨5, y, x⟩ m) = segL c t (x + s) m := by
  induction m with
  | zero => simp [wkU, segL, upto, cmpL]
  | succ m ih =>
    have e1 := wkU_succ ⟨5, y, x⟩ m
    simp only at e1
    rw [e1, cmpL_yes _ (x := ⟨5, y, x + m⟩) (h m (by omega)).1, ih (fun j hj => h j (by omega))]
    simp only [segL, upto_succ]
    rw [(h m (by omega)).2, show x + m + s = x + s + m by omega]
theorem cmp_gone {c : Cal} {y t x : Int} (h : ¬ cwE c y t x = 0) : cmpL c y t (wkU ⟨5, y, x⟩ 1) = [] := by
  simp [wkU, upto, cmpL, h]
theorem wk_cut (y x : Int) (m n : Nat) : wkU ⟨5, y, x⟩ (m + n) = wkU ⟨5, y, x⟩ m ++ wkU ⟨5, y, x + m⟩ n := wkU_add _ _ _

/-- The ways in which the weeks of a unit are compared: all shifted alike; one of them dropped; or one left out there. -/
theorem cmp_shape {c : Cal} {u : Un} {t : Int} (hU : unitE c u = 0) (hk6 : c.kind ≠ 6) (ht : srv c t) :
    (∃ s : Int, -1 ≤ s ∧ s ≤ 1 ∧ (∀ x : Int, (cutA c u : Int) < x → x ≤ cutB c u → cwE c u.yr t x = 0 ∧ cwV c u.yr t x = x + s) ∧ cmpL c u.yr t (wksL c u) = segL c t ((cutA c u : Int) + 1 + s) (cutB c u - cutA c u) ∧ ¬ (c.policy = 3 ∧ wksV c u.yr = 53 ∧ wksV c t = 52 ∧ (cutA c u : Int) < addedV c u.yr ∧ addedV c u.yr ≤ cutB c u)) ∨
    (∃ a : Int, (cutA c u : Int) < a ∧ a ≤ cutB c u ∧ c.policy = 3 ∧ wksV c u.yr = 53 ∧ wksV c t = 52 ∧ a = addedV c u.yr ∧ cwE c u.yr t a = 12 ∧ (∀ x : Int, (cutA c u : Int) < x → x ≤ cutB c u → x ≠ a → cwE c u.yr t x = 0 ∧ cwV c u.yr t x = if x < a then x else x - 1) ∧ cmpL c u.yr t (wksL c u) = segL c t ((cutA c u : Int) + 1) (cutB c u - cutA c u - 1)) ∨
    (∃ a : Int, (cutA c u : Int) + 1 < a ∧ a ≤ cutB c u ∧ c.policy = 3 ∧ wksV c u.yr = 52 ∧ wksV c t = 53 ∧ a = addedV c t ∧ (∀ x : Int, (cutA c u : Int) < x → x ≤ cutB c u → cwE c u.yr t x = 0 ∧ cwV c u.yr t x = if x < a then x else x + 1) ∧ cmpL c u.yr t (wksL c u) = segL c t ((cutA c u : Int) + 1) (a - 1 - cutA c u).toNat ++ segL c t (a + 1) (cutB c u - a + 1).toNat) := by
  obtain ⟨hf, l1, l5, hA, _, _⟩ := un_lv hU
  obtain ⟨hok, hk, _, _, hy1, hy2, _⟩ := frame_ok hf
  have hy : srv c u.yr := ⟨hy1, hy2⟩
  have hab := cutAB hU
  have hwk := nwk_wks hk hk6 hy
  have sh := fun x (h1 : (cutA c u : Int) < x) (h2 : x ≤ cutB c u) => cw_shift hk hk6 hy ht (x := x) ⟨by omega, by omega⟩
  have ew : (⟨5, u.yr, (cutA c u : Int) + 1⟩ : Un) = ⟨5, u.yr, (cutA c u : Int) + 1⟩ := rfl
  obtain ⟨_, _, _, _, wy1, wy2⟩ := (yr_week hk hk6 hy)
  have wyb := (yr_week hk hk6 hy).2.2
  have wtb := (yr_week hk hk6 ht).2.2
  have ad2 := added_two hk hk6 hy ht
  have one : ∀ s : Int, -1 ≤ s → s ≤ 1 → (∀ x : Int, (cutA c u : Int) < x → x ≤ cutB c u → cwE c u.yr t x = 0 ∧ cwV c u.yr t x = x + s) → cmpL c u.yr t (wksL c u) = segL c t ((cutA c u : Int) + 1 + s) (cutB c u - cutA c u) := fun s _ _ h =>
    cmp_run _ _ _ fun j hj => h _ (by omega) (by omega)
  generalize hAA : cutA c u = A at *
  generalize hBB : cutB c u = B at *
  by_cases hp : c.policy = 1
  · left
    have h0 : ∀ x : Int, (A : Int) < x → x ≤ B → cwE c u.yr t x = 0 ∧ cwV c u.yr t x = x + 0 := fun x h1 h2 => by
      rcases sh x h1 h2 with h | h | h | h | h | h <;> first | (exfalso; omega) | exact ⟨h.1, by omega⟩
    exact ⟨0, by omega, by omega, h0, one 0 (by omega) (by omega) h0, by omega⟩
  · by_cases hp2 : c.policy = 2
    · left
      have h0 : ∀ x : Int, (A : Int) < x → x ≤ B → cwE c u.yr t x = 0 ∧ cwV c u.yr t x = x + (wksV c t - wksV c u.yr) := fun x h1 h2 => by
        rcases sh x h1 h2 with h | h | h | h | h | h <;> first | (exfalso; omega) | exact ⟨h.1, by omega⟩
      exact ⟨wksV c t - wksV c u.yr, by omega, by omega, h0, one _ (by omega) (by omega) h0, by omega⟩
    · have hp3 : c.policy = 3 := by rcases ok_pol hk hk6 with h | h | h <;> first | exact absurd h hp | exact absurd h hp2 | exact h
      rcases ad2 with ⟨e1, e2⟩ | ⟨g1, g2, g3, g4, g5⟩ | ⟨g1, g2, g3, g4, g5⟩
      · left
        have h0 : ∀ x : Int, (A : Int) < x → x ≤ B → cwE c u.yr t x = 0 ∧ cwV c u.yr t x = x + 0 := fun x h1 h2 => by
          rcases sh x h1 h2 with h | h | h | h | h | h <;> first | (exfalso; omega) | exact ⟨h.1, by omega⟩
        exact ⟨0, by omega, by omega, h0, one 0 (by omega) (by omega) h0, by omega⟩
      · -- one left out there
        by_cases ha : addedV c t ≤ (A : Int) + 1
        · left
          have h0 : ∀ x : Int, (A : Int) < x → x ≤ B → cwE c u.yr t x = 0 ∧ cwV c u.yr t x = x + 1 := fun x h1 h2 => by
            rcases sh x h1 h2 with h | h | h | h | h | h <;> first | (exfalso; omega) | exact ⟨h.1, by omega⟩
          exact ⟨1, by omega, by omega, h0, one 1 (by omega) (by omega) h0, by omega⟩
        · by_cases hb : (B : Int) < addedV c t
          · left
            have h0 : ∀ x : Int, (A : Int) < x → x ≤ B → cwE c u.yr t x = 0 ∧ cwV c u.yr t x = x + 0 := fun x h1 h2 => by
              rcases sh x h1 h2 with h | h | h | h | h | h <;> first | (exfalso; omega) | exact ⟨h.1, by omega⟩
            exact ⟨0, by omega, by omega, h0, one 0 (by omega) (by omega) h0, by omega⟩
          · right; right
            have h0 : ∀ x : Int, (A : Int) < x → x ≤ B → cwE c u.yr t x = 0 ∧ cwV c u.yr t x = if x < addedV c t then x else x + 1 := fun x h1 h2 => by
              rcases sh x h1 h2 with h | h | h | h | h | h <;> first | (exfalso; omega) | exact ⟨h.1, by split <;> omega⟩
            refine ⟨addedV c t, by omega, by omega, hp3, g4, g5, rfl, h0, ?_⟩
            obtain ⟨p, hp⟩ : ∃ p : Nat, addedV c t = (A : Int) + 1 + p := ⟨(addedV c t - A - 1).toNat, by omega⟩
            have e : wksL c u = wkU ⟨5, u.yr, (A : Int) + 1⟩ p ++ wkU ⟨5, u.yr, (A : Int) + 1 + p⟩ (B - A - p) := by
              rw [← wk_cut, wksL, hAA, hBB]
              congr 1
              omega
            rw [e, cmp_app, cmp_run _ 0 p (fun j hj => by have := h0 ((A : Int) + 1 + j) (by omega) (by omega); rw [if_pos (by omega)] at this; exact ⟨this.1, by omega⟩), cmp_run _ 1 (B - A - p) (fun j hj => by have := h0 ((A : Int) + 1 + p + j) (by omega) (by omega); rw [if_neg (by omega)] at this; exact ⟨this.1, by omega⟩)]
            rw [hp, show ((A : Int) + 1 + p - 1 - A).toNat = p by omega, show (B - ((A : Int) + 1 + p) + 1).toNat = B - A - p by omega, Int.add_zero]
      · -- one dropped
        by_cases ha : addedV c u.yr ≤ (A : Int)
        · left
          have h0 : ∀ x : Int, (A : Int) < x → x ≤ B → cwE c u.yr t x = 0 ∧ cwV c u.yr t x = x + -1 := fun x h1 h2 => by
            rcases sh x h1 h2 with h | h | h | h | h | h <;> first | (exfalso; omega) | exact ⟨h.1, by omega⟩
          exact ⟨-1, by omega, by omega, h0, one (-1) (by omega) (by omega) h0, by omega⟩
        · by_cases hb : (B : Int) < addedV c u.yr
          · left
            have h0 : ∀ x : Int, (A : Int) < x → x ≤ B → cwE c u.yr t x = 0 ∧ cwV c u.yr t x = x + 0 := fun x h1 h2 => by
              rcases sh x h1 h2 with h | h | h | h | h | h <;> first | (exfalso; omega) | exact ⟨h.1, by omega⟩
            exact ⟨0, by omega, by omega, h0, one 0 (by omega) (by omega) h0, by omega⟩
          · right; left
            have h0 : ∀ x : Int, (A : Int) < x → x ≤ B → x ≠ addedV c u.yr → cwE c u.yr t x = 0 ∧ cwV c u.yr t x = if x < addedV c u.yr then x else x - 1 := fun x h1 h2 hne => by
              rcases sh x h1 h2 with h | h | h | h | h | h <;> first | (exfalso; omega) | exact ⟨h.1, by split <;> omega⟩
            have h12 : cwE c u.yr t (addedV c u.yr) = 12 := by
              rcases sh (addedV c u.yr) (by omega) (by omega) with h | h | h | h | h | h <;> first | (exfalso; omega) | exact h.1
            refine ⟨addedV c u.yr, by omega, by omega, hp3, g4, g5, rfl, h12, h0, ?_⟩
            obtain ⟨p, hp⟩ : ∃ p : Nat, addedV c u.yr = (A : Int) + 1 + p := ⟨(addedV c u.yr - A - 1).toNat, by omega⟩
            have e : wksL c u = wkU ⟨5, u.yr, (A : Int) + 1⟩ p ++ (wkU ⟨5, u.yr, (A : Int) + 1 + p⟩ 1 ++ wkU ⟨5, u.yr, (A : Int) + 1 + p + (1 : Nat)⟩ (B - A - p - 1)) := by
              rw [← wk_cut, ← wk_cut, wksL, hAA, hBB]
              congr 1
              omega
            rw [e, cmp_app, cmp_app, cmp_run _ 0 p (fun j hj => by have := h0 ((A : Int) + 1 + j) (by omega) (by omega) (by omega); rw [if_pos (by omega)] at this; exact ⟨this.1, by omega⟩), cmp_gone (by rw [← hp, h12]; decide), cmp_run _ (-1) (B - A - p - 1) (fun j hj => by have := h0 ((A : Int) + 1 + p + (1 : Nat) + j) (by omega) (by omega) (by omega); rw [if_neg (by omega)] at this; exact ⟨this.1, by omega⟩)]
            rw [List.nil_append, Int.add_zero, show B - A - 1 = p + (B - A - p - 1) by omega, segL, segL, segL, upto_add]
            congr 1
            refine upto_congr fun j _ => ?_
            congr 1
            omega
end Go.Proofs.Ytpngdeegdkifnaa

namespace Go.Proofs.Ytpngdeegdkifnaa
open Go.RowKit Qd
set_option linter.unusedSimpArgs false
set_option linter.unusedVariables false

theorem wk_span {c : Cal} {y : Int} (hf : frameE c 5 y = 0) (i : Nat) (hi : i < nWk c y) : unitE c ⟨5, y, (i : Int) + 1⟩ = 0 ∧ spV c ⟨5, y, (i : Int) + 1⟩ = ⟨dayW c y i, dayW c y (i + 1) - 1⟩ := by
  have h1 := un_mk hf i (by rw [cnt_5]; exact hi)
  have h2 := sp_mk hf i (by rw [cnt_5]; exact hi)
  refine ⟨h1.1, ?_⟩
  rw [h2]
  simp [cutN]
theorem start_adj {c : Cal} {z : Int} (hA : askE c z 1601 = 0) (hA2 : askE c (z + 1) 1601 = 0) (h7 : daysV c z = 7 * wksV c z) : startV c (z + 1) = startV c z + 7 * wksV c z := by
  have h1 := start_next c z hA2
  have h2 : daysV c z = endV c z - startV c z + 1 := by simp [daysV, hA]
  omega
theorem srv_frame {c : Cal} {z : Int} (hk : c.okB = true) (hz : srv c z) {lv : Int} (h1 : 1 ≤ lv) (h5 : lv ≤ 5) : frameE c lv z = 0 := frame_is (by simpa [Cal.okB] using hk) h1 h5 hz.1 hz.2
/-- The days of a week that is counted from a year's first one. -/
theorem pl_span {c : Cal} {t n : Int} (hk : c.okB = true) (hk6 : c.kind ≠ 6) (ht : srv c t) (hn : -40 ≤ n ∧ n ≤ 100) (hz : srv c (plU c t n).yr) :
    unitE c (plU c t n) = 0 ∧ (plU c t n).lv = 5 ∧ spV c (plU c t n) = ⟨startV c t + 7 * (n - 1), startV c t + 7 * n - 1⟩ := by
  obtain ⟨_, a0, w0, d0⟩ := wks_beside hk hk6 ht t (by omega) (by omega)
  obtain ⟨_, a1, w1, d1⟩ := wks_beside hk hk6 ht (t - 1) (by omega) (by omega)
  obtain ⟨_, a2, w2, d2⟩ := wks_beside hk hk6 ht (t + 1) (by omega) (by omega)
  have s1 := start_adj a1 (by rw [show t - 1 + 1 = t by omega]; exact a0) d1
  rw [show t - 1 + 1 = t by omega] at s1
  have s2 := start_adj a0 a2 d0
  unfold plU at hz ⊢
  split at hz
  · rename_i h
    rw [if_pos h]
    simp only at hz ⊢
    have hw := nwk_wks hk hk6 hz
    obtain ⟨i, hi⟩ : ∃ i : Nat, n + wksV c (t - 1) = (i : Int) + 1 := ⟨(n + wksV c (t - 1) - 1).toNat, by omega⟩
    obtain ⟨g1, g2⟩ := wk_span (srv_frame hk hz (by decide) (by decide)) i (by omega)
    rw [hi]
    refine ⟨g1, trivial, ?_⟩
    rw [g2, dayW_7 c _ a1 hk6 i (by omega), dayW_7 c _ a1 hk6 (i + 1) (by omega)]
    simp only [Sp.mk.injEq]
    constructor <;> omega
  · rename_i h
    split at hz
    · rename_i h2
      rw [if_neg h, if_pos h2]
      simp only at hz ⊢
      have hw := nwk_wks hk hk6 hz
      obtain ⟨i, hi⟩ : ∃ i : Nat, n = (i : Int) + 1 := ⟨(n - 1).toNat, by omega⟩
      obtain ⟨g1, g2⟩ := wk_span (srv_frame hk hz (by decide) (by decide)) i (by omega)
      rw [hi]
      refine ⟨g1, trivial, ?_⟩
      rw [g2, dayW_7 c _ a0 hk6 i (by omega), dayW_7 c _ a0 hk6 (i + 1) (by omega)]
      simp only [Sp.mk.injEq]
      constructor <;> omega
    · rename_i h2
      rw [if_neg h, if_neg h2]
      simp only at hz ⊢
      have hw := nwk_wks hk hk6 hz
      obtain ⟨i, hi⟩ : ∃ i : Nat, n - wksV c t = (i : Int) + 1 := ⟨(n - wksV c t - 1).toNat, by omega⟩
      obtain ⟨g1, g2⟩ := wk_span (srv_frame hk hz (by decide) (by decide)) i (by omega)
      rw [hi]
      refine ⟨g1, trivial, ?_⟩
      rw [g2, dayW_7 c _ a2 hk6 i (by omega), dayW_7 c _ a2 hk6 (i + 1) (by omega)]
      simp only [Sp.mk.injEq]
      constructor <;> omega

/-- With which weeks a unit of a year by months is compared. -/
def monthL (c : Cal) (u : Un) (t : Int) : List Un :=
  if u.lv = 5 then wkU ⟨5, t, (cutA c ⟨4, t, (upV c u 4).ix⟩ : Int) + 1 + (u.ix - ((cutA c (upV c u 4) : Int) + 1))⟩ (min (cutB c ⟨4, t, (upV c u 4).ix⟩ : Int) ((cutA c ⟨4, t, (upV c u 4).ix⟩ : Int) + 1 + (u.ix - ((cutA c (upV c u 4) : Int) + 1))) + 1 - ((cutA c ⟨4, t, (upV c u 4).ix⟩ : Int) + 1 + (u.ix - ((cutA c (upV c u 4) : Int) + 1)))).toNat
  else wksL c ⟨u.lv, t, u.ix⟩
def twL0 (c : Cal) (u : Un) (k : Int) : List Un := if c.kind = 6 then monthL c u (u.yr + k) else cmpL c u.yr (u.yr + k) (wksL c u)
/-- Whether all are of served years. -/
def inB (c : Cal) (l : List Un) : Bool := l.all fun w => decide (c.first ≤ w.yr) && decide (w.yr ≤ c.last)
theorem inB_mem {c : Cal} {l : List Un} (h : inB c l = true) {w : Un} (hw : w ∈ l) : srv c w.yr := by
  have := List.all_eq_true.1 h w hw
  simpa [srv] using this
def twE (c : Cal) (u : Un) (k : Int) : Int := if unitE c u = 0 then (if c.first ≤ u.yr + k ∧ u.yr + k ≤ c.last then (if inB c (twL0 c u k) = true then (if (twL0 c u k).length = 0 then 12 else 0) else 11) else 11) else unitE c u
def twL (c : Cal) (u : Un) (k : Int) : List Un := if twE c u k = 0 then twL0 c u k else []
theorem tw_ok {c : Cal} {u : Un} {k : Int} (h : twE c u k = 0) : unitE c u = 0 ∧ (c.first ≤ u.yr + k ∧ u.yr + k ≤ c.last) ∧ inB c (twL0 c u k) = true ∧ 0 < (twL0 c u k).length ∧ twL c u k = twL0 c u k := by
  have e : twL c u k = twL0 c u k := by rw [twL, if_pos h]
  unfold twE at h
  split at h
  · rename_i h1
    split at h
    · rename_i h2
      split at h
      · rename_i h3
        split at h
        · omega
        · rename_i h4; exact ⟨h1, h2, h3, by omega, e⟩
      · omega
    · omega
  · rename_i h1; exact absurd h h1
theorem tw_no {c : Cal} {u : Un} {k : Int} (h : ¬ twE c u k = 0) : twL c u k = [] := by rw [twL, if_neg h]

/-- Spans one behind the other. -/
def adjS (f : Nat → Int) (m : Nat) : List Sp := upto (fun j => (⟨f j, f (j + 1) - 1⟩ : Sp)) m
theorem seg_map {c : Cal} {t n : Int} (m : Nat) (hk : c.okB = true) (hk6 : c.kind ≠ 6) (ht : srv c t) (hn : -40 ≤ n ∧ n + m ≤ 100) (hz : ∀ w ∈ segL c t n m, srv c w.yr) :
    (segL c t n m).map (spV c) = adjS (fun j => startV c t + 7 * (n + j - 1)) m ∧ ∀ w ∈ segL c t n m, unitE c w = 0 ∧ w.lv = 5 := by
  have key : ∀ j : Nat, j < m → unitE c (plU c t (n + j)) = 0 ∧ (plU c t (n + j)).lv = 5 ∧ spV c (plU c t (n + j)) = ⟨startV c t + 7 * (n + j - 1), startV c t + 7 * (n + j) - 1⟩ := fun j hj =>
    pl_span hk hk6 ht (by omega) (hz _ (List.mem_map.2 ⟨j, List.mem_range.2 hj, rfl⟩))
  refine ⟨?_, ?_⟩
  · have e0 : (segL c t n m).map (spV c) = upto (fun j : Nat => spV c (plU c t (n + j))) m := by simp [segL, upto, List.map_map, Function.comp_def]
    rw [e0]
    refine upto_congr fun j hj => ?_
    rw [(key j hj).2.2]
    have e1 : startV c t + 7 * (n + (j : Int)) - 1 = startV c t + 7 * (n + ((j + 1 : Nat) : Int) - 1) - 1 := by omega
    rw [e1]
  · intro w hw
    obtain ⟨j, hj, rfl⟩ := List.mem_map.1 hw
    have := key j (List.mem_range.1 hj)
    exact ⟨this.1, this.2.1⟩
theorem wk_map {c : Cal} {t : Int} (i m : Nat) (hf : frameE c 5 t = 0) (h : i + m ≤ nWk c t) :
    (wkU ⟨5, t, (i : Int) + 1⟩ m).map (spV c) = adjS (fun j => dayW c t (i + j)) m ∧ ∀ w ∈ wkU ⟨5, t, (i : Int) + 1⟩ m, unitE c w = 0 ∧ w.lv = 5 := by
  have key : ∀ j : Nat, j < m → unitE c ⟨5, t, (i : Int) + 1 + j⟩ = 0 ∧ spV c ⟨5, t, (i : Int) + 1 + j⟩ = ⟨dayW c t (i + j), dayW c t (i + j + 1) - 1⟩ := fun j hj => by
    have := wk_span hf (i + j) (by omega)
    rw [show ((i + j : Nat) : Int) + 1 = (i : Int) + 1 + j by omega] at this
    exact this
  refine ⟨?_, ?_⟩
  · have : (wkU ⟨5, t, (i : Int) + 1⟩ m).map (spV c) = upto (fun j : Nat => spV c ⟨5, t, (i : Int) + 1 + j⟩) m := by simp [wkU, upto, List.map_map, Function.comp_def]
    rw [this]
    exact upto_congr fun j hj => (key j hj).2
  · intro w hw
    obtain ⟨j, hj, rfl⟩ := List.mem_map.1 hw
    exact ⟨(key j (List.mem_range.1 hj)).1, rfl⟩

/-- A unit of a year by months has one of the same number in any other year. -/
theorem mon_same {c : Cal} {u : Un} {t : Int} (hU : unitE c u = 0) (ht : srv c t) (h4 : ¬ u.lv = 5) : unitE c ⟨u.lv, t, u.ix⟩ = 0 := by
  obtain ⟨hf, l1, l5, hA, hx, hi⟩ := un_lv hU
  obtain ⟨hok, hk, _, _, hy1, hy2, _⟩ := frame_ok hf
  have e : cntL c t u.lv = cntL c u.yr u.lv := by
    unfold cntL
    rw [per_same hk t u.yr]
    repeat' split
    all_goals first | rfl | (exfalso; omega)
  have := (un_mk (srv_frame hk ht l1 l5) (uI u) (by rw [e]; exact hi)).1
  rw [hx]
  exact this
/-- Of a week of a year by months. -/
theorem mon_week {c : Cal} {u : Un} {t : Int} (hU : unitE c u = 0) (ht : srv c t) (h5 : u.lv = 5) :
    ∃ i : Nat, upV c u 4 = ⟨4, u.yr, (i : Int) + 1⟩ ∧ upE c u 4 = 0 ∧ unitE c ⟨4, u.yr, (i : Int) + 1⟩ = 0 ∧ unitE c ⟨4, t, (i : Int) + 1⟩ = 0 ∧ cutA c ⟨4, u.yr, (i : Int) + 1⟩ ≤ cutA c u ∧ cutB c u ≤ cutB c ⟨4, u.yr, (i : Int) + 1⟩ ∧ u.ix = (cutA c u : Int) + 1 ∧ cutB c u = cutA c u + 1 := by
  obtain ⟨hf, l1, l5, hA, hx, hi⟩ := un_lv hU
  obtain ⟨hok, hk, _, _, hy1, hy2, _⟩ := frame_ok hf
  obtain ⟨i, e0, e1, e2, e3, e4⟩ := up_facts hU (lv := 4) (by decide) (by omega)
  have hf4 : frameE c 4 u.yr = 0 := srv_frame hk ⟨hy1, hy2⟩ (by decide) (by decide)
  have g := un_mk hf4 i e2
  have gt := un_mk (srv_frame hk ht (by decide) (by decide) : frameE c 4 t = 0) i (by rw [cnt_4] at e2 ⊢; rw [per_same hk t u.yr]; exact e2)
  refine ⟨i, e1, e0, g.1, gt.1, by rw [g.2.1]; exact e3, by rw [g.2.2]; exact e4, ?_, ?_⟩
  · rw [cutA, h5]; simp [cutN]; exact hx
  · rw [cutA, cutB, h5]; simp [cutN]
theorem mon_form {c : Cal} {u : Un} {t : Int} (hU : unitE c u = 0) (ht : srv c t) : ∃ i m : Nat, monthL c u t = wkU ⟨5, t, (i : Int) + 1⟩ m ∧ (0 < m → i + m ≤ nWk c t) := by
  obtain ⟨hf, l1, l5, hA, hx, hi⟩ := un_lv hU
  unfold monthL
  by_cases h5 : u.lv = 5
  · rw [if_pos h5]
    obtain ⟨i, e1, e0, g, gt, e3, e4, e5, e6⟩ := mon_week hU ht h5
    rw [e1]
    simp only
    have hb := cutAB gt
    simp only at hb
    refine ⟨cutA c ⟨4, t, (i : Int) + 1⟩ + (cutA c u - cutA c ⟨4, u.yr, (i : Int) + 1⟩), (min (cutB c ⟨4, t, (i : Int) + 1⟩ : Int) ((cutA c ⟨4, t, (i : Int) + 1⟩ : Int) + 1 + (u.ix - ((cutA c ⟨4, u.yr, (i : Int) + 1⟩ : Int) + 1))) + 1 - ((cutA c ⟨4, t, (i : Int) + 1⟩ : Int) + 1 + (u.ix - ((cutA c ⟨4, u.yr, (i : Int) + 1⟩ : Int) + 1)))).toNat, ?_, ?_⟩
    · rw [show ((cutA c ⟨4, t, (i : Int) + 1⟩ : Int) + 1 + (u.ix - ((cutA c ⟨4, u.yr, (i : Int) + 1⟩ : Int) + 1))) = ((cutA c ⟨4, t, (i : Int) + 1⟩ + (cutA c u - cutA c ⟨4, u.yr, (i : Int) + 1⟩) : Nat) : Int) + 1 by omega]
    · intro h
      omega
  · rw [if_neg h5]
    have hU2 := mon_same hU ht h5
    have hb := cutAB hU2
    exact ⟨cutA c ⟨u.lv, t, u.ix⟩, cutB c ⟨u.lv, t, u.ix⟩ - cutA c ⟨u.lv, t, u.ix⟩, rfl, fun _ => by simp only at hb; omega⟩

/-- The days of what a unit is compared with: one run of weeks, or two. -/
theorem tw_form {c : Cal} {u : Un} {k : Int} (h : twE c u k = 0) :
    ∃ (f g : Nat → Int) (m n : Nat), 0 < m ∧ m + n ≤ 60 ∧ (twL c u k).length = m + n ∧ (twL c u k).map (spV c) = adjS f m ++ adjS g n ∧ (∀ j, j < m → f j < f (j + 1)) ∧ (∀ j, j < n → g j < g (j + 1)) ∧ (0 < n → f m < g 0) ∧ ∀ w ∈ twL c u k, unitE c w = 0 ∧ w.lv = 5 := by
  obtain ⟨hU, ht, hin, hlen, hL⟩ := tw_ok h
  obtain ⟨hf, l1, l5, hA, hx, hi⟩ := un_lv hU
  obtain ⟨hok, hk, _, _, hy1, hy2, _⟩ := frame_ok hf
  have hst : srv c (u.yr + k) := ht
  rw [hL]
  by_cases hk6 : c.kind = 6
  · have e : twL0 c u k = monthL c u (u.yr + k) := by rw [twL0, if_pos hk6]
    rw [e] at hlen ⊢
    obtain ⟨i, m, e2, hb⟩ := mon_form hU hst
    rw [e2] at hlen ⊢
    rw [wkU_len] at hlen ⊢
    have hft : frameE c 5 (u.yr + k) = 0 := srv_frame hk hst (by decide) (by decide)
    have hA2 := (frame_ok hft).2.2.2.2.2.2
    obtain ⟨q1, q2⟩ := wk_map i m hft (hb hlen)
    have hb60 := nWk_bd c _ hA2
    have := hb hlen
    refine ⟨fun j => dayW c (u.yr + k) (i + j), fun _ => 0, m, 0, hlen, by omega, rfl, by rw [q1]; simp [adjS, upto], fun j hj => ?_, fun j hj => absurd hj (by omega), fun h0 => absurd h0 (by omega), q2⟩
    have := dayW_lt c (u.yr + k) hA2 (show i + j < i + (j + 1) by omega) (by omega)
    simp only
    omega
  · have e : twL0 c u k = cmpL c u.yr (u.yr + k) (wksL c u) := by rw [twL0, if_neg hk6]
    rw [e] at hlen hin ⊢
    have hab := cutAB hU
    have hb60 := nWk_bd c _ hA
    rcases cmp_shape hU hk6 hst with ⟨s, s1, s2, _, e2, _⟩ | ⟨a, a1, a2, _, _, _, _, _, _, e2⟩ | ⟨a, a1, a2, _, _, _, _, _, e2⟩
    · rw [e2] at hlen hin ⊢
      rw [segL_len] at hlen ⊢
      obtain ⟨q1, q2⟩ := seg_map (n := (cutA c u : Int) + 1 + s) (cutB c u - cutA c u) hk hk6 hst (by omega) (fun w hw => inB_mem hin hw)
      exact ⟨fun j => startV c (u.yr + k) + 7 * ((cutA c u : Int) + 1 + s + j - 1), fun _ => 0, _, 0, hlen, by omega, rfl, by rw [q1]; simp [adjS, upto], fun j hj => by simp only; omega, fun j hj => absurd hj (by omega), fun h0 => absurd h0 (by omega), q2⟩
    · rw [e2] at hlen hin ⊢
      rw [segL_len] at hlen ⊢
      obtain ⟨q1, q2⟩ := seg_map (n := (cutA c u : Int) + 1) (cutB c u - cutA c u - 1) hk hk6 hst (by omega) (fun w hw => inB_mem hin hw)
      exact ⟨fun j => startV c (u.yr + k) + 7 * ((cutA c u : Int) + 1 + j - 1), fun _ => 0, _, 0, hlen, by omega, rfl, by rw [q1]; simp [adjS, upto], fun j hj => by simp only; omega, fun j hj => absurd hj (by omega), fun h0 => absurd h0 (by omega), q2⟩
    · rw [e2] at hlen hin ⊢
      rw [List.length_append, segL_len, segL_len] at hlen ⊢
      obtain ⟨q1, q2⟩ := seg_map (n := (cutA c u : Int) + 1) (a - 1 - cutA c u).toNat hk hk6 hst (by omega) (fun w hw => inB_mem hin (List.mem_append.2 (.inl hw)))
      obtain ⟨r1, r2⟩ := seg_map (n := a + 1) (cutB c u - a + 1).toNat hk hk6 hst (by omega) (fun w hw => inB_mem hin (List.mem_append.2 (.inr hw)))
      refine ⟨fun j => startV c (u.yr + k) + 7 * ((cutA c u : Int) + 1 + j - 1), fun j => startV c (u.yr + k) + 7 * (a + 1 + j - 1), _, _, by omega, by omega, rfl, by rw [List.map_append, q1, r1], fun j hj => by simp only; omega, fun j hj => by simp only; omega, fun h0 => by simp only; omega, fun w hw => ?_⟩
      rcases List.mem_append.1 hw with hw | hw
      · exact q2 w hw
      · exact r2 w hw
/-- The runs of days. -/
def rnL (c : Cal) (u : Un) (k : Int) : List Sp := runsL ((twL c u k).map (spV c))
theorem rn_form {f g : Nat → Int} {m n : Nat} (h : 0 < m) (hg : 0 < n → f m < g 0) : runsL (adjS f m ++ adjS g n) = if n = 0 then [⟨f 0, f m - 1⟩] else [⟨f 0, f m - 1⟩, ⟨g 0, g n - 1⟩] := by
  split
  · rename_i h0
    subst h0
    rw [show adjS g 0 = [] by simp [adjS, upto], List.append_nil]
    exact runs_one f m h
  · exact runs_two f g m n h (by omega) (by have := hg (by omega); omega)
theorem tw0_len {c : Cal} {u : Un} {k : Int} (hU : unitE c u = 0) (ht : c.first ≤ u.yr + k ∧ u.yr + k ≤ c.last) : (twL0 c u k).length ≤ 60 := by
  obtain ⟨hf, l1, l5, hA, hx, hi⟩ := un_lv hU
  obtain ⟨hok, hk, _, _, hy1, hy2, _⟩ := frame_ok hf
  have hb60 := nWk_bd c _ hA
  unfold twL0
  split
  · obtain ⟨i, m, e, hm⟩ := mon_form (t := u.yr + k) hU ht
    rw [e, wkU_len]
    have hft : frameE c 5 (u.yr + k) = 0 := srv_frame hk ht (by decide) (by decide)
    have := nWk_bd c _ (frame_ok hft).2.2.2.2.2.2
    rcases Nat.eq_zero_or_pos m with h | h
    · omega
    · have := hm h; omega
  · have h1 := cmpL_le c u.yr (u.yr + k) (wksL c u)
    have h2 : (wksL c u).length = cutB c u - cutA c u := wkU_len _ _
    have hab := cutAB hU
    omega
end Go.Proofs.Ytpngdeegdkifnaa

namespace Go.Proofs.Ytpngdeegdkifnaa
open Go.RowKit Qd
set_option linter.unusedSimpArgs false
set_option linter.unusedVariables false

/-- The weeks of a unit are together its days. -/
theorem wks_run {c : Cal} {v : Un} (hv : unitE c v = 0) : runsL ((wksL c v).map (spV c)) = [spV c v] ∧ 0 < (wksL c v).length ∧ inB c (wksL c v) = true := by
  obtain ⟨hf, l1, l5, hA, hx, hi⟩ := un_lv hv
  obtain ⟨hok, hk, _, _, hy1, hy2, _⟩ := frame_ok hf
  have hab := cutAB hv
  have hf5 : frameE c 5 v.yr = 0 := srv_frame hk ⟨hy1, hy2⟩ (by decide) (by decide)
  obtain ⟨q1, q2⟩ := wk_map (cutA c v) (cutB c v - cutA c v) hf5 (by omega)
  refine ⟨?_, by rw [wksL, wkU_len]; omega, ?_⟩
  · rw [wksL, q1, adjS, runs_one _ _ (by omega), sp_get hv]
    simp only [Nat.add_zero]
    rw [show cutA c v + (cutB c v - cutA c v) = cutB c v by omega]
  · refine List.all_eq_true.2 fun w hw => ?_
    obtain ⟨j, hj, rfl⟩ := List.mem_map.1 hw
    simp [hy1, hy2]
theorem cmp_self {c : Cal} {u : Un} (hU : unitE c u = 0) (hk6 : c.kind ≠ 6) : cmpL c u.yr u.yr (wksL c u) = wksL c u := by
  obtain ⟨hf, l1, l5, hA, hx, hi⟩ := un_lv hU
  obtain ⟨hok, hk, _, _, hy1, hy2, _⟩ := frame_ok hf
  have hy : srv c u.yr := ⟨hy1, hy2⟩
  have hab := cutAB hU
  have hw := nwk_wks hk hk6 hy
  rcases cmp_shape hU hk6 hy with ⟨s, _, _, h, e2, _⟩ | ⟨a, _, _, _, h1, h2, _⟩ | ⟨a, _, _, _, h1, h2, _⟩
  · have hx1 := h ((cutA c u : Int) + 1) (by omega) (by omega)
    have hs : s = 0 := by
      rcases cw_shift hk hk6 hy hy (x := (cutA c u : Int) + 1) ⟨by omega, by omega⟩ with g | g | g | g | g | g <;> omega
    subst hs
    rw [e2, segL, wksL, wkU]
    refine upto_congr fun j hj => ?_
    rw [plU, if_neg (by omega), if_pos (by omega)]
    simp only [Un.mk.injEq, true_and]
    omega
  · omega
  · omega
theorem mon_self {c : Cal} {u : Un} (hU : unitE c u = 0) : monthL c u u.yr = wksL c u := by
  obtain ⟨hf, l1, l5, hA, hx, hi⟩ := un_lv hU
  obtain ⟨hok, hk, _, _, hy1, hy2, _⟩ := frame_ok hf
  unfold monthL
  by_cases h5 : u.lv = 5
  · rw [if_pos h5]
    obtain ⟨i, e1, e0, hg, hgt, e3, e4, e5, e6⟩ := mon_week (t := u.yr) hU ⟨hy1, hy2⟩ h5
    rw [e1]
    simp only
    rw [wksL, show ((cutA c ⟨4, u.yr, (i : Int) + 1⟩ : Int) + 1 + (u.ix - ((cutA c ⟨4, u.yr, (i : Int) + 1⟩ : Int) + 1))) = (cutA c u : Int) + 1 by omega, show (min (cutB c ⟨4, u.yr, (i : Int) + 1⟩ : Int) ((cutA c u : Int) + 1) + 1 - ((cutA c u : Int) + 1)).toNat = cutB c u - cutA c u by omega]
  · rw [if_neg h5]
/-- In its own year a unit is compared with itself. -/
theorem tw_self {c : Cal} {u : Un} (hU : unitE c u = 0) : twE c u 0 = 0 ∧ rnL c u 0 = [spV c u] := by
  obtain ⟨hf, l1, l5, hA, hx, hi⟩ := un_lv hU
  obtain ⟨hok, hk, _, _, hy1, hy2, _⟩ := frame_ok hf
  obtain ⟨w1, w2, w3⟩ := wks_run hU
  have e : twL0 c u 0 = wksL c u := by
    rw [twL0, Int.add_zero]
    split
    · exact mon_self hU
    · rename_i h6; exact cmp_self hU h6
  have hE : twE c u 0 = 0 := by
    rw [twE, if_pos hU, if_pos ⟨by omega, by omega⟩, e, if_pos w3, if_neg (by omega)]
  refine ⟨hE, ?_⟩
  rw [rnL, (tw_ok hE).2.2.2.2, e, w1]
/-- By months a unit is compared with that of the same number, a week with that of its place. -/
theorem mon_run {c : Cal} {u : Un} {k : Int} (h : twE c u k = 0) (h6 : c.kind = 6) :
    (¬ u.lv = 5 ∧ unitE c ⟨u.lv, u.yr + k, u.ix⟩ = 0 ∧ rnL c u k = [spV c ⟨u.lv, u.yr + k, u.ix⟩]) ∨
    (u.lv = 5 ∧ ∃ i : Nat, upV c u 4 = ⟨4, u.yr, (i : Int) + 1⟩ ∧ upE c u 4 = 0 ∧ unitE c ⟨4, u.yr, (i : Int) + 1⟩ = 0 ∧ unitE c ⟨4, u.yr + k, (i : Int) + 1⟩ = 0 ∧
      unitE c ⟨5, u.yr + k, u.ix - ((cutA c ⟨4, u.yr, (i : Int) + 1⟩ : Int) + 1) + ((cutA c ⟨4, u.yr + k, (i : Int) + 1⟩ : Int) + 1)⟩ = 0 ∧
      rnL c u k = [spV c ⟨5, u.yr + k, u.ix - ((cutA c ⟨4, u.yr, (i : Int) + 1⟩ : Int) + 1) + ((cutA c ⟨4, u.yr + k, (i : Int) + 1⟩ : Int) + 1)⟩]) := by
  obtain ⟨hU, ht, hin, hlen, hL⟩ := tw_ok h
  obtain ⟨hf, l1, l5, hA, hx, hi⟩ := un_lv hU
  obtain ⟨hok, hk, _, _, hy1, hy2, _⟩ := frame_ok hf
  have hst : srv c (u.yr + k) := ht
  have e : twL0 c u k = monthL c u (u.yr + k) := by rw [twL0, if_pos h6]
  rw [e] at hlen hL
  by_cases h5 : u.lv = 5
  · right
    obtain ⟨i, e1, e0, hg, hgt, e3, e4, e5, e6⟩ := mon_week hU hst h5
    refine ⟨h5, i, e1, e0, hg, hgt, ?_⟩
    have hb := cutAB hgt
    simp only at hb
    have hm : monthL c u (u.yr + k) = wkU ⟨5, u.yr + k, (cutA c ⟨4, u.yr + k, (i : Int) + 1⟩ : Int) + 1 + (u.ix - ((cutA c ⟨4, u.yr, (i : Int) + 1⟩ : Int) + 1))⟩ (min (cutB c ⟨4, u.yr + k, (i : Int) + 1⟩ : Int) ((cutA c ⟨4, u.yr + k, (i : Int) + 1⟩ : Int) + 1 + (u.ix - ((cutA c ⟨4, u.yr, (i : Int) + 1⟩ : Int) + 1))) + 1 - ((cutA c ⟨4, u.yr + k, (i : Int) + 1⟩ : Int) + 1 + (u.ix - ((cutA c ⟨4, u.yr, (i : Int) + 1⟩ : Int) + 1)))).toNat := by rw [monthL, if_pos h5, e1]
    rw [hm] at hlen hL
    rw [wkU_len] at hlen
    generalize hA1 : cutA c ⟨4, u.yr + k, (i : Int) + 1⟩ = A1 at *
    generalize hA0 : cutA c ⟨4, u.yr, (i : Int) + 1⟩ = A0 at *
    generalize hB1 : cutB c ⟨4, u.yr + k, (i : Int) + 1⟩ = B1 at *
    obtain ⟨j, hj⟩ : ∃ j : Nat, (A1 : Int) + 1 + (u.ix - ((A0 : Int) + 1)) = (j : Int) + 1 := ⟨A1 + (cutA c u - A0), by omega⟩
    rw [show u.ix - ((A0 : Int) + 1) + ((A1 : Int) + 1) = (j : Int) + 1 by omega]
    rw [hj] at hL hlen
    have hm1 : (min (B1 : Int) ((j : Int) + 1) + 1 - ((j : Int) + 1)).toNat = 1 := by omega
    rw [hm1] at hL
    have hjn : j < nWk c (u.yr + k) := by omega
    have hs := wk_span (srv_frame hk hst (by decide) (by decide) : frameE c 5 (u.yr + k) = 0) j hjn
    refine ⟨hs.1, ?_⟩
    rw [rnL, hL]
    simp [wkU, upto, runsL, runAdd]
  · left
    have hU2 := mon_same hU hst h5
    obtain ⟨w1, _, _⟩ := wks_run hU2
    refine ⟨h5, hU2, ?_⟩
    rw [rnL, hL, monthL, if_neg h5, w1]
theorem unit_codes (c : Cal) (u : Un) : unitE c u = 0 ∨ unitE c u = 13 ∨ unitE c u = 11 ∨ unitE c u = 1 := by
  unfold unitE frameE
  repeat' split
  all_goals omega
/-- By months only a week may have none. -/
theorem mon_gone {c : Cal} {u : Un} {k : Int} (h6 : c.kind = 6) (h : twE c u k = 12) : u.lv = 5 := by
  by_cases hU : unitE c u = 0
  · by_cases ht : c.first ≤ u.yr + k ∧ u.yr + k ≤ c.last
    · by_cases h5 : u.lv = 5
      · exact h5
      · have hU2 := mon_same hU (show srv c (u.yr + k) from ht) h5
        obtain ⟨_, w2, _⟩ := wks_run hU2
        rw [twE, if_pos hU, if_pos ht] at h
        have e : twL0 c u k = wksL c ⟨u.lv, u.yr + k, u.ix⟩ := by rw [twL0, if_pos h6, monthL, if_neg h5]
        rw [e, if_neg (show ¬ (wksL c ⟨u.lv, u.yr + k, u.ix⟩).length = 0 by omega)] at h
        split at h <;> omega
    · rw [twE, if_pos hU, if_neg ht] at h; omega
  · rw [twE, if_neg hU] at h
    have := unit_codes c u
    omega
/-- How many weeks a unit is compared with. -/
theorem tw_count {c : Cal} {u : Un} {k : Int} (h : twE c u k = 0) (hk6 : c.kind ≠ 6) :
    (c.policy = 3 ∧ 0 < addedV c u.yr ∧ addedV c (u.yr + k) = 0 ∧ (cutA c u : Int) + 1 ≤ addedV c u.yr ∧ addedV c u.yr ≤ cutB c u ∧ ((twL c u k).length : Int) = (cutB c u : Int) - cutA c u - 1) ∨
    (¬ (c.policy = 3 ∧ 0 < addedV c u.yr ∧ addedV c (u.yr + k) = 0 ∧ (cutA c u : Int) + 1 ≤ addedV c u.yr ∧ addedV c u.yr ≤ cutB c u) ∧ ((twL c u k).length : Int) = (cutB c u : Int) - cutA c u) := by
  obtain ⟨hU, ht, hin, hlen, hL⟩ := tw_ok h
  obtain ⟨hf, l1, l5, hA, hx, hi⟩ := un_lv hU
  obtain ⟨hok, hk, _, _, hy1, hy2, _⟩ := frame_ok hf
  have hst : srv c (u.yr + k) := ht
  have hab := cutAB hU
  have ad := added_two hk hk6 ⟨hy1, hy2⟩ hst
  have e : twL0 c u k = cmpL c u.yr (u.yr + k) (wksL c u) := by rw [twL0, if_neg hk6]
  rw [hL, e]
  rcases cmp_shape hU hk6 hst with ⟨s, s1, s2, _, e2, hno⟩ | ⟨a, a1, a2, p, wy, wt, rfl, _, _, e2⟩ | ⟨a, a1, a2, p, wy, wt, rfl, _, e2⟩
  · right
    rw [e2, segL_len]
    refine ⟨fun hq => ?_, by omega⟩
    omega
  · left
    rw [e2, segL_len]
    omega
  · right
    rw [e2, List.length_append, segL_len, segL_len]
    refine ⟨fun hq => ?_, by omega⟩
    omega

/-- The runs of days of a unit of a year of weeks. -/
theorem tw_week {c : Cal} {u : Un} {k : Int} (h : twE c u k = 0) (hk6 : c.kind ≠ 6) :
    ∃ (a b : Int) (m n : Nat), 0 < m ∧ m + n ≤ 60 ∧ (twL c u k).length = m + n ∧ (rnL c u k = if n = 0 then [⟨a, a + 7 * m - 1⟩] else [⟨a, a + 7 * m - 1⟩, ⟨b, b + 7 * n - 1⟩]) ∧ (0 < n → a + 7 * m < b) ∧ 0 ≤ a ∧ a ≤ 3068037 ∧ (0 < n → b ≤ 3068037) := by
  obtain ⟨hU, ht, hin, hlen, hL⟩ := tw_ok h
  obtain ⟨hf, l1, l5, hA, hx, hi⟩ := un_lv hU
  obtain ⟨hok, hk, _, _, hy1, hy2, _⟩ := frame_ok hf
  have hst : srv c (u.yr + k) := ht
  have hab := cutAB hU
  have hb60 := nWk_bd c _ hA
  have e : twL0 c u k = cmpL c u.yr (u.yr + k) (wksL c u) := by rw [twL0, if_neg hk6]
  have key : ∀ (n : Int) (m : Nat), 0 < m → (∀ w ∈ segL c (u.yr + k) n m, w ∈ twL c u k) → -40 ≤ n ∧ n + m ≤ 100 → 0 ≤ startV c (u.yr + k) + 7 * (n - 1) ∧ startV c (u.yr + k) + 7 * (n - 1) ≤ 3068037 := by
    intro n m hm hmem hn
    have hw : plU c (u.yr + k) n ∈ segL c (u.yr + k) n m := List.mem_map.2 ⟨0, List.mem_range.2 hm, by simp⟩
    have hz : srv c (plU c (u.yr + k) n).yr := inB_mem hin (by rw [← hL]; exact hmem _ hw)
    obtain ⟨p1, _, p2⟩ := pl_span hk hk6 hst (n := n) (by omega) hz
    have := sp_bd2 p1
    rw [p2] at this
    simp only at this
    omega
  rw [rnL]
  rw [hL] at key ⊢
  rw [e] at hlen hin key ⊢
  rcases cmp_shape hU hk6 hst with ⟨s, s1, s2, _, e2, _⟩ | ⟨a, a1, a2, _, _, _, _, _, _, e2⟩ | ⟨a, a1, a2, _, _, _, _, _, e2⟩
  · rw [e2] at hlen hin key ⊢
    rw [segL_len] at hlen ⊢
    obtain ⟨q1, q2⟩ := seg_map (n := (cutA c u : Int) + 1 + s) (cutB c u - cutA c u) hk hk6 hst (by omega) (fun w hw => inB_mem hin hw)
    have hb := key _ _ hlen (fun w hw => hw) (by omega)
    refine ⟨startV c (u.yr + k) + 7 * ((cutA c u : Int) + 1 + s - 1), 0, _, 0, hlen, by omega, rfl, ?_, fun h0 => absurd h0 (by omega), hb.1, hb.2, fun h0 => absurd h0 (by omega)⟩
    rw [q1, if_pos rfl, adjS, runs_one _ _ hlen]
    simp only [List.cons.injEq, Sp.mk.injEq, and_true]
    constructor <;> omega
  · rw [e2] at hlen hin key ⊢
    rw [segL_len] at hlen ⊢
    obtain ⟨q1, q2⟩ := seg_map (n := (cutA c u : Int) + 1) (cutB c u - cutA c u - 1) hk hk6 hst (by omega) (fun w hw => inB_mem hin hw)
    have hb := key _ _ hlen (fun w hw => hw) (by omega)
    refine ⟨startV c (u.yr + k) + 7 * ((cutA c u : Int) + 1 - 1), 0, _, 0, hlen, by omega, rfl, ?_, fun h0 => absurd h0 (by omega), hb.1, hb.2, fun h0 => absurd h0 (by omega)⟩
    rw [q1, if_pos rfl, adjS, runs_one _ _ hlen]
    simp only [List.cons.injEq, Sp.mk.injEq, and_true]
    constructor <;> omega
  · rw [e2] at hlen hin key ⊢
    rw [List.length_append, segL_len, segL_len] at hlen ⊢
    obtain ⟨q1, q2⟩ := seg_map (n := (cutA c u : Int) + 1) (a - 1 - cutA c u).toNat hk hk6 hst (by omega) (fun w hw => inB_mem hin (List.mem_append.2 (.inl hw)))
    obtain ⟨r1, r2⟩ := seg_map (n := a + 1) (cutB c u - a + 1).toNat hk hk6 hst (by omega) (fun w hw => inB_mem hin (List.mem_append.2 (.inr hw)))
    have hb := key _ _ (show 0 < (a - 1 - cutA c u).toNat by omega) (fun w hw => List.mem_append.2 (.inl hw)) (by omega)
    have hc := key _ _ (show 0 < (cutB c u - a + 1).toNat by omega) (fun w hw => List.mem_append.2 (.inr hw)) (by omega)
    refine ⟨startV c (u.yr + k) + 7 * ((cutA c u : Int) + 1 - 1), startV c (u.yr + k) + 7 * (a + 1 - 1), (a - 1 - cutA c u).toNat, (cutB c u - a + 1).toNat, by omega, by omega, rfl, ?_, fun h0 => by omega, hb.1, hb.2, fun _ => hc.2⟩
    rw [List.map_append, q1, r1, rn_form (by omega) (fun _ => by omega), if_neg (by omega), if_neg (by omega)]
    simp only [List.cons.injEq, Sp.mk.injEq, and_true]
    refine ⟨⟨?_, ?_⟩, ?_, ?_⟩ <;> omega
/-- The days of some spans, together. -/
def sumR (R : List Sp) : Int := (R.map fun s => s.b - s.a + 1).sum
theorem sumR_snoc (R : List Sp) (s : Sp) : sumR (R ++ [s]) = sumR R + (s.b - s.a + 1) := by simp [sumR]
/-- A year that is compared, where weeks are dropped, has as many days as the shorter one. -/
theorem year_sum {c : Cal} {u : Un} {k : Int} (h : twE c u k = 0) (h1 : u.lv = 1) (hp : c.policy = 3) : c.kind ≠ 6 ∧ sumR (rnL c u k) = min (daysV c u.yr) (daysV c (u.yr + k)) ∧ askE c u.yr 1601 = 0 ∧ askE c (u.yr + k) 1601 = 0 ∧ (rnL c u k).length ≤ 2 ∧ (∀ j, 0 ≤ sumR ((rnL c u k).take j) ∧ sumR ((rnL c u k).take j) ≤ 420) ∧ ∀ s ∈ rnL c u k, 0 ≤ s.a ∧ s.a ≤ s.b ∧ s.b ≤ 3068500 := by
  obtain ⟨hU, ht, hin, hlen, hL⟩ := tw_ok h
  obtain ⟨hf, l1, l5, hA, hx, hi⟩ := un_lv hU
  obtain ⟨hok, hk, _, _, hy1, hy2, _⟩ := frame_ok hf
  have hst : srv c (u.yr + k) := ht
  have hk6 : c.kind ≠ 6 := fun h6 => by
    have := hok.2.1.2.2 h6
    omega
  have hcn := tw_count h hk6
  obtain ⟨a, b, m, n, g1, g2, g3, g4, g5, g6, g7, g8⟩ := tw_week h hk6
  have ad := added_two hk hk6 ⟨hy1, hy2⟩ hst
  obtain ⟨_, aY, wY, dY⟩ := wks_beside hk hk6 ⟨hy1, hy2⟩ u.yr (by omega) (by omega)
  obtain ⟨_, aT, wT, dT⟩ := wks_beside hk hk6 hst (u.yr + k) (by omega) (by omega)
  have hw := nwk_wks hk hk6 (show srv c u.yr from ⟨hy1, hy2⟩)
  have hu0 : uI u = 0 := by rw [h1] at hi; simp [cntL] at hi; exact hi
  have hcA : cutA c u = 0 := by rw [cutA, hu0, cut_0]
  have hcB : cutB c u = nWk c u.yr := by
    rw [cutB, hu0, h1]
    have := cut_end c u.yr 1 (by decide) (by decide)
    simpa [cntL] using this
  have had := added_bd hk hk6 ⟨hy1, hy2⟩
  rw [hcA, hcB] at hcn
  have hsum : sumR (rnL c u k) = 7 * ((m : Int) + n) := by
    rw [g4]
    split
    · simp [sumR]; omega
    · simp [sumR]; omega
  refine ⟨hk6, ?_, aY, aT, ?_, ?_, ?_⟩
  · rw [hsum, dY, dT]
    omega
  · rw [g4]; split <;> simp
  · intro j
    rw [g4]
    split
    · rcases j with _ | j
      · simp [sumR]
      · simp [sumR]; omega
    · rcases j with _ | _ | j
      · simp [sumR]
      · simp [sumR]; omega
      · simp [sumR]; omega
  · intro s hs
    rw [g4] at hs
    split at hs
    · simp only [List.mem_singleton] at hs
      subst hs
      simp only
      omega
    · simp only [List.mem_cons, List.not_mem_nil, or_false] at hs
      rcases hs with rfl | rfl
      · simp only; omega
      · simp only; omega
/-- A year has weeks to be compared with. -/
theorem year_gone {c : Cal} {u : Un} {k : Int} (hU : unitE c u = 0) (h1 : u.lv = 1) (hp : c.policy = 3) : ¬ twE c u k = 12 := by
  obtain ⟨hf, l1, l5, hA, hx, hi⟩ := un_lv hU
  obtain ⟨hok, hk, _, _, hy1, hy2, _⟩ := frame_ok hf
  have hk6 : c.kind ≠ 6 := fun h6 => by
    have := hok.2.1.2.2 h6
    omega
  intro h
  rw [twE, if_pos hU] at h
  split at h
  · rename_i ht
    have hst : srv c (u.yr + k) := ht
    have hu0 : uI u = 0 := by rw [h1] at hi; simp [cntL] at hi; exact hi
    have hcA : cutA c u = 0 := by rw [cutA, hu0, cut_0]
    have hcB : cutB c u = nWk c u.yr := by
      rw [cutB, hu0, h1]
      have := cut_end c u.yr 1 (by decide) (by decide)
      simpa [cntL] using this
    have hb := nWk_bd c _ hA
    have e : 0 < (twL0 c u k).length := by
      rw [twL0, if_neg hk6]
      rcases cmp_shape hU hk6 hst with ⟨s, _, _, _, e2, _⟩ | ⟨a, _, _, _, _, _, _, _, _, e2⟩ | ⟨a, _, _, _, _, _, _, _, e2⟩
      · rw [e2, segL_len]; omega
      · rw [e2, segL_len]; omega
      · rw [e2, List.length_append, segL_len, segL_len]; omega
    rw [if_neg (show ¬ (twL0 c u k).length = 0 by omega)] at h
    split at h <;> omega
  · omega
end Go.Proofs.Ytpngdeegdkifnaa

namespace Go.Proofs.Ytpngdeegdkifnaa
open Go.RowKit Qd

/-- The last day of a list of spans. -/
def lastS (d : Int) (l : List Sp) : Int := match l.getLast? with | some p => p.b | none => d
theorem lastS_nil (d : Int) : lastS d [] = d := rfl
theorem lastS_snoc (d : Int) (l : List Sp) (s : Sp) : lastS d (l ++ [s]) = s.b := by simp [lastS]
theorem adj_succ (f : Nat → Int) (j : Nat) : adjS f (j + 1) = adjS f j ++ [⟨f j, f (j + 1) - 1⟩] := upto_succ _ _
theorem adj_len (f : Nat → Int) (j : Nat) : (adjS f j).length = j := by
  induction j with
  | zero => rfl
  | succ j ih => rw [adj_succ, List.length_append, ih]; rfl
theorem adj_take (f : Nat → Int) (m j : Nat) (h : j ≤ m) : (adjS f m).take j = adjS f j := by
  obtain ⟨i, rfl⟩ := Nat.le.dest h
  have e : adjS f (j + i) = adjS f j ++ upto (fun x => (⟨f (j + x), f (j + x + 1) - 1⟩ : Sp)) i := upto_add _ j i
  rw [e]
  exact List.take_left' (adj_len f j)
theorem adj_sum (f : Nat → Int) (j : Nat) : sumR (adjS f j) = f j - f 0 := by
  induction j with
  | zero => simp [adjS, upto, sumR]
  | succ j ih => rw [adj_succ, sumR_snoc, ih]; simp only; omega
theorem adj_last (f : Nat → Int) (j : Nat) (l : List Sp) (d : Int) : lastS d (l ++ adjS f j) = if j = 0 then lastS d l else f j - 1 := by
  cases j with
  | zero => simp [adjS, upto]
  | succ j => rw [adj_succ, ← List.append_assoc, lastS_snoc]; simp
theorem sumR_app (l1 l2 : List Sp) : sumR (l1 ++ l2) = sumR l1 + sumR l2 := by simp [sumR]
/-- Spans that rise and are not empty; d: a day ahead of the first one, e: the days between two of them, at the least. -/
def Ris (d e : Int) (S : List Sp) : Prop := ∀ (j : Nat) (s : Sp), S[j]? = some s → lastS d (S.take j) + e < s.a ∧ s.a ≤ s.b
theorem ris_adj {f g : Nat → Int} {m n : Nat} {d : Int} (h0 : d < f 0) (hm : 0 < m) (hf : ∀ j, j < m → f j < f (j + 1)) (hg : ∀ j, j < n → g j < g (j + 1)) (hfg : 0 < n → f m < g 0) : Ris d 0 (adjS f m ++ adjS g n) := by
  intro j s hs
  by_cases hj : j < m
  · rw [List.getElem?_append_left (by rw [adj_len]; exact hj)] at hs
    have e1 : (adjS f m)[j]? = some ⟨f j, f (j + 1) - 1⟩ := upto_get _ m j hj
    rw [e1] at hs
    cases hs
    have e2 : (adjS f m ++ adjS g n).take j = adjS f j := by rw [List.take_append_of_le_length (by rw [adj_len]; omega), adj_take f m j (by omega)]
    have e3 := adj_last f j [] d
    rw [List.nil_append] at e3
    rw [e2, e3, lastS_nil]
    have := hf j hj
    simp only
    split
    · rename_i hz; subst hz; omega
    · omega
  · obtain ⟨i, rfl⟩ : ∃ i, j = m + i := ⟨j - m, by omega⟩
    rw [List.getElem?_append_right (by rw [adj_len]; omega), adj_len, show m + i - m = i by omega] at hs
    have hi : i < n := by
      have := (List.getElem?_eq_some_iff.1 hs).1
      rwa [adj_len] at this
    have e1 : (adjS g n)[i]? = some ⟨g i, g (i + 1) - 1⟩ := upto_get _ n i hi
    rw [e1] at hs
    cases hs
    have e2 : (adjS f m ++ adjS g n).take (m + i) = adjS f m ++ adjS g i := by
      rw [List.take_append, adj_len, show m + i - m = i by omega, adj_take g n i (by omega), List.take_of_length_le (by rw [adj_len]; omega)]
    have e4 := adj_last f m [] d
    rw [List.nil_append, if_neg (by omega)] at e4
    rw [e2, adj_last, e4]
    have h1 := hg i hi
    have h2 := hfg (by omega)
    simp only
    split
    · rename_i hz; subst hz; omega
    · omega
theorem ris_sum {d : Int} {S : List Sp} (h : Ris d 0 S) (hd : -1 ≤ d) : ∀ j, j ≤ S.length → 0 ≤ sumR (S.take j) ∧ sumR (S.take j) ≤ lastS d (S.take j) + 1 := by
  intro j
  induction j with
  | zero => intro _; simp [sumR, lastS]; omega
  | succ j ih =>
    intro hj
    obtain ⟨s, hs⟩ : ∃ s, S[j]? = some s := ⟨_, List.getElem?_eq_getElem (by omega)⟩
    have h1 := ih (by omega)
    have h2 := h j s hs
    have e : S.take (j + 1) = S.take j ++ [s] := by rw [List.take_add_one, hs]; rfl
    rw [e, sumR_snoc, lastS_snoc]
    omega
/-- Weeks rise, spans rise and do not touch, and both have as many days. -/
theorem tw_runs {c : Cal} {u : Un} {k : Int} (h : twE c u k = 0) : Ris (-1) 0 ((twL c u k).map (spV c)) ∧ Ris (-2) 1 (rnL c u k) ∧ sumR ((twL c u k).map (spV c)) = sumR (rnL c u k) ∧ 0 < (rnL c u k).length ∧ (rnL c u k).length ≤ 2 ∧ (twL c u k).length ≤ 60 ∧ 0 < (twL c u k).length ∧ (∀ x ∈ twL c u k, unitE c x = 0 ∧ x.lv = 5 ∧ 0 ≤ (spV c x).a ∧ (spV c x).a ≤ (spV c x).b ∧ (spV c x).b ≤ 3068037) ∧ (∀ s ∈ rnL c u k, 0 ≤ s.a ∧ s.a ≤ s.b ∧ s.b ≤ 3068037) := by
  obtain ⟨f, g, m, n, hm, hmn, hlen, hmap, hf, hg, hfg, hun⟩ := tw_form h
  have hall : ∀ x ∈ twL c u k, unitE c x = 0 ∧ x.lv = 5 ∧ 0 ≤ (spV c x).a ∧ (spV c x).a ≤ (spV c x).b ∧ (spV c x).b ≤ 3068037 := fun x hx => ⟨(hun x hx).1, (hun x hx).2, sp_bd2 (hun x hx).1⟩
  have hS : ∀ s ∈ adjS f m ++ adjS g n, 0 ≤ s.a ∧ s.a ≤ s.b ∧ s.b ≤ 3068037 := by
    intro s hs
    rw [← hmap] at hs
    obtain ⟨x, hx, rfl⟩ := List.mem_map.1 hs
    exact (hall x hx).2.2
  have hin : ∀ j, j < m → (⟨f j, f (j + 1) - 1⟩ : Sp) ∈ adjS f m ++ adjS g n := fun j hj => List.mem_append_left _ (List.mem_of_getElem? (upto_get _ m j hj))
  have hin2 : ∀ j, j < n → (⟨g j, g (j + 1) - 1⟩ : Sp) ∈ adjS f m ++ adjS g n := fun j hj => List.mem_append_right _ (List.mem_of_getElem? (upto_get _ n j hj))
  have f0 := hS _ (hin 0 hm)
  have f1 := hS _ (hin (m - 1) (by omega))
  rw [show m - 1 + 1 = m by omega] at f1
  simp only at f0 f1
  have mono : ∀ (q : Nat → Int) (z : Nat), (∀ j, j < z → q j < q (j + 1)) → 0 < z → q 0 < q z := by
    intro q z hq
    induction z with
    | zero => intro h; omega
    | succ z ih =>
      intro _
      rcases Nat.eq_zero_or_pos z with rfl | hz
      · exact hq 0 (by omega)
      · have a1 := ih (fun j hj => hq j (by omega)) hz
        have a2 := hq z (by omega)
        omega
  have hfm := mono f m hf hm
  have hR : rnL c u k = if n = 0 then [⟨f 0, f m - 1⟩] else [⟨f 0, f m - 1⟩, ⟨g 0, g n - 1⟩] := by rw [rnL, hmap, rn_form hm hfg]
  have hsum : sumR ((twL c u k).map (spV c)) = (f m - f 0) + (g n - g 0) := by rw [hmap, sumR_app, adj_sum, adj_sum]
  refine ⟨by rw [hmap]; exact ris_adj (by omega) hm hf hg hfg, ?_, ?_, ?_, ?_, by omega, by omega, hall, ?_⟩
  all_goals rw [hR]
  · split
    · intro j s hs
      match j, hs with
      | 0, hs => cases hs; simp [lastS]; omega
    · rename_i hn
      have g1 := hS _ (hin2 0 (by omega))
      have hgn := mono g n hg (by omega)
      have h3 := hfg (by omega)
      intro j s hs
      match j, hs with
      | 0, hs => cases hs; simp [lastS]; omega
      | 1, hs => cases hs; simp [lastS]; omega
  · rw [hsum]
    split
    · rename_i hn; subst hn; simp [sumR]; omega
    · simp [sumR]; omega
  · split <;> simp
  · split <;> simp
  · intro s hs
    split at hs
    · simp only [List.mem_singleton] at hs; subst hs; simp only; omega
    · rename_i hn
      have g1 := hS _ (hin2 0 (by omega))
      have g2 := hS _ (hin2 (n - 1) (by omega))
      rw [show n - 1 + 1 = n by omega] at g2
      simp only at g1 g2
      have hgn := mono g n hg (by omega)
      simp only [List.mem_cons, List.not_mem_nil, or_false] at hs
      rcases hs with rfl | rfl <;> simp only <;> omega
end Go.Proofs.Ytpngdeegdkifnaa

namespace Go.Proofs.Ytpngdeegdkifnaa
open Go.RowKit Qd

/-- The day at a place of one run, or of two. -/
def runPos (p m1 p2 M : Int) : Int := if M < m1 then p + M else p2 + (M - m1)
/-- How many days ahead of a day have one, if those of a gap have none. -/
def metN (S g gl d : Int) : Int := if d ≤ g then d - S else if d ≤ g + gl then g - S else d - S - gl
theorem metN_in {S g gl d : Int} (h1 : g ≤ d) (h2 : d < g + gl) : metN S g gl (d + 1) = metN S g gl d := by
  unfold metN
  repeat' split
  all_goals omega
theorem metN_out {S g gl d : Int} (h : ¬ (g ≤ d ∧ d < g + gl)) (h0 : 0 ≤ gl) : metN S g gl (d + 1) = metN S g gl d + 1 := by
  unfold metN
  repeat' split
  all_goals omega
theorem metN_start {S g gl : Int} (h : S ≤ g) : metN S g gl S = 0 := by
  unfold metN
  rw [if_pos h]; omega
theorem metN_end {S g gl E : Int} (h : g + gl ≤ E + 1) (h0 : 0 ≤ gl) : metN S g gl (E + 1) = E + 1 - S - gl := by
  unfold metN
  repeat' split
  all_goals omega
theorem metN_bd {S g gl d : Int} (h : S ≤ g) (h0 : 0 ≤ gl) (hd : S ≤ d) : 0 ≤ metN S g gl d ∧ metN S g gl d ≤ d - S := by
  unfold metN
  repeat' split
  all_goals omega
theorem metN_lt {S g gl d E : Int} (h : ¬ (g ≤ d ∧ d < g + gl)) (h0 : 0 ≤ gl) (hg : g + gl ≤ E + 1) (hd : d ≤ E) : metN S g gl d < E + 1 - S - gl := by
  unfold metN
  repeat' split
  all_goals omega
/-- A unit of a year of weeks: its days, and those with which they are compared. -/
theorem tw_days {c : Cal} {u : Un} {k : Int} (hU : unitE c u = 0) (hk6 : c.kind ≠ 6) (ht : c.first ≤ u.yr + k ∧ u.yr + k ≤ c.last) :
    ∃ g gl p m1 p2 m2 : Int, (gl = 0 ∨ gl = 7) ∧ (spV c u).a ≤ g ∧ g + gl ≤ (spV c u).b + 1 ∧ 0 ≤ m2 ∧
      (∀ d : Int, (spV c u).a ≤ d → d ≤ (spV c u).b → if g ≤ d ∧ d < g + gl then cdE c d k = 12 else cdE c d k = 0 ∧ cdV c d k = runPos p m1 p2 (metN (spV c u).a g gl d)) ∧
      ((spV c u).b - (spV c u).a + 1 - gl = 7 * ((twL0 c u k).length : Int)) ∧ m1 + m2 = (spV c u).b - (spV c u).a + 1 - gl ∧
      (twE c u k = 0 → 0 < m1 ∧ (0 < m2 → p + m1 < p2) ∧ rnL c u k = (if m2 = 0 then [⟨p, p + m1 - 1⟩] else [⟨p, p + m1 - 1⟩, ⟨p2, p2 + m2 - 1⟩])) := by
  obtain ⟨hf, l1, l5, hA, _, _⟩ := un_lv hU
  obtain ⟨hok, hk, _, _, hy1, hy2, _⟩ := frame_ok hf
  have hy : srv c u.yr := ⟨hy1, hy2⟩
  have hts : srv c (u.yr + k) := ht
  have hab := cutAB hU
  have hb60 := nWk_bd c _ hA
  have hsp := sp_get hU
  rw [dayW_7 c _ hA hk6 _ (by omega), dayW_7 c _ hA hk6 _ hab.2] at hsp
  have hend := dayW_end c _ hA
  rw [dayW_7 c _ hA hk6 _ (Nat.le_refl _)] at hend
  have ha0 : (spV c u).a = startV c u.yr + 7 * (cutA c u : Int) := by rw [hsp]
  have hb0 : (spV c u).b = startV c u.yr + 7 * (cutB c u : Int) - 1 := by rw [hsp]
  have hl0 : twL0 c u k = cmpL c u.yr (u.yr + k) (wksL c u) := by rw [twL0, if_neg hk6]
  have hday : ∀ d : Int, (spV c u).a ≤ d → d ≤ (spV c u).b → ∃ x : Int, x = (d - startV c u.yr) / 7 + 1 ∧ (cutA c u : Int) < x ∧ x ≤ cutB c u ∧ cdE c d k = cwE c u.yr (u.yr + k) x ∧ (cdE c d k = 0 → cdV c d k = startV c (u.yr + k) + (d - startV c u.yr) + 7 * (cwV c u.yr (u.yr + k) x - x)) := by
    intro d h1 h2
    obtain ⟨s1, s2⟩ := serv_yes (day := d) hk ⟨hA, by omega, by omega⟩ hy1 hy2
    have h3 := cd_week (d := d) (k := k) s1 hk6 (by rw [s2]; exact ht)
    rw [s2] at h3
    exact ⟨_, rfl, by omega, by omega, h3.1, h3.2⟩
  rcases cmp_shape hU hk6 hts with ⟨s, s1, s2, hw, hL, _⟩ | ⟨a, a1, a2, _, _, _, _, hg12, hw, hL⟩ | ⟨a, a1, a2, _, _, _, _, hw, hL⟩
  · refine ⟨(spV c u).a, 0, startV c (u.yr + k) + 7 * ((cutA c u : Int) + s), 7 * ((cutB c u : Int) - cutA c u), 0, 0, .inl rfl, by omega, by omega, by omega, ?_, ?_, by omega, ?_⟩
    · intro d h1 h2
      obtain ⟨x, hx, x1, x2, e1, e2⟩ := hday d h1 h2
      obtain ⟨w1, w2⟩ := hw x x1 x2
      rw [if_neg (by omega)]
      refine ⟨by rw [e1, w1], ?_⟩
      rw [e2 (by rw [e1, w1]), w2]
      unfold runPos metN
      repeat' split
      all_goals omega
    · rw [hl0, hL, segL_len]; omega
    · intro hE
      obtain ⟨_, _, hin, _, hLe⟩ := tw_ok hE
      rw [hl0, hL] at hin hLe
      obtain ⟨hm, _⟩ := seg_map (c := c) (t := u.yr + k) (n := (cutA c u : Int) + 1 + s) (cutB c u - cutA c u) hk hk6 hts ⟨by omega, by omega⟩ (fun w hw => inB_mem hin hw)
      have hr := rn_form (f := fun j => startV c (u.yr + k) + 7 * ((cutA c u : Int) + 1 + s + j - 1)) (g := fun _ => 0) (m := cutB c u - cutA c u) (n := 0) (by omega) (by omega)
      refine ⟨by omega, by omega, ?_⟩
      rw [if_pos rfl, rnL, hLe, hm]
      have e0 : adjS (fun _ => (0 : Int)) 0 = [] := rfl
      rw [e0, List.append_nil, if_pos rfl] at hr
      rw [hr]
      simp only [List.cons.injEq, Sp.mk.injEq, and_true]
      constructor <;> omega
  · refine ⟨startV c u.yr + 7 * (a - 1), 7, startV c (u.yr + k) + 7 * (cutA c u : Int), 7 * ((cutB c u : Int) - cutA c u - 1), 0, 0, .inr rfl, by omega, by omega, by omega, ?_, ?_, by omega, ?_⟩
    · intro d h1 h2
      obtain ⟨x, hx, x1, x2, e1, e2⟩ := hday d h1 h2
      split
      · have : x = a := by omega
        rw [e1, this, hg12]
      · obtain ⟨w1, w2⟩ := hw x x1 x2 (by omega)
        refine ⟨by rw [e1, w1], ?_⟩
        rw [e2 (by rw [e1, w1]), w2]
        unfold runPos metN
        repeat' split
        all_goals omega
    · rw [hl0, hL, segL_len]; omega
    · intro hE
      obtain ⟨_, _, hin, hlen, hLe⟩ := tw_ok hE
      rw [hl0, hL] at hin hLe hlen
      rw [segL_len] at hlen
      obtain ⟨hm, _⟩ := seg_map (c := c) (t := u.yr + k) (n := (cutA c u : Int) + 1) (cutB c u - cutA c u - 1) hk hk6 hts ⟨by omega, by omega⟩ (fun w hw => inB_mem hin hw)
      have hr := rn_form (f := fun j => startV c (u.yr + k) + 7 * ((cutA c u : Int) + 1 + j - 1)) (g := fun _ => 0) (m := cutB c u - cutA c u - 1) (n := 0) (by omega) (by omega)
      refine ⟨by omega, by omega, ?_⟩
      rw [if_pos rfl, rnL, hLe, hm]
      have e0 : adjS (fun _ => (0 : Int)) 0 = [] := rfl
      rw [e0, List.append_nil, if_pos rfl] at hr
      rw [hr]
      simp only [List.cons.injEq, Sp.mk.injEq, and_true]
      constructor <;> omega
  · refine ⟨(spV c u).a, 0, startV c (u.yr + k) + 7 * (cutA c u : Int), 7 * (a - 1 - cutA c u), startV c (u.yr + k) + 7 * a, 7 * ((cutB c u : Int) - a + 1), .inl rfl, by omega, by omega, by omega, ?_, ?_, by omega, ?_⟩
    · intro d h1 h2
      obtain ⟨x, hx, x1, x2, e1, e2⟩ := hday d h1 h2
      obtain ⟨w1, w2⟩ := hw x x1 x2
      rw [if_neg (by omega)]
      refine ⟨by rw [e1, w1], ?_⟩
      rw [e2 (by rw [e1, w1]), w2]
      unfold runPos metN
      repeat' split
      all_goals omega
    · rw [hl0, hL, List.length_append, segL_len, segL_len]; omega
    · intro hE
      obtain ⟨_, _, hin, _, hLe⟩ := tw_ok hE
      rw [hl0, hL] at hin hLe
      obtain ⟨hm, _⟩ := seg_map (c := c) (t := u.yr + k) (n := (cutA c u : Int) + 1) (a - 1 - cutA c u).toNat hk hk6 hts ⟨by omega, by omega⟩ (fun w hw => inB_mem hin (List.mem_append_left _ hw))
      obtain ⟨hm2, _⟩ := seg_map (c := c) (t := u.yr + k) (n := a + 1) (cutB c u - a + 1).toNat hk hk6 hts ⟨by omega, by omega⟩ (fun w hw => inB_mem hin (List.mem_append_right _ hw))
      have hr := rn_form (f := fun j => startV c (u.yr + k) + 7 * ((cutA c u : Int) + 1 + j - 1)) (g := fun j => startV c (u.yr + k) + 7 * (a + 1 + (j : Nat) - 1)) (m := (a - 1 - cutA c u).toNat) (n := (cutB c u - a + 1).toNat) (by omega) (by intro _; (try simp only); omega)
      refine ⟨by omega, by omega, ?_⟩
      rw [if_neg (by omega), rnL, hLe, List.map_append, hm, hm2, hr, if_neg (by omega)]
      simp only [List.cons.injEq, Sp.mk.injEq, and_true]
      refine ⟨⟨?_, ?_⟩, ?_, ?_⟩ <;> omega
end Go.Proofs.Ytpngdeegdkifnaa

namespace Go.Proofs.Ytpngdeegdkifnaa
open Go.RowKit Qd

/-- The weeks with which the units of a level are compared, from one on. -/
def partsL (c : Cal) (y k lv a : Int) (n : Nat) : List Un := (upto (fun j : Nat => twL c ⟨lv, y, a + (j : Int)⟩ k) n).flatten
theorem partsL_zero (c : Cal) (y k lv a : Int) : partsL c y k lv a 0 = [] := rfl
theorem partsL_succ (c : Cal) (y k lv a : Int) (n : Nat) : partsL c y k lv a (n + 1) = partsL c y k lv a n ++ twL c ⟨lv, y, a + (n : Int)⟩ k := by
  have e : upto (fun j : Nat => twL c ⟨lv, y, a + (j : Int)⟩ k) (n + 1) = upto (fun j : Nat => twL c ⟨lv, y, a + (j : Int)⟩ k) n ++ [twL c ⟨lv, y, a + (n : Int)⟩ k] := upto_succ _ _
  unfold partsL
  rw [e, List.flatten_append]
  simp
theorem flat_succ {α : Type} (f : Nat → List α) (n : Nat) : (upto f (n + 1)).flatten = (upto f n).flatten ++ f n := by
  have e : upto f (n + 1) = upto f n ++ [f n] := upto_succ _ _
  rw [e, List.flatten_append]
  simp
theorem cmp_flat (c : Cal) (y t : Int) (f : Nat → List Un) (n : Nat) : (upto (fun j => cmpL c y t (f j)) n).flatten = cmpL c y t (upto f n).flatten := by
  induction n with
  | zero => rfl
  | succ n ih => rw [flat_succ, flat_succ, cmp_app, ih]
/-- The units of a finer level that lie in a unit. -/
theorem dn_parts {c : Cal} {u : Un} {lv : Int} (hU : unitE c u = 0) (h1 : u.lv ≤ lv) (h5 : lv ≤ 5) : ∃ i n : Nat, 0 < n ∧ i + n ≤ cntL c u.yr lv ∧ dnA c u lv = ⟨lv, u.yr, (i : Int) + 1⟩ ∧ dnB c u lv = ⟨lv, u.yr, (i : Int) + n⟩ ∧ cutN c u.yr lv i = cutA c u ∧ cutN c u.yr lv (i + n) = cutB c u := by
  obtain ⟨hf, l1, l5, hA, hx, hi⟩ := un_lv hU
  obtain ⟨i, hi1, e1⟩ := cut_finer c u.yr hA u.lv lv l1 h1 h5 (uI u) (by omega)
  obtain ⟨j, hj1, e2⟩ := cut_finer c u.yr hA u.lv lv l1 h1 h5 (uI u + 1) (by omega)
  have hab := cutAB hU
  have ea : cutN c u.yr lv i = cutA c u := e1.symm
  have eb : cutN c u.yr lv j = cutB c u := e2.symm
  have hlt : i < j := by
    rcases Nat.lt_or_ge i j with h | h
    · exact h
    · have := cut_mono c u.yr hA lv (by omega) h5 h hi1
      omega
  have hE : dnE c u lv = 0 := by rw [dnE, if_pos hU, if_pos ⟨h1, h5⟩]
  have x1 := cut_lt c u.yr hA lv (by omega) h5 i (by omega)
  have x2 := cut_lt c u.yr hA lv (by omega) h5 (j - 1) (by omega)
  rw [show j - 1 + 1 = j by omega] at x2
  refine ⟨i, j - i, by omega, by omega, ?_, ?_, ea, by rw [show i + (j - i) = j by omega]; exact eb⟩
  · rw [dnA, if_pos hE, ix_eq c u.yr hA lv (by omega) h5 (cutA c u) i (by omega) (by omega) (by omega)]
  · rw [dnB, if_pos hE, ix_eq c u.yr hA lv (by omega) h5 (cutB c u - 1) (j - 1) (by omega) (by omega) (by rw [show j - 1 + 1 = j by omega]; omega)]
    simp only [Un.mk.injEq, true_and]
    omega
theorem wks_parts {c : Cal} {lv y : Int} (hf : frameE c lv y = 0) (i : Nat) : ∀ m : Nat, i + m ≤ cntL c y lv → (upto (fun j : Nat => wksL c ⟨lv, y, (i : Int) + 1 + (j : Int)⟩) m).flatten = wkU ⟨5, y, (cutN c y lv i : Int) + 1⟩ (cutN c y lv (i + m) - cutN c y lv i) := by
  obtain ⟨hok, hk, l1, l5, _, _, hA⟩ := frame_ok hf
  intro m
  induction m with
  | zero => intro _; simp [upto_zero, wkU]
  | succ m ih =>
    intro h
    rw [flat_succ, ih (by omega)]
    obtain ⟨_, ca, cb⟩ := un_mk hf (i + m) (by omega)
    have e : (⟨lv, y, (i : Int) + 1 + (m : Int)⟩ : Un) = ⟨lv, y, ((i + m : Nat) : Int) + 1⟩ := by
      simp only [Un.mk.injEq, true_and]; omega
    have h1 := cut_mono c y hA lv l1 l5 (show i ≤ i + m by omega) (by omega)
    have h2 := cut_lt c y hA lv l1 l5 (i + m) (by omega)
    rw [e, wksL, ca, cb, show i + (m + 1) = i + m + 1 by omega, show cutN c y lv (i + m + 1) - cutN c y lv i = (cutN c y lv (i + m) - cutN c y lv i) + (cutN c y lv (i + m + 1) - cutN c y lv (i + m)) by omega, wkU_add]
    simp only
    rw [show (cutN c y lv i : Int) + 1 + ((cutN c y lv (i + m) - cutN c y lv i : Nat) : Int) = (cutN c y lv (i + m) : Int) + 1 by omega]
theorem pcut_le (c : Cal) (y lv : Int) (h12 : 12 ≤ nPer c y) (h1 : 1 ≤ lv) (h4 : lv ≤ 4) (i : Nat) (hi : i ≤ cntL c y lv) : pcut (nPer c y) lv i ≤ nPer c y := by
  have := pcut_mono (nPer c y) lv h12 i _ hi
  rwa [pcut_end (nPer c y) _ _ _ h1 h4] at this
theorem cut_year {c : Cal} {y t a b : Int} (hA : askE c y 1601 = 0) (hk : c.okB = true) (h12 : 12 ≤ nPer c y) (ha : 1 ≤ a ∧ a ≤ 4) (hb : 1 ≤ b ∧ b ≤ 4) {i j : Nat} (hi : i ≤ cntL c y a) (hj : j ≤ cntL c y b) (h : cutN c y a i = cutN c y b j) : cutN c t a i = cutN c t b j := by
  have e : ∀ (z lv : Int) (x : Nat), lv ≤ 4 → cutN c z lv x = cumW c z (pcut (nPer c z) lv x) := fun z lv x h => by rw [cutN, if_neg (by omega)]
  rw [e _ _ _ ha.2, e _ _ _ hb.2] at h
  have p1 := pcut_le c y a h12 ha.1 ha.2 i hi
  have p2 := pcut_le c y b h12 hb.1 hb.2 j hj
  have hp : pcut (nPer c y) a i = pcut (nPer c y) b j := by
    rcases Nat.lt_trichotomy (pcut (nPer c y) a i) (pcut (nPer c y) b j) with h1 | h1 | h1
    · have := cumW_lt c y hA h1 p2; omega
    · exact h1
    · have := cumW_lt c y hA h1 p1; omega
  rw [e _ _ _ ha.2, e _ _ _ hb.2, per_same hk t y, hp]
theorem twE_part {c : Cal} {v : Un} {k : Int} (hU : unitE c v = 0) (hr : c.first ≤ v.yr + k ∧ v.yr + k ≤ c.last) (hin : ∀ w ∈ twL0 c v k, srv c w.yr) : (twE c v k = 0 ∨ twE c v k = 12) ∧ twL c v k = twL0 c v k := by
  have hI : inB c (twL0 c v k) = true := by
    unfold inB
    rw [List.all_eq_true]
    intro w hw
    have := hin w hw
    simp [this.1, this.2]
  have e : twE c v k = if (twL0 c v k).length = 0 then 12 else 0 := by rw [twE, if_pos hU, if_pos hr, if_pos hI]
  by_cases h : (twL0 c v k).length = 0
  · rw [if_pos h] at e
    refine ⟨.inr e, ?_⟩
    rw [twL, if_neg (by omega), List.length_eq_zero_iff.1 h]
  · rw [if_neg h] at e
    exact ⟨.inl e, by rw [twL, if_pos e]⟩
theorem mem_flat {α : Type} {f : Nat → List α} {n j : Nat} (hj : j < n) {x : α} (hx : x ∈ f j) : x ∈ (upto f n).flatten := by
  rw [List.mem_flatten]
  exact ⟨f j, List.mem_of_getElem? (upto_get f n j hj), hx⟩
/-- A unit is compared with the weeks with which its parts are. -/
theorem tw_parts {c : Cal} {u : Un} {k lv : Int} (hE : twE c u k = 0) (h1 : u.lv ≤ lv) (h5 : lv ≤ 5) (h6 : c.kind = 6 → lv ≠ 5) : ∃ i n : Nat, dnA c u lv = ⟨lv, u.yr, (i : Int) + 1⟩ ∧ dnB c u lv = ⟨lv, u.yr, (i : Int) + n⟩ ∧ 0 < n ∧ i + n ≤ 60 ∧ (∀ j : Nat, j < n → twE c ⟨lv, u.yr, (i : Int) + 1 + (j : Int)⟩ k = 0 ∨ twE c ⟨lv, u.yr, (i : Int) + 1 + (j : Int)⟩ k = 12) ∧ partsL c u.yr k lv ((i : Int) + 1) n = twL c u k := by
  obtain ⟨hU, ht, hin, hlen, hL⟩ := tw_ok hE
  obtain ⟨hf, l1, l5, hA, hx, hi⟩ := un_lv hU
  obtain ⟨hok, hk, _, _, hy1, hy2, _⟩ := frame_ok hf
  have hy : srv c u.yr := ⟨hy1, hy2⟩
  have hts : srv c (u.yr + k) := ht
  obtain ⟨i, n, hn, hin2, ea, eb, ca, cb⟩ := dn_parts hU h1 h5
  have hcb := (cnt_bd c u.yr hA lv).2
  have hfl : frameE c lv u.yr = 0 := frame_lv hf lv (by omega) h5
  have hwk := wks_parts hfl i n hin2
  rw [ca, cb] at hwk
  have hpu : ∀ j : Nat, j < n → unitE c ⟨lv, u.yr, (i : Int) + 1 + (j : Int)⟩ = 0 := by
    intro j hj
    have := (un_mk hfl (i + j) (by omega)).1
    rwa [show (((i + j : Nat) : Int) + 1) = (i : Int) + 1 + (j : Int) by omega] at this
  have key : (upto (fun j : Nat => twL0 c ⟨lv, u.yr, (i : Int) + 1 + (j : Int)⟩ k) n).flatten = twL0 c u k := by
    by_cases hk6 : c.kind = 6
    · have hlv := h6 hk6
      have hu5 : ¬ u.lv = 5 := by omega
      have e1 : twL0 c u k = wksL c ⟨u.lv, u.yr + k, u.ix⟩ := by rw [twL0, if_pos hk6, monthL, if_neg hu5]
      have e2 : (fun j : Nat => twL0 c ⟨lv, u.yr, (i : Int) + 1 + (j : Int)⟩ k) = fun j : Nat => wksL c ⟨lv, u.yr + k, (i : Int) + 1 + (j : Int)⟩ := by
        funext j
        rw [twL0, if_pos hk6, monthL, if_neg hlv]
      have hcnt : cntL c (u.yr + k) lv = cntL c u.yr lv := by
        unfold cntL
        rw [per_same hk (u.yr + k) u.yr]
        repeat' split
        all_goals first | rfl | (exfalso; omega)
      have h12 : 12 ≤ nPer c u.yr := (nPer_bd c u.yr hA).1
      have f1 := cut_year (t := u.yr + k) hA hk h12 ⟨by omega, by omega⟩ ⟨l1, by omega⟩ (show i ≤ cntL c u.yr lv by omega) (show uI u ≤ cntL c u.yr u.lv by omega) ca
      have f2 := cut_year (t := u.yr + k) hA hk h12 ⟨by omega, by omega⟩ ⟨l1, by omega⟩ (show i + n ≤ cntL c u.yr lv by omega) (show uI u + 1 ≤ cntL c u.yr u.lv by omega) cb
      rw [e1, e2, wks_parts (srv_frame hk hts (by omega) h5) i n (by omega), f1, f2]
      rfl
    · have e1 : twL0 c u k = cmpL c u.yr (u.yr + k) (wksL c u) := by rw [twL0, if_neg hk6]
      have e2 : (fun j : Nat => twL0 c ⟨lv, u.yr, (i : Int) + 1 + (j : Int)⟩ k) = fun j : Nat => cmpL c u.yr (u.yr + k) (wksL c ⟨lv, u.yr, (i : Int) + 1 + (j : Int)⟩) := by
        funext j
        rw [twL0, if_neg hk6]
      rw [e1, e2, cmp_flat, hwk]
      rfl
  have hpt : ∀ j : Nat, j < n → (twE c ⟨lv, u.yr, (i : Int) + 1 + (j : Int)⟩ k = 0 ∨ twE c ⟨lv, u.yr, (i : Int) + 1 + (j : Int)⟩ k = 12) ∧ twL c ⟨lv, u.yr, (i : Int) + 1 + (j : Int)⟩ k = twL0 c ⟨lv, u.yr, (i : Int) + 1 + (j : Int)⟩ k := by
    intro j hj
    refine twE_part (hpu j hj) ht fun w hw => inB_mem hin ?_
    rw [← key]
    exact mem_flat (f := fun j : Nat => twL0 c ⟨lv, u.yr, (i : Int) + 1 + (j : Int)⟩ k) hj hw
  refine ⟨i, n, ea, eb, hn, by omega, fun j hj => (hpt j hj).1, ?_⟩
  rw [hL, ← key, partsL]
  congr 1
  exact upto_congr fun j hj => (hpt j hj).2
theorem parts_len {c : Cal} {u : Un} {k lv a : Int} {n : Nat} (h : partsL c u.yr k lv a n = twL c u k) (hl : (twL c u k).length ≤ 60) (m : Nat) (hm : m ≤ n) : (partsL c u.yr k lv a m).length ≤ 60 := by
  obtain ⟨d, rfl⟩ := Nat.le.dest hm
  have key : ∀ d : Nat, (partsL c u.yr k lv a m).length ≤ (partsL c u.yr k lv a (m + d)).length := by
    intro d
    induction d with
    | zero => exact Nat.le_refl _
    | succ d ih => rw [← Nat.add_assoc, partsL_succ, List.length_append]; omega
  have := key d
  rw [h] at this
  omega
end Go.Proofs.Ytpngdeegdkifnaa
