/- Plain facts of the units that meet a span. Contracts of find.All and find.Meets on what they refuse. The contract of find.Meets. Contracts of find.All on what it refuses. -/
import Derived.Test.YtjhhmeoibfdcmaaGreatDoorMFe
namespace Go.Proofs.YtjhhmeoibfdcmaaGreatDoor
open Go.RowKit Qd
set_option linter.unusedSimpArgs false
set_option linter.unusedVariables false

theorem filter_win {α : Type} (l : List α) (K : α → Bool) (m n : Nat) (h : ∀ (p : Nat) (u : α), l[p]? = some u → (K u = true ↔ m ≤ p ∧ p < m + n)) : l.filter K = (l.drop m).take n := by
  induction l generalizing m n with
  | nil => simp
  | cons x l ih =>
    have h0 := h 0 x (by simp)
    have hs : ∀ (p : Nat) (u : α), l[p]? = some u → (K u = true ↔ m ≤ p + 1 ∧ p + 1 < m + n) := fun p u hp => h (p + 1) u (by simpa using hp)
    cases m with
    | zero =>
      cases n with
      | zero =>
        have : K x = false := by cases hk : K x <;> simp_all
        rw [List.filter_cons_of_neg (by simp [this]), ih 0 0 (fun p u hp => by rw [hs p u hp]; omega)]
        simp
      | succ n =>
        have : K x = true := h0.2 (by omega)
        rw [List.filter_cons_of_pos this, ih 0 n (fun p u hp => by rw [hs p u hp]; omega)]
        simp
    | succ m =>
      have : ¬ K x = true := fun hk => by have := h0.1 hk; omega
      rw [List.filter_cons_of_neg this, ih m n (fun p u hp => by rw [hs p u hp]; omega)]
      simp
theorem fd_serv {c : Cal} {d lv : Int} (h1 : 1 ≤ lv) (h5 : lv ≤ 5) : fdE c d lv = servE c d := by
  unfold fdE
  cases hk : c.okB
  · simp [servE, hk]
  · simp [h1, h5]
theorem fd_not {c : Cal} {d lv : Int} (h : ¬ fdE c d lv = 0) : fdU c d lv = ⟨0, 0, 0⟩ := by rw [fdU, if_neg h]

/-- Where a unit stands among those of some years. -/
theorem allUp_at (c : Cal) (lv f : Int) (ny p : Nat) (u : Un) (h : (allUp c lv f ny)[p]? = some u) : ∃ a i : Nat, a < ny ∧ i < cntL c (f + a) lv ∧ u = ⟨lv, f + a, (i : Int) + 1⟩ ∧ p = (allUp c lv f a).length + i := by
  induction ny with
  | zero => simp [allUp] at h
  | succ n ih =>
    by_cases hp : p < (allUp c lv f n).length
    · rw [allUp, List.getElem?_append_left hp] at h
      obtain ⟨a, i, h1, h2, h3, h4⟩ := ih h
      exact ⟨a, i, by omega, h2, h3, h4⟩
    · rw [allUp, List.getElem?_append_right (by omega)] at h
      obtain ⟨h1, h2⟩ := yU_some h
      exact ⟨n, p - (allUp c lv f n).length, by omega, h1, h2, by omega⟩
theorem allUp_get (c : Cal) (lv f : Int) (ny a i : Nat) (ha : a < ny) (hi : i < cntL c (f + a) lv) : (allUp c lv f ny)[(allUp c lv f a).length + i]? = some ⟨lv, f + a, (i : Int) + 1⟩ := by
  induction ny with
  | zero => omega
  | succ n ih =>
    by_cases h : a < n
    · have h1 := pre_lt c lv f a n i h hi
      rw [List.length_append, yU_len] at h1
      rw [allUp, List.getElem?_append_left h1]
      exact ih h
    · obtain rfl : a = n := by omega
      rw [allUp, List.getElem?_append_right (by omega), Nat.add_sub_cancel_left]
      exact yU_get _ _ _ _ hi

/-- Whether a unit lies between two. -/
def keepU (a b u : Un) : Bool := !((u.yr == a.yr && decide (u.ix < a.ix)) || (u.yr == b.yr && decide (b.ix < u.ix)))
theorem keep_iff (a b u : Un) : keepU a b u = true ↔ ¬ (u.yr = a.yr ∧ u.ix < a.ix) ∧ ¬ (u.yr = b.yr ∧ b.ix < u.ix) := by
  simp only [keepU, Bool.not_eq_true', Bool.or_eq_false_iff, Bool.and_eq_false_imp, beq_iff_eq, decide_eq_false_iff_not, not_and]
/-- Why those that meet a span are not told, how many years they are of, and which they are. -/
noncomputable def meetsE (c : Cal) (lv : Int) (s : Sp) : Int := if c.okB = true ∧ (1 ≤ lv ∧ lv ≤ 5) ∧ s.a ≤ s.b then (if fdE c s.a lv = 0 then fdE c s.b lv else fdE c s.a lv) else 1
noncomputable def meetsN (c : Cal) (lv : Int) (s : Sp) : Nat := (servY c s.b - servY c s.a + 1).toNat
noncomputable def meetsL (c : Cal) (lv : Int) (s : Sp) : List Un := if meetsE c lv s = 0 then (allUp c lv (servY c s.a) (meetsN c lv s)).filter (keepU (fdU c s.a lv) (fdU c s.b lv)) else []
theorem meets_ok {c : Cal} {lv : Int} {s : Sp} (h : meetsE c lv s = 0) : c.okB = true ∧ 1 ≤ lv ∧ lv ≤ 5 ∧ s.a ≤ s.b ∧ fdE c s.a lv = 0 ∧ fdE c s.b lv = 0 := by
  unfold meetsE at h
  split at h
  · rename_i hk
    split at h
    · rename_i h1; exact ⟨hk.1, hk.2.1.1, hk.2.1.2, hk.2.2, h1, h⟩
    · exact absurd h (by assumption)
  · omega
theorem yr_mono {c : Cal} {d n : Int} (h : servE c d = 0) (k : servE c n = 0) (hd : d ≤ n) : servY c d ≤ servY c n := by
  obtain ⟨hk, _, y1, _⟩ := serv_ok h
  obtain ⟨_, _, y2, _⟩ := serv_ok k
  have hok : c.Ok := by simpa [Cal.okB] using hk
  have a1 := (ask_ok y1.1).2
  have a2 := (ask_ok y2.1).2
  rcases Int.lt_or_le (servY c n) (servY c d) with hlt | hle
  · have := end_lt_start c hok (y := servY c n) (z := servY c d) (by omega) hlt (by omega)
    have b1 := y1.2.1
    have b2 := y2.2.2
    omega
  · exact hle
theorem meets_facts {c : Cal} {lv : Int} {s : Sp} (h : meetsE c lv s = 0) :
    0 < meetsN c lv s ∧ servY c s.a + (meetsN c lv s : Int) = servY c s.b + 1 ∧ (∀ j : Nat, j < meetsN c lv s → frameE c lv (servY c s.a + j) = 0) ∧
    ∃ m n : Nat, 0 < n ∧ meetsL c lv s = ((allUp c lv (servY c s.a) (meetsN c lv s)).drop m).take n ∧ m + n ≤ (allUp c lv (servY c s.a) (meetsN c lv s)).length ∧
      (allUp c lv (servY c s.a) (meetsN c lv s))[m]? = some (fdU c s.a lv) ∧ (allUp c lv (servY c s.a) (meetsN c lv s))[m + n - 1]? = some (fdU c s.b lv) := by
  obtain ⟨hk, h1, h5, hab, ha, hb⟩ := meets_ok h
  obtain ⟨_, _, _, sa, _, ya, fa⟩ := fd_ok ha
  obtain ⟨_, _, _, sb, _, yb, fb⟩ := fd_ok hb
  have hm := yr_mono sa sb hab
  obtain ⟨ia, ea, ca, da1, da2⟩ := fd_in ha
  obtain ⟨ib, eb, cb, db1, db2⟩ := fd_in hb
  obtain ⟨hok, _, _, _, fa1, _, aA⟩ := frame_ok fa
  obtain ⟨_, _, _, _, _, fb2, aB⟩ := frame_ok fb
  obtain ⟨ny, hN⟩ : ∃ ny, meetsN c lv s = ny + 1 := ⟨(servY c s.b - servY c s.a).toNat, by unfold meetsN; omega⟩
  have hL : meetsL c lv s = (allUp c lv (servY c s.a) (meetsN c lv s)).filter (keepU (fdU c s.a lv) (fdU c s.b lv)) := by rw [meetsL, if_pos h]
  have hy : servY c s.a + (ny : Int) = servY c s.b := by unfold meetsN at hN; omega
  rw [hL, hN]
  have hF : ∀ j : Nat, j < ny + 1 → frameE c lv (servY c s.a + j) = 0 := fun j hj => frame_is hok h1 h5 (by omega) (by omega)
  have c0 : (allUp c lv (servY c s.a) 0).length = 0 := rfl
  have c1 : (allUp c lv (servY c s.a) 1).length = cntL c (servY c s.a) lv := by simp [allUp, yU_len]
  have cl : (allUp c lv (servY c s.a) (ny + 1)).length = (allUp c lv (servY c s.a) ny).length + cntL c (servY c s.b) lv := by rw [allUp, List.length_append, yU_len, hy]
  have big : ∀ a : Nat, 0 < a → ia < (allUp c lv (servY c s.a) a).length := fun a h0 => by
    have := allUp_mono c lv (servY c s.a) 1 (a - 1)
    rw [show 1 + (a - 1) = a by omega] at this
    omega
  have key : ia ≤ (allUp c lv (servY c s.a) ny).length + ib := by
    by_cases h0 : 0 < ny
    · have := big ny h0; omega
    · obtain rfl : ny = 0 := by omega
      have hyy : servY c s.b = servY c s.a := by omega
      rw [hyy] at db1 db2 cb
      rcases Nat.lt_or_ge ib ia with hlt | hge
      · have m1 := cut_mono c (servY c s.a) ya.1 lv h1 h5 (show ib + 1 ≤ ia by omega) (by omega)
        have m2 := dayW_le c (servY c s.a) ya.1 m1 (cut_le_nWk c _ ya.1 lv h1 h5 ia (by omega))
        omega
      · omega
  refine ⟨by omega, by omega, hF, ia, (allUp c lv (servY c s.a) ny).length + ib + 1 - ia, by omega, ?_, by omega, ?_, ?_⟩
  · refine filter_win _ _ _ _ fun p u hp => ?_
    obtain ⟨a, i, l1, l2, rfl, hpa⟩ := allUp_at c lv _ _ p u hp
    rw [keep_iff, ea, eb]
    simp only
    have g1 : a = 0 ∨ ia < (allUp c lv (servY c s.a) a).length := by
      by_cases h0 : 0 < a
      · exact .inr (big a h0)
      · left; omega
    have g2 : a = ny ∨ (allUp c lv (servY c s.a) a).length + i < (allUp c lv (servY c s.a) ny).length := by
      by_cases h0 : a = ny
      · exact .inl h0
      · have := pre_lt c lv (servY c s.a) a ny i (by omega) l2
        rw [List.length_append, yU_len] at this
        exact .inr this
    have g3 : a = 0 → (allUp c lv (servY c s.a) a).length = 0 := by rintro rfl; exact c0
    have g4 : a = ny → (allUp c lv (servY c s.a) a).length = (allUp c lv (servY c s.a) ny).length := by rintro rfl; rfl
    generalize (allUp c lv (servY c s.a) a).length = X at *
    generalize (allUp c lv (servY c s.a) ny).length = Y at *
    generalize servY c s.a = F at *
    generalize servY c s.b = G at *
    clear hp hF big cl c0 c1 hL hN
    subst hpa
    have e1 : (F + (a : Int) = F) ↔ a = 0 := by omega
    have e2 : (F + (a : Int) = G) ↔ a = ny := by omega
    rw [e1, e2]
    rcases g1 with g1 | g1 <;> rcases g2 with g2 | g2 <;> omega
  · rw [ea]
    have := allUp_get c lv (servY c s.a) (ny + 1) 0 ia (by omega) (by simpa using ca)
    simpa [allUp] using this
  · rw [eb]
    have := allUp_get c lv (servY c s.a) (ny + 1) ny ib (by omega) (by rw [hy]; exact cb)
    rw [hy] at this
    rw [show ia + ((allUp c lv (servY c s.a) ny).length + ib + 1 - ia) - 1 = (allUp c lv (servY c s.a) ny).length + ib by omega]
    exact this
/-- They are a chain, from the unit of the first day to that of the last one. -/
theorem meets_chain {c : Cal} {lv : Int} {s : Sp} (h : meetsE c lv s = 0) :
    ChainU c (meetsL c lv s) ∧ (meetsL c lv s)[0]? = some (fdU c s.a lv) ∧ (meetsL c lv s)[(meetsL c lv s).length - 1]? = some (fdU c s.b lv) ∧ 0 < (meetsL c lv s).length ∧ (meetsL c lv s).length ≤ 60 * meetsN c lv s := by
  obtain ⟨n0, hy, hF, m, n, hn, hL, hlen, g0, g1⟩ := meets_facts h
  obtain ⟨k0, k1, k2⟩ := all_facts c lv (servY c s.a) (meetsN c lv s) n0 hF
  have al := (all_len c lv (servY c s.a) (meetsN c lv s) hF).1
  have hl : (meetsL c lv s).length = n := by rw [hL, List.length_take, List.length_drop]; omega
  have hg : ∀ j, j < n → (meetsL c lv s)[j]? = (allUp c lv (servY c s.a) (meetsN c lv s))[m + j]? := fun j hj => by
    rw [hL, List.getElem?_take, if_pos hj, List.getElem?_drop]
  refine ⟨?_, ?_, ?_, by omega, by omega⟩
  · intro j u v hu hv
    have j1 : j + 1 < n := by rw [← hl]; exact (List.getElem?_eq_some_iff.1 hv).1
    rw [hg j (by omega)] at hu
    rw [hg (j + 1) j1] at hv
    exact k0 (m + j) u v hu hv
  · rw [hg 0 hn]; exact g0
  · rw [hl, hg (n - 1) (by omega), ← g1]
    congr 1
    omega
theorem meets_no {c : Cal} {lv : Int} {s : Sp} (h : ¬ meetsE c lv s = 0) : meetsL c lv s = [] := by rw [meetsL, if_neg h]
/-- Few years, if the span is short. -/
theorem meets_few {c : Cal} {lv : Int} {s : Sp} (h : meetsE c lv s = 0) (hs : s.b - s.a ≤ 2000) : meetsN c lv s ≤ 7 := by
  obtain ⟨hk, h1, h5, hab, ha, hb⟩ := meets_ok h
  obtain ⟨_, _, _, sa, _, ya, fa⟩ := fd_ok ha
  obtain ⟨_, _, _, sb, _, yb, fb⟩ := fd_ok hb
  have hm := yr_mono sa sb hab
  obtain ⟨n0, hy, _⟩ := meets_facts h
  obtain ⟨hok, a1, a2⟩ := ask_ok ya.1
  obtain ⟨_, b1, b2⟩ := ask_ok yb.1
  rcases Nat.lt_or_ge 7 (meetsN c lv s) with hlt | hge
  · have hge : servY c s.a + 7 ≤ servY c s.b := by omega
    have e1 := end_mono c (servY c s.a) hok (by omega) (servY c s.b - 1 - servY c s.a).toNat (by omega)
    rw [show servY c s.a + ((servY c s.b - 1 - servY c s.a).toNat : Int) = servY c s.b - 1 by omega] at e1
    have e2 := end_lt_start c hok (y := servY c s.b - 1) (z := servY c s.b) (by omega) (by omega) (by omega)
    have := ya.2.2
    have := yb.2.1
    omega
  · exact hge
end Go.Proofs.YtjhhmeoibfdcmaaGreatDoor

namespace Go.Proofs.YtjhhmeoibfdcmaaGreatDoor
open Go.RowKit Go.Shelf Qd
set_option linter.unusedSimpArgs false
set_option linter.unusedVariables false

theorem BlkIs.fz {w : World} {B : Nat} {cs : Array Value} {t : TypeId} (h : BlkIs w B cs t) (i : Nat) : w.frozen? ⟨B, i, none⟩ = false := by simp [World.frozen?, show w.heap[B]? = _ from h]

/-- What lies in the frame of find.Meets: the calendar, the span, both results. -/
def MtSt (c : Cal) (s : Sp) (B : Nat) (w : World) : Prop := BlkIs w B (calCs c) 24 ∧ BlkIs w (B + 1) #[.int .i64 s.a, .int .i64 s.b] 26 ∧ BlkIs w (B + 2) #[.slice none 0 0] 74 ∧ BlkIs w (B + 3) #[.int .i64 0] 30
theorem MtSt.call {c : Cal} {s : Sp} {B : Nat} {w w' : World} (h : MtSt c s B w) (hb : Below w.heap.size w w') : MtSt c s B w' := ⟨h.1.call hb, h.2.1.call hb, h.2.2.1.call hb, h.2.2.2.call hb⟩
theorem MtSt.alloc {c : Cal} {s : Sp} {B : Nat} {w : World} (h : MtSt c s B w) (o : Obj) : MtSt c s B (w.alloc o) := ⟨h.1.alloc o, h.2.1.alloc o, h.2.2.1.alloc o, h.2.2.2.alloc o⟩
theorem MtSt.lt {c : Cal} {s : Sp} {B : Nat} {w : World} (h : MtSt c s B w) : B + 3 < w.heap.size := h.2.2.2.lt
theorem MtSt.sp {c : Cal} {s : Sp} {B : Nat} {w : World} (h : MtSt c s B w) : w.cell? ⟨B + 1, 0, none⟩ = some (.int .i64 s.a) ∧ w.cell? ⟨B + 1, 1, none⟩ = some (.int .i64 s.b) := ⟨h.2.1.cell 0, h.2.1.cell 1⟩
theorem MtSt.res {c : Cal} {s : Sp} {B : Nat} {w : World} (h : MtSt c s B w) : (w.cell? ⟨B + 2, 0, none⟩ = some (.slice none 0 0) ∧ w.cell? ⟨B + 3, 0, none⟩ = some (.int .i64 0)) ∧ w.frozen? ⟨B + 2, 0, none⟩ = false ∧ w.frozen? ⟨B + 3, 0, none⟩ = false := ⟨⟨h.2.2.1.cell 0, h.2.2.2.cell 0⟩, h.2.2.1.fz 0, h.2.2.2.fz 0⟩
theorem mtSt_new (c : Cal) (s : Sp) (w : World) : MtSt c s w.heap.size ((((w.alloc (.cells (calCs c) 24)).alloc (.cells #[.int .i64 s.a, .int .i64 s.b] 26)).alloc (.cells #[.slice none 0 0] 74)).alloc (.cells #[.int .i64 0] 30)) := by
  refine ⟨(((BlkIs.new w _ _).alloc _).alloc _).alloc _, ?_, ?_, ?_⟩
  · have := ((BlkIs.new (w.alloc (.cells (calCs c) 24)) #[.int .i64 s.a, .int .i64 s.b] 26).alloc (.cells #[.slice none 0 0] 74)).alloc (.cells #[.int .i64 0] 30)
    simpa using this
  · have := (BlkIs.new ((w.alloc (.cells (calCs c) 24)).alloc (.cells #[.int .i64 s.a, .int .i64 s.b] 26)) #[.slice none 0 0] 74).alloc (.cells #[.int .i64 0] 30)
    simpa using this
  · have := BlkIs.new (((w.alloc (.cells (calCs c) 24)).alloc (.cells #[.int .i64 s.a, .int .i64 s.b] 26)).alloc (.cells #[.slice none 0 0] 74)) #[.int .i64 0] 30
    simpa using this

theorem MtSt.fin {c : Cal} {s : Sp} {B : Nat} {w : World} (h : MtSt c s B w) (v : Value) (e : Int) : BlkIs ((w.setCell ⟨B + 1 + 1, 0, none⟩ v).setCell ⟨B + 1 + 1 + 1, 0, none⟩ (.int .i64 e)) (B + 1 + 1) #[v] 74 ∧ BlkIs ((w.setCell ⟨B + 1 + 1, 0, none⟩ v).setCell ⟨B + 1 + 1 + 1, 0, none⟩ (.int .i64 e)) (B + 1 + 1 + 1) #[.int .i64 e] 30 :=
  ⟨(h.2.2.1.set0 v).far (p := ⟨B + 1 + 1 + 1, 0, none⟩) (by simp) _, (h.2.2.2.far (p := ⟨B + 1 + 1, 0, none⟩) (by simp) v).set0 _⟩
theorem res_meetsV {tmps : Array Value} {W : World} {B1 B2 : Nat} {v : Value} {e : Int} (h8 : tmps[6]? = some (.pointer (some ⟨B1, 0, none⟩))) (h9 : tmps[7]? = some (.pointer (some ⟨B2, 0, none⟩)))
    (g1 : BlkIs W B1 #[v] 74) (g2 : BlkIs W B2 #[.int .i64 e] 30) :
    (results Tryz.f27 tmps).run Tryz.prog W = .ok (.tuple #[v, .int .i64 e]) W := by
  have c0 := g1.cell 0
  have c1 := g2.cell 0
  simp at c0 c1
  simp [results, Tryz.results27, go_sem, h8, h9, c0, c1]

set_option maxRecDepth 100000 in
set_option maxHeartbeats 1600000 in
theorem meets_cal (c : Cal) (lv : Int) (s : Sp) (w : World) (hn : c.name.size ≤ 1000) (hk : c.okB = false) :
    Calls Tryz.prog 27 #[calV c, .int .i64 lv, spanV s] w fun e w' => e = .returned (.tuple #[.slice none 0 0, .int .i64 1]) ∧ Below w.heap.size w w' := by
  have HO := hide (show okE c = 1 by simp [okE, hk])
  clear hk
  simp only [calV, spanV]
  go_enter Tryz.func27, Tryz.ntmps27
  go_wp2_with fail
  refine (check_any c _ hn).mono ?_
  rintro e w1 ⟨rfl, hb1⟩
  rw [HO.out]
  have HM1 := hide ((mtSt_new c s w).call (by exact hb1))
  have HB1 := hide (show Below w.heap.size w w1 by (repeat' exact bel))
  clear hb1
  obtain ⟨q0, q1, q2, q3, q4, q5, q6, q7, q8, q9, q10, q11, q12, q13⟩ := HM1.out.1.cal
  obtain ⟨p0, p1⟩ := HM1.out.sp
  obtain ⟨⟨r0, r1⟩, f0, f1⟩ := HM1.out.res
  have hsz := HM1.out.lt
  have hz0 : w.heap.size < w1.heap.size := by omega
  have hz1 : w.heap.size + 1 < w1.heap.size := by omega
  have hz2 : w.heap.size + 1 + 1 < w1.heap.size := by omega
  have hz3 : w.heap.size + 1 + 1 + 1 < w1.heap.size := by omega
  go_wp2
  exact bodyPost_ret (v := .tuple #[.slice none 0 0, .int .i64 1]) (res_meetsV rfl rfl ((HM1.out.fin (.slice none 0 0) 1).1) ((HM1.out.fin (.slice none 0 0) 1).2)) rfl ⟨rfl, by have hB := HB1.out; exact ((hB.setCell (by first | (simp; done) | (simp; omega)) _).setCell (by first | (simp; done) | (simp; omega)) _)⟩

set_option maxRecDepth 100000 in
set_option maxHeartbeats 1600000 in
theorem meets_lv (c : Cal) (lv : Int) (s : Sp) (w : World) (hn : c.name.size ≤ 1000) (hk : c.okB = true) (hl : ¬ (1 ≤ lv ∧ lv ≤ 5)) :
    Calls Tryz.prog 27 #[calV c, .int .i64 lv, spanV s] w fun e w' => e = .returned (.tuple #[.slice none 0 0, .int .i64 1]) ∧ Below w.heap.size w w' := by
  have hlb : decide (1 ≤ lv ∧ lv ≤ 5) = false := by simpa using hl
  clear hl
  have HO := hide (show okE c = 0 by simp [okE, hk])
  clear hk
  simp only [calV, spanV]
  go_enter Tryz.func27, Tryz.ntmps27
  go_wp2_with fail
  refine (check_any c _ hn).mono ?_
  rintro e w1 ⟨rfl, hb1⟩
  rw [HO.out]
  have HM1 := hide ((mtSt_new c s w).call (by exact hb1))
  have HB1 := hide (show Below w.heap.size w w1 by (repeat' exact bel))
  clear hb1
  obtain ⟨q0, q1, q2, q3, q4, q5, q6, q7, q8, q9, q10, q11, q12, q13⟩ := HM1.out.1.cal
  obtain ⟨p0, p1⟩ := HM1.out.sp
  obtain ⟨⟨r0, r1⟩, f0, f1⟩ := HM1.out.res
  have hsz := HM1.out.lt
  have hz0 : w.heap.size < w1.heap.size := by omega
  have hz1 : w.heap.size + 1 < w1.heap.size := by omega
  have hz2 : w.heap.size + 1 + 1 < w1.heap.size := by omega
  have hz3 : w.heap.size + 1 + 1 + 1 < w1.heap.size := by omega
  go_wp2_with (go_at_call 46; refine (levelled_any _ _).mono ?_; rintro e w' ⟨rfl, rfl⟩; rw [hlb])
  exact bodyPost_ret (v := .tuple #[.slice none 0 0, .int .i64 1]) (res_meetsV rfl rfl ((HM1.out.fin (.slice none 0 0) 1).1) ((HM1.out.fin (.slice none 0 0) 1).2)) rfl ⟨rfl, by have hB := HB1.out; exact ((hB.setCell (by first | (simp; done) | (simp; omega)) _).setCell (by first | (simp; done) | (simp; omega)) _)⟩

set_option maxRecDepth 100000 in
set_option maxHeartbeats 1600000 in
theorem meets_arg (c : Cal) (lv : Int) (s : Sp) (w : World) (hn : c.name.size ≤ 1000) (hk : c.okB = true) (hl : 1 ≤ lv ∧ lv ≤ 5) (hs : s.b < s.a) :
    Calls Tryz.prog 27 #[calV c, .int .i64 lv, spanV s] w fun e w' => e = .returned (.tuple #[.slice none 0 0, .int .i64 1]) ∧ Below w.heap.size w w' := by
  have hlb : decide (1 ≤ lv ∧ lv ≤ 5) = true := by simpa using hl
  clear hl
  have HO := hide (show okE c = 0 by simp [okE, hk])
  clear hk
  simp only [calV, spanV]
  go_enter Tryz.func27, Tryz.ntmps27
  go_wp2_with fail
  refine (check_any c _ hn).mono ?_
  rintro e w1 ⟨rfl, hb1⟩
  rw [HO.out]
  have HM1 := hide ((mtSt_new c s w).call (by exact hb1))
  have HB1 := hide (show Below w.heap.size w w1 by (repeat' exact bel))
  clear hb1
  obtain ⟨q0, q1, q2, q3, q4, q5, q6, q7, q8, q9, q10, q11, q12, q13⟩ := HM1.out.1.cal
  obtain ⟨p0, p1⟩ := HM1.out.sp
  obtain ⟨⟨r0, r1⟩, f0, f1⟩ := HM1.out.res
  have hsz := HM1.out.lt
  have hz0 : w.heap.size < w1.heap.size := by omega
  have hz1 : w.heap.size + 1 < w1.heap.size := by omega
  have hz2 : w.heap.size + 1 + 1 < w1.heap.size := by omega
  have hz3 : w.heap.size + 1 + 1 + 1 < w1.heap.size := by omega
  go_wp2_with (go_at_call 46; refine (levelled_any _ _).mono ?_; rintro e w' ⟨rfl, rfl⟩; rw [hlb])
  exact bodyPost_ret (v := .tuple #[.slice none 0 0, .int .i64 1]) (res_meetsV rfl rfl ((HM1.out.fin (.slice none 0 0) 1).1) ((HM1.out.fin (.slice none 0 0) 1).2)) rfl ⟨rfl, by have hB := HB1.out; exact ((hB.setCell (by first | (simp; done) | (simp; omega)) _).setCell (by first | (simp; done) | (simp; omega)) _)⟩

set_option maxRecDepth 100000 in
set_option maxHeartbeats 1600000 in
theorem meets_e1 (c : Cal) (lv : Int) (s : Sp) (w : World) (hn : c.name.size ≤ 1000) (hk : c.okB = true) (hl : 1 ≤ lv ∧ lv ≤ 5) (hs : s.a ≤ s.b) (h1 : ¬ fdE c s.a lv = 0) :
    Calls Tryz.prog 27 #[calV c, .int .i64 lv, spanV s] w fun e w' => e = .returned (.tuple #[.slice none 0 0, .int .i64 (fdE c s.a lv)]) ∧ Below w.heap.size w w' := by
  have hlb : decide (1 ≤ lv ∧ lv ≤ 5) = true := by simpa using hl
  have h1' : (fdE c s.a lv != 0) = true := by simpa using h1
  clear hl h1
  have HO := hide (show okE c = 0 by simp [okE, hk])
  clear hk
  simp only [calV, spanV]
  go_enter Tryz.func27, Tryz.ntmps27
  go_wp2_with fail
  refine (check_any c _ hn).mono ?_
  rintro e w1 ⟨rfl, hb1⟩
  rw [HO.out]
  have HM1 := hide ((mtSt_new c s w).call (by exact hb1))
  have HB1 := hide (show Below w.heap.size w w1 by (repeat' exact bel))
  clear hb1
  obtain ⟨q0, q1, q2, q3, q4, q5, q6, q7, q8, q9, q10, q11, q12, q13⟩ := HM1.out.1.cal
  obtain ⟨p0, p1⟩ := HM1.out.sp
  obtain ⟨⟨r0, r1⟩, f0, f1⟩ := HM1.out.res
  have hsz := HM1.out.lt
  have hz0 : w.heap.size < w1.heap.size := by omega
  have hz1 : w.heap.size + 1 < w1.heap.size := by omega
  have hz2 : w.heap.size + 1 + 1 < w1.heap.size := by omega
  have hz3 : w.heap.size + 1 + 1 + 1 < w1.heap.size := by omega
  have hsb : s.a ≤ s.b := hs
  go_wp2_with (go_at_call 46; refine (levelled_any _ _).mono ?_; rintro e w' ⟨rfl, rfl⟩; rw [hlb])
  refine (fday_any c s.a lv _ hn).mono ?_
  rintro e w2 ⟨rfl, hb2⟩
  clear q0 q1 q2 q3 q4 q5 q6 q7 q8 q9 q10 q11 q12 q13
  clear p0 p1 r0 r1 f0 f1
  have HM2 := hide (HM1.out.call hb2)
  have HB2 := hide (HB1.out.trans (hb2.mono (by omega)))
  clear hb2 hsz hz0 hz1 hz2 hz3
  obtain ⟨q0, q1, q2, q3, q4, q5, q6, q7, q8, q9, q10, q11, q12, q13⟩ := HM2.out.1.cal
  obtain ⟨p0, p1⟩ := HM2.out.sp
  obtain ⟨⟨r0, r1⟩, f0, f1⟩ := HM2.out.res
  have hsz := HM2.out.lt
  have hz0 : w.heap.size < w2.heap.size := by omega
  have hz1 : w.heap.size + 1 < w2.heap.size := by omega
  have hz2 : w.heap.size + 1 + 1 < w2.heap.size := by omega
  have hz3 : w.heap.size + 1 + 1 + 1 < w2.heap.size := by omega
  go_wp2
  exact bodyPost_ret (v := .tuple #[.slice none 0 0, .int .i64 (fdE c s.a lv)]) (res_meetsV rfl rfl ((HM2.out.fin (.slice none 0 0) (fdE c s.a lv)).1.alloc _) ((HM2.out.fin (.slice none 0 0) (fdE c s.a lv)).2.alloc _)) rfl ⟨rfl, by have hB := HB2.out; exact (((hB.setCell (by first | (simp; done) | (simp; omega)) _).setCell (by first | (simp; done) | (simp; omega)) _).alloc (by simp; omega) _)⟩

set_option maxRecDepth 100000 in
set_option maxHeartbeats 1600000 in
theorem meets_e2 (c : Cal) (lv : Int) (s : Sp) (w : World) (hn : c.name.size ≤ 1000) (hk : c.okB = true) (hl : 1 ≤ lv ∧ lv ≤ 5) (hs : s.a ≤ s.b) (h1 : fdE c s.a lv = 0) (h2 : ¬ fdE c s.b lv = 0) :
    Calls Tryz.prog 27 #[calV c, .int .i64 lv, spanV s] w fun e w' => e = .returned (.tuple #[.slice none 0 0, .int .i64 (fdE c s.b lv)]) ∧ Below w.heap.size w w' := by
  have hlb : decide (1 ≤ lv ∧ lv ≤ 5) = true := by simpa using hl
  have h2' : (fdE c s.b lv != 0) = true := by simpa using h2
  have H1 := hide h1
  clear hl h2 h1
  have HO := hide (show okE c = 0 by simp [okE, hk])
  clear hk
  simp only [calV, spanV]
  go_enter Tryz.func27, Tryz.ntmps27
  go_wp2_with fail
  refine (check_any c _ hn).mono ?_
  rintro e w1 ⟨rfl, hb1⟩
  rw [HO.out]
  have HM1 := hide ((mtSt_new c s w).call (by exact hb1))
  have HB1 := hide (show Below w.heap.size w w1 by (repeat' exact bel))
  clear hb1
  obtain ⟨q0, q1, q2, q3, q4, q5, q6, q7, q8, q9, q10, q11, q12, q13⟩ := HM1.out.1.cal
  obtain ⟨p0, p1⟩ := HM1.out.sp
  obtain ⟨⟨r0, r1⟩, f0, f1⟩ := HM1.out.res
  have hsz := HM1.out.lt
  have hz0 : w.heap.size < w1.heap.size := by omega
  have hz1 : w.heap.size + 1 < w1.heap.size := by omega
  have hz2 : w.heap.size + 1 + 1 < w1.heap.size := by omega
  have hz3 : w.heap.size + 1 + 1 + 1 < w1.heap.size := by omega
  have hsb : s.a ≤ s.b := hs
  go_wp2_with (go_at_call 46; refine (levelled_any _ _).mono ?_; rintro e w' ⟨rfl, rfl⟩; rw [hlb])
  refine (fday_any c s.a lv _ hn).mono ?_
  rintro e w2 ⟨rfl, hb2⟩
  clear q0 q1 q2 q3 q4 q5 q6 q7 q8 q9 q10 q11 q12 q13
  clear p0 p1 r0 r1 f0 f1
  have HM2 := hide (HM1.out.call hb2)
  have HB2 := hide (HB1.out.trans (hb2.mono (by omega)))
  clear hb2 hsz hz0 hz1 hz2 hz3
  obtain ⟨q0, q1, q2, q3, q4, q5, q6, q7, q8, q9, q10, q11, q12, q13⟩ := HM2.out.1.cal
  obtain ⟨p0, p1⟩ := HM2.out.sp
  obtain ⟨⟨r0, r1⟩, f0, f1⟩ := HM2.out.res
  have hsz := HM2.out.lt
  have hz0 : w.heap.size < w2.heap.size := by omega
  have hz1 : w.heap.size + 1 < w2.heap.size := by omega
  have hz2 : w.heap.size + 1 + 1 < w2.heap.size := by omega
  have hz3 : w.heap.size + 1 + 1 + 1 < w2.heap.size := by omega
  rw [H1.out]
  go_wp2_with fail
  refine (fday_any c s.b lv _ hn).mono ?_
  rintro e w3 ⟨rfl, hb3⟩
  clear q0 q1 q2 q3 q4 q5 q6 q7 q8 q9 q10 q11 q12 q13
  clear p0 p1 r0 r1 f0 f1
  have HM3 := hide ((HM2.out.alloc _).call hb3)
  have HB3 := hide ((HB2.out.alloc (by omega) _).trans (hb3.mono (by simp; omega)))
  clear hb3 hsz hz0 hz1 hz2 hz3
  obtain ⟨q0, q1, q2, q3, q4, q5, q6, q7, q8, q9, q10, q11, q12, q13⟩ := HM3.out.1.cal
  obtain ⟨p0, p1⟩ := HM3.out.sp
  obtain ⟨⟨r0, r1⟩, f0, f1⟩ := HM3.out.res
  have hsz := HM3.out.lt
  have hz0 : w.heap.size < w3.heap.size := by omega
  have hz1 : w.heap.size + 1 < w3.heap.size := by omega
  have hz2 : w.heap.size + 1 + 1 < w3.heap.size := by omega
  have hz3 : w.heap.size + 1 + 1 + 1 < w3.heap.size := by omega
  go_wp2
  exact bodyPost_ret (v := .tuple #[.slice none 0 0, .int .i64 (fdE c s.b lv)]) (res_meetsV rfl rfl ((HM3.out.fin (.slice none 0 0) (fdE c s.b lv)).1.alloc _) ((HM3.out.fin (.slice none 0 0) (fdE c s.b lv)).2.alloc _)) rfl ⟨rfl, by have hB := HB3.out; exact (((hB.setCell (by first | (simp; done) | (simp; omega)) _).setCell (by first | (simp; done) | (simp; omega)) _).alloc (by simp; omega) _)⟩

theorem meets_any_no (c : Cal) (lv : Int) (s : Sp) (w : World) (hn : c.name.size ≤ 1000) (h : ¬ meetsE c lv s = 0) :
    Calls Tryz.prog 27 #[calV c, .int .i64 lv, spanV s] w fun e w' => e = .returned (.tuple #[.slice none 0 0, .int .i64 (meetsE c lv s)]) ∧ Below w.heap.size w w' := by
  unfold meetsE at h ⊢
  by_cases hk : c.okB = true
  · by_cases hl : 1 ≤ lv ∧ lv ≤ 5
    · by_cases hs : s.a ≤ s.b
      · rw [if_pos ⟨hk, hl, hs⟩] at h ⊢
        by_cases h1 : fdE c s.a lv = 0
        · rw [if_pos h1] at h ⊢
          exact meets_e2 c lv s w hn hk hl hs h1 h
        · rw [if_neg h1]
          exact meets_e1 c lv s w hn hk hl hs h1
      · rw [if_neg (fun x => hs x.2.2)]
        exact meets_arg c lv s w hn hk hl (by omega)
    · rw [if_neg (fun x => hl x.2.1)]
      exact meets_lv c lv s w hn hk hl
  · rw [if_neg (fun x => hk x.1)]
    exact meets_cal c lv s w hn (by simpa using hk)

attribute [local go_sem] Oper.semAt_some

theorem res_meets {tmps : Array Value} {W : World} {B1 B2 g n cap : Nat} {e : Int} (h8 : tmps[6]? = some (.pointer (some ⟨B1, 0, none⟩))) (h9 : tmps[7]? = some (.pointer (some ⟨B2, 0, none⟩)))
    (g1 : BlkIs W B1 #[.slice (some ⟨g, 0, none⟩) n cap] 74) (g2 : BlkIs W B2 #[.int .i64 e] 30) :
    (results Tryz.f27 tmps).run Tryz.prog W = .ok (.tuple #[.slice (some ⟨g, 0, none⟩) n cap, .int .i64 e]) W := by
  have c0 := g1.cell 0
  have c1 := g2.cell 0
  simp at c0 c1
  simp [results, Tryz.results27, go_sem, h8, h9, c0, c1]
theorem app_keep {W w1 : World} {n₀ B : Nat} {size : Nat} {v v' : Value} {k : Nat} {xs : List Value} {tmp : Obj}
    (hv : Boxed W B 74 v) (hrow : W.ownsRow n₀ 46 size v k xs)
    (hgrow : (W.alloc tmp).grownBy w1 v.ownBlock) : KeepTy 46 74 W (w1.setCell ⟨B, 0, none⟩ v') := by
  have hv1 : Boxed w1 B 74 v := (hv.alloc tmp).kept hgrow (hv.not_row (by decide) hrow)
  refine ((KeepTy.alloc W tmp).trans (.turn hgrow (fun r e cs t z hk => .inl ?_))).trans (.turn (grownBy_setCell' w1 B v') (fun r e cs t z hk => ?_))
  · rcases (hrow.alloc tmp).2 with ⟨rfl, _⟩ | ⟨g, cap, cur, rfl, _, hgb, _⟩
    · simp [Value.ownBlock] at e
    · obtain rfl : g = r := by simpa [Value.ownBlock] using e
      rw [hgb] at hk; cases hk; rfl
  · cases e
    rw [show w1.heap[B]? = _ from hv1] at hk; cases hk; exact .inr rfl

/-- What lies ahead of a row stays as it lies at an append to it. -/
theorem app_other {W w1 : World} {n₀ B X size k : Nat} {e : TypeId} {v v' : Value} {xs : List Value} {tmp : Obj} {cs : Array Value} {t : TypeId} (hrow : W.ownsRow n₀ e size v k xs) (hgrow : (W.alloc tmp).grownBy w1 v.ownBlock) (hX : X < n₀) (hXB : X ≠ B) (hb : BlkIs W X cs t) :
    BlkIs (w1.setCell ⟨B, 0, none⟩ v') X cs t := by
  have h1 : BlkIs w1 X cs t := (hb.alloc tmp).own hgrow (by
    rcases hrow.2 with ⟨rfl, _⟩ | ⟨g, cap, cur, rfl, hg, _⟩
    · simp [Value.ownBlock]
    · intro e
      have : g = X := by simpa [Value.ownBlock] using e
      omega)
  exact h1.far hXB _
theorem filter_yes {α : Type} (p : α → Bool) (l : List α) (x : α) (h : p x = true) : (l ++ [x]).filter p = l.filter p ++ [x] := by simp [h]
theorem filter_no {α : Type} (p : α → Bool) (l : List α) (x : α) (h : ¬ p x = true) : (l ++ [x]).filter p = l.filter p := by simp [h]

theorem keep_split (a b x : Un) : (keepU a b x = true ∧ (((x.yr == a.yr) = false ∧ (x.yr == b.yr) = false) ∨ ((x.yr == a.yr) = false ∧ (x.yr == b.yr) = true ∧ decide (b.ix < x.ix) = false) ∨ ((x.yr == a.yr) = true ∧ decide (x.ix < a.ix) = false ∧ (x.yr == b.yr) = false) ∨ ((x.yr == a.yr) = true ∧ decide (x.ix < a.ix) = false ∧ (x.yr == b.yr) = true ∧ decide (b.ix < x.ix) = false))) ∨
    (¬ keepU a b x = true ∧ (((x.yr == a.yr) = true ∧ decide (x.ix < a.ix) = true) ∨ ((x.yr == a.yr) = false ∧ (x.yr == b.yr) = true ∧ decide (b.ix < x.ix) = true) ∨ ((x.yr == a.yr) = true ∧ decide (x.ix < a.ix) = false ∧ (x.yr == b.yr) = true ∧ decide (b.ix < x.ix) = true))) := by
  unfold keepU
  cases (x.yr == a.yr) <;> cases decide (x.ix < a.ix) <;> cases (x.yr == b.yr) <;> cases decide (b.ix < x.ix) <;> simp

set_option maxRecDepth 100000 in
set_option maxHeartbeats 8000000 in
theorem meets_yes (c : Cal) (lv : Int) (s : Sp) (w : World) (hn : c.name.size ≤ 1000) (h : meetsE c lv s = 0) :
    Calls Tryz.prog 27 #[calV c, .int .i64 lv, spanV s] w fun e w' => ∃ g cap, e = .returned (.tuple #[.slice (some ⟨g, 0, none⟩) (meetsL c lv s).length cap, .int .i64 0]) ∧ UnsAt w' g cap (meetsL c lv s) ∧ w.heap.size ≤ g ∧ Below w.heap.size w w' := by
  obtain ⟨hk, l1, l5, hab, ha, hb⟩ := meets_ok h
  obtain ⟨n0, hny, hE, _⟩ := meets_facts h
  have hch := meets_chain h
  have HO := hide (show okE c = 0 by simp [okE, hk])
  have hlb : decide (1 ≤ lv ∧ lv ≤ 5) = true := by simp; omega
  have hyb : -10000 ≤ servY c s.a ∧ servY c s.b ≤ 20000 := by
    have h1 := ask_ok (fd_ok ha).2.2.2.2.2.1.1
    have h2 := ask_ok (fd_ok hb).2.2.2.2.2.1.1
    omega
  have hay : (fdU c s.a lv).yr = servY c s.a := by obtain ⟨i, e, _⟩ := fd_in ha; rw [e]
  have hby : (fdU c s.b lv).yr = servY c s.b := by obtain ⟨i, e, _⟩ := fd_in hb; rw [e]
  obtain ⟨i0, hi, hi0, hi1, hi2⟩ := info_parts unit_info
  have hL : meetsL c lv s = (allUp c lv (servY c s.a) (meetsN c lv s)).filter (keepU (fdU c s.a lv) (fdU c s.b lv)) := by rw [meetsL, if_pos h]
  have hL0 := hch.2.2.2.1
  have hNb : meetsN c lv s ≤ 30001 := by unfold meetsN; omega
  obtain ⟨ua, hua⟩ : ∃ ua, fdU c s.a lv = ua := ⟨_, rfl⟩
  obtain ⟨ub, hub⟩ : ∃ ub, fdU c s.b lv = ub := ⟨_, rfl⟩
  obtain ⟨ny, hN⟩ : ∃ ny, meetsN c lv s = ny := ⟨_, rfl⟩
  obtain ⟨L, hLL⟩ : ∃ L, meetsL c lv s = L := ⟨_, rfl⟩
  rw [hLL] at hL hL0 ⊢
  rw [hua] at hL hay
  rw [hub] at hL hby
  rw [hN] at hL hny hE hNb
  rw [← hay] at hL hyb hny hE
  rw [← hby] at hyb hny
  have HL := hide (And.intro hL hL0)
  have HF := hide (And.intro (And.intro ha hua) (And.intro hb hub))
  have HE := hide hE
  have HNY := hide (And.intro hny (And.intro hyb hNb))
  clear h hch hE hny hyb n0 ha hb hk hay hby hua hub hN hLL hL hL0 hNb
  simp only [calV, spanV]
  refine (callsIn_wide (n := 5)).1 ?_
  refine callsIn_of_wp_marks Tryz.func27 rfl trivial ?_ rfl
  simp only [Tryz.ntmps27, List.size_toArray, List.length_cons, List.length_nil, Nat.reduceAdd, Nat.reduceSub, Array.replicate_succ, Array.replicate_zero, List.push_toArray, List.append_toArray, List.nil_append, List.cons_append]
  gi_wp2_with fail
  refine ⟨trivial, (callsIn_wide.2 (check_any c _ hn)).mono ?_⟩
  rintro e w1 ⟨rfl, hb1⟩
  rw [HO.out]
  have HM1 := hide ((mtSt_new c s w).call (by exact hb1))
  have HB1 := hide (show Below w.heap.size w w1 by (repeat' exact bel))
  clear hb1
  obtain ⟨q0, q1, q2, q3, q4, q5, q6, q7, q8, q9, q10, q11, q12, q13⟩ := HM1.out.1.cal
  obtain ⟨p0, p1⟩ := HM1.out.sp
  gi_wp2_with fail
  refine ⟨trivial, (callsIn_wide.2 (levelled_any lv _)).mono ?_⟩
  rintro e w' ⟨rfl, rfl⟩
  rw [hlb]
  gi_wp2_with fail
  refine ⟨trivial, (callsIn_wide.2 (fday_any c s.a lv _ hn)).mono ?_⟩
  rintro e w2 ⟨rfl, hb2⟩
  clear q0 q1 q2 q3 q4 q5 q6 q7 q8 q9 q10 q11 q12 q13
  rw [HF.out.1.1, HF.out.1.2]
  clear p0 p1
  have HM2 := hide (HM1.out.call hb2)
  have HB2 := hide (HB1.out.trans (hb2.mono (by have := HM1.out.lt; omega)))
  clear hb2
  have hz0 : w.heap.size < w2.heap.size := by have := HM2.out.lt; omega
  have hz1 : w.heap.size + 1 < w2.heap.size := by have := HM2.out.lt; omega
  obtain ⟨q0, q1, q2, q3, q4, q5, q6, q7, q8, q9, q10, q11, q12, q13⟩ := HM2.out.1.cal
  obtain ⟨p0, p1⟩ := HM2.out.sp
  gi_wp2_with fail
  refine ⟨trivial, (callsIn_wide.2 (fday_any c s.b lv _ hn)).mono ?_⟩
  rintro e w3 ⟨rfl, hb3⟩
  clear q0 q1 q2 q3 q4 q5 q6 q7 q8 q9 q10 q11 q12 q13
  rw [HF.out.2.1, HF.out.2.2]
  clear p0 p1
  have HM3 := hide ((HM2.out.alloc _).call hb3)
  have HB3 := hide ((HB2.out.alloc (by have := HM2.out.lt; omega) _).trans (hb3.mono (by have := HM2.out.lt; simp; omega)))
  have GA := hide ((BlkIs.new w2 #[.int .i64 ua.lv, .int .i64 ua.yr, .int .i64 ua.ix] 46).call hb3)
  clear hb3 hz0 hz1
  have hz0 : w.heap.size < w3.heap.size := by have := HM3.out.lt; omega
  have hz1 : w.heap.size + 1 < w3.heap.size := by have := HM3.out.lt; omega
  obtain ⟨q0, q1, q2, q3, q4, q5, q6, q7, q8, q9, q10, q11, q12, q13⟩ := HM3.out.1.cal
  have ha1 : w3.cell? ⟨w2.heap.size, 1, none⟩ = some (.int .i64 ua.yr) := GA.out.cell 1
  have hl2 : w2.heap.size < w3.heap.size := GA.out.lt
  gi_wp2_with fail
  refine ⟨trivial, (each_any _ c lv ua.yr ub.yr _).mono ?_⟩
  rintro e w4 ⟨rfl, rfl⟩
  gi_wp2_with fail
  obtain ⟨W5, hW5⟩ : ∃ W5 : World, W5 = ((((((w3.alloc (.cells #[.int .i64 ub.lv, .int .i64 ub.yr, .int .i64 ub.ix] 46)).alloc (.cells #[.slice none 0 0] 74)).alloc (.cells (calCs c) 24)).alloc (.cells #[.int .i64 lv] 3)).alloc (.cells #[.int .i64 ua.yr] 3)).alloc (.cells #[.int .i64 ub.yr] 3)) := ⟨_, rfl⟩
  have hsz : W5.heap.size = w3.heap.size + 6 := by rw [hW5]; simp
  have s0 : BlkIs W5 (w3.heap.size + 2) (calCs c) 24 := by
    rw [hW5]
    have := (((BlkIs.new ((w3.alloc (.cells #[.int .i64 ub.lv, .int .i64 ub.yr, .int .i64 ub.ix] 46)).alloc (.cells #[.slice none 0 0] 74)) (calCs c) 24).alloc (.cells #[.int .i64 lv] 3)).alloc (.cells #[.int .i64 ua.yr] 3)).alloc (.cells #[.int .i64 ub.yr] 3)
    simpa using this
  have s1 : BlkIs W5 (w3.heap.size + 3) #[.int .i64 lv] 3 := by
    rw [hW5]
    have := ((BlkIs.new (((w3.alloc (.cells #[.int .i64 ub.lv, .int .i64 ub.yr, .int .i64 ub.ix] 46)).alloc (.cells #[.slice none 0 0] 74)).alloc (.cells (calCs c) 24)) #[.int .i64 lv] 3).alloc (.cells #[.int .i64 ua.yr] 3)).alloc (.cells #[.int .i64 ub.yr] 3)
    simpa using this
  have s2 : BlkIs W5 (w3.heap.size + 4) #[.int .i64 ua.yr] 3 := by
    rw [hW5]
    have := (BlkIs.new ((((w3.alloc (.cells #[.int .i64 ub.lv, .int .i64 ub.yr, .int .i64 ub.ix] 46)).alloc (.cells #[.slice none 0 0] 74)).alloc (.cells (calCs c) 24)).alloc (.cells #[.int .i64 lv] 3)) #[.int .i64 ua.yr] 3).alloc (.cells #[.int .i64 ub.yr] 3)
    simpa using this
  have s3 : BlkIs W5 (w3.heap.size + 5) #[.int .i64 ub.yr] 3 := by
    rw [hW5]
    have := BlkIs.new (((((w3.alloc (.cells #[.int .i64 ub.lv, .int .i64 ub.yr, .int .i64 ub.ix] 46)).alloc (.cells #[.slice none 0 0] 74)).alloc (.cells (calCs c) 24)).alloc (.cells #[.int .i64 lv] 3)).alloc (.cells #[.int .i64 ua.yr] 3)) #[.int .i64 ub.yr] 3
    simpa using this
  have sO : Boxed W5 (w3.heap.size + 1) 74 (.slice none 0 0) := by
    rw [hW5]
    have := ((((Boxed.new (w3.alloc (.cells #[.int .i64 ub.lv, .int .i64 ub.yr, .int .i64 ub.ix] 46)) 74 (.slice none 0 0)).alloc (.cells (calCs c) 24)).alloc (.cells #[.int .i64 lv] 3)).alloc (.cells #[.int .i64 ua.yr] 3)).alloc (.cells #[.int .i64 ub.yr] 3)
    simpa using this
  have sB : BlkIs W5 w3.heap.size #[.int .i64 ub.lv, .int .i64 ub.yr, .int .i64 ub.ix] 46 := by
    rw [hW5]; exact (((((BlkIs.new w3 _ _).alloc _).alloc _).alloc _).alloc _).alloc _
  have sA : BlkIs W5 w2.heap.size #[.int .i64 ua.lv, .int .i64 ua.yr, .int .i64 ua.ix] 46 := by
    rw [hW5]; exact (((((GA.out.alloc _).alloc _).alloc _).alloc _).alloc _).alloc _
  have hM5 : MtSt c s w.heap.size W5 := by
    rw [hW5]; exact (((((HM3.out.alloc _).alloc _).alloc _).alloc _).alloc _).alloc _
  have r1 : BlkIs W5 (w.heap.size + 1 + 1) #[.slice none 0 0] 74 := hM5.2.2.1
  have r2 : BlkIs W5 (w.heap.size + 1 + 1 + 1) #[.int .i64 0] 30 := hM5.2.2.2
  have hz3 : w.heap.size + 3 < w2.heap.size := HM2.out.lt
  have hBW : Below w.heap.size w W5 := by
    have b1 := HB3.out
    rw [hW5]
    refine Below.alloc (Below.alloc (Below.alloc (Below.alloc (Below.alloc (Below.alloc b1 ?_ _) ?_ _) ?_ _) ?_ _) ?_ _) ?_ _ <;> first | omega | (simp; omega)
  rw [← hW5]
  clear hW5 hM5
  have hlen := all_len c lv ua.yr ny HE.out
  refine wpIn_rangeFunc_ownH (α := Un) rfl (by omega) (gf := 68) (lb := #[.pointer (some ⟨w3.heap.size + 4, 0, none⟩), .pointer (some ⟨w3.heap.size + 5, 0, none⟩), .pointer (some ⟨w3.heap.size + 2, 0, none⟩), .pointer (some ⟨w3.heap.size + 3, 0, none⟩)]) rfl trivial (enters_of Tryz.func68 (by kernel_rfl) rfl)
    (each_stops c lv ua.yr ub.yr ny hn HNY.out.1 HNY.out.2.1 HE.out (w3.heap.size + 4) (w3.heap.size + 5) (w3.heap.size + 2) (w3.heap.size + 3) W5 s0 s2 s3 s1)
    KeepTy.trans (fun W l o o' _ h1 h2 _ => keepTy_putObj W l o o' h1 h2) (Below.refl _ _) (fun _ => rfl)
    (fun (pre : List Un) W => (((((∃ v, Boxed W (w3.heap.size + 1) 74 v ∧ W.ownsRow (w3.heap.size + 1) 46 3 v (pre.filter (keepU ua ub)).length (flatU (pre.filter (keepU ua ub))) ∧ (v = .slice none 0 0 ↔ pre.filter (keepU ua ub) = [])) ∧ BlkIs W (w.heap.size + 1 + 1) #[.slice none 0 0] 74) ∧ BlkIs W (w.heap.size + 1 + 1 + 1) #[.int .i64 0] 30) ∧ BlkIs W w2.heap.size #[.int .i64 ua.lv, .int .i64 ua.yr, .int .i64 ua.ix] 46) ∧ BlkIs W w3.heap.size #[.int .i64 ub.lv, .int .i64 ub.yr, .int .i64 ub.ix] 46) ∧ Below w.heap.size w W)
    (fun _ _ _ => False)
    (OwnFrom.and (OwnFrom.and (OwnFrom.and (OwnFrom.and (OwnFrom.and (Own.from (holdsRow_own (w3.heap.size + 1) (w3.heap.size + 1) _ _ 3 (fun (pre : List Un) => (pre.filter (keepU ua ub)).length) (fun (pre : List Un) => flatU (pre.filter (keepU ua ub))) (fun (pre : List Un) v => v = .slice none 0 0 ↔ pre.filter (keepU ua ub) = [])) _) (Own.from (blkIs_own _ _ _) _)) (Own.from (blkIs_own _ _ _) _)) (Own.from (blkIs_own _ _ _) _)) (Own.from (blkIs_own _ _ _) _)) (ownFrom_below (Nat.le_refl _) (by omega)))
    (fun _ _ _ _ _ hs _ _ => hs)
    ⟨⟨⟨⟨⟨⟨_, sO, World.ownsRow_nil _ _ _ _, by simp⟩, r1⟩, r2⟩, sA⟩, sB⟩, hBW⟩
    (AxU (w3.heap.size + 1) ?a1) (fun x a' => axU_own _ _ x a' _)
    ?assign ?body ?done ?stop
  case assign =>
    rintro l pre x W K ⟨⟨⟨⟨⟨⟨v, hv, hrow, hnil⟩, k1⟩, k2⟩, k3⟩, k4⟩, hB⟩ hK
    have hK2 := hide hK
    clear hK
    obtain ⟨Bx, hBx⟩ : ∃ Bx, Bx = W.heap.size := ⟨_, rfl⟩
    simp only [encU, unitV]
    gi_wp2
    rw [← hBx]
    have hK3 := fun a' (h : a' = _) => hK2.out a' _ ((KeepsOthers.alloc _ _).from _) (KeepTy.alloc _ _) ⟨⟨⟨⟨⟨⟨v, hv.alloc _, hrow.alloc _, hnil⟩, k1.alloc _⟩, k2.alloc _⟩, k3.alloc _⟩, k4.alloc _⟩, hB.alloc hB.size _⟩ ⟨Bx, by rw [hBx]; exact hv.lt, by rw [hBx]; exact BlkIs.new W #[.int .i64 x.lv, .int .i64 x.yr, .int .i64 x.ix] 46, h⟩
    have hK4 := hK3 _ rfl
    exact hK4
  case body =>
    rintro l pre x a' W hl ⟨r, hr⟩ ⟨⟨⟨⟨⟨⟨v, hv, hrow, hnil⟩, k1⟩, k2⟩, k3⟩, k4⟩, hB⟩ ⟨Bx, hBx, bX, rfl⟩ hlt
    have hc := hv.cell
    have hbx0 : W.cell? ⟨Bx, 0, none⟩ = some (.int .i64 x.lv) := bX.cell 0
    have hbx1 : W.cell? ⟨Bx, 1, none⟩ = some (.int .i64 x.yr) := bX.cell 1
    have hbx2 : W.cell? ⟨Bx, 2, none⟩ = some (.int .i64 x.ix) := bX.cell 2
    have hka1 : W.cell? ⟨w2.heap.size, 1, none⟩ = some (.int .i64 ua.yr) := k3.cell 1
    have hka2 : W.cell? ⟨w2.heap.size, 2, none⟩ = some (.int .i64 ua.ix) := k3.cell 2
    have hkb1 : W.cell? ⟨w3.heap.size, 1, none⟩ = some (.int .i64 ub.yr) := k4.cell 1
    have hkb2 : W.cell? ⟨w3.heap.size, 2, none⟩ = some (.int .i64 ub.ix) := k4.cell 2
    have hWz := hB.size
    have hWb : w3.heap.size + 1 ≤ W.heap.size := Nat.le_of_lt hv.lt
    have hpl : (pre.filter (keepU ua ub)).length + 1 ≤ 2000000 := by have := List.length_filter_le (keepU ua ub) pre; have := HNY.out.2.2; omega
    have HPL := hide hlt
    have HK3 := hide k3
    have HK4 := hide k4
    clear hlt
    rcases keep_split ua ub x with ⟨hkp, hh⟩ | ⟨hkp, hh⟩
    · have HKQ := hide hkp
      clear hkp
      rcases hh with ⟨e1, e2⟩ | ⟨e1, e2, e3⟩ | ⟨e1, e2, e3⟩ | ⟨e1, e2, e3, e4⟩
      all_goals
        gi_wp2_with (gi_at_builtin; refine wpListIn_append_own _ rfl _ _ 74 rfl (w3.heap.size + 1) 46 i0 (.agg #[.int .i64 0, .int .i64 0, .int .i64 0]) 3 24 Tryz.underlying74 hi hi0 hi1 hi2 rfl (by decide) _ _ _ rfl (hrow.alloc _) ⟨W.heap.size, 0, none⟩ 1 1 [.int .i64 x.lv, .int .i64 x.yr, .int .i64 x.ix] rfl rfl (cells_new3 _ _ _ _ _) (by simp [Value.oneCell']) (by unfold maxLen; omega) (by omega) (by simp; omega) ?_; intro v' w6 hown' hgrow hnil'; obtain ⟨g', cap', rfl⟩ := ownsRow_succ hown'; obtain ⟨hv1, hv2, hr2, hk2, hb2⟩ := hv.appended (by decide) hrow hWb (by omega) hown' hgrow; have hc1 := hv1.cell; have hf1 := hv1.frozen)
        obtain ⟨hkt, hoth⟩ := app_step (v' := .slice (some ⟨g', 0, none⟩) ((pre.filter (keepU ua ub)).length + 1) cap') hv hrow hgrow
        exact ⟨hk2.from _, hkt, ⟨⟨⟨⟨⟨⟨_, hv2, by rw [filter_yes (keepU ua ub) pre x HKQ.out, flatU_snoc]; simpa using hr2, by rw [filter_yes (keepU ua ub) pre x HKQ.out]; simp⟩, hoth _ _ _ (by omega) (by decide) k1⟩, hoth _ _ _ (by omega) (by decide) k2⟩, app_other hrow hgrow (by omega) (by omega) HK3.out⟩, app_other hrow hgrow (by omega) (by omega) HK4.out⟩, hB.trans (hb2.mono (by omega))⟩⟩
    · have HKQ := hide hkp
      clear hkp
      rcases hh with ⟨e1, e2⟩ | ⟨e1, e2, e3⟩ | ⟨e1, e2, e3, e4⟩
      all_goals
        gi_wp2
        exact ⟨(KeepsOthers.refl _).from _, KeepTy.refl _ _ _, ⟨⟨⟨⟨⟨⟨v, hv, by rw [filter_no (keepU ua ub) pre x HKQ.out]; exact hrow, by rw [filter_no (keepU ua ub) pre x HKQ.out]; exact hnil⟩, k1⟩, k2⟩, HK3.out⟩, HK4.out⟩, hB⟩⟩
  case done =>
    rintro D xs W hD rfl ⟨⟨⟨⟨⟨⟨v, hv, hrow, hnil⟩, k1⟩, k2⟩, k3⟩, k4⟩, hB⟩ hK
    rw [← HL.out.1] at hrow
    obtain ⟨g, cap, rfl, hg⟩ := owns_pos hrow HL.out.2
    have hc := hv.cell
    have m1 : W.cell? ⟨w.heap.size + 1 + 1, 0, none⟩ = some (.slice none 0 0) := k1.cell 0
    have m2 : W.cell? ⟨w.heap.size + 1 + 1 + 1, 0, none⟩ = some (.int .i64 0) := k2.cell 0
    have f1 : W.frozen? ⟨w.heap.size + 1 + 1, 0, none⟩ = false := by simp [World.frozen?, show W.heap[w.heap.size + 1 + 1]? = _ from k1]
    have f2 : W.frozen? ⟨w.heap.size + 1 + 1 + 1, 0, none⟩ = false := by simp [World.frozen?, show W.heap[w.heap.size + 1 + 1 + 1]? = _ from k2]
    gi_wp2
    have hK2 : ((W.setCell ⟨w.heap.size + 1 + 1, 0, none⟩ (.slice (some ⟨g, 0, none⟩) L.length cap)).setCell ⟨w.heap.size + 1 + 1 + 1, 0, none⟩ (.int .i64 0)).heap[D]? = some (.deferred (some [])) := ((KeepsOthers.setCell _ _ _).trans (KeepsOthers.setCell _ _ _)).same _ _ hK rfl
    refine ⟨by simp, .inl ⟨_, _, rfl, run_takeDeferred hK2, ?_⟩⟩
    have hgp := grownBy_putObj' ((W.setCell ⟨w.heap.size + 1 + 1, 0, none⟩ (.slice (some ⟨g, 0, none⟩) L.length cap)).setCell ⟨w.heap.size + 1 + 1 + 1, 0, none⟩ (.int .i64 0)) D (.deferred none)
    have j1 := blk_own ((k1.set0 (.slice (some ⟨g, 0, none⟩) L.length cap)).far (p := ⟨w.heap.size + 1 + 1 + 1, 0, none⟩) (by simp) (.int .i64 0)) hgp (fun r e => by cases e; exact ⟨_, hK2, rfl⟩)
    have j2 := blk_own ((k2.far (p := ⟨w.heap.size + 1 + 1, 0, none⟩) (by simp) (.slice (some ⟨g, 0, none⟩) L.length cap)).set0 (.int .i64 0)) hgp (fun r e => by cases e; exact ⟨_, hK2, rfl⟩)
    refine ⟨_, res_meets rfl rfl j1 j2, g, cap, rfl, ?_, by omega, ?_⟩
    · refine ownsRow_putObj ?_ _ hK2 rfl
      have hr1 := hrow.kept (grownBy_setCell' W (w.heap.size + 1 + 1) (.slice (some ⟨g, 0, none⟩) L.length cap)) (.inr (hv1row hrow k1))
      have hr2 := hr1.kept (grownBy_setCell' _ (w.heap.size + 1 + 1 + 1) (.int .i64 0)) (.inr (hv1row hr1 (k2.far (p := ⟨w.heap.size + 1 + 1, 0, none⟩) (by simp) _)))
      exact hr2.base (Nat.zero_le _)
    · exact ((hB.setCell (by simp; omega) _).setCell (by simp; omega) _).trans (belowK_b (w := w) (Nat.le_refl _) _ D _ _ (by omega) hK2 rfl rfl)
  case stop =>
    rintro D cc pre W _ _ h _
    exact h.elim

theorem BlkIs.fz' {w : World} {B : Nat} {cs : Array Value} {t : TypeId} (h : BlkIs w B cs t) (i : Nat) : w.frozen? ⟨B, i, none⟩ = false := by simp [World.frozen?, show w.heap[B]? = _ from h]
/-- Why the units of some years are not told. -/
def allE (c : Cal) (lv f t : Int) : Int := if c.okB = true ∧ 1 ≤ lv ∧ lv ≤ 5 then (if c.first ≤ f ∧ t ≤ c.last ∧ f ≤ t then 0 else 11) else 1
theorem all_ok {c : Cal} {lv f t : Int} (h : allE c lv f t = 0) : c.okB = true ∧ (1 ≤ lv ∧ lv ≤ 5) ∧ c.first ≤ f ∧ t ≤ c.last ∧ f ≤ t := by
  unfold allE at h
  split at h
  · split at h
    · rename_i h1 h2; exact ⟨h1.1, h1.2, h2⟩
    · omega
  · omega
end Go.Proofs.YtjhhmeoibfdcmaaGreatDoor
