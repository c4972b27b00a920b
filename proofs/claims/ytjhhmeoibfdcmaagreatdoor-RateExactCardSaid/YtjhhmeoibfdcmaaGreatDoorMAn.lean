/- Contracts of anchor: rules. A calendar that lies in a block. Contracts of anchor: End, Start. Contracts of anchor: Start. Contracts of anchor: Days, Weeks; how long years are. -/
import Derived.Test.YtjhhmeoibfdcmaaGreatDoorMCa
import Derived.Test.YtjhhmeoibfdcmaaGreatDoorFieldF
import Derived.Test.YtjhhmeoibfdcmaaGreatDoorFieldC
namespace Go.Proofs.YtjhhmeoibfdcmaaGreatDoor
open Go.RowKit Qd
set_option linter.unusedSimpArgs false
set_option linter.unusedVariables false

set_option maxHeartbeats 800000 in
theorem rlast_any (m d y : Int) (w : World) :
    Calls Tryz.prog 141 #[.agg #[.int .i64 m, .int .i64 d], .int .i64 y] w fun e w' => e = .returned (.tuple #[.int .i64 (lastV y m d), .int .i64 (wkE y m d)]) ∧ Below w.heap.size w w' := by
  go_enter Tryz.func141, Tryz.ntmps141
  go_wp2_with fail
  refine (last_any _ _ _ _).mono ?_
  rintro e w1 ⟨rfl, hb1⟩
  go_wp2
  go_ret2
  exact ⟨rfl, ((Below.refl _ _).alloc (Nat.le_refl _) _).trans (hb1.mono (by simp))⟩

set_option maxHeartbeats 800000 in
theorem rnear_any (m d y : Int) (w : World) :
    Calls Tryz.prog 143 #[.agg #[.int .i64 m, .int .i64 d], .int .i64 y] w fun e w' => e = .returned (.tuple #[.int .i64 (nearV y m d), .int .i64 (nearE y m d)]) ∧ Below w.heap.size w w' := by
  go_enter Tryz.func143, Tryz.ntmps143
  go_wp2_with fail
  refine (near_any _ _ _ _).mono ?_
  rintro e w1 ⟨rfl, hb1⟩
  go_wp2
  go_ret2
  exact ⟨rfl, ((Below.refl _ _).alloc (Nat.le_refl _) _).trans (hb1.mono (by simp))⟩

def monV (y m : Int) : Int := if thereB y m then endN y m else 0
def monE (y m : Int) : Int := if thereB y m then 0 else 4
set_option maxHeartbeats 800000 in
theorem rmonth_any (m y : Int) (w : World) :
    Calls Tryz.prog 142 #[.int .i64 m, .int .i64 y] w fun e w' => e = .returned (.tuple #[.int .i64 (monV y m), .int .i64 (monE y m)]) ∧ Below w.heap.size w w' := by
  cases ht : thereB y m
  · have hl : lenE y m = 4 := by simp [lenE, ht]
    have H1 := hide (show monV y m = 0 by simp [monV, ht])
    have H2 := hide (show monE y m = 4 by simp [monE, ht])
    go_enter Tryz.func142, Tryz.ntmps142
    go_wp2_with fail
    refine (length_any _ _ _).mono ?_
    rintro e w1 ⟨rfl, hb1⟩
    rw [hl]
    go_wp2
    go_ret2
    exact ⟨ret_int2 H1.out.symm H2.out.symm, hb1⟩
  · have hl : lenE y m = 0 := by simp [lenE, ht]
    have hd := end_date y m ht
    have hdE : dateE y m (lenV y m) = 0 := by simp [dateE, hd]
    have hdV : dayV y m (lenV y m) = endN y m := by simp [dayV, hd, endN]
    have H1 := hide (show monV y m = endN y m by simp [monV, ht])
    have H2 := hide (show monE y m = 0 by simp [monE, ht])
    have H4 := hide (And.intro hdE hdV)
    clear hdE hdV hd
    go_enter Tryz.func142, Tryz.ntmps142
    go_wp2_with fail
    refine (length_any _ _ _).mono ?_
    rintro e w1 ⟨rfl, hb1⟩
    rw [hl]
    go_wp2_with fail
    refine (day_any _ _ _ _).mono ?_
    rintro e w2 ⟨rfl, hb2⟩
    rw [H4.out.1, H4.out.2]
    go_wp2
    go_ret2
    exact ⟨ret_int2 H1.out.symm H2.out.symm, hb1.trans (hb2.mono hb1.size)⟩

/-- The rule of a calendar, as a value. -/
def ruleV (k m d : Int) : Value :=
  if k = 1 ∨ k = 4 then .iface 163 (.agg #[.int .i64 m, .int .i64 d]) else if k = 6 then .iface 164 (.int .i64 m) else .iface 165 (.agg #[.int .i64 m, .int .i64 d])
set_option maxHeartbeats 800000 in
theorem rule_any (c : Cal) (w : World) :
    Calls Tryz.prog 71 #[calV c] w fun e w' => e = .returned (ruleV c.kind c.month c.day) ∧ Below w.heap.size w w' := by
  simp only [calV]
  go_enter Tryz.func71, Tryz.ntmps71
  go_wp2
  all_goals
    go_ret
    refine ⟨?_, by (repeat' exact bel)⟩
    simp_all [ruleV]

/-- Why a year, from one on, is not told. -/
def askE (c : Cal) (y a : Int) : Int := if c.okB then (if a ≤ y ∧ y ≤ 9997 then 0 else 11) else 1
set_option maxHeartbeats 800000 in
theorem asked_any (c : Cal) (y a : Int) (w : World) (hn : c.name.size ≤ 1000) :
    Calls Tryz.prog 70 #[calV c, .int .i64 y, .int .i64 a] w fun e w' => e = .returned (.int .i64 (askE c y a)) ∧ Below w.heap.size w w' := by
  simp only [calV]
  cases hk : c.okB
  · have hE : okE c = 1 := by simp [okE, hk]
    have H1 := hide (show askE c y a = 1 by simp [askE, hk])
    go_enter Tryz.func70, Tryz.ntmps70
    go_wp2_with fail
    refine (check_any c _ hn).mono ?_
    rintro e w1 ⟨rfl, hb1⟩
    rw [hE]
    go_wp2
    go_ret
    exact ⟨ret_int H1.out.symm, ((Below.refl _ _).alloc (Nat.le_refl _) _).trans (hb1.mono (by simp))⟩
  · have hE : okE c = 0 := by simp [okE, hk]
    go_enter Tryz.func70, Tryz.ntmps70
    go_wp2_with fail
    refine (check_any c _ hn).mono ?_
    rintro e w1 ⟨rfl, hb1⟩
    rw [hE]
    go_wp2
    all_goals
      go_ret
      refine ⟨ret_int ?_, ((Below.refl _ _).alloc (Nat.le_refl _) _).trans (hb1.mono (by simp))⟩
      clear hb1
      simp only [askE, hk]
      grind

abbrev CalAt (w : World) (B : Nat) (c : Cal) : Prop :=
  w.cell? ⟨B, 0, none⟩ = some (.string c.name) ∧ w.cell? ⟨B, 1, none⟩ = some (.int .i64 c.kind) ∧ w.cell? ⟨B, 2, none⟩ = some (.int .i64 c.day) ∧ w.cell? ⟨B, 3, none⟩ = some (.int .i64 c.month) ∧
  w.cell? ⟨B, 4, none⟩ = some (.int .i64 c.shift) ∧ w.cell? ⟨B, 5, none⟩ = some (.int .i64 c.shape) ∧ w.cell? ⟨B, 6, none⟩ = some (.int .i64 c.p0) ∧ w.cell? ⟨B, 7, none⟩ = some (.int .i64 c.p1) ∧
  w.cell? ⟨B, 8, none⟩ = some (.int .i64 c.p2) ∧ w.cell? ⟨B, 9, none⟩ = some (.int .i64 c.cycle) ∧ w.cell? ⟨B, 10, none⟩ = some (.int .i64 c.extra) ∧ w.cell? ⟨B, 11, none⟩ = some (.int .i64 c.first) ∧
  w.cell? ⟨B, 12, none⟩ = some (.int .i64 c.last) ∧ w.cell? ⟨B, 13, none⟩ = some (.int .i64 c.policy)

abbrev calObj (c : Cal) : Obj := .cells #[.string c.name, .int .i64 c.kind, .int .i64 c.day, .int .i64 c.month, .int .i64 c.shift, .int .i64 c.shape, .int .i64 c.p0, .int .i64 c.p1, .int .i64 c.p2, .int .i64 c.cycle, .int .i64 c.extra, .int .i64 c.first, .int .i64 c.last, .int .i64 c.policy] 24
theorem calAt_new (w : World) (c : Cal) : CalAt (w.alloc (calObj c)) w.heap.size c := by
  refine ⟨?_, ?_, ?_, ?_, ?_, ?_, ?_, ?_, ?_, ?_, ?_, ?_, ?_, ?_⟩ <;> simp
theorem calAt_same {W W' : World} {B : Nat} {c : Cal} (h : ∀ o, W'.cell? ⟨B, o, none⟩ = W.cell? ⟨B, o, none⟩) (Q : CalAt W B c) : CalAt W' B c := by
  obtain ⟨q0, q1, q2, q3, q4, q5, q6, q7, q8, q9, q10, q11, q12, q13⟩ := Q
  exact ⟨(h 0).trans q0, (h 1).trans q1, (h 2).trans q2, (h 3).trans q3, (h 4).trans q4, (h 5).trans q5, (h 6).trans q6, (h 7).trans q7, (h 8).trans q8, (h 9).trans q9, (h 10).trans q10, (h 11).trans q11, (h 12).trans q12, (h 13).trans q13⟩
theorem calAt_below {W W' : World} {B K : Nat} {c : Cal} (hb : Below K W W') (hB : B < K) (Q : CalAt W B c) : CalAt W' B c :=
  calAt_same (fun o => hb.cell (p := ⟨B, o, none⟩) hB) Q
theorem calAt_alloc {W : World} {B : Nat} {c : Cal} (Q : CalAt W B c) (hB : B < W.heap.size) (o : Obj) : CalAt (W.alloc o) B c :=
  calAt_same (fun i => World.cell?_alloc_lt W o ⟨B, i, none⟩ hB) Q
theorem qq {W w1 : World} {p m : Nat} {c : Cal} (hb : Below m W w1) (h : CalAt W p c := by first | (with_reducible assumption) | exact calAt_alloc (by with_reducible assumption) (by omega) _ | exact calAt_alloc (calAt_alloc (by with_reducible assumption) (by omega) _) (by simp; omega) _) (h2 : p < m := by exact sz) : Hid (CalAt w1 p c) := calAt_below hb h2 h

/-- The day on which the year ends that is told by a civil year's month. -/
def finV (c : Cal) (z : Int) : Int :=
  if c.kind = 1 ∨ c.kind = 4 then endN z c.month - (endW z c.month - c.day + 7) % 7 else if c.kind = 6 then endN z c.month else endN z c.month + nearD z c.month c.day
def endV (c : Cal) (y : Int) : Int := if askE c y 1600 = 0 then finV c (y + c.shift) else 0
def startV (c : Cal) (y : Int) : Int := if askE c y 1601 = 0 then finV c (y - 1 + c.shift) + 1 else 0

theorem end_lo (y m : Int) (h : thereB y m = true) : 27 ≤ endN y m := by
  have hl := len_lo y m h
  have ht : 1600 ≤ y ∧ y ≤ 9999 ∧ 1 ≤ m ∧ m ≤ 12 := by simpa [thereB] using h
  have hy := years_bd y (by omega) (by omega)
  have ha := ahead_bd y m
  unfold endN dayN
  omega
theorem end_hi (y m : Int) (h : thereB y m = true) (hy2 : y ≤ 9998) : endN y m < 3068037 - 365 := by
  have ht : 1600 ≤ y ∧ y ≤ 9999 ∧ 1 ≤ m ∧ m ≤ 12 := by simpa [thereB] using h
  have hd := end_date y m h
  have e1 := years_succ y (by omega) (by omega)
  have e2 := years_mono (y + 1) 9999 (by omega) (by omega)
  have e3 : yearsV 9999 = 3067672 := by decide
  have h13 := ahead_13 y
  have hl : lenV y m = aheadV y (m + 1) - aheadV y m := by unfold lenV; rw [if_pos h]
  have hm : aheadV y (m + 1) ≤ aheadV y 13 := by
    rcases Int.lt_or_eq_of_le (show m + 1 ≤ 13 by omega) with h5 | h5
    · have := ahead_le y (m + 1) 13 (by omega) h5 (by omega); omega
    · rw [h5]; omega
  unfold endN dayN
  omega
theorem ask_ok {c : Cal} {y a : Int} (h : askE c y a = 0) : c.Ok ∧ a ≤ y ∧ y ≤ 9997 := by
  unfold askE at h
  split at h
  · rename_i hk
    split at h
    · exact ⟨by simpa [Cal.okB] using hk, by assumption⟩
    · omega
  · omega
/-- What a calendar that may be says of its rule. -/
theorem ok_rule {c : Cal} (h : c.Ok) : (1 ≤ c.month ∧ c.month ≤ 12) ∧ (0 ≤ c.shift ∧ c.shift ≤ 1) ∧ (1 ≤ c.kind ∧ c.kind ≤ 6) ∧ (c.kind ≠ 6 → 1 ≤ c.day ∧ c.day ≤ 7) := by
  obtain ⟨_, _, _, hr⟩ := h
  unfold Cal.ruled at hr
  omega

set_option maxRecDepth 100000 in
set_option maxHeartbeats 1600000 in
theorem end_last (c : Cal) (y : Int) (w : World) (hn : c.name.size ≤ 1000) (hE : askE c y 1600 = 0) (hk3 : c.kind = 1 ∨ c.kind = 4) :
    Calls Tryz.prog 109 #[calV c, .int .i64 y] w fun e w' => e = .returned (.tuple #[.int .i64 (endV c y), .int .i64 (askE c y 1600)]) ∧ Below w.heap.size w w' := by
  obtain ⟨hok, hy1, hy2⟩ := ask_ok hE
  obtain ⟨hm, hs, hk, hd⟩ := ok_rule hok
  have ht : thereB (y + c.shift) c.month = true := by simp [thereB]; omega
  have H1 := hide (show endV c y = finV c (y + c.shift) by simp [endV, hE])
  have H2 := hide hE
  have hwk : wkE (y + c.shift) c.month c.day = 0 := by simp [wkE, ht]; omega
  have h3 : lastV (y + c.shift) c.month c.day = finV c (y + c.shift) := by simp [lastV, hwk, finV, hk3]
  have h4 : wkE (y + c.shift) c.month c.day = 0 := hwk
  have HR := hide (show ruleV c.kind c.month c.day = .iface 163 (.agg #[.int .i64 c.month, .int .i64 c.day]) by simp [ruleV, hk3])
  have E1 := hide (show IntKind.i64.wrap (y + c.shift) = (y + c.shift) by first | exact IntWalk.i64_in _ (by omega) | rw [IntWalk.i64_in (y - 1) (by omega), IntWalk.i64_in _ (by omega)])
  have H3 := hide h3
  have H4 := hide h4
  clear hE hok ht h3 h4 hk3 hd
  try clear hwk
  try clear hab hnd hlo hhi
  try clear hn1
  simp only [calV]
  go_enter Tryz.func109, Tryz.ntmps109
  go_wp2_with fail
  refine (asked_any c _ _ _ hn).mono ?_
  rintro e w1 ⟨rfl, hb1⟩
  have hz1 : w.heap.size < w1.heap.size := by have := hb1.size; simp at this; omega
  have HB1 := hide (Below.trans ((Below.refl _ _).alloc (Nat.le_refl _) _) (hb1.mono (by simp)) : Below w.heap.size w w1)
  have HQ := hide (calAt_below hb1 (by simp) (calAt_new w c))
  obtain ⟨q0, q1, q2, q3, q4, q5, q6, q7, q8, q9, q10, q11, q12, q13⟩ := HQ.out
  clear hb1
  rw [H2.out]
  go_wp2_with fail
  go_region_held3 (fun w' => w'.cell? ⟨w.heap.size, 0, none⟩ = some (.string c.name) ∧ w'.cell? ⟨w.heap.size, 1, none⟩ = some (.int .i64 c.kind) ∧ w'.cell? ⟨w.heap.size, 2, none⟩ = some (.int .i64 c.day) ∧ w'.cell? ⟨w.heap.size, 3, none⟩ = some (.int .i64 c.month) ∧ w'.cell? ⟨w.heap.size, 4, none⟩ = some (.int .i64 c.shift) ∧ w'.cell? ⟨w.heap.size, 5, none⟩ = some (.int .i64 c.shape) ∧ w'.cell? ⟨w.heap.size, 6, none⟩ = some (.int .i64 c.p0) ∧ w'.cell? ⟨w.heap.size, 7, none⟩ = some (.int .i64 c.p1) ∧ w'.cell? ⟨w.heap.size, 8, none⟩ = some (.int .i64 c.p2) ∧ w'.cell? ⟨w.heap.size, 9, none⟩ = some (.int .i64 c.cycle) ∧ w'.cell? ⟨w.heap.size, 10, none⟩ = some (.int .i64 c.extra) ∧ w'.cell? ⟨w.heap.size, 11, none⟩ = some (.int .i64 c.first) ∧ w'.cell? ⟨w.heap.size, 12, none⟩ = some (.int .i64 c.last) ∧ w'.cell? ⟨w.heap.size, 13, none⟩ = some (.int .i64 c.policy)) (first | go_keep | exact calAt_below hb2 hz1 HQ.out | exact calAt_below hb3 hz2 (calAt_below hb2 hz1 HQ.out))
    (first
    | (go_at_call 71; refine (rule_any c _).mono ?_; rintro e w2 ⟨rfl, hb2⟩; rw [HR.out]; have hz2 : w.heap.size < w2.heap.size := Nat.lt_of_lt_of_le hz1 hb2.size)
    | (go_at_call 141; refine (rlast_any _ _ _ _).mono ?_; rintro e w3 ⟨rfl, hb3⟩; rw [E1.out, H3.out, H4.out]))
  all_goals
    go_simp
    go_wp2
    go_ret2
    refine ⟨ret_int2 ?_ H2.out.symm, ?_⟩
    · exact H1.out.symm
    · exact (HB1.out.drew.trans (hb2.mono (Nat.le_of_lt hz1))).trans (hb3.mono (Nat.le_of_lt hz2))

set_option maxRecDepth 100000 in
set_option maxHeartbeats 1600000 in
theorem end_month (c : Cal) (y : Int) (w : World) (hn : c.name.size ≤ 1000) (hE : askE c y 1600 = 0) (hk3 : c.kind = 6) :
    Calls Tryz.prog 109 #[calV c, .int .i64 y] w fun e w' => e = .returned (.tuple #[.int .i64 (endV c y), .int .i64 (askE c y 1600)]) ∧ Below w.heap.size w w' := by
  obtain ⟨hok, hy1, hy2⟩ := ask_ok hE
  obtain ⟨hm, hs, hk, hd⟩ := ok_rule hok
  have ht : thereB (y + c.shift) c.month = true := by simp [thereB]; omega
  have H1 := hide (show endV c y = finV c (y + c.shift) by simp [endV, hE])
  have H2 := hide hE
  have hn1 : ¬ (c.kind = 1 ∨ c.kind = 4) := by omega
  have h3 : monV (y + c.shift) c.month = finV c (y + c.shift) := by simp [monV, ht, finV, hk3]
  have h4 : monE (y + c.shift) c.month = 0 := by simp [monE, ht]
  have HR := hide (show ruleV c.kind c.month c.day = .iface 164 (.int .i64 c.month) by simp [ruleV, hk3])
  have E1 := hide (show IntKind.i64.wrap (y + c.shift) = (y + c.shift) by first | exact IntWalk.i64_in _ (by omega) | rw [IntWalk.i64_in (y - 1) (by omega), IntWalk.i64_in _ (by omega)])
  have H3 := hide h3
  have H4 := hide h4
  clear hE hok ht h3 h4 hk3 hd
  try clear hwk
  try clear hab hnd hlo hhi
  try clear hn1
  simp only [calV]
  go_enter Tryz.func109, Tryz.ntmps109
  go_wp2_with fail
  refine (asked_any c _ _ _ hn).mono ?_
  rintro e w1 ⟨rfl, hb1⟩
  have hz1 : w.heap.size < w1.heap.size := by have := hb1.size; simp at this; omega
  have HB1 := hide (Below.trans ((Below.refl _ _).alloc (Nat.le_refl _) _) (hb1.mono (by simp)) : Below w.heap.size w w1)
  have HQ := hide (calAt_below hb1 (by simp) (calAt_new w c))
  obtain ⟨q0, q1, q2, q3, q4, q5, q6, q7, q8, q9, q10, q11, q12, q13⟩ := HQ.out
  clear hb1
  rw [H2.out]
  go_wp2_with fail
  go_region_held3 (fun w' => w'.cell? ⟨w.heap.size, 0, none⟩ = some (.string c.name) ∧ w'.cell? ⟨w.heap.size, 1, none⟩ = some (.int .i64 c.kind) ∧ w'.cell? ⟨w.heap.size, 2, none⟩ = some (.int .i64 c.day) ∧ w'.cell? ⟨w.heap.size, 3, none⟩ = some (.int .i64 c.month) ∧ w'.cell? ⟨w.heap.size, 4, none⟩ = some (.int .i64 c.shift) ∧ w'.cell? ⟨w.heap.size, 5, none⟩ = some (.int .i64 c.shape) ∧ w'.cell? ⟨w.heap.size, 6, none⟩ = some (.int .i64 c.p0) ∧ w'.cell? ⟨w.heap.size, 7, none⟩ = some (.int .i64 c.p1) ∧ w'.cell? ⟨w.heap.size, 8, none⟩ = some (.int .i64 c.p2) ∧ w'.cell? ⟨w.heap.size, 9, none⟩ = some (.int .i64 c.cycle) ∧ w'.cell? ⟨w.heap.size, 10, none⟩ = some (.int .i64 c.extra) ∧ w'.cell? ⟨w.heap.size, 11, none⟩ = some (.int .i64 c.first) ∧ w'.cell? ⟨w.heap.size, 12, none⟩ = some (.int .i64 c.last) ∧ w'.cell? ⟨w.heap.size, 13, none⟩ = some (.int .i64 c.policy)) (first | go_keep | exact calAt_below hb2 hz1 HQ.out | exact calAt_below hb3 hz2 (calAt_below hb2 hz1 HQ.out))
    (first
    | (go_at_call 71; refine (rule_any c _).mono ?_; rintro e w2 ⟨rfl, hb2⟩; rw [HR.out]; have hz2 : w.heap.size < w2.heap.size := Nat.lt_of_lt_of_le hz1 hb2.size)
    | (go_at_call 142; refine (rmonth_any _ _ _).mono ?_; rintro e w3 ⟨rfl, hb3⟩; rw [E1.out, H3.out, H4.out]))
  all_goals
    go_simp
    go_wp2
    go_ret2
    refine ⟨ret_int2 ?_ H2.out.symm, ?_⟩
    · exact H1.out.symm
    · exact (HB1.out.drew.trans (hb2.mono (Nat.le_of_lt hz1))).trans (hb3.mono (Nat.le_of_lt hz2))

set_option maxRecDepth 100000 in
set_option maxHeartbeats 1600000 in
theorem end_near (c : Cal) (y : Int) (w : World) (hn : c.name.size ≤ 1000) (hE : askE c y 1600 = 0) (hk3 : ¬ (c.kind = 1 ∨ c.kind = 4) ∧ ¬ c.kind = 6) :
    Calls Tryz.prog 109 #[calV c, .int .i64 y] w fun e w' => e = .returned (.tuple #[.int .i64 (endV c y), .int .i64 (askE c y 1600)]) ∧ Below w.heap.size w w' := by
  obtain ⟨hok, hy1, hy2⟩ := ask_ok hE
  obtain ⟨hm, hs, hk, hd⟩ := ok_rule hok
  have ht : thereB (y + c.shift) c.month = true := by simp [thereB]; omega
  have H1 := hide (show endV c y = finV c (y + c.shift) by simp [endV, hE])
  have H2 := hide hE
  have hwk : wkE (y + c.shift) c.month c.day = 0 := by simp [wkE, ht]; omega
  have hlo := end_lo (y + c.shift) c.month ht
  have hhi := end_hi (y + c.shift) c.month ht (by omega)
  have hnd : -3 ≤ nearD (y + c.shift) c.month c.day ∧ nearD (y + c.shift) c.month c.day ≤ 3 := by unfold nearD; omega
  have hab : addB (endN (y + c.shift) c.month) (nearD (y + c.shift) c.month c.day) = true := by simp [addB, isB]; omega
  have h3 : nearV (y + c.shift) c.month c.day = finV c (y + c.shift) := by simp [nearV, hwk, finV, hk3.1, hk3.2, addV, hab]
  have h4 : nearE (y + c.shift) c.month c.day = 0 := by simp [nearE, hwk, addE, hab]
  have HR := hide (show ruleV c.kind c.month c.day = .iface 165 (.agg #[.int .i64 c.month, .int .i64 c.day]) by simp [ruleV, hk3.1, hk3.2])
  have E1 := hide (show IntKind.i64.wrap (y + c.shift) = (y + c.shift) by first | exact IntWalk.i64_in _ (by omega) | rw [IntWalk.i64_in (y - 1) (by omega), IntWalk.i64_in _ (by omega)])
  have H3 := hide h3
  have H4 := hide h4
  clear hE hok ht h3 h4 hk3 hd
  try clear hwk
  try clear hab hnd hlo hhi
  try clear hn1
  simp only [calV]
  go_enter Tryz.func109, Tryz.ntmps109
  go_wp2_with fail
  refine (asked_any c _ _ _ hn).mono ?_
  rintro e w1 ⟨rfl, hb1⟩
  have hz1 : w.heap.size < w1.heap.size := by have := hb1.size; simp at this; omega
  have HB1 := hide (Below.trans ((Below.refl _ _).alloc (Nat.le_refl _) _) (hb1.mono (by simp)) : Below w.heap.size w w1)
  have HQ := hide (calAt_below hb1 (by simp) (calAt_new w c))
  obtain ⟨q0, q1, q2, q3, q4, q5, q6, q7, q8, q9, q10, q11, q12, q13⟩ := HQ.out
  clear hb1
  rw [H2.out]
  go_wp2_with fail
  go_region_held3 (fun w' => w'.cell? ⟨w.heap.size, 0, none⟩ = some (.string c.name) ∧ w'.cell? ⟨w.heap.size, 1, none⟩ = some (.int .i64 c.kind) ∧ w'.cell? ⟨w.heap.size, 2, none⟩ = some (.int .i64 c.day) ∧ w'.cell? ⟨w.heap.size, 3, none⟩ = some (.int .i64 c.month) ∧ w'.cell? ⟨w.heap.size, 4, none⟩ = some (.int .i64 c.shift) ∧ w'.cell? ⟨w.heap.size, 5, none⟩ = some (.int .i64 c.shape) ∧ w'.cell? ⟨w.heap.size, 6, none⟩ = some (.int .i64 c.p0) ∧ w'.cell? ⟨w.heap.size, 7, none⟩ = some (.int .i64 c.p1) ∧ w'.cell? ⟨w.heap.size, 8, none⟩ = some (.int .i64 c.p2) ∧ w'.cell? ⟨w.heap.size, 9, none⟩ = some (.int .i64 c.cycle) ∧ w'.cell? ⟨w.heap.size, 10, none⟩ = some (.int .i64 c.extra) ∧ w'.cell? ⟨w.heap.size, 11, none⟩ = some (.int .i64 c.first) ∧ w'.cell? ⟨w.heap.size, 12, none⟩ = some (.int .i64 c.last) ∧ w'.cell? ⟨w.heap.size, 13, none⟩ = some (.int .i64 c.policy)) (first | go_keep | exact calAt_below hb2 hz1 HQ.out | exact calAt_below hb3 hz2 (calAt_below hb2 hz1 HQ.out))
    (first
    | (go_at_call 71; refine (rule_any c _).mono ?_; rintro e w2 ⟨rfl, hb2⟩; rw [HR.out]; have hz2 : w.heap.size < w2.heap.size := Nat.lt_of_lt_of_le hz1 hb2.size)
    | (go_at_call 143; refine (rnear_any _ _ _ _).mono ?_; rintro e w3 ⟨rfl, hb3⟩; rw [E1.out, H3.out, H4.out]))
  all_goals
    go_simp
    go_wp2
    go_ret2
    refine ⟨ret_int2 ?_ H2.out.symm, ?_⟩
    · exact H1.out.symm
    · exact (HB1.out.drew.trans (hb2.mono (Nat.le_of_lt hz1))).trans (hb3.mono (Nat.le_of_lt hz2))

set_option maxRecDepth 100000 in
set_option maxHeartbeats 1600000 in
theorem end_no (c : Cal) (y : Int) (w : World) (hn : c.name.size ≤ 1000) (hE : ¬ askE c y 1600 = 0) :
    Calls Tryz.prog 109 #[calV c, .int .i64 y] w fun e w' => e = .returned (.tuple #[.int .i64 (endV c y), .int .i64 (askE c y 1600)]) ∧ Below w.heap.size w w' := by
  have hE' : (askE c y 1600 != 0) = true := by simpa using hE
  have H1 := hide (show endV c y = 0 by simp [endV, hE])
  clear hE
  simp only [calV]
  go_enter Tryz.func109, Tryz.ntmps109
  go_wp2_with fail
  refine (asked_any c _ _ _ hn).mono ?_
  rintro e w1 ⟨rfl, hb1⟩
  go_wp2
  go_ret2
  exact ⟨ret_int2 H1.out.symm rfl, ((Below.refl _ _).alloc (Nat.le_refl _) _).trans (hb1.mono (by simp))⟩

theorem end_any (c : Cal) (y : Int) (w : World) (hn : c.name.size ≤ 1000) :
    Calls Tryz.prog 109 #[calV c, .int .i64 y] w fun e w' => e = .returned (.tuple #[.int .i64 (endV c y), .int .i64 (askE c y 1600)]) ∧ Below w.heap.size w w' := by
  by_cases hE : askE c y 1600 = 0
  · have hk3 : (c.kind = 1 ∨ c.kind = 4) ∨ c.kind = 6 ∨ ¬ (c.kind = 1 ∨ c.kind = 4) ∧ ¬ c.kind = 6 := by omega
    rcases hk3 with hk3 | hk3 | hk3
    · exact end_last c y w hn hE hk3
    · exact end_month c y w hn hE hk3
    · exact end_near c y w hn hE hk3
  · exact end_no c y w hn hE

end Go.Proofs.YtjhhmeoibfdcmaaGreatDoor

namespace Go.Proofs.YtjhhmeoibfdcmaaGreatDoor
open Go.RowKit Qd
set_option linter.unusedSimpArgs false
set_option linter.unusedVariables false

theorem fin_bd (c : Cal) (z : Int) (hok : c.Ok) (ht : thereB z c.month = true) (hz : z ≤ 9998) : 0 ≤ finV c z ∧ finV c z ≤ 3068037 := by
  have hlo := end_lo z c.month ht
  have hhi := end_hi z c.month ht hz
  obtain ⟨hm, hs, hk, hd⟩ := ok_rule hok
  have hw := endW_bd z c.month
  unfold finV nearD
  split
  · omega
  · split <;> omega
set_option maxRecDepth 100000 in
set_option maxHeartbeats 1600000 in
theorem start_last (c : Cal) (y : Int) (w : World) (hn : c.name.size ≤ 1000) (hE : askE c y 1601 = 0) (hk3 : c.kind = 1 ∨ c.kind = 4) :
    Calls Tryz.prog 49 #[calV c, .int .i64 y] w fun e w' => e = .returned (.tuple #[.int .i64 (startV c y), .int .i64 (askE c y 1601)]) ∧ Below w.heap.size w w' := by
  obtain ⟨hok, hy1, hy2⟩ := ask_ok hE
  obtain ⟨hm, hs, hk, hd⟩ := ok_rule hok
  have ht : thereB (y - 1 + c.shift) c.month = true := by simp [thereB]; omega
  have H1 := hide (show startV c y = finV c (y - 1 + c.shift) + 1 by simp [startV, hE])
  have H2 := hide hE
  have hwk : wkE (y - 1 + c.shift) c.month c.day = 0 := by simp [wkE, ht]; omega
  have h3 : lastV (y - 1 + c.shift) c.month c.day = finV c (y - 1 + c.shift) := by simp [lastV, hwk, finV, hk3]
  have h4 : wkE (y - 1 + c.shift) c.month c.day = 0 := hwk
  have HR := hide (show ruleV c.kind c.month c.day = .iface 163 (.agg #[.int .i64 c.month, .int .i64 c.day]) by simp [ruleV, hk3])
  have E1 := hide (show IntKind.i64.wrap (IntKind.i64.wrap (y - 1) + c.shift) = (y - 1 + c.shift) by first | exact IntWalk.i64_in _ (by omega) | rw [IntWalk.i64_in (y - 1) (by omega), IntWalk.i64_in _ (by omega)])
  have H3 := hide h3
  have H4 := hide h4
  have HF := fin_bd c (y - 1 + c.shift) hok ht (by omega)
  clear hE hok ht h3 h4 hk3 hd
  try clear hwk
  try clear hab hnd hlo hhi
  try clear hn1
  simp only [calV]
  go_enter Tryz.func49, Tryz.ntmps49
  go_wp2_with fail
  refine (asked_any c _ _ _ hn).mono ?_
  rintro e w1 ⟨rfl, hb1⟩
  have hz1 : w.heap.size < w1.heap.size := by have := hb1.size; simp at this; omega
  have HB1 := hide (Below.trans ((Below.refl _ _).alloc (Nat.le_refl _) _) (hb1.mono (by simp)) : Below w.heap.size w w1)
  have HQ := hide (calAt_below hb1 (by simp) (calAt_new w c))
  obtain ⟨q0, q1, q2, q3, q4, q5, q6, q7, q8, q9, q10, q11, q12, q13⟩ := HQ.out
  clear hb1
  rw [H2.out]
  go_wp2_with fail
  go_region_held3 (fun w' => w'.cell? ⟨w.heap.size, 0, none⟩ = some (.string c.name) ∧ w'.cell? ⟨w.heap.size, 1, none⟩ = some (.int .i64 c.kind) ∧ w'.cell? ⟨w.heap.size, 2, none⟩ = some (.int .i64 c.day) ∧ w'.cell? ⟨w.heap.size, 3, none⟩ = some (.int .i64 c.month) ∧ w'.cell? ⟨w.heap.size, 4, none⟩ = some (.int .i64 c.shift) ∧ w'.cell? ⟨w.heap.size, 5, none⟩ = some (.int .i64 c.shape) ∧ w'.cell? ⟨w.heap.size, 6, none⟩ = some (.int .i64 c.p0) ∧ w'.cell? ⟨w.heap.size, 7, none⟩ = some (.int .i64 c.p1) ∧ w'.cell? ⟨w.heap.size, 8, none⟩ = some (.int .i64 c.p2) ∧ w'.cell? ⟨w.heap.size, 9, none⟩ = some (.int .i64 c.cycle) ∧ w'.cell? ⟨w.heap.size, 10, none⟩ = some (.int .i64 c.extra) ∧ w'.cell? ⟨w.heap.size, 11, none⟩ = some (.int .i64 c.first) ∧ w'.cell? ⟨w.heap.size, 12, none⟩ = some (.int .i64 c.last) ∧ w'.cell? ⟨w.heap.size, 13, none⟩ = some (.int .i64 c.policy)) (first | go_keep | exact calAt_below hb2 hz1 HQ.out | exact calAt_below hb3 hz2 (calAt_below hb2 hz1 HQ.out))
    (first
    | (go_at_call 71; refine (rule_any c _).mono ?_; rintro e w2 ⟨rfl, hb2⟩; rw [HR.out]; have hz2 : w.heap.size < w2.heap.size := Nat.lt_of_lt_of_le hz1 hb2.size)
    | (go_at_call 141; refine (rlast_any _ _ _ _).mono ?_; rintro e w3 ⟨rfl, hb3⟩; rw [E1.out, H3.out, H4.out]))
  all_goals
    go_simp
    go_wp2
    go_ret2
    refine ⟨ret_int2 ?_ H2.out.symm, ?_⟩
    · exact H1.out.symm
    · exact (HB1.out.drew.trans (hb2.mono (Nat.le_of_lt hz1))).trans (hb3.mono (Nat.le_of_lt hz2))

set_option maxRecDepth 100000 in
set_option maxHeartbeats 1600000 in
theorem start_month (c : Cal) (y : Int) (w : World) (hn : c.name.size ≤ 1000) (hE : askE c y 1601 = 0) (hk3 : c.kind = 6) :
    Calls Tryz.prog 49 #[calV c, .int .i64 y] w fun e w' => e = .returned (.tuple #[.int .i64 (startV c y), .int .i64 (askE c y 1601)]) ∧ Below w.heap.size w w' := by
  obtain ⟨hok, hy1, hy2⟩ := ask_ok hE
  obtain ⟨hm, hs, hk, hd⟩ := ok_rule hok
  have ht : thereB (y - 1 + c.shift) c.month = true := by simp [thereB]; omega
  have H1 := hide (show startV c y = finV c (y - 1 + c.shift) + 1 by simp [startV, hE])
  have H2 := hide hE
  have hn1 : ¬ (c.kind = 1 ∨ c.kind = 4) := by omega
  have h3 : monV (y - 1 + c.shift) c.month = finV c (y - 1 + c.shift) := by simp [monV, ht, finV, hk3]
  have h4 : monE (y - 1 + c.shift) c.month = 0 := by simp [monE, ht]
  have HR := hide (show ruleV c.kind c.month c.day = .iface 164 (.int .i64 c.month) by simp [ruleV, hk3])
  have E1 := hide (show IntKind.i64.wrap (IntKind.i64.wrap (y - 1) + c.shift) = (y - 1 + c.shift) by first | exact IntWalk.i64_in _ (by omega) | rw [IntWalk.i64_in (y - 1) (by omega), IntWalk.i64_in _ (by omega)])
  have H3 := hide h3
  have H4 := hide h4
  have HF := fin_bd c (y - 1 + c.shift) hok ht (by omega)
  clear hE hok ht h3 h4 hk3 hd
  try clear hwk
  try clear hab hnd hlo hhi
  try clear hn1
  simp only [calV]
  go_enter Tryz.func49, Tryz.ntmps49
  go_wp2_with fail
  refine (asked_any c _ _ _ hn).mono ?_
  rintro e w1 ⟨rfl, hb1⟩
  have hz1 : w.heap.size < w1.heap.size := by have := hb1.size; simp at this; omega
  have HB1 := hide (Below.trans ((Below.refl _ _).alloc (Nat.le_refl _) _) (hb1.mono (by simp)) : Below w.heap.size w w1)
  have HQ := hide (calAt_below hb1 (by simp) (calAt_new w c))
  obtain ⟨q0, q1, q2, q3, q4, q5, q6, q7, q8, q9, q10, q11, q12, q13⟩ := HQ.out
  clear hb1
  rw [H2.out]
  go_wp2_with fail
  go_region_held3 (fun w' => w'.cell? ⟨w.heap.size, 0, none⟩ = some (.string c.name) ∧ w'.cell? ⟨w.heap.size, 1, none⟩ = some (.int .i64 c.kind) ∧ w'.cell? ⟨w.heap.size, 2, none⟩ = some (.int .i64 c.day) ∧ w'.cell? ⟨w.heap.size, 3, none⟩ = some (.int .i64 c.month) ∧ w'.cell? ⟨w.heap.size, 4, none⟩ = some (.int .i64 c.shift) ∧ w'.cell? ⟨w.heap.size, 5, none⟩ = some (.int .i64 c.shape) ∧ w'.cell? ⟨w.heap.size, 6, none⟩ = some (.int .i64 c.p0) ∧ w'.cell? ⟨w.heap.size, 7, none⟩ = some (.int .i64 c.p1) ∧ w'.cell? ⟨w.heap.size, 8, none⟩ = some (.int .i64 c.p2) ∧ w'.cell? ⟨w.heap.size, 9, none⟩ = some (.int .i64 c.cycle) ∧ w'.cell? ⟨w.heap.size, 10, none⟩ = some (.int .i64 c.extra) ∧ w'.cell? ⟨w.heap.size, 11, none⟩ = some (.int .i64 c.first) ∧ w'.cell? ⟨w.heap.size, 12, none⟩ = some (.int .i64 c.last) ∧ w'.cell? ⟨w.heap.size, 13, none⟩ = some (.int .i64 c.policy)) (first | go_keep | exact calAt_below hb2 hz1 HQ.out | exact calAt_below hb3 hz2 (calAt_below hb2 hz1 HQ.out))
    (first
    | (go_at_call 71; refine (rule_any c _).mono ?_; rintro e w2 ⟨rfl, hb2⟩; rw [HR.out]; have hz2 : w.heap.size < w2.heap.size := Nat.lt_of_lt_of_le hz1 hb2.size)
    | (go_at_call 142; refine (rmonth_any _ _ _).mono ?_; rintro e w3 ⟨rfl, hb3⟩; rw [E1.out, H3.out, H4.out]))
  all_goals
    go_simp
    go_wp2
    go_ret2
    refine ⟨ret_int2 ?_ H2.out.symm, ?_⟩
    · exact H1.out.symm
    · exact (HB1.out.drew.trans (hb2.mono (Nat.le_of_lt hz1))).trans (hb3.mono (Nat.le_of_lt hz2))

set_option maxRecDepth 100000 in
set_option maxHeartbeats 1600000 in
theorem start_near (c : Cal) (y : Int) (w : World) (hn : c.name.size ≤ 1000) (hE : askE c y 1601 = 0) (hk3 : ¬ (c.kind = 1 ∨ c.kind = 4) ∧ ¬ c.kind = 6) :
    Calls Tryz.prog 49 #[calV c, .int .i64 y] w fun e w' => e = .returned (.tuple #[.int .i64 (startV c y), .int .i64 (askE c y 1601)]) ∧ Below w.heap.size w w' := by
  obtain ⟨hok, hy1, hy2⟩ := ask_ok hE
  obtain ⟨hm, hs, hk, hd⟩ := ok_rule hok
  have ht : thereB (y - 1 + c.shift) c.month = true := by simp [thereB]; omega
  have H1 := hide (show startV c y = finV c (y - 1 + c.shift) + 1 by simp [startV, hE])
  have H2 := hide hE
  have hwk : wkE (y - 1 + c.shift) c.month c.day = 0 := by simp [wkE, ht]; omega
  have hlo := end_lo (y - 1 + c.shift) c.month ht
  have hhi := end_hi (y - 1 + c.shift) c.month ht (by omega)
  have hnd : -3 ≤ nearD (y - 1 + c.shift) c.month c.day ∧ nearD (y - 1 + c.shift) c.month c.day ≤ 3 := by unfold nearD; omega
  have hab : addB (endN (y - 1 + c.shift) c.month) (nearD (y - 1 + c.shift) c.month c.day) = true := by simp [addB, isB]; omega
  have h3 : nearV (y - 1 + c.shift) c.month c.day = finV c (y - 1 + c.shift) := by simp [nearV, hwk, finV, hk3.1, hk3.2, addV, hab]
  have h4 : nearE (y - 1 + c.shift) c.month c.day = 0 := by simp [nearE, hwk, addE, hab]
  have HR := hide (show ruleV c.kind c.month c.day = .iface 165 (.agg #[.int .i64 c.month, .int .i64 c.day]) by simp [ruleV, hk3.1, hk3.2])
  have E1 := hide (show IntKind.i64.wrap (IntKind.i64.wrap (y - 1) + c.shift) = (y - 1 + c.shift) by first | exact IntWalk.i64_in _ (by omega) | rw [IntWalk.i64_in (y - 1) (by omega), IntWalk.i64_in _ (by omega)])
  have H3 := hide h3
  have H4 := hide h4
  have HF := fin_bd c (y - 1 + c.shift) hok ht (by omega)
  clear hE hok ht h3 h4 hk3 hd
  try clear hwk
  try clear hab hnd hlo hhi
  try clear hn1
  simp only [calV]
  go_enter Tryz.func49, Tryz.ntmps49
  go_wp2_with fail
  refine (asked_any c _ _ _ hn).mono ?_
  rintro e w1 ⟨rfl, hb1⟩
  have hz1 : w.heap.size < w1.heap.size := by have := hb1.size; simp at this; omega
  have HB1 := hide (Below.trans ((Below.refl _ _).alloc (Nat.le_refl _) _) (hb1.mono (by simp)) : Below w.heap.size w w1)
  have HQ := hide (calAt_below hb1 (by simp) (calAt_new w c))
  obtain ⟨q0, q1, q2, q3, q4, q5, q6, q7, q8, q9, q10, q11, q12, q13⟩ := HQ.out
  clear hb1
  rw [H2.out]
  go_wp2_with fail
  go_region_held3 (fun w' => w'.cell? ⟨w.heap.size, 0, none⟩ = some (.string c.name) ∧ w'.cell? ⟨w.heap.size, 1, none⟩ = some (.int .i64 c.kind) ∧ w'.cell? ⟨w.heap.size, 2, none⟩ = some (.int .i64 c.day) ∧ w'.cell? ⟨w.heap.size, 3, none⟩ = some (.int .i64 c.month) ∧ w'.cell? ⟨w.heap.size, 4, none⟩ = some (.int .i64 c.shift) ∧ w'.cell? ⟨w.heap.size, 5, none⟩ = some (.int .i64 c.shape) ∧ w'.cell? ⟨w.heap.size, 6, none⟩ = some (.int .i64 c.p0) ∧ w'.cell? ⟨w.heap.size, 7, none⟩ = some (.int .i64 c.p1) ∧ w'.cell? ⟨w.heap.size, 8, none⟩ = some (.int .i64 c.p2) ∧ w'.cell? ⟨w.heap.size, 9, none⟩ = some (.int .i64 c.cycle) ∧ w'.cell? ⟨w.heap.size, 10, none⟩ = some (.int .i64 c.extra) ∧ w'.cell? ⟨w.heap.size, 11, none⟩ = some (.int .i64 c.first) ∧ w'.cell? ⟨w.heap.size, 12, none⟩ = some (.int .i64 c.last) ∧ w'.cell? ⟨w.heap.size, 13, none⟩ = some (.int .i64 c.policy)) (first | go_keep | exact calAt_below hb2 hz1 HQ.out | exact calAt_below hb3 hz2 (calAt_below hb2 hz1 HQ.out))
    (first
    | (go_at_call 71; refine (rule_any c _).mono ?_; rintro e w2 ⟨rfl, hb2⟩; rw [HR.out]; have hz2 : w.heap.size < w2.heap.size := Nat.lt_of_lt_of_le hz1 hb2.size)
    | (go_at_call 143; refine (rnear_any _ _ _ _).mono ?_; rintro e w3 ⟨rfl, hb3⟩; rw [E1.out, H3.out, H4.out]))
  all_goals
    go_simp
    go_wp2
    go_ret2
    refine ⟨ret_int2 ?_ H2.out.symm, ?_⟩
    · exact H1.out.symm
    · exact (HB1.out.drew.trans (hb2.mono (Nat.le_of_lt hz1))).trans (hb3.mono (Nat.le_of_lt hz2))

set_option maxRecDepth 100000 in
set_option maxHeartbeats 1600000 in
theorem start_no (c : Cal) (y : Int) (w : World) (hn : c.name.size ≤ 1000) (hE : ¬ askE c y 1601 = 0) :
    Calls Tryz.prog 49 #[calV c, .int .i64 y] w fun e w' => e = .returned (.tuple #[.int .i64 (startV c y), .int .i64 (askE c y 1601)]) ∧ Below w.heap.size w w' := by
  have hE' : (askE c y 1601 != 0) = true := by simpa using hE
  have H1 := hide (show startV c y = 0 by simp [startV, hE])
  clear hE
  simp only [calV]
  go_enter Tryz.func49, Tryz.ntmps49
  go_wp2_with fail
  refine (asked_any c _ _ _ hn).mono ?_
  rintro e w1 ⟨rfl, hb1⟩
  go_wp2
  go_ret2
  exact ⟨ret_int2 H1.out.symm rfl, ((Below.refl _ _).alloc (Nat.le_refl _) _).trans (hb1.mono (by simp))⟩

theorem start_any (c : Cal) (y : Int) (w : World) (hn : c.name.size ≤ 1000) :
    Calls Tryz.prog 49 #[calV c, .int .i64 y] w fun e w' => e = .returned (.tuple #[.int .i64 (startV c y), .int .i64 (askE c y 1601)]) ∧ Below w.heap.size w w' := by
  by_cases hE : askE c y 1601 = 0
  · have hk3 : (c.kind = 1 ∨ c.kind = 4) ∨ c.kind = 6 ∨ ¬ (c.kind = 1 ∨ c.kind = 4) ∧ ¬ c.kind = 6 := by omega
    rcases hk3 with hk3 | hk3 | hk3
    · exact start_last c y w hn hE hk3
    · exact start_month c y w hn hE hk3
    · exact start_near c y w hn hE hk3
  · exact start_no c y w hn hE

end Go.Proofs.YtjhhmeoibfdcmaaGreatDoor

namespace Go.Proofs.YtjhhmeoibfdcmaaGreatDoor
open Go.RowKit Qd
set_option linter.unusedSimpArgs false
set_option linter.unusedVariables false

theorem endN_eq (y m : Int) (h : thereB y m = true) : endN y m = yearsV y + aheadV y (m + 1) - 1 := by
  have hl : lenV y m = aheadV y (m + 1) - aheadV y m := by unfold lenV; rw [if_pos h]
  unfold endN dayN
  omega
/-- A year ends 357 to 374 days behind the one ahead. -/
theorem ahead_next (y y' m : Int) : aheadV y m - 1 ≤ aheadV y' m ∧ aheadV y' m ≤ aheadV y m + 1 := by
  unfold aheadV
  split <;> split <;> omega
theorem endN_next (y m : Int) (h : thereB y m = true) (hy : y ≤ 9998) : endN y m + 364 ≤ endN (y + 1) m ∧ endN (y + 1) m ≤ endN y m + 367 := by
  have ht : 1600 ≤ y ∧ y ≤ 9999 ∧ 1 ≤ m ∧ m ≤ 12 := by simpa [thereB] using h
  have h2 : thereB (y + 1) m = true := by simp [thereB]; omega
  rw [endN_eq y m h, endN_eq (y + 1) m h2]
  have e1 := years_succ y (by omega) (by omega)
  have e2 := ahead_next y (y + 1) (m + 1)
  split at e1 <;> omega
theorem fin_next (c : Cal) (z : Int) (hok : c.Ok) (ht : thereB z c.month = true) (hz : z ≤ 9998) : finV c z + 358 ≤ finV c (z + 1) ∧ finV c (z + 1) ≤ finV c z + 373 := by
  have e := endN_next z c.month ht hz
  obtain ⟨hm, hs, hk, hd⟩ := ok_rule hok
  have w1 := endW_bd z c.month
  have w2 := endW_bd (z + 1) c.month
  unfold finV nearD
  split
  · omega
  · split <;> omega
/-- A year of weeks ends on its weekday. -/
theorem fin_day (c : Cal) (z : Int) (hok : c.Ok) (hk6 : c.kind ≠ 6) : (finV c z + 5) % 7 + 1 = c.day := by
  obtain ⟨hm, hs, hk, hd⟩ := ok_rule hok
  have hd2 := hd hk6
  unfold finV
  split
  · unfold endW; omega
  · unfold nearD endW; omega
theorem ask_mono {c : Cal} {y : Int} (h : askE c y 1601 = 0) : askE c y 1600 = 0 := by
  obtain ⟨hok, h1, h2⟩ := ask_ok h
  have : c.okB = true := by simpa [Cal.okB] using hok
  simp [askE, this]
  omega
theorem ask_there {c : Cal} {y a : Int} (h : askE c y a = 0) (ha : 1600 ≤ a) : thereB (y + c.shift) c.month = true := by
  obtain ⟨hok, h1, h2⟩ := ask_ok h
  obtain ⟨hm, hs, hk, hd⟩ := ok_rule hok
  simp [thereB]
  omega
theorem ask_there1 {c : Cal} {y : Int} (h : askE c y 1601 = 0) : thereB (y - 1 + c.shift) c.month = true := by
  obtain ⟨hok, h1, h2⟩ := ask_ok h
  obtain ⟨hm, hs, hk, hd⟩ := ok_rule hok
  simp [thereB]
  omega

/-- How long a year is; 0, if it is not told. -/
def daysV (c : Cal) (y : Int) : Int := if askE c y 1601 = 0 then endV c y - startV c y + 1 else 0
theorem year_bd (c : Cal) (y : Int) (h : askE c y 1601 = 0) : 0 ≤ startV c y ∧ startV c y ≤ 3068037 ∧ 0 ≤ endV c y ∧ endV c y ≤ 3068037 ∧ 358 ≤ daysV c y ∧ daysV c y ≤ 373 := by
  obtain ⟨hok, h1, h2⟩ := ask_ok h
  obtain ⟨hm, hs, hk, hd⟩ := ok_rule hok
  have t1 := ask_there1 h
  have t2 := ask_there h (by omega)
  have b1 := fin_bd c (y - 1 + c.shift) hok t1 (by omega)
  have b2 := fin_bd c (y + c.shift) hok t2 (by omega)
  have hn := fin_next c (y - 1 + c.shift) hok t1 (by omega)
  have e : y - 1 + c.shift + 1 = y + c.shift := by omega
  rw [e] at hn
  have eS : startV c y = finV c (y - 1 + c.shift) + 1 := by simp [startV, h]
  have eE : endV c y = finV c (y + c.shift) := by simp [endV, ask_mono h]
  have eD : daysV c y = endV c y - startV c y + 1 := by simp [daysV, h]
  rw [eD, eS, eE]
  have hlo := end_lo _ _ t1
  have hhi := end_hi _ _ t1 (by omega)
  have hw := endW_bd (y - 1 + c.shift) c.month
  have b3 : finV c (y - 1 + c.shift) + 1 ≤ 3068037 := by
    unfold finV nearD
    split
    · omega
    · split <;> omega
  omega
/-- A year of weeks has 364 days, or 371. -/
theorem days_weeks (c : Cal) (y : Int) (h : askE c y 1601 = 0) (hk6 : c.kind ≠ 6) : daysV c y = 364 ∨ daysV c y = 371 := by
  obtain ⟨hok, h1, h2⟩ := ask_ok h
  have hb := year_bd c y h
  have f1 := fin_day c (y - 1 + c.shift) hok hk6
  have f2 := fin_day c (y + c.shift) hok hk6
  have eS : startV c y = finV c (y - 1 + c.shift) + 1 := by simp [startV, h]
  have eE : endV c y = finV c (y + c.shift) := by simp [endV, ask_mono h]
  have eD : daysV c y = endV c y - startV c y + 1 := by simp [daysV, h]
  omega

set_option maxRecDepth 100000 in
set_option maxHeartbeats 1600000 in
theorem days_any (c : Cal) (y : Int) (w : World) (hn : c.name.size ≤ 1000) :
    Calls Tryz.prog 100 #[calV c, .int .i64 y] w fun e w' => e = .returned (.tuple #[.int .i64 (daysV c y), .int .i64 (askE c y 1601)]) ∧ Below w.heap.size w w' := by
  by_cases hE : askE c y 1601 = 0
  · have hE2 := ask_mono hE
    have hb := year_bd c y hE
    have H1 := hide (show daysV c y = endV c y - startV c y + 1 by simp [daysV, hE])
    have H2 := hide hE
    have H3 := hide hE2
    clear hE hE2
    simp only [calV]
    go_enter Tryz.func100, Tryz.ntmps100
    go_wp2_with fail
    refine (start_any c _ _ hn).mono ?_
    rintro e w1 ⟨rfl, hb1⟩
    have hz1 : w.heap.size < w1.heap.size := by have := hb1.size; simp at this; omega
    have HB1 := hide (Below.trans ((Below.refl _ _).alloc (Nat.le_refl _) _) (hb1.mono (by simp)) : Below w.heap.size w w1)
    have HQ := hide (calAt_below hb1 (by simp) (calAt_new w c))
    obtain ⟨q0, q1, q2, q3, q4, q5, q6, q7, q8, q9, q10, q11, q12, q13⟩ := HQ.out
    clear hb1
    rw [H2.out]
    go_wp2_with fail
    refine (end_any c _ _ hn).mono ?_
    rintro e w2 ⟨rfl, hb2⟩
    rw [H3.out]
    clear q0 q1 q2 q3 q4 q5 q6 q7 q8 q9 q10 q11 q12 q13
    go_wp2
    go_ret2
    exact ⟨ret_int2 H1.out.symm H2.out.symm, HB1.out.trans (hb2.mono (Nat.le_of_lt hz1))⟩
  · have hE' : (askE c y 1601 != 0) = true := by simpa using hE
    have H1 := hide (show daysV c y = 0 by simp [daysV, hE])
    clear hE
    simp only [calV]
    go_enter Tryz.func100, Tryz.ntmps100
    go_wp2_with fail
    refine (start_any c _ _ hn).mono ?_
    rintro e w1 ⟨rfl, hb1⟩
    go_wp2
    go_ret2
    exact ⟨ret_int2 H1.out.symm rfl, ((Below.refl _ _).alloc (Nat.le_refl _) _).trans (hb1.mono (by simp))⟩

def wksB (c : Cal) : Bool := c.okB && decide (c.kind ≠ 6)
def wksV (c : Cal) (y : Int) : Int := if wksB c then daysV c y / 7 else 0
def wksE (c : Cal) (y : Int) : Int := if wksB c then askE c y 1601 else 1
theorem days_nn (c : Cal) (y : Int) : 0 ≤ daysV c y ∧ daysV c y ≤ 380 := by
  by_cases h : askE c y 1601 = 0
  · have := year_bd c y h; omega
  · simp [daysV, h]

set_option maxRecDepth 100000 in
set_option maxHeartbeats 1600000 in
theorem aweeks_any (c : Cal) (y : Int) (w : World) (hn : c.name.size ≤ 1000) :
    Calls Tryz.prog 74 #[calV c, .int .i64 y] w fun e w' => e = .returned (.tuple #[.int .i64 (wksV c y), .int .i64 (wksE c y)]) ∧ Below w.heap.size w w' := by
  have hnn := days_nn c y
  cases hk : c.okB
  · have hE : okE c = 1 := by simp [okE, hk]
    have H1 := hide (show wksV c y = 0 by simp [wksV, wksB, hk])
    have H2 := hide (show wksE c y = 1 by simp [wksE, wksB, hk])
    simp only [calV]
    go_enter Tryz.func74, Tryz.ntmps74
    go_wp2_with fail
    refine (check_any c _ hn).mono ?_
    rintro e w1 ⟨rfl, hb1⟩
    rw [hE]
    go_wp2
    go_ret2
    exact ⟨ret_int2 H1.out.symm H2.out.symm, ((Below.refl _ _).alloc (Nat.le_refl _) _).trans (hb1.mono (by simp))⟩
  · have hE : okE c = 0 := by simp [okE, hk]
    by_cases hk6 : c.kind = 6
    · have H1 := hide (show wksV c y = 0 by simp [wksV, wksB, hk6])
      have H2 := hide (show wksE c y = 1 by simp [wksE, wksB, hk6])
      have hk6' : (c.kind == 6) = true := by simp [hk6]
      clear hk6
      simp only [calV]
      go_enter Tryz.func74, Tryz.ntmps74
      go_wp2_with fail
      refine (check_any c _ hn).mono ?_
      rintro e w1 ⟨rfl, hb1⟩
      rw [hE]
      have HQ := hide (calAt_below hb1 (by simp) (calAt_new w c))
      obtain ⟨q0, q1, q2, q3, q4, q5, q6, q7, q8, q9, q10, q11, q12, q13⟩ := HQ.out
      go_wp2
      go_ret2
      exact ⟨ret_int2 H1.out.symm H2.out.symm, ((Below.refl _ _).alloc (Nat.le_refl _) _).trans (hb1.mono (by simp))⟩
    · have H1 := hide (show wksV c y = daysV c y / 7 by simp [wksV, wksB, hk, hk6])
      have H2 := hide (show wksE c y = askE c y 1601 by simp [wksE, wksB, hk, hk6])
      have hk6' : (c.kind == 6) = false := by simp [hk6]
      clear hk6
      simp only [calV]
      go_enter Tryz.func74, Tryz.ntmps74
      go_wp2_with fail
      refine (check_any c _ hn).mono ?_
      rintro e w1 ⟨rfl, hb1⟩
      rw [hE]
      have hz1 : w.heap.size < w1.heap.size := by have := hb1.size; simp at this; omega
      have HB1 := hide (Below.trans ((Below.refl _ _).alloc (Nat.le_refl _) _) (hb1.mono (by simp)) : Below w.heap.size w w1)
      have HQ := hide (calAt_below hb1 (by simp) (calAt_new w c))
      obtain ⟨q0, q1, q2, q3, q4, q5, q6, q7, q8, q9, q10, q11, q12, q13⟩ := HQ.out
      clear hb1
      go_wp2_with fail
      refine (days_any c _ _ hn).mono ?_
      rintro e w2 ⟨rfl, hb2⟩
      clear q0 q1 q2 q3 q4 q5 q6 q7 q8 q9 q10 q11 q12 q13
      go_wp2
      go_ret2
      exact ⟨ret_int2 H1.out.symm H2.out.symm, HB1.out.trans (hb2.mono (Nat.le_of_lt hz1))⟩
end Go.Proofs.YtjhhmeoibfdcmaaGreatDoor
