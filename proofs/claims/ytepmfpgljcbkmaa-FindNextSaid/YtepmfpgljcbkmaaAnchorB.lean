/- Contracts of anchor: End, Start. -/
import Derived.Test.YtepmfpgljcbkmaaAnchor
import Derived.Test.YtepmfpgljcbkmaaCalAt
namespace Go.Proofs.Ytepmfpgljcbkmaa
open Go.RowKit Qd
set_option linter.unusedSimpArgs false
set_option linter.unusedVariables false

/-- The day on which the year ends that is told by a civil year's month. -/
def finV (c : Cal) (z : Int) : Int :=
  if c.kind = 1 ∨ c.kind = 4 then endN z c.month - (endW z c.month - c.day + 7) % 7 else if c.kind = 6 then endN z c.month else endN z c.month + nearD z c.month c.day
def endV (c : Cal) (y : Int) : Int := if askE c y 1600 = 0 then finV c (y + c.shift) else 0
def startV (c : Cal) (y : Int) : Int := if askE c y 1601 = 0 then finV c (y - 1 + c.shift) + 1 else 0

theorem end_lo (y m : Int) (h : thereB y m = true) : 27 ≤ endN y m := by
  have hl := len_lo y m h
  have ht : 1600 ≤ y ∧ y ≤ 9999 ∧ 1 ≤ m ∧ m ≤ 12 := by simpa [thereB] using h
  have hy := years_bd y (by omega) (by omega)
  have ha := ahead_bd y m
  unfold endN dayN
  omega
theorem end_hi (y m : Int) (h : thereB y m = true) (hy2 : y ≤ 9998) : endN y m < 3068037 - 365 := by
  have ht : 1600 ≤ y ∧ y ≤ 9999 ∧ 1 ≤ m ∧ m ≤ 12 := by simpa [thereB] using h
  have hd := end_date y m h
  have e1 := years_succ y (by omega) (by omega)
  have e2 := years_mono (y + 1) 9999 (by omega) (by omega)
  have e3 : yearsV 9999 = 3067672 := by decide
  have h13 := ahead_13 y
  have hl : lenV y m = aheadV y (m + 1) - aheadV y m := by unfold lenV; rw [if_pos h]
  have hm : aheadV y (m + 1) ≤ aheadV y 13 := by
    rcases Int.lt_or_eq_of_le (show m + 1 ≤ 13 by omega) with h5 | h5
    · have := ahead_le y (m + 1) 13 (by omega) h5 (by omega); omega
    · rw [h5]; omega
  unfold endN dayN
  omega
theorem ask_ok {c : Cal} {y a : Int} (h : askE c y a = 0) : c.Ok ∧ a ≤ y ∧ y ≤ 9997 := by
  unfold askE at h
  split at h
  · rename_i hk
    split at h
    · exact ⟨by simpa [Cal.okB] using hk, by assumption⟩
    · omega
  · omega
/-- What a calendar that may be says of its rule. -/
theorem ok_rule {c : Cal} (h : c.Ok) : (1 ≤ c.month ∧ c.month ≤ 12) ∧ (0 ≤ c.shift ∧ c.shift ≤ 1) ∧ (1 ≤ c.kind ∧ c.kind ≤ 6) ∧ (c.kind ≠ 6 → 1 ≤ c.day ∧ c.day ≤ 7) := by
  obtain ⟨_, _, _, hr⟩ := h
  unfold Cal.ruled at hr
  omega

set_option maxRecDepth 100000 in
set_option maxHeartbeats 1600000 in
theorem end_last (c : Cal) (y : Int) (w : World) (hn : c.name.size ≤ 1000) (hE : askE c y 1600 = 0) (hk3 : c.kind = 1 ∨ c.kind = 4) :
    Calls Try.prog 17 #[calV c, .int .i64 y] w fun e w' => e = .returned (.tuple #[.int .i64 (endV c y), .int .i64 (askE c y 1600)]) ∧ Below w.heap.size w w' := by
  obtain ⟨hok, hy1, hy2⟩ := ask_ok hE
  obtain ⟨hm, hs, hk, hd⟩ := ok_rule hok
  have ht : thereB (y + c.shift) c.month = true := by simp [thereB]; omega
  have H1 := hide (show endV c y = finV c (y + c.shift) by simp [endV, hE])
  have H2 := hide hE
  have hwk : wkE (y + c.shift) c.month c.day = 0 := by simp [wkE, ht]; omega
  have h3 : lastV (y + c.shift) c.month c.day = finV c (y + c.shift) := by simp [lastV, hwk, finV, hk3]
  have h4 : wkE (y + c.shift) c.month c.day = 0 := hwk
  have HR := hide (show ruleV c.kind c.month c.day = .iface 87 (.agg #[.int .i64 c.month, .int .i64 c.day]) by simp [ruleV, hk3])
  have E1 := hide (show IntKind.i64.wrap (y + c.shift) = (y + c.shift) by first | exact IntWalk.i64_in _ (by omega) | rw [IntWalk.i64_in (y - 1) (by omega), IntWalk.i64_in _ (by omega)])
  have H3 := hide h3
  have H4 := hide h4
  clear hE hok ht h3 h4 hk3 hd
  try clear hwk
  try clear hab hnd hlo hhi
  try clear hn1
  simp only [calV]
  go_enter Try.func17, Try.ntmps17
  go_wp2_with fail
  refine (asked_any c _ _ _ hn).mono ?_
  rintro e w1 ⟨rfl, hb1⟩
  have hz1 : w.heap.size < w1.heap.size := by have := hb1.size; simp at this; omega
  have HB1 := hide (Below.trans ((Below.refl _ _).alloc (Nat.le_refl _) _) (hb1.mono (by simp)) : Below w.heap.size w w1)
  have HQ := hide (calAt_below hb1 (by simp) (calAt_new w c))
  obtain ⟨q0, q1, q2, q3, q4, q5, q6, q7, q8, q9, q10, q11, q12, q13⟩ := HQ.out
  clear hb1
  rw [H2.out]
  go_wp2_with fail
  go_region_held3 (fun w' => w'.cell? ⟨w.heap.size, 0, none⟩ = some (.string c.name) ∧ w'.cell? ⟨w.heap.size, 1, none⟩ = some (.int .i64 c.kind) ∧ w'.cell? ⟨w.heap.size, 2, none⟩ = some (.int .i64 c.day) ∧ w'.cell? ⟨w.heap.size, 3, none⟩ = some (.int .i64 c.month) ∧ w'.cell? ⟨w.heap.size, 4, none⟩ = some (.int .i64 c.shift) ∧ w'.cell? ⟨w.heap.size, 5, none⟩ = some (.int .i64 c.shape) ∧ w'.cell? ⟨w.heap.size, 6, none⟩ = some (.int .i64 c.p0) ∧ w'.cell? ⟨w.heap.size, 7, none⟩ = some (.int .i64 c.p1) ∧ w'.cell? ⟨w.heap.size, 8, none⟩ = some (.int .i64 c.p2) ∧ w'.cell? ⟨w.heap.size, 9, none⟩ = some (.int .i64 c.cycle) ∧ w'.cell? ⟨w.heap.size, 10, none⟩ = some (.int .i64 c.extra) ∧ w'.cell? ⟨w.heap.size, 11, none⟩ = some (.int .i64 c.first) ∧ w'.cell? ⟨w.heap.size, 12, none⟩ = some (.int .i64 c.last) ∧ w'.cell? ⟨w.heap.size, 13, none⟩ = some (.int .i64 c.policy)) (first | go_keep | exact calAt_below hb2 hz1 HQ.out | exact calAt_below hb3 hz2 (calAt_below hb2 hz1 HQ.out))
    (first
    | (go_at_call 39; refine (rule_any c _).mono ?_; rintro e w2 ⟨rfl, hb2⟩; rw [HR.out]; have hz2 : w.heap.size < w2.heap.size := Nat.lt_of_lt_of_le hz1 hb2.size)
    | (go_at_call 113; refine (rlast_any _ _ _ _).mono ?_; rintro e w3 ⟨rfl, hb3⟩; rw [E1.out, H3.out, H4.out]))
  all_goals
    go_simp
    go_wp2
    go_ret2
    refine ⟨ret_int2 ?_ H2.out.symm, ?_⟩
    · exact H1.out.symm
    · exact (HB1.out.drew.trans (hb2.mono (Nat.le_of_lt hz1))).trans (hb3.mono (Nat.le_of_lt hz2))

set_option maxRecDepth 100000 in
set_option maxHeartbeats 1600000 in
theorem end_month (c : Cal) (y : Int) (w : World) (hn : c.name.size ≤ 1000) (hE : askE c y 1600 = 0) (hk3 : c.kind = 6) :
    Calls Try.prog 17 #[calV c, .int .i64 y] w fun e w' => e = .returned (.tuple #[.int .i64 (endV c y), .int .i64 (askE c y 1600)]) ∧ Below w.heap.size w w' := by
  obtain ⟨hok, hy1, hy2⟩ := ask_ok hE
  obtain ⟨hm, hs, hk, hd⟩ := ok_rule hok
  have ht : thereB (y + c.shift) c.month = true := by simp [thereB]; omega
  have H1 := hide (show endV c y = finV c (y + c.shift) by simp [endV, hE])
  have H2 := hide hE
  have hn1 : ¬ (c.kind = 1 ∨ c.kind = 4) := by omega
  have h3 : monV (y + c.shift) c.month = finV c (y + c.shift) := by simp [monV, ht, finV, hk3]
  have h4 : monE (y + c.shift) c.month = 0 := by simp [monE, ht]
  have HR := hide (show ruleV c.kind c.month c.day = .iface 88 (.int .i64 c.month) by simp [ruleV, hk3])
  have E1 := hide (show IntKind.i64.wrap (y + c.shift) = (y + c.shift) by first | exact IntWalk.i64_in _ (by omega) | rw [IntWalk.i64_in (y - 1) (by omega), IntWalk.i64_in _ (by omega)])
  have H3 := hide h3
  have H4 := hide h4
  clear hE hok ht h3 h4 hk3 hd
  try clear hwk
  try clear hab hnd hlo hhi
  try clear hn1
  simp only [calV]
  go_enter Try.func17, Try.ntmps17
  go_wp2_with fail
  refine (asked_any c _ _ _ hn).mono ?_
  rintro e w1 ⟨rfl, hb1⟩
  have hz1 : w.heap.size < w1.heap.size := by have := hb1.size; simp at this; omega
  have HB1 := hide (Below.trans ((Below.refl _ _).alloc (Nat.le_refl _) _) (hb1.mono (by simp)) : Below w.heap.size w w1)
  have HQ := hide (calAt_below hb1 (by simp) (calAt_new w c))
  obtain ⟨q0, q1, q2, q3, q4, q5, q6, q7, q8, q9, q10, q11, q12, q13⟩ := HQ.out
  clear hb1
  rw [H2.out]
  go_wp2_with fail
  go_region_held3 (fun w' => w'.cell? ⟨w.heap.size, 0, none⟩ = some (.string c.name) ∧ w'.cell? ⟨w.heap.size, 1, none⟩ = some (.int .i64 c.kind) ∧ w'.cell? ⟨w.heap.size, 2, none⟩ = some (.int .i64 c.day) ∧ w'.cell? ⟨w.heap.size, 3, none⟩ = some (.int .i64 c.month) ∧ w'.cell? ⟨w.heap.size, 4, none⟩ = some (.int .i64 c.shift) ∧ w'.cell? ⟨w.heap.size, 5, none⟩ = some (.int .i64 c.shape) ∧ w'.cell? ⟨w.heap.size, 6, none⟩ = some (.int .i64 c.p0) ∧ w'.cell? ⟨w.heap.size, 7, none⟩ = some (.int .i64 c.p1) ∧ w'.cell? ⟨w.heap.size, 8, none⟩ = some (.int .i64 c.p2) ∧ w'.cell? ⟨w.heap.size, 9, none⟩ = some (.int .i64 c.cycle) ∧ w'.cell? ⟨w.heap.size, 10, none⟩ = some (.int .i64 c.extra) ∧ w'.cell? ⟨w.heap.size, 11, none⟩ = some (.int .i64 c.first) ∧ w'.cell? ⟨w.heap.size, 12, none⟩ = some (.int .i64 c.last) ∧ w'.cell? ⟨w.heap.size, 13, none⟩ = some (.int .i64 c.policy)) (first | go_keep | exact calAt_below hb2 hz1 HQ.out | exact calAt_below hb3 hz2 (calAt_below hb2 hz1 HQ.out))
    (first
    | (go_at_call 39; refine (rule_any c _).mono ?_; rintro e w2 ⟨rfl, hb2⟩; rw [HR.out]; have hz2 : w.heap.size < w2.heap.size := Nat.lt_of_lt_of_le hz1 hb2.size)
    | (go_at_call 114; refine (rmonth_any _ _ _).mono ?_; rintro e w3 ⟨rfl, hb3⟩; rw [E1.out, H3.out, H4.out]))
  all_goals
    go_simp
    go_wp2
    go_ret2
    refine ⟨ret_int2 ?_ H2.out.symm, ?_⟩
    · exact H1.out.symm
    · exact (HB1.out.drew.trans (hb2.mono (Nat.le_of_lt hz1))).trans (hb3.mono (Nat.le_of_lt hz2))

set_option maxRecDepth 100000 in
set_option maxHeartbeats 1600000 in
theorem end_near (c : Cal) (y : Int) (w : World) (hn : c.name.size ≤ 1000) (hE : askE c y 1600 = 0) (hk3 : ¬ (c.kind = 1 ∨ c.kind = 4) ∧ ¬ c.kind = 6) :
    Calls Try.prog 17 #[calV c, .int .i64 y] w fun e w' => e = .returned (.tuple #[.int .i64 (endV c y), .int .i64 (askE c y 1600)]) ∧ Below w.heap.size w w' := by
  obtain ⟨hok, hy1, hy2⟩ := ask_ok hE
  obtain ⟨hm, hs, hk, hd⟩ := ok_rule hok
  have ht : thereB (y + c.shift) c.month = true := by simp [thereB]; omega
  have H1 := hide (show endV c y = finV c (y + c.shift) by simp [endV, hE])
  have H2 := hide hE
  have hwk : wkE (y + c.shift) c.month c.day = 0 := by simp [wkE, ht]; omega
  have hlo := end_lo (y + c.shift) c.month ht
  have hhi := end_hi (y + c.shift) c.month ht (by omega)
  have hnd : -3 ≤ nearD (y + c.shift) c.month c.day ∧ nearD (y + c.shift) c.month c.day ≤ 3 := by unfold nearD; omega
  have hab : addB (endN (y + c.shift) c.month) (nearD (y + c.shift) c.month c.day) = true := by simp [addB, isB]; omega
  have h3 : nearV (y + c.shift) c.month c.day = finV c (y + c.shift) := by simp [nearV, hwk, finV, hk3.1, hk3.2, addV, hab]
  have h4 : nearE (y + c.shift) c.month c.day = 0 := by simp [nearE, hwk, addE, hab]
  have HR := hide (show ruleV c.kind c.month c.day = .iface 89 (.agg #[.int .i64 c.month, .int .i64 c.day]) by simp [ruleV, hk3.1, hk3.2])
  have E1 := hide (show IntKind.i64.wrap (y + c.shift) = (y + c.shift) by first | exact IntWalk.i64_in _ (by omega) | rw [IntWalk.i64_in (y - 1) (by omega), IntWalk.i64_in _ (by omega)])
  have H3 := hide h3
  have H4 := hide h4
  clear hE hok ht h3 h4 hk3 hd
  try clear hwk
  try clear hab hnd hlo hhi
  try clear hn1
  simp only [calV]
  go_enter Try.func17, Try.ntmps17
  go_wp2_with fail
  refine (asked_any c _ _ _ hn).mono ?_
  rintro e w1 ⟨rfl, hb1⟩
  have hz1 : w.heap.size < w1.heap.size := by have := hb1.size; simp at this; omega
  have HB1 := hide (Below.trans ((Below.refl _ _).alloc (Nat.le_refl _) _) (hb1.mono (by simp)) : Below w.heap.size w w1)
  have HQ := hide (calAt_below hb1 (by simp) (calAt_new w c))
  obtain ⟨q0, q1, q2, q3, q4, q5, q6, q7, q8, q9, q10, q11, q12, q13⟩ := HQ.out
  clear hb1
  rw [H2.out]
  go_wp2_with fail
  go_region_held3 (fun w' => w'.cell? ⟨w.heap.size, 0, none⟩ = some (.string c.name) ∧ w'.cell? ⟨w.heap.size, 1, none⟩ = some (.int .i64 c.kind) ∧ w'.cell? ⟨w.heap.size, 2, none⟩ = some (.int .i64 c.day) ∧ w'.cell? ⟨w.heap.size, 3, none⟩ = some (.int .i64 c.month) ∧ w'.cell? ⟨w.heap.size, 4, none⟩ = some (.int .i64 c.shift) ∧ w'.cell? ⟨w.heap.size, 5, none⟩ = some (.int .i64 c.shape) ∧ w'.cell? ⟨w.heap.size, 6, none⟩ = some (.int .i64 c.p0) ∧ w'.cell? ⟨w.heap.size, 7, none⟩ = some (.int .i64 c.p1) ∧ w'.cell? ⟨w.heap.size, 8, none⟩ = some (.int .i64 c.p2) ∧ w'.cell? ⟨w.heap.size, 9, none⟩ = some (.int .i64 c.cycle) ∧ w'.cell? ⟨w.heap.size, 10, none⟩ = some (.int .i64 c.extra) ∧ w'.cell? ⟨w.heap.size, 11, none⟩ = some (.int .i64 c.first) ∧ w'.cell? ⟨w.heap.size, 12, none⟩ = some (.int .i64 c.last) ∧ w'.cell? ⟨w.heap.size, 13, none⟩ = some (.int .i64 c.policy)) (first | go_keep | exact calAt_below hb2 hz1 HQ.out | exact calAt_below hb3 hz2 (calAt_below hb2 hz1 HQ.out))
    (first
    | (go_at_call 39; refine (rule_any c _).mono ?_; rintro e w2 ⟨rfl, hb2⟩; rw [HR.out]; have hz2 : w.heap.size < w2.heap.size := Nat.lt_of_lt_of_le hz1 hb2.size)
    | (go_at_call 115; refine (rnear_any _ _ _ _).mono ?_; rintro e w3 ⟨rfl, hb3⟩; rw [E1.out, H3.out, H4.out]))
  all_goals
    go_simp
    go_wp2
    go_ret2
    refine ⟨ret_int2 ?_ H2.out.symm, ?_⟩
    · exact H1.out.symm
    · exact (HB1.out.drew.trans (hb2.mono (Nat.le_of_lt hz1))).trans (hb3.mono (Nat.le_of_lt hz2))

set_option maxRecDepth 100000 in
set_option maxHeartbeats 1600000 in
theorem end_no (c : Cal) (y : Int) (w : World) (hn : c.name.size ≤ 1000) (hE : ¬ askE c y 1600 = 0) :
    Calls Try.prog 17 #[calV c, .int .i64 y] w fun e w' => e = .returned (.tuple #[.int .i64 (endV c y), .int .i64 (askE c y 1600)]) ∧ Below w.heap.size w w' := by
  have hE' : (askE c y 1600 != 0) = true := by simpa using hE
  have H1 := hide (show endV c y = 0 by simp [endV, hE])
  clear hE
  simp only [calV]
  go_enter Try.func17, Try.ntmps17
  go_wp2_with fail
  refine (asked_any c _ _ _ hn).mono ?_
  rintro e w1 ⟨rfl, hb1⟩
  go_wp2
  go_ret2
  exact ⟨ret_int2 H1.out.symm rfl, ((Below.refl _ _).alloc (Nat.le_refl _) _).trans (hb1.mono (by simp))⟩

theorem end_any (c : Cal) (y : Int) (w : World) (hn : c.name.size ≤ 1000) :
    Calls Try.prog 17 #[calV c, .int .i64 y] w fun e w' => e = .returned (.tuple #[.int .i64 (endV c y), .int .i64 (askE c y 1600)]) ∧ Below w.heap.size w w' := by
  by_cases hE : askE c y 1600 = 0
  · have hk3 : (c.kind = 1 ∨ c.kind = 4) ∨ c.kind = 6 ∨ ¬ (c.kind = 1 ∨ c.kind = 4) ∧ ¬ c.kind = 6 := by omega
    rcases hk3 with hk3 | hk3 | hk3
    · exact end_last c y w hn hE hk3
    · exact end_month c y w hn hE hk3
    · exact end_near c y w hn hE hk3
  · exact end_no c y w hn hE

end Go.Proofs.Ytepmfpgljcbkmaa
