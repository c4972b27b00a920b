/- Contracts of anchor: Start. -/
import Derived.Test.YtepmfpgljcbkmaaAnchorB
namespace Go.Proofs.Ytepmfpgljcbkmaa
open Go.RowKit Qd
set_option linter.unusedSimpArgs false
set_option linter.unusedVariables false

theorem fin_bd (c : Cal) (z : Int) (hok : c.Ok) (ht : thereB z c.month = true) (hz : z ≤ 9998) : 0 ≤ finV c z ∧ finV c z ≤ 3068037 := by
  have hlo := end_lo z c.month ht
  have hhi := end_hi z c.month ht hz
  obtain ⟨hm, hs, hk, hd⟩ := ok_rule hok
  have hw := endW_bd z c.month
  unfold finV nearD
  split
  · omega
  · split <;> omega
set_option maxRecDepth 100000 in
set_option maxHeartbeats 1600000 in
theorem start_last (c : Cal) (y : Int) (w : World) (hn : c.name.size ≤ 1000) (hE : askE c y 1601 = 0) (hk3 : c.kind = 1 ∨ c.kind = 4) :
    Calls Try.prog 16 #[calV c, .int .i64 y] w fun e w' => e = .returned (.tuple #[.int .i64 (startV c y), .int .i64 (askE c y 1601)]) ∧ Below w.heap.size w w' := by
  obtain ⟨hok, hy1, hy2⟩ := ask_ok hE
  obtain ⟨hm, hs, hk, hd⟩ := ok_rule hok
  have ht : thereB (y - 1 + c.shift) c.month = true := by simp [thereB]; omega
  have H1 := hide (show startV c y = finV c (y - 1 + c.shift) + 1 by simp [startV, hE])
  have H2 := hide hE
  have hwk : wkE (y - 1 + c.shift) c.month c.day = 0 := by simp [wkE, ht]; omega
  have h3 : lastV (y - 1 + c.shift) c.month c.day = finV c (y - 1 + c.shift) := by simp [lastV, hwk, finV, hk3]
  have h4 : wkE (y - 1 + c.shift) c.month c.day = 0 := hwk
  have HR := hide (show ruleV c.kind c.month c.day = .iface 87 (.agg #[.int .i64 c.month, .int .i64 c.day]) by simp [ruleV, hk3])
  have E1 := hide (show IntKind.i64.wrap (IntKind.i64.wrap (y - 1) + c.shift) = (y - 1 + c.shift) by first | exact IntWalk.i64_in _ (by omega) | rw [IntWalk.i64_in (y - 1) (by omega), IntWalk.i64_in _ (by omega)])
  have H3 := hide h3
  have H4 := hide h4
  have HF := fin_bd c (y - 1 + c.shift) hok ht (by omega)
  clear hE hok ht h3 h4 hk3 hd
  try clear hwk
  try clear hab hnd hlo hhi
  try clear hn1
  simp only [calV]
  go_enter Try.func16, Try.ntmps16
  go_wp2_with fail
  refine (asked_any c _ _ _ hn).mono ?_
  rintro e w1 ⟨rfl, hb1⟩
  have hz1 : w.heap.size < w1.heap.size := by have := hb1.size; simp at this; omega
  have HB1 := hide (Below.trans ((Below.refl _ _).alloc (Nat.le_refl _) _) (hb1.mono (by simp)) : Below w.heap.size w w1)
  have HQ := hide (calAt_below hb1 (by simp) (calAt_new w c))
  obtain ⟨q0, q1, q2, q3, q4, q5, q6, q7, q8, q9, q10, q11, q12, q13⟩ := HQ.out
  clear hb1
  rw [H2.out]
  go_wp2_with fail
  go_region_held3 (fun w' => w'.cell? ⟨w.heap.size, 0, none⟩ = some (.string c.name) ∧ w'.cell? ⟨w.heap.size, 1, none⟩ = some (.int .i64 c.kind) ∧ w'.cell? ⟨w.heap.size, 2, none⟩ = some (.int .i64 c.day) ∧ w'.cell? ⟨w.heap.size, 3, none⟩ = some (.int .i64 c.month) ∧ w'.cell? ⟨w.heap.size, 4, none⟩ = some (.int .i64 c.shift) ∧ w'.cell? ⟨w.heap.size, 5, none⟩ = some (.int .i64 c.shape) ∧ w'.cell? ⟨w.heap.size, 6, none⟩ = some (.int .i64 c.p0) ∧ w'.cell? ⟨w.heap.size, 7, none⟩ = some (.int .i64 c.p1) ∧ w'.cell? ⟨w.heap.size, 8, none⟩ = some (.int .i64 c.p2) ∧ w'.cell? ⟨w.heap.size, 9, none⟩ = some (.int .i64 c.cycle) ∧ w'.cell? ⟨w.heap.size, 10, none⟩ = some (.int .i64 c.extra) ∧ w'.cell? ⟨w.heap.size, 11, none⟩ = some (.int .i64 c.first) ∧ w'.cell? ⟨w.heap.size, 12, none⟩ = some (.int .i64 c.last) ∧ w'.cell? ⟨w.heap.size, 13, none⟩ = some (.int .i64 c.policy)) (first | go_keep | exact calAt_below hb2 hz1 HQ.out | exact calAt_below hb3 hz2 (calAt_below hb2 hz1 HQ.out))
    (first
    | (go_at_call 39; refine (rule_any c _).mono ?_; rintro e w2 ⟨rfl, hb2⟩; rw [HR.out]; have hz2 : w.heap.size < w2.heap.size := Nat.lt_of_lt_of_le hz1 hb2.size)
    | (go_at_call 113; refine (rlast_any _ _ _ _).mono ?_; rintro e w3 ⟨rfl, hb3⟩; rw [E1.out, H3.out, H4.out]))
  all_goals
    go_simp
    go_wp2
    go_ret2
    refine ⟨ret_int2 ?_ H2.out.symm, ?_⟩
    · exact H1.out.symm
    · exact (HB1.out.drew.trans (hb2.mono (Nat.le_of_lt hz1))).trans (hb3.mono (Nat.le_of_lt hz2))

set_option maxRecDepth 100000 in
set_option maxHeartbeats 1600000 in
theorem start_month (c : Cal) (y : Int) (w : World) (hn : c.name.size ≤ 1000) (hE : askE c y 1601 = 0) (hk3 : c.kind = 6) :
    Calls Try.prog 16 #[calV c, .int .i64 y] w fun e w' => e = .returned (.tuple #[.int .i64 (startV c y), .int .i64 (askE c y 1601)]) ∧ Below w.heap.size w w' := by
  obtain ⟨hok, hy1, hy2⟩ := ask_ok hE
  obtain ⟨hm, hs, hk, hd⟩ := ok_rule hok
  have ht : thereB (y - 1 + c.shift) c.month = true := by simp [thereB]; omega
  have H1 := hide (show startV c y = finV c (y - 1 + c.shift) + 1 by simp [startV, hE])
  have H2 := hide hE
  have hn1 : ¬ (c.kind = 1 ∨ c.kind = 4) := by omega
  have h3 : monV (y - 1 + c.shift) c.month = finV c (y - 1 + c.shift) := by simp [monV, ht, finV, hk3]
  have h4 : monE (y - 1 + c.shift) c.month = 0 := by simp [monE, ht]
  have HR := hide (show ruleV c.kind c.month c.day = .iface 88 (.int .i64 c.month) by simp [ruleV, hk3])
  have E1 := hide (show IntKind.i64.wrap (IntKind.i64.wrap (y - 1) + c.shift) = (y - 1 + c.shift) by first | exact IntWalk.i64_in _ (by omega) | rw [IntWalk.i64_in (y - 1) (by omega), IntWalk.i64_in _ (by omega)])
  have H3 := hide h3
  have H4 := hide h4
  have HF := fin_bd c (y - 1 + c.shift) hok ht (by omega)
  clear hE hok ht h3 h4 hk3 hd
  try clear hwk
  try clear hab hnd hlo hhi
  try clear hn1
  simp only [calV]
  go_enter Try.func16, Try.ntmps16
  go_wp2_with fail
  refine (asked_any c _ _ _ hn).mono ?_
  rintro e w1 ⟨rfl, hb1⟩
  have hz1 : w.heap.size < w1.heap.size := by have := hb1.size; simp at this; omega
  have HB1 := hide (Below.trans ((Below.refl _ _).alloc (Nat.le_refl _) _) (hb1.mono (by simp)) : Below w.heap.size w w1)
  have HQ := hide (calAt_below hb1 (by simp) (calAt_new w c))
  obtain ⟨q0, q1, q2, q3, q4, q5, q6, q7, q8, q9, q10, q11, q12, q13⟩ := HQ.out
  clear hb1
  rw [H2.out]
  go_wp2_with fail
  go_region_held3 (fun w' => w'.cell? ⟨w.heap.size, 0, none⟩ = some (.string c.name) ∧ w'.cell? ⟨w.heap.size, 1, none⟩ = some (.int .i64 c.kind) ∧ w'.cell? ⟨w.heap.size, 2, none⟩ = some (.int .i64 c.day) ∧ w'.cell? ⟨w.heap.size, 3, none⟩ = some (.int .i64 c.month) ∧ w'.cell? ⟨w.heap.size, 4, none⟩ = some (.int .i64 c.shift) ∧ w'.cell? ⟨w.heap.size, 5, none⟩ = some (.int .i64 c.shape) ∧ w'.cell? ⟨w.heap.size, 6, none⟩ = some (.int .i64 c.p0) ∧ w'.cell? ⟨w.heap.size, 7, none⟩ = some (.int .i64 c.p1) ∧ w'.cell? ⟨w.heap.size, 8, none⟩ = some (.int .i64 c.p2) ∧ w'.cell? ⟨w.heap.size, 9, none⟩ = some (.int .i64 c.cycle) ∧ w'.cell? ⟨w.heap.size, 10, none⟩ = some (.int .i64 c.extra) ∧ w'.cell? ⟨w.heap.size, 11, none⟩ = some (.int .i64 c.first) ∧ w'.cell? ⟨w.heap.size, 12, none⟩ = some (.int .i64 c.last) ∧ w'.cell? ⟨w.heap.size, 13, none⟩ = some (.int .i64 c.policy)) (first | go_keep | exact calAt_below hb2 hz1 HQ.out | exact calAt_below hb3 hz2 (calAt_below hb2 hz1 HQ.out))
    (first
    | (go_at_call 39; refine (rule_any c _).mono ?_; rintro e w2 ⟨rfl, hb2⟩; rw [HR.out]; have hz2 : w.heap.size < w2.heap.size := Nat.lt_of_lt_of_le hz1 hb2.size)
    | (go_at_call 114; refine (rmonth_any _ _ _).mono ?_; rintro e w3 ⟨rfl, hb3⟩; rw [E1.out, H3.out, H4.out]))
  all_goals
    go_simp
    go_wp2
    go_ret2
    refine ⟨ret_int2 ?_ H2.out.symm, ?_⟩
    · exact H1.out.symm
    · exact (HB1.out.drew.trans (hb2.mono (Nat.le_of_lt hz1))).trans (hb3.mono (Nat.le_of_lt hz2))

set_option maxRecDepth 100000 in
set_option maxHeartbeats 1600000 in
theorem start_near (c : Cal) (y : Int) (w : World) (hn : c.name.size ≤ 1000) (hE : askE c y 1601 = 0) (hk3 : ¬ (c.kind = 1 ∨ c.kind = 4) ∧ ¬ c.kind = 6) :
    Calls Try.prog 16 #[calV c, .int .i64 y] w fun e w' => e = .returned (.tuple #[.int .i64 (startV c y), .int .i64 (askE c y 1601)]) ∧ Below w.heap.size w w' := by
  obtain ⟨hok, hy1, hy2⟩ := ask_ok hE
  obtain ⟨hm, hs, hk, hd⟩ := ok_rule hok
  have ht : thereB (y - 1 + c.shift) c.month = true := by simp [thereB]; omega
  have H1 := hide (show startV c y = finV c (y - 1 + c.shift) + 1 by simp [startV, hE])
  have H2 := hide hE
  have hwk : wkE (y - 1 + c.shift) c.month c.day = 0 := by simp [wkE, ht]; omega
  have hlo := end_lo (y - 1 + c.shift) c.month ht
  have hhi := end_hi (y - 1 + c.shift) c.month ht (by omega)
  have hnd : -3 ≤ nearD (y - 1 + c.shift) c.month c.day ∧ nearD (y - 1 + c.shift) c.month c.day ≤ 3 := by unfold nearD; omega
  have hab : addB (endN (y - 1 + c.shift) c.month) (nearD (y - 1 + c.shift) c.month c.day) = true := by simp [addB, isB]; omega
  have h3 : nearV (y - 1 + c.shift) c.month c.day = finV c (y - 1 + c.shift) := by simp [nearV, hwk, finV, hk3.1, hk3.2, addV, hab]
  have h4 : nearE (y - 1 + c.shift) c.month c.day = 0 := by simp [nearE, hwk, addE, hab]
  have HR := hide (show ruleV c.kind c.month c.day = .iface 89 (.agg #[.int .i64 c.month, .int .i64 c.day]) by simp [ruleV, hk3.1, hk3.2])
  have E1 := hide (show IntKind.i64.wrap (IntKind.i64.wrap (y - 1) + c.shift) = (y - 1 + c.shift) by first | exact IntWalk.i64_in _ (by omega) | rw [IntWalk.i64_in (y - 1) (by omega), IntWalk.i64_in _ (by omega)])
  have H3 := hide h3
  have H4 := hide h4
  have HF := fin_bd c (y - 1 + c.shift) hok ht (by omega)
  clear hE hok ht h3 h4 hk3 hd
  try clear hwk
  try clear hab hnd hlo hhi
  try clear hn1
  simp only [calV]
  go_enter Try.func16, Try.ntmps16
  go_wp2_with fail
  refine (asked_any c _ _ _ hn).mono ?_
  rintro e w1 ⟨rfl, hb1⟩
  have hz1 : w.heap.size < w1.heap.size := by have := hb1.size; simp at this; omega
  have HB1 := hide (Below.trans ((Below.refl _ _).alloc (Nat.le_refl _) _) (hb1.mono (by simp)) : Below w.heap.size w w1)
  have HQ := hide (calAt_below hb1 (by simp) (calAt_new w c))
  obtain ⟨q0, q1, q2, q3, q4, q5, q6, q7, q8, q9, q10, q11, q12, q13⟩ := HQ.out
  clear hb1
  rw [H2.out]
  go_wp2_with fail
  go_region_held3 (fun w' => w'.cell? ⟨w.heap.size, 0, none⟩ = some (.string c.name) ∧ w'.cell? ⟨w.heap.size, 1, none⟩ = some (.int .i64 c.kind) ∧ w'.cell? ⟨w.heap.size, 2, none⟩ = some (.int .i64 c.day) ∧ w'.cell? ⟨w.heap.size, 3, none⟩ = some (.int .i64 c.month) ∧ w'.cell? ⟨w.heap.size, 4, none⟩ = some (.int .i64 c.shift) ∧ w'.cell? ⟨w.heap.size, 5, none⟩ = some (.int .i64 c.shape) ∧ w'.cell? ⟨w.heap.size, 6, none⟩ = some (.int .i64 c.p0) ∧ w'.cell? ⟨w.heap.size, 7, none⟩ = some (.int .i64 c.p1) ∧ w'.cell? ⟨w.heap.size, 8, none⟩ = some (.int .i64 c.p2) ∧ w'.cell? ⟨w.heap.size, 9, none⟩ = some (.int .i64 c.cycle) ∧ w'.cell? ⟨w.heap.size, 10, none⟩ = some (.int .i64 c.extra) ∧ w'.cell? ⟨w.heap.size, 11, none⟩ = some (.int .i64 c.first) ∧ w'.cell? ⟨w.heap.size, 12, none⟩ = some (.int .i64 c.last) ∧ w'.cell? ⟨w.heap.size, 13, none⟩ = some (.int .i64 c.policy)) (first | go_keep | exact calAt_below hb2 hz1 HQ.out | exact calAt_below hb3 hz2 (calAt_below hb2 hz1 HQ.out))
    (first
    | (go_at_call 39; refine (rule_any c _).mono ?_; rintro e w2 ⟨rfl, hb2⟩; rw [HR.out]; have hz2 : w.heap.size < w2.heap.size := Nat.lt_of_lt_of_le hz1 hb2.size)
    | (go_at_call 115; refine (rnear_any _ _ _ _).mono ?_; rintro e w3 ⟨rfl, hb3⟩; rw [E1.out, H3.out, H4.out]))
  all_goals
    go_simp
    go_wp2
    go_ret2
    refine ⟨ret_int2 ?_ H2.out.symm, ?_⟩
    · exact H1.out.symm
    · exact (HB1.out.drew.trans (hb2.mono (Nat.le_of_lt hz1))).trans (hb3.mono (Nat.le_of_lt hz2))

set_option maxRecDepth 100000 in
set_option maxHeartbeats 1600000 in
theorem start_no (c : Cal) (y : Int) (w : World) (hn : c.name.size ≤ 1000) (hE : ¬ askE c y 1601 = 0) :
    Calls Try.prog 16 #[calV c, .int .i64 y] w fun e w' => e = .returned (.tuple #[.int .i64 (startV c y), .int .i64 (askE c y 1601)]) ∧ Below w.heap.size w w' := by
  have hE' : (askE c y 1601 != 0) = true := by simpa using hE
  have H1 := hide (show startV c y = 0 by simp [startV, hE])
  clear hE
  simp only [calV]
  go_enter Try.func16, Try.ntmps16
  go_wp2_with fail
  refine (asked_any c _ _ _ hn).mono ?_
  rintro e w1 ⟨rfl, hb1⟩
  go_wp2
  go_ret2
  exact ⟨ret_int2 H1.out.symm rfl, ((Below.refl _ _).alloc (Nat.le_refl _) _).trans (hb1.mono (by simp))⟩

theorem start_any (c : Cal) (y : Int) (w : World) (hn : c.name.size ≤ 1000) :
    Calls Try.prog 16 #[calV c, .int .i64 y] w fun e w' => e = .returned (.tuple #[.int .i64 (startV c y), .int .i64 (askE c y 1601)]) ∧ Below w.heap.size w w' := by
  by_cases hE : askE c y 1601 = 0
  · have hk3 : (c.kind = 1 ∨ c.kind = 4) ∨ c.kind = 6 ∨ ¬ (c.kind = 1 ∨ c.kind = 4) ∧ ¬ c.kind = 6 := by omega
    rcases hk3 with hk3 | hk3 | hk3
    · exact start_last c y w hn hE hk3
    · exact start_month c y w hn hE hk3
    · exact start_near c y w hn hE hk3
  · exact start_no c y w hn hE

end Go.Proofs.Ytepmfpgljcbkmaa
