/- Contracts of year: beside, found. Contracts of year: Bounds, Served. -/
import Derived.Test.YtpngdeegdkifnaaYearF
import Derived.Test.YtpngdeegdkifnaaCivilC
import Derived.Test.YtpngdeegdkifnaaCalAt
import Derived.Test.YtpngdeegdkifnaaUnitV
namespace Go.Proofs.Ytpngdeegdkifnaa
open Go.RowKit Qd
set_option linter.unusedSimpArgs false
set_option linter.unusedVariables false

theorem start_b (c : Cal) (y : Int) : 0 ≤ startV c y ∧ startV c y ≤ 3068037 := by
  by_cases h : askE c y 1601 = 0
  · have := year_bd c y h; omega
  · simp [startV, h]
theorem end_b (c : Cal) (y : Int) (h : askE c y 1601 = 0) : 0 ≤ endV c y ∧ endV c y ≤ 3068037 := by
  have := year_bd c y h; omega

set_option maxRecDepth 100000 in
set_option maxHeartbeats 1600000 in
theorem beside_any (c : Cal) (day y : Int) (w : World) (hn : c.name.size ≤ 1000) (hok : c.Ok) (hd : isB day = true) (hy : -100 ≤ y ∧ y ≤ 20000) (hnear : ∀ yt, yrOk c day yt → y - 2 ≤ yt ∧ yt ≤ y + 2) :
    Calls Try.prog 104 #[calV c, .int .i64 day, .int .i64 y] w fun e w' => e = .returned (.tuple #[.int .i64 (foundY c day), .int .i64 (foundN c day), .int .i64 (foundE c day)]) ∧ Below w.heap.size w w' := by
  have hdd : 0 ≤ day ∧ day < 3068037 := by simpa [isB] using hd
  have HNR := hide hnear
  have HOK := hide hok
  have HD := hide hd
  have hok2 : c.okB = true := by simpa [Cal.okB] using hok
  have HOK2 := hide hok2
  clear hnear hok hd hok2
  simp only [calV]
  go_enter Try.func104, Try.ntmps104
  go_wp2_with fail
  go_loopw [9] (fun s9 wr => ∃ z : Int, s9 = .int .i64 z ∧ y - 2 ≤ z ∧ z ≤ y + 3 ∧ Hid (∀ yt, yrOk c day yt → z ≤ yt) ∧ CalAt wr w.heap.size c ∧ w.heap.size < wr.heap.size ∧ Below w.heap.size w wr) (fun s9 _ => (y + 3 - intOf s9).toNat)
  case atStart => exact ⟨y - 2, rfl, by omega, by omega, hide (fun yt h => (HNR.out yt h).1), calAt_new w c, by simp, by (repeat' (first | (with_reducible exact Below.refl _ _) | (with_reducible assumption) | (with_reducible refine Below.alloc ?_ ?_ _) | (with_reducible refine below_drewN ?_ _) | (with_reducible refine Below.drew ?_) | (with_reducible refine Below.setCell ?_ ?_ _) | (with_reducible refine Below.trans ?_ (Below.mono (by assumption) ?_)) | go_size | (simp at *; omega)))⟩
  case round =>
    obtain ⟨z, rfl, hz1, hz2, HZ, hQ, hlt, hB⟩ := hrel
    have HQ := hide hQ
    have HB := hide hB
    obtain ⟨q0, q1, q2, q3, q4, q5, q6, q7, q8, q9, q10, q11, q12, q13⟩ := hQ
    clear hB
    by_cases hle : z ≤ y + 2
    · have hsb := start_b c z
      go_wp2_with fail
      refine (start_any c z _ hn).mono ?_
      rintro e w1 ⟨rfl, hb1⟩
      clear q0 q1 q2 q3 q4 q5 q6 q7 q8 q9 q10 q11 q12 q13
      have HQ1 := hide (calAt_below hb1 hlt HQ.out)
      have HB1 := hide (HB.out.trans (hb1.mono (Nat.le_of_lt hlt)))
      have hlt1 : w.heap.size < w1.heap.size := Nat.lt_of_lt_of_le hlt hb1.size
      clear hb1
      by_cases hA : askE c z 1601 = 0
      · have heb := end_b c z hA
        have HA := hide hA
        have HA0 := hide (ask_mono hA)
        rw [hA]
        clear hA
        obtain ⟨q0, q1, q2, q3, q4, q5, q6, q7, q8, q9, q10, q11, q12, q13⟩ := HQ1.out
        go_wp2_with fail
        refine (end_any c z _ hn).mono ?_
        rintro e w2 ⟨rfl, hb2⟩
        rw [HA0.out]
        clear q0 q1 q2 q3 q4 q5 q6 q7 q8 q9 q10 q11 q12 q13
        have HQ2 := hide (calAt_below hb2 hlt1 HQ1.out)
        have HB2 := hide (HB1.out.trans (hb2.mono (Nat.le_of_lt hlt1)))
        have hlt2 : w.heap.size < w2.heap.size := Nat.lt_of_lt_of_le hlt1 hb2.size
        clear hb2
        by_cases hyr : startV c z ≤ day ∧ day ≤ endV c z
        · have hf := found_yes HD.out (show yrOk c day z from ⟨HA.out, hyr.1, hyr.2⟩)
          have HF1 := hide hf.1
          have HF2 := hide hf.2.1
          have HF3 := hide hf.2.2
          obtain ⟨hyr1, hyr2⟩ := hyr
          clear hf
          go_wp2
          all_goals first
            | (exfalso; omega)
            | (go_ret3; exact ⟨by (rw [HF1.out, HF2.out, HF3.out]) <;> rfl, HB2.out⟩)
        · have HNE := hide (show ∀ yt, yrOk c day yt → z + 1 ≤ yt from fun yt h => by
            have h1 := HZ.out yt h
            by_cases h2 : yt = z
            · subst h2; exact absurd ⟨h.2.1, h.2.2⟩ hyr
            · omega)
          rcases (show day < startV c z ∨ (startV c z ≤ day ∧ endV c z < day) by omega) with hyr | ⟨hyr1, hyr2⟩
          · go_wp2
            all_goals first
              | (exfalso; omega)
              | exact ⟨⟨z + 1, rfl, by omega, by omega, HNE, HQ2.out, hlt2, HB2.out⟩, by simp [intOf]; omega⟩
          · go_wp2
            all_goals first
              | (exfalso; omega)
              | exact ⟨⟨z + 1, rfl, by omega, by omega, HNE, HQ2.out, hlt2, HB2.out⟩, by simp [intOf]; omega⟩
      · have hA' : (askE c z 1601 != 0) = true := by simpa using hA
        have HNE := hide (show ∀ yt, yrOk c day yt → z + 1 ≤ yt from fun yt h => by
            have h1 := HZ.out yt h
            by_cases h2 : yt = z
            · subst h2; exact absurd h.1 hA
            · omega)
        clear hA
        go_wp2
        all_goals first
          | (exfalso; omega)
          | exact ⟨⟨z + 1, rfl, by omega, by omega, HNE, HQ1.out, hlt1, HB1.out⟩, by simp [intOf]; omega⟩
    · have hf := found_none (c := c) (day := day) (by
        rintro ⟨yt, h⟩
        have h1 := HZ.out yt h
        have h2 := HNR.out yt h
        omega)
      have HF1 := hide hf.1
      have HF2 := hide hf.2.1
      have HF3 := hide (hf.2.2 HOK2.out HD.out)
      clear hf
      go_wp2
      all_goals first
        | (exfalso; omega)
        | (go_ret3; exact ⟨by (rw [HF1.out, HF2.out, HF3.out]) <;> rfl, HB.out⟩)

set_option maxRecDepth 100000 in
set_option maxHeartbeats 1600000 in
theorem found_bad (c : Cal) (day : Int) (w : World) (hn : c.name.size ≤ 1000) (hk : c.okB = false) :
    Calls Try.prog 83 #[calV c, .int .i64 day] w fun e w' => e = .returned (.tuple #[.int .i64 (foundY c day), .int .i64 (foundN c day), .int .i64 (foundE c day)]) ∧ Below w.heap.size w w' := by
  have hf := found_not_ok (day := day) hk
  have HF1 := hide hf.1
  have HF2 := hide hf.2.1
  have HF3 := hide hf.2.2
  have hE : okE c = 1 := by simp [okE, hk]
  clear hf hk
  simp only [calV]
  go_enter Try.func83, Try.ntmps83
  go_wp2_with fail
  refine (check_any c _ hn).mono ?_
  rintro e w1 ⟨rfl, hb1⟩
  rw [hE]
  have HB1 := hide (Below.trans ((Below.refl _ _).alloc (Nat.le_refl _) _) (hb1.mono (by simp)) : Below w.heap.size w w1)
  clear hb1
  go_wp2
  go_ret3
  exact ⟨by (rw [HF1.out, HF2.out, HF3.out]) <;> rfl, HB1.out⟩

set_option maxRecDepth 100000 in
set_option maxHeartbeats 1600000 in
theorem found_off (c : Cal) (day : Int) (w : World) (hn : c.name.size ≤ 1000) (hk : c.okB = true) (hd : isB day = false) :
    Calls Try.prog 83 #[calV c, .int .i64 day] w fun e w' => e = .returned (.tuple #[.int .i64 (foundY c day), .int .i64 (foundN c day), .int .i64 (foundE c day)]) ∧ Below w.heap.size w w' := by
  have hf := found_no_day (c := c) hd
  have HF1 := hide hf.1
  have HF2 := hide hf.2.1
  have HF3 := hide (hf.2.2 hk)
  have hE : okE c = 0 := by simp [okE, hk]
  clear hf hk
  simp only [calV]
  go_enter Try.func83, Try.ntmps83
  go_wp2_with fail
  refine (check_any c _ hn).mono ?_
  rintro e w1 ⟨rfl, hb1⟩
  rw [hE]
  have hz1 : w.heap.size < w1.heap.size := by have := hb1.size; simp at this; omega
  have HB1 := hide (Below.trans ((Below.refl _ _).alloc (Nat.le_refl _) _) (hb1.mono (by simp)) : Below w.heap.size w w1)
  clear hb1
  go_wp2_with fail
  refine (of_no day _ hd).mono ?_
  rintro e w2 ⟨rfl, hb2⟩
  have HB2 := hide (HB1.out.trans (hb2.mono (Nat.le_of_lt hz1)))
  have hz2 : w.heap.size < w2.heap.size := Nat.lt_of_lt_of_le hz1 hb2.size
  clear hb2
  go_wp2
  go_ret3
  exact ⟨by (rw [HF1.out, HF2.out, HF3.out]) <;> rfl, by have := HB2.out; (repeat' (first | (with_reducible exact Below.refl _ _) | (with_reducible assumption) | (with_reducible refine Below.alloc ?_ ?_ _) | (with_reducible refine below_drewN ?_ _) | (with_reducible refine Below.drew ?_) | (with_reducible refine Below.setCell ?_ ?_ _) | (with_reducible refine Below.trans ?_ (Below.mono (by assumption) ?_)) | go_size | (simp at *; omega)))⟩

set_option maxRecDepth 100000 in
set_option maxHeartbeats 3200000 in
theorem found_in (c : Cal) (day : Int) (w : World) (hn : c.name.size ≤ 1000) (hk : c.okB = true) (hd : isB day = true) :
    Calls Try.prog 83 #[calV c, .int .i64 day] w fun e w' => e = .returned (.tuple #[.int .i64 (foundY c day), .int .i64 (foundN c day), .int .i64 (foundE c day)]) ∧ Below w.heap.size w w' := by
  have hok : c.Ok := by simpa [Cal.okB] using hk
  have hE : okE c = 0 := by simp [okE, hk]
  have hdd : 0 ≤ day ∧ day < 3068037 := by simpa [isB] using hd
  obtain ⟨hm, hs, _, _⟩ := ok_rule hok
  obtain ⟨o1, o2, _, _⟩ := ofY_ok day hdd.1 hdd.2
  have HNR := hide (fun yt (h : yrOk c day yt) => yr_near h hd)
  have HOK := hide hok
  have HD := hide hd
  clear hk hok hd
  simp only [calV]
  go_enter Try.func83, Try.ntmps83
  go_wp2_with fail
  refine (check_any c _ hn).mono ?_
  rintro e w1 ⟨rfl, hb1⟩
  rw [hE]
  have hz1 : w.heap.size < w1.heap.size := by have := hb1.size; simp at this; omega
  have HB1 := hide (Below.trans ((Below.refl _ _).alloc (Nat.le_refl _) _) (hb1.mono (by simp)) : Below w.heap.size w w1)
  have HQ := hide (calAt_below hb1 (by simp) (calAt_new w c))
  clear hb1
  go_wp2_with fail
  refine (of_yes day _ HD.out).mono ?_
  rintro e w2 ⟨rfl, hb2⟩
  have HQ2 := hide (calAt_below hb2 hz1 HQ.out)
  have HB2 := hide (HB1.out.trans (hb2.mono (Nat.le_of_lt hz1)))
  have hz2 : w.heap.size < w2.heap.size := Nat.lt_of_lt_of_le hz1 hb2.size
  clear hb2
  obtain ⟨q0, q1, q2, q3, q4, q5, q6, q7, q8, q9, q10, q11, q12, q13⟩ := HQ2.out
  go_wp2_with fail
  clear q0 q1 q2 q3 q4 q5 q6 q7 q8 q9 q10 q11 q12 q13
  go_loopw [4, 30] (fun s4 s30 wr => ∃ (k : Nat) (y : Int), s30 = .int .i64 k ∧ k ≤ 3 ∧ s4 = .int .i64 y ∧ 1500 - k ≤ y ∧ y ≤ 10000 + k ∧ Hid (∀ yt, yrOk c day yt → y - 2 ≤ yt ∧ yt ≤ y + 2) ∧ CalAt wr w.heap.size c ∧ w.heap.size < wr.heap.size ∧ Below w.heap.size w wr) (fun _ s30 _ => (3 - intOf s30).toNat)
  case atStart =>
    refine ⟨0, ofY day - c.shift, rfl, by omega, by first | rfl | simp, by omega, by omega, hide (fun yt h => HNR.out yt h), calAt_alloc HQ2.out hz2 _, by simp; omega, ?_⟩
    have := HB2.out
    (repeat' (first | (with_reducible exact Below.refl _ _) | (with_reducible assumption) | (with_reducible refine Below.alloc ?_ ?_ _) | (with_reducible refine below_drewN ?_ _) | (with_reducible refine Below.drew ?_) | (with_reducible refine Below.setCell ?_ ?_ _) | (with_reducible refine Below.trans ?_ (Below.mono (by assumption) ?_)) | go_size | (simp at *; omega)))
  case round =>
    obtain ⟨k, y, rfl, hk, rfl, hy1, hy2, HZ, hQ, hlt, hB⟩ := hrel
    have HQ3 := hide hQ
    have HB3 := hide hB
    obtain ⟨q0, q1, q2, q3, q4, q5, q6, q7, q8, q9, q10, q11, q12, q13⟩ := hQ
    clear hB
    by_cases hk3 : k < 3
    · go_wp2_with fail
      refine (end_any c y _ hn).mono ?_
      rintro e w3 ⟨rfl, hb3⟩
      clear q0 q1 q2 q3 q4 q5 q6 q7 q8 q9 q10 q11 q12 q13
      have HQ4 := hide (calAt_below hb3 hlt HQ3.out)
      have HB4 := hide (HB3.out.trans (hb3.mono (Nat.le_of_lt hlt)))
      have hlt4 : w.heap.size < w3.heap.size := Nat.lt_of_lt_of_le hlt hb3.size
      clear hb3
      by_cases hA : askE c y 1600 = 0
      · rw [hA]
        have HA := hide hA
        have hyy := ask_ok hA
        have hyy1 := hyy.2.1
        have hyy2 := hyy.2.2
        clear hA hyy
        by_cases hgt : endV c y < day
        · have HNE := hide (show ∀ yt, yrOk c day yt → y + 1 - 2 ≤ yt ∧ yt ≤ y + 1 + 2 from fun yt h => by
            have h1 := HZ.out yt h
            have h3 : y < yt := by
              rcases Int.lt_or_le y yt with h4 | h4
              · exact h4
              · have := end_le c HOK.out (by have := (ask_ok h.1).2.1; omega) h4 hyy2
                have := h.2.2
                omega
            omega)
          go_wp2
          all_goals first
            | (exfalso; omega)
            | exact ⟨⟨k + 1, y + 1, by go_num, by omega, rfl, by omega, by omega, HNE, HQ4.out, hlt4, HB4.out⟩, by simp [intOf]; omega⟩
        · obtain ⟨q0, q1, q2, q3, q4, q5, q6, q7, q8, q9, q10, q11, q12, q13⟩ := HQ4.out
          go_wp2_with fail
          all_goals first
            | (exfalso; omega)
            | skip
          refine (start_any c y _ hn).mono ?_
          rintro e w5 ⟨rfl, hb5⟩
          clear q0 q1 q2 q3 q4 q5 q6 q7 q8 q9 q10 q11 q12 q13
          have HQ5 := hide (calAt_below hb5 hlt4 HQ4.out)
          have HB5 := hide (HB4.out.trans (hb5.mono (Nat.le_of_lt hlt4)))
          have hlt5 : w.heap.size < w5.heap.size := Nat.lt_of_lt_of_le hlt4 hb5.size
          clear hb5
          have hsb := start_b c y
          have HNE := hide (show (¬ (askE c y 1601 = 0 ∧ startV c y ≤ day)) → ∀ yt, yrOk c day yt → y - 1 - 2 ≤ yt ∧ yt ≤ y - 1 + 2 from fun hno yt h => by
            have h1 := HZ.out yt h
            have h3 : yt < y := by
              rcases Int.lt_trichotomy yt y with h4 | h4 | h4
              · exact h4
              · subst h4; exact absurd ⟨h.1, h.2.1⟩ hno
              · have := end_lt_start c HOK.out (by omega) h4 (ask_ok h.1).2.2
                have := h.2.1
                omega
            omega)
          by_cases hS : askE c y 1601 = 0
          · by_cases hst : startV c y ≤ day
            · have hf := found_yes HD.out (show yrOk c day y from ⟨hS, hst, by omega⟩)
              have HF1 := hide hf.1
              have HF2 := hide hf.2.1
              have HF3 := hide hf.2.2
              rw [hS]
              clear hf hS HNE
              go_wp2
              all_goals first
                | (exfalso; omega)
                | (go_ret3; exact ⟨by (rw [HF1.out, HF2.out, HF3.out]) <;> rfl, HB5.out⟩)
            · have HNE2 := hide (HNE.out (fun h => hst h.2))
              rw [hS]
              clear hS HNE
              go_wp2
              all_goals first
                | (exfalso; omega)
                | exact ⟨⟨k + 1, y - 1, by go_num, by omega, rfl, by omega, by omega, HNE2, HQ5.out, hlt5, HB5.out⟩, by simp [intOf]; omega⟩
          · have HNE2 := hide (HNE.out (fun h => hS h.1))
            have hS' : (askE c y 1601 == 0) = false := by simpa using hS
            clear hS HNE
            go_wp2
            all_goals first
              | (exfalso; omega)
              | exact ⟨⟨k + 1, y - 1, by go_num, by omega, rfl, by omega, by omega, HNE2, HQ5.out, hlt5, HB5.out⟩, by simp [intOf]; omega⟩
      · have hA' : (askE c y 1600 != 0) = true := by simpa using hA
        clear hA
        obtain ⟨q0, q1, q2, q3, q4, q5, q6, q7, q8, q9, q10, q11, q12, q13⟩ := HQ4.out
        go_wp2_with fail
        all_goals first
          | (exfalso; omega)
          | skip
        refine (beside_any c day y _ hn HOK.out HD.out (by omega) HZ.out).mono ?_
        rintro e w5 ⟨rfl, hb5⟩
        clear q0 q1 q2 q3 q4 q5 q6 q7 q8 q9 q10 q11 q12 q13
        go_wp2
        go_ret3
        exact ⟨rfl, HB4.out.trans (hb5.mono (Nat.le_of_lt hlt4))⟩
    · go_wp2_with fail
      all_goals first
        | (exfalso; omega)
        | skip
      refine (beside_any c day y _ hn HOK.out HD.out (by omega) HZ.out).mono ?_
      rintro e w5 ⟨rfl, hb5⟩
      clear q0 q1 q2 q3 q4 q5 q6 q7 q8 q9 q10 q11 q12 q13
      go_wp2
      go_ret3
      exact ⟨rfl, HB3.out.trans (hb5.mono (Nat.le_of_lt hlt))⟩

theorem found_any (c : Cal) (day : Int) (w : World) (hn : c.name.size ≤ 1000) :
    Calls Try.prog 83 #[calV c, .int .i64 day] w fun e w' => e = .returned (.tuple #[.int .i64 (foundY c day), .int .i64 (foundN c day), .int .i64 (foundE c day)]) ∧ Below w.heap.size w w' := by
  cases hk : c.okB
  · exact found_bad c day w hn hk
  · cases hd : isB day
    · exact found_off c day w hn hk hd
    · exact found_in c day w hn hk hd

set_option maxHeartbeats 800000 in
theorem yof_any (c : Cal) (day : Int) (w : World) (hn : c.name.size ≤ 1000) :
    Calls Try.prog 60 #[calV c, .int .i64 day] w fun e w' => e = .returned (.tuple #[.int .i64 (foundY c day), .int .i64 (foundE c day)]) ∧ Below w.heap.size w w' := by
  simp only [calV]
  go_enter Try.func60, Try.ntmps60
  go_wp2_with fail
  refine (found_any c day _ hn).mono ?_
  rintro e w1 ⟨rfl, hb1⟩
  go_wp2
  go_ret2
  exact ⟨rfl, Below.trans ((Below.refl _ _).alloc (Nat.le_refl _) _) (hb1.mono (by simp))⟩
end Go.Proofs.Ytpngdeegdkifnaa

namespace Go.Proofs.Ytpngdeegdkifnaa
open Go.RowKit Qd
set_option linter.unusedSimpArgs false
set_option linter.unusedVariables false

def bndV (c : Cal) : Sp := if c.okB then ⟨startV c c.first, endV c c.last⟩ else ⟨0, 0⟩
theorem ok_years {c : Cal} (h : c.okB = true) : askE c c.first 1601 = 0 ∧ askE c c.last 1601 = 0 ∧ 1602 ≤ c.first ∧ c.last ≤ 9996 ∧ c.first ≤ c.last := by
  have hok : c.Ok := by simpa [Cal.okB] using h
  have hs := hok.1
  unfold Cal.served at hs
  exact ⟨ask_2 hok (by omega) (by omega), ask_2 hok (by omega) (by omega), by omega, by omega, by omega⟩

set_option maxRecDepth 100000 in
set_option maxHeartbeats 1600000 in
theorem bounds_bad (c : Cal) (w : World) (hn : c.name.size ≤ 1000) (hk : c.okB = false) :
    Calls Try.prog 59 #[calV c] w fun e w' => e = .returned (.tuple #[.agg #[.int .i64 0, .int .i64 0], .int .i64 1]) ∧ Below w.heap.size w w' := by
  have HE := hide (show askE c c.first 1601 = 1 by simp [askE, hk])
  clear hk
  simp only [calV]
  go_enter Try.func59, Try.ntmps59
  go_wp2_with fail
  refine (start_any c c.first _ hn).mono ?_
  rintro e w1 ⟨rfl, hb1⟩
  rw [HE.out]
  have r0 : w1.cell? ⟨w.heap.size + 1, 0, none⟩ = some (.int .i64 0) := by rw [hb1.cell (p := ⟨w.heap.size + 1, 0, none⟩) (by simp)]; simp
  have r1 : w1.cell? ⟨w.heap.size + 1, 1, none⟩ = some (.int .i64 0) := by rw [hb1.cell (p := ⟨w.heap.size + 1, 1, none⟩) (by simp)]; simp
  have f0 : w1.frozen? ⟨w.heap.size + 1, 0, none⟩ = false := by rw [hb1.frozen (p := ⟨w.heap.size + 1, 0, none⟩) (by simp)]; simp
  have f1 : w1.frozen? ⟨w.heap.size + 1, 1, none⟩ = false := by rw [hb1.frozen (p := ⟨w.heap.size + 1, 1, none⟩) (by simp)]; simp
  have hsz : w.heap.size + 1 < w1.heap.size := by have := hb1.size; simp at this; omega
  have HW := hide (show Below w.heap.size w w1 by (repeat' (first | (with_reducible exact Below.refl _ _) | (with_reducible assumption) | (with_reducible refine Below.alloc ?_ ?_ _) | (with_reducible refine below_drewN ?_ _) | (with_reducible refine Below.drew ?_) | (with_reducible refine Below.setCell ?_ ?_ _) | (with_reducible refine Below.trans ?_ (Below.mono (by assumption) ?_)) | go_size | (simp at *; omega))))
  clear hb1
  go_wp2
  have hWo := HW.out
  exact bodyPost_ret (v := .tuple #[.agg #[.int .i64 0, .int .i64 0], .int .i64 1]) (by simp (maxDischargeDepth := 9) [results, Try.results59, go_sem, r0, r1, f0, f1, hsz]) rfl ⟨rfl, by (repeat' (first | (with_reducible exact Below.refl _ _) | (with_reducible assumption) | (with_reducible refine Below.alloc ?_ ?_ _) | (with_reducible refine below_drewN ?_ _) | (with_reducible refine Below.drew ?_) | (with_reducible refine Below.setCell ?_ ?_ _) | (with_reducible refine Below.trans ?_ (Below.mono (by assumption) ?_)) | go_size | (simp at *; omega)))⟩

set_option maxRecDepth 100000 in
set_option maxHeartbeats 1600000 in
theorem bounds_ok (c : Cal) (w : World) (hn : c.name.size ≤ 1000) (hk : c.okB = true) :
    Calls Try.prog 59 #[calV c] w fun e w' => e = .returned (.tuple #[.agg #[.int .i64 (startV c c.first), .int .i64 (endV c c.last)], .int .i64 0]) ∧ Below w.heap.size w w' := by
  obtain ⟨hA, hB, _, _, _⟩ := ok_years hk
  have HA := hide hA
  have HA2 := hide (ask_mono hB)
  clear hk hA hB
  simp only [calV]
  go_enter Try.func59, Try.ntmps59
  go_wp2_with fail
  refine (start_any c c.first _ hn).mono ?_
  rintro e w1 ⟨rfl, hb1⟩
  rw [HA.out]
  have r0 : w1.cell? ⟨w.heap.size + 1, 0, none⟩ = some (.int .i64 0) := by rw [hb1.cell (p := ⟨w.heap.size + 1, 0, none⟩) (by simp)]; simp
  have r1 : w1.cell? ⟨w.heap.size + 1, 1, none⟩ = some (.int .i64 0) := by rw [hb1.cell (p := ⟨w.heap.size + 1, 1, none⟩) (by simp)]; simp
  have f0 : w1.frozen? ⟨w.heap.size + 1, 0, none⟩ = false := by rw [hb1.frozen (p := ⟨w.heap.size + 1, 0, none⟩) (by simp)]; simp
  have f1 : w1.frozen? ⟨w.heap.size + 1, 1, none⟩ = false := by rw [hb1.frozen (p := ⟨w.heap.size + 1, 1, none⟩) (by simp)]; simp
  have hz1 : w.heap.size + 1 < w1.heap.size := by have := hb1.size; simp at this; omega
  have hz0 : w.heap.size < w1.heap.size := by omega
  have HB1 := hide (show Below w.heap.size w w1 by (repeat' (first | (with_reducible exact Below.refl _ _) | (with_reducible assumption) | (with_reducible refine Below.alloc ?_ ?_ _) | (with_reducible refine below_drewN ?_ _) | (with_reducible refine Below.drew ?_) | (with_reducible refine Below.setCell ?_ ?_ _) | (with_reducible refine Below.trans ?_ (Below.mono (by assumption) ?_)) | go_size | (simp at *; omega))))
  have HQ1 := hide (calAt_below hb1 (by simp; omega) (calAt_alloc (calAt_new w c) (by simp) _))
  obtain ⟨q0, q1, q2, q3, q4, q5, q6, q7, q8, q9, q10, q11, q12, q13⟩ := HQ1.out
  clear hb1
  go_wp2_with fail
  refine (end_any c c.last _ hn).mono ?_
  rintro e w2 ⟨rfl, hb2⟩
  rw [HA2.out]
  clear q0 q1 q2 q3 q4 q5 q6 q7 q8 q9 q10 q11 q12 q13
  have s0 : w2.cell? ⟨w.heap.size + 1, 0, none⟩ = some (.int .i64 0) := by rw [hb2.cell (p := ⟨w.heap.size + 1, 0, none⟩) hz1]; exact r0
  have s1 : w2.cell? ⟨w.heap.size + 1, 1, none⟩ = some (.int .i64 0) := by rw [hb2.cell (p := ⟨w.heap.size + 1, 1, none⟩) hz1]; exact r1
  have k0 : w2.frozen? ⟨w.heap.size + 1, 0, none⟩ = false := by rw [hb2.frozen (p := ⟨w.heap.size + 1, 0, none⟩) hz1]; exact f0
  have k1 : w2.frozen? ⟨w.heap.size + 1, 1, none⟩ = false := by rw [hb2.frozen (p := ⟨w.heap.size + 1, 1, none⟩) hz1]; exact f1
  have hsz : w.heap.size + 1 < w2.heap.size := Nat.lt_of_lt_of_le hz1 hb2.size
  have HB2 := hide (HB1.out.trans (hb2.mono (by omega)) : Below w.heap.size w w2)
  clear hb2 r0 r1 f0 f1
  go_wp2
  have hWo := HB2.out
  exact bodyPost_ret (v := .tuple #[.agg #[.int .i64 (startV c c.first), .int .i64 (endV c c.last)], .int .i64 0]) (by simp (maxDischargeDepth := 9) [results, Try.results59, go_sem, s0, s1, k0, k1, hsz]) rfl ⟨rfl, by (repeat' (first | (with_reducible exact Below.refl _ _) | (with_reducible assumption) | (with_reducible refine Below.alloc ?_ ?_ _) | (with_reducible refine below_drewN ?_ _) | (with_reducible refine Below.drew ?_) | (with_reducible refine Below.setCell ?_ ?_ _) | (with_reducible refine Below.trans ?_ (Below.mono (by assumption) ?_)) | go_size | (simp at *; omega)))⟩

/-- Why a day is not served. -/
noncomputable def servE (c : Cal) (day : Int) : Int := if c.okB = false then 1 else if foundE c day ≠ 0 then foundE c day else if startV c c.first ≤ day ∧ day ≤ endV c c.last then 0 else 11
noncomputable def servY (c : Cal) (day : Int) : Int := if servE c day = 0 then foundY c day else 0
theorem found_zero {c : Cal} {day : Int} (h : foundE c day ≠ 0) : foundY c day = 0 := by
  cases hk : c.okB
  · exact (found_not_ok hk).1
  · cases hd : isB day
    · exact (found_no_day hd).1
    · by_cases hy : ∃ y, yrOk c day y
      · obtain ⟨y, hy⟩ := hy
        exact absurd (found_yes hd hy).2.2 h
      · exact (found_none hy).1
/-- A served day lies in a served year. -/
theorem serv_ok {c : Cal} {day : Int} (h : servE c day = 0) : c.okB = true ∧ isB day = true ∧ yrOk c day (servY c day) ∧ c.first ≤ servY c day ∧ servY c day ≤ c.last := by
  have hY : servY c day = foundY c day := by rw [servY, if_pos h]
  unfold servE at h
  split at h
  · omega
  · rename_i hk
    split at h
    · rename_i hf; exact absurd h hf
    · rename_i hf
      split at h
      · rename_i hb
        have hf0 : foundE c day = 0 := by omega
        obtain ⟨hok, hd, hyr⟩ := found_ok hf0
        have hk2 : c.okB = true := by simpa using hk
        obtain ⟨hA, hB, b1, b2, b3⟩ := ok_years hk2
        rw [hY]
        refine ⟨hk2, hd, hyr, ?_, ?_⟩
        · rcases Int.lt_or_le (foundY c day) c.first with h5 | h5
          · have := end_lt_start c hok (by have := (ask_ok hyr.1).2.1; omega) h5 (by omega)
            have := hyr.2.2
            omega
          · exact h5
        · rcases Int.lt_or_le c.last (foundY c day) with h5 | h5
          · have := end_lt_start c hok (by omega) h5 (ask_ok hyr.1).2.2
            have := hyr.2.1
            omega
          · exact h5
      · omega
theorem serv_yes {c : Cal} {day y : Int} (hk : c.okB = true) (hyr : yrOk c day y) (h1 : c.first ≤ y) (h2 : y ≤ c.last) : servE c day = 0 ∧ servY c day = y := by
  have hok : c.Ok := by simpa [Cal.okB] using hk
  obtain ⟨hA, hB, b1, b2, b3⟩ := ok_years hk
  have hd : isB day = true := by
    have := year_bd c y hyr.1
    have h3 := hyr.2
    have : endV c y < 3068037 := by
      obtain ⟨z, hz⟩ : ∃ z, z = y + 1 := ⟨_, rfl⟩
      have hz1 : askE c z 1601 = 0 := ask_2 hok (by omega) (by omega)
      have := year_bd c z hz1
      have h5 := start_next c y (by rw [← hz]; exact hz1)
      rw [← hz] at h5
      have : daysV c z = endV c z - startV c z + 1 := by simp [daysV, hz1]
      omega
    simp [isB]
    omega
  obtain ⟨f1, f2, f3⟩ := found_yes hd hyr
  have s1 := start_le c hok (by omega) h1 (by omega)
  have s2 := end_le c hok (by omega) h2 (by omega)
  have e : servE c day = 0 := by
    unfold servE
    rw [if_neg (by simp [hk]), if_neg (by omega), if_pos ⟨by have := hyr.2.1; omega, by have := hyr.2.2; omega⟩]
  exact ⟨e, by rw [servY, if_pos e, f1]⟩

set_option maxRecDepth 100000 in
set_option maxHeartbeats 1600000 in
theorem served_bad (c : Cal) (day : Int) (w : World) (hn : c.name.size ≤ 1000) (hk : c.okB = false) :
    Calls Try.prog 37 #[calV c, .int .i64 day] w fun e w' => e = .returned (.tuple #[.int .i64 (servY c day), .int .i64 (servE c day)]) ∧ Below w.heap.size w w' := by
  have H2 := hide (show servE c day = 1 by simp [servE, hk])
  have H1 := hide (show servY c day = 0 by rw [servY, if_neg (by rw [H2.out]; omega)])
  have HK := hide hk
  clear hk
  simp only [calV]
  go_enter Try.func37, Try.ntmps37
  go_wp2_with fail
  refine (bounds_bad c _ hn HK.out).mono ?_
  rintro e w1 ⟨rfl, hb1⟩
  have hz1 : w.heap.size < w1.heap.size := by have := hb1.size; simp at this; omega
  have HB1 := hide (show Below w.heap.size w w1 by refine Below.trans ?_ (hb1.mono (by simp)); (repeat' (first | (with_reducible exact Below.refl _ _) | (with_reducible assumption) | (with_reducible refine Below.alloc ?_ ?_ _) | (with_reducible refine below_drewN ?_ _) | (with_reducible refine Below.drew ?_) | (with_reducible refine Below.setCell ?_ ?_ _) | (with_reducible refine Below.trans ?_ (Below.mono (by assumption) ?_)) | go_size | (simp at *; omega))))
  clear hb1
  go_wp2
  have := HB1.out
  go_ret2
  exact ⟨ret_int2 H1.out.symm H2.out.symm, by (repeat' (first | (with_reducible exact Below.refl _ _) | (with_reducible assumption) | (with_reducible refine Below.alloc ?_ ?_ _) | (with_reducible refine below_drewN ?_ _) | (with_reducible refine Below.drew ?_) | (with_reducible refine Below.setCell ?_ ?_ _) | (with_reducible refine Below.trans ?_ (Below.mono (by assumption) ?_)) | go_size | (simp at *; omega)))⟩

set_option maxRecDepth 100000 in
set_option maxHeartbeats 1600000 in
theorem served_ok (c : Cal) (day : Int) (w : World) (hn : c.name.size ≤ 1000) (hk : c.okB = true) :
    Calls Try.prog 37 #[calV c, .int .i64 day] w fun e w' => e = .returned (.tuple #[.int .i64 (servY c day), .int .i64 (servE c day)]) ∧ Below w.heap.size w w' := by
  have HK := hide hk
  have HZ := hide (fun h => found_zero (c := c) (day := day) h)
  simp only [calV]
  go_enter Try.func37, Try.ntmps37
  go_wp2_with fail
  refine (bounds_ok c _ hn HK.out).mono ?_
  rintro e w1 ⟨rfl, hb1⟩
  have hz1 : w.heap.size < w1.heap.size := by have := hb1.size; simp at this; omega
  have HB1 := hide (show Below w.heap.size w w1 by refine Below.trans ?_ (hb1.mono (by simp)); (repeat' (first | (with_reducible exact Below.refl _ _) | (with_reducible assumption) | (with_reducible refine Below.alloc ?_ ?_ _) | (with_reducible refine below_drewN ?_ _) | (with_reducible refine Below.drew ?_) | (with_reducible refine Below.setCell ?_ ?_ _) | (with_reducible refine Below.trans ?_ (Below.mono (by assumption) ?_)) | go_size | (simp at *; omega))))
  have HQ1 := hide (calAt_below hb1 (by simp) (calAt_new w c))
  obtain ⟨q0, q1, q2, q3, q4, q5, q6, q7, q8, q9, q10, q11, q12, q13⟩ := HQ1.out
  clear hb1
  go_wp2_with fail
  refine (yof_any c day _ hn).mono ?_
  rintro e w2 ⟨rfl, hb2⟩
  have s0 : w2.cell? ⟨w1.heap.size, 0, none⟩ = some (.int .i64 (startV c c.first)) := by rw [hb2.cell (p := ⟨w1.heap.size, 0, none⟩) (by simp)]; simp
  have s1 : w2.cell? ⟨w1.heap.size, 1, none⟩ = some (.int .i64 (endV c c.last)) := by rw [hb2.cell (p := ⟨w1.heap.size, 1, none⟩) (by simp)]; simp
  have HB2 := hide (show Below w.heap.size w w2 by have hp := HB1.out; refine Below.trans ?_ (hb2.mono (by simp; omega)); (repeat' (first | (with_reducible exact Below.refl _ _) | (with_reducible assumption) | (with_reducible refine Below.alloc ?_ ?_ _) | (with_reducible refine below_drewN ?_ _) | (with_reducible refine Below.drew ?_) | (with_reducible refine Below.setCell ?_ ?_ _) | (with_reducible refine Below.trans ?_ (Below.mono (by assumption) ?_)) | go_size | (simp at *; omega))))
  clear q0 q1 q2 q3 q4 q5 q6 q7 q8 q9 q10 q11 q12 q13
  clear hb2
  by_cases hf : foundE c day = 0
  · have H3 := hide hf
    rw [hf]
    by_cases hin : startV c c.first ≤ day ∧ day ≤ endV c c.last
    · have H2 := hide (show servE c day = 0 by unfold servE; rw [if_neg (by simp [HK.out]), if_neg (by rw [hf]; simp), if_pos hin])
      have H1 := hide (show servY c day = foundY c day by rw [servY, if_pos H2.out])
      obtain ⟨hin1, hin2⟩ := hin
      clear hf
      go_wp2
      all_goals first
        | (exfalso; omega)
        | (go_ret2; exact ⟨ret_int2 H1.out.symm H2.out.symm, HB2.out⟩)
    · have H2 := hide (show servE c day = 11 by unfold servE; rw [if_neg (by simp [HK.out]), if_neg (by rw [hf]; simp), if_neg hin])
      have H1 := hide (show servY c day = 0 by rw [servY, if_neg (by rw [H2.out]; omega)])
      clear hf
      rcases (show day < startV c c.first ∨ (startV c c.first ≤ day ∧ endV c c.last < day) by omega) with hd | ⟨hd1, hd2⟩
      · go_wp2
        all_goals first
          | (exfalso; omega)
          | (go_ret2; exact ⟨ret_int2 H1.out.symm H2.out.symm, HB2.out⟩)
      · go_wp2
        all_goals first
          | (exfalso; omega)
          | (go_ret2; exact ⟨ret_int2 H1.out.symm H2.out.symm, HB2.out⟩)
  · have H2 := hide (show servE c day = foundE c day by unfold servE; rw [if_neg (by simp [HK.out]), if_pos hf])
    have H1 := hide (show servY c day = foundY c day by rw [servY, if_neg (by rw [H2.out]; exact hf), HZ.out hf])
    have hf' : (foundE c day == 0) = false := by simpa using hf
    clear hf
    go_wp2
    all_goals first
      | (exfalso; omega)
      | (go_ret2; exact ⟨ret_int2 H1.out.symm H2.out.symm, HB2.out⟩)

theorem served_any (c : Cal) (day : Int) (w : World) (hn : c.name.size ≤ 1000) :
    Calls Try.prog 37 #[calV c, .int .i64 day] w fun e w' => e = .returned (.tuple #[.int .i64 (servY c day), .int .i64 (servE c day)]) ∧ Below w.heap.size w w' := by
  cases hk : c.okB
  · exact served_bad c day w hn hk
  · exact served_ok c day w hn hk
end Go.Proofs.Ytpngdeegdkifnaa
