/- Contracts of year: beside, found. Contracts of year: Bounds, Served. Contracts of find.Day. Contracts of stamp.Parse on the text of layer 17's example. Layer 17's example. Contracts of find.Next, find.Back. The walk of FindNext. -/
import Derived.Test.YtjhhmeoibfdcmaaGreatDoorMFr
import Derived.Test.YtjhhmeoibfdcmaaGreatDoorMCa
import Derived.Test.YtjhhmeoibfdcmaaGreatDoorMAn
import Derived.Test.YtjhhmeoibfdcmaaGreatDoorUnitV
import Derived.Test.YtjhhmeoibfdcmaaGreatDoorMUn
import Derived.WalkSmall
namespace Go.Proofs.YtjhhmeoibfdcmaaGreatDoor
open Go.RowKit Qd
set_option linter.unusedSimpArgs false
set_option linter.unusedVariables false

set_option maxHeartbeats 800000 in
theorem weekc_any (s : Sp) (d : Int) (w : World) (hb : -100000000 ≤ s.b ∧ s.b ≤ 100000000) (hd : -100000000 ≤ d ∧ d ≤ 100000000) :
    Calls Tryz.prog 95 #[.agg #[.int .i64 s.a, .int .i64 s.b], .int .i64 d] w fun e w' => e = .returned (.int .i64 (s.b - d)) ∧ Below w.heap.size w w' := by
  obtain ⟨hb1, hb2⟩ := hb
  obtain ⟨hd1, hd2⟩ := hd
  go_enter Tryz.func95, Tryz.ntmps95
  go_wp2
  go_ret
  exact ⟨rfl, by (repeat' exact bel)⟩

def Bs2Post (l : List (Int × Int)) (x : Int) (w : World) (e : Ending) (w' : World) : Prop := ∃ b, e = .returned (.tuple #[.int .i64 (bsL (l.map Prod.snd) x : Int), .bool b]) ∧ Below w.heap.size w w'
theorem snd_get (l : List (Int × Int)) (i : Nat) (hi : i < l.length) : (l.map Prod.snd)[i]?.getD 0 = (l[i]?.getD (0, 0)).2 := by simp [hi]
set_option maxRecDepth 100000 in
set_option maxHeartbeats 3200000 in
theorem bsearch2_any (g cap : Nat) (l : List (Int × Int)) (x : Int) (w : World) (hl : l.length ≤ 100000) (hI : SpansAt w g l) (hx : -100000000 ≤ x ∧ x ≤ 100000000) (hv : ∀ i, i < l.length → -100000000 ≤ (l[i]?.getD (0, 0)).2 ∧ (l[i]?.getD (0, 0)).2 ≤ 100000000)
    (hs : ∀ i j, i ≤ j → j < l.length → (l[i]?.getD (0, 0)).2 ≤ (l[j]?.getD (0, 0)).2) :
    Calls Tryz.prog 94 #[.slice (some ⟨g, 0, none⟩) l.length cap, .int .i64 x, .func (.func 95) #[] #[]] w (Bs2Post l x w) := by
  obtain ⟨hx1, hx2⟩ := hx
  have HS := hide hs
  have HI := hide hI
  have HV := hide hv
  obtain ⟨n, hn⟩ : ∃ n, n = l.length := ⟨_, rfl⟩
  have hn2 : n ≤ 100000 := by omega
  have HN := hide hn
  rw [← hn]
  clear hs hI hn hl hv
  go_enter Tryz.func94, Tryz.ntmps94
  go_wp2_with fail
  go_loopw [9, 10] (fun s7 s8 wr => ∃ a b : Nat, s7 = .int .i64 a ∧ s8 = .int .i64 b ∧ a ≤ b ∧ b ≤ n ∧ Hid (∀ t, t < a → (l[t]?.getD (0, 0)).2 < x) ∧ Hid (∀ t, b ≤ t → t < n → x ≤ (l[t]?.getD (0, 0)).2) ∧ Below w.heap.size w wr) (fun s7 s8 _ => (intOf s8 - intOf s7).toNat)
  case atStart => exact ⟨0, n, rfl, rfl, by omega, by omega, hide (fun t ht => by omega), hide (fun t h1 h2 => by omega), Below.refl _ _⟩
  case round =>
    obtain ⟨a, b, rfl, rfl, hab, hbn, HA, HB, hB⟩ := hrel
    have hg := HI.out.call hB
    have HG := hide hg
    clear hg
    by_cases hlt : a < b
    · have hcell := HG.out.2 ((a + b) / 2) (by rw [← HN.out]; omega)
      have c1 : wr.cell? ⟨g, (a + b) / 2 * 2, none⟩ = some (.int .i64 (l[(a + b) / 2]?.getD (0, 0)).1) := by rw [Nat.mul_comm]; exact hcell.1
      have c2 : wr.cell? ⟨g, (a + b) / 2 * 2 + 1, none⟩ = some (.int .i64 (l[(a + b) / 2]?.getD (0, 0)).2) := by rw [Nat.mul_comm]; exact hcell.2
      have hvv := HV.out ((a + b) / 2) (by rw [← HN.out]; omega)
      obtain ⟨hv1, hv2⟩ := hvv
      clear hcell
      go_wp2_with fail
      refine (weekc_any ⟨(l[(a + b) / 2]?.getD (0, 0)).1, (l[(a + b) / 2]?.getD (0, 0)).2⟩ x _ ⟨hv1, hv2⟩ ⟨hx1, hx2⟩).mono ?_
      rintro e w1 ⟨rfl, hb1⟩
      have hB1 := hide (hB.trans (hb1.mono hB.size))
      clear hb1 c1 c2
      by_cases hx : (l[(a + b) / 2]?.getD (0, 0)).2 < x
      · have HX := hide hx
        have hxb : (l[(a + b) / 2]?.getD (0, 0)).2 - x < 0 := by omega
        clear hx
        go_wp2
        refine ⟨⟨(a + b) / 2 + 1, b, ?_, rfl, by omega, hbn, hide (fun t ht => ?_), HB, hB1.out⟩, by simp [intOf]; omega⟩
        · congr 1
        · have h1 := HS.out t ((a + b) / 2) (by omega) (by rw [← HN.out]; omega)
          have h2 := HX.out
          omega
      · have HX := hide hx
        have hxb : 0 ≤ (l[(a + b) / 2]?.getD (0, 0)).2 - x := by omega
        clear hx
        go_wp2
        refine ⟨⟨a, (a + b) / 2, rfl, ?_, by omega, by omega, HA, hide (fun t ht1 ht2 => ?_), hB1.out⟩, by simp [intOf]; omega⟩
        · congr 1
        · have h1 := HS.out ((a + b) / 2) t (by omega) (by rw [← HN.out]; omega)
          have h2 := HX.out
          omega
    · obtain rfl : a = b := by omega
      have HR := hide (show bsL (l.map Prod.snd) x = a from bsL_eq _ x a (by simp; rw [← HN.out]; omega) (fun j hj => by rw [snd_get l j (by rw [← HN.out]; omega)]; exact HA.out j hj) (fun h => by
        have h2 : a < l.length := by simpa using h
        rw [snd_get l a h2]; exact HB.out a (Nat.le_refl _) (by rw [HN.out]; exact h2)))
      by_cases hn : a < n
      · have hcell := HG.out.2 a (by rw [← HN.out]; omega)
        have c1 : wr.cell? ⟨g, a * 2, none⟩ = some (.int .i64 (l[a]?.getD (0, 0)).1) := by rw [Nat.mul_comm]; exact hcell.1
        have c2 : wr.cell? ⟨g, a * 2 + 1, none⟩ = some (.int .i64 (l[a]?.getD (0, 0)).2) := by rw [Nat.mul_comm]; exact hcell.2
        have hvv := HV.out a (by rw [← HN.out]; omega)
        obtain ⟨hv1, hv2⟩ := hvv
        clear hcell
        go_wp2_with fail
        refine (weekc_any ⟨(l[a]?.getD (0, 0)).1, (l[a]?.getD (0, 0)).2⟩ x _ ⟨hv1, hv2⟩ ⟨hx1, hx2⟩).mono ?_
        rintro e w1 ⟨rfl, hb1⟩
        have hB1 := hide (hB.trans (hb1.mono hB.size))
        clear hb1 c1 c2
        go_wp2
        all_goals
          go_ret2
          exact ⟨_, by rw [HR.out]; rfl, hB1.out⟩
      · go_wp2
        all_goals
          go_ret2
          exact ⟨_, by rw [HR.out]; rfl, hB⟩

theorem start_b (c : Cal) (y : Int) : 0 ≤ startV c y ∧ startV c y ≤ 3068037 := by
  by_cases h : askE c y 1601 = 0
  · have := year_bd c y h; omega
  · simp [startV, h]
theorem end_b (c : Cal) (y : Int) (h : askE c y 1601 = 0) : 0 ≤ endV c y ∧ endV c y ≤ 3068037 := by
  have := year_bd c y h; omega

set_option maxRecDepth 100000 in
set_option maxHeartbeats 1600000 in
theorem beside_any (c : Cal) (day y : Int) (w : World) (hn : c.name.size ≤ 1000) (hok : c.Ok) (hd : isB day = true) (hy : -100 ≤ y ∧ y ≤ 20000) (hnear : ∀ yt, yrOk c day yt → y - 2 ≤ yt ∧ yt ≤ y + 2) :
    Calls Tryz.prog 120 #[calV c, .int .i64 day, .int .i64 y] w fun e w' => e = .returned (.tuple #[.int .i64 (foundY c day), .int .i64 (foundN c day), .int .i64 (foundE c day)]) ∧ Below w.heap.size w w' := by
  have hdd : 0 ≤ day ∧ day < 3068037 := by simpa [isB] using hd
  have HNR := hide hnear
  have HOK := hide hok
  have HD := hide hd
  have hok2 : c.okB = true := by simpa [Cal.okB] using hok
  have HOK2 := hide hok2
  clear hnear hok hd hok2
  simp only [calV]
  go_enter Tryz.func120, Tryz.ntmps120
  go_wp2_with fail
  go_loopw [9] (fun s9 wr => ∃ z : Int, s9 = .int .i64 z ∧ y - 2 ≤ z ∧ z ≤ y + 3 ∧ Hid (∀ yt, yrOk c day yt → z ≤ yt) ∧ CalAt wr w.heap.size c ∧ w.heap.size < wr.heap.size ∧ Below w.heap.size w wr) (fun s9 _ => (y + 3 - intOf s9).toNat)
  case atStart => exact ⟨y - 2, rfl, by omega, by omega, hide (fun yt h => (HNR.out yt h).1), calAt_new w c, by simp, by (repeat' exact bel)⟩
  case round =>
    obtain ⟨z, rfl, hz1, hz2, HZ, hQ, hlt, hB⟩ := hrel
    have HQ := hide hQ
    have HB := hide hB
    obtain ⟨q0, q1, q2, q3, q4, q5, q6, q7, q8, q9, q10, q11, q12, q13⟩ := hQ
    clear hB
    by_cases hle : z ≤ y + 2
    · have hsb := start_b c z
      go_wp2_with fail
      refine (start_any c z _ hn).mono ?_
      rintro e w1 ⟨rfl, hb1⟩
      clear q0 q1 q2 q3 q4 q5 q6 q7 q8 q9 q10 q11 q12 q13
      have HQ1 := hide (calAt_below hb1 hlt HQ.out)
      have HB1 := hide (HB.out.trans (hb1.mono (Nat.le_of_lt hlt)))
      have hlt1 : w.heap.size < w1.heap.size := Nat.lt_of_lt_of_le hlt hb1.size
      clear hb1
      by_cases hA : askE c z 1601 = 0
      · have heb := end_b c z hA
        have HA := hide hA
        have HA0 := hide (ask_mono hA)
        rw [hA]
        clear hA
        obtain ⟨q0, q1, q2, q3, q4, q5, q6, q7, q8, q9, q10, q11, q12, q13⟩ := HQ1.out
        go_wp2_with fail
        refine (end_any c z _ hn).mono ?_
        rintro e w2 ⟨rfl, hb2⟩
        rw [HA0.out]
        clear q0 q1 q2 q3 q4 q5 q6 q7 q8 q9 q10 q11 q12 q13
        have HQ2 := hide (calAt_below hb2 hlt1 HQ1.out)
        have HB2 := hide (HB1.out.trans (hb2.mono (Nat.le_of_lt hlt1)))
        have hlt2 : w.heap.size < w2.heap.size := Nat.lt_of_lt_of_le hlt1 hb2.size
        clear hb2
        by_cases hyr : startV c z ≤ day ∧ day ≤ endV c z
        · have hf := found_yes HD.out (show yrOk c day z from ⟨HA.out, hyr.1, hyr.2⟩)
          have HF1 := hide hf.1
          have HF2 := hide hf.2.1
          have HF3 := hide hf.2.2
          obtain ⟨hyr1, hyr2⟩ := hyr
          clear hf
          go_wp2
          all_goals first
            | (exfalso; omega)
            | (go_ret3; exact ⟨by (rw [HF1.out, HF2.out, HF3.out]) <;> rfl, HB2.out⟩)
        · have HNE := hide (show ∀ yt, yrOk c day yt → z + 1 ≤ yt from fun yt h => by
            have h1 := HZ.out yt h
            by_cases h2 : yt = z
            · subst h2; exact absurd ⟨h.2.1, h.2.2⟩ hyr
            · omega)
          rcases (show day < startV c z ∨ (startV c z ≤ day ∧ endV c z < day) by omega) with hyr | ⟨hyr1, hyr2⟩
          · go_wp2
            all_goals first
              | (exfalso; omega)
              | exact ⟨⟨z + 1, rfl, by omega, by omega, HNE, HQ2.out, hlt2, HB2.out⟩, by simp [intOf]; omega⟩
          · go_wp2
            all_goals first
              | (exfalso; omega)
              | exact ⟨⟨z + 1, rfl, by omega, by omega, HNE, HQ2.out, hlt2, HB2.out⟩, by simp [intOf]; omega⟩
      · have hA' : (askE c z 1601 != 0) = true := by simpa using hA
        have HNE := hide (show ∀ yt, yrOk c day yt → z + 1 ≤ yt from fun yt h => by
            have h1 := HZ.out yt h
            by_cases h2 : yt = z
            · subst h2; exact absurd h.1 hA
            · omega)
        clear hA
        go_wp2
        all_goals first
          | (exfalso; omega)
          | exact ⟨⟨z + 1, rfl, by omega, by omega, HNE, HQ1.out, hlt1, HB1.out⟩, by simp [intOf]; omega⟩
    · have hf := found_none (c := c) (day := day) (by
        rintro ⟨yt, h⟩
        have h1 := HZ.out yt h
        have h2 := HNR.out yt h
        omega)
      have HF1 := hide hf.1
      have HF2 := hide hf.2.1
      have HF3 := hide (hf.2.2 HOK2.out HD.out)
      clear hf
      go_wp2
      all_goals first
        | (exfalso; omega)
        | (go_ret3; exact ⟨by (rw [HF1.out, HF2.out, HF3.out]) <;> rfl, HB.out⟩)

set_option maxRecDepth 100000 in
set_option maxHeartbeats 1600000 in
theorem found_bad (c : Cal) (day : Int) (w : World) (hn : c.name.size ≤ 1000) (hk : c.okB = false) :
    Calls Tryz.prog 110 #[calV c, .int .i64 day] w fun e w' => e = .returned (.tuple #[.int .i64 (foundY c day), .int .i64 (foundN c day), .int .i64 (foundE c day)]) ∧ Below w.heap.size w w' := by
  have hf := found_not_ok (day := day) hk
  have HF1 := hide hf.1
  have HF2 := hide hf.2.1
  have HF3 := hide hf.2.2
  have hE : okE c = 1 := by simp [okE, hk]
  clear hf hk
  simp only [calV]
  go_enter Tryz.func110, Tryz.ntmps110
  go_wp2_with fail
  refine (check_any c _ hn).mono ?_
  rintro e w1 ⟨rfl, hb1⟩
  rw [hE]
  have HB1 := hide (Below.trans ((Below.refl _ _).alloc (Nat.le_refl _) _) (hb1.mono (by simp)) : Below w.heap.size w w1)
  clear hb1
  go_wp2
  go_ret3
  exact ⟨by (rw [HF1.out, HF2.out, HF3.out]) <;> rfl, HB1.out⟩

set_option maxRecDepth 100000 in
set_option maxHeartbeats 1600000 in
theorem found_off (c : Cal) (day : Int) (w : World) (hn : c.name.size ≤ 1000) (hk : c.okB = true) (hd : isB day = false) :
    Calls Tryz.prog 110 #[calV c, .int .i64 day] w fun e w' => e = .returned (.tuple #[.int .i64 (foundY c day), .int .i64 (foundN c day), .int .i64 (foundE c day)]) ∧ Below w.heap.size w w' := by
  have hf := found_no_day (c := c) hd
  have HF1 := hide hf.1
  have HF2 := hide hf.2.1
  have HF3 := hide (hf.2.2 hk)
  have hE : okE c = 0 := by simp [okE, hk]
  clear hf hk
  simp only [calV]
  go_enter Tryz.func110, Tryz.ntmps110
  go_wp2_with fail
  refine (check_any c _ hn).mono ?_
  rintro e w1 ⟨rfl, hb1⟩
  rw [hE]
  have hz1 : w.heap.size < w1.heap.size := by have := hb1.size; simp at this; omega
  have HB1 := hide (Below.trans ((Below.refl _ _).alloc (Nat.le_refl _) _) (hb1.mono (by simp)) : Below w.heap.size w w1)
  clear hb1
  go_wp2_with fail
  refine (of_no day _ hd).mono ?_
  rintro e w2 ⟨rfl, hb2⟩
  have HB2 := hide (HB1.out.trans (hb2.mono (Nat.le_of_lt hz1)))
  have hz2 : w.heap.size < w2.heap.size := Nat.lt_of_lt_of_le hz1 hb2.size
  clear hb2
  go_wp2
  go_ret3
  exact ⟨by (rw [HF1.out, HF2.out, HF3.out]) <;> rfl, by have := HB2.out; (repeat' exact bel)⟩

set_option maxRecDepth 100000 in
set_option maxHeartbeats 3200000 in
theorem found_in (c : Cal) (day : Int) (w : World) (hn : c.name.size ≤ 1000) (hk : c.okB = true) (hd : isB day = true) :
    Calls Tryz.prog 110 #[calV c, .int .i64 day] w fun e w' => e = .returned (.tuple #[.int .i64 (foundY c day), .int .i64 (foundN c day), .int .i64 (foundE c day)]) ∧ Below w.heap.size w w' := by
  have hok : c.Ok := by simpa [Cal.okB] using hk
  have hE : okE c = 0 := by simp [okE, hk]
  have hdd : 0 ≤ day ∧ day < 3068037 := by simpa [isB] using hd
  obtain ⟨hm, hs, _, _⟩ := ok_rule hok
  obtain ⟨o1, o2, _, _⟩ := ofY_ok day hdd.1 hdd.2
  have HNR := hide (fun yt (h : yrOk c day yt) => yr_near h hd)
  have HOK := hide hok
  have HD := hide hd
  clear hk hok hd
  simp only [calV]
  go_enter Tryz.func110, Tryz.ntmps110
  go_wp2_with fail
  refine (check_any c _ hn).mono ?_
  rintro e w1 ⟨rfl, hb1⟩
  rw [hE]
  have hz1 : w.heap.size < w1.heap.size := by have := hb1.size; simp at this; omega
  have HB1 := hide (Below.trans ((Below.refl _ _).alloc (Nat.le_refl _) _) (hb1.mono (by simp)) : Below w.heap.size w w1)
  have HQ := hide (calAt_below hb1 (by simp) (calAt_new w c))
  clear hb1
  go_wp2_with fail
  refine (of_yes day _ HD.out).mono ?_
  rintro e w2 ⟨rfl, hb2⟩
  have HQ2 := hide (calAt_below hb2 hz1 HQ.out)
  have HB2 := hide (HB1.out.trans (hb2.mono (Nat.le_of_lt hz1)))
  have hz2 : w.heap.size < w2.heap.size := Nat.lt_of_lt_of_le hz1 hb2.size
  clear hb2
  obtain ⟨q0, q1, q2, q3, q4, q5, q6, q7, q8, q9, q10, q11, q12, q13⟩ := HQ2.out
  go_wp2_with fail
  clear q0 q1 q2 q3 q4 q5 q6 q7 q8 q9 q10 q11 q12 q13
  go_loopw [4, 30] (fun s4 s30 wr => ∃ (k : Nat) (y : Int), s30 = .int .i64 k ∧ k ≤ 3 ∧ s4 = .int .i64 y ∧ 1500 - k ≤ y ∧ y ≤ 10000 + k ∧ Hid (∀ yt, yrOk c day yt → y - 2 ≤ yt ∧ yt ≤ y + 2) ∧ CalAt wr w.heap.size c ∧ w.heap.size < wr.heap.size ∧ Below w.heap.size w wr) (fun _ s30 _ => (3 - intOf s30).toNat)
  case atStart =>
    refine ⟨0, ofY day - c.shift, rfl, by omega, by first | rfl | simp, by omega, by omega, hide (fun yt h => HNR.out yt h), calAt_alloc HQ2.out hz2 _, by simp; omega, ?_⟩
    have := HB2.out
    (repeat' exact bel)
  case round =>
    obtain ⟨k, y, rfl, hk, rfl, hy1, hy2, HZ, hQ, hlt, hB⟩ := hrel
    have HQ3 := hide hQ
    have HB3 := hide hB
    obtain ⟨q0, q1, q2, q3, q4, q5, q6, q7, q8, q9, q10, q11, q12, q13⟩ := hQ
    clear hB
    by_cases hk3 : k < 3
    · go_wp2_with fail
      refine (end_any c y _ hn).mono ?_
      rintro e w3 ⟨rfl, hb3⟩
      clear q0 q1 q2 q3 q4 q5 q6 q7 q8 q9 q10 q11 q12 q13
      have HQ4 := hide (calAt_below hb3 hlt HQ3.out)
      have HB4 := hide (HB3.out.trans (hb3.mono (Nat.le_of_lt hlt)))
      have hlt4 : w.heap.size < w3.heap.size := Nat.lt_of_lt_of_le hlt hb3.size
      clear hb3
      by_cases hA : askE c y 1600 = 0
      · rw [hA]
        have HA := hide hA
        have hyy := ask_ok hA
        have hyy1 := hyy.2.1
        have hyy2 := hyy.2.2
        clear hA hyy
        by_cases hgt : endV c y < day
        · have HNE := hide (show ∀ yt, yrOk c day yt → y + 1 - 2 ≤ yt ∧ yt ≤ y + 1 + 2 from fun yt h => by
            have h1 := HZ.out yt h
            have h3 : y < yt := by
              rcases Int.lt_or_le y yt with h4 | h4
              · exact h4
              · have := end_le c HOK.out (by have := (ask_ok h.1).2.1; omega) h4 hyy2
                have := h.2.2
                omega
            omega)
          go_wp2
          all_goals first
            | (exfalso; omega)
            | exact ⟨⟨k + 1, y + 1, by go_num, by omega, rfl, by omega, by omega, HNE, HQ4.out, hlt4, HB4.out⟩, by simp [intOf]; omega⟩
        · obtain ⟨q0, q1, q2, q3, q4, q5, q6, q7, q8, q9, q10, q11, q12, q13⟩ := HQ4.out
          go_wp2_with fail
          all_goals first
            | (exfalso; omega)
            | skip
          refine (start_any c y _ hn).mono ?_
          rintro e w5 ⟨rfl, hb5⟩
          clear q0 q1 q2 q3 q4 q5 q6 q7 q8 q9 q10 q11 q12 q13
          have HQ5 := hide (calAt_below hb5 hlt4 HQ4.out)
          have HB5 := hide (HB4.out.trans (hb5.mono (Nat.le_of_lt hlt4)))
          have hlt5 : w.heap.size < w5.heap.size := Nat.lt_of_lt_of_le hlt4 hb5.size
          clear hb5
          have hsb := start_b c y
          have HNE := hide (show (¬ (askE c y 1601 = 0 ∧ startV c y ≤ day)) → ∀ yt, yrOk c day yt → y - 1 - 2 ≤ yt ∧ yt ≤ y - 1 + 2 from fun hno yt h => by
            have h1 := HZ.out yt h
            have h3 : yt < y := by
              rcases Int.lt_trichotomy yt y with h4 | h4 | h4
              · exact h4
              · subst h4; exact absurd ⟨h.1, h.2.1⟩ hno
              · have := end_lt_start c HOK.out (by omega) h4 (ask_ok h.1).2.2
                have := h.2.1
                omega
            omega)
          by_cases hS : askE c y 1601 = 0
          · by_cases hst : startV c y ≤ day
            · have hf := found_yes HD.out (show yrOk c day y from ⟨hS, hst, by omega⟩)
              have HF1 := hide hf.1
              have HF2 := hide hf.2.1
              have HF3 := hide hf.2.2
              rw [hS]
              clear hf hS HNE
              go_wp2
              all_goals first
                | (exfalso; omega)
                | (go_ret3; exact ⟨by (rw [HF1.out, HF2.out, HF3.out]) <;> rfl, HB5.out⟩)
            · have HNE2 := hide (HNE.out (fun h => hst h.2))
              rw [hS]
              clear hS HNE
              go_wp2
              all_goals first
                | (exfalso; omega)
                | exact ⟨⟨k + 1, y - 1, by go_num, by omega, rfl, by omega, by omega, HNE2, HQ5.out, hlt5, HB5.out⟩, by simp [intOf]; omega⟩
          · have HNE2 := hide (HNE.out (fun h => hS h.1))
            have hS' : (askE c y 1601 == 0) = false := by simpa using hS
            clear hS HNE
            go_wp2
            all_goals first
              | (exfalso; omega)
              | exact ⟨⟨k + 1, y - 1, by go_num, by omega, rfl, by omega, by omega, HNE2, HQ5.out, hlt5, HB5.out⟩, by simp [intOf]; omega⟩
      · have hA' : (askE c y 1600 != 0) = true := by simpa using hA
        clear hA
        obtain ⟨q0, q1, q2, q3, q4, q5, q6, q7, q8, q9, q10, q11, q12, q13⟩ := HQ4.out
        go_wp2_with fail
        all_goals first
          | (exfalso; omega)
          | skip
        refine (beside_any c day y _ hn HOK.out HD.out (by omega) HZ.out).mono ?_
        rintro e w5 ⟨rfl, hb5⟩
        clear q0 q1 q2 q3 q4 q5 q6 q7 q8 q9 q10 q11 q12 q13
        go_wp2
        go_ret3
        exact ⟨rfl, HB4.out.trans (hb5.mono (Nat.le_of_lt hlt4))⟩
    · go_wp2_with fail
      all_goals first
        | (exfalso; omega)
        | skip
      refine (beside_any c day y _ hn HOK.out HD.out (by omega) HZ.out).mono ?_
      rintro e w5 ⟨rfl, hb5⟩
      clear q0 q1 q2 q3 q4 q5 q6 q7 q8 q9 q10 q11 q12 q13
      go_wp2
      go_ret3
      exact ⟨rfl, HB3.out.trans (hb5.mono (Nat.le_of_lt hlt))⟩

theorem found_any (c : Cal) (day : Int) (w : World) (hn : c.name.size ≤ 1000) :
    Calls Tryz.prog 110 #[calV c, .int .i64 day] w fun e w' => e = .returned (.tuple #[.int .i64 (foundY c day), .int .i64 (foundN c day), .int .i64 (foundE c day)]) ∧ Below w.heap.size w w' := by
  cases hk : c.okB
  · exact found_bad c day w hn hk
  · cases hd : isB day
    · exact found_off c day w hn hk hd
    · exact found_in c day w hn hk hd

set_option maxHeartbeats 800000 in
theorem yof_any (c : Cal) (day : Int) (w : World) (hn : c.name.size ≤ 1000) :
    Calls Tryz.prog 92 #[calV c, .int .i64 day] w fun e w' => e = .returned (.tuple #[.int .i64 (foundY c day), .int .i64 (foundE c day)]) ∧ Below w.heap.size w w' := by
  simp only [calV]
  go_enter Tryz.func92, Tryz.ntmps92
  go_wp2_with fail
  refine (found_any c day _ hn).mono ?_
  rintro e w1 ⟨rfl, hb1⟩
  go_wp2
  go_ret2
  exact ⟨rfl, Below.trans ((Below.refl _ _).alloc (Nat.le_refl _) _) (hb1.mono (by simp))⟩
end Go.Proofs.YtjhhmeoibfdcmaaGreatDoor

namespace Go.Proofs.YtjhhmeoibfdcmaaGreatDoor
open Go.RowKit Qd
set_option linter.unusedSimpArgs false
set_option linter.unusedVariables false

def bndV (c : Cal) : Sp := if c.okB then ⟨startV c c.first, endV c c.last⟩ else ⟨0, 0⟩
theorem ok_years {c : Cal} (h : c.okB = true) : askE c c.first 1601 = 0 ∧ askE c c.last 1601 = 0 ∧ 1602 ≤ c.first ∧ c.last ≤ 9996 ∧ c.first ≤ c.last := by
  have hok : c.Ok := by simpa [Cal.okB] using h
  have hs := hok.1
  unfold Cal.served at hs
  exact ⟨ask_2 hok (by omega) (by omega), ask_2 hok (by omega) (by omega), by omega, by omega, by omega⟩

set_option maxRecDepth 100000 in
set_option maxHeartbeats 1600000 in
theorem bounds_bad (c : Cal) (w : World) (hn : c.name.size ≤ 1000) (hk : c.okB = false) :
    Calls Tryz.prog 91 #[calV c] w fun e w' => e = .returned (.tuple #[.agg #[.int .i64 0, .int .i64 0], .int .i64 1]) ∧ Below w.heap.size w w' := by
  have HE := hide (show askE c c.first 1601 = 1 by simp [askE, hk])
  clear hk
  simp only [calV]
  go_enter Tryz.func91, Tryz.ntmps91
  go_wp2_with fail
  refine (start_any c c.first _ hn).mono ?_
  rintro e w1 ⟨rfl, hb1⟩
  rw [HE.out]
  have r0 : w1.cell? ⟨w.heap.size + 1, 0, none⟩ = some (.int .i64 0) := by rw [hb1.cell (p := ⟨w.heap.size + 1, 0, none⟩) (by simp)]; simp
  have r1 : w1.cell? ⟨w.heap.size + 1, 1, none⟩ = some (.int .i64 0) := by rw [hb1.cell (p := ⟨w.heap.size + 1, 1, none⟩) (by simp)]; simp
  have f0 : w1.frozen? ⟨w.heap.size + 1, 0, none⟩ = false := by rw [hb1.frozen (p := ⟨w.heap.size + 1, 0, none⟩) (by simp)]; simp
  have f1 : w1.frozen? ⟨w.heap.size + 1, 1, none⟩ = false := by rw [hb1.frozen (p := ⟨w.heap.size + 1, 1, none⟩) (by simp)]; simp
  have hsz : w.heap.size + 1 < w1.heap.size := by have := hb1.size; simp at this; omega
  have HW := hide (show Below w.heap.size w w1 by (repeat' exact bel))
  clear hb1
  go_wp2
  have hWo := HW.out
  exact bodyPost_ret (v := .tuple #[.agg #[.int .i64 0, .int .i64 0], .int .i64 1]) (by simp (maxDischargeDepth := 9) [results, Tryz.results91, go_sem, r0, r1, f0, f1, hsz]) rfl ⟨rfl, by (repeat' exact bel)⟩

set_option maxRecDepth 100000 in
set_option maxHeartbeats 1600000 in
theorem bounds_ok (c : Cal) (w : World) (hn : c.name.size ≤ 1000) (hk : c.okB = true) :
    Calls Tryz.prog 91 #[calV c] w fun e w' => e = .returned (.tuple #[.agg #[.int .i64 (startV c c.first), .int .i64 (endV c c.last)], .int .i64 0]) ∧ Below w.heap.size w w' := by
  obtain ⟨hA, hB, _, _, _⟩ := ok_years hk
  have HA := hide hA
  have HA2 := hide (ask_mono hB)
  clear hk hA hB
  simp only [calV]
  go_enter Tryz.func91, Tryz.ntmps91
  go_wp2_with fail
  refine (start_any c c.first _ hn).mono ?_
  rintro e w1 ⟨rfl, hb1⟩
  rw [HA.out]
  have r0 : w1.cell? ⟨w.heap.size + 1, 0, none⟩ = some (.int .i64 0) := by rw [hb1.cell (p := ⟨w.heap.size + 1, 0, none⟩) (by simp)]; simp
  have r1 : w1.cell? ⟨w.heap.size + 1, 1, none⟩ = some (.int .i64 0) := by rw [hb1.cell (p := ⟨w.heap.size + 1, 1, none⟩) (by simp)]; simp
  have f0 : w1.frozen? ⟨w.heap.size + 1, 0, none⟩ = false := by rw [hb1.frozen (p := ⟨w.heap.size + 1, 0, none⟩) (by simp)]; simp
  have f1 : w1.frozen? ⟨w.heap.size + 1, 1, none⟩ = false := by rw [hb1.frozen (p := ⟨w.heap.size + 1, 1, none⟩) (by simp)]; simp
  have hz1 : w.heap.size + 1 < w1.heap.size := by have := hb1.size; simp at this; omega
  have hz0 : w.heap.size < w1.heap.size := by omega
  have HB1 := hide (show Below w.heap.size w w1 by (repeat' exact bel))
  have HQ1 := hide (calAt_below hb1 (by simp; omega) (calAt_alloc (calAt_new w c) (by simp) _))
  obtain ⟨q0, q1, q2, q3, q4, q5, q6, q7, q8, q9, q10, q11, q12, q13⟩ := HQ1.out
  clear hb1
  go_wp2_with fail
  refine (end_any c c.last _ hn).mono ?_
  rintro e w2 ⟨rfl, hb2⟩
  rw [HA2.out]
  clear q0 q1 q2 q3 q4 q5 q6 q7 q8 q9 q10 q11 q12 q13
  have s0 : w2.cell? ⟨w.heap.size + 1, 0, none⟩ = some (.int .i64 0) := by rw [hb2.cell (p := ⟨w.heap.size + 1, 0, none⟩) hz1]; exact r0
  have s1 : w2.cell? ⟨w.heap.size + 1, 1, none⟩ = some (.int .i64 0) := by rw [hb2.cell (p := ⟨w.heap.size + 1, 1, none⟩) hz1]; exact r1
  have k0 : w2.frozen? ⟨w.heap.size + 1, 0, none⟩ = false := by rw [hb2.frozen (p := ⟨w.heap.size + 1, 0, none⟩) hz1]; exact f0
  have k1 : w2.frozen? ⟨w.heap.size + 1, 1, none⟩ = false := by rw [hb2.frozen (p := ⟨w.heap.size + 1, 1, none⟩) hz1]; exact f1
  have hsz : w.heap.size + 1 < w2.heap.size := Nat.lt_of_lt_of_le hz1 hb2.size
  have HB2 := hide (HB1.out.trans (hb2.mono (by omega)) : Below w.heap.size w w2)
  clear hb2 r0 r1 f0 f1
  go_wp2
  have hWo := HB2.out
  exact bodyPost_ret (v := .tuple #[.agg #[.int .i64 (startV c c.first), .int .i64 (endV c c.last)], .int .i64 0]) (by simp (maxDischargeDepth := 9) [results, Tryz.results91, go_sem, s0, s1, k0, k1, hsz]) rfl ⟨rfl, by (repeat' exact bel)⟩

/-- Why a day is not served. -/
noncomputable def servE (c : Cal) (day : Int) : Int := if c.okB = false then 1 else if foundE c day ≠ 0 then foundE c day else if startV c c.first ≤ day ∧ day ≤ endV c c.last then 0 else 11
noncomputable def servY (c : Cal) (day : Int) : Int := if servE c day = 0 then foundY c day else 0
theorem found_zero {c : Cal} {day : Int} (h : foundE c day ≠ 0) : foundY c day = 0 := by
  cases hk : c.okB
  · exact (found_not_ok hk).1
  · cases hd : isB day
    · exact (found_no_day hd).1
    · by_cases hy : ∃ y, yrOk c day y
      · obtain ⟨y, hy⟩ := hy
        exact absurd (found_yes hd hy).2.2 h
      · exact (found_none hy).1
/-- A served day lies in a served year. -/
theorem serv_ok {c : Cal} {day : Int} (h : servE c day = 0) : c.okB = true ∧ isB day = true ∧ yrOk c day (servY c day) ∧ c.first ≤ servY c day ∧ servY c day ≤ c.last := by
  have hY : servY c day = foundY c day := by rw [servY, if_pos h]
  unfold servE at h
  split at h
  · omega
  · rename_i hk
    split at h
    · rename_i hf; exact absurd h hf
    · rename_i hf
      split at h
      · rename_i hb
        have hf0 : foundE c day = 0 := by omega
        obtain ⟨hok, hd, hyr⟩ := found_ok hf0
        have hk2 : c.okB = true := by simpa using hk
        obtain ⟨hA, hB, b1, b2, b3⟩ := ok_years hk2
        rw [hY]
        refine ⟨hk2, hd, hyr, ?_, ?_⟩
        · rcases Int.lt_or_le (foundY c day) c.first with h5 | h5
          · have := end_lt_start c hok (by have := (ask_ok hyr.1).2.1; omega) h5 (by omega)
            have := hyr.2.2
            omega
          · exact h5
        · rcases Int.lt_or_le c.last (foundY c day) with h5 | h5
          · have := end_lt_start c hok (by omega) h5 (ask_ok hyr.1).2.2
            have := hyr.2.1
            omega
          · exact h5
      · omega
theorem serv_yes {c : Cal} {day y : Int} (hk : c.okB = true) (hyr : yrOk c day y) (h1 : c.first ≤ y) (h2 : y ≤ c.last) : servE c day = 0 ∧ servY c day = y := by
  have hok : c.Ok := by simpa [Cal.okB] using hk
  obtain ⟨hA, hB, b1, b2, b3⟩ := ok_years hk
  have hd : isB day = true := by
    have := year_bd c y hyr.1
    have h3 := hyr.2
    have : endV c y < 3068037 := by
      obtain ⟨z, hz⟩ : ∃ z, z = y + 1 := ⟨_, rfl⟩
      have hz1 : askE c z 1601 = 0 := ask_2 hok (by omega) (by omega)
      have := year_bd c z hz1
      have h5 := start_next c y (by rw [← hz]; exact hz1)
      rw [← hz] at h5
      have : daysV c z = endV c z - startV c z + 1 := by simp [daysV, hz1]
      omega
    simp [isB]
    omega
  obtain ⟨f1, f2, f3⟩ := found_yes hd hyr
  have s1 := start_le c hok (by omega) h1 (by omega)
  have s2 := end_le c hok (by omega) h2 (by omega)
  have e : servE c day = 0 := by
    unfold servE
    rw [if_neg (by simp [hk]), if_neg (by omega), if_pos ⟨by have := hyr.2.1; omega, by have := hyr.2.2; omega⟩]
  exact ⟨e, by rw [servY, if_pos e, f1]⟩

set_option maxRecDepth 100000 in
set_option maxHeartbeats 1600000 in
theorem served_bad (c : Cal) (day : Int) (w : World) (hn : c.name.size ≤ 1000) (hk : c.okB = false) :
    Calls Tryz.prog 65 #[calV c, .int .i64 day] w fun e w' => e = .returned (.tuple #[.int .i64 (servY c day), .int .i64 (servE c day)]) ∧ Below w.heap.size w w' := by
  have H2 := hide (show servE c day = 1 by simp [servE, hk])
  have H1 := hide (show servY c day = 0 by rw [servY, if_neg (by rw [H2.out]; omega)])
  have HK := hide hk
  clear hk
  simp only [calV]
  go_enter Tryz.func65, Tryz.ntmps65
  go_wp2_with fail
  refine (bounds_bad c _ hn HK.out).mono ?_
  rintro e w1 ⟨rfl, hb1⟩
  have hz1 : w.heap.size < w1.heap.size := by have := hb1.size; simp at this; omega
  have HB1 := hide (show Below w.heap.size w w1 by refine Below.trans ?_ (hb1.mono (by simp)); (repeat' exact bel))
  clear hb1
  go_wp2
  have := HB1.out
  go_ret2
  exact ⟨ret_int2 H1.out.symm H2.out.symm, by (repeat' exact bel)⟩

set_option maxRecDepth 100000 in
set_option maxHeartbeats 1600000 in
theorem served_ok (c : Cal) (day : Int) (w : World) (hn : c.name.size ≤ 1000) (hk : c.okB = true) :
    Calls Tryz.prog 65 #[calV c, .int .i64 day] w fun e w' => e = .returned (.tuple #[.int .i64 (servY c day), .int .i64 (servE c day)]) ∧ Below w.heap.size w w' := by
  have HK := hide hk
  have HZ := hide (fun h => found_zero (c := c) (day := day) h)
  simp only [calV]
  go_enter Tryz.func65, Tryz.ntmps65
  go_wp2_with fail
  refine (bounds_ok c _ hn HK.out).mono ?_
  rintro e w1 ⟨rfl, hb1⟩
  have hz1 : w.heap.size < w1.heap.size := by have := hb1.size; simp at this; omega
  have HB1 := hide (show Below w.heap.size w w1 by refine Below.trans ?_ (hb1.mono (by simp)); (repeat' exact bel))
  have HQ1 := hide (calAt_below hb1 (by simp) (calAt_new w c))
  obtain ⟨q0, q1, q2, q3, q4, q5, q6, q7, q8, q9, q10, q11, q12, q13⟩ := HQ1.out
  clear hb1
  go_wp2_with fail
  refine (yof_any c day _ hn).mono ?_
  rintro e w2 ⟨rfl, hb2⟩
  have s0 : w2.cell? ⟨w1.heap.size, 0, none⟩ = some (.int .i64 (startV c c.first)) := by rw [hb2.cell (p := ⟨w1.heap.size, 0, none⟩) (by simp)]; simp
  have s1 : w2.cell? ⟨w1.heap.size, 1, none⟩ = some (.int .i64 (endV c c.last)) := by rw [hb2.cell (p := ⟨w1.heap.size, 1, none⟩) (by simp)]; simp
  have HB2 := hide (show Below w.heap.size w w2 by have hp := HB1.out; refine Below.trans ?_ (hb2.mono (by simp; omega)); (repeat' exact bel))
  clear q0 q1 q2 q3 q4 q5 q6 q7 q8 q9 q10 q11 q12 q13
  clear hb2
  by_cases hf : foundE c day = 0
  · have H3 := hide hf
    rw [hf]
    by_cases hin : startV c c.first ≤ day ∧ day ≤ endV c c.last
    · have H2 := hide (show servE c day = 0 by unfold servE; rw [if_neg (by simp [HK.out]), if_neg (by rw [hf]; simp), if_pos hin])
      have H1 := hide (show servY c day = foundY c day by rw [servY, if_pos H2.out])
      obtain ⟨hin1, hin2⟩ := hin
      clear hf
      go_wp2
      all_goals first
        | (exfalso; omega)
        | (go_ret2; exact ⟨ret_int2 H1.out.symm H2.out.symm, HB2.out⟩)
    · have H2 := hide (show servE c day = 11 by unfold servE; rw [if_neg (by simp [HK.out]), if_neg (by rw [hf]; simp), if_neg hin])
      have H1 := hide (show servY c day = 0 by rw [servY, if_neg (by rw [H2.out]; omega)])
      clear hf
      rcases (show day < startV c c.first ∨ (startV c c.first ≤ day ∧ endV c c.last < day) by omega) with hd | ⟨hd1, hd2⟩
      · go_wp2
        all_goals first
          | (exfalso; omega)
          | (go_ret2; exact ⟨ret_int2 H1.out.symm H2.out.symm, HB2.out⟩)
      · go_wp2
        all_goals first
          | (exfalso; omega)
          | (go_ret2; exact ⟨ret_int2 H1.out.symm H2.out.symm, HB2.out⟩)
  · have H2 := hide (show servE c day = foundE c day by unfold servE; rw [if_neg (by simp [HK.out]), if_pos hf])
    have H1 := hide (show servY c day = foundY c day by rw [servY, if_neg (by rw [H2.out]; exact hf), HZ.out hf])
    have hf' : (foundE c day == 0) = false := by simpa using hf
    clear hf
    go_wp2
    all_goals first
      | (exfalso; omega)
      | (go_ret2; exact ⟨ret_int2 H1.out.symm H2.out.symm, HB2.out⟩)

theorem served_any (c : Cal) (day : Int) (w : World) (hn : c.name.size ≤ 1000) :
    Calls Tryz.prog 65 #[calV c, .int .i64 day] w fun e w' => e = .returned (.tuple #[.int .i64 (servY c day), .int .i64 (servE c day)]) ∧ Below w.heap.size w w' := by
  cases hk : c.okB
  · exact served_bad c day w hn hk
  · exact served_ok c day w hn hk

/-- In which week, counted from 0, a day of the year lies. -/
def wkN (c : Cal) (y d : Int) : Nat := bsL ((spL c y).map Prod.snd) d
theorem spL_snd (c : Cal) (y : Int) (hE : askE c y 1601 = 0) (i : Nat) (hi : i < nWk c y) : ((spL c y).map Prod.snd)[i]?.getD 0 = dayW c y (i + 1) - 1 := by
  rw [snd_get _ i (by rw [spL_len]; exact hi), (dayW_get c y hE i hi).1]
  rfl
theorem wk_eq (c : Cal) (y d : Int) (hE : askE c y 1601 = 0) (i : Nat) (hi : i < nWk c y) (h1 : dayW c y i ≤ d) (h2 : d < dayW c y (i + 1)) : wkN c y d = i := by
  refine bsL_eq _ _ i (by rw [List.length_map, spL_len]; omega) (fun j hj => ?_) (fun _ => ?_)
  · rw [spL_snd c y hE j (by omega)]
    have := dayW_le c y hE (show j + 1 ≤ i by omega) (by omega)
    omega
  · rw [spL_snd c y hE i hi]
    omega
theorem wk_find (c : Cal) (y d : Int) (hE : askE c y 1601 = 0) (h1 : startV c y ≤ d) (h2 : d ≤ endV c y) : ∃ i, i < nWk c y ∧ dayW c y i ≤ d ∧ d < dayW c y (i + 1) := by
  have key : ∀ m, m ≤ nWk c y → d < dayW c y m → ∃ i, i < nWk c y ∧ dayW c y i ≤ d ∧ d < dayW c y (i + 1) := by
    intro m
    induction m with
    | zero => intro _ h; rw [dayW_0] at h; omega
    | succ m ih =>
      intro hm h
      rcases Int.lt_or_le d (dayW c y m) with h3 | h3
      · exact ih (by omega) h3
      · exact ⟨m, by omega, h3, h⟩
  exact key _ (Nat.le_refl _) (by rw [dayW_end c y hE]; omega)
theorem wk_ok (c : Cal) (y d : Int) (hE : askE c y 1601 = 0) (h1 : startV c y ≤ d) (h2 : d ≤ endV c y) : wkN c y d < nWk c y ∧ dayW c y (wkN c y d) ≤ d ∧ d < dayW c y (wkN c y d + 1) := by
  obtain ⟨i, hi, ha, hb⟩ := wk_find c y d hE h1 h2
  rw [wk_eq c y d hE i hi ha hb]
  exact ⟨hi, ha, hb⟩

/-- Why a day's unit is not told, and which it is. -/
noncomputable def fdE (c : Cal) (d lv : Int) : Int := if c.okB = true ∧ 1 ≤ lv ∧ lv ≤ 5 then servE c d else 1
noncomputable def fdU (c : Cal) (d lv : Int) : Un := if fdE c d lv = 0 then ⟨lv, servY c d, (ixN c (servY c d) lv (wkN c (servY c d) d) : Int) + 1⟩ else ⟨0, 0, 0⟩
theorem fd_ok {c : Cal} {d lv : Int} (h : fdE c d lv = 0) : c.okB = true ∧ 1 ≤ lv ∧ lv ≤ 5 ∧ servE c d = 0 ∧ isB d = true ∧ yrOk c d (servY c d) ∧ frameE c lv (servY c d) = 0 := by
  unfold fdE at h
  split at h
  · rename_i hk
    obtain ⟨a1, a2, a3, a4, a5⟩ := serv_ok h
    exact ⟨hk.1, hk.2.1, hk.2.2, h, a2, a3, frame_is (ask_ok a3.1).1 hk.2.1 hk.2.2 a4 a5⟩
  · omega
/-- The unit that is told has the day. -/
theorem fd_in {c : Cal} {d lv : Int} (h : fdE c d lv = 0) : ∃ i : Nat, fdU c d lv = ⟨lv, servY c d, (i : Int) + 1⟩ ∧ i < cntL c (servY c d) lv ∧ dayW c (servY c d) (cutN c (servY c d) lv i) ≤ d ∧ d < dayW c (servY c d) (cutN c (servY c d) lv (i + 1)) := by
  obtain ⟨hk, h1, h5, hs, hd, hy, hf⟩ := fd_ok h
  obtain ⟨w1, w2, w3⟩ := wk_ok c (servY c d) d hy.1 hy.2.1 hy.2.2
  obtain ⟨e1, e2, e3⟩ := ix_ok c (servY c d) hy.1 lv h1 h5 _ w1
  refine ⟨_, by rw [fdU, if_pos h], e1, ?_, ?_⟩
  · have := dayW_le c _ hy.1 e2 (by omega); omega
  · have := dayW_le c _ hy.1 (show wkN c (servY c d) d + 1 ≤ cutN c (servY c d) lv (ixN c (servY c d) lv (wkN c (servY c d) d) + 1) from e3) (cut_le_nWk c _ hy.1 lv h1 h5 _ e1); omega
/-- A day of a unit is told to lie in it. -/
theorem fd_of {c : Cal} {lv y d : Int} (hf : frameE c lv y = 0) (i : Nat) (hi : i < cntL c y lv) (h1 : dayW c y (cutN c y lv i) ≤ d) (h2 : d < dayW c y (cutN c y lv (i + 1))) :
    fdE c d lv = 0 ∧ servE c d = 0 ∧ servY c d = y ∧ fdU c d lv = ⟨lv, y, (i : Int) + 1⟩ := by
  obtain ⟨hok, hk, l1, l5, hy1, hy2, hA⟩ := frame_ok hf
  have hc := cut_le_nWk c y hA lv l1 l5 (i + 1) hi
  have hlt := cut_lt c y hA lv l1 l5 i hi
  have b1 := dayW_le c y hA (Nat.zero_le (cutN c y lv i)) (by omega)
  have b2 := dayW_le c y hA hc (Nat.le_refl _)
  rw [dayW_0] at b1
  rw [dayW_end c y hA] at b2
  have hyr : yrOk c d y := ⟨hA, by omega, by omega⟩
  obtain ⟨s1, s2⟩ := serv_yes hk hyr hy1 hy2
  have e : fdE c d lv = 0 := by unfold fdE; rw [if_pos ⟨hk, l1, l5⟩]; exact s1
  refine ⟨e, s1, s2, ?_⟩
  rw [fdU, if_pos e, s2]
  obtain ⟨w1, w2, w3⟩ := wk_ok c y d hA hyr.2.1 hyr.2.2
  have hge : cutN c y lv i ≤ wkN c y d := by
    rcases Nat.lt_or_ge (wkN c y d) (cutN c y lv i) with h | h
    · have := dayW_le c y hA (show wkN c y d + 1 ≤ cutN c y lv i from h) (by omega); omega
    · exact h
  have hlt2 : wkN c y d < cutN c y lv (i + 1) := by
    rcases Nat.lt_or_ge (wkN c y d) (cutN c y lv (i + 1)) with h | h
    · exact h
    · have := dayW_le c y hA h (by omega); omega
  rw [ix_eq c y hA lv l1 l5 _ i hi hge hlt2]

set_option maxRecDepth 100000 in
set_option maxHeartbeats 1600000 in
theorem levelled_any (lv : Int) (w : World) : Calls Tryz.prog 46 #[.int .i64 lv] w fun e w' => e = .returned (.bool (decide (1 ≤ lv ∧ lv ≤ 5))) ∧ w = w' := by
  go_enter Tryz.func46, Tryz.ntmps46
  go_wp2
  all_goals (go_ret; refine ⟨ret_bool ?_, rfl⟩; simp; try omega)

set_option maxRecDepth 100000 in
set_option maxHeartbeats 1600000 in
theorem fweek_any (c : Cal) (y d : Int) (w : World) (cap g1 g2 : Nat) (hE : askE c y 1601 = 0) (hS : SpansAt w g1 (spL c y)) (hd : -100000000 ≤ d ∧ d ≤ 100000000) :
    Calls Tryz.prog 67 #[yearV y (nWk c y) cap g1 (nPer c y) g2, .int .i64 d] w fun e w' => e = .returned (.int .i64 ((wkN c y d : Int) + 1)) ∧ Below w.heap.size w w' := by
  have hnb := nWk_bd c y hE
  have hyb := year_bd c y hE
  have hle : bsL ((spL c y).map Prod.snd) d ≤ 100 := by
    have := bsL_le ((spL c y).map Prod.snd) d
    rw [List.length_map, spL_len] at this
    omega
  have hval : ∀ i, i < (spL c y).length → -100000000 ≤ ((spL c y)[i]?.getD (0, 0)).2 ∧ ((spL c y)[i]?.getD (0, 0)).2 ≤ 100000000 := by
    intro i hi
    rw [spL_len] at hi
    rw [(dayW_get c y hE i hi).1]
    have b1 := dayW_le c y hE (Nat.zero_le (i + 1)) hi
    have b2 := dayW_le c y hE (show i + 1 ≤ nWk c y from hi) (Nat.le_refl _)
    rw [dayW_0] at b1
    rw [dayW_end c y hE] at b2
    simp only [Option.getD_some]
    omega
  have hsort : ∀ i j, i ≤ j → j < (spL c y).length → ((spL c y)[i]?.getD (0, 0)).2 ≤ ((spL c y)[j]?.getD (0, 0)).2 := by
    intro i j hij hj
    rw [spL_len] at hj
    rw [(dayW_get c y hE i (by omega)).1, (dayW_get c y hE j hj).1]
    have := dayW_le c y hE (show i + 1 ≤ j + 1 by omega) (by omega)
    simp only [Option.getD_some]
    omega
  have HL := hide (spL_len c y)
  have HX := hide (show bsL ((spL c y).map Prod.snd) d = wkN c y d from rfl)
  have HS := hide hS
  have hl := HL.out
  clear hS
  simp only [yearV]
  go_enter Tryz.func67, Tryz.ntmps67
  go_wp2_with fail
  rw [← HL.out]
  refine (bsearch2_any g1 cap (spL c y) d _ (by omega) (HS.out.alloc _) hd hval hsort).mono ?_
  rintro e w1 ⟨b, rfl, hb1⟩
  rw [HX.out]
  have HW := hide (show Below w.heap.size w w1 by (repeat' exact bel))
  clear hb1 hval hsort
  have hle2 : wkN c y d ≤ 100 := by rw [← HX.out]; exact hle
  go_wp2
  go_ret
  exact ⟨rfl, HW.out⟩

set_option maxRecDepth 100000 in
set_option maxHeartbeats 1600000 in
theorem fday_cal (c : Cal) (d lv : Int) (w : World) (hn : c.name.size ≤ 1000) (hk : c.okB = false) :
    Calls Tryz.prog 47 #[calV c, .int .i64 d, .int .i64 lv] w fun e w' => e = .returned (.tuple #[.agg #[.int .i64 0, .int .i64 0, .int .i64 0], .int .i64 1]) ∧ Below w.heap.size w w' := by
  have HO := hide (show okE c = 1 by simp [okE, hk])
  clear hk
  simp only [calV]
  go_enter Tryz.func47, Tryz.ntmps47
  go_wp2_with fail
  refine (check_any c _ hn).mono ?_
  rintro e w1 ⟨rfl, hb1⟩
  rw [HO.out]
  have r0 : w1.cell? ⟨w.heap.size + 1, 0, none⟩ = some (.int .i64 0) := by rw [hb1.cell (p := ⟨w.heap.size + 1, 0, none⟩) (by simp; try omega)]; simp [World.cell?_alloc_at, World.cell?_alloc_past, World.frozen?_alloc_at, World.frozen?_alloc_past]
  have f0 : w1.frozen? ⟨w.heap.size + 1, 0, none⟩ = false := by rw [hb1.frozen (p := ⟨w.heap.size + 1, 0, none⟩) (by simp; try omega)]; simp [World.cell?_alloc_at, World.cell?_alloc_past, World.frozen?_alloc_at, World.frozen?_alloc_past]
  have r1 : w1.cell? ⟨w.heap.size + 1, 1, none⟩ = some (.int .i64 0) := by rw [hb1.cell (p := ⟨w.heap.size + 1, 1, none⟩) (by simp; try omega)]; simp [World.cell?_alloc_at, World.cell?_alloc_past, World.frozen?_alloc_at, World.frozen?_alloc_past]
  have f1 : w1.frozen? ⟨w.heap.size + 1, 1, none⟩ = false := by rw [hb1.frozen (p := ⟨w.heap.size + 1, 1, none⟩) (by simp; try omega)]; simp [World.cell?_alloc_at, World.cell?_alloc_past, World.frozen?_alloc_at, World.frozen?_alloc_past]
  have r2 : w1.cell? ⟨w.heap.size + 1, 2, none⟩ = some (.int .i64 0) := by rw [hb1.cell (p := ⟨w.heap.size + 1, 2, none⟩) (by simp; try omega)]; simp [World.cell?_alloc_at, World.cell?_alloc_past, World.frozen?_alloc_at, World.frozen?_alloc_past]
  have f2 : w1.frozen? ⟨w.heap.size + 1, 2, none⟩ = false := by rw [hb1.frozen (p := ⟨w.heap.size + 1, 2, none⟩) (by simp; try omega)]; simp [World.cell?_alloc_at, World.cell?_alloc_past, World.frozen?_alloc_at, World.frozen?_alloc_past]
  have hsz : w.heap.size + 1 < w1.heap.size := by have := hb1.size; simp at this; omega
  have hBel := (show Below w.heap.size w w1 by (repeat' exact bel))
  clear hb1
  go_wp2
  exact bodyPost_ret (v := .tuple #[.agg #[.int .i64 0, .int .i64 0, .int .i64 0], .int .i64 1]) (by simp (maxDischargeDepth := 9) [results, Tryz.results47, go_sem, r0, r1, r2, f0, f1, f2, hsz]) rfl ⟨rfl, by (repeat' exact bel)⟩

set_option maxRecDepth 100000 in
set_option maxHeartbeats 1600000 in
theorem fday_lv (c : Cal) (d lv : Int) (w : World) (hn : c.name.size ≤ 1000) (hk : c.okB = true) (hl : ¬ (1 ≤ lv ∧ lv ≤ 5)) :
    Calls Tryz.prog 47 #[calV c, .int .i64 d, .int .i64 lv] w fun e w' => e = .returned (.tuple #[.agg #[.int .i64 0, .int .i64 0, .int .i64 0], .int .i64 1]) ∧ Below w.heap.size w w' := by
  have HO := hide (show okE c = 0 by simp [okE, hk])
  have hlb : decide (1 ≤ lv ∧ lv ≤ 5) = false := by simpa using hl
  clear hk hl
  simp only [calV]
  go_enter Tryz.func47, Tryz.ntmps47
  go_wp2_with fail
  refine (check_any c _ hn).mono ?_
  rintro e w1 ⟨rfl, hb1⟩
  rw [HO.out]
  have r0 : w1.cell? ⟨w.heap.size + 1, 0, none⟩ = some (.int .i64 0) := by rw [hb1.cell (p := ⟨w.heap.size + 1, 0, none⟩) (by simp; try omega)]; simp [World.cell?_alloc_at, World.cell?_alloc_past, World.frozen?_alloc_at, World.frozen?_alloc_past]
  have f0 : w1.frozen? ⟨w.heap.size + 1, 0, none⟩ = false := by rw [hb1.frozen (p := ⟨w.heap.size + 1, 0, none⟩) (by simp; try omega)]; simp [World.cell?_alloc_at, World.cell?_alloc_past, World.frozen?_alloc_at, World.frozen?_alloc_past]
  have r1 : w1.cell? ⟨w.heap.size + 1, 1, none⟩ = some (.int .i64 0) := by rw [hb1.cell (p := ⟨w.heap.size + 1, 1, none⟩) (by simp; try omega)]; simp [World.cell?_alloc_at, World.cell?_alloc_past, World.frozen?_alloc_at, World.frozen?_alloc_past]
  have f1 : w1.frozen? ⟨w.heap.size + 1, 1, none⟩ = false := by rw [hb1.frozen (p := ⟨w.heap.size + 1, 1, none⟩) (by simp; try omega)]; simp [World.cell?_alloc_at, World.cell?_alloc_past, World.frozen?_alloc_at, World.frozen?_alloc_past]
  have r2 : w1.cell? ⟨w.heap.size + 1, 2, none⟩ = some (.int .i64 0) := by rw [hb1.cell (p := ⟨w.heap.size + 1, 2, none⟩) (by simp; try omega)]; simp [World.cell?_alloc_at, World.cell?_alloc_past, World.frozen?_alloc_at, World.frozen?_alloc_past]
  have f2 : w1.frozen? ⟨w.heap.size + 1, 2, none⟩ = false := by rw [hb1.frozen (p := ⟨w.heap.size + 1, 2, none⟩) (by simp; try omega)]; simp [World.cell?_alloc_at, World.cell?_alloc_past, World.frozen?_alloc_at, World.frozen?_alloc_past]
  have hsz : w.heap.size + 1 < w1.heap.size := by have := hb1.size; simp at this; omega
  have hBel := (show Below w.heap.size w w1 by (repeat' exact bel))
  clear hb1
  go_wp2_with (go_at_call 46; refine (levelled_any _ _).mono ?_; rintro e w' ⟨rfl, rfl⟩; rw [hlb])
  exact bodyPost_ret (v := .tuple #[.agg #[.int .i64 0, .int .i64 0, .int .i64 0], .int .i64 1]) (by simp (maxDischargeDepth := 9) [results, Tryz.results47, go_sem, r0, r1, r2, f0, f1, f2, hsz]) rfl ⟨rfl, by (repeat' exact bel)⟩

set_option maxRecDepth 100000 in
set_option maxHeartbeats 1600000 in
theorem fday_day (c : Cal) (d lv : Int) (w : World) (hn : c.name.size ≤ 1000) (hk : c.okB = true) (hl : 1 ≤ lv ∧ lv ≤ 5) (hs : ¬ servE c d = 0) :
    Calls Tryz.prog 47 #[calV c, .int .i64 d, .int .i64 lv] w fun e w' => e = .returned (.tuple #[.agg #[.int .i64 0, .int .i64 0, .int .i64 0], .int .i64 (servE c d)]) ∧ Below w.heap.size w w' := by
  have HO := hide (show okE c = 0 by simp [okE, hk])
  have hlb : decide (1 ≤ lv ∧ lv ≤ 5) = true := by simpa using hl
  have hs' : (servE c d != 0) = true := by simpa using hs
  clear hk hl hs
  simp only [calV]
  go_enter Tryz.func47, Tryz.ntmps47
  go_wp2_with fail
  refine (check_any c _ hn).mono ?_
  rintro e w1 ⟨rfl, hb1⟩
  rw [HO.out]
  have r0 : w1.cell? ⟨w.heap.size + 1, 0, none⟩ = some (.int .i64 0) := by rw [hb1.cell (p := ⟨w.heap.size + 1, 0, none⟩) (by simp; try omega)]; simp [World.cell?_alloc_at, World.cell?_alloc_past, World.frozen?_alloc_at, World.frozen?_alloc_past]
  have f0 : w1.frozen? ⟨w.heap.size + 1, 0, none⟩ = false := by rw [hb1.frozen (p := ⟨w.heap.size + 1, 0, none⟩) (by simp; try omega)]; simp [World.cell?_alloc_at, World.cell?_alloc_past, World.frozen?_alloc_at, World.frozen?_alloc_past]
  have r1 : w1.cell? ⟨w.heap.size + 1, 1, none⟩ = some (.int .i64 0) := by rw [hb1.cell (p := ⟨w.heap.size + 1, 1, none⟩) (by simp; try omega)]; simp [World.cell?_alloc_at, World.cell?_alloc_past, World.frozen?_alloc_at, World.frozen?_alloc_past]
  have f1 : w1.frozen? ⟨w.heap.size + 1, 1, none⟩ = false := by rw [hb1.frozen (p := ⟨w.heap.size + 1, 1, none⟩) (by simp; try omega)]; simp [World.cell?_alloc_at, World.cell?_alloc_past, World.frozen?_alloc_at, World.frozen?_alloc_past]
  have r2 : w1.cell? ⟨w.heap.size + 1, 2, none⟩ = some (.int .i64 0) := by rw [hb1.cell (p := ⟨w.heap.size + 1, 2, none⟩) (by simp; try omega)]; simp [World.cell?_alloc_at, World.cell?_alloc_past, World.frozen?_alloc_at, World.frozen?_alloc_past]
  have f2 : w1.frozen? ⟨w.heap.size + 1, 2, none⟩ = false := by rw [hb1.frozen (p := ⟨w.heap.size + 1, 2, none⟩) (by simp; try omega)]; simp [World.cell?_alloc_at, World.cell?_alloc_past, World.frozen?_alloc_at, World.frozen?_alloc_past]
  have hz1 : w.heap.size + 1 < w1.heap.size := by have := hb1.size; simp at this; omega
  have hz0 : w.heap.size < w1.heap.size := by omega
  have HB1 := hide (show Below w.heap.size w w1 by (repeat' exact bel))
  have HQ1 := hide (show CalAt w1 w.heap.size c from calAt_below hb1 (by simp; omega) (calAt_alloc (calAt_new w c) (by simp) _))
  clear hb1
  obtain ⟨q0, q1, q2, q3, q4, q5, q6, q7, q8, q9, q10, q11, q12, q13⟩ := HQ1.out
  go_wp2_with (go_at_call 46; refine (levelled_any _ _).mono ?_; rintro e w' ⟨rfl, rfl⟩; rw [hlb])
  refine (served_any c d _ hn).mono ?_
  rintro e w2 ⟨rfl, hb2⟩
  clear q0 q1 q2 q3 q4 q5 q6 q7 q8 q9 q10 q11 q12 q13
  have s0 : w2.cell? ⟨w.heap.size + 1, 0, none⟩ = some (.int .i64 0) := by rw [hb2.cell (p := ⟨w.heap.size + 1, 0, none⟩) hz1]; exact r0
  have k0 : w2.frozen? ⟨w.heap.size + 1, 0, none⟩ = false := by rw [hb2.frozen (p := ⟨w.heap.size + 1, 0, none⟩) hz1]; exact f0
  have s1 : w2.cell? ⟨w.heap.size + 1, 1, none⟩ = some (.int .i64 0) := by rw [hb2.cell (p := ⟨w.heap.size + 1, 1, none⟩) hz1]; exact r1
  have k1 : w2.frozen? ⟨w.heap.size + 1, 1, none⟩ = false := by rw [hb2.frozen (p := ⟨w.heap.size + 1, 1, none⟩) hz1]; exact f1
  have s2 : w2.cell? ⟨w.heap.size + 1, 2, none⟩ = some (.int .i64 0) := by rw [hb2.cell (p := ⟨w.heap.size + 1, 2, none⟩) hz1]; exact r2
  have k2 : w2.frozen? ⟨w.heap.size + 1, 2, none⟩ = false := by rw [hb2.frozen (p := ⟨w.heap.size + 1, 2, none⟩) hz1]; exact f2
  clear r0 r1 r2 f0 f1 f2
  have hsz : w.heap.size + 1 < w2.heap.size := Nat.lt_of_lt_of_le hz1 hb2.size
  have hBel := HB1.out.trans (hb2.mono (Nat.le_of_lt hz0))
  clear hb2
  go_wp2
  exact bodyPost_ret (v := .tuple #[.agg #[.int .i64 0, .int .i64 0, .int .i64 0], .int .i64 (servE c d)]) (by simp (maxDischargeDepth := 9) [results, Tryz.results47, go_sem, s0, s1, s2, k0, k1, k2, hsz]) rfl ⟨rfl, by (repeat' exact bel)⟩

/-- The frame, and the block of the result. -/
def FdSt (c : Cal) (y : Int) (F g1 cap g2 B : Nat) (w : World) : Prop := BlkIs w F #[.int .i64 y, .slice (some ⟨g1, 0, none⟩) (nWk c y) cap, .slice (some ⟨g2, 0, none⟩) (nPer c y) (nPer c y)] 67 ∧ FrameAt w g1 g2 c y ∧ BlkIs w B #[.int .i64 0, .int .i64 0, .int .i64 0] 46
theorem FdSt.call {c : Cal} {y : Int} {F g1 cap g2 B : Nat} {w w' : World} (h : FdSt c y F g1 cap g2 B w) (hb : Below w.heap.size w w') : FdSt c y F g1 cap g2 B w' :=
  ⟨h.1.call hb, h.2.1.call hb, h.2.2.call hb⟩
theorem FdSt.drew {c : Cal} {y : Int} {F g1 cap g2 B : Nat} {w : World} (h : FdSt c y F g1 cap g2 B w) : FdSt c y F g1 cap g2 B w.drew := h
theorem FdSt.load {c : Cal} {y : Int} {F g1 cap g2 B : Nat} {w' : World} (h : FdSt c y F g1 cap g2 B w') : w'.cell? ⟨F, 0, none⟩ = some (.int .i64 y) ∧ w'.cell? ⟨F, 1, none⟩ = some (.slice (some ⟨g1, 0, none⟩) (nWk c y) cap) ∧ w'.cell? ⟨F, 2, none⟩ = some (.slice (some ⟨g2, 0, none⟩) (nPer c y) (nPer c y)) :=
  ⟨h.1.cell 0, h.1.cell 1, h.1.cell 2⟩
theorem FdSt.res {c : Cal} {y : Int} {F g1 cap g2 B : Nat} {w' : World} (h : FdSt c y F g1 cap g2 B w') :
    (w'.cell? ⟨B, 0, none⟩ = some (.int .i64 0) ∧ w'.cell? ⟨B, 1, none⟩ = some (.int .i64 0) ∧ w'.cell? ⟨B, 2, none⟩ = some (.int .i64 0)) ∧
    (w'.frozen? ⟨B, 0, none⟩ = false ∧ w'.frozen? ⟨B, 1, none⟩ = false ∧ w'.frozen? ⟨B, 2, none⟩ = false) :=
  ⟨⟨h.2.2.cell 0, h.2.2.cell 1, h.2.2.cell 2⟩, ⟨h.2.2.frozen 0, h.2.2.frozen 1, h.2.2.frozen 2⟩⟩
theorem res_fday {tmps : Array Value} {W : World} {B : Nat} {a0 a1 a2 e : Int} (h6 : tmps[6]? = some (.pointer (some ⟨B, 0, none⟩))) (h7 : tmps[7]? = some (.int .i64 e))
    (g6 : BlkIs W B #[.int .i64 a0, .int .i64 a1, .int .i64 a2] 46) :
    (results Tryz.f47 tmps).run Tryz.prog W = .ok (.tuple #[.agg #[.int .i64 a0, .int .i64 a1, .int .i64 a2], .int .i64 e]) W := by
  have c0 := g6.cell 0
  have c1 := g6.cell 1
  have c2 := g6.cell 2
  simp at c0 c1 c2
  simp [results, Tryz.results47, go_sem, h6, h7, c0, c1, c2]

set_option maxRecDepth 100000 in
set_option maxHeartbeats 1600000 in
theorem fday_yes (c : Cal) (d lv : Int) (w : World) (hn : c.name.size ≤ 1000) (hE : fdE c d lv = 0) :
    Calls Tryz.prog 47 #[calV c, .int .i64 d, .int .i64 lv] w fun e w' => e = .returned (.tuple #[.agg #[.int .i64 lv, .int .i64 (servY c d), .int .i64 ((ixN c (servY c d) lv (wkN c (servY c d) d) : Int) + 1)], .int .i64 0]) ∧ Below w.heap.size w w' := by
  obtain ⟨hk, h1, h5, hs, hd, hy, hf⟩ := fd_ok hE
  have hdd : 0 ≤ d ∧ d < 3068037 := by simpa [isB] using hd
  have HO := hide (show okE c = 0 by simp [okE, hk])
  have hlb : decide (1 ≤ lv ∧ lv ≤ 5) = true := by simp; omega
  obtain ⟨y, hyy⟩ : ∃ y, y = servY c d := ⟨_, rfl⟩
  rw [← hyy] at hy hf ⊢
  have HYY := hide hyy
  have HS := hide hs
  have HA := hide hy.1
  have HF := hide hf
  clear hE hk hs hd hy hf hyy
  simp only [calV]
  go_enter Tryz.func47, Tryz.ntmps47
  go_wp2_with fail
  refine (check_any c _ hn).mono ?_
  rintro e w1 ⟨rfl, hb1⟩
  rw [HO.out]
  have r0 : w1.cell? ⟨w.heap.size + 1, 0, none⟩ = some (.int .i64 0) := by rw [hb1.cell (p := ⟨w.heap.size + 1, 0, none⟩) (by simp; try omega)]; simp [World.cell?_alloc_at, World.cell?_alloc_past, World.frozen?_alloc_at, World.frozen?_alloc_past]
  have f0 : w1.frozen? ⟨w.heap.size + 1, 0, none⟩ = false := by rw [hb1.frozen (p := ⟨w.heap.size + 1, 0, none⟩) (by simp; try omega)]; simp [World.cell?_alloc_at, World.cell?_alloc_past, World.frozen?_alloc_at, World.frozen?_alloc_past]
  have r1 : w1.cell? ⟨w.heap.size + 1, 1, none⟩ = some (.int .i64 0) := by rw [hb1.cell (p := ⟨w.heap.size + 1, 1, none⟩) (by simp; try omega)]; simp [World.cell?_alloc_at, World.cell?_alloc_past, World.frozen?_alloc_at, World.frozen?_alloc_past]
  have f1 : w1.frozen? ⟨w.heap.size + 1, 1, none⟩ = false := by rw [hb1.frozen (p := ⟨w.heap.size + 1, 1, none⟩) (by simp; try omega)]; simp [World.cell?_alloc_at, World.cell?_alloc_past, World.frozen?_alloc_at, World.frozen?_alloc_past]
  have r2 : w1.cell? ⟨w.heap.size + 1, 2, none⟩ = some (.int .i64 0) := by rw [hb1.cell (p := ⟨w.heap.size + 1, 2, none⟩) (by simp; try omega)]; simp [World.cell?_alloc_at, World.cell?_alloc_past, World.frozen?_alloc_at, World.frozen?_alloc_past]
  have f2 : w1.frozen? ⟨w.heap.size + 1, 2, none⟩ = false := by rw [hb1.frozen (p := ⟨w.heap.size + 1, 2, none⟩) (by simp; try omega)]; simp [World.cell?_alloc_at, World.cell?_alloc_past, World.frozen?_alloc_at, World.frozen?_alloc_past]
  have hz1 : w.heap.size + 1 < w1.heap.size := by have := hb1.size; simp at this; omega
  have hz0 : w.heap.size < w1.heap.size := by omega
  have HB1 := hide (show Below w.heap.size w w1 by (repeat' exact bel))
  have HQ1 := hide (show CalAt w1 w.heap.size c from calAt_below hb1 (by simp; omega) (calAt_alloc (calAt_new w c) (by simp) _))
  have G1 : BlkIs w1 (w.heap.size + 1) #[.int .i64 0, .int .i64 0, .int .i64 0] 46 := BlkIs.below (by simpa using BlkIs.new (w.alloc (calObj c)) #[.int .i64 0, .int .i64 0, .int .i64 0] 46) hb1 (by simp)
  clear hb1
  obtain ⟨q0, q1, q2, q3, q4, q5, q6, q7, q8, q9, q10, q11, q12, q13⟩ := HQ1.out
  go_wp2_with (go_at_call 46; refine (levelled_any _ _).mono ?_; rintro e w' ⟨rfl, rfl⟩; rw [hlb])
  refine (served_any c d _ hn).mono ?_
  rintro e w2 ⟨rfl, hb2⟩
  clear q0 q1 q2 q3 q4 q5 q6 q7 q8 q9 q10 q11 q12 q13
  rw [HS.out, ← HYY.out]
  have GB1 : BlkIs w1 (w.heap.size + 1) #[.int .i64 0, .int .i64 0, .int .i64 0] 46 := G1
  have GB := hide (GB1.call hb2)
  have HQ2 := hide (show CalAt w2 w.heap.size c from calAt_below hb2 hz0 HQ1.out)
  have hz2 : w.heap.size + 1 < w2.heap.size := Nat.lt_of_lt_of_le hz1 hb2.size
  have hz20 : w.heap.size < w2.heap.size := by omega
  have HB2 := hide (HB1.out.trans (hb2.mono (Nat.le_of_lt hz0)))
  clear hb2 r0 r1 r2 f0 f1 f2
  obtain ⟨q0, q1, q2, q3, q4, q5, q6, q7, q8, q9, q10, q11, q12, q13⟩ := HQ2.out
  go_wp2_with fail
  refine (make_yes c lv y _ hn HF.out).mono ?_
  rintro e w3 ⟨g1, cap, g2, hG1, hG2, rfl, hc1, hc2, hFr, hb3⟩
  clear q0 q1 q2 q3 q4 q5 q6 q7 q8 q9 q10 q11 q12 q13
  have GB3 := hide (GB.out.call hb3)
  have HFr := hide hFr
  have hz3 : w.heap.size + 1 < w3.heap.size := Nat.lt_of_lt_of_le hz2 hb3.size
  have HB3 := hide (HB2.out.trans (hb3.mono (Nat.le_of_lt hz20)))
  clear hb3 hFr hG1 hG2
  have hne : w.heap.size + 1 ≠ w3.heap.size := by omega
  have hkB : w.heap.size ≤ w.heap.size + 1 := by omega
  clear GB1 G1
  generalize w.heap.size + 1 = B at *
  obtain ⟨F, hF⟩ : ∃ F, F = w3.heap.size := ⟨_, rfl⟩
  have HD := hide (show FdSt c y F g1 cap g2 B (w3.alloc (.cells #[.int .i64 y, .slice (some ⟨g1, 0, none⟩) (nWk c y) cap, .slice (some ⟨g2, 0, none⟩) (nPer c y) (nPer c y)] 67)) from ⟨by rw [hF]; exact BlkIs.new w3 _ _, HFr.out.alloc _, GB3.out.alloc _⟩)
  have HW1 := hide (show Below w.heap.size w (w3.alloc (.cells #[.int .i64 y, .slice (some ⟨g1, 0, none⟩) (nWk c y) cap, .slice (some ⟨g2, 0, none⟩) (nPer c y) (nPer c y)] 67)) from HB3.out.alloc (by omega) _)
  go_wp2_with fail
  rw [← hF]
  generalize w3.alloc (.cells #[.int .i64 y, .slice (some ⟨g1, 0, none⟩) (nWk c y) cap, .slice (some ⟨g2, 0, none⟩) (nPer c y) (nPer c y)] 67) = W at *
  obtain ⟨k0, k1, k2⟩ := HD.out.load
  have hzW : w.heap.size ≤ W.heap.size := HW1.out.size
  have HKB := hide hkB
  clear HFr hF HB3 GB3 hkB hne hz3 hz2 hz1
  go_region_with (first
    | (go_at_call 67; refine (fweek_any c y d _ cap g1 g2 HA.out ?_ (by omega)).mono ?_; exact HD.out.2.1.1; rintro e w4 ⟨rfl, hb4⟩; have HD2 := hide (HD.out.drew.call (by exact hb4)); have HW2 := hide (HW1.out.drew.trans (hb4.mono (by exact hzW)) : Below w.heap.size w w4); obtain ⟨m0, m1, m2⟩ := HD2.out.load; have hz4 : w.heap.size ≤ w4.heap.size := HW2.out.size; clear hb4)
    | (go_at_call 66; refine (funit_any c y lv _ cap g1 g2 h1 h5 HA.out ?_ _).mono ?_; exact HD2.out.2.1.2; rintro e w5 ⟨rfl, hb5⟩; have HD3 := hide (HD2.out.call (by exact hb5)); have HW3 := hide (HW2.out.trans (hb5.mono (by exact hz4)) : Below w.heap.size w w5); obtain ⟨⟨p0, p1, p2⟩, ⟨p6, p7, p8⟩⟩ := HD3.out.res; clear hb5))
  all_goals
    have hkB := HKB.out
    go_simp
    go_wp2
    exact bodyPost_ret (v := .tuple #[.agg #[.int .i64 lv, .int .i64 y, .int .i64 ((ixN c y lv (wkN c y d) : Int) + 1)], .int .i64 0]) (by exact res_fday rfl rfl (HD3.out.2.2.set123 _ _ _)) rfl ⟨rfl, ((HW3.out.setCell hkB _).setCell hkB _).setCell hkB _⟩

theorem fday_any (c : Cal) (d lv : Int) (w : World) (hn : c.name.size ≤ 1000) :
    Calls Tryz.prog 47 #[calV c, .int .i64 d, .int .i64 lv] w fun e w' => e = .returned (.tuple #[unitV (fdU c d lv), .int .i64 (fdE c d lv)]) ∧ Below w.heap.size w w' := by
  by_cases hE : fdE c d lv = 0
  · refine (fday_yes c d lv w hn hE).mono ?_
    rintro e w1 ⟨rfl, hb⟩
    exact ⟨by rw [fdU, if_pos hE, hE], hb⟩
  · have hU : fdU c d lv = ⟨0, 0, 0⟩ := by rw [fdU, if_neg hE]
    rw [hU]
    cases hk : c.okB
    · have h0 : fdE c d lv = 1 := by unfold fdE; rw [if_neg (by rw [hk]; simp)]
      rw [h0]
      exact fday_cal c d lv w hn hk
    · by_cases hl : 1 ≤ lv ∧ lv ≤ 5
      · have h0 : fdE c d lv = servE c d := by unfold fdE; rw [if_pos ⟨hk, hl⟩]
        rw [h0]
        exact fday_day c d lv w hn hk hl (by rw [← h0]; exact hE)
      · have h0 : fdE c d lv = 1 := by unfold fdE; rw [if_neg (fun h => hl h.2)]
        rw [h0]
        exact fday_lv c d lv w hn hk hl
end Go.Proofs.YtjhhmeoibfdcmaaGreatDoor

namespace Go.Proofs.YtjhhmeoibfdcmaaGreatDoor
open Go.RowKit Qd
set_option linter.unusedSimpArgs false
set_option linter.unusedVariables false

abbrev txt : ByteArray := ⟨#[50, 48, 50, 52, 45, 48, 50, 45, 48, 51]⟩
abbrev frm : ByteArray := ⟨#[35, 35, 35, 35, 45, 35, 35, 45, 35, 35]⟩
/-- The numbers read of k bytes, and whether one is open. -/
def nL : Nat → List Int
  | 1 => [2] | 2 => [20] | 3 => [202] | 4 => [2024] | 5 => [2024] | 6 => [2024, 0] | 7 => [2024, 2] | 8 => [2024, 2] | 9 => [2024, 2, 0] | 10 => [2024, 2, 3] | _ => []
def nO : Nat → Bool
  | 0 => false | 5 => false | 8 => false | _ => true
theorem int_info : (Tryz.prog.info? 3).map (fun i => (i.zero, i.size, i.bytes)) = some (some (.int .i64 0), 1, 8) := by kernel_rfl
/-- What the loop keeps. -/
def NuSt (w wr : World) (k : Nat) (v : Value) : Prop :=
  wr.ownsRow (w.heap.size + 1) 3 1 v (nL k).length ((nL k).map (Value.int .i64)) ∧ wr.heap[w.heap.size]? = some (.stringIter frm k) ∧ Below w.heap.size w wr
theorem NuSt.step {w wr : World} {k : Nat} {v : Value} (h : NuSt w wr k v) (p : Nat) :
    (wr.iterAt w.heap.size frm p).ownsRow (w.heap.size + 1) 3 1 v (nL k).length ((nL k).map (Value.int .i64)) ∧ (wr.iterAt w.heap.size frm p).heap[w.heap.size]? = some (.stringIter frm p) ∧ Below w.heap.size w (wr.iterAt w.heap.size frm p) ∧ w.heap.size + 1 ≤ (wr.iterAt w.heap.size frm p).heap.size :=
  ⟨ownsRow_iterAt h.1 (Nat.lt_succ_self _) _ _, Lib.iterAt_heap _ _ _ _ _ h.2.1, Lib.below_iterAt h.2.2 (Nat.le_refl _) _ _, by rw [Lib.iterAt_size]; exact (Array.getElem?_eq_some_iff.1 h.2.1).1⟩
theorem NuSt.stored {w W : World} {k n g cap : Nat} {xs : List Int} (h1 : W.ownsRow (w.heap.size + 1) 3 1 (.slice (some ⟨g, 0, none⟩) n cap) n (xs.map (Value.int .i64))) (h2 : W.heap[w.heap.size]? = some (.stringIter frm k)) (h3 : Below w.heap.size w W)
    (j : Nat) (x : Int) (hy : nL k = xs.set j x) (hn : (nL k).length = n) (hg : w.heap.size < g) : NuSt w (W.setCell ⟨g, j, none⟩ (.int .i64 x)) k (.slice (some ⟨g, 0, none⟩) n cap) := by
  have h := (h1.stored j (.int .i64 x)).1
  have e : (xs.map (Value.int .i64)).set j (Value.int .i64 x) = (nL k).map (Value.int .i64) := by rw [hy, List.map_set]
  rw [e] at h
  refine ⟨by rw [hn]; exact h, ?_, h3.setCell (by simp; omega) _⟩
  rw [Below.heap_setCell W ⟨g, j, none⟩ _ w.heap.size (by simp; omega)]
  exact h2
theorem owns_pos {w : World} {base n : Nat} {v : Value} {xs : List Value} {e : TypeId} {size : Nat} (h : w.ownsRow base e size v n xs) (hn : 0 < n) : ∃ g cap, v = .slice (some ⟨g, 0, none⟩) n cap ∧ base ≤ g := by
  obtain ⟨g, cap, h1, _, _, h2⟩ := owns_slice h hn
  exact ⟨g, cap, h1, h2⟩

theorem day_num : dayV 2024 2 3 = 154896 ∧ dateE 2024 2 3 = 0 := by decide +kernel

def nrf17 : Cal := ⟨⟨#[120]⟩, 3, 6, 1, 1, 1, 4, 5, 4, 0, 12, 2000, 2030, 1⟩
theorem n17_3 : fdE nrf17 154896 3 = 0 ∧ fdU nrf17 154896 3 = ⟨3, 2023, 4⟩ := by
  have h := fd_of (c := nrf17) (lv := 3) (y := 2023) (d := 154896) (by decide +kernel) 3 (by decide +kernel) (by decide +kernel) (by decide +kernel)
  exact ⟨h.1, h.2.2.2⟩
theorem n17_4 : fdE nrf17 154896 4 = 0 ∧ fdU nrf17 154896 4 = ⟨4, 2023, 12⟩ := by
  have h := fd_of (c := nrf17) (lv := 4) (y := 2023) (d := 154896) (by decide +kernel) 11 (by decide +kernel) (by decide +kernel) (by decide +kernel)
  exact ⟨h.1, h.2.2.2⟩
theorem n17_5 : fdE nrf17 154896 5 = 0 ∧ fdU nrf17 154896 5 = ⟨5, 2023, 53⟩ := by
  have h := fd_of (c := nrf17) (lv := 5) (y := 2023) (d := 154896) (by decide +kernel) 52 (by decide +kernel) (by decide +kernel) (by decide +kernel)
  exact ⟨h.1, h.2.2.2⟩

/-- The unit behind, and why there is none. -/
def nxU0 (u : Un) : Un := ⟨u.lv, u.yr, u.ix + 1⟩
def nxU1 (u : Un) : Un := ⟨u.lv, u.yr + 1, 1⟩
def nxE (c : Cal) (u : Un) : Int := if unitE c u = 0 then (if unitE c (nxU0 u) = 0 then 0 else unitE c (nxU1 u)) else unitE c u
def nxU (c : Cal) (u : Un) : Un := if unitE c u = 0 then (if unitE c (nxU0 u) = 0 then nxU0 u else if unitE c (nxU1 u) = 0 then nxU1 u else ⟨0, 0, 0⟩) else ⟨0, 0, 0⟩
/-- The unit ahead, and why there is none. -/
def bkE (c : Cal) (u : Un) : Int := if unitE c u = 0 then (if 1 < u.ix then 0 else frameE c u.lv (u.yr - 1)) else unitE c u
def bkU (c : Cal) (u : Un) : Un := if unitE c u = 0 then (if 1 < u.ix then ⟨u.lv, u.yr, u.ix - 1⟩ else if frameE c u.lv (u.yr - 1) = 0 then ⟨u.lv, u.yr - 1, (cntL c (u.yr - 1) u.lv : Int)⟩ else ⟨0, 0, 0⟩) else ⟨0, 0, 0⟩

theorem BlkIs.set2nd {w : World} {B : Nat} {a b c : Value} {t : TypeId} (h : BlkIs w B #[a, b, c] t) (y : Value) : BlkIs (w.setCell ⟨B, 1, none⟩ y) B #[a, y, c] t := by
  unfold BlkIs at h ⊢
  simp [World.setCell, Array.getElem?_modify, h]
theorem BlkIs.set3rd {w : World} {B : Nat} {a b c : Value} {t : TypeId} (h : BlkIs w B #[a, b, c] t) (z : Value) : BlkIs (w.setCell ⟨B, 2, none⟩ z) B #[a, b, z] t := by
  unfold BlkIs at h ⊢
  simp [World.setCell, Array.getElem?_modify, h]
/-- The cells of a unit's block. -/
theorem BlkIs.three {w : World} {B : Nat} {a b c : Value} {t : TypeId} (h : BlkIs w B #[a, b, c] t) :
    (w.cell? ⟨B, 0, none⟩ = some a ∧ w.cell? ⟨B, 1, none⟩ = some b ∧ w.cell? ⟨B, 2, none⟩ = some c) ∧ (w.frozen? ⟨B, 0, none⟩ = false ∧ w.frozen? ⟨B, 1, none⟩ = false ∧ w.frozen? ⟨B, 2, none⟩ = false) :=
  ⟨⟨h.cell 0, h.cell 1, h.cell 2⟩, h.frozen 0, h.frozen 1, h.frozen 2⟩

end Go.Proofs.YtjhhmeoibfdcmaaGreatDoor

namespace Go.Proofs.YtjhhmeoibfdcmaaGreatDoor
open Go.RowKit Qd
set_option linter.unusedSimpArgs false
set_option linter.unusedVariables false

theorem frame_11 {c : Cal} {lv y : Int} (hk : c.okB = true) (h1 : 1 ≤ lv) (h5 : lv ≤ 5) (h : y < c.first ∨ c.last < y) : frameE c lv y = 11 := by
  unfold frameE
  rw [if_pos hk, if_pos ⟨h1, h5⟩, if_neg (by omega)]
/-- The unit behind. -/
theorem next_facts {c : Cal} {u : Un} (h : unitE c u = 0) :
    (nxE c u = 0 ∧ (spV c u).b < endV c c.last ∧ unitE c (nxU c u) = 0 ∧ (spV c (nxU c u)).a = (spV c u).b + 1 ∧ bkE c (nxU c u) = 0 ∧ bkU c (nxU c u) = u) ∨ (nxE c u = 11 ∧ nxU c u = ⟨0, 0, 0⟩ ∧ (spV c u).b = endV c c.last) := by
  obtain ⟨hf, hl1, hl5, hA, hx, hi⟩ := un_lv h
  obtain ⟨hok, hk, _, _, hy1, hy2, _⟩ := frame_ok hf
  obtain ⟨y1, y2, y3, y4, y5⟩ := ok_years hk
  obtain ⟨lv, yr, ix⟩ := u
  simp only at hf hl1 hl5 hA hi hy1 hy2
  obtain ⟨i, hiu⟩ : ∃ i, i = uI ⟨lv, yr, ix⟩ := ⟨_, rfl⟩
  rw [← hiu] at hx hi
  obtain rfl : ix = (i : Int) + 1 := hx
  have hS := sp_mk hf i hi
  have hb : (spV c ⟨lv, yr, (i : Int) + 1⟩).b = dayW c yr (cutN c yr lv (i + 1)) - 1 := by rw [hS]
  rw [hb]
  by_cases hin : i + 1 < cntL c yr lv
  · left
    obtain ⟨g0, _, _⟩ := un_mk hf (i + 1) hin
    have e0 : nxU0 ⟨lv, yr, (i : Int) + 1⟩ = ⟨lv, yr, ((i + 1 : Nat) : Int) + 1⟩ := by simp [nxU0]
    have eU : nxU c ⟨lv, yr, (i : Int) + 1⟩ = ⟨lv, yr, ((i + 1 : Nat) : Int) + 1⟩ := by rw [nxU, if_pos h, e0, if_pos g0]
    have eE : nxE c ⟨lv, yr, (i : Int) + 1⟩ = 0 := by rw [nxE, if_pos h, e0, if_pos g0]
    rw [eU, eE]
    refine ⟨rfl, ?_, g0, ?_, ?_, ?_⟩
    · have b1 := dayW_lt c yr hA (cut_slt c yr hA lv hl1 hl5 hin (Nat.le_refl _)) (cut_le_nWk c yr hA lv hl1 hl5 _ (Nat.le_refl _))
      have b2 := cut_slt c yr hA lv hl1 hl5 hin (Nat.le_refl _)
      rw [cut_end c yr lv hl1 hl5, dayW_end c yr hA] at b1
      have := end_le c hok (show 1600 ≤ yr by omega) hy2 (by omega)
      rw [cut_end c yr lv hl1 hl5] at b2
      omega
    · rw [sp_mk hf (i + 1) hin]
      simp only
      omega
    · rw [bkE, if_pos g0, if_pos (by simp; omega)]
    · rw [bkU, if_pos g0, if_pos (by simp; omega)]
      simp
  · have hn : i + 1 = cntL c yr lv := by omega
    have e0 : ¬ unitE c (nxU0 ⟨lv, yr, (i : Int) + 1⟩) = 0 := by
      intro h2
      have := (unit_ok h2).2
      simp [nxU0, uI] at this
      omega
    have hend : dayW c yr (cutN c yr lv (i + 1)) - 1 = endV c yr := by
      rw [hn, cut_end c yr lv hl1 hl5, dayW_end c yr hA]
      omega
    rw [hend]
    by_cases hy : yr + 1 ≤ c.last
    · left
      have hf2 : frameE c lv (yr + 1) = 0 := frame_is hok hl1 hl5 (by omega) hy
      have hA2 : askE c (yr + 1) 1601 = 0 := (frame_ok hf2).2.2.2.2.2.2
      have hc2 := cnt_bd c (yr + 1) hA2 lv
      obtain ⟨g0, _, _⟩ := un_mk hf2 0 (by omega)
      have g0' : unitE c (nxU1 ⟨lv, yr, (i : Int) + 1⟩) = 0 := g0
      have eU : nxU c ⟨lv, yr, (i : Int) + 1⟩ = ⟨lv, yr + 1, ((0 : Nat) : Int) + 1⟩ := by rw [nxU, if_pos h, if_neg e0, if_pos g0']; rfl
      have eE : nxE c ⟨lv, yr, (i : Int) + 1⟩ = 0 := by rw [nxE, if_pos h, if_neg e0, g0']
      rw [eU, eE]
      refine ⟨rfl, ?_, g0, ?_, ?_, ?_⟩
      · have := end_mono c yr hok (by omega) 1 (by omega)
        have := end_le c hok (show 1600 ≤ yr + 1 by omega) hy (by omega)
        simp at *
        omega
      · rw [sp_mk hf2 0 (by omega), cut_0, dayW_0, start_next c yr hA2]
      · rw [bkE, if_pos g0, if_neg (by simp)]
        simp only
        rw [show yr + 1 - 1 = yr by omega]
        exact hf
      · rw [bkU, if_pos g0, if_neg (by simp)]
        simp only
        rw [show yr + 1 - 1 = yr by omega, if_pos hf, ← hn]
        simp
    · right
      have e11 : unitE c (nxU1 ⟨lv, yr, (i : Int) + 1⟩) = 11 := by
        have := frame_11 hk hl1 hl5 (y := yr + 1) (by omega)
        unfold unitE nxU1
        simp only
        rw [if_neg (by omega), this]
      refine ⟨by rw [nxE, if_pos h, if_neg e0, e11], by rw [nxU, if_pos h, if_neg e0, if_neg (by omega)], ?_⟩
      rw [show yr = c.last by omega]
/-- The unit ahead. -/
theorem back_facts {c : Cal} {u : Un} (h : unitE c u = 0) :
    (bkE c u = 0 ∧ startV c c.first < (spV c u).a ∧ unitE c (bkU c u) = 0 ∧ (spV c (bkU c u)).b + 1 = (spV c u).a ∧ nxE c (bkU c u) = 0 ∧ nxU c (bkU c u) = u) ∨ (bkE c u = 11 ∧ bkU c u = ⟨0, 0, 0⟩ ∧ (spV c u).a = startV c c.first) := by
  obtain ⟨hf, hl1, hl5, hA, hx, hi⟩ := un_lv h
  obtain ⟨hok, hk, _, _, hy1, hy2, _⟩ := frame_ok hf
  obtain ⟨y1, y2, y3, y4, y5⟩ := ok_years hk
  obtain ⟨lv, yr, ix⟩ := u
  simp only at hf hl1 hl5 hA hi hy1 hy2
  obtain ⟨i, hiu⟩ : ∃ i, i = uI ⟨lv, yr, ix⟩ := ⟨_, rfl⟩
  rw [← hiu] at hx hi
  obtain rfl : ix = (i : Int) + 1 := hx
  have hS := sp_mk hf i hi
  have ha : (spV c ⟨lv, yr, (i : Int) + 1⟩).a = dayW c yr (cutN c yr lv i) := by rw [hS]
  rw [ha]
  cases i with
  | succ j =>
    left
    obtain ⟨g0, _, _⟩ := un_mk hf j (by omega)
    have eU : bkU c ⟨lv, yr, ((j + 1 : Nat) : Int) + 1⟩ = ⟨lv, yr, (j : Int) + 1⟩ := by rw [bkU, if_pos h, if_pos (by simp; omega)]; simp
    have eE : bkE c ⟨lv, yr, ((j + 1 : Nat) : Int) + 1⟩ = 0 := by rw [bkE, if_pos h, if_pos (by simp; omega)]
    have e0 : nxU0 ⟨lv, yr, (j : Int) + 1⟩ = ⟨lv, yr, ((j + 1 : Nat) : Int) + 1⟩ := by simp [nxU0]
    rw [eU, eE]
    refine ⟨rfl, ?_, g0, ?_, ?_, ?_⟩
    · have b2 := cut_slt c yr hA lv hl1 hl5 (show 0 < j + 1 by omega) (Nat.le_of_lt hi)
      have b1 := dayW_lt c yr hA b2 (cut_le_nWk c yr hA lv hl1 hl5 _ (Nat.le_of_lt hi))
      rw [cut_0] at b1 b2
      rw [dayW_0] at b1
      have := start_le c hok (show 1601 ≤ c.first by omega) hy1 (by omega)
      omega
    · rw [sp_mk hf j (by omega)]
      simp only
      omega
    · rw [nxE, if_pos g0, e0, if_pos h]
    · rw [nxU, if_pos g0, e0, if_pos h]
  | zero =>
    rw [cut_0, dayW_0]
    by_cases hy : c.first ≤ yr - 1
    · left
      have hf2 : frameE c lv (yr - 1) = 0 := frame_is hok hl1 hl5 hy (by omega)
      have hA2 : askE c (yr - 1) 1601 = 0 := (frame_ok hf2).2.2.2.2.2.2
      have hc2 := cnt_bd c (yr - 1) hA2 lv
      obtain ⟨m, hm⟩ : ∃ m, cntL c (yr - 1) lv = m + 1 := ⟨cntL c (yr - 1) lv - 1, by omega⟩
      obtain ⟨g0, _, _⟩ := un_mk hf2 m (by omega)
      have eU : bkU c ⟨lv, yr, ((0 : Nat) : Int) + 1⟩ = ⟨lv, yr - 1, (m : Int) + 1⟩ := by rw [bkU, if_pos h, if_neg (by simp)]; simp only; rw [if_pos hf2, hm]; simp
      have eE : bkE c ⟨lv, yr, ((0 : Nat) : Int) + 1⟩ = 0 := by rw [bkE, if_pos h, if_neg (by simp)]; exact hf2
      have e0 : ¬ unitE c (nxU0 ⟨lv, yr - 1, (m : Int) + 1⟩) = 0 := by
        intro h2
        have := (unit_ok h2).2
        simp [nxU0, uI] at this
        omega
      have e1 : nxU1 ⟨lv, yr - 1, (m : Int) + 1⟩ = ⟨lv, yr, ((0 : Nat) : Int) + 1⟩ := by simp [nxU1]
      rw [eU, eE]
      refine ⟨rfl, ?_, g0, ?_, ?_, ?_⟩
      · have := end_lt_start c hok (show 1600 ≤ c.first by omega) (show c.first < yr by omega) (by omega)
        have := year_bd c c.first y1
        have : daysV c c.first = endV c c.first - startV c c.first + 1 := by simp [daysV, y1]
        omega
      · rw [sp_mk hf2 m (by omega)]
        simp only
        rw [← hm, cut_end c (yr - 1) lv hl1 hl5, dayW_end c (yr - 1) hA2]
        have := start_next c (yr - 1) (by rw [show yr - 1 + 1 = yr by omega]; exact hA)
        rw [show yr - 1 + 1 = yr by omega] at this
        omega
      · rw [nxE, if_pos g0, if_neg e0, e1, h]
      · rw [nxU, if_pos g0, if_neg e0, e1, if_pos h]
    · right
      have e11 : frameE c lv (yr - 1) = 11 := frame_11 hk hl1 hl5 (by omega)
      refine ⟨by rw [bkE, if_pos h, if_neg (by simp)]; exact e11, by rw [bkU, if_pos h, if_neg (by simp)]; simp only; rw [if_neg (by omega)], ?_⟩
      rw [show yr = c.first by omega]

theorem sp_bd' {c : Cal} {u : Un} (h : unitE c u = 0) : 0 ≤ (spV c u).a ∧ (spV c u).a ≤ (spV c u).b ∧ (spV c u).b ≤ 3068037 := by
  obtain ⟨hf, hl1, hl5, hA, hx, hi⟩ := un_lv h
  have hab := cutAB h
  rw [sp_get h]
  have b1 := dayW_le c u.yr hA (Nat.zero_le (cutA c u)) (by omega)
  have b2 := dayW_le c u.yr hA hab.2 (Nat.le_refl _)
  have b3 := dayW_lt c u.yr hA hab.1 hab.2
  rw [dayW_0] at b1
  rw [dayW_end c u.yr hA] at b2
  have := year_bd c u.yr hA
  simp only
  omega


end Go.Proofs.YtjhhmeoibfdcmaaGreatDoor
