/- Contracts of the references: on which days the periods of a year end (layer 15). -/
import Derived.Test.YtojdngkleiokgaaRefI
import Derived.Test.YtojdngkleiokgaaRefD
import Derived.Test.YtojdngkleiokgaaShapeW
import Derived.Test.YtojdngkleiokgaaFrameD
namespace Go.Proofs.Ytojdngkleiokgaa
open Go.RowKit Qd
set_option linter.unusedSimpArgs false
set_option linter.unusedVariables false

theorem rint_info : (Try.prog.info? 3).map (fun i => (i.zero, i.size, i.bytes)) = some (some (.int .i64 0), 1, 8) := by kernel_rfl
/-- Numbers of a list that was appended to. -/
def intsC (L : List Int) : List Value := L.map (Value.int .i64)
theorem intsC_snoc (L : List Int) (x : Int) : intsC (L ++ [x]) = intsC L ++ [.int .i64 x] := by simp [intsC]
theorem intsC_len (L : List Int) : (intsC L).length = L.length := by simp [intsC]
/-- What is kept in the loops: the calendar, and the list so far. -/
def IlSt (c : Cal) (B Bo : Nat) (L : List Int) (v : Value) (w0 w : World) : Prop :=
  CalAt w B c ∧ B < Bo ∧ Bo ≤ w.heap.size ∧ (w.ownsRow Bo 3 1 v L.length (intsC L) ∧ (v = .slice none 0 0 ↔ L = [])) ∧ Below B w0 w
theorem rowns_call {w w' : World} {base size n : Nat} {e : TypeId} {v : Value} {xs : List Value} (h : w.ownsRow base e size v n xs) (hb : Below w.heap.size w w') : w'.ownsRow base e size v n xs := by
  refine ⟨h.1, ?_⟩
  rcases h.2 with h1 | ⟨g, cap, cur, h1, h2, h3, h4⟩
  · exact .inl h1
  · exact .inr ⟨g, cap, cur, h1, h2, (hb.block g (Array.getElem?_eq_some_iff.1 h3).1).trans h3, h4⟩
theorem IlSt.call {c : Cal} {B Bo : Nat} {L : List Int} {v : Value} {w0 w w' : World} (h : IlSt c B Bo L v w0 w) (hb : Below w.heap.size w w') : IlSt c B Bo L v w0 w' := by
  obtain ⟨h1, h2, h3, ⟨h4, h5⟩, h6⟩ := h
  exact ⟨calAt_below hb (by omega) h1, h2, Nat.le_trans h3 hb.size, ⟨rowns_call h4 hb, h5⟩, h6.trans (hb.mono (by omega))⟩
theorem IlSt.grow {c : Cal} {B Bo : Nat} {L : List Int} {x : Int} {v v' : Value} {w0 W w' : World} (h : IlSt c B Bo L v w0 W) (o : Obj)
    (ho : w'.ownsRow Bo 3 1 v' (L.length + 1) (intsC L ++ [.int .i64 x])) (hgrow : (W.alloc o).grownBy w' v.ownBlock) : IlSt c B Bo (L ++ [x]) v' w0 w' := by
  obtain ⟨h1, h2, h3, ⟨h4, h5⟩, h6⟩ := h
  have hb : Below Bo W w' := ((Below.refl Bo W).alloc h3 o).grown hgrow (by simp; omega) (fun k hk => by have := (h4.lt k hk).1; omega)
  obtain ⟨g3, cap3, rfl, _⟩ := owns_slice ho (by omega)
  have hs : W.heap.size ≤ w'.heap.size := by have := hgrow.size; simp at this; omega
  refine ⟨calAt_below hb h2 h1, h2, by omega, ⟨?_, by simp⟩, h6.trans (hb.mono (by omega))⟩
  rw [intsC_snoc]
  simpa using ho
theorem rowns_base {w : World} {b b' size n : Nat} {e : TypeId} {v : Value} {xs : List Value} (h : w.ownsRow b e size v n xs) (hb : b' ≤ b) : w.ownsRow b' e size v n xs := by
  refine ⟨h.1, ?_⟩
  rcases h.2 with h1 | ⟨g, cap, cur, h1, h2, h3⟩
  · exact .inl h1
  · exact .inr ⟨g, cap, cur, h1, Nat.le_trans hb h2, h3⟩
/-- A list of numbers as a value. -/
def IntsV (w : World) (v : Value) (L : List Int) : Prop := ∃ g cap, v = .slice (some ⟨g, 0, none⟩) L.length cap ∧ w.ownsRow 0 3 1 v L.length (intsC L)
theorem IlSt.ints {c : Cal} {B Bo : Nat} {L : List Int} {v : Value} {w0 w : World} (h : IlSt c B Bo L v w0 w) (h0 : 0 < L.length) : IntsV w v L := by
  obtain ⟨g, cap, rfl, _⟩ := owns_slice h.2.2.2.1.1 h0
  exact ⟨g, cap, rfl, rowns_base h.2.2.2.1.1 (Nat.zero_le _)⟩
def REndsPost (c : Cal) (y : Int) (w : World) (e : Ending) (w' : World) : Prop := ∃ v, e = .returned (.tuple #[v, .int .i64 0]) ∧ IntsV w' v (endsL c y) ∧ Below w.heap.size w w'

set_option maxHeartbeats 1600000 in
theorem r15told_any (c : Cal) (y : Int) (w : World) (hn : c.name.size ≤ 1000) :
    Calls Try.prog 37 #[calV c, .int .i64 y] w fun e w' => e = .returned (.int .i64 (askE c y 1601)) ∧ Below w.heap.size w w' := by
  simp only [calV]
  go_enter Try.func37, Try.ntmps37
  go_wp2_with fail
  refine (r13start_any c y _ hn).mono ?_
  rintro e w1 ⟨rfl, hb1⟩
  have hz1 : w.heap.size < w1.heap.size := by have := hb1.size; simp at this; omega
  have HB1 := hide (show Below w.heap.size w w1 by refine Below.trans ?_ (hb1.mono (by first | omega | (simp; done) | (simp; omega))); (repeat' (first | (with_reducible exact Below.refl _ _) | (with_reducible assumption) | (with_reducible refine Below.alloc ?_ ?_ _) | (with_reducible refine below_drewN ?_ _) | (with_reducible refine Below.drew ?_) | (with_reducible refine Below.setCell ?_ ?_ _) | (with_reducible refine Below.trans ?_ (Below.mono (by assumption) ?_)) | go_size | (simp at *; omega))))
  have HQ1 := hide (calAt_below hb1 (by simp) (calAt_new w c))
  obtain ⟨q0, q1, q2, q3, q4, q5, q6, q7, q8, q9, q10, q11, q12, q13⟩ := HQ1.out
  clear hb1
  have hBel := HB1.out
  go_wp2
  go_ret
  exact ⟨rfl, by (repeat' (first | (with_reducible exact Below.refl _ _) | (with_reducible assumption) | (with_reducible refine Below.alloc ?_ ?_ _) | (with_reducible refine below_drewN ?_ _) | (with_reducible refine Below.drew ?_) | (with_reducible refine Below.setCell ?_ ?_ _) | (with_reducible refine Below.trans ?_ (Below.mono (by assumption) ?_)) | go_size | (simp at *; omega)))⟩
set_option maxHeartbeats 1600000 in
theorem r15ends_no (c : Cal) (y : Int) (w : World) (hn : c.name.size ≤ 1000) (hE : ¬ askE c y 1601 = 0) :
    Calls Try.prog 13 #[calV c, .int .i64 y] w fun e w' => e = .returned (.tuple #[.slice none 0 0, .int .i64 (askE c y 1601)]) ∧ Below w.heap.size w w' := by
  obtain ⟨E, hEE⟩ : ∃ E, askE c y 1601 = E := ⟨_, rfl⟩
  have HE := hide hEE
  rw [hEE] at hE
  have hEb : (E != 0) = true := by simpa using hE
  clear hE hEE
  simp only [calV]
  go_enter Try.func13, Try.ntmps13
  go_wp2_with fail
  refine (r15told_any c y _ hn).mono ?_
  rintro e w1 ⟨rfl, hb1⟩
  rw [HE.out]
  have hz1 : w.heap.size < w1.heap.size := by have := hb1.size; simp at this; omega
  have HB1 := hide (show Below w.heap.size w w1 by refine Below.trans ?_ (hb1.mono (by first | omega | (simp; done) | (simp; omega))); (repeat' (first | (with_reducible exact Below.refl _ _) | (with_reducible assumption) | (with_reducible refine Below.alloc ?_ ?_ _) | (with_reducible refine below_drewN ?_ _) | (with_reducible refine Below.drew ?_) | (with_reducible refine Below.setCell ?_ ?_ _) | (with_reducible refine Below.trans ?_ (Below.mono (by assumption) ?_)) | go_size | (simp at *; omega))))
  have HQ1 := hide (calAt_below hb1 (by simp) (calAt_new w c))
  obtain ⟨q0, q1, q2, q3, q4, q5, q6, q7, q8, q9, q10, q11, q12, q13⟩ := HQ1.out
  clear hb1
  have hBel := HB1.out
  go_wp2
  go_ret2
  exact ⟨by rw [HE.out]; rfl, by (repeat' (first | (with_reducible exact Below.refl _ _) | (with_reducible assumption) | (with_reducible refine Below.alloc ?_ ?_ _) | (with_reducible refine below_drewN ?_ _) | (with_reducible refine Below.drew ?_) | (with_reducible refine Below.setCell ?_ ?_ _) | (with_reducible refine Below.trans ?_ (Below.mono (by assumption) ?_)) | go_size | (simp at *; omega)))⟩

set_option maxRecDepth 100000 in
set_option maxHeartbeats 6400000 in
theorem r15ends_broad (c : Cal) (y : Int) (w : World) (hn : c.name.size ≤ 1000) (hE : askE c y 1601 = 0) (h4 : c.shape = 4) :
    Calls Try.prog 13 #[calV c, .int .i64 y] w (REndsPost c y w) := by
  obtain ⟨_, hy1, hy2⟩ := ask_ok hE
  have HE := hide hE
  have h4b : (c.shape == 4) = true := by simp [h4]
  have HL := hide (show endsL c y = upto (sunF y) 12 by rw [endsL, if_pos h4]; rfl)
  have HK := hide (fun (i : Nat) (hi : i < 12) => (show wkE y ((i : Int) + 1) 7 = 0 ∧ lastV y ((i : Int) + 1) 7 = sunF y i from by
    have ht : thereB y ((i : Int) + 1) = true := by simp [thereB]; omega
    exact ⟨by simp [wkE, ht], rfl⟩))
  obtain ⟨i0, hi, hi0, hi1, hi2⟩ := info_parts rint_info
  clear hE h4
  simp only [calV]
  go_enter Try.func13, Try.ntmps13
  go_wp2_with fail
  refine (r15told_any c y _ hn).mono ?_
  rintro e w1 ⟨rfl, hb1⟩
  rw [HE.out]
  have hz1 : w.heap.size < w1.heap.size := by have := hb1.size; simp at this; omega
  have HB1 := hide (show Below w.heap.size w w1 by refine Below.trans ?_ (hb1.mono (by first | omega | (simp; done) | (simp; omega))); (repeat' (first | (with_reducible exact Below.refl _ _) | (with_reducible assumption) | (with_reducible refine Below.alloc ?_ ?_ _) | (with_reducible refine below_drewN ?_ _) | (with_reducible refine Below.drew ?_) | (with_reducible refine Below.setCell ?_ ?_ _) | (with_reducible refine Below.trans ?_ (Below.mono (by assumption) ?_)) | go_size | (simp at *; omega))))
  have HQ1 := hide (calAt_below hb1 (by simp) (calAt_new w c))
  obtain ⟨q0, q1, q2, q3, q4, q5, q6, q7, q8, q9, q10, q11, q12, q13⟩ := HQ1.out
  clear hb1
  have HS1 := hide (show IlSt c w.heap.size w1.heap.size [] (.slice none 0 0) w w1 from ⟨HQ1.out, hz1, Nat.le_refl _, ⟨World.ownsRow_nil _ _ _ _, by simp⟩, HB1.out⟩)
  go_wp2_with fail
  go_loopw [7, 8] (fun s7 s8 wr => ∃ k : Nat, s8 = .int .i64 ((k : Int) + 1) ∧ k ≤ 12 ∧ IlSt c w.heap.size w1.heap.size (upto (sunF y) k) s7 w wr) (fun _ s8 _ => (20 - intOf s8).toNat)
  case atStart => exact ⟨0, rfl, by omega, HS1.out⟩
  case round =>
    obtain ⟨k, rfl, hk, hS⟩ := hrel
    have HS := hide hS
    clear hS
    clear q0 q1 q2 q3 q4 q5 q6 q7 q8 q9 q10 q11 q12 q13
    by_cases hlt : k < 12
    · obtain ⟨e1, e2⟩ := HK.out k hlt
      have HKK := hide (And.intro e1 e2)
      have HSN := hide (upto_succ (sunF y) k)
      have hul : (upto (sunF y) k).length = k := upto_length _ _
      obtain ⟨X, hX⟩ : ∃ X, sunF y k = X := ⟨_, rfl⟩
      rw [hX] at HKK HSN
      obtain ⟨U, hU⟩ : ∃ U, upto (sunF y) k = U := ⟨_, rfl⟩
      rw [hU] at HS HSN hul
      clear e1 e2 hX hU
      go_wp2_with fail
      all_goals first
        | (exfalso; omega)
        | skip
      refine (r06last_any y ((k : Int) + 1) 7 _).mono ?_
      rintro e w2 ⟨rfl, hb2⟩
      rw [HKK.out.1, HKK.out.2]
      have HS2 := hide (HS.out.call hb2)
      have hs2 : w1.heap.size ≤ w2.heap.size := HS2.out.2.2.1
      clear hb2
      go_wp2_with ((at_builtin; refine wpList_append_own _ rfl _ _ 30 rfl w1.heap.size 3 i0 (.int .i64 0) 1 8 Try.underlying30 hi hi0 hi1 hi2 rfl (by decide) _ _ _ rfl (HS2.out.2.2.2.1.1.alloc _) ⟨w2.heap.size, 0, none⟩ 1 1 [.int .i64 (X)] rfl rfl ?c1a ?c2a ?c3a ?c4a ?c5a ?_))
      case c1a =>
        intro i u hu
        match i, hu with
        | 0, hu => simp at hu; subst hu; simp [Addr.add]
        | i + 1, hu => simp at hu
      case c2a => intro u hu; simp at hu; subst hu; rfl
      case c3a => unfold maxLen; omega
      case c4a => omega
      case c5a => simp; omega
      · intro v' w' hown' hgrow _
        have HG := hide (HS2.out.grow (x := X) _ (by rw [hul]; exact hown') hgrow)
        clear hown' hgrow
        go_wp2
        go_roundw
        case rel => exact ⟨k + 1, by go_num, by omega, by rw [HSN.out]; exact HG.out⟩
        case measure => simp [intOf]; omega
    · obtain rfl : k = 12 := by omega
      have HI := hide (HS.out.ints (by rw [upto_length]; omega))
      have hBel := HS.out.2.2.2.2
      obtain ⟨U, hU⟩ : ∃ U, upto (sunF y) 12 = U := ⟨_, rfl⟩
      have HU := hide hU
      rw [hU] at HI
      clear hU
      go_wp2
      all_goals first
        | (exfalso; omega)
        | (go_ret2; exact ⟨_, rfl, by rw [HL.out, HU.out]; exact HI.out, by (repeat' (first | (with_reducible exact Below.refl _ _) | (with_reducible assumption) | (with_reducible refine Below.alloc ?_ ?_ _) | (with_reducible refine below_drewN ?_ _) | (with_reducible refine Below.drew ?_) | (with_reducible refine Below.setCell ?_ ?_ _) | (with_reducible refine Below.trans ?_ (Below.mono (by assumption) ?_)) | go_size | (simp at *; omega)))⟩)

set_option maxRecDepth 100000 in
set_option maxHeartbeats 6400000 in
theorem r15ends_month (c : Cal) (y : Int) (w : World) (hn : c.name.size ≤ 1000) (hE : askE c y 1601 = 0) (h5 : c.shape = 5) :
    Calls Try.prog 13 #[calV c, .int .i64 y] w (REndsPost c y w) := by
  obtain ⟨hok, hy1, hy2⟩ := ask_ok hE
  have hk6 : c.kind = 6 := (ok_shape hok).2.1.2 h5
  have HE := hide hE
  have h4b : (c.shape == 4) = false := by simp [h5]
  have h5b : (c.shape == 5) = true := by simp [h5]
  have hL : endsL c y = upto (monF (startV c y)) 12 := by rw [endsL, if_neg (by omega), if_pos h5]; rfl
  have hst := start_mFirst c y hE hk6
  have hmo : 19200 ≤ mOf c y ∧ mOf c y + 13 < 120000 := by
    obtain ⟨hm, hs, _, _⟩ := ok_rule hok
    unfold mOf; omega
  have HM := hide (fun (k : Nat) (hk : k < 12) => (show isB (monS (startV c y) k) = true ∧ lenE (ofY (monS (startV c y) k)) (ofM (monS (startV c y) k)) = 0 ∧ monS (startV c y) (k + 1) = monS (startV c y) k + lenV (ofY (monS (startV c y) k)) (ofM (monS (startV c y) k)) from by
    have e := monS_mFirst (mOf c y) hmo.1 k (by omega)
    rw [hst]
    refine ⟨?_, ?_, rfl⟩
    · rw [e]; exact dayN_bd (mFirst_date _ (by omega) (by omega))
    · rw [e, (of_mFirst _ (by omega) (by omega)).1, (of_mFirst _ (by omega) (by omega)).2, lenE, if_pos (mFirst_there _ (by omega) (by omega))]))
  have HMB := hide (fun k => monS_bd (startV c y) k)
  have hyb := year_bd c y hE
  obtain ⟨D, hD⟩ : ∃ D, startV c y = D := ⟨_, rfl⟩
  rw [hD] at hL HM HMB hyb
  have HD := hide hD
  have HL := hide hL
  have HF := hide (fun (k : Nat) => (show monF D k = monS D (k + 1) - 1 from rfl))
  have hDb : 0 ≤ D ∧ D ≤ 3068037 := ⟨hyb.1, hyb.2.1⟩
  obtain ⟨i0, hi, hi0, hi1, hi2⟩ := info_parts rint_info
  clear hE h5 hok hk6 hL hst hmo hyb hD
  simp only [calV]
  go_enter Try.func13, Try.ntmps13
  go_wp2_with fail
  refine (r15told_any c y _ hn).mono ?_
  rintro e w1 ⟨rfl, hb1⟩
  rw [HE.out]
  have hz1 : w.heap.size < w1.heap.size := by have := hb1.size; simp at this; omega
  have HB1 := hide (show Below w.heap.size w w1 by refine Below.trans ?_ (hb1.mono (by first | omega | (simp; done) | (simp; omega))); (repeat' (first | (with_reducible exact Below.refl _ _) | (with_reducible assumption) | (with_reducible refine Below.alloc ?_ ?_ _) | (with_reducible refine below_drewN ?_ _) | (with_reducible refine Below.drew ?_) | (with_reducible refine Below.setCell ?_ ?_ _) | (with_reducible refine Below.trans ?_ (Below.mono (by assumption) ?_)) | go_size | (simp at *; omega))))
  have HQ1 := hide (calAt_below hb1 (by simp) (calAt_new w c))
  obtain ⟨q0, q1, q2, q3, q4, q5, q6, q7, q8, q9, q10, q11, q12, q13⟩ := HQ1.out
  clear hb1
  go_wp2_with fail
  refine (r13start_any c y _ hn).mono ?_
  rintro e w2 ⟨rfl, hb2⟩
  rw [HE.out, HD.out]
  have hz2 : w.heap.size < w2.heap.size := by have := hb2.size; (try simp at this); omega
  have HB2 := hide (show Below w.heap.size w w2 by have hp := HB1.out; refine Below.trans ?_ (hb2.mono (by first | omega | (simp; done) | (simp; omega))); (repeat' (first | (with_reducible exact Below.refl _ _) | (with_reducible assumption) | (with_reducible refine Below.alloc ?_ ?_ _) | (with_reducible refine below_drewN ?_ _) | (with_reducible refine Below.drew ?_) | (with_reducible refine Below.setCell ?_ ?_ _) | (with_reducible refine Below.trans ?_ (Below.mono (by assumption) ?_)) | go_size | (simp at *; omega))))
  have HQ2 := hide (show CalAt w2 w.heap.size c from calAt_below hb2 (by first | omega | (simp; done) | (simp; omega)) (by first | exact HQ1.out | exact calAt_alloc HQ1.out (by omega) _ | exact calAt_alloc (calAt_alloc HQ1.out (by omega) _) (by simp; omega) _))
  clear q0 q1 q2 q3 q4 q5 q6 q7 q8 q9 q10 q11 q12 q13
  obtain ⟨q0, q1, q2, q3, q4, q5, q6, q7, q8, q9, q10, q11, q12, q13⟩ := HQ2.out
  clear hb2
  have HS1 := hide (show IlSt c w.heap.size w2.heap.size [] (.slice none 0 0) w w2 from ⟨HQ2.out, hz2, Nat.le_refl _, ⟨World.ownsRow_nil _ _ _ _, by simp⟩, HB2.out⟩)
  go_wp2_with fail
  go_loopw [7, 11, 58] (fun s7 s11 s58 wr => ∃ k : Nat, s58 = .int .i64 k ∧ s11 = .int .i64 (monS D k) ∧ k ≤ 12 ∧ IlSt c w.heap.size w2.heap.size (upto (monF D) k) s7 w wr) (fun _ _ s _ => (20 - intOf s).toNat)
  case atStart => exact ⟨0, rfl, rfl, by omega, HS1.out⟩
  case round =>
    obtain ⟨k, rfl, rfl, hk, hS⟩ := hrel
    have HS := hide hS
    clear hS
    clear q0 q1 q2 q3 q4 q5 q6 q7 q8 q9 q10 q11 q12 q13
    have hmb := HMB.out k
    by_cases hlt : k < 12
    · obtain ⟨e1, e2, e3⟩ := HM.out k hlt
      have hmb1 := HMB.out (k + 1)
      have HSN := hide (upto_succ (monF D) k)
      have hul : (upto (monF D) k).length = k := upto_length _ _
      have hF := HF.out k
      have hlb := len_bd (ofY (monS D k)) (ofM (monS D k))
      obtain ⟨M1, hM1⟩ : ∃ X, monS D (k + 1) = X := ⟨_, rfl⟩
      rw [hM1] at e3 hmb1 hF
      rw [hF] at HSN
      have HM1 := hide hM1
      obtain ⟨M, hM⟩ : ∃ X, monS D k = X := ⟨_, rfl⟩
      rw [hM] at e1 e2 e3 hmb hlb
      rw [hM]
      obtain ⟨Lv, hLv⟩ : ∃ X, lenV (ofY M) (ofM M) = X := ⟨_, rfl⟩
      rw [hLv] at e3 hlb
      have HLV := hide (And.intro hLv e2)
      have HM3 := hide e3
      obtain ⟨U, hU⟩ : ∃ U, upto (monF D) k = U := ⟨_, rfl⟩
      rw [hU] at HS HSN hul
      have HIS := hide e1
      clear e1 e2 e3 hF hM1 hM hLv hU
      go_wp2_with fail
      all_goals first
        | (exfalso; omega)
        | skip
      refine (rof_yes M _ HIS.out).mono ?_
      rintro e w3 ⟨rfl, hb3⟩
      have HS3 := hide (HS.out.call hb3)
      clear hb3
      go_wp2_with fail
      refine (rlength_any (ofY M) (ofM M) _).mono ?_
      rintro e w4 ⟨rfl, rfl⟩
      rw [HLV.out.1, HLV.out.2]
      have hs3 : w2.heap.size ≤ w3.heap.size := HS3.out.2.2.1
      have HS4 := hide (HS3.out.call (show Below w3.heap.size w3 (w3.alloc (.cells #[.int .i64 (ofY M), .int .i64 (ofM M), .int .i64 (ofD M)] 57)) by (repeat' (first | (with_reducible exact Below.refl _ _) | (with_reducible assumption) | (with_reducible refine Below.alloc ?_ ?_ _) | (with_reducible refine below_drewN ?_ _) | (with_reducible refine Below.drew ?_) | (with_reducible refine Below.setCell ?_ ?_ _) | (with_reducible refine Below.trans ?_ (Below.mono (by assumption) ?_)) | go_size | (simp at *; omega)))))
      go_wp2_with ((at_builtin; refine wpList_append_own _ rfl _ _ 30 rfl w2.heap.size 3 i0 (.int .i64 0) 1 8 Try.underlying30 hi hi0 hi1 hi2 rfl (by decide) _ _ _ rfl (HS4.out.2.2.2.1.1.alloc _) ⟨w3.heap.size + 1, 0, none⟩ 1 1 [.int .i64 (M + Lv - 1)] rfl rfl ?c1b ?c2b ?c3b ?c4b ?c5b ?_))
      case c1b =>
        intro i u hu
        match i, hu with
        | 0, hu => simp at hu; subst hu; simp [Addr.add]
        | i + 1, hu => simp at hu
      case c2b => intro u hu; simp at hu; subst hu; rfl
      case c3b => unfold maxLen; omega
      case c4b => omega
      case c5b => simp; omega
      · intro v' w' hown' hgrow _
        rw [show M + Lv - 1 = M1 - 1 by have := HM3.out; omega] at hown'
        have HG := hide (HS4.out.grow (x := M1 - 1) _ (by rw [hul]; exact hown') hgrow)
        clear hown' hgrow
        go_wp2
        go_roundw
        case rel => exact ⟨k + 1, by go_num, by rw [HM1.out]; congr 1; have := HM3.out; omega, by omega, by rw [HSN.out]; exact HG.out⟩
        case measure => simp [intOf]; omega
    · obtain rfl : k = 12 := by omega
      have HI := hide (HS.out.ints (by rw [upto_length]; omega))
      have hBel := HS.out.2.2.2.2
      obtain ⟨U, hU⟩ : ∃ U, upto (monF D) 12 = U := ⟨_, rfl⟩
      have HU := hide hU
      rw [hU] at HI
      obtain ⟨M, hM⟩ : ∃ X, monS D 12 = X := ⟨_, rfl⟩
      rw [hM]
      clear hU hM hmb
      go_wp2
      all_goals first
        | (exfalso; omega)
        | (go_ret2; exact ⟨_, rfl, by rw [HL.out, HU.out]; exact HI.out, by (repeat' (first | (with_reducible exact Below.refl _ _) | (with_reducible assumption) | (with_reducible refine Below.alloc ?_ ?_ _) | (with_reducible refine below_drewN ?_ _) | (with_reducible refine Below.drew ?_) | (with_reducible refine Below.setCell ?_ ?_ _) | (with_reducible refine Below.trans ?_ (Below.mono (by assumption) ?_)) | go_size | (simp at *; omega)))⟩)
end Go.Proofs.Ytojdngkleiokgaa
