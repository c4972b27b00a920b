/- The walk of BookAdds, up to book.Put (its going through is a premise: PutOk). -/
import Derived.Test.YtjhhmeoibfdcmaaGreatAddsP
import Derived.Test.YtjhhmeoibfdcmaaGreatBookK
import Derived.Test.YtjhhmeoibfdcmaaGreatBookH
import Derived.Test.YtjhhmeoibfdcmaaGreatRowB
namespace Go.Proofs.YtjhhmeoibfdcmaaGreat
open Go.RowKit Qd
set_option linter.unusedSimpArgs false
set_option linter.unusedVariables false

/-- What book.Put is asked for where it goes through. -/
def PutOk (P : List Po) (A : List Ac) (p : Po) (v1 v2 : Value) : Prop := ∀ W, Posts W v1 P → Accs W v2 A →
  Calls Tryz.prog 11 #[.agg #[v1, v2], .agg #[.int .i64 p.day, .int .i64 p.n]] W fun e w' => (∃ x y, e = .returned (.tuple #[.agg #[x, y], .int .i64 0]) ∧ Posts w' x (P ++ [p]) ∧ Accs w' y A) ∧ Below W.heap.size W w'
theorem put_facts {P : List Po} {A : List Ac} {p : Po} (h : putE P A p = 0) (hl : P.length ≤ 16) : chkE P A = 0 ∧ isB p.day = true := by
  unfold putE roomE at h
  by_cases hC : chkE P A = 0
  · rw [if_pos hC] at h
    rw [if_neg (show ¬ (P.length : Int) = 4096 by omega)] at h
    rw [if_pos rfl] at h
    refine ⟨hC, ?_⟩
    cases hd : isB p.day
    · simp [daysE, hd] at h
    · rfl
  · rw [if_neg hC, if_neg hC] at h; exact absurd h hC
theorem TV_zero {c : Cal} {u : Un} {P : List Po} {A : List Ac} {Z : Parts} (h : ¬ TE c P A Z u = 0) : TV c P A Z u = 0 := by
  by_cases h1 : unitE c u = 0 ∧ chkE P A = 0 ∧ Z.pe u.yr = 0
  · obtain ⟨t1, t2⟩ := T_ok (Z := Z) h1.1 h1.2.1 h1.2.2
    rw [t1] at h
    rw [t2]
    by_cases h2 : in64 (totL c u P (Z.f u.yr)).sum
    · rw [(fit_yes h2).2] at h; exact absurd rfl h
    · rw [(fit_no h2).1]
  · simp only [TV, tV]; rw [if_neg h1]
def AdSt (c : Cal) (u : Un) (v1 v2 : Value) (p : Po) (B : Nat) (w0 w : World) : Prop := TtSt c u v1 v2 B w0 w ∧ BlkIs w (B + 1 + 1 + 1) #[.int .i64 p.day, .int .i64 p.n] 32
theorem AdSt.call {c : Cal} {u : Un} {v1 v2 : Value} {p : Po} {B : Nat} {w0 w w' : World} (h : AdSt c u v1 v2 p B w0 w) (hb : Below w.heap.size w w') : AdSt c u v1 v2 p B w0 w' := ⟨h.1.call hb, h.2.call hb⟩
theorem adSt_new (c : Cal) (u : Un) (v1 v2 : Value) (p : Po) (w : World) : AdSt c u v1 v2 p w.heap.size w ((((w.alloc (calObj c)).alloc (unObj u)).alloc (.cells #[v1, v2] 30)).alloc (.cells #[.int .i64 p.day, .int .i64 p.n] 32)) := by
  refine ⟨(ttSt_new c u v1 v2 w).call ((Below.refl _ _).alloc (Nat.le_refl _) _), ?_⟩
  simpa using BlkIs.new (((w.alloc (calObj c)).alloc (unObj u)).alloc (.cells #[v1, v2] 30)) #[.int .i64 p.day, .int .i64 p.n] 32

set_option maxRecDepth 100000 in
set_option maxHeartbeats 6400000 in
theorem bad_walk (c : Cal) (hn : c.name.size ≤ 9223372036854775807) (u : Un) (v1 v2 : Value) (P : List Po) (A : List Ac) (p : Po) (w : World) (hP : Posts w v1 P) (hA : Accs w v2 A) (hp : ∀ x ∈ P, PoWf x) (ha : ∀ x ∈ A, AcWf x) (hl1 : P.length ≤ 9223372036854775807) (hl2 : A.length ≤ 9223372036854775807) (hpw : PoWf p)
    (hput : P.length ≤ 16 → A.length ≤ 16 → chkE P A = 0 → isB p.day = true → PutOk P A p v1 v2) :
    Calls Tryz.prog 3 #[calV c, unitV u, .agg #[v1, v2], poV p] w fun e w' => e = .returned (.bool true) ∧ Below w.heap.size w w' := by
  have HP := hide hP
  have HA := hide hA
  have HW := hide (And.intro (fun x h => (hp x h).2) (fun x h => (ha x h).2.2))
  have HPW := hide hpw
  have HPU := hide hput
  have H0 := hide (adSt_new c u v1 v2 p w)
  clear hp ha hpw hput
  obtain ⟨ad1, cap1, rfl, _⟩ := hP
  obtain ⟨ad2, cap2, rfl, _⟩ := hA
  simp only [calV, unitV, poV]
  go_enter Tryz.func3, Tryz.ntmps3
  go_wp2_with fail
  refine (live22_any _).mono ?_
  rintro e w1 ⟨rfl, hb1⟩
  have HS1 := hide (H0.out.call hb1)
  clear hb1
  obtain ⟨⟨q0, q1, q2, q3, q4, q5, q6, q7, q8, q9, q10, q11, q12, q13⟩, _, ⟨k0, k1⟩, hsz, hBel⟩ := HS1.out.1.cells
  have hy1 : w.heap.size < w1.heap.size := by omega
  go_wp2_with fail
  refine (few_any c P A _ _ _ (HP.out.call hBel) (HA.out.call hBel) hn hl1 hl2).mono ?_
  rintro e w2 ⟨rfl, hb2⟩
  have HS2 := hide (HS1.out.call hb2)
  clear hb2 k0 k1 hsz hBel hy1
  clear q0 q1 q2 q3 q4 q5 q6 q7 q8 q9 q10 q11 q12 q13
  have hBel := HS2.out.1.2.2.2.2
  cases hF : fewB c P A
  · go_wp2
    go_ret
    exact ⟨rfl, hBel⟩
  obtain ⟨hf1, hf2, hf3, hf4⟩ := few_out hF
  have HF4 := hide hf4
  have HBK := hide (bookF c P A (.slice ad2 A.length cap2) hF HW.out.1 HW.out.2)
  have hnm : c.name.size ≤ 1000 := by omega
  clear hF hf4
  obtain ⟨_, _, ⟨k0, k1⟩, hsz, _⟩ := HS2.out.1.cells
  obtain ⟨⟨p0, p1⟩, _, _, hzp⟩ := blk_two' HS2.out.2
  have HBT := hide (fun W (h1 : Posts W (.slice ad1 P.length cap1) P) (h2 : Accs W (.slice ad2 A.length cap2) A) => btotal_bk c u P A (ZA c A) _ _ W hnm h1 h2 HBK.out)
  simp only [calV, unitV] at HBT
  by_cases hE : putE P A p = 0
  rotate_left
  · have hEb : (putE P A p != 0) = true := by simpa using hE
    go_wp2_with fail
    refine (put_no P A p _ _ _ (HP.out.call hBel) (HA.out.call hBel) (by omega) hE).mono ?_
    rintro e w3 ⟨rfl, hb3⟩
    have HS3 := hide (HS2.out.call hb3)
    clear hb3 k0 k1 p0 p1 hzp hsz hE hBel
    obtain ⟨⟨q0, q1, q2, q3, q4, q5, q6, q7, q8, q9, q10, q11, q12, q13⟩, ⟨u0, u1, u2⟩, ⟨k0, k1⟩, hsz, hBel⟩ := HS3.out.1.cells
    have hy1 : w.heap.size < w3.heap.size := by omega
    have hy2 : w.heap.size + 1 < w3.heap.size := by omega
    have hy3 : w.heap.size + 1 + 1 < w3.heap.size := by omega
    go_wp2_with fail
    have hbw : Below w.heap.size w (w3.alloc (.cells #[.slice none 0 0, .slice none 0 0] 30)) := hBel.alloc (by omega) _
    refine (HBT.out _ (HP.out.call hbw) (HA.out.call hbw)).mono ?_
    rintro e w4 ⟨rfl, hb4⟩
    have hBel4 := hbw.trans (hb4.mono hbw.size)
    have K9 := hide (BlkIs.call (BlkIs.new w3 #[.slice none 0 0, .slice none 0 0] 30) hb4)
    clear hb4 hbw q0 q1 q2 q3 q4 q5 q6 q7 q8 q9 q10 q11 q12 q13 u0 u1 u2 k0 k1
    obtain ⟨⟨b0, b1⟩, _, _, hzb⟩ := blk_two' K9.out
    go_wp2
    go_ret
    exact ⟨ret_bool (by simp), hBel4⟩
  obtain ⟨hC, hd⟩ := put_facts hE hf2
  have HPO := hide (HPU.out hf2 (by omega) hC hd)
  have HD := hide hd
  clear hE hC hd
  go_wp2_with fail
  refine (HPO.out _ (HP.out.call hBel) (HA.out.call hBel)).mono ?_
  rintro e w3 ⟨⟨x, y, rfl, hx, hy⟩, hb3⟩
  have HS3 := hide (HS2.out.call hb3)
  have HXY := hide (And.intro hx hy)
  obtain ⟨ad3, cap3, rfl, _⟩ := hx
  obtain ⟨ad4, cap4, rfl, _⟩ := hy
  clear hb3 k0 k1 p0 p1 hzp hsz hBel
  obtain ⟨⟨q0, q1, q2, q3, q4, q5, q6, q7, q8, q9, q10, q11, q12, q13⟩, ⟨u0, u1, u2⟩, ⟨k0, k1⟩, hsz, hBel⟩ := HS3.out.1.cells
  have hy1 : w.heap.size < w3.heap.size := by omega
  have hy2 : w.heap.size + 1 < w3.heap.size := by omega
  have hy3 : w.heap.size + 1 + 1 < w3.heap.size := by omega
  go_wp2_with fail
  have hbw : Below w.heap.size w (w3.alloc (.cells #[.slice ad3 (P.length + 1) cap3, .slice ad4 A.length cap4] 30)) := hBel.alloc (by omega) _
  refine (HBT.out _ (HP.out.call hbw) (HA.out.call hbw)).mono ?_
  rintro e w4 ⟨rfl, hb4⟩
  have hb0 := (Below.refl w3.heap.size w3).alloc (Nat.le_refl _) (.cells #[.slice ad3 (P.length + 1) cap3, .slice ad4 A.length cap4] 30)
  have HS4 := hide ((HS3.out.call hb0).call hb4)
  have HX4 := hide (And.intro ((HXY.out.1.call hb0).call hb4) ((HXY.out.2.call hb0).call hb4))
  have K9 := hide (BlkIs.call (BlkIs.new w3 #[.slice ad3 (P.length + 1) cap3, .slice ad4 A.length cap4] 30) hb4)
  clear hb4 hb0 hbw q0 q1 q2 q3 q4 q5 q6 q7 q8 q9 q10 q11 q12 q13 u0 u1 u2 k0 k1 hsz hBel hy1 hy2 hy3
  have hBel := HS4.out.1.2.2.2.2
  by_cases hE : TE c P A (ZA c A) u = 0
  rotate_left
  · have hT := TV_zero hE
    have hEb : (TE c P A (ZA c A) u != 0) = true := by simpa using hE
    rw [hT]
    clear hE hT
    obtain ⟨⟨b0, b1⟩, _, _, hzb⟩ := blk_two' K9.out
    have hlb : (((P.length : Int) + 1) == 0) = false := by simp; omega
    go_wp2
    all_goals first
      | (exfalso; omega)
      | (go_ret; exact ⟨ret_bool (by simp), hBel⟩)
  obtain ⟨a1, a2⟩ := adds_T (p := p) hE (by omega) HD.out
  have HBN := hide (bookA c (P ++ [p]) A (.slice ad4 A.length cap4) hnm ⟨by simp; omega, by omega⟩ (fun q hq => by
    rcases List.mem_append.1 hq with hq | hq
    · exact HW.out.1 q hq
    · simp at hq; subst hq; exact HPW.out.2) HW.out.2 HF4.out)
  have HBT2 := hide (fun W (h1 : Posts W (.slice ad3 (P ++ [p]).length cap3) (P ++ [p])) (h2 : Accs W (.slice ad4 A.length cap4) A) => btotal_bk c u (P ++ [p]) A (ZA c A) _ _ W hnm h1 h2 HBN.out)
  have HFD := hide (fun w => fday_any c p.day u.lv w hnm)
  have HTI := hide (TV_in c P A (ZA c A) u)
  rw [hE]
  obtain ⟨X, hX⟩ : ∃ X, TV c P A (ZA c A) u = X := ⟨_, rfl⟩
  obtain ⟨X2, hX2⟩ : ∃ X, TV c (P ++ [p]) A (ZA c A) u = X := ⟨_, rfl⟩
  obtain ⟨E2, hE2⟩ : ∃ X, TE c (P ++ [p]) A (ZA c A) u = X := ⟨_, rfl⟩
  obtain ⟨fE, hfE⟩ : ∃ X, fdE c p.day u.lv = X := ⟨_, rfl⟩
  obtain ⟨fU, hfU⟩ : ∃ X, fdU c p.day u.lv = X := ⟨_, rfl⟩
  rw [hX] at a1 a2 HTI ⊢
  rw [hX2] at a1 a2 HBT2
  rw [hE2] at a1 a2 HBT2
  rw [hfE] at a1 a2 HFD
  rw [hfU] at a1 a2 HFD
  simp only [calV, unitV, List.length_append, List.length_cons, List.length_nil, Nat.zero_add] at HBT2 HFD
  clear hE hX hX2 hE2 hfE hfU
  obtain ⟨⟨q0, q1, q2, q3, q4, q5, q6, q7, q8, q9, q10, q11, q12, q13⟩, ⟨u0, u1, u2⟩, _, hsz, _⟩ := HS4.out.1.cells
  obtain ⟨⟨b0, b1⟩, _, _, hzb⟩ := blk_two' K9.out
  have hy1 : w.heap.size < w4.heap.size := by omega
  have hy2 : w.heap.size + 1 < w4.heap.size := by omega
  go_wp2_with fail
  refine (HBT2.out _ (by simpa using HX4.out.1) HX4.out.2).mono ?_
  rintro e w5 ⟨rfl, hb5⟩
  have HS5 := hide (HS4.out.call hb5)
  clear hb5 q0 q1 q2 q3 q4 q5 q6 q7 q8 q9 q10 q11 q12 q13 u0 u1 u2 b0 b1 hzb hsz hBel hy1 hy2
  obtain ⟨⟨q0, q1, q2, q3, q4, q5, q6, q7, q8, q9, q10, q11, q12, q13⟩, ⟨u0, u1, u2⟩, _, hsz, hBel⟩ := HS5.out.1.cells
  obtain ⟨⟨p0, p1⟩, _, _, hzp⟩ := blk_two' HS5.out.2
  have hy1 : w.heap.size < w5.heap.size := by omega
  have hy2 : w.heap.size + 1 < w5.heap.size := by omega
  go_wp2_with fail
  refine (HFD.out _).mono ?_
  rintro e w6 ⟨rfl, hb6⟩
  have HS6 := hide (HS5.out.call hb6)
  clear hb6 q0 q1 q2 q3 q4 q5 q6 q7 q8 q9 q10 q11 q12 q13 u0 u1 u2 p0 p1 hzp hsz hBel hy1 hy2
  obtain ⟨_, ⟨u0, u1, u2⟩, _, hsz, hBel⟩ := HS6.out.1.cells
  obtain ⟨⟨p0, p1⟩, _, _, hzp⟩ := blk_two' HS6.out.2
  have hy2 : w.heap.size + 1 < w6.heap.size := by omega
  have hy3 : w.heap.size + 1 + 1 + 1 < w6.heap.size := hzp
  have hle : w.heap.size ≤ w6.heap.size := by omega
  by_cases hf : fE = 0 ∧ fU = u
  · obtain ⟨g1, g2⟩ := a1 hf
    obtain ⟨rfl, rfl⟩ := hf
    subst g1 g2
    have hub : unB fU.lv fU.yr fU.ix fU.lv fU.yr fU.ix = true := by simp [unB]
    clear a1 a2
    have HSM := hide (fun v w (h : Nums w v [X, p.n]) => wsum_any v [X, p.n] w h (by intro z hz; simp at hz; rcases hz with rfl | rfl; exact HTI.out; exact HPW.out.2) (by simp))
    simp only [List.sum_cons, List.sum_nil, Int.add_zero] at HSM
    obtain ⟨S1, hS1⟩ : ∃ x, fitV (X + p.n) = x := ⟨_, rfl⟩
    obtain ⟨S2, hS2⟩ : ∃ x, fitE (X + p.n) = x := ⟨_, rfl⟩
    rw [hS1, hS2] at HSM ⊢
    clear hS1 hS2
    go_wp2_with fail
    obtain ⟨W, hW⟩ : ∃ W, (w6.alloc (.cells #[.int .i64 fU.lv, .int .i64 fU.yr, .int .i64 fU.ix] 26)).alloc (.cells #[.int .i64 X, .int .i64 p.n] 2) = W := ⟨_, rfl⟩
    have hK : BlkIs W (w6.heap.size + 1) #[.int .i64 X, .int .i64 p.n] 2 := by
      rw [← hW]
      simpa using BlkIs.new (w6.alloc (.cells #[.int .i64 fU.lv, .int .i64 fU.yr, .int .i64 fU.ix] 26)) #[.int .i64 X, .int .i64 p.n] 2
    have hWb : Below w.heap.size w W := by rw [← hW]; exact (hBel.alloc hle _).alloc (by simp; omega) _
    have HNU := hide (show Nums W (.slice (some ⟨w6.heap.size + 1, 0, none⟩) 2 2) [X, p.n] from ⟨_, _, rfl, fun i z hz => by
      match i, hz with
      | 0, hz => simp at hz; subst hz; exact ⟨_, 0, rfl, hK.lt, hK.cell 0⟩
      | 1, hz => simp at hz; subst hz; exact ⟨_, 0, rfl, hK.lt, hK.cell 1⟩⟩)
    rw [hW]
    clear hW hK
    refine (HSM.out _ W HNU.out).mono ?_
    rintro e w7 ⟨rfl, hb7⟩
    have hBel7 := hWb.trans (hb7.mono hWb.size)
    clear hb7
    go_wp2
    go_ret
    exact ⟨ret_bool (by simp), hBel7⟩
  · obtain ⟨rfl, rfl⟩ := a2 hf
    clear a1 a2
    by_cases h0 : fE = 0
    · have hub : unB fU.lv fU.yr fU.ix u.lv u.yr u.ix = false := by
        cases hu : unB fU.lv fU.yr fU.ix u.lv u.yr u.ix
        · rfl
        · exfalso
          apply hf
          refine ⟨h0, ?_⟩
          obtain ⟨l, yy, i⟩ := fU
          obtain ⟨l2, y2, i2⟩ := u
          simp [unB] at hu
          simp only [Un.mk.injEq]
          omega
      subst h0
      clear hf
      go_wp2
      all_goals first
        | (exfalso; omega)
        | (go_ret; exact ⟨ret_bool (by simp), by (repeat' exact bel)⟩)
    · have hfb : (fE != 0) = true := by simpa using h0
      clear hf h0
      go_wp2
      all_goals first
        | (exfalso; omega)
        | (go_ret; exact ⟨ret_bool (by simp), by (repeat' exact bel)⟩)
end Go.Proofs.YtjhhmeoibfdcmaaGreat
