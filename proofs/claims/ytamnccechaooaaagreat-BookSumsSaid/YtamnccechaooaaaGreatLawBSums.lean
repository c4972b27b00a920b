/- The walk of BookSums. -/
import Derived.Test.YtamnccechaooaaaGreatBookZ
import Derived.Test.YtamnccechaooaaaGreatBookH
import Derived.Test.YtamnccechaooaaaGreatRowB
namespace Go.Proofs.YtamnccechaooaaaGreat
open Go.RowKit Qd
set_option linter.unusedSimpArgs false
set_option linter.unusedVariables false

set_option maxRecDepth 100000 in
set_option maxHeartbeats 6400000 in
theorem bsm_walk (c : Cal) (hn : c.name.size ≤ 9223372036854775807) (u : Un) (lv : Int) (v1 v2 : Value) (P : List Po) (A : List Ac) (w : World) (hP : Posts w v1 P) (hA : Accs w v2 A) (hp : ∀ x ∈ P, PoWf x) (ha : ∀ x ∈ A, AcWf x) (hl1 : P.length ≤ 9223372036854775807) (hl2 : A.length ≤ 9223372036854775807) :
    Calls Tryz.prog 13 #[calV c, unitV u, .int .i64 lv, .agg #[v1, v2]] w fun e w' => e = .returned (.bool true) ∧ Below w.heap.size w w' := by
  have HP := hide hP
  have HA := hide hA
  have HW := hide (And.intro (fun x h => (hp x h).2) (fun x h => (ha x h).2.2))
  have H0 := hide (ttSt_new c u v1 v2 w)
  clear hp ha
  obtain ⟨ad1, cap1, rfl, _⟩ := hP
  obtain ⟨ad2, cap2, rfl, _⟩ := hA
  simp only [calV, unitV]
  go_enter Tryz.func13, Tryz.ntmps13
  go_wp2_with fail
  refine (live22_any _).mono ?_
  rintro e w1 ⟨rfl, hb1⟩
  have HS1 := hide (H0.out.call hb1)
  clear hb1
  obtain ⟨⟨q0, q1, q2, q3, q4, q5, q6, q7, q8, q9, q10, q11, q12, q13⟩, ⟨u0, u1, u2⟩, ⟨k0, k1⟩, hsz, hBel⟩ := HS1.out.cells
  have hy1 : w.heap.size < w1.heap.size := by omega
  go_wp2_with fail
  refine (few_any c P A _ _ _ (HP.out.call HS1.out.2.2.2.2) (HA.out.call HS1.out.2.2.2.2) hn hl1 hl2).mono ?_
  rintro e w2 ⟨rfl, hb2⟩
  have HS2 := hide (HS1.out.call hb2)
  clear hb2 q0 q1 q2 q3 q4 q5 q6 q7 q8 q9 q10 q11 q12 q13 u0 u1 u2 k0 k1 hsz hBel hy1
  cases hF : fewB c P A
  · have hBel := HS2.out.2.2.2.2
    go_wp2
    go_ret
    exact ⟨rfl, hBel⟩
  obtain ⟨hf1, _, _, hf4⟩ := few_out hF
  have HBK := hide (bookF c P A (.slice ad2 A.length cap2) hF HW.out.1 HW.out.2)
  have hnm : c.name.size ≤ 1000 := by omega
  clear hF hf4
  have HBT := hide (fun W (h1 : Posts W (.slice ad1 P.length cap1) P) (h2 : Accs W (.slice ad2 A.length cap2) A) => btotal_bk c u P A (ZA c A) _ _ W hnm h1 h2 HBK.out)
  have HRO := hide (fun W (h1 : Posts W (.slice ad1 P.length cap1) P) (h2 : Accs W (.slice ad2 A.length cap2) A) => broll_any c lv u.yr P A (ZA c A) _ _ W hnm h1 h2 HBK.out)
  have HDN := hide (fun W => down_any c u lv W hnm)
  have HER := hide (fun h1 h2 => sums_err (c := c) (u := u) (lv := lv) (P := P) (A := A) (Z := ZA c A) h1 h2)
  have HSM := hide (fun h1 h2 => sums_T (c := c) (u := u) (lv := lv) (P := P) (A := A) (Z := ZA c A) h1 h2)
  have HRG := hide (fun (j : Nat) h => rollL_get (c := c) (lv := lv) (y := u.yr) (P := P) (A := A) (Z := ZA c A) (j := j) h)
  have HCB := hide (fun (h : rollE c lv u.yr P A (ZA c A) = 0) => cntBd (roll_zero h).1)
  obtain ⟨T, hT⟩ : ∃ x, TV c P A (ZA c A) u = x := ⟨_, rfl⟩
  obtain ⟨E, hE⟩ : ∃ x, TE c P A (ZA c A) u = x := ⟨_, rfl⟩
  obtain ⟨R, hR⟩ : ∃ x, rollE c lv u.yr P A (ZA c A) = x := ⟨_, rfl⟩
  obtain ⟨D, hD⟩ : ∃ x, dnE c u lv = x := ⟨_, rfl⟩
  obtain ⟨va, hva⟩ : ∃ x, dnA c u lv = x := ⟨_, rfl⟩
  obtain ⟨vb, hvb⟩ : ∃ x, dnB c u lv = x := ⟨_, rfl⟩
  obtain ⟨n, hnn⟩ : ∃ x, cntL c u.yr lv = x := ⟨_, rfl⟩
  rw [hT, hE] at HBT HSM
  rw [hE] at HER
  rw [hR] at HRO HER HSM HCB
  rw [hD] at HDN HER HSM
  rw [hva] at HDN HSM
  rw [hvb] at HDN HSM
  rw [hnn] at HRO HSM HRG HCB
  simp only [calV, unitV] at HBT HRO HDN
  clear hT hE hR hD hva hvb hnn
  obtain ⟨⟨q0, q1, q2, q3, q4, q5, q6, q7, q8, q9, q10, q11, q12, q13⟩, ⟨u0, u1, u2⟩, ⟨k0, k1⟩, hsz, hBel⟩ := HS2.out.cells
  have hy1 : w.heap.size < w2.heap.size := by omega
  go_wp2_with fail
  refine (HBT.out _ (HP.out.call hBel) (HA.out.call hBel)).mono ?_
  rintro e w3 ⟨rfl, hb3⟩
  have HS3 := hide (HS2.out.call hb3)
  clear hb3 q0 q1 q2 q3 q4 q5 q6 q7 q8 q9 q10 q11 q12 q13 u0 u1 u2 k0 k1 hsz hBel hy1
  obtain ⟨⟨q0, q1, q2, q3, q4, q5, q6, q7, q8, q9, q10, q11, q12, q13⟩, ⟨u0, u1, u2⟩, ⟨k0, k1⟩, hsz, hBel⟩ := HS3.out.cells
  have hy1 : w.heap.size < w3.heap.size := by omega
  go_wp2_with fail
  refine (HRO.out _ (HP.out.call hBel) (HA.out.call hBel)).mono ?_
  rintro e w4 ⟨⟨vl, rfl, hv1, hv2⟩, hb4⟩
  have HS4 := hide (HS3.out.call hb4)
  have HV := hide (And.intro hv1 hv2)
  clear hv1 hv2 hb4 q0 q1 q2 q3 q4 q5 q6 q7 q8 q9 q10 q11 q12 q13 u0 u1 u2 k0 k1 hsz hBel hy1
  obtain ⟨⟨q0, q1, q2, q3, q4, q5, q6, q7, q8, q9, q10, q11, q12, q13⟩, ⟨u0, u1, u2⟩, _, hsz, hBel⟩ := HS4.out.cells
  have hy1 : w.heap.size < w4.heap.size := by omega
  go_wp2_with fail
  refine (HDN.out _).mono ?_
  rintro e w5 ⟨rfl, hb5⟩
  have HS5 := hide (HS4.out.call hb5)
  have HB5 := hide hb5
  clear hb5 q0 q1 q2 q3 q4 q5 q6 q7 q8 q9 q10 q11 q12 q13 u0 u1 u2 hsz hBel hy1
  have hBel := HS5.out.2.2.2.2
  have hsz := HS5.out.2.2.2.1
  have hle : w.heap.size ≤ w5.heap.size := by omega
  by_cases hR : R = 0
  rotate_left
  · obtain rfl := HV.out.2 hR
    have hRb : (R != 0) = true := by simpa using hR
    clear hR
    go_wp2
    go_ret
    exact ⟨ret_bool (by simp), by (repeat' exact bel)⟩
  subst hR
  obtain ⟨g, rfl, hsh, hg⟩ := HV.out.1 rfl
  have HSH := hide (hsh.call HB5.out)
  have hgl := hsh.lt
  have hg5 : g < w5.heap.size := by have := HB5.out.size; omega
  clear hsh hg
  by_cases hD : D = 0
  rotate_left
  · have hDb : (D != 0) = true := by simpa using hD
    have hc := HER.out rfl hD
    clear hD
    cases hnb : ((n : Int) == 0)
    all_goals
      rcases hc with rfl | rfl | rfl
      all_goals
        go_wp2
        all_goals
          go_ret
          exact ⟨ret_bool (by simp), by (repeat' exact bel)⟩
  subst hD
  obtain ⟨i, m, h1, h2, rfl, rfl, rfl, rfl⟩ := HSM.out rfl rfl
  have hnb := HCB.out rfl
  obtain ⟨f, hf⟩ : ∃ f : Nat → Int, f = fun j : Nat => TV c P A (ZA c A) ⟨lv, u.yr, ((i + j : Nat) : Int) + 1⟩ := ⟨_, rfl⟩
  have HFI := hide (show ∀ j, in64 (f j) from fun j => by rw [hf]; exact TV_in _ _ _ _ _)
  have HRG2 := hide (show ∀ j : Nat, j < m → (rollL c lv u.yr P A (ZA c A))[i + j]? = some (⟨lv, u.yr, ((i + j : Nat) : Int) + 1⟩, f j) from fun j hj => by rw [hf]; exact HRG.out (i + j) (by omega))
  rw [← hf]
  clear hf
  obtain ⟨FV, hFV⟩ : ∃ x, fitV (upto f m).sum = x := ⟨_, rfl⟩
  obtain ⟨FE, hFE⟩ : ∃ x, fitE (upto f m).sum = x := ⟨_, rfl⟩
  have HFV := hide (And.intro hFV hFE)
  rw [hFV, hFE]
  clear hFV hFE
  go_wp2_with fail
  go_loopw [16, 97] (fun s16 s97 wr => ∃ j : Nat, s97 = .int .i64 j ∧ j ≤ m ∧ Hid (wr.ownsRow w5.heap.size 2 1 s16 (upto f j).length (intsC (upto f j)) ∧ Below w5.heap.size w5 wr)) (fun _ s97 _ => (m + 5 - intOf s97).toNat)
  case atStart => exact ⟨0, rfl, Nat.zero_le _, hide ⟨World.ownsRow_nil _ _ _ _, ((Below.refl _ _).alloc (Nat.le_refl _) _).alloc (by simp) _⟩⟩
  case round =>
    obtain ⟨j, rfl, hj, HR⟩ := hrel
    have hwr := HR.out.2.size
    have hgr : g < wr.heap.size := by omega
    have HSW := hide (HSH.out.call HR.out.2)
    by_cases hlt : j < m
    · have hx := HRG2.out j hlt
      obtain ⟨a0, a1, a2, a3⟩ := HSW.out.cell hx
      rw [Nat.add_mul] at a0 a1 a2 a3
      simp only at a3
      have hi1 : (0 : Int) ≤ (j : Int) := by omega
      have hi3 : (j : Int) < (m : Int) := by omega
      have hml : (upto f j).length + [f j].length ≤ 1000000 := by rw [upto_length]; simp; omega
      obtain ⟨N, hN⟩ : ∃ N, f j = N := ⟨_, rfl⟩
      have HUP := hide (show upto f (j + 1) = upto f j ++ [N] by rw [upto_succ, hN])
      rw [hN] at a3 hml
      clear hx hN
      obtain ⟨LT, hLT⟩ : ∃ L, upto f j = L := ⟨_, rfl⟩
      rw [hLT] at HR hml HUP
      clear hLT
      go_wp2_with ((at_builtin; refine app_nums rfl _ _ rfl w5.heap.size _ _ LT [N] rfl (ownsI_call HR.out.1 ?hw) rfl (.inr ⟨_, _, by simp, rfl, ?hl, ?hc⟩) hml ?hz ?_))
      case hw => (repeat' exact bel)
      case hc =>
        intro i y hy
        match i, hy with
        | 0, hy => simp at hy; subst hy; rfl
      case hz => first | omega | (simp; omega)
      intro v' w' hown' hbel hkeep
      have HR2 := hide (show w'.ownsRow w5.heap.size 2 1 v' (upto f (j + 1)).length (intsC (upto f (j + 1))) ∧ Below w5.heap.size w5 w' from by
        rw [HUP.out]
        refine ⟨by simpa using hown', Below.trans ?_ hbel⟩
        have h2 := HR.out.2
        (repeat' exact bel))
      clear hown' hbel hkeep a0 a1 a2 a3
      go_wp2
      go_roundw
      case rel => exact ⟨j + 1, by go_num, by omega, HR2⟩
      case measure => simp [intOf]; omega
    · obtain rfl : j = m := by omega
      have HN := hide (owns_nums HR.out.1)
      have h64 := hide (show ∀ y ∈ upto f j, in64 y from fun y hy => by
        obtain ⟨k, _, rfl⟩ := List.mem_map.1 hy
        exact HFI.out k)
      have hlen2 := hide (show (upto f j).length ≤ 1000000 by rw [upto_length]; omega)
      have hBel2 := hBel.trans (HR.out.2.mono hBel.size)
      go_wp2_with fail
      refine (wsum_any _ (upto f j) _ HN.out h64.out hlen2.out).mono ?_
      rintro e w6 ⟨rfl, hb6⟩
      rw [HFV.out.1, HFV.out.2]
      have hBel3 : Below w.heap.size w w6 := hBel2.trans (hb6.mono hBel2.size)
      clear hb6
      go_wp2
      go_ret
      exact ⟨ret_bool (by simp), hBel3⟩
end Go.Proofs.YtamnccechaooaaaGreat
