/- Contracts of the references: dates of days; last and near weekdays (layers 5, 6). -/
import Derived.Test.YtojdngkleiokgaaRefC
import Derived.Test.YtojdngkleiokgaaEndsA
namespace Go.Proofs.Ytojdngkleiokgaa
open Go.RowKit Qd
set_option linter.unusedSimpArgs false
set_option linter.unusedVariables false

theorem BlkIs.set2a {w : World} {B : Nat} {a b c : Value} {t : TypeId} (h : BlkIs w B #[a, b, c] t) (u : Value) : BlkIs (w.setCell ⟨B, 0, none⟩ u) B #[u, b, c] t := by
  unfold BlkIs at h ⊢
  simp [World.setCell, Array.getElem?_modify, h]
theorem BlkIs.set2b {w : World} {B : Nat} {a b c : Value} {t : TypeId} (h : BlkIs w B #[a, b, c] t) (u : Value) : BlkIs (w.setCell ⟨B, 1, none⟩ u) B #[a, u, c] t := by
  unfold BlkIs at h ⊢
  simp [World.setCell, Array.getElem?_modify, h]
theorem BlkIs.set2c {w : World} {B : Nat} {a b c : Value} {t : TypeId} (h : BlkIs w B #[a, b, c] t) (u : Value) : BlkIs (w.setCell ⟨B, 2, none⟩ u) B #[a, b, u] t := by
  unfold BlkIs at h ⊢
  simp [World.setCell, Array.getElem?_modify, h]
theorem BlkIs.fz3 {w : World} {B : Nat} {cs : Array Value} {t : TypeId} (h : BlkIs w B cs t) (i : Nat) : w.frozen? ⟨B, i, none⟩ = false := by simp [World.frozen?, show w.heap[B]? = _ from h]

/-- What is kept in the loops: the result's box, the date so far. -/
def OfSt (B : Nat) (y m : Int) (w0 w : World) : Prop := BlkIs w B #[.int .i64 0, .int .i64 0, .int .i64 0] 57 ∧ BlkIs w (B + 1) #[.int .i64 y, .int .i64 m, .int .i64 1] 57 ∧ Below B w0 w
theorem OfSt.sety {B : Nat} {y m : Int} {w0 w : World} (h : OfSt B y m w0 w) (z : Int) : OfSt B z m w0 (w.setCell ⟨B + 1, 0, none⟩ (.int .i64 z)) := ⟨h.1.far (by simp) _, h.2.1.set2a _, h.2.2.setCell (by simp) _⟩
theorem OfSt.setm {B : Nat} {y m : Int} {w0 w : World} (h : OfSt B y m w0 w) (z : Int) : OfSt B y z w0 (w.setCell ⟨B + 1, 1, none⟩ (.int .i64 z)) := ⟨h.1.far (by simp) _, h.2.1.set2b _, h.2.2.setCell (by simp) _⟩
theorem OfSt.facts {B : Nat} {y m : Int} {w0 w : World} (h : OfSt B y m w0 w) : (w.cell? ⟨B + 1, 0, none⟩ = some (.int .i64 y) ∧ w.cell? ⟨B + 1, 1, none⟩ = some (.int .i64 m) ∧ w.cell? ⟨B + 1, 2, none⟩ = some (.int .i64 1)) ∧ (w.frozen? ⟨B + 1, 0, none⟩ = false ∧ w.frozen? ⟨B + 1, 1, none⟩ = false ∧ w.frozen? ⟨B + 1, 2, none⟩ = false) ∧
    (w.cell? ⟨B, 0, none⟩ = some (.int .i64 0) ∧ w.cell? ⟨B, 1, none⟩ = some (.int .i64 0) ∧ w.cell? ⟨B, 2, none⟩ = some (.int .i64 0)) ∧ (w.frozen? ⟨B, 0, none⟩ = false ∧ w.frozen? ⟨B, 1, none⟩ = false ∧ w.frozen? ⟨B, 2, none⟩ = false) :=
  ⟨⟨h.2.1.cell 0, h.2.1.cell 1, h.2.1.cell 2⟩, ⟨h.2.1.fz3 0, h.2.1.fz3 1, h.2.1.fz3 2⟩, ⟨h.1.cell 0, h.1.cell 1, h.1.cell 2⟩, ⟨h.1.fz3 0, h.1.fz3 1, h.1.fz3 2⟩⟩
theorem OfSt.lt {B : Nat} {y m : Int} {w0 w : World} (h : OfSt B y m w0 w) : B + 1 < w.heap.size := h.2.1.lt
theorem res_rof {tmps : Array Value} {W : World} {B : Nat} {a0 a1 a2 e : Int} (h6 : tmps[2]? = some (.pointer (some ⟨B, 0, none⟩))) (h7 : tmps[3]? = some (.int .i64 e))
    (g6 : BlkIs W B #[.int .i64 a0, .int .i64 a1, .int .i64 a2] 57) :
    (results Try.f39 tmps).run Try.prog W = .ok (.tuple #[.agg #[.int .i64 a0, .int .i64 a1, .int .i64 a2], .int .i64 e]) W := by
  have c0 := g6.cell 0
  have c1 := g6.cell 1
  have c2 := g6.cell 2
  simp at c0 c1 c2
  simp [results, Try.results39, go_sem, h6, h7, c0, c1, c2]
set_option maxHeartbeats 800000 in
theorem rof_no (day : Int) (w : World) (h : isB day = false) :
    Calls Try.prog 39 #[.int .i64 day] w fun e w' => e = .returned (.tuple #[.agg #[.int .i64 0, .int .i64 0, .int .i64 0], .int .i64 4]) ∧ Below w.heap.size w w' := by
  rcases (show day < 0 ∨ (0 ≤ day ∧ 3068036 < day) by simp [isB] at h; omega) with h1 | ⟨h1, h2⟩
  all_goals
    clear h
    go_enter Try.func39, Try.ntmps39
    go_wp2_with fail
    all_goals first
      | (exfalso; omega)
      | (refine bodyPost_ret (v := .tuple #[.agg #[.int .i64 0, .int .i64 0, .int .i64 0], .int .i64 4]) (res_rof rfl rfl (BlkIs.new w #[.int .i64 0, .int .i64 0, .int .i64 0] 57)) rfl ⟨rfl, by (repeat' (first | (with_reducible exact Below.refl _ _) | (with_reducible assumption) | (with_reducible refine Below.alloc ?_ ?_ _) | (with_reducible refine below_drewN ?_ _) | (with_reducible refine Below.drew ?_) | (with_reducible refine Below.setCell ?_ ?_ _) | (with_reducible refine Below.trans ?_ (Below.mono (by assumption) ?_)) | go_size | (simp at *; omega)))⟩)

set_option maxRecDepth 100000 in
set_option maxHeartbeats 6400000 in
theorem rof_yes (day : Int) (w : World) (h : isB day = true) :
    Calls Try.prog 39 #[.int .i64 day] w fun e w' => e = .returned (.tuple #[.agg #[.int .i64 (ofY day), .int .i64 (ofM day), .int .i64 (ofD day)], .int .i64 0]) ∧ Below w.heap.size w w' := by
  have hd : 0 ≤ day ∧ day < 3068037 := by simpa [isB] using h
  have HYB := hide (fun z (h1 : 1600 ≤ z) (h2 : z ≤ 10000) => years_bd z h1 h2)
  have HY4 := hide years_400
  have HYL := hide years_long
  have HAB := hide ahead_bd
  have HYE := hide years_end
  have HLB := hide len_bd
  have HOF := hide (fun y m d (h1 : dateB y m d = true) (h2 : dayN y m d = day) => (show ofY day = y ∧ ofM day = m ∧ ofD day = d by rw [← h2]; exact of_dayN h1))
  clear h
  go_enter Try.func39, Try.ntmps39
  go_wp2_with fail
  all_goals first
    | (exfalso; omega)
    | skip
  go_loopw [0] (fun sd wr => ∃ z : Int, sd = .int .i64 (day - yearsV z) ∧ 1600 ≤ z ∧ z ≤ 9999 ∧ (z - 1600) % 400 = 0 ∧ yearsV z ≤ day ∧ OfSt w.heap.size z 1 w wr) (fun sd _ => (intOf sd).toNat)
  case atStart =>
    refine ⟨1600, by rw [years_1600, Int.sub_zero], by omega, by omega, by omega, by rw [years_1600]; omega, ?_, ?_, ?_⟩
    · exact (BlkIs.new w _ _).alloc _
    · simpa using BlkIs.new (w.alloc (.cells #[.int .i64 0, .int .i64 0, .int .i64 0] 57)) #[.int .i64 1600, .int .i64 1, .int .i64 1] 57
    · (repeat' (first | (with_reducible exact Below.refl _ _) | (with_reducible assumption) | (with_reducible refine Below.alloc ?_ ?_ _) | (with_reducible refine below_drewN ?_ _) | (with_reducible refine Below.drew ?_) | (with_reducible refine Below.setCell ?_ ?_ _) | (with_reducible refine Below.trans ?_ (Below.mono (by assumption) ?_)) | go_size | (simp at *; omega)))
  case round =>
    obtain ⟨z, rfl, hz1, hz2, hz3, hz4, hS⟩ := hrel
    have HS := hide hS
    have hlt0 := hS.lt
    clear hS
    obtain ⟨⟨k0, k1, k2⟩, ⟨f0, f1, f2⟩, _, _⟩ := HS.out.facts
    have hzb := HYB.out z hz1 (by omega)
    by_cases hlt : 146097 ≤ day - yearsV z
    · have hN := HY4.out z hz1 hz3
      have h9 : z + 400 ≤ 9999 := by
        rcases Int.lt_or_le 9999 (z + 400) with h9 | h9
        · exfalso
          obtain rfl : z = 9600 := by omega
          have e := HYE.out
          have e2 : yearsV (9600 + 400) = yearsV 10000 := rfl
          omega
        · exact h9
      have HN := hide hN
      obtain ⟨Y, hY⟩ : ∃ Y, yearsV z = Y := ⟨_, rfl⟩
      rw [hY] at HN hzb hlt hz4
      rw [hY]
      clear hY hN
      go_wp2
      all_goals first
        | (exfalso; omega)
        | skip
      go_roundw
      case rel => exact ⟨z + 400, by rw [HN.out]; congr 1; omega, by omega, h9, by omega, by rw [HN.out]; omega, HS.out.sety _⟩
      case measure => simp [intOf]; omega
    · clear k0 k1 k2 f0 f1 f2
      go_wp2_with fail
      all_goals first
        | (exfalso; omega)
        | skip
      go_loopw [0] (fun sd wr => ∃ z : Int, sd = .int .i64 (day - yearsV z) ∧ 1600 ≤ z ∧ z ≤ 9999 ∧ yearsV z ≤ day ∧ OfSt w.heap.size z 1 w wr) (fun sd _ => (intOf sd).toNat)
      case atStart => exact ⟨z, rfl, hz1, hz2, hz4, HS.out⟩
      case round =>
        clear hzb hlt hz3 hz4 hlt0 HS hz1 hz2
        obtain ⟨z, rfl, hz1, hz2, hz4, hS⟩ := hrel
        have HS := hide hS
        have hlt0 := hS.lt
        clear hS
        obtain ⟨⟨k0, k1, k2⟩, ⟨f0, f1, f2⟩, _, _⟩ := HS.out.facts
        have hzb := HYB.out z hz1 (by omega)
        have hlz := long_bd z
        have hN := HYL.out z hz1 hz2
        by_cases hlt : longV z ≤ day - yearsV z
        · have h9 : z + 1 ≤ 9999 := by
            rcases Int.lt_or_le 9999 (z + 1) with h9 | h9
            · exfalso
              obtain rfl : z = 9999 := by omega
              have e := HYE.out
              have e2 : yearsV (9999 + 1) = yearsV 10000 := rfl
              omega
            · exact h9
          have HN := hide hN
          obtain ⟨Y, hY⟩ : ∃ Y, yearsV z = Y := ⟨_, rfl⟩
          obtain ⟨G, hG⟩ : ∃ Y, longV z = Y := ⟨_, rfl⟩
          have HG := hide hG
          rw [hY, hG] at HN hlt
          rw [hY] at hzb hz4
          rw [hG] at hlz
          rw [hY]
          clear hY hG hN
          go_wp2_with fail
          refine (rlong_any _ _).mono ?_
          rintro e w2 ⟨rfl, rfl⟩
          rw [HG.out]
          go_wp2_with fail
          all_goals first
            | (exfalso; omega)
            | skip
          refine (rlong_any _ _).mono ?_
          rintro e w2 ⟨rfl, rfl⟩
          rw [HG.out]
          go_wp2
          all_goals first
            | (exfalso; omega)
            | skip
          go_roundw
          case rel => exact ⟨z + 1, by rw [HN.out]; congr 1; omega, by omega, h9, by rw [HN.out]; omega, HS.out.sety _⟩
          case measure => simp [intOf]; omega
        · have h13 := ahead_13 z
          have ha1 := ahead_1 z
          have hlong : longV z = aheadV z 13 := by rw [h13, longV]; split <;> rfl
          rw [hlong] at hlt
          have hlt2 : day - yearsV z < aheadV z 13 := by omega
          have HLEN := hide (fun j (h1 : 1 ≤ j) (h2 : j ≤ 12) => (show thereB z j = true ∧ lenE z j = 0 ∧ lenV z j = aheadV z (j + 1) - aheadV z j from by
            have ht : thereB z j = true := by simp [thereB]; omega
            exact ⟨ht, by simp [lenE, ht], by simp [lenV, ht]⟩))
          have HDN := hide (fun j d => (show dayN z j d = yearsV z + aheadV z j + d - 1 from rfl))
          have h29 := HLB.out z 1
          have hle := (HLEN.out 1 (by omega) (by omega)).2.1
          obtain ⟨Y, hY⟩ : ∃ Y, yearsV z = Y := ⟨_, rfl⟩
          rw [hY] at hzb hz4 hlt2 HDN
          rw [hY]
          have HLT := hide hlt2
          have HLE := hide hle
          have hGl : day - Y < longV z := by rw [hlong]; exact hlt2
          obtain ⟨G, hG⟩ : ∃ Y, longV z = Y := ⟨_, rfl⟩
          have HG := hide hG
          rw [hG] at hGl hlz
          clear h13 hlong hlt hY hN hle hlt2 hG
          go_wp2_with fail
          refine (rlong_any _ _).mono ?_
          rintro e w2 ⟨rfl, rfl⟩
          rw [HG.out]
          go_wp2_with fail
          all_goals first
            | (exfalso; omega)
            | skip
          refine (rlength_any _ _ _).mono ?_
          rintro e w2 ⟨rfl, rfl⟩
          rw [HLE.out]
          clear k0 k1 k2 f0 f1 f2
          go_wp2_with fail
          go_loopw [0, 5] (fun sd sn wr => ∃ j : Int, sd = .int .i64 (day - Y - aheadV z j) ∧ sn = .int .i64 (lenV z j) ∧ 1 ≤ j ∧ j ≤ 12 ∧ aheadV z j ≤ day - Y ∧ OfSt w.heap.size z j w wr) (fun sd _ _ => (intOf sd).toNat)
          case atStart => exact ⟨1, by rw [ha1, Int.sub_zero], rfl, by omega, by omega, by rw [ha1]; omega, HS.out⟩
          case round =>
            clear hlt0 HS
            obtain ⟨j, rfl, rfl, hj1, hj2, hj3, hS⟩ := hrel
            have HS := hide hS
            have hlt0 := hS.lt
            clear hS
            obtain ⟨⟨k0, k1, k2⟩, ⟨f0, f1, f2⟩, ⟨r0, r1, r2⟩, ⟨e0, e1, e2⟩⟩ := HS.out.facts
            have hab := HAB.out z j
            have hlb := HLB.out z j
            obtain ⟨t1, t2, t3⟩ := HLEN.out j hj1 hj2
            have hlo := len_lo z j t1
            by_cases hlt : lenV z j ≤ day - Y - aheadV z j
            · have h12 : j + 1 ≤ 12 := by
                rcases Int.lt_or_le 12 (j + 1) with h9 | h9
                · exfalso
                  obtain rfl : j = 12 := by omega
                  have e := HLT.out
                  have e2 : aheadV z (12 + 1) = aheadV z 13 := rfl
                  omega
                · exact h9
              have hA1 : aheadV z (j + 1) = aheadV z j + lenV z j := by omega
              have HA1 := hide hA1
              have HE2 := hide (HLEN.out (j + 1) (by omega) h12).2.1
              obtain ⟨A, hA⟩ : ∃ A, aheadV z j = A := ⟨_, rfl⟩
              obtain ⟨L, hL⟩ : ∃ A, lenV z j = A := ⟨_, rfl⟩
              rw [hA, hL] at HA1 hlt
              rw [hA] at hab hj3
              rw [hL] at hlb hlo
              rw [hA, hL]
              clear hA1 hA hL t1 t2 t3
              go_wp2_with fail
              all_goals first
                | (exfalso; omega)
                | skip
              refine (rlength_any _ _ _).mono ?_
              rintro e w2 ⟨rfl, rfl⟩
              rw [HE2.out]
              go_wp2
              all_goals first
                | (exfalso; omega)
                | skip
              go_roundw
              case rel => exact ⟨j + 1, by rw [HA1.out]; congr 1; omega, rfl, by omega, h12, by rw [HA1.out]; omega, HS.out.setm _⟩
              case measure => simp [intOf]; omega
            · have hdn := HDN.out j (1 + (day - Y - aheadV z j))
              have hdb : dateB z j (1 + (day - Y - aheadV z j)) = true := by simp [dateB, t1]; omega
              have HO := hide (HOF.out z j _ hdb (by rw [hdn]; omega))
              obtain ⟨A, hA⟩ : ∃ A, aheadV z j = A := ⟨_, rfl⟩
              rw [hA] at HO
              rw [hA] at hab hj3
              obtain ⟨L, hL⟩ : ∃ A, lenV z j = A := ⟨_, rfl⟩
              rw [hA, hL] at hlt
              rw [hL] at hlb hlo
              rw [hA, hL]
              clear hdn hdb t1 t2 t3 hA hL
              go_wp2
              all_goals first
                | (exfalso; omega)
                | skip
              rw [HO.out.1, HO.out.2.1, HO.out.2.2]
              have g1 := ((((HS.out.1.far (p := ⟨w.heap.size + 1, 2, none⟩) (by simp) (.int .i64 (1 + (day - Y - A)))).set2a (.int .i64 z)).set2b (.int .i64 j)).set2c (.int .i64 (1 + (day - Y - A))))
              have hBel := HS.out.2.2
              exact bodyPost_ret (v := .tuple #[.agg #[.int .i64 z, .int .i64 j, .int .i64 (1 + (day - Y - A))], .int .i64 0]) (res_rof rfl rfl g1) rfl ⟨rfl, by (repeat' (first | (with_reducible exact Below.refl _ _) | (with_reducible assumption) | (with_reducible refine Below.alloc ?_ ?_ _) | (with_reducible refine below_drewN ?_ _) | (with_reducible refine Below.drew ?_) | (with_reducible refine Below.setCell ?_ ?_ _) | (with_reducible refine Below.trans ?_ (Below.mono (by assumption) ?_)) | go_size | (simp at *; omega)))⟩
end Go.Proofs.Ytojdngkleiokgaa
