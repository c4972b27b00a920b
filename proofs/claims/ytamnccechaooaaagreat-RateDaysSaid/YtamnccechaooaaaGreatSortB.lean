/- The sort of the parts: two rows turned, how two parts compare. -/
import Derived.Test.YtamnccechaooaaaGreatSortA
namespace Go.Proofs.YtamnccechaooaaaGreat
open Go.RowKit
set_option linter.unusedSimpArgs false
set_option linter.unusedVariables false

theorem swr_at (g cap L : Nat) (p a m b r : List Pt) (n : Nat) (u v k : Int) (D : List Pt) (fv : Value) (w : World) (ha : a.length = n) (hb : b.length = n) (hu : u = (p.length : Int)) (hv : v = (p.length : Int) + n + m.length) (hk : k = n)
    (hDD : D = p ++ a ++ m ++ b ++ r) (hD : PartsAt w g D) (hL : D.length = L) (hl : L ≤ 1000000) :
    Calls Tryz.prog 165 #[.slice (some ⟨g, 0, none⟩) L cap, .int .i64 u, .int .i64 v, .int .i64 k, fv] w fun e w' => e = .returned (.tuple #[]) ∧ PartsAt w' g (p ++ b ++ m ++ a ++ r) ∧ Only g w w' := by
  subst hDD hu hk
  have e : v = ((p.length + n + m.length : Nat) : Int) := by omega
  subst e
  exact swr_any g cap L p a m b r n fv w ha hb hD hL hl

/-- What is kept while two rows are turned. -/
def RotSt (g : Nat) (p a b r : List Pt) (M : Nat) (w0 w : World) (i j : Nat) : Prop :=
  ∃ X A B Y : List Pt, A.length = i ∧ B.length = j ∧ p.length + X.length + i = M ∧ X ++ B ++ A ++ Y = b ++ a ∧ PartsAt w g (p ++ X ++ A ++ B ++ Y ++ r) ∧ Only g w0 w

set_option maxRecDepth 100000 in
set_option maxHeartbeats 3200000 in
theorem rot_any (g cap L : Nat) (p a b r : List Pt) (u v z : Int) (D : List Pt) (fv : Value) (w : World) (ha : 0 < a.length) (hb : 0 < b.length) (hu : u = (p.length : Int)) (hv : v = (p.length : Int) + a.length) (hz : z = (p.length : Int) + a.length + b.length)
    (hDD : D = p ++ a ++ b ++ r) (hD : PartsAt w g D) (hL : D.length = L) (hl : L ≤ 1000000) :
    Calls Tryz.prog 162 #[.slice (some ⟨g, 0, none⟩) L cap, .int .i64 u, .int .i64 v, .int .i64 z, fv] w fun e w' => e = .returned (.tuple #[]) ∧ PartsAt w' g (p ++ b ++ a ++ r) ∧ Only g w w' := by
  subst hDD
  have hLL : p.length + a.length + b.length + r.length = L := by rw [← hL]; simp; omega
  obtain ⟨M, hM⟩ : ∃ M, p.length + a.length = M := ⟨_, rfl⟩
  obtain ⟨na, hna⟩ : ∃ n, a.length = n := ⟨_, rfl⟩
  obtain ⟨nb, hnb⟩ : ∃ n, b.length = n := ⟨_, rfl⟩
  obtain ⟨P, hP⟩ : ∃ n, p.length = n := ⟨_, rfl⟩
  have H0 := hide (show RotSt g p a b r M w w na nb from ⟨[], a, b, [], hna, hnb, by simp; omega, by simp, by simpa using hD, Only.refl _ _⟩)
  rw [hna] at ha hv hz hLL hM
  rw [hnb] at hb hz hLL
  rw [hP] at hu hv hz hLL hM
  have hg := hD.lt
  have HNA := hide (And.intro hna (And.intro hnb hP))
  subst hu hv hz
  clear hD hL hna hnb hP
  go_enter Tryz.func162, Tryz.ntmps162
  go_wp2_with fail
  go_loopw [10, 11] (fun s10 s11 wr => ∃ i j : Nat, s10 = .int .i64 i ∧ s11 = .int .i64 j ∧ (0 < i ∧ 0 < j ∧ i + j ≤ L) ∧ RotSt g p a b r M w wr i j) (fun s t _ => (intOf s + intOf t).toNat)
  case atStart => exact ⟨na, nb, by congr 1; omega, by congr 1; omega, ⟨ha, hb, by omega⟩, H0.out⟩
  case round =>
    obtain ⟨i, j, rfl, rfl, ⟨hi0, hj0, hij⟩, X, A, B, Y, hA, hB, hX, hEq, hPt, hBel⟩ := hrel
    have HS := hide (And.intro (And.intro hA hB) (And.intro hEq (And.intro hPt hBel)))
    have hlen : (p ++ X ++ A ++ B ++ Y ++ r).length = L := by
      have h1 := congrArg List.length hEq
      have h2 := HNA.out
      simp only [List.length_append] at h1 ⊢
      omega
    have HLEN := hide hlen
    have HX := hide hX
    have HP3 := HNA.out.2.2
    have hXb : P + X.length + i = M := by rw [← HP3]; exact hX
    have HXL := hide (show (p ++ X).length = P + X.length by simp; omega)
    obtain ⟨x, hx⟩ : ∃ x, X.length = x := ⟨_, rfl⟩
    rw [hx] at hXb HXL
    clear hA hB hX hEq hPt hBel hlen HP3 hx
    have hMI : (M : Int) = (P : Int) + (na : Int) := by omega
    rcases (show i = j ∨ j < i ∨ i < j by omega) with hc | hc | hc
    · subst hc
      have hne : ((i : Int) != (i : Int)) = false := by simp
      go_wp2_with fail
      all_goals first
        | (exfalso; omega)
        | skip
      refine (swr_at g cap L (p ++ X) A [] B (Y ++ r) i _ _ _ (p ++ X ++ A ++ B ++ Y ++ r) fv _ HS.out.1.1 HS.out.1.2 (by rw [HXL.out]; omega) (by rw [HXL.out]; simp; omega) rfl (by simp) HS.out.2.2.1 HLEN.out hl).mono ?_
      rintro e w2 ⟨rfl, hp2, hb2⟩
      have HF := hide (show PartsAt w2 g (p ++ b ++ a ++ r) from by
        have h := HS.out.2.1
        rw [show p ++ b ++ a ++ r = p ++ (b ++ a) ++ r by simp, ← h]
        simpa using hp2)
      have HFB := hide (HS.out.2.2.2.trans hb2)
      clear hp2 hb2
      go_wp2
      all_goals first
        | (exfalso; omega)
        | (go_end0; exact ⟨rfl, HF.out, HFB.out⟩)
    · have hne : ((i : Int) != (j : Int)) = true := by simp; omega
      have hgt : (j : Int) < (i : Int) := by omega
      have hAs : A = A.take j ++ A.drop j := (List.take_append_drop j A).symm
      go_wp2_with fail
      all_goals first
        | (exfalso; omega)
        | skip
      refine (swr_at g cap L (p ++ X) (A.take j) (A.drop j) B (Y ++ r) j _ _ _ (p ++ X ++ A ++ B ++ Y ++ r) fv _ (by have := HS.out.1.1; simp; omega) HS.out.1.2 (by rw [HXL.out]; omega) (by rw [HXL.out]; have := HS.out.1.1; simp; omega) rfl (by rw [show p ++ X ++ A.take j ++ A.drop j ++ B ++ (Y ++ r) = p ++ X ++ (A.take j ++ A.drop j) ++ B ++ Y ++ r by simp, List.take_append_drop]) HS.out.2.2.1 HLEN.out hl).mono ?_
      rintro e w2 ⟨rfl, hp2, hb2⟩
      have HR := hide (show RotSt g p a b r M w w2 (i - j) j from ⟨X ++ B, A.drop j, A.take j, Y, by have := HS.out.1.1; simp; omega, by have := HS.out.1.1; simp; omega, by have h1 := HX.out; have h2 := HS.out.1.2; simp; omega, by
        have h := HS.out.2.1
        rw [← h, show X ++ B ++ A ++ Y = X ++ B ++ (A.take j ++ A.drop j) ++ Y by rw [List.take_append_drop]]
        simp, by simpa using hp2, HS.out.2.2.2.trans hb2⟩)
      clear hp2 hb2 hAs
      go_wp2
      go_roundw
      case rel => exact ⟨i - j, j, by congr 1; omega, rfl, ⟨by omega, by omega, by omega⟩, HR.out⟩
      case measure => simp [intOf]; omega
    · have hne : ((i : Int) != (j : Int)) = true := by simp; omega
      have hgt : (i : Int) ≤ (j : Int) := by omega
      go_wp2_with fail
      all_goals first
        | (exfalso; omega)
        | skip
      refine (swr_at g cap L (p ++ X) A (B.take (j - i)) (B.drop (j - i)) (Y ++ r) i _ _ _ (p ++ X ++ A ++ B ++ Y ++ r) fv _ HS.out.1.1 (by have := HS.out.1.2; simp; omega) (by rw [HXL.out]; omega) (by rw [HXL.out]; have := HS.out.1.2; simp; omega) rfl (by rw [show p ++ X ++ A ++ B.take (j - i) ++ B.drop (j - i) ++ (Y ++ r) = p ++ X ++ A ++ (B.take (j - i) ++ B.drop (j - i)) ++ Y ++ r by simp, List.take_append_drop]) HS.out.2.2.1 HLEN.out hl).mono ?_
      rintro e w2 ⟨rfl, hp2, hb2⟩
      have HR := hide (show RotSt g p a b r M w w2 i (j - i) from ⟨X, B.drop (j - i), B.take (j - i), A ++ Y, by have := HS.out.1.2; simp; omega, by have := HS.out.1.2; simp; omega, by have h1 := HX.out; omega, by
        have h := HS.out.2.1
        rw [← h, show X ++ B ++ A ++ Y = X ++ (B.take (j - i) ++ B.drop (j - i)) ++ A ++ Y by rw [List.take_append_drop]]
        simp, by simpa using hp2, HS.out.2.2.2.trans hb2⟩)
      clear hp2 hb2
      go_wp2
      go_roundw
      case rel => exact ⟨i, j - i, rfl, by congr 1; omega, ⟨by omega, by omega, by omega⟩, HR.out⟩
      case measure => simp [intOf]; omega

/-- How two parts compare. -/
def cmpI (x y : Pt) : Int := if y.ab < x.ab then -1 else if x.ab < y.ab then 1 else 0
theorem cmpI_neg (x y : Pt) : cmpI x y < 0 ↔ y.ab < x.ab := by unfold cmpI; split <;> (try split) <;> omega
set_option maxHeartbeats 800000 in
theorem nan_i64 (a : Int) (w : World) : Calls Tryz.prog 133 #[.int .i64 a] w fun e w' => e = .returned (.bool false) ∧ w = w' := by
  go_enter Tryz.func133, Tryz.ntmps133
  go_wp2
  go_ret
  exact ⟨ret_bool (by simp), rfl⟩
set_option maxHeartbeats 1600000 in
theorem compare_i64 (a b : Int) (w : World) : Calls Tryz.prog 98 #[.int .i64 a, .int .i64 b] w fun e w' => e = .returned (.int .i64 (if a < b then -1 else if b < a then 1 else 0)) ∧ w = w' := by
  rcases (show a < b ∨ (b ≤ a ∧ b < a) ∨ (a = b) by omega) with h | ⟨h1, h⟩ | h
  · have HV := hide (show (if a < b then (-1 : Int) else if b < a then 1 else 0) = -1 by rw [if_pos h])
    go_enter Tryz.func98, Tryz.ntmps98
    go_wp2_with fail
    refine (nan_i64 a _).mono ?_
    rintro e w1 ⟨rfl, rfl⟩
    go_wp2_with fail
    refine (nan_i64 b _).mono ?_
    rintro e w1 ⟨rfl, rfl⟩
    go_wp2
    all_goals first
      | (exfalso; omega)
      | (go_ret; exact ⟨rfl, rfl⟩)
  · have HV := hide (show (if a < b then (-1 : Int) else if b < a then 1 else 0) = 1 by rw [if_neg (by omega), if_pos h])
    go_enter Tryz.func98, Tryz.ntmps98
    go_wp2_with fail
    refine (nan_i64 a _).mono ?_
    rintro e w1 ⟨rfl, rfl⟩
    go_wp2_with fail
    refine (nan_i64 b _).mono ?_
    rintro e w1 ⟨rfl, rfl⟩
    go_wp2
    all_goals first
      | (exfalso; omega)
      | (go_ret; exact ⟨rfl, rfl⟩)
  · subst h
    have HV := hide (show (if a < a then (-1 : Int) else if a < a then 1 else 0) = 0 by simp)
    go_enter Tryz.func98, Tryz.ntmps98
    go_wp2_with fail
    refine (nan_i64 a _).mono ?_
    rintro e w1 ⟨rfl, rfl⟩
    go_wp2_with fail
    refine (nan_i64 a _).mono ?_
    rintro e w1 ⟨rfl, rfl⟩
    go_wp2
    all_goals first
      | (exfalso; omega)
      | (go_ret; exact ⟨rfl, rfl⟩)
set_option maxHeartbeats 1600000 in
theorem cmp_any (x y : Pt) (w : World) : Calls Tryz.prog 97 #[.agg #[.int .i64 x.pos, .int .i64 x.ab], .agg #[.int .i64 y.pos, .int .i64 y.ab]] w fun e w' => e = .returned (.int .i64 (cmpI x y)) ∧ Below w.heap.size w w' := by
  have HV := hide (show (if y.ab < x.ab then (-1 : Int) else if x.ab < y.ab then 1 else 0) = cmpI x y from rfl)
  obtain ⟨C, hC⟩ : ∃ C, (if y.ab < x.ab then (-1 : Int) else if x.ab < y.ab then 1 else 0) = C := ⟨_, rfl⟩
  have HC := hide hC
  rw [hC] at HV
  clear hC
  go_enter Tryz.func97, Tryz.ntmps97
  go_wp2_with fail
  refine (compare_i64 y.ab x.ab _).mono ?_
  rintro e w1 ⟨rfl, rfl⟩
  rw [HC.out]
  go_wp2
  go_ret
  exact ⟨ret_int HV.out, by (repeat' exact bel)⟩
end Go.Proofs.YtamnccechaooaaaGreat
