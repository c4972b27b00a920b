/- Contracts of frames: Unit, Week. -/
import Derived.Test.YtpngdeegdkifnaaFrameI
import Derived.Test.YtpngdeegdkifnaaFrameH
namespace Go.Proofs.Ytpngdeegdkifnaa
open Go.RowKit Qd
set_option linter.unusedSimpArgs false
set_option linter.unusedVariables false

theorem lasts_sorted (c : Cal) (y : Int) (hE : askE c y 1601 = 0) (lv : Int) (h1 : 1 ≤ lv) (h5 : lv ≤ 5) (i j : Nat) (h : i ≤ j) (hj : j < (lastsL c y lv).length) : (lastsL c y lv)[i]?.getD 0 ≤ (lastsL c y lv)[j]?.getD 0 := by
  rw [lasts_len] at hj
  rw [lasts_get c y lv i (by omega), lasts_get c y lv j hj]
  have := cut_mono c y hE lv h1 h5 (show i + 1 ≤ j + 1 by omega) (by omega)
  omega

set_option maxRecDepth 100000 in
set_option maxHeartbeats 1600000 in
theorem funit_any (c : Cal) (y lv : Int) (w : World) (cap g1 g2 : Nat) (h1 : 1 ≤ lv) (h5 : lv ≤ 5) (hE : askE c y 1601 = 0) (hI : IntsAt w g2 (perL c y)) (a : Nat) :
    Calls Try.prog 40 #[yearV y (nWk c y) cap g1 (nPer c y) g2, .int .i64 lv, .int .i64 ((a : Int) + 1)] w fun e w' => e = .returned (unitV ⟨lv, y, (ixN c y lv a : Int) + 1⟩) ∧ Below w.heap.size w w' := by
  have hcb := cnt_bd c y hE lv
  have hix : ixN c y lv a ≤ 60 := by
    have := bsL_le (lastsL c y lv) ((a : Int) + 1)
    rw [lasts_len] at this
    unfold ixN
    omega
  have HS := hide (fun i j h hj => lasts_sorted c y hE lv h1 h5 i j h hj)
  have HL := hide (lasts_len c y lv)
  have HX := hide (show bsL (lastsL c y lv) ((a : Int) + 1) = ixN c y lv a from rfl)
  have HE := hide hE
  have HI := hide hI
  clear hE hI
  simp only [yearV, unitV]
  go_enter Try.func40, Try.ntmps40
  go_wp2_with fail
  refine (lasts_any c y lv _ cap g1 g2 h1 h5 HE.out ((HI.out.alloc _).alloc _)).mono ?_
  rintro e w1 ⟨g, rfl, hJ, hb1⟩
  have r0 : w1.cell? ⟨w.heap.size + 1, 0, none⟩ = some (.int .i64 0) := by rw [hb1.cell (p := ⟨w.heap.size + 1, 0, none⟩) (by simp)]; simp
  have r1 : w1.cell? ⟨w.heap.size + 1, 1, none⟩ = some (.int .i64 0) := by rw [hb1.cell (p := ⟨w.heap.size + 1, 1, none⟩) (by simp)]; simp
  have r2 : w1.cell? ⟨w.heap.size + 1, 2, none⟩ = some (.int .i64 0) := by rw [hb1.cell (p := ⟨w.heap.size + 1, 2, none⟩) (by simp)]; simp
  have f0 : w1.frozen? ⟨w.heap.size + 1, 0, none⟩ = false := by rw [hb1.frozen (p := ⟨w.heap.size + 1, 0, none⟩) (by simp)]; simp
  have f1 : w1.frozen? ⟨w.heap.size + 1, 1, none⟩ = false := by rw [hb1.frozen (p := ⟨w.heap.size + 1, 1, none⟩) (by simp)]; simp
  have f2 : w1.frozen? ⟨w.heap.size + 1, 2, none⟩ = false := by rw [hb1.frozen (p := ⟨w.heap.size + 1, 2, none⟩) (by simp)]; simp
  have b0 : w1.cell? ⟨w.heap.size, 0, none⟩ = some (.int .i64 y) := by rw [hb1.cell (p := ⟨w.heap.size, 0, none⟩) (by simp; omega)]; simp
  have hsz : w.heap.size + 1 < w1.heap.size := by have := hb1.size; simp at this; omega
  have HW := hide (show Below w.heap.size w w1 by (repeat' (first | (with_reducible exact Below.refl _ _) | (with_reducible assumption) | (with_reducible refine Below.alloc ?_ ?_ _) | (with_reducible refine below_drewN ?_ _) | (with_reducible refine Below.drew ?_) | (with_reducible refine Below.setCell ?_ ?_ _) | (with_reducible refine Below.trans ?_ (Below.mono (by assumption) ?_)) | go_size | (simp at *; omega))))
  clear hb1
  rw [← HL.out]
  go_wp2_with fail
  refine (bsearch_any g (lastsL c y lv) _ _ (by rw [HL.out]; omega) hJ HS.out).mono ?_
  rintro e w2 ⟨bb, rfl, rfl⟩
  rw [HX.out]
  clear hJ
  go_wp2
  exact bodyPost_ret (v := .agg #[.int .i64 lv, .int .i64 y, .int .i64 ((ixN c y lv a : Int) + 1)]) (by simp [results, Try.results40, go_sem, r0, r1, r2, f0, f1, f2, hsz]) rfl ⟨rfl, ((HW.out.setCell (by simp) _).setCell (by simp) _).setCell (by simp) _⟩

set_option maxHeartbeats 800000 in
theorem weekc_any (s : Sp) (d : Int) (w : World) (hb : -100000000 ≤ s.b ∧ s.b ≤ 100000000) (hd : -100000000 ≤ d ∧ d ≤ 100000000) :
    Calls Try.prog 64 #[.agg #[.int .i64 s.a, .int .i64 s.b], .int .i64 d] w fun e w' => e = .returned (.int .i64 (s.b - d)) ∧ Below w.heap.size w w' := by
  obtain ⟨hb1, hb2⟩ := hb
  obtain ⟨hd1, hd2⟩ := hd
  go_enter Try.func64, Try.ntmps64
  go_wp2
  go_ret
  exact ⟨rfl, by (repeat' (first | (with_reducible exact Below.refl _ _) | (with_reducible assumption) | (with_reducible refine Below.alloc ?_ ?_ _) | (with_reducible refine below_drewN ?_ _) | (with_reducible refine Below.drew ?_) | (with_reducible refine Below.setCell ?_ ?_ _) | (with_reducible refine Below.trans ?_ (Below.mono (by assumption) ?_)) | go_size | (simp at *; omega)))⟩

def Bs2Post (l : List (Int × Int)) (x : Int) (w : World) (e : Ending) (w' : World) : Prop := ∃ b, e = .returned (.tuple #[.int .i64 (bsL (l.map Prod.snd) x : Int), .bool b]) ∧ Below w.heap.size w w'
theorem snd_get (l : List (Int × Int)) (i : Nat) (hi : i < l.length) : (l.map Prod.snd)[i]?.getD 0 = (l[i]?.getD (0, 0)).2 := by simp [hi]
set_option maxRecDepth 100000 in
set_option maxHeartbeats 3200000 in
theorem bsearch2_any (g cap : Nat) (l : List (Int × Int)) (x : Int) (w : World) (hl : l.length ≤ 100000) (hI : SpansAt w g l) (hx : -100000000 ≤ x ∧ x ≤ 100000000) (hv : ∀ i, i < l.length → -100000000 ≤ (l[i]?.getD (0, 0)).2 ∧ (l[i]?.getD (0, 0)).2 ≤ 100000000)
    (hs : ∀ i j, i ≤ j → j < l.length → (l[i]?.getD (0, 0)).2 ≤ (l[j]?.getD (0, 0)).2) :
    Calls Try.prog 63 #[.slice (some ⟨g, 0, none⟩) l.length cap, .int .i64 x, .func (.func 64) #[] #[]] w (Bs2Post l x w) := by
  obtain ⟨hx1, hx2⟩ := hx
  have HS := hide hs
  have HI := hide hI
  have HV := hide hv
  obtain ⟨n, hn⟩ : ∃ n, n = l.length := ⟨_, rfl⟩
  have hn2 : n ≤ 100000 := by omega
  have HN := hide hn
  rw [← hn]
  clear hs hI hn hl hv
  go_enter Try.func63, Try.ntmps63
  go_wp2_with fail
  go_loopw [9, 10] (fun s7 s8 wr => ∃ a b : Nat, s7 = .int .i64 a ∧ s8 = .int .i64 b ∧ a ≤ b ∧ b ≤ n ∧ Hid (∀ t, t < a → (l[t]?.getD (0, 0)).2 < x) ∧ Hid (∀ t, b ≤ t → t < n → x ≤ (l[t]?.getD (0, 0)).2) ∧ Below w.heap.size w wr) (fun s7 s8 _ => (intOf s8 - intOf s7).toNat)
  case atStart => exact ⟨0, n, rfl, rfl, by omega, by omega, hide (fun t ht => by omega), hide (fun t h1 h2 => by omega), Below.refl _ _⟩
  case round =>
    obtain ⟨a, b, rfl, rfl, hab, hbn, HA, HB, hB⟩ := hrel
    have hg := HI.out.call hB
    have HG := hide hg
    clear hg
    by_cases hlt : a < b
    · have hcell := HG.out.2 ((a + b) / 2) (by rw [← HN.out]; omega)
      have c1 : wr.cell? ⟨g, (a + b) / 2 * 2, none⟩ = some (.int .i64 (l[(a + b) / 2]?.getD (0, 0)).1) := by rw [Nat.mul_comm]; exact hcell.1
      have c2 : wr.cell? ⟨g, (a + b) / 2 * 2 + 1, none⟩ = some (.int .i64 (l[(a + b) / 2]?.getD (0, 0)).2) := by rw [Nat.mul_comm]; exact hcell.2
      have hvv := HV.out ((a + b) / 2) (by rw [← HN.out]; omega)
      obtain ⟨hv1, hv2⟩ := hvv
      clear hcell
      go_wp2_with fail
      refine (weekc_any ⟨(l[(a + b) / 2]?.getD (0, 0)).1, (l[(a + b) / 2]?.getD (0, 0)).2⟩ x _ ⟨hv1, hv2⟩ ⟨hx1, hx2⟩).mono ?_
      rintro e w1 ⟨rfl, hb1⟩
      have hB1 := hide (hB.trans (hb1.mono hB.size))
      clear hb1 c1 c2
      by_cases hx : (l[(a + b) / 2]?.getD (0, 0)).2 < x
      · have HX := hide hx
        have hxb : (l[(a + b) / 2]?.getD (0, 0)).2 - x < 0 := by omega
        clear hx
        go_wp2
        refine ⟨⟨(a + b) / 2 + 1, b, ?_, rfl, by omega, hbn, hide (fun t ht => ?_), HB, hB1.out⟩, by simp [intOf]; omega⟩
        · congr 1
        · have h1 := HS.out t ((a + b) / 2) (by omega) (by rw [← HN.out]; omega)
          have h2 := HX.out
          omega
      · have HX := hide hx
        have hxb : 0 ≤ (l[(a + b) / 2]?.getD (0, 0)).2 - x := by omega
        clear hx
        go_wp2
        refine ⟨⟨a, (a + b) / 2, rfl, ?_, by omega, by omega, HA, hide (fun t ht1 ht2 => ?_), hB1.out⟩, by simp [intOf]; omega⟩
        · congr 1
        · have h1 := HS.out ((a + b) / 2) t (by omega) (by rw [← HN.out]; omega)
          have h2 := HX.out
          omega
    · obtain rfl : a = b := by omega
      have HR := hide (show bsL (l.map Prod.snd) x = a from bsL_eq _ x a (by simp; rw [← HN.out]; omega) (fun j hj => by rw [snd_get l j (by rw [← HN.out]; omega)]; exact HA.out j hj) (fun h => by
        have h2 : a < l.length := by simpa using h
        rw [snd_get l a h2]; exact HB.out a (Nat.le_refl _) (by rw [HN.out]; exact h2)))
      by_cases hn : a < n
      · have hcell := HG.out.2 a (by rw [← HN.out]; omega)
        have c1 : wr.cell? ⟨g, a * 2, none⟩ = some (.int .i64 (l[a]?.getD (0, 0)).1) := by rw [Nat.mul_comm]; exact hcell.1
        have c2 : wr.cell? ⟨g, a * 2 + 1, none⟩ = some (.int .i64 (l[a]?.getD (0, 0)).2) := by rw [Nat.mul_comm]; exact hcell.2
        have hvv := HV.out a (by rw [← HN.out]; omega)
        obtain ⟨hv1, hv2⟩ := hvv
        clear hcell
        go_wp2_with fail
        refine (weekc_any ⟨(l[a]?.getD (0, 0)).1, (l[a]?.getD (0, 0)).2⟩ x _ ⟨hv1, hv2⟩ ⟨hx1, hx2⟩).mono ?_
        rintro e w1 ⟨rfl, hb1⟩
        have hB1 := hide (hB.trans (hb1.mono hB.size))
        clear hb1 c1 c2
        go_wp2
        all_goals
          go_ret2
          exact ⟨_, by rw [HR.out]; rfl, hB1.out⟩
      · go_wp2
        all_goals
          go_ret2
          exact ⟨_, by rw [HR.out]; rfl, hB⟩
end Go.Proofs.Ytpngdeegdkifnaa
