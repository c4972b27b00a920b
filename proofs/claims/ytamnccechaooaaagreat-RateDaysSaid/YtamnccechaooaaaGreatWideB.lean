/- Numbers of two words: the contract of wide.Sum. -/
import Derived.Test.YtamnccechaooaaaGreatWide
import Derived.Test.YtamnccechaooaaaGreatMSa
namespace Go.Proofs.YtamnccechaooaaaGreat
open Go.RowKit Go.Sort
set_option linter.unusedSimpArgs false
set_option linter.unusedVariables false

abbrev wideCs (n : Int) : Array Value := #[.int .i64 (n / 18446744073709551616), .int .u64 (n % 18446744073709551616)]
def SmSt (n : Int) (B : Nat) (w0 w : World) : Prop := BlkIs w B (wideCs n) 121 ∧ B < w.heap.size ∧ Below B w0 w
theorem SmSt.call {n : Int} {B : Nat} {w0 w w' : World} (h : SmSt n B w0 w) (hb : Below w.heap.size w w') : SmSt n B w0 w' := ⟨h.1.call hb, Nat.lt_of_lt_of_le h.2.1 hb.size, h.2.2.trans (hb.mono (Nat.le_of_lt h.2.1))⟩
theorem SmSt.drew {n : Int} {B : Nat} {w0 w : World} (h : SmSt n B w0 w) : SmSt n B w0 w.drew := ⟨h.1, h.2.1, h.2.2.drew⟩
theorem SmSt.via {n : Int} {B m : Nat} {w0 w W w' : World} (h : SmSt n B w0 w) (hb : Below m W w') (h1 : Below w.heap.size w W := by exact bel) (h2 : w.heap.size ≤ m := by exact sz) : SmSt n B w0 w' := h.call (h1.trans (hb.mono h2))
theorem SmSt.far {n : Int} {B : Nat} {w0 w : World} (h : SmSt n B w0 w) (p : Addr) (u : Value) (hp : B < p.block) : SmSt n B w0 (w.setCell p u) := ⟨(Below.heap_setCell w p u B (by omega)).trans h.1, by simpa using h.2.1, h.2.2.setCell (Nat.le_of_lt hp) _⟩
/-- Two cells of a block that a call leaves. -/
theorem blk_via {cs : Array Value} {t : TypeId} {B m : Nat} {w W w' : World} (h : BlkIs w B cs t) (hb : Below m W w') (h1 : Below w.heap.size w W := by exact bel) (h2 : w.heap.size ≤ m := by exact sz) : BlkIs w' B cs t := h.call (h1.trans (hb.mono h2))
theorem blk_two {a b : Value} {t : TypeId} {B : Nat} {w : World} (h : BlkIs w B #[a, b] t) : (w.cell? ⟨B, 0, none⟩ = some a ∧ w.cell? ⟨B, 1, none⟩ = some b) ∧ w.frozen? ⟨B, 0, none⟩ = false ∧ w.frozen? ⟨B, 1, none⟩ = false ∧ B < w.heap.size := ⟨⟨h.cell 0, h.cell 1⟩, by simp [World.frozen?, show w.heap[B]? = _ from h], by simp [World.frozen?, show w.heap[B]? = _ from h], h.lt⟩
theorem SmSt.set {n m : Int} {B : Nat} {w0 w : World} (h : SmSt n B w0 w) : SmSt m B w0 ((w.setCell ⟨B, 0, none⟩ (.int .i64 (m / 18446744073709551616))).setCell ⟨B, 1, none⟩ (.int .u64 (m % 18446744073709551616))) := by
  obtain ⟨h1, h2, h3⟩ := h
  refine ⟨?_, by simpa using h2, (h3.setCell (Nat.le_refl _) _).setCell (Nat.le_refl _) _⟩
  unfold BlkIs at h1 ⊢
  simp [World.setCell, Array.getElem?_modify, h1]
theorem SmSt.cells {n : Int} {B : Nat} {w0 w : World} (h : SmSt n B w0 w) : (w.cell? ⟨B, 0, none⟩ = some (.int .i64 (n / 18446744073709551616)) ∧ w.cell? ⟨B, 1, none⟩ = some (.int .u64 (n % 18446744073709551616))) ∧ w.frozen? ⟨B, 0, none⟩ = false ∧ w.frozen? ⟨B, 1, none⟩ = false := ⟨⟨h.1.cell 0, h.1.cell 1⟩, by simp [World.frozen?, show w.heap[B]? = _ from h.1], by simp [World.frozen?, show w.heap[B]? = _ from h.1]⟩

set_option maxRecDepth 100000 in
set_option maxHeartbeats 3200000 in
theorem wsum_any (v : Value) (l : List Int) (w : World) (hv : Nums w v l) (hl : ∀ x ∈ l, in64 x) (hn : l.length ≤ 1000000) : Calls Tryz.prog 28 #[v] w fun e w' => e = .returned (.tuple #[.int .i64 (fitV l.sum), .int .i64 (fitE l.sum)]) ∧ Below w.heap.size w w' := by
  obtain ⟨ad, cap, rfl, hc⟩ := hv
  have HC := hide hc
  have HL := hide hl
  clear hc hl
  go_enter Tryz.func28, Tryz.ntmps28
  go_wp2_with fail
  have H0 := hide (show SmSt ([] : List Int).sum w.heap.size w (w.alloc (.cells #[.int .i64 0, .int .u64 0] 121)) from ⟨by simpa [wideCs] using BlkIs.new w #[.int .i64 0, .int .u64 0] 121, by simp, by (repeat' exact bel)⟩)
  go_loopw [11] (fun s wr => ∃ j : Nat, s = .int .i64 j ∧ j ≤ l.length ∧ SmSt (l.take j).sum w.heap.size w wr) (fun s _ => (l.length + 5 - intOf s).toNat)
  case atStart => exact ⟨0, rfl, Nat.zero_le _, by simpa using H0.out⟩
  case round =>
    obtain ⟨j, rfl, hj, hS⟩ := hrel
    have HS := hide hS
    clear hS
    have hB2 := HS.out.2.1
    by_cases hlt : j < l.length
    · obtain ⟨x, hx⟩ : ∃ x, l[j]? = some x := ⟨_, List.getElem?_eq_getElem hlt⟩
      obtain ⟨g, o, rfl, hg, a0⟩ := HC.out j x hx
      have hx64 := HL.out x (List.mem_of_getElem? hx)
      have HTK := hide (show (l.take (j + 1)).sum = (l.take j).sum + x by rw [List.take_add_one, hx]; simp)
      have hw1 := sum_wd (l := l.take j) (fun y hy => HL.out y (List.mem_of_mem_take hy)) (by rw [List.length_take]; omega)
      have hw2 := sum_wd (l := l.take (j + 1)) (fun y hy => HL.out y (List.mem_of_mem_take hy)) (by rw [List.length_take]; omega)
      rw [HTK.out] at hw2
      have ha : wr.cell? ⟨g, o + j, none⟩ = some (.int .i64 x) := by
        rw [HS.out.2.2.cell (p := ⟨g, o + j, none⟩) hg]; exact a0
      obtain ⟨S, hSS⟩ : ∃ S, (l.take j).sum = S := ⟨_, rfl⟩
      rw [hSS] at hw1 hw2 HTK HS
      have hi1 : (0 : Int) ≤ (j : Int) := by omega
      have hi3 : (j : Int) < (l.length : Int) := by omega
      have HOF := hide (fun w => wof_any x w hx64)
      have HAD := hide (fun w => wadd_ok S x w hw1 (in_wd hx64) hw2)
      simp only [wideV] at HOF HAD
      obtain ⟨⟨b0, b1⟩, f0, f1⟩ := HS.out.cells
      clear hx hx64 hw1 hw2 hSS a0
      go_wp2_with fail
      go_region_held3 (fun w' => w'.cell? ⟨w.heap.size, 0, none⟩ = some (.int .i64 (S / 18446744073709551616)) ∧ w'.cell? ⟨w.heap.size, 1, none⟩ = some (.int .u64 (S % 18446744073709551616))) (exact (HS.out.call (by (repeat' exact bel))).cells.1)
        (first
        | (go_at_call 65; refine (HOF.out wr.drew).mono ?_; rintro e w1 ⟨rfl, hb1⟩; have k7 := hide trivial; have hs1 : wr.heap.size ≤ w1.heap.size := hb1.size)
        | (go_at_call 65; refine (HOF.out (wr.alloc (.cells #[.int .i64 0, .int .u64 0] 121)).drew).mono ?_; rintro e w1 ⟨rfl, hb1⟩; have k7 := hide (BlkIs.call (show BlkIs (wr.alloc (.cells #[.int .i64 0, .int .u64 0] 121)).drew wr.heap.size #[.int .i64 0, .int .u64 0] 121 from BlkIs.new wr _ _) hb1); have hs1 : wr.heap.size ≤ w1.heap.size := Nat.le_of_lt k7.out.lt)
        | (go_at_call 64; refine (HAD.out w1).mono ?_; rintro e w2 ⟨rfl, hb2⟩; have k8 := blk_via k7.out hb2; obtain ⟨⟨z0, z1⟩, z2, z3, z4⟩ := blk_two k8; have hs2 : w1.heap.size ≤ w2.heap.size := hb2.size)
        | (go_at_call 64; refine (HAD.out w1).mono ?_; rintro e w2 ⟨rfl, hb2⟩; have hs2 : w1.heap.size ≤ w2.heap.size := hb2.size)
        | (go_at_call 64; refine (HAD.out (w1.alloc (.cells #[.int .i64 0, .int .u64 0] 121))).mono ?_; rintro e w2 ⟨rfl, hb2⟩; have k7 := hide (BlkIs.call (show BlkIs (w1.alloc (.cells #[.int .i64 0, .int .u64 0] 121)) w1.heap.size #[.int .i64 0, .int .u64 0] 121 from BlkIs.new w1 _ _) hb2); obtain ⟨⟨z0, z1⟩, z2, z3, z4⟩ := blk_two k7.out; have hs2 : w1.heap.size ≤ w2.heap.size := Nat.le_of_lt z4))
      all_goals
        have HS2 := hide (HS.out.call (show Below wr.heap.size wr w2 by (repeat' exact bel)))
        obtain ⟨⟨y0, y1⟩, y2, y3⟩ := HS2.out.cells
        have hB3 := HS2.out.2.1
        go_simp
        go_wp2
        go_roundw
        case rel => exact ⟨j + 1, by go_num, by omega, by rw [HTK.out]; first | exact ((HS2.out.far _ _ sz).far _ _ sz).set | exact HS2.out.set.call ((Below.refl _ _).alloc (Nat.le_refl _) _)⟩
        case measure => simp [intOf]; omega
    · have hjl : j = l.length := by omega
      have HSL := hide (show SmSt l.sum w.heap.size w wr by have h := HS.out; rwa [List.take_of_length_le (by omega)] at h)
      have hFI := hide (fun w => wfit_any l.sum w (sum_wd HL.out (by omega)))
      simp only [wideV] at hFI
      obtain ⟨⟨b0, b1⟩, f0, f1⟩ := HSL.out.cells
      go_wp2_with fail
      refine (hFI.out _).mono ?_
      rintro e w1 ⟨rfl, hb1⟩
      have HB1 : Hid (Below w.heap.size w w1) := by have hp := HSL.out.2.2; exact ww hb1
      clear hb1
      go_wp2
      go_ret2
      exact ⟨rfl, HB1.out⟩
end Go.Proofs.YtamnccechaooaaaGreat
