/- Vary: what '==' says of rows; the chapter's example. -/
import Derived.Test.YtjhhmeoibfdcmaaGreatVaryD
namespace Go.Proofs.YtjhhmeoibfdcmaaGreat
open Go.RowKit Qd
set_option linter.unusedSimpArgs false
set_option linter.unusedVariables false

def rwB (a b c d e f : Int) (g : Bool) (a' b' c' d' e' f' : Int) (g' : Bool) : Bool := unB a b c a' b' c' && (d == d' && (e == e' && (f == f' && g == g')))
theorem eqRow (n : Nat) (a b c d e f a' b' c' d' e' f' : Int) (g g' : Bool) (w : World) : (Op.equalIn (n + 3) 69 (.agg #[.int .i64 a, .int .i64 b, .int .i64 c, .int .i64 d, .int .i64 e, .int .i64 f, .bool g]) (.agg #[.int .i64 a', .int .i64 b', .int .i64 c', .int .i64 d', .int .i64 e', .int .i64 f', .bool g'])).run Tryz.prog w = .ok (rwB a b c d e f g a' b' c' d' e' f' g') w := by
  have u3 := Tryz.underlying2
  have a3 := Tryz.isAgg2
  have z3 := Tryz.sizeOf2
  have u4 := Tryz.underlying4
  have a4 := Tryz.isAgg4
  have z4 := Tryz.sizeOf4
  have a5 := Tryz.isAgg26
  have z5 := Tryz.sizeOf26
  have he := eqUnit n a b c a' b' c' w
  rw [run_equalIn_struct w _ _ _ _ (by simp [Program.fieldsOf, Tryz.underlying69]) (by kernel_rfl)]
  simp only [Program.fieldsOf, Tryz.underlying69]
  go_simp
  simp only [rwB, unB]
  repeat' split
  all_goals simp_all
@[go_sem high] theorem eql_row (a b c d e f a' b' c' d' e' f' : Int) (g g' : Bool) (w : World) : (binOp .eql 69 (.agg #[.int .i64 a, .int .i64 b, .int .i64 c, .int .i64 d, .int .i64 e, .int .i64 f, .bool g]) (.agg #[.int .i64 a', .int .i64 b', .int .i64 c', .int .i64 d', .int .i64 e', .int .i64 f', .bool g'])).run Tryz.prog w = .ok (.bool (rwB a b c d e f g a' b' c' d' e' f' g')) w := by
  rw [run_eql_struct, eqRow 9997]; rfl
theorem rwB_same (a b c d e f : Int) (g : Bool) : rwB a b c d e f g a b c d e f g = true := by simp [rwB, unB]

def nrf23 : Cal := ⟨⟨#[120]⟩, 3, 6, 1, 1, 1, 4, 5, 4, 0, 12, 2000, 2030, 1⟩
def po23 : List Po := [⟨(spV nrf23 ⟨5, 2022, 1⟩).b, 5⟩]
theorem n23_u : unitE nrf23 ⟨5, 2022, 1⟩ = 0 := by decide +kernel
theorem n23_e : rwE nrf23 ⟨5, 2023, 1⟩ (-1) po23 [] Z0 = 0 := by decide +kernel
theorem n23_v : (rwV nrf23 ⟨5, 2023, 1⟩ (-1) po23 [] Z0).u.lv = 5 ∧ (rwV nrf23 ⟨5, 2023, 1⟩ (-1) po23 [] Z0).u.yr = 2023 ∧ (rwV nrf23 ⟨5, 2023, 1⟩ (-1) po23 [] Z0).u.ix = 1 ∧ (rwV nrf23 ⟨5, 2023, 1⟩ (-1) po23 [] Z0).this = 0 ∧ (rwV nrf23 ⟨5, 2023, 1⟩ (-1) po23 [] Z0).that = 5 ∧ (rwV nrf23 ⟨5, 2023, 1⟩ (-1) po23 [] Z0).diff = -5 ∧ (rwV nrf23 ⟨5, 2023, 1⟩ (-1) po23 [] Z0).gone = false := by decide +kernel
/-- A book of postings alone. -/
theorem book0 (c : Cal) (P : List Po) (hn : c.name.size ≤ 1000) (hl : P.length ≤ 5000) (h64 : ∀ p ∈ P, in64 p.n) : BookOk c P [] (.slice none 0 0) Z0 :=
  ⟨⟨hl, by simp⟩, h64, fun u hU _ => ⟨partsOk_nil c u.yr none 0 hn (unit_year hU), fun _ => ⟨fun x n h => by simp [Z0] at h, by rw [show Z0.f u.yr = fun _ => [] from rfl, wkNs_nil]; simp⟩⟩⟩

set_option maxRecDepth 100000 in
set_option maxHeartbeats 3200000 in
theorem live23_any (w : World) : Calls Tryz.prog 35 #[] w fun e w' => e = .returned (.bool true) ∧ Below w.heap.size w w' := by
  have HB := hide (book0 nrf23 po23 (by decide) (by simp [po23]) (by intro p hp; simp [po23] at hp; subst hp; exact ⟨by decide, by decide⟩))
  have H23 := hide n23_u
  obtain ⟨sb, hsb⟩ : ∃ x, (spV nrf23 ⟨5, 2022, 1⟩).b = x := ⟨_, rfl⟩
  obtain ⟨sa, hsa⟩ : ∃ x, (spV nrf23 ⟨5, 2022, 1⟩).a = x := ⟨_, rfl⟩
  have HSB := hide (And.intro hsa hsb)
  have HPO := hide (show po23 = [⟨sb, 5⟩] by rw [po23, hsb])
  clear hsb hsa
  go_enter Tryz.func35, Tryz.ntmps35
  go_wp2_with fail
  refine (uspan_any nrf23 ⟨5, 2022, 1⟩ _ (by decide)).mono ?_
  rintro e w1 ⟨rfl, hb1⟩
  rw [H23.out]
  simp only [spanV]
  rw [HSB.out.1, HSB.out.2]
  have hz1 : w.heap.size < w1.heap.size := by have := hb1.size; simp at this; omega
  have HB1 : Hid (Below w.heap.size w w1) := ww hb1
  have HQ1 := hide (calAt_below hb1 (by simp) (calAt_new w nrf23))
  clear hb1
  obtain ⟨q0, q1, q2, q3, q4, q5, q6, q7, q8, q9, q10, q11, q12, q13⟩ := HQ1.out
  simp only [nrf23] at q0 q1 q2 q3 q4 q5 q6 q7 q8 q9 q10 q11 q12 q13
  go_wp2_with fail
  obtain ⟨W, hW⟩ : ∃ W : World, W = (((w1.alloc (.cells #[.int .i64 sa, .int .i64 sb] 45)).alloc (.cells #[.int .i64 5, .int .i64 2023, .int .i64 1] 26)).alloc (.cells #[.int .i64 sb, .int .i64 5] 32)) := ⟨_, rfl⟩
  have HPS := hide (show Posts W (.slice (some ⟨w1.heap.size + 1 + 1, 0, none⟩) 1 1) po23 by
    have KP : BlkIs W (w1.heap.size + 1 + 1) #[.int .i64 sb, .int .i64 5] 32 := by
      rw [hW]
      have h := BlkIs.new ((w1.alloc (.cells #[.int .i64 sa, .int .i64 sb] 45)).alloc (.cells #[.int .i64 5, .int .i64 2023, .int .i64 1] 26)) #[.int .i64 sb, .int .i64 5] 32
      simpa using h
    rw [HPO.out]
    refine ⟨_, _, rfl, fun i x hx => ?_⟩
    match i, hx with
    | 0, hx => simp at hx; subst hx; exact ⟨_, _, rfl, KP.lt, KP.cell 0, KP.cell 1⟩)
  have HW := hide (show Below w.heap.size w W by have hBel := HB1.out; rw [hW]; (repeat' exact bel))
  have KU := hide (show BlkIs W (w1.heap.size + 1) #[.int .i64 5, .int .i64 2023, .int .i64 1] 26 by
    rw [hW]
    have h := (BlkIs.new (w1.alloc (.cells #[.int .i64 sa, .int .i64 sb] 45)) #[.int .i64 5, .int .i64 2023, .int .i64 1] 26).alloc (.cells #[.int .i64 sb, .int .i64 5] 32)
    simpa using h)
  rw [← hW]
  clear hW q0 q1 q2 q3 q4 q5 q6 q7 q8 q9 q10 q11 q12 q13
  have hV := n23_v
  refine (vrow_any nrf23 ⟨5, 2023, 1⟩ (-1) po23 [] Z0 (.slice (some ⟨w1.heap.size + 1 + 1, 0, none⟩) 1 1) (.slice none 0 0) W (by decide) HPS.out (Accs.nil _) HB.out).mono ?_
  rintro e w2 ⟨rfl, hb2⟩
  obtain ⟨v1, v2, v3, v4, v5, v6, v7⟩ := hV
  simp only [rowCs, v1, v2, v3, v4, v5, v6, v7, n23_e]
  obtain ⟨⟨a0, a1, a2⟩, a3⟩ := blk_three' (KU.out.call hb2)
  have hBel := HW.out.trans (hb2.mono HW.out.size)
  clear hb2 v1 v2 v3 v4 v5 v6 v7
  have hrb := rwB_same 5 2023 1 0 5 (-5) false
  go_wp2
  go_ret
  exact ⟨ret_bool (by simp), by (repeat' exact bel)⟩
end Go.Proofs.YtjhhmeoibfdcmaaGreat
