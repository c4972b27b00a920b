/- Contracts of comp: pairs, policies. -/
import Derived.Test.YtpngdeegdkifnaaAdded
import Derived.Test.YtpngdeegdkifnaaUnAt
import Derived.WideMake
namespace Go.Proofs.Ytpngdeegdkifnaa
open Go.RowKit Qd
set_option linter.unusedSimpArgs false
set_option linter.unusedVariables false

abbrev prV (a b s t : Int) : Value := .agg #[.int .i64 a, .int .i64 b, .int .i64 s, .int .i64 t]
def dropE (a b w : Int) : Int := if w = a ∧ b = 0 then 12 else 0
def dropV (a b w : Int) : Int := if w = a then b else if 0 < b ∧ b ≤ (if 0 < a ∧ a < w then w - 1 else w) then (if 0 < a ∧ a < w then w - 1 else w) + 1 else (if 0 < a ∧ a < w then w - 1 else w)

set_option maxRecDepth 100000 in
set_option maxHeartbeats 1600000 in
theorem pol1_any (a b s t x : Int) (w : World) : Calls Try.prog 80 #[prV a b s t, .int .i64 x] w fun e w' => e = .returned (.tuple #[.int .i64 x, .int .i64 0]) ∧ Below w.heap.size w w' := by
  simp only [prV]
  go_enter Try.func80, Try.ntmps80
  go_wp2
  go_ret2
  exact ⟨rfl, by (repeat' (first | (with_reducible exact Below.refl _ _) | (with_reducible assumption) | (with_reducible refine Below.alloc ?_ ?_ _) | (with_reducible refine below_drewN ?_ _) | (with_reducible refine Below.drew ?_) | (with_reducible refine Below.setCell ?_ ?_ _) | (with_reducible refine Below.trans ?_ (Below.mono (by assumption) ?_)) | go_size | (simp at *; omega)))⟩
set_option maxRecDepth 100000 in
set_option maxHeartbeats 1600000 in
theorem pol2_any (a b s t x : Int) (w : World) (ha : 0 ≤ a ∧ a ≤ 100) (hb : 0 ≤ b ∧ b ≤ 100) (hx : 0 ≤ x ∧ x ≤ 100) : Calls Try.prog 81 #[prV a b s t, .int .i64 x] w fun e w' => e = .returned (.tuple #[.int .i64 (x + b - a), .int .i64 0]) ∧ Below w.heap.size w w' := by
  simp only [prV]
  go_enter Try.func81, Try.ntmps81
  go_wp2
  go_ret2
  exact ⟨rfl, by (repeat' (first | (with_reducible exact Below.refl _ _) | (with_reducible assumption) | (with_reducible refine Below.alloc ?_ ?_ _) | (with_reducible refine below_drewN ?_ _) | (with_reducible refine Below.drew ?_) | (with_reducible refine Below.setCell ?_ ?_ _) | (with_reducible refine Below.trans ?_ (Below.mono (by assumption) ?_)) | go_size | (simp at *; omega)))⟩
set_option maxRecDepth 100000 in
set_option maxHeartbeats 1600000 in
theorem drop_any (a b s t x : Int) (w : World) (hs : 0 ≤ s ∧ s ≤ 100) (ht : 0 ≤ t ∧ t ≤ 100) (hx : 0 ≤ x ∧ x ≤ 100) : Calls Try.prog 82 #[prV a b s t, .int .i64 x] w fun e w' => e = .returned (.tuple #[.int .i64 (dropV s t x), .int .i64 (dropE s t x)]) ∧ Below w.heap.size w w' := by
  simp only [prV]
  by_cases h1 : x = s
  · subst h1
    by_cases h2 : t = 0
    · subst h2
      have H := hide (show dropV x 0 x = 0 ∧ dropE x 0 x = 12 by simp [dropV, dropE])
      go_enter Try.func82, Try.ntmps82
      go_wp2
      all_goals first
        | (exfalso; omega)
        | (go_ret2; exact ⟨ret_int2 H.out.1.symm H.out.2.symm, by (repeat' (first | (with_reducible exact Below.refl _ _) | (with_reducible assumption) | (with_reducible refine Below.alloc ?_ ?_ _) | (with_reducible refine below_drewN ?_ _) | (with_reducible refine Below.drew ?_) | (with_reducible refine Below.setCell ?_ ?_ _) | (with_reducible refine Below.trans ?_ (Below.mono (by assumption) ?_)) | go_size | (simp at *; omega)))⟩)
    · have H := hide (show dropV x t x = t ∧ dropE x t x = 0 by simp [dropV, dropE, h2])
      have hb : (t == 0) = false := by simpa using h2
      go_enter Try.func82, Try.ntmps82
      go_wp2
      all_goals first
        | (exfalso; omega)
        | (go_ret2; exact ⟨ret_int2 H.out.1.symm H.out.2.symm, by (repeat' (first | (with_reducible exact Below.refl _ _) | (with_reducible assumption) | (with_reducible refine Below.alloc ?_ ?_ _) | (with_reducible refine below_drewN ?_ _) | (with_reducible refine Below.drew ?_) | (with_reducible refine Below.setCell ?_ ?_ _) | (with_reducible refine Below.trans ?_ (Below.mono (by assumption) ?_)) | go_size | (simp at *; omega)))⟩)
  · have HE := hide (show dropE s t x = 0 by unfold dropE; rw [if_neg (fun h => h1 h.1)])
    have HV := hide (show dropV s t x = if 0 < t ∧ t ≤ (if 0 < s ∧ s < x then x - 1 else x) then (if 0 < s ∧ s < x then x - 1 else x) + 1 else (if 0 < s ∧ s < x then x - 1 else x) by unfold dropV; rw [if_neg h1])
    have hb : (x == s) = false := by simpa using h1
    clear h1
    by_cases h3 : 0 < s ∧ s < x
    · have HV2 := hide (show dropV s t x = if 0 < t ∧ t ≤ x - 1 then x - 1 + 1 else x - 1 by rw [HV.out, if_pos h3])
      obtain ⟨h3a, h3b⟩ := h3
      by_cases h4 : 0 < t ∧ t ≤ x - 1
      · have H := hide (show dropV s t x = x - 1 + 1 by rw [HV2.out, if_pos h4])
        obtain ⟨h4a, h4b⟩ := h4
        go_enter Try.func82, Try.ntmps82
        go_wp2
        all_goals first
          | (exfalso; omega)
          | (go_ret2; exact ⟨ret_int2 (by rw [H.out]; try omega) HE.out.symm, by (repeat' (first | (with_reducible exact Below.refl _ _) | (with_reducible assumption) | (with_reducible refine Below.alloc ?_ ?_ _) | (with_reducible refine below_drewN ?_ _) | (with_reducible refine Below.drew ?_) | (with_reducible refine Below.setCell ?_ ?_ _) | (with_reducible refine Below.trans ?_ (Below.mono (by assumption) ?_)) | go_size | (simp at *; omega)))⟩)
      · have H := hide (show dropV s t x = x - 1 by rw [HV2.out, if_neg h4])
        rcases (show t ≤ 0 ∨ (0 < t ∧ x - 1 < t) by omega) with h4 | ⟨h4, h5⟩
        · go_enter Try.func82, Try.ntmps82
          go_wp2
          all_goals first
            | (exfalso; omega)
            | (go_ret2; exact ⟨ret_int2 (by rw [H.out]; try omega) HE.out.symm, by (repeat' (first | (with_reducible exact Below.refl _ _) | (with_reducible assumption) | (with_reducible refine Below.alloc ?_ ?_ _) | (with_reducible refine below_drewN ?_ _) | (with_reducible refine Below.drew ?_) | (with_reducible refine Below.setCell ?_ ?_ _) | (with_reducible refine Below.trans ?_ (Below.mono (by assumption) ?_)) | go_size | (simp at *; omega)))⟩)
        · go_enter Try.func82, Try.ntmps82
          go_wp2
          all_goals first
            | (exfalso; omega)
            | (go_ret2; exact ⟨ret_int2 (by rw [H.out]; try omega) HE.out.symm, by (repeat' (first | (with_reducible exact Below.refl _ _) | (with_reducible assumption) | (with_reducible refine Below.alloc ?_ ?_ _) | (with_reducible refine below_drewN ?_ _) | (with_reducible refine Below.drew ?_) | (with_reducible refine Below.setCell ?_ ?_ _) | (with_reducible refine Below.trans ?_ (Below.mono (by assumption) ?_)) | go_size | (simp at *; omega)))⟩)
    · have HV2 := hide (show dropV s t x = if 0 < t ∧ t ≤ x then x + 1 else x by rw [HV.out, if_neg h3])
      by_cases h4 : 0 < t ∧ t ≤ x
      · have H := hide (show dropV s t x = x + 1 by rw [HV2.out, if_pos h4])
        obtain ⟨h4a, h4b⟩ := h4
        rcases (show s ≤ 0 ∨ (0 < s ∧ x ≤ s) by omega) with h3 | ⟨h3, h3'⟩
        · go_enter Try.func82, Try.ntmps82
          go_wp2
          all_goals first
            | (exfalso; omega)
            | (go_ret2; exact ⟨ret_int2 (by rw [H.out]; try omega) HE.out.symm, by (repeat' (first | (with_reducible exact Below.refl _ _) | (with_reducible assumption) | (with_reducible refine Below.alloc ?_ ?_ _) | (with_reducible refine below_drewN ?_ _) | (with_reducible refine Below.drew ?_) | (with_reducible refine Below.setCell ?_ ?_ _) | (with_reducible refine Below.trans ?_ (Below.mono (by assumption) ?_)) | go_size | (simp at *; omega)))⟩)
        · go_enter Try.func82, Try.ntmps82
          go_wp2
          all_goals first
            | (exfalso; omega)
            | (go_ret2; exact ⟨ret_int2 (by rw [H.out]; try omega) HE.out.symm, by (repeat' (first | (with_reducible exact Below.refl _ _) | (with_reducible assumption) | (with_reducible refine Below.alloc ?_ ?_ _) | (with_reducible refine below_drewN ?_ _) | (with_reducible refine Below.drew ?_) | (with_reducible refine Below.setCell ?_ ?_ _) | (with_reducible refine Below.trans ?_ (Below.mono (by assumption) ?_)) | go_size | (simp at *; omega)))⟩)
      · have H := hide (show dropV s t x = x by rw [HV2.out, if_neg h4])
        rcases (show s ≤ 0 ∨ (0 < s ∧ x ≤ s) by omega) with h3 | ⟨h3, h3'⟩
        · rcases (show t ≤ 0 ∨ (0 < t ∧ x < t) by omega) with h4 | ⟨h4, h5⟩
          · go_enter Try.func82, Try.ntmps82
            go_wp2
            all_goals first
              | (exfalso; omega)
              | (go_ret2; exact ⟨ret_int2 (by rw [H.out]; try omega) HE.out.symm, by (repeat' (first | (with_reducible exact Below.refl _ _) | (with_reducible assumption) | (with_reducible refine Below.alloc ?_ ?_ _) | (with_reducible refine below_drewN ?_ _) | (with_reducible refine Below.drew ?_) | (with_reducible refine Below.setCell ?_ ?_ _) | (with_reducible refine Below.trans ?_ (Below.mono (by assumption) ?_)) | go_size | (simp at *; omega)))⟩)
          · go_enter Try.func82, Try.ntmps82
            go_wp2
            all_goals first
              | (exfalso; omega)
              | (go_ret2; exact ⟨ret_int2 (by rw [H.out]; try omega) HE.out.symm, by (repeat' (first | (with_reducible exact Below.refl _ _) | (with_reducible assumption) | (with_reducible refine Below.alloc ?_ ?_ _) | (with_reducible refine below_drewN ?_ _) | (with_reducible refine Below.drew ?_) | (with_reducible refine Below.setCell ?_ ?_ _) | (with_reducible refine Below.trans ?_ (Below.mono (by assumption) ?_)) | go_size | (simp at *; omega)))⟩)
        · rcases (show t ≤ 0 ∨ (0 < t ∧ x < t) by omega) with h4 | ⟨h4, h5⟩
          · go_enter Try.func82, Try.ntmps82
            go_wp2
            all_goals first
              | (exfalso; omega)
              | (go_ret2; exact ⟨ret_int2 (by rw [H.out]; try omega) HE.out.symm, by (repeat' (first | (with_reducible exact Below.refl _ _) | (with_reducible assumption) | (with_reducible refine Below.alloc ?_ ?_ _) | (with_reducible refine below_drewN ?_ _) | (with_reducible refine Below.drew ?_) | (with_reducible refine Below.setCell ?_ ?_ _) | (with_reducible refine Below.trans ?_ (Below.mono (by assumption) ?_)) | go_size | (simp at *; omega)))⟩)
          · go_enter Try.func82, Try.ntmps82
            go_wp2
            all_goals first
              | (exfalso; omega)
              | (go_ret2; exact ⟨ret_int2 (by rw [H.out]; try omega) HE.out.symm, by (repeat' (first | (with_reducible exact Below.refl _ _) | (with_reducible assumption) | (with_reducible refine Below.alloc ?_ ?_ _) | (with_reducible refine below_drewN ?_ _) | (with_reducible refine Below.drew ?_) | (with_reducible refine Below.setCell ?_ ?_ _) | (with_reducible refine Below.trans ?_ (Below.mono (by assumption) ?_)) | go_size | (simp at *; omega)))⟩)

theorem alloc_set (w : World) (o o' : Obj) : ({ w.alloc o with heap := (w.alloc o).heap.setIfInBounds w.heap.size o' } : World) = w.alloc o' := by
  have h : (w.alloc o).heap.setIfInBounds w.heap.size o' = (w.alloc o').heap := by
    show (w.heap.push o).setIfInBounds w.heap.size o' = w.heap.push o'
    apply Array.ext'
    simp [Array.toList_push]
  rw [h]
  rfl
theorem run_upd (w : World) (es : Array MapEntry) (clk : Nat) (k : Int) (v : Value) (hf : Instr.findNow (.int .i64) (.int .i64 k) es.toList 0 = some none) :
    (Instr.mapUpdate 91 (.map (some w.heap.size)) (.int .i64 k) v).run Try.prog (w.alloc (.map es clk)) = .ok () (w.alloc (.map (es.push ⟨.int .i64 k, v, clk⟩) (clk + 1))) := by
  have u3 := Try.underlying3
  have um := Try.underlying91
  have hh : (w.alloc (.map es clk)).heap[w.heap.size]? = some (.map es clk) := heap_alloc_new w _
  have hs := alloc_set w (.map es clk)
  have hc : (Instr.checkKey false 10000 3 (.int .i64 k)).run Try.prog (w.alloc (.map es clk)) = .ok () (w.alloc (.map es clk)) := MapKept.run_checkKey (k := .int .i64 k) u3 (by simp [MapKept.IsKey]) false 9999
  simp [Instr.mapUpdate, run_underlying um, MapKept.run_getObj_map hh, hc, MapKept.run_findKey u3 hf, MapKept.run_setObj_map _ hh, Result.andThen, hs]
  exact hs _
theorem run_look (w : World) (M : Nat) (es : Array MapEntry) (clk : Nat) (k : Int) (i : Nat) (v : Value) (hh : w.heap[M]? = some (.map es clk)) (hf : Instr.findNow (.int .i64) (.int .i64 k) es.toList 0 = some (some (i, v))) :
    (Instr.lookup 91 (.map (some M)) (.int .i64 k) false).run Try.prog w = .ok v w := by
  have u3 := Try.underlying3
  have um := Try.underlying91
  have hc : ∀ e, (Instr.checkKey e 10000 3 (.int .i64 k)).run Try.prog w = .ok () w := fun e => MapKept.run_checkKey (k := .int .i64 k) u3 (by simp [MapKept.IsKey]) e 9999
  simp [Instr.lookup, run_underlying um, MapKept.run_getObj_map hh, hc, MapKept.run_findKey u3 hf, Result.andThen]
abbrev polEs : Array MapEntry := #[⟨.int .i64 1, .func (.func 80) #[] #[], 0⟩, ⟨.int .i64 2, .func (.func 81) #[] #[], 1⟩, ⟨.int .i64 3, .func (.func 82) #[] #[], 2⟩]
set_option maxRecDepth 100000 in
set_option maxHeartbeats 1600000 in
theorem policies_any (w : World) : Calls Try.prog 58 #[] w fun e w' => e = .returned (.map (some w.heap.size)) ∧ w.alloc (.map polEs 3) = w' := by
  have hmm := @run_makeMap Try.prog
  have h1 := run_upd w #[] 0 1 (.func (.func 80) #[] #[]) rfl
  have h2 := run_upd w #[⟨.int .i64 1, .func (.func 80) #[] #[], 0⟩] 1 2 (.func (.func 81) #[] #[]) rfl
  have h3 := run_upd w #[⟨.int .i64 1, .func (.func 80) #[] #[], 0⟩, ⟨.int .i64 2, .func (.func 81) #[] #[], 1⟩] 2 3 (.func (.func 82) #[] #[]) rfl
  simp only [List.push_toArray, List.cons_append, List.nil_append] at h1 h2 h3
  go_enter Try.func58, Try.ntmps58
  go_wp2
  go_ret
  exact ⟨rfl, rfl⟩
end Go.Proofs.Ytpngdeegdkifnaa
