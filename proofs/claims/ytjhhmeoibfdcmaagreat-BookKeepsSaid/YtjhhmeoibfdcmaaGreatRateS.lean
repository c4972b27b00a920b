/- The plain law of rates: parts of an amount; what '==' says of shares; a span within one unit. -/
import Derived.Test.YtjhhmeoibfdcmaaGreatMRl
namespace Go.Proofs.YtjhhmeoibfdcmaaGreat
open Go.RowKit Qd
set_option linter.unusedSimpArgs false
set_option linter.unusedVariables false

def shB (a b c d a' b' c' d' : Int) : Bool := unB a b c a' b' c' && d == d'
theorem eqShare (n : Nat) (a b c d a' b' c' d' : Int) (w : World) : (Op.equalIn (n + 3) 111 (.agg #[.int .i64 a, .int .i64 b, .int .i64 c, .int .i64 d]) (.agg #[.int .i64 a', .int .i64 b', .int .i64 c', .int .i64 d'])).run Tryz.prog w = .ok (shB a b c d a' b' c' d') w := by
  have u3 := Tryz.underlying2
  have a3 := Tryz.isAgg2
  have z3 := Tryz.sizeOf2
  have a5 := Tryz.isAgg26
  have z5 := Tryz.sizeOf26
  have he := eqUnit n a b c a' b' c' w
  rw [run_equalIn_struct w _ _ _ _ (by simp [Program.fieldsOf, Tryz.underlying111]) (by kernel_rfl)]
  simp only [Program.fieldsOf, Tryz.underlying111]
  go_simp
  simp only [shB, unB]
  repeat' split
  all_goals simp_all
@[go_sem high] theorem eql_share (a b c d a' b' c' d' : Int) (w : World) : (binOp .eql 111 (.agg #[.int .i64 a, .int .i64 b, .int .i64 c, .int .i64 d]) (.agg #[.int .i64 a', .int .i64 b', .int .i64 c', .int .i64 d'])).run Tryz.prog w = .ok (.bool (shB a b c d a' b' c' d')) w := by
  rw [run_eql_struct, eqShare 9997]; rfl
theorem shB_same (a b c d : Int) : shB a b c d a b c d = true := by simp [shB, unB]
/-- Each part: the whole number below its exact share, or the one above. -/
theorem out_get {a : Int} {ws : List Int} (hn : 0 < ws.sum) {i : Nat} {x : Int} (hx : ws[i]? = some x) : ∃ N, (outV a ws)[i]? = some N ∧ (N = a * x / ws.sum ∨ (N = a * x / ws.sum + 1 ∧ 0 < a * x % ws.sum)) := by
  obtain ⟨e, h1, h2⟩ := outL_get (a := a) hn (out_put a ws) hx
  refine ⟨_, h1, ?_⟩
  rcases h2 with ⟨rfl, h2⟩ | ⟨rfl, h2⟩
  · exact .inr ⟨rfl, take_pos hn rfl (out_put a ws) h2⟩
  · left; omega
theorem out_in {a : Int} {ws : List Int} (ha : in64 a) (hw : ∀ x ∈ ws, 0 ≤ x) (hn : 0 < ws.sum) {i : Nat} {N : Int} (h : (outV a ws)[i]? = some N) : in64 N := by
  have hi := (List.getElem?_eq_some_iff.1 h).1
  rw [outV_len] at hi
  obtain ⟨x, hx⟩ : ∃ x, ws[i]? = some x := ⟨_, List.getElem?_eq_getElem hi⟩
  obtain ⟨M, h1, h2⟩ := out_get (a := a) hn hx
  rw [h] at h1
  cases h1
  have h0 := hw x (List.mem_of_getElem? hx)
  have h3 := pos_sum hw x (List.mem_of_getElem? hx)
  rcases h2 with rfl | ⟨rfl, h2⟩
  · exact muldiv_bd ha h0 h3 hn
  · exact plus_in ha h0 h3 hn h2
theorem out_ties {a : Int} {ws : List Int} (hn : 0 < ws.sum) {i j : Nat} {x u v : Int} (hij : i < j) (hi : ws[i]? = some x) (hj : ws[j]? = some x) (hu : (outV a ws)[i]? = some u) (hv : (outV a ws)[j]? = some v) : u = v ∨ u = v + 1 :=
  outL_ties hn (out_put a ws) hij hi hj hu hv
theorem shL_get {c : Cal} {lv a : Int} {s : Sp} {j : Nat} {u : Un} {n : Int} (hu : (meetsL c lv s)[j]? = some u) (hn : (outV a (dysL c lv s))[j]? = some n) : (shL c lv a s)[j]? = some (u, n) := by
  unfold shL
  rw [List.getElem?_zip_eq_some]
  exact ⟨hu, hn⟩
/-- A span of one day meets a unit just if the day lies in one. -/
theorem meets_day (c : Cal) (lv d : Int) : meetsE c lv ⟨d, d⟩ = fdE c d lv := by
  unfold meetsE
  by_cases h : c.okB = true ∧ 1 ≤ lv ∧ lv ≤ 5
  · rw [if_pos ⟨h.1, h.2, Int.le_refl _⟩]
    simp only
    split <;> simp_all
  · rw [if_neg (fun x => h ⟨x.1, x.2.1⟩), fdE, if_neg h]
/-- Of a span within one unit all is that unit's. -/
theorem one_unit {c : Cal} {lv d e a : Int} (hd : fdE c d lv = 0) (hde : d ≤ e) (he : e ≤ (spV c (fdU c d lv)).b) : meetsE c lv ⟨d, e⟩ = 0 ∧ meetsL c lv ⟨d, e⟩ = [fdU c d lv] ∧ shL c lv a ⟨d, e⟩ = [(fdU c d lv, a)] := by
  have hok := fd_ok hd
  have hin := fd_sp hd
  have hlv : (fdU c d lv).lv = lv := by obtain ⟨i, e1, _⟩ := fd_in hd; rw [e1]
  have hU : unitE c (fdU c d lv) = 0 := by obtain ⟨i, e1, h1, _⟩ := fd_in hd; rw [e1]; exact un_here hok.2.2.2.2.2.2 h1
  have hx := fd_unit (d := e) hU (by omega) he
  rw [hlv] at hx
  have hE : meetsE c lv ⟨d, e⟩ = 0 := by
    unfold meetsE
    rw [if_pos ⟨hok.1, ⟨hok.2.1, hok.2.2.1⟩, hde⟩, if_pos hd]
    exact hx.1
  obtain ⟨c1, c2, c3, c4, c5⟩ := meets_chain hE
  have hL : meetsL c lv ⟨d, e⟩ = [fdU c d lv] := by
    cases hl : meetsL c lv ⟨d, e⟩ with
    | nil => rw [hl] at c4; simp at c4
    | cons u l =>
      rw [hl] at c2
      have hu : u = fdU c d lv := by simpa using c2
      subst hu
      cases l with
      | nil => rfl
      | cons v l =>
        exfalso
        have h0 : (meetsL c lv ⟨d, e⟩)[0]? = some (fdU c d lv) := by rw [hl]; rfl
        have h1 : (meetsL c lv ⟨d, e⟩)[0 + 1]? = some v := by rw [hl]; rfl
        have h2 := meets_next hE h0 h1
        have h3 := (clip_meets hE (List.mem_of_getElem? h1)).2.2.1
        simp only at h3
        omega
  refine ⟨hE, hL, ?_⟩
  have hdy := (dys_facts hE).1
  have hlen := dysL_len c lv ⟨d, e⟩
  have hs := outV_sum (a := a) (ws := dysL c lv ⟨d, e⟩) (by rw [hdy]; simp only; omega)
  have hol := outV_len a (dysL c lv ⟨d, e⟩)
  unfold shL
  rw [hL] at hlen ⊢
  rw [hlen] at hol
  obtain ⟨x, hx2⟩ := List.length_eq_one_iff.1 hol
  rw [hx2] at hs ⊢
  have : x = a := by simpa using hs
  rw [this]
  rfl
end Go.Proofs.YtjhhmeoibfdcmaaGreat
