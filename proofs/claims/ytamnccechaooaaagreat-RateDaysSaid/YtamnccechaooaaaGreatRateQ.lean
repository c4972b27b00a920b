/- The plain law of rates: the days of a span in the units that meet it. -/
import Derived.Test.YtamnccechaooaaaGreatRateP
import Derived.Test.YtamnccechaooaaaGreatMFi
namespace Go.Proofs.YtamnccechaooaaaGreat
open Go.RowKit Qd
set_option linter.unusedSimpArgs false
set_option linter.unusedVariables false

theorem meets_mem {c : Cal} {lv : Int} {s : Sp} (h : meetsE c lv s = 0) {u : Un} (hu : u ∈ meetsL c lv s) : unitE c u = 0 ∧ u.lv = lv := by
  obtain ⟨n0, hy, hF, m, n, hn, hL, _⟩ := meets_facts h
  rw [hL] at hu
  have h1 := List.mem_of_mem_drop (List.mem_of_mem_take hu)
  obtain ⟨p, hp, e⟩ := List.getElem_of_mem h1
  obtain ⟨a, i, ha, hi, rfl, _⟩ := allUp_at c lv _ _ p u (by rw [List.getElem?_eq_getElem hp, e])
  exact ⟨un_here (hF a ha) hi, rfl⟩
theorem sp_order {c : Cal} {u : Un} (h : unitE c u = 0) : (spV c u).a ≤ (spV c u).b := by
  have hab := cutAB h
  have := dayW_lt c u.yr (un_lv h).2.2.2.1 hab.1 hab.2
  rw [sp_get h]
  simp only
  omega
theorem meets_adj {c : Cal} {lv : Int} {s : Sp} (h : meetsE c lv s = 0) : AdjL ((meetsL c lv s).map (spV c)) := by
  refine adj_of fun j u v hu hv => ?_
  simp only [List.getElem?_map, Option.map_eq_some_iff] at hu hv
  obtain ⟨x, hx, rfl⟩ := hu
  obtain ⟨y, hy, rfl⟩ := hv
  obtain ⟨k1, k2⟩ := (meets_chain h).1 j x y hx hy
  have hU := (meets_mem h (List.mem_of_getElem? hx)).1
  rcases next_facts hU with ⟨_, _, _, h4, _⟩ | ⟨h1, _⟩
  · rw [k2] at h4; exact h4
  · omega
theorem meets_order {c : Cal} {lv : Int} {s : Sp} (h : meetsE c lv s = 0) : ∀ t ∈ (meetsL c lv s).map (spV c), t.a ≤ t.b := by
  intro t ht
  obtain ⟨u, hu, rfl⟩ := List.mem_map.1 ht
  exact sp_order (meets_mem h hu).1
theorem fd_sp {c : Cal} {d lv : Int} (h : fdE c d lv = 0) : (spV c (fdU c d lv)).a ≤ d ∧ d ≤ (spV c (fdU c d lv)).b := by
  obtain ⟨i, e, hi, h1, h2⟩ := fd_in h
  have hf := (fd_ok h).2.2.2.2.2.2
  have hs := sp_mk hf i hi
  rw [e, hs]
  simp only
  omega
/-- How many days of a span lie in each unit that meets it. -/
noncomputable def dysL (c : Cal) (lv : Int) (s : Sp) : List Int := ((meetsL c lv s).map (spV c)).map (clipV s.a s.b)
theorem dysL_len (c : Cal) (lv : Int) (s : Sp) : (dysL c lv s).length = (meetsL c lv s).length := by simp [dysL]
theorem dysL_get {c : Cal} {lv : Int} {s : Sp} {j : Nat} {u : Un} (h : (meetsL c lv s)[j]? = some u) : (dysL c lv s)[j]? = some (clipV s.a s.b (spV c u)) := by simp [dysL, h]
theorem dysL_no {c : Cal} {lv : Int} {s : Sp} (h : ¬ meetsE c lv s = 0) : dysL c lv s = [] := by simp [dysL, meets_no h]
theorem dys_facts {c : Cal} {lv : Int} {s : Sp} (h : meetsE c lv s = 0) : (dysL c lv s).sum = s.b - s.a + 1 ∧ ∀ d ∈ dysL c lv s, 1 ≤ d ∧ d ≤ s.b - s.a + 1 := by
  obtain ⟨hk, h1, h5, hab, ha, hb⟩ := meets_ok h
  obtain ⟨c1, c2, c3, c4, c5⟩ := meets_chain h
  have hadj := meets_adj h
  have hord := meets_order h
  have hl : ∀ t, ((meetsL c lv s).map (spV c)).getLast? = some t → t.a ≤ s.b ∧ s.b ≤ t.b := by
    intro t ht
    rw [List.getLast?_eq_getElem?, List.length_map, List.getElem?_map, c3] at ht
    simp only [Option.map_some, Option.some.injEq] at ht
    subst ht
    exact fd_sp hb
  have hf := fd_sp ha
  unfold dysL
  cases hL : meetsL c lv s with
  | nil => rw [hL] at c4; simp at c4
  | cons u l =>
    rw [hL] at c2 hadj hord hl
    have hu : u = fdU c s.a lv := by simpa using c2
    subst hu
    rw [List.map_cons] at hadj hord hl ⊢
    obtain ⟨e1, e2⟩ := clip_sum hadj hord hab hf hl
    refine ⟨e1, fun d hd => ?_⟩
    obtain ⟨t, ht, rfl⟩ := List.mem_map.1 hd
    have := e2 t ht
    refine ⟨this, ?_⟩
    unfold clipV; omega
theorem dys_mid {c : Cal} {lv : Int} {s : Sp} (h : meetsE c lv s = 0) {j : Nat} {u : Un} (hj : (meetsL c lv s)[j]? = some u) (h0 : 0 < j) (h1 : j + 1 < (meetsL c lv s).length) : clipV s.a s.b (spV c u) = (spV c u).b - (spV c u).a + 1 := by
  obtain ⟨_, _, _, hab, ha, hb⟩ := meets_ok h
  obtain ⟨_, c2, c3, c4, c5⟩ := meets_chain h
  refine clip_mid (meets_adj h) (meets_order h) (fun t ht => ?_) (fun t ht => ?_) (by rw [List.getElem?_map, hj]; rfl) h0 (by simpa using h1)
  · rw [List.getElem?_map, c2] at ht
    simp only [Option.map_some, Option.some.injEq] at ht
    subst ht
    exact (fd_sp ha).2
  · rw [List.getLast?_eq_getElem?, List.length_map, List.getElem?_map, c3] at ht
    simp only [Option.map_some, Option.some.injEq] at ht
    subst ht
    exact (fd_sp hb).1
/-- A day of a unit that meets a span lies in the span just if it is one of the span's. -/
theorem dys_le {c : Cal} {lv : Int} {s : Sp} (u : Un) : clipV s.a s.b (spV c u) ≤ (spV c u).b - (spV c u).a + 1 := by unfold clipV; omega
end Go.Proofs.YtamnccechaooaaaGreat
