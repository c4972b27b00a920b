/- Plain law of BookParts: an accrual within one year. -/
import Derived.Test.YtamnccechaooaaaGreatBookZ
namespace Go.Proofs.YtamnccechaooaaaGreat
open Go.RowKit Qd
set_option linter.unusedSimpArgs false
set_option linter.unusedVariables false

theorem filt_at {α : Type} (U : List α) (p : α → Bool) (j : Nat) (x : α) (hx : U[j]? = some x) :
    (p x = true → (U.filter p)[((U.take j).filter p).length]? = some x ∧ ((U.take (j + 1)).filter p).length = ((U.take j).filter p).length + 1) ∧
    (p x = false → (∀ z, (U.filter p)[((U.take j).filter p).length]? = some z → z ≠ x) ∧ ((U.take (j + 1)).filter p).length = ((U.take j).filter p).length) := by
  have hj := (List.getElem?_eq_some_iff.1 hx).1
  have e : U = U.take j ++ x :: U.drop (j + 1) := by
    have h2 : U.drop j = x :: U.drop (j + 1) := by rw [List.drop_eq_getElem_cons hj]; congr 1; exact Option.some.inj ((List.getElem?_eq_getElem hj).symm.trans hx)
    rw [← h2, List.take_append_drop]
  constructor
  · intro hp
    constructor
    · have e2 : U.filter p = (U.take j).filter p ++ x :: (U.drop (j + 1)).filter p := by
        conv => lhs; rw [e]
        rw [List.filter_append, List.filter_cons_of_pos hp]
      rw [e2, List.getElem?_append_right (Nat.le_refl _), Nat.sub_self]; rfl
    · rw [List.take_add_one, hx, List.filter_append]; simp [hp]
  · intro hp
    constructor
    · intro z hz hzx
      have := (List.mem_filter.1 (List.mem_of_getElem? hz)).2
      rw [hzx, hp] at this
      cases this
    · rw [List.take_add_one, hx, List.filter_append]; simp [hp]
theorem shF_cons (x : Un × Int) (L : List (Un × Int)) (u : Un) : shF (x :: L) u = (if u = x.1 then [x.2] else []) ++ shF L u := by
  unfold shF
  by_cases h : u = x.1
  · rw [List.filter_cons_of_pos (by simpa using h), if_pos h]; rfl
  · rw [List.filter_cons_of_neg (by simpa using h), if_neg h]; rfl
theorem shF_out {L : List Un} {O : List Int} {x : Un} (h : x ∉ L) : shF (L.zip O) x = [] := by
  induction L generalizing O with
  | nil => rfl
  | cons l L ih =>
    cases O with
    | nil => rfl
    | cons o O =>
      rw [List.zip_cons_cons, shF_cons, if_neg (fun e => h (by simp at e; simp [e])), ih (fun e => h (List.mem_cons_of_mem _ e))]
      rfl
theorem shF_one {L : List Un} {O : List Int} {x : Un} {v : Int} {k : Nat} (hn : L.Nodup) (hx : L[k]? = some x) (hv : O[k]? = some v) : shF (L.zip O) x = [v] := by
  induction L generalizing O k with
  | nil => simp at hx
  | cons l L ih =>
    cases O with
    | nil => simp at hv
    | cons o O =>
      rw [List.zip_cons_cons, shF_cons]
      obtain ⟨h1, h2⟩ := List.nodup_cons.1 hn
      cases k with
      | zero =>
        simp at hx hv
        subst hx hv
        rw [if_pos rfl, shF_out h1]; rfl
      | succ k =>
        simp at hx hv
        have hne : ¬ x = l := fun e => h1 (e ▸ List.mem_of_getElem? hx)
        rw [if_neg hne, ih h2 hx hv]; rfl
theorem yU_nodup (lv y : Int) (n : Nat) : (yU lv y n).Nodup := by
  unfold yU upto
  exact List.Pairwise.map _ (fun a b h e => h (by simp at e; omega)) List.nodup_range
theorem tots_zero {c : Cal} {P : List Po} {A : List Ac} {Z : Parts} {L : List Un} (h : ∀ x ∈ L, TE c P A Z x = 0) : totsE c P A Z L = 0 := by
  induction L with
  | nil => rfl
  | cons x L ih => simp only [totsE]; rw [if_pos (h x (by simp))]; exact ih fun y hy => h y (List.mem_cons_of_mem _ hy)
theorem yU_mem {lv y : Int} {n : Nat} {x : Un} (h : x ∈ yU lv y n) : ∃ j : Nat, j < n ∧ x = ⟨lv, y, (j : Int) + 1⟩ := by
  obtain ⟨j, hj, rfl⟩ := List.mem_map.1 h
  exact ⟨j, List.mem_range.1 hj, rfl⟩
noncomputable def kpU (c : Cal) (a : Ac) (u : Un) : Bool := keepU (fdU c a.a 5) (fdU c a.b 5) u
noncomputable def atU (c : Cal) (a : Ac) (y : Int) (j : Nat) : Nat := (((yU 5 y (cntL c y 5)).take j).filter (kpU c a)).length
theorem part_L {c : Cal} {a : Ac} {y : Int} (hE : meetsE c 5 ⟨a.a, a.b⟩ = 0) (h1 : servY c a.a = y) (h2 : servY c a.b = y) : meetsL c 5 ⟨a.a, a.b⟩ = (yU 5 y (cntL c y 5)).filter (kpU c a) := by
  unfold meetsL meetsN
  rw [if_pos hE]
  simp only [h1, h2]
  rw [show (y - y + 1).toNat = 1 by omega]
  simp [allUp]
  rfl
theorem part_facts {c : Cal} {a : Ac} {y : Int} (ha : accE a = 0) (h64 : in64 a.n) (s1 : servE c a.a = 0) (s2 : servE c a.b = 0) (h1 : servY c a.a = y) (h2 : servY c a.b = y) :
    meetsE c 5 ⟨a.a, a.b⟩ = 0 ∧ rollE c 5 y [] [a] (ZA c [a]) = 0 ∧ TE c [] [a] (ZA c [a]) ⟨1, y, 1⟩ = 0 ∧ TV c [] [a] (ZA c [a]) ⟨1, y, 1⟩ = a.n ∧ (shL c 5 a.n ⟨a.a, a.b⟩).length = atU c a y (cntL c y 5) ∧
    ∀ j : Nat, j < cntL c y 5 →
      (kpU c a ⟨5, y, (j : Int) + 1⟩ = true → (∃ N, (shL c 5 a.n ⟨a.a, a.b⟩)[atU c a y j]? = some (⟨5, y, (j : Int) + 1⟩, N) ∧ TV c [] [a] (ZA c [a]) ⟨5, y, (j : Int) + 1⟩ = N) ∧ atU c a y (j + 1) = atU c a y j + 1) ∧
      (kpU c a ⟨5, y, (j : Int) + 1⟩ = false → (∀ z, (shL c 5 a.n ⟨a.a, a.b⟩)[atU c a y j]? = some z → z.1 ≠ ⟨5, y, (j : Int) + 1⟩) ∧ TV c [] [a] (ZA c [a]) ⟨5, y, (j : Int) + 1⟩ = 0 ∧ atU c a y (j + 1) = atU c a y j) := by
  obtain ⟨hk, hd1, hy1, hf1, hf2⟩ := serv_ok s1
  obtain ⟨_, hd2, hy2, _, _⟩ := serv_ok s2
  rw [h1] at hy1 hf1 hf2
  rw [h2] at hy2
  have hab : a.a ≤ a.b := by
    unfold accE at ha
    split at ha
    · split at ha
      · cases ha
      · omega
    · cases ha
  have hfr : ∀ lv, 1 ≤ lv → lv ≤ 5 → frameE c lv y = 0 := fun lv l1 l5 => srv_frame hk ⟨hf1, hf2⟩ l1 l5
  have hfd : ∀ d lv, servE c d = 0 → 1 ≤ lv → lv ≤ 5 → fdE c d lv = 0 := fun d lv h l1 l5 => by rw [fdE, if_pos ⟨hk, l1, l5⟩, h]
  have hE : meetsE c 5 ⟨a.a, a.b⟩ = 0 := by
    unfold meetsE
    rw [if_pos ⟨hk, by omega, hab⟩, if_pos (hfd _ _ s1 (by omega) (by omega))]
    exact hfd _ _ s2 (by omega) (by omega)
  have hL := part_L hE h1 h2
  have hC : chkE [] [a] = 0 := by simp [chkE, dayB, accsE, ha]
  have hyr : ∀ d, servE c d = 0 → servY c d = y → (spV c ⟨1, y, 1⟩).a ≤ d ∧ d ≤ (spV c ⟨1, y, 1⟩).b := by
    intro d hs hy
    have h := hfd d 1 hs (by omega) (by omega)
    have h3 := fd_sp h
    obtain ⟨i, e1, e2, _⟩ := fd_in h
    rw [hy] at e1 e2
    have h4 : cntL c y 1 = 1 := by simp [cntL]
    have : i = 0 := by omega
    subst this
    rw [e1] at h3
    simpa using h3
  have hn : nearA c y a = true := by
    have g1 := hyr _ s1 h1
    have g2 := hyr _ s2 h2
    exact decide_eq_true ⟨by omega, by omega⟩
  have hpe : ptE c y [a] = 0 := by simp [ptE, hE]
  have hpl : pL c y [a] = shL c 5 a.n ⟨a.a, a.b⟩ := by rw [pL_one, if_pos hn]
  have hUy : unitE c ⟨1, y, 1⟩ = 0 := un_here (j := 0) (hfr 1 (by omega) (by omega)) (by simp [cntL])
  have hw : ∀ j, j < cntL c y 5 → unitE c ⟨5, y, (j : Int) + 1⟩ = 0 ∧ (totL c ⟨5, y, (j : Int) + 1⟩ [] (shF (shL c 5 a.n ⟨a.a, a.b⟩))).sum = (shF (shL c 5 a.n ⟨a.a, a.b⟩) ⟨5, y, (j : Int) + 1⟩).sum := by
    intro j hj
    have hj2 := hj
    rw [cnt_5] at hj2
    refine ⟨(week_facts (hfr 5 (by omega) (by omega)) j hj2).1, ?_⟩
    rw [tot_week (hfr 5 (by omega) (by omega)) j hj2]
    simp [inD]
  have hnd : (meetsL c 5 ⟨a.a, a.b⟩).Nodup := by rw [hL]; exact (yU_nodup _ _ _).filter _
  have hlo : (outV a.n (dysL c 5 ⟨a.a, a.b⟩)).length = (meetsL c 5 ⟨a.a, a.b⟩).length := by rw [outV_len, dysL_len]
  have hkey : ∀ j, j < cntL c y 5 →
      (kpU c a ⟨5, y, (j : Int) + 1⟩ = true → (∃ N, (shL c 5 a.n ⟨a.a, a.b⟩)[atU c a y j]? = some (⟨5, y, (j : Int) + 1⟩, N) ∧ shF (shL c 5 a.n ⟨a.a, a.b⟩) ⟨5, y, (j : Int) + 1⟩ = [N]) ∧ atU c a y (j + 1) = atU c a y j + 1) ∧
      (kpU c a ⟨5, y, (j : Int) + 1⟩ = false → (∀ z, (shL c 5 a.n ⟨a.a, a.b⟩)[atU c a y j]? = some z → z.1 ≠ ⟨5, y, (j : Int) + 1⟩) ∧ shF (shL c 5 a.n ⟨a.a, a.b⟩) ⟨5, y, (j : Int) + 1⟩ = [] ∧ atU c a y (j + 1) = atU c a y j) := by
    intro j hj
    obtain ⟨f1, f2⟩ := filt_at (yU 5 y (cntL c y 5)) (kpU c a) j _ (yUg hj)
    rw [← hL] at f1 f2
    constructor
    · intro h
      obtain ⟨g1, g2⟩ := f1 h
      refine ⟨?_, g2⟩
      have hl := (List.getElem?_eq_some_iff.1 g1).1
      obtain ⟨N, hN⟩ : ∃ N, (outV a.n (dysL c 5 ⟨a.a, a.b⟩))[atU c a y j]? = some N := ⟨_, List.getElem?_eq_getElem (by rw [hlo]; exact hl)⟩
      exact ⟨N, shL_get g1 hN, shF_one hnd g1 hN⟩
    · intro h
      obtain ⟨g1, g2⟩ := f2 h
      refine ⟨fun z hz => ?_, ?_, g2⟩
      · unfold shL at hz
        rw [List.getElem?_zip_eq_some] at hz
        exact g1 _ hz.1
      · refine shF_out fun hm => ?_
        rw [hL] at hm
        have := (List.mem_filter.1 hm).2
        rw [h] at this
        cases this
  have hTT : ∀ j, j < cntL c y 5 → TE c [] [a] (ZA c [a]) ⟨5, y, (j : Int) + 1⟩ = 0 ∧ TV c [] [a] (ZA c [a]) ⟨5, y, (j : Int) + 1⟩ = (shF (shL c 5 a.n ⟨a.a, a.b⟩) ⟨5, y, (j : Int) + 1⟩).sum := by
    intro j hj
    obtain ⟨w1, w2⟩ := hw j hj
    obtain ⟨t1, t2⟩ := T_ok (Z := ZA c [a]) (P := []) (A := [a]) w1 hC hpe
    have e : (ZA c [a]).f y = shF (shL c 5 a.n ⟨a.a, a.b⟩) := by show shF (pL c y [a]) = _; rw [hpl]
    simp only [e, w2] at t1 t2
    have hin : in64 (shF (shL c 5 a.n ⟨a.a, a.b⟩) ⟨5, y, (j : Int) + 1⟩).sum := by
      cases hkp : kpU c a ⟨5, y, (j : Int) + 1⟩
      · rw [((hkey j hj).2 hkp).2.1]; exact ⟨by decide, by decide⟩
      · obtain ⟨⟨N, g1, g2⟩, _⟩ := (hkey j hj).1 hkp
        rw [g2]
        have := shL_in hE h64 (List.mem_of_getElem? g1)
        simpa using this
    rw [(fit_yes hin).1] at t2
    rw [(fit_yes hin).2] at t1
    exact ⟨t1, t2⟩
  have hyear : (totL c ⟨1, y, 1⟩ [] (shF (shL c 5 a.n ⟨a.a, a.b⟩))).sum = a.n := by
    have e0 : cutA c ⟨1, y, 1⟩ = 0 := cut_0 c y 1
    have e1 : cutB c ⟨1, y, 1⟩ = nWk c y := by
      have := cut_end c y 1 (by omega) (by omega)
      have h1 : cntL c y 1 = 1 := by simp [cntL]
      rw [h1] at this
      exact this
    have hs := wkNs_sum (shL c 5 a.n ⟨a.a, a.b⟩) y 0 (nWk c y)
    have hall : (shL c 5 a.n ⟨a.a, a.b⟩).filter (fun x => inW y 0 (nWk c y) x.1) = shL c 5 a.n ⟨a.a, a.b⟩ := by
      rw [List.filter_eq_self]
      intro x hx
      have hm : x.1 ∈ meetsL c 5 ⟨a.a, a.b⟩ := (List.of_mem_zip (show (x.1, x.2) ∈ (meetsL c 5 ⟨a.a, a.b⟩).zip (outV a.n (dysL c 5 ⟨a.a, a.b⟩)) from hx)).1
      rw [hL] at hm
      obtain ⟨j, hj, e⟩ := yU_mem (List.mem_filter.1 hm).1
      rw [cnt_5] at hj
      rw [e]
      simp [inW]
      omega
    rw [sumW, hall, (shL_sign hE).1] at hs
    rw [totL, e0, e1, Nat.sub_zero, List.sum_append, hs]
    simp [inD]
  obtain ⟨t1, t2⟩ := T_ok (Z := ZA c [a]) (P := []) (A := [a]) hUy hC hpe
  have e : (ZA c [a]).f y = shF (shL c 5 a.n ⟨a.a, a.b⟩) := by show shF (pL c y [a]) = _; rw [hpl]
  simp only [e, hyear] at t1 t2
  rw [(fit_yes h64).1] at t2
  rw [(fit_yes h64).2] at t1
  refine ⟨hE, ?_, t1, t2, ?_, fun j hj => ⟨fun h => ?_, fun h => ?_⟩⟩
  · rw [rollE, if_pos (hfr 5 (by omega) (by omega)), if_pos hC, if_pos (show (ZA c [a]).pe y = 0 from hpe)]
    refine tots_zero fun x hx => ?_
    obtain ⟨j, hj, rfl⟩ := yU_mem hx
    exact (hTT j hj).1
  · rw [shL_len, hL, atU, List.take_of_length_le (by rw [yUl]; exact Nat.le_refl _)]
  · obtain ⟨⟨N, g1, g2⟩, g3⟩ := (hkey j hj).1 h
    exact ⟨⟨N, g1, by rw [(hTT j hj).2, g2]; simp⟩, g3⟩
  · obtain ⟨g1, g2, g3⟩ := (hkey j hj).2 h
    exact ⟨g1, by rw [(hTT j hj).2, g2]; rfl, g3⟩
end Go.Proofs.YtamnccechaooaaaGreat
