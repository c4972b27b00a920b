/- Vary: the days with which a unit's days are compared, and what is posted on them: plain law. -/
import Derived.Test.YtjhhmeoibfdcmaaGreatMVy
import Derived.Test.YtjhhmeoibfdcmaaGreatMNt
namespace Go.Proofs.YtjhhmeoibfdcmaaGreat
open Go.RowKit Qd
set_option linter.unusedSimpArgs false
set_option linter.unusedVariables false

/-- What is posted on a day. -/
def onD (d : Int) (P : List Po) : List Int := (P.filter fun p => p.day == d).map Po.n
/-- What is posted on the days with which the first n of some days are compared; whether there is one. -/
noncomputable def cmpD (c : Cal) (k a : Int) (P : List Po) : Nat → List Int
  | 0 => []
  | n + 1 => cmpD c k a P n ++ (if cdE c (a + n) k = 0 then onD (cdV c (a + n) k) P else [])
noncomputable def metD (c : Cal) (k a : Int) : Nat → Bool
  | 0 => false
  | n + 1 => metD c k a n || decide (cdE c (a + n) k = 0)
theorem onD_len (d : Int) (P : List Po) : (onD d P).length ≤ P.length := by rw [onD, List.length_map]; exact List.length_filter_le _ _
theorem cmpD_len (c : Cal) (k a : Int) (P : List Po) (n : Nat) : (cmpD c k a P n).length ≤ n * P.length := by
  induction n with
  | zero => simp [cmpD]
  | succ n ih =>
    rw [cmpD, List.length_append, Nat.succ_mul]
    have := onD_len (cdV c (a + n) k) P
    split
    · omega
    · simp; omega
theorem cmpD_mem {c : Cal} {k a : Int} {P : List Po} {n : Nat} {x : Int} (h : x ∈ cmpD c k a P n) : ∃ p ∈ P, p.n = x := by
  induction n with
  | zero => simp [cmpD] at h
  | succ n ih =>
    rw [cmpD, List.mem_append] at h
    rcases h with h | h
    · exact ih h
    · split at h
      · simp only [onD, List.mem_map, List.mem_filter] at h
        obtain ⟨p, ⟨h1, _⟩, h2⟩ := h
        exact ⟨p, h1, h2⟩
      · simp at h
theorem onD_yes {d : Int} {P : List Po} {j : Nat} {x : Po} (hx : P[j]? = some x) (h : x.day = d) : onD d (P.take (j + 1)) = onD d (P.take j) ++ [x.n] := by
  rw [List.take_add_one, hx, onD, onD]; simp [h]
theorem onD_no {d : Int} {P : List Po} {j : Nat} {x : Po} (hx : P[j]? = some x) (h : ¬ x.day = d) : onD d (P.take (j + 1)) = onD d (P.take j) := by
  rw [List.take_add_one, hx, onD, onD]; simp [h]
/-- Sums of what is posted. -/
def onS (d : Int) (P : List Po) : Int := (onD d P).sum
def inS (s : Sp) (P : List Po) : Int := (inD s P).sum
theorem inS_nil (s : Sp) : inS s [] = 0 := by simp [inS, inD]
theorem inS_cons (s : Sp) (x : Po) (P : List Po) : inS s (x :: P) = (if s.a ≤ x.day ∧ x.day ≤ s.b then x.n else 0) + inS s P := by
  unfold inS inD
  by_cases h : s.a ≤ x.day ∧ x.day ≤ s.b
  · rw [if_pos h]; simp [h]
  · have : (decide (s.a ≤ x.day) && decide (x.day ≤ s.b)) = false := by
      rw [Bool.and_eq_false_iff, decide_eq_false_iff_not, decide_eq_false_iff_not]; omega
    rw [if_neg h]; simp [this]
theorem onS_cons (d : Int) (x : Po) (P : List Po) : onS d (x :: P) = (if x.day = d then x.n else 0) + onS d P := by
  unfold onS onD
  by_cases h : x.day = d <;> simp [h]
theorem onS_nil (d : Int) : onS d [] = 0 := by simp [onS, onD]
theorem inS_join {a b e : Int} (P : List Po) (h1 : a ≤ b + 1) (h2 : b ≤ e) : inS ⟨a, e⟩ P = inS ⟨a, b⟩ P + inS ⟨b + 1, e⟩ P := by
  induction P with
  | nil => simp [inS_nil]
  | cons x P ih =>
    rw [inS_cons, inS_cons, inS_cons, ih]
    simp only
    repeat' split
    all_goals omega
theorem inS_one (a : Int) (P : List Po) : inS ⟨a, a⟩ P = onS a P := by
  induction P with
  | nil => simp [inS_nil, onS_nil]
  | cons x P ih =>
    rw [inS_cons, onS_cons, ih]
    simp only
    repeat' split
    all_goals omega
theorem inS_none {a b : Int} (P : List Po) (h : b < a) : inS ⟨a, b⟩ P = 0 := by
  induction P with
  | nil => simp [inS_nil]
  | cons x P ih =>
    rw [inS_cons, ih]
    simp only
    split <;> omega
theorem inS_snoc (a : Int) (n : Nat) (P : List Po) : inS ⟨a, a + n⟩ P = inS ⟨a, a + n - 1⟩ P + onS (a + n) P := by
  have h := inS_join (a := a) (b := a + n - 1) (e := a + n) P (by omega) (by omega)
  rw [h, show a + (n : Int) - 1 + 1 = a + n by omega, inS_one]
/-- Joined spans have what the spans have. -/
def inR (l : List Sp) (P : List Po) : Int := (l.map fun s => inS s P).sum
theorem inR_app (l m : List Sp) (P : List Po) : inR (l ++ m) P = inR l P + inR m P := by simp [inR]
theorem inR_one (s : Sp) (P : List Po) : inR [s] P = inS s P := by simp [inR]
theorem inR_runs (P : List Po) (l : List Sp) (h : ∀ s ∈ l, s.a ≤ s.b) : inR (runsL l) P = inR l P ∧ ∀ s ∈ runsL l, s.a ≤ s.b := by
  suffices ∀ (l r : List Sp), (∀ s ∈ l, s.a ≤ s.b) → (∀ s ∈ r, s.a ≤ s.b) → inR (l.foldl runAdd r) P = inR r P + inR l P ∧ ∀ s ∈ l.foldl runAdd r, s.a ≤ s.b by
    have h2 := this l [] h (by simp)
    simpa [runsL, inR] using h2
  intro l
  induction l with
  | nil => intro r _ hr; exact ⟨by simp [inR], hr⟩
  | cons s l ih =>
    intro r hl hr
    have hs := hl s (by simp)
    rw [List.foldl_cons]
    have key : inR (runAdd r s) P = inR r P + inS s P ∧ ∀ x ∈ runAdd r s, x.a ≤ x.b := by
      rcases List.eq_nil_or_concat r with rfl | ⟨r0, p, rfl⟩
      · rw [runAdd_nil]; exact ⟨by simp [inR], by simpa using hs⟩
      · rw [List.concat_eq_append] at hr ⊢
        have hp := hr p (by simp)
        by_cases he : p.b = s.a - 1
        · rw [runAdd_join _ _ _ he, inR_app, inR_app, inR_one, inR_one]
          refine ⟨?_, ?_⟩
          · have h := inS_join (a := p.a) (b := p.b) (e := s.b) P (by omega) (by omega)
            rw [show p.b + 1 = s.a by omega] at h
            have e1 : (⟨p.a, p.b⟩ : Sp) = p := rfl
            have e2 : (⟨s.a, s.b⟩ : Sp) = s := rfl
            rw [e1, e2] at h
            omega
          · intro x hx
            rcases List.mem_append.1 hx with hx | hx
            · exact hr x (List.mem_append_left _ hx)
            · simp at hx; rw [hx]; simp only; omega
        · rw [runAdd_new _ _ _ he, inR_app, inR_one]
          refine ⟨by omega, ?_⟩
          intro x hx
          rcases List.mem_append.1 hx with hx | hx
          · exact hr x hx
          · simp at hx; rw [hx]; exact hs
    obtain ⟨h1, h2⟩ := ih (runAdd r s) (fun x hx => hl x (List.mem_cons_of_mem _ hx)) key.2
    refine ⟨?_, h2⟩
    rw [h1, key.1]
    simp [inR]; omega
/-- What is posted on the first M days of one run, or of two. -/
def runS (p m1 p2 : Int) (P : List Po) (M : Int) : Int := if M ≤ m1 then inS ⟨p, p + M - 1⟩ P else inS ⟨p, p + m1 - 1⟩ P + inS ⟨p2, p2 + (M - m1) - 1⟩ P
theorem runS_zero (p m1 p2 : Int) (P : List Po) (h : 0 ≤ m1) : runS p m1 p2 P 0 = 0 := by
  rw [runS, if_pos h]; exact inS_none P (by omega)
theorem runS_succ (p m1 p2 : Int) (P : List Po) (M : Int) (h0 : 0 ≤ M) (hm : 0 ≤ m1) : runS p m1 p2 P (M + 1) = runS p m1 p2 P M + onS (runPos p m1 p2 M) P := by
  obtain ⟨n, rfl⟩ := Int.eq_ofNat_of_zero_le h0
  unfold runS runPos
  by_cases h1 : (n : Int) < m1
  · rw [if_pos (by omega), if_pos (by omega), if_pos h1]
    have := inS_snoc p n P
    rw [show p + ((n : Int) + 1) - 1 = p + n by omega, this]
  · rw [if_neg (by omega), if_neg h1]
    obtain ⟨q, hq⟩ := Int.eq_ofNat_of_zero_le (show 0 ≤ (n : Int) - m1 by omega)
    have := inS_snoc p2 q P
    rw [show p2 + ((n : Int) + 1 - m1) - 1 = p2 + q by omega, this, hq]
    by_cases h2 : (n : Int) ≤ m1
    · rw [if_pos h2]
      have e : (q : Int) = 0 := by omega
      rw [e, inS_none P (show p2 + 0 - 1 < p2 by omega), show p + (n : Int) - 1 = p + m1 - 1 by omega]
      omega
    · rw [if_neg h2]; omega
/-- What is posted on the days with which a unit's days are compared, is what is posted on the days of the weeks. -/
theorem cmpD_run {c : Cal} {k : Int} {P : List Po} {S : Sp} {g gl p m1 p2 : Int} (hgl : gl = 0 ∨ gl = 7) (hg1 : S.a ≤ g) (hg2 : g + gl ≤ S.b + 1) (hm1 : 0 ≤ m1)
    (hD : ∀ d : Int, S.a ≤ d → d ≤ S.b → if g ≤ d ∧ d < g + gl then cdE c d k = 12 else cdE c d k = 0 ∧ cdV c d k = runPos p m1 p2 (metN S.a g gl d)) (n : Nat) (hn : S.a + n ≤ S.b + 1) :
    (cmpD c k S.a P n).sum = runS p m1 p2 P (metN S.a g gl (S.a + n)) ∧ metD c k S.a n = decide (0 < metN S.a g gl (S.a + n)) := by
  induction n with
  | zero =>
    have h0 := metN_start (gl := gl) hg1
    simp only [Int.natCast_zero, Int.add_zero]
    rw [h0, runS_zero _ _ _ _ hm1]
    exact ⟨by simp [cmpD], by simp [metD]⟩
  | succ n ih =>
    obtain ⟨h1, h2⟩ := ih (by omega)
    have hd := hD (S.a + n) (by omega) (by omega)
    have hb := metN_bd (d := S.a + n) hg1 (show 0 ≤ gl by omega) (by omega)
    rw [cmpD, metD, List.sum_append, h1, h2]
    rw [show S.a + ((n + 1 : Nat) : Int) = S.a + n + 1 by omega]
    by_cases hin : g ≤ S.a + n ∧ S.a + n < g + gl
    · rw [if_pos hin] at hd
      rw [metN_in hin.1 hin.2, hd]
      simp
    · rw [if_neg hin] at hd
      rw [metN_out hin (by omega), hd.1, hd.2]
      rw [runS_succ _ _ _ _ _ hb.1 hm1]
      refine ⟨by simp [onS], ?_⟩
      simp; omega
/-- No accruals. -/
def Z0 : Parts := ⟨fun _ => 0, fun _ _ => []⟩
theorem wkNs_nil (y : Int) (a n : Nat) : wkNs (fun _ => []) y a n = [] := by
  induction n with
  | zero => rfl
  | succ n ih => rw [wkNs, ih]; rfl
theorem totL_nil (c : Cal) (u : Un) (P : List Po) : totL c u P (fun _ => []) = inD (spV c u) P := by rw [totL, wkNs_nil]; rfl
theorem fitE_in {n : Int} (h : fitE n = 0) : in64 n := by
  by_cases hf : in64 n
  · exact hf
  · rw [(fit_no hf).2] at h; omega
theorem TE_nil {c : Cal} {P : List Po} {x : Un} (h : TE c P [] Z0 x = 0) : unitE c x = 0 ∧ chkE P [] = 0 ∧ TV c P [] Z0 x = inS (spV c x) P ∧ in64 (inS (spV c x) P) := by
  unfold TE tE at h
  by_cases hU : unitE c x = 0
  · rw [if_pos hU] at h
    by_cases hC : chkE P [] = 0
    · rw [if_pos hC, if_pos (show Z0.pe x.yr = 0 from rfl)] at h
      have h2 : fitE (inS (spV c x) P) = 0 := by rw [inS, ← totL_nil]; exact h
      have hi := fitE_in h2
      refine ⟨hU, hC, ?_, hi⟩
      rw [TV, tV, if_pos ⟨hU, hC, rfl⟩]
      show fitV (totL c x P (fun _ => [])).sum = _
      rw [totL_nil]
      exact (fit_yes hi).1
    · rw [if_neg hC] at h; exact absurd h hC
  · rw [if_neg hU] at h; exact absurd h hU
theorem totsE_all {c : Cal} {P : List Po} {A : List Ac} {Z : Parts} {L : List Un} (h : totsE c P A Z L = 0) : ∀ x ∈ L, TE c P A Z x = 0 := by
  induction L with
  | nil => simp
  | cons y l ih =>
    rw [totsE] at h
    by_cases hy : TE c P A Z y = 0
    · rw [if_pos hy] at h
      intro x hx
      rcases List.mem_cons.1 hx with rfl | hx
      · exact hy
      · exact ih h x hx
    · rw [if_neg hy] at h; exact absurd h hy
theorem thE_cases {c : Cal} {u : Un} {k : Int} {P : List Po} {A : List Ac} {Z : Parts} (h : thE c u k P A Z = 0) :
    (twE c u k = 12 ∧ thOk c u k P A Z = false ∧ thV c u k P A Z = 0) ∨ (twE c u k = 0 ∧ thOk c u k P A Z = true ∧ totsE c P A Z (twL c u k) = 0 ∧ in64 (thS c u k P A Z) ∧ thV c u k P A Z = thS c u k P A Z) := by
  unfold thE at h
  by_cases h12 : twE c u k = 12
  · have ho : thOk c u k P A Z = false := by simp [thOk, h12]
    exact .inl ⟨h12, ho, by rw [thV, ho]; rfl⟩
  · rw [if_neg h12] at h
    by_cases h0 : twE c u k = 0
    · rw [if_pos h0] at h
      by_cases ht : totsE c P A Z (twL c u k) = 0
      · rw [if_pos ht] at h
        have hi := fitE_in h
        have ho : thOk c u k P A Z = true := by simp [thOk, h0, ht]
        exact .inr ⟨h0, ho, ht, hi, by rw [thV, ho]; exact (fit_yes hi).1⟩
      · rw [if_neg ht] at h; exact absurd h ht
    · rw [if_neg h0] at h; exact absurd h h0
theorem tw_rng {c : Cal} {u : Un} {k : Int} (h : twE c u k = 12 ∨ twE c u k = 0) (hU : unitE c u = 0) : c.first ≤ u.yr + k ∧ u.yr + k ≤ c.last := by
  unfold twE at h
  rw [if_pos hU] at h
  by_cases hr : c.first ≤ u.yr + k ∧ u.yr + k ≤ c.last
  · exact hr
  · rw [if_neg hr] at h; omega
theorem map_inS {c : Cal} {P : List Po} {L : List Un} (h : ∀ x ∈ L, TV c P [] Z0 x = inS (spV c x) P) : (L.map (TV c P [] Z0)).sum = inR (L.map (spV c)) P := by
  induction L with
  | nil => rfl
  | cons x l ih =>
    have h1 := ih fun y hy => h y (List.mem_cons_of_mem _ hy)
    have h2 := h x (by simp)
    simp only [List.map_cons, List.sum_cons, inR] at h1 ⊢
    rw [h2, h1]
theorem vd_law {c : Cal} {u : Un} {k : Int} {P : List Po} (hk6 : c.kind ≠ 6) (hE : rwE c u k P [] Z0 = 0) :
    unitE c u = 0 ∧ (∀ d : Int, (spV c u).a ≤ d → d ≤ (spV c u).b → cdE c d k = 0 ∨ cdE c d k = 12) ∧
    fitE (cmpD c k (spV c u).a P ((spV c u).b + 1 - (spV c u).a).toNat).sum = 0 ∧ fitV (cmpD c k (spV c u).a P ((spV c u).b + 1 - (spV c u).a).toNat).sum = thV c u k P [] Z0 ∧
    metD c k (spV c u).a ((spV c u).b + 1 - (spV c u).a).toNat = thOk c u k P [] Z0 := by
  unfold rwE at hE
  have hT : TE c P [] Z0 u = 0 := by
    by_cases h : TE c P [] Z0 u = 0
    · exact h
    · rw [if_neg h] at hE; exact absurd hE h
  rw [if_pos hT] at hE
  have hH : thE c u k P [] Z0 = 0 := by
    by_cases h : thE c u k P [] Z0 = 0
    · exact h
    · rw [if_neg h] at hE; exact absurd hE h
  obtain ⟨hU, hC, _, _⟩ := TE_nil hT
  have hcs := thE_cases hH
  have hr := tw_rng (k := k) (hcs.imp (fun h => h.1) (fun h => h.1)) hU
  obtain ⟨g, gl, p, m1, p2, m2, d1, d2, d3, d4, d5, d6, d7, d8⟩ := tw_days (k := k) hU hk6 hr
  have hsb := sp_bd2 hU
  refine ⟨hU, fun d h1 h2 => ?_, ?_⟩
  · have h := d5 d h1 h2
    split at h
    · exact .inr h
    · exact .inl h.1
  · have hN : (spV c u).a + (((spV c u).b + 1 - (spV c u).a).toNat : Int) = (spV c u).b + 1 := by omega
    have he := metN_end (S := (spV c u).a) (E := (spV c u).b) d3 (by omega)
    rcases hcs with ⟨h12, ho, hv⟩ | ⟨h0, ho, ht, hi, hv⟩
    · have hl : (twL0 c u k).length = 0 := by
        have h3 : twE c u k = 12 := h12
        unfold twE at h3
        rw [if_pos hU, if_pos hr] at h3
        split at h3
        · split at h3
          · assumption
          · omega
        · omega
      rw [hl] at d6
      have hz : (spV c u).b + 1 - (spV c u).a - gl = 0 := by omega
      by_cases hm1 : 0 ≤ m1
      · obtain ⟨q1, q2⟩ := cmpD_run (P := P) d1 d2 d3 hm1 d5 _ (show (spV c u).a + (((spV c u).b + 1 - (spV c u).a).toNat : Int) ≤ (spV c u).b + 1 by omega)
        rw [hN, he, hz, runS_zero _ _ _ _ hm1] at q1
        rw [hN, he, hz] at q2
        rw [q1, q2, ho, hv]
        exact ⟨by decide, by decide, by decide⟩
      · -- no day is met: any number serves
        have d5' : ∀ d : Int, (spV c u).a ≤ d → d ≤ (spV c u).b → if g ≤ d ∧ d < g + gl then cdE c d k = 12 else cdE c d k = 0 ∧ cdV c d k = runPos p 0 p2 (metN (spV c u).a g gl d) := by
          intro d h1 h2
          have h := d5 d h1 h2
          rw [if_pos (by omega)] at h ⊢
          exact h
        obtain ⟨q1, q2⟩ := cmpD_run (P := P) d1 d2 d3 (Int.le_refl 0) d5' _ (show (spV c u).a + (((spV c u).b + 1 - (spV c u).a).toNat : Int) ≤ (spV c u).b + 1 by omega)
        rw [hN, he, hz, runS_zero _ _ _ _ (Int.le_refl 0)] at q1
        rw [hN, he, hz] at q2
        rw [q1, q2, ho, hv]
        exact ⟨by decide, by decide, by decide⟩
    · obtain ⟨e1, e2, e3⟩ := d8 h0
      obtain ⟨q1, q2⟩ := cmpD_run (P := P) d1 d2 d3 (by omega) d5 _ (show (spV c u).a + (((spV c u).b + 1 - (spV c u).a).toNat : Int) ≤ (spV c u).b + 1 by omega)
      rw [hN, he] at q1 q2
      have hmm : (spV c u).b + 1 - (spV c u).a - gl = m1 + m2 := by omega
      rw [hmm] at q1 q2
      obtain ⟨_, _, _, _, _, _, _, hun⟩ := tw_runs h0
      have hS : thS c u k P [] Z0 = runS p m1 p2 P (m1 + m2) := by
        rw [thS, map_inS (fun x hx => (TE_nil (totsE_all ht x hx)).2.2.1), ← (inR_runs P _ (fun s hs => by
          obtain ⟨x, hx, rfl⟩ := List.mem_map.1 hs
          exact (hun.1 x hx).2.2.2.1)).1]
        show inR (rnL c u k) P = _
        rw [e3, runS]
        by_cases hm2 : m2 = 0
        · rw [if_pos hm2, if_pos (by omega), inR_one, hm2, Int.add_zero]
        · rw [if_neg hm2, if_neg (by omega)]
          simp only [inR, List.map_cons, List.map_nil, List.sum_cons, List.sum_nil]
          rw [show p2 + (m1 + m2 - m1) - 1 = p2 + m2 - 1 by omega]
          omega
      rw [q1, q2, ← hS, ho, hv]
      exact ⟨(fit_yes hi).2, (fit_yes hi).1, by simp; omega⟩
end Go.Proofs.YtjhhmeoibfdcmaaGreat
