/- Package rate: the chapter's example; short spans. The plain law of rates: the days of finer units, put together. -/
import Derived.Test.YtjhhmeoibfdcmaaGreatDoorMRt
namespace Go.Proofs.YtjhhmeoibfdcmaaGreatDoor
open Go.RowKit Qd
set_option linter.unusedSimpArgs false
set_option linter.unusedVariables false

instance unDec21 : DecidableEq Un := fun x y => decidable_of_iff (unB x.lv x.yr x.ix y.lv y.yr y.ix = true) (by
  obtain ⟨a, b, c⟩ := x
  obtain ⟨d, e, f⟩ := y
  simp [unB])
def cal21 : Cal := ⟨⟨#[120]⟩, 3, 6, 1, 1, 1, 4, 5, 4, 0, 12, 2000, 2030, 1⟩
def sb21 : Int := (spV cal21 ⟨5, 2023, 7⟩).b
def s21 : Sp := ⟨sb21 - 1, sb21 + 1⟩
theorem l21_u : unitE cal21 ⟨5, 2023, 7⟩ = 0 := by decide +kernel
theorem l21_sa : servE cal21 s21.a = 0 ∧ servY cal21 s21.a = 2023 := serv_yes (by decide +kernel) (by unfold yrOk; decide +kernel) (by decide) (by decide)
theorem l21_sb : servE cal21 s21.b = 0 ∧ servY cal21 s21.b = 2023 := serv_yes (by decide +kernel) (by unfold yrOk; decide +kernel) (by decide) (by decide)
theorem l21_xa : (⟨5, 2023, (ixN cal21 2023 5 (wkN cal21 2023 s21.a) : Int) + 1⟩ : Un) = ⟨5, 2023, 7⟩ := by decide +kernel
theorem l21_xb : (⟨5, 2023, (ixN cal21 2023 5 (wkN cal21 2023 s21.b) : Int) + 1⟩ : Un) = ⟨5, 2023, 8⟩ := by decide +kernel
theorem l21_fa : fdE cal21 s21.a 5 = 0 ∧ fdU cal21 s21.a 5 = ⟨5, 2023, 7⟩ := by
  have h : fdE cal21 s21.a 5 = 0 := by rw [fd_serv (by omega) (by omega)]; exact l21_sa.1
  refine ⟨h, ?_⟩
  rw [fdU, if_pos h, l21_sa.2, l21_xa]
theorem l21_fb : fdE cal21 s21.b 5 = 0 ∧ fdU cal21 s21.b 5 = ⟨5, 2023, 8⟩ := by
  have h : fdE cal21 s21.b 5 = 0 := by rw [fd_serv (by omega) (by omega)]; exact l21_sb.1
  refine ⟨h, ?_⟩
  rw [fdU, if_pos h, l21_sb.2, l21_xb]
theorem l21_me : meetsE cal21 5 s21 = 0 := by
  unfold meetsE
  rw [if_pos ⟨by decide +kernel, by omega, by unfold s21; simp only; omega⟩, if_pos l21_fa.1]
  exact l21_fb.1
theorem l21_al : (allUp cal21 5 2023 1).filter (keepU ⟨5, 2023, 7⟩ ⟨5, 2023, 8⟩) = [⟨5, 2023, 7⟩, ⟨5, 2023, 8⟩] := by decide +kernel
theorem l21_ml : meetsL cal21 5 s21 = [⟨5, 2023, 7⟩, ⟨5, 2023, 8⟩] := by
  rw [meetsL, if_pos l21_me, l21_fa.2, l21_fb.2, meetsN, l21_sa.2, l21_sb.2]
  exact l21_al
theorem l21_dy : ([(⟨5, 2023, 7⟩ : Un), ⟨5, 2023, 8⟩].map (spV cal21)).map (clipV s21.a s21.b) = [2, 1] := by decide +kernel
theorem l21_sh : shL cal21 5 10 s21 = [(⟨5, 2023, 7⟩, 7), (⟨5, 2023, 8⟩, 3)] := by
  rw [shL, dysL, l21_ml, l21_dy]
  decide +kernel

set_option maxRecDepth 100000 in
set_option maxHeartbeats 6400000 in
theorem live21_any (w : World) : Calls Tryz.prog 4 #[] w fun e w' => e = .returned (.bool true) ∧ Below w.heap.size w w' := by
  have HSP := hide (fun w => rsplit_yes cal21 5 10 s21 w (by decide) l21_me (by rw [l21_ml]; decide) ⟨by decide, by decide⟩)
  rw [l21_sh, l21_ml] at HSP
  obtain ⟨S, hS⟩ : ∃ S, spV cal21 ⟨5, 2023, 7⟩ = S := ⟨_, rfl⟩
  have HS := hide (show s21 = ⟨S.b - 1, S.b + 1⟩ by unfold s21 sb21; rw [hS])
  rw [HS.out] at HSP
  have HU := hide (And.intro l21_u hS)
  have hSb : 0 ≤ S.b ∧ S.b < 3068037 := by
    have h1 := (fd_ok l21_fa.1).2.2.2.2.1
    have h2 := (fd_ok l21_fb.1).2.2.2.2.1
    rw [HS.out] at h1 h2
    simp [isB] at h1 h2
    omega
  obtain ⟨hSb1, hSb2⟩ := hSb
  clear hS
  simp only [spanV] at HSP
  go_enter Tryz.func4, Tryz.ntmps4
  go_wp2_with fail
  refine (uspan_any cal21 ⟨5, 2023, 7⟩ _ (by decide)).mono ?_
  rintro e w1 ⟨rfl, hb1⟩
  rw [HU.out.1, HU.out.2]
  simp only [spanV]
  have hz1 : w.heap.size < w1.heap.size := by have := hb1.size; simp at this; omega
  have HB1 : Hid (Below w.heap.size w w1) := ww hb1
  have HQ1 := hide (calAt_below hb1 (by simp) (calAt_new w cal21))
  clear hb1
  obtain ⟨q0, q1, q2, q3, q4, q5, q6, q7, q8, q9, q10, q11, q12, q13⟩ := HQ1.out
  go_wp2_with fail
  refine (HSP.out _).mono ?_
  rintro e w2 ⟨⟨g, rfl, hsh, hg⟩, hb2⟩
  have HB2 : Hid (Below w.heap.size w w2) := by have hp := HB1.out; exact ww hb2
  obtain ⟨a0, a1, a2, a3⟩ := hsh.cell (i := 0) rfl
  obtain ⟨b0, b1, b2, b3⟩ := hsh.cell (i := 1) rfl
  simp at a0 a1 a2 a3 b0 b1 b2 b3
  have hgl := hsh.lt
  clear hb2 hsh
  go_wp2
  all_goals first
    | (exfalso; omega)
    | skip
  go_ret
  exact ⟨rfl, HB2.out⟩

/-- A short span, and a short name. -/
def Brief21 (c : Cal) (s : Sp) (e : Ending) : Prop := ∃ b : Bool, e = .returned (.bool b) ∧ (b = true → c.name.size ≤ 100 ∧ (0 ≤ s.a → s.a ≤ s.b → s.b < 3068037 → s.b - s.a ≤ 1500))
set_option maxHeartbeats 1600000 in
theorem brief21_any (c : Cal) (s : Sp) (w : World) :
    Calls Tryz.prog 5 #[calV c, spanV s] w fun e w' => Brief21 c s e ∧ Below w.heap.size w w' := by
  simp only [calV, spanV]
  go_enter Tryz.func5, Tryz.ntmps5
  by_cases h0 : c.name.size ≤ 100
  · by_cases h1 : s.b < s.a
    · go_wp2
      all_goals first
        | (exfalso; omega)
        | (go_ret; exact ⟨⟨_, rfl, fun _ => ⟨h0, fun _ h => by omega⟩⟩, by (repeat' exact bel)⟩)
    · by_cases h2 : s.a < 0
      · go_wp2
        all_goals first
          | (exfalso; omega)
          | (go_ret; exact ⟨⟨_, rfl, fun _ => ⟨h0, fun h => by omega⟩⟩, by (repeat' exact bel)⟩)
      · by_cases h3 : 3068037 ≤ s.b
        · go_wp2
          all_goals first
            | (exfalso; omega)
            | (go_ret; exact ⟨⟨_, rfl, fun _ => ⟨h0, fun _ _ h => by omega⟩⟩, by (repeat' exact bel)⟩)
        · go_wp2
          all_goals first
            | (exfalso; omega)
            | (go_ret
               refine ⟨⟨_, rfl, fun hb => ⟨h0, fun g1 g2 g3 => ?_⟩⟩, by (repeat' exact bel)⟩
               have hw : wrap64 (s.b - s.a) = s.b - s.a := by unfold wrap64; omega
               rw [hw] at hb; simpa using hb)
            | (go_ret
               refine ⟨⟨_, rfl, fun hb => ⟨h0, fun g1 g2 g3 => ?_⟩⟩, by (repeat' exact bel)⟩
               simp at hb; omega)
  · go_wp2
    all_goals first
      | (exfalso; omega)
      | (go_ret; exact ⟨⟨_, rfl, fun h => by simp at h⟩, by (repeat' exact bel)⟩)
/-- What a span that can be cut comes to. -/
theorem brief_len {c : Cal} {lv : Int} {s : Sp} (h : meetsE c lv s = 0) (hb : 0 ≤ s.a → s.a ≤ s.b → s.b < 3068037 → s.b - s.a ≤ 1500) : (0 ≤ s.a ∧ s.a ≤ s.b ∧ s.b < 3068037 ∧ s.b - s.a ≤ 1500) ∧ (meetsL c lv s).length ≤ 420 := by
  have hok := meets_ok h
  have h1 := (fd_ok hok.2.2.2.2.1).2.2.2.2.1
  have h2 := (fd_ok hok.2.2.2.2.2).2.2.2.2.1
  simp [isB] at h1 h2
  have h3 := hb h1.1 hok.2.2.2.1 h2.2
  have h4 := meets_few h (by omega)
  have h5 := (meets_chain h).2.2.2.2
  exact ⟨⟨h1.1, hok.2.2.2.1, h2.2, h3⟩, by omega⟩
end Go.Proofs.YtjhhmeoibfdcmaaGreatDoor

namespace Go.Proofs.YtjhhmeoibfdcmaaGreatDoor
open Go.RowKit Qd
set_option linter.unusedSimpArgs false
set_option linter.unusedVariables false

theorem fd_unit {c : Cal} {u : Un} {d : Int} (h : unitE c u = 0) (h1 : (spV c u).a ≤ d) (h2 : d ≤ (spV c u).b) : fdE c d u.lv = 0 ∧ fdU c d u.lv = u := by
  obtain ⟨hf, l1, l5, hA, hx, hi⟩ := un_lv h
  rw [sp_get h] at h1 h2
  simp only at h1 h2
  obtain ⟨e1, _, _, e2⟩ := fd_of hf (uI u) hi h1 (by have : cutN c u.yr u.lv (uI u + 1) = cutB c u := rfl
                                                     rw [this]; omega)
  exact ⟨e1, by rw [e2, ← hx]⟩
theorem up_span {c : Cal} {u : Un} {lv : Int} (h : unitE c u = 0) (h1 : 1 ≤ lv) (h2 : lv ≤ u.lv) :
    upE c u lv = 0 ∧ unitE c (upV c u lv) = 0 ∧ (upV c u lv).lv = lv ∧ (spV c (upV c u lv)).a ≤ (spV c u).a ∧ (spV c u).b ≤ (spV c (upV c u lv)).b := by
  obtain ⟨hf, l1, l5, hA, hx, hi⟩ := un_lv h
  obtain ⟨k, e0, ev, hk, c1, c2⟩ := up_facts h h1 h2
  have hf2 := frame_lv hf lv h1 (by omega)
  have hab := cutAB h
  have hc := cut_le_nWk c u.yr hA lv h1 (by omega) (k + 1) hk
  have d1 := dayW_le c u.yr hA c1 (by omega)
  have d2 := dayW_le c u.yr hA c2 hc
  rw [ev]
  refine ⟨e0, un_here hf2 hk, rfl, ?_, ?_⟩
  · rw [sp_mk hf2 k hk, sp_get h]; exact d1
  · rw [sp_mk hf2 k hk, sp_get h]; simp only; omega
theorem clip_meets {c : Cal} {lv : Int} {s : Sp} (h : meetsE c lv s = 0) {u : Un} (hu : u ∈ meetsL c lv s) : unitE c u = 0 ∧ u.lv = lv ∧ (spV c u).a ≤ s.b ∧ s.a ≤ (spV c u).b ∧ (spV c u).a ≤ (spV c u).b := by
  obtain ⟨e1, e2⟩ := meets_mem h hu
  have hd := (dys_facts h).2 (clipV s.a s.b (spV c u)) (by unfold dysL; exact List.mem_map_of_mem (List.mem_map_of_mem hu))
  have ho := sp_order e1
  unfold clipV at hd
  exact ⟨e1, e2, by omega, by omega, ho⟩
theorem meets_next {c : Cal} {lv : Int} {s : Sp} (h : meetsE c lv s = 0) {j : Nat} {u v : Un} (hu : (meetsL c lv s)[j]? = some u) (hv : (meetsL c lv s)[j + 1]? = some v) : (spV c v).a = (spV c u).b + 1 := by
  obtain ⟨k1, k2⟩ := (meets_chain h).1 j u v hu hv
  rcases next_facts (meets_mem h (List.mem_of_getElem? hu)).1 with ⟨_, _, _, h4, _⟩ | ⟨h1, _⟩
  · rw [k2] at h4; exact h4
  · omega
/-- What is kept while finer units are gone through. -/
def LvI (c : Cal) (s : Sp) (lv fine : Int) (i a : Nat) (sum : Int) : Prop :=
  (i = 0 ∧ a = 0 ∧ sum = 0) ∨ (∃ p q, 0 < i ∧ (meetsL c fine s)[i - 1]? = some p ∧ (meetsL c lv s)[a]? = some q ∧ upV c p lv = q ∧ sum = min s.b (spV c p).b - max s.a (spV c q).a + 1)
theorem lv_step {c : Cal} {s : Sp} {lv fine : Int} (hL : meetsE c lv s = 0) (hM : meetsE c fine s = 0) (hlf : lv ≤ fine) {i a : Nat} {sum : Int} (h : LvI c s lv fine i a sum) {u : Un} (hu : (meetsL c fine s)[i]? = some u) :
    upE c u lv = 0 ∧ ∃ q, (meetsL c lv s)[a]? = some q ∧ ((upV c u lv = q ∧ LvI c s lv fine (i + 1) a (sum + clipV s.a s.b (spV c u))) ∨
      (upV c u lv ≠ q ∧ a + 1 < (meetsL c lv s).length ∧ (dysL c lv s)[a]? = some sum ∧ (meetsL c lv s)[a + 1]? = some (upV c u lv) ∧ LvI c s lv fine (i + 1) (a + 1) (clipV s.a s.b (spV c u)))) := by
  obtain ⟨_, l1, l5, hab, ha, hb⟩ := meets_ok hL
  obtain ⟨_, _, _, _, fa, fb⟩ := meets_ok hM
  obtain ⟨u1, u2, u3, u4, u5⟩ := clip_meets hM (List.mem_of_getElem? hu)
  obtain ⟨p0, p1, p2, p3, p4⟩ := up_span u1 l1 (by omega)
  refine ⟨p0, ?_⟩
  rcases h with ⟨rfl, rfl, rfl⟩ | ⟨p, q, hi, hp, hq, hpq, hsum⟩
  · have c2 := (meets_chain hL).2.1
    have d2 := (meets_chain hM).2.1
    rw [hu] at d2
    cases d2
    have hin := fd_sp fa
    have hv := fd_unit (d := s.a) p1 (by omega) (by omega)
    rw [p2] at hv
    refine ⟨_, c2, .inl ⟨hv.2.symm, .inr ⟨_, _, by omega, hu, c2, hv.2.symm, ?_⟩⟩⟩
    rw [hv.2]
    unfold clipV; omega
  · obtain ⟨r1, r2, r3, r4, r5⟩ := clip_meets hM (List.mem_of_getElem? hp)
    obtain ⟨q1, q2, q3, q4, q5⟩ := clip_meets hL (List.mem_of_getElem? hq)
    obtain ⟨t0, t1, t2, t3, t4⟩ := up_span r1 l1 (show lv ≤ p.lv by omega)
    rw [hpq] at t1 t2 t3 t4
    have hadj := meets_next hM (j := i - 1) hp (by rw [show i - 1 + 1 = i by omega]; exact hu)
    refine ⟨q, hq, ?_⟩
    by_cases hvq : upV c u lv = q
    · refine .inl ⟨hvq, .inr ⟨u, q, by omega, by rw [show i + 1 - 1 = i by omega]; exact hu, hq, hvq, ?_⟩⟩
      rw [hsum]
      unfold clipV; omega
    · have hv := fd_unit (d := (spV c u).a) p1 p3 (by omega)
      rw [p2] at hv
      have hqb : (spV c q).b = (spV c p).b := by
        rcases Int.lt_or_le (spV c p).b (spV c q).b with hlt | hge
        · exfalso
          have h2 := fd_unit (d := (spV c u).a) q1 (by omega) (by omega)
          rw [q2] at h2
          exact hvq (hv.2.symm.trans h2.2)
        · omega
      have hal := (List.getElem?_eq_some_iff.1 hq).1
      have hlast : a + 1 < (meetsL c lv s).length := by
        rcases Nat.lt_or_ge (a + 1) (meetsL c lv s).length with h | h
        · exact h
        · exfalso
          have c3 := (meets_chain hL).2.2.1
          rw [show (meetsL c lv s).length - 1 = a by omega, hq] at c3
          cases c3
          have := fd_sp hb
          omega
      obtain ⟨z, hz⟩ : ∃ z, (meetsL c lv s)[a + 1]? = some z := ⟨_, List.getElem?_eq_getElem hlast⟩
      obtain ⟨z1, z2, z3, z4, z5⟩ := clip_meets hL (List.mem_of_getElem? hz)
      have hza := meets_next hL hq hz
      have hzv := fd_unit (d := (spV c u).a) z1 (by omega) (by omega)
      rw [z2] at hzv
      have hzu : upV c u lv = z := hv.2.symm.trans hzv.2
      refine .inr ⟨hvq, hlast, ?_, by rw [hzu]; exact hz, .inr ⟨u, z, by omega, by rw [show i + 1 - 1 = i by omega]; exact hu, hz, hzu, ?_⟩⟩
      · rw [dysL_get hq, hsum]
        unfold clipV
        rw [hqb]
      · unfold clipV; omega
theorem lv_end {c : Cal} {s : Sp} {lv fine : Int} (hL : meetsE c lv s = 0) (hM : meetsE c fine s = 0) (hlf : lv ≤ fine) {a : Nat} {sum : Int} (h : LvI c s lv fine (meetsL c fine s).length a sum) : a + 1 = (meetsL c lv s).length ∧ (dysL c lv s)[a]? = some sum := by
  obtain ⟨_, l1, l5, hab, ha, hb⟩ := meets_ok hL
  obtain ⟨_, _, _, _, fa, fb⟩ := meets_ok hM
  have hl0 := (meets_chain hM).2.2.2.1
  rcases h with ⟨h0, _⟩ | ⟨p, q, hi, hp, hq, hpq, hsum⟩
  · omega
  · have c3 := (meets_chain hM).2.2.1
    rw [hp] at c3
    cases c3
    obtain ⟨r1, r2, r3, r4, r5⟩ := clip_meets hM (List.mem_of_getElem? hp)
    obtain ⟨t0, t1, t2, t3, t4⟩ := up_span r1 l1 (show lv ≤ (fdU c s.b fine).lv by omega)
    have hin := fd_sp fb
    rw [hpq] at t3 t4
    have hal := (List.getElem?_eq_some_iff.1 hq).1
    refine ⟨?_, ?_⟩
    · rcases Nat.lt_or_ge (a + 1) (meetsL c lv s).length with h | h
      · exfalso
        obtain ⟨z, hz⟩ : ∃ z, (meetsL c lv s)[a + 1]? = some z := ⟨_, List.getElem?_eq_getElem h⟩
        obtain ⟨z1, z2, z3, z4, z5⟩ := clip_meets hL (List.mem_of_getElem? hz)
        have := meets_next hL hq hz
        omega
      · omega
    · rw [dysL_get hq, hsum]
      unfold clipV
      congr 1; omega
end Go.Proofs.YtjhhmeoibfdcmaaGreatDoor
