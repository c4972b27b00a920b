/- Package rate: the chapter's example; short spans. -/
import Derived.Test.YtamnccechaooaaaGreatRateB
namespace Go.Proofs.YtamnccechaooaaaGreat
open Go.RowKit Qd
set_option linter.unusedSimpArgs false
set_option linter.unusedVariables false

instance unDec21 : DecidableEq Un := fun x y => decidable_of_iff (unB x.lv x.yr x.ix y.lv y.yr y.ix = true) (by
  obtain ⟨a, b, c⟩ := x
  obtain ⟨d, e, f⟩ := y
  simp [unB])
def cal21 : Cal := ⟨⟨#[120]⟩, 3, 6, 1, 1, 1, 4, 5, 4, 0, 12, 2000, 2030, 1⟩
def sb21 : Int := (spV cal21 ⟨5, 2023, 7⟩).b
def s21 : Sp := ⟨sb21 - 1, sb21 + 1⟩
theorem l21_u : unitE cal21 ⟨5, 2023, 7⟩ = 0 := by decide +kernel
theorem l21_sa : servE cal21 s21.a = 0 ∧ servY cal21 s21.a = 2023 := serv_yes (by decide +kernel) (by unfold yrOk; decide +kernel) (by decide) (by decide)
theorem l21_sb : servE cal21 s21.b = 0 ∧ servY cal21 s21.b = 2023 := serv_yes (by decide +kernel) (by unfold yrOk; decide +kernel) (by decide) (by decide)
theorem l21_xa : (⟨5, 2023, (ixN cal21 2023 5 (wkN cal21 2023 s21.a) : Int) + 1⟩ : Un) = ⟨5, 2023, 7⟩ := by decide +kernel
theorem l21_xb : (⟨5, 2023, (ixN cal21 2023 5 (wkN cal21 2023 s21.b) : Int) + 1⟩ : Un) = ⟨5, 2023, 8⟩ := by decide +kernel
theorem l21_fa : fdE cal21 s21.a 5 = 0 ∧ fdU cal21 s21.a 5 = ⟨5, 2023, 7⟩ := by
  have h : fdE cal21 s21.a 5 = 0 := by rw [fd_serv (by omega) (by omega)]; exact l21_sa.1
  refine ⟨h, ?_⟩
  rw [fdU, if_pos h, l21_sa.2, l21_xa]
theorem l21_fb : fdE cal21 s21.b 5 = 0 ∧ fdU cal21 s21.b 5 = ⟨5, 2023, 8⟩ := by
  have h : fdE cal21 s21.b 5 = 0 := by rw [fd_serv (by omega) (by omega)]; exact l21_sb.1
  refine ⟨h, ?_⟩
  rw [fdU, if_pos h, l21_sb.2, l21_xb]
theorem l21_me : meetsE cal21 5 s21 = 0 := by
  unfold meetsE
  rw [if_pos ⟨by decide +kernel, by omega, by unfold s21; simp only; omega⟩, if_pos l21_fa.1]
  exact l21_fb.1
theorem l21_al : (allUp cal21 5 2023 1).filter (keepU ⟨5, 2023, 7⟩ ⟨5, 2023, 8⟩) = [⟨5, 2023, 7⟩, ⟨5, 2023, 8⟩] := by decide +kernel
theorem l21_ml : meetsL cal21 5 s21 = [⟨5, 2023, 7⟩, ⟨5, 2023, 8⟩] := by
  rw [meetsL, if_pos l21_me, l21_fa.2, l21_fb.2, meetsN, l21_sa.2, l21_sb.2]
  exact l21_al
theorem l21_dy : ([(⟨5, 2023, 7⟩ : Un), ⟨5, 2023, 8⟩].map (spV cal21)).map (clipV s21.a s21.b) = [2, 1] := by decide +kernel
theorem l21_sh : shL cal21 5 10 s21 = [(⟨5, 2023, 7⟩, 7), (⟨5, 2023, 8⟩, 3)] := by
  rw [shL, dysL, l21_ml, l21_dy]
  decide +kernel

set_option maxRecDepth 100000 in
set_option maxHeartbeats 6400000 in
theorem live21_any (w : World) : Calls Tryz.prog 20 #[] w fun e w' => e = .returned (.bool true) ∧ Below w.heap.size w w' := by
  have HSP := hide (fun w => rsplit_yes cal21 5 10 s21 w (by decide) l21_me (by rw [l21_ml]; decide) ⟨by decide, by decide⟩)
  rw [l21_sh, l21_ml] at HSP
  obtain ⟨S, hS⟩ : ∃ S, spV cal21 ⟨5, 2023, 7⟩ = S := ⟨_, rfl⟩
  have HS := hide (show s21 = ⟨S.b - 1, S.b + 1⟩ by unfold s21 sb21; rw [hS])
  rw [HS.out] at HSP
  have HU := hide (And.intro l21_u hS)
  have hSb : 0 ≤ S.b ∧ S.b < 3068037 := by
    have h1 := (fd_ok l21_fa.1).2.2.2.2.1
    have h2 := (fd_ok l21_fb.1).2.2.2.2.1
    rw [HS.out] at h1 h2
    simp [isB] at h1 h2
    omega
  obtain ⟨hSb1, hSb2⟩ := hSb
  clear hS
  simp only [spanV] at HSP
  go_enter Tryz.func20, Tryz.ntmps20
  go_wp2_with fail
  refine (uspan_any cal21 ⟨5, 2023, 7⟩ _ (by decide)).mono ?_
  rintro e w1 ⟨rfl, hb1⟩
  rw [HU.out.1, HU.out.2]
  simp only [spanV]
  have hz1 : w.heap.size < w1.heap.size := by have := hb1.size; simp at this; omega
  have HB1 : Hid (Below w.heap.size w w1) := ww hb1
  have HQ1 := hide (calAt_below hb1 (by simp) (calAt_new w cal21))
  clear hb1
  obtain ⟨q0, q1, q2, q3, q4, q5, q6, q7, q8, q9, q10, q11, q12, q13⟩ := HQ1.out
  go_wp2_with fail
  refine (HSP.out _).mono ?_
  rintro e w2 ⟨⟨g, rfl, hsh, hg⟩, hb2⟩
  have HB2 : Hid (Below w.heap.size w w2) := by have hp := HB1.out; exact ww hb2
  obtain ⟨a0, a1, a2, a3⟩ := hsh.cell (i := 0) rfl
  obtain ⟨b0, b1, b2, b3⟩ := hsh.cell (i := 1) rfl
  simp at a0 a1 a2 a3 b0 b1 b2 b3
  have hgl := hsh.lt
  clear hb2 hsh
  go_wp2
  all_goals first
    | (exfalso; omega)
    | skip
  go_ret
  exact ⟨rfl, HB2.out⟩

/-- A short span, and a short name. -/
def Brief21 (c : Cal) (s : Sp) (e : Ending) : Prop := ∃ b : Bool, e = .returned (.bool b) ∧ (b = true → c.name.size ≤ 100 ∧ (0 ≤ s.a → s.a ≤ s.b → s.b < 3068037 → s.b - s.a ≤ 1500))
set_option maxHeartbeats 1600000 in
theorem brief21_any (c : Cal) (s : Sp) (w : World) :
    Calls Tryz.prog 24 #[calV c, spanV s] w fun e w' => Brief21 c s e ∧ Below w.heap.size w w' := by
  simp only [calV, spanV]
  go_enter Tryz.func24, Tryz.ntmps24
  by_cases h0 : c.name.size ≤ 100
  · by_cases h1 : s.b < s.a
    · go_wp2
      all_goals first
        | (exfalso; omega)
        | (go_ret; exact ⟨⟨_, rfl, fun _ => ⟨h0, fun _ h => by omega⟩⟩, by (repeat' exact bel)⟩)
    · by_cases h2 : s.a < 0
      · go_wp2
        all_goals first
          | (exfalso; omega)
          | (go_ret; exact ⟨⟨_, rfl, fun _ => ⟨h0, fun h => by omega⟩⟩, by (repeat' exact bel)⟩)
      · by_cases h3 : 3068037 ≤ s.b
        · go_wp2
          all_goals first
            | (exfalso; omega)
            | (go_ret; exact ⟨⟨_, rfl, fun _ => ⟨h0, fun _ _ h => by omega⟩⟩, by (repeat' exact bel)⟩)
        · go_wp2
          all_goals first
            | (exfalso; omega)
            | (go_ret
               refine ⟨⟨_, rfl, fun hb => ⟨h0, fun g1 g2 g3 => ?_⟩⟩, by (repeat' exact bel)⟩
               have hw : wrap64 (s.b - s.a) = s.b - s.a := by unfold wrap64; omega
               rw [hw] at hb; simpa using hb)
            | (go_ret
               refine ⟨⟨_, rfl, fun hb => ⟨h0, fun g1 g2 g3 => ?_⟩⟩, by (repeat' exact bel)⟩
               simp at hb; omega)
  · go_wp2
    all_goals first
      | (exfalso; omega)
      | (go_ret; exact ⟨⟨_, rfl, fun h => by simp at h⟩, by (repeat' exact bel)⟩)
/-- What a span that can be cut comes to. -/
theorem brief_len {c : Cal} {lv : Int} {s : Sp} (h : meetsE c lv s = 0) (hb : 0 ≤ s.a → s.a ≤ s.b → s.b < 3068037 → s.b - s.a ≤ 1500) : (0 ≤ s.a ∧ s.a ≤ s.b ∧ s.b < 3068037 ∧ s.b - s.a ≤ 1500) ∧ (meetsL c lv s).length ≤ 420 := by
  have hok := meets_ok h
  have h1 := (fd_ok hok.2.2.2.2.1).2.2.2.2.1
  have h2 := (fd_ok hok.2.2.2.2.2).2.2.2.2.1
  simp [isB] at h1 h2
  have h3 := hb h1.1 hok.2.2.2.1 h2.2
  have h4 := meets_few h (by omega)
  have h5 := (meets_chain h).2.2.2.2
  exact ⟨⟨h1.1, hok.2.2.2.1, h2.2, h3⟩, by omega⟩
end Go.Proofs.YtamnccechaooaaaGreat
