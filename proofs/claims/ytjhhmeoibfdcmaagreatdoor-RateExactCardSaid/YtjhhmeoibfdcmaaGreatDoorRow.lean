/- The frame of a row's proof: a law answers true, its arguments read as they did. Units and spans that a law takes. -/
import Derived.Test.YtjhhmeoibfdcmaaGreatDoorFieldC
import Derived.ProofKit
import Derived.OpenShut
import Derived.Test.YtjhhmeoibfdcmaaGreatDoorUnitV
namespace Go.Proofs.YtjhhmeoibfdcmaaGreatDoor
open Go.ChangeShapes Go.WideShapes Go.ChangeAt Go.RowKit Qd
set_option linter.unusedSimpArgs false
set_option linter.unusedVariables false

theorem own : ownKnob Tryz.prog.godebug = none := by kernel_rfl
theorem laidOut : laidOutB Tryz.prog = true := by kernel_rfl

section
variable {H : Type} {enc : TypeId × Value → H} {P : Program}
theorem post_of_below {f : Func} {s : ChangeSpec} {apart fresh handsOn again : Bool} {W W' : World} {args : Array Value} {v : Value} {ds gs : List (DataW H)} {before pa pv : List MemPlace}
    (hW : DataW.Whole enc P f.params.toList s.vars apart W args.toList ds gs before)
    (hres : ∀ (b : Nat) (sp : Nat → Bool) (hd : Bool), DataW.TrodAll enc P W' b sp hd f.resultTypes.toList (v.resultList f.resultTypes.size) (s.fn H (ds ++ gs)).results [])
    (hargs : ∀ sp : Nat → Bool, (∀ p ∈ before, sp p.block = true) → DataW.TrodAll enc P W' 0 sp true f.params.toList args.toList (s.fn H (ds ++ gs)).args pa)
    (hvars : ∀ sp : Nat → Bool, (∀ p ∈ before, sp p.block = true) → DataW.TrodVars enc P W' sp s.vars (s.fn H (ds ++ gs)).vars pv)
    (hps : before = pa ++ pv) (hb : Below W.heap.size W W')
    (hok : ∀ (j : Nat) (t : TypeId) (r : Value), f.resultTypes[j]? = some t → (v.resultList f.resultTypes.size)[j]? = some r → Value.okWide P W' .any 0 t r) :
    s.post enc P f apart fresh handsOn again W args v W' := by
  have hlt : ∀ p ∈ before, p.block < W.heap.size := fun p hp => hW.lt p hp
  have hold : ∀ p ∈ before, (fun b => decide (b < W.heap.size)) p.block = true := fun p hp => by simpa using hlt p hp
  refine ⟨ds, gs, before, [], pa, pv, hW, hres _ _ _, hargs _ hold, hvars _ hold, World.keptBut_mono (fun p hp => ⟨hp, ?_⟩) (hb.frame (· ∈ before)), fun _ => ?_⟩
  · rw [hps, List.mem_append] at hp
    exact Or.inr hp
  · obtain ⟨_, _, _, _, _, hz, hn⟩ := hW
    refine ⟨hok, _, _, ([] ++ pa) ++ pv, ⟨[] ++ pa, pv, trodAll_append (hargs _ (fun _ _ => rfl)) (hres _ _ _), hvars _ (fun _ _ => rfl), rfl, ?_, ?_⟩, ?_⟩
    · intro b off hp
      have hin : MemPlace.cell b off ∈ before := by rw [hps]; simpa using hp
      rw [hb.frozen (hlt _ hin)]
      exact hz b off hin
    · intro ha
      have := hn ha
      rw [hps] at this
      simpa using this
    · intro p hp _
      rw [hps]
      simpa using hp

/-- What was read once reads so behind the call. -/
theorem trodAll_stays (hl : laidOutB P = true) {W W' : World} {sp' : Nat → Bool} : ∀ {ts : List TypeId} {vs : List Value} {ds : List (DataW H)} {ps : List MemPlace},
    (∀ t ∈ ts, P.readableRec t = true ∧ t < P.types.size) → DataW.TrodAll enc P W 0 (fun _ => true) true ts vs ds ps → (∀ p ∈ ps, W.sameAt W' p) → (∀ p ∈ ps, sp' p.block = true) → DataW.TrodAll enc P W' 0 sp' true ts vs ds ps
  | [], [], [], _, _, h, _, _ => h
  | t :: _, _ :: _, _ :: _, _, hT, ⟨p, q, h1, h2, e⟩, hm, hs =>
    ⟨p, q, WideElems.Trod_stays hl (hT t (List.mem_cons.2 (Or.inl rfl))).1 (hT t (List.mem_cons.2 (Or.inl rfl))).2 h1 (fun x hx => hm x (by rw [e]; exact List.mem_append_left _ hx)) (fun x hx => hs x (by rw [e]; exact List.mem_append_left _ hx)),
      trodAll_stays hl (fun t ht => hT t (List.mem_cons.2 (Or.inr ht))) h2 (fun x hx => hm x (by rw [e]; exact List.mem_append_right _ hx)) (fun x hx => hs x (by rw [e]; exact List.mem_append_right _ hx)), e⟩
end

section
variable {H : Type} {enc : TypeId × Value → H} {w : World} {base : Nat} {spare : Nat → Bool} {held : Bool}
theorem cells_int : Tryz.prog.cellsOf 3 = 1 := by kernel_rfl
theorem cells_str : Tryz.prog.cellsOf 9 = 1 := by kernel_rfl
theorem cells_pat : Tryz.prog.cellsOf 22 = 3 := by kernel_rfl
theorem cells_cal : Tryz.prog.cellsOf 24 = 14 := by kernel_rfl

def wf64 (x : Int) : Prop := (Lit.int .i64 x).wf = true
/-- All numbers of a calendar are numbers of 64 bits. -/
def CalWf (c : Cal) : Prop := wf64 c.kind ∧ wf64 c.day ∧ wf64 c.month ∧ wf64 c.shift ∧ wf64 c.shape ∧ wf64 c.p0 ∧ wf64 c.p1 ∧ wf64 c.p2 ∧ wf64 c.cycle ∧ wf64 c.extra ∧ wf64 c.first ∧ wf64 c.last ∧ wf64 c.policy
theorem wf64_bd {x : Int} (h : wf64 x) : -9223372036854775808 ≤ x ∧ x ≤ 9223372036854775807 := by
  simpa [wf64, Lit.wf, IntKind.min, IntKind.max, IntKind.signed, IntKind.bits] using h

set_option maxRecDepth 100000 in
theorem open_cal {r : Reach} {b0 : Nat} {v : Value} {d : DataW H} {p : List MemPlace} (hv : Value.okWide Tryz.prog w r b0 24 v) (h : DataW.Trod enc Tryz.prog w base spare held 24 v d p) :
    ∃ c : Cal, v = calV c ∧ c.name.size ≤ 9223372036854775807 ∧ CalWf c := by
  obtain ⟨cs, rfl, hsz⟩ := okWide_struct Tryz.underlying24 hv
  rw [cells_cal] at hsz
  obtain ⟨l⟩ := cs
  match l, hsz with
  | [c0, c1, c2, c3, c4, c5, c6, c7, c8, c9, c10, c11, c12, c13], _ =>
    obtain ⟨fuel, hf⟩ := h
    obtain ⟨xs, n, _, hx, _, hlen, hg⟩ := DataW.trod_struct Tryz.underlying24 hf
    match xs, hlen with
    | [y0, y1, y2, y3, y4, y5, y6, y7, y8, y9, y10, y11], _ =>
      have g0 := hg 0 _ rfl
      have g1 := hg 1 _ rfl
      have g2 := hg 2 _ rfl
      have g3 := hg 3 _ rfl
      have g4 := hg 4 _ rfl
      have g5 := hg 5 _ rfl
      have g6 := hg 6 _ rfl
      have g7 := hg 7 _ rfl
      have g8 := hg 8 _ rfl
      have g9 := hg 9 _ rfl
      have g10 := hg 10 _ rfl
      have g11 := hg 11 _ rfl
      simp [Value.cells, cells_int, cells_str, cells_pat] at g0 g1 g2 g3 g4 g5 g6 g7 g8 g9 g10 g11
      obtain ⟨x0, e0, _, s0⟩ := DataW.trod_string Tryz.underlying9 g0
      obtain ⟨x1, e1, _, s1⟩ := DataW.trod_int Tryz.underlying3 g1
      obtain ⟨x2, e2, _, s2⟩ := DataW.trod_int Tryz.underlying3 g2
      obtain ⟨x3, e3, _, s3⟩ := DataW.trod_int Tryz.underlying3 g3
      obtain ⟨x4, e4, _, s4⟩ := DataW.trod_int Tryz.underlying3 g4
      obtain ⟨x5, e5, _, s5⟩ := DataW.trod_int Tryz.underlying3 g5
      obtain ⟨zs, m, _, _, _, hzl, hz⟩ := DataW.trod_array Tryz.underlying22 g6
      obtain ⟨x9, e9, _, s9⟩ := DataW.trod_int Tryz.underlying3 g7
      obtain ⟨x10, e10, _, s10⟩ := DataW.trod_int Tryz.underlying3 g8
      obtain ⟨x11, e11, _, s11⟩ := DataW.trod_int Tryz.underlying3 g9
      obtain ⟨x12, e12, _, s12⟩ := DataW.trod_int Tryz.underlying3 g10
      obtain ⟨x13, e13, _, s13⟩ := DataW.trod_int Tryz.underlying3 g11
      match zs, hzl with
      | [z0, z1, z2], _ =>
        have k0 := hz 0 (by omega)
        have k1 := hz 1 (by omega)
        have k2 := hz 2 (by omega)
        simp [cells_int] at k0 k1 k2
        obtain ⟨x6, e6, _, s6⟩ := DataW.trod_int Tryz.underlying3 k0
        obtain ⟨x7, e7, _, s7⟩ := DataW.trod_int Tryz.underlying3 k1
        obtain ⟨x8, e8, _, s8⟩ := DataW.trod_int Tryz.underlying3 k2
        simp only [List.cons.injEq, and_true] at e0 e1 e2 e3 e4 e5 e6 e7 e8 e9 e10 e11 e12 e13
        subst e0 e1 e2 e3 e4 e5 e6 e7 e8 e9 e10 e11 e12 e13
        exact ⟨⟨x0, x1, x2, x3, x4, x5, x6, x7, x8, x9, x10, x11, x12, x13⟩, rfl, by simpa [maxLen] using s0, s1, s2, s3, s4, s5, s6, s7, s8, s9, s10, s11, s12, s13⟩
end
end Go.Proofs.YtjhhmeoibfdcmaaGreatDoor

namespace Go.Proofs.YtjhhmeoibfdcmaaGreatDoor
open Go.ChangeShapes Go.WideShapes Go.ChangeAt Go.RowKit Qd
set_option linter.unusedSimpArgs false
set_option linter.unusedVariables false
section
variable {H : Type} {enc : TypeId × Value → H} {base : Nat} {spare : Nat → Bool} {held : Bool}
theorem cells_unit : Tryz.prog.cellsOf 46 = 3 := by kernel_rfl
def UnWf (u : Un) : Prop := wf64 u.lv ∧ wf64 u.yr ∧ wf64 u.ix
def SpWf (s : Sp) : Prop := wf64 s.a ∧ wf64 s.b
set_option maxRecDepth 100000 in
theorem open_unit {w : World} {r : Reach} {b0 : Nat} {v : Value} {d : DataW H} {p : List MemPlace} (hv : Value.okWide Tryz.prog w r b0 46 v) (h : DataW.Trod enc Tryz.prog w base spare held 46 v d p) :
    ∃ u : Un, v = unitV u ∧ UnWf u := by
  obtain ⟨cs, rfl, hsz⟩ := okWide_struct Tryz.underlying46 hv
  rw [cells_unit] at hsz
  obtain ⟨l⟩ := cs
  match l, hsz with
  | [c0, c1, c2], _ =>
    obtain ⟨fuel, hf⟩ := h
    obtain ⟨xs, n, _, hx, _, hlen, hg⟩ := DataW.trod_struct Tryz.underlying46 hf
    match xs, hlen with
    | [y0, y1, y2], _ =>
      have g0 := hg 0 _ rfl
      have g1 := hg 1 _ rfl
      have g2 := hg 2 _ rfl
      simp [Value.cells, cells_int] at g0 g1 g2
      obtain ⟨x0, e0, _, s0⟩ := DataW.trod_int Tryz.underlying3 g0
      obtain ⟨x1, e1, _, s1⟩ := DataW.trod_int Tryz.underlying3 g1
      obtain ⟨x2, e2, _, s2⟩ := DataW.trod_int Tryz.underlying3 g2
      simp only [List.cons.injEq, and_true] at e0 e1 e2
      subst e0 e1 e2
      exact ⟨⟨x0, x1, x2⟩, rfl, s0, s1, s2⟩
end
end Go.Proofs.YtjhhmeoibfdcmaaGreatDoor
