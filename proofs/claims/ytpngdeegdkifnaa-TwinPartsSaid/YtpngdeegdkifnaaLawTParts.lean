/- The walk of TwinParts. -/
import Derived.Test.YtpngdeegdkifnaaSameU
import Derived.Test.YtpngdeegdkifnaaTwinB
import Derived.Laws.AppendOwnNone
namespace Go.Proofs.Ytpngdeegdkifnaa
open Go.RowKit Go.Shelf Qd
set_option linter.unusedSimpArgs false
set_option linter.unusedVariables false

/-- What is kept in the loop over the parts. -/
def TpSt (c : Cal) (u : Un) (L : List Un) (g cap B Ba Bo : Nat) (lv a b : Int) (PL : List Un) (v : Value) (w0 w : World) : Prop :=
  CalAt w B c ∧ UnAt w (B + 1) u ∧ B + 1 < Ba ∧ (UnsAt w g cap L ∧ g < Ba) ∧ (BlkIs w Ba #[.int .i64 lv, .int .i64 u.yr, .int .i64 a] 31 ∧ BlkIs w (Ba + 1) #[.int .i64 lv, .int .i64 u.yr, .int .i64 b] 31) ∧ Ba + 1 < Bo ∧ Bo ≤ w.heap.size ∧
  (w.ownsRow Bo 31 3 v PL.length (flatU PL) ∧ (v = .slice none 0 0 ↔ PL = [])) ∧ Below B w0 w
theorem uns_at_base {w w' : World} {K g cap : Nat} {L : List Un} (h : UnsAt w g cap L) (hg : g < K) (hb : Below K w w') : UnsAt w' g cap L := by
  refine ⟨h.1, ?_⟩
  rcases h.2 with h1 | ⟨g', cap', cur, he, h2, hg', h3⟩
  · exact .inl h1
  · cases he
    exact .inr ⟨g, cap, cur, rfl, h2, (hb.block g hg).trans hg', h3⟩
theorem TpSt.call {c : Cal} {u : Un} {L : List Un} {g cap B Ba Bo : Nat} {lv a b : Int} {PL : List Un} {v : Value} {w0 w w' : World} (h : TpSt c u L g cap B Ba Bo lv a b PL v w0 w) (hb : Below w.heap.size w w') : TpSt c u L g cap B Ba Bo lv a b PL v w0 w' := by
  obtain ⟨h1, h2, h3, ⟨h4, h5⟩, ⟨h6, h7⟩, h8, h9, ⟨h10, h11⟩, h12⟩ := h
  exact ⟨calAt_below hb (by omega) h1, unAt_below hb (by omega) h2, h3, ⟨h4.call hb, h5⟩, ⟨h6.call hb, h7.call hb⟩, h8, Nat.le_trans h9 hb.size, ⟨owns_call h10 hb, h11⟩, h12.trans (hb.mono (by omega))⟩
theorem TpSt.grow {c : Cal} {u : Un} {L : List Un} {g cap B Ba Bo : Nat} {lv a b : Int} {PL M : List Un} {v v' : Value} {w0 W w' : World} (h : TpSt c u L g cap B Ba Bo lv a b PL v w0 W)
    (hM : 0 < M.length) (ho : w'.ownsRow Bo 31 3 v' (PL.length + M.length) (flatU PL ++ flatU M)) (hgrow : W.grownBy w' v.ownBlock) (hnil : v' = .slice none 0 0 ↔ v = .slice none 0 0 ∧ M.length = 0) :
    TpSt c u L g cap B Ba Bo lv a b (PL ++ M) v' w0 w' := by
  obtain ⟨h1, h2, h3, ⟨h4, h5⟩, ⟨h6, h7⟩, h8, h9, ⟨h10, h11⟩, h12⟩ := h
  have hb : Below Bo W w' := (Below.refl Bo W).grown hgrow h9 (fun k hk => by have := (h10.lt k hk).1; omega)
  have hs : W.heap.size ≤ w'.heap.size := hgrow.size
  refine ⟨calAt_below hb (by omega) h1, unAt_below hb (by omega) h2, h3, ⟨uns_at_base h4 (by omega) hb, h5⟩, ⟨h6.below hb (by omega), h7.below hb (by omega)⟩, h8, by omega, ⟨?_, ?_⟩, h12.trans (hb.mono (by omega))⟩
  · rw [List.length_append]
    have e : flatU (PL ++ M) = flatU PL ++ flatU M := by simp [flatU]
    rw [e]; exact ho
  · constructor
    · intro e
      have := (hnil.1 e).2
      omega
    · intro e
      have := congrArg List.length e
      rw [List.length_append, List.length_nil] at this
      omega
theorem tw_none {w : World} {v : Value} {L : List Un} (hv : TwV w v L) : (L = [] ∧ v = .slice none 0 0) ∨ (0 < L.length ∧ ∃ g cap, v = .slice (some ⟨g, 0, none⟩) L.length cap ∧ UnsAt w g cap L) := by
  rcases hv with h | ⟨g, cap, h1, h2, h3⟩
  · exact .inl h
  · exact .inr ⟨h2, g, cap, h1, h3⟩
theorem tw_runs_len {c : Cal} {u : Un} {k : Int} (h : twE c u k = 0) : (twL c u k).length ≤ 60 := by
  obtain ⟨_, _, m, n, _, h1, h2, _⟩ := tw_form h
  omega
theorem flatU_one (l : List Un) : ∀ v ∈ flatU l, v.oneCell' = true := by
  intro v hv
  simp only [flatU, List.mem_flatMap] at hv
  obtain ⟨x, _, hx⟩ := hv
  simp only [List.mem_cons, List.not_mem_nil, or_false] at hx
  rcases hx with rfl | rfl | rfl <;> rfl
theorem unit_info_p : (Try.prog.info? 31).map (fun i => (i.zero, i.size, i.bytes)) = some (some (.agg #[.int .i64 0, .int .i64 0, .int .i64 0]), 3, 24) := by kernel_rfl

set_option maxRecDepth 100000 in
set_option maxHeartbeats 1600000 in
theorem tp_long (c : Cal) (u : Un) (k lv : Int) (w : World) (hn : 100 < c.name.size) (hm : c.name.size ≤ 9223372036854775807) :
    Calls Try.prog 9 #[calV c, unitV u, .int .i64 k, .int .i64 lv] w fun e w' => e = .returned (.bool true) ∧ Below w.heap.size w w' := by
  simp only [calV, unitV]
  go_enter Try.func9, Try.ntmps9
  go_wp2_with fail
  refine (live20_any _).mono ?_
  rintro e w1 ⟨rfl, hb1⟩
  have hz1 : w.heap.size + 1 < w1.heap.size := by have := hb1.size; simp at this; omega
  have HB1 := hide (show Below w.heap.size w w1 by refine Below.trans ?_ (hb1.mono (by first | omega | (simp; done) | (simp; omega))); (repeat' (first | (with_reducible exact Below.refl _ _) | (with_reducible assumption) | (with_reducible refine Below.alloc ?_ ?_ _) | (with_reducible refine below_drewN ?_ _) | (with_reducible refine Below.drew ?_) | (with_reducible refine Below.setCell ?_ ?_ _) | (with_reducible refine Below.trans ?_ (Below.mono (by assumption) ?_)) | go_size | (simp at *; omega))))
  have HQ1 := hide (calAt_below hb1 (by simp; omega) (calAt_alloc (calAt_new w c) (by simp) _))
  have HU1 := hide (unAt_below hb1 (by simp) (unAt_new w c u))
  obtain ⟨q0, q1, q2, q3, q4, q5, q6, q7, q8, q9, q10, q11, q12, q13⟩ := HQ1.out
  obtain ⟨u0, u1, u2⟩ := HU1.out
  have hy1 : w.heap.size < w1.heap.size := by omega
  clear hb1
  go_wp2
  all_goals first
    | (exfalso; omega)
    | (go_ret; exact ⟨rfl, HB1.out⟩)


set_option maxRecDepth 100000 in
set_option maxHeartbeats 3200000 in
theorem tp_triv (c : Cal) (u : Un) (k lv : Int) (w : World) (hn : c.name.size ≤ 100) (h6 : c.kind = 6) (h5 : lv = 5) :
    Calls Try.prog 9 #[calV c, unitV u, .int .i64 k, .int .i64 lv] w fun e w' => e = .returned (.bool true) ∧ Below w.heap.size w w' := by
  have hkb : (c.kind == 6) = true := by simp [h6]
  subst h5
  clear h6
  simp only [calV, unitV]
  go_enter Try.func9, Try.ntmps9
  go_wp2_with fail
  refine (live20_any _).mono ?_
  rintro e w1 ⟨rfl, hb1⟩
  have hz1 : w.heap.size + 1 < w1.heap.size := by have := hb1.size; simp at this; omega
  have HB1 := hide (show Below w.heap.size w w1 by refine Below.trans ?_ (hb1.mono (by first | omega | (simp; done) | (simp; omega))); (repeat' (first | (with_reducible exact Below.refl _ _) | (with_reducible assumption) | (with_reducible refine Below.alloc ?_ ?_ _) | (with_reducible refine below_drewN ?_ _) | (with_reducible refine Below.drew ?_) | (with_reducible refine Below.setCell ?_ ?_ _) | (with_reducible refine Below.trans ?_ (Below.mono (by assumption) ?_)) | go_size | (simp at *; omega))))
  have HQ1 := hide (calAt_below hb1 (by simp; omega) (calAt_alloc (calAt_new w c) (by simp) _))
  have HU1 := hide (unAt_below hb1 (by simp) (unAt_new w c u))
  obtain ⟨q0, q1, q2, q3, q4, q5, q6, q7, q8, q9, q10, q11, q12, q13⟩ := HQ1.out
  obtain ⟨u0, u1, u2⟩ := HU1.out
  have hy1 : w.heap.size < w1.heap.size := by omega
  clear hb1
  have hBel := HB1.out
  go_wp2
  all_goals first
    | (exfalso; omega)
    | (go_ret; exact ⟨rfl, by (repeat' (first | (with_reducible exact Below.refl _ _) | (with_reducible assumption) | (with_reducible refine Below.alloc ?_ ?_ _) | (with_reducible refine below_drewN ?_ _) | (with_reducible refine Below.drew ?_) | (with_reducible refine Below.setCell ?_ ?_ _) | (with_reducible refine Below.trans ?_ (Below.mono (by assumption) ?_)) | go_size | (simp at *; omega)))⟩)

set_option maxRecDepth 100000 in
set_option maxHeartbeats 3200000 in
theorem tp_no6e (c : Cal) (u : Un) (k lv : Int) (w : World) (hn : c.name.size ≤ 100) (h6 : c.kind = 6) (h5 : ¬ lv = 5) (hE : ¬ twE c u k = 0) :
    Calls Try.prog 9 #[calV c, unitV u, .int .i64 k, .int .i64 lv] w fun e w' => e = .returned (.bool true) ∧ Below w.heap.size w w' := by
  have hkb : (c.kind == 6) = true := by simp [h6]
  have hlb : (lv == 5) = false := by simpa using h5
  have HL := hide (tw_no hE)
  obtain ⟨E, hEE⟩ : ∃ E, twE c u k = E := ⟨_, rfl⟩
  have HEE := hide hEE
  rw [hEE] at hE
  have hEb : (E != 0) = true := by simpa using hE
  have hEc : (E == 0) = false := by simpa using hE
  clear hE hEE h6 h5
  simp only [calV, unitV]
  go_enter Try.func9, Try.ntmps9
  go_wp2_with fail
  refine (live20_any _).mono ?_
  rintro e w1 ⟨rfl, hb1⟩
  have hz1 : w.heap.size + 1 < w1.heap.size := by have := hb1.size; simp at this; omega
  have HB1 := hide (show Below w.heap.size w w1 by refine Below.trans ?_ (hb1.mono (by first | omega | (simp; done) | (simp; omega))); (repeat' (first | (with_reducible exact Below.refl _ _) | (with_reducible assumption) | (with_reducible refine Below.alloc ?_ ?_ _) | (with_reducible refine below_drewN ?_ _) | (with_reducible refine Below.drew ?_) | (with_reducible refine Below.setCell ?_ ?_ _) | (with_reducible refine Below.trans ?_ (Below.mono (by assumption) ?_)) | go_size | (simp at *; omega))))
  have HQ1 := hide (calAt_below hb1 (by simp; omega) (calAt_alloc (calAt_new w c) (by simp) _))
  have HU1 := hide (unAt_below hb1 (by simp) (unAt_new w c u))
  obtain ⟨q0, q1, q2, q3, q4, q5, q6, q7, q8, q9, q10, q11, q12, q13⟩ := HQ1.out
  obtain ⟨u0, u1, u2⟩ := HU1.out
  have hy1 : w.heap.size < w1.heap.size := by omega
  clear hb1
  go_wp2_with fail
  all_goals first
    | (exfalso; omega)
    | skip
  refine (tweeks_any c u k _ (by omega)).mono ?_
  rintro e w2 ⟨⟨v, rfl, hv⟩, hb2⟩
  obtain rfl := twV_nil HL.out hv
  rw [HEE.out]
  clear hv
  have hz2 : w.heap.size + 1 < w2.heap.size := by have := hb2.size; (try simp at this); omega
  have HB2 := hide (show Below w.heap.size w w2 by have hp := HB1.out; refine Below.trans ?_ (hb2.mono (by first | omega | (simp; done) | (simp; omega))); (repeat' (first | (with_reducible exact Below.refl _ _) | (with_reducible assumption) | (with_reducible refine Below.alloc ?_ ?_ _) | (with_reducible refine below_drewN ?_ _) | (with_reducible refine Below.drew ?_) | (with_reducible refine Below.setCell ?_ ?_ _) | (with_reducible refine Below.trans ?_ (Below.mono (by assumption) ?_)) | go_size | (simp at *; omega))))
  have HQ2 := hide (show CalAt w2 w.heap.size c from calAt_below hb2 (by first | omega | (simp; done) | (simp; omega)) (by first | exact HQ1.out | exact calAt_alloc HQ1.out (by omega) _ | exact calAt_alloc (calAt_alloc HQ1.out (by omega) _) (by simp; omega) _))
  clear q0 q1 q2 q3 q4 q5 q6 q7 q8 q9 q10 q11 q12 q13
  obtain ⟨q0, q1, q2, q3, q4, q5, q6, q7, q8, q9, q10, q11, q12, q13⟩ := HQ2.out
  have HU2 := hide (show UnAt w2 (w.heap.size + 1) u from unAt_below hb2 (by first | omega | (simp; done) | (simp; omega)) (by first | exact HU1.out | exact unAt_alloc HU1.out (by omega) _ | exact unAt_alloc (unAt_alloc HU1.out (by omega) _) (by simp; omega) _))
  clear u0 u1 u2
  obtain ⟨u0, u1, u2⟩ := HU2.out
  have hy2 : w.heap.size < w2.heap.size := by omega
  clear hb2
  go_wp2_with fail
  all_goals first
    | (exfalso; omega)
    | skip
  refine (down_any c u lv _ (by omega)).mono ?_
  rintro e w3 ⟨rfl, hb3⟩
  generalize dnA c u lv = A
  generalize dnB c u lv = B
  generalize dnE c u lv = E2
  simp only [unitV]
  have hz3 : w.heap.size + 1 < w3.heap.size := by have := hb3.size; (try simp at this); omega
  have HB3 := hide (show Below w.heap.size w w3 by have hp := HB2.out; refine Below.trans ?_ (hb3.mono (by first | omega | (simp; done) | (simp; omega))); (repeat' (first | (with_reducible exact Below.refl _ _) | (with_reducible assumption) | (with_reducible refine Below.alloc ?_ ?_ _) | (with_reducible refine below_drewN ?_ _) | (with_reducible refine Below.drew ?_) | (with_reducible refine Below.setCell ?_ ?_ _) | (with_reducible refine Below.trans ?_ (Below.mono (by assumption) ?_)) | go_size | (simp at *; omega))))
  have HQ3 := hide (show CalAt w3 w.heap.size c from calAt_below hb3 (by first | omega | (simp; done) | (simp; omega)) (by first | exact HQ2.out | exact calAt_alloc HQ2.out (by omega) _ | exact calAt_alloc (calAt_alloc HQ2.out (by omega) _) (by simp; omega) _))
  clear q0 q1 q2 q3 q4 q5 q6 q7 q8 q9 q10 q11 q12 q13
  obtain ⟨q0, q1, q2, q3, q4, q5, q6, q7, q8, q9, q10, q11, q12, q13⟩ := HQ3.out
  have HU3 := hide (show UnAt w3 (w.heap.size + 1) u from unAt_below hb3 (by first | omega | (simp; done) | (simp; omega)) (by first | exact HU2.out | exact unAt_alloc HU2.out (by omega) _ | exact unAt_alloc (unAt_alloc HU2.out (by omega) _) (by simp; omega) _))
  clear u0 u1 u2
  obtain ⟨u0, u1, u2⟩ := HU3.out
  have hy3 : w.heap.size < w3.heap.size := by omega
  clear hb3
  have hBel := HB3.out
  go_wp2
  all_goals first
    | (exfalso; omega)
    | (go_ret; exact ⟨rfl, by (repeat' (first | (with_reducible exact Below.refl _ _) | (with_reducible assumption) | (with_reducible refine Below.alloc ?_ ?_ _) | (with_reducible refine below_drewN ?_ _) | (with_reducible refine Below.drew ?_) | (with_reducible refine Below.setCell ?_ ?_ _) | (with_reducible refine Below.trans ?_ (Below.mono (by assumption) ?_)) | go_size | (simp at *; omega)))⟩)

set_option maxRecDepth 100000 in
set_option maxHeartbeats 3200000 in
theorem tp_no6d (c : Cal) (u : Un) (k lv : Int) (w : World) (hn : c.name.size ≤ 100) (h6 : c.kind = 6) (h5 : ¬ lv = 5) (hE : twE c u k = 0) (hD : ¬ dnE c u lv = 0) :
    Calls Try.prog 9 #[calV c, unitV u, .int .i64 k, .int .i64 lv] w fun e w' => e = .returned (.bool true) ∧ Below w.heap.size w w' := by
  have hkb : (c.kind == 6) = true := by simp [h6]
  have hlb : (lv == 5) = false := by simpa using h5
  have hlen : 0 < (twL c u k).length := by
    obtain ⟨_, _, _, h1, h2⟩ := tw_ok hE
    rw [h2]; exact h1
  have HE := hide hE
  obtain ⟨D, hDD⟩ : ∃ D, dnE c u lv = D := ⟨_, rfl⟩
  have HDD := hide hDD
  rw [hDD] at hD
  have hDb : (D != 0) = true := by simpa using hD
  clear hE hD hDD h6 h5
  simp only [calV, unitV]
  go_enter Try.func9, Try.ntmps9
  go_wp2_with fail
  refine (live20_any _).mono ?_
  rintro e w1 ⟨rfl, hb1⟩
  have hz1 : w.heap.size + 1 < w1.heap.size := by have := hb1.size; simp at this; omega
  have HB1 := hide (show Below w.heap.size w w1 by refine Below.trans ?_ (hb1.mono (by first | omega | (simp; done) | (simp; omega))); (repeat' (first | (with_reducible exact Below.refl _ _) | (with_reducible assumption) | (with_reducible refine Below.alloc ?_ ?_ _) | (with_reducible refine below_drewN ?_ _) | (with_reducible refine Below.drew ?_) | (with_reducible refine Below.setCell ?_ ?_ _) | (with_reducible refine Below.trans ?_ (Below.mono (by assumption) ?_)) | go_size | (simp at *; omega))))
  have HQ1 := hide (calAt_below hb1 (by simp; omega) (calAt_alloc (calAt_new w c) (by simp) _))
  have HU1 := hide (unAt_below hb1 (by simp) (unAt_new w c u))
  obtain ⟨q0, q1, q2, q3, q4, q5, q6, q7, q8, q9, q10, q11, q12, q13⟩ := HQ1.out
  obtain ⟨u0, u1, u2⟩ := HU1.out
  have hy1 : w.heap.size < w1.heap.size := by omega
  clear hb1
  go_wp2_with fail
  all_goals first
    | (exfalso; omega)
    | skip
  refine (tweeks_any c u k _ (by omega)).mono ?_
  rintro e w2 ⟨⟨v, rfl, hv⟩, hb2⟩
  rw [HE.out]
  obtain ⟨g, cap, rfl, _, _⟩ := twV_some hlen hv
  clear hv
  have hz2 : w.heap.size + 1 < w2.heap.size := by have := hb2.size; (try simp at this); omega
  have HB2 := hide (show Below w.heap.size w w2 by have hp := HB1.out; refine Below.trans ?_ (hb2.mono (by first | omega | (simp; done) | (simp; omega))); (repeat' (first | (with_reducible exact Below.refl _ _) | (with_reducible assumption) | (with_reducible refine Below.alloc ?_ ?_ _) | (with_reducible refine below_drewN ?_ _) | (with_reducible refine Below.drew ?_) | (with_reducible refine Below.setCell ?_ ?_ _) | (with_reducible refine Below.trans ?_ (Below.mono (by assumption) ?_)) | go_size | (simp at *; omega))))
  have HQ2 := hide (show CalAt w2 w.heap.size c from calAt_below hb2 (by first | omega | (simp; done) | (simp; omega)) (by first | exact HQ1.out | exact calAt_alloc HQ1.out (by omega) _ | exact calAt_alloc (calAt_alloc HQ1.out (by omega) _) (by simp; omega) _))
  clear q0 q1 q2 q3 q4 q5 q6 q7 q8 q9 q10 q11 q12 q13
  obtain ⟨q0, q1, q2, q3, q4, q5, q6, q7, q8, q9, q10, q11, q12, q13⟩ := HQ2.out
  have HU2 := hide (show UnAt w2 (w.heap.size + 1) u from unAt_below hb2 (by first | omega | (simp; done) | (simp; omega)) (by first | exact HU1.out | exact unAt_alloc HU1.out (by omega) _ | exact unAt_alloc (unAt_alloc HU1.out (by omega) _) (by simp; omega) _))
  clear u0 u1 u2
  obtain ⟨u0, u1, u2⟩ := HU2.out
  have hy2 : w.heap.size < w2.heap.size := by omega
  clear hb2
  go_wp2_with fail
  all_goals first
    | (exfalso; omega)
    | skip
  refine (down_any c u lv _ (by omega)).mono ?_
  rintro e w3 ⟨rfl, hb3⟩
  rw [HDD.out]
  generalize dnA c u lv = A
  generalize dnB c u lv = B
  simp only [unitV]
  have hz3 : w.heap.size + 1 < w3.heap.size := by have := hb3.size; (try simp at this); omega
  have HB3 := hide (show Below w.heap.size w w3 by have hp := HB2.out; refine Below.trans ?_ (hb3.mono (by first | omega | (simp; done) | (simp; omega))); (repeat' (first | (with_reducible exact Below.refl _ _) | (with_reducible assumption) | (with_reducible refine Below.alloc ?_ ?_ _) | (with_reducible refine below_drewN ?_ _) | (with_reducible refine Below.drew ?_) | (with_reducible refine Below.setCell ?_ ?_ _) | (with_reducible refine Below.trans ?_ (Below.mono (by assumption) ?_)) | go_size | (simp at *; omega))))
  have HQ3 := hide (show CalAt w3 w.heap.size c from calAt_below hb3 (by first | omega | (simp; done) | (simp; omega)) (by first | exact HQ2.out | exact calAt_alloc HQ2.out (by omega) _ | exact calAt_alloc (calAt_alloc HQ2.out (by omega) _) (by simp; omega) _))
  clear q0 q1 q2 q3 q4 q5 q6 q7 q8 q9 q10 q11 q12 q13
  obtain ⟨q0, q1, q2, q3, q4, q5, q6, q7, q8, q9, q10, q11, q12, q13⟩ := HQ3.out
  have HU3 := hide (show UnAt w3 (w.heap.size + 1) u from unAt_below hb3 (by first | omega | (simp; done) | (simp; omega)) (by first | exact HU2.out | exact unAt_alloc HU2.out (by omega) _ | exact unAt_alloc (unAt_alloc HU2.out (by omega) _) (by simp; omega) _))
  clear u0 u1 u2
  obtain ⟨u0, u1, u2⟩ := HU3.out
  have hy3 : w.heap.size < w3.heap.size := by omega
  clear hb3
  have hBel := HB3.out
  go_wp2
  all_goals first
    | (exfalso; omega)
    | (go_ret; exact ⟨rfl, by (repeat' (first | (with_reducible exact Below.refl _ _) | (with_reducible assumption) | (with_reducible refine Below.alloc ?_ ?_ _) | (with_reducible refine below_drewN ?_ _) | (with_reducible refine Below.drew ?_) | (with_reducible refine Below.setCell ?_ ?_ _) | (with_reducible refine Below.trans ?_ (Below.mono (by assumption) ?_)) | go_size | (simp at *; omega)))⟩)

set_option maxRecDepth 100000 in
set_option maxHeartbeats 12800000 in
theorem tp_yes6 (c : Cal) (u : Un) (k lv : Int) (w : World) (hn : c.name.size ≤ 100) (h6 : c.kind = 6) (h5 : ¬ lv = 5) (hE : twE c u k = 0) (hD : dnE c u lv = 0) :
    Calls Try.prog 9 #[calV c, unitV u, .int .i64 k, .int .i64 lv] w fun e w' => e = .returned (.bool true) ∧ Below w.heap.size w w' := by
  have hkb : (c.kind == 6) = true := by simp [h6]
  have hlb : (lv == 5) = false := by simpa using h5
  obtain ⟨hU, ht, hin, hlen, hL⟩ := tw_ok hE
  have hf := (un_lv hU).1
  have hA := (un_lv hU).2.2.2.1
  obtain ⟨hok, hk, _, _, hy1, hy2, _⟩ := frame_ok hf
  have hyb := ok_years hk
  have hyb2 : 1602 ≤ c.first ∧ c.last ≤ 9996 := ⟨hyb.2.2.1, hyb.2.2.2.1⟩
  have hlvb : u.lv ≤ lv ∧ lv ≤ 5 := by
    rw [dnE, if_pos hU] at hD
    split at hD
    · assumption
    · omega
  have hl60 := (tw_runs_len hE)
  obtain ⟨i, n, p1, p2, p3, p4, p5, p6⟩ := tw_parts hE hlvb.1 hlvb.2 (fun _ => h5)
  have hpl := fun m hm => parts_len p6 hl60 m hm
  have HE := hide hE
  have HD := hide (And.intro hD (And.intro p1 p2))
  have HP5 := hide p5
  rw [← hL] at hlen
  obtain ⟨L, hLL⟩ : ∃ L, twL c u k = L := ⟨_, rfl⟩
  rw [hLL] at hlen hl60 p6
  have HLL := hide hLL
  have HP6 := hide p6
  have HPL := hide hpl
  obtain ⟨i0, hi, hi0, hi1, hi2⟩ := info_parts unit_info_p
  clear hE hU hf hA hok hk hyb hin hL p1 p2 p5 p6 hpl hLL hD h6 h5
  simp only [calV, unitV]
  go_enter Try.func9, Try.ntmps9
  go_wp2_with fail
  refine (live20_any _).mono ?_
  rintro e w1 ⟨rfl, hb1⟩
  have hz1 : w.heap.size + 1 < w1.heap.size := by have := hb1.size; simp at this; omega
  have HB1 := hide (show Below w.heap.size w w1 by refine Below.trans ?_ (hb1.mono (by first | omega | (simp; done) | (simp; omega))); (repeat' (first | (with_reducible exact Below.refl _ _) | (with_reducible assumption) | (with_reducible refine Below.alloc ?_ ?_ _) | (with_reducible refine below_drewN ?_ _) | (with_reducible refine Below.drew ?_) | (with_reducible refine Below.setCell ?_ ?_ _) | (with_reducible refine Below.trans ?_ (Below.mono (by assumption) ?_)) | go_size | (simp at *; omega))))
  have HQ1 := hide (calAt_below hb1 (by simp; omega) (calAt_alloc (calAt_new w c) (by simp) _))
  have HU1 := hide (unAt_below hb1 (by simp) (unAt_new w c u))
  obtain ⟨q0, q1, q2, q3, q4, q5, q6, q7, q8, q9, q10, q11, q12, q13⟩ := HQ1.out
  obtain ⟨u0, u1, u2⟩ := HU1.out
  have hy1 : w.heap.size < w1.heap.size := by omega
  clear hb1
  go_wp2_with fail
  all_goals first
    | (exfalso; omega)
    | skip
  refine (tweeks_any c u k _ (by omega)).mono ?_
  rintro e w2 ⟨⟨v, rfl, hv⟩, hb2⟩
  rw [HE.out]
  rw [HLL.out] at hv
  obtain ⟨g, cap, rfl, _, hun⟩ := twV_some hlen hv
  have HUN2 := hide hun
  have hg2 := (hun.lt hlen).1
  clear hv hun
  have hz2 : w.heap.size + 1 < w2.heap.size := by have := hb2.size; (try simp at this); omega
  have HB2 := hide (show Below w.heap.size w w2 by have hp := HB1.out; refine Below.trans ?_ (hb2.mono (by first | omega | (simp; done) | (simp; omega))); (repeat' (first | (with_reducible exact Below.refl _ _) | (with_reducible assumption) | (with_reducible refine Below.alloc ?_ ?_ _) | (with_reducible refine below_drewN ?_ _) | (with_reducible refine Below.drew ?_) | (with_reducible refine Below.setCell ?_ ?_ _) | (with_reducible refine Below.trans ?_ (Below.mono (by assumption) ?_)) | go_size | (simp at *; omega))))
  have HQ2 := hide (show CalAt w2 w.heap.size c from calAt_below hb2 (by first | omega | (simp; done) | (simp; omega)) (by first | exact HQ1.out | exact calAt_alloc HQ1.out (by omega) _ | exact calAt_alloc (calAt_alloc HQ1.out (by omega) _) (by simp; omega) _))
  clear q0 q1 q2 q3 q4 q5 q6 q7 q8 q9 q10 q11 q12 q13
  obtain ⟨q0, q1, q2, q3, q4, q5, q6, q7, q8, q9, q10, q11, q12, q13⟩ := HQ2.out
  have HU2 := hide (show UnAt w2 (w.heap.size + 1) u from unAt_below hb2 (by first | omega | (simp; done) | (simp; omega)) (by first | exact HU1.out | exact unAt_alloc HU1.out (by omega) _ | exact unAt_alloc (unAt_alloc HU1.out (by omega) _) (by simp; omega) _))
  clear u0 u1 u2
  obtain ⟨u0, u1, u2⟩ := HU2.out
  have hy2 : w.heap.size < w2.heap.size := by omega
  clear hb2
  go_wp2_with fail
  all_goals first
    | (exfalso; omega)
    | skip
  refine (down_any c u lv _ (by omega)).mono ?_
  rintro e w3 ⟨rfl, hb3⟩
  rw [HD.out.1, HD.out.2.1, HD.out.2.2]
  simp only [unitV]
  have HUN3 := hide (HUN2.out.call hb3)
  have hg3 : g < w3.heap.size := by have := hb3.size; omega
  have hz3 : w.heap.size + 1 < w3.heap.size := by have := hb3.size; (try simp at this); omega
  have HB3 := hide (show Below w.heap.size w w3 by have hp := HB2.out; refine Below.trans ?_ (hb3.mono (by first | omega | (simp; done) | (simp; omega))); (repeat' (first | (with_reducible exact Below.refl _ _) | (with_reducible assumption) | (with_reducible refine Below.alloc ?_ ?_ _) | (with_reducible refine below_drewN ?_ _) | (with_reducible refine Below.drew ?_) | (with_reducible refine Below.setCell ?_ ?_ _) | (with_reducible refine Below.trans ?_ (Below.mono (by assumption) ?_)) | go_size | (simp at *; omega))))
  have HQ3 := hide (show CalAt w3 w.heap.size c from calAt_below hb3 (by first | omega | (simp; done) | (simp; omega)) (by first | exact HQ2.out | exact calAt_alloc HQ2.out (by omega) _ | exact calAt_alloc (calAt_alloc HQ2.out (by omega) _) (by simp; omega) _))
  clear q0 q1 q2 q3 q4 q5 q6 q7 q8 q9 q10 q11 q12 q13
  obtain ⟨q0, q1, q2, q3, q4, q5, q6, q7, q8, q9, q10, q11, q12, q13⟩ := HQ3.out
  have HU3 := hide (show UnAt w3 (w.heap.size + 1) u from unAt_below hb3 (by first | omega | (simp; done) | (simp; omega)) (by first | exact HU2.out | exact unAt_alloc HU2.out (by omega) _ | exact unAt_alloc (unAt_alloc HU2.out (by omega) _) (by simp; omega) _))
  clear u0 u1 u2
  obtain ⟨u0, u1, u2⟩ := HU3.out
  have hy3 : w.heap.size < w3.heap.size := by omega
  clear hb3
  have hibd : (1 : Int) ≤ (i : Int) + 1 ∧ (i : Int) + n ≤ 60 := by omega
  obtain ⟨W4, hW4⟩ : ∃ W4 : World, W4 = ((w3.alloc (.cells #[.int .i64 lv, .int .i64 u.yr, .int .i64 ((i : Int) + 1)] 31)).alloc (.cells #[.int .i64 lv, .int .i64 u.yr, .int .i64 ((i : Int) + n)] 31)) := ⟨_, rfl⟩
  have HT := hide (show TpSt c u L g cap w.heap.size w3.heap.size W4.heap.size lv ((i : Int) + 1) ((i : Int) + n) [] (.slice none 0 0) w W4 from by
    have hbw : Below w3.heap.size w3 W4 := by rw [hW4]; exact ((Below.refl _ _).alloc (Nat.le_refl _) _).alloc (by simp) _
    have hsz : W4.heap.size = w3.heap.size + 2 := by rw [hW4]; simp
    refine ⟨calAt_below hbw (by omega) HQ3.out, unAt_below hbw (by omega) HU3.out, by omega, ⟨HUN3.out.call hbw, by omega⟩, ⟨?_, ?_⟩, by omega, Nat.le_refl _, ⟨World.ownsRow_nil _ _ _ _, by simp⟩, HB3.out.trans (hbw.mono (by omega))⟩
    · rw [hW4]; exact (BlkIs.new w3 _ _).alloc _
    · rw [hW4]; simpa using BlkIs.new (w3.alloc (.cells #[.int .i64 lv, .int .i64 u.yr, .int .i64 ((i : Int) + 1)] 31)) #[.int .i64 lv, .int .i64 u.yr, .int .i64 ((i : Int) + n)] 31)
  have HW4 := hide hW4
  clear hW4 u0 u1 u2
  go_wp2_with fail
  all_goals first
    | (exfalso; omega)
    | skip
  clear q0 q1 q2 q3 q4 q5 q6 q7 q8 q9 q10 q11 q12 q13
  go_loopw [14, 15] (fun s14 s15 wr => ∃ m : Nat, s15 = .int .i64 ((i : Int) + 1 + (m : Int)) ∧ m ≤ n ∧ TpSt c u L g cap w.heap.size w3.heap.size W4.heap.size lv ((i : Int) + 1) ((i : Int) + n) (partsL c u.yr k lv ((i : Int) + 1) m) s14 w wr) (fun _ s15 _ => (500 - intOf s15).toNat)
  case atStart => exact ⟨0, by simp, Nat.zero_le _, by rw [partsL_zero, ← HW4.out]; exact HT.out⟩
  case round =>
    obtain ⟨m, rfl, hm, hT⟩ := hrel
    have HTT := hide hT
    clear hT
    obtain ⟨q0, q1, q2, q3, q4, q5, q6, q7, q8, q9, q10, q11, q12, q13⟩ := HTT.out.1
    obtain ⟨u0, u1, u2⟩ := HTT.out.2.1
    have hb3 : w.heap.size + 1 < w3.heap.size := HTT.out.2.2.1
    have hb4 : w3.heap.size + 1 < W4.heap.size := HTT.out.2.2.2.2.2.1
    have hb5 : W4.heap.size ≤ wr.heap.size := HTT.out.2.2.2.2.2.2.1
    have x2 : wr.cell? ⟨w3.heap.size, 2, none⟩ = some (.int .i64 ((i : Int) + 1)) := HTT.out.2.2.2.2.1.1.cell 2
    have y2 : wr.cell? ⟨w3.heap.size + 1, 2, none⟩ = some (.int .i64 ((i : Int) + n)) := HTT.out.2.2.2.2.1.2.cell 2
    have hpm := HPL.out m hm
    by_cases hlt : m < n
    · have h5 := HP5.out m hlt
      have hpm1 := HPL.out (m + 1) hlt
      rw [partsL_succ, List.length_append] at hpm1
      have HSU := hide (partsL_succ c u.yr k lv ((i : Int) + 1) m)
      obtain ⟨PL, hPL⟩ : ∃ PL, partsL c u.yr k lv ((i : Int) + 1) m = PL := ⟨_, rfl⟩
      rw [hPL] at HTT HSU hpm hpm1
      clear hPL
      obtain ⟨E, hEE⟩ : ∃ E, twE c ⟨lv, u.yr, (i : Int) + 1 + (m : Int)⟩ k = E := ⟨_, rfl⟩
      obtain ⟨M, hMM⟩ : ∃ M, twL c ⟨lv, u.yr, (i : Int) + 1 + (m : Int)⟩ k = M := ⟨_, rfl⟩
      rw [hEE] at h5
      rw [hMM] at hpm1 HSU
      have HEM := hide (And.intro hEE hMM)
      clear hEE hMM
      have hv0 := HTT.out.2.2.2.2.2.2.2.1
      go_wp2_with fail
      all_goals first
        | (exfalso; omega)
        | skip
      refine (tweeks_any c ⟨lv, u.yr, (i : Int) + 1 + (m : Int)⟩ k _ (by omega)).mono ?_
      rintro e w5 ⟨⟨vm, rfl, hvm⟩, hb6⟩
      rw [HEM.out.1]
      rw [HEM.out.2] at hvm
      have HT5 := hide (HTT.out.call hb6)
      have hs5 := hb6.size
      clear hb6 u0 u1 u2 x2 y2 hv0
      clear q0 q1 q2 q3 q4 q5 q6 q7 q8 q9 q10 q11 q12 q13
      rcases tw_none hvm with ⟨hM0, rfl⟩ | ⟨hM0, gm, cm, rfl, hum⟩
      · clear hvm
        rw [hM0, List.append_nil] at HSU
        rcases h5 with rfl | rfl
        all_goals
          go_wp2_with (at_builtin; refine wpList_append_own_none rfl _ _ 40 rfl W4.heap.size 31 i0 3 Try.underlying40 hi _ _ _ rfl HT5.out.2.2.2.2.2.2.2.1.1 rfl ?_)
          go_wp2
          all_goals first
            | (exfalso; omega)
            | skip
          go_roundw
          case rel => exact ⟨m + 1, by go_num, by omega, by rw [HSU.out]; exact HT5.out⟩
          case measure => simp [intOf]; omega
      · clear hvm
        have hcells := hum.cells (g := gm) rfl
        have HC := hide hcells
        have HFL := hide (flatU_len M)
        clear hcells hum
        rcases h5 with rfl | rfl
        all_goals
          go_wp2_with (at_builtin; refine wpList_append_own _ rfl _ _ 40 rfl W4.heap.size 31 i0 (.agg #[.int .i64 0, .int .i64 0, .int .i64 0]) 3 24 Try.underlying40 hi hi0 hi1 hi2 rfl (by decide) _ _ _ rfl HT5.out.2.2.2.2.2.2.2.1.1 ⟨gm, 0, none⟩ M.length cm (flatU M) rfl HFL.out HC.out (flatU_one M) (by unfold maxLen; omega) (by omega) (by omega) ?_)
          intro v' w' hown' hgrow hnil
          have HG := hide (HT5.out.grow hM0 hown' hgrow (by simp only [List.length_eq_zero_iff]; exact hnil))
          clear hown' hgrow hnil
          go_wp2
          all_goals first
            | (exfalso; omega)
            | skip
          go_roundw
          case rel => exact ⟨m + 1, by go_num, by omega, by rw [HSU.out]; exact HG.out⟩
          case measure => simp [intOf]; omega
    · have hme : m = n := by omega
      subst hme
      rw [HP6.out] at HTT
      obtain ⟨hown, hnil⟩ := HTT.out.2.2.2.2.2.2.2.1
      obtain ⟨g5, cap5, rfl, _⟩ := owns_pos hown hlen
      have HO := hide (show UnsAt wr g5 cap5 L from hown.base (Nat.zero_le _))
      have HN := hide HTT.out.2.2.2.1.1
      have hBel := HTT.out.2.2.2.2.2.2.2.2
      clear hown hnil
      go_wp2_with fail
      all_goals first
        | (exfalso; omega)
        | skip
      refine (same20_some L g cap g5 cap5 _ HN.out HO.out hlen (by omega)).mono ?_
      rintro e w6 ⟨rfl, hb6⟩
      have hBel2 := hBel.trans (hb6.mono (by omega))
      clear hb6
      go_wp2
      all_goals first
        | (exfalso; omega)
        | (go_ret; exact ⟨rfl, by (repeat' (first | (with_reducible exact Below.refl _ _) | (with_reducible assumption) | (with_reducible refine Below.alloc ?_ ?_ _) | (with_reducible refine below_drewN ?_ _) | (with_reducible refine Below.drew ?_) | (with_reducible refine Below.setCell ?_ ?_ _) | (with_reducible refine Below.trans ?_ (Below.mono (by assumption) ?_)) | go_size | (simp at *; omega)))⟩)

set_option maxRecDepth 100000 in
set_option maxHeartbeats 3200000 in
theorem tp_noe (c : Cal) (u : Un) (k lv : Int) (w : World) (hn : c.name.size ≤ 100) (h6 : ¬ c.kind = 6) (hE : ¬ twE c u k = 0) :
    Calls Try.prog 9 #[calV c, unitV u, .int .i64 k, .int .i64 lv] w fun e w' => e = .returned (.bool true) ∧ Below w.heap.size w w' := by
  have hkb : (c.kind == 6) = false := by simpa using h6
  have HL := hide (tw_no hE)
  obtain ⟨E, hEE⟩ : ∃ E, twE c u k = E := ⟨_, rfl⟩
  have HEE := hide hEE
  rw [hEE] at hE
  have hEb : (E != 0) = true := by simpa using hE
  have hEc : (E == 0) = false := by simpa using hE
  clear hE hEE h6
  simp only [calV, unitV]
  go_enter Try.func9, Try.ntmps9
  go_wp2_with fail
  refine (live20_any _).mono ?_
  rintro e w1 ⟨rfl, hb1⟩
  have hz1 : w.heap.size + 1 < w1.heap.size := by have := hb1.size; simp at this; omega
  have HB1 := hide (show Below w.heap.size w w1 by refine Below.trans ?_ (hb1.mono (by first | omega | (simp; done) | (simp; omega))); (repeat' (first | (with_reducible exact Below.refl _ _) | (with_reducible assumption) | (with_reducible refine Below.alloc ?_ ?_ _) | (with_reducible refine below_drewN ?_ _) | (with_reducible refine Below.drew ?_) | (with_reducible refine Below.setCell ?_ ?_ _) | (with_reducible refine Below.trans ?_ (Below.mono (by assumption) ?_)) | go_size | (simp at *; omega))))
  have HQ1 := hide (calAt_below hb1 (by simp; omega) (calAt_alloc (calAt_new w c) (by simp) _))
  have HU1 := hide (unAt_below hb1 (by simp) (unAt_new w c u))
  obtain ⟨q0, q1, q2, q3, q4, q5, q6, q7, q8, q9, q10, q11, q12, q13⟩ := HQ1.out
  obtain ⟨u0, u1, u2⟩ := HU1.out
  have hy1 : w.heap.size < w1.heap.size := by omega
  clear hb1
  go_wp2_with fail
  all_goals first
    | (exfalso; omega)
    | skip
  refine (tweeks_any c u k _ (by omega)).mono ?_
  rintro e w2 ⟨⟨v, rfl, hv⟩, hb2⟩
  obtain rfl := twV_nil HL.out hv
  rw [HEE.out]
  clear hv
  have hz2 : w.heap.size + 1 < w2.heap.size := by have := hb2.size; (try simp at this); omega
  have HB2 := hide (show Below w.heap.size w w2 by have hp := HB1.out; refine Below.trans ?_ (hb2.mono (by first | omega | (simp; done) | (simp; omega))); (repeat' (first | (with_reducible exact Below.refl _ _) | (with_reducible assumption) | (with_reducible refine Below.alloc ?_ ?_ _) | (with_reducible refine below_drewN ?_ _) | (with_reducible refine Below.drew ?_) | (with_reducible refine Below.setCell ?_ ?_ _) | (with_reducible refine Below.trans ?_ (Below.mono (by assumption) ?_)) | go_size | (simp at *; omega))))
  have HQ2 := hide (show CalAt w2 w.heap.size c from calAt_below hb2 (by first | omega | (simp; done) | (simp; omega)) (by first | exact HQ1.out | exact calAt_alloc HQ1.out (by omega) _ | exact calAt_alloc (calAt_alloc HQ1.out (by omega) _) (by simp; omega) _))
  clear q0 q1 q2 q3 q4 q5 q6 q7 q8 q9 q10 q11 q12 q13
  obtain ⟨q0, q1, q2, q3, q4, q5, q6, q7, q8, q9, q10, q11, q12, q13⟩ := HQ2.out
  have HU2 := hide (show UnAt w2 (w.heap.size + 1) u from unAt_below hb2 (by first | omega | (simp; done) | (simp; omega)) (by first | exact HU1.out | exact unAt_alloc HU1.out (by omega) _ | exact unAt_alloc (unAt_alloc HU1.out (by omega) _) (by simp; omega) _))
  clear u0 u1 u2
  obtain ⟨u0, u1, u2⟩ := HU2.out
  have hy2 : w.heap.size < w2.heap.size := by omega
  clear hb2
  go_wp2_with fail
  all_goals first
    | (exfalso; omega)
    | skip
  refine (down_any c u lv _ (by omega)).mono ?_
  rintro e w3 ⟨rfl, hb3⟩
  generalize dnA c u lv = A
  generalize dnB c u lv = B
  generalize dnE c u lv = E2
  simp only [unitV]
  have hz3 : w.heap.size + 1 < w3.heap.size := by have := hb3.size; (try simp at this); omega
  have HB3 := hide (show Below w.heap.size w w3 by have hp := HB2.out; refine Below.trans ?_ (hb3.mono (by first | omega | (simp; done) | (simp; omega))); (repeat' (first | (with_reducible exact Below.refl _ _) | (with_reducible assumption) | (with_reducible refine Below.alloc ?_ ?_ _) | (with_reducible refine below_drewN ?_ _) | (with_reducible refine Below.drew ?_) | (with_reducible refine Below.setCell ?_ ?_ _) | (with_reducible refine Below.trans ?_ (Below.mono (by assumption) ?_)) | go_size | (simp at *; omega))))
  have HQ3 := hide (show CalAt w3 w.heap.size c from calAt_below hb3 (by first | omega | (simp; done) | (simp; omega)) (by first | exact HQ2.out | exact calAt_alloc HQ2.out (by omega) _ | exact calAt_alloc (calAt_alloc HQ2.out (by omega) _) (by simp; omega) _))
  clear q0 q1 q2 q3 q4 q5 q6 q7 q8 q9 q10 q11 q12 q13
  obtain ⟨q0, q1, q2, q3, q4, q5, q6, q7, q8, q9, q10, q11, q12, q13⟩ := HQ3.out
  have HU3 := hide (show UnAt w3 (w.heap.size + 1) u from unAt_below hb3 (by first | omega | (simp; done) | (simp; omega)) (by first | exact HU2.out | exact unAt_alloc HU2.out (by omega) _ | exact unAt_alloc (unAt_alloc HU2.out (by omega) _) (by simp; omega) _))
  clear u0 u1 u2
  obtain ⟨u0, u1, u2⟩ := HU3.out
  have hy3 : w.heap.size < w3.heap.size := by omega
  clear hb3
  have hBel := HB3.out
  go_wp2
  all_goals first
    | (exfalso; omega)
    | (go_ret; exact ⟨rfl, by (repeat' (first | (with_reducible exact Below.refl _ _) | (with_reducible assumption) | (with_reducible refine Below.alloc ?_ ?_ _) | (with_reducible refine below_drewN ?_ _) | (with_reducible refine Below.drew ?_) | (with_reducible refine Below.setCell ?_ ?_ _) | (with_reducible refine Below.trans ?_ (Below.mono (by assumption) ?_)) | go_size | (simp at *; omega)))⟩)

set_option maxRecDepth 100000 in
set_option maxHeartbeats 3200000 in
theorem tp_nod (c : Cal) (u : Un) (k lv : Int) (w : World) (hn : c.name.size ≤ 100) (h6 : ¬ c.kind = 6) (hE : twE c u k = 0) (hD : ¬ dnE c u lv = 0) :
    Calls Try.prog 9 #[calV c, unitV u, .int .i64 k, .int .i64 lv] w fun e w' => e = .returned (.bool true) ∧ Below w.heap.size w w' := by
  have hkb : (c.kind == 6) = false := by simpa using h6
  have hlen : 0 < (twL c u k).length := by
    obtain ⟨_, _, _, h1, h2⟩ := tw_ok hE
    rw [h2]; exact h1
  have HE := hide hE
  obtain ⟨D, hDD⟩ : ∃ D, dnE c u lv = D := ⟨_, rfl⟩
  have HDD := hide hDD
  rw [hDD] at hD
  have hDb : (D != 0) = true := by simpa using hD
  clear hE hD hDD h6
  simp only [calV, unitV]
  go_enter Try.func9, Try.ntmps9
  go_wp2_with fail
  refine (live20_any _).mono ?_
  rintro e w1 ⟨rfl, hb1⟩
  have hz1 : w.heap.size + 1 < w1.heap.size := by have := hb1.size; simp at this; omega
  have HB1 := hide (show Below w.heap.size w w1 by refine Below.trans ?_ (hb1.mono (by first | omega | (simp; done) | (simp; omega))); (repeat' (first | (with_reducible exact Below.refl _ _) | (with_reducible assumption) | (with_reducible refine Below.alloc ?_ ?_ _) | (with_reducible refine below_drewN ?_ _) | (with_reducible refine Below.drew ?_) | (with_reducible refine Below.setCell ?_ ?_ _) | (with_reducible refine Below.trans ?_ (Below.mono (by assumption) ?_)) | go_size | (simp at *; omega))))
  have HQ1 := hide (calAt_below hb1 (by simp; omega) (calAt_alloc (calAt_new w c) (by simp) _))
  have HU1 := hide (unAt_below hb1 (by simp) (unAt_new w c u))
  obtain ⟨q0, q1, q2, q3, q4, q5, q6, q7, q8, q9, q10, q11, q12, q13⟩ := HQ1.out
  obtain ⟨u0, u1, u2⟩ := HU1.out
  have hy1 : w.heap.size < w1.heap.size := by omega
  clear hb1
  go_wp2_with fail
  all_goals first
    | (exfalso; omega)
    | skip
  refine (tweeks_any c u k _ (by omega)).mono ?_
  rintro e w2 ⟨⟨v, rfl, hv⟩, hb2⟩
  rw [HE.out]
  obtain ⟨g, cap, rfl, _, _⟩ := twV_some hlen hv
  clear hv
  have hz2 : w.heap.size + 1 < w2.heap.size := by have := hb2.size; (try simp at this); omega
  have HB2 := hide (show Below w.heap.size w w2 by have hp := HB1.out; refine Below.trans ?_ (hb2.mono (by first | omega | (simp; done) | (simp; omega))); (repeat' (first | (with_reducible exact Below.refl _ _) | (with_reducible assumption) | (with_reducible refine Below.alloc ?_ ?_ _) | (with_reducible refine below_drewN ?_ _) | (with_reducible refine Below.drew ?_) | (with_reducible refine Below.setCell ?_ ?_ _) | (with_reducible refine Below.trans ?_ (Below.mono (by assumption) ?_)) | go_size | (simp at *; omega))))
  have HQ2 := hide (show CalAt w2 w.heap.size c from calAt_below hb2 (by first | omega | (simp; done) | (simp; omega)) (by first | exact HQ1.out | exact calAt_alloc HQ1.out (by omega) _ | exact calAt_alloc (calAt_alloc HQ1.out (by omega) _) (by simp; omega) _))
  clear q0 q1 q2 q3 q4 q5 q6 q7 q8 q9 q10 q11 q12 q13
  obtain ⟨q0, q1, q2, q3, q4, q5, q6, q7, q8, q9, q10, q11, q12, q13⟩ := HQ2.out
  have HU2 := hide (show UnAt w2 (w.heap.size + 1) u from unAt_below hb2 (by first | omega | (simp; done) | (simp; omega)) (by first | exact HU1.out | exact unAt_alloc HU1.out (by omega) _ | exact unAt_alloc (unAt_alloc HU1.out (by omega) _) (by simp; omega) _))
  clear u0 u1 u2
  obtain ⟨u0, u1, u2⟩ := HU2.out
  have hy2 : w.heap.size < w2.heap.size := by omega
  clear hb2
  go_wp2_with fail
  all_goals first
    | (exfalso; omega)
    | skip
  refine (down_any c u lv _ (by omega)).mono ?_
  rintro e w3 ⟨rfl, hb3⟩
  rw [HDD.out]
  generalize dnA c u lv = A
  generalize dnB c u lv = B
  simp only [unitV]
  have hz3 : w.heap.size + 1 < w3.heap.size := by have := hb3.size; (try simp at this); omega
  have HB3 := hide (show Below w.heap.size w w3 by have hp := HB2.out; refine Below.trans ?_ (hb3.mono (by first | omega | (simp; done) | (simp; omega))); (repeat' (first | (with_reducible exact Below.refl _ _) | (with_reducible assumption) | (with_reducible refine Below.alloc ?_ ?_ _) | (with_reducible refine below_drewN ?_ _) | (with_reducible refine Below.drew ?_) | (with_reducible refine Below.setCell ?_ ?_ _) | (with_reducible refine Below.trans ?_ (Below.mono (by assumption) ?_)) | go_size | (simp at *; omega))))
  have HQ3 := hide (show CalAt w3 w.heap.size c from calAt_below hb3 (by first | omega | (simp; done) | (simp; omega)) (by first | exact HQ2.out | exact calAt_alloc HQ2.out (by omega) _ | exact calAt_alloc (calAt_alloc HQ2.out (by omega) _) (by simp; omega) _))
  clear q0 q1 q2 q3 q4 q5 q6 q7 q8 q9 q10 q11 q12 q13
  obtain ⟨q0, q1, q2, q3, q4, q5, q6, q7, q8, q9, q10, q11, q12, q13⟩ := HQ3.out
  have HU3 := hide (show UnAt w3 (w.heap.size + 1) u from unAt_below hb3 (by first | omega | (simp; done) | (simp; omega)) (by first | exact HU2.out | exact unAt_alloc HU2.out (by omega) _ | exact unAt_alloc (unAt_alloc HU2.out (by omega) _) (by simp; omega) _))
  clear u0 u1 u2
  obtain ⟨u0, u1, u2⟩ := HU3.out
  have hy3 : w.heap.size < w3.heap.size := by omega
  clear hb3
  have hBel := HB3.out
  go_wp2
  all_goals first
    | (exfalso; omega)
    | (go_ret; exact ⟨rfl, by (repeat' (first | (with_reducible exact Below.refl _ _) | (with_reducible assumption) | (with_reducible refine Below.alloc ?_ ?_ _) | (with_reducible refine below_drewN ?_ _) | (with_reducible refine Below.drew ?_) | (with_reducible refine Below.setCell ?_ ?_ _) | (with_reducible refine Below.trans ?_ (Below.mono (by assumption) ?_)) | go_size | (simp at *; omega)))⟩)

set_option maxRecDepth 100000 in
set_option maxHeartbeats 12800000 in
theorem tp_yes (c : Cal) (u : Un) (k lv : Int) (w : World) (hn : c.name.size ≤ 100) (h6 : ¬ c.kind = 6) (hE : twE c u k = 0) (hD : dnE c u lv = 0) :
    Calls Try.prog 9 #[calV c, unitV u, .int .i64 k, .int .i64 lv] w fun e w' => e = .returned (.bool true) ∧ Below w.heap.size w w' := by
  have hkb : (c.kind == 6) = false := by simpa using h6
  obtain ⟨hU, ht, hin, hlen, hL⟩ := tw_ok hE
  have hf := (un_lv hU).1
  have hA := (un_lv hU).2.2.2.1
  obtain ⟨hok, hk, _, _, hy1, hy2, _⟩ := frame_ok hf
  have hyb := ok_years hk
  have hyb2 : 1602 ≤ c.first ∧ c.last ≤ 9996 := ⟨hyb.2.2.1, hyb.2.2.2.1⟩
  have hlvb : u.lv ≤ lv ∧ lv ≤ 5 := by
    rw [dnE, if_pos hU] at hD
    split at hD
    · assumption
    · omega
  have hl60 := (tw_runs_len hE)
  obtain ⟨i, n, p1, p2, p3, p4, p5, p6⟩ := tw_parts hE hlvb.1 hlvb.2 (fun h => absurd h h6)
  have hpl := fun m hm => parts_len p6 hl60 m hm
  have HE := hide hE
  have HD := hide (And.intro hD (And.intro p1 p2))
  have HP5 := hide p5
  rw [← hL] at hlen
  obtain ⟨L, hLL⟩ : ∃ L, twL c u k = L := ⟨_, rfl⟩
  rw [hLL] at hlen hl60 p6
  have HLL := hide hLL
  have HP6 := hide p6
  have HPL := hide hpl
  obtain ⟨i0, hi, hi0, hi1, hi2⟩ := info_parts unit_info_p
  clear hE hU hf hA hok hk hyb hin hL p1 p2 p5 p6 hpl hLL hD h6
  simp only [calV, unitV]
  go_enter Try.func9, Try.ntmps9
  go_wp2_with fail
  refine (live20_any _).mono ?_
  rintro e w1 ⟨rfl, hb1⟩
  have hz1 : w.heap.size + 1 < w1.heap.size := by have := hb1.size; simp at this; omega
  have HB1 := hide (show Below w.heap.size w w1 by refine Below.trans ?_ (hb1.mono (by first | omega | (simp; done) | (simp; omega))); (repeat' (first | (with_reducible exact Below.refl _ _) | (with_reducible assumption) | (with_reducible refine Below.alloc ?_ ?_ _) | (with_reducible refine below_drewN ?_ _) | (with_reducible refine Below.drew ?_) | (with_reducible refine Below.setCell ?_ ?_ _) | (with_reducible refine Below.trans ?_ (Below.mono (by assumption) ?_)) | go_size | (simp at *; omega))))
  have HQ1 := hide (calAt_below hb1 (by simp; omega) (calAt_alloc (calAt_new w c) (by simp) _))
  have HU1 := hide (unAt_below hb1 (by simp) (unAt_new w c u))
  obtain ⟨q0, q1, q2, q3, q4, q5, q6, q7, q8, q9, q10, q11, q12, q13⟩ := HQ1.out
  obtain ⟨u0, u1, u2⟩ := HU1.out
  have hy1 : w.heap.size < w1.heap.size := by omega
  clear hb1
  go_wp2_with fail
  all_goals first
    | (exfalso; omega)
    | skip
  refine (tweeks_any c u k _ (by omega)).mono ?_
  rintro e w2 ⟨⟨v, rfl, hv⟩, hb2⟩
  rw [HE.out]
  rw [HLL.out] at hv
  obtain ⟨g, cap, rfl, _, hun⟩ := twV_some hlen hv
  have HUN2 := hide hun
  have hg2 := (hun.lt hlen).1
  clear hv hun
  have hz2 : w.heap.size + 1 < w2.heap.size := by have := hb2.size; (try simp at this); omega
  have HB2 := hide (show Below w.heap.size w w2 by have hp := HB1.out; refine Below.trans ?_ (hb2.mono (by first | omega | (simp; done) | (simp; omega))); (repeat' (first | (with_reducible exact Below.refl _ _) | (with_reducible assumption) | (with_reducible refine Below.alloc ?_ ?_ _) | (with_reducible refine below_drewN ?_ _) | (with_reducible refine Below.drew ?_) | (with_reducible refine Below.setCell ?_ ?_ _) | (with_reducible refine Below.trans ?_ (Below.mono (by assumption) ?_)) | go_size | (simp at *; omega))))
  have HQ2 := hide (show CalAt w2 w.heap.size c from calAt_below hb2 (by first | omega | (simp; done) | (simp; omega)) (by first | exact HQ1.out | exact calAt_alloc HQ1.out (by omega) _ | exact calAt_alloc (calAt_alloc HQ1.out (by omega) _) (by simp; omega) _))
  clear q0 q1 q2 q3 q4 q5 q6 q7 q8 q9 q10 q11 q12 q13
  obtain ⟨q0, q1, q2, q3, q4, q5, q6, q7, q8, q9, q10, q11, q12, q13⟩ := HQ2.out
  have HU2 := hide (show UnAt w2 (w.heap.size + 1) u from unAt_below hb2 (by first | omega | (simp; done) | (simp; omega)) (by first | exact HU1.out | exact unAt_alloc HU1.out (by omega) _ | exact unAt_alloc (unAt_alloc HU1.out (by omega) _) (by simp; omega) _))
  clear u0 u1 u2
  obtain ⟨u0, u1, u2⟩ := HU2.out
  have hy2 : w.heap.size < w2.heap.size := by omega
  clear hb2
  go_wp2_with fail
  all_goals first
    | (exfalso; omega)
    | skip
  refine (down_any c u lv _ (by omega)).mono ?_
  rintro e w3 ⟨rfl, hb3⟩
  rw [HD.out.1, HD.out.2.1, HD.out.2.2]
  simp only [unitV]
  have HUN3 := hide (HUN2.out.call hb3)
  have hg3 : g < w3.heap.size := by have := hb3.size; omega
  have hz3 : w.heap.size + 1 < w3.heap.size := by have := hb3.size; (try simp at this); omega
  have HB3 := hide (show Below w.heap.size w w3 by have hp := HB2.out; refine Below.trans ?_ (hb3.mono (by first | omega | (simp; done) | (simp; omega))); (repeat' (first | (with_reducible exact Below.refl _ _) | (with_reducible assumption) | (with_reducible refine Below.alloc ?_ ?_ _) | (with_reducible refine below_drewN ?_ _) | (with_reducible refine Below.drew ?_) | (with_reducible refine Below.setCell ?_ ?_ _) | (with_reducible refine Below.trans ?_ (Below.mono (by assumption) ?_)) | go_size | (simp at *; omega))))
  have HQ3 := hide (show CalAt w3 w.heap.size c from calAt_below hb3 (by first | omega | (simp; done) | (simp; omega)) (by first | exact HQ2.out | exact calAt_alloc HQ2.out (by omega) _ | exact calAt_alloc (calAt_alloc HQ2.out (by omega) _) (by simp; omega) _))
  clear q0 q1 q2 q3 q4 q5 q6 q7 q8 q9 q10 q11 q12 q13
  obtain ⟨q0, q1, q2, q3, q4, q5, q6, q7, q8, q9, q10, q11, q12, q13⟩ := HQ3.out
  have HU3 := hide (show UnAt w3 (w.heap.size + 1) u from unAt_below hb3 (by first | omega | (simp; done) | (simp; omega)) (by first | exact HU2.out | exact unAt_alloc HU2.out (by omega) _ | exact unAt_alloc (unAt_alloc HU2.out (by omega) _) (by simp; omega) _))
  clear u0 u1 u2
  obtain ⟨u0, u1, u2⟩ := HU3.out
  have hy3 : w.heap.size < w3.heap.size := by omega
  clear hb3
  have hibd : (1 : Int) ≤ (i : Int) + 1 ∧ (i : Int) + n ≤ 60 := by omega
  obtain ⟨W4, hW4⟩ : ∃ W4 : World, W4 = ((w3.alloc (.cells #[.int .i64 lv, .int .i64 u.yr, .int .i64 ((i : Int) + 1)] 31)).alloc (.cells #[.int .i64 lv, .int .i64 u.yr, .int .i64 ((i : Int) + n)] 31)) := ⟨_, rfl⟩
  have HT := hide (show TpSt c u L g cap w.heap.size w3.heap.size W4.heap.size lv ((i : Int) + 1) ((i : Int) + n) [] (.slice none 0 0) w W4 from by
    have hbw : Below w3.heap.size w3 W4 := by rw [hW4]; exact ((Below.refl _ _).alloc (Nat.le_refl _) _).alloc (by simp) _
    have hsz : W4.heap.size = w3.heap.size + 2 := by rw [hW4]; simp
    refine ⟨calAt_below hbw (by omega) HQ3.out, unAt_below hbw (by omega) HU3.out, by omega, ⟨HUN3.out.call hbw, by omega⟩, ⟨?_, ?_⟩, by omega, Nat.le_refl _, ⟨World.ownsRow_nil _ _ _ _, by simp⟩, HB3.out.trans (hbw.mono (by omega))⟩
    · rw [hW4]; exact (BlkIs.new w3 _ _).alloc _
    · rw [hW4]; simpa using BlkIs.new (w3.alloc (.cells #[.int .i64 lv, .int .i64 u.yr, .int .i64 ((i : Int) + 1)] 31)) #[.int .i64 lv, .int .i64 u.yr, .int .i64 ((i : Int) + n)] 31)
  have HW4 := hide hW4
  clear hW4 u0 u1 u2
  go_wp2_with fail
  all_goals first
    | (exfalso; omega)
    | skip
  clear q0 q1 q2 q3 q4 q5 q6 q7 q8 q9 q10 q11 q12 q13
  go_loopw [14, 15] (fun s14 s15 wr => ∃ m : Nat, s15 = .int .i64 ((i : Int) + 1 + (m : Int)) ∧ m ≤ n ∧ TpSt c u L g cap w.heap.size w3.heap.size W4.heap.size lv ((i : Int) + 1) ((i : Int) + n) (partsL c u.yr k lv ((i : Int) + 1) m) s14 w wr) (fun _ s15 _ => (500 - intOf s15).toNat)
  case atStart => exact ⟨0, by simp, Nat.zero_le _, by rw [partsL_zero, ← HW4.out]; exact HT.out⟩
  case round =>
    obtain ⟨m, rfl, hm, hT⟩ := hrel
    have HTT := hide hT
    clear hT
    obtain ⟨q0, q1, q2, q3, q4, q5, q6, q7, q8, q9, q10, q11, q12, q13⟩ := HTT.out.1
    obtain ⟨u0, u1, u2⟩ := HTT.out.2.1
    have hb3 : w.heap.size + 1 < w3.heap.size := HTT.out.2.2.1
    have hb4 : w3.heap.size + 1 < W4.heap.size := HTT.out.2.2.2.2.2.1
    have hb5 : W4.heap.size ≤ wr.heap.size := HTT.out.2.2.2.2.2.2.1
    have x2 : wr.cell? ⟨w3.heap.size, 2, none⟩ = some (.int .i64 ((i : Int) + 1)) := HTT.out.2.2.2.2.1.1.cell 2
    have y2 : wr.cell? ⟨w3.heap.size + 1, 2, none⟩ = some (.int .i64 ((i : Int) + n)) := HTT.out.2.2.2.2.1.2.cell 2
    have hpm := HPL.out m hm
    by_cases hlt : m < n
    · have h5 := HP5.out m hlt
      have hpm1 := HPL.out (m + 1) hlt
      rw [partsL_succ, List.length_append] at hpm1
      have HSU := hide (partsL_succ c u.yr k lv ((i : Int) + 1) m)
      obtain ⟨PL, hPL⟩ : ∃ PL, partsL c u.yr k lv ((i : Int) + 1) m = PL := ⟨_, rfl⟩
      rw [hPL] at HTT HSU hpm hpm1
      clear hPL
      obtain ⟨E, hEE⟩ : ∃ E, twE c ⟨lv, u.yr, (i : Int) + 1 + (m : Int)⟩ k = E := ⟨_, rfl⟩
      obtain ⟨M, hMM⟩ : ∃ M, twL c ⟨lv, u.yr, (i : Int) + 1 + (m : Int)⟩ k = M := ⟨_, rfl⟩
      rw [hEE] at h5
      rw [hMM] at hpm1 HSU
      have HEM := hide (And.intro hEE hMM)
      clear hEE hMM
      have hv0 := HTT.out.2.2.2.2.2.2.2.1
      go_wp2_with fail
      all_goals first
        | (exfalso; omega)
        | skip
      refine (tweeks_any c ⟨lv, u.yr, (i : Int) + 1 + (m : Int)⟩ k _ (by omega)).mono ?_
      rintro e w5 ⟨⟨vm, rfl, hvm⟩, hb6⟩
      rw [HEM.out.1]
      rw [HEM.out.2] at hvm
      have HT5 := hide (HTT.out.call hb6)
      have hs5 := hb6.size
      clear hb6 u0 u1 u2 x2 y2 hv0
      clear q0 q1 q2 q3 q4 q5 q6 q7 q8 q9 q10 q11 q12 q13
      rcases tw_none hvm with ⟨hM0, rfl⟩ | ⟨hM0, gm, cm, rfl, hum⟩
      · clear hvm
        rw [hM0, List.append_nil] at HSU
        rcases h5 with rfl | rfl
        all_goals
          go_wp2_with (at_builtin; refine wpList_append_own_none rfl _ _ 40 rfl W4.heap.size 31 i0 3 Try.underlying40 hi _ _ _ rfl HT5.out.2.2.2.2.2.2.2.1.1 rfl ?_)
          go_wp2
          all_goals first
            | (exfalso; omega)
            | skip
          go_roundw
          case rel => exact ⟨m + 1, by go_num, by omega, by rw [HSU.out]; exact HT5.out⟩
          case measure => simp [intOf]; omega
      · clear hvm
        have hcells := hum.cells (g := gm) rfl
        have HC := hide hcells
        have HFL := hide (flatU_len M)
        clear hcells hum
        rcases h5 with rfl | rfl
        all_goals
          go_wp2_with (at_builtin; refine wpList_append_own _ rfl _ _ 40 rfl W4.heap.size 31 i0 (.agg #[.int .i64 0, .int .i64 0, .int .i64 0]) 3 24 Try.underlying40 hi hi0 hi1 hi2 rfl (by decide) _ _ _ rfl HT5.out.2.2.2.2.2.2.2.1.1 ⟨gm, 0, none⟩ M.length cm (flatU M) rfl HFL.out HC.out (flatU_one M) (by unfold maxLen; omega) (by omega) (by omega) ?_)
          intro v' w' hown' hgrow hnil
          have HG := hide (HT5.out.grow hM0 hown' hgrow (by simp only [List.length_eq_zero_iff]; exact hnil))
          clear hown' hgrow hnil
          go_wp2
          all_goals first
            | (exfalso; omega)
            | skip
          go_roundw
          case rel => exact ⟨m + 1, by go_num, by omega, by rw [HSU.out]; exact HG.out⟩
          case measure => simp [intOf]; omega
    · have hme : m = n := by omega
      subst hme
      rw [HP6.out] at HTT
      obtain ⟨hown, hnil⟩ := HTT.out.2.2.2.2.2.2.2.1
      obtain ⟨g5, cap5, rfl, _⟩ := owns_pos hown hlen
      have HO := hide (show UnsAt wr g5 cap5 L from hown.base (Nat.zero_le _))
      have HN := hide HTT.out.2.2.2.1.1
      have hBel := HTT.out.2.2.2.2.2.2.2.2
      clear hown hnil
      go_wp2_with fail
      all_goals first
        | (exfalso; omega)
        | skip
      refine (same20_some L g cap g5 cap5 _ HN.out HO.out hlen (by omega)).mono ?_
      rintro e w6 ⟨rfl, hb6⟩
      have hBel2 := hBel.trans (hb6.mono (by omega))
      clear hb6
      go_wp2
      all_goals first
        | (exfalso; omega)
        | (go_ret; exact ⟨rfl, by (repeat' (first | (with_reducible exact Below.refl _ _) | (with_reducible assumption) | (with_reducible refine Below.alloc ?_ ?_ _) | (with_reducible refine below_drewN ?_ _) | (with_reducible refine Below.drew ?_) | (with_reducible refine Below.setCell ?_ ?_ _) | (with_reducible refine Below.trans ?_ (Below.mono (by assumption) ?_)) | go_size | (simp at *; omega)))⟩)

theorem tp_walk (c : Cal) (hn : c.name.size ≤ 9223372036854775807) (u : Un) (k lv : Int) (w : World) :
    Calls Try.prog 9 #[calV c, unitV u, .int .i64 k, .int .i64 lv] w fun e w' => e = .returned (.bool true) ∧ Below w.heap.size w w' := by
  by_cases h : 100 < c.name.size
  · exact tp_long c u k lv w h hn
  · have h' : c.name.size ≤ 100 := by omega
    by_cases h6 : c.kind = 6
    · by_cases h5 : lv = 5
      · exact tp_triv c u k lv w h' h6 h5
      · by_cases hE : twE c u k = 0
        · by_cases hD : dnE c u lv = 0
          · exact tp_yes6 c u k lv w h' h6 h5 hE hD
          · exact tp_no6d c u k lv w h' h6 h5 hE hD
        · exact tp_no6e c u k lv w h' h6 h5 hE
    · by_cases hE : twE c u k = 0
      · by_cases hD : dnE c u lv = 0
        · exact tp_yes c u k lv w h' h6 hE hD
        · exact tp_nod c u k lv w h' h6 hE hD
      · exact tp_noe c u k lv w h' h6 hE
end Go.Proofs.Ytpngdeegdkifnaa
