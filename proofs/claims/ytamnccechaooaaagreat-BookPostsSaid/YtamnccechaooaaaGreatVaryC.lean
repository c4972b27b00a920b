/- Package vary: the contract of Row. -/
import Derived.Test.YtamnccechaooaaaGreatVaryB
import Derived.Laws.Tables
import Derived.Laws.CopyOwn
namespace Go.Proofs.YtamnccechaooaaaGreat
open Go.RowKit Qd
set_option linter.unusedSimpArgs false
set_option linter.unusedVariables false

abbrev rw0 : Array Value := #[.int .i64 0, .int .i64 0, .int .i64 0, .int .i64 0, .int .i64 0, .int .i64 0, .bool false]
def RwSt (c : Cal) (u : Un) (v1 v2 : Value) (B : Nat) (w0 w : World) : Prop := TtSt c u v1 v2 B w0 w ∧ BlkIs w (B + 1 + 1 + 1) rw0 86
theorem RwSt.via {c : Cal} {u : Un} {v1 v2 : Value} {B m : Nat} {w0 w W w' : World} (h : RwSt c u v1 v2 B w0 w) (hb : Below m W w') (h1 : Below w.heap.size w W := by exact bel) (h2 : w.heap.size ≤ m := by exact sz) : RwSt c u v1 v2 B w0 w' :=
  ⟨h.1.call (h1.trans (hb.mono h2)), h.2.call (h1.trans (hb.mono h2))⟩
theorem rwSt_new (c : Cal) (u : Un) (v1 v2 : Value) (w : World) : RwSt c u v1 v2 w.heap.size w ((((w.alloc (calObj c)).alloc (unObj u)).alloc (.cells #[v1, v2] 60)).alloc (.cells rw0 86)) := by
  refine ⟨(ttSt_new c u v1 v2 w).call (by (repeat' exact bel)), ?_⟩
  have h := BlkIs.new (((w.alloc (calObj c)).alloc (unObj u)).alloc (.cells #[v1, v2] 60)) rw0 86
  simpa using h
theorem res_row {tmps : Array Value} {W : World} {B : Nat} {a b c d e f x : Int} {g : Bool} (h8 : tmps[8]? = some (.pointer (some ⟨B, 0, none⟩))) (h9 : tmps[9]? = some (.int .i64 x))
    (k : W.heap[B]? = some (.cells #[.int .i64 a, .int .i64 b, .int .i64 c, .int .i64 d, .int .i64 e, .int .i64 f, .bool g] 86 (0, 0))) :
    (results Tryz.f46 tmps).run Tryz.prog W = .ok (.tuple #[.agg #[.int .i64 a, .int .i64 b, .int .i64 c, .int .i64 d, .int .i64 e, .int .i64 f, .bool g], .int .i64 x]) W := by
  have k2 : BlkIs W B #[.int .i64 a, .int .i64 b, .int .i64 c, .int .i64 d, .int .i64 e, .int .i64 f, .bool g] 86 := k
  have c0 := k2.cell 0
  have c1 := k2.cell 1
  have c2 := k2.cell 2
  have c3 := k2.cell 3
  have c4 := k2.cell 4
  have c5 := k2.cell 5
  have c6 := k2.cell 6
  simp at c0 c1 c2 c3 c4 c5 c6
  simp [results, Tryz.results46, go_sem, h8, h9, c0, c1, c2, c3, c4, c5, c6]
theorem thV_in (c : Cal) (u : Un) (k : Int) (P : List Po) (A : List Ac) (Z : Parts) : in64 (thV c u k P A Z) := by
  unfold thV
  split
  · exact fit_in _
  · exact ⟨by decide, by decide⟩
/-- A row. -/
structure Rw where
  u : Un
  this : Int
  that : Int
  diff : Int
  gone : Bool
abbrev rowCs (r : Rw) : Array Value := #[.int .i64 r.u.lv, .int .i64 r.u.yr, .int .i64 r.u.ix, .int .i64 r.this, .int .i64 r.that, .int .i64 r.diff, .bool r.gone]
def rwE (c : Cal) (u : Un) (k : Int) (P : List Po) (A : List Ac) (Z : Parts) : Int := if TE c P A Z u = 0 then (if thE c u k P A Z = 0 then fitE (TV c P A Z u - thV c u k P A Z) else thE c u k P A Z) else TE c P A Z u
def rwV (c : Cal) (u : Un) (k : Int) (P : List Po) (A : List Ac) (Z : Parts) : Rw := if rwE c u k P A Z = 0 then ⟨u, TV c P A Z u, thV c u k P A Z, TV c P A Z u - thV c u k P A Z, !thOk c u k P A Z⟩ else ⟨⟨0, 0, 0⟩, 0, 0, 0, false⟩

set_option maxRecDepth 100000 in
set_option maxHeartbeats 6400000 in
theorem vrow_any (c : Cal) (u : Un) (k : Int) (P : List Po) (A : List Ac) (Z : Parts) (v1 v2 : Value) (w : World) (hn : c.name.size ≤ 1000) (hP : Posts w v1 P) (hA : Accs w v2 A) (hB : BookOk c P A v2 Z) :
    Calls Tryz.prog 46 #[calV c, unitV u, .int .i64 k, .agg #[v1, v2]] w fun e w' => e = .returned (.tuple #[.agg (rowCs (rwV c u k P A Z)), .int .i64 (rwE c u k P A Z)]) ∧ Below w.heap.size w w' := by
  have HP := hide hP
  have HA := hide hA
  have HB := hide hB
  have H0 := hide (rwSt_new c u v1 v2 w)
  obtain ⟨ad1, cap1, rfl, _⟩ := hP
  obtain ⟨ad2, cap2, rfl, _⟩ := hA
  clear hB
  by_cases hT : TE c P A Z u = 0
  · have HT := hide hT
    by_cases hH : thE c u k P A Z = 0
    · have HH := hide hH
      by_cases hF : in64 (TV c P A Z u - thV c u k P A Z)
      · have HF := hide (fit_yes hF)
        have HE := hide (show rwE c u k P A Z = 0 by rw [rwE, if_pos hT, if_pos hH, (fit_yes hF).2])
        have HV := hide (show rwV c u k P A Z = ⟨u, TV c P A Z u, thV c u k P A Z, TV c P A Z u - thV c u k P A Z, !thOk c u k P A Z⟩ by rw [rwV, if_pos HE.out])
        clear hT hH hF
        simp only [calV, unitV]
        go_enter Tryz.func46, Tryz.ntmps46
        go_wp2_with fail
        refine (btotal_bk c u P A Z _ _ ((((w.alloc (calObj c)).alloc (unObj u)).alloc (.cells #[.slice ad1 P.length cap1, .slice ad2 A.length cap2] 60)).alloc (.cells rw0 86)) hn (HP.out.call (by (repeat' exact bel))) (HA.out.call (by (repeat' exact bel))) HB.out).mono ?_
        rintro e w1 ⟨rfl, hb1⟩
        rw [HT.out]
        have HS1 := hide (H0.out.via hb1)
        have HP1 := hide (HP.out.call (HS1.out.1.2.2.2.2))
        have HA1 := hide (HA.out.call (HS1.out.1.2.2.2.2))
        clear hb1
        obtain ⟨⟨q0, q1, q2, q3, q4, q5, q6, q7, q8, q9, q10, q11, q12, q13⟩, ⟨u0, u1, u2⟩, ⟨k0, k1⟩, hsz, hBel⟩ := HS1.out.1.cells
        have KR := HS1.out.2
        go_wp2_with fail
        refine (that_any c u k P A Z _ _ _ hn HP1.out HA1.out HB.out).mono ?_
        rintro e w2 ⟨rfl, hb2⟩
        clear q0 q1 q2 q3 q4 q5 q6 q7 q8 q9 q10 q11 q12 q13 u0 u1 u2 k0 k1 hsz hBel KR
        rw [HH.out]
        have HS2 := hide (HS1.out.via hb2)
        have HP2 := hide (HP.out.call (HS2.out.1.2.2.2.2))
        have HA2 := hide (HA.out.call (HS2.out.1.2.2.2.2))
        clear hb2
        obtain ⟨⟨q0, q1, q2, q3, q4, q5, q6, q7, q8, q9, q10, q11, q12, q13⟩, ⟨u0, u1, u2⟩, ⟨k0, k1⟩, hsz, hBel⟩ := HS2.out.1.cells
        have KR := HS2.out.2
        go_wp2_with fail
        refine (wsub_any (TV c P A Z u) (thV c u k P A Z) _ (TV_in _ _ _ _ _) (thV_in _ _ _ _ _ _)).mono ?_
        rintro e w3 ⟨rfl, rfl⟩
        rw [HF.out.1, HF.out.2]
        go_wp2_with (refine wpList_store_row rfl _ _ _ rfl (w.heap.size + 1 + 1 + 1) #[.int .i64 u.lv, .int .i64 u.yr, .int .i64 u.ix, .int .i64 (TV c P A Z u), .int .i64 (thV c u k P A Z), .int .i64 (TV c P A Z u - thV c u k P A Z), .bool (!thOk c u k P A Z)] rfl rfl _ _ KR (by kernel_rfl) rfl (by simp [Value.oneCell']) ?_)
        go_wp2
        exact bodyPost_ret (v := .tuple #[.agg #[.int .i64 u.lv, .int .i64 u.yr, .int .i64 u.ix, .int .i64 (TV c P A Z u), .int .i64 (thV c u k P A Z), .int .i64 (TV c P A Z u - thV c u k P A Z), .bool (!thOk c u k P A Z)], .int .i64 0]) (by exact res_row rfl rfl (setRow_heap _ _ _ _ _ _ KR)) rfl ⟨by rw [HV.out, HE.out], below_setRow hBel (by omega) _⟩
      · have HF := hide (fit_no hF)
        have HE := hide (show rwE c u k P A Z = 2 by rw [rwE, if_pos hT, if_pos hH, (fit_no hF).2])
        have HV := hide (show rwV c u k P A Z = ⟨⟨0, 0, 0⟩, 0, 0, 0, false⟩ by rw [rwV, HE.out]; rfl)
        clear hT hH hF
        simp only [calV, unitV]
        go_enter Tryz.func46, Tryz.ntmps46
        go_wp2_with fail
        refine (btotal_bk c u P A Z _ _ ((((w.alloc (calObj c)).alloc (unObj u)).alloc (.cells #[.slice ad1 P.length cap1, .slice ad2 A.length cap2] 60)).alloc (.cells rw0 86)) hn (HP.out.call (by (repeat' exact bel))) (HA.out.call (by (repeat' exact bel))) HB.out).mono ?_
        rintro e w1 ⟨rfl, hb1⟩
        rw [HT.out]
        have HS1 := hide (H0.out.via hb1)
        have HP1 := hide (HP.out.call (HS1.out.1.2.2.2.2))
        have HA1 := hide (HA.out.call (HS1.out.1.2.2.2.2))
        clear hb1
        obtain ⟨⟨q0, q1, q2, q3, q4, q5, q6, q7, q8, q9, q10, q11, q12, q13⟩, ⟨u0, u1, u2⟩, ⟨k0, k1⟩, hsz, hBel⟩ := HS1.out.1.cells
        have KR := HS1.out.2
        go_wp2_with fail
        refine (that_any c u k P A Z _ _ _ hn HP1.out HA1.out HB.out).mono ?_
        rintro e w2 ⟨rfl, hb2⟩
        clear q0 q1 q2 q3 q4 q5 q6 q7 q8 q9 q10 q11 q12 q13 u0 u1 u2 k0 k1 hsz hBel KR
        rw [HH.out]
        have HS2 := hide (HS1.out.via hb2)
        have HP2 := hide (HP.out.call (HS2.out.1.2.2.2.2))
        have HA2 := hide (HA.out.call (HS2.out.1.2.2.2.2))
        clear hb2
        obtain ⟨⟨q0, q1, q2, q3, q4, q5, q6, q7, q8, q9, q10, q11, q12, q13⟩, ⟨u0, u1, u2⟩, ⟨k0, k1⟩, hsz, hBel⟩ := HS2.out.1.cells
        have KR := HS2.out.2
        go_wp2_with fail
        refine (wsub_any (TV c P A Z u) (thV c u k P A Z) _ (TV_in _ _ _ _ _) (thV_in _ _ _ _ _ _)).mono ?_
        rintro e w3 ⟨rfl, rfl⟩
        rw [HF.out.1, HF.out.2]
        go_wp2_with (refine wpList_store_row rfl _ _ _ rfl (w.heap.size + 1 + 1 + 1) #[.int .i64 0, .int .i64 0, .int .i64 0, .int .i64 0, .int .i64 0, .int .i64 0, .bool false] rfl rfl _ _ KR (by kernel_rfl) rfl (by simp [Value.oneCell']) ?_)
        go_wp2
        exact bodyPost_ret (v := .tuple #[.agg #[.int .i64 0, .int .i64 0, .int .i64 0, .int .i64 0, .int .i64 0, .int .i64 0, .bool false], .int .i64 2]) (by exact res_row rfl rfl (setRow_heap _ _ _ _ _ _ KR)) rfl ⟨by rw [HV.out, HE.out], below_setRow hBel (by omega) _⟩
    · have HE := hide (show rwE c u k P A Z = thE c u k P A Z by rw [rwE, if_pos hT, if_neg hH])
      have HV := hide (show rwV c u k P A Z = ⟨⟨0, 0, 0⟩, 0, 0, 0, false⟩ by rw [rwV, HE.out, if_neg hH])
      have hbH : (thE c u k P A Z != 0) = true := by simpa using hH
      clear hT hH
      simp only [calV, unitV]
      go_enter Tryz.func46, Tryz.ntmps46
      go_wp2_with fail
      refine (btotal_bk c u P A Z _ _ ((((w.alloc (calObj c)).alloc (unObj u)).alloc (.cells #[.slice ad1 P.length cap1, .slice ad2 A.length cap2] 60)).alloc (.cells rw0 86)) hn (HP.out.call (by (repeat' exact bel))) (HA.out.call (by (repeat' exact bel))) HB.out).mono ?_
      rintro e w1 ⟨rfl, hb1⟩
      rw [HT.out]
      have HS1 := hide (H0.out.via hb1)
      have HP1 := hide (HP.out.call (HS1.out.1.2.2.2.2))
      have HA1 := hide (HA.out.call (HS1.out.1.2.2.2.2))
      clear hb1
      obtain ⟨⟨q0, q1, q2, q3, q4, q5, q6, q7, q8, q9, q10, q11, q12, q13⟩, ⟨u0, u1, u2⟩, ⟨k0, k1⟩, hsz, hBel⟩ := HS1.out.1.cells
      have KR := HS1.out.2
      go_wp2_with fail
      refine (that_any c u k P A Z _ _ _ hn HP1.out HA1.out HB.out).mono ?_
      rintro e w2 ⟨rfl, hb2⟩
      clear q0 q1 q2 q3 q4 q5 q6 q7 q8 q9 q10 q11 q12 q13 u0 u1 u2 k0 k1 hsz hBel KR
      have HS2 := hide (HS1.out.via hb2)
      have HP2 := hide (HP.out.call (HS2.out.1.2.2.2.2))
      have HA2 := hide (HA.out.call (HS2.out.1.2.2.2.2))
      clear hb2
      obtain ⟨⟨q0, q1, q2, q3, q4, q5, q6, q7, q8, q9, q10, q11, q12, q13⟩, ⟨u0, u1, u2⟩, ⟨k0, k1⟩, hsz, hBel⟩ := HS2.out.1.cells
      have KR := HS2.out.2
      go_wp2_with (refine wpList_store_row rfl _ _ _ rfl (w.heap.size + 1 + 1 + 1) #[.int .i64 0, .int .i64 0, .int .i64 0, .int .i64 0, .int .i64 0, .int .i64 0, .bool false] rfl rfl _ _ KR (by kernel_rfl) rfl (by simp [Value.oneCell']) ?_)
      go_wp2
      exact bodyPost_ret (v := .tuple #[.agg #[.int .i64 0, .int .i64 0, .int .i64 0, .int .i64 0, .int .i64 0, .int .i64 0, .bool false], .int .i64 (thE c u k P A Z)]) (by exact res_row rfl rfl (setRow_heap _ _ _ _ _ _ KR)) rfl ⟨by rw [HV.out, HE.out], below_setRow hBel (by omega) _⟩
  · have HE := hide (show rwE c u k P A Z = TE c P A Z u by rw [rwE, if_neg hT])
    have HV := hide (show rwV c u k P A Z = ⟨⟨0, 0, 0⟩, 0, 0, 0, false⟩ by rw [rwV, HE.out, if_neg hT])
    have hbT : (TE c P A Z u != 0) = true := by simpa using hT
    clear hT
    simp only [calV, unitV]
    go_enter Tryz.func46, Tryz.ntmps46
    go_wp2_with fail
    refine (btotal_bk c u P A Z _ _ ((((w.alloc (calObj c)).alloc (unObj u)).alloc (.cells #[.slice ad1 P.length cap1, .slice ad2 A.length cap2] 60)).alloc (.cells rw0 86)) hn (HP.out.call (by (repeat' exact bel))) (HA.out.call (by (repeat' exact bel))) HB.out).mono ?_
    rintro e w1 ⟨rfl, hb1⟩
    have HS1 := hide (H0.out.via hb1)
    have HP1 := hide (HP.out.call (HS1.out.1.2.2.2.2))
    have HA1 := hide (HA.out.call (HS1.out.1.2.2.2.2))
    clear hb1
    obtain ⟨⟨q0, q1, q2, q3, q4, q5, q6, q7, q8, q9, q10, q11, q12, q13⟩, ⟨u0, u1, u2⟩, ⟨k0, k1⟩, hsz, hBel⟩ := HS1.out.1.cells
    have KR := HS1.out.2
    go_wp2_with (refine wpList_store_row rfl _ _ _ rfl (w.heap.size + 1 + 1 + 1) #[.int .i64 0, .int .i64 0, .int .i64 0, .int .i64 0, .int .i64 0, .int .i64 0, .bool false] rfl rfl _ _ KR (by kernel_rfl) rfl (by simp [Value.oneCell']) ?_)
    go_wp2
    exact bodyPost_ret (v := .tuple #[.agg #[.int .i64 0, .int .i64 0, .int .i64 0, .int .i64 0, .int .i64 0, .int .i64 0, .bool false], .int .i64 (TE c P A Z u)]) (by exact res_row rfl rfl (setRow_heap _ _ _ _ _ _ KR)) rfl ⟨by rw [HV.out, HE.out], below_setRow hBel (by omega) _⟩
end Go.Proofs.YtamnccechaooaaaGreat
