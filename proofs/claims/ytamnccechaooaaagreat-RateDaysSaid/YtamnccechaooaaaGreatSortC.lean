/- The sort of the parts: one put in behind the other. -/
import Derived.Test.YtamnccechaooaaaGreatSortB
import Derived.Lib.QuietBelow
import Derived.BigQuiet
namespace Go.Proofs.YtamnccechaooaaaGreat
open Go.RowKit Go.Sort
set_option linter.unusedSimpArgs false
set_option linter.unusedVariables false

/-- The comparison as a value. -/
abbrev cmpF : Value := .func (.func 97) #[] #[]
/-- They stand in order of their places. -/
def Incr (l : List Pt) : Prop := l.Pairwise fun x y => x.pos < y.pos
theorem Incr.ahead {a b : List Pt} (h : Incr (a ++ b)) : Ahead a b := (List.pairwise_append.1 h).2.2
theorem Incr.left {a b : List Pt} (h : Incr (a ++ b)) : Incr a := (List.pairwise_append.1 h).1
theorem Incr.right {a b : List Pt} (h : Incr (a ++ b)) : Incr b := (List.pairwise_append.1 h).2.1
theorem get_at (p q : List Pt) (x : Pt) : (p ++ x :: q)[p.length]? = some x := by simp
/-- One moved down by one. -/
theorem PartsAt.down {w : World} {g : Nat} {p s1 s2 r : List Pt} {x y : Pt} {D : List Pt} (h : PartsAt w g D) (hD : D = p ++ (s1 ++ [y]) ++ [x] ++ s2 ++ r) (k : Nat) (hk : k = p.length + s1.length) :
    PartsAt ((((w.setCell ⟨g, (k + 1) * 2, none⟩ (.int .i64 y.pos)).setCell ⟨g, (k + 1) * 2 + 1, none⟩ (.int .i64 y.ab)).setCell ⟨g, k * 2, none⟩ (.int .i64 x.pos)).setCell ⟨g, k * 2 + 1, none⟩ (.int .i64 x.ab)) g (p ++ s1 ++ [x] ++ (y :: s2) ++ r) := by
  subst hD hk
  have hl : (p ++ (s1 ++ [y]) ++ [x] ++ s2 ++ r).length = p.length + s1.length + 2 + s2.length + r.length := by simp only [List.length_append, List.length_cons, List.length_nil]; omega
  have h2 := (h.put (p.length + s1.length + 1) y (by omega)).put (p.length + s1.length) x (by rw [List.length_set]; omega)
  have e : ((p ++ (s1 ++ [y]) ++ [x] ++ s2 ++ r).set (p.length + s1.length + 1) y).set (p.length + s1.length) x = p ++ s1 ++ [x] ++ (y :: s2) ++ r := by
    rw [show p ++ (s1 ++ [y]) ++ [x] ++ s2 ++ r = (p ++ s1) ++ y :: x :: (s2 ++ r) by simp]
    have hps : (p ++ s1).length = p.length + s1.length := by simp
    rw [← hps, List.set_append_right _ _ (by omega), show (p ++ s1).length + 1 - (p ++ s1).length = 1 by omega, List.set_append_right _ _ (Nat.le_refl _), Nat.sub_self]
    simp
  rw [e] at h2
  exact h2

def InsSt (g : Nat) (p s r : List Pt) (w0 w : World) (i : Nat) : Prop := ∃ s1, Put (s.take i) s1 ∧ PartsAt w g (p ++ s1 ++ s.drop i ++ r) ∧ Only g w0 w
def InsIn (g : Nat) (p s1 q : List Pt) (x : Pt) (w0 w : World) (k : Nat) : Prop := ∃ S1 S2, S1.length = k ∧ S1 ++ S2 = s1 ∧ (∀ y ∈ S2, x.lt y) ∧ PartsAt w g (p ++ S1 ++ [x] ++ S2 ++ q) ∧ Only g w0 w

set_option maxRecDepth 100000 in
set_option maxHeartbeats 6400000 in
theorem ins_any (g cap L : Nat) (p s r : List Pt) (u v : Int) (D : List Pt) (w : World) (hs : Incr s) (hu : u = (p.length : Int)) (hv : v = (p.length : Int) + s.length) (hDD : D = p ++ s ++ r) (hD : PartsAt w g D) (hL : D.length = L) (hl : L ≤ 1000000) :
    Calls Tryz.prog 155 #[.slice (some ⟨g, 0, none⟩) L cap, .int .i64 u, .int .i64 v, cmpF] w fun e w' => e = .returned (.tuple #[]) ∧ (∃ s', Put s s' ∧ PartsAt w' g (p ++ s' ++ r)) ∧ Only g w w' := by
  subst hDD
  have hLL : p.length + s.length + r.length = L := by rw [← hL]; simp; omega
  obtain ⟨P, hP⟩ : ∃ n, p.length = n := ⟨_, rfl⟩
  obtain ⟨n, hn⟩ : ∃ n, s.length = n := ⟨_, rfl⟩
  have H0 := hide (show InsSt g p s r w w 1 from ⟨s.take 1, ⟨List.Perm.refl _, by
    cases s with
    | nil => simp [Srt]
    | cons x l => simp [Srt]⟩, by rw [show p ++ s.take 1 ++ s.drop 1 ++ r = p ++ (s.take 1 ++ s.drop 1) ++ r by simp, List.take_append_drop]; exact hD, Only.refl _ _⟩)
  rw [hP] at hu hv hLL
  rw [hn] at hv hLL
  have HPN := hide (And.intro hP hn)
  have HS := hide hs
  have hg := hD.lt
  subst hu hv
  clear hD hL hP hn hs
  go_enter Tryz.func155, Tryz.ntmps155
  go_wp2_with fail
  go_loopw [8] (fun s8 wr => ∃ i : Nat, s8 = .int .i64 ((P : Int) + (i : Int)) ∧ 1 ≤ i ∧ (i ≤ n ∨ (n = 0 ∧ i = 1)) ∧ InsSt g p s r w wr i) (fun s8 _ => (P + n + 5 - intOf s8).toNat)
  case atStart => exact ⟨1, by first | rfl | (congr 1; omega), by omega, by omega, H0.out⟩
  case round =>
    obtain ⟨i, rfl, hi1, hi2, s1, hPut, hPt, hBel⟩ := hrel
    have HQ := hide (And.intro hPut (And.intro hPt hBel))
    clear hPut hPt hBel
    by_cases hlt : i < n
    · have hin : i < s.length := by rw [HPN.out.2]; exact hlt
      obtain ⟨x, hx⟩ : ∃ x, s[i]? = some x := ⟨_, List.getElem?_eq_getElem hin⟩
      have hdr : s.drop i = x :: s.drop (i + 1) := by rw [List.drop_eq_getElem_cons hin]; congr 1; exact Option.some.inj ((List.getElem?_eq_getElem hin).symm.trans hx)
      have htk : s.take (i + 1) = s.take i ++ [x] := by rw [List.take_add_one, hx]; rfl
      have hs1l : s1.length = i := by rw [HQ.out.1.1.length_eq]; simp; omega
      have HAH := hide (show ∀ y ∈ s1, y.pos < x.pos from fun y hy => by
        have hy2 : y ∈ s.take i := HQ.out.1.1.mem_iff.1 hy
        have h : Incr (s.take i ++ s.drop i) := by rw [List.take_append_drop]; exact HS.out
        exact h.ahead y hy2 x (by rw [hdr]; simp))
      have HN := hide (show InsIn g p s1 (s.drop (i + 1) ++ r) x w wr i from ⟨s1, [], hs1l, by simp, by simp, by have h := HQ.out.2.1; rw [hdr] at h; simpa using h, HQ.out.2.2⟩)
      have HTK := hide htk
      have HSR := hide HQ.out.1
      have HDL := hide (show (s.drop (i + 1)).length = n - (i + 1) by simp; have := HPN.out.2; omega)
      clear hx hdr htk hs1l hin
      obtain ⟨wo, hwo⟩ : ∃ wo : World, wo = wr := ⟨_, rfl⟩
      rw [← hwo] at HN HQ ⊢
      clear hwo
      go_wp2_with fail
      go_loopw [9] (fun s9 wr => ∃ k : Nat, s9 = .int .i64 ((P : Int) + (k : Int)) ∧ k ≤ i ∧ InsIn g p s1 (s.drop (i + 1) ++ r) x w wr k) (fun s9 _ => (intOf s9 - P + 1).toNat)
      case atStart => exact ⟨i, rfl, Nat.le_refl _, HN.out⟩
      case round =>
        obtain ⟨k, rfl, hki, S1, S2, hS1, hS12, hS2, hPt, hB⟩ := hrel
        have HI := hide (And.intro hS12 (And.intro hS2 (And.intro hPt hB)))
        have hgr := hPt.lt
        have hSl : S1.length + S2.length = i := by rw [← List.length_append, hS12]; rw [HSR.out.1.length_eq]; simp; have := HPN.out.2; omega
        rcases List.eq_nil_or_concat S1 with hnil | ⟨T1, y, hcc⟩
        · subst hnil
          obtain rfl : k = 0 := by simpa using hS1.symm
          have HNX := hide (show InsSt g p s r w wr (i + 1) from ⟨x :: S2, ⟨by
            have h1 := HI.out.1
            simp only [List.nil_append] at h1
            rw [HTK.out, h1]
            exact (List.Perm.cons x HSR.out.1).trans (List.perm_append_comm (l₁ := [x]) (l₂ := s.take i)), by
            have h1 := HI.out.1
            simp only [List.nil_append] at h1
            exact List.pairwise_cons.2 ⟨HI.out.2.1, by rw [h1]; exact HSR.out.2⟩⟩, by simpa using HI.out.2.2.1, HI.out.2.2.2⟩)
          clear hS12 hS2 hPt hB hS1
          have hdec : decide ((P : Int) < (P : Int) + ((0 : Nat) : Int)) = false := by simp
          go_wp2_with fail
          go_quiet (fail)
          have HW := hide (show InsSt g p s r w (wr.drewN nq) (i + 1) by
            obtain ⟨s2, k1, k2, k3⟩ := HNX.out
            exact ⟨s2, k1, k2, only_drewN k3 nq⟩)
          go_wp2
          go_roundw
          case rel => exact ⟨i + 1, by go_num, by omega, by omega, HW.out⟩
          case measure => simp [intOf]; omega
        · rw [List.concat_eq_append] at hcc
          subst hcc
          have hk1 : T1.length + 1 = k := by simpa using hS1
          obtain ⟨z, rfl⟩ : ∃ z, k = z + 1 := ⟨T1.length, hk1.symm⟩
          have hz : T1.length = z := by omega
          have hyx := HAH.out y (by rw [← hS12]; simp)
          have hxy : x.pos ≠ y.pos := by omega
          have HK := hide (And.intro hyx hxy)
          have hD1 : (p ++ (T1 ++ [y]) ++ [x] ++ S2 ++ (s.drop (i + 1) ++ r))[P + z]? = some y := by
            have h := get_at (p ++ T1) ([x] ++ S2 ++ (s.drop (i + 1) ++ r)) y
            rw [show (p ++ T1).length = P + z by simp [HPN.out.1, hz]] at h
            simpa using h
          have hD2 : (p ++ (T1 ++ [y]) ++ [x] ++ S2 ++ (s.drop (i + 1) ++ r))[P + z + 1]? = some x := by
            have h := get_at (p ++ T1 ++ [y]) (S2 ++ (s.drop (i + 1) ++ r)) x
            rw [show (p ++ T1 ++ [y]).length = P + z + 1 by simp [HPN.out.1, hz]; omega] at h
            simpa using h
          obtain ⟨q, hq⟩ : ∃ q, P + z = q := ⟨_, rfl⟩
          rw [hq] at hD1 hD2
          have hj : (P : Int) + ((z + 1 : Nat) : Int) = (q : Int) + 1 := by omega
          obtain ⟨c1, c2⟩ := hPt.cell hD1
          obtain ⟨c3, c4⟩ := hPt.cell hD2
          have k1 := cell_regrown c1
          have k2 := cell_regrown c2
          have k3 := cell_regrown c3
          have k4 := cell_regrown c4
          have f1 := hPt.frozen (q * 2)
          have f2 := hPt.frozen (q * 2 + 1)
          have f3 := hPt.frozen ((q + 1) * 2)
          have f4 := hPt.frozen ((q + 1) * 2 + 1)
          have HZ := hide (And.intro hz hq)
          have q1 : (0 : Int) ≤ (q : Int) + 1 := by omega
          have q2 : ((q : Int) + 1).toNat = q + 1 := by omega
          have q3 : (q : Int) + 1 < (L : Int) := by omega
          have q4 : (0 : Int) ≤ (q : Int) := by omega
          have q6 : (q : Int) < (L : Int) := by omega
          have q7 : IntKind.i64.wrap (q : Int) = (q : Int) := by simp [IntKind.wrap, IntKind.bits, IntKind.signed]; omega
          have q8 : IntKind.i64.wrap ((q : Int) + 1 - 1) = (q : Int) := by simp [IntKind.wrap, IntKind.bits, IntKind.signed]; omega
          have q9 : (q : Int) + 1 - 1 = (q : Int) := by omega
          have hdec : decide ((P : Int) < (q : Int) + 1) = true := by simp; omega
          rw [hj]
          clear hS12 hS2 hPt hB hS1 hk1 hz hD1 hD2 hyx hxy hq hj
          go_wp2_with fail
          refine wp_region_quiet_below (by kernel_rfl) (by kernel_rfl) ?_
          repeat (go_big_quiet_step (first | exact Calls.regrown_of (cmp_any x y _) | fail))
          refine wpQuiet_nil ?_
          intro _ hw'
          obtain ⟨⟨dq, osq⟩, hw2⟩ := hw'
          subst hw2
          obtain ⟨wq, hwq⟩ : ∃ wq, grow (redrawn wr dq) osq = wq := ⟨_, rfl⟩
          have HBQ := hide (show Below wr.heap.size wr wq by rw [← hwq]; exact below_regrown wr dq osq)
          have HPQ := hide (HI.out.2.2.1.call HBQ.out)
          have HBG := hide (HI.out.2.2.2.trans (Only.of HBQ.out g))
          have d1 := k1 dq osq
          have d2 := k2 dq osq
          have d3 := k3 dq osq
          have d4 := k4 dq osq
          rw [hwq] at d1 d2 d3 d4 ⊢
          have f1 := HPQ.out.frozen (q * 2)
          have f2 := HPQ.out.frozen (q * 2 + 1)
          have f3 := HPQ.out.frozen ((q + 1) * 2)
          have f4 := HPQ.out.frozen ((q + 1) * 2 + 1)
          have hgq := HPQ.out.lt
          clear k1 k2 k3 k4 c1 c2 c3 c4 hwq
          by_cases hlt2 : cmpI x y < 0
          · have HL := hide ((Pt.lt_iff HK.out.1).2 ((cmpI_neg x y).1 hlt2))
            have HDN := hide (show InsIn g p s1 (s.drop (i + 1) ++ r) x w (((((wq.setCell ⟨g, (q + 1) * 2, none⟩ (.int .i64 y.pos)).setCell ⟨g, (q + 1) * 2 + 1, none⟩ (.int .i64 y.ab)).setCell ⟨g, q * 2, none⟩ (.int .i64 x.pos)).setCell ⟨g, q * 2 + 1, none⟩ (.int .i64 x.ab)).drew) z from
              ⟨T1, y :: S2, HZ.out.1, by simpa using HI.out.1, fun a ha => by
                rcases List.mem_cons.1 ha with rfl | ha
                · exact HL.out
                · exact HI.out.2.1 a ha, by
                have h := HPQ.out.down (D := p ++ (T1 ++ [y]) ++ [x] ++ S2 ++ (s.drop (i + 1) ++ r)) rfl q (by have := HZ.out; have := HPN.out.1; omega)
                exact h.drew, ((((HBG.out.setCell (Nat.le_refl _) _).setCell (Nat.le_refl _) _).setCell (Nat.le_refl _) _).setCell (Nat.le_refl _) _).drew⟩)
            go_wp2_with fail
            go_region
            all_goals
              go_simp
              go_wp2
              go_roundw
              case rel => exact ⟨z, by have := HZ.out.2; congr 1; omega, by omega, HDN.out⟩
              case measure => have hz0 := HZ.out.2; simp [intOf]; omega
          · have HNL := hide (show ¬ x.lt y from fun h => hlt2 ((cmpI_neg x y).2 ((Pt.lt_iff HK.out.1).1 h)))
            have HNX := hide (show InsSt g p s r w wq (i + 1) from ⟨T1 ++ [y] ++ x :: S2, ⟨by
              have h1 := HI.out.1
              rw [HTK.out]
              refine List.Perm.trans ?_ (List.Perm.append_right [x] HSR.out.1)
              rw [← h1]
              simp only [List.append_assoc]
              refine List.Perm.append_left T1 ?_
              refine List.Perm.append_left [y] ?_
              exact List.perm_append_comm (l₁ := [x]) (l₂ := S2), put_in (by rw [HI.out.1]; exact HSR.out.2) (fun a ha => by
                have : a = y := by simpa using ha.symm
                subst this
                exact Pt.not_lt (fun e => HK.out.2 e) HNL.out) HI.out.2.1⟩, by simpa using HPQ.out, HBG.out⟩)
            go_wp2
            go_roundw
            case rel => exact ⟨i + 1, by go_num, by omega, by omega, HNX.out⟩
            case measure => simp [intOf]; omega
    · have HF := hide (show ∃ s', Put s s' ∧ PartsAt wr g (p ++ s' ++ r) from ⟨s1, by
        have h := HQ.out.1
        rwa [List.take_of_length_le (by have := HPN.out.2; omega)] at h, by
        have h := HQ.out.2.1
        rw [List.drop_eq_nil_of_le (by have := HPN.out.2; omega)] at h
        simpa using h⟩)
      have HFB := hide HQ.out.2.2
      go_wp2
      all_goals first
        | (exfalso; omega)
        | (go_end0; exact ⟨rfl, HF.out, HFB.out⟩)
end Go.Proofs.YtamnccechaooaaaGreat
