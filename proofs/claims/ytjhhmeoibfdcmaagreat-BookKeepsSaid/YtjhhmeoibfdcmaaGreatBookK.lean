/- Package book: why one posting more can not be. -/
import Derived.Test.YtjhhmeoibfdcmaaGreatBookG
import Derived.Test.YtjhhmeoibfdcmaaGreatBookJ
namespace Go.Proofs.YtjhhmeoibfdcmaaGreat
open Go.RowKit Qd
set_option linter.unusedSimpArgs false
set_option linter.unusedVariables false

def roomE (P : List Po) (A : List Ac) (many : Int) : Int := if chkE P A = 0 then (if many = 4096 then 6 else 0) else chkE P A
set_option maxRecDepth 100000 in
set_option maxHeartbeats 1600000 in
theorem broom_any (P : List Po) (A : List Ac) (v1 v2 : Value) (many : Int) (w : World) (h1 : Posts w v1 P) (h2 : Accs w v2 A) (hl : P.length ≤ 100000 ∧ A.length ≤ 100000) : Calls Tryz.prog 43 #[.agg #[v1, v2], .int .i64 many] w fun e w' => e = .returned (.int .i64 (roomE P A many)) ∧ Below w.heap.size w w' := by
  have H1 := hide h1
  have H2 := hide h2
  obtain ⟨ad1, cap1, rfl, _⟩ := h1
  obtain ⟨ad2, cap2, rfl, _⟩ := h2
  obtain ⟨E, hE⟩ : ∃ E, chkE P A = E := ⟨_, rfl⟩
  have HE := hide hE
  have HR := hide (show roomE P A many = if E = 0 then (if many = 4096 then 6 else 0) else E by rw [roomE, hE])
  clear hE
  go_enter Tryz.func43, Tryz.ntmps43
  go_wp2_with fail
  refine (bcheck_any P A _ _ (w.alloc (.cells #[.slice ad1 P.length cap1, .slice ad2 A.length cap2] 30)) (H1.out.call (by (repeat' exact bel))) (H2.out.call (by (repeat' exact bel))) hl).mono ?_
  rintro e w1 ⟨rfl, hb1⟩
  rw [HE.out]
  have HB1 : Hid (Below w.heap.size w w1) := ww hb1
  clear hb1
  have hBel := HB1.out
  by_cases h0 : E = 0
  · subst h0
    by_cases hm : many = 4096
    · have HF := hide (show roomE P A many = 6 by rw [HR.out, if_pos rfl, if_pos hm])
      subst hm
      go_wp2
      go_ret
      exact ⟨ret_int HF.out.symm, by (repeat' exact bel)⟩
    · have HF := hide (show roomE P A many = 0 by rw [HR.out, if_pos rfl, if_neg hm])
      have hmb : (many == 4096) = false := by simpa using hm
      clear hm
      go_wp2
      go_ret
      exact ⟨ret_int HF.out.symm, by (repeat' exact bel)⟩
  · have HF := hide (show roomE P A many = E by rw [HR.out, if_neg h0])
    have hEb : (E != 0) = true := by simpa using h0
    clear h0
    go_wp2
    go_ret
    exact ⟨ret_int HF.out.symm, by (repeat' exact bel)⟩

def putE (P : List Po) (A : List Ac) (p : Po) : Int := if roomE P A P.length = 0 then daysE [p.day] else roomE P A P.length
set_option maxRecDepth 100000 in
set_option maxHeartbeats 3200000 in
theorem put_no (P : List Po) (A : List Ac) (p : Po) (v1 v2 : Value) (w : World) (h1 : Posts w v1 P) (h2 : Accs w v2 A) (hl : P.length ≤ 100000 ∧ A.length ≤ 100000) (hE : ¬ putE P A p = 0) :
    Calls Tryz.prog 11 #[.agg #[v1, v2], .agg #[.int .i64 p.day, .int .i64 p.n]] w fun e w' => e = .returned (.tuple #[.agg #[.slice none 0 0, .slice none 0 0], .int .i64 (putE P A p)]) ∧ Below w.heap.size w w' := by
  have H1 := hide h1
  have H2 := hide h2
  obtain ⟨ad1, cap1, rfl, _⟩ := h1
  obtain ⟨ad2, cap2, rfl, _⟩ := h2
  obtain ⟨E, hRE⟩ : ∃ E, roomE P A P.length = E := ⟨_, rfl⟩
  obtain ⟨D, hD⟩ : ∃ D, daysE [p.day] = D := ⟨_, rfl⟩
  have hPE : putE P A p = if E = 0 then D else E := by rw [putE, hRE, hD]
  rw [hPE] at hE
  have HRE := hide hRE
  have HD := hide hD
  have HPE := hide hPE
  clear hRE hD hPE
  go_enter Tryz.func11, Tryz.ntmps11
  go_wp2_with fail
  refine (broom_any P A _ _ P.length (((w.alloc (.cells #[.slice ad1 P.length cap1, .slice ad2 A.length cap2] 30)).alloc (.cells #[.int .i64 p.day, .int .i64 p.n] 32)).alloc (.cells #[.slice none 0 0, .slice none 0 0] 30)) (H1.out.call (by (repeat' exact bel))) (H2.out.call (by (repeat' exact bel))) hl).mono ?_
  rintro e w1 ⟨rfl, hb1⟩
  rw [HRE.out]
  have HS1 := hide (show BlkIs w1 (w.heap.size + 1) #[.int .i64 p.day, .int .i64 p.n] 32 ∧ BlkIs w1 (w.heap.size + 1 + 1) #[.slice none 0 0, .slice none 0 0] 30 by
    refine ⟨BlkIs.call (BlkIs.alloc ?_ _) hb1, BlkIs.call ?_ hb1⟩
    · simpa using BlkIs.new (w.alloc (.cells #[.slice ad1 P.length cap1, .slice ad2 A.length cap2] 30)) #[.int .i64 p.day, .int .i64 p.n] 32
    · simpa using BlkIs.new ((w.alloc (.cells #[.slice ad1 P.length cap1, .slice ad2 A.length cap2] 30)).alloc (.cells #[.int .i64 p.day, .int .i64 p.n] 32)) #[.slice none 0 0, .slice none 0 0] 30)
  have HB1 : Hid (Below w.heap.size w w1) := ww hb1
  clear hb1
  obtain ⟨⟨p0, p1⟩, _, _, hz1⟩ := blk_two' HS1.out.1
  obtain ⟨⟨r0, r1⟩, f0, f1, hz2⟩ := blk_two' HS1.out.2
  have hle := HB1.out.size
  have hBel := HB1.out
  by_cases h0 : E = 0
  · subst h0
    rw [if_pos rfl] at hE
    have HF := hide (show putE P A p = D by rw [HPE.out, if_pos rfl])
    have hDb : (D != 0) = true := by simpa using hE
    clear hE
    go_wp2_with fail
    refine (bdays_any w1.heap.size 0 1 [p.day] (w1.alloc (.cells #[.int .i64 p.day] 3)) (by simp) (fun i y hy => by
      match i, hy with
      | 0, hy => simp at hy; subst hy; simp) (by simp)).mono ?_
    rintro e w2 ⟨rfl, hb2⟩
    rw [HD.out]
    have HB2 : Hid (Below w1.heap.size w1 w2) := ww hb2
    clear hb2 p0 p1 r0 r1 f0 f1
    have HBW := hide (HB1.out.trans (HB2.out.mono HB1.out.size))
    obtain ⟨⟨r0, r1⟩, f0, f1, hz3⟩ := blk_two' (HS1.out.2.call HB2.out)
    have hBel2 := HBW.out
    go_wp2
    refine bodyPost_ret (v := .tuple #[.agg #[.slice none 0 0, .slice none 0 0], .int .i64 D]) (by simp (maxDischargeDepth := 9) [results, Tryz.results11, go_sem, r0, r1, f0, f1, hz3]) rfl ⟨by rw [HF.out], by (repeat' exact bel)⟩
  · have HF := hide (show putE P A p = E by rw [HPE.out, if_neg h0])
    have hEb : (E != 0) = true := by simpa using h0
    clear hE h0
    go_wp2
    refine bodyPost_ret (v := .tuple #[.agg #[.slice none 0 0, .slice none 0 0], .int .i64 E]) (by simp (maxDischargeDepth := 9) [results, Tryz.results11, go_sem, r0, r1, f0, f1, hz2]) rfl ⟨by rw [HF.out], by (repeat' exact bel)⟩
end Go.Proofs.YtjhhmeoibfdcmaaGreat
