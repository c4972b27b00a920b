/- The walk of BookAdds, whole. -/
import Derived.Test.YtjhhmeoibfdcmaaGreatLawBAdds
import Derived.Test.YtjhhmeoibfdcmaaGreatPutA
import Derived.Test.YtjhhmeoibfdcmaaGreatRowC
namespace Go.Proofs.YtjhhmeoibfdcmaaGreat
open Go.RowKit Qd
set_option linter.unusedSimpArgs false
set_option linter.unusedVariables false

theorem putOk_any (P : List Po) (A : List Ac) (p : Po) (v1 v2 : Value) (hv : v1 = .slice none 0 0 ∨ ∃ ad cap, v1 = .slice (some ad) P.length cap) (hv2 : v2 = .slice none 0 0 ∨ ∃ ad cap, v2 = .slice (some ad) A.length cap)
    (h1 : P.length ≤ 16) (h2 : A.length ≤ 16) (hc : chkE P A = 0) (hd : isB p.day = true) : PutOk P A p v1 v2 := by
  intro W hP hA
  refine (put_any P A p v1 v2 W hP hA hv hv2 (by omega) (by omega) hc hd).mono ?_
  rintro e w' ⟨⟨x, y, rfl, k1, k2⟩, hb⟩
  exact ⟨⟨x, y, rfl, ownP_posts k1, ownA_accs k2⟩, hb⟩
theorem bad_any (c : Cal) (hn : c.name.size ≤ 9223372036854775807) (u : Un) (v1 v2 : Value) (P : List Po) (A : List Ac) (p : Po) (w : World) (hP : Posts w v1 P) (hA : Accs w v2 A) (hp : ∀ x ∈ P, PoWf x) (ha : ∀ x ∈ A, AcWf x) (hl1 : P.length ≤ 9223372036854775807) (hl2 : A.length ≤ 9223372036854775807)
    (hv : v1 = .slice none 0 0 ∨ ∃ ad cap, v1 = .slice (some ad) P.length cap) (hv2 : v2 = .slice none 0 0 ∨ ∃ ad cap, v2 = .slice (some ad) A.length cap) (hpw : PoWf p) :
    Calls Tryz.prog 3 #[calV c, unitV u, .agg #[v1, v2], poV p] w fun e w' => e = .returned (.bool true) ∧ Below w.heap.size w w' :=
  bad_walk c hn u v1 v2 P A p w hP hA hp ha hl1 hl2 hpw (putOk_any P A p v1 v2 hv hv2)
end Go.Proofs.YtjhhmeoibfdcmaaGreat
