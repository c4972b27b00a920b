/- Lemmas. -/
import Derived.Deep.RegionLaw
import Derived.Test.YtpebkobmhhnojaaGreatDoorTp08
set_option linter.unusedSimpArgs false
set_option linter.unusedVariables false
set_option maxRecDepth 100000
set_option maxHeartbeats 12800000
namespace Go.Proofs.YtpebkobmhhnojaaGreatDoor
section
open Go.RowKit Qd
theorem o0 {w:World} {g:Nat} {a b c d:Value} (h:w.cell? ⟨g,0,none⟩=some a) (o:w.cell? ⟨g,1,none⟩=some b) (E:w.cell? ⟨g,2,none⟩=some c) (F:w.cell? ⟨g,3,none⟩=some d):∀ j u,[a,b,c,d][j]?=some u→w.cell? ⟨g,j,none⟩=some u:=by
 intro j u f
 match j,f with
 | 0,f=>simp at f;subst f;exact h
 | 1,f=>simp at f;subst f;exact o
 | 2,f=>simp at f;subst f;exact E
 | 3,f=>simp at f;subst f;exact F
theorem pH {w:World} {g:Nat} {a b c d e:Value} (h:w.cell? ⟨g,0,none⟩=some a) (o:w.cell? ⟨g,1,none⟩=some b) (E:w.cell? ⟨g,2,none⟩=some c) (F:w.cell? ⟨g,3,none⟩=some d) (G:w.cell? ⟨g,4,none⟩=some e):∀ j u,[a,b,c,d,e][j]?=some u→w.cell? ⟨g,j,none⟩=some u:=by
 intro j u f
 match j,f with
 | 0,f=>simp at f;subst f;exact h
 | 1,f=>simp at f;subst f;exact o
 | 2,f=>simp at f;subst f;exact E
 | 3,f=>simp at f;subst f;exact F
 | 4,f=>simp at f;subst f;exact G
theorem aD {w:World} {j:Nat} {o o':Obj} (h:w.heap[j]?=some o):(w.alloc o').heap[j]?=some o:=(Below.heap_alloc _ _ j (Array.getElem?_eq_some_iff.1 h).1).trans h
theorem gx {w w3 f:World} {T Y:TypeId} {sz n E N g i:Nat} {xs:List Value} {v:Value} {G:Array Value} (hT:Y≠T) (J:Below w w w3) (h4:Below E w3 f) (hk:qs T w3 f)
  (ho:f.ownsRow E T sz v n xs) (hg:f.heap[g]?=some (.cells G Y (0,0))) (aa:E≤w.heap.size) (V:N≤g) (U:N≤E) (u:Value) :
  Below N w (f.setCell ⟨g,i,none⟩ u)∧(f.setCell ⟨g,i,none⟩ u).ownsRow E T sz v n xs∧(f.setCell ⟨g,i,none⟩ u).heap[g]?=some (.cells (G.setIfInBounds i u) Y (0,0)) ∧
   (∀ (B:Nat) (H:Array Value) (t:TypeId),t≠T→B ∉ [g]→w.heap[B]?=some (.cells H t (0,0))→(f.setCell ⟨g,i,none⟩ u).heap[B]?=some (.cells H t (0,0))) ∧
   ∀ j,j<E→j ∉ [g]→(f.setCell ⟨g,i,none⟩ u).heap[j]?=w.heap[j]?:=by
 have o:∀ j,j≠g→(f.setCell ⟨g,i,none⟩ u).heap[j]?=f.heap[j]?:=fun j W=>Below.heap_setCell f ⟨g,i,none⟩ u j W
 refine ⟨((J.mono om).trans (h4.mono U)).setCell V u,⟨ho.1,?_⟩,aK hg i u,fun B H t ht O hc=>?_,fun j W O=>?_⟩
 ·rcases ho.2 with h1 | ⟨g',F,I,he,h2,h,h5⟩
  ·exact .inl h1
  ·refine .inr ⟨g',F,I,he,h2,?_,h5⟩
   rw [o g' (fun e=>?_)]
   ·exact h
   ·rw [e,hg] at h;cases h;exact hT rfl
 ·rw [o B (by simpa using O)]
  exact hk.2 _ _ _ ht ((J.block B (Array.getElem?_eq_some_iff.1 hc).1).trans hc)
 ·rw [o j (by simpa using O),h4.block j W]
  exact J.block j om
theorem bm {w:World} {R:Nat} {o:Obj} (h:w.heap[R]?=some o) (g i:Nat) (v:Value) (f:R≠g):(w.setCell ⟨g,i,none⟩ v).heap[R]?=some o:=(Below.heap_setCell w ⟨g,i,none⟩ v R f).trans h
theorem ae {w:World} {b:Nat} {f:Array Value} {t:TypeId} (h:w.heap[b]?=some (.cells f t (0,0))) (j:Nat):w.cell? ⟨b,j,none⟩=f[j]?:=by simp [World.cell?,h]
theorem aw {w:World} {b:Nat} {f:Array Value} {t:TypeId} (h:w.heap[b]?=some (.cells f t (0,0))) (j:Nat):w.frozen? ⟨b,j,none⟩=false:=by simp [World.frozen?,h]
theorem vF (R g B0:Nat) (b:Option Addr) (k G n d:Int) (s:ByteArray) (nm bw bl ks bx v:Value) (m:Nat) (xs:List Value) (w:World) (hk:k=1∨k=2) (bp:R≠g) (hm:m<8) (a4:B0≤w.heap.size)
  (N:Nat) (bk:N≤g) (bh:N≤B0)
  (h0:w.heap[R]?=some (.cells #[.pointer b,.pointer (some ⟨g,0,none⟩),d] 198 (0,0)))
  (h1:w.heap[g]?=some (.cells #[nm,bw,v,bl,ks,bx] 195 (0,0))) (bd:w.ownsRow B0 204 4 v m xs) :
  Calls Tryz.prog 105 #[.pointer (some ⟨R,0,none⟩),ck k G n s] w fun e w'=>e=.returned (.int .i64 0)∧Below N w w'∧∃ v,w'.ownsRow B0 204 4 v (m+1) (xs++[.bool (decide (k=2)),.int .i64 n,.string s,.int .i64 G]) ∧
   w'.heap[g]?=some (.cells #[nm,bw,v,bl,ks,bx] 195 (0,0)) ∧
   (∀ (B:Nat) (cs:Array Value) (t:TypeId),t≠204→B ∉ [g]→w.heap[B]?=some (.cells cs t (0,0))→w'.heap[B]?=some (.cells cs t (0,0)))∧∀ j,j<B0→j ∉ [g]→w'.heap[j]?=w.heap[j]?:=by
 obtain ⟨ad,cp,rfl⟩:=dN bd;have hR:R<w.heap.size:=(Array.getElem?_eq_some_iff.1 h0).1;have hg:g<w.heap.size:=(Array.getElem?_eq_some_iff.1 h1).1;have c1:w.cell? ⟨R,1,none⟩=some (.pointer (some ⟨g,0,none⟩)):=by simp [World.cell?,h0]
 have g2:w.cell? ⟨g,2,none⟩=some (.slice ad m cp):=by simp [World.cell?,h1]
 have k2:w.frozen? ⟨g,2,none⟩=false:=by simp [World.frozen?,h1]
 have bX:((m:Int)==8)=false:=ag;have H0:=hide h0;have H1:=hide h1;have HO:=hide bd;clear h0 h1 bd;rcases hk with rfl | rfl
 ·go_enter Tryz.func105,Tryz.ntmps105
  go_wp2_with fail;have bc:=hide (show (w.alloc (.cells #[.int .i64 1,G,n,.string s] 200)).drew.heap[g]?=_ from aD H1.out);have F:=hide (show (w.alloc (.cells #[.int .i64 1,G,n,.string s] 200)).drew.heap[R]?=_ from aD H0.out);have f:=hide (show (w.alloc (.cells #[.int .i64 1,G,n,.string s] 200)).drew.heap[w.heap.size]?=_ from heap_alloc_new w _);have bs:=hide (aO HO.out (show Below w w (w.alloc (.cells #[.int .i64 1,G,n,.string s] 200)).drew by (repeat' exact bel)));have bb:=hide (show Below w w (w.alloc (.cells #[.int .i64 1,G,n,.string s] 200)).drew by (repeat' exact bel));refine wp_region_held_drew (S:=fun w'=>w'.cell? ⟨R,1,none⟩=some (.pointer (some ⟨g,0,none⟩))∧w'.cell? ⟨w,0,none⟩=some (.int .i64 1)∧w'.cell? ⟨w,1,none⟩=some (.int .i64 G)∧w'.cell? ⟨w,2,none⟩=some (.int .i64 n)∧w'.cell? ⟨w,3,none⟩=some (.string s)) (by kernel_rfl) ⟨ae F.out 1,ae f.out 0,ae f.out 1,ae f.out 2,ae f.out 3⟩ (fun _=>?_);generalize (w.alloc (.cells #[.int .i64 1,G,n,.string s] 200)).drew=w2 at *;refine wpAnyH_take (i:=0) (v:=?_) rfl (by kernel_rfl) (by kernel_rfl) (by kernel_rfl) (fun _ _ _ h=>h) (Or.inl ⟨by rfl,?_⟩) (⟨ae F.out 1,ae f.out 0,ae f.out 1,ae f.out 2,ae f.out 3⟩) ?_
  rotate_left
  ·(intro I E;obtain ⟨J,O,U,V,W⟩:=E;go_simp;try with_reducible rfl)
  refine wpAnyH_take (i:=1) (v:=?_) rfl (by kernel_rfl) (by kernel_rfl) (by kernel_rfl) (fun _ _ _ h=>h) (Or.inl ⟨by rfl,?_⟩) (⟨ae F.out 1,ae f.out 0,ae f.out 1,ae f.out 2,ae f.out 3⟩) ?_
  rotate_left
  ·(intro I E;obtain ⟨J,O,U,V,W⟩:=E;go_simp;try with_reducible rfl)
  refine wpAnyH_take (i:=2) (v:=?_) rfl (by kernel_rfl) (by kernel_rfl) (by kernel_rfl) (fun _ _ _ h=>h) (Or.inl ⟨by rfl,?_⟩) (⟨ae F.out 1,ae f.out 0,ae f.out 1,ae f.out 2,ae f.out 3⟩) ?_
  rotate_left
  ·(intro I E;obtain ⟨J,O,U,V,W⟩:=E;go_simp;try with_reducible rfl)
  refine wpAnyH_take (i:=3) (v:=?_) rfl (by kernel_rfl) (by kernel_rfl) (by kernel_rfl) (fun _ _ _ h=>h) (Or.inl ⟨by rfl,?_⟩) (⟨ae F.out 1,ae f.out 0,ae f.out 1,ae f.out 2,ae f.out 3⟩) ?_
  rotate_left
  ·(intro I E;obtain ⟨J,O,U,V,W⟩:=E;go_simp;try with_reducible rfl)
  refine wpAnyH_take (i:=4) (v:=?_) rfl (by kernel_rfl) (by kernel_rfl) (by kernel_rfl) (fun _ _ _ h=>h) (Or.inl ⟨by rfl,?_⟩) (⟨ae F.out 1,ae f.out 0,ae f.out 1,ae f.out 2,ae f.out 3⟩) ?_
  rotate_left
  ·(intro I E;obtain ⟨J,O,U,V,W⟩:=E;go_simp;try with_reducible rfl)
  refine wpAnyH_take (i:=5) (v:=?_) rfl (by kernel_rfl) (by kernel_rfl) (by kernel_rfl) (fun _ _ _ h=>h) (Or.inl ⟨by rfl,?_⟩) (⟨ae F.out 1,ae f.out 0,ae f.out 1,ae f.out 2,ae f.out 3⟩) ?_
  rotate_left
  ·(intro I E;obtain ⟨J,O,U,V,W⟩:=E;go_simp;try with_reducible rfl)
  refine wpAnyH_take (i:=6) (v:=?_) rfl (by kernel_rfl) (by kernel_rfl) (by kernel_rfl) (fun _ _ _ h=>h) (Or.inl ⟨by rfl,?_⟩) (⟨ae F.out 1,ae f.out 0,ae f.out 1,ae f.out 2,ae f.out 3⟩) ?_
  rotate_left
  ·(intro I E;obtain ⟨J,O,U,V,W⟩:=E;go_simp;try with_reducible rfl)
  refine wpAnyH_take (i:=7) (v:=?_) rfl (by kernel_rfl) (by kernel_rfl) (by kernel_rfl) (fun _ _ _ h=>h) (Or.inl ⟨by rfl,?_⟩) (⟨ae F.out 1,ae f.out 0,ae f.out 1,ae f.out 2,ae f.out 3⟩) ?_
  rotate_left
  ·(intro I E;obtain ⟨J,O,U,V,W⟩:=E;go_simp;try with_reducible rfl)
  refine wpAnyH_take (i:=8) (v:=?_) rfl (by kernel_rfl) (by kernel_rfl) (by kernel_rfl) (fun _ _ _ h=>h) (Or.inl ⟨by rfl,?_⟩) (⟨ae F.out 1,ae f.out 0,ae f.out 1,ae f.out 2,ae f.out 3⟩) ?_
  rotate_left
  ·(intro I E;obtain ⟨J,O,U,V,W⟩:=E;go_simp;try with_reducible rfl)
  refine wpAnyH_take (i:=9) (v:=?_) rfl (by kernel_rfl) (by kernel_rfl) (by kernel_rfl) (fun _ _ _ h=>h) (Or.inl ⟨by rfl,?_⟩) (⟨ae F.out 1,ae f.out 0,ae f.out 1,ae f.out 2,ae f.out 3⟩) ?_
  rotate_left
  ·(intro I E;obtain ⟨J,O,U,V,W⟩:=E;go_simp;try with_reducible rfl)
  refine wpAnyH_take (i:=10) (v:=?_) rfl (by kernel_rfl) (by kernel_rfl) (by kernel_rfl) (fun _ _ _ h=>h) (Or.inl ⟨by rfl,?_⟩) (⟨ae F.out 1,ae f.out 0,ae f.out 1,ae f.out 2,ae f.out 3⟩) ?_
  rotate_left
  ·(intro I E;obtain ⟨J,O,U,V,W⟩:=E;go_simp;try with_reducible rfl)
  refine wpAnyH_take (i:=12) (v:=?_) rfl (by kernel_rfl) (by kernel_rfl) (by kernel_rfl) (fun _ _ _ h=>h) (Or.inl ⟨by rfl,?_⟩) (⟨ae F.out 1,ae f.out 0,ae f.out 1,ae f.out 2,ae f.out 3⟩) ?_
  rotate_left
  ·(intro I E;obtain ⟨J,O,U,V,W⟩:=E;go_simp;try with_reducible rfl)
  refine wpAnyH_take (i:=13) (v:=?_) rfl (by kernel_rfl) (by kernel_rfl) (by kernel_rfl) (fun _ _ _ h=>h) (Or.inl ⟨by rfl,?_⟩) (⟨ae F.out 1,ae f.out 0,ae f.out 1,ae f.out 2,ae f.out 3⟩) ?_
  rotate_left
  ·(intro I E;obtain ⟨J,O,U,V,W⟩:=E;go_simp;try with_reducible rfl)
  refine wpAnyH_take (i:=14) (v:=?_) rfl (by kernel_rfl) (by kernel_rfl) (by kernel_rfl) (fun _ _ _ h=>h) (Or.inl ⟨by rfl,?_⟩) (⟨ae F.out 1,ae f.out 0,ae f.out 1,ae f.out 2,ae f.out 3⟩) ?_
  rotate_left
  ·(intro I E;obtain ⟨J,O,U,V,W⟩:=E;go_simp;try with_reducible rfl)
  refine wpAnyH_take (i:=15) (v:=?_) rfl (by kernel_rfl) (by kernel_rfl) (by kernel_rfl) (fun _ _ _ h=>h) (Or.inl ⟨by rfl,?_⟩) (⟨ae F.out 1,ae f.out 0,ae f.out 1,ae f.out 2,ae f.out 3⟩) ?_
  rotate_left
  ·(intro I E;obtain ⟨J,O,U,V,W⟩:=E;go_simp;try with_reducible rfl)
  refine wpAnyH_take (i:=16) (v:=?_) rfl (by kernel_rfl) (by kernel_rfl) (by kernel_rfl) (fun _ _ _ h=>h) (Or.inl ⟨by rfl,?_⟩) (⟨ae F.out 1,ae f.out 0,ae f.out 1,ae f.out 2,ae f.out 3⟩) ?_
  rotate_left
  ·(intro I E;obtain ⟨J,O,U,V,W⟩:=E;go_simp;try with_reducible rfl)
  refine wpAnyH_take (i:=17) (v:=?_) rfl (by kernel_rfl) (by kernel_rfl) (by kernel_rfl) (fun _ _ _ h=>h) (Or.inl ⟨by rfl,?_⟩) (⟨ae F.out 1,ae f.out 0,ae f.out 1,ae f.out 2,ae f.out 3⟩) ?_
  rotate_left
  ·(intro I E;obtain ⟨J,O,U,V,W⟩:=E;go_simp;try with_reducible rfl)
  refine wpAnyH_take (i:=18) (v:=?_) rfl (by kernel_rfl) (by kernel_rfl) (by kernel_rfl) (fun _ _ _ h=>h) (Or.inl ⟨by rfl,?_⟩) (⟨ae F.out 1,ae f.out 0,ae f.out 1,ae f.out 2,ae f.out 3⟩) ?_
  rotate_left
  ·(intro I E;obtain ⟨J,O,U,V,W⟩:=E;go_simp;try with_reducible rfl)
  refine wpAnyH_take (i:=19) (v:=?_) rfl (by kernel_rfl) (by kernel_rfl) (by kernel_rfl) (fun _ _ _ h=>h) (Or.inl ⟨by rfl,?_⟩) (⟨ae F.out 1,ae f.out 0,ae f.out 1,ae f.out 2,ae f.out 3⟩) ?_
  rotate_left
  ·(intro I E;obtain ⟨J,O,U,V,W⟩:=E;go_simp;try with_reducible rfl)
  refine wpAnyH_take (i:=20) (v:=?_) rfl (by kernel_rfl) (by kernel_rfl) (by kernel_rfl) (fun _ _ _ h=>h) (Or.inl ⟨by rfl,?_⟩) (⟨ae F.out 1,ae f.out 0,ae f.out 1,ae f.out 2,ae f.out 3⟩) ?_
  rotate_left
  ·(intro I E;obtain ⟨J,O,U,V,W⟩:=E;go_simp;try with_reducible rfl)
  refine wpAnyH_take (i:=21) (v:=?_) rfl (by kernel_rfl) (by kernel_rfl) (by kernel_rfl) (fun _ _ _ h=>h) (Or.inl ⟨by rfl,?_⟩) (⟨ae F.out 1,ae f.out 0,ae f.out 1,ae f.out 2,ae f.out 3⟩) ?_
  rotate_left
  ·(intro I E;obtain ⟨J,O,U,V,W⟩:=E;go_simp;try with_reducible rfl)
  have a3:=hide (aD (o':=(.cells #[.bool false,n,.string s,G] 204)) bc.out);have aB:=hide (aD (o':=(.cells #[.bool false,n,.string s,G] 204)) F.out);have H:=hide (aD (o':=(.cells #[.bool false,n,.string s,G] 204)) f.out);have aq:=hide (heap_alloc_new w2 (.cells #[.bool false,n,.string s,G] 204));have a8:=hide (aO bs.out (show Below w2 w2 (w2.alloc (.cells #[.bool false,n,.string s,G] 204)) by (repeat' exact bel)));have a0:=hide (show Below w w (w2.alloc (.cells #[.bool false,n,.string s,G] 204)) from bb.out.alloc bb.out.size _);obtain ⟨w3,ba⟩:∃ w3,w2.alloc (.cells #[.bool false,n,.string s,G] 204)=w3:=⟨_,rfl⟩;rw [ba] at a3 aB H aq a8 a0;have ga:w2.cell? ⟨g,2,none⟩=some (.slice ad m cp):=ae bc.out 2;have gb:w3.cell? ⟨g,2,none⟩=some (.slice ad m cp):=ae a3.out 2;have ba:=hide ba;refine wpAnyH_ready (rs:=[11,22]) (by kernel_rfl) af ?_;refine AllReadyH.cons rfl (fun K hK=>?_) (AllReadyH.cons rfl (fun K hK=>?_) AllReadyH.nil)
  ·go_simp
   refine hK.out _ _ (⟨ae F.out 1,ae f.out 0,ae f.out 1,ae f.out 2,ae f.out 3⟩) (fun _=>?_);clear hK K;refine wpAnyH_ready (rs:=[22]) (by kernel_rfl) af ?_;refine AllReadyH.cons rfl (fun K hK=>?_) AllReadyH.nil;go_simp;refine hK.out _ _ (⟨ae aB.out 1,ae H.out 0,ae H.out 1,ae H.out 2,ae H.out 3⟩) (fun _=>?_);clear hK K;refine wpAnyH_ready (rs:=[23]) (by kernel_rfl) af ?_;refine AllReadyH.cons rfl (fun K hK=>?_) AllReadyH.nil;refine eV w3 rfl (.tmp 31) (.tmp 42) 152 204 rfl _ 4 40 lX Tryz.underlying152 rfl aj aj B0 (.slice ad m cp) m xs (by simp [Act.eval,Act.put]) a8.out w2.heap.size [.bool false,.int .i64 n,.string s,.int .i64 G] (by simp [Act.eval,Act.put]) rfl (o0 (ae aq.out 0) (ae aq.out 1) (ae aq.out 2) (ae aq.out 3)) (by intro u hu;simp at hu;rcases hu with rfl | rfl | rfl | rfl <;> rfl) om (Nat.le_trans a4 a0.out.size) ?_;intro v' w4 aA a2 ah;obtain ⟨ab,ac,rfl⟩:=dN aA;have al:=hide (ah.2 g _ _ aj a3.out);have Y:=hide (ah.2 R _ _ aj aB.out);have o:=hide (ah.2 _ _ _ aj H.out);have a9:=hide aA;have a5:=hide a2;have a7:=hide ah;clear aA a2 ah;refine hK.out _ _ (⟨ae Y.out 1,ae o.out 0,ae o.out 1,ae o.out 2,ae o.out 3⟩) (fun _=>?_);clear hK K;refine wpAnyH_take (i:=24) (v:=?_) rfl (by kernel_rfl) (by kernel_rfl) (by kernel_rfl) (fun _ _ _ h=>h) (Or.inl ⟨by rfl,?_⟩) (⟨ae Y.out 1,ae o.out 0,ae o.out 1,ae o.out 2,ae o.out 3⟩) ?_
   rotate_left
   ·(intro I E;obtain ⟨J,O,U,V,W⟩:=E;go_simp;try with_reducible rfl)
   refine wpAnyH_take (i:=25) (v:=?_) rfl (by kernel_rfl) (by kernel_rfl) (by kernel_rfl) (fun _ _ _ h=>h) (Or.inl ⟨by rfl,?_⟩) (⟨ae Y.out 1,ae o.out 0,ae o.out 1,ae o.out 2,ae o.out 3⟩) ?_
   rotate_left
   ·(intro I E;obtain ⟨J,O,U,V,W⟩:=E;go_simp;try with_reducible rfl)
   refine wpAnyH_take (i:=26) (v:=?_) rfl (by kernel_rfl) (by kernel_rfl) (by kernel_rfl) (fun _ _ _ h=>h) (Or.inl ⟨by rfl,?_⟩) (⟨ae Y.out 1,ae o.out 0,ae o.out 1,ae o.out 2,ae o.out 3⟩) ?_
   rotate_left
   ·(intro I E;obtain ⟨J,O,U,V,W⟩:=E;go_simp;try with_reducible rfl)
   have bt:w4.cell? ⟨g,2,none⟩=some (.slice ad m cp):=ae al.out 2;have q2:w4.frozen? ⟨g,2,none⟩=false:=aw al.out 2;refine wpAnyH_ready (rs:=[27]) (by kernel_rfl) af ?_;refine AllReadyH.cons rfl (fun K hK=>?_) AllReadyH.nil;go_simp;obtain ⟨w5,ao⟩:∃ w5,w4.setCell ⟨g,2,none⟩ (.slice ab (m+1) ac)=w5:=⟨_,rfl⟩;have a1:=hide (bm (R:=R) Y.out g 2 (.slice ab (m+1) ac) bp);have aa:=hide (bm (R:=w.heap.size) o.out g 2 (.slice ab (m+1) ac) om);have a6:=hide (aK al.out 2 (.slice ab (m+1) ac));rw [ao] at a1 aa a6 ⊢;have ao:=hide ao;refine hK.out _ _ (⟨ae a1.out 1,ae aa.out 0,ae aa.out 1,ae aa.out 2,ae aa.out 3⟩) (fun _=>?_);clear hK K;refine wpAnyH_done (by kernel_rfl) ?_ _;go_simp;go_wp2;go_ret;rw [← ao.out];obtain ⟨q1,q2,q3,q4,q5⟩:=gx (i:=2) (N:=N) aj a0.out a5.out a7.out a9.out al.out a4 bk bh (.slice ab (m+1) ac);exact ⟨rfl,q1,_,q2,q3,q4,q5⟩
  ·go_simp
   refine hK.out _ _ (⟨ae aB.out 1,ae H.out 0,ae H.out 1,ae H.out 2,ae H.out 3⟩) (fun _=>?_);clear hK K;refine wpAnyH_ready (rs:=[11]) (by kernel_rfl) af ?_;refine AllReadyH.cons rfl (fun K hK=>?_) AllReadyH.nil;go_simp;refine hK.out _ _ (⟨ae aB.out 1,ae H.out 0,ae H.out 1,ae H.out 2,ae H.out 3⟩) (fun _=>?_);clear hK K;refine wpAnyH_ready (rs:=[23]) (by kernel_rfl) af ?_;refine AllReadyH.cons rfl (fun K hK=>?_) AllReadyH.nil;refine eV w3 rfl (.tmp 31) (.tmp 42) 152 204 rfl _ 4 40 lX Tryz.underlying152 rfl aj aj B0 (.slice ad m cp) m xs (by simp [Act.eval,Act.put]) a8.out w2.heap.size [.bool false,.int .i64 n,.string s,.int .i64 G] (by simp [Act.eval,Act.put]) rfl (o0 (ae aq.out 0) (ae aq.out 1) (ae aq.out 2) (ae aq.out 3)) (by intro u hu;simp at hu;rcases hu with rfl | rfl | rfl | rfl <;> rfl) om (Nat.le_trans a4 a0.out.size) ?_;intro v' w4 aA a2 ah;obtain ⟨ab,ac,rfl⟩:=dN aA;have al:=hide (ah.2 g _ _ aj a3.out);have Y:=hide (ah.2 R _ _ aj aB.out);have o:=hide (ah.2 _ _ _ aj H.out);have a9:=hide aA;have a5:=hide a2;have a7:=hide ah;clear aA a2 ah;refine hK.out _ _ (⟨ae Y.out 1,ae o.out 0,ae o.out 1,ae o.out 2,ae o.out 3⟩) (fun _=>?_);clear hK K;refine wpAnyH_take (i:=24) (v:=?_) rfl (by kernel_rfl) (by kernel_rfl) (by kernel_rfl) (fun _ _ _ h=>h) (Or.inl ⟨by rfl,?_⟩) (⟨ae Y.out 1,ae o.out 0,ae o.out 1,ae o.out 2,ae o.out 3⟩) ?_
   rotate_left
   ·(intro I E;obtain ⟨J,O,U,V,W⟩:=E;go_simp;try with_reducible rfl)
   refine wpAnyH_take (i:=25) (v:=?_) rfl (by kernel_rfl) (by kernel_rfl) (by kernel_rfl) (fun _ _ _ h=>h) (Or.inl ⟨by rfl,?_⟩) (⟨ae Y.out 1,ae o.out 0,ae o.out 1,ae o.out 2,ae o.out 3⟩) ?_
   rotate_left
   ·(intro I E;obtain ⟨J,O,U,V,W⟩:=E;go_simp;try with_reducible rfl)
   refine wpAnyH_take (i:=26) (v:=?_) rfl (by kernel_rfl) (by kernel_rfl) (by kernel_rfl) (fun _ _ _ h=>h) (Or.inl ⟨by rfl,?_⟩) (⟨ae Y.out 1,ae o.out 0,ae o.out 1,ae o.out 2,ae o.out 3⟩) ?_
   rotate_left
   ·(intro I E;obtain ⟨J,O,U,V,W⟩:=E;go_simp;try with_reducible rfl)
   have bt:w4.cell? ⟨g,2,none⟩=some (.slice ad m cp):=ae al.out 2;have q2:w4.frozen? ⟨g,2,none⟩=false:=aw al.out 2;refine wpAnyH_ready (rs:=[27]) (by kernel_rfl) af ?_;refine AllReadyH.cons rfl (fun K hK=>?_) AllReadyH.nil;go_simp;obtain ⟨w5,ao⟩:∃ w5,w4.setCell ⟨g,2,none⟩ (.slice ab (m+1) ac)=w5:=⟨_,rfl⟩;have a1:=hide (bm (R:=R) Y.out g 2 (.slice ab (m+1) ac) bp);have aa:=hide (bm (R:=w.heap.size) o.out g 2 (.slice ab (m+1) ac) om);have a6:=hide (aK al.out 2 (.slice ab (m+1) ac));rw [ao] at a1 aa a6 ⊢;have ao:=hide ao;refine hK.out _ _ (⟨ae a1.out 1,ae aa.out 0,ae aa.out 1,ae aa.out 2,ae aa.out 3⟩) (fun _=>?_);clear hK K;refine wpAnyH_done (by kernel_rfl) ?_ _;go_simp;go_wp2;go_ret;rw [← ao.out];obtain ⟨q1,q2,q3,q4,q5⟩:=gx (i:=2) (N:=N) aj a0.out a5.out a7.out a9.out al.out a4 bk bh (.slice ab (m+1) ac);exact ⟨rfl,q1,_,q2,q3,q4,q5⟩
 ·go_enter Tryz.func105,Tryz.ntmps105
  go_wp2_with fail;have bc:=hide (show (w.alloc (.cells #[.int .i64 2,G,n,.string s] 200)).drew.heap[g]?=_ from aD H1.out);have F:=hide (show (w.alloc (.cells #[.int .i64 2,G,n,.string s] 200)).drew.heap[R]?=_ from aD H0.out);have f:=hide (show (w.alloc (.cells #[.int .i64 2,G,n,.string s] 200)).drew.heap[w.heap.size]?=_ from heap_alloc_new w _);have bs:=hide (aO HO.out (show Below w w (w.alloc (.cells #[.int .i64 2,G,n,.string s] 200)).drew by (repeat' exact bel)));have bb:=hide (show Below w w (w.alloc (.cells #[.int .i64 2,G,n,.string s] 200)).drew by (repeat' exact bel));refine wp_region_held_drew (S:=fun w'=>w'.cell? ⟨R,1,none⟩=some (.pointer (some ⟨g,0,none⟩))∧w'.cell? ⟨w,0,none⟩=some (.int .i64 2)∧w'.cell? ⟨w,1,none⟩=some (.int .i64 G)∧w'.cell? ⟨w,2,none⟩=some (.int .i64 n)∧w'.cell? ⟨w,3,none⟩=some (.string s)) (by kernel_rfl) ⟨ae F.out 1,ae f.out 0,ae f.out 1,ae f.out 2,ae f.out 3⟩ (fun _=>?_);generalize (w.alloc (.cells #[.int .i64 2,G,n,.string s] 200)).drew=w2 at *;refine wpAnyH_take (i:=0) (v:=?_) rfl (by kernel_rfl) (by kernel_rfl) (by kernel_rfl) (fun _ _ _ h=>h) (Or.inl ⟨by rfl,?_⟩) (⟨ae F.out 1,ae f.out 0,ae f.out 1,ae f.out 2,ae f.out 3⟩) ?_
  rotate_left
  ·(intro I E;obtain ⟨J,O,U,V,W⟩:=E;go_simp;try with_reducible rfl)
  refine wpAnyH_take (i:=1) (v:=?_) rfl (by kernel_rfl) (by kernel_rfl) (by kernel_rfl) (fun _ _ _ h=>h) (Or.inl ⟨by rfl,?_⟩) (⟨ae F.out 1,ae f.out 0,ae f.out 1,ae f.out 2,ae f.out 3⟩) ?_
  rotate_left
  ·(intro I E;obtain ⟨J,O,U,V,W⟩:=E;go_simp;try with_reducible rfl)
  refine wpAnyH_take (i:=2) (v:=?_) rfl (by kernel_rfl) (by kernel_rfl) (by kernel_rfl) (fun _ _ _ h=>h) (Or.inl ⟨by rfl,?_⟩) (⟨ae F.out 1,ae f.out 0,ae f.out 1,ae f.out 2,ae f.out 3⟩) ?_
  rotate_left
  ·(intro I E;obtain ⟨J,O,U,V,W⟩:=E;go_simp;try with_reducible rfl)
  refine wpAnyH_take (i:=3) (v:=?_) rfl (by kernel_rfl) (by kernel_rfl) (by kernel_rfl) (fun _ _ _ h=>h) (Or.inl ⟨by rfl,?_⟩) (⟨ae F.out 1,ae f.out 0,ae f.out 1,ae f.out 2,ae f.out 3⟩) ?_
  rotate_left
  ·(intro I E;obtain ⟨J,O,U,V,W⟩:=E;go_simp;try with_reducible rfl)
  refine wpAnyH_take (i:=4) (v:=?_) rfl (by kernel_rfl) (by kernel_rfl) (by kernel_rfl) (fun _ _ _ h=>h) (Or.inl ⟨by rfl,?_⟩) (⟨ae F.out 1,ae f.out 0,ae f.out 1,ae f.out 2,ae f.out 3⟩) ?_
  rotate_left
  ·(intro I E;obtain ⟨J,O,U,V,W⟩:=E;go_simp;try with_reducible rfl)
  refine wpAnyH_take (i:=5) (v:=?_) rfl (by kernel_rfl) (by kernel_rfl) (by kernel_rfl) (fun _ _ _ h=>h) (Or.inl ⟨by rfl,?_⟩) (⟨ae F.out 1,ae f.out 0,ae f.out 1,ae f.out 2,ae f.out 3⟩) ?_
  rotate_left
  ·(intro I E;obtain ⟨J,O,U,V,W⟩:=E;go_simp;try with_reducible rfl)
  refine wpAnyH_take (i:=6) (v:=?_) rfl (by kernel_rfl) (by kernel_rfl) (by kernel_rfl) (fun _ _ _ h=>h) (Or.inl ⟨by rfl,?_⟩) (⟨ae F.out 1,ae f.out 0,ae f.out 1,ae f.out 2,ae f.out 3⟩) ?_
  rotate_left
  ·(intro I E;obtain ⟨J,O,U,V,W⟩:=E;go_simp;try with_reducible rfl)
  refine wpAnyH_take (i:=7) (v:=?_) rfl (by kernel_rfl) (by kernel_rfl) (by kernel_rfl) (fun _ _ _ h=>h) (Or.inl ⟨by rfl,?_⟩) (⟨ae F.out 1,ae f.out 0,ae f.out 1,ae f.out 2,ae f.out 3⟩) ?_
  rotate_left
  ·(intro I E;obtain ⟨J,O,U,V,W⟩:=E;go_simp;try with_reducible rfl)
  refine wpAnyH_take (i:=8) (v:=?_) rfl (by kernel_rfl) (by kernel_rfl) (by kernel_rfl) (fun _ _ _ h=>h) (Or.inl ⟨by rfl,?_⟩) (⟨ae F.out 1,ae f.out 0,ae f.out 1,ae f.out 2,ae f.out 3⟩) ?_
  rotate_left
  ·(intro I E;obtain ⟨J,O,U,V,W⟩:=E;go_simp;try with_reducible rfl)
  refine wpAnyH_take (i:=9) (v:=?_) rfl (by kernel_rfl) (by kernel_rfl) (by kernel_rfl) (fun _ _ _ h=>h) (Or.inl ⟨by rfl,?_⟩) (⟨ae F.out 1,ae f.out 0,ae f.out 1,ae f.out 2,ae f.out 3⟩) ?_
  rotate_left
  ·(intro I E;obtain ⟨J,O,U,V,W⟩:=E;go_simp;try with_reducible rfl)
  refine wpAnyH_take (i:=10) (v:=?_) rfl (by kernel_rfl) (by kernel_rfl) (by kernel_rfl) (fun _ _ _ h=>h) (Or.inl ⟨by rfl,?_⟩) (⟨ae F.out 1,ae f.out 0,ae f.out 1,ae f.out 2,ae f.out 3⟩) ?_
  rotate_left
  ·(intro I E;obtain ⟨J,O,U,V,W⟩:=E;go_simp;try with_reducible rfl)
  refine wpAnyH_take (i:=12) (v:=?_) rfl (by kernel_rfl) (by kernel_rfl) (by kernel_rfl) (fun _ _ _ h=>h) (Or.inl ⟨by rfl,?_⟩) (⟨ae F.out 1,ae f.out 0,ae f.out 1,ae f.out 2,ae f.out 3⟩) ?_
  rotate_left
  ·(intro I E;obtain ⟨J,O,U,V,W⟩:=E;go_simp;try with_reducible rfl)
  refine wpAnyH_take (i:=13) (v:=?_) rfl (by kernel_rfl) (by kernel_rfl) (by kernel_rfl) (fun _ _ _ h=>h) (Or.inl ⟨by rfl,?_⟩) (⟨ae F.out 1,ae f.out 0,ae f.out 1,ae f.out 2,ae f.out 3⟩) ?_
  rotate_left
  ·(intro I E;obtain ⟨J,O,U,V,W⟩:=E;go_simp;try with_reducible rfl)
  refine wpAnyH_take (i:=14) (v:=?_) rfl (by kernel_rfl) (by kernel_rfl) (by kernel_rfl) (fun _ _ _ h=>h) (Or.inl ⟨by rfl,?_⟩) (⟨ae F.out 1,ae f.out 0,ae f.out 1,ae f.out 2,ae f.out 3⟩) ?_
  rotate_left
  ·(intro I E;obtain ⟨J,O,U,V,W⟩:=E;go_simp;try with_reducible rfl)
  refine wpAnyH_take (i:=15) (v:=?_) rfl (by kernel_rfl) (by kernel_rfl) (by kernel_rfl) (fun _ _ _ h=>h) (Or.inl ⟨by rfl,?_⟩) (⟨ae F.out 1,ae f.out 0,ae f.out 1,ae f.out 2,ae f.out 3⟩) ?_
  rotate_left
  ·(intro I E;obtain ⟨J,O,U,V,W⟩:=E;go_simp;try with_reducible rfl)
  refine wpAnyH_take (i:=16) (v:=?_) rfl (by kernel_rfl) (by kernel_rfl) (by kernel_rfl) (fun _ _ _ h=>h) (Or.inl ⟨by rfl,?_⟩) (⟨ae F.out 1,ae f.out 0,ae f.out 1,ae f.out 2,ae f.out 3⟩) ?_
  rotate_left
  ·(intro I E;obtain ⟨J,O,U,V,W⟩:=E;go_simp;try with_reducible rfl)
  refine wpAnyH_take (i:=17) (v:=?_) rfl (by kernel_rfl) (by kernel_rfl) (by kernel_rfl) (fun _ _ _ h=>h) (Or.inl ⟨by rfl,?_⟩) (⟨ae F.out 1,ae f.out 0,ae f.out 1,ae f.out 2,ae f.out 3⟩) ?_
  rotate_left
  ·(intro I E;obtain ⟨J,O,U,V,W⟩:=E;go_simp;try with_reducible rfl)
  refine wpAnyH_take (i:=18) (v:=?_) rfl (by kernel_rfl) (by kernel_rfl) (by kernel_rfl) (fun _ _ _ h=>h) (Or.inl ⟨by rfl,?_⟩) (⟨ae F.out 1,ae f.out 0,ae f.out 1,ae f.out 2,ae f.out 3⟩) ?_
  rotate_left
  ·(intro I E;obtain ⟨J,O,U,V,W⟩:=E;go_simp;try with_reducible rfl)
  refine wpAnyH_take (i:=19) (v:=?_) rfl (by kernel_rfl) (by kernel_rfl) (by kernel_rfl) (fun _ _ _ h=>h) (Or.inl ⟨by rfl,?_⟩) (⟨ae F.out 1,ae f.out 0,ae f.out 1,ae f.out 2,ae f.out 3⟩) ?_
  rotate_left
  ·(intro I E;obtain ⟨J,O,U,V,W⟩:=E;go_simp;try with_reducible rfl)
  refine wpAnyH_take (i:=20) (v:=?_) rfl (by kernel_rfl) (by kernel_rfl) (by kernel_rfl) (fun _ _ _ h=>h) (Or.inl ⟨by rfl,?_⟩) (⟨ae F.out 1,ae f.out 0,ae f.out 1,ae f.out 2,ae f.out 3⟩) ?_
  rotate_left
  ·(intro I E;obtain ⟨J,O,U,V,W⟩:=E;go_simp;try with_reducible rfl)
  refine wpAnyH_take (i:=21) (v:=?_) rfl (by kernel_rfl) (by kernel_rfl) (by kernel_rfl) (fun _ _ _ h=>h) (Or.inl ⟨by rfl,?_⟩) (⟨ae F.out 1,ae f.out 0,ae f.out 1,ae f.out 2,ae f.out 3⟩) ?_
  rotate_left
  ·(intro I E;obtain ⟨J,O,U,V,W⟩:=E;go_simp;try with_reducible rfl)
  have a3:=hide (aD (o':=(.cells #[.bool true,n,.string s,G] 204)) bc.out);have aB:=hide (aD (o':=(.cells #[.bool true,n,.string s,G] 204)) F.out);have H:=hide (aD (o':=(.cells #[.bool true,n,.string s,G] 204)) f.out);have aq:=hide (heap_alloc_new w2 (.cells #[.bool true,n,.string s,G] 204));have a8:=hide (aO bs.out (show Below w2 w2 (w2.alloc (.cells #[.bool true,n,.string s,G] 204)) by (repeat' exact bel)));have a0:=hide (show Below w w (w2.alloc (.cells #[.bool true,n,.string s,G] 204)) from bb.out.alloc bb.out.size _);obtain ⟨w3,ba⟩:∃ w3,w2.alloc (.cells #[.bool true,n,.string s,G] 204)=w3:=⟨_,rfl⟩;rw [ba] at a3 aB H aq a8 a0;have ga:w2.cell? ⟨g,2,none⟩=some (.slice ad m cp):=ae bc.out 2;have gb:w3.cell? ⟨g,2,none⟩=some (.slice ad m cp):=ae a3.out 2;have ba:=hide ba;refine wpAnyH_ready (rs:=[11,22]) (by kernel_rfl) af ?_;refine AllReadyH.cons rfl (fun K hK=>?_) (AllReadyH.cons rfl (fun K hK=>?_) AllReadyH.nil)
  ·go_simp
   refine hK.out _ _ (⟨ae F.out 1,ae f.out 0,ae f.out 1,ae f.out 2,ae f.out 3⟩) (fun _=>?_);clear hK K;refine wpAnyH_ready (rs:=[22]) (by kernel_rfl) af ?_;refine AllReadyH.cons rfl (fun K hK=>?_) AllReadyH.nil;go_simp;refine hK.out _ _ (⟨ae aB.out 1,ae H.out 0,ae H.out 1,ae H.out 2,ae H.out 3⟩) (fun _=>?_);clear hK K;refine wpAnyH_ready (rs:=[23]) (by kernel_rfl) af ?_;refine AllReadyH.cons rfl (fun K hK=>?_) AllReadyH.nil;refine eV w3 rfl (.tmp 31) (.tmp 42) 152 204 rfl _ 4 40 lX Tryz.underlying152 rfl aj aj B0 (.slice ad m cp) m xs (by simp [Act.eval,Act.put]) a8.out w2.heap.size [.bool true,.int .i64 n,.string s,.int .i64 G] (by simp [Act.eval,Act.put]) rfl (o0 (ae aq.out 0) (ae aq.out 1) (ae aq.out 2) (ae aq.out 3)) (by intro u hu;simp at hu;rcases hu with rfl | rfl | rfl | rfl <;> rfl) om (Nat.le_trans a4 a0.out.size) ?_;intro v' w4 aA a2 ah;obtain ⟨ab,ac,rfl⟩:=dN aA;have al:=hide (ah.2 g _ _ aj a3.out);have Y:=hide (ah.2 R _ _ aj aB.out);have o:=hide (ah.2 _ _ _ aj H.out);have a9:=hide aA;have a5:=hide a2;have a7:=hide ah;clear aA a2 ah;refine hK.out _ _ (⟨ae Y.out 1,ae o.out 0,ae o.out 1,ae o.out 2,ae o.out 3⟩) (fun _=>?_);clear hK K;refine wpAnyH_take (i:=24) (v:=?_) rfl (by kernel_rfl) (by kernel_rfl) (by kernel_rfl) (fun _ _ _ h=>h) (Or.inl ⟨by rfl,?_⟩) (⟨ae Y.out 1,ae o.out 0,ae o.out 1,ae o.out 2,ae o.out 3⟩) ?_
   rotate_left
   ·(intro I E;obtain ⟨J,O,U,V,W⟩:=E;go_simp;try with_reducible rfl)
   refine wpAnyH_take (i:=25) (v:=?_) rfl (by kernel_rfl) (by kernel_rfl) (by kernel_rfl) (fun _ _ _ h=>h) (Or.inl ⟨by rfl,?_⟩) (⟨ae Y.out 1,ae o.out 0,ae o.out 1,ae o.out 2,ae o.out 3⟩) ?_
   rotate_left
   ·(intro I E;obtain ⟨J,O,U,V,W⟩:=E;go_simp;try with_reducible rfl)
   refine wpAnyH_take (i:=26) (v:=?_) rfl (by kernel_rfl) (by kernel_rfl) (by kernel_rfl) (fun _ _ _ h=>h) (Or.inl ⟨by rfl,?_⟩) (⟨ae Y.out 1,ae o.out 0,ae o.out 1,ae o.out 2,ae o.out 3⟩) ?_
   rotate_left
   ·(intro I E;obtain ⟨J,O,U,V,W⟩:=E;go_simp;try with_reducible rfl)
   have bt:w4.cell? ⟨g,2,none⟩=some (.slice ad m cp):=ae al.out 2;have q2:w4.frozen? ⟨g,2,none⟩=false:=aw al.out 2;refine wpAnyH_ready (rs:=[27]) (by kernel_rfl) af ?_;refine AllReadyH.cons rfl (fun K hK=>?_) AllReadyH.nil;go_simp;obtain ⟨w5,ao⟩:∃ w5,w4.setCell ⟨g,2,none⟩ (.slice ab (m+1) ac)=w5:=⟨_,rfl⟩;have a1:=hide (bm (R:=R) Y.out g 2 (.slice ab (m+1) ac) bp);have aa:=hide (bm (R:=w.heap.size) o.out g 2 (.slice ab (m+1) ac) om);have a6:=hide (aK al.out 2 (.slice ab (m+1) ac));rw [ao] at a1 aa a6 ⊢;have ao:=hide ao;refine hK.out _ _ (⟨ae a1.out 1,ae aa.out 0,ae aa.out 1,ae aa.out 2,ae aa.out 3⟩) (fun _=>?_);clear hK K;refine wpAnyH_done (by kernel_rfl) ?_ _;go_simp;go_wp2;go_ret;rw [← ao.out];obtain ⟨q1,q2,q3,q4,q5⟩:=gx (i:=2) (N:=N) aj a0.out a5.out a7.out a9.out al.out a4 bk bh (.slice ab (m+1) ac);exact ⟨rfl,q1,_,q2,q3,q4,q5⟩
  ·go_simp
   refine hK.out _ _ (⟨ae aB.out 1,ae H.out 0,ae H.out 1,ae H.out 2,ae H.out 3⟩) (fun _=>?_);clear hK K;refine wpAnyH_ready (rs:=[11]) (by kernel_rfl) af ?_;refine AllReadyH.cons rfl (fun K hK=>?_) AllReadyH.nil;go_simp;refine hK.out _ _ (⟨ae aB.out 1,ae H.out 0,ae H.out 1,ae H.out 2,ae H.out 3⟩) (fun _=>?_);clear hK K;refine wpAnyH_ready (rs:=[23]) (by kernel_rfl) af ?_;refine AllReadyH.cons rfl (fun K hK=>?_) AllReadyH.nil;refine eV w3 rfl (.tmp 31) (.tmp 42) 152 204 rfl _ 4 40 lX Tryz.underlying152 rfl aj aj B0 (.slice ad m cp) m xs (by simp [Act.eval,Act.put]) a8.out w2.heap.size [.bool true,.int .i64 n,.string s,.int .i64 G] (by simp [Act.eval,Act.put]) rfl (o0 (ae aq.out 0) (ae aq.out 1) (ae aq.out 2) (ae aq.out 3)) (by intro u hu;simp at hu;rcases hu with rfl | rfl | rfl | rfl <;> rfl) om (Nat.le_trans a4 a0.out.size) ?_;intro v' w4 aA a2 ah;obtain ⟨ab,ac,rfl⟩:=dN aA;have al:=hide (ah.2 g _ _ aj a3.out);have Y:=hide (ah.2 R _ _ aj aB.out);have o:=hide (ah.2 _ _ _ aj H.out);have a9:=hide aA;have a5:=hide a2;have a7:=hide ah;clear aA a2 ah;refine hK.out _ _ (⟨ae Y.out 1,ae o.out 0,ae o.out 1,ae o.out 2,ae o.out 3⟩) (fun _=>?_);clear hK K;refine wpAnyH_take (i:=24) (v:=?_) rfl (by kernel_rfl) (by kernel_rfl) (by kernel_rfl) (fun _ _ _ h=>h) (Or.inl ⟨by rfl,?_⟩) (⟨ae Y.out 1,ae o.out 0,ae o.out 1,ae o.out 2,ae o.out 3⟩) ?_
   rotate_left
   ·(intro I E;obtain ⟨J,O,U,V,W⟩:=E;go_simp;try with_reducible rfl)
   refine wpAnyH_take (i:=25) (v:=?_) rfl (by kernel_rfl) (by kernel_rfl) (by kernel_rfl) (fun _ _ _ h=>h) (Or.inl ⟨by rfl,?_⟩) (⟨ae Y.out 1,ae o.out 0,ae o.out 1,ae o.out 2,ae o.out 3⟩) ?_
   rotate_left
   ·(intro I E;obtain ⟨J,O,U,V,W⟩:=E;go_simp;try with_reducible rfl)
   refine wpAnyH_take (i:=26) (v:=?_) rfl (by kernel_rfl) (by kernel_rfl) (by kernel_rfl) (fun _ _ _ h=>h) (Or.inl ⟨by rfl,?_⟩) (⟨ae Y.out 1,ae o.out 0,ae o.out 1,ae o.out 2,ae o.out 3⟩) ?_
   rotate_left
   ·(intro I E;obtain ⟨J,O,U,V,W⟩:=E;go_simp;try with_reducible rfl)
   have bt:w4.cell? ⟨g,2,none⟩=some (.slice ad m cp):=ae al.out 2;have q2:w4.frozen? ⟨g,2,none⟩=false:=aw al.out 2;refine wpAnyH_ready (rs:=[27]) (by kernel_rfl) af ?_;refine AllReadyH.cons rfl (fun K hK=>?_) AllReadyH.nil;go_simp;obtain ⟨w5,ao⟩:∃ w5,w4.setCell ⟨g,2,none⟩ (.slice ab (m+1) ac)=w5:=⟨_,rfl⟩;have a1:=hide (bm (R:=R) Y.out g 2 (.slice ab (m+1) ac) bp);have aa:=hide (bm (R:=w.heap.size) o.out g 2 (.slice ab (m+1) ac) om);have a6:=hide (aK al.out 2 (.slice ab (m+1) ac));rw [ao] at a1 aa a6 ⊢;have ao:=hide ao;refine hK.out _ _ (⟨ae a1.out 1,ae aa.out 0,ae aa.out 1,ae aa.out 2,ae aa.out 3⟩) (fun _=>?_);clear hK K;refine wpAnyH_done (by kernel_rfl) ?_ _;go_simp;go_wp2;go_ret;rw [← ao.out];obtain ⟨q1,q2,q3,q4,q5⟩:=gx (i:=2) (N:=N) aj a0.out a5.out a7.out a9.out al.out a4 bk bh (.slice ab (m+1) ac);exact ⟨rfl,q1,_,q2,q3,q4,q5⟩
end
end Go.Proofs.YtpebkobmhhnojaaGreatDoor
