/- Lemmas. -/
import Derived.Test.YtpebkobmhhnojaaGreatDoorTp10
set_option linter.unusedSimpArgs false
set_option linter.unusedVariables false
set_option maxRecDepth 100000
set_option maxHeartbeats 12800000
namespace Go.Proofs.YtpebkobmhhnojaaGreatDoor
section
open Go.RowKit Qd
theorem kB {w f:World} {T tg:TypeId} {sz n J N R b i:Nat} {xs:List Value} {v:Value} {I:Array Value} {o:Obj} (hT:tg≠T) (U:Below N w f)
  (ho:f.ownsRow J T sz v n xs) (hb:f.heap[b]?=some o) (hR:f.heap[R]?=some (.cells I tg (0,0))) (W:b≠R) (V:N≤R)
  (f1:∀ (B:Nat) (G:Array Value) (t:TypeId),t≠T→B ∉ [b]→w.heap[B]?=some (.cells G t (0,0))→f.heap[B]?=some (.cells G t (0,0)))
  (f2:∀ j,j<J→j ∉ [b]→f.heap[j]?=w.heap[j]?) (u:Value) :
  Below N w (f.setCell ⟨R,i,none⟩ u)∧(f.setCell ⟨R,i,none⟩ u).ownsRow J T sz v n xs∧(f.setCell ⟨R,i,none⟩ u).heap[R]?=some (.cells (I.setIfInBounds i u) tg (0,0))∧(f.setCell ⟨R,i,none⟩ u).heap[b]?=some o ∧
   (∀ (B:Nat) (G:Array Value) (t:TypeId),t≠T→B ∉ [R,b]→w.heap[B]?=some (.cells G t (0,0))→(f.setCell ⟨R,i,none⟩ u).heap[B]?=some (.cells G t (0,0))) ∧
   ∀ j,j<J→j ∉ [R,b]→(f.setCell ⟨R,i,none⟩ u).heap[j]?=w.heap[j]?:=by
 have h:∀ j,j≠R→(f.setCell ⟨R,i,none⟩ u).heap[j]?=f.heap[j]?:=fun j Y=>Below.heap_setCell f ⟨R,i,none⟩ u j Y
 refine ⟨U.setCell V u,⟨ho.1,?_⟩,aK hR i u,(h b W).trans hb,fun B G t ht E hc=>?_,fun j Y E=>?_⟩
 ·rcases ho.2 with h1 | ⟨g',H,O,he,h2,F,U⟩
  ·exact .inl h1
  ·refine .inr ⟨g',H,O,he,h2,?_,U⟩
   rw [h g' (fun e=>?_)]
   ·exact F
   ·rw [e,hR] at F;cases F;exact hT rfl
 ·simp at E
  rw [h B E.1];exact f1 _ _ _ ht (by simpa using E.2) hc
 ·simp at E
  rw [h j E.1];exact f2 j Y (by simpa using E.2)
theorem GY (f:List Value) (H I J O U h o E F G:Value) (k:Nat) (W:f.length=k):(((((f++[H,I,J,O,U]).set k h).set (k+1) o).set (k+2) E).set (k+3) F).set (k+4) G=f++[h,o,E,F,G]:=by
 subst W;have e:∀ (l:List Value) (j:Nat) (v:Value),(f++l).set (f.length+j) v=f++l.set j v:=fun l j v=>by rw [List.set_append_right _ _ om];congr 2;omega
 have V:∀ (l:List Value) (v:Value),(f++l).set f.length v=f++l.set 0 v:=fun l v=>by simp
 rw [V,e,e,e,e];rfl
theorem tX {f:World} {U g m V:Nat} {O:List Value} {W Y a2 a3 a4:Value} {T:TypeId} (h:f.ownsRow U T 5 (.slice (some ⟨g,0,none⟩) (m+1) V) (m+1) (O++[W,Y,a2,a3,a4])) (o E F G H:Value) :
  (((((f.setCell ⟨g,m*5,none⟩ o).setCell ⟨g,m*5+1,none⟩ E).setCell ⟨g,m*5+2,none⟩ F).setCell ⟨g,m*5+3,none⟩ G).setCell ⟨g,m*5+4,none⟩ H).ownsRow U T 5 (.slice (some ⟨g,0,none⟩) (m+1) V) (m+1) (O++[o,E,F,G,H]) ∧
  (∀ j,j≠g→(((((f.setCell ⟨g,m*5,none⟩ o).setCell ⟨g,m*5+1,none⟩ E).setCell ⟨g,m*5+2,none⟩ F).setCell ⟨g,m*5+3,none⟩ G).setCell ⟨g,m*5+4,none⟩ H).heap[j]?=f.heap[j]?) ∧
  (∀ N w,N≤g→Below N w f→Below N w (((((f.setCell ⟨g,m*5,none⟩ o).setCell ⟨g,m*5+1,none⟩ E).setCell ⟨g,m*5+2,none⟩ F).setCell ⟨g,m*5+3,none⟩ G).setCell ⟨g,m*5+4,none⟩ H)):=by
 have hl:=h.1;have hk:O.length=m*5:=by simp at hl;omega
 refine ⟨?_,fun j J=>?_,fun N w I hb=>((((hb.setCell I _).setCell I _).setCell I _).setCell I _).setCell I _⟩
 ·have h5:=(((((h.stored (m*5) o).1.stored (m*5+1) E).1.stored (m*5+2) F).1.stored (m*5+3) G).1.stored (m*5+4) H).1
  rwa [GY _ _ _ _ _ _ _ _ _ _ _ _ hk] at h5
 ·rw [Below.heap_setCell _ _ _ j J,Below.heap_setCell _ _ _ j J,Below.heap_setCell _ _ _ j J,Below.heap_setCell _ _ _ j J,Below.heap_setCell _ _ _ j J]
theorem oG (R b g B0:Nat) (d ah:Int) (s2:ByteArray) (al:Bool) (wa ka:Option Addr) (wn wc kn kc:Nat) (nm b7 ws bl ks b9 ca:Value) (m:Nat) (xs:List Value) (w:World) (a6:R≠b) (cv:R≠g) (bX:b≠g) (hm:m≤1000) (a5:B0≤w.heap.size)
    (N:Nat) (bw:N≤R) (bx:N≤b) (bt:N≤B0)
    (h0:w.heap[R]?=some (.cells #[.pointer (some ⟨b,0,none⟩),.pointer (some ⟨g,0,none⟩),d] 198 (0,0)))
    (h1:w.heap[b]?=some (.cells #[nm,b7,ws,bl,ks,b9] 195 (0,0)))
    (h2:w.heap[g]?=some (.cells #[.string s2,ah,.slice wa wn wc,.bool al,.slice ka kn kc,ca] 195 (0,0))) (bp:w.ownsRow B0 154 5 ks m xs) :
    Calls Tryz.prog 138 #[.pointer (some ⟨R,0,none⟩)] w fun e w'=>e=.returned (.tuple #[])∧Below N w w'∧∃ v,w'.ownsRow B0 154 5 v (m+1) (xs++[.string s2,.int .i64 ah,.slice wa wn wc,.bool al,.slice ka kn kc]) ∧
      w'.heap[R]?=some (.cells #[.pointer (some ⟨b,0,none⟩),.pointer none,d] 198 (0,0)) ∧
      w'.heap[b]?=some (.cells #[nm,b7,ws,bl,v,b9] 195 (0,0)) ∧
      (∀ (B:Nat) (cs:Array Value) (t:TypeId),t≠154→B ∉ [R,b]→w.heap[B]?=some (.cells cs t (0,0))→w'.heap[B]?=some (.cells cs t (0,0)))∧∀ j,j<B0→j ∉ [R,b]→w'.heap[j]?=w.heap[j]?:=by
  obtain ⟨ad,cp,rfl⟩:=dN bp;have hR:R<w.heap.size:=(Array.getElem?_eq_some_iff.1 h0).1;have hb:b<w.heap.size:=(Array.getElem?_eq_some_iff.1 h1).1;have hg:g<w.heap.size:=(Array.getElem?_eq_some_iff.1 h2).1;have H0:=hide h0;have H1:=hide h1;have H2:=hide h2;have HO:=hide bp;clear h0 h1 h2 bp;go_enter Tryz.func138,Tryz.ntmps138;go_wp2_with fail;go_region
  all_goals go_simp
  all_goals go_wp2_with fail
  · have a4:=hide (show (w.alloc (.cells #[.bool false] 4)).drew.drew.heap[b]?=_ from aD H1.out)
    have E:=hide (show (w.alloc (.cells #[.bool false] 4)).drew.drew.heap[R]?=_ from aD H0.out);have f:=hide (show (w.alloc (.cells #[.bool false] 4)).drew.drew.heap[g]?=_ from aD H2.out);have b0:=hide (aO HO.out (show Below w w (w.alloc (.cells #[.bool false] 4)).drew.drew by (repeat' exact bel)));have bc:=hide (show Below w w (w.alloc (.cells #[.bool false] 4)).drew.drew by (repeat' exact bel));refine wp_region_held_drew (S:=fun w'=>w'.cell? ⟨R,0,none⟩=some (.pointer (some ⟨b,0,none⟩))∧w'.cell? ⟨R,1,none⟩=some (.pointer (some ⟨g,0,none⟩))∧w'.cell? ⟨g,0,none⟩=some (.string s2)∧w'.cell? ⟨g,1,none⟩=some (.int .i64 ah)∧w'.cell? ⟨g,2,none⟩=some (.slice wa wn wc)∧w'.cell? ⟨g,3,none⟩=some (.bool al)∧w'.cell? ⟨g,4,none⟩=some (.slice ka kn kc)) (by kernel_rfl) ⟨ae E.out 0,ae E.out 1,ae f.out 0,ae f.out 1,ae f.out 2,ae f.out 3,ae f.out 4⟩ (fun _=>?_);generalize (w.alloc (.cells #[.bool false] 4)).drew.drew=w2 at *;refine wpAnyH_take (i:=0) (v:=?_) rfl (by kernel_rfl) (by kernel_rfl) (by kernel_rfl) (fun _ _ _ h=>h) (Or.inl ⟨by rfl,?_⟩) (⟨ae E.out 0,ae E.out 1,ae f.out 0,ae f.out 1,ae f.out 2,ae f.out 3,ae f.out 4⟩) ?_
    rotate_left
    · (intro W F;obtain ⟨Y,z1,z2,z3,z4,z5,z6⟩:=F;go_simp;try with_reducible rfl)
    refine wpAnyH_take (i:=1) (v:=?_) rfl (by kernel_rfl) (by kernel_rfl) (by kernel_rfl) (fun _ _ _ h=>h) (Or.inl ⟨by rfl,?_⟩) (⟨ae E.out 0,ae E.out 1,ae f.out 0,ae f.out 1,ae f.out 2,ae f.out 3,ae f.out 4⟩) ?_
    rotate_left
    · (intro W F;obtain ⟨Y,z1,z2,z3,z4,z5,z6⟩:=F;go_simp;try with_reducible rfl)
    refine wpAnyH_take (i:=2) (v:=?_) rfl (by kernel_rfl) (by kernel_rfl) (by kernel_rfl) (fun _ _ _ h=>h) (Or.inl ⟨by rfl,?_⟩) (⟨ae E.out 0,ae E.out 1,ae f.out 0,ae f.out 1,ae f.out 2,ae f.out 3,ae f.out 4⟩) ?_
    rotate_left
    · (intro W F;obtain ⟨Y,z1,z2,z3,z4,z5,z6⟩:=F;go_simp;try with_reducible rfl)
    refine wpAnyH_take (i:=3) (v:=?_) rfl (by kernel_rfl) (by kernel_rfl) (by kernel_rfl) (fun _ _ _ h=>h) (Or.inl ⟨by rfl,?_⟩) (⟨ae E.out 0,ae E.out 1,ae f.out 0,ae f.out 1,ae f.out 2,ae f.out 3,ae f.out 4⟩) ?_
    rotate_left
    · (intro W F;obtain ⟨Y,z1,z2,z3,z4,z5,z6⟩:=F;go_simp;try with_reducible rfl)
    refine wpAnyH_take (i:=4) (v:=?_) rfl (by kernel_rfl) (by kernel_rfl) (by kernel_rfl) (fun _ _ _ h=>h) (Or.inl ⟨by rfl,?_⟩) (⟨ae E.out 0,ae E.out 1,ae f.out 0,ae f.out 1,ae f.out 2,ae f.out 3,ae f.out 4⟩) ?_
    rotate_left
    · (intro W F;obtain ⟨Y,z1,z2,z3,z4,z5,z6⟩:=F;go_simp;try with_reducible rfl)
    refine wpAnyH_take (i:=5) (v:=?_) rfl (by kernel_rfl) (by kernel_rfl) (by kernel_rfl) (fun _ _ _ h=>h) (Or.inl ⟨by rfl,?_⟩) (⟨ae E.out 0,ae E.out 1,ae f.out 0,ae f.out 1,ae f.out 2,ae f.out 3,ae f.out 4⟩) ?_
    rotate_left
    · (intro W F;obtain ⟨Y,z1,z2,z3,z4,z5,z6⟩:=F;go_simp;try with_reducible rfl)
    refine wpAnyH_take (i:=6) (v:=?_) rfl (by kernel_rfl) (by kernel_rfl) (by kernel_rfl) (fun _ _ _ h=>h) (Or.inl ⟨by rfl,?_⟩) (⟨ae E.out 0,ae E.out 1,ae f.out 0,ae f.out 1,ae f.out 2,ae f.out 3,ae f.out 4⟩) ?_
    rotate_left
    · (intro W F;obtain ⟨Y,z1,z2,z3,z4,z5,z6⟩:=F;go_simp;try with_reducible rfl)
    refine wpAnyH_take (i:=7) (v:=?_) rfl (by kernel_rfl) (by kernel_rfl) (by kernel_rfl) (fun _ _ _ h=>h) (Or.inl ⟨by rfl,?_⟩) (⟨ae E.out 0,ae E.out 1,ae f.out 0,ae f.out 1,ae f.out 2,ae f.out 3,ae f.out 4⟩) ?_
    rotate_left
    · (intro W F;obtain ⟨Y,z1,z2,z3,z4,z5,z6⟩:=F;go_simp;try with_reducible rfl)
    refine wpAnyH_take (i:=8) (v:=?_) rfl (by kernel_rfl) (by kernel_rfl) (by kernel_rfl) (fun _ _ _ h=>h) (Or.inl ⟨by rfl,?_⟩) (⟨ae E.out 0,ae E.out 1,ae f.out 0,ae f.out 1,ae f.out 2,ae f.out 3,ae f.out 4⟩) ?_
    rotate_left
    · (intro W F;obtain ⟨Y,z1,z2,z3,z4,z5,z6⟩:=F;go_simp;try with_reducible rfl)
    refine wpAnyH_take (i:=9) (v:=?_) rfl (by kernel_rfl) (by kernel_rfl) (by kernel_rfl) (fun _ _ _ h=>h) (Or.inl ⟨by rfl,?_⟩) (⟨ae E.out 0,ae E.out 1,ae f.out 0,ae f.out 1,ae f.out 2,ae f.out 3,ae f.out 4⟩) ?_
    rotate_left
    · (intro W F;obtain ⟨Y,z1,z2,z3,z4,z5,z6⟩:=F;go_simp;try with_reducible rfl)
    refine wpAnyH_take (i:=10) (v:=?_) rfl (by kernel_rfl) (by kernel_rfl) (by kernel_rfl) (fun _ _ _ h=>h) (Or.inl ⟨by rfl,?_⟩) (⟨ae E.out 0,ae E.out 1,ae f.out 0,ae f.out 1,ae f.out 2,ae f.out 3,ae f.out 4⟩) ?_
    rotate_left
    · (intro W F;obtain ⟨Y,z1,z2,z3,z4,z5,z6⟩:=F;go_simp;try with_reducible rfl)
    refine wpAnyH_take (i:=12) (v:=?_) rfl (by kernel_rfl) (by kernel_rfl) (by kernel_rfl) (fun _ _ _ h=>h) (Or.inl ⟨by rfl,?_⟩) (⟨ae E.out 0,ae E.out 1,ae f.out 0,ae f.out 1,ae f.out 2,ae f.out 3,ae f.out 4⟩) ?_
    rotate_left
    · (intro W F;obtain ⟨Y,z1,z2,z3,z4,z5,z6⟩:=F;go_simp;try with_reducible rfl)
    refine wpAnyH_take (i:=13) (v:=?_) rfl (by kernel_rfl) (by kernel_rfl) (by kernel_rfl) (fun _ _ _ h=>h) (Or.inl ⟨by rfl,?_⟩) (⟨ae E.out 0,ae E.out 1,ae f.out 0,ae f.out 1,ae f.out 2,ae f.out 3,ae f.out 4⟩) ?_
    rotate_left
    · (intro W F;obtain ⟨Y,z1,z2,z3,z4,z5,z6⟩:=F;go_simp;try with_reducible rfl)
    refine wpAnyH_take (i:=14) (v:=?_) rfl (by kernel_rfl) (by kernel_rfl) (by kernel_rfl) (fun _ _ _ h=>h) (Or.inl ⟨by rfl,?_⟩) (⟨ae E.out 0,ae E.out 1,ae f.out 0,ae f.out 1,ae f.out 2,ae f.out 3,ae f.out 4⟩) ?_
    rotate_left
    · (intro W F;obtain ⟨Y,z1,z2,z3,z4,z5,z6⟩:=F;go_simp;try with_reducible rfl)
    refine wpAnyH_take (i:=15) (v:=?_) rfl (by kernel_rfl) (by kernel_rfl) (by kernel_rfl) (fun _ _ _ h=>h) (Or.inl ⟨by rfl,?_⟩) (⟨ae E.out 0,ae E.out 1,ae f.out 0,ae f.out 1,ae f.out 2,ae f.out 3,ae f.out 4⟩) ?_
    rotate_left
    · (intro W F;obtain ⟨Y,z1,z2,z3,z4,z5,z6⟩:=F;go_simp;try with_reducible rfl)
    refine wpAnyH_take (i:=16) (v:=?_) rfl (by kernel_rfl) (by kernel_rfl) (by kernel_rfl) (fun _ _ _ h=>h) (Or.inl ⟨by rfl,?_⟩) (⟨ae E.out 0,ae E.out 1,ae f.out 0,ae f.out 1,ae f.out 2,ae f.out 3,ae f.out 4⟩) ?_
    rotate_left
    · (intro W F;obtain ⟨Y,z1,z2,z3,z4,z5,z6⟩:=F;go_simp;try with_reducible rfl)
    refine wpAnyH_take (i:=17) (v:=?_) rfl (by kernel_rfl) (by kernel_rfl) (by kernel_rfl) (fun _ _ _ h=>h) (Or.inl ⟨by rfl,?_⟩) (⟨ae E.out 0,ae E.out 1,ae f.out 0,ae f.out 1,ae f.out 2,ae f.out 3,ae f.out 4⟩) ?_
    rotate_left
    · (intro W F;obtain ⟨Y,z1,z2,z3,z4,z5,z6⟩:=F;go_simp;try with_reducible rfl)
    refine wpAnyH_take (i:=18) (v:=?_) rfl (by kernel_rfl) (by kernel_rfl) (by kernel_rfl) (fun _ _ _ h=>h) (Or.inl ⟨by rfl,?_⟩) (⟨ae E.out 0,ae E.out 1,ae f.out 0,ae f.out 1,ae f.out 2,ae f.out 3,ae f.out 4⟩) ?_
    rotate_left
    · (intro W F;obtain ⟨Y,z1,z2,z3,z4,z5,z6⟩:=F;go_simp;try with_reducible rfl)
    have a2:=hide (aD (o':=(.cells #[.string s2,ah,.slice wa wn wc,.bool al,.slice ka kn kc] 154)) a4.out);have aa:=hide (aD (o':=(.cells #[.string s2,ah,.slice wa wn wc,.bool al,.slice ka kn kc] 154)) E.out);have G:=hide (aD (o':=(.cells #[.string s2,ah,.slice wa wn wc,.bool al,.slice ka kn kc] 154)) f.out);have O:=hide (heap_alloc_new w2 (.cells #[.string s2,ah,.slice wa wn wc,.bool al,.slice ka kn kc] 154));have ba:=hide (aO b0.out (show Below w2 w2 (w2.alloc (.cells #[.string s2,ah,.slice wa wn wc,.bool al,.slice ka kn kc] 154)) by (repeat' exact bel)));have aA:=hide (show Below w w (w2.alloc (.cells #[.string s2,ah,.slice wa wn wc,.bool al,.slice ka kn kc] 154)) from bc.out.alloc bc.out.size _);obtain ⟨w3,b1⟩:∃ w3,w2.alloc (.cells #[.string s2,ah,.slice wa wn wc,.bool al,.slice ka kn kc] 154)=w3:=⟨_,rfl⟩;rw [b1] at a2 aa G O ba aA;have ga:w2.cell? ⟨b,4,none⟩=some (.slice ad m cp):=ae a4.out 4;have gb:w3.cell? ⟨b,4,none⟩=some (.slice ad m cp):=ae a2.out 4;refine wpAnyH_ready (rs:=[11,19]) (by kernel_rfl) af ?_;refine AllReadyH.cons rfl (fun K U=>?_) (AllReadyH.cons rfl (fun K U=>?_) AllReadyH.nil)
    · go_simp
      refine U.out _ _ (⟨ae E.out 0,ae E.out 1,ae f.out 0,ae f.out 1,ae f.out 2,ae f.out 3,ae f.out 4⟩) (fun _=>?_);clear U K;refine wpAnyH_ready (rs:=[19]) (by kernel_rfl) af ?_;refine AllReadyH.cons rfl (fun K U=>?_) AllReadyH.nil;go_simp;refine U.out _ _ (⟨ae aa.out 0,ae aa.out 1,ae G.out 0,ae G.out 1,ae G.out 2,ae G.out 3,ae G.out 4⟩) (fun _=>?_);clear U K;refine wpAnyH_ready (rs:=[20]) (by kernel_rfl) af ?_;refine AllReadyH.cons rfl (fun K U=>?_) AllReadyH.nil;refine eV w3 rfl (.tmp 37) (.tmp 45) 147 154 rfl _ 5 80 lT Tryz.underlying147 rfl aj aj B0 (.slice ad m cp) m xs (by simp [Act.eval,Act.put]) ba.out w2.heap.size [.string s2,.int .i64 ah,.slice wa wn wc,.bool al,.slice ka kn kc] (by simp [Act.eval,Act.put]) rfl (pH (ae O.out 0) (ae O.out 1) (ae O.out 2) (ae O.out 3) (ae O.out 4)) (by intro u hu;simp at hu;rcases hu with rfl | rfl | rfl | rfl | rfl <;> rfl) om (Nat.le_trans a5 aA.out.size) ?_;intro v' w4 aq a0 V;obtain ⟨gk,ab,rfl,bk,b6,ao⟩:=bf aq om;have ac:=hide (V.2 b _ _ aj a2.out);have H:=hide (V.2 R _ _ aj aa.out);have o:=hide (V.2 g _ _ aj G.out);have bb:=hide aq;have a7:=hide a0;have a8:=hide V;clear aq a0 V ao;refine U.out _ _ (⟨ae H.out 0,ae H.out 1,ae o.out 0,ae o.out 1,ae o.out 2,ae o.out 3,ae o.out 4⟩) (fun _=>?_);clear U K;refine wpAnyH_take (i:=21) (v:=?_) rfl (by kernel_rfl) (by kernel_rfl) (by kernel_rfl) (fun _ _ _ h=>h) (Or.inl ⟨by rfl,?_⟩) (⟨ae H.out 0,ae H.out 1,ae o.out 0,ae o.out 1,ae o.out 2,ae o.out 3,ae o.out 4⟩) ?_
      rotate_left
      · (intro W F;obtain ⟨Y,z1,z2,z3,z4,z5,z6⟩:=F;go_simp;try with_reducible rfl)
      refine wpAnyH_take (i:=22) (v:=?_) rfl (by kernel_rfl) (by kernel_rfl) (by kernel_rfl) (fun _ _ _ h=>h) (Or.inl ⟨by rfl,?_⟩) (⟨ae H.out 0,ae H.out 1,ae o.out 0,ae o.out 1,ae o.out 2,ae o.out 3,ae o.out 4⟩) ?_
      rotate_left
      · (intro W F;obtain ⟨Y,z1,z2,z3,z4,z5,z6⟩:=F;go_simp;try with_reducible rfl)
      refine wpAnyH_take (i:=23) (v:=?_) rfl (by kernel_rfl) (by kernel_rfl) (by kernel_rfl) (fun _ _ _ h=>h) (Or.inl ⟨by rfl,?_⟩) (⟨ae H.out 0,ae H.out 1,ae o.out 0,ae o.out 1,ae o.out 2,ae o.out 3,ae o.out 4⟩) ?_
      rotate_left
      · (intro W F;obtain ⟨Y,z1,z2,z3,z4,z5,z6⟩:=F;go_simp;try with_reducible rfl)
      have b2:w4.cell? ⟨b,4,none⟩=some (.slice ad m cp):=ae ac.out 4;have q4:w4.frozen? ⟨b,4,none⟩=false:=aw ac.out 4;refine wpAnyH_ready (rs:=[24]) (by kernel_rfl) af ?_;refine AllReadyH.cons rfl (fun K U=>?_) AllReadyH.nil;go_simp;obtain ⟨w5,aB⟩:∃ w5,w4.setCell ⟨b,4,none⟩ (.slice (some ⟨gk,0,none⟩) (m+1) ab)=w5:=⟨_,rfl⟩;have I:=hide (bm H.out b 4 (.slice (some ⟨gk,0,none⟩) (m+1) ab) a6);have J:=hide (bm o.out b 4 (.slice (some ⟨gk,0,none⟩) (m+1) ab) (Ne.symm bX));obtain ⟨q1,q2,q3,q4,q5⟩:=gx (i:=4) (N:=N) aj aA.out a7.out a8.out bb.out ac.out a5 bx bt (.slice (some ⟨gk,0,none⟩) (m+1) ab);rw [aB] at I J q1 q2 q3 q4 q5 ⊢;have HQ:=hide (And.intro q1 (And.intro q2 (And.intro q3 (And.intro q4 q5))));clear q1 q2 q3 q4 q5 aB;refine U.out _ _ (⟨ae I.out 0,ae I.out 1,ae J.out 0,ae J.out 1,ae J.out 2,ae J.out 3,ae J.out 4⟩) (fun _=>?_);clear U K;refine wpAnyH_done (by kernel_rfl) ?_ _;go_simp;have r1:w5.cell? ⟨R,1,none⟩=some (.pointer (some ⟨g,0,none⟩)):=ae I.out 1;have r2:w5.frozen? ⟨R,1,none⟩=false:=aw I.out 1;go_wp2;obtain ⟨q1,q2,q3,q4,q5⟩:=HQ.out;obtain ⟨p1,p2,p3,p4,p5,p6⟩:=kB (i:=1) aj q1 q2 q3 I.out (Ne.symm a6) bw q4 q5 (.pointer none);go_end0;exact ⟨rfl,p1,_,p2,p3,p4,p5,p6⟩
    · go_simp
      refine U.out _ _ (⟨ae aa.out 0,ae aa.out 1,ae G.out 0,ae G.out 1,ae G.out 2,ae G.out 3,ae G.out 4⟩) (fun _=>?_);clear U K;refine wpAnyH_ready (rs:=[11]) (by kernel_rfl) af ?_;refine AllReadyH.cons rfl (fun K U=>?_) AllReadyH.nil;go_simp;refine U.out _ _ (⟨ae aa.out 0,ae aa.out 1,ae G.out 0,ae G.out 1,ae G.out 2,ae G.out 3,ae G.out 4⟩) (fun _=>?_);clear U K;refine wpAnyH_ready (rs:=[20]) (by kernel_rfl) af ?_;refine AllReadyH.cons rfl (fun K U=>?_) AllReadyH.nil;refine eV w3 rfl (.tmp 37) (.tmp 45) 147 154 rfl _ 5 80 lT Tryz.underlying147 rfl aj aj B0 (.slice ad m cp) m xs (by simp [Act.eval,Act.put]) ba.out w2.heap.size [.string s2,.int .i64 ah,.slice wa wn wc,.bool al,.slice ka kn kc] (by simp [Act.eval,Act.put]) rfl (pH (ae O.out 0) (ae O.out 1) (ae O.out 2) (ae O.out 3) (ae O.out 4)) (by intro u hu;simp at hu;rcases hu with rfl | rfl | rfl | rfl | rfl <;> rfl) om (Nat.le_trans a5 aA.out.size) ?_;intro v' w4 aq a0 V;obtain ⟨gk,ab,rfl,bk,b6,ao⟩:=bf aq om;have ac:=hide (V.2 b _ _ aj a2.out);have H:=hide (V.2 R _ _ aj aa.out);have o:=hide (V.2 g _ _ aj G.out);have bb:=hide aq;have a7:=hide a0;have a8:=hide V;clear aq a0 V ao;refine U.out _ _ (⟨ae H.out 0,ae H.out 1,ae o.out 0,ae o.out 1,ae o.out 2,ae o.out 3,ae o.out 4⟩) (fun _=>?_);clear U K;refine wpAnyH_take (i:=21) (v:=?_) rfl (by kernel_rfl) (by kernel_rfl) (by kernel_rfl) (fun _ _ _ h=>h) (Or.inl ⟨by rfl,?_⟩) (⟨ae H.out 0,ae H.out 1,ae o.out 0,ae o.out 1,ae o.out 2,ae o.out 3,ae o.out 4⟩) ?_
      rotate_left
      · (intro W F;obtain ⟨Y,z1,z2,z3,z4,z5,z6⟩:=F;go_simp;try with_reducible rfl)
      refine wpAnyH_take (i:=22) (v:=?_) rfl (by kernel_rfl) (by kernel_rfl) (by kernel_rfl) (fun _ _ _ h=>h) (Or.inl ⟨by rfl,?_⟩) (⟨ae H.out 0,ae H.out 1,ae o.out 0,ae o.out 1,ae o.out 2,ae o.out 3,ae o.out 4⟩) ?_
      rotate_left
      · (intro W F;obtain ⟨Y,z1,z2,z3,z4,z5,z6⟩:=F;go_simp;try with_reducible rfl)
      refine wpAnyH_take (i:=23) (v:=?_) rfl (by kernel_rfl) (by kernel_rfl) (by kernel_rfl) (fun _ _ _ h=>h) (Or.inl ⟨by rfl,?_⟩) (⟨ae H.out 0,ae H.out 1,ae o.out 0,ae o.out 1,ae o.out 2,ae o.out 3,ae o.out 4⟩) ?_
      rotate_left
      · (intro W F;obtain ⟨Y,z1,z2,z3,z4,z5,z6⟩:=F;go_simp;try with_reducible rfl)
      have b2:w4.cell? ⟨b,4,none⟩=some (.slice ad m cp):=ae ac.out 4;have q4:w4.frozen? ⟨b,4,none⟩=false:=aw ac.out 4;refine wpAnyH_ready (rs:=[24]) (by kernel_rfl) af ?_;refine AllReadyH.cons rfl (fun K U=>?_) AllReadyH.nil;go_simp;obtain ⟨w5,aB⟩:∃ w5,w4.setCell ⟨b,4,none⟩ (.slice (some ⟨gk,0,none⟩) (m+1) ab)=w5:=⟨_,rfl⟩;have I:=hide (bm H.out b 4 (.slice (some ⟨gk,0,none⟩) (m+1) ab) a6);have J:=hide (bm o.out b 4 (.slice (some ⟨gk,0,none⟩) (m+1) ab) (Ne.symm bX));obtain ⟨q1,q2,q3,q4,q5⟩:=gx (i:=4) (N:=N) aj aA.out a7.out a8.out bb.out ac.out a5 bx bt (.slice (some ⟨gk,0,none⟩) (m+1) ab);rw [aB] at I J q1 q2 q3 q4 q5 ⊢;have HQ:=hide (And.intro q1 (And.intro q2 (And.intro q3 (And.intro q4 q5))));clear q1 q2 q3 q4 q5 aB;refine U.out _ _ (⟨ae I.out 0,ae I.out 1,ae J.out 0,ae J.out 1,ae J.out 2,ae J.out 3,ae J.out 4⟩) (fun _=>?_);clear U K;refine wpAnyH_done (by kernel_rfl) ?_ _;go_simp;have r1:w5.cell? ⟨R,1,none⟩=some (.pointer (some ⟨g,0,none⟩)):=ae I.out 1;have r2:w5.frozen? ⟨R,1,none⟩=false:=aw I.out 1;go_wp2;obtain ⟨q1,q2,q3,q4,q5⟩:=HQ.out;obtain ⟨p1,p2,p3,p4,p5,p6⟩:=kB (i:=1) aj q1 q2 q3 I.out (Ne.symm a6) bw q4 q5 (.pointer none);go_end0;exact ⟨rfl,p1,_,p2,p3,p4,p5,p6⟩
  · have a4:=hide (show (w.alloc (.cells #[.bool true] 4)).drew.drew.heap[b]?=_ from aD H1.out)
    have E:=hide (show (w.alloc (.cells #[.bool true] 4)).drew.drew.heap[R]?=_ from aD H0.out);have f:=hide (show (w.alloc (.cells #[.bool true] 4)).drew.drew.heap[g]?=_ from aD H2.out);have b0:=hide (aO HO.out (show Below w w (w.alloc (.cells #[.bool true] 4)).drew.drew by (repeat' exact bel)));have bc:=hide (show Below w w (w.alloc (.cells #[.bool true] 4)).drew.drew by (repeat' exact bel));refine wp_region_held_drew (S:=fun w'=>w'.cell? ⟨R,0,none⟩=some (.pointer (some ⟨b,0,none⟩))∧w'.cell? ⟨R,1,none⟩=some (.pointer (some ⟨g,0,none⟩))∧w'.cell? ⟨g,0,none⟩=some (.string s2)∧w'.cell? ⟨g,1,none⟩=some (.int .i64 ah)∧w'.cell? ⟨g,2,none⟩=some (.slice wa wn wc)∧w'.cell? ⟨g,3,none⟩=some (.bool al)∧w'.cell? ⟨g,4,none⟩=some (.slice ka kn kc)) (by kernel_rfl) ⟨ae E.out 0,ae E.out 1,ae f.out 0,ae f.out 1,ae f.out 2,ae f.out 3,ae f.out 4⟩ (fun _=>?_);generalize (w.alloc (.cells #[.bool true] 4)).drew.drew=w2 at *;refine wpAnyH_take (i:=0) (v:=?_) rfl (by kernel_rfl) (by kernel_rfl) (by kernel_rfl) (fun _ _ _ h=>h) (Or.inl ⟨by rfl,?_⟩) (⟨ae E.out 0,ae E.out 1,ae f.out 0,ae f.out 1,ae f.out 2,ae f.out 3,ae f.out 4⟩) ?_
    rotate_left
    · (intro W F;obtain ⟨Y,z1,z2,z3,z4,z5,z6⟩:=F;go_simp;try with_reducible rfl)
    refine wpAnyH_take (i:=1) (v:=?_) rfl (by kernel_rfl) (by kernel_rfl) (by kernel_rfl) (fun _ _ _ h=>h) (Or.inl ⟨by rfl,?_⟩) (⟨ae E.out 0,ae E.out 1,ae f.out 0,ae f.out 1,ae f.out 2,ae f.out 3,ae f.out 4⟩) ?_
    rotate_left
    · (intro W F;obtain ⟨Y,z1,z2,z3,z4,z5,z6⟩:=F;go_simp;try with_reducible rfl)
    refine wpAnyH_take (i:=2) (v:=?_) rfl (by kernel_rfl) (by kernel_rfl) (by kernel_rfl) (fun _ _ _ h=>h) (Or.inl ⟨by rfl,?_⟩) (⟨ae E.out 0,ae E.out 1,ae f.out 0,ae f.out 1,ae f.out 2,ae f.out 3,ae f.out 4⟩) ?_
    rotate_left
    · (intro W F;obtain ⟨Y,z1,z2,z3,z4,z5,z6⟩:=F;go_simp;try with_reducible rfl)
    refine wpAnyH_take (i:=3) (v:=?_) rfl (by kernel_rfl) (by kernel_rfl) (by kernel_rfl) (fun _ _ _ h=>h) (Or.inl ⟨by rfl,?_⟩) (⟨ae E.out 0,ae E.out 1,ae f.out 0,ae f.out 1,ae f.out 2,ae f.out 3,ae f.out 4⟩) ?_
    rotate_left
    · (intro W F;obtain ⟨Y,z1,z2,z3,z4,z5,z6⟩:=F;go_simp;try with_reducible rfl)
    refine wpAnyH_take (i:=4) (v:=?_) rfl (by kernel_rfl) (by kernel_rfl) (by kernel_rfl) (fun _ _ _ h=>h) (Or.inl ⟨by rfl,?_⟩) (⟨ae E.out 0,ae E.out 1,ae f.out 0,ae f.out 1,ae f.out 2,ae f.out 3,ae f.out 4⟩) ?_
    rotate_left
    · (intro W F;obtain ⟨Y,z1,z2,z3,z4,z5,z6⟩:=F;go_simp;try with_reducible rfl)
    refine wpAnyH_take (i:=5) (v:=?_) rfl (by kernel_rfl) (by kernel_rfl) (by kernel_rfl) (fun _ _ _ h=>h) (Or.inl ⟨by rfl,?_⟩) (⟨ae E.out 0,ae E.out 1,ae f.out 0,ae f.out 1,ae f.out 2,ae f.out 3,ae f.out 4⟩) ?_
    rotate_left
    · (intro W F;obtain ⟨Y,z1,z2,z3,z4,z5,z6⟩:=F;go_simp;try with_reducible rfl)
    refine wpAnyH_take (i:=6) (v:=?_) rfl (by kernel_rfl) (by kernel_rfl) (by kernel_rfl) (fun _ _ _ h=>h) (Or.inl ⟨by rfl,?_⟩) (⟨ae E.out 0,ae E.out 1,ae f.out 0,ae f.out 1,ae f.out 2,ae f.out 3,ae f.out 4⟩) ?_
    rotate_left
    · (intro W F;obtain ⟨Y,z1,z2,z3,z4,z5,z6⟩:=F;go_simp;try with_reducible rfl)
    refine wpAnyH_take (i:=8) (v:=?_) rfl (by kernel_rfl) (by kernel_rfl) (by kernel_rfl) (fun _ _ _ h=>h) (Or.inl ⟨by rfl,?_⟩) (⟨ae E.out 0,ae E.out 1,ae f.out 0,ae f.out 1,ae f.out 2,ae f.out 3,ae f.out 4⟩) ?_
    rotate_left
    · (intro W F;obtain ⟨Y,z1,z2,z3,z4,z5,z6⟩:=F;go_simp;try with_reducible rfl)
    refine wpAnyH_take (i:=9) (v:=?_) rfl (by kernel_rfl) (by kernel_rfl) (by kernel_rfl) (fun _ _ _ h=>h) (Or.inl ⟨by rfl,?_⟩) (⟨ae E.out 0,ae E.out 1,ae f.out 0,ae f.out 1,ae f.out 2,ae f.out 3,ae f.out 4⟩) ?_
    rotate_left
    · (intro W F;obtain ⟨Y,z1,z2,z3,z4,z5,z6⟩:=F;go_simp;try with_reducible rfl)
    refine wpAnyH_take (i:=10) (v:=?_) rfl (by kernel_rfl) (by kernel_rfl) (by kernel_rfl) (fun _ _ _ h=>h) (Or.inl ⟨by rfl,?_⟩) (⟨ae E.out 0,ae E.out 1,ae f.out 0,ae f.out 1,ae f.out 2,ae f.out 3,ae f.out 4⟩) ?_
    rotate_left
    · (intro W F;obtain ⟨Y,z1,z2,z3,z4,z5,z6⟩:=F;go_simp;try with_reducible rfl)
    refine wpAnyH_take (i:=11) (v:=?_) rfl (by kernel_rfl) (by kernel_rfl) (by kernel_rfl) (fun _ _ _ h=>h) (Or.inl ⟨by rfl,?_⟩) (⟨ae E.out 0,ae E.out 1,ae f.out 0,ae f.out 1,ae f.out 2,ae f.out 3,ae f.out 4⟩) ?_
    rotate_left
    · (intro W F;obtain ⟨Y,z1,z2,z3,z4,z5,z6⟩:=F;go_simp;try with_reducible rfl)
    refine wpAnyH_take (i:=12) (v:=?_) rfl (by kernel_rfl) (by kernel_rfl) (by kernel_rfl) (fun _ _ _ h=>h) (Or.inl ⟨by rfl,?_⟩) (⟨ae E.out 0,ae E.out 1,ae f.out 0,ae f.out 1,ae f.out 2,ae f.out 3,ae f.out 4⟩) ?_
    rotate_left
    · (intro W F;obtain ⟨Y,z1,z2,z3,z4,z5,z6⟩:=F;go_simp;try with_reducible rfl)
    refine wpAnyH_take (i:=13) (v:=?_) rfl (by kernel_rfl) (by kernel_rfl) (by kernel_rfl) (fun _ _ _ h=>h) (Or.inl ⟨by rfl,?_⟩) (⟨ae E.out 0,ae E.out 1,ae f.out 0,ae f.out 1,ae f.out 2,ae f.out 3,ae f.out 4⟩) ?_
    rotate_left
    · (intro W F;obtain ⟨Y,z1,z2,z3,z4,z5,z6⟩:=F;go_simp;try with_reducible rfl)
    refine wpAnyH_take (i:=14) (v:=?_) rfl (by kernel_rfl) (by kernel_rfl) (by kernel_rfl) (fun _ _ _ h=>h) (Or.inl ⟨by rfl,?_⟩) (⟨ae E.out 0,ae E.out 1,ae f.out 0,ae f.out 1,ae f.out 2,ae f.out 3,ae f.out 4⟩) ?_
    rotate_left
    · (intro W F;obtain ⟨Y,z1,z2,z3,z4,z5,z6⟩:=F;go_simp;try with_reducible rfl)
    have a2:=hide (aD (o':=(.cells #[.string ⟨#[]⟩,.int .i64 0,.slice none 0 0,.bool false,.slice none 0 0] 154)) a4.out);have aa:=hide (aD (o':=(.cells #[.string ⟨#[]⟩,.int .i64 0,.slice none 0 0,.bool false,.slice none 0 0] 154)) E.out);have G:=hide (aD (o':=(.cells #[.string ⟨#[]⟩,.int .i64 0,.slice none 0 0,.bool false,.slice none 0 0] 154)) f.out);have O:=hide (heap_alloc_new w2 (.cells #[.string ⟨#[]⟩,.int .i64 0,.slice none 0 0,.bool false,.slice none 0 0] 154));have ba:=hide (aO b0.out (show Below w2 w2 (w2.alloc (.cells #[.string ⟨#[]⟩,.int .i64 0,.slice none 0 0,.bool false,.slice none 0 0] 154)) by (repeat' exact bel)));have aA:=hide (show Below w w (w2.alloc (.cells #[.string ⟨#[]⟩,.int .i64 0,.slice none 0 0,.bool false,.slice none 0 0] 154)) from bc.out.alloc bc.out.size _);obtain ⟨w3,b1⟩:∃ w3,w2.alloc (.cells #[.string ⟨#[]⟩,.int .i64 0,.slice none 0 0,.bool false,.slice none 0 0] 154)=w3:=⟨_,rfl⟩;rw [b1] at a2 aa G O ba aA;have ga:w2.cell? ⟨b,4,none⟩=some (.slice ad m cp):=ae a4.out 4;have gb:w3.cell? ⟨b,4,none⟩=some (.slice ad m cp):=ae a2.out 4;refine wpAnyH_ready (rs:=[7,16]) (by kernel_rfl) af ?_;refine AllReadyH.cons rfl (fun K U=>?_) (AllReadyH.cons rfl (fun K U=>?_) AllReadyH.nil)
    · go_simp
      refine U.out _ _ (⟨ae E.out 0,ae E.out 1,ae f.out 0,ae f.out 1,ae f.out 2,ae f.out 3,ae f.out 4⟩) (fun _=>?_);clear U K;refine wpAnyH_take (i:=15) (v:=?_) rfl (by kernel_rfl) (by kernel_rfl) (by kernel_rfl) (fun _ _ _ h=>h) (Or.inl ⟨by rfl,?_⟩) (⟨ae E.out 0,ae E.out 1,ae f.out 0,ae f.out 1,ae f.out 2,ae f.out 3,ae f.out 4⟩) ?_
      rotate_left
      · (intro W F;obtain ⟨Y,z1,z2,z3,z4,z5,z6⟩:=F;go_simp;try with_reducible rfl)
      refine wpAnyH_ready (rs:=[16]) (by kernel_rfl) af ?_;refine AllReadyH.cons rfl (fun K U=>?_) AllReadyH.nil;go_simp;refine U.out _ _ (⟨ae aa.out 0,ae aa.out 1,ae G.out 0,ae G.out 1,ae G.out 2,ae G.out 3,ae G.out 4⟩) (fun _=>?_);clear U K;refine wpAnyH_ready (rs:=[17]) (by kernel_rfl) af ?_;refine AllReadyH.cons rfl (fun K U=>?_) AllReadyH.nil;refine eV w3 rfl (.tmp 11) (.tmp 20) 147 154 rfl _ 5 80 lT Tryz.underlying147 rfl aj aj B0 (.slice ad m cp) m xs (by simp [Act.eval,Act.put]) ba.out w2.heap.size [.string ⟨#[]⟩,.int .i64 0,.slice none 0 0,.bool false,.slice none 0 0] (by simp [Act.eval,Act.put]) rfl (pH (ae O.out 0) (ae O.out 1) (ae O.out 2) (ae O.out 3) (ae O.out 4)) (by intro u hu;simp at hu;rcases hu with rfl | rfl | rfl | rfl | rfl <;> rfl) om (Nat.le_trans a5 aA.out.size) ?_;intro v' w4 aq a0 V;obtain ⟨gk,ab,rfl,bk,b6,ao⟩:=bf aq om;have ac:=hide (V.2 b _ _ aj a2.out);have H:=hide (V.2 R _ _ aj aa.out);have o:=hide (V.2 g _ _ aj G.out);have bb:=hide aq;have a7:=hide a0;have a8:=hide V;clear aq a0 V ao;refine U.out _ _ (⟨ae H.out 0,ae H.out 1,ae o.out 0,ae o.out 1,ae o.out 2,ae o.out 3,ae o.out 4⟩) (fun _=>?_);clear U K;refine wpAnyH_take (i:=18) (v:=?_) rfl (by kernel_rfl) (by kernel_rfl) (by kernel_rfl) (fun _ _ _ h=>h) (Or.inl ⟨by rfl,?_⟩) (⟨ae H.out 0,ae H.out 1,ae o.out 0,ae o.out 1,ae o.out 2,ae o.out 3,ae o.out 4⟩) ?_
      rotate_left
      · (intro W F;obtain ⟨Y,z1,z2,z3,z4,z5,z6⟩:=F;go_simp;try with_reducible rfl)
      refine wpAnyH_take (i:=19) (v:=?_) rfl (by kernel_rfl) (by kernel_rfl) (by kernel_rfl) (fun _ _ _ h=>h) (Or.inl ⟨by rfl,?_⟩) (⟨ae H.out 0,ae H.out 1,ae o.out 0,ae o.out 1,ae o.out 2,ae o.out 3,ae o.out 4⟩) ?_
      rotate_left
      · (intro W F;obtain ⟨Y,z1,z2,z3,z4,z5,z6⟩:=F;go_simp;try with_reducible rfl)
      refine wpAnyH_take (i:=20) (v:=?_) rfl (by kernel_rfl) (by kernel_rfl) (by kernel_rfl) (fun _ _ _ h=>h) (Or.inl ⟨by rfl,?_⟩) (⟨ae H.out 0,ae H.out 1,ae o.out 0,ae o.out 1,ae o.out 2,ae o.out 3,ae o.out 4⟩) ?_
      rotate_left
      · (intro W F;obtain ⟨Y,z1,z2,z3,z4,z5,z6⟩:=F;go_simp;try with_reducible rfl)
      have b2:w4.cell? ⟨b,4,none⟩=some (.slice ad m cp):=ae ac.out 4;have q4:w4.frozen? ⟨b,4,none⟩=false:=aw ac.out 4;refine wpAnyH_ready (rs:=[21]) (by kernel_rfl) af ?_;refine AllReadyH.cons rfl (fun K U=>?_) AllReadyH.nil;go_simp;obtain ⟨w5,aB⟩:∃ w5,w4.setCell ⟨b,4,none⟩ (.slice (some ⟨gk,0,none⟩) (m+1) ab)=w5:=⟨_,rfl⟩;have I:=hide (bm H.out b 4 (.slice (some ⟨gk,0,none⟩) (m+1) ab) a6);have J:=hide (bm o.out b 4 (.slice (some ⟨gk,0,none⟩) (m+1) ab) (Ne.symm bX));obtain ⟨q1,q2,q3,q4,q5⟩:=gx (i:=4) (N:=N) aj aA.out a7.out a8.out bb.out ac.out a5 bx bt (.slice (some ⟨gk,0,none⟩) (m+1) ab);rw [aB] at I J q1 q2 q3 q4 q5 ⊢;have HQ:=hide (And.intro q1 (And.intro q2 (And.intro q3 (And.intro q4 q5))));clear q1 q2 q3 q4 q5 aB;refine U.out _ _ (⟨ae I.out 0,ae I.out 1,ae J.out 0,ae J.out 1,ae J.out 2,ae J.out 3,ae J.out 4⟩) (fun _=>?_);clear U K;refine wpAnyH_done (by kernel_rfl) ?_ _;go_simp;have r1:w5.cell? ⟨R,1,none⟩=some (.pointer (some ⟨g,0,none⟩)):=ae I.out 1;have r2:w5.frozen? ⟨R,1,none⟩=false:=aw I.out 1;have cl:B0≤gk:=bk;have bd:∃ cs,w5.heap[gk]?=some (.cells cs 154 (0,0)):=by
        rcases HQ.out.2.1.2 with ⟨h',_⟩ | ⟨g',b8,cc,h',_,b5,_⟩
        · simp at h'
        · simp only [Value.slice.injEq,Option.some.injEq,Addr.mk.injEq,and_true,true_and] at h'
          obtain ⟨rfl,-⟩:=h';exact ⟨_,b5⟩
      have a9:=hide bd;clear bd;have bh:R≠gk:=by
        obtain ⟨cs,hc⟩:=a9.out;intro e;rw [← e,I.out] at hc;cases hc
      have b3:b≠gk:=by
        obtain ⟨cs,hc⟩:=a9.out;intro e;have h:=HQ.out.2.2.1;rw [e,hc] at h;cases h
      have bs:(xs++([.string ⟨#[]⟩,.int .i64 0,.slice none 0 0,.bool false,.slice none 0 0]:List Value)).length=(m+1)*5:=HQ.out.2.1.1;have a1:xs.length=m*5:=by simp at bs;omega
      have e0:w5.cell? ⟨gk,m*5,none⟩=some (.string ⟨#[]⟩):=by rw [HQ.out.2.1.cellAt (m*5) om];simp [List.getElem?_append,a1]
      have f0:w5.frozen? ⟨gk,m*5,none⟩=false:=HQ.out.2.1.frozenAt _;have e1:w5.cell? ⟨gk,m*5+1,none⟩=some (.int .i64 0):=by rw [HQ.out.2.1.cellAt (m*5+1) om];simp [List.getElem?_append,a1]
      have f1:w5.frozen? ⟨gk,m*5+1,none⟩=false:=HQ.out.2.1.frozenAt _;have e2:w5.cell? ⟨gk,m*5+2,none⟩=some (.slice none 0 0):=by rw [HQ.out.2.1.cellAt (m*5+2) om];simp [List.getElem?_append,a1]
      have f2:w5.frozen? ⟨gk,m*5+2,none⟩=false:=HQ.out.2.1.frozenAt _;have e3:w5.cell? ⟨gk,m*5+3,none⟩=some (.bool false):=by rw [HQ.out.2.1.cellAt (m*5+3) om];simp [List.getElem?_append,a1]
      have f3:w5.frozen? ⟨gk,m*5+3,none⟩=false:=HQ.out.2.1.frozenAt _;have e4:w5.cell? ⟨gk,m*5+4,none⟩=some (.slice none 0 0):=by rw [HQ.out.2.1.cellAt (m*5+4) om];simp [List.getElem?_append,a1]
      have f4:w5.frozen? ⟨gk,m*5+4,none⟩=false:=HQ.out.2.1.frozenAt _;have cr:gk≠R:=fun e=>bh e.symm
      clear bs;go_wp2;obtain ⟨q1,q2,q3,q4,q5⟩:=HQ.out;obtain ⟨s1,a3,s3⟩:=tX q2 (.string s2) (.int .i64 ah) (.slice wa wn wc) (.bool al) (.slice ka kn kc);obtain ⟨p1, p2, p3, p4, p5, p6⟩ := kB (w := w) (i := 1) aj (s3 N w om q1) s1 ((a3 b b3).trans q3) ((a3 R bh).trans I.out) (Ne.symm a6) bw (fun B cs t ht hB hc => by
          have h:=q4 B cs t ht hB hc;refine (a3 B (fun e=>?_)).trans h;obtain ⟨cb,b4⟩:=a9.out;rw [e,b4] at h;cases h;exact ht rfl) (fun j hj hB=>(a3 j om).trans (q5 j hj hB)) (.pointer none)
      go_end0;exact ⟨rfl,p1,_,p2,p3,p4,p5,p6⟩
    · go_simp
      refine U.out _ _ (⟨ae aa.out 0,ae aa.out 1,ae G.out 0,ae G.out 1,ae G.out 2,ae G.out 3,ae G.out 4⟩) (fun _=>?_);clear U K;refine wpAnyH_ready (rs:=[7]) (by kernel_rfl) af ?_;refine AllReadyH.cons rfl (fun K U=>?_) AllReadyH.nil;go_simp;refine U.out _ _ (⟨ae aa.out 0,ae aa.out 1,ae G.out 0,ae G.out 1,ae G.out 2,ae G.out 3,ae G.out 4⟩) (fun _=>?_);clear U K;refine wpAnyH_take (i:=15) (v:=?_) rfl (by kernel_rfl) (by kernel_rfl) (by kernel_rfl) (fun _ _ _ h=>h) (Or.inl ⟨by rfl,?_⟩) (⟨ae aa.out 0,ae aa.out 1,ae G.out 0,ae G.out 1,ae G.out 2,ae G.out 3,ae G.out 4⟩) ?_
      rotate_left
      · (intro W F;obtain ⟨Y,z1,z2,z3,z4,z5,z6⟩:=F;go_simp;try with_reducible rfl)
      refine wpAnyH_ready (rs:=[17]) (by kernel_rfl) af ?_;refine AllReadyH.cons rfl (fun K U=>?_) AllReadyH.nil;refine eV w3 rfl (.tmp 11) (.tmp 20) 147 154 rfl _ 5 80 lT Tryz.underlying147 rfl aj aj B0 (.slice ad m cp) m xs (by simp [Act.eval,Act.put]) ba.out w2.heap.size [.string ⟨#[]⟩,.int .i64 0,.slice none 0 0,.bool false,.slice none 0 0] (by simp [Act.eval,Act.put]) rfl (pH (ae O.out 0) (ae O.out 1) (ae O.out 2) (ae O.out 3) (ae O.out 4)) (by intro u hu;simp at hu;rcases hu with rfl | rfl | rfl | rfl | rfl <;> rfl) om (Nat.le_trans a5 aA.out.size) ?_;intro v' w4 aq a0 V;obtain ⟨gk,ab,rfl,bk,b6,ao⟩:=bf aq om;have ac:=hide (V.2 b _ _ aj a2.out);have H:=hide (V.2 R _ _ aj aa.out);have o:=hide (V.2 g _ _ aj G.out);have bb:=hide aq;have a7:=hide a0;have a8:=hide V;clear aq a0 V ao;refine U.out _ _ (⟨ae H.out 0,ae H.out 1,ae o.out 0,ae o.out 1,ae o.out 2,ae o.out 3,ae o.out 4⟩) (fun _=>?_);clear U K;refine wpAnyH_take (i:=18) (v:=?_) rfl (by kernel_rfl) (by kernel_rfl) (by kernel_rfl) (fun _ _ _ h=>h) (Or.inl ⟨by rfl,?_⟩) (⟨ae H.out 0,ae H.out 1,ae o.out 0,ae o.out 1,ae o.out 2,ae o.out 3,ae o.out 4⟩) ?_
      rotate_left
      · (intro W F;obtain ⟨Y,z1,z2,z3,z4,z5,z6⟩:=F;go_simp;try with_reducible rfl)
      refine wpAnyH_take (i:=19) (v:=?_) rfl (by kernel_rfl) (by kernel_rfl) (by kernel_rfl) (fun _ _ _ h=>h) (Or.inl ⟨by rfl,?_⟩) (⟨ae H.out 0,ae H.out 1,ae o.out 0,ae o.out 1,ae o.out 2,ae o.out 3,ae o.out 4⟩) ?_
      rotate_left
      · (intro W F;obtain ⟨Y,z1,z2,z3,z4,z5,z6⟩:=F;go_simp;try with_reducible rfl)
      refine wpAnyH_take (i:=20) (v:=?_) rfl (by kernel_rfl) (by kernel_rfl) (by kernel_rfl) (fun _ _ _ h=>h) (Or.inl ⟨by rfl,?_⟩) (⟨ae H.out 0,ae H.out 1,ae o.out 0,ae o.out 1,ae o.out 2,ae o.out 3,ae o.out 4⟩) ?_
      rotate_left
      · (intro W F;obtain ⟨Y,z1,z2,z3,z4,z5,z6⟩:=F;go_simp;try with_reducible rfl)
      have b2:w4.cell? ⟨b,4,none⟩=some (.slice ad m cp):=ae ac.out 4;have q4:w4.frozen? ⟨b,4,none⟩=false:=aw ac.out 4;refine wpAnyH_ready (rs:=[21]) (by kernel_rfl) af ?_;refine AllReadyH.cons rfl (fun K U=>?_) AllReadyH.nil;go_simp;obtain ⟨w5,aB⟩:∃ w5,w4.setCell ⟨b,4,none⟩ (.slice (some ⟨gk,0,none⟩) (m+1) ab)=w5:=⟨_,rfl⟩;have I:=hide (bm H.out b 4 (.slice (some ⟨gk,0,none⟩) (m+1) ab) a6);have J:=hide (bm o.out b 4 (.slice (some ⟨gk,0,none⟩) (m+1) ab) (Ne.symm bX));obtain ⟨q1,q2,q3,q4,q5⟩:=gx (i:=4) (N:=N) aj aA.out a7.out a8.out bb.out ac.out a5 bx bt (.slice (some ⟨gk,0,none⟩) (m+1) ab);rw [aB] at I J q1 q2 q3 q4 q5 ⊢;have HQ:=hide (And.intro q1 (And.intro q2 (And.intro q3 (And.intro q4 q5))));clear q1 q2 q3 q4 q5 aB;refine U.out _ _ (⟨ae I.out 0,ae I.out 1,ae J.out 0,ae J.out 1,ae J.out 2,ae J.out 3,ae J.out 4⟩) (fun _=>?_);clear U K;refine wpAnyH_done (by kernel_rfl) ?_ _;go_simp;have r1:w5.cell? ⟨R,1,none⟩=some (.pointer (some ⟨g,0,none⟩)):=ae I.out 1;have r2:w5.frozen? ⟨R,1,none⟩=false:=aw I.out 1;have cl:B0≤gk:=bk;have bd:∃ cs,w5.heap[gk]?=some (.cells cs 154 (0,0)):=by
        rcases HQ.out.2.1.2 with ⟨h',_⟩ | ⟨g',b8,cc,h',_,b5,_⟩
        · simp at h'
        · simp only [Value.slice.injEq,Option.some.injEq,Addr.mk.injEq,and_true,true_and] at h'
          obtain ⟨rfl,-⟩:=h';exact ⟨_,b5⟩
      have a9:=hide bd;clear bd;have bh:R≠gk:=by
        obtain ⟨cs,hc⟩:=a9.out;intro e;rw [← e,I.out] at hc;cases hc
      have b3:b≠gk:=by
        obtain ⟨cs,hc⟩:=a9.out;intro e;have h:=HQ.out.2.2.1;rw [e,hc] at h;cases h
      have bs:(xs++([.string ⟨#[]⟩,.int .i64 0,.slice none 0 0,.bool false,.slice none 0 0]:List Value)).length=(m+1)*5:=HQ.out.2.1.1;have a1:xs.length=m*5:=by simp at bs;omega
      have e0:w5.cell? ⟨gk,m*5,none⟩=some (.string ⟨#[]⟩):=by rw [HQ.out.2.1.cellAt (m*5) om];simp [List.getElem?_append,a1]
      have f0:w5.frozen? ⟨gk,m*5,none⟩=false:=HQ.out.2.1.frozenAt _;have e1:w5.cell? ⟨gk,m*5+1,none⟩=some (.int .i64 0):=by rw [HQ.out.2.1.cellAt (m*5+1) om];simp [List.getElem?_append,a1]
      have f1:w5.frozen? ⟨gk,m*5+1,none⟩=false:=HQ.out.2.1.frozenAt _;have e2:w5.cell? ⟨gk,m*5+2,none⟩=some (.slice none 0 0):=by rw [HQ.out.2.1.cellAt (m*5+2) om];simp [List.getElem?_append,a1]
      have f2:w5.frozen? ⟨gk,m*5+2,none⟩=false:=HQ.out.2.1.frozenAt _;have e3:w5.cell? ⟨gk,m*5+3,none⟩=some (.bool false):=by rw [HQ.out.2.1.cellAt (m*5+3) om];simp [List.getElem?_append,a1]
      have f3:w5.frozen? ⟨gk,m*5+3,none⟩=false:=HQ.out.2.1.frozenAt _;have e4:w5.cell? ⟨gk,m*5+4,none⟩=some (.slice none 0 0):=by rw [HQ.out.2.1.cellAt (m*5+4) om];simp [List.getElem?_append,a1]
      have f4:w5.frozen? ⟨gk,m*5+4,none⟩=false:=HQ.out.2.1.frozenAt _;have cr:gk≠R:=fun e=>bh e.symm
      clear bs;go_wp2;obtain ⟨q1,q2,q3,q4,q5⟩:=HQ.out;obtain ⟨s1,a3,s3⟩:=tX q2 (.string s2) (.int .i64 ah) (.slice wa wn wc) (.bool al) (.slice ka kn kc);obtain ⟨p1, p2, p3, p4, p5, p6⟩ := kB (w := w) (i := 1) aj (s3 N w om q1) s1 ((a3 b b3).trans q3) ((a3 R bh).trans I.out) (Ne.symm a6) bw (fun B cs t ht hB hc => by
          have h:=q4 B cs t ht hB hc;refine (a3 B (fun e=>?_)).trans h;obtain ⟨cb,b4⟩:=a9.out;rw [e,b4] at h;cases h;exact ht rfl) (fun j hj hB=>(a3 j om).trans (q5 j hj hB)) (.pointer none)
      go_end0;exact ⟨rfl,p1,_,p2,p3,p4,p5,p6⟩
end
end Go.Proofs.YtpebkobmhhnojaaGreatDoor
