/- Lemmas. -/
import Derived.Test.YtpebkobmhhnojaaGreatDoorTp21
import Derived.Test.YtpebkobmhhnojaaGreatDoorTp25
set_option linter.unusedSimpArgs false
set_option linter.unusedVariables false
set_option maxRecDepth 100000
set_option maxHeartbeats 12800000
namespace Go.Proofs.YtpebkobmhhnojaaGreatDoor
section
open Go.RowKit Qd
def Dn:List ByteArray:=[⟨#[121,101,97,114]⟩,⟨#[104,97,108,102]⟩,⟨#[113,117,97,114,116,101,114]⟩,⟨#[112,101,114,105,111,100]⟩,⟨#[119,101,101,107]⟩]
theorem tu (w:World):Calls Tryz.prog 209 #[.string ⟨#[119,101,101,107]⟩] w fun e w'=>e=.returned (.tuple #[.int .i64 5,.int .i64 0])∧Below w w w':=by
 have H:=hide (Tryz.slices_Index_string w.heap.size 0 5 5 Dn ⟨#[119,101,101,107]⟩ (w.alloc (.cells (Dn.map Value.string).toArray 9)) aj aj (fun j h=>by rw [Nat.zero_add];exact (eC.new w Dn 9).2 j h));rw [show Lib.idxOfS (Dn.take 5) ⟨#[119,101,101,107]⟩=4 by decide +kernel] at H;go_enter Tryz.func209,Tryz.ntmps209;go_wp2_with fail;refine (H.out).mono ?_;rintro e w' ⟨rfl,rfl⟩;have f:=hide (show Below w w (w.alloc (.cells (Dn.map Value.string).toArray 9)) by (repeat' exact bel));generalize w.alloc (.cells (Dn.map Value.string).toArray 9)=x at *;go_wp2_with fail;exact bodyPost_ret (v:=.tuple #[.int .i64 5,.int .i64 0]) (by simp (maxDischargeDepth:=9) [results,Tryz.results209,go_sem]) rfl ⟨rfl,f.out⟩
abbrev Dq:Array Value:=#[.string ⟨#[]⟩,.int .i64 0,.int .i64 1,.string ⟨#[45,72]⟩,.int .i64 1,.int .i64 2,.string ⟨#[45,81]⟩,.int .i64 1,.int .i64 4,.string ⟨#[45,80]⟩,.int .i64 2,.int .i64 52,.string ⟨#[45,87]⟩,.int .i64 2,.int .i64 60]
theorem tt (w:World):Calls Tryz.prog 238 #[] w fun e w'=>e=.returned (.slice (some ⟨w,0,none⟩) 5 5)∧w.alloc (.cells Dq 341)=w':=by
 go_enter Tryz.func238,Tryz.ntmps238;go_wp2;go_ret;exact ⟨rfl,rfl⟩
theorem dG (w:World):Calls Tryz.prog 238 #[] w fun e w'=>∃ g,e=.returned (.slice (some ⟨g,0,none⟩) 5 5)∧w'.heap[g]?=some (.cells Dq 341 (0,0))∧Below w w w':=by
 refine (tt w).mono ?_;rintro e w' ⟨rfl,rfl⟩;exact ⟨_,rfl,heap_alloc_new w _,by (repeat' exact bel)⟩
theorem sZ (w:World):Calls Tryz.prog 240 #[.agg #[.int .i64 5,.int .i64 2023,.int .i64 53]] w fun e w'=>e=.returned (.bool true)∧Below w w w':=by
 have f:=hide (show (w.alloc (.cells #[.int .i64 5,.int .i64 2023,.int .i64 53] 33)).drew.heap[w.heap.size]?=_ from heap_alloc_new w _);have V:=hide (show Below w w (w.alloc (.cells #[.int .i64 5,.int .i64 2023,.int .i64 53] 33)).drew by (repeat' exact bel));have aa:IntKind.i64.wrap 4=4:=by decide
 go_enter Tryz.func240,Tryz.ntmps240;go_wp2_with fail;refine wp_region_held_drew (S:=fun w'=>w'.cell? ⟨w,0,none⟩=some (.int .i64 5)∧w'.cell? ⟨w,1,none⟩=some (.int .i64 2023)∧w'.cell? ⟨w,2,none⟩=some (.int .i64 53)) (by kernel_rfl) ⟨ae f.out 0,ae f.out 1,ae f.out 2⟩ (fun _=>?_);generalize (w.alloc (.cells #[.int .i64 5,.int .i64 2023,.int .i64 53] 33)).drew=x at *;refine wpAnyH_take (i:=0) (v:=?_) rfl (by kernel_rfl) (by kernel_rfl) (by kernel_rfl) (fun _ _ _ h=>h) (Or.inl ⟨by kernel_rfl,?_⟩) (⟨ae f.out 0,ae f.out 1,ae f.out 2⟩) ?_
 rotate_left
 ·(intro F o;obtain ⟨G,H,I⟩:=o;go_simp;try with_reducible rfl)
 refine wpAnyH_take (i:=1) (v:=?_) rfl (by kernel_rfl) (by kernel_rfl) (by kernel_rfl) (fun _ _ _ h=>h) (Or.inl ⟨by kernel_rfl,?_⟩) (⟨ae f.out 0,ae f.out 1,ae f.out 2⟩) ?_
 rotate_left
 ·(intro F o;obtain ⟨G,H,I⟩:=o;go_simp;try with_reducible rfl)
 refine wpAnyH_take (i:=2) (v:=?_) rfl (by kernel_rfl) (by kernel_rfl) (by kernel_rfl) (fun _ _ _ h=>h) (Or.inl ⟨by kernel_rfl,?_⟩) (⟨ae f.out 0,ae f.out 1,ae f.out 2⟩) ?_
 rotate_left
 ·(intro F o;obtain ⟨G,H,I⟩:=o;go_simp;try with_reducible rfl)
 refine wpAnyH_take (i:=3) (v:=?_) rfl (by kernel_rfl) (by kernel_rfl) (by kernel_rfl) (fun _ _ _ h=>h) (Or.inl ⟨by kernel_rfl,?_⟩) (⟨ae f.out 0,ae f.out 1,ae f.out 2⟩) ?_
 rotate_left
 ·(intro F o;obtain ⟨G,H,I⟩:=o;go_simp;try with_reducible rfl)
 refine wpAnyH_take (i:=4) (v:=?_) rfl (by kernel_rfl) (by kernel_rfl) (by kernel_rfl) (fun _ _ _ h=>h) (Or.inl ⟨by kernel_rfl,?_⟩) (⟨ae f.out 0,ae f.out 1,ae f.out 2⟩) ?_
 rotate_left
 ·(intro F o;obtain ⟨G,H,I⟩:=o;go_simp;try with_reducible rfl)
 refine wpAnyH_take (i:=5) (v:=?_) rfl (by kernel_rfl) (by kernel_rfl) (by kernel_rfl) (fun _ _ _ h=>h) (Or.inl ⟨by kernel_rfl,?_⟩) (⟨ae f.out 0,ae f.out 1,ae f.out 2⟩) ?_
 rotate_left
 ·(intro F o;obtain ⟨G,H,I⟩:=o;go_simp;try with_reducible rfl)
 refine wpAnyH_take (i:=6) (v:=?_) rfl (by kernel_rfl) (by kernel_rfl) (by kernel_rfl) (fun _ _ _ h=>h) (Or.inl ⟨by kernel_rfl,?_⟩) (⟨ae f.out 0,ae f.out 1,ae f.out 2⟩) ?_
 rotate_left
 ·(intro F o;obtain ⟨G,H,I⟩:=o;go_simp;try with_reducible rfl)
 refine wpAnyH_take (i:=7) (v:=?_) rfl (by kernel_rfl) (by kernel_rfl) (by kernel_rfl) (fun _ _ _ h=>h) (Or.inl ⟨by kernel_rfl,?_⟩) (⟨ae f.out 0,ae f.out 1,ae f.out 2⟩) ?_
 rotate_left
 ·(intro F o;obtain ⟨G,H,I⟩:=o;go_simp;try with_reducible rfl)
 refine wpAnyH_take (i:=8) (v:=?_) rfl (by kernel_rfl) (by kernel_rfl) (by kernel_rfl) (fun _ _ _ h=>h) (Or.inl ⟨by kernel_rfl,?_⟩) (⟨ae f.out 0,ae f.out 1,ae f.out 2⟩) ?_
 rotate_left
 ·(intro F o;obtain ⟨G,H,I⟩:=o;go_simp;try with_reducible rfl)
 refine wpAnyH_take (i:=9) (v:=?_) rfl (by kernel_rfl) (by kernel_rfl) (by kernel_rfl) (fun _ _ _ h=>h) (Or.inl ⟨by kernel_rfl,?_⟩) (⟨ae f.out 0,ae f.out 1,ae f.out 2⟩) ?_
 rotate_left
 ·(intro F o;obtain ⟨G,H,I⟩:=o;go_simp;try with_reducible rfl)
 refine wpAnyH_take (i:=10) (v:=?_) rfl (by kernel_rfl) (by kernel_rfl) (by kernel_rfl) (fun _ _ _ h=>h) (Or.inl ⟨by kernel_rfl,?_⟩) (⟨ae f.out 0,ae f.out 1,ae f.out 2⟩) ?_
 rotate_left
 ·(intro F o;obtain ⟨G,H,I⟩:=o;go_simp;try with_reducible rfl)
 refine wpAnyH_take (i:=11) (v:=?_) rfl (by kernel_rfl) (by kernel_rfl) (by kernel_rfl) (fun _ _ _ h=>h) (Or.inl ⟨by kernel_rfl,?_⟩) (⟨ae f.out 0,ae f.out 1,ae f.out 2⟩) ?_
 rotate_left
 ·(intro F o;obtain ⟨G,H,I⟩:=o;go_simp;try with_reducible rfl)
 refine wpAnyH_take (i:=12) (v:=?_) rfl (by kernel_rfl) (by kernel_rfl) (by kernel_rfl) (fun _ _ _ h=>h) (Or.inl ⟨by kernel_rfl,?_⟩) (⟨ae f.out 0,ae f.out 1,ae f.out 2⟩) ?_
 rotate_left
 ·(intro F o;obtain ⟨G,H,I⟩:=o;go_simp;try with_reducible rfl)
 refine wpAnyH_take (i:=13) (v:=?_) rfl (by kernel_rfl) (by kernel_rfl) (by kernel_rfl) (fun _ _ _ h=>h) (Or.inl ⟨by kernel_rfl,?_⟩) (⟨ae f.out 0,ae f.out 1,ae f.out 2⟩) ?_
 rotate_left
 ·(intro F o;obtain ⟨G,H,I⟩:=o;go_simp;try with_reducible rfl)
 refine wpAnyH_take (i:=14) (v:=?_) rfl (by kernel_rfl) (by kernel_rfl) (by kernel_rfl) (fun _ _ _ h=>h) (Or.inl ⟨by kernel_rfl,?_⟩) (⟨ae f.out 0,ae f.out 1,ae f.out 2⟩) ?_
 rotate_left
 ·(intro F o;obtain ⟨G,H,I⟩:=o;go_simp;try with_reducible rfl)
 refine wpAnyH_take (i:=15) (v:=?_) rfl (by kernel_rfl) (by kernel_rfl) (by kernel_rfl) (fun _ _ _ h=>h) (Or.inl ⟨by kernel_rfl,?_⟩) (⟨ae f.out 0,ae f.out 1,ae f.out 2⟩) ?_
 rotate_left
 ·(intro F o;obtain ⟨G,H,I⟩:=o;go_simp;try with_reducible rfl)
 refine wpAnyH_take (i:=16) (v:=?_) rfl (by kernel_rfl) (by kernel_rfl) (by kernel_rfl) (fun _ _ _ h=>h) (Or.inl ⟨by kernel_rfl,?_⟩) (⟨ae f.out 0,ae f.out 1,ae f.out 2⟩) ?_
 rotate_left
 ·(intro F o;obtain ⟨G,H,I⟩:=o;go_simp;try with_reducible rfl)
 refine wpAnyH_take (i:=17) (v:=?_) rfl (by kernel_rfl) (by kernel_rfl) (by kernel_rfl) (fun _ _ _ h=>h) (Or.inl ⟨by kernel_rfl,?_⟩) (⟨ae f.out 0,ae f.out 1,ae f.out 2⟩) ?_
 rotate_left
 ·(intro F o;obtain ⟨G,H,I⟩:=o;go_simp;try with_reducible rfl)
 refine wpAnyH_take (i:=18) (v:=?_) rfl (by kernel_rfl) (by kernel_rfl) (by kernel_rfl) (fun _ _ _ h=>h) (Or.inl ⟨by kernel_rfl,?_⟩) (⟨ae f.out 0,ae f.out 1,ae f.out 2⟩) ?_
 rotate_left
 ·(intro F o;obtain ⟨G,H,I⟩:=o;go_simp;try with_reducible rfl)
 refine wpAnyH_take (i:=19) (v:=?_) rfl (by kernel_rfl) (by kernel_rfl) (by kernel_rfl) (fun _ _ _ h=>h) (Or.inl ⟨by kernel_rfl,?_⟩) (⟨ae f.out 0,ae f.out 1,ae f.out 2⟩) ?_
 rotate_left
 ·(intro F o;obtain ⟨G,H,I⟩:=o;go_simp;try with_reducible rfl)
 refine wpAnyH_take (i:=20) (v:=?_) rfl (by kernel_rfl) (by kernel_rfl) (by kernel_rfl) (fun _ _ _ h=>h) (Or.inl ⟨by kernel_rfl,?_⟩) (⟨ae f.out 0,ae f.out 1,ae f.out 2⟩) ?_
 rotate_left
 ·(intro F o;obtain ⟨G,H,I⟩:=o;go_simp;try with_reducible rfl)
 refine wpAnyH_take (i:=21) (v:=?_) rfl (by kernel_rfl) (by kernel_rfl) (by kernel_rfl) (fun _ _ _ h=>h) (Or.inl ⟨by kernel_rfl,?_⟩) (⟨ae f.out 0,ae f.out 1,ae f.out 2⟩) ?_
 rotate_left
 ·(intro F o;obtain ⟨G,H,I⟩:=o;go_simp;try with_reducible rfl)
 refine wpAnyH_take (i:=22) (v:=?_) rfl (by kernel_rfl) (by kernel_rfl) (by kernel_rfl) (fun _ _ _ h=>h) (Or.inl ⟨by kernel_rfl,?_⟩) (⟨ae f.out 0,ae f.out 1,ae f.out 2⟩) ?_
 rotate_left
 ·(intro F o;obtain ⟨G,H,I⟩:=o;go_simp;try with_reducible rfl)
 refine wpAnyH_take (i:=23) (v:=?_) rfl (by kernel_rfl) (by kernel_rfl) (by kernel_rfl) (fun _ _ _ h=>h) (Or.inl ⟨by kernel_rfl,?_⟩) (⟨ae f.out 0,ae f.out 1,ae f.out 2⟩) ?_
 rotate_left
 ·(intro F o;obtain ⟨G,H,I⟩:=o;go_simp;try with_reducible rfl)
 refine wpAnyH_take (i:=24) (v:=?_) rfl (by kernel_rfl) (by kernel_rfl) (by kernel_rfl) (fun _ _ _ h=>h) (Or.inl ⟨by kernel_rfl,?_⟩) (⟨ae f.out 0,ae f.out 1,ae f.out 2⟩) ?_
 rotate_left
 ·(intro F o;obtain ⟨G,H,I⟩:=o;go_simp;try with_reducible rfl)
 refine wpAnyH_take (i:=25) (v:=?_) rfl (by kernel_rfl) (by kernel_rfl) (by kernel_rfl) (fun _ _ _ h=>h) (Or.inl ⟨by kernel_rfl,?_⟩) (⟨ae f.out 0,ae f.out 1,ae f.out 2⟩) ?_
 rotate_left
 ·(intro F o;obtain ⟨G,H,I⟩:=o;go_simp;try with_reducible rfl)
 refine wpAnyH_take (i:=27) (v:=?_) rfl (by kernel_rfl) (by kernel_rfl) (by kernel_rfl) (fun _ _ _ h=>h) (Or.inl ⟨by kernel_rfl,?_⟩) (⟨ae f.out 0,ae f.out 1,ae f.out 2⟩) ?_
 rotate_left
 ·(intro F o;obtain ⟨G,H,I⟩:=o;go_simp;try with_reducible rfl)
 refine wpAnyH_take (i:=28) (v:=?_) rfl (by kernel_rfl) (by kernel_rfl) (by kernel_rfl) (fun _ _ _ h=>h) (Or.inl ⟨by kernel_rfl,?_⟩) (⟨ae f.out 0,ae f.out 1,ae f.out 2⟩) ?_
 rotate_left
 ·(intro F o;obtain ⟨G,H,I⟩:=o;go_simp;try with_reducible rfl)
 refine wpAnyH_take (i:=29) (v:=?_) rfl (by kernel_rfl) (by kernel_rfl) (by kernel_rfl) (fun _ _ _ h=>h) (Or.inl ⟨by kernel_rfl,?_⟩) (⟨ae f.out 0,ae f.out 1,ae f.out 2⟩) ?_
 rotate_left
 ·(intro F o;obtain ⟨G,H,I⟩:=o;go_simp;try with_reducible rfl)
 refine wpAnyH_ready (rs:=[26]) (by kernel_rfl) af ?_;refine AllReadyH.cons rfl (fun K J=>?_) AllReadyH.nil;go_simp;refine (dG _).mono ?_;rintro e y ⟨g,rfl,W,U⟩;have E:=hide ((U.block w.heap.size (Array.getElem?_eq_some_iff.1 f.out).1).trans f.out);have O:=hide (V.out.trans (U.mono V.out.size));have HF:=hide W;clear U W;refine J.out _ _ (⟨ae E.out 0,ae E.out 1,ae E.out 2⟩) (fun _=>?_);clear J K;refine wpAnyH_take (i:=30) (v:=?_) rfl (by kernel_rfl) (by kernel_rfl) (by kernel_rfl) (fun _ _ _ h=>h) (Or.inl ⟨by kernel_rfl,?_⟩) (⟨ae E.out 0,ae E.out 1,ae E.out 2⟩) ?_
 rotate_left
 ·(intro F o;obtain ⟨G,H,I⟩:=o;go_simp;try with_reducible rfl)
 refine wpAnyH_take (i:=31) (v:=?_) rfl (by kernel_rfl) (by kernel_rfl) (by kernel_rfl) (fun _ _ _ h=>h) (Or.inl ⟨by kernel_rfl,?_⟩) (⟨ae E.out 0,ae E.out 1,ae E.out 2⟩) ?_
 rotate_left
 ·(intro F o;obtain ⟨G,H,I⟩:=o;go_simp;try with_reducible rfl)
 have Y:y.cell? ⟨g,14,none⟩=some (.int .i64 60):=ae HF.out 14;refine wpAnyH_ready (rs:=[32]) (by kernel_rfl) af ?_;refine AllReadyH.cons rfl (fun K J=>?_) AllReadyH.nil;go_simp;refine J.out _ _ (⟨ae E.out 0,ae E.out 1,ae E.out 2⟩) (fun _=>?_);clear J K;refine wpAnyH_take (i:=33) (v:=?_) rfl (by kernel_rfl) (by kernel_rfl) (by kernel_rfl) (fun _ _ _ h=>h) (Or.inl ⟨by kernel_rfl,?_⟩) (⟨ae E.out 0,ae E.out 1,ae E.out 2⟩) ?_
 rotate_left
 ·(intro F o;obtain ⟨G,H,I⟩:=o;go_simp;try with_reducible rfl)
 refine wpAnyH_take (i:=34) (v:=?_) rfl (by kernel_rfl) (by kernel_rfl) (by kernel_rfl) (fun _ _ _ h=>h) (Or.inl ⟨by kernel_rfl,?_⟩) (⟨ae E.out 0,ae E.out 1,ae E.out 2⟩) ?_
 rotate_left
 ·(intro F o;obtain ⟨G,H,I⟩:=o;go_simp;try with_reducible rfl)
 refine wpAnyH_take (i:=35) (v:=?_) rfl (by kernel_rfl) (by kernel_rfl) (by kernel_rfl) (fun _ _ _ h=>h) (Or.inl ⟨by kernel_rfl,?_⟩) (⟨ae E.out 0,ae E.out 1,ae E.out 2⟩) ?_
 rotate_left
 ·(intro F o;obtain ⟨G,H,I⟩:=o;go_simp;try with_reducible rfl)
 refine wpAnyH_done (by kernel_rfl) ?_ _;go_simp;go_wp2_with fail;go_ret;exact ⟨rfl,O.out⟩
theorem vB (w:World):Calls Tryz.prog 240 #[.agg #[.int .i64 5,.int .i64 2023,.int .i64 1]] w fun e w'=>e=.returned (.bool true)∧Below w w w':=by
 have f:=hide (show (w.alloc (.cells #[.int .i64 5,.int .i64 2023,.int .i64 1] 33)).drew.heap[w.heap.size]?=_ from heap_alloc_new w _);have V:=hide (show Below w w (w.alloc (.cells #[.int .i64 5,.int .i64 2023,.int .i64 1] 33)).drew by (repeat' exact bel));have aa:IntKind.i64.wrap 4=4:=by decide
 go_enter Tryz.func240,Tryz.ntmps240;go_wp2_with fail;refine wp_region_held_drew (S:=fun w'=>w'.cell? ⟨w,0,none⟩=some (.int .i64 5)∧w'.cell? ⟨w,1,none⟩=some (.int .i64 2023)∧w'.cell? ⟨w,2,none⟩=some (.int .i64 1)) (by kernel_rfl) ⟨ae f.out 0,ae f.out 1,ae f.out 2⟩ (fun _=>?_);generalize (w.alloc (.cells #[.int .i64 5,.int .i64 2023,.int .i64 1] 33)).drew=x at *;refine wpAnyH_take (i:=0) (v:=?_) rfl (by kernel_rfl) (by kernel_rfl) (by kernel_rfl) (fun _ _ _ h=>h) (Or.inl ⟨by kernel_rfl,?_⟩) (⟨ae f.out 0,ae f.out 1,ae f.out 2⟩) ?_
 rotate_left
 ·(intro F o;obtain ⟨G,H,I⟩:=o;go_simp;try with_reducible rfl)
 refine wpAnyH_take (i:=1) (v:=?_) rfl (by kernel_rfl) (by kernel_rfl) (by kernel_rfl) (fun _ _ _ h=>h) (Or.inl ⟨by kernel_rfl,?_⟩) (⟨ae f.out 0,ae f.out 1,ae f.out 2⟩) ?_
 rotate_left
 ·(intro F o;obtain ⟨G,H,I⟩:=o;go_simp;try with_reducible rfl)
 refine wpAnyH_take (i:=2) (v:=?_) rfl (by kernel_rfl) (by kernel_rfl) (by kernel_rfl) (fun _ _ _ h=>h) (Or.inl ⟨by kernel_rfl,?_⟩) (⟨ae f.out 0,ae f.out 1,ae f.out 2⟩) ?_
 rotate_left
 ·(intro F o;obtain ⟨G,H,I⟩:=o;go_simp;try with_reducible rfl)
 refine wpAnyH_take (i:=3) (v:=?_) rfl (by kernel_rfl) (by kernel_rfl) (by kernel_rfl) (fun _ _ _ h=>h) (Or.inl ⟨by kernel_rfl,?_⟩) (⟨ae f.out 0,ae f.out 1,ae f.out 2⟩) ?_
 rotate_left
 ·(intro F o;obtain ⟨G,H,I⟩:=o;go_simp;try with_reducible rfl)
 refine wpAnyH_take (i:=4) (v:=?_) rfl (by kernel_rfl) (by kernel_rfl) (by kernel_rfl) (fun _ _ _ h=>h) (Or.inl ⟨by kernel_rfl,?_⟩) (⟨ae f.out 0,ae f.out 1,ae f.out 2⟩) ?_
 rotate_left
 ·(intro F o;obtain ⟨G,H,I⟩:=o;go_simp;try with_reducible rfl)
 refine wpAnyH_take (i:=5) (v:=?_) rfl (by kernel_rfl) (by kernel_rfl) (by kernel_rfl) (fun _ _ _ h=>h) (Or.inl ⟨by kernel_rfl,?_⟩) (⟨ae f.out 0,ae f.out 1,ae f.out 2⟩) ?_
 rotate_left
 ·(intro F o;obtain ⟨G,H,I⟩:=o;go_simp;try with_reducible rfl)
 refine wpAnyH_take (i:=6) (v:=?_) rfl (by kernel_rfl) (by kernel_rfl) (by kernel_rfl) (fun _ _ _ h=>h) (Or.inl ⟨by kernel_rfl,?_⟩) (⟨ae f.out 0,ae f.out 1,ae f.out 2⟩) ?_
 rotate_left
 ·(intro F o;obtain ⟨G,H,I⟩:=o;go_simp;try with_reducible rfl)
 refine wpAnyH_take (i:=7) (v:=?_) rfl (by kernel_rfl) (by kernel_rfl) (by kernel_rfl) (fun _ _ _ h=>h) (Or.inl ⟨by kernel_rfl,?_⟩) (⟨ae f.out 0,ae f.out 1,ae f.out 2⟩) ?_
 rotate_left
 ·(intro F o;obtain ⟨G,H,I⟩:=o;go_simp;try with_reducible rfl)
 refine wpAnyH_take (i:=8) (v:=?_) rfl (by kernel_rfl) (by kernel_rfl) (by kernel_rfl) (fun _ _ _ h=>h) (Or.inl ⟨by kernel_rfl,?_⟩) (⟨ae f.out 0,ae f.out 1,ae f.out 2⟩) ?_
 rotate_left
 ·(intro F o;obtain ⟨G,H,I⟩:=o;go_simp;try with_reducible rfl)
 refine wpAnyH_take (i:=9) (v:=?_) rfl (by kernel_rfl) (by kernel_rfl) (by kernel_rfl) (fun _ _ _ h=>h) (Or.inl ⟨by kernel_rfl,?_⟩) (⟨ae f.out 0,ae f.out 1,ae f.out 2⟩) ?_
 rotate_left
 ·(intro F o;obtain ⟨G,H,I⟩:=o;go_simp;try with_reducible rfl)
 refine wpAnyH_take (i:=10) (v:=?_) rfl (by kernel_rfl) (by kernel_rfl) (by kernel_rfl) (fun _ _ _ h=>h) (Or.inl ⟨by kernel_rfl,?_⟩) (⟨ae f.out 0,ae f.out 1,ae f.out 2⟩) ?_
 rotate_left
 ·(intro F o;obtain ⟨G,H,I⟩:=o;go_simp;try with_reducible rfl)
 refine wpAnyH_take (i:=11) (v:=?_) rfl (by kernel_rfl) (by kernel_rfl) (by kernel_rfl) (fun _ _ _ h=>h) (Or.inl ⟨by kernel_rfl,?_⟩) (⟨ae f.out 0,ae f.out 1,ae f.out 2⟩) ?_
 rotate_left
 ·(intro F o;obtain ⟨G,H,I⟩:=o;go_simp;try with_reducible rfl)
 refine wpAnyH_take (i:=12) (v:=?_) rfl (by kernel_rfl) (by kernel_rfl) (by kernel_rfl) (fun _ _ _ h=>h) (Or.inl ⟨by kernel_rfl,?_⟩) (⟨ae f.out 0,ae f.out 1,ae f.out 2⟩) ?_
 rotate_left
 ·(intro F o;obtain ⟨G,H,I⟩:=o;go_simp;try with_reducible rfl)
 refine wpAnyH_take (i:=13) (v:=?_) rfl (by kernel_rfl) (by kernel_rfl) (by kernel_rfl) (fun _ _ _ h=>h) (Or.inl ⟨by kernel_rfl,?_⟩) (⟨ae f.out 0,ae f.out 1,ae f.out 2⟩) ?_
 rotate_left
 ·(intro F o;obtain ⟨G,H,I⟩:=o;go_simp;try with_reducible rfl)
 refine wpAnyH_take (i:=14) (v:=?_) rfl (by kernel_rfl) (by kernel_rfl) (by kernel_rfl) (fun _ _ _ h=>h) (Or.inl ⟨by kernel_rfl,?_⟩) (⟨ae f.out 0,ae f.out 1,ae f.out 2⟩) ?_
 rotate_left
 ·(intro F o;obtain ⟨G,H,I⟩:=o;go_simp;try with_reducible rfl)
 refine wpAnyH_take (i:=15) (v:=?_) rfl (by kernel_rfl) (by kernel_rfl) (by kernel_rfl) (fun _ _ _ h=>h) (Or.inl ⟨by kernel_rfl,?_⟩) (⟨ae f.out 0,ae f.out 1,ae f.out 2⟩) ?_
 rotate_left
 ·(intro F o;obtain ⟨G,H,I⟩:=o;go_simp;try with_reducible rfl)
 refine wpAnyH_take (i:=16) (v:=?_) rfl (by kernel_rfl) (by kernel_rfl) (by kernel_rfl) (fun _ _ _ h=>h) (Or.inl ⟨by kernel_rfl,?_⟩) (⟨ae f.out 0,ae f.out 1,ae f.out 2⟩) ?_
 rotate_left
 ·(intro F o;obtain ⟨G,H,I⟩:=o;go_simp;try with_reducible rfl)
 refine wpAnyH_take (i:=17) (v:=?_) rfl (by kernel_rfl) (by kernel_rfl) (by kernel_rfl) (fun _ _ _ h=>h) (Or.inl ⟨by kernel_rfl,?_⟩) (⟨ae f.out 0,ae f.out 1,ae f.out 2⟩) ?_
 rotate_left
 ·(intro F o;obtain ⟨G,H,I⟩:=o;go_simp;try with_reducible rfl)
 refine wpAnyH_take (i:=18) (v:=?_) rfl (by kernel_rfl) (by kernel_rfl) (by kernel_rfl) (fun _ _ _ h=>h) (Or.inl ⟨by kernel_rfl,?_⟩) (⟨ae f.out 0,ae f.out 1,ae f.out 2⟩) ?_
 rotate_left
 ·(intro F o;obtain ⟨G,H,I⟩:=o;go_simp;try with_reducible rfl)
 refine wpAnyH_take (i:=19) (v:=?_) rfl (by kernel_rfl) (by kernel_rfl) (by kernel_rfl) (fun _ _ _ h=>h) (Or.inl ⟨by kernel_rfl,?_⟩) (⟨ae f.out 0,ae f.out 1,ae f.out 2⟩) ?_
 rotate_left
 ·(intro F o;obtain ⟨G,H,I⟩:=o;go_simp;try with_reducible rfl)
 refine wpAnyH_take (i:=20) (v:=?_) rfl (by kernel_rfl) (by kernel_rfl) (by kernel_rfl) (fun _ _ _ h=>h) (Or.inl ⟨by kernel_rfl,?_⟩) (⟨ae f.out 0,ae f.out 1,ae f.out 2⟩) ?_
 rotate_left
 ·(intro F o;obtain ⟨G,H,I⟩:=o;go_simp;try with_reducible rfl)
 refine wpAnyH_take (i:=21) (v:=?_) rfl (by kernel_rfl) (by kernel_rfl) (by kernel_rfl) (fun _ _ _ h=>h) (Or.inl ⟨by kernel_rfl,?_⟩) (⟨ae f.out 0,ae f.out 1,ae f.out 2⟩) ?_
 rotate_left
 ·(intro F o;obtain ⟨G,H,I⟩:=o;go_simp;try with_reducible rfl)
 refine wpAnyH_take (i:=22) (v:=?_) rfl (by kernel_rfl) (by kernel_rfl) (by kernel_rfl) (fun _ _ _ h=>h) (Or.inl ⟨by kernel_rfl,?_⟩) (⟨ae f.out 0,ae f.out 1,ae f.out 2⟩) ?_
 rotate_left
 ·(intro F o;obtain ⟨G,H,I⟩:=o;go_simp;try with_reducible rfl)
 refine wpAnyH_take (i:=23) (v:=?_) rfl (by kernel_rfl) (by kernel_rfl) (by kernel_rfl) (fun _ _ _ h=>h) (Or.inl ⟨by kernel_rfl,?_⟩) (⟨ae f.out 0,ae f.out 1,ae f.out 2⟩) ?_
 rotate_left
 ·(intro F o;obtain ⟨G,H,I⟩:=o;go_simp;try with_reducible rfl)
 refine wpAnyH_take (i:=24) (v:=?_) rfl (by kernel_rfl) (by kernel_rfl) (by kernel_rfl) (fun _ _ _ h=>h) (Or.inl ⟨by kernel_rfl,?_⟩) (⟨ae f.out 0,ae f.out 1,ae f.out 2⟩) ?_
 rotate_left
 ·(intro F o;obtain ⟨G,H,I⟩:=o;go_simp;try with_reducible rfl)
 refine wpAnyH_take (i:=25) (v:=?_) rfl (by kernel_rfl) (by kernel_rfl) (by kernel_rfl) (fun _ _ _ h=>h) (Or.inl ⟨by kernel_rfl,?_⟩) (⟨ae f.out 0,ae f.out 1,ae f.out 2⟩) ?_
 rotate_left
 ·(intro F o;obtain ⟨G,H,I⟩:=o;go_simp;try with_reducible rfl)
 refine wpAnyH_take (i:=27) (v:=?_) rfl (by kernel_rfl) (by kernel_rfl) (by kernel_rfl) (fun _ _ _ h=>h) (Or.inl ⟨by kernel_rfl,?_⟩) (⟨ae f.out 0,ae f.out 1,ae f.out 2⟩) ?_
 rotate_left
 ·(intro F o;obtain ⟨G,H,I⟩:=o;go_simp;try with_reducible rfl)
 refine wpAnyH_take (i:=28) (v:=?_) rfl (by kernel_rfl) (by kernel_rfl) (by kernel_rfl) (fun _ _ _ h=>h) (Or.inl ⟨by kernel_rfl,?_⟩) (⟨ae f.out 0,ae f.out 1,ae f.out 2⟩) ?_
 rotate_left
 ·(intro F o;obtain ⟨G,H,I⟩:=o;go_simp;try with_reducible rfl)
 refine wpAnyH_take (i:=29) (v:=?_) rfl (by kernel_rfl) (by kernel_rfl) (by kernel_rfl) (fun _ _ _ h=>h) (Or.inl ⟨by kernel_rfl,?_⟩) (⟨ae f.out 0,ae f.out 1,ae f.out 2⟩) ?_
 rotate_left
 ·(intro F o;obtain ⟨G,H,I⟩:=o;go_simp;try with_reducible rfl)
 refine wpAnyH_ready (rs:=[26]) (by kernel_rfl) af ?_;refine AllReadyH.cons rfl (fun K J=>?_) AllReadyH.nil;go_simp;refine (dG _).mono ?_;rintro e y ⟨g,rfl,W,U⟩;have E:=hide ((U.block w.heap.size (Array.getElem?_eq_some_iff.1 f.out).1).trans f.out);have O:=hide (V.out.trans (U.mono V.out.size));have HF:=hide W;clear U W;refine J.out _ _ (⟨ae E.out 0,ae E.out 1,ae E.out 2⟩) (fun _=>?_);clear J K;refine wpAnyH_take (i:=30) (v:=?_) rfl (by kernel_rfl) (by kernel_rfl) (by kernel_rfl) (fun _ _ _ h=>h) (Or.inl ⟨by kernel_rfl,?_⟩) (⟨ae E.out 0,ae E.out 1,ae E.out 2⟩) ?_
 rotate_left
 ·(intro F o;obtain ⟨G,H,I⟩:=o;go_simp;try with_reducible rfl)
 refine wpAnyH_take (i:=31) (v:=?_) rfl (by kernel_rfl) (by kernel_rfl) (by kernel_rfl) (fun _ _ _ h=>h) (Or.inl ⟨by kernel_rfl,?_⟩) (⟨ae E.out 0,ae E.out 1,ae E.out 2⟩) ?_
 rotate_left
 ·(intro F o;obtain ⟨G,H,I⟩:=o;go_simp;try with_reducible rfl)
 have Y:y.cell? ⟨g,14,none⟩=some (.int .i64 60):=ae HF.out 14;refine wpAnyH_ready (rs:=[32]) (by kernel_rfl) af ?_;refine AllReadyH.cons rfl (fun K J=>?_) AllReadyH.nil;go_simp;refine J.out _ _ (⟨ae E.out 0,ae E.out 1,ae E.out 2⟩) (fun _=>?_);clear J K;refine wpAnyH_take (i:=33) (v:=?_) rfl (by kernel_rfl) (by kernel_rfl) (by kernel_rfl) (fun _ _ _ h=>h) (Or.inl ⟨by kernel_rfl,?_⟩) (⟨ae E.out 0,ae E.out 1,ae E.out 2⟩) ?_
 rotate_left
 ·(intro F o;obtain ⟨G,H,I⟩:=o;go_simp;try with_reducible rfl)
 refine wpAnyH_take (i:=34) (v:=?_) rfl (by kernel_rfl) (by kernel_rfl) (by kernel_rfl) (fun _ _ _ h=>h) (Or.inl ⟨by kernel_rfl,?_⟩) (⟨ae E.out 0,ae E.out 1,ae E.out 2⟩) ?_
 rotate_left
 ·(intro F o;obtain ⟨G,H,I⟩:=o;go_simp;try with_reducible rfl)
 refine wpAnyH_take (i:=35) (v:=?_) rfl (by kernel_rfl) (by kernel_rfl) (by kernel_rfl) (fun _ _ _ h=>h) (Or.inl ⟨by kernel_rfl,?_⟩) (⟨ae E.out 0,ae E.out 1,ae E.out 2⟩) ?_
 rotate_left
 ·(intro F o;obtain ⟨G,H,I⟩:=o;go_simp;try with_reducible rfl)
 refine wpAnyH_done (by kernel_rfl) ?_ _;go_simp;go_wp2_with fail;go_ret;exact ⟨rfl,O.out⟩
theorem wi (w:World):Calls Tryz.prog 240 #[.agg #[.int .i64 5,.int .i64 2023,.int .i64 2]] w fun e w'=>e=.returned (.bool true)∧Below w w w':=by
 have f:=hide (show (w.alloc (.cells #[.int .i64 5,.int .i64 2023,.int .i64 2] 33)).drew.heap[w.heap.size]?=_ from heap_alloc_new w _);have V:=hide (show Below w w (w.alloc (.cells #[.int .i64 5,.int .i64 2023,.int .i64 2] 33)).drew by (repeat' exact bel));have aa:IntKind.i64.wrap 4=4:=by decide
 go_enter Tryz.func240,Tryz.ntmps240;go_wp2_with fail;refine wp_region_held_drew (S:=fun w'=>w'.cell? ⟨w,0,none⟩=some (.int .i64 5)∧w'.cell? ⟨w,1,none⟩=some (.int .i64 2023)∧w'.cell? ⟨w,2,none⟩=some (.int .i64 2)) (by kernel_rfl) ⟨ae f.out 0,ae f.out 1,ae f.out 2⟩ (fun _=>?_);generalize (w.alloc (.cells #[.int .i64 5,.int .i64 2023,.int .i64 2] 33)).drew=x at *;refine wpAnyH_take (i:=0) (v:=?_) rfl (by kernel_rfl) (by kernel_rfl) (by kernel_rfl) (fun _ _ _ h=>h) (Or.inl ⟨by kernel_rfl,?_⟩) (⟨ae f.out 0,ae f.out 1,ae f.out 2⟩) ?_
 rotate_left
 ·(intro F o;obtain ⟨G,H,I⟩:=o;go_simp;try with_reducible rfl)
 refine wpAnyH_take (i:=1) (v:=?_) rfl (by kernel_rfl) (by kernel_rfl) (by kernel_rfl) (fun _ _ _ h=>h) (Or.inl ⟨by kernel_rfl,?_⟩) (⟨ae f.out 0,ae f.out 1,ae f.out 2⟩) ?_
 rotate_left
 ·(intro F o;obtain ⟨G,H,I⟩:=o;go_simp;try with_reducible rfl)
 refine wpAnyH_take (i:=2) (v:=?_) rfl (by kernel_rfl) (by kernel_rfl) (by kernel_rfl) (fun _ _ _ h=>h) (Or.inl ⟨by kernel_rfl,?_⟩) (⟨ae f.out 0,ae f.out 1,ae f.out 2⟩) ?_
 rotate_left
 ·(intro F o;obtain ⟨G,H,I⟩:=o;go_simp;try with_reducible rfl)
 refine wpAnyH_take (i:=3) (v:=?_) rfl (by kernel_rfl) (by kernel_rfl) (by kernel_rfl) (fun _ _ _ h=>h) (Or.inl ⟨by kernel_rfl,?_⟩) (⟨ae f.out 0,ae f.out 1,ae f.out 2⟩) ?_
 rotate_left
 ·(intro F o;obtain ⟨G,H,I⟩:=o;go_simp;try with_reducible rfl)
 refine wpAnyH_take (i:=4) (v:=?_) rfl (by kernel_rfl) (by kernel_rfl) (by kernel_rfl) (fun _ _ _ h=>h) (Or.inl ⟨by kernel_rfl,?_⟩) (⟨ae f.out 0,ae f.out 1,ae f.out 2⟩) ?_
 rotate_left
 ·(intro F o;obtain ⟨G,H,I⟩:=o;go_simp;try with_reducible rfl)
 refine wpAnyH_take (i:=5) (v:=?_) rfl (by kernel_rfl) (by kernel_rfl) (by kernel_rfl) (fun _ _ _ h=>h) (Or.inl ⟨by kernel_rfl,?_⟩) (⟨ae f.out 0,ae f.out 1,ae f.out 2⟩) ?_
 rotate_left
 ·(intro F o;obtain ⟨G,H,I⟩:=o;go_simp;try with_reducible rfl)
 refine wpAnyH_take (i:=6) (v:=?_) rfl (by kernel_rfl) (by kernel_rfl) (by kernel_rfl) (fun _ _ _ h=>h) (Or.inl ⟨by kernel_rfl,?_⟩) (⟨ae f.out 0,ae f.out 1,ae f.out 2⟩) ?_
 rotate_left
 ·(intro F o;obtain ⟨G,H,I⟩:=o;go_simp;try with_reducible rfl)
 refine wpAnyH_take (i:=7) (v:=?_) rfl (by kernel_rfl) (by kernel_rfl) (by kernel_rfl) (fun _ _ _ h=>h) (Or.inl ⟨by kernel_rfl,?_⟩) (⟨ae f.out 0,ae f.out 1,ae f.out 2⟩) ?_
 rotate_left
 ·(intro F o;obtain ⟨G,H,I⟩:=o;go_simp;try with_reducible rfl)
 refine wpAnyH_take (i:=8) (v:=?_) rfl (by kernel_rfl) (by kernel_rfl) (by kernel_rfl) (fun _ _ _ h=>h) (Or.inl ⟨by kernel_rfl,?_⟩) (⟨ae f.out 0,ae f.out 1,ae f.out 2⟩) ?_
 rotate_left
 ·(intro F o;obtain ⟨G,H,I⟩:=o;go_simp;try with_reducible rfl)
 refine wpAnyH_take (i:=9) (v:=?_) rfl (by kernel_rfl) (by kernel_rfl) (by kernel_rfl) (fun _ _ _ h=>h) (Or.inl ⟨by kernel_rfl,?_⟩) (⟨ae f.out 0,ae f.out 1,ae f.out 2⟩) ?_
 rotate_left
 ·(intro F o;obtain ⟨G,H,I⟩:=o;go_simp;try with_reducible rfl)
 refine wpAnyH_take (i:=10) (v:=?_) rfl (by kernel_rfl) (by kernel_rfl) (by kernel_rfl) (fun _ _ _ h=>h) (Or.inl ⟨by kernel_rfl,?_⟩) (⟨ae f.out 0,ae f.out 1,ae f.out 2⟩) ?_
 rotate_left
 ·(intro F o;obtain ⟨G,H,I⟩:=o;go_simp;try with_reducible rfl)
 refine wpAnyH_take (i:=11) (v:=?_) rfl (by kernel_rfl) (by kernel_rfl) (by kernel_rfl) (fun _ _ _ h=>h) (Or.inl ⟨by kernel_rfl,?_⟩) (⟨ae f.out 0,ae f.out 1,ae f.out 2⟩) ?_
 rotate_left
 ·(intro F o;obtain ⟨G,H,I⟩:=o;go_simp;try with_reducible rfl)
 refine wpAnyH_take (i:=12) (v:=?_) rfl (by kernel_rfl) (by kernel_rfl) (by kernel_rfl) (fun _ _ _ h=>h) (Or.inl ⟨by kernel_rfl,?_⟩) (⟨ae f.out 0,ae f.out 1,ae f.out 2⟩) ?_
 rotate_left
 ·(intro F o;obtain ⟨G,H,I⟩:=o;go_simp;try with_reducible rfl)
 refine wpAnyH_take (i:=13) (v:=?_) rfl (by kernel_rfl) (by kernel_rfl) (by kernel_rfl) (fun _ _ _ h=>h) (Or.inl ⟨by kernel_rfl,?_⟩) (⟨ae f.out 0,ae f.out 1,ae f.out 2⟩) ?_
 rotate_left
 ·(intro F o;obtain ⟨G,H,I⟩:=o;go_simp;try with_reducible rfl)
 refine wpAnyH_take (i:=14) (v:=?_) rfl (by kernel_rfl) (by kernel_rfl) (by kernel_rfl) (fun _ _ _ h=>h) (Or.inl ⟨by kernel_rfl,?_⟩) (⟨ae f.out 0,ae f.out 1,ae f.out 2⟩) ?_
 rotate_left
 ·(intro F o;obtain ⟨G,H,I⟩:=o;go_simp;try with_reducible rfl)
 refine wpAnyH_take (i:=15) (v:=?_) rfl (by kernel_rfl) (by kernel_rfl) (by kernel_rfl) (fun _ _ _ h=>h) (Or.inl ⟨by kernel_rfl,?_⟩) (⟨ae f.out 0,ae f.out 1,ae f.out 2⟩) ?_
 rotate_left
 ·(intro F o;obtain ⟨G,H,I⟩:=o;go_simp;try with_reducible rfl)
 refine wpAnyH_take (i:=16) (v:=?_) rfl (by kernel_rfl) (by kernel_rfl) (by kernel_rfl) (fun _ _ _ h=>h) (Or.inl ⟨by kernel_rfl,?_⟩) (⟨ae f.out 0,ae f.out 1,ae f.out 2⟩) ?_
 rotate_left
 ·(intro F o;obtain ⟨G,H,I⟩:=o;go_simp;try with_reducible rfl)
 refine wpAnyH_take (i:=17) (v:=?_) rfl (by kernel_rfl) (by kernel_rfl) (by kernel_rfl) (fun _ _ _ h=>h) (Or.inl ⟨by kernel_rfl,?_⟩) (⟨ae f.out 0,ae f.out 1,ae f.out 2⟩) ?_
 rotate_left
 ·(intro F o;obtain ⟨G,H,I⟩:=o;go_simp;try with_reducible rfl)
 refine wpAnyH_take (i:=18) (v:=?_) rfl (by kernel_rfl) (by kernel_rfl) (by kernel_rfl) (fun _ _ _ h=>h) (Or.inl ⟨by kernel_rfl,?_⟩) (⟨ae f.out 0,ae f.out 1,ae f.out 2⟩) ?_
 rotate_left
 ·(intro F o;obtain ⟨G,H,I⟩:=o;go_simp;try with_reducible rfl)
 refine wpAnyH_take (i:=19) (v:=?_) rfl (by kernel_rfl) (by kernel_rfl) (by kernel_rfl) (fun _ _ _ h=>h) (Or.inl ⟨by kernel_rfl,?_⟩) (⟨ae f.out 0,ae f.out 1,ae f.out 2⟩) ?_
 rotate_left
 ·(intro F o;obtain ⟨G,H,I⟩:=o;go_simp;try with_reducible rfl)
 refine wpAnyH_take (i:=20) (v:=?_) rfl (by kernel_rfl) (by kernel_rfl) (by kernel_rfl) (fun _ _ _ h=>h) (Or.inl ⟨by kernel_rfl,?_⟩) (⟨ae f.out 0,ae f.out 1,ae f.out 2⟩) ?_
 rotate_left
 ·(intro F o;obtain ⟨G,H,I⟩:=o;go_simp;try with_reducible rfl)
 refine wpAnyH_take (i:=21) (v:=?_) rfl (by kernel_rfl) (by kernel_rfl) (by kernel_rfl) (fun _ _ _ h=>h) (Or.inl ⟨by kernel_rfl,?_⟩) (⟨ae f.out 0,ae f.out 1,ae f.out 2⟩) ?_
 rotate_left
 ·(intro F o;obtain ⟨G,H,I⟩:=o;go_simp;try with_reducible rfl)
 refine wpAnyH_take (i:=22) (v:=?_) rfl (by kernel_rfl) (by kernel_rfl) (by kernel_rfl) (fun _ _ _ h=>h) (Or.inl ⟨by kernel_rfl,?_⟩) (⟨ae f.out 0,ae f.out 1,ae f.out 2⟩) ?_
 rotate_left
 ·(intro F o;obtain ⟨G,H,I⟩:=o;go_simp;try with_reducible rfl)
 refine wpAnyH_take (i:=23) (v:=?_) rfl (by kernel_rfl) (by kernel_rfl) (by kernel_rfl) (fun _ _ _ h=>h) (Or.inl ⟨by kernel_rfl,?_⟩) (⟨ae f.out 0,ae f.out 1,ae f.out 2⟩) ?_
 rotate_left
 ·(intro F o;obtain ⟨G,H,I⟩:=o;go_simp;try with_reducible rfl)
 refine wpAnyH_take (i:=24) (v:=?_) rfl (by kernel_rfl) (by kernel_rfl) (by kernel_rfl) (fun _ _ _ h=>h) (Or.inl ⟨by kernel_rfl,?_⟩) (⟨ae f.out 0,ae f.out 1,ae f.out 2⟩) ?_
 rotate_left
 ·(intro F o;obtain ⟨G,H,I⟩:=o;go_simp;try with_reducible rfl)
 refine wpAnyH_take (i:=25) (v:=?_) rfl (by kernel_rfl) (by kernel_rfl) (by kernel_rfl) (fun _ _ _ h=>h) (Or.inl ⟨by kernel_rfl,?_⟩) (⟨ae f.out 0,ae f.out 1,ae f.out 2⟩) ?_
 rotate_left
 ·(intro F o;obtain ⟨G,H,I⟩:=o;go_simp;try with_reducible rfl)
 refine wpAnyH_take (i:=27) (v:=?_) rfl (by kernel_rfl) (by kernel_rfl) (by kernel_rfl) (fun _ _ _ h=>h) (Or.inl ⟨by kernel_rfl,?_⟩) (⟨ae f.out 0,ae f.out 1,ae f.out 2⟩) ?_
 rotate_left
 ·(intro F o;obtain ⟨G,H,I⟩:=o;go_simp;try with_reducible rfl)
 refine wpAnyH_take (i:=28) (v:=?_) rfl (by kernel_rfl) (by kernel_rfl) (by kernel_rfl) (fun _ _ _ h=>h) (Or.inl ⟨by kernel_rfl,?_⟩) (⟨ae f.out 0,ae f.out 1,ae f.out 2⟩) ?_
 rotate_left
 ·(intro F o;obtain ⟨G,H,I⟩:=o;go_simp;try with_reducible rfl)
 refine wpAnyH_take (i:=29) (v:=?_) rfl (by kernel_rfl) (by kernel_rfl) (by kernel_rfl) (fun _ _ _ h=>h) (Or.inl ⟨by kernel_rfl,?_⟩) (⟨ae f.out 0,ae f.out 1,ae f.out 2⟩) ?_
 rotate_left
 ·(intro F o;obtain ⟨G,H,I⟩:=o;go_simp;try with_reducible rfl)
 refine wpAnyH_ready (rs:=[26]) (by kernel_rfl) af ?_;refine AllReadyH.cons rfl (fun K J=>?_) AllReadyH.nil;go_simp;refine (dG _).mono ?_;rintro e y ⟨g,rfl,W,U⟩;have E:=hide ((U.block w.heap.size (Array.getElem?_eq_some_iff.1 f.out).1).trans f.out);have O:=hide (V.out.trans (U.mono V.out.size));have HF:=hide W;clear U W;refine J.out _ _ (⟨ae E.out 0,ae E.out 1,ae E.out 2⟩) (fun _=>?_);clear J K;refine wpAnyH_take (i:=30) (v:=?_) rfl (by kernel_rfl) (by kernel_rfl) (by kernel_rfl) (fun _ _ _ h=>h) (Or.inl ⟨by kernel_rfl,?_⟩) (⟨ae E.out 0,ae E.out 1,ae E.out 2⟩) ?_
 rotate_left
 ·(intro F o;obtain ⟨G,H,I⟩:=o;go_simp;try with_reducible rfl)
 refine wpAnyH_take (i:=31) (v:=?_) rfl (by kernel_rfl) (by kernel_rfl) (by kernel_rfl) (fun _ _ _ h=>h) (Or.inl ⟨by kernel_rfl,?_⟩) (⟨ae E.out 0,ae E.out 1,ae E.out 2⟩) ?_
 rotate_left
 ·(intro F o;obtain ⟨G,H,I⟩:=o;go_simp;try with_reducible rfl)
 have Y:y.cell? ⟨g,14,none⟩=some (.int .i64 60):=ae HF.out 14;refine wpAnyH_ready (rs:=[32]) (by kernel_rfl) af ?_;refine AllReadyH.cons rfl (fun K J=>?_) AllReadyH.nil;go_simp;refine J.out _ _ (⟨ae E.out 0,ae E.out 1,ae E.out 2⟩) (fun _=>?_);clear J K;refine wpAnyH_take (i:=33) (v:=?_) rfl (by kernel_rfl) (by kernel_rfl) (by kernel_rfl) (fun _ _ _ h=>h) (Or.inl ⟨by kernel_rfl,?_⟩) (⟨ae E.out 0,ae E.out 1,ae E.out 2⟩) ?_
 rotate_left
 ·(intro F o;obtain ⟨G,H,I⟩:=o;go_simp;try with_reducible rfl)
 refine wpAnyH_take (i:=34) (v:=?_) rfl (by kernel_rfl) (by kernel_rfl) (by kernel_rfl) (fun _ _ _ h=>h) (Or.inl ⟨by kernel_rfl,?_⟩) (⟨ae E.out 0,ae E.out 1,ae E.out 2⟩) ?_
 rotate_left
 ·(intro F o;obtain ⟨G,H,I⟩:=o;go_simp;try with_reducible rfl)
 refine wpAnyH_take (i:=35) (v:=?_) rfl (by kernel_rfl) (by kernel_rfl) (by kernel_rfl) (fun _ _ _ h=>h) (Or.inl ⟨by kernel_rfl,?_⟩) (⟨ae E.out 0,ae E.out 1,ae E.out 2⟩) ?_
 rotate_left
 ·(intro F o;obtain ⟨G,H,I⟩:=o;go_simp;try with_reducible rfl)
 refine wpAnyH_done (by kernel_rfl) ?_ _;go_simp;go_wp2_with fail;go_ret;exact ⟨rfl,O.out⟩
end
end Go.Proofs.YtpebkobmhhnojaaGreatDoor
