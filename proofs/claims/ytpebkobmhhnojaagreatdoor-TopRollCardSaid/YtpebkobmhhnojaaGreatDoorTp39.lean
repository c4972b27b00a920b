/- Lemmas. -/
import Derived.Maps.RangeRun
import Derived.Test.YtpebkobmhhnojaaGreatDoorTp29
import Derived.Test.YtpebkobmhhnojaaGreatDoorTp31
import Derived.Test.YtpebkobmhhnojaaGreatDoorTp34
set_option linter.unusedSimpArgs false
set_option linter.unusedVariables false
set_option maxRecDepth 100000
set_option maxHeartbeats 12800000
namespace Go.Proofs.YtpebkobmhhnojaaGreatDoor
section
open Go.RowKit Qd
open Go.ChangeMaps (setBlock)
theorem nF {w:World} {M:Nat} (o:Obj) (h:M<w.heap.size):(setBlock w M o).heap[M]?=some o:=by simp [setBlock,h]
theorem iI (w:World) {M j:Nat} (o:Obj) (h:j≠M):(setBlock w M o).heap[j]?=w.heap[j]?:=by simp [setBlock,Array.getElem?_setIfInBounds,Ne.symm h]
theorem nx {N:Nat} {f w:World} {M:Nat} (h:Below N f w) (o:Obj) (F:N≤M):Below N f (setBlock w M o):=
 ⟨h.os,h.tape,h.output,by simp [setBlock];exact h.size,fun k E=>(iI w o om).trans (h.block k E)⟩
theorem CW:∀ x∈dp.toList,x.born<7:=by
 intro x f;simp only [dp,List.mem_cons,List.not_mem_nil,or_false] at f;rcases f with rfl | rfl | rfl | rfl | rfl | rfl | rfl <;> decide
theorem CU (kw O k1 k2 k3:Nat × Nat) (A:Nat) (w:World) (h:ez w kw O k1 k2 k3) (hA:w.heap[A]?=some (.map jq 3)) :
  Calls Tryz.prog 108 #[.agg (dV kw O).toArray,.int .i64 3,.map (some A)] w fun e w'=>e=.returned (.tuple #[.int .i64 0,.int .i64 0])∧Below w w w':=by
 have HT:=hide h;have HA:=hide hA;have b1:=h.hk.1;have bx:=bC hA;have a7:=hide (aD (o':=.cells (dV kw O).toArray 154) hA);have l1:=dE (w.alloc (.cells (dV kw O).toArray 154)) A jq 3 ⟨#[112,101,114,105,111,100,115]⟩ a7.out rfl;have l2:=dE (w.alloc (.cells (dV kw O).toArray 154)) A jq 3 ⟨#[112,97,121]⟩ a7.out rfl;clear h hA;go_enter Tryz.func108,Tryz.ntmps108;go_wp2_with fail;refine wp_loop_rounds 4 ?_;have a2:=hide (show Below w w (w.alloc (.cells (dV kw O).toArray 154)) by (repeat' exact bel));have ac:=hide (HT.out.call a2.out);clear l1 l2;have b2:w.heap.size<(w.alloc (.cells (dV kw O).toArray 154)).heap.size:=af;generalize (w.alloc (.cells (dV kw O).toArray 154))=x0 at *;rw [rounds_succ];have n0:x0.cell? ⟨O.1,0,none⟩=some (.string ⟨#[101,110,100]⟩):=ac.out.hk.2 0 _ rfl;have n1:x0.cell? ⟨O.1,1,none⟩=some (.int .i64 13):=ac.out.hk.2 1 _ rfl;have n2:x0.cell? ⟨O.1,2,none⟩=some (.slice (some ⟨k1.1,0,none⟩) 1 k1.2):=ac.out.hk.2 2 _ rfl;have n3:x0.cell? ⟨O.1,3,none⟩=some (.bool false):=ac.out.hk.2 3 _ rfl;have n4:x0.cell? ⟨O.1,4,none⟩=some (.slice none 0 0):=ac.out.hk.2 4 _ rfl;have ao:O.1<x0.heap.size:=ac.out.hk.1;have hB:Below x0 x0 (x0.alloc (.cells #[.string ⟨#[101,110,100]⟩,.int .i64 13,.slice (some ⟨k1.1,0,none⟩) 1 k1.2,.bool false,.slice none 0 0] 154)):=ar;have bs:=hide (ac.out.call hB);have aB:=hide (a2.out.trans (hB.mono a2.out.size));go_wp2_with fail;refine (mV _).mono ?_;rintro e x1 ⟨rfl,U⟩;have ad:=hide (bs.out.call U);have a8:=hide (aB.out.trans (U.mono aB.out.size));have b3:w.heap.size<x1.heap.size:=am U;clear U hB n0 n1 n2 n3 n4 ao;go_wp2_with fail;rw [rounds_succ];have n0:x1.cell? ⟨O.1,5,none⟩=some (.string ⟨#[115,101,114,118,101]⟩):=ad.out.hk.2 5 _ rfl;have n1:x1.cell? ⟨O.1,6,none⟩=some (.int .i64 22):=ad.out.hk.2 6 _ rfl;have n2:x1.cell? ⟨O.1,7,none⟩=some (.slice (some ⟨k2.1,0,none⟩) 2 k2.2):=ad.out.hk.2 7 _ rfl;have n3:x1.cell? ⟨O.1,8,none⟩=some (.bool false):=ad.out.hk.2 8 _ rfl;have n4:x1.cell? ⟨O.1,9,none⟩=some (.slice none 0 0):=ad.out.hk.2 9 _ rfl;have ao:O.1<x1.heap.size:=ad.out.hk.1;have hB:Below x1 x1 (x1.alloc (.cells #[.string ⟨#[115,101,114,118,101]⟩,.int .i64 22,.slice (some ⟨k2.1,0,none⟩) 2 k2.2,.bool false,.slice none 0 0] 154)):=ar;have bt:=hide (ad.out.call hB);have a0:=hide (a8.out.trans (hB.mono a8.out.size));go_wp2_with fail;refine (kH _).mono ?_;rintro e x2 ⟨rfl,U⟩;have ah:=hide (bt.out.call U);have a9:=hide (a0.out.trans (U.mono a0.out.size));have b4:w.heap.size<x2.heap.size:=am U;clear U hB n0 n1 n2 n3 n4 ao;go_wp2_with fail;rw [rounds_succ];have n0:x2.cell? ⟨O.1,10,none⟩=some (.string ⟨#[99,111,109,112,97,114,101]⟩):=ah.out.hk.2 10 _ rfl;have n1:x2.cell? ⟨O.1,11,none⟩=some (.int .i64 39):=ah.out.hk.2 11 _ rfl;have n2:x2.cell? ⟨O.1,12,none⟩=some (.slice (some ⟨k3.1,0,none⟩) 1 k3.2):=ah.out.hk.2 12 _ rfl;have n3:x2.cell? ⟨O.1,13,none⟩=some (.bool false):=ah.out.hk.2 13 _ rfl;have n4:x2.cell? ⟨O.1,14,none⟩=some (.slice none 0 0):=ah.out.hk.2 14 _ rfl;have ao:O.1<x2.heap.size:=ah.out.hk.1;have hB:Below x2 x2 (x2.alloc (.cells #[.string ⟨#[99,111,109,112,97,114,101]⟩,.int .i64 39,.slice (some ⟨k3.1,0,none⟩) 1 k3.2,.bool false,.slice none 0 0] 154)):=ar;have bw:=hide (ah.out.call hB);have a1:=hide (a9.out.trans (hB.mono a9.out.size));go_wp2_with fail;refine (iK _).mono ?_;rintro e E ⟨rfl,U⟩;have b0:=hide (bw.out.call U);have bl:=hide (a1.out.trans (U.mono a1.out.size));have b5:w.heap.size<E.heap.size:=am U;clear U hB n0 n1 n2 n3 n4 ao;go_wp2_with fail;rw [rounds_succ];go_wp2_with fail;refine (ms _).mono ?_;rintro e y ⟨rfl,rfl⟩;have bX:=run_range_map (P:=Tryz.prog) (E.alloc (.map dp 7)) 208 9 _ E.heap.size dp 7 Tryz.underlying208 (heap_alloc_new _ _);have a5:(E.alloc (.map dp 7)).heap.size=E.heap.size+1:=af;rw [a5] at bX;have hK:∀ o:Obj,((E.alloc (.map dp 7)).alloc o).heap[E.heap.size]?=some (.map dp 7):=fun o=>aD (heap_alloc_new _ _)
 have hR:((E.alloc (.map dp 7)).alloc (.mapIter (some E.heap.size) 7 #[] 7)).heap[E.heap.size+1]?=some (.mapIter (some E.heap.size) 7 #[] 7):=by have h:=heap_alloc_new (E.alloc (.map dp 7)) (.mapIter (some E.heap.size) 7 #[] 7);rwa [a5] at h
 have ba:Below w w ((E.alloc (.map dp 7)).alloc (.mapIter (some E.heap.size) 7 #[] 7)):=(bl.out.alloc om _).alloc (by rw [a5];omega) _;have HR:=hide hR;have HK:=hide hK;have bp:=hide ba;clear hR hK ba;go_wp2_with fail;go_loopw [14] (fun _ wr=>∃ seen c0,7≤c0∧wr.heap[E.heap.size+1]?=some (.mapIter (some E.heap.size) 7 seen c0)∧wr.heap[E.heap.size]?=some (.map dp 7)∧Below w w wr) (fun _ wr=>(leftOf dp (wr.iterSeen (E.heap.size+1))).size)
 case atStart=>exact ⟨#[],7,by omega,HR.out,HK.out _,bp.out⟩
 case round =>
  obtain ⟨seen,c0,bc,hr,U,a4⟩:=hrel;have bk:wr.iterSeen (E.heap.size+1)=seen:=by simp [World.iterSeen,hr]
  have a3:=hide a4;have b6:=a4.size;clear a4;rcases run_next_at (P:=Tryz.prog) wr 0 (E.heap.size+1) E.heap.size 7 c0 seen dp 7 hr U CW bc with ⟨h0,J⟩ | ⟨e,he,w1,a6,J⟩
  ·clear hr U
   go_wp2_with fail;exact bodyPost_ret (v:=.tuple #[.int .i64 0,.int .i64 0]) (by simp (maxDischargeDepth:=9) [results,Tryz.results108,go_sem]) rfl ⟨rfl,a3.out⟩
  ·have aq:=(mem_left he).1
   have bd:=left_shrinks dp seen e he;have ab:=hide (show (leftOf dp (seen.push e.born)).size<(leftOf dp (wr.iterSeen (E.heap.size+1))).size by rw [bk];exact bd);have aA:w1.heap=wr.heap:=by rcases a6 with rfl | rfl <;> rfl
   have bb:Below w w w1:=by rcases a6 with rfl | rfl;exact a3.out;exact a3.out.drew
   have bh:E.heap.size+1<w1.heap.size:=by rw [aA];exact bC hr
   have Y:=hide (nF (w:=w1) (.mapIter (some E.heap.size) 7 (seen.push e.born) 7) bh);have V:=hide ((iI w1 (.mapIter (some E.heap.size) 7 (seen.push e.born) 7) (show E.heap.size≠E.heap.size+1 by omega)).trans (show w1.heap[E.heap.size]?=some (.map dp 7) by rw [aA];exact U));have G:=hide (nx bb (.mapIter (some E.heap.size) 7 (seen.push e.born) 7) (show w.heap.size≤E.heap.size+1 by omega));generalize setBlock w1 (E.heap.size+1) (.mapIter (some E.heap.size) 7 (seen.push e.born) 7)=W at *;have al:=run_entry_at (P:=Tryz.prog) W (E.heap.size+1) E.heap.size 7 seen dp 7 e Y.out V.out aq aj;have aa:=hide ((G.out.block A bx).trans HA.out);clear hr U he bd a6 aA bb bh bc bk;simp only [dp,List.mem_cons,List.not_mem_nil,or_false] at aq;rcases aq with rfl | rfl | rfl | rfl | rfl | rfl | rfl
   ·have la:=(dF Tryz.underlying150 W A jq 3 ⟨#[101,110,100]⟩ 0 (.int .i64 0) aa.out rfl).1
    go_wp2_with fail;refine (mV _).mono ?_;rintro e w5 ⟨rfl,f⟩;have F:=hide (aE Y.out f);have I:=hide (aE V.out f);have H:=hide (G.out.trans (f.mono G.out.size));clear f la al J;go_wp2_with fail;go_roundw
    case rel=>exact ⟨_,7,by omega,F.out,I.out,H.out⟩
    case measure =>
     have h5:w5.iterSeen (E.heap.size+1)=seen.push 0:=by simp [World.iterSeen,F.out]
     rw [h5];exact ab.out
   ·have la:=dE W A jq 3 ⟨#[112,101,114,105,111,100,115]⟩ aa.out rfl
    go_wp2_with fail;refine (nv _).mono ?_;rintro e w5 ⟨rfl,f⟩;have F:=hide (aE Y.out f);have I:=hide (aE V.out f);have H:=hide (G.out.trans (f.mono G.out.size));clear f la al J;go_wp2_with fail;go_roundw
    case rel=>exact ⟨_,7,by omega,F.out,I.out,H.out⟩
    case measure =>
     have h5:w5.iterSeen (E.heap.size+1)=seen.push 1:=by simp [World.iterSeen,F.out]
     rw [h5];exact ab.out
   ·have la:=dE W A jq 3 ⟨#[110,97,109,101,100]⟩ aa.out rfl
    go_wp2_with fail;refine (o6 _).mono ?_;rintro e w5 ⟨rfl,f⟩;have F:=hide (aE Y.out f);have I:=hide (aE V.out f);have H:=hide (G.out.trans (f.mono G.out.size));clear f la al J;go_wp2_with fail;go_roundw
    case rel=>exact ⟨_,7,by omega,F.out,I.out,H.out⟩
    case measure =>
     have h5:w5.iterSeen (E.heap.size+1)=seen.push 2:=by simp [World.iterSeen,F.out]
     rw [h5];exact ab.out
   ·have la:=dE W A jq 3 ⟨#[112,97,121]⟩ aa.out rfl
    go_wp2_with fail;refine (tz _).mono ?_;rintro e w5 ⟨rfl,f⟩;have F:=hide (aE Y.out f);have I:=hide (aE V.out f);have H:=hide (G.out.trans (f.mono G.out.size));clear f la al J;go_wp2_with fail;go_roundw
    case rel=>exact ⟨_,7,by omega,F.out,I.out,H.out⟩
    case measure =>
     have h5:w5.iterSeen (E.heap.size+1)=seen.push 3:=by simp [World.iterSeen,F.out]
     rw [h5];exact ab.out
   ·have la:=dE W A jq 3 ⟨#[101,120,116,114,97]⟩ aa.out rfl
    go_wp2_with fail;refine (pQ _).mono ?_;rintro e w5 ⟨rfl,f⟩;have F:=hide (aE Y.out f);have I:=hide (aE V.out f);have H:=hide (G.out.trans (f.mono G.out.size));clear f la al J;go_wp2_with fail;go_roundw
    case rel=>exact ⟨_,7,by omega,F.out,I.out,H.out⟩
    case measure =>
     have h5:w5.iterSeen (E.heap.size+1)=seen.push 4:=by simp [World.iterSeen,F.out]
     rw [h5];exact ab.out
   ·have la:=(dF Tryz.underlying150 W A jq 3 ⟨#[115,101,114,118,101]⟩ 1 (.int .i64 1) aa.out rfl).1
    go_wp2_with fail;refine (kH _).mono ?_;rintro e w5 ⟨rfl,f⟩;have F:=hide (aE Y.out f);have I:=hide (aE V.out f);have H:=hide (G.out.trans (f.mono G.out.size));clear f la al J;go_wp2_with fail;go_roundw
    case rel=>exact ⟨_,7,by omega,F.out,I.out,H.out⟩
    case measure =>
     have h5:w5.iterSeen (E.heap.size+1)=seen.push 5:=by simp [World.iterSeen,F.out]
     rw [h5];exact ab.out
   ·have la:=(dF Tryz.underlying150 W A jq 3 ⟨#[99,111,109,112,97,114,101]⟩ 2 (.int .i64 2) aa.out rfl).1
    go_wp2_with fail;refine (iK _).mono ?_;rintro e w5 ⟨rfl,f⟩;have F:=hide (aE Y.out f);have I:=hide (aE V.out f);have H:=hide (G.out.trans (f.mono G.out.size));clear f la al J;go_wp2_with fail;go_roundw
    case rel=>exact ⟨_,7,by omega,F.out,I.out,H.out⟩
    case measure =>
     have h5:w5.iterSeen (E.heap.size+1)=seen.push 6:=by simp [World.iterSeen,F.out]
     rw [h5];exact ab.out
end
section
open Go.RowKit Qd
theorem EI (w:World) (o:bQ w):Calls Tryz.prog 176 #[.int .i64 154896] w fun e w'=>e=.returned (.string ⟨#[50,48,50,52,45,48,50,45,48,51]⟩)∧Below w w w':=by
 go_enter Tryz.func176,Tryz.ntmps176;go_wp2_with fail;refine (BZ w o).mono ?_;rintro e x ⟨rfl,f⟩;have h:=hide f;clear f;go_wp2_with fail;go_ret;exact ⟨rfl,h.out⟩
theorem E9 (w:World) (o:bQ w):Calls Tryz.prog 176 #[.int .i64 154531] w fun e w'=>e=.returned (.string ⟨#[50,48,50,51,45,48,50,45,48,51]⟩)∧Below w w w':=by
 go_enter Tryz.func176,Tryz.ntmps176;go_wp2_with fail;refine (CL w o).mono ?_;rintro e x ⟨rfl,f⟩;have h:=hide f;clear f;go_wp2_with fail;go_ret;exact ⟨rfl,h.out⟩
theorem Ec (w:World) (o:bQ w):Calls Tryz.prog 176 #[.int .i64 154533] w fun e w'=>e=.returned (.string ⟨#[50,48,50,51,45,48,50,45,48,53]⟩)∧Below w w w':=by
 go_enter Tryz.func176,Tryz.ntmps176;go_wp2_with fail;refine (Cq w o).mono ?_;rintro e x ⟨rfl,f⟩;have h:=hide f;clear f;go_wp2_with fail;go_ret;exact ⟨rfl,h.out⟩
theorem vA (w:World) (F:bQ w):Calls Tryz.prog 170 #[.agg #[.int .i64 5,.int .i64 2023,.int .i64 53]] w fun e w'=>e=.returned (.string ⟨#[50,48,50,51,45,87,53,51]⟩)∧Below w w w':=by
 have f:Below w w (w.alloc (.cells #[.int .i64 5,.int .i64 2023,.int .i64 53] 33)):=ar;have H:=hide (vz _ (F.call f));have h:=hide f;clear f;go_enter Tryz.func170,Tryz.ntmps170;go_wp2_with fail;refine (H.out).mono ?_;rintro e x ⟨rfl,o⟩;have E:=hide (h.out.trans (o.mono h.out.size));clear o;go_wp2_with fail;go_ret;exact ⟨rfl,E.out⟩
theorem zw (w:World) (F:bQ w):Calls Tryz.prog 170 #[.agg #[.int .i64 5,.int .i64 2023,.int .i64 1]] w fun e w'=>e=.returned (.string ⟨#[50,48,50,51,45,87,48,49]⟩)∧Below w w w':=by
 have f:Below w w (w.alloc (.cells #[.int .i64 5,.int .i64 2023,.int .i64 1] 33)):=ar;have H:=hide (zq _ (F.call f));have h:=hide f;clear f;go_enter Tryz.func170,Tryz.ntmps170;go_wp2_with fail;refine (H.out).mono ?_;rintro e x ⟨rfl,o⟩;have E:=hide (h.out.trans (o.mono h.out.size));clear o;go_wp2_with fail;go_ret;exact ⟨rfl,E.out⟩
theorem xL (w:World) (F:bQ w):Calls Tryz.prog 170 #[.agg #[.int .i64 5,.int .i64 2023,.int .i64 2]] w fun e w'=>e=.returned (.string ⟨#[50,48,50,51,45,87,48,50]⟩)∧Below w w w':=by
 have f:Below w w (w.alloc (.cells #[.int .i64 5,.int .i64 2023,.int .i64 2] 33)):=ar;have H:=hide (yi _ (F.call f));have h:=hide f;clear f;go_enter Tryz.func170,Tryz.ntmps170;go_wp2_with fail;refine (H.out).mono ?_;rintro e x ⟨rfl,o⟩;have E:=hide (h.out.trans (o.mono h.out.size));clear o;go_wp2_with fail;go_ret;exact ⟨rfl,E.out⟩
theorem sf (w:World):Calls Tryz.prog 214 #[.int .i64 10] w fun e w'=>e=.returned (.string ⟨#[49,48]⟩)∧w=w':=by
 have H:=hide (Tryz.strconv_FormatInt_10_small 10 aj w);rw [show (⟨(Lib.decDigits 10).toArray⟩:ByteArray)=⟨#[49,48]⟩ by decide +kernel] at H;go_enter Tryz.func214,Tryz.ntmps214;go_wp2_with fail;refine (H.out).mono ?_;rintro e x ⟨rfl,rfl⟩;go_wp2_with fail;go_ret;exact ⟨rfl,rfl⟩
theorem wQ (w:World):Calls Tryz.prog 214 #[.int .i64 7] w fun e w'=>e=.returned (.string ⟨#[55]⟩)∧w=w':=by
 have H:=hide (Tryz.strconv_FormatInt_10_small 7 aj w);rw [show (⟨(Lib.decDigits 7).toArray⟩:ByteArray)=⟨#[55]⟩ by decide +kernel] at H;go_enter Tryz.func214,Tryz.ntmps214;go_wp2_with fail;refine (H.out).mono ?_;rintro e x ⟨rfl,rfl⟩;go_wp2_with fail;go_ret;exact ⟨rfl,rfl⟩
theorem wX (w:World):Calls Tryz.prog 214 #[.int .i64 3] w fun e w'=>e=.returned (.string ⟨#[51]⟩)∧w=w':=by
 have H:=hide (Tryz.strconv_FormatInt_10_small 3 aj w);rw [show (⟨(Lib.decDigits 3).toArray⟩:ByteArray)=⟨#[51]⟩ by decide +kernel] at H;go_enter Tryz.func214,Tryz.ntmps214;go_wp2_with fail;refine (H.out).mono ?_;rintro e x ⟨rfl,rfl⟩;go_wp2_with fail;go_ret;exact ⟨rfl,rfl⟩
theorem qo (w:World):Calls Tryz.prog 213 #[] w fun e w'=>e=.returned (.slice (some ⟨w,0,none⟩) 5 5)∧w.alloc (.cells (Dn.map Value.string).toArray 9)=w':=by
 go_enter Tryz.func213,Tryz.ntmps213;go_wp2;go_ret;exact ⟨rfl,rfl⟩
theorem jd (w:World):Calls Tryz.prog 213 #[] w fun e w'=>∃ g,e=.returned (.slice (some ⟨g,0,none⟩) 5 5)∧w'.cell? ⟨g,4,none⟩=some (.string ⟨#[119,101,101,107]⟩)∧Below w w w':=by
 refine (qo w).mono ?_;rintro e w' ⟨rfl,rfl⟩;exact ⟨_,rfl,(eC.new w Dn 9).2 4 aj,by (repeat' exact bel)⟩
theorem pI (w:World) (F:bQ w):Calls Tryz.prog 164 #[.agg #[.int .i64 1,.string ⟨#[97]⟩,.int .i64 5,.int .i64 0,.int .i64 0,.int .i64 0,.int .i64 154896,.int .i64 0,.int .i64 0,.int .i64 0,.int .i64 0],.int .i32 99] w fun e w'=>e=.returned (.string ⟨#[97]⟩)∧Below w w w':=by
 have f:Below w w (w.alloc (.cells #[.int .i64 1,.string ⟨#[97]⟩,.int .i64 5,.int .i64 0,.int .i64 0,.int .i64 0,.int .i64 154896,.int .i64 0,.int .i64 0,.int .i64 0,.int .i64 0] 159)):=ar;have h:=hide f;have o:=hide (F.call f);have E:=hide (heap_alloc_new w (.cells #[.int .i64 1,.string ⟨#[97]⟩,.int .i64 5,.int .i64 0,.int .i64 0,.int .i64 0,.int .i64 154896,.int .i64 0,.int .i64 0,.int .i64 0,.int .i64 0] 159));clear f;go_enter Tryz.func164,Tryz.ntmps164;go_wp2_with fail;go_ret;exact ⟨rfl,h.out⟩
theorem pF (w:World) (H:bQ w):Calls Tryz.prog 164 #[.agg #[.int .i64 1,.string ⟨#[97]⟩,.int .i64 5,.int .i64 0,.int .i64 0,.int .i64 0,.int .i64 154896,.int .i64 0,.int .i64 0,.int .i64 0,.int .i64 0],.int .i32 102] w fun e w'=>e=.returned (.string ⟨#[50,48,50,52,45,48,50,45,48,51]⟩)∧Below w w w':=by
 have f:Below w w (w.alloc (.cells #[.int .i64 1,.string ⟨#[97]⟩,.int .i64 5,.int .i64 0,.int .i64 0,.int .i64 0,.int .i64 154896,.int .i64 0,.int .i64 0,.int .i64 0,.int .i64 0] 159)):=ar;have h:=hide f;have o:=hide (H.call f);have G:=hide (heap_alloc_new w (.cells #[.int .i64 1,.string ⟨#[97]⟩,.int .i64 5,.int .i64 0,.int .i64 0,.int .i64 0,.int .i64 154896,.int .i64 0,.int .i64 0,.int .i64 0,.int .i64 0] 159));clear f;go_enter Tryz.func164,Tryz.ntmps164;go_wp2_with fail;refine (EI _ o.out).mono ?_;rintro e x ⟨rfl,E⟩;have F:=hide (h.out.trans (E.mono h.out.size));clear E;go_wp2_with fail;go_ret;exact ⟨rfl,F.out⟩
theorem pJ (w:World) (hL:bQ w):Calls Tryz.prog 164 #[.agg #[.int .i64 1,.string ⟨#[97]⟩,.int .i64 5,.int .i64 0,.int .i64 0,.int .i64 0,.int .i64 154896,.int .i64 0,.int .i64 0,.int .i64 0,.int .i64 0],.int .i32 108] w fun e w'=>e=.returned (.string ⟨#[119,101,101,107]⟩)∧Below w w w':=by
 have W:Below w w (w.alloc (.cells #[.int .i64 1,.string ⟨#[97]⟩,.int .i64 5,.int .i64 0,.int .i64 0,.int .i64 0,.int .i64 154896,.int .i64 0,.int .i64 0,.int .i64 0,.int .i64 0] 159)):=ar;have Y:=hide W;have al:=hide (hL.call W);have ah:=hide (heap_alloc_new w (.cells #[.int .i64 1,.string ⟨#[97]⟩,.int .i64 5,.int .i64 0,.int .i64 0,.int .i64 0,.int .i64 154896,.int .i64 0,.int .i64 0,.int .i64 0,.int .i64 0] 159));clear W;have ao:IntKind.i64.wrap 4=4:=by decide
 go_enter Tryz.func164,Tryz.ntmps164;go_wp2_with fail;have E:Below (w.alloc (.cells #[.int .i64 1,.string ⟨#[97]⟩,.int .i64 5,.int .i64 0,.int .i64 0,.int .i64 0,.int .i64 154896,.int .i64 0,.int .i64 0,.int .i64 0,.int .i64 0] 159)).heap.size (w.alloc (.cells #[.int .i64 1,.string ⟨#[97]⟩,.int .i64 5,.int .i64 0,.int .i64 0,.int .i64 0,.int .i64 154896,.int .i64 0,.int .i64 0,.int .i64 0,.int .i64 0] 159)) (w.alloc (.cells #[.int .i64 1,.string ⟨#[97]⟩,.int .i64 5,.int .i64 0,.int .i64 0,.int .i64 0,.int .i64 154896,.int .i64 0,.int .i64 0,.int .i64 0,.int .i64 0] 159)).drew:=ar;have o:=hide (av ah.out E);have aa:=hide (Y.out.trans (E.mono Y.out.size));clear E;refine wp_region_held_drew (S:=fun w'=>w'.cell? ⟨w,2,none⟩=some (.int .i64 5)∧True) (by kernel_rfl) ⟨ae o.out 2,trivial⟩ (fun _=>?_);generalize (w.alloc (.cells #[.int .i64 1,.string ⟨#[97]⟩,.int .i64 5,.int .i64 0,.int .i64 0,.int .i64 0,.int .i64 154896,.int .i64 0,.int .i64 0,.int .i64 0,.int .i64 0] 159)).drew=x1 at *;refine wpAnyH_take (i:=0) (v:=?_) rfl (by kernel_rfl) (by kernel_rfl) (by kernel_rfl) (fun _ _ _ h=>h) (Or.inl ⟨by kernel_rfl,?_⟩) (⟨ae o.out 2,trivial⟩) ?_
 rotate_left
 ·(intro F f;obtain ⟨G,H⟩:=f;go_simp;try with_reducible rfl)
 refine wpAnyH_take (i:=1) (v:=?_) rfl (by kernel_rfl) (by kernel_rfl) (by kernel_rfl) (fun _ _ _ h=>h) (Or.inl ⟨by kernel_rfl,?_⟩) (⟨ae o.out 2,trivial⟩) ?_
 rotate_left
 ·(intro F f;obtain ⟨G,H⟩:=f;go_simp;try with_reducible rfl)
 refine wpAnyH_take (i:=2) (v:=?_) rfl (by kernel_rfl) (by kernel_rfl) (by kernel_rfl) (fun _ _ _ h=>h) (Or.inl ⟨by kernel_rfl,?_⟩) (⟨ae o.out 2,trivial⟩) ?_
 rotate_left
 ·(intro F f;obtain ⟨G,H⟩:=f;go_simp;try with_reducible rfl)
 refine wpAnyH_take (i:=3) (v:=?_) rfl (by kernel_rfl) (by kernel_rfl) (by kernel_rfl) (fun _ _ _ h=>h) (Or.inl ⟨by kernel_rfl,?_⟩) (⟨ae o.out 2,trivial⟩) ?_
 rotate_left
 ·(intro F f;obtain ⟨G,H⟩:=f;go_simp;try with_reducible rfl)
 refine wpAnyH_take (i:=4) (v:=?_) rfl (by kernel_rfl) (by kernel_rfl) (by kernel_rfl) (fun _ _ _ h=>h) (Or.inl ⟨by kernel_rfl,?_⟩) (⟨ae o.out 2,trivial⟩) ?_
 rotate_left
 ·(intro F f;obtain ⟨G,H⟩:=f;go_simp;try with_reducible rfl)
 refine wpAnyH_take (i:=5) (v:=?_) rfl (by kernel_rfl) (by kernel_rfl) (by kernel_rfl) (fun _ _ _ h=>h) (Or.inl ⟨by kernel_rfl,?_⟩) (⟨ae o.out 2,trivial⟩) ?_
 rotate_left
 ·(intro F f;obtain ⟨G,H⟩:=f;go_simp;try with_reducible rfl)
 refine wpAnyH_ready (rs:=[6]) (by kernel_rfl) af ?_;refine AllReadyH.cons rfl (fun K U=>?_) AllReadyH.nil;go_simp;refine (jd _).mono ?_;rintro e x2 ⟨g,rfl,-,V⟩;have I:=hide (av o.out V);have ab:=hide (aa.out.trans (V.mono aa.out.size));clear V;refine U.out _ _ (⟨ae I.out 2,trivial⟩) (fun _=>?_);clear U K;refine wpAnyH_take (i:=7) (v:=?_) rfl (by kernel_rfl) (by kernel_rfl) (by kernel_rfl) (fun _ _ _ h=>h) (Or.inl ⟨by kernel_rfl,?_⟩) (⟨ae I.out 2,trivial⟩) ?_
 rotate_left
 ·(intro F f;obtain ⟨G,H⟩:=f;go_simp;try with_reducible rfl)
 refine wpAnyH_take (i:=8) (v:=?_) rfl (by kernel_rfl) (by kernel_rfl) (by kernel_rfl) (fun _ _ _ h=>h) (Or.inl ⟨by kernel_rfl,?_⟩) (⟨ae I.out 2,trivial⟩) ?_
 rotate_left
 ·(intro F f;obtain ⟨G,H⟩:=f;go_simp;try with_reducible rfl)
 refine wpAnyH_take (i:=9) (v:=?_) rfl (by kernel_rfl) (by kernel_rfl) (by kernel_rfl) (fun _ _ _ h=>h) (Or.inl ⟨by kernel_rfl,?_⟩) (⟨ae I.out 2,trivial⟩) ?_
 rotate_left
 ·(intro F f;obtain ⟨G,H⟩:=f;go_simp;try with_reducible rfl)
 refine wpAnyH_done (by kernel_rfl) ?_ _;go_simp;go_wp2_with fail;have E:Below x2 x2 x2.drew:=ar;have J:=hide (av I.out E);have ac:=hide (ab.out.trans (E.mono ab.out.size));clear E;refine wp_region_held_drew (S:=fun w'=>w'.cell? ⟨w,2,none⟩=some (.int .i64 5)∧True) (by kernel_rfl) ⟨ae J.out 2,trivial⟩ (fun _=>?_);generalize x2.drew=x3 at *;refine wpAnyH_take (i:=1) (v:=?_) rfl (by kernel_rfl) (by kernel_rfl) (by kernel_rfl) (fun _ _ _ h=>h) (Or.inl ⟨by kernel_rfl,?_⟩) (⟨ae J.out 2,trivial⟩) ?_
 rotate_left
 ·(intro F f;obtain ⟨G,H⟩:=f;go_simp;try with_reducible rfl)
 refine wpAnyH_take (i:=2) (v:=?_) rfl (by kernel_rfl) (by kernel_rfl) (by kernel_rfl) (fun _ _ _ h=>h) (Or.inl ⟨by kernel_rfl,?_⟩) (⟨ae J.out 2,trivial⟩) ?_
 rotate_left
 ·(intro F f;obtain ⟨G,H⟩:=f;go_simp;try with_reducible rfl)
 refine wpAnyH_take (i:=3) (v:=?_) rfl (by kernel_rfl) (by kernel_rfl) (by kernel_rfl) (fun _ _ _ h=>h) (Or.inl ⟨by kernel_rfl,?_⟩) (⟨ae J.out 2,trivial⟩) ?_
 rotate_left
 ·(intro F f;obtain ⟨G,H⟩:=f;go_simp;try with_reducible rfl)
 refine wpAnyH_ready (rs:=[0]) (by kernel_rfl) af ?_;refine AllReadyH.cons rfl (fun K U=>?_) AllReadyH.nil;go_simp;refine (jd _).mono ?_;rintro e x4 ⟨g2,rfl,hc,V⟩;have O:=hide (av J.out V);have ad:=hide (ac.out.trans (V.mono ac.out.size));clear V;refine U.out _ _ (⟨ae O.out 2,trivial⟩) (fun _=>?_);clear U K;refine wpAnyH_take (i:=4) (v:=?_) rfl (by kernel_rfl) (by kernel_rfl) (by kernel_rfl) (fun _ _ _ h=>h) (Or.inl ⟨by kernel_rfl,?_⟩) (⟨ae O.out 2,trivial⟩) ?_
 rotate_left
 ·(intro F f;obtain ⟨G,H⟩:=f;go_simp;try with_reducible rfl)
 refine wpAnyH_ready (rs:=[5]) (by kernel_rfl) af ?_;refine AllReadyH.cons rfl (fun K U=>?_) AllReadyH.nil;go_simp;refine U.out _ _ (⟨ae O.out 2,trivial⟩) (fun _=>?_);clear U K;refine wpAnyH_take (i:=6) (v:=?_) rfl (by kernel_rfl) (by kernel_rfl) (by kernel_rfl) (fun _ _ _ h=>h) (Or.inl ⟨by kernel_rfl,?_⟩) (⟨ae O.out 2,trivial⟩) ?_
 rotate_left
 ·(intro F f;obtain ⟨G,H⟩:=f;go_simp;try with_reducible rfl)
 refine wpAnyH_done (by kernel_rfl) ?_ _;go_simp;go_wp2_with fail;go_ret;exact ⟨rfl,ad.out⟩
theorem pR (w:World) (F:bQ w):Calls Tryz.prog 164 #[.agg #[.int .i64 6,.string ⟨#[97]⟩,.int .i64 5,.int .i64 0,.int .i64 0,.int .i64 0,.int .i64 154531,.int .i64 154533,.int .i64 0,.int .i64 0,.int .i64 10],.int .i32 99] w fun e w'=>e=.returned (.string ⟨#[97]⟩)∧Below w w w':=by
 have f:Below w w (w.alloc (.cells #[.int .i64 6,.string ⟨#[97]⟩,.int .i64 5,.int .i64 0,.int .i64 0,.int .i64 0,.int .i64 154531,.int .i64 154533,.int .i64 0,.int .i64 0,.int .i64 10] 159)):=ar;have h:=hide f;have o:=hide (F.call f);have E:=hide (heap_alloc_new w (.cells #[.int .i64 6,.string ⟨#[97]⟩,.int .i64 5,.int .i64 0,.int .i64 0,.int .i64 0,.int .i64 154531,.int .i64 154533,.int .i64 0,.int .i64 0,.int .i64 10] 159));clear f;go_enter Tryz.func164,Tryz.ntmps164;go_wp2_with fail;go_ret;exact ⟨rfl,h.out⟩
theorem pt (w:World) (H:bQ w):Calls Tryz.prog 164 #[.agg #[.int .i64 6,.string ⟨#[97]⟩,.int .i64 5,.int .i64 0,.int .i64 0,.int .i64 0,.int .i64 154531,.int .i64 154533,.int .i64 0,.int .i64 0,.int .i64 10],.int .i32 102] w fun e w'=>e=.returned (.string ⟨#[50,48,50,51,45,48,50,45,48,51]⟩)∧Below w w w':=by
 have f:Below w w (w.alloc (.cells #[.int .i64 6,.string ⟨#[97]⟩,.int .i64 5,.int .i64 0,.int .i64 0,.int .i64 0,.int .i64 154531,.int .i64 154533,.int .i64 0,.int .i64 0,.int .i64 10] 159)):=ar;have h:=hide f;have o:=hide (H.call f);have G:=hide (heap_alloc_new w (.cells #[.int .i64 6,.string ⟨#[97]⟩,.int .i64 5,.int .i64 0,.int .i64 0,.int .i64 0,.int .i64 154531,.int .i64 154533,.int .i64 0,.int .i64 0,.int .i64 10] 159));clear f;go_enter Tryz.func164,Tryz.ntmps164;go_wp2_with fail;refine (E9 _ o.out).mono ?_;rintro e x ⟨rfl,E⟩;have F:=hide (h.out.trans (E.mono h.out.size));clear E;go_wp2_with fail;go_ret;exact ⟨rfl,F.out⟩
theorem pg (w:World) (H:bQ w):Calls Tryz.prog 164 #[.agg #[.int .i64 6,.string ⟨#[97]⟩,.int .i64 5,.int .i64 0,.int .i64 0,.int .i64 0,.int .i64 154531,.int .i64 154533,.int .i64 0,.int .i64 0,.int .i64 10],.int .i32 116] w fun e w'=>e=.returned (.string ⟨#[50,48,50,51,45,48,50,45,48,53]⟩)∧Below w w w':=by
 have f:Below w w (w.alloc (.cells #[.int .i64 6,.string ⟨#[97]⟩,.int .i64 5,.int .i64 0,.int .i64 0,.int .i64 0,.int .i64 154531,.int .i64 154533,.int .i64 0,.int .i64 0,.int .i64 10] 159)):=ar;have h:=hide f;have o:=hide (H.call f);have G:=hide (heap_alloc_new w (.cells #[.int .i64 6,.string ⟨#[97]⟩,.int .i64 5,.int .i64 0,.int .i64 0,.int .i64 0,.int .i64 154531,.int .i64 154533,.int .i64 0,.int .i64 0,.int .i64 10] 159));clear f;go_enter Tryz.func164,Tryz.ntmps164;go_wp2_with fail;refine (Ec _ o.out).mono ?_;rintro e x ⟨rfl,E⟩;have F:=hide (h.out.trans (E.mono h.out.size));clear E;go_wp2_with fail;go_ret;exact ⟨rfl,F.out⟩
theorem pC (w:World) (F:bQ w):Calls Tryz.prog 164 #[.agg #[.int .i64 6,.string ⟨#[97]⟩,.int .i64 5,.int .i64 0,.int .i64 0,.int .i64 0,.int .i64 154531,.int .i64 154533,.int .i64 0,.int .i64 0,.int .i64 10],.int .i32 110] w fun e w'=>e=.returned (.string ⟨#[49,48]⟩)∧Below w w w':=by
 have f:Below w w (w.alloc (.cells #[.int .i64 6,.string ⟨#[97]⟩,.int .i64 5,.int .i64 0,.int .i64 0,.int .i64 0,.int .i64 154531,.int .i64 154533,.int .i64 0,.int .i64 0,.int .i64 10] 159)):=ar;have h:=hide f;have o:=hide (F.call f);have E:=hide (heap_alloc_new w (.cells #[.int .i64 6,.string ⟨#[97]⟩,.int .i64 5,.int .i64 0,.int .i64 0,.int .i64 0,.int .i64 154531,.int .i64 154533,.int .i64 0,.int .i64 0,.int .i64 10] 159));clear f;go_enter Tryz.func164,Tryz.ntmps164;go_wp2_with fail;refine (sf _).mono ?_;rintro e x ⟨rfl,rfl⟩;go_wp2_with fail;go_ret;exact ⟨rfl,h.out⟩
theorem pr (w:World) (hL:bQ w):Calls Tryz.prog 164 #[.agg #[.int .i64 6,.string ⟨#[97]⟩,.int .i64 5,.int .i64 0,.int .i64 0,.int .i64 0,.int .i64 154531,.int .i64 154533,.int .i64 0,.int .i64 0,.int .i64 10],.int .i32 108] w fun e w'=>e=.returned (.string ⟨#[119,101,101,107]⟩)∧Below w w w':=by
 have W:Below w w (w.alloc (.cells #[.int .i64 6,.string ⟨#[97]⟩,.int .i64 5,.int .i64 0,.int .i64 0,.int .i64 0,.int .i64 154531,.int .i64 154533,.int .i64 0,.int .i64 0,.int .i64 10] 159)):=ar;have Y:=hide W;have al:=hide (hL.call W);have ah:=hide (heap_alloc_new w (.cells #[.int .i64 6,.string ⟨#[97]⟩,.int .i64 5,.int .i64 0,.int .i64 0,.int .i64 0,.int .i64 154531,.int .i64 154533,.int .i64 0,.int .i64 0,.int .i64 10] 159));clear W;have ao:IntKind.i64.wrap 4=4:=by decide
 go_enter Tryz.func164,Tryz.ntmps164;go_wp2_with fail;have E:Below (w.alloc (.cells #[.int .i64 6,.string ⟨#[97]⟩,.int .i64 5,.int .i64 0,.int .i64 0,.int .i64 0,.int .i64 154531,.int .i64 154533,.int .i64 0,.int .i64 0,.int .i64 10] 159)).heap.size (w.alloc (.cells #[.int .i64 6,.string ⟨#[97]⟩,.int .i64 5,.int .i64 0,.int .i64 0,.int .i64 0,.int .i64 154531,.int .i64 154533,.int .i64 0,.int .i64 0,.int .i64 10] 159)) (w.alloc (.cells #[.int .i64 6,.string ⟨#[97]⟩,.int .i64 5,.int .i64 0,.int .i64 0,.int .i64 0,.int .i64 154531,.int .i64 154533,.int .i64 0,.int .i64 0,.int .i64 10] 159)).drew:=ar;have o:=hide (av ah.out E);have aa:=hide (Y.out.trans (E.mono Y.out.size));clear E;refine wp_region_held_drew (S:=fun w'=>w'.cell? ⟨w,2,none⟩=some (.int .i64 5)∧True) (by kernel_rfl) ⟨ae o.out 2,trivial⟩ (fun _=>?_);generalize (w.alloc (.cells #[.int .i64 6,.string ⟨#[97]⟩,.int .i64 5,.int .i64 0,.int .i64 0,.int .i64 0,.int .i64 154531,.int .i64 154533,.int .i64 0,.int .i64 0,.int .i64 10] 159)).drew=x1 at *;refine wpAnyH_take (i:=0) (v:=?_) rfl (by kernel_rfl) (by kernel_rfl) (by kernel_rfl) (fun _ _ _ h=>h) (Or.inl ⟨by kernel_rfl,?_⟩) (⟨ae o.out 2,trivial⟩) ?_
 rotate_left
 ·(intro F f;obtain ⟨G,H⟩:=f;go_simp;try with_reducible rfl)
 refine wpAnyH_take (i:=1) (v:=?_) rfl (by kernel_rfl) (by kernel_rfl) (by kernel_rfl) (fun _ _ _ h=>h) (Or.inl ⟨by kernel_rfl,?_⟩) (⟨ae o.out 2,trivial⟩) ?_
 rotate_left
 ·(intro F f;obtain ⟨G,H⟩:=f;go_simp;try with_reducible rfl)
 refine wpAnyH_take (i:=2) (v:=?_) rfl (by kernel_rfl) (by kernel_rfl) (by kernel_rfl) (fun _ _ _ h=>h) (Or.inl ⟨by kernel_rfl,?_⟩) (⟨ae o.out 2,trivial⟩) ?_
 rotate_left
 ·(intro F f;obtain ⟨G,H⟩:=f;go_simp;try with_reducible rfl)
 refine wpAnyH_take (i:=3) (v:=?_) rfl (by kernel_rfl) (by kernel_rfl) (by kernel_rfl) (fun _ _ _ h=>h) (Or.inl ⟨by kernel_rfl,?_⟩) (⟨ae o.out 2,trivial⟩) ?_
 rotate_left
 ·(intro F f;obtain ⟨G,H⟩:=f;go_simp;try with_reducible rfl)
 refine wpAnyH_take (i:=4) (v:=?_) rfl (by kernel_rfl) (by kernel_rfl) (by kernel_rfl) (fun _ _ _ h=>h) (Or.inl ⟨by kernel_rfl,?_⟩) (⟨ae o.out 2,trivial⟩) ?_
 rotate_left
 ·(intro F f;obtain ⟨G,H⟩:=f;go_simp;try with_reducible rfl)
 refine wpAnyH_take (i:=5) (v:=?_) rfl (by kernel_rfl) (by kernel_rfl) (by kernel_rfl) (fun _ _ _ h=>h) (Or.inl ⟨by kernel_rfl,?_⟩) (⟨ae o.out 2,trivial⟩) ?_
 rotate_left
 ·(intro F f;obtain ⟨G,H⟩:=f;go_simp;try with_reducible rfl)
 refine wpAnyH_ready (rs:=[6]) (by kernel_rfl) af ?_;refine AllReadyH.cons rfl (fun K U=>?_) AllReadyH.nil;go_simp;refine (jd _).mono ?_;rintro e x2 ⟨g,rfl,-,V⟩;have I:=hide (av o.out V);have ab:=hide (aa.out.trans (V.mono aa.out.size));clear V;refine U.out _ _ (⟨ae I.out 2,trivial⟩) (fun _=>?_);clear U K;refine wpAnyH_take (i:=7) (v:=?_) rfl (by kernel_rfl) (by kernel_rfl) (by kernel_rfl) (fun _ _ _ h=>h) (Or.inl ⟨by kernel_rfl,?_⟩) (⟨ae I.out 2,trivial⟩) ?_
 rotate_left
 ·(intro F f;obtain ⟨G,H⟩:=f;go_simp;try with_reducible rfl)
 refine wpAnyH_take (i:=8) (v:=?_) rfl (by kernel_rfl) (by kernel_rfl) (by kernel_rfl) (fun _ _ _ h=>h) (Or.inl ⟨by kernel_rfl,?_⟩) (⟨ae I.out 2,trivial⟩) ?_
 rotate_left
 ·(intro F f;obtain ⟨G,H⟩:=f;go_simp;try with_reducible rfl)
 refine wpAnyH_take (i:=9) (v:=?_) rfl (by kernel_rfl) (by kernel_rfl) (by kernel_rfl) (fun _ _ _ h=>h) (Or.inl ⟨by kernel_rfl,?_⟩) (⟨ae I.out 2,trivial⟩) ?_
 rotate_left
 ·(intro F f;obtain ⟨G,H⟩:=f;go_simp;try with_reducible rfl)
 refine wpAnyH_done (by kernel_rfl) ?_ _;go_simp;go_wp2_with fail;have E:Below x2 x2 x2.drew:=ar;have J:=hide (av I.out E);have ac:=hide (ab.out.trans (E.mono ab.out.size));clear E;refine wp_region_held_drew (S:=fun w'=>w'.cell? ⟨w,2,none⟩=some (.int .i64 5)∧True) (by kernel_rfl) ⟨ae J.out 2,trivial⟩ (fun _=>?_);generalize x2.drew=x3 at *;refine wpAnyH_take (i:=1) (v:=?_) rfl (by kernel_rfl) (by kernel_rfl) (by kernel_rfl) (fun _ _ _ h=>h) (Or.inl ⟨by kernel_rfl,?_⟩) (⟨ae J.out 2,trivial⟩) ?_
 rotate_left
 ·(intro F f;obtain ⟨G,H⟩:=f;go_simp;try with_reducible rfl)
 refine wpAnyH_take (i:=2) (v:=?_) rfl (by kernel_rfl) (by kernel_rfl) (by kernel_rfl) (fun _ _ _ h=>h) (Or.inl ⟨by kernel_rfl,?_⟩) (⟨ae J.out 2,trivial⟩) ?_
 rotate_left
 ·(intro F f;obtain ⟨G,H⟩:=f;go_simp;try with_reducible rfl)
 refine wpAnyH_take (i:=3) (v:=?_) rfl (by kernel_rfl) (by kernel_rfl) (by kernel_rfl) (fun _ _ _ h=>h) (Or.inl ⟨by kernel_rfl,?_⟩) (⟨ae J.out 2,trivial⟩) ?_
 rotate_left
 ·(intro F f;obtain ⟨G,H⟩:=f;go_simp;try with_reducible rfl)
 refine wpAnyH_ready (rs:=[0]) (by kernel_rfl) af ?_;refine AllReadyH.cons rfl (fun K U=>?_) AllReadyH.nil;go_simp;refine (jd _).mono ?_;rintro e x4 ⟨g2,rfl,hc,V⟩;have O:=hide (av J.out V);have ad:=hide (ac.out.trans (V.mono ac.out.size));clear V;refine U.out _ _ (⟨ae O.out 2,trivial⟩) (fun _=>?_);clear U K;refine wpAnyH_take (i:=4) (v:=?_) rfl (by kernel_rfl) (by kernel_rfl) (by kernel_rfl) (fun _ _ _ h=>h) (Or.inl ⟨by kernel_rfl,?_⟩) (⟨ae O.out 2,trivial⟩) ?_
 rotate_left
 ·(intro F f;obtain ⟨G,H⟩:=f;go_simp;try with_reducible rfl)
 refine wpAnyH_ready (rs:=[5]) (by kernel_rfl) af ?_;refine AllReadyH.cons rfl (fun K U=>?_) AllReadyH.nil;go_simp;refine U.out _ _ (⟨ae O.out 2,trivial⟩) (fun _=>?_);clear U K;refine wpAnyH_take (i:=6) (v:=?_) rfl (by kernel_rfl) (by kernel_rfl) (by kernel_rfl) (fun _ _ _ h=>h) (Or.inl ⟨by kernel_rfl,?_⟩) (⟨ae O.out 2,trivial⟩) ?_
 rotate_left
 ·(intro F f;obtain ⟨G,H⟩:=f;go_simp;try with_reducible rfl)
 refine wpAnyH_done (by kernel_rfl) ?_ _;go_simp;go_wp2_with fail;go_ret;exact ⟨rfl,ad.out⟩
theorem yy:(Tryz.prog.info? 9).map (fun i=>(i.zero,i.size,i.bytes))=some (some (.string ⟨#[]⟩),1,16):=by kernel_rfl
theorem bP {I:Array Oper} {G:List Oper} {o:Oper} {a:Act} {Q:Exit→Act→World→Prop} {w:World} (J:o.guard=none) (s x:Operand)
  (ho:o.op=.call { callee:=.builtin .append,args:=#[s,x],argTypes:=#[108,108] })
  (f:Nat) (v:Value) (n:Nat) (Y:List Value) (hs:a.eval s=v) (F:w.ownsRow f 9 1 v n Y) (g:Nat) (t:ByteArray) (hx:a.eval x=.slice (some ⟨g,0,none⟩) 1 1)
  (hB:w.cell? ⟨g,0,none⟩=some (.string t)) (hn:n≤100000) (E:f≤w.heap.size)
  (h:∀ v' w',w'.ownsRow f 9 1 v' (n+1) (Y++[.string t])→Below f w w'→w.grownBy w' v.ownBlock→wpList Tryz.prog I Q G (a.put o.dst v') w'):wpList Tryz.prog I Q (o::G) a w:=by
 obtain ⟨i0,hi,O,U,V⟩:=info_parts yy;refine wpList_append_own w J s x 108 ho f 9 i0 (.string ⟨#[]⟩) 1 16 Tryz.underlying108 hi O U V rfl aj v n Y hs F ⟨g,0,none⟩ 1 1 [.string t] hx rfl ?_ (by intro u hu;simp at hu;subst hu;rfl) (by unfold maxLen;omega) om E ?_
 ·intro j u H
  match j,H with
  | 0,H=>simp at H;subst H;simpa [Addr.add] using hB
  | j+1,H=>simp at H
 ·intro v' w' W hg _
  exact h v' w' W ((Below.refl f w).grown hg E fun k hk=>(F.lt k hk).1) hg
theorem Ea {w:World} {f n:Nat} {T:TypeId} {sz:Nat} {v:Value} {V:List Value} {j:Nat} {o:Obj} (h:w.ownsRow f T sz v n V) (G:w.heap[j]?=some o) (U:∀ H,o≠.cells H T (0,0)):some j≠v.ownBlock:=by
 intro e;rcases h.2 with ⟨E,_⟩ | ⟨J,F,I,E,_,O,_⟩
 ·rw [E] at e;simp [Value.ownBlock] at e
 ·rw [E] at e
  obtain rfl:j=J:=by simpa [Value.ownBlock] using e
  rw [O] at G;cases G;exact U _ rfl
theorem aJ {w w':World} {f n:Nat} {T:TypeId} {sz:Nat} {v:Value} {I:List Value} {j:Nat} {o:Obj} (G:w.grownBy w' v.ownBlock) (h:w.ownsRow f T sz v n I) (E:w.heap[j]?=some o) (H:∀ F,o≠.cells F T (0,0)):w'.heap[j]?=some o:=
 (G.block j (Array.getElem?_eq_some_iff.1 E).1 (Ea h E H)).trans E
theorem jp (w:World) (t:ByteArray) (f:Nat) (h:f≤w.heap.size):(w.alloc (.cells #[.string t] 9)).ownsRow f 9 1 (.slice (some ⟨w,0,none⟩) 1 1) 1 [.string t]:=
 ⟨rfl,.inr ⟨w,1,#[.string t],rfl,h,heap_alloc_new w _,Nat.le_refl _,by unfold maxLen;omega,rfl,rfl⟩⟩
theorem fJ (w:World):Calls Tryz.prog 113 #[] w fun e w'=>∃ g,e=.returned (.slice (some ⟨g,0,none⟩) 10 10)∧w'.heap[g]?=some (.cells pW 217 (0,0))∧Below w w w':=by
 refine (jJ w).mono ?_;rintro e w' ⟨rfl,rfl⟩;exact ⟨_,rfl,heap_alloc_new w _,by (repeat' exact bel)⟩
end
end Go.Proofs.YtpebkobmhhnojaaGreatDoor
