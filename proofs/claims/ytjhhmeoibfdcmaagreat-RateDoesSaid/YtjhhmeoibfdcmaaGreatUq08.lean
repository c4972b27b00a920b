/- Contracts of units: known. Contracts of units: Count, Check, Span, Up, Down. Contracts of units: Up, Down. Contracts of units: Down. Units: the plain law of their weeks and days. What '==' says of units and spans. A unit that lies in a block. -/
import Derived.Laws.CopyOwn
import Derived.Test.YtjhhmeoibfdcmaaGreatUq01
import Derived.Test.YtjhhmeoibfdcmaaGreatUq04
import Derived.Test.YtjhhmeoibfdcmaaGreatUq07
set_option linter.unusedSimpArgs false
set_option linter.unusedVariables false
set_option maxRecDepth 100000
set_option maxHeartbeats 12800000
namespace Go.Proofs.YtjhhmeoibfdcmaaGreat
open Go.RowKit Qd
def unitE (c:Cal) (u:Un):Int:=if frameE c u.lv u.yr=0 then (if 1≤u.ix∧u.ix≤(cntL c u.yr u.lv:Int) then 0 else 13) else frameE c u.lv u.yr
def uI (u:Un):Nat:=(u.ix-1).toNat
theorem unit_ok {c:Cal} {u:Un} (h:unitE c u=0):frameE c u.lv u.yr=0∧u.ix=(uI u:Int)+1∧uI u<cntL c u.yr u.lv:=by
  unfold unitE at h
  split at h
  · rename_i hf
    split at h
    · rename_i hx
      unfold uI
      exact ⟨hf,by omega,by omega⟩
    · omega
  · rename_i hf
    exact absurd h hf
theorem unit_is {c:Cal} {u:Un} (h:frameE c u.lv u.yr=0) (h1:1≤u.ix) (h2:u.ix≤(cntL c u.yr u.lv:Int)):unitE c u=0:=by
  unfold unitE
  rw [if_pos h,if_pos ⟨h1,h2⟩]
def cutA (c:Cal) (u:Un):Nat:=cutN c u.yr u.lv (uI u)
def cutB (c:Cal) (u:Un):Nat:=cutN c u.yr u.lv (uI u+1)
theorem cutAB {c:Cal} {u:Un} (h:unitE c u=0):cutA c u<cutB c u∧cutB c u≤nWk c u.yr:=by
  obtain ⟨hf,hx,hi⟩:=unit_ok h
  obtain ⟨hok,hok2,h1,h5,hy1,hy2,hA⟩:=frame_ok hf
  exact ⟨cut_lt c u.yr hA u.lv h1 h5 _ hi,cut_le_nWk c u.yr hA u.lv h1 h5 _ (by omega)⟩
def KnownPost (c:Cal) (u:Un) (w:World) (e:Ending) (w':World):Prop:=
  ∃ g1 cap g2,w.heap.size≤g1∧w.heap.size≤g2∧e=.returned (.tuple #[yearV u.yr (nWk c u.yr) cap g1 (nPer c u.yr) g2,.int .i64 ((cutA c u:Int)+1),.int .i64 (cutB c u:Int),.int .i64 0])∧nWk c u.yr≤cap∧cap≤maxLen∧FrameAt w' g1 g2 c u.yr∧Below w.heap.size w w'
theorem known_bad (c:Cal) (u:Un) (w:World) (hn:c.name.size≤1000) (hE:¬ frameE c u.lv u.yr=0) :
    Calls Tryz.prog 79 #[calV c,unitV u] w fun e w'=>e=.returned (.tuple #[.agg #[.int .i64 0,.slice none 0 0,.slice none 0 0],.int .i64 0,.int .i64 0,.int .i64 (unitE c u)])∧Below w.heap.size w w':=by
  have hU:=hide (show unitE c u=frameE c u.lv u.yr by unfold unitE;rw [if_neg hE])
  have hE':(frameE c u.lv u.yr != 0)=true:=by simpa using hE
  have HE:=hide hE
  clear hE
  simp only [calV,unitV]
  go_enter Tryz.func79,Tryz.ntmps79
  go_wp2_with fail
  refine (make_no c u.lv u.yr _ hn HE.out).mono ?_
  rintro e w1 ⟨rfl,hb1⟩
  have r0:w1.cell? ⟨w.heap.size+1+1,0,none⟩=some (.int .i64 0):=by rw [hb1.cell (p:=⟨w.heap.size+1+1,0,none⟩) (by simp;try omega)];simp [World.cell?_alloc_at,World.cell?_alloc_past,World.frozen?_alloc_at,World.frozen?_alloc_past]
  have f0:w1.frozen? ⟨w.heap.size+1+1,0,none⟩=false:=by rw [hb1.frozen (p:=⟨w.heap.size+1+1,0,none⟩) (by simp;try omega)];simp [World.cell?_alloc_at,World.cell?_alloc_past,World.frozen?_alloc_at,World.frozen?_alloc_past]
  have r1:w1.cell? ⟨w.heap.size+1+1,1,none⟩=some (.slice none 0 0):=by rw [hb1.cell (p:=⟨w.heap.size+1+1,1,none⟩) (by simp;try omega)];simp [World.cell?_alloc_at,World.cell?_alloc_past,World.frozen?_alloc_at,World.frozen?_alloc_past]
  have f1:w1.frozen? ⟨w.heap.size+1+1,1,none⟩=false:=by rw [hb1.frozen (p:=⟨w.heap.size+1+1,1,none⟩) (by simp;try omega)];simp [World.cell?_alloc_at,World.cell?_alloc_past,World.frozen?_alloc_at,World.frozen?_alloc_past]
  have r2:w1.cell? ⟨w.heap.size+1+1,2,none⟩=some (.slice none 0 0):=by rw [hb1.cell (p:=⟨w.heap.size+1+1,2,none⟩) (by simp;try omega)];simp [World.cell?_alloc_at,World.cell?_alloc_past,World.frozen?_alloc_at,World.frozen?_alloc_past]
  have f2:w1.frozen? ⟨w.heap.size+1+1,2,none⟩=false:=by rw [hb1.frozen (p:=⟨w.heap.size+1+1,2,none⟩) (by simp;try omega)];simp [World.cell?_alloc_at,World.cell?_alloc_past,World.frozen?_alloc_at,World.frozen?_alloc_past]
  have hsz:w.heap.size+1+1<w1.heap.size:=by have:=hb1.size;simp at this;omega
  have HW:=hide (show Below w.heap.size w w1 by (repeat' exact bel))
  clear hb1
  go_wp2
  exact bodyPost_ret (v:=.tuple #[.agg #[.int .i64 0,.slice none 0 0,.slice none 0 0],.int .i64 0,.int .i64 0,.int .i64 (frameE c u.lv u.yr)]) (by simp (maxDischargeDepth:=9) [results,Tryz.results79,go_sem,r0,r1,r2,f0,f1,f2,hsz]) rfl ⟨by rw [hU.out],by have hWo:=HW.out;(repeat' exact bel)⟩
theorem known_none (c:Cal) (u:Un) (w:World) (hn:c.name.size≤1000) (hE:frameE c u.lv u.yr=0) (hx:u.ix<1∨(cntL c u.yr u.lv:Int)<u.ix) :
    Calls Tryz.prog 79 #[calV c,unitV u] w fun e w'=>e=.returned (.tuple #[.agg #[.int .i64 0,.slice none 0 0,.slice none 0 0],.int .i64 0,.int .i64 0,.int .i64 (unitE c u)])∧Below w.heap.size w w':=by
  have hU:=hide (show unitE c u=13 by unfold unitE;rw [if_pos hE,if_neg (by omega)])
  have HE:=hide hE
  have HF:=hide (frame_ok hE)
  have HX:=hide hx
  clear hE hx
  simp only [calV,unitV]
  go_enter Tryz.func79,Tryz.ntmps79
  go_wp2_with fail
  refine (make_yes c u.lv u.yr _ hn HE.out).mono ?_
  rintro e w1 ⟨g1,cap,g2,hG1,hG2,rfl,hc1,hc2,hFr,hb1⟩
  simp at hG1 hG2
  have r0:w1.cell? ⟨w.heap.size+1+1,0,none⟩=some (.int .i64 0):=by rw [hb1.cell (p:=⟨w.heap.size+1+1,0,none⟩) (by simp;try omega)];simp [World.cell?_alloc_at,World.cell?_alloc_past,World.frozen?_alloc_at,World.frozen?_alloc_past]
  have f0:w1.frozen? ⟨w.heap.size+1+1,0,none⟩=false:=by rw [hb1.frozen (p:=⟨w.heap.size+1+1,0,none⟩) (by simp;try omega)];simp [World.cell?_alloc_at,World.cell?_alloc_past,World.frozen?_alloc_at,World.frozen?_alloc_past]
  have r1:w1.cell? ⟨w.heap.size+1+1,1,none⟩=some (.slice none 0 0):=by rw [hb1.cell (p:=⟨w.heap.size+1+1,1,none⟩) (by simp;try omega)];simp [World.cell?_alloc_at,World.cell?_alloc_past,World.frozen?_alloc_at,World.frozen?_alloc_past]
  have f1:w1.frozen? ⟨w.heap.size+1+1,1,none⟩=false:=by rw [hb1.frozen (p:=⟨w.heap.size+1+1,1,none⟩) (by simp;try omega)];simp [World.cell?_alloc_at,World.cell?_alloc_past,World.frozen?_alloc_at,World.frozen?_alloc_past]
  have r2:w1.cell? ⟨w.heap.size+1+1,2,none⟩=some (.slice none 0 0):=by rw [hb1.cell (p:=⟨w.heap.size+1+1,2,none⟩) (by simp;try omega)];simp [World.cell?_alloc_at,World.cell?_alloc_past,World.frozen?_alloc_at,World.frozen?_alloc_past]
  have f2:w1.frozen? ⟨w.heap.size+1+1,2,none⟩=false:=by rw [hb1.frozen (p:=⟨w.heap.size+1+1,2,none⟩) (by simp;try omega)];simp [World.cell?_alloc_at,World.cell?_alloc_past,World.frozen?_alloc_at,World.frozen?_alloc_past]
  have u0:w1.cell? ⟨w.heap.size+1,0,none⟩=some (.int .i64 u.lv):=by rw [hb1.cell (p:=⟨w.heap.size+1,0,none⟩) (by simp;try omega)];simp [World.cell?_alloc_at,World.cell?_alloc_past]
  have u1:w1.cell? ⟨w.heap.size+1,1,none⟩=some (.int .i64 u.yr):=by rw [hb1.cell (p:=⟨w.heap.size+1,1,none⟩) (by simp;try omega)];simp [World.cell?_alloc_at,World.cell?_alloc_past]
  have u2:w1.cell? ⟨w.heap.size+1,2,none⟩=some (.int .i64 u.ix):=by rw [hb1.cell (p:=⟨w.heap.size+1,2,none⟩) (by simp;try omega)];simp [World.cell?_alloc_at,World.cell?_alloc_past]
  have hsz:w.heap.size+1+1<w1.heap.size:=by have:=hb1.size;simp at this;omega
  have HW:=hide (show Below w.heap.size w w1 by (repeat' exact bel))
  have hg1:=hFr.1.1
  have hg2:=hFr.2.lt
  have HFr:=hide hFr
  clear hb1 hFr
  go_wp2_with fail
  generalize hW2:(((w1.setCell _ _).setCell _ _).setCell _ _)=W2
  have HW2:=hide (show Below w.heap.size w W2 by rw [← hW2];exact ((HW.out.setCell (by simp;omega) _).setCell (by simp;omega) _).setCell (by simp;omega) _)
  have HFr2:=hide (show FrameAt W2 g1 g2 c u.yr by rw [← hW2];exact ((HFr.out.far (by simp;omega) (by simp;omega) _).far (by simp;omega) (by simp;omega) _).far (by simp;omega) (by simp;omega) _)
  have hz2:w.heap.size+1+1<W2.heap.size:=by rw [← hW2];simpa using hsz
  have R0:W2.cell? ⟨w.heap.size+1+1,0,none⟩=some (.int .i64 u.yr):=by rw [← hW2];simp (maxDischargeDepth:=9) [World.cell?_setCell_same',World.cell?_setCell_other,r0,r1,r2]
  have F0:W2.frozen? ⟨w.heap.size+1+1,0,none⟩=false:=by rw [← hW2];simp [f0,f1,f2]
  have R1:W2.cell? ⟨w.heap.size+1+1,1,none⟩=some (.slice (some ⟨g1,0,none⟩) (nWk c u.yr) cap):=by rw [← hW2];simp (maxDischargeDepth:=9) [World.cell?_setCell_same',World.cell?_setCell_other,r0,r1,r2]
  have F1:W2.frozen? ⟨w.heap.size+1+1,1,none⟩=false:=by rw [← hW2];simp [f0,f1,f2]
  have R2:W2.cell? ⟨w.heap.size+1+1,2,none⟩=some (.slice (some ⟨g2,0,none⟩) (nPer c u.yr) (nPer c u.yr)):=by rw [← hW2];simp (maxDischargeDepth:=9) [World.cell?_setCell_same',World.cell?_setCell_other,r0,r1,r2]
  have F2:W2.frozen? ⟨w.heap.size+1+1,2,none⟩=false:=by rw [← hW2];simp [f0,f1,f2]
  clear hW2 r0 r1 r2 f0 f1 f2 u0 u1 u2
  refine (fweeks_no c u.yr u _ cap g1 g2 HF.out.2.2.1 HF.out.2.2.2.1 HF.out.2.2.2.2.2.2 HFr2.out.2 HX.out).mono ?_
  rintro e w3 ⟨rfl,hb3⟩
  have r0:w3.cell? ⟨w.heap.size+1+1,0,none⟩=some (.int .i64 u.yr):=by rw [hb3.cell (p:=⟨w.heap.size+1+1,0,none⟩) hz2];exact R0
  have f0:w3.frozen? ⟨w.heap.size+1+1,0,none⟩=false:=by rw [hb3.frozen (p:=⟨w.heap.size+1+1,0,none⟩) hz2];exact F0
  have r1:w3.cell? ⟨w.heap.size+1+1,1,none⟩=some (.slice (some ⟨g1,0,none⟩) (nWk c u.yr) cap):=by rw [hb3.cell (p:=⟨w.heap.size+1+1,1,none⟩) hz2];exact R1
  have f1:w3.frozen? ⟨w.heap.size+1+1,1,none⟩=false:=by rw [hb3.frozen (p:=⟨w.heap.size+1+1,1,none⟩) hz2];exact F1
  have r2:w3.cell? ⟨w.heap.size+1+1,2,none⟩=some (.slice (some ⟨g2,0,none⟩) (nPer c u.yr) (nPer c u.yr)):=by rw [hb3.cell (p:=⟨w.heap.size+1+1,2,none⟩) hz2];exact R2
  have f2:w3.frozen? ⟨w.heap.size+1+1,2,none⟩=false:=by rw [hb3.frozen (p:=⟨w.heap.size+1+1,2,none⟩) hz2];exact F2
  have hsz3:w.heap.size+1+1<w3.heap.size:=Nat.lt_of_lt_of_le hz2 hb3.size
  have HW3:=hide (HW2.out.trans (hb3.mono (by omega)))
  clear hb3 R0 R1 R2 F0 F1 F2
  go_wp2
  exact bodyPost_ret (v:=.tuple #[.agg #[.int .i64 0,.slice none 0 0,.slice none 0 0],.int .i64 0,.int .i64 0,.int .i64 13]) (by simp (maxDischargeDepth:=9) [results,Tryz.results79,go_sem,r0,r1,r2,f0,f1,f2,hsz3]) rfl ⟨by rw [hU.out],((HW3.out.setCell (by simp;omega) _).setCell (by simp;omega) _).setCell (by simp;omega) _⟩
theorem known_yes (c:Cal) (u:Un) (w:World) (hn:c.name.size≤1000) (hU0:unitE c u=0) :
    Calls Tryz.prog 79 #[calV c,unitV u] w (KnownPost c u w):=by
  obtain ⟨hE,hx,hi⟩:=unit_ok hU0
  have HI:=hide hi
  clear hi hU0
  have HE:=hide hE
  have HF:=hide (frame_ok hE)
  have HX:=hide hx
  clear hE hx
  simp only [calV,unitV]
  go_enter Tryz.func79,Tryz.ntmps79
  go_wp2_with fail
  refine (make_yes c u.lv u.yr _ hn HE.out).mono ?_
  rintro e w1 ⟨g1,cap,g2,hG1,hG2,rfl,hc1,hc2,hFr,hb1⟩
  simp at hG1 hG2
  have r0:w1.cell? ⟨w.heap.size+1+1,0,none⟩=some (.int .i64 0):=by rw [hb1.cell (p:=⟨w.heap.size+1+1,0,none⟩) (by simp;try omega)];simp [World.cell?_alloc_at,World.cell?_alloc_past,World.frozen?_alloc_at,World.frozen?_alloc_past]
  have f0:w1.frozen? ⟨w.heap.size+1+1,0,none⟩=false:=by rw [hb1.frozen (p:=⟨w.heap.size+1+1,0,none⟩) (by simp;try omega)];simp [World.cell?_alloc_at,World.cell?_alloc_past,World.frozen?_alloc_at,World.frozen?_alloc_past]
  have r1:w1.cell? ⟨w.heap.size+1+1,1,none⟩=some (.slice none 0 0):=by rw [hb1.cell (p:=⟨w.heap.size+1+1,1,none⟩) (by simp;try omega)];simp [World.cell?_alloc_at,World.cell?_alloc_past,World.frozen?_alloc_at,World.frozen?_alloc_past]
  have f1:w1.frozen? ⟨w.heap.size+1+1,1,none⟩=false:=by rw [hb1.frozen (p:=⟨w.heap.size+1+1,1,none⟩) (by simp;try omega)];simp [World.cell?_alloc_at,World.cell?_alloc_past,World.frozen?_alloc_at,World.frozen?_alloc_past]
  have r2:w1.cell? ⟨w.heap.size+1+1,2,none⟩=some (.slice none 0 0):=by rw [hb1.cell (p:=⟨w.heap.size+1+1,2,none⟩) (by simp;try omega)];simp [World.cell?_alloc_at,World.cell?_alloc_past,World.frozen?_alloc_at,World.frozen?_alloc_past]
  have f2:w1.frozen? ⟨w.heap.size+1+1,2,none⟩=false:=by rw [hb1.frozen (p:=⟨w.heap.size+1+1,2,none⟩) (by simp;try omega)];simp [World.cell?_alloc_at,World.cell?_alloc_past,World.frozen?_alloc_at,World.frozen?_alloc_past]
  have u0:w1.cell? ⟨w.heap.size+1,0,none⟩=some (.int .i64 u.lv):=by rw [hb1.cell (p:=⟨w.heap.size+1,0,none⟩) (by simp;try omega)];simp [World.cell?_alloc_at,World.cell?_alloc_past]
  have u1:w1.cell? ⟨w.heap.size+1,1,none⟩=some (.int .i64 u.yr):=by rw [hb1.cell (p:=⟨w.heap.size+1,1,none⟩) (by simp;try omega)];simp [World.cell?_alloc_at,World.cell?_alloc_past]
  have u2:w1.cell? ⟨w.heap.size+1,2,none⟩=some (.int .i64 u.ix):=by rw [hb1.cell (p:=⟨w.heap.size+1,2,none⟩) (by simp;try omega)];simp [World.cell?_alloc_at,World.cell?_alloc_past]
  have hsz:w.heap.size+1+1<w1.heap.size:=by have:=hb1.size;simp at this;omega
  have HW:=hide (show Below w.heap.size w w1 by (repeat' exact bel))
  have hg1:=hFr.1.1
  have hg2:=hFr.2.lt
  have HFr:=hide hFr
  clear hb1 hFr
  go_wp2_with fail
  generalize hW2:(((w1.setCell _ _).setCell _ _).setCell _ _)=W2
  have HW2:=hide (show Below w.heap.size w W2 by rw [← hW2];exact ((HW.out.setCell (by simp;omega) _).setCell (by simp;omega) _).setCell (by simp;omega) _)
  have HFr2:=hide (show FrameAt W2 g1 g2 c u.yr by rw [← hW2];exact ((HFr.out.far (by simp;omega) (by simp;omega) _).far (by simp;omega) (by simp;omega) _).far (by simp;omega) (by simp;omega) _)
  have hz2:w.heap.size+1+1<W2.heap.size:=by rw [← hW2];simpa using hsz
  have R0:W2.cell? ⟨w.heap.size+1+1,0,none⟩=some (.int .i64 u.yr):=by rw [← hW2];simp (maxDischargeDepth:=9) [World.cell?_setCell_same',World.cell?_setCell_other,r0,r1,r2]
  have F0:W2.frozen? ⟨w.heap.size+1+1,0,none⟩=false:=by rw [← hW2];simp [f0,f1,f2]
  have R1:W2.cell? ⟨w.heap.size+1+1,1,none⟩=some (.slice (some ⟨g1,0,none⟩) (nWk c u.yr) cap):=by rw [← hW2];simp (maxDischargeDepth:=9) [World.cell?_setCell_same',World.cell?_setCell_other,r0,r1,r2]
  have F1:W2.frozen? ⟨w.heap.size+1+1,1,none⟩=false:=by rw [← hW2];simp [f0,f1,f2]
  have R2:W2.cell? ⟨w.heap.size+1+1,2,none⟩=some (.slice (some ⟨g2,0,none⟩) (nPer c u.yr) (nPer c u.yr)):=by rw [← hW2];simp (maxDischargeDepth:=9) [World.cell?_setCell_same',World.cell?_setCell_other,r0,r1,r2]
  have F2:W2.frozen? ⟨w.heap.size+1+1,2,none⟩=false:=by rw [← hW2];simp [f0,f1,f2]
  clear hW2 r0 r1 r2 f0 f1 f2 u0 u1 u2
  refine (fweeks_yes c u.yr u _ cap g1 g2 HF.out.2.2.1 HF.out.2.2.2.1 HF.out.2.2.2.2.2.2 HFr2.out.2 (uI u) HX.out HI.out).mono ?_
  rintro e w3 ⟨rfl,hb3⟩
  have r0:w3.cell? ⟨w.heap.size+1+1,0,none⟩=some (.int .i64 u.yr):=by rw [hb3.cell (p:=⟨w.heap.size+1+1,0,none⟩) hz2];exact R0
  have f0:w3.frozen? ⟨w.heap.size+1+1,0,none⟩=false:=by rw [hb3.frozen (p:=⟨w.heap.size+1+1,0,none⟩) hz2];exact F0
  have r1:w3.cell? ⟨w.heap.size+1+1,1,none⟩=some (.slice (some ⟨g1,0,none⟩) (nWk c u.yr) cap):=by rw [hb3.cell (p:=⟨w.heap.size+1+1,1,none⟩) hz2];exact R1
  have f1:w3.frozen? ⟨w.heap.size+1+1,1,none⟩=false:=by rw [hb3.frozen (p:=⟨w.heap.size+1+1,1,none⟩) hz2];exact F1
  have r2:w3.cell? ⟨w.heap.size+1+1,2,none⟩=some (.slice (some ⟨g2,0,none⟩) (nPer c u.yr) (nPer c u.yr)):=by rw [hb3.cell (p:=⟨w.heap.size+1+1,2,none⟩) hz2];exact R2
  have f2:w3.frozen? ⟨w.heap.size+1+1,2,none⟩=false:=by rw [hb3.frozen (p:=⟨w.heap.size+1+1,2,none⟩) hz2];exact F2
  have hsz3:w.heap.size+1+1<w3.heap.size:=Nat.lt_of_lt_of_le hz2 hb3.size
  have HFr3:=hide (HFr2.out.call hb3)
  have HW3:=hide (HW2.out.trans (hb3.mono (by omega)))
  clear hb3 R0 R1 R2 F0 F1 F2
  go_wp2
  refine bodyPost_ret (v:=.tuple #[yearV u.yr (nWk c u.yr) cap g1 (nPer c u.yr) g2,.int .i64 ((cutA c u:Int)+1),.int .i64 (cutB c u:Int),.int .i64 0]) (by simp (maxDischargeDepth:=9) [results,Tryz.results79,go_sem,r0,r1,r2,f0,f1,f2,hsz3,cutA,cutB]) rfl ⟨g1,cap,g2,by omega,by omega,rfl,hc1,hc2,?_,((HW3.out.setCell (by simp;omega) _).setCell (by simp;omega) _).setCell (by simp;omega) _⟩
  exact ((HFr3.out.far (by simp;omega) (by simp;omega) _).far (by simp;omega) (by simp;omega) _).far (by simp;omega) (by simp;omega) _
theorem known_not (c:Cal) (u:Un) (w:World) (hn:c.name.size≤1000) (hE:¬ unitE c u=0) :
    Calls Tryz.prog 79 #[calV c,unitV u] w fun e w'=>e=.returned (.tuple #[.agg #[.int .i64 0,.slice none 0 0,.slice none 0 0],.int .i64 0,.int .i64 0,.int .i64 (unitE c u)])∧Below w.heap.size w w':=by
  by_cases hf:frameE c u.lv u.yr=0
  · refine known_none c u w hn hf ?_
    unfold unitE at hE
    rw [if_pos hf] at hE
    split at hE
    · exact absurd rfl hE
    · omega
  · exact known_bad c u w hn hf
def countV (c:Cal) (lv y:Int):Int:=if frameE c lv y=0 then (cntL c y lv:Int) else 0
def spanF (c:Cal) (u:Un):Int:=dayW c u.yr (cutA c u)
def spanT (c:Cal) (u:Un):Int:=dayW c u.yr (cutB c u)-1
def spV (c:Cal) (u:Un):Sp:=if unitE c u=0 then ⟨spanF c u,spanT c u⟩ else ⟨0,0⟩
def dnE (c:Cal) (u:Un) (lv:Int):Int:=if unitE c u=0 then (if u.lv≤lv∧lv≤5 then 0 else 1) else unitE c u
def dnA (c:Cal) (u:Un) (lv:Int):Un:=if dnE c u lv=0 then ⟨lv,u.yr,(ixN c u.yr lv (cutA c u):Int)+1⟩ else ⟨0,0,0⟩
def dnB (c:Cal) (u:Un) (lv:Int):Un:=if dnE c u lv=0 then ⟨lv,u.yr,(ixN c u.yr lv (cutB c u-1):Int)+1⟩ else ⟨0,0,0⟩
theorem count_any (c:Cal) (lv y:Int) (w:World) (hn:c.name.size≤1000) :
    Calls Tryz.prog 73 #[calV c,.int .i64 lv,.int .i64 y] w fun e w'=>e=.returned (.tuple #[.int .i64 (countV c lv y),.int .i64 (frameE c lv y)])∧Below w.heap.size w w':=by
  by_cases hE:frameE c lv y=0
  · have HV:=hide (show countV c lv y=(cntL c y lv:Int) by simp [countV,hE])
    have HF:=hide (frame_ok hE)
    have HE:=hide hE
    clear hE
    simp only [calV]
    go_enter Tryz.func73,Tryz.ntmps73
    go_wp2_with fail
    refine (make_yes c lv y _ hn HE.out).mono ?_
    rintro e w1 ⟨g1,cap,g2,hG1,hG2,rfl,hc1,hc2,hFr,hb1⟩
    have HW:=hide (show Below w.heap.size w w1 by (repeat' exact bel))
    have hz1:w.heap.size<w1.heap.size:=by have:=hb1.size;simp at this;omega
    have HFr:=hide hFr
    clear hb1 hFr
    go_wp2_with fail
    refine (fcount_any c y lv _ cap g1 g2 HF.out.2.2.1 HF.out.2.2.2.1 HF.out.2.2.2.2.2.2 (HFr.out.alloc _).2).mono ?_
    rintro e w2 ⟨rfl,hb2⟩
    go_wp2
    go_ret2
    exact ⟨ret_int2 HV.out.symm HE.out.symm,Below.trans (HW.out.alloc (by omega) _) (hb2.mono (by simp;omega))⟩
  · have HV:=hide (show countV c lv y=0 by simp [countV,hE])
    have hE':(frameE c lv y != 0)=true:=by simpa using hE
    have HE:=hide hE
    clear hE
    simp only [calV]
    go_enter Tryz.func73,Tryz.ntmps73
    go_wp2_with fail
    refine (make_no c lv y _ hn HE.out).mono ?_
    rintro e w1 ⟨rfl,hb1⟩
    have hz1:w.heap.size<w1.heap.size:=by have:=hb1.size;simp at this;omega
    go_wp2
    go_ret2
    exact ⟨ret_int2 HV.out.symm rfl,by (repeat' exact bel)⟩
theorem ucheck_any (c:Cal) (u:Un) (w:World) (hn:c.name.size≤1000) :
    Calls Tryz.prog 47 #[calV c,unitV u] w fun e w'=>e=.returned (.int .i64 (unitE c u))∧Below w.heap.size w w':=by
  by_cases hE:unitE c u=0
  · have HE:=hide hE
    clear hE
    simp only [calV,unitV]
    go_enter Tryz.func47,Tryz.ntmps47
    go_wp2_with fail
    refine (known_yes c u _ hn HE.out).mono ?_
    rintro e w1 ⟨g1,cap,g2,hG1,hG2,rfl,hc1,hc2,hFr,hb1⟩
    have hz1:w.heap.size+1<w1.heap.size:=by have:=hb1.size;simp at this;omega
    go_wp2
    go_ret
    exact ⟨ret_int HE.out.symm,by (repeat' exact bel)⟩
  · have HE:=hide hE
    clear hE
    simp only [calV,unitV]
    go_enter Tryz.func47,Tryz.ntmps47
    go_wp2_with fail
    refine (known_not c u _ hn HE.out).mono ?_
    rintro e w1 ⟨rfl,hb1⟩
    have hz1:w.heap.size+1<w1.heap.size:=by have:=hb1.size;simp at this;omega
    go_wp2
    go_ret
    exact ⟨rfl,by (repeat' exact bel)⟩
theorem uspan_no (c:Cal) (u:Un) (w:World) (hn:c.name.size≤1000) (hE:¬ unitE c u=0) :
    Calls Tryz.prog 41 #[calV c,unitV u] w fun e w'=>e=.returned (.tuple #[.agg #[.int .i64 0,.int .i64 0],.int .i64 (unitE c u)])∧Below w.heap.size w w':=by
  have hE':(unitE c u != 0)=true:=by simpa using hE
  have HE:=hide hE
  clear hE
  simp only [calV,unitV]
  go_enter Tryz.func41,Tryz.ntmps41
  go_wp2_with fail
  refine (known_not c u _ hn HE.out).mono ?_
  rintro e w1 ⟨rfl,hb1⟩
  have r0:w1.cell? ⟨w.heap.size+1+1,0,none⟩=some (.int .i64 0):=by rw [hb1.cell (p:=⟨w.heap.size+1+1,0,none⟩) (by simp;try omega)];simp [World.cell?_alloc_at,World.cell?_alloc_past,World.frozen?_alloc_at,World.frozen?_alloc_past]
  have f0:w1.frozen? ⟨w.heap.size+1+1,0,none⟩=false:=by rw [hb1.frozen (p:=⟨w.heap.size+1+1,0,none⟩) (by simp;try omega)];simp [World.cell?_alloc_at,World.cell?_alloc_past,World.frozen?_alloc_at,World.frozen?_alloc_past]
  have r1:w1.cell? ⟨w.heap.size+1+1,1,none⟩=some (.int .i64 0):=by rw [hb1.cell (p:=⟨w.heap.size+1+1,1,none⟩) (by simp;try omega)];simp [World.cell?_alloc_at,World.cell?_alloc_past,World.frozen?_alloc_at,World.frozen?_alloc_past]
  have f1:w1.frozen? ⟨w.heap.size+1+1,1,none⟩=false:=by rw [hb1.frozen (p:=⟨w.heap.size+1+1,1,none⟩) (by simp;try omega)];simp [World.cell?_alloc_at,World.cell?_alloc_past,World.frozen?_alloc_at,World.frozen?_alloc_past]
  have hsz:w.heap.size+1+1<w1.heap.size:=by have:=hb1.size;simp at this;omega
  have hsz1:w.heap.size+1<w1.heap.size:=by omega
  have HW:=hide (show Below w.heap.size w w1 by (repeat' exact bel))
  clear hb1
  go_wp2
  exact bodyPost_ret (v:=.tuple #[.agg #[.int .i64 0,.int .i64 0],.int .i64 (unitE c u)]) (by simp (maxDischargeDepth:=9) [results,Tryz.results41,go_sem,r0,r1,f0,f1,hsz]) rfl ⟨rfl,by have hWo:=HW.out;(repeat' exact bel)⟩
theorem uspan_yes (c:Cal) (u:Un) (w:World) (hn:c.name.size≤1000) (hE:unitE c u=0) :
    Calls Tryz.prog 41 #[calV c,unitV u] w fun e w'=>e=.returned (.tuple #[.agg #[.int .i64 (spanF c u),.int .i64 (spanT c u)],.int .i64 0])∧Below w.heap.size w w':=by
  have hcut:=cutAB hE
  obtain ⟨b,hb⟩:∃ b,cutB c u=b+1:=⟨cutB c u-1,by omega⟩
  have HB:=hide (show (cutB c u:Int)=(b:Int)+1 by omega)
  have HBN:=hide hb
  have hA:askE c u.yr 1601=0:=(frame_ok (unit_ok hE).1).2.2.2.2.2.2
  have HA:=hide hA
  have HE:=hide hE
  have hal:cutA c u<nWk c u.yr:=by omega
  have hbl:b<nWk c u.yr:=by omega
  clear hE hA hb hcut
  simp only [calV,unitV]
  go_enter Tryz.func41,Tryz.ntmps41
  go_wp2_with fail
  refine (known_yes c u _ hn HE.out).mono ?_
  rintro e w1 ⟨g1,cap,g2,hG1,hG2,rfl,hc1,hc2,hFr,hb1⟩
  rw [HB.out]
  have r0:w1.cell? ⟨w.heap.size+1+1,0,none⟩=some (.int .i64 0):=by rw [hb1.cell (p:=⟨w.heap.size+1+1,0,none⟩) (by simp;try omega)];simp [World.cell?_alloc_at,World.cell?_alloc_past,World.frozen?_alloc_at,World.frozen?_alloc_past]
  have f0:w1.frozen? ⟨w.heap.size+1+1,0,none⟩=false:=by rw [hb1.frozen (p:=⟨w.heap.size+1+1,0,none⟩) (by simp;try omega)];simp [World.cell?_alloc_at,World.cell?_alloc_past,World.frozen?_alloc_at,World.frozen?_alloc_past]
  have r1:w1.cell? ⟨w.heap.size+1+1,1,none⟩=some (.int .i64 0):=by rw [hb1.cell (p:=⟨w.heap.size+1+1,1,none⟩) (by simp;try omega)];simp [World.cell?_alloc_at,World.cell?_alloc_past,World.frozen?_alloc_at,World.frozen?_alloc_past]
  have f1:w1.frozen? ⟨w.heap.size+1+1,1,none⟩=false:=by rw [hb1.frozen (p:=⟨w.heap.size+1+1,1,none⟩) (by simp;try omega)];simp [World.cell?_alloc_at,World.cell?_alloc_past,World.frozen?_alloc_at,World.frozen?_alloc_past]
  have hsz:w.heap.size+1+1<w1.heap.size:=by have:=hb1.size;simp at this;omega
  have hsz1:w.heap.size+1<w1.heap.size:=by omega
  have HW:=hide (show Below w.heap.size w w1 by (repeat' exact bel))
  have HFr:=hide hFr
  clear hb1 hFr
  go_wp2_with fail
  refine (fspan_any c u.yr _ cap g1 g2 HA.out hc1 (HFr.out.alloc _) (cutA c u) b hal hbl).mono ?_
  rintro e w2 ⟨rfl,hb2⟩
  have s0:w2.cell? ⟨w.heap.size+1+1,0,none⟩=some (.int .i64 0):=by rw [hb2.cell (p:=⟨w.heap.size+1+1,0,none⟩) (by simp;omega),World.cell?_alloc_past _ _ _ hsz];exact r0
  have h0:w2.frozen? ⟨w.heap.size+1+1,0,none⟩=false:=by rw [hb2.frozen (p:=⟨w.heap.size+1+1,0,none⟩) (by simp;omega),World.frozen?_alloc_past _ _ _ hsz];exact f0
  have s1:w2.cell? ⟨w.heap.size+1+1,1,none⟩=some (.int .i64 0):=by rw [hb2.cell (p:=⟨w.heap.size+1+1,1,none⟩) (by simp;omega),World.cell?_alloc_past _ _ _ hsz];exact r1
  have h1:w2.frozen? ⟨w.heap.size+1+1,1,none⟩=false:=by rw [hb2.frozen (p:=⟨w.heap.size+1+1,1,none⟩) (by simp;omega),World.frozen?_alloc_past _ _ _ hsz];exact f1
  have hsz2:w.heap.size+1+1<w2.heap.size:=Nat.lt_of_lt_of_le hsz (Nat.le_trans (by simp) hb2.size)
  have HW2:=hide (Below.trans (HW.out.alloc (by omega) _) (hb2.mono (by simp;omega)):Below w.heap.size w w2)
  clear hb2 r0 r1 f0 f1
  go_wp2
  exact bodyPost_ret (v:=.tuple #[.agg #[.int .i64 (dayW c u.yr (cutA c u)),.int .i64 (dayW c u.yr (b+1)-1)],.int .i64 0]) (by simp (maxDischargeDepth:=9) [results,Tryz.results41,go_sem,s0,s1,h0,h1,hsz2]) rfl ⟨by rw [spanF,spanT,HBN.out],by have hWo:=HW2.out;(repeat' exact bel)⟩
theorem uspan_any (c:Cal) (u:Un) (w:World) (hn:c.name.size≤1000) :
    Calls Tryz.prog 41 #[calV c,unitV u] w fun e w'=>e=.returned (.tuple #[spanV (spV c u),.int .i64 (unitE c u)])∧Below w.heap.size w w':=by
  by_cases hE:unitE c u=0
  · refine (uspan_yes c u w hn hE).mono ?_
    rintro e w1 ⟨rfl,hb⟩
    exact ⟨by rw [spV,if_pos hE,hE],hb⟩
  · refine (uspan_no c u w hn hE).mono ?_
    rintro e w1 ⟨rfl,hb⟩
    exact ⟨by rw [spV,if_neg hE],hb⟩
theorem up_arg (c:Cal) (u:Un) (lv:Int) (w:World) (hn:c.name.size≤1000) (hE:unitE c u=0) (hl:lv<1∨u.lv<lv) :
    Calls Tryz.prog 226 #[calV c,unitV u,.int .i64 lv] w fun e w'=>e=.returned (.tuple #[.agg #[.int .i64 0,.int .i64 0,.int .i64 0],.int .i64 1])∧Below w.heap.size w w':=by
  have HE:=hide hE
  clear hE
  simp only [calV,unitV]
  go_enter Tryz.func226,Tryz.ntmps226
  go_wp2_with fail
  refine (known_yes c u _ hn HE.out).mono ?_
  rintro e w1 ⟨g1,cap,g2,hG1,hG2,rfl,hc1,hc2,hFr,hb1⟩
  have r0:w1.cell? ⟨w.heap.size+1+1,0,none⟩=some (.int .i64 0):=by rw [hb1.cell (p:=⟨w.heap.size+1+1,0,none⟩) (by simp;try omega)];simp [World.cell?_alloc_at,World.cell?_alloc_past,World.frozen?_alloc_at,World.frozen?_alloc_past]
  have f0:w1.frozen? ⟨w.heap.size+1+1,0,none⟩=false:=by rw [hb1.frozen (p:=⟨w.heap.size+1+1,0,none⟩) (by simp;try omega)];simp [World.cell?_alloc_at,World.cell?_alloc_past,World.frozen?_alloc_at,World.frozen?_alloc_past]
  have r1:w1.cell? ⟨w.heap.size+1+1,1,none⟩=some (.int .i64 0):=by rw [hb1.cell (p:=⟨w.heap.size+1+1,1,none⟩) (by simp;try omega)];simp [World.cell?_alloc_at,World.cell?_alloc_past,World.frozen?_alloc_at,World.frozen?_alloc_past]
  have f1:w1.frozen? ⟨w.heap.size+1+1,1,none⟩=false:=by rw [hb1.frozen (p:=⟨w.heap.size+1+1,1,none⟩) (by simp;try omega)];simp [World.cell?_alloc_at,World.cell?_alloc_past,World.frozen?_alloc_at,World.frozen?_alloc_past]
  have r2:w1.cell? ⟨w.heap.size+1+1,2,none⟩=some (.int .i64 0):=by rw [hb1.cell (p:=⟨w.heap.size+1+1,2,none⟩) (by simp;try omega)];simp [World.cell?_alloc_at,World.cell?_alloc_past,World.frozen?_alloc_at,World.frozen?_alloc_past]
  have f2:w1.frozen? ⟨w.heap.size+1+1,2,none⟩=false:=by rw [hb1.frozen (p:=⟨w.heap.size+1+1,2,none⟩) (by simp;try omega)];simp [World.cell?_alloc_at,World.cell?_alloc_past,World.frozen?_alloc_at,World.frozen?_alloc_past]
  have u0:w1.cell? ⟨w.heap.size+1,0,none⟩=some (.int .i64 u.lv):=by rw [hb1.cell (p:=⟨w.heap.size+1,0,none⟩) (by simp;try omega)];simp [World.cell?_alloc_at,World.cell?_alloc_past,World.frozen?_alloc_at,World.frozen?_alloc_past]
  have hsz:w.heap.size+1+1<w1.heap.size:=by have:=hb1.size;simp at this;omega
  have hsz1:w.heap.size+1<w1.heap.size:=by omega
  have HW:=hide (show Below w.heap.size w w1 by (repeat' exact bel))
  clear hb1 hFr
  go_wp2_with fail
  all_goals first
    | (exfalso;omega)
    | exact bodyPost_ret (v:=.tuple #[.agg #[.int .i64 0,.int .i64 0,.int .i64 0],.int .i64 1]) (by simp (maxDischargeDepth:=9) [results,Tryz.results226,go_sem,r0,r1,r2,f0,f1,f2,hsz]) rfl ⟨rfl,by have hWo:=HW.out;(repeat' exact bel)⟩
theorem up_yes (c:Cal) (u:Un) (lv:Int) (w:World) (hn:c.name.size≤1000) (hE:unitE c u=0) (h1:1≤lv) (h2:lv≤u.lv) :
    Calls Tryz.prog 226 #[calV c,unitV u,.int .i64 lv] w fun e w'=>e=.returned (.tuple #[.agg #[.int .i64 lv,.int .i64 u.yr,.int .i64 ((ixN c u.yr lv (cutA c u):Int)+1)],.int .i64 0])∧Below w.heap.size w w':=by
  have hf:=frame_ok (unit_ok hE).1
  have hA:askE c u.yr 1601=0:=hf.2.2.2.2.2.2
  have h5:lv≤5:=by have:=hf.2.2.2.1;omega
  have HA:=hide hA
  have HE:=hide hE
  clear hE hA hf
  simp only [calV,unitV]
  go_enter Tryz.func226,Tryz.ntmps226
  go_wp2_with fail
  refine (known_yes c u _ hn HE.out).mono ?_
  rintro e w1 ⟨g1,cap,g2,hG1,hG2,rfl,hc1,hc2,hFr,hb1⟩
  have r0:w1.cell? ⟨w.heap.size+1+1,0,none⟩=some (.int .i64 0):=by rw [hb1.cell (p:=⟨w.heap.size+1+1,0,none⟩) (by simp;try omega)];simp [World.cell?_alloc_at,World.cell?_alloc_past,World.frozen?_alloc_at,World.frozen?_alloc_past]
  have f0:w1.frozen? ⟨w.heap.size+1+1,0,none⟩=false:=by rw [hb1.frozen (p:=⟨w.heap.size+1+1,0,none⟩) (by simp;try omega)];simp [World.cell?_alloc_at,World.cell?_alloc_past,World.frozen?_alloc_at,World.frozen?_alloc_past]
  have r1:w1.cell? ⟨w.heap.size+1+1,1,none⟩=some (.int .i64 0):=by rw [hb1.cell (p:=⟨w.heap.size+1+1,1,none⟩) (by simp;try omega)];simp [World.cell?_alloc_at,World.cell?_alloc_past,World.frozen?_alloc_at,World.frozen?_alloc_past]
  have f1:w1.frozen? ⟨w.heap.size+1+1,1,none⟩=false:=by rw [hb1.frozen (p:=⟨w.heap.size+1+1,1,none⟩) (by simp;try omega)];simp [World.cell?_alloc_at,World.cell?_alloc_past,World.frozen?_alloc_at,World.frozen?_alloc_past]
  have r2:w1.cell? ⟨w.heap.size+1+1,2,none⟩=some (.int .i64 0):=by rw [hb1.cell (p:=⟨w.heap.size+1+1,2,none⟩) (by simp;try omega)];simp [World.cell?_alloc_at,World.cell?_alloc_past,World.frozen?_alloc_at,World.frozen?_alloc_past]
  have f2:w1.frozen? ⟨w.heap.size+1+1,2,none⟩=false:=by rw [hb1.frozen (p:=⟨w.heap.size+1+1,2,none⟩) (by simp;try omega)];simp [World.cell?_alloc_at,World.cell?_alloc_past,World.frozen?_alloc_at,World.frozen?_alloc_past]
  have u0:w1.cell? ⟨w.heap.size+1,0,none⟩=some (.int .i64 u.lv):=by rw [hb1.cell (p:=⟨w.heap.size+1,0,none⟩) (by simp;try omega)];simp [World.cell?_alloc_at,World.cell?_alloc_past,World.frozen?_alloc_at,World.frozen?_alloc_past]
  have hsz:w.heap.size+1+1<w1.heap.size:=by have:=hb1.size;simp at this;omega
  have hsz1:w.heap.size+1<w1.heap.size:=by omega
  have HW:=hide (show Below w.heap.size w w1 by (repeat' exact bel))
  have HFr:=hide hFr
  clear hb1 hFr
  go_wp2_with fail
  all_goals first
    | (exfalso;omega)
    | skip
  refine (funit_any c u.yr lv _ cap g1 g2 h1 h5 HA.out (HFr.out.alloc _).2 (cutA c u)).mono ?_
  rintro e w2 ⟨rfl,hb2⟩
  have s0:w2.cell? ⟨w.heap.size+1+1,0,none⟩=some (.int .i64 0):=by rw [hb2.cell (p:=⟨w.heap.size+1+1,0,none⟩) (by simp;omega),World.cell?_alloc_past _ _ _ hsz];exact r0
  have k0:w2.frozen? ⟨w.heap.size+1+1,0,none⟩=false:=by rw [hb2.frozen (p:=⟨w.heap.size+1+1,0,none⟩) (by simp;omega),World.frozen?_alloc_past _ _ _ hsz];exact f0
  have s1:w2.cell? ⟨w.heap.size+1+1,1,none⟩=some (.int .i64 0):=by rw [hb2.cell (p:=⟨w.heap.size+1+1,1,none⟩) (by simp;omega),World.cell?_alloc_past _ _ _ hsz];exact r1
  have k1:w2.frozen? ⟨w.heap.size+1+1,1,none⟩=false:=by rw [hb2.frozen (p:=⟨w.heap.size+1+1,1,none⟩) (by simp;omega),World.frozen?_alloc_past _ _ _ hsz];exact f1
  have s2:w2.cell? ⟨w.heap.size+1+1,2,none⟩=some (.int .i64 0):=by rw [hb2.cell (p:=⟨w.heap.size+1+1,2,none⟩) (by simp;omega),World.cell?_alloc_past _ _ _ hsz];exact r2
  have k2:w2.frozen? ⟨w.heap.size+1+1,2,none⟩=false:=by rw [hb2.frozen (p:=⟨w.heap.size+1+1,2,none⟩) (by simp;omega),World.frozen?_alloc_past _ _ _ hsz];exact f2
  have hsz2:w.heap.size+1+1<w2.heap.size:=Nat.lt_of_lt_of_le hsz (Nat.le_trans (by simp) hb2.size)
  have HW2:=hide (Below.trans (HW.out.alloc (by omega) _) (hb2.mono (by simp;omega)):Below w.heap.size w w2)
  clear hb2 r0 r1 r2 f0 f1 f2
  go_wp2
  exact bodyPost_ret (v:=.tuple #[.agg #[.int .i64 lv,.int .i64 u.yr,.int .i64 ((ixN c u.yr lv (cutA c u):Int)+1)],.int .i64 0]) (by simp (maxDischargeDepth:=9) [results,Tryz.results226,go_sem,s0,s1,s2,k0,k1,k2,hsz2]) rfl ⟨rfl,by have hWo:=HW2.out;(repeat' exact bel)⟩
def UnBx (w:World) (B:Nat):Prop:=∃ a b c,BlkIs w B #[a,b,c] 26
theorem UnBx.below {w w':World} {K B:Nat} (h:UnBx w B) (hb:Below K w w') (hB:B<K):UnBx w' B:=by
  obtain ⟨a,b,c,h⟩:=h
  exact ⟨a,b,c,h.below hb hB⟩
theorem UnBx.alloc {w:World} {B:Nat} (h:UnBx w B) (o:Obj):UnBx (w.alloc o) B:=by
  obtain ⟨a,b,c,h⟩:=h
  exact ⟨a,b,c,h.alloc o⟩
theorem UnBx.new (w:World) (a b c:Value):UnBx (w.alloc (.cells #[a,b,c] 26)) w.heap.size:=⟨a,b,c,BlkIs.new w _ _⟩
theorem BlkIs.row {w:World} {B:Nat} (h:UnBx w B) (cs:Array Value):BlkIs (w.setRow B cs) B cs 26:=by
  obtain ⟨a,b,c,h⟩:=h
  exact setRow_heap w B _ cs _ _ h
theorem BlkIs.rowOther {w:World} {B g:Nat} {cs:Array Value} {t:TypeId} (h:BlkIs w B cs t) (hne:B≠g) (xs:Array Value):BlkIs (w.setRow g xs) B cs t:=
  (setRow_other w g B xs hne).trans h
theorem UnBx.rowOther {w:World} {B g:Nat} (h:UnBx w B) (hne:B≠g) (xs:Array Value):UnBx (w.setRow g xs) B:=by
  obtain ⟨a,b,c,h⟩:=h
  exact ⟨a,b,c,h.rowOther hne xs⟩
theorem BlkIs.set123 {w:World} {B:Nat} {a b c:Value} {t:TypeId} (h:BlkIs w B #[a,b,c] t) (x y z:Value):BlkIs (((w.setCell ⟨B,0,none⟩ x).setCell ⟨B,1,none⟩ y).setCell ⟨B,2,none⟩ z) B #[x,y,z] t:=by
  unfold BlkIs at h ⊢
  simp [World.setCell,Array.getElem?_modify,h]
theorem res_down {tmps:Array Value} {W:World} {B6 B7:Nat} {a0 a1 a2 b0 b1 b2 e:Int} (h6:tmps[6]?=some (.pointer (some ⟨B6,0,none⟩))) (h7:tmps[7]?=some (.pointer (some ⟨B7,0,none⟩))) (h8:tmps[8]?=some (.int .i64 e))
    (g6:BlkIs W B6 #[.int .i64 a0,.int .i64 a1,.int .i64 a2] 26) (g7:BlkIs W B7 #[.int .i64 b0,.int .i64 b1,.int .i64 b2] 26) :
    (results Tryz.f82 tmps).run Tryz.prog W=.ok (.tuple #[.agg #[.int .i64 a0,.int .i64 a1,.int .i64 a2],.agg #[.int .i64 b0,.int .i64 b1,.int .i64 b2],.int .i64 e]) W:=by
  have c0:=g6.cell 0
  have c1:=g6.cell 1
  have c2:=g6.cell 2
  have d0:=g7.cell 0
  have d1:=g7.cell 1
  have d2:=g7.cell 2
  simp at c0 c1 c2 d0 d1 d2
  simp [results,Tryz.results82,go_sem,h6,h7,h8,c0,c1,c2,d0,d1,d2]
theorem down_bad (c:Cal) (u:Un) (lv:Int) (w:World) (hn:c.name.size≤1000) (hE:¬ unitE c u=0) :
    Calls Tryz.prog 82 #[calV c,unitV u,.int .i64 lv] w fun e w'=>e=.returned (.tuple #[.agg #[.int .i64 0,.int .i64 0,.int .i64 0],.agg #[.int .i64 0,.int .i64 0,.int .i64 0],.int .i64 (unitE c u)])∧Below w.heap.size w w':=by
  have hE':(unitE c u != 0)=true:=by simpa using hE
  have HE:=hide hE
  clear hE
  simp only [calV,unitV]
  go_enter Tryz.func82,Tryz.ntmps82
  go_wp2_with fail
  refine (known_not c u _ hn HE.out).mono ?_
  rintro e w1 ⟨rfl,hb1⟩
  have hsz3:w.heap.size+1+1+1<w1.heap.size:=by have:=hb1.size;simp at this;omega
  have hsz1:w.heap.size+1<w1.heap.size:=by omega
  have HW:=hide (show Below w.heap.size w w1 by (repeat' exact bel))
  have G6:UnBx w1 (w.heap.size+1+1):=UnBx.below (UnBx.alloc (by simpa using UnBx.new ((w.alloc (calObj c)).alloc (.cells #[.int .i64 u.lv,.int .i64 u.yr,.int .i64 u.ix] 26)) (.int .i64 0) (.int .i64 0) (.int .i64 0)) _) hb1 (by simp)
  have G7:UnBx w1 (w.heap.size+1+1+1):=UnBx.below (by simpa using UnBx.new (((w.alloc (calObj c)).alloc (.cells #[.int .i64 u.lv,.int .i64 u.yr,.int .i64 u.ix] 26)).alloc (.cells #[.int .i64 0,.int .i64 0,.int .i64 0] 26)) (.int .i64 0) (.int .i64 0) (.int .i64 0)) hb1 (by simp)
  have G6z:BlkIs w1 (w.heap.size+1+1) #[.int .i64 0,.int .i64 0,.int .i64 0] 26:=BlkIs.below (BlkIs.alloc (by simpa using BlkIs.new ((w.alloc (calObj c)).alloc (.cells #[.int .i64 u.lv,.int .i64 u.yr,.int .i64 u.ix] 26)) #[.int .i64 0,.int .i64 0,.int .i64 0] 26) _) hb1 (by simp)
  have G7z:BlkIs w1 (w.heap.size+1+1+1) #[.int .i64 0,.int .i64 0,.int .i64 0] 26:=BlkIs.below (by simpa using BlkIs.new (((w.alloc (calObj c)).alloc (.cells #[.int .i64 u.lv,.int .i64 u.yr,.int .i64 u.ix] 26)).alloc (.cells #[.int .i64 0,.int .i64 0,.int .i64 0] 26)) #[.int .i64 0,.int .i64 0,.int .i64 0] 26) hb1 (by simp)
  have hk6:w.heap.size≤w.heap.size+1+1:=by omega
  have hk7:w.heap.size≤w.heap.size+1+1+1:=by omega
  have hne:w.heap.size+1+1≠w.heap.size+1+1+1:=by omega
  have hne':w.heap.size+1+1+1≠w.heap.size+1+1:=by omega
  have hlt7:w.heap.size+1+1+1<w1.heap.size:=by omega
  have hlt6:w.heap.size+1+1<w1.heap.size:=by omega
  clear hsz3
  clear hb1
  generalize w.heap.size+1+1+1=B7 at *
  generalize w.heap.size+1+1=B6 at *
  go_wp2_with (first
    | (refine wpList_store_row rfl _ _ _ rfl B6 #[.int .i64 0,.int .i64 0,.int .i64 0] rfl rfl _ _ (G6z.alloc _) (by kernel_rfl) rfl (by simp [Value.oneCell']) ?_)
    | (refine wpList_store_row rfl _ _ _ rfl B7 #[.int .i64 0,.int .i64 0,.int .i64 0] rfl rfl _ _ ((G7z.alloc _).rowOther hne' _) (by kernel_rfl) rfl (by simp [Value.oneCell']) ?_))
  exact bodyPost_ret (v:=.tuple #[.agg #[.int .i64 0,.int .i64 0,.int .i64 0],.agg #[.int .i64 0,.int .i64 0,.int .i64 0],.int .i64 (unitE c u)]) (by exact res_down rfl rfl rfl ((BlkIs.row (G6.alloc _) _).rowOther hne _) (BlkIs.row ((G7.alloc _).rowOther hne' _) _)) rfl ⟨rfl,below_setRow (below_setRow (HW.out.alloc (by omega) _) hk6 _) hk7 _⟩
theorem down_arg (c:Cal) (u:Un) (lv:Int) (w:World) (hn:c.name.size≤1000) (hE:unitE c u=0) (hl:lv<u.lv∨5<lv) :
    Calls Tryz.prog 82 #[calV c,unitV u,.int .i64 lv] w fun e w'=>e=.returned (.tuple #[.agg #[.int .i64 0,.int .i64 0,.int .i64 0],.agg #[.int .i64 0,.int .i64 0,.int .i64 0],.int .i64 1])∧Below w.heap.size w w':=by
  have HE:=hide hE
  clear hE
  simp only [calV,unitV]
  go_enter Tryz.func82,Tryz.ntmps82
  go_wp2_with fail
  refine (known_yes c u _ hn HE.out).mono ?_
  rintro e w1 ⟨g1,cap,g2,hG1,hG2,rfl,hc1,hc2,hFr,hb1⟩
  have u0:w1.cell? ⟨w.heap.size+1,0,none⟩=some (.int .i64 u.lv):=by rw [hb1.cell (p:=⟨w.heap.size+1,0,none⟩) (by simp;try omega)];simp [World.cell?_alloc_at,World.cell?_alloc_past,World.frozen?_alloc_at,World.frozen?_alloc_past]
  have hsz3:w.heap.size+1+1+1<w1.heap.size:=by have:=hb1.size;simp at this;omega
  have hsz1:w.heap.size+1<w1.heap.size:=by omega
  have HW:=hide (show Below w.heap.size w w1 by (repeat' exact bel))
  have G6:UnBx w1 (w.heap.size+1+1):=UnBx.below (UnBx.alloc (by simpa using UnBx.new ((w.alloc (calObj c)).alloc (.cells #[.int .i64 u.lv,.int .i64 u.yr,.int .i64 u.ix] 26)) (.int .i64 0) (.int .i64 0) (.int .i64 0)) _) hb1 (by simp)
  have G7:UnBx w1 (w.heap.size+1+1+1):=UnBx.below (by simpa using UnBx.new (((w.alloc (calObj c)).alloc (.cells #[.int .i64 u.lv,.int .i64 u.yr,.int .i64 u.ix] 26)).alloc (.cells #[.int .i64 0,.int .i64 0,.int .i64 0] 26)) (.int .i64 0) (.int .i64 0) (.int .i64 0)) hb1 (by simp)
  have G6z:BlkIs w1 (w.heap.size+1+1) #[.int .i64 0,.int .i64 0,.int .i64 0] 26:=BlkIs.below (BlkIs.alloc (by simpa using BlkIs.new ((w.alloc (calObj c)).alloc (.cells #[.int .i64 u.lv,.int .i64 u.yr,.int .i64 u.ix] 26)) #[.int .i64 0,.int .i64 0,.int .i64 0] 26) _) hb1 (by simp)
  have G7z:BlkIs w1 (w.heap.size+1+1+1) #[.int .i64 0,.int .i64 0,.int .i64 0] 26:=BlkIs.below (by simpa using BlkIs.new (((w.alloc (calObj c)).alloc (.cells #[.int .i64 u.lv,.int .i64 u.yr,.int .i64 u.ix] 26)).alloc (.cells #[.int .i64 0,.int .i64 0,.int .i64 0] 26)) #[.int .i64 0,.int .i64 0,.int .i64 0] 26) hb1 (by simp)
  have hk6:w.heap.size≤w.heap.size+1+1:=by omega
  have hk7:w.heap.size≤w.heap.size+1+1+1:=by omega
  have hne:w.heap.size+1+1≠w.heap.size+1+1+1:=by omega
  have hne':w.heap.size+1+1+1≠w.heap.size+1+1:=by omega
  have hlt7:w.heap.size+1+1+1<w1.heap.size:=by omega
  have hlt6:w.heap.size+1+1<w1.heap.size:=by omega
  clear hsz3
  clear hb1 hFr hG1 hG2
  generalize w.heap.size+1+1+1=B7 at *
  generalize w.heap.size+1+1=B6 at *
  have G6a:=G6.alloc (.cells #[.int .i64 u.yr,.slice (some ⟨g1,0,none⟩) (nWk c u.yr) cap,.slice (some ⟨g2,0,none⟩) (nPer c u.yr) (nPer c u.yr)] 96)
  have G7a:=G7.alloc (.cells #[.int .i64 u.yr,.slice (some ⟨g1,0,none⟩) (nWk c u.yr) cap,.slice (some ⟨g2,0,none⟩) (nPer c u.yr) (nPer c u.yr)] 96)
  go_wp2_with (first
    | (refine wpList_store_row rfl _ _ _ rfl B6 #[.int .i64 0,.int .i64 0,.int .i64 0] rfl rfl _ _ (G6z.alloc _) (by kernel_rfl) rfl (by simp [Value.oneCell']) ?_)
    | (refine wpList_store_row rfl _ _ _ rfl B7 #[.int .i64 0,.int .i64 0,.int .i64 0] rfl rfl _ _ ((G7z.alloc _).rowOther hne' _) (by kernel_rfl) rfl (by simp [Value.oneCell']) ?_))
  all_goals first
    | (exfalso;omega)
    | exact bodyPost_ret (v:=.tuple #[.agg #[.int .i64 0,.int .i64 0,.int .i64 0],.agg #[.int .i64 0,.int .i64 0,.int .i64 0],.int .i64 1]) (by exact res_down rfl rfl rfl ((BlkIs.row G6a _).rowOther hne _) (BlkIs.row (G7a.rowOther hne' _) _)) rfl ⟨rfl,below_setRow (below_setRow (HW.out.alloc (by omega) _) hk6 _) hk7 _⟩
def DnSt (c:Cal) (u:Un) (F g1 cap g2 B6 B7:Nat) (w:World):Prop:=BlkIs w F #[.int .i64 u.yr,.slice (some ⟨g1,0,none⟩) (nWk c u.yr) cap,.slice (some ⟨g2,0,none⟩) (nPer c u.yr) (nPer c u.yr)] 96∧IntsAt w g2 (perL c u.yr)∧BlkIs w B6 #[.int .i64 0,.int .i64 0,.int .i64 0] 26∧BlkIs w B7 #[.int .i64 0,.int .i64 0,.int .i64 0] 26
theorem DnSt.call {c:Cal} {u:Un} {F g1 cap g2 B6 B7:Nat} {w w':World} (h:DnSt c u F g1 cap g2 B6 B7 w) (hb:Below w.heap.size w w'):DnSt c u F g1 cap g2 B6 B7 w':=
  ⟨h.1.call hb,h.2.1.call hb,h.2.2.1.call hb,h.2.2.2.call hb⟩
theorem DnSt.drew {c:Cal} {u:Un} {F g1 cap g2 B6 B7:Nat} {w:World} (h:DnSt c u F g1 cap g2 B6 B7 w):DnSt c u F g1 cap g2 B6 B7 w.drew:=h
theorem DnSt.load {c:Cal} {u:Un} {F g1 cap g2 B6 B7:Nat} {w':World} (h:DnSt c u F g1 cap g2 B6 B7 w'):w'.cell? ⟨F,0,none⟩=some (.int .i64 u.yr)∧w'.cell? ⟨F,1,none⟩=some (.slice (some ⟨g1,0,none⟩) (nWk c u.yr) cap)∧w'.cell? ⟨F,2,none⟩=some (.slice (some ⟨g2,0,none⟩) (nPer c u.yr) (nPer c u.yr)):=
  ⟨h.1.cell 0,h.1.cell 1,h.1.cell 2⟩
theorem DnSt.res {c:Cal} {u:Un} {F g1 cap g2 B6 B7:Nat} {w':World} (h:DnSt c u F g1 cap g2 B6 B7 w') :
    (w'.cell? ⟨B6,0,none⟩=some (.int .i64 0)∧w'.cell? ⟨B6,1,none⟩=some (.int .i64 0)∧w'.cell? ⟨B6,2,none⟩=some (.int .i64 0))∧(w'.cell? ⟨B7,0,none⟩=some (.int .i64 0)∧w'.cell? ⟨B7,1,none⟩=some (.int .i64 0)∧w'.cell? ⟨B7,2,none⟩=some (.int .i64 0)) ∧
    (w'.frozen? ⟨B6,0,none⟩=false∧w'.frozen? ⟨B6,1,none⟩=false∧w'.frozen? ⟨B6,2,none⟩=false)∧(w'.frozen? ⟨B7,0,none⟩=false∧w'.frozen? ⟨B7,1,none⟩=false∧w'.frozen? ⟨B7,2,none⟩=false):=
  ⟨⟨h.2.2.1.cell 0,h.2.2.1.cell 1,h.2.2.1.cell 2⟩,⟨h.2.2.2.cell 0,h.2.2.2.cell 1,h.2.2.2.cell 2⟩,⟨h.2.2.1.frozen 0,h.2.2.1.frozen 1,h.2.2.1.frozen 2⟩,⟨h.2.2.2.frozen 0,h.2.2.2.frozen 1,h.2.2.2.frozen 2⟩⟩
theorem down_yes (c:Cal) (u:Un) (lv:Int) (w:World) (hn:c.name.size≤1000) (hE:unitE c u=0) (h1:u.lv≤lv) (h5:lv≤5) :
    Calls Tryz.prog 82 #[calV c,unitV u,.int .i64 lv] w fun e w'=>e=.returned (.tuple #[.agg #[.int .i64 lv,.int .i64 u.yr,.int .i64 ((ixN c u.yr lv (cutA c u):Int)+1)],.agg #[.int .i64 lv,.int .i64 u.yr,.int .i64 ((ixN c u.yr lv (cutB c u-1):Int)+1)],.int .i64 0])∧Below w.heap.size w w':=by
  have hf:=frame_ok (unit_ok hE).1
  have hA:askE c u.yr 1601=0:=hf.2.2.2.2.2.2
  have hl1:1≤lv:=by have:=hf.2.2.1;omega
  have hcut:=cutAB hE
  obtain ⟨b,hb⟩:∃ b,b=cutB c u-1:=⟨_,rfl⟩
  have HBB:=hide (show (cutB c u:Int)=(b:Int)+1 by omega)
  rw [← hb]
  have HA:=hide hA
  have HE:=hide hE
  clear hE hA hf hcut hb
  simp only [calV,unitV]
  go_enter Tryz.func82,Tryz.ntmps82
  go_wp2_with fail
  refine (known_yes c u _ hn HE.out).mono ?_
  rintro e w1 ⟨g1,cap,g2,hG1,hG2,rfl,hc1,hc2,hFr,hb1⟩
  rw [HBB.out]
  have u0:w1.cell? ⟨w.heap.size+1,0,none⟩=some (.int .i64 u.lv):=by rw [hb1.cell (p:=⟨w.heap.size+1,0,none⟩) (by simp;try omega)];simp [World.cell?_alloc_at,World.cell?_alloc_past,World.frozen?_alloc_at,World.frozen?_alloc_past]
  have hsz3:w.heap.size+1+1+1<w1.heap.size:=by have:=hb1.size;simp at this;omega
  have hsz1:w.heap.size+1<w1.heap.size:=by omega
  have HW:=hide (show Below w.heap.size w w1 by (repeat' exact bel))
  have G6:UnBx w1 (w.heap.size+1+1):=UnBx.below (UnBx.alloc (by simpa using UnBx.new ((w.alloc (calObj c)).alloc (.cells #[.int .i64 u.lv,.int .i64 u.yr,.int .i64 u.ix] 26)) (.int .i64 0) (.int .i64 0) (.int .i64 0)) _) hb1 (by simp)
  have G7:UnBx w1 (w.heap.size+1+1+1):=UnBx.below (by simpa using UnBx.new (((w.alloc (calObj c)).alloc (.cells #[.int .i64 u.lv,.int .i64 u.yr,.int .i64 u.ix] 26)).alloc (.cells #[.int .i64 0,.int .i64 0,.int .i64 0] 26)) (.int .i64 0) (.int .i64 0) (.int .i64 0)) hb1 (by simp)
  have G6z:BlkIs w1 (w.heap.size+1+1) #[.int .i64 0,.int .i64 0,.int .i64 0] 26:=BlkIs.below (BlkIs.alloc (by simpa using BlkIs.new ((w.alloc (calObj c)).alloc (.cells #[.int .i64 u.lv,.int .i64 u.yr,.int .i64 u.ix] 26)) #[.int .i64 0,.int .i64 0,.int .i64 0] 26) _) hb1 (by simp)
  have G7z:BlkIs w1 (w.heap.size+1+1+1) #[.int .i64 0,.int .i64 0,.int .i64 0] 26:=BlkIs.below (by simpa using BlkIs.new (((w.alloc (calObj c)).alloc (.cells #[.int .i64 u.lv,.int .i64 u.yr,.int .i64 u.ix] 26)).alloc (.cells #[.int .i64 0,.int .i64 0,.int .i64 0] 26)) #[.int .i64 0,.int .i64 0,.int .i64 0] 26) hb1 (by simp)
  have hk6:w.heap.size≤w.heap.size+1+1:=by omega
  have hk7:w.heap.size≤w.heap.size+1+1+1:=by omega
  have hne:w.heap.size+1+1≠w.heap.size+1+1+1:=by omega
  have hne':w.heap.size+1+1+1≠w.heap.size+1+1:=by omega
  have hlt7:w.heap.size+1+1+1<w1.heap.size:=by omega
  have hlt6:w.heap.size+1+1<w1.heap.size:=by omega
  clear hsz3
  have HFr:=hide hFr
  clear hb1 hFr hG1 hG2
  generalize w.heap.size+1+1+1=B7 at *
  generalize w.heap.size+1+1=B6 at *
  obtain ⟨F,hF⟩:∃ F,F=w1.heap.size:=⟨_,rfl⟩
  have HD:=hide (show DnSt c u F g1 cap g2 B6 B7 (w1.alloc (.cells #[.int .i64 u.yr,.slice (some ⟨g1,0,none⟩) (nWk c u.yr) cap,.slice (some ⟨g2,0,none⟩) (nPer c u.yr) (nPer c u.yr)] 96)) from ⟨by rw [hF];exact BlkIs.new w1 _ _,HFr.out.2.alloc _,G6z.alloc _,G7z.alloc _⟩)
  have HW1:=hide (show Below w.heap.size w (w1.alloc (.cells #[.int .i64 u.yr,.slice (some ⟨g1,0,none⟩) (nWk c u.yr) cap,.slice (some ⟨g2,0,none⟩) (nPer c u.yr) (nPer c u.yr)] 96)) from HW.out.alloc (by omega) _)
  go_wp2_with fail
  all_goals first
    | (exfalso;omega)
    | skip
  rw [← hF]
  generalize w1.alloc (.cells #[.int .i64 u.yr,.slice (some ⟨g1,0,none⟩) (nWk c u.yr) cap,.slice (some ⟨g2,0,none⟩) (nPer c u.yr) (nPer c u.yr)] 96)=W at *
  obtain ⟨k0,k1,k2⟩:=HD.out.load
  have hzW:w.heap.size≤W.heap.size:=HW1.out.size
  have HG:=hide (And.intro hne hne')
  have HKK:=hide (And.intro hk6 hk7)
  clear G6 G7 HFr u0 hlt6 hlt7 hF hsz1 HW G6z G7z hk6 hk7 hne hne'
  go_region_with (go_at_call 54;refine (funit_any c u.yr lv _ cap g1 g2 hl1 h5 HA.out ?_ _).mono ?_;first
    | (exact HD2.out.2.1;rintro e w3 ⟨rfl,hb3⟩;have HD3:=hide (HD2.out.call (by exact hb3));have HW3:=hide (HW2.out.trans (hb3.mono (by exact hz2)):Below w.heap.size w w3);obtain ⟨⟨p0,p1,p2⟩,⟨p3,p4,p5⟩,⟨p6,p7,p8⟩,⟨p9,p10,p11⟩⟩:=HD3.out.res;obtain ⟨hne,hne'⟩:=HG.out;clear hb3)
    | (exact HD.out.2.1;rintro e w2 ⟨rfl,hb2⟩;have HD2:=hide (HD.out.drew.call (by exact hb2));have HW2:=hide (HW1.out.drew.trans (hb2.mono (by exact hzW)):Below w.heap.size w w2);obtain ⟨m0,m1,m2⟩:=HD2.out.load;have hz2:w.heap.size≤w2.heap.size:=HW2.out.size;clear hb2))
  all_goals
    obtain ⟨hk6,hk7⟩:=HKK.out
    go_simp
    go_wp2
    exact bodyPost_ret (v:=.tuple #[.agg #[.int .i64 lv,.int .i64 u.yr,.int .i64 ((ixN c u.yr lv (cutA c u):Int)+1)],.agg #[.int .i64 lv,.int .i64 u.yr,.int .i64 ((ixN c u.yr lv b:Int)+1)],.int .i64 0]) (by exact res_down rfl rfl rfl ((((HD3.out.2.2.1.set123 _ _ _).far hne _).far hne _).far hne _) ((((HD3.out.2.2.2.far hne' _).far hne' _).far hne' _).set123 _ _ _)) rfl ⟨rfl,(((((HW3.out.setCell hk6 _).setCell hk6 _).setCell hk6 _).setCell hk7 _).setCell hk7 _).setCell hk7 _⟩
theorem down_any (c:Cal) (u:Un) (lv:Int) (w:World) (hn:c.name.size≤1000) :
    Calls Tryz.prog 82 #[calV c,unitV u,.int .i64 lv] w fun e w'=>e=.returned (.tuple #[unitV (dnA c u lv),unitV (dnB c u lv),.int .i64 (dnE c u lv)])∧Below w.heap.size w w':=by
  by_cases hE:unitE c u=0
  · by_cases hl:u.lv≤lv∧lv≤5
    · have h0:dnE c u lv=0:=by unfold dnE;rw [if_pos hE,if_pos hl]
      refine (down_yes c u lv w hn hE hl.1 hl.2).mono ?_
      rintro e w1 ⟨rfl,hb⟩
      exact ⟨by rw [dnA,dnB,if_pos h0,if_pos h0,h0],hb⟩
    · have h0:dnE c u lv=1:=by unfold dnE;rw [if_pos hE,if_neg hl]
      refine (down_arg c u lv w hn hE (by omega)).mono ?_
      rintro e w1 ⟨rfl,hb⟩
      exact ⟨by rw [dnA,dnB,if_neg (by omega),if_neg (by omega),h0],hb⟩
  · have h0:dnE c u lv=unitE c u:=by unfold dnE;rw [if_neg hE]
    refine (down_bad c u lv w hn hE).mono ?_
    rintro e w1 ⟨rfl,hb⟩
    exact ⟨by rw [dnA,dnB,if_neg (by omega),if_neg (by omega),h0],hb⟩
theorem un_lv {c:Cal} {u:Un} (h:unitE c u=0):frameE c u.lv u.yr=0∧1≤u.lv∧u.lv≤5∧askE c u.yr 1601=0∧u.ix=(uI u:Int)+1∧uI u<cntL c u.yr u.lv:=by
  obtain ⟨hf,hx,hi⟩:=unit_ok h
  obtain ⟨hok,hok2,h1,h5,hy1,hy2,hA⟩:=frame_ok hf
  exact ⟨hf,h1,h5,hA,hx,hi⟩
theorem frame_lv {c:Cal} {lv y:Int} (h:frameE c lv y=0) (lv2:Int) (h1:1≤lv2) (h5:lv2≤5):frameE c lv2 y=0:=by
  obtain ⟨hok,hok2,_,_,hy1,hy2,hA⟩:=frame_ok h
  exact frame_is hok h1 h5 hy1 hy2
theorem sp_get {c:Cal} {u:Un} (h:unitE c u=0):spV c u=⟨dayW c u.yr (cutA c u),dayW c u.yr (cutB c u)-1⟩:=by
  simp [spV,h,spanF,spanT]
theorem un_mk {c:Cal} {lv y:Int} (hf:frameE c lv y=0) (i:Nat) (hi:i<cntL c y lv) :
    unitE c ⟨lv,y,(i:Int)+1⟩=0∧cutA c ⟨lv,y,(i:Int)+1⟩=cutN c y lv i∧cutB c ⟨lv,y,(i:Int)+1⟩=cutN c y lv (i+1):=by
  have e:uI ⟨lv,y,(i:Int)+1⟩=i:=by simp [uI]
  exact ⟨unit_is hf (by simp;omega) (by simp;omega),by simp [cutA,e],by simp [cutB,e]⟩
theorem sp_mk {c:Cal} {lv y:Int} (hf:frameE c lv y=0) (i:Nat) (hi:i<cntL c y lv) :
    spV c ⟨lv,y,(i:Int)+1⟩=⟨dayW c y (cutN c y lv i),dayW c y (cutN c y lv (i+1))-1⟩:=by
  obtain ⟨h,ha,hb⟩:=un_mk hf i hi
  rw [sp_get h,ha,hb]
theorem cnt_5 (c:Cal) (y:Int):cntL c y 5=nWk c y:=by simp [cntL]
theorem count_yes {c:Cal} {lv y:Int} (h:frameE c lv y=0):countV c lv y=(cntL c y lv:Int):=by simp [countV,h]
theorem count_no {c:Cal} {lv y:Int} (h:¬ frameE c lv y=0):countV c lv y=0:=by simp [countV,h]
def unB (a b c x y z:Int):Bool:=a==x&&(b==y&&c==z)
theorem eqUnit (d:Nat) (a b c x y z:Int) (w:World):(Op.equalIn (d+2) 26 (.agg #[.int .i64 a,.int .i64 b,.int .i64 c]) (.agg #[.int .i64 x,.int .i64 y,.int .i64 z])).run Tryz.prog w=.ok (unB a b c x y z) w:=by
  have u3:=Tryz.underlying3
  have a3:=Tryz.isAgg3
  have z3:=Tryz.sizeOf3
  rw [run_equalIn_struct w _ _ _ _ (by simp [Program.fieldsOf,Tryz.underlying26]) (by kernel_rfl)]
  simp only [Program.fieldsOf,Tryz.underlying26]
  go_simp
  by_cases h1:a=x <;> by_cases h2:b=y <;> by_cases h3:c=z <;> simp [unB,h1,h2,h3]
end Go.Proofs.YtjhhmeoibfdcmaaGreat
namespace Go.Proofs.YtjhhmeoibfdcmaaGreat
open Go.RowKit Qd
abbrev UnAt (w:World) (B:Nat) (u:Un):Prop:=
  w.cell? ⟨B,0,none⟩=some (.int .i64 u.lv)∧w.cell? ⟨B,1,none⟩=some (.int .i64 u.yr)∧w.cell? ⟨B,2,none⟩=some (.int .i64 u.ix)
abbrev unObj (u:Un):Obj:=.cells #[.int .i64 u.lv,.int .i64 u.yr,.int .i64 u.ix] 26
theorem unAt_new (w:World) (c:Cal) (u:Un):UnAt ((w.alloc (calObj c)).alloc (unObj u)) (w.heap.size+1) u:=by
  refine ⟨?_,?_,?_⟩ <;> simp [World.cell?_alloc_at]
theorem unAt_fresh (w:World) (u:Un):UnAt (w.alloc (unObj u)) w.heap.size u:=by
  refine ⟨?_,?_,?_⟩ <;> simp [World.cell?_alloc_at]
theorem unAt_same {W W':World} {B:Nat} {u:Un} (h:∀ o,W'.cell? ⟨B,o,none⟩=W.cell? ⟨B,o,none⟩) (Q:UnAt W B u):UnAt W' B u:=by
  obtain ⟨q0,q1,q2⟩:=Q
  exact ⟨(h 0).trans q0,(h 1).trans q1,(h 2).trans q2⟩
theorem unAt_below {W W':World} {B K:Nat} {u:Un} (hb:Below K W W') (hB:B<K) (Q:UnAt W B u):UnAt W' B u:=
  unAt_same (fun o=>hb.cell (p:=⟨B,o,none⟩) hB) Q
theorem unAt_alloc {W:World} {B:Nat} {u:Un} (Q:UnAt W B u) (hB:B<W.heap.size) (o:Obj):UnAt (W.alloc o) B u:=
  unAt_same (fun i=>World.cell?_alloc_lt W o ⟨B,i,none⟩ hB) Q
abbrev SpAt (w:World) (B:Nat) (s:Sp):Prop:=w.cell? ⟨B,0,none⟩=some (.int .i64 s.a)∧w.cell? ⟨B,1,none⟩=some (.int .i64 s.b)
abbrev spObj (s:Sp):Obj:=.cells #[.int .i64 s.a,.int .i64 s.b] 45
theorem spAt_fresh (w:World) (s:Sp):SpAt (w.alloc (spObj s)) w.heap.size s:=by
  refine ⟨?_,?_⟩ <;> simp [World.cell?_alloc_at]
theorem spAt_below {W W':World} {B K:Nat} {s:Sp} (hb:Below K W W') (hB:B<K) (Q:SpAt W B s):SpAt W' B s:=
  ⟨(hb.cell (p:=⟨B,0,none⟩) hB).trans Q.1,(hb.cell (p:=⟨B,1,none⟩) hB).trans Q.2⟩
theorem spAt_alloc {W:World} {B:Nat} {s:Sp} (Q:SpAt W B s) (hB:B<W.heap.size) (o:Obj):SpAt (W.alloc o) B s:=
  ⟨(World.cell?_alloc_lt W o ⟨B,0,none⟩ hB).trans Q.1,(World.cell?_alloc_lt W o ⟨B,1,none⟩ hB).trans Q.2⟩
end Go.Proofs.YtjhhmeoibfdcmaaGreat
