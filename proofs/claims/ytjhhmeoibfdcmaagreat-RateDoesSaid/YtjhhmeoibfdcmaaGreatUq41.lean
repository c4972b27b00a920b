/- Contracts of the references: the spans of a level's units (layer 16), all levels. Contracts of the references: how many units, whether there is one, its days (layer 16). Contracts of the references: what may be asked (layer 17). Contracts of the references: all units of some years (layer 17). -/
import Derived.Maps.AppendAt
import Derived.Test.YtjhhmeoibfdcmaaGreatUq08
import Derived.Test.YtjhhmeoibfdcmaaGreatUq10
import Derived.Test.YtjhhmeoibfdcmaaGreatUq12
import Derived.Test.YtjhhmeoibfdcmaaGreatUq37
import Derived.Test.YtjhhmeoibfdcmaaGreatUq38
import Derived.Test.YtjhhmeoibfdcmaaGreatUq39
import Derived.Test.YtjhhmeoibfdcmaaGreatUq40
set_option linter.unusedSimpArgs false
set_option linter.unusedVariables false
set_option maxRecDepth 100000
set_option maxHeartbeats 12800000
namespace Go.Proofs.YtjhhmeoibfdcmaaGreat
open Go.RowKit Qd
theorem r16spans_yes (c:Cal) (lv y:Int) (w:World) (hn:c.name.size≤1000) (hE:frameE c lv y=0) :
    Calls Tryz.prog 64 #[calV c,.int .i64 lv,.int .i64 y] w (RSpPost c lv y w):=by
  obtain ⟨_,_,h1,h5,_⟩:=frame_ok hE
  rcases (show lv=1∨lv=2∨lv=3∨lv=4∨lv=5 by omega) with rfl | rfl | rfl | rfl | rfl
  · exact r16spans_1 c y w hn hE
  · exact r16spans_2 c y w hn hE
  · exact r16spans_3 c y w hn hE
  · exact r16spans_4 c y w hn hE
  · exact r16spans_5 c y w hn hE
end Go.Proofs.YtjhhmeoibfdcmaaGreat
namespace Go.Proofs.YtjhhmeoibfdcmaaGreat
open Go.RowKit Qd
theorem unit_frame {c:Cal} {u:Un} (h:¬ frameE c u.lv u.yr=0):unitE c u=frameE c u.lv u.yr:=by unfold unitE;rw [if_neg h]
theorem unit_out {c:Cal} {u:Un} (h:frameE c u.lv u.yr=0) (hx:u.ix<1∨(1≤u.ix∧(cntL c u.yr u.lv:Int)<u.ix)):unitE c u=13:=by unfold unitE;rw [if_pos h,if_neg (by omega)]
theorem spans_at {w:World} {g:Nat} {c:Cal} {lv y:Int} (h:SpansAt w g (spansL c lv y)) (i:Nat) (hi:i<cntL c y lv) :
    w.cell? ⟨g,i*2,none⟩=some (.int .i64 (dayW c y (cutN c y lv i)))∧w.cell? ⟨g,i*2+1,none⟩=some (.int .i64 (dayW c y (cutN c y lv (i+1))-1)):=by
  have h1:=h.2 i (by rw [spans_len];exact hi)
  rw [spans_get c lv y i hi,Nat.mul_comm] at h1
  exact h1
theorem r16count_any (c:Cal) (lv y:Int) (w:World) (hn:c.name.size≤1000) :
    Calls Tryz.prog 74 #[calV c,.int .i64 lv,.int .i64 y] w fun e w'=>e=.returned (.tuple #[.int .i64 (countV c lv y),.int .i64 (frameE c lv y)])∧Below w.heap.size w w':=by
  by_cases hE:frameE c lv y=0
  · have HC:=hide (count_yes hE)
    have HE:=hide hE
    clear hE
    simp only [calV]
    go_enter Tryz.func74,Tryz.ntmps74
    go_wp2_with fail
    refine (r16spans_yes c lv y _ hn HE.out).mono ?_
    rintro e w1 ⟨g,cap,rfl,hg,hcap,hsp,hb1⟩
    clear hsp
    have hz1:w.heap.size<w1.heap.size:=by have:=hb1.size;simp at this;omega
    have HB1:Hid (Below w.heap.size w w1):=ww hb1
    have HQ1:=hide (calAt_below hb1 (by simp) (calAt_new w c))
    obtain ⟨q0,q1,q2,q3,q4,q5,q6,q7,q8,q9,q10,q11,q12,q13⟩:=HQ1.out
    clear hb1
    have hBel:=HB1.out
    go_wp2
    go_ret2
    exact ⟨ret_int2 HC.out.symm HE.out.symm,by (repeat' exact bel)⟩
  · have HC:=hide (count_no hE)
    have HE:=hide hE
    clear hE
    simp only [calV]
    go_enter Tryz.func74,Tryz.ntmps74
    go_wp2_with fail
    refine (r16spans_no c lv y _ hn HE.out).mono ?_
    rintro e w1 ⟨rfl,hb1⟩
    have hz1:w.heap.size<w1.heap.size:=by have:=hb1.size;simp at this;omega
    have HB1:Hid (Below w.heap.size w w1):=ww hb1
    have HQ1:=hide (calAt_below hb1 (by simp) (calAt_new w c))
    obtain ⟨q0,q1,q2,q3,q4,q5,q6,q7,q8,q9,q10,q11,q12,q13⟩:=HQ1.out
    clear hb1
    have hBel:=HB1.out
    go_wp2
    go_ret2
    exact ⟨ret_int2 HC.out.symm rfl,by (repeat' exact bel)⟩
theorem r16check_any (c:Cal) (u:Un) (w:World) (hn:c.name.size≤1000) :
    Calls Tryz.prog 127 #[calV c,unitV u] w fun e w'=>e=.returned (.int .i64 (unitE c u))∧Below w.heap.size w w':=by
  by_cases hE:frameE c u.lv u.yr=0
  · rcases (show (u.ix<1)∨(1≤u.ix∧(cntL c u.yr u.lv:Int)<u.ix)∨(1≤u.ix∧u.ix≤(cntL c u.yr u.lv:Int)) by omega) with hx | ⟨hx1,hx⟩ | ⟨hx1,hx⟩
    · have HU:=hide (unit_out hE (.inl hx))
      have HE:=hide hE
      clear hE
      simp only [calV,unitV]
      go_enter Tryz.func127,Tryz.ntmps127
      go_wp2_with fail
      refine (r16spans_yes c u.lv u.yr _ hn HE.out).mono ?_
      rintro e w1 ⟨g,cap,rfl,hg,hcap,hsp,hb1⟩
      clear hsp
      have hz1:w.heap.size+1<w1.heap.size:=by have:=hb1.size;simp at this;omega
      have HB1:Hid (Below w.heap.size w w1):=ww hb1
      have HQ1:=hide (calAt_below hb1 (by simp;omega) (calAt_alloc (calAt_new w c) (by simp) _))
      have HU1:=hide (unAt_below hb1 (by simp) (unAt_new w c u))
      obtain ⟨q0,q1,q2,q3,q4,q5,q6,q7,q8,q9,q10,q11,q12,q13⟩:=HQ1.out
      obtain ⟨u0,u1,u2⟩:=HU1.out
      have hy1:w.heap.size<w1.heap.size:=by omega
      clear hb1
      have hBel:=HB1.out
      go_wp2
      all_goals first
        | (exfalso;omega)
        | (go_ret;exact ⟨by rw [HU.out];rfl,by (repeat' exact bel)⟩)
    · have HU:=hide (unit_out hE (.inr ⟨hx1,hx⟩))
      have HE:=hide hE
      clear hE
      simp only [calV,unitV]
      go_enter Tryz.func127,Tryz.ntmps127
      go_wp2_with fail
      refine (r16spans_yes c u.lv u.yr _ hn HE.out).mono ?_
      rintro e w1 ⟨g,cap,rfl,hg,hcap,hsp,hb1⟩
      clear hsp
      have hz1:w.heap.size+1<w1.heap.size:=by have:=hb1.size;simp at this;omega
      have HB1:Hid (Below w.heap.size w w1):=ww hb1
      have HQ1:=hide (calAt_below hb1 (by simp;omega) (calAt_alloc (calAt_new w c) (by simp) _))
      have HU1:=hide (unAt_below hb1 (by simp) (unAt_new w c u))
      obtain ⟨q0,q1,q2,q3,q4,q5,q6,q7,q8,q9,q10,q11,q12,q13⟩:=HQ1.out
      obtain ⟨u0,u1,u2⟩:=HU1.out
      have hy1:w.heap.size<w1.heap.size:=by omega
      clear hb1
      have hBel:=HB1.out
      go_wp2
      all_goals first
        | (exfalso;omega)
        | (go_ret;exact ⟨by rw [HU.out];rfl,by (repeat' exact bel)⟩)
    · have HU:=hide (unit_is hE hx1 hx)
      have HE:=hide hE
      clear hE
      simp only [calV,unitV]
      go_enter Tryz.func127,Tryz.ntmps127
      go_wp2_with fail
      refine (r16spans_yes c u.lv u.yr _ hn HE.out).mono ?_
      rintro e w1 ⟨g,cap,rfl,hg,hcap,hsp,hb1⟩
      clear hsp
      have hz1:w.heap.size+1<w1.heap.size:=by have:=hb1.size;simp at this;omega
      have HB1:Hid (Below w.heap.size w w1):=ww hb1
      have HQ1:=hide (calAt_below hb1 (by simp;omega) (calAt_alloc (calAt_new w c) (by simp) _))
      have HU1:=hide (unAt_below hb1 (by simp) (unAt_new w c u))
      obtain ⟨q0,q1,q2,q3,q4,q5,q6,q7,q8,q9,q10,q11,q12,q13⟩:=HQ1.out
      obtain ⟨u0,u1,u2⟩:=HU1.out
      have hy1:w.heap.size<w1.heap.size:=by omega
      clear hb1
      have hBel:=HB1.out
      go_wp2
      all_goals first
        | (exfalso;omega)
        | (go_ret;exact ⟨by rw [HU.out];rfl,by (repeat' exact bel)⟩)
  · have HU:=hide (unit_frame hE)
    have HE:=hide hE
    have hEb:(frameE c u.lv u.yr != 0)=true:=by simpa using hE
    clear hE
    simp only [calV,unitV]
    go_enter Tryz.func127,Tryz.ntmps127
    go_wp2_with fail
    refine (r16spans_no c u.lv u.yr _ hn HE.out).mono ?_
    rintro e w1 ⟨rfl,hb1⟩
    have hz1:w.heap.size+1<w1.heap.size:=by have:=hb1.size;simp at this;omega
    have HB1:Hid (Below w.heap.size w w1):=ww hb1
    have HQ1:=hide (calAt_below hb1 (by simp;omega) (calAt_alloc (calAt_new w c) (by simp) _))
    have HU1:=hide (unAt_below hb1 (by simp) (unAt_new w c u))
    obtain ⟨q0,q1,q2,q3,q4,q5,q6,q7,q8,q9,q10,q11,q12,q13⟩:=HQ1.out
    obtain ⟨u0,u1,u2⟩:=HU1.out
    have hy1:w.heap.size<w1.heap.size:=by omega
    clear hb1
    have hBel:=HB1.out
    go_wp2
    go_ret
    exact ⟨by rw [HU.out];rfl,by (repeat' exact bel)⟩
theorem r16span_no (c:Cal) (u:Un) (w:World) (hn:c.name.size≤1000) (hU:¬ unitE c u=0) :
    Calls Tryz.prog 69 #[calV c,unitV u] w fun e w'=>e=.returned (.tuple #[.agg #[.int .i64 0,.int .i64 0],.int .i64 (unitE c u)])∧Below w.heap.size w w':=by
  by_cases hE:frameE c u.lv u.yr=0
  · rcases (show (u.ix<1)∨(1≤u.ix∧(cntL c u.yr u.lv:Int)<u.ix)∨(1≤u.ix∧u.ix≤(cntL c u.yr u.lv:Int)) by omega) with hx | ⟨hx1,hx⟩ | ⟨hx1,hx⟩
    · have HU:=hide (unit_out hE (.inl hx))
      have HE:=hide hE
      clear hE hU
      simp only [calV,unitV]
      go_enter Tryz.func69,Tryz.ntmps69
      go_wp2_with fail
      refine (r16spans_yes c u.lv u.yr _ hn HE.out).mono ?_
      rintro e w1 ⟨g,cap,rfl,hg,hcap,hsp,hb1⟩
      clear hsp
      have r0:w1.cell? ⟨w.heap.size+1+1,0,none⟩=some (.int .i64 0):=by rw [hb1.cell (p:=⟨w.heap.size+1+1,0,none⟩) (by simp;try omega)];simp [World.cell?_alloc_at,World.cell?_alloc_past,World.frozen?_alloc_at,World.frozen?_alloc_past]
      have f0:w1.frozen? ⟨w.heap.size+1+1,0,none⟩=false:=by rw [hb1.frozen (p:=⟨w.heap.size+1+1,0,none⟩) (by simp;try omega)];simp [World.cell?_alloc_at,World.cell?_alloc_past,World.frozen?_alloc_at,World.frozen?_alloc_past]
      have r1:w1.cell? ⟨w.heap.size+1+1,1,none⟩=some (.int .i64 0):=by rw [hb1.cell (p:=⟨w.heap.size+1+1,1,none⟩) (by simp;try omega)];simp [World.cell?_alloc_at,World.cell?_alloc_past,World.frozen?_alloc_at,World.frozen?_alloc_past]
      have f1:w1.frozen? ⟨w.heap.size+1+1,1,none⟩=false:=by rw [hb1.frozen (p:=⟨w.heap.size+1+1,1,none⟩) (by simp;try omega)];simp [World.cell?_alloc_at,World.cell?_alloc_past,World.frozen?_alloc_at,World.frozen?_alloc_past]
      have u2:w1.cell? ⟨w.heap.size+1,2,none⟩=some (.int .i64 u.ix):=by rw [hb1.cell (p:=⟨w.heap.size+1,2,none⟩) (by simp;try omega)];simp [World.cell?_alloc_at,World.cell?_alloc_past,World.frozen?_alloc_at,World.frozen?_alloc_past]
      have hsz:w.heap.size+1+1<w1.heap.size:=by have:=hb1.size;simp at this;omega
      have hsz1:w.heap.size+1<w1.heap.size:=by omega
      have HW:=hide (show Below w.heap.size w w1 by (repeat' exact bel))
      clear hb1
      go_wp2
      all_goals first
        | (exfalso;omega)
        | exact bodyPost_ret (v:=.tuple #[.agg #[.int .i64 0,.int .i64 0],.int .i64 13]) (by simp (maxDischargeDepth:=9) [results,Tryz.results69,go_sem,r0,r1,f0,f1,hsz]) rfl ⟨by rw [HU.out],by have hWo:=HW.out;(repeat' exact bel)⟩
    · have HU:=hide (unit_out hE (.inr ⟨hx1,hx⟩))
      have HE:=hide hE
      clear hE hU
      simp only [calV,unitV]
      go_enter Tryz.func69,Tryz.ntmps69
      go_wp2_with fail
      refine (r16spans_yes c u.lv u.yr _ hn HE.out).mono ?_
      rintro e w1 ⟨g,cap,rfl,hg,hcap,hsp,hb1⟩
      clear hsp
      have r0:w1.cell? ⟨w.heap.size+1+1,0,none⟩=some (.int .i64 0):=by rw [hb1.cell (p:=⟨w.heap.size+1+1,0,none⟩) (by simp;try omega)];simp [World.cell?_alloc_at,World.cell?_alloc_past,World.frozen?_alloc_at,World.frozen?_alloc_past]
      have f0:w1.frozen? ⟨w.heap.size+1+1,0,none⟩=false:=by rw [hb1.frozen (p:=⟨w.heap.size+1+1,0,none⟩) (by simp;try omega)];simp [World.cell?_alloc_at,World.cell?_alloc_past,World.frozen?_alloc_at,World.frozen?_alloc_past]
      have r1:w1.cell? ⟨w.heap.size+1+1,1,none⟩=some (.int .i64 0):=by rw [hb1.cell (p:=⟨w.heap.size+1+1,1,none⟩) (by simp;try omega)];simp [World.cell?_alloc_at,World.cell?_alloc_past,World.frozen?_alloc_at,World.frozen?_alloc_past]
      have f1:w1.frozen? ⟨w.heap.size+1+1,1,none⟩=false:=by rw [hb1.frozen (p:=⟨w.heap.size+1+1,1,none⟩) (by simp;try omega)];simp [World.cell?_alloc_at,World.cell?_alloc_past,World.frozen?_alloc_at,World.frozen?_alloc_past]
      have u2:w1.cell? ⟨w.heap.size+1,2,none⟩=some (.int .i64 u.ix):=by rw [hb1.cell (p:=⟨w.heap.size+1,2,none⟩) (by simp;try omega)];simp [World.cell?_alloc_at,World.cell?_alloc_past,World.frozen?_alloc_at,World.frozen?_alloc_past]
      have hsz:w.heap.size+1+1<w1.heap.size:=by have:=hb1.size;simp at this;omega
      have hsz1:w.heap.size+1<w1.heap.size:=by omega
      have HW:=hide (show Below w.heap.size w w1 by (repeat' exact bel))
      clear hb1
      go_wp2
      all_goals first
        | (exfalso;omega)
        | exact bodyPost_ret (v:=.tuple #[.agg #[.int .i64 0,.int .i64 0],.int .i64 13]) (by simp (maxDischargeDepth:=9) [results,Tryz.results69,go_sem,r0,r1,f0,f1,hsz]) rfl ⟨by rw [HU.out],by have hWo:=HW.out;(repeat' exact bel)⟩
    · exact absurd (unit_is hE hx1 hx) hU
  · have HU:=hide (unit_frame hE)
    have HE:=hide hE
    have hEb:(frameE c u.lv u.yr != 0)=true:=by simpa using hE
    clear hE hU
    simp only [calV,unitV]
    go_enter Tryz.func69,Tryz.ntmps69
    go_wp2_with fail
    refine (r16spans_no c u.lv u.yr _ hn HE.out).mono ?_
    rintro e w1 ⟨rfl,hb1⟩
    have r0:w1.cell? ⟨w.heap.size+1+1,0,none⟩=some (.int .i64 0):=by rw [hb1.cell (p:=⟨w.heap.size+1+1,0,none⟩) (by simp;try omega)];simp [World.cell?_alloc_at,World.cell?_alloc_past,World.frozen?_alloc_at,World.frozen?_alloc_past]
    have f0:w1.frozen? ⟨w.heap.size+1+1,0,none⟩=false:=by rw [hb1.frozen (p:=⟨w.heap.size+1+1,0,none⟩) (by simp;try omega)];simp [World.cell?_alloc_at,World.cell?_alloc_past,World.frozen?_alloc_at,World.frozen?_alloc_past]
    have r1:w1.cell? ⟨w.heap.size+1+1,1,none⟩=some (.int .i64 0):=by rw [hb1.cell (p:=⟨w.heap.size+1+1,1,none⟩) (by simp;try omega)];simp [World.cell?_alloc_at,World.cell?_alloc_past,World.frozen?_alloc_at,World.frozen?_alloc_past]
    have f1:w1.frozen? ⟨w.heap.size+1+1,1,none⟩=false:=by rw [hb1.frozen (p:=⟨w.heap.size+1+1,1,none⟩) (by simp;try omega)];simp [World.cell?_alloc_at,World.cell?_alloc_past,World.frozen?_alloc_at,World.frozen?_alloc_past]
    have hsz:w.heap.size+1+1<w1.heap.size:=by have:=hb1.size;simp at this;omega
    have hsz1:w.heap.size+1<w1.heap.size:=by omega
    have HW:=hide (show Below w.heap.size w w1 by (repeat' exact bel))
    clear hb1
    go_wp2
    all_goals first
      | (exfalso;omega)
      | exact bodyPost_ret (v:=.tuple #[.agg #[.int .i64 0,.int .i64 0],.int .i64 (frameE c u.lv u.yr)]) (by simp (maxDischargeDepth:=9) [results,Tryz.results69,go_sem,r0,r1,f0,f1,hsz]) rfl ⟨by rw [HU.out],by have hWo:=HW.out;(repeat' exact bel)⟩
theorem r16span_yes (c:Cal) (u:Un) (w:World) (hn:c.name.size≤1000) (hU:unitE c u=0) :
    Calls Tryz.prog 69 #[calV c,unitV u] w fun e w'=>e=.returned (.tuple #[.agg #[.int .i64 (spanF c u),.int .i64 (spanT c u)],.int .i64 0])∧Below w.heap.size w w':=by
  obtain ⟨hE,hx,hi⟩:=unit_ok hU
  have hcb:=cnt_bd c u.yr (frame_ok hE).2.2.2.2.2.2 u.lv
  obtain ⟨i,hii⟩:∃ i,uI u=i:=⟨_,rfl⟩
  have HV:=hide (show spanF c u=dayW c u.yr (cutN c u.yr u.lv i)∧spanT c u=dayW c u.yr (cutN c u.yr u.lv (i+1))-1 by rw [← hii];exact ⟨rfl,rfl⟩)
  rw [hii] at hx hi
  have HE:=hide hE
  obtain ⟨ul,uy,ux⟩:=u
  simp only at *
  subst hx
  have hi60:i<60:=by omega
  obtain ⟨D1,hD1⟩:∃ X,dayW c uy (cutN c uy ul i)=X:=⟨_,rfl⟩
  obtain ⟨D2,hD2⟩:∃ X,dayW c uy (cutN c uy ul (i+1))-1=X:=⟨_,rfl⟩
  have HD:=hide (And.intro hD1 hD2)
  clear hE hU hii hD1 hD2
  simp only [calV,unitV]
  go_enter Tryz.func69,Tryz.ntmps69
  go_wp2_with fail
  refine (r16spans_yes c ul uy _ hn HE.out).mono ?_
  rintro e w1 ⟨g,cap,rfl,hg,hcap,hsp,hb1⟩
  obtain ⟨c1,c2⟩:=spans_at hsp i hi
  rw [HD.out.1] at c1
  rw [HD.out.2] at c2
  have hgl:=hsp.1
  have r0:w1.cell? ⟨w.heap.size+1+1,0,none⟩=some (.int .i64 0):=by rw [hb1.cell (p:=⟨w.heap.size+1+1,0,none⟩) (by simp;try omega)];simp [World.cell?_alloc_at,World.cell?_alloc_past,World.frozen?_alloc_at,World.frozen?_alloc_past]
  have f0:w1.frozen? ⟨w.heap.size+1+1,0,none⟩=false:=by rw [hb1.frozen (p:=⟨w.heap.size+1+1,0,none⟩) (by simp;try omega)];simp [World.cell?_alloc_at,World.cell?_alloc_past,World.frozen?_alloc_at,World.frozen?_alloc_past]
  have r1:w1.cell? ⟨w.heap.size+1+1,1,none⟩=some (.int .i64 0):=by rw [hb1.cell (p:=⟨w.heap.size+1+1,1,none⟩) (by simp;try omega)];simp [World.cell?_alloc_at,World.cell?_alloc_past,World.frozen?_alloc_at,World.frozen?_alloc_past]
  have f1:w1.frozen? ⟨w.heap.size+1+1,1,none⟩=false:=by rw [hb1.frozen (p:=⟨w.heap.size+1+1,1,none⟩) (by simp;try omega)];simp [World.cell?_alloc_at,World.cell?_alloc_past,World.frozen?_alloc_at,World.frozen?_alloc_past]
  have u2:w1.cell? ⟨w.heap.size+1,2,none⟩=some (.int .i64 ((i:Int)+1)):=by rw [hb1.cell (p:=⟨w.heap.size+1,2,none⟩) (by simp;try omega)];simp [World.cell?_alloc_at,World.cell?_alloc_past,World.frozen?_alloc_at,World.frozen?_alloc_past]
  have hsz:w.heap.size+1+1<w1.heap.size:=by have:=hb1.size;simp at this;omega
  have hsz1:w.heap.size+1<w1.heap.size:=by omega
  have hgn:¬ g=w.heap.size+1+1:=by simp at hg;omega
  have HW:=hide (show Below w.heap.size w w1 by (repeat' exact bel))
  clear hb1 hsp
  have hi3:(0:Int)≤(i:Int):=by omega
  have hi4:(i:Int)<(cntL c uy ul:Int):=by omega
  have hi5:(i:Int)<60:=by omega
  go_wp2
  all_goals first
    | (exfalso;omega)
    | exact bodyPost_ret (v:=.tuple #[.agg #[.int .i64 D1,.int .i64 D2],.int .i64 0]) (by simp (maxDischargeDepth:=9) [results,Tryz.results69,go_sem,r0,r1,f0,f1,hsz]) rfl ⟨by rw [HV.out.1,HV.out.2,HD.out.1,HD.out.2],by have hWo:=HW.out;(repeat' exact bel)⟩
theorem r16span_any (c:Cal) (u:Un) (w:World) (hn:c.name.size≤1000) :
    Calls Tryz.prog 69 #[calV c,unitV u] w fun e w'=>e=.returned (.tuple #[spanV (spV c u),.int .i64 (unitE c u)])∧Below w.heap.size w w':=by
  by_cases hE:unitE c u=0
  · refine (r16span_yes c u w hn hE).mono ?_
    rintro e w1 ⟨rfl,hb⟩
    exact ⟨by rw [spV,if_pos hE,hE],hb⟩
  · refine (r16span_no c u w hn hE).mono ?_
    rintro e w1 ⟨rfl,hb⟩
    exact ⟨by rw [spV,if_neg hE],hb⟩
end Go.Proofs.YtjhhmeoibfdcmaaGreat
namespace Go.Proofs.YtjhhmeoibfdcmaaGreat
open Go.RowKit Qd
def askedE (c:Cal) (lv:Int):Int:=if c.okB=true∧1≤lv∧lv≤5 then 0 else 1
theorem r17asked_any (c:Cal) (lv:Int) (w:World) (hn:c.name.size≤1000) :
    Calls Tryz.prog 98 #[calV c,.int .i64 lv] w fun e w'=>e=.returned (.int .i64 (askedE c lv))∧Below w.heap.size w w':=by
  have hcases:(okE c=1∧askedE c lv=1)∨(okE c=0∧lv<1∧askedE c lv=1)∨(okE c=0∧(1≤lv∧5<lv)∧askedE c lv=1)∨(okE c=0∧(1≤lv∧lv≤5)∧askedE c lv=0):=by
    rcases okE_cases c with ⟨_,h1,h2⟩ | ⟨_,h1,h2⟩
    · by_cases h3:lv<1
      · exact .inr (.inl ⟨h1,h3,by rw [askedE,if_neg (by omega)]⟩)
      · by_cases h4:5<lv
        · exact .inr (.inr (.inl ⟨h1,⟨by omega,h4⟩,by rw [askedE,if_neg (by omega)]⟩))
        · exact .inr (.inr (.inr ⟨h1,⟨by omega,by omega⟩,by rw [askedE,if_pos ⟨h2,by omega,by omega⟩]⟩))
    · exact .inl ⟨h1,by rw [askedE,if_neg (by simp [h2])]⟩
  rcases hcases with ⟨h1,h2⟩ | ⟨h1,h3,h2⟩ | ⟨h1,⟨h3,h4⟩,h2⟩ | ⟨h1,⟨h3,h4⟩,h2⟩
  all_goals
    have HE:=hide h1
    have HA:=hide h2
    clear h1 h2
    simp only [calV]
    go_enter Tryz.func98,Tryz.ntmps98
    go_wp2_with fail
    refine (r11check_any c _ hn).mono ?_
    rintro e w1 ⟨rfl,hb1⟩
    rw [HE.out]
    have hz1:w.heap.size<w1.heap.size:=by have:=hb1.size;simp at this;omega
    have HB1:Hid (Below w.heap.size w w1):=ww hb1
    have HQ1:=hide (calAt_below hb1 (by simp) (calAt_new w c))
    obtain ⟨q0,q1,q2,q3,q4,q5,q6,q7,q8,q9,q10,q11,q12,q13⟩:=HQ1.out
    clear hb1
    have hBel:=HB1.out
    go_wp2
    all_goals first
      | (exfalso;omega)
      | (go_ret;exact ⟨by rw [HA.out];rfl,by (repeat' exact bel)⟩)
end Go.Proofs.YtjhhmeoibfdcmaaGreat
namespace Go.Proofs.YtjhhmeoibfdcmaaGreat
open Go.RowKit Qd
def UlSt (c:Cal) (B Bo:Nat) (L:List Un) (v:Value) (w0 w:World):Prop:=
  CalAt w B c∧B<Bo∧Bo≤w.heap.size∧w.ownsRow Bo 26 3 v L.length (flatU L)∧Below B w0 w
theorem UlSt.call {c:Cal} {B Bo:Nat} {L:List Un} {v:Value} {w0 w w':World} (h:UlSt c B Bo L v w0 w) (hb:Below w.heap.size w w'):UlSt c B Bo L v w0 w':=by
  obtain ⟨h1,h2,h3,h4,h6⟩:=h
  exact ⟨calAt_below hb (by omega) h1,h2,Nat.le_trans h3 hb.size,rowns_call h4 hb,h6.trans (hb.mono (by omega))⟩
theorem UlSt.grow {c:Cal} {B Bo:Nat} {L:List Un} {x:Un} {v v':Value} {w0 W w':World} (h:UlSt c B Bo L v w0 W) (o:Obj)
    (ho:w'.ownsRow Bo 26 3 v' (L.length+1) (flatU L++[.int .i64 x.lv,.int .i64 x.yr,.int .i64 x.ix])) (hgrow:(W.alloc o).grownBy w' v.ownBlock):UlSt c B Bo (L++[x]) v' w0 w'∧Below Bo W w':=by
  obtain ⟨h1,h2,h3,h4,h6⟩:=h
  have hb:Below Bo W w':=((Below.refl Bo W).alloc h3 o).grown hgrow (by simp;omega) (fun k hk=>by have:=(h4.lt k hk).1;omega)
  have hs:W.heap.size≤w'.heap.size:=by have:=hgrow.size;simp at this;omega
  refine ⟨⟨calAt_below hb h2 h1,h2,by omega,?_,h6.trans (hb.mono (by omega))⟩,hb⟩
  rw [flatU_snoc]
  simpa using ho
theorem UlSt.uns {c:Cal} {B Bo:Nat} {L:List Un} {v:Value} {w0 w:World} (h:UlSt c B Bo L v w0 w) (h0:0<L.length):∃ g cap,v=.slice (some ⟨g,0,none⟩) L.length cap∧Bo≤g∧UnsAt w g cap L:=by
  obtain ⟨g,cap,rfl,_,_,hg⟩:=owns_slice h.2.2.2.1 h0
  exact ⟨g,cap,rfl,hg,rowns_base h.2.2.2.1 (Nat.zero_le _)⟩
def RUnsPost (L:List Un) (w:World) (e:Ending) (w':World):Prop:=∃ g cap,e=.returned (.tuple #[.slice (some ⟨g,0,none⟩) L.length cap,.int .i64 0])∧UnsAt w' g cap L∧Below w.heap.size w w'
end Go.Proofs.YtjhhmeoibfdcmaaGreat
