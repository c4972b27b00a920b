/- Lemmas. -/
import Derived.Laws.CopyOwn
import Derived.Test.YtjhhmeoibfdcmaaGreatWr06
import Derived.Test.YtjhhmeoibfdcmaaGreatWr07
import Derived.Test.YtjhhmeoibfdcmaaGreatWr11
set_option linter.unusedSimpArgs false
set_option linter.unusedVariables false
set_option maxRecDepth 100000
set_option maxHeartbeats 12800000
namespace Go.Proofs.YtjhhmeoibfdcmaaGreat
section
open Go.RowKit Qd
def aE (c:ar) (u:Un):Int:=if aI c u.lv u.yr=0 then (if 1≤u.ix∧u.ix≤(aR c u.yr u.lv:Int) then 0 else 13) else aI c u.lv u.yr
def uI (u:Un):Nat:=(u.ix-1).toNat
theorem ie {c:ar} {u:Un} (h:aE c u=0):aI c u.lv u.yr=0∧u.ix=(uI u:Int)+1∧uI u<aR c u.yr u.lv:=by
 unfold aE at h
 split at h
 ·rename_i hf
  split at h
  ·rename_i hx
   unfold uI;exact ⟨hf,by omega,by omega⟩
  ·omega
 ·rename_i hf
  exact absurd h hf
theorem oO {c:ar} {u:Un} (h:aI c u.lv u.yr=0) (f:1≤u.ix) (o:u.ix≤(aR c u.yr u.lv:Int)):aE c u=0:=by
 unfold aE;rw [if_pos h,if_pos ⟨f,o⟩]
def aT (c:ar) (u:Un):Nat:=aW c u.yr u.lv (uI u)
def bF (c:ar) (u:Un):Nat:=aW c u.yr u.lv (uI u+1)
theorem dz {c:ar} {u:Un} (h:aE c u=0):aT c u<bF c u∧bF c u≤bW c u.yr:=by
 obtain ⟨G,O,hi⟩:=ie h;obtain ⟨H,F,f,o,I,J,E⟩:=a9 G;exact ⟨kx c u.yr E u.lv f o _ hi,cT c u.yr E u.lv f o _ om⟩
def BG (c:ar) (u:Un) (w:World) (e:Ending) (o:World):Prop:=
 ∃ f cap h,w.heap.size≤f∧w.heap.size≤h∧e=.returned (.tuple #[cK u.yr (bW c u.yr) cap f (aU c u.yr) h,.int .i64 ((aT c u:Int)+1),.int .i64 (bF c u:Int),.int .i64 0])∧bW c u.yr≤cap∧cap≤maxLen∧cq o f h c u.yr∧Below w w o
theorem CM (c:ar) (u:Un) (w:World) (T:c.name.size≤1000) (o:¬ aI c u.lv u.yr=0) :
  Calls Tryz.prog 79 #[av c,aC u] w fun e V=>e=.returned (.tuple #[.agg #[.int .i64 0,.slice none 0 0,.slice none 0 0],.int .i64 0,.int .i64 0,aE c u])∧Below w w V:=by
 have R:=hide (show aE c u=aI c u.lv u.yr by unfold aE;rw [if_neg o]);have O:(aI c u.lv u.yr != 0)=true:=by simpa using o
 have F:=hide o;clear o;simp only [av,aC];go_enter Tryz.func79,Tryz.ntmps79;go_wp2_with fail;refine (zC c u.lv u.yr _ T F.out).mono ?_;rintro e h ⟨rfl,f⟩;have U:h.cell? ⟨w+1+1,0,none⟩=some (.int .i64 0):=am f;have H:h.frozen? ⟨w+1+1,0,none⟩=false:=ak f;have r1:h.cell? ⟨w+1+1,1,none⟩=some (.slice none 0 0):=am f;have I:h.frozen? ⟨w+1+1,1,none⟩=false:=ak f;have r2:h.cell? ⟨w+1+1,2,none⟩=some (.slice none 0 0):=am f;have J:h.frozen? ⟨w+1+1,2,none⟩=false:=ak f;have E:w.heap.size+1+1<h.heap.size:=aj f;have G:=hide (show Below w w h by (repeat' exact bel));clear f;go_wp2;exact bodyPost_ret (v:=.tuple #[.agg #[.int .i64 0,.slice none 0 0,.slice none 0 0],.int .i64 0,.int .i64 0,aI c u.lv u.yr]) (by simp (maxDischargeDepth:=9) [results,Tryz.results79,go_sem,U,r1,r2,H,I,J,E]) rfl ⟨by rw [R.out],by have S:=G.out;(repeat' exact bel)⟩
theorem xl (c:ar) (u:Un) (w:World) (hn:c.name.size≤1000) (hE:aI c u.lv u.yr=0) (hx:u.ix<1∨(aR c u.yr u.lv:Int)<u.ix) :
  Calls Tryz.prog 79 #[av c,aC u] w fun e w'=>e=.returned (.tuple #[.agg #[.int .i64 0,.slice none 0 0,.slice none 0 0],.int .i64 0,.int .i64 0,aE c u])∧Below w w w':=by
 have hU:=hide (show aE c u=13 by unfold aE;rw [if_pos hE,if_neg om]);have HE:=hide hE;have HF:=hide (a9 hE);have HX:=hide hx;clear hE hx;simp only [av,aC];go_enter Tryz.func79,Tryz.ntmps79;go_wp2_with fail;refine (kW c u.lv u.yr _ hn HE.out).mono ?_;rintro e F ⟨V,cap,W,al,aq,rfl,aA,aB,H,f⟩;simp at al aq;have S:F.cell? ⟨w+1+1,0,none⟩=some (.int .i64 0):=am f;have J:F.frozen? ⟨w+1+1,0,none⟩=false:=ak f;have r1:F.cell? ⟨w+1+1,1,none⟩=some (.slice none 0 0):=am f;have O:F.frozen? ⟨w+1+1,1,none⟩=false:=ak f;have r2:F.cell? ⟨w+1+1,2,none⟩=some (.slice none 0 0):=am f;have R:F.frozen? ⟨w+1+1,2,none⟩=false:=ak f;have u0:F.cell? ⟨w+1,0,none⟩=some (.int .i64 u.lv):=am f;have u1:F.cell? ⟨w+1,1,none⟩=some (.int .i64 u.yr):=am f;have u2:F.cell? ⟨w+1,2,none⟩=some (.int .i64 u.ix):=am f;have ay:w.heap.size+1+1<F.heap.size:=aj f;have HW:=hide (show Below w w F by (repeat' exact bel));have aF:=H.1.1;have a0:=H.2.lt;have ab:=hide H;clear f H;go_wp2_with fail;generalize h:(((F.setCell _ _).setCell _ _).setCell _ _)=G;have ad:=hide (show Below w w G by rw [← h];exact ((HW.out.setCell ae _).setCell ae _).setCell ae _);have T:=hide (show cq G V W c u.yr by rw [← h];exact ((ab.out.far ae ae _).far ae ae _).far ae ae _);have E:w.heap.size+1+1<G.heap.size:=by rw [← h];simpa using ay
 have R0:G.cell? ⟨w+1+1,0,none⟩=some (.int .i64 u.yr):=by rw [← h];simp (maxDischargeDepth:=9) [World.cell?_setCell_same',World.cell?_setCell_other,S,r1,r2]
 have F0:G.frozen? ⟨w+1+1,0,none⟩=false:=by rw [← h];simp [J,O,R]
 have R1:G.cell? ⟨w+1+1,1,none⟩=some (.slice (some ⟨V,0,none⟩) (bW c u.yr) cap):=by rw [← h];simp (maxDischargeDepth:=9) [World.cell?_setCell_same',World.cell?_setCell_other,S,r1,r2]
 have F1:G.frozen? ⟨w+1+1,1,none⟩=false:=by rw [← h];simp [J,O,R]
 have R2:G.cell? ⟨w+1+1,2,none⟩=some (.slice (some ⟨W,0,none⟩) (aU c u.yr) (aU c u.yr)):=by rw [← h];simp (maxDischargeDepth:=9) [World.cell?_setCell_same',World.cell?_setCell_other,S,r1,r2]
 have F2:G.frozen? ⟨w+1+1,2,none⟩=false:=by rw [← h];simp [J,O,R]
 clear h S r1 r2 J O R u0 u1 u2;refine (Ba c u.yr u _ cap V W HF.out.2.2.1 HF.out.2.2.2.1 HF.out.2.2.2.2.2.2 T.out.2 HX.out).mono ?_;rintro e I ⟨rfl,o⟩;have S:I.cell? ⟨w+1+1,0,none⟩=some (.int .i64 u.yr):=by rw [o.cell (p:=⟨w+1+1,0,none⟩) E];exact R0
 have J:I.frozen? ⟨w+1+1,0,none⟩=false:=by rw [o.frozen (p:=⟨w+1+1,0,none⟩) E];exact F0
 have r1:I.cell? ⟨w+1+1,1,none⟩=some (.slice (some ⟨V,0,none⟩) (bW c u.yr) cap):=by rw [o.cell (p:=⟨w+1+1,1,none⟩) E];exact R1
 have O:I.frozen? ⟨w+1+1,1,none⟩=false:=by rw [o.frozen (p:=⟨w+1+1,1,none⟩) E];exact F1
 have r2:I.cell? ⟨w+1+1,2,none⟩=some (.slice (some ⟨W,0,none⟩) (aU c u.yr) (aU c u.yr)):=by rw [o.cell (p:=⟨w+1+1,2,none⟩) E];exact R2
 have R:I.frozen? ⟨w+1+1,2,none⟩=false:=by rw [o.frozen (p:=⟨w+1+1,2,none⟩) E];exact F2
 have U:w.heap.size+1+1<I.heap.size:=Nat.lt_of_lt_of_le E o.size;have ah:=hide (ad.out.trans (o.mono om));clear o R0 R1 R2 F0 F1 F2;go_wp2;exact bodyPost_ret (v:=.tuple #[.agg #[.int .i64 0,.slice none 0 0,.slice none 0 0],.int .i64 0,.int .i64 0,.int .i64 13]) (by simp (maxDischargeDepth:=9) [results,Tryz.results79,go_sem,S,r1,r2,J,O,R,U]) rfl ⟨by rw [hU.out],((ah.out.setCell ae _).setCell ae _).setCell ae _⟩
theorem iu (c:ar) (u:Un) (w:World) (hn:c.name.size≤1000) (ab:aE c u=0) :
  Calls Tryz.prog 79 #[av c,aC u] w (BG c u w):=by
 obtain ⟨hE,hx,hi⟩:=ie ab;have HI:=hide hi;clear hi ab;have HE:=hide hE;have HF:=hide (a9 hE);have HX:=hide hx;clear hE hx;simp only [av,aC];go_enter Tryz.func79,Tryz.ntmps79;go_wp2_with fail;refine (kW c u.lv u.yr _ hn HE.out).mono ?_;rintro e F ⟨T,cap,U,ay,aA,rfl,aB,aF,H,f⟩;simp at ay aA;have V:F.cell? ⟨w+1+1,0,none⟩=some (.int .i64 0):=am f;have O:F.frozen? ⟨w+1+1,0,none⟩=false:=ak f;have r1:F.cell? ⟨w+1+1,1,none⟩=some (.slice none 0 0):=am f;have R:F.frozen? ⟨w+1+1,1,none⟩=false:=ak f;have r2:F.cell? ⟨w+1+1,2,none⟩=some (.slice none 0 0):=am f;have S:F.frozen? ⟨w+1+1,2,none⟩=false:=ak f;have u0:F.cell? ⟨w+1,0,none⟩=some (.int .i64 u.lv):=am f;have u1:F.cell? ⟨w+1,1,none⟩=some (.int .i64 u.yr):=am f;have u2:F.cell? ⟨w+1,2,none⟩=some (.int .i64 u.ix):=am f;have a0:w.heap.size+1+1<F.heap.size:=aj f;have HW:=hide (show Below w w F by (repeat' exact bel));have a1:=H.1.1;have a2:=H.2.lt;have ah:=hide H;clear f H;go_wp2_with fail;generalize h:(((F.setCell _ _).setCell _ _).setCell _ _)=G;have al:=hide (show Below w w G by rw [← h];exact ((HW.out.setCell ae _).setCell ae _).setCell ae _);have I:=hide (show cq G T U c u.yr by rw [← h];exact ((ah.out.far ae ae _).far ae ae _).far ae ae _);have E:w.heap.size+1+1<G.heap.size:=by rw [← h];simpa using a0
 have R0:G.cell? ⟨w+1+1,0,none⟩=some (.int .i64 u.yr):=by rw [← h];simp (maxDischargeDepth:=9) [World.cell?_setCell_same',World.cell?_setCell_other,V,r1,r2]
 have F0:G.frozen? ⟨w+1+1,0,none⟩=false:=by rw [← h];simp [O,R,S]
 have R1:G.cell? ⟨w+1+1,1,none⟩=some (.slice (some ⟨T,0,none⟩) (bW c u.yr) cap):=by rw [← h];simp (maxDischargeDepth:=9) [World.cell?_setCell_same',World.cell?_setCell_other,V,r1,r2]
 have F1:G.frozen? ⟨w+1+1,1,none⟩=false:=by rw [← h];simp [O,R,S]
 have R2:G.cell? ⟨w+1+1,2,none⟩=some (.slice (some ⟨U,0,none⟩) (aU c u.yr) (aU c u.yr)):=by rw [← h];simp (maxDischargeDepth:=9) [World.cell?_setCell_same',World.cell?_setCell_other,V,r1,r2]
 have F2:G.frozen? ⟨w+1+1,2,none⟩=false:=by rw [← h];simp [O,R,S]
 clear h V r1 r2 O R S u0 u1 u2;refine (pc c u.yr u _ cap T U HF.out.2.2.1 HF.out.2.2.2.1 HF.out.2.2.2.2.2.2 I.out.2 (uI u) HX.out HI.out).mono ?_;rintro e J ⟨rfl,o⟩;have V:J.cell? ⟨w+1+1,0,none⟩=some (.int .i64 u.yr):=by rw [o.cell (p:=⟨w+1+1,0,none⟩) E];exact R0
 have O:J.frozen? ⟨w+1+1,0,none⟩=false:=by rw [o.frozen (p:=⟨w+1+1,0,none⟩) E];exact F0
 have r1:J.cell? ⟨w+1+1,1,none⟩=some (.slice (some ⟨T,0,none⟩) (bW c u.yr) cap):=by rw [o.cell (p:=⟨w+1+1,1,none⟩) E];exact R1
 have R:J.frozen? ⟨w+1+1,1,none⟩=false:=by rw [o.frozen (p:=⟨w+1+1,1,none⟩) E];exact F1
 have r2:J.cell? ⟨w+1+1,2,none⟩=some (.slice (some ⟨U,0,none⟩) (aU c u.yr) (aU c u.yr)):=by rw [o.cell (p:=⟨w+1+1,2,none⟩) E];exact R2
 have S:J.frozen? ⟨w+1+1,2,none⟩=false:=by rw [o.frozen (p:=⟨w+1+1,2,none⟩) E];exact F2
 have ad:w.heap.size+1+1<J.heap.size:=Nat.lt_of_lt_of_le E o.size;have W:=hide (I.out.call o);have aq:=hide (al.out.trans (o.mono om));clear o R0 R1 R2 F0 F1 F2;go_wp2;refine bodyPost_ret (v:=.tuple #[cK u.yr (bW c u.yr) cap T (aU c u.yr) U,.int .i64 ((aT c u:Int)+1),.int .i64 (bF c u:Int),.int .i64 0]) (by simp (maxDischargeDepth:=9) [results,Tryz.results79,go_sem,V,r1,r2,O,R,S,ad,aT,bF]) rfl ⟨T,cap,U,by omega,by omega,rfl,aB,aF,?_,((aq.out.setCell ae _).setCell ae _).setCell ae _⟩;exact ((W.out.far ae ae _).far ae ae _).far ae ae _
theorem lE (c:ar) (u:Un) (w:World) (o:c.name.size≤1000) (f:¬ aE c u=0) :
  Calls Tryz.prog 79 #[av c,aC u] w fun e E=>e=.returned (.tuple #[.agg #[.int .i64 0,.slice none 0 0,.slice none 0 0],.int .i64 0,.int .i64 0,aE c u])∧Below w w E:=by
 by_cases h:aI c u.lv u.yr=0
 ·refine xl c u w o h ?_
  unfold aE at f;rw [if_pos h] at f
  split at f
  ·exact absurd rfl f
  ·omega
 ·exact CM c u w o h
def ff (c:ar) (lv y:Int):Int:=if aI c lv y=0 then (aR c y lv:Int) else 0
def gT (c:ar) (u:Un):Int:=bD c u.yr (aT c u)
def gb (c:ar) (u:Un):Int:=bD c u.yr (bF c u)-1
def cd (c:ar) (u:Un):Sp:=if aE c u=0 then ⟨gT c u,gb c u⟩ else ⟨0,0⟩
def tT (c:ar) (u:Un) (lv:Int):Int:=if aE c u=0 then (if 1≤lv∧lv≤u.lv then 0 else 1) else aE c u
def nK (c:ar) (u:Un) (lv:Int):Un:=if tT c u lv=0 then ⟨lv,u.yr,(gJ c u.yr lv (aT c u):Int)+1⟩ else ⟨0,0,0⟩
def qP (c:ar) (u:Un) (lv:Int):Int:=if aE c u=0 then (if u.lv≤lv∧lv≤5 then 0 else 1) else aE c u
def CW (c:ar) (u:Un) (lv:Int):Un:=if qP c u lv=0 then ⟨lv,u.yr,(gJ c u.yr lv (aT c u):Int)+1⟩ else ⟨0,0,0⟩
def CQ (c:ar) (u:Un) (lv:Int):Un:=if qP c u lv=0 then ⟨lv,u.yr,(gJ c u.yr lv (bF c u-1):Int)+1⟩ else ⟨0,0,0⟩
theorem rB (c:ar) (lv y:Int) (w:World) (R:c.name.size≤1000) :
  Calls Tryz.prog 73 #[av c,lv,y] w fun e w'=>e=.returned (.tuple #[ff c lv y,aI c lv y])∧Below w w w':=by
 by_cases h:aI c lv y=0
 ·have I:=hide (show ff c lv y=(aR c y lv:Int) by simp [ff,h])
  have G:=hide (a9 h);have E:=hide h;clear h;simp only [av];go_enter Tryz.func73,Tryz.ntmps73;go_wp2_with fail;refine (kW c lv y _ R E.out).mono ?_;rintro e F ⟨T,cap,U,W,ab,rfl,ad,ah,o,f⟩;have S:=hide (show Below w w F by (repeat' exact bel));have O:w.heap.size<F.heap.size:=aj f;have H:=hide o;clear f o;go_wp2_with fail;refine (xI c y lv _ cap T U G.out.2.2.1 G.out.2.2.2.1 G.out.2.2.2.2.2.2 (H.out.alloc _).2).mono ?_;rintro e w2 ⟨rfl,J⟩;go_wp2;go_ret2;exact ⟨aw I.out.symm E.out.symm,Below.trans (S.out.alloc om _) (J.mono ae)⟩
 ·have I:=hide (show ff c lv y=0 by simp [ff,h])
  have V:(aI c lv y != 0)=true:=by simpa using h
  have E:=hide h;clear h;simp only [av];go_enter Tryz.func73,Tryz.ntmps73;go_wp2_with fail;refine (zC c lv y _ R E.out).mono ?_;rintro e F ⟨rfl,f⟩;have O:w.heap.size<F.heap.size:=aj f;go_wp2;go_ret2;exact ⟨aw I.out.symm rfl,by (repeat' exact bel)⟩
theorem eT (c:ar) (u:Un) (w:World) (G:c.name.size≤1000) :
  Calls Tryz.prog 47 #[av c,aC u] w fun e S=>e=.returned (.int .i64 (aE c u))∧Below w w S:=by
 by_cases o:aE c u=0
 ·have h:=hide o
  clear o;simp only [av,aC];go_enter Tryz.func47,Tryz.ntmps47;go_wp2_with fail;refine (iu c u _ G h.out).mono ?_;rintro e F ⟨T,cap,U,I,J,rfl,O,R,H,f⟩;have E:w.heap.size+1<F.heap.size:=aj f;go_wp2;go_ret;exact ⟨aZ h.out.symm,by (repeat' exact bel)⟩
 ·have h:=hide o
  clear o;simp only [av,aC];go_enter Tryz.func47,Tryz.ntmps47;go_wp2_with fail;refine (lE c u _ G h.out).mono ?_;rintro e F ⟨rfl,f⟩;have E:w.heap.size+1<F.heap.size:=aj f;go_wp2;go_ret;exact ⟨rfl,by (repeat' exact bel)⟩
theorem Eb (c:ar) (u:Un) (w:World) (S:c.name.size≤1000) (o:¬ aE c u=0) :
  Calls Tryz.prog 41 #[av c,aC u] w fun e U=>e=.returned (.tuple #[.agg #[.int .i64 0,.int .i64 0],aE c u])∧Below w w U:=by
 have O:(aE c u != 0)=true:=by simpa using o
 have G:=hide o;clear o;simp only [av,aC];go_enter Tryz.func41,Tryz.ntmps41;go_wp2_with fail;refine (lE c u _ S G.out).mono ?_;rintro e h ⟨rfl,f⟩;have T:h.cell? ⟨w+1+1,0,none⟩=some (.int .i64 0):=am f;have I:h.frozen? ⟨w+1+1,0,none⟩=false:=ak f;have r1:h.cell? ⟨w+1+1,1,none⟩=some (.int .i64 0):=am f;have J:h.frozen? ⟨w+1+1,1,none⟩=false:=ak f;have E:w.heap.size+1+1<h.heap.size:=aj f;have F:w.heap.size+1<h.heap.size:=om;have H:=hide (show Below w w h by (repeat' exact bel));clear f;go_wp2;exact bodyPost_ret (v:=.tuple #[.agg #[.int .i64 0,.int .i64 0],aE c u]) (by simp (maxDischargeDepth:=9) [results,Tryz.results41,go_sem,T,r1,I,J,E]) rfl ⟨rfl,by have R:=H.out;(repeat' exact bel)⟩
theorem BW (c:ar) (u:Un) (w:World) (hn:c.name.size≤1000) (I:aE c u=0) :
  Calls Tryz.prog 41 #[av c,aC u] w fun e w'=>e=.returned (.tuple #[.agg #[gT c u,gb c u],.int .i64 0])∧Below w w w':=by
 have hcut:=dz I;obtain ⟨b,hb⟩:∃ b,bF c u=b+1:=⟨bF c u-1,by omega⟩;have HB:=hide (show (bF c u:Int)=(b:Int)+1 by omega);have J:=hide hb;have hA:aO c u.yr 1601=0:=(a9 (ie I).1).2.2.2.2.2.2;have HA:=hide hA;have HE:=hide I;have S:aT c u<bW c u.yr:=om;have T:b<bW c u.yr:=om;clear I hA hb hcut;simp only [av,aC];go_enter Tryz.func41,Tryz.ntmps41;go_wp2_with fail;refine (iu c u _ hn HE.out).mono ?_;rintro e E ⟨g1,cap,g2,ad,ah,rfl,U,aq,G,h⟩;rw [HB.out];have r0:E.cell? ⟨w+1+1,0,none⟩=some (.int .i64 0):=am h;have V:E.frozen? ⟨w+1+1,0,none⟩=false:=ak h;have r1:E.cell? ⟨w+1+1,1,none⟩=some (.int .i64 0):=am h;have W:E.frozen? ⟨w+1+1,1,none⟩=false:=ak h;have o:w.heap.size+1+1<E.heap.size:=aj h;have ab:w.heap.size+1<E.heap.size:=om;have HW:=hide (show Below w w E by (repeat' exact bel));have O:=hide G;clear h G;go_wp2_with fail;refine (rL c u.yr _ cap g1 g2 HA.out U (O.out.alloc _) (aT c u) b S T).mono ?_;rintro e F ⟨rfl,f⟩;have s0:F.cell? ⟨w+1+1,0,none⟩=some (.int .i64 0):=by rw [f.cell (p:=⟨w+1+1,0,none⟩) ae,World.cell?_alloc_past _ _ _ o];exact r0
 have h0:F.frozen? ⟨w+1+1,0,none⟩=false:=by rw [f.frozen (p:=⟨w+1+1,0,none⟩) ae,World.frozen?_alloc_past _ _ _ o];exact V
 have s1:F.cell? ⟨w+1+1,1,none⟩=some (.int .i64 0):=by rw [f.cell (p:=⟨w+1+1,1,none⟩) ae,World.cell?_alloc_past _ _ _ o];exact r1
 have h1:F.frozen? ⟨w+1+1,1,none⟩=false:=by rw [f.frozen (p:=⟨w+1+1,1,none⟩) ae,World.frozen?_alloc_past _ _ _ o];exact W
 have H:w.heap.size+1+1<F.heap.size:=Nat.lt_of_lt_of_le o (Nat.le_trans ac f.size);have R:=hide (Below.trans (HW.out.alloc om _) (f.mono ae):Below w w F);clear f r0 r1 V W;go_wp2;exact bodyPost_ret (v:=.tuple #[.agg #[bD c u.yr (aT c u),.int .i64 (bD c u.yr (b+1)-1)],.int .i64 0]) (by simp (maxDischargeDepth:=9) [results,Tryz.results41,go_sem,s0,s1,h0,h1,H]) rfl ⟨by rw [gT,gb,J.out],by have al:=R.out;(repeat' exact bel)⟩
theorem ls (c:ar) (u:Un) (w:World) (o:c.name.size≤1000) :
  Calls Tryz.prog 41 #[av c,aC u] w fun e E=>e=.returned (.tuple #[bI (cd c u),aE c u])∧Below w w E:=by
 by_cases f:aE c u=0
 ·refine (BW c u w o f).mono ?_
  rintro e F ⟨rfl,h⟩;exact ⟨by rw [cd,if_pos f,f],h⟩
 ·refine (Eb c u w o f).mono ?_
  rintro e F ⟨rfl,h⟩;exact ⟨by rw [cd,if_neg f],h⟩
theorem Jg (c:ar) (u:Un) (lv:Int) (w:World) (T:c.name.size≤1000) (o:¬ aE c u=0) :
  Calls Tryz.prog 226 #[av c,aC u,lv] w fun e V=>e=.returned (.tuple #[.agg #[.int .i64 0,.int .i64 0,.int .i64 0],aE c u])∧Below w w V:=by
 have R:(aE c u != 0)=true:=by simpa using o
 have G:=hide o;clear o;simp only [av,aC];go_enter Tryz.func226,Tryz.ntmps226;go_wp2_with fail;refine (lE c u _ T G.out).mono ?_;rintro e h ⟨rfl,f⟩;have U:h.cell? ⟨w+1+1,0,none⟩=some (.int .i64 0):=am f;have I:h.frozen? ⟨w+1+1,0,none⟩=false:=ak f;have r1:h.cell? ⟨w+1+1,1,none⟩=some (.int .i64 0):=am f;have J:h.frozen? ⟨w+1+1,1,none⟩=false:=ak f;have r2:h.cell? ⟨w+1+1,2,none⟩=some (.int .i64 0):=am f;have O:h.frozen? ⟨w+1+1,2,none⟩=false:=ak f;have E:w.heap.size+1+1<h.heap.size:=aj f;have F:w.heap.size+1<h.heap.size:=om;have H:=hide (show Below w w h by (repeat' exact bel));clear f;go_wp2;exact bodyPost_ret (v:=.tuple #[.agg #[.int .i64 0,.int .i64 0,.int .i64 0],aE c u]) (by simp (maxDischargeDepth:=9) [results,Tryz.results226,go_sem,U,r1,r2,I,J,O,E]) rfl ⟨rfl,by have S:=H.out;(repeat' exact bel)⟩
theorem IR (c:ar) (u:Un) (lv:Int) (w:World) (hn:c.name.size≤1000) (F:aE c u=0) (hl:lv<1∨u.lv<lv) :
  Calls Tryz.prog 226 #[av c,aC u,lv] w fun e w'=>e=.returned (.tuple #[.agg #[.int .i64 0,.int .i64 0,.int .i64 0],.int .i64 1])∧Below w w w':=by
 have H:=hide F;clear F;simp only [av,aC];go_enter Tryz.func226,Tryz.ntmps226;go_wp2_with fail;refine (iu c u _ hn H.out).mono ?_;rintro e h ⟨g1,cap,g2,S,T,rfl,V,W,o,f⟩;have r0:h.cell? ⟨w+1+1,0,none⟩=some (.int .i64 0):=am f;have J:h.frozen? ⟨w+1+1,0,none⟩=false:=ak f;have r1:h.cell? ⟨w+1+1,1,none⟩=some (.int .i64 0):=am f;have O:h.frozen? ⟨w+1+1,1,none⟩=false:=ak f;have r2:h.cell? ⟨w+1+1,2,none⟩=some (.int .i64 0):=am f;have R:h.frozen? ⟨w+1+1,2,none⟩=false:=ak f;have u0:h.cell? ⟨w+1,0,none⟩=some (.int .i64 u.lv):=am f;have E:w.heap.size+1+1<h.heap.size:=aj f;have G:w.heap.size+1<h.heap.size:=om;have I:=hide (show Below w w h by (repeat' exact bel));clear f o;go_wp2_with fail
 all_goals first
  | (exfalso;omega)
  | exact bodyPost_ret (v:=.tuple #[.agg #[.int .i64 0,.int .i64 0,.int .i64 0],.int .i64 1]) (by simp (maxDischargeDepth:=9) [results,Tryz.results226,go_sem,r0,r1,r2,J,O,R,E]) rfl ⟨rfl,by have U:=I.out;(repeat' exact bel)⟩
theorem Jq (c:ar) (u:Un) (lv:Int) (w:World) (hn:c.name.size≤1000) (O:aE c u=0) (h1:1≤lv) (h2:lv≤u.lv) :
  Calls Tryz.prog 226 #[av c,aC u,lv] w fun e w'=>e=.returned (.tuple #[.agg #[lv,u.yr,.int .i64 ((gJ c u.yr lv (aT c u):Int)+1)],.int .i64 0])∧Below w w w':=by
 have R:=a9 (ie O).1;have V:aO c u.yr 1601=0:=R.2.2.2.2.2.2;have h5:lv≤5:=by have:=R.2.2.2.1;omega
 have HA:=hide V;have HE:=hide O;clear O V R;simp only [av,aC];go_enter Tryz.func226,Tryz.ntmps226;go_wp2_with fail;refine (iu c u _ hn HE.out).mono ?_;rintro e E ⟨g1,cap,g2,ab,ad,rfl,al,aq,G,f⟩;have r0:E.cell? ⟨w+1+1,0,none⟩=some (.int .i64 0):=am f;have S:E.frozen? ⟨w+1+1,0,none⟩=false:=ak f;have r1:E.cell? ⟨w+1+1,1,none⟩=some (.int .i64 0):=am f;have T:E.frozen? ⟨w+1+1,1,none⟩=false:=ak f;have r2:E.cell? ⟨w+1+1,2,none⟩=some (.int .i64 0):=am f;have U:E.frozen? ⟨w+1+1,2,none⟩=false:=ak f;have u0:E.cell? ⟨w+1,0,none⟩=some (.int .i64 u.lv):=am f;have o:w.heap.size+1+1<E.heap.size:=aj f;have W:w.heap.size+1<E.heap.size:=om;have HW:=hide (show Below w w E by (repeat' exact bel));have I:=hide G;clear f G;go_wp2_with fail
 all_goals first
  | (exfalso;omega)
  | skip
 refine (nM c u.yr lv _ cap g1 g2 h1 h5 HA.out (I.out.alloc _).2 (aT c u)).mono ?_;rintro e F ⟨rfl,h⟩;have s0:F.cell? ⟨w+1+1,0,none⟩=some (.int .i64 0):=by rw [h.cell (p:=⟨w+1+1,0,none⟩) ae,World.cell?_alloc_past _ _ _ o];exact r0
 have k0:F.frozen? ⟨w+1+1,0,none⟩=false:=by rw [h.frozen (p:=⟨w+1+1,0,none⟩) ae,World.frozen?_alloc_past _ _ _ o];exact S
 have s1:F.cell? ⟨w+1+1,1,none⟩=some (.int .i64 0):=by rw [h.cell (p:=⟨w+1+1,1,none⟩) ae,World.cell?_alloc_past _ _ _ o];exact r1
 have k1:F.frozen? ⟨w+1+1,1,none⟩=false:=by rw [h.frozen (p:=⟨w+1+1,1,none⟩) ae,World.frozen?_alloc_past _ _ _ o];exact T
 have s2:F.cell? ⟨w+1+1,2,none⟩=some (.int .i64 0):=by rw [h.cell (p:=⟨w+1+1,2,none⟩) ae,World.cell?_alloc_past _ _ _ o];exact r2
 have k2:F.frozen? ⟨w+1+1,2,none⟩=false:=by rw [h.frozen (p:=⟨w+1+1,2,none⟩) ae,World.frozen?_alloc_past _ _ _ o];exact U
 have H:w.heap.size+1+1<F.heap.size:=Nat.lt_of_lt_of_le o (Nat.le_trans ac h.size);have J:=hide (Below.trans (HW.out.alloc om _) (h.mono ae):Below w w F);clear h r0 r1 r2 S T U;go_wp2;exact bodyPost_ret (v:=.tuple #[.agg #[lv,u.yr,.int .i64 ((gJ c u.yr lv (aT c u):Int)+1)],.int .i64 0]) (by simp (maxDischargeDepth:=9) [results,Tryz.results226,go_sem,s0,s1,s2,k0,k1,k2,H]) rfl ⟨rfl,by have ah:=J.out;(repeat' exact bel)⟩
theorem FZ (c:ar) (u:Un) (lv:Int) (w:World) (F:c.name.size≤1000) :
  Calls Tryz.prog 226 #[av c,aC u,lv] w fun e H=>e=.returned (.tuple #[aC (nK c u lv),tT c u lv])∧Below w w H:=by
 by_cases h:aE c u=0
 ·by_cases E:1≤lv∧lv≤u.lv
  ·have f:tT c u lv=0:=by unfold tT;rw [if_pos h,if_pos E]
   refine (Jq c u lv w F h E.1 E.2).mono ?_;rintro e G ⟨rfl,o⟩;exact ⟨by rw [nK,if_pos f,f],o⟩
  ·have f:tT c u lv=1:=by unfold tT;rw [if_pos h,if_neg E]
   refine (IR c u lv w F h om).mono ?_;rintro e G ⟨rfl,o⟩;exact ⟨by rw [nK,if_neg om,f],o⟩
 ·have f:tT c u lv=aE c u:=by unfold tT;rw [if_neg h]
  refine (Jg c u lv w F h).mono ?_;rintro e G ⟨rfl,o⟩;exact ⟨by rw [nK,if_neg om,f],o⟩
def cx (w:World) (B:Nat):Prop:=∃ a b c,ap w B #[a,b,c] 26
theorem cx.lt {w:World} {B:Nat} (h:cx w B):B<w.heap.size:=by obtain ⟨a,b,c,h⟩:=h;exact h.lt
theorem cx.below {w f:World} {K B:Nat} (h:cx w B) (E:Below K w f) (o:B<K):cx f B:=by
 obtain ⟨a,b,c,h⟩:=h;exact ⟨a,b,c,h.below E o⟩
theorem cx.alloc {w:World} {B:Nat} (h:cx w B) (o:Obj):cx (w.alloc o) B:=by
 obtain ⟨a,b,c,h⟩:=h;exact ⟨a,b,c,h.alloc o⟩
theorem cx.new (w:World) (a b c:Value):cx (w.alloc (.cells #[a,b,c] 26)) w.heap.size:=⟨a,b,c,ap.new w _ _⟩
@[go_sem] theorem JA (w:World) (o:Obj) (B:Nat) (h:B<w.heap.size):cx (w.alloc o) B=cx w B:=by
 unfold cx ap;rw [Below.heap_alloc w o B h]
@[go_sem] theorem JJ (w:World) (B:Nat):cx w.drew B=cx w B:=rfl
@[go_sem] theorem Jf (w:World) (n B:Nat):cx (w.drewN n) B=cx w B:=by
 unfold cx ap;rw [show (w.drewN n).heap=w.heap from rfl]
theorem ap.row {w:World} {B:Nat} (h:cx w B) (f:Array Value):ap (w.setRow B f) B f 26:=by
 obtain ⟨a,b,c,h⟩:=h;exact setRow_heap w B _ f _ _ h
theorem ap.rowOther {w:World} {B g:Nat} {o:Array Value} {t:TypeId} (h:ap w B o t) (f:B≠g) (E:Array Value):ap (w.setRow g E) B o t:=
 (setRow_other w g B E f).trans h
theorem cx.rowOther {w:World} {B g:Nat} (h:cx w B) (f:B≠g) (o:Array Value):cx (w.setRow g o) B:=by
 obtain ⟨a,b,c,h⟩:=h;exact ⟨a,b,c,h.rowOther f o⟩
@[go_sem] theorem Je (w:World) (B g:Nat) (h:Array Value) (f:B≠g):cx (w.setRow g h) B=cx w B:=by
 unfold cx ap;rw [setRow_other w g B h f]
@[go_sem] theorem EK (w:World) (g:Nat) (f:Array Value) (a:Addr) (h:a.block≠g):(w.setRow g f).cell? a=w.cell? a:=cell_setRow_other w g f a h
theorem ap.set123 {w:World} {B:Nat} {a b c:Value} {t:TypeId} (h:ap w B #[a,b,c] t) (x y z:Value):ap (((w.setCell ⟨B,0,none⟩ x).setCell ⟨B,1,none⟩ y).setCell ⟨B,2,none⟩ z) B #[x,y,z] t:=by
 unfold ap at h ⊢;simp [World.setCell,Array.getElem?_modify,h]
theorem o8 {f:Array Value} {W:World} {E F:Nat} {G H I J O R e:Int} (h6:f[6]?=some (.pointer (some ⟨E,0,none⟩))) (h7:f[7]?=some (.pointer (some ⟨F,0,none⟩))) (h8:f[8]?=some (.int .i64 e))
  (h:ap W E #[G,H,I] 26) (o:ap W F #[J,O,R] 26) :
  (results Tryz.f82 f).run Tryz.prog W=.ok (.tuple #[.agg #[G,H,I],.agg #[J,O,R],e]) W:=by
 have S:=h.cell 0;have T:=h.cell 1;have U:=h.cell 2;have V:=o.cell 0;have d1:=o.cell 1;have d2:=o.cell 2;simp at S T U V d1 d2;simp [results,Tryz.results82,go_sem,h6,h7,h8,S,T,U,V,d1,d2]
theorem DN (c:ar) (u:Un) (lv:Int) (w:World) (hn:c.name.size≤1000) (H:¬ aE c u=0) :
  Calls Tryz.prog 82 #[av c,aC u,lv] w fun e w'=>e=.returned (.tuple #[.agg #[.int .i64 0,.int .i64 0,.int .i64 0],.agg #[.int .i64 0,.int .i64 0,.int .i64 0],aE c u])∧Below w w w':=by
 have ab:(aE c u != 0)=true:=by simpa using H
 have HE:=hide H;clear H;simp only [av,aC];go_enter Tryz.func82,Tryz.ntmps82;go_wp2_with fail;refine (lE c u _ hn HE.out).mono ?_;rintro e h ⟨rfl,f⟩;have E:w.heap.size+1+1+1<h.heap.size:=aj f;have T:w.heap.size+1<h.heap.size:=om;have HW:=hide (show Below w w h by (repeat' exact bel));have W:cx h (w+1+1):=cx.below (cx.alloc (by simpa using cx.new ((w.alloc (bG c)).alloc (.cells #[u.lv,u.yr,u.ix] 26)) (.int .i64 0) (.int .i64 0) (.int .i64 0)) _) f ac;have G7:cx h (w+1+1+1):=cx.below (by simpa using cx.new (((w.alloc (bG c)).alloc (.cells #[u.lv,u.yr,u.ix] 26)).alloc (.cells #[.int .i64 0,.int .i64 0,.int .i64 0] 26)) (.int .i64 0) (.int .i64 0) (.int .i64 0)) f ac;have F:ap h (w+1+1) #[.int .i64 0,.int .i64 0,.int .i64 0] 26:=ap.below (ap.alloc (by simpa using ap.new ((w.alloc (bG c)).alloc (.cells #[u.lv,u.yr,u.ix] 26)) #[.int .i64 0,.int .i64 0,.int .i64 0] 26) _) f ac;have G:ap h (w+1+1+1) #[.int .i64 0,.int .i64 0,.int .i64 0] 26:=ap.below (by simpa using ap.new (((w.alloc (bG c)).alloc (.cells #[u.lv,u.yr,u.ix] 26)).alloc (.cells #[.int .i64 0,.int .i64 0,.int .i64 0] 26)) #[.int .i64 0,.int .i64 0,.int .i64 0] 26) f ac;have I:w.heap.size≤w.heap.size+1+1:=om;have J:w.heap.size≤w.heap.size+1+1+1:=om;have O:w.heap.size+1+1≠w.heap.size+1+1+1:=om;have o:w.heap.size+1+1+1≠w.heap.size+1+1:=om;have S:w.heap.size+1+1+1<h.heap.size:=om;have R:w.heap.size+1+1<h.heap.size:=om;clear E;clear f;generalize w.heap.size+1+1+1=V at *;generalize w.heap.size+1+1=U at *
 go_wp2_with (first
  | (refine wpList_store_row rfl _ _ _ rfl U #[.int .i64 0,.int .i64 0,.int .i64 0] rfl rfl _ _ (F.alloc _) (by kernel_rfl) rfl (by simp [Value.oneCell']) ?_)
  | (refine wpList_store_row rfl _ _ _ rfl V #[.int .i64 0,.int .i64 0,.int .i64 0] rfl rfl _ _ ((G.alloc _).rowOther o _) (by kernel_rfl) rfl (by simp [Value.oneCell']) ?_))
 exact bodyPost_ret (v:=.tuple #[.agg #[.int .i64 0,.int .i64 0,.int .i64 0],.agg #[.int .i64 0,.int .i64 0,.int .i64 0],aE c u]) (by exact o8 rfl rfl rfl ((ap.row (W.alloc _) _).rowOther O _) (ap.row ((G7.alloc _).rowOther o _) _)) rfl ⟨rfl,below_setRow (below_setRow (HW.out.alloc om _) I _) J _⟩
theorem D7 (c:ar) (u:Un) (lv:Int) (w:World) (hn:c.name.size≤1000) (hE:aE c u=0) (hl:lv<u.lv∨5<lv) :
  Calls Tryz.prog 82 #[av c,aC u,lv] w fun e w'=>e=.returned (.tuple #[.agg #[.int .i64 0,.int .i64 0,.int .i64 0],.agg #[.int .i64 0,.int .i64 0,.int .i64 0],.int .i64 1])∧Below w w w':=by
 have HE:=hide hE;clear hE;simp only [av,aC];go_enter Tryz.func82,Tryz.ntmps82;go_wp2_with fail;refine (iu c u _ hn HE.out).mono ?_;rintro e h ⟨V,cap,W,O,R,rfl,al,aq,J,f⟩;have u0:h.cell? ⟨w+1,0,none⟩=some (.int .i64 u.lv):=am f;have E:w.heap.size+1+1+1<h.heap.size:=aj f;have ah:w.heap.size+1<h.heap.size:=om;have HW:=hide (show Below w w h by (repeat' exact bel));have G6:cx h (w+1+1):=cx.below (cx.alloc (by simpa using cx.new ((w.alloc (bG c)).alloc (.cells #[u.lv,u.yr,u.ix] 26)) (.int .i64 0) (.int .i64 0) (.int .i64 0)) _) f ac;have G7:cx h (w+1+1+1):=cx.below (by simpa using cx.new (((w.alloc (bG c)).alloc (.cells #[u.lv,u.yr,u.ix] 26)).alloc (.cells #[.int .i64 0,.int .i64 0,.int .i64 0] 26)) (.int .i64 0) (.int .i64 0) (.int .i64 0)) f ac;have G:ap h (w+1+1) #[.int .i64 0,.int .i64 0,.int .i64 0] 26:=ap.below (ap.alloc (by simpa using ap.new ((w.alloc (bG c)).alloc (.cells #[u.lv,u.yr,u.ix] 26)) #[.int .i64 0,.int .i64 0,.int .i64 0] 26) _) f ac;have I:ap h (w+1+1+1) #[.int .i64 0,.int .i64 0,.int .i64 0] 26:=ap.below (by simpa using ap.new (((w.alloc (bG c)).alloc (.cells #[u.lv,u.yr,u.ix] 26)).alloc (.cells #[.int .i64 0,.int .i64 0,.int .i64 0] 26)) #[.int .i64 0,.int .i64 0,.int .i64 0] 26) f ac;have S:w.heap.size≤w.heap.size+1+1:=om;have T:w.heap.size≤w.heap.size+1+1+1:=om;have U:w.heap.size+1+1≠w.heap.size+1+1+1:=om;have o:w.heap.size+1+1+1≠w.heap.size+1+1:=om;have ad:w.heap.size+1+1+1<h.heap.size:=om;have ab:w.heap.size+1+1<h.heap.size:=om;clear E;clear f J O R;generalize w.heap.size+1+1+1=B7 at *;generalize w.heap.size+1+1=B6 at *;have F:=G6.alloc (.cells #[u.yr,.slice (some ⟨V,0,none⟩) (bW c u.yr) cap,.slice (some ⟨W,0,none⟩) (aU c u.yr) (aU c u.yr)] 96);have H:=G7.alloc (.cells #[u.yr,.slice (some ⟨V,0,none⟩) (bW c u.yr) cap,.slice (some ⟨W,0,none⟩) (aU c u.yr) (aU c u.yr)] 96)
 go_wp2_with (first
  | (refine wpList_store_row rfl _ _ _ rfl B6 #[.int .i64 0,.int .i64 0,.int .i64 0] rfl rfl _ _ (G.alloc _) (by kernel_rfl) rfl (by simp [Value.oneCell']) ?_)
  | (refine wpList_store_row rfl _ _ _ rfl B7 #[.int .i64 0,.int .i64 0,.int .i64 0] rfl rfl _ _ ((I.alloc _).rowOther o _) (by kernel_rfl) rfl (by simp [Value.oneCell']) ?_))
 all_goals first
  | (exfalso;omega)
  | exact bodyPost_ret (v:=.tuple #[.agg #[.int .i64 0,.int .i64 0,.int .i64 0],.agg #[.int .i64 0,.int .i64 0,.int .i64 0],.int .i64 1]) (by exact o8 rfl rfl rfl ((ap.row F _).rowOther U _) (ap.row (H.rowOther o _) _)) rfl ⟨rfl,below_setRow (below_setRow (HW.out.alloc om _) S _) T _⟩
def pW (c:ar) (u:Un) (F E cap f h o:Nat) (w:World):Prop:=ap w F #[u.yr,.slice (some ⟨E,0,none⟩) (bW c u.yr) cap,.slice (some ⟨f,0,none⟩) (aU c u.yr) (aU c u.yr)] 96∧bf w f (fY c u.yr)∧ap w h #[.int .i64 0,.int .i64 0,.int .i64 0] 26∧ap w o #[.int .i64 0,.int .i64 0,.int .i64 0] 26
theorem pW.call {c:ar} {u:Un} {F G cap H o E:Nat} {w I:World} (h:pW c u F G cap H o E w) (f:Below w w I):pW c u F G cap H o E I:=
 ⟨h.1.call f,h.2.1.call f,h.2.2.1.call f,h.2.2.2.call f⟩
theorem pW.drew {c:ar} {u:Un} {F E cap G f o:Nat} {w:World} (h:pW c u F E cap G f o w):pW c u F E cap G f o w.drew:=h
theorem pW.load {c:ar} {u:Un} {F o cap E G H:Nat} {f:World} (h:pW c u F o cap E G H f):f.cell? ⟨F,0,none⟩=some (.int .i64 u.yr)∧f.cell? ⟨F,1,none⟩=some (.slice (some ⟨o,0,none⟩) (bW c u.yr) cap)∧f.cell? ⟨F,2,none⟩=some (.slice (some ⟨E,0,none⟩) (aU c u.yr) (aU c u.yr)):=
 ⟨h.1.cell 0,h.1.cell 1,h.1.cell 2⟩
theorem pW.res {c:ar} {u:Un} {F G cap H o E:Nat} {f:World} (h:pW c u F G cap H o E f) :
  (f.cell? ⟨o,0,none⟩=some (.int .i64 0)∧f.cell? ⟨o,1,none⟩=some (.int .i64 0)∧f.cell? ⟨o,2,none⟩=some (.int .i64 0))∧(f.cell? ⟨E,0,none⟩=some (.int .i64 0)∧f.cell? ⟨E,1,none⟩=some (.int .i64 0)∧f.cell? ⟨E,2,none⟩=some (.int .i64 0)) ∧
  (f.frozen? ⟨o,0,none⟩=false∧f.frozen? ⟨o,1,none⟩=false∧f.frozen? ⟨o,2,none⟩=false)∧(f.frozen? ⟨E,0,none⟩=false∧f.frozen? ⟨E,1,none⟩=false∧f.frozen? ⟨E,2,none⟩=false):=
 ⟨⟨h.2.2.1.cell 0,h.2.2.1.cell 1,h.2.2.1.cell 2⟩,⟨h.2.2.2.cell 0,h.2.2.2.cell 1,h.2.2.2.cell 2⟩,⟨h.2.2.1.frozen 0,h.2.2.1.frozen 1,h.2.2.1.frozen 2⟩,⟨h.2.2.2.frozen 0,h.2.2.2.frozen 1,h.2.2.2.frozen 2⟩⟩
theorem DD (c:ar) (u:Un) (lv:Int) (w:World) (hn:c.name.size≤1000) (hE:aE c u=0) (h1:u.lv≤lv) (h5:lv≤5) :
  Calls Tryz.prog 82 #[av c,aC u,lv] w fun e w'=>e=.returned (.tuple #[.agg #[lv,u.yr,.int .i64 ((gJ c u.yr lv (aT c u):Int)+1)],.agg #[lv,u.yr,.int .i64 ((gJ c u.yr lv (bF c u-1):Int)+1)],.int .i64 0])∧Below w w w':=by
 have hf:=a9 (ie hE).1;have hA:aO c u.yr 1601=0:=hf.2.2.2.2.2.2;have a2:1≤lv:=by have:=hf.2.2.1;omega
 have hcut:=dz hE;obtain ⟨b,hb⟩:∃ b,b=bF c u-1:=⟨_,rfl⟩;have aA:=hide (show (bF c u:Int)=(b:Int)+1 by omega);rw [← hb];have HA:=hide hA;have HE:=hide hE;clear hE hA hf hcut hb;simp only [av,aC];go_enter Tryz.func82,Tryz.ntmps82;go_wp2_with fail;refine (iu c u _ hn HE.out).mono ?_;rintro e o ⟨g1,cap,g2,a0,a1,rfl,a5,a6,ad,h⟩;rw [aA.out];have u0:o.cell? ⟨w+1,0,none⟩=some (.int .i64 u.lv):=am h;have ay:w.heap.size+1+1+1<o.heap.size:=aj h;have aq:w.heap.size+1<o.heap.size:=om;have HW:=hide (show Below w w o by (repeat' exact bel));have G6:cx o (w+1+1):=cx.below (cx.alloc (by simpa using cx.new ((w.alloc (bG c)).alloc (.cells #[u.lv,u.yr,u.ix] 26)) (.int .i64 0) (.int .i64 0) (.int .i64 0)) _) h ac;have G7:cx o (w+1+1+1):=cx.below (by simpa using cx.new (((w.alloc (bG c)).alloc (.cells #[u.lv,u.yr,u.ix] 26)).alloc (.cells #[.int .i64 0,.int .i64 0,.int .i64 0] 26)) (.int .i64 0) (.int .i64 0) (.int .i64 0)) h ac;have S:ap o (w+1+1) #[.int .i64 0,.int .i64 0,.int .i64 0] 26:=ap.below (ap.alloc (by simpa using ap.new ((w.alloc (bG c)).alloc (.cells #[u.lv,u.yr,u.ix] 26)) #[.int .i64 0,.int .i64 0,.int .i64 0] 26) _) h ac;have T:ap o (w+1+1+1) #[.int .i64 0,.int .i64 0,.int .i64 0] 26:=ap.below (by simpa using ap.new (((w.alloc (bG c)).alloc (.cells #[u.lv,u.yr,u.ix] 26)).alloc (.cells #[.int .i64 0,.int .i64 0,.int .i64 0] 26)) #[.int .i64 0,.int .i64 0,.int .i64 0] 26) h ac;have E:w.heap.size≤w.heap.size+1+1:=om;have G:w.heap.size≤w.heap.size+1+1+1:=om;have H:w.heap.size+1+1≠w.heap.size+1+1+1:=om;have f:w.heap.size+1+1+1≠w.heap.size+1+1:=om;have al:w.heap.size+1+1+1<o.heap.size:=om;have ah:w.heap.size+1+1<o.heap.size:=om;clear ay;have U:=hide ad;clear h ad a0 a1;generalize w.heap.size+1+1+1=B7 at *;generalize w.heap.size+1+1=B6 at *;obtain ⟨F,hF⟩:∃ F,F=o.heap.size:=⟨_,rfl⟩;have HD:=hide (show pW c u F g1 cap g2 B6 B7 (o.alloc (.cells #[u.yr,.slice (some ⟨g1,0,none⟩) (bW c u.yr) cap,.slice (some ⟨g2,0,none⟩) (aU c u.yr) (aU c u.yr)] 96)) from ⟨by rw [hF];exact ap.new o _ _,U.out.2.alloc _,S.alloc _,T.alloc _⟩);have V:=hide (show Below w w (o.alloc (.cells #[u.yr,.slice (some ⟨g1,0,none⟩) (bW c u.yr) cap,.slice (some ⟨g2,0,none⟩) (aU c u.yr) (aU c u.yr)] 96)) from HW.out.alloc om _);go_wp2_with fail
 all_goals first
  | (exfalso;omega)
  | skip
 rw [← hF];generalize o.alloc (.cells #[u.yr,.slice (some ⟨g1,0,none⟩) (bW c u.yr) cap,.slice (some ⟨g2,0,none⟩) (aU c u.yr) (aU c u.yr)] 96)=W at *;obtain ⟨k0,k1,k2⟩:=HD.out.load;have a4:w.heap.size≤W.heap.size:=V.out.size;have HG:=hide (And.intro H f);have aB:=hide (And.intro E G);clear G6 G7 U u0 ah al hF aq HW S T E G H f
 go_region_with (go_at_call 54;refine (nM c u.yr lv _ cap g1 g2 a2 h5 HA.out ?_ _).mono ?_;first
  | (exact I.out.2.1;rintro e w3 ⟨rfl,R⟩;have J:=hide (I.out.call (by exact R));have aF:=hide (ab.out.trans (R.mono (by exact a3)):Below w w w3);obtain ⟨⟨p0,p1,p2⟩,⟨p3,p4,p5⟩,⟨p6,p7,p8⟩,⟨p9,a7,a8⟩⟩:=J.out.res;obtain ⟨H,f⟩:=HG.out;clear R)
  | (exact HD.out.2.1;rintro e w2 ⟨rfl,O⟩;have I:=hide (HD.out.drew.call (by exact O));have ab:=hide (V.out.drew.trans (O.mono (by exact a4)):Below w w w2);obtain ⟨m0,m1,m2⟩:=I.out.load;have a3:w.heap.size≤w2.heap.size:=ab.out.size;clear O))
 all_goals
  obtain ⟨E,G⟩:=aB.out;go_simp;go_wp2;exact bodyPost_ret (v:=.tuple #[.agg #[lv,u.yr,.int .i64 ((gJ c u.yr lv (aT c u):Int)+1)],.agg #[lv,u.yr,.int .i64 ((gJ c u.yr lv b:Int)+1)],.int .i64 0]) (by exact o8 rfl rfl rfl ((((J.out.2.2.1.set123 _ _ _).far H _).far H _).far H _) ((((J.out.2.2.2.far f _).far f _).far f _).set123 _ _ _)) rfl ⟨rfl,(((((aF.out.setCell E _).setCell E _).setCell E _).setCell G _).setCell G _).setCell G _⟩
theorem gO (c:ar) (u:Un) (lv:Int) (w:World) (F:c.name.size≤1000) :
  Calls Tryz.prog 82 #[av c,aC u,lv] w fun e H=>e=.returned (.tuple #[aC (CW c u lv),aC (CQ c u lv),qP c u lv])∧Below w w H:=by
 by_cases h:aE c u=0
 ·by_cases E:u.lv≤lv∧lv≤5
  ·have f:qP c u lv=0:=by unfold qP;rw [if_pos h,if_pos E]
   refine (DD c u lv w F h E.1 E.2).mono ?_;rintro e G ⟨rfl,o⟩;exact ⟨by rw [CW,CQ,if_pos f,if_pos f,f],o⟩
  ·have f:qP c u lv=1:=by unfold qP;rw [if_pos h,if_neg E]
   refine (D7 c u lv w F h om).mono ?_;rintro e G ⟨rfl,o⟩;exact ⟨by rw [CW,CQ,if_neg om,if_neg om,f],o⟩
 ·have f:qP c u lv=aE c u:=by unfold qP;rw [if_neg h]
  refine (DN c u lv w F h).mono ?_;rintro e G ⟨rfl,o⟩;exact ⟨by rw [CW,CQ,if_neg om,if_neg om,f],o⟩
theorem bN {c:ar} {u:Un} (h:aE c u=0):aI c u.lv u.yr=0∧1≤u.lv∧u.lv≤5∧aO c u.yr 1601=0∧u.ix=(uI u:Int)+1∧uI u<aR c u.yr u.lv:=by
 obtain ⟨f,I,hi⟩:=ie h;obtain ⟨H,o,E,F,J,O,G⟩:=a9 f;exact ⟨f,E,F,G,I,hi⟩
theorem pT {c:ar} {lv y:Int} (h:aI c lv y=0) (f:Int) (H:1≤f) (I:f≤5):aI c f y=0:=by
 obtain ⟨o,G,_,_,E,F,J⟩:=a9 h;exact jI o H I E F
theorem kM {c:ar} {u:Un} (h:aE c u=0):cd c u=⟨bD c u.yr (aT c u),bD c u.yr (bF c u)-1⟩:=by
 simp [cd,h,gT,gb]
theorem qB {c:ar} {lv y:Int} (f:aI c lv y=0) (i:Nat) (hi:i<aR c y lv) :
  aE c ⟨lv,y,(i:Int)+1⟩=0∧aT c ⟨lv,y,(i:Int)+1⟩=aW c y lv i∧bF c ⟨lv,y,(i:Int)+1⟩=aW c y lv (i+1):=by
 have e:uI ⟨lv,y,(i:Int)+1⟩=i:=by simp [uI]
 exact ⟨oO f ae ae,by simp [aT,e],by simp [bF,e]⟩
theorem wM {c:ar} {lv y:Int} (E:aI c lv y=0) (i:Nat) (hi:i<aR c y lv) :
  cd c ⟨lv,y,(i:Int)+1⟩=⟨bD c y (aW c y lv i),bD c y (aW c y lv (i+1))-1⟩:=by
 obtain ⟨h,f,o⟩:=qB E i hi;rw [kM h,f,o]
theorem DK {c:ar} {u:Un} {lv:Int} (h:aE c u=0) (E:1≤lv) (F:lv≤u.lv) :
  ∃ k:Nat,tT c u lv=0∧nK c u lv=⟨lv,u.yr,(k:Int)+1⟩∧k<aR c u.yr lv∧aW c u.yr lv k≤aT c u∧bF c u≤aW c u.yr lv (k+1):=by
 obtain ⟨R,O,f,J,S,hi⟩:=bN h;obtain ⟨G,H,I⟩:=IG c u.yr J lv u.lv E F f (uI u) hi;have o:tT c u lv=0:=by unfold tT;rw [if_pos h,if_pos ⟨E,F⟩]
 exact ⟨_,o,by rw [nK,if_pos o];rfl,G,H,I⟩
theorem qD (c:ar) (y:Int):aR c y 5=bW c y:=by simp [aR]
theorem Ks (c:ar) (y:Int):aR c y 4=aU c y:=by simp [aR]
theorem Ak {c:ar} {lv y:Int} (h:aI c lv y=0):ff c lv y=(aR c y lv:Int):=by simp [ff,h]
theorem E9 {c:ar} {lv y:Int} (h:¬ aI c lv y=0):ff c lv y=0:=by simp [ff,h]
def tM (a b c x y z:Int):Bool:=a==x&&(b==y&&c==z)
theorem no (d:Nat) (a b c x y z:Int) (w:World):(Op.equalIn (d+2) 26 (.agg #[a,b,c]) (.agg #[x,y,z])).run Tryz.prog w=.ok (tM a b c x y z) w:=by
 have F:=Tryz.underlying3;have E:=Tryz.isAgg3;have G:=Tryz.sizeOf3;rw [run_equalIn_struct w _ _ _ _ (by simp [Program.fieldsOf,Tryz.underlying26]) (by kernel_rfl)];simp only [Program.fieldsOf,Tryz.underlying26];go_simp;by_cases f:a=x <;> by_cases h:b=y <;> by_cases o:c=z <;> simp [tM,f,h,o]
@[go_sem high] theorem Kz (a b c x y z:Int) (w:World):(binOp .eql 26 (.agg #[a,b,c]) (.agg #[x,y,z])).run Tryz.prog w=.ok (.bool (tM a b c x y z)) w:=by
 rw [run_eql_struct,no 9998];rfl
@[go_sem high] theorem J1 (a b c x y z:Int) (w:World):(binOp .neq 26 (.agg #[a,b,c]) (.agg #[x,y,z])).run Tryz.prog w=.ok (.bool (!tM a b c x y z)) w:=by
 rw [run_neq_struct,no 9998];rfl
def JK (a b x y:Int):Bool:=a==x&&b==y
theorem yy (d:Nat) (a b x y:Int) (w:World):(Op.equalIn (d+2) 45 (.agg #[a,b]) (.agg #[x,y])).run Tryz.prog w=.ok (JK a b x y) w:=by
 have E:=Tryz.underlying3;have o:=Tryz.isAgg3;have F:=Tryz.sizeOf3;rw [run_equalIn_struct w _ _ _ _ (by simp [Program.fieldsOf,Tryz.underlying45]) (by kernel_rfl)];simp only [Program.fieldsOf,Tryz.underlying45];go_simp;by_cases f:a=x <;> by_cases h:b=y <;> simp [JK,f,h]
@[go_sem high] theorem J8 (a b x y:Int) (w:World):(binOp .eql 45 (.agg #[a,b]) (.agg #[x,y])).run Tryz.prog w=.ok (.bool (JK a b x y)) w:=by
 rw [run_eql_struct,yy 9998];rfl
@[go_sem high] theorem J4 (a b x y:Int) (w:World):(binOp .neq 45 (.agg #[a,b]) (.agg #[x,y])).run Tryz.prog w=.ok (.bool (!JK a b x y)) w:=by
 rw [run_neq_struct,yy 9998];rfl
abbrev iB (w:World) (B:Nat) (u:Un):Prop:=
 w.cell? ⟨B,0,none⟩=some (.int .i64 u.lv)∧w.cell? ⟨B,1,none⟩=some (.int .i64 u.yr)∧w.cell? ⟨B,2,none⟩=some (.int .i64 u.ix)
abbrev fc (u:Un):Obj:=.cells #[u.lv,u.yr,u.ix] 26
theorem cA (w:World) (c:ar) (u:Un):iB ((w.alloc (bG c)).alloc (fc u)) (w.heap.size+1) u:=by
 refine ⟨?_,?_,?_⟩ <;> simp [World.cell?_alloc_at]
theorem qA (w:World) (u:Un):iB (w.alloc (fc u)) w.heap.size u:=by
 refine ⟨?_,?_,?_⟩ <;> simp [World.cell?_alloc_at]
theorem nH {W f:World} {B:Nat} {u:Un} (h:∀ o,f.cell? ⟨B,o,none⟩=W.cell? ⟨B,o,none⟩) (Q:iB W B u):iB f B u:=by
 obtain ⟨E,F,G⟩:=Q;exact ⟨(h 0).trans E,(h 1).trans F,(h 2).trans G⟩
theorem aS {W f:World} {B K:Nat} {u:Un} (E:Below K W f) (h:B<K) (Q:iB W B u):iB f B u:=
 nH (fun o=>E.cell (p:=⟨B,o,none⟩) h) Q
theorem bU {W:World} {B:Nat} {u:Un} (Q:iB W B u) (f:B<W.heap.size) (o:Obj):iB (W.alloc o) B u:=
 nH (fun i=>World.cell?_alloc_lt W o ⟨B,i,none⟩ f) Q
abbrev lQ (w:World) (B:Nat) (s:Sp):Prop:=w.cell? ⟨B,0,none⟩=some (.int .i64 s.a)∧w.cell? ⟨B,1,none⟩=some (.int .i64 s.b)
abbrev jB (s:Sp):Obj:=.cells #[s.a,s.b] 45
theorem fC (w:World) (s:Sp):lQ (w.alloc (jB s)) w.heap.size s:=by
 refine ⟨?_,?_⟩ <;> simp [World.cell?_alloc_at]
theorem bu {W f:World} {B K:Nat} {s:Sp} (o:Below K W f) (h:B<K) (Q:lQ W B s):lQ f B s:=
 ⟨(o.cell (p:=⟨B,0,none⟩) h).trans Q.1,(o.cell (p:=⟨B,1,none⟩) h).trans Q.2⟩
theorem kg {W:World} {B:Nat} {s:Sp} (Q:lQ W B s) (f:B<W.heap.size) (o:Obj):lQ (W.alloc o) B s:=
 ⟨(World.cell?_alloc_lt W o ⟨B,0,none⟩ f).trans Q.1,(World.cell?_alloc_lt W o ⟨B,1,none⟩ f).trans Q.2⟩
end
end Go.Proofs.YtjhhmeoibfdcmaaGreat
