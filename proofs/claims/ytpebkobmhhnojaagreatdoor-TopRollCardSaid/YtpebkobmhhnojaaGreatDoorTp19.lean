/- Lemmas. -/
import Derived.Laws.CopyOwn
import Derived.Test.YtpebkobmhhnojaaGreatDoorTp09
import Derived.Test.YtpebkobmhhnojaaGreatDoorTp15
set_option linter.unusedSimpArgs false
set_option linter.unusedVariables false
set_option maxRecDepth 100000
set_option maxHeartbeats 12800000
namespace Go.Proofs.YtpebkobmhhnojaaGreatDoor
section
open Go.RowKit Qd
def aU (c:aC) (u:Un):Int:=if aR c u.lv u.yr=0 then (if 1≤u.ix∧u.ix≤(aM c u.yr u.lv:Int) then 0 else 13) else aR c u.lv u.yr
def uI (u:Un):Nat:=(u.ix-1).toNat
theorem it {c:aC} {u:Un} (h:aU c u=0):aR c u.lv u.yr=0∧u.ix=(uI u:Int)+1∧uI u<aM c u.yr u.lv:=by
 unfold aU at h
 split at h
 ·rename_i hf
  split at h
  ·rename_i hx
   unfold uI;exact ⟨hf,by omega,by omega⟩
  ·omega
 ·rename_i hf
  exact absurd h hf
theorem uF {c:aC} {u:Un} (h:aR c u.lv u.yr=0) (f:1≤u.ix) (o:u.ix≤(aM c u.yr u.lv:Int)):aU c u=0:=by
 unfold aU;rw [if_pos h,if_pos ⟨f,o⟩]
def dz (c:aC) (u:Un):Nat:=aX c u.yr u.lv (uI u)
def dT (c:aC) (u:Un):Nat:=aX c u.yr u.lv (uI u+1)
theorem iR {c:aC} {u:Un} (h:aU c u=0):dz c u<dT c u∧dT c u≤ce c u.yr:=by
 obtain ⟨G,O,hi⟩:=it h;obtain ⟨H,F,f,o,I,J,E⟩:=bv G;exact ⟨iw c u.yr E u.lv f o _ hi,cu c u.yr E u.lv f o _ om⟩
def xh (c:aC) (u:Un) (w:World) (e:Ending) (w':World):Prop:=
 ∃ f cap h,w.heap.size≤f∧w.heap.size≤h∧e=.returned (.tuple #[bV u.yr (ce c u.yr) cap f (aV c u.yr) h,.int .i64 ((dz c u:Int)+1),.int .i64 (dT c u:Int),.int .i64 0])∧ce c u.yr≤cap∧cap≤maxLen∧bO w' f h c u.yr∧Below w w w'
theorem vQ (c:aC) (u:Un) (w:World) (W:c.name.size≤1000) (o:¬ aR c u.lv u.yr=0) :
  Calls Tryz.prog 25 #[aI c,aZ u] w fun e w'=>e=.returned (.tuple #[.agg #[.int .i64 0,.slice none 0 0,.slice none 0 0],.int .i64 0,.int .i64 0,aU c u])∧Below w w w':=by
 have U:=hide (show aU c u=aR c u.lv u.yr by unfold aU;rw [if_neg o]);have O:(aR c u.lv u.yr != 0)=true:=by simpa using o
 have F:=hide o;clear o;simp only [aI,aZ];go_enter Tryz.func25,Tryz.ntmps25;go_wp2_with fail;refine (t6 c u.lv u.yr _ W F.out).mono ?_;rintro e h ⟨rfl,f⟩;have Y:h.cell? ⟨w+1+1,0,none⟩=some (.int .i64 0):=ap f;have H:h.frozen? ⟨w+1+1,0,none⟩=false:=an f;have r1:h.cell? ⟨w+1+1,1,none⟩=some (.slice none 0 0):=ap f;have I:h.frozen? ⟨w+1+1,1,none⟩=false:=an f;have r2:h.cell? ⟨w+1+1,2,none⟩=some (.slice none 0 0):=ap f;have J:h.frozen? ⟨w+1+1,2,none⟩=false:=an f;have E:w.heap.size+1+1<h.heap.size:=am f;have G:=hide (show Below w w h by (repeat' exact bel));clear f;go_wp2;exact bodyPost_ret (v:=.tuple #[.agg #[.int .i64 0,.slice none 0 0,.slice none 0 0],.int .i64 0,.int .i64 0,aR c u.lv u.yr]) (by simp (maxDischargeDepth:=9) [results,Tryz.results25,go_sem,Y,r1,r2,H,I,J,E]) rfl ⟨by rw [U.out],by have V:=G.out;(repeat' exact bel)⟩
theorem sv (c:aC) (u:Un) (w:World) (hn:c.name.size≤1000) (hE:aR c u.lv u.yr=0) (hx:u.ix<1∨(aM c u.yr u.lv:Int)<u.ix) :
  Calls Tryz.prog 25 #[aI c,aZ u] w fun e w'=>e=.returned (.tuple #[.agg #[.int .i64 0,.slice none 0 0,.slice none 0 0],.int .i64 0,.int .i64 0,aU c u])∧Below w w w':=by
 have hU:=hide (show aU c u=13 by unfold aU;rw [if_pos hE,if_neg om]);have HE:=hide hE;have HF:=hide (bv hE);have HX:=hide hx;clear hE hx;simp only [aI,aZ];go_enter Tryz.func25,Tryz.ntmps25;go_wp2_with fail;refine (iJ c u.lv u.yr _ hn HE.out).mono ?_;rintro e F ⟨g1,cap,g2,ad,ah,rfl,ao,aq,H,f⟩;simp at ad ah;have V:F.cell? ⟨w+1+1,0,none⟩=some (.int .i64 0):=ap f;have J:F.frozen? ⟨w+1+1,0,none⟩=false:=an f;have r1:F.cell? ⟨w+1+1,1,none⟩=some (.slice none 0 0):=ap f;have O:F.frozen? ⟨w+1+1,1,none⟩=false:=an f;have r2:F.cell? ⟨w+1+1,2,none⟩=some (.slice none 0 0):=ap f;have U:F.frozen? ⟨w+1+1,2,none⟩=false:=an f;have u0:F.cell? ⟨w+1,0,none⟩=some (.int .i64 u.lv):=ap f;have u1:F.cell? ⟨w+1,1,none⟩=some (.int .i64 u.yr):=ap f;have u2:F.cell? ⟨w+1,2,none⟩=some (.int .i64 u.ix):=ap f;have al:w.heap.size+1+1<F.heap.size:=am f;have HW:=hide (show Below w w F by (repeat' exact bel));have aA:=H.1.1;have aB:=H.2.lt;have aa:=hide H;clear f H;go_wp2_with fail;generalize h:(((F.setCell _ _).setCell _ _).setCell _ _)=G;have ab:=hide (show Below w w G by rw [← h];exact ((HW.out.setCell ag _).setCell ag _).setCell ag _);have W:=hide (show bO G g1 g2 c u.yr by rw [← h];exact ((aa.out.far ag ag _).far ag ag _).far ag ag _);have E:w.heap.size+1+1<G.heap.size:=by rw [← h];simpa using al
 have R0:G.cell? ⟨w+1+1,0,none⟩=some (.int .i64 u.yr):=by rw [← h];simp (maxDischargeDepth:=9) [World.cell?_setCell_same',World.cell?_setCell_other,V,r1,r2]
 have F0:G.frozen? ⟨w+1+1,0,none⟩=false:=by rw [← h];simp [J,O,U]
 have R1:G.cell? ⟨w+1+1,1,none⟩=some (.slice (some ⟨g1,0,none⟩) (ce c u.yr) cap):=by rw [← h];simp (maxDischargeDepth:=9) [World.cell?_setCell_same',World.cell?_setCell_other,V,r1,r2]
 have F1:G.frozen? ⟨w+1+1,1,none⟩=false:=by rw [← h];simp [J,O,U]
 have R2:G.cell? ⟨w+1+1,2,none⟩=some (.slice (some ⟨g2,0,none⟩) (aV c u.yr) (aV c u.yr)):=by rw [← h];simp (maxDischargeDepth:=9) [World.cell?_setCell_same',World.cell?_setCell_other,V,r1,r2]
 have F2:G.frozen? ⟨w+1+1,2,none⟩=false:=by rw [← h];simp [J,O,U]
 clear h V r1 r2 J O U u0 u1 u2;refine (xu c u.yr u _ cap g1 g2 HF.out.2.2.1 HF.out.2.2.2.1 HF.out.2.2.2.2.2.2 W.out.2 HX.out).mono ?_;rintro e I ⟨rfl,o⟩;have V:I.cell? ⟨w+1+1,0,none⟩=some (.int .i64 u.yr):=by rw [o.cell (p:=⟨w+1+1,0,none⟩) E];exact R0
 have J:I.frozen? ⟨w+1+1,0,none⟩=false:=by rw [o.frozen (p:=⟨w+1+1,0,none⟩) E];exact F0
 have r1:I.cell? ⟨w+1+1,1,none⟩=some (.slice (some ⟨g1,0,none⟩) (ce c u.yr) cap):=by rw [o.cell (p:=⟨w+1+1,1,none⟩) E];exact R1
 have O:I.frozen? ⟨w+1+1,1,none⟩=false:=by rw [o.frozen (p:=⟨w+1+1,1,none⟩) E];exact F1
 have r2:I.cell? ⟨w+1+1,2,none⟩=some (.slice (some ⟨g2,0,none⟩) (aV c u.yr) (aV c u.yr)):=by rw [o.cell (p:=⟨w+1+1,2,none⟩) E];exact R2
 have U:I.frozen? ⟨w+1+1,2,none⟩=false:=by rw [o.frozen (p:=⟨w+1+1,2,none⟩) E];exact F2
 have Y:w.heap.size+1+1<I.heap.size:=Nat.lt_of_lt_of_le E o.size;have ac:=hide (ab.out.trans (o.mono om));clear o R0 R1 R2 F0 F1 F2;go_wp2;exact bodyPost_ret (v:=.tuple #[.agg #[.int .i64 0,.slice none 0 0,.slice none 0 0],.int .i64 0,.int .i64 0,.int .i64 13]) (by simp (maxDischargeDepth:=9) [results,Tryz.results25,go_sem,V,r1,r2,J,O,U,Y]) rfl ⟨by rw [hU.out],((ac.out.setCell ag _).setCell ag _).setCell ag _⟩
theorem gJ (c:aC) (u:Un) (w:World) (hn:c.name.size≤1000) (ab:aU c u=0) :
  Calls Tryz.prog 25 #[aI c,aZ u] w (xh c u w):=by
 obtain ⟨hE,hx,hi⟩:=it ab;have HI:=hide hi;clear hi ab;have HE:=hide hE;have HF:=hide (bv hE);have HX:=hide hx;clear hE hx;simp only [aI,aZ];go_enter Tryz.func25,Tryz.ntmps25;go_wp2_with fail;refine (iJ c u.lv u.yr _ hn HE.out).mono ?_;rintro e F ⟨W,cap,Y,ao,aq,rfl,aA,aB,H,f⟩;simp at ao aq;have r0:F.cell? ⟨w+1+1,0,none⟩=some (.int .i64 0):=ap f;have O:F.frozen? ⟨w+1+1,0,none⟩=false:=an f;have r1:F.cell? ⟨w+1+1,1,none⟩=some (.slice none 0 0):=ap f;have U:F.frozen? ⟨w+1+1,1,none⟩=false:=an f;have r2:F.cell? ⟨w+1+1,2,none⟩=some (.slice none 0 0):=ap f;have V:F.frozen? ⟨w+1+1,2,none⟩=false:=an f;have u0:F.cell? ⟨w+1,0,none⟩=some (.int .i64 u.lv):=ap f;have u1:F.cell? ⟨w+1,1,none⟩=some (.int .i64 u.yr):=ap f;have u2:F.cell? ⟨w+1,2,none⟩=some (.int .i64 u.ix):=ap f;have a0:w.heap.size+1+1<F.heap.size:=am f;have HW:=hide (show Below w w F by (repeat' exact bel));have a1:=H.1.1;have a2:=H.2.lt;have ad:=hide H;clear f H;go_wp2_with fail;generalize h:(((F.setCell _ _).setCell _ _).setCell _ _)=G;have ah:=hide (show Below w w G by rw [← h];exact ((HW.out.setCell ag _).setCell ag _).setCell ag _);have I:=hide (show bO G W Y c u.yr by rw [← h];exact ((ad.out.far ag ag _).far ag ag _).far ag ag _);have E:w.heap.size+1+1<G.heap.size:=by rw [← h];simpa using a0
 have R0:G.cell? ⟨w+1+1,0,none⟩=some (.int .i64 u.yr):=by rw [← h];simp (maxDischargeDepth:=9) [World.cell?_setCell_same',World.cell?_setCell_other,r0,r1,r2]
 have F0:G.frozen? ⟨w+1+1,0,none⟩=false:=by rw [← h];simp [O,U,V]
 have R1:G.cell? ⟨w+1+1,1,none⟩=some (.slice (some ⟨W,0,none⟩) (ce c u.yr) cap):=by rw [← h];simp (maxDischargeDepth:=9) [World.cell?_setCell_same',World.cell?_setCell_other,r0,r1,r2]
 have F1:G.frozen? ⟨w+1+1,1,none⟩=false:=by rw [← h];simp [O,U,V]
 have R2:G.cell? ⟨w+1+1,2,none⟩=some (.slice (some ⟨Y,0,none⟩) (aV c u.yr) (aV c u.yr)):=by rw [← h];simp (maxDischargeDepth:=9) [World.cell?_setCell_same',World.cell?_setCell_other,r0,r1,r2]
 have F2:G.frozen? ⟨w+1+1,2,none⟩=false:=by rw [← h];simp [O,U,V]
 clear h r0 r1 r2 O U V u0 u1 u2;refine (nB c u.yr u _ cap W Y HF.out.2.2.1 HF.out.2.2.2.1 HF.out.2.2.2.2.2.2 I.out.2 (uI u) HX.out HI.out).mono ?_;rintro e J ⟨rfl,o⟩;have r0:J.cell? ⟨w+1+1,0,none⟩=some (.int .i64 u.yr):=by rw [o.cell (p:=⟨w+1+1,0,none⟩) E];exact R0
 have O:J.frozen? ⟨w+1+1,0,none⟩=false:=by rw [o.frozen (p:=⟨w+1+1,0,none⟩) E];exact F0
 have r1:J.cell? ⟨w+1+1,1,none⟩=some (.slice (some ⟨W,0,none⟩) (ce c u.yr) cap):=by rw [o.cell (p:=⟨w+1+1,1,none⟩) E];exact R1
 have U:J.frozen? ⟨w+1+1,1,none⟩=false:=by rw [o.frozen (p:=⟨w+1+1,1,none⟩) E];exact F1
 have r2:J.cell? ⟨w+1+1,2,none⟩=some (.slice (some ⟨Y,0,none⟩) (aV c u.yr) (aV c u.yr)):=by rw [o.cell (p:=⟨w+1+1,2,none⟩) E];exact R2
 have V:J.frozen? ⟨w+1+1,2,none⟩=false:=by rw [o.frozen (p:=⟨w+1+1,2,none⟩) E];exact F2
 have ac:w.heap.size+1+1<J.heap.size:=Nat.lt_of_lt_of_le E o.size;have aa:=hide (I.out.call o);have al:=hide (ah.out.trans (o.mono om));clear o R0 R1 R2 F0 F1 F2;go_wp2;refine bodyPost_ret (v:=.tuple #[bV u.yr (ce c u.yr) cap W (aV c u.yr) Y,.int .i64 ((dz c u:Int)+1),.int .i64 (dT c u:Int),.int .i64 0]) (by simp (maxDischargeDepth:=9) [results,Tryz.results25,go_sem,r0,r1,r2,O,U,V,ac,dz,dT]) rfl ⟨W,cap,Y,by omega,by omega,rfl,aA,aB,?_,((al.out.setCell ag _).setCell ag _).setCell ag _⟩;exact ((aa.out.far ag ag _).far ag ag _).far ag ag _
theorem lm (c:aC) (u:Un) (w:World) (o:c.name.size≤1000) (f:¬ aU c u=0) :
  Calls Tryz.prog 25 #[aI c,aZ u] w fun e w'=>e=.returned (.tuple #[.agg #[.int .i64 0,.slice none 0 0,.slice none 0 0],.int .i64 0,.int .i64 0,aU c u])∧Below w w w':=by
 by_cases h:aR c u.lv u.yr=0
 ·refine sv c u w o h ?_
  unfold aU at f;rw [if_pos h] at f
  split at f
  ·exact absurd rfl f
  ·omega
 ·exact vQ c u w o h
def ff (c:aC) (lv y:Int):Int:=if aR c lv y=0 then (aM c y lv:Int) else 0
def tP (c:aC) (u:Un):Int:=cf c u.yr (dz c u)
def uz (c:aC) (u:Un):Int:=cf c u.yr (dT c u)-1
def dD (c:aC) (u:Un):Sp:=if aU c u=0 then ⟨tP c u,uz c u⟩ else ⟨0,0⟩
def tH (c:aC) (u:Un) (lv:Int):Int:=if aU c u=0 then (if 1≤lv∧lv≤u.lv then 0 else 1) else aU c u
def tR (c:aC) (u:Un) (lv:Int):Un:=if tH c u lv=0 then ⟨lv,u.yr,(jt c u.yr lv (dz c u):Int)+1⟩ else ⟨0,0,0⟩
def tD (c:aC) (u:Un) (lv:Int):Int:=if aU c u=0 then (if u.lv≤lv∧lv≤5 then 0 else 1) else aU c u
def Dv (c:aC) (u:Un) (lv:Int):Un:=if tD c u lv=0 then ⟨lv,u.yr,(jt c u.yr lv (dz c u):Int)+1⟩ else ⟨0,0,0⟩
def Di (c:aC) (u:Un) (lv:Int):Un:=if tD c u lv=0 then ⟨lv,u.yr,(jt c u.yr lv (dT c u-1):Int)+1⟩ else ⟨0,0,0⟩
theorem kY (c:aC) (lv y:Int) (w:World) (U:c.name.size≤1000) :
  Calls Tryz.prog 14 #[aI c,lv,y] w fun e w'=>e=.returned (.tuple #[ff c lv y,aR c lv y])∧Below w w w':=by
 by_cases h:aR c lv y=0
 ·have I:=hide (show ff c lv y=(aM c y lv:Int) by simp [ff,h])
  have G:=hide (bv h);have E:=hide h;clear h;simp only [aI];go_enter Tryz.func14,Tryz.ntmps14;go_wp2_with fail;refine (iJ c lv y _ U E.out).mono ?_;rintro e F ⟨W,cap,Y,ab,ac,rfl,ad,ah,o,f⟩;have V:=hide (show Below w w F by (repeat' exact bel));have O:w.heap.size<F.heap.size:=am f;have H:=hide o;clear f o;go_wp2_with fail;refine (rI c y lv _ cap W Y G.out.2.2.1 G.out.2.2.2.1 G.out.2.2.2.2.2.2 (H.out.alloc _).2).mono ?_;rintro e w2 ⟨rfl,J⟩;go_wp2;go_ret2;exact ⟨aW I.out.symm E.out.symm,Below.trans (V.out.alloc om _) (J.mono ag)⟩
 ·have I:=hide (show ff c lv y=0 by simp [ff,h])
  have aa:(aR c lv y != 0)=true:=by simpa using h
  have E:=hide h;clear h;simp only [aI];go_enter Tryz.func14,Tryz.ntmps14;go_wp2_with fail;refine (t6 c lv y _ U E.out).mono ?_;rintro e F ⟨rfl,f⟩;have O:w.heap.size<F.heap.size:=am f;go_wp2;go_ret2;exact ⟨aW I.out.symm rfl,by (repeat' exact bel)⟩
theorem xR (c:aC) (u:Un) (w:World) (V:c.name.size≤1000) (o:¬ aU c u=0) :
  Calls Tryz.prog 9 #[aI c,aZ u] w fun e w'=>e=.returned (.tuple #[.agg #[.int .i64 0,.int .i64 0],aU c u])∧Below w w w':=by
 have O:(aU c u != 0)=true:=by simpa using o
 have G:=hide o;clear o;simp only [aI,aZ];go_enter Tryz.func9,Tryz.ntmps9;go_wp2_with fail;refine (lm c u _ V G.out).mono ?_;rintro e h ⟨rfl,f⟩;have W:h.cell? ⟨w+1+1,0,none⟩=some (.int .i64 0):=ap f;have I:h.frozen? ⟨w+1+1,0,none⟩=false:=an f;have r1:h.cell? ⟨w+1+1,1,none⟩=some (.int .i64 0):=ap f;have J:h.frozen? ⟨w+1+1,1,none⟩=false:=an f;have E:w.heap.size+1+1<h.heap.size:=am f;have F:w.heap.size+1<h.heap.size:=om;have H:=hide (show Below w w h by (repeat' exact bel));clear f;go_wp2;exact bodyPost_ret (v:=.tuple #[.agg #[.int .i64 0,.int .i64 0],aU c u]) (by simp (maxDischargeDepth:=9) [results,Tryz.results9,go_sem,W,r1,I,J,E]) rfl ⟨rfl,by have U:=H.out;(repeat' exact bel)⟩
theorem uP (c:aC) (u:Un) (w:World) (hn:c.name.size≤1000) (I:aU c u=0) :
  Calls Tryz.prog 9 #[aI c,aZ u] w fun e w'=>e=.returned (.tuple #[.agg #[tP c u,uz c u],.int .i64 0])∧Below w w w':=by
 have hcut:=iR I;obtain ⟨b,hb⟩:∃ b,dT c u=b+1:=⟨dT c u-1,by omega⟩;have HB:=hide (show (dT c u:Int)=(b:Int)+1 by omega);have J:=hide hb;have hA:aP c u.yr 1601=0:=(bv (it I).1).2.2.2.2.2.2;have HA:=hide hA;have HE:=hide I;have V:dz c u<ce c u.yr:=om;have W:b<ce c u.yr:=om;clear I hA hb hcut;simp only [aI,aZ];go_enter Tryz.func9,Tryz.ntmps9;go_wp2_with fail;refine (gJ c u _ hn HE.out).mono ?_;rintro e E ⟨g1,cap,g2,ab,ac,rfl,Y,ah,G,h⟩;rw [HB.out];have r0:E.cell? ⟨w+1+1,0,none⟩=some (.int .i64 0):=ap h;have f0:E.frozen? ⟨w+1+1,0,none⟩=false:=an h;have r1:E.cell? ⟨w+1+1,1,none⟩=some (.int .i64 0):=ap h;have f1:E.frozen? ⟨w+1+1,1,none⟩=false:=an h;have o:w.heap.size+1+1<E.heap.size:=am h;have aa:w.heap.size+1<E.heap.size:=om;have HW:=hide (show Below w w E by (repeat' exact bel));have O:=hide G;clear h G;go_wp2_with fail;refine (od c u.yr _ cap g1 g2 HA.out Y (O.out.alloc _) (dz c u) b V W).mono ?_;rintro e F ⟨rfl,f⟩;have s0:F.cell? ⟨w+1+1,0,none⟩=some (.int .i64 0):=by rw [f.cell (p:=⟨w+1+1,0,none⟩) ag,World.cell?_alloc_past _ _ _ o];exact r0
 have h0:F.frozen? ⟨w+1+1,0,none⟩=false:=by rw [f.frozen (p:=⟨w+1+1,0,none⟩) ag,World.frozen?_alloc_past _ _ _ o];exact f0
 have s1:F.cell? ⟨w+1+1,1,none⟩=some (.int .i64 0):=by rw [f.cell (p:=⟨w+1+1,1,none⟩) ag,World.cell?_alloc_past _ _ _ o];exact r1
 have h1:F.frozen? ⟨w+1+1,1,none⟩=false:=by rw [f.frozen (p:=⟨w+1+1,1,none⟩) ag,World.frozen?_alloc_past _ _ _ o];exact f1
 have H:w.heap.size+1+1<F.heap.size:=Nat.lt_of_lt_of_le o (Nat.le_trans af f.size);have U:=hide (Below.trans (HW.out.alloc om _) (f.mono ag):Below w w F);clear f r0 r1 f0 f1;go_wp2;exact bodyPost_ret (v:=.tuple #[.agg #[cf c u.yr (dz c u),.int .i64 (cf c u.yr (b+1)-1)],.int .i64 0]) (by simp (maxDischargeDepth:=9) [results,Tryz.results9,go_sem,s0,s1,h0,h1,H]) rfl ⟨by rw [tP,uz,J.out],by have ad:=U.out;(repeat' exact bel)⟩
theorem fI (c:aC) (u:Un) (w:World) (o:c.name.size≤1000) :
  Calls Tryz.prog 9 #[aI c,aZ u] w fun e w'=>e=.returned (.tuple #[cw (dD c u),aU c u])∧Below w w w':=by
 by_cases f:aU c u=0
 ·refine (uP c u w o f).mono ?_
  rintro e E ⟨rfl,h⟩;exact ⟨by rw [dD,if_pos f,f],h⟩
 ·refine (xR c u w o f).mono ?_
  rintro e E ⟨rfl,h⟩;exact ⟨by rw [dD,if_neg f],h⟩
theorem DO (c:aC) (u:Un) (lv:Int) (w:World) (W:c.name.size≤1000) (o:¬ aU c u=0) :
  Calls Tryz.prog 11 #[aI c,aZ u,lv] w fun e w'=>e=.returned (.tuple #[.agg #[.int .i64 0,.int .i64 0,.int .i64 0],aU c u])∧Below w w w':=by
 have U:(aU c u != 0)=true:=by simpa using o
 have G:=hide o;clear o;simp only [aI,aZ];go_enter Tryz.func11,Tryz.ntmps11;go_wp2_with fail;refine (lm c u _ W G.out).mono ?_;rintro e h ⟨rfl,f⟩;have Y:h.cell? ⟨w+1+1,0,none⟩=some (.int .i64 0):=ap f;have I:h.frozen? ⟨w+1+1,0,none⟩=false:=an f;have r1:h.cell? ⟨w+1+1,1,none⟩=some (.int .i64 0):=ap f;have J:h.frozen? ⟨w+1+1,1,none⟩=false:=an f;have r2:h.cell? ⟨w+1+1,2,none⟩=some (.int .i64 0):=ap f;have O:h.frozen? ⟨w+1+1,2,none⟩=false:=an f;have E:w.heap.size+1+1<h.heap.size:=am f;have F:w.heap.size+1<h.heap.size:=om;have H:=hide (show Below w w h by (repeat' exact bel));clear f;go_wp2;exact bodyPost_ret (v:=.tuple #[.agg #[.int .i64 0,.int .i64 0,.int .i64 0],aU c u]) (by simp (maxDischargeDepth:=9) [results,Tryz.results11,go_sem,Y,r1,r2,I,J,O,E]) rfl ⟨rfl,by have V:=H.out;(repeat' exact bel)⟩
theorem EK (c:aC) (u:Un) (lv:Int) (w:World) (hn:c.name.size≤1000) (F:aU c u=0) (hl:lv<1∨u.lv<lv) :
  Calls Tryz.prog 11 #[aI c,aZ u,lv] w fun e w'=>e=.returned (.tuple #[.agg #[.int .i64 0,.int .i64 0,.int .i64 0],.int .i64 1])∧Below w w w':=by
 have H:=hide F;clear F;simp only [aI,aZ];go_enter Tryz.func11,Tryz.ntmps11;go_wp2_with fail;refine (gJ c u _ hn H.out).mono ?_;rintro e h ⟨g1,cap,g2,V,W,rfl,aa,ab,o,f⟩;have r0:h.cell? ⟨w+1+1,0,none⟩=some (.int .i64 0):=ap f;have J:h.frozen? ⟨w+1+1,0,none⟩=false:=an f;have r1:h.cell? ⟨w+1+1,1,none⟩=some (.int .i64 0):=ap f;have O:h.frozen? ⟨w+1+1,1,none⟩=false:=an f;have r2:h.cell? ⟨w+1+1,2,none⟩=some (.int .i64 0):=ap f;have U:h.frozen? ⟨w+1+1,2,none⟩=false:=an f;have u0:h.cell? ⟨w+1,0,none⟩=some (.int .i64 u.lv):=ap f;have E:w.heap.size+1+1<h.heap.size:=am f;have G:w.heap.size+1<h.heap.size:=om;have I:=hide (show Below w w h by (repeat' exact bel));clear f o;go_wp2_with fail
 all_goals first
  | (exfalso;omega)
  | exact bodyPost_ret (v:=.tuple #[.agg #[.int .i64 0,.int .i64 0,.int .i64 0],.int .i64 1]) (by simp (maxDischargeDepth:=9) [results,Tryz.results11,go_sem,r0,r1,r2,J,O,U,E]) rfl ⟨rfl,by have Y:=I.out;(repeat' exact bel)⟩
theorem DL (c:aC) (u:Un) (lv:Int) (w:World) (hn:c.name.size≤1000) (O:aU c u=0) (h1:1≤lv) (h2:lv≤u.lv) :
  Calls Tryz.prog 11 #[aI c,aZ u,lv] w fun e w'=>e=.returned (.tuple #[.agg #[lv,u.yr,.int .i64 ((jt c u.yr lv (dz c u):Int)+1)],.int .i64 0])∧Below w w w':=by
 have U:=bv (it O).1;have hA:aP c u.yr 1601=0:=U.2.2.2.2.2.2;have h5:lv≤5:=by have:=U.2.2.2.1;omega
 have HA:=hide hA;have HE:=hide O;clear O hA U;simp only [aI,aZ];go_enter Tryz.func11,Tryz.ntmps11;go_wp2_with fail;refine (gJ c u _ hn HE.out).mono ?_;rintro e E ⟨g1,cap,g2,ab,ac,rfl,ah,al,G,f⟩;have r0:E.cell? ⟨w+1+1,0,none⟩=some (.int .i64 0):=ap f;have V:E.frozen? ⟨w+1+1,0,none⟩=false:=an f;have r1:E.cell? ⟨w+1+1,1,none⟩=some (.int .i64 0):=ap f;have W:E.frozen? ⟨w+1+1,1,none⟩=false:=an f;have r2:E.cell? ⟨w+1+1,2,none⟩=some (.int .i64 0):=ap f;have Y:E.frozen? ⟨w+1+1,2,none⟩=false:=an f;have u0:E.cell? ⟨w+1,0,none⟩=some (.int .i64 u.lv):=ap f;have o:w.heap.size+1+1<E.heap.size:=am f;have aa:w.heap.size+1<E.heap.size:=om;have HW:=hide (show Below w w E by (repeat' exact bel));have I:=hide G;clear f G;go_wp2_with fail
 all_goals first
  | (exfalso;omega)
  | skip
 refine (lx c u.yr lv _ cap g1 g2 h1 h5 HA.out (I.out.alloc _).2 (dz c u)).mono ?_;rintro e F ⟨rfl,h⟩;have s0:F.cell? ⟨w+1+1,0,none⟩=some (.int .i64 0):=by rw [h.cell (p:=⟨w+1+1,0,none⟩) ag,World.cell?_alloc_past _ _ _ o];exact r0
 have k0:F.frozen? ⟨w+1+1,0,none⟩=false:=by rw [h.frozen (p:=⟨w+1+1,0,none⟩) ag,World.frozen?_alloc_past _ _ _ o];exact V
 have s1:F.cell? ⟨w+1+1,1,none⟩=some (.int .i64 0):=by rw [h.cell (p:=⟨w+1+1,1,none⟩) ag,World.cell?_alloc_past _ _ _ o];exact r1
 have k1:F.frozen? ⟨w+1+1,1,none⟩=false:=by rw [h.frozen (p:=⟨w+1+1,1,none⟩) ag,World.frozen?_alloc_past _ _ _ o];exact W
 have s2:F.cell? ⟨w+1+1,2,none⟩=some (.int .i64 0):=by rw [h.cell (p:=⟨w+1+1,2,none⟩) ag,World.cell?_alloc_past _ _ _ o];exact r2
 have k2:F.frozen? ⟨w+1+1,2,none⟩=false:=by rw [h.frozen (p:=⟨w+1+1,2,none⟩) ag,World.frozen?_alloc_past _ _ _ o];exact Y
 have H:w.heap.size+1+1<F.heap.size:=Nat.lt_of_lt_of_le o (Nat.le_trans af h.size);have J:=hide (Below.trans (HW.out.alloc om _) (h.mono ag):Below w w F);clear h r0 r1 r2 V W Y;go_wp2;exact bodyPost_ret (v:=.tuple #[.agg #[lv,u.yr,.int .i64 ((jt c u.yr lv (dz c u):Int)+1)],.int .i64 0]) (by simp (maxDischargeDepth:=9) [results,Tryz.results11,go_sem,s0,s1,s2,k0,k1,k2,H]) rfl ⟨rfl,by have ad:=J.out;(repeat' exact bel)⟩
theorem xP (c:aC) (u:Un) (lv:Int) (w:World) (F:c.name.size≤1000) :
  Calls Tryz.prog 11 #[aI c,aZ u,lv] w fun e w'=>e=.returned (.tuple #[aZ (tR c u lv),tH c u lv])∧Below w w w':=by
 by_cases h:aU c u=0
 ·by_cases E:1≤lv∧lv≤u.lv
  ·have f:tH c u lv=0:=by unfold tH;rw [if_pos h,if_pos E]
   refine (DL c u lv w F h E.1 E.2).mono ?_;rintro e G ⟨rfl,o⟩;exact ⟨by rw [tR,if_pos f,f],o⟩
  ·have f:tH c u lv=1:=by unfold tH;rw [if_pos h,if_neg E]
   refine (EK c u lv w F h om).mono ?_;rintro e G ⟨rfl,o⟩;exact ⟨by rw [tR,if_neg om,f],o⟩
 ·have f:tH c u lv=aU c u:=by unfold tH;rw [if_neg h]
  refine (DO c u lv w F h).mono ?_;rintro e G ⟨rfl,o⟩;exact ⟨by rw [tR,if_neg om,f],o⟩
def cG (w:World) (B:Nat):Prop:=∃ a b c,ax w B #[a,b,c] 33
theorem cG.lt {w:World} {B:Nat} (h:cG w B):B<w.heap.size:=by obtain ⟨a,b,c,h⟩:=h;exact h.lt
theorem cG.below {w w':World} {K B:Nat} (h:cG w B) (o:Below K w w') (f:B<K):cG w' B:=by
 obtain ⟨a,b,c,h⟩:=h;exact ⟨a,b,c,h.below o f⟩
theorem cG.alloc {w:World} {B:Nat} (h:cG w B) (o:Obj):cG (w.alloc o) B:=by
 obtain ⟨a,b,c,h⟩:=h;exact ⟨a,b,c,h.alloc o⟩
theorem cG.new (w:World) (a b c:Value):cG (w.alloc (.cells #[a,b,c] 33)) w.heap.size:=⟨a,b,c,ax.new w _ _⟩
@[go_sem] theorem Fa (w:World) (o:Obj) (B:Nat) (h:B<w.heap.size):cG (w.alloc o) B=cG w B:=by
 unfold cG ax;rw [Below.heap_alloc w o B h]
@[go_sem] theorem Fb (w:World) (B:Nat):cG w.drew B=cG w B:=rfl
@[go_sem] theorem EM (w:World) (n B:Nat):cG (w.drewN n) B=cG w B:=by
 unfold cG ax;rw [show (w.drewN n).heap=w.heap from rfl]
theorem ax.row {w:World} {B:Nat} (h:cG w B) (f:Array Value):ax (w.setRow B f) B f 33:=by
 obtain ⟨a,b,c,h⟩:=h;exact setRow_heap w B _ f _ _ h
theorem ax.rowOther {w:World} {B g:Nat} {o:Array Value} {t:TypeId} (h:ax w B o t) (f:B≠g) (E:Array Value):ax (w.setRow g E) B o t:=
 (setRow_other w g B E f).trans h
theorem cG.rowOther {w:World} {B g:Nat} (h:cG w B) (f:B≠g) (o:Array Value):cG (w.setRow g o) B:=by
 obtain ⟨a,b,c,h⟩:=h;exact ⟨a,b,c,h.rowOther f o⟩
@[go_sem] theorem Ep (w:World) (B g:Nat) (h:Array Value) (f:B≠g):cG (w.setRow g h) B=cG w B:=by
 unfold cG ax;rw [setRow_other w g B h f]
@[go_sem] theorem yl (w:World) (g:Nat) (f:Array Value) (a:Addr) (h:a.block≠g):(w.setRow g f).cell? a=w.cell? a:=cell_setRow_other w g f a h
theorem ax.set123 {w:World} {B:Nat} {a b c:Value} {t:TypeId} (h:ax w B #[a,b,c] t) (x y z:Value):ax (((w.setCell ⟨B,0,none⟩ x).setCell ⟨B,1,none⟩ y).setCell ⟨B,2,none⟩ z) B #[x,y,z] t:=by
 unfold ax at h ⊢;simp [World.setCell,Array.getElem?_modify,h]
theorem mS {f:Array Value} {W:World} {E F:Nat} {G H I J O U e:Int} (h6:f[6]?=some (.pointer (some ⟨E,0,none⟩))) (h7:f[7]?=some (.pointer (some ⟨F,0,none⟩))) (h8:f[8]?=some (.int .i64 e))
  (h:ax W E #[G,H,I] 33) (o:ax W F #[J,O,U] 33) :
  (results Tryz.f72 f).run Tryz.prog W=.ok (.tuple #[.agg #[G,H,I],.agg #[J,O,U],e]) W:=by
 have V:=h.cell 0;have Y:=h.cell 1;have c2:=h.cell 2;have d0:=o.cell 0;have d1:=o.cell 1;have d2:=o.cell 2;simp at V Y c2 d0 d1 d2;simp [results,Tryz.results72,go_sem,h6,h7,h8,V,Y,c2,d0,d1,d2]
theorem zj (c:aC) (u:Un) (lv:Int) (w:World) (hn:c.name.size≤1000) (H:¬ aU c u=0) :
  Calls Tryz.prog 72 #[aI c,aZ u,lv] w fun e w'=>e=.returned (.tuple #[.agg #[.int .i64 0,.int .i64 0,.int .i64 0],.agg #[.int .i64 0,.int .i64 0,.int .i64 0],aU c u])∧Below w w w':=by
 have aa:(aU c u != 0)=true:=by simpa using H
 have HE:=hide H;clear H;simp only [aI,aZ];go_enter Tryz.func72,Tryz.ntmps72;go_wp2_with fail;refine (lm c u _ hn HE.out).mono ?_;rintro e h ⟨rfl,f⟩;have E:w.heap.size+1+1+1<h.heap.size:=am f;have W:w.heap.size+1<h.heap.size:=om;have HW:=hide (show Below w w h by (repeat' exact bel));have G6:cG h (w+1+1):=cG.below (cG.alloc (by simpa using cG.new ((w.alloc (df c)).alloc (.cells #[u.lv,u.yr,u.ix] 33)) (.int .i64 0) (.int .i64 0) (.int .i64 0)) _) f af;have G7:cG h (w+1+1+1):=cG.below (by simpa using cG.new (((w.alloc (df c)).alloc (.cells #[u.lv,u.yr,u.ix] 33)).alloc (.cells #[.int .i64 0,.int .i64 0,.int .i64 0] 33)) (.int .i64 0) (.int .i64 0) (.int .i64 0)) f af;have F:ax h (w+1+1) #[.int .i64 0,.int .i64 0,.int .i64 0] 33:=ax.below (ax.alloc (by simpa using ax.new ((w.alloc (df c)).alloc (.cells #[u.lv,u.yr,u.ix] 33)) #[.int .i64 0,.int .i64 0,.int .i64 0] 33) _) f af;have G:ax h (w+1+1+1) #[.int .i64 0,.int .i64 0,.int .i64 0] 33:=ax.below (by simpa using ax.new (((w.alloc (df c)).alloc (.cells #[u.lv,u.yr,u.ix] 33)).alloc (.cells #[.int .i64 0,.int .i64 0,.int .i64 0] 33)) #[.int .i64 0,.int .i64 0,.int .i64 0] 33) f af;have I:w.heap.size≤w.heap.size+1+1:=om;have J:w.heap.size≤w.heap.size+1+1+1:=om;have O:w.heap.size+1+1≠w.heap.size+1+1+1:=om;have o:w.heap.size+1+1+1≠w.heap.size+1+1:=om;have V:w.heap.size+1+1+1<h.heap.size:=om;have U:w.heap.size+1+1<h.heap.size:=om;clear E;clear f;generalize w.heap.size+1+1+1=B7 at *;generalize w.heap.size+1+1=Y at *
 go_wp2_with (first
  | (refine wpList_store_row rfl _ _ _ rfl Y #[.int .i64 0,.int .i64 0,.int .i64 0] rfl rfl _ _ (F.alloc _) (by kernel_rfl) rfl (by simp [Value.oneCell']) ?_)
  | (refine wpList_store_row rfl _ _ _ rfl B7 #[.int .i64 0,.int .i64 0,.int .i64 0] rfl rfl _ _ ((G.alloc _).rowOther o _) (by kernel_rfl) rfl (by simp [Value.oneCell']) ?_))
 exact bodyPost_ret (v:=.tuple #[.agg #[.int .i64 0,.int .i64 0,.int .i64 0],.agg #[.int .i64 0,.int .i64 0,.int .i64 0],aU c u]) (by exact mS rfl rfl rfl ((ax.row (G6.alloc _) _).rowOther O _) (ax.row ((G7.alloc _).rowOther o _) _)) rfl ⟨rfl,below_setRow (below_setRow (HW.out.alloc om _) I _) J _⟩
theorem yx (c:aC) (u:Un) (lv:Int) (w:World) (hn:c.name.size≤1000) (hE:aU c u=0) (hl:lv<u.lv∨5<lv) :
  Calls Tryz.prog 72 #[aI c,aZ u,lv] w fun e w'=>e=.returned (.tuple #[.agg #[.int .i64 0,.int .i64 0,.int .i64 0],.agg #[.int .i64 0,.int .i64 0,.int .i64 0],.int .i64 1])∧Below w w w':=by
 have HE:=hide hE;clear hE;simp only [aI,aZ];go_enter Tryz.func72,Tryz.ntmps72;go_wp2_with fail;refine (gJ c u _ hn HE.out).mono ?_;rintro e h ⟨g1,cap,g2,O,U,rfl,ad,ah,J,f⟩;have u0:h.cell? ⟨w+1,0,none⟩=some (.int .i64 u.lv):=ap f;have E:w.heap.size+1+1+1<h.heap.size:=am f;have ac:w.heap.size+1<h.heap.size:=om;have HW:=hide (show Below w w h by (repeat' exact bel));have G6:cG h (w+1+1):=cG.below (cG.alloc (by simpa using cG.new ((w.alloc (df c)).alloc (.cells #[u.lv,u.yr,u.ix] 33)) (.int .i64 0) (.int .i64 0) (.int .i64 0)) _) f af;have G7:cG h (w+1+1+1):=cG.below (by simpa using cG.new (((w.alloc (df c)).alloc (.cells #[u.lv,u.yr,u.ix] 33)).alloc (.cells #[.int .i64 0,.int .i64 0,.int .i64 0] 33)) (.int .i64 0) (.int .i64 0) (.int .i64 0)) f af;have G:ax h (w+1+1) #[.int .i64 0,.int .i64 0,.int .i64 0] 33:=ax.below (ax.alloc (by simpa using ax.new ((w.alloc (df c)).alloc (.cells #[u.lv,u.yr,u.ix] 33)) #[.int .i64 0,.int .i64 0,.int .i64 0] 33) _) f af;have I:ax h (w+1+1+1) #[.int .i64 0,.int .i64 0,.int .i64 0] 33:=ax.below (by simpa using ax.new (((w.alloc (df c)).alloc (.cells #[u.lv,u.yr,u.ix] 33)).alloc (.cells #[.int .i64 0,.int .i64 0,.int .i64 0] 33)) #[.int .i64 0,.int .i64 0,.int .i64 0] 33) f af;have V:w.heap.size≤w.heap.size+1+1:=om;have W:w.heap.size≤w.heap.size+1+1+1:=om;have Y:w.heap.size+1+1≠w.heap.size+1+1+1:=om;have o:w.heap.size+1+1+1≠w.heap.size+1+1:=om;have ab:w.heap.size+1+1+1<h.heap.size:=om;have aa:w.heap.size+1+1<h.heap.size:=om;clear E;clear f J O U;generalize w.heap.size+1+1+1=B7 at *;generalize w.heap.size+1+1=B6 at *;have F:=G6.alloc (.cells #[u.yr,.slice (some ⟨g1,0,none⟩) (ce c u.yr) cap,.slice (some ⟨g2,0,none⟩) (aV c u.yr) (aV c u.yr)] 76);have H:=G7.alloc (.cells #[u.yr,.slice (some ⟨g1,0,none⟩) (ce c u.yr) cap,.slice (some ⟨g2,0,none⟩) (aV c u.yr) (aV c u.yr)] 76)
 go_wp2_with (first
  | (refine wpList_store_row rfl _ _ _ rfl B6 #[.int .i64 0,.int .i64 0,.int .i64 0] rfl rfl _ _ (G.alloc _) (by kernel_rfl) rfl (by simp [Value.oneCell']) ?_)
  | (refine wpList_store_row rfl _ _ _ rfl B7 #[.int .i64 0,.int .i64 0,.int .i64 0] rfl rfl _ _ ((I.alloc _).rowOther o _) (by kernel_rfl) rfl (by simp [Value.oneCell']) ?_))
 all_goals first
  | (exfalso;omega)
  | exact bodyPost_ret (v:=.tuple #[.agg #[.int .i64 0,.int .i64 0,.int .i64 0],.agg #[.int .i64 0,.int .i64 0,.int .i64 0],.int .i64 1]) (by exact mS rfl rfl rfl ((ax.row F _).rowOther Y _) (ax.row (H.rowOther o _) _)) rfl ⟨rfl,below_setRow (below_setRow (HW.out.alloc om _) V _) W _⟩
def mG (c:aC) (u:Un) (F E cap f h o:Nat) (w:World):Prop:=ax w F #[u.yr,.slice (some ⟨E,0,none⟩) (ce c u.yr) cap,.slice (some ⟨f,0,none⟩) (aV c u.yr) (aV c u.yr)] 76∧aS w f (et c u.yr)∧ax w h #[.int .i64 0,.int .i64 0,.int .i64 0] 33∧ax w o #[.int .i64 0,.int .i64 0,.int .i64 0] 33
theorem mG.call {c:aC} {u:Un} {F G cap H o E:Nat} {w w':World} (h:mG c u F G cap H o E w) (f:Below w w w'):mG c u F G cap H o E w':=
 ⟨h.1.call f,h.2.1.call f,h.2.2.1.call f,h.2.2.2.call f⟩
theorem mG.drew {c:aC} {u:Un} {F E cap G f o:Nat} {w:World} (h:mG c u F E cap G f o w):mG c u F E cap G f o w.drew:=h
theorem mG.load {c:aC} {u:Un} {F f cap o E G:Nat} {w':World} (h:mG c u F f cap o E G w'):w'.cell? ⟨F,0,none⟩=some (.int .i64 u.yr)∧w'.cell? ⟨F,1,none⟩=some (.slice (some ⟨f,0,none⟩) (ce c u.yr) cap)∧w'.cell? ⟨F,2,none⟩=some (.slice (some ⟨o,0,none⟩) (aV c u.yr) (aV c u.yr)):=
 ⟨h.1.cell 0,h.1.cell 1,h.1.cell 2⟩
theorem mG.res {c:aC} {u:Un} {F E cap G f o:Nat} {w':World} (h:mG c u F E cap G f o w') :
  (w'.cell? ⟨f,0,none⟩=some (.int .i64 0)∧w'.cell? ⟨f,1,none⟩=some (.int .i64 0)∧w'.cell? ⟨f,2,none⟩=some (.int .i64 0))∧(w'.cell? ⟨o,0,none⟩=some (.int .i64 0)∧w'.cell? ⟨o,1,none⟩=some (.int .i64 0)∧w'.cell? ⟨o,2,none⟩=some (.int .i64 0)) ∧
  (w'.frozen? ⟨f,0,none⟩=false∧w'.frozen? ⟨f,1,none⟩=false∧w'.frozen? ⟨f,2,none⟩=false)∧(w'.frozen? ⟨o,0,none⟩=false∧w'.frozen? ⟨o,1,none⟩=false∧w'.frozen? ⟨o,2,none⟩=false):=
 ⟨⟨h.2.2.1.cell 0,h.2.2.1.cell 1,h.2.2.1.cell 2⟩,⟨h.2.2.2.cell 0,h.2.2.2.cell 1,h.2.2.2.cell 2⟩,⟨h.2.2.1.frozen 0,h.2.2.1.frozen 1,h.2.2.1.frozen 2⟩,⟨h.2.2.2.frozen 0,h.2.2.2.frozen 1,h.2.2.2.frozen 2⟩⟩
theorem yk (c:aC) (u:Un) (lv:Int) (w:World) (hn:c.name.size≤1000) (hE:aU c u=0) (h1:u.lv≤lv) (h5:lv≤5) :
  Calls Tryz.prog 72 #[aI c,aZ u,lv] w fun e w'=>e=.returned (.tuple #[.agg #[lv,u.yr,.int .i64 ((jt c u.yr lv (dz c u):Int)+1)],.agg #[lv,u.yr,.int .i64 ((jt c u.yr lv (dT c u-1):Int)+1)],.int .i64 0])∧Below w w w':=by
 have hf:=bv (it hE).1;have hA:aP c u.yr 1601=0:=hf.2.2.2.2.2.2;have a3:1≤lv:=by have:=hf.2.2.1;omega
 have hcut:=iR hE;obtain ⟨b,hb⟩:∃ b,b=dT c u-1:=⟨_,rfl⟩;have aA:=hide (show (dT c u:Int)=(b:Int)+1 by omega);rw [← hb];have HA:=hide hA;have HE:=hide hE;clear hE hA hf hcut hb;simp only [aI,aZ];go_enter Tryz.func72,Tryz.ntmps72;go_wp2_with fail;refine (gJ c u _ hn HE.out).mono ?_;rintro e o ⟨g1,cap,g2,a1,a2,rfl,a6,a7,ad,h⟩;rw [aA.out];have u0:o.cell? ⟨w+1,0,none⟩=some (.int .i64 u.lv):=ap h;have aq:w.heap.size+1+1+1<o.heap.size:=am h;have ao:w.heap.size+1<o.heap.size:=om;have HW:=hide (show Below w w o by (repeat' exact bel));have G6:cG o (w+1+1):=cG.below (cG.alloc (by simpa using cG.new ((w.alloc (df c)).alloc (.cells #[u.lv,u.yr,u.ix] 33)) (.int .i64 0) (.int .i64 0) (.int .i64 0)) _) h af;have G7:cG o (w+1+1+1):=cG.below (by simpa using cG.new (((w.alloc (df c)).alloc (.cells #[u.lv,u.yr,u.ix] 33)).alloc (.cells #[.int .i64 0,.int .i64 0,.int .i64 0] 33)) (.int .i64 0) (.int .i64 0) (.int .i64 0)) h af;have V:ax o (w+1+1) #[.int .i64 0,.int .i64 0,.int .i64 0] 33:=ax.below (ax.alloc (by simpa using ax.new ((w.alloc (df c)).alloc (.cells #[u.lv,u.yr,u.ix] 33)) #[.int .i64 0,.int .i64 0,.int .i64 0] 33) _) h af;have Y:ax o (w+1+1+1) #[.int .i64 0,.int .i64 0,.int .i64 0] 33:=ax.below (by simpa using ax.new (((w.alloc (df c)).alloc (.cells #[u.lv,u.yr,u.ix] 33)).alloc (.cells #[.int .i64 0,.int .i64 0,.int .i64 0] 33)) #[.int .i64 0,.int .i64 0,.int .i64 0] 33) h af;have E:w.heap.size≤w.heap.size+1+1:=om;have G:w.heap.size≤w.heap.size+1+1+1:=om;have H:w.heap.size+1+1≠w.heap.size+1+1+1:=om;have f:w.heap.size+1+1+1≠w.heap.size+1+1:=om;have al:w.heap.size+1+1+1<o.heap.size:=om;have ah:w.heap.size+1+1<o.heap.size:=om;clear aq;have aa:=hide ad;clear h ad a1 a2;generalize w.heap.size+1+1+1=B7 at *;generalize w.heap.size+1+1=B6 at *;obtain ⟨F,hF⟩:∃ F,F=o.heap.size:=⟨_,rfl⟩;have HD:=hide (show mG c u F g1 cap g2 B6 B7 (o.alloc (.cells #[u.yr,.slice (some ⟨g1,0,none⟩) (ce c u.yr) cap,.slice (some ⟨g2,0,none⟩) (aV c u.yr) (aV c u.yr)] 76)) from ⟨by rw [hF];exact ax.new o _ _,aa.out.2.alloc _,V.alloc _,Y.alloc _⟩);have ab:=hide (show Below w w (o.alloc (.cells #[u.yr,.slice (some ⟨g1,0,none⟩) (ce c u.yr) cap,.slice (some ⟨g2,0,none⟩) (aV c u.yr) (aV c u.yr)] 76)) from HW.out.alloc om _);go_wp2_with fail
 all_goals first
  | (exfalso;omega)
  | skip
 rw [← hF];generalize o.alloc (.cells #[u.yr,.slice (some ⟨g1,0,none⟩) (ce c u.yr) cap,.slice (some ⟨g2,0,none⟩) (aV c u.yr) (aV c u.yr)] 76)=W at *;obtain ⟨k0,k1,k2⟩:=HD.out.load;have a5:w.heap.size≤W.heap.size:=ab.out.size;have HG:=hide (And.intro H f);have aB:=hide (And.intro E G);clear G6 G7 aa u0 ah al hF ao HW V Y E G H f
 go_region_with (go_at_call 29;refine (lx c u.yr lv _ cap g1 g2 a3 h5 HA.out ?_ _).mono ?_;first
  | (exact I.out.2.1;rintro e w3 ⟨rfl,U⟩;have J:=hide (I.out.call (by exact U));have a0:=hide (ac.out.trans (U.mono (by exact a4)):Below w w w3);obtain ⟨⟨p0,p1,p2⟩,⟨p3,p4,p5⟩,⟨p6,p7,p8⟩,⟨p9,a8,a9⟩⟩:=J.out.res;obtain ⟨H,f⟩:=HG.out;clear U)
  | (exact HD.out.2.1;rintro e w2 ⟨rfl,O⟩;have I:=hide (HD.out.drew.call (by exact O));have ac:=hide (ab.out.drew.trans (O.mono (by exact a5)):Below w w w2);obtain ⟨m0,m1,m2⟩:=I.out.load;have a4:w.heap.size≤w2.heap.size:=ac.out.size;clear O))
 all_goals
  obtain ⟨E,G⟩:=aB.out;go_simp;go_wp2;exact bodyPost_ret (v:=.tuple #[.agg #[lv,u.yr,.int .i64 ((jt c u.yr lv (dz c u):Int)+1)],.agg #[lv,u.yr,.int .i64 ((jt c u.yr lv b:Int)+1)],.int .i64 0]) (by exact mS rfl rfl rfl ((((J.out.2.2.1.set123 _ _ _).far H _).far H _).far H _) ((((J.out.2.2.2.far f _).far f _).far f _).set123 _ _ _)) rfl ⟨rfl,(((((a0.out.setCell E _).setCell E _).setCell E _).setCell G _).setCell G _).setCell G _⟩
theorem AM (c:aC) (u:Un) (lv:Int) (w:World) (F:c.name.size≤1000) :
  Calls Tryz.prog 72 #[aI c,aZ u,lv] w fun e w'=>e=.returned (.tuple #[aZ (Dv c u lv),aZ (Di c u lv),tD c u lv])∧Below w w w':=by
 by_cases h:aU c u=0
 ·by_cases E:u.lv≤lv∧lv≤5
  ·have f:tD c u lv=0:=by unfold tD;rw [if_pos h,if_pos E]
   refine (yk c u lv w F h E.1 E.2).mono ?_;rintro e G ⟨rfl,o⟩;exact ⟨by rw [Dv,Di,if_pos f,if_pos f,f],o⟩
  ·have f:tD c u lv=1:=by unfold tD;rw [if_pos h,if_neg E]
   refine (yx c u lv w F h om).mono ?_;rintro e G ⟨rfl,o⟩;exact ⟨by rw [Dv,Di,if_neg om,if_neg om,f],o⟩
 ·have f:tD c u lv=aU c u:=by unfold tD;rw [if_neg h]
  refine (zj c u lv w F h).mono ?_;rintro e G ⟨rfl,o⟩;exact ⟨by rw [Dv,Di,if_neg om,if_neg om,f],o⟩
theorem ev {c:aC} {u:Un} (h:aU c u=0):aR c u.lv u.yr=0∧1≤u.lv∧u.lv≤5∧aP c u.yr 1601=0∧u.ix=(uI u:Int)+1∧uI u<aM c u.yr u.lv:=by
 obtain ⟨f,I,hi⟩:=it h;obtain ⟨H,o,E,F,J,O,G⟩:=bv f;exact ⟨f,E,F,G,I,hi⟩
theorem kl {c:aC} {lv y:Int} (h:aR c lv y=0) (f:Int) (H:1≤f) (I:f≤5):aR c f y=0:=by
 obtain ⟨o,G,_,_,E,F,J⟩:=bv h;exact fN o H I E F
theorem iQ {c:aC} {u:Un} (h:aU c u=0):dD c u=⟨cf c u.yr (dz c u),cf c u.yr (dT c u)-1⟩:=by
 simp [dD,h,tP,uz]
theorem ju {c:aC} {lv y:Int} (f:aR c lv y=0) (i:Nat) (hi:i<aM c y lv) :
  aU c ⟨lv,y,(i:Int)+1⟩=0∧dz c ⟨lv,y,(i:Int)+1⟩=aX c y lv i∧dT c ⟨lv,y,(i:Int)+1⟩=aX c y lv (i+1):=by
 have e:uI ⟨lv,y,(i:Int)+1⟩=i:=by simp [uI]
 exact ⟨uF f ag ag,by simp [dz,e],by simp [dT,e]⟩
theorem jR {c:aC} {lv y:Int} (E:aR c lv y=0) (i:Nat) (hi:i<aM c y lv) :
  dD c ⟨lv,y,(i:Int)+1⟩=⟨cf c y (aX c y lv i),cf c y (aX c y lv (i+1))-1⟩:=by
 obtain ⟨h,f,o⟩:=ju E i hi;rw [iQ h,f,o]
theorem qQ {c:aC} {u:Un} {lv:Int} (h:aU c u=0) (E:1≤lv) (F:lv≤u.lv) :
  ∃ k:Nat,tH c u lv=0∧tR c u lv=⟨lv,u.yr,(k:Int)+1⟩∧k<aM c u.yr lv∧aX c u.yr lv k≤dz c u∧dT c u≤aX c u.yr lv (k+1):=by
 obtain ⟨U,O,f,J,V,hi⟩:=ev h;obtain ⟨G,H,I⟩:=xV c u.yr J lv u.lv E F f (uI u) hi;have o:tH c u lv=0:=by unfold tH;rw [if_pos h,if_pos ⟨E,F⟩]
 exact ⟨_,o,by rw [tR,if_pos o];rfl,G,H,I⟩
theorem FZ (c:aC) (y:Int):aM c y 5=ce c y:=by simp [aM]
theorem DF (c:aC) (y:Int):aM c y 4=aV c y:=by simp [aM]
theorem vr {c:aC} {lv y:Int} (h:aR c lv y=0):ff c lv y=(aM c y lv:Int):=by simp [ff,h]
def lN (a b c x y z:Int):Bool:=a==x&&(b==y&&c==z)
theorem Ak (a b c:Int):lN a b c a b c=true:=by simp [lN]
theorem AE {a b c x y z:Int} (f:a=x) (h:b=y) (o:c=z):lN a b c x y z=true:=by simp [lN,f,h,o]
theorem yB {a b c x y z:Int} (h:a≠x∨b≠y∨c≠z):lN a b c x y z=false:=by
 simp [lN];omega
theorem kQ (d:Nat) (a b c x y z:Int) (w:World):(Op.equalIn (d+2) 33 (.agg #[a,b,c]) (.agg #[x,y,z])).run Tryz.prog w=.ok (lN a b c x y z) w:=by
 have F:=Tryz.underlying3;have E:=Tryz.isAgg3;have G:=Tryz.sizeOf3;rw [run_equalIn_struct w _ _ _ _ (by simp [Program.fieldsOf,Tryz.underlying33]) (by kernel_rfl)];simp only [Program.fieldsOf,Tryz.underlying33];go_simp;by_cases f:a=x <;> by_cases h:b=y <;> by_cases o:c=z <;> simp [lN,f,h,o]
@[go_sem high] theorem GM (a b c x y z:Int) (w:World):(binOp .eql 33 (.agg #[a,b,c]) (.agg #[x,y,z])).run Tryz.prog w=.ok (.bool (lN a b c x y z)) w:=by
 rw [run_eql_struct,kQ 9998];rfl
@[go_sem high] theorem F6 (a b c x y z:Int) (w:World):(binOp .neq 33 (.agg #[a,b,c]) (.agg #[x,y,z])).run Tryz.prog w=.ok (.bool (!lN a b c x y z)) w:=by
 rw [run_neq_struct,kQ 9998];rfl
def Ff (a b x y:Int):Bool:=a==x&&b==y
theorem zu (a b:Int):Ff a b a b=true:=by simp [Ff]
theorem yg (d:Nat) (a b x y:Int) (w:World):(Op.equalIn (d+2) 35 (.agg #[a,b]) (.agg #[x,y])).run Tryz.prog w=.ok (Ff a b x y) w:=by
 have E:=Tryz.underlying3;have o:=Tryz.isAgg3;have F:=Tryz.sizeOf3;rw [run_equalIn_struct w _ _ _ _ (by simp [Program.fieldsOf,Tryz.underlying35]) (by kernel_rfl)];simp only [Program.fieldsOf,Tryz.underlying35];go_simp;by_cases f:a=x <;> by_cases h:b=y <;> simp [Ff,f,h]
@[go_sem high] theorem FN (a b x y:Int) (w:World):(binOp .eql 35 (.agg #[a,b]) (.agg #[x,y])).run Tryz.prog w=.ok (.bool (Ff a b x y)) w:=by
 rw [run_eql_struct,yg 9998];rfl
@[go_sem high] theorem Fz (a b x y:Int) (w:World):(binOp .neq 35 (.agg #[a,b]) (.agg #[x,y])).run Tryz.prog w=.ok (.bool (!Ff a b x y)) w:=by
 rw [run_neq_struct,yg 9998];rfl
abbrev i8 (w:World) (B:Nat) (u:Un):Prop:=
 w.cell? ⟨B,0,none⟩=some (.int .i64 u.lv)∧w.cell? ⟨B,1,none⟩=some (.int .i64 u.yr)∧w.cell? ⟨B,2,none⟩=some (.int .i64 u.ix)
abbrev lJ (u:Un):Obj:=.cells #[u.lv,u.yr,u.ix] 33
theorem zQ (w:World) (c:aC) (u:Un):i8 ((w.alloc (df c)).alloc (lJ u)) (w.heap.size+1) u:=by
 refine ⟨?_,?_,?_⟩ <;> simp [World.cell?_alloc_at]
theorem nw (w:World) (u:Un):i8 (w.alloc (lJ u)) w.heap.size u:=by
 refine ⟨?_,?_,?_⟩ <;> simp [World.cell?_alloc_at]
theorem oj {W f:World} {B:Nat} {u:Un} (h:∀ o,f.cell? ⟨B,o,none⟩=W.cell? ⟨B,o,none⟩) (Q:i8 W B u):i8 f B u:=by
 obtain ⟨E,F,G⟩:=Q;exact ⟨(h 0).trans E,(h 1).trans F,(h 2).trans G⟩
theorem cD {W f:World} {B K:Nat} {u:Un} (E:Below K W f) (h:B<K) (Q:i8 W B u):i8 f B u:=
 oj (fun o=>E.cell (p:=⟨B,o,none⟩) h) Q
theorem unAt_alloc {W:World} {B:Nat} {u:Un} (Q:i8 W B u) (f:B<W.heap.size) (o:Obj):i8 (W.alloc o) B u:=
 oj (fun i=>World.cell?_alloc_lt W o ⟨B,i,none⟩ f) Q
abbrev ml (w:World) (B:Nat) (s:Sp):Prop:=w.cell? ⟨B,0,none⟩=some (.int .i64 s.a)∧w.cell? ⟨B,1,none⟩=some (.int .i64 s.b)
abbrev yT (s:Sp):Obj:=.cells #[s.a,s.b] 35
theorem fX (w:World) (s:Sp):ml (w.alloc (yT s)) w.heap.size s:=by
 refine ⟨?_,?_⟩ <;> simp [World.cell?_alloc_at]
theorem dB {W f:World} {B K:Nat} {s:Sp} (o:Below K W f) (h:B<K) (Q:ml W B s):ml f B s:=
 ⟨(o.cell (p:=⟨B,0,none⟩) h).trans Q.1,(o.cell (p:=⟨B,1,none⟩) h).trans Q.2⟩
theorem rT {W:World} {B:Nat} {s:Sp} (Q:ml W B s) (f:B<W.heap.size) (o:Obj):ml (W.alloc o) B s:=
 ⟨(World.cell?_alloc_lt W o ⟨B,0,none⟩ f).trans Q.1,(World.cell?_alloc_lt W o ⟨B,1,none⟩ f).trans Q.2⟩
end
end Go.Proofs.YtpebkobmhhnojaaGreatDoor
