/- Lemmas. -/
import Derived.Test.YtpebkobmhhnojaaGreatDoorTp09
set_option linter.unusedSimpArgs false
set_option linter.unusedVariables false
set_option maxRecDepth 100000
set_option maxHeartbeats 12800000
namespace Go.Proofs.YtpebkobmhhnojaaGreatDoor
section
open Go.RowKit Qd
theorem DR (c:aC) (y:Int) (F:aP c y 1600=0) (h:¬ c.kind=6) (D:Int) (E:D=bZ (y+c.shift) c.month+(if c.kind=1∨c.kind=4 then 0 else 3)) :
  ∃ j:Nat,j≤6∧bB c y=D-(j:Int)∧(∀ k:Nat,k≤j→cH (D-(k:Int))=true)∧rF (D-(j:Int))=c.day∧∀ k:Nat,k<j→¬ rF (D-(k:Int))=c.day:=by
 obtain ⟨o,ac,ad⟩:=br F;obtain ⟨hm,hs,U,J⟩:=bN o;have V:=gY F om;have ab:=kO _ c.month V;have aa:=iF _ c.month V om;have W:bB c y=bW c (y+c.shift):=by simp [bB,F]
 have hw:fg (y+c.shift) c.month=(bZ (y+c.shift) c.month+5) % 7+1:=rfl;have J:=J h;have H:∃ j:Nat,j≤6∧bB c y=D-(j:Int):=by
  rw [W];unfold bW dJ;by_cases I:c.kind=1∨c.kind=4
  ·rw [if_pos I] at E ⊢
   exact ⟨((fg (y+c.shift) c.month-c.day+7) % 7).toNat,by omega,by omega⟩
  ·rw [if_neg I] at E ⊢
   rw [if_neg h];exact ⟨(3-((c.day-fg (y+c.shift) c.month+7+3) % 7-3)).toNat,by omega,by omega⟩
 obtain ⟨j,hj,O⟩:=H;have Y:27≤D∧D<3068037-300:=by split at E <;> omega
 have G:(D-(j:Int)+5) % 7+1=c.day:=by
  rw [← O,W];exact lO c _ o h
 have f:∀ k:Nat,k≤j→cH (D-(k:Int))=true:=fun k U=>by simp [cH];omega
 refine ⟨j,hj,O,f,?_,fun k U=>?_⟩
 ·rw [rF,if_pos (f j (Nat.le_refl _))];exact G
 ·rw [rF,if_pos (f k om)];omega
theorem jk (c:aC) (y:Int) (w:World) (hE:aP c y 1600=0) :
  Calls Tryz.prog 8 #[aI c,y] w fun e w'=>e=.returned (.tuple #[bB c y,.bool true])∧Below w w w':=by
 obtain ⟨a4,a6,a7⟩:=br hE;obtain ⟨hm,hs,hk,hd⟩:=bN a4;have ht:=gY hE om;have ao:=i7 _ _ ht;have HL:=hide (show gE (y+c.shift) c.month=0 by simp [gE,ht]);have HD:=hide (show dA (y+c.shift) c.month (cM (y+c.shift) c.month)=0 by simp [dA,ao]);have HV:=hide (show kD (y+c.shift) c.month (cM (y+c.shift) c.month)=bZ (y+c.shift) c.month by simp [kD,ao,bZ]);have a3:=kO _ c.month ht;have a2:=iF _ c.month ht om;have HJ:=hide (DR c y hE);have H6:=hide (show c.kind=6→bB c y=bZ (y+c.shift) c.month from fun h=>by simp [bB,hE,bW,h]);obtain ⟨Z,hZ⟩:∃ Z,Z=bZ (y+c.shift) c.month:=⟨_,rfl⟩;rw [← hZ] at HV HJ H6 a3 a2;obtain ⟨EV,aB⟩:∃ Z,Z=bB c y:=⟨_,rfl⟩;rw [← aB] at HJ H6 ⊢;clear hZ aB ao ht hd;simp only [aI];go_enter Tryz.func8,Tryz.ntmps8;go_wp2_with fail;refine (ct _ _ _).mono ?_;rintro e w1 ⟨rfl,al⟩;rw [HL.out];have a0:=hide (show Below w w w1 by (repeat' exact bel));have a8:w.heap.size<w1.heap.size:=am al;have aA:=hide (az al af (be w c));clear al;obtain ⟨q0,q1,q2,q3,q4,q5,q6,q7,q8,q9,I,J,O,U⟩:=aA.out;go_wp2_with fail;refine (jn _ _ _ _).mono ?_;rintro e w2 ⟨rfl,ah⟩;rw [HD.out,HV.out];have ac:=hide (a0.out.trans (ah.mono om));have aq:w.heap.size<w2.heap.size:=by have:=ah.size;omega
 have ad:=hide (az ah om aA.out);clear ah;clear q0 q1 q2 q3 q4 q5 q6 q7 q8 q9 I J O U;obtain ⟨q0,q1,q2,q3,q4,q5,q6,q7,q8,q9,I,J,O,U⟩:=ad.out;have h3:c.kind=6∨(¬ c.kind=6∧c.kind=1)∨(¬ c.kind=6∧¬ c.kind=1∧c.kind=4)∨(¬ c.kind=6∧¬ c.kind=1∧¬ c.kind=4):=om;rcases h3 with h6 | ⟨h6,h1⟩ | ⟨h6,h1,h4⟩ | ⟨h6,h1,h4⟩
 ·go_wp2
  go_ret2;exact ⟨by rw [H6.out h6];rfl,ac.out⟩
 ·obtain ⟨j,hj,he,F,H,G⟩:=HJ.out h6 (Z) (by first | (rw [if_pos om];omega) | (rw [if_neg om]))
  have f:=hide (And.intro he (And.intro F (And.intro H G)));clear he F H G;go_wp2_with fail;go_loopw [8,54] (fun s8 E wr=>∃ k:Nat,E=.int .i64 k∧k≤j∧s8=.int .i64 (Z-(k:Int))∧bR wr w c∧w.heap.size<wr.heap.size∧Below w w wr) (fun _ E _=>(7-intOf E).toNat)
  case atStart=>exact ⟨0,rfl,by omega,by simp,ad.out,aq,ac.out⟩
  case round =>
   obtain ⟨k,rfl,aa,rfl,hQ,hz,hB⟩:=hrel;have HQ:=hide hQ;have HB:=hide hB;clear q0 q1 q2 q3 q4 q5 q6 q7 q8 q9 I J O U;obtain ⟨q0,q1,q2,q3,q4,q5,q6,q7,q8,q9,I,J,O,U⟩:=HQ.out;have hi:=f.out.2.1 k aa;have hI:=hide (show nC (Z-(k:Int))=0 by simp [nC,hi]);clear hi;by_cases ab:k=j
   ·subst ab
    have Y:=hide f.out.2.2.1;go_wp2_with fail;refine (cW _ _).mono ?_;rintro e w' ⟨rfl,rfl⟩;rw [hI.out,Y.out];go_wp2;go_ret2;exact ⟨by rw [f.out.1];rfl,HB.out⟩
   ·have Y:=f.out.2.2.2 k om
    obtain ⟨W,o⟩:∃ W,W=rF (Z-(k:Int)):=⟨_,rfl⟩;rw [← o] at Y;have V:=hide o;clear o;go_wp2_with fail;refine (cW _ _).mono ?_;rintro e w' ⟨rfl,rfl⟩;rw [hI.out,← V.out];go_wp2
    all_goals first
     | (exfalso;omega)
     | skip
    go_roundw
    case rel=>exact ⟨k+1,by go_num,by omega,by simp;omega,HQ.out,hz,HB.out⟩
    case measure=>simp [intOf];omega
 ·obtain ⟨j,hj,he,F,H,G⟩:=HJ.out h6 (Z) (by first | (rw [if_pos om];omega) | (rw [if_neg om]))
  have f:=hide (And.intro he (And.intro F (And.intro H G)));clear he F H G;go_wp2_with fail;go_loopw [8,54] (fun s8 E wr=>∃ k:Nat,E=.int .i64 k∧k≤j∧s8=.int .i64 (Z-(k:Int))∧bR wr w c∧w.heap.size<wr.heap.size∧Below w w wr) (fun _ E _=>(7-intOf E).toNat)
  case atStart=>exact ⟨0,rfl,by omega,by simp,ad.out,aq,ac.out⟩
  case round =>
   obtain ⟨k,rfl,aa,rfl,hQ,hz,hB⟩:=hrel;have HQ:=hide hQ;have HB:=hide hB;clear q0 q1 q2 q3 q4 q5 q6 q7 q8 q9 I J O U;obtain ⟨q0,q1,q2,q3,q4,q5,q6,q7,q8,q9,I,J,O,U⟩:=HQ.out;have hi:=f.out.2.1 k aa;have hI:=hide (show nC (Z-(k:Int))=0 by simp [nC,hi]);clear hi;by_cases ab:k=j
   ·subst ab
    have Y:=hide f.out.2.2.1;go_wp2_with fail;refine (cW _ _).mono ?_;rintro e w' ⟨rfl,rfl⟩;rw [hI.out,Y.out];go_wp2;go_ret2;exact ⟨by rw [f.out.1];rfl,HB.out⟩
   ·have Y:=f.out.2.2.2 k om
    obtain ⟨W,o⟩:∃ W,W=rF (Z-(k:Int)):=⟨_,rfl⟩;rw [← o] at Y;have V:=hide o;clear o;go_wp2_with fail;refine (cW _ _).mono ?_;rintro e w' ⟨rfl,rfl⟩;rw [hI.out,← V.out];go_wp2
    all_goals first
     | (exfalso;omega)
     | skip
    go_roundw
    case rel=>exact ⟨k+1,by go_num,by omega,by simp;omega,HQ.out,hz,HB.out⟩
    case measure=>simp [intOf];omega
 ·obtain ⟨j,hj,he,F,H,G⟩:=HJ.out h6 (Z+3) (by first | (rw [if_pos om];omega) | (rw [if_neg om]))
  obtain ⟨D,hD⟩:∃ D,D=Z+3:=⟨_,rfl⟩;have a5:30≤D∧D<3068037:=om;rw [← hD] at he F H G;have a1:=hide hD;clear hD;have f:=hide (And.intro he (And.intro F (And.intro H G)));clear he F H G;have g6:(c.kind==6)=false:=by simpa using h6
  have g4:(c.kind != 4)=true:=by simpa using h4
  have g1:(c.kind != 1)=true:=by simpa using h1
  go_wp2_with fail;rw [← a1.out];go_loopw [8,54] (fun s8 E wr=>∃ k:Nat,E=.int .i64 k∧k≤j∧s8=.int .i64 (D-(k:Int))∧bR wr w c∧w.heap.size<wr.heap.size∧Below w w wr) (fun _ E _=>(7-intOf E).toNat)
  case atStart=>exact ⟨0,rfl,by omega,by simp,ad.out,aq,ac.out⟩
  case round =>
   obtain ⟨k,rfl,aa,rfl,hQ,hz,hB⟩:=hrel;have HQ:=hide hQ;have HB:=hide hB;clear q0 q1 q2 q3 q4 q5 q6 q7 q8 q9 I J O U;obtain ⟨q0,q1,q2,q3,q4,q5,q6,q7,q8,q9,I,J,O,U⟩:=HQ.out;have hi:=f.out.2.1 k aa;have hI:=hide (show nC (D-(k:Int))=0 by simp [nC,hi]);clear hi;by_cases ab:k=j
   ·subst ab
    have Y:=hide f.out.2.2.1;go_wp2_with fail;refine (cW _ _).mono ?_;rintro e w' ⟨rfl,rfl⟩;rw [hI.out,Y.out];go_wp2;go_ret2;exact ⟨by rw [f.out.1];rfl,HB.out⟩
   ·have Y:=f.out.2.2.2 k om
    obtain ⟨W,o⟩:∃ W,W=rF (D-(k:Int)):=⟨_,rfl⟩;rw [← o] at Y;have V:=hide o;clear o;go_wp2_with fail;refine (cW _ _).mono ?_;rintro e w' ⟨rfl,rfl⟩;rw [hI.out,← V.out];go_wp2
    all_goals first
     | (exfalso;omega)
     | skip
    go_roundw
    case rel=>exact ⟨k+1,by go_num,by omega,by simp;omega,HQ.out,hz,HB.out⟩
    case measure=>simp [intOf];omega
theorem kF {c:aC} {y:Int} (h:aP c y 1601=0):aP c (y-1) 1600=0:=by
 obtain ⟨f,o,E⟩:=br h;have:c.okB=true:=by simpa [aC.okB] using f
 simp [aP,this];omega
theorem mB {c:aC} {y:Int} (h:aP c y 1601=0):aF c y=bB c (y-1)+1:=by
 simp [aF,bB,h,kF h]
end
end Go.Proofs.YtpebkobmhhnojaaGreatDoor
