/- The closed facts of the row of TopWeeks, one by one. -/
import Derived.Test.YtpebkobmhhnojaaGreatDoorTp12
import Derived.Test.YtpebkobmhhnojaaGreatDoorTp13
import Derived.Test.YtpebkobmhhnojaaGreatDoorTp19
set_option linter.unusedSimpArgs false
set_option linter.unusedVariables false
set_option maxRecDepth 100000
set_option maxHeartbeats 12800000
namespace Go.Proofs.YtpebkobmhhnojaaGreatDoor
section
open Go.RowKit Qd
theorem BG (c:aC) (y:Int) (I:aP c y 1601=0) (G:¬ c.shape=4) (H:¬ c.shape=5) (k:Nat) (f:k<(bH c y).length) :
  pE c y k=cP c (dh c y) k:=by
 obtain ⟨O,U,V⟩:=br I;have E:bH c y=(List.range (eH c).toNat).map fun i=>dx c y (i+1)-1:=by simp [bH,G,H]
 rw [E] at f;simp at f;have o:∀ j:Nat,(j:Int)<eH c→cm c y j=dx c y (j+1)-1:=by
  intro j J;unfold cm;rw [E];simp [J]
 have F:aQ c y k=dx c y k:=by
  cases k with
  | zero=>simp [aQ,dx]
  | succ k=>rw [cJ,o k om];omega
 have h:dx c y (k+1)=dx c y k+7*cP c (dh c y) k:=rfl;unfold pE;rw [o k f,F,h];omega
theorem xp (y m:Int) (h1:1600≤y) (h2:y≤9998) (h3:1≤m) (h4:m≤12):io (bU y m 7)=m∧io (bU y m 7+7)=m % 12+1:=by
 have o:aL y m=true:=by simp [aL];omega
 have hl:=iO y m o;have hw:=eO y m;have H:cM y m=aN y (m+1)-aN y m:=by simp [cM,o]
 have h:bU y m 7=bZ y m-(fg y m-7+7) % 7:=by simp [bU,ik,o]
 obtain ⟨j,U⟩:∃ j,j=(fg y m-7+7) % 7:=⟨_,rfl⟩;have V:0≤j∧j≤6:=om;rw [← U] at h;have J:cN y m (cM y m-j)=true:=by simp [cN,o];omega
 have O:bU y m 7=fj y m (cM y m-j):=by rw [h];unfold bZ fj;omega
 refine ⟨by rw [O];exact (me J).2.1,?_⟩;by_cases W:m=12
 ·subst W
  have f:aL (y+1) 1=true:=by simp [aL];omega
  have G:=iO (y+1) 1 f;have E:cN (y+1) 1 (7-j)=true:=by simp [cN,f];omega
  have ys:=db y om om;have I:=eX y;have Y:=lU (y+1);have F:bU y 12 7+7=fj (y+1) 1 (7-j):=by
   rw [h];unfold bZ fj;rw [show (12:Int)+1=13 by omega] at H;omega
  rw [F,(me E).2.1];omega
 ·have f:aL y (m+1)=true:=by simp [aL];omega
  have G:=iO y (m+1) f;have E:cN y (m+1) (7-j)=true:=by simp [cN,f];omega
  have F:bU y m 7+7=fj y (m+1) (7-j):=by rw [h];unfold bZ fj;omega
  rw [F,(me E).2.1];omega
theorem Bs (c:aC) (y:Int) (o:aP c y 1601=0) (f:c.kind≠6) (k:Nat) (J:k<aV c y) :
  aQ c y (k+1)=aQ c y k+7*(lV c y k:Int)∧1≤lV c y k∧lV c y k≤6∧aF c y≤aQ c y k∧aQ c y (k+1)≤bB c y+1 ∧
  (c.shape=4→io (aQ c y (k+1)-1)≠io (aQ c y (k+1)-1+7)) ∧
  (c.shape≠4→(lV c y k:Int)=iC c k+if (k:Int)+1=c.extra∧bM c y=371 then 1 else 0):=by
 obtain ⟨G,aA,aB⟩:=br o;obtain ⟨s4,s6,ao,aq⟩:=ef G;have I:¬ c.shape=5:=fun h=>f (s6.2 h)
 have V:=kC c y o k J;have hc:=t7 c y o f (k+1) J;have ad:=t7 c y o f k om;have ah:co c y (k+1)=co c y k+lV c y k:=rfl;have al:=km c y (k:=k+1) (m:=aV c y) J;have ac:=t7 c y o f (aV c y) (Nat.le_refl _);have E:=(fR c y o).1;rw [show (bH c y).length=aV c y from rfl] at E;have Y:(lV c y k:Int)=pE c y k:=by
  unfold lV at V ⊢;omega
 refine ⟨by omega,V.1,V.2,by omega,by omega,fun U=>?_,fun U=>?_⟩
 ·have eL:bH c y=kq y:=by simp [bH,U]
  have F:k<12:=by
   have:aV c y=12:=by unfold aV;rw [eL];simp [kq]
   omega
  have eA:aQ c y (k+1)=bU y ((k:Int)+1) 7+1:=by rw [cJ];unfold cm;rw [eL];simp [kq,vi,F]
  have:=xp y ((k:Int)+1) om om om om;rw [eA,show bU y ((k:Int)+1) 7+1-1=bU y ((k:Int)+1) 7 by omega,this.1,this.2];omega
 ·have ab:=BG c y o U I k J
  rw [Y,ab];have H:c.okB=true:=by simpa [aC.okB] using G
  have W:=dt c y o f;have aa:dh c y=bM c y / 7:=by simp [dh,j0,H,f]
  unfold cP;rw [aa];by_cases O:(k:Int)+1=c.extra
  ·rw [if_pos O]
   rcases W with h | h
   ·rw [h,if_neg om];omega
   ·rw [h,if_pos ⟨O,rfl⟩];omega
  ·rw [if_neg O,if_neg (fun h=>O h.1)]
theorem sq (c:aC) (y:Int) (f:aP c y 1601=0) (h:c.kind≠6):0≤aF c y∧bB c y<3068037-20∧aF c y=bB c (y-1)+1∧(aF c y+5) % 7+1=c.day % 7+1∧1≤c.day∧c.day≤7 ∧
    (bM c y=364∨bM c y=371)∧bB c y-bB c (y-1)=bM c y:=by
  obtain ⟨E,V,W⟩:=br f;obtain ⟨hm,hs,hk,H⟩:=bN E;have o:=H h;have G:=dm c y f;have hD:bM c y=bB c y-aF c y+1:=by simp [bM,f]
  have O:=mB f;have F:=dt c y f h;have t0:=fM f;have Y:=gY f om;have hw:(bB c (y-1)+5) % 7+1=c.day:=by
    have e:bB c (y-1)=bW c (y-1+c.shift):=by simp [bB,kF f]
    rw [e];exact lO c _ E h
  have J:=iF _ c.month Y om;have he:bB c y=bW c (y+c.shift):=by simp [bB,dj f]
  have U:=eO (y+c.shift) c.month;have I:bW c (y+c.shift)≤bZ (y+c.shift) c.month+3:=by
    unfold bW dJ
    split
    · omega
    · first
        | omega
        | (split <;> omega)
  refine ⟨G.1,by omega,O,by omega,o.1,o.2,F,by omega⟩
theorem zf {c:aC} {y:Int} (f:aR c 4 y=0) (k:Nat) (E:k<aV c y):dD c ⟨4,y,(k:Int)+1⟩=⟨aQ c y k,aQ c y (k+1)-1⟩∧aU c ⟨4,y,(k:Int)+1⟩=0:=by
 obtain ⟨_,_,F,G,_,_,h⟩:=bv f;have o:k<aM c y 4:=by rw [DF];exact E
 have e:∀ i,aX c y 4 i=co c y i:=fun i=>by simp [aX,fx]
 refine ⟨?_,(ju f k o).1⟩;rw [jR f k o,e,e,qJ c y h k om,qJ c y h (k+1) E]
theorem BD {c:aC} {y:Int} (f:aR c 1 y=0):dD c ⟨1,y,1⟩=⟨aF c y,bB c y⟩∧aU c ⟨1,y,1⟩=0:=by
 obtain ⟨_,_,G,H,_,_,F⟩:=bv f;have h:0<aM c y 1:=by simp [aM]
 have o:=jR f 0 h;have E:=(ju f 0 h).1;rw [show (((0:Nat):Int)+1)=1 by omega] at o E;refine ⟨?_,E⟩;rw [o,ox,iv];have:aX c y 1 (0+1)=ce c y:=by
  have:=gu c y 1 om om;simpa [aM] using this
 rw [this,dy c y F];simp
theorem oo (c:aC) (k m:Nat) (E:Int) (lb:Bool) (w:World) (f:c.shape=1∨c.shape=2∨c.shape=3∨c.shape=4) (hE:0≤E∧E+7<3068037) (hk:k≤60) (hm:m≤60)
  (h4:c.shape=4→io E≠io (E+7)) (hW:c.shape≠4→(m:Int)=iC c k+if (k:Int)+1=c.extra∧lb=true then 1 else 0) :
  Calls Tryz.prog 16 #[aI c,.int .i64 ((k:Int)+1),.int .i64 (m:Int),E,.bool lb] w fun e w'=>e=.returned (.bool true)∧Below w w w':=by
 have aA:=hide (show cH E=true by simp [cH];omega);have aB:=hide (show cH (E+1)=true by simp [cH];omega);have a0:=hide (show cH (E+7)=true by simp [cH];omega);have H4:=hide h4;have HW:=hide hW;clear h4 hW;simp only [aI];go_enter Tryz.func16,Tryz.ntmps16;go_wp2_with fail;refine (im (E+1) _ aB.out).mono ?_;rintro e w1 ⟨rfl,U⟩;have a7:w.heap.size<w1.heap.size:=am U;have ao:Hid (Below w w w1):=ww U;have ah:=hide (az U af (be w c));obtain ⟨q0,q1,q2,q3,q4,q5,q6,q7,q8,q9,Y,aa,ab,ac⟩:=ah.out;clear U;go_wp2_with fail;refine (im (E+7) _ a0.out).mono ?_;rintro e w2 ⟨rfl,W⟩;have a8:w.heap.size<w2.heap.size:=am W;have F:Hid (Below w w w2):=au ao.out W;have ad:Hid (bR w2 w c):=by have hp:=ah.out;exact qq W
 clear q0 q1 q2 q3 q4 q5 q6 q7 q8 q9 Y aa ab ac;obtain ⟨q0,q1,q2,q3,q4,q5,q6,q7,q8,q9,Y,aa,ab,ac⟩:=ad.out;clear W;rcases f with f | f | f | f
 ·have e5:(c.shape==5)=false:=by simp [f]
  have e4:(c.shape==4)=false:=by simp [f]
  have e1:(c.shape==1)=true:=by simp [f]
  have e3:(c.shape==3)=false:=by simp [f]
  have o:=HW.out om;have al:w2.cell? ⟨w,6+k % 3,none⟩=some (.int .i64 (iC c k)):=by
   obtain ⟨_,_,_,_,_,_,p0,p1,p2,_,_,_,_,_⟩:=ad.out;have h3:k % 3=0∨k % 3=1∨k % 3=2:=om;rcases h3 with h3 | h3 | h3 <;> simp [h3,iC,eq,ee,eo,f] <;> assumption
  have a4:((k:Int) % 3).toNat=k % 3:=om;have a2:0≤(k:Int) % 3:=om;have a3:(k:Int) % 3<3:=om;obtain ⟨V,hV⟩:∃ V,V=iC c k:=⟨_,rfl⟩;rw [← hV] at o al;clear hV f;cases lb
  ·have H:(m:Int)=V:=by simpa using o
   clear o;go_wp2;go_ret;exact ⟨rfl,by have O:=F.out;(repeat' exact bel)⟩
  ·by_cases G:(k:Int)+1=c.extra
   ·have J:((k:Int)+1==c.extra)=true:=by simp [G]
    have H:(m:Int)=V+1:=by rw [o,if_pos ⟨G,rfl⟩]
    clear o G;go_wp2;go_ret;exact ⟨rfl,by have O:=F.out;(repeat' exact bel)⟩
   ·have J:((k:Int)+1==c.extra)=false:=by simp [G]
    have H:(m:Int)=V:=by rw [o,if_neg (fun h=>G h.1)];omega
    clear o G;go_wp2;go_ret;exact ⟨rfl,by have O:=F.out;(repeat' exact bel)⟩
 ·have e5:(c.shape==5)=false:=by simp [f]
  have e4:(c.shape==4)=false:=by simp [f]
  have e1:(c.shape==1)=false:=by simp [f]
  have e3:(c.shape==3)=false:=by simp [f]
  have o:=HW.out om;rw [show iC c k=4 by simp [iC,eq,ee,eo,f]] at o;clear f;cases lb
  ·have H:(m:Int)=4:=by simpa using o
   clear o;go_wp2;go_ret;exact ⟨rfl,by have O:=F.out;(repeat' exact bel)⟩
  ·by_cases G:(k:Int)+1=c.extra
   ·have J:((k:Int)+1==c.extra)=true:=by simp [G]
    have H:(m:Int)=5:=by rw [o,if_pos ⟨G,rfl⟩];omega
    clear o G;go_wp2;go_ret;exact ⟨rfl,by have O:=F.out;(repeat' exact bel)⟩
   ·have J:((k:Int)+1==c.extra)=false:=by simp [G]
    have H:(m:Int)=4:=by rw [o,if_neg (fun h=>G h.1)];omega
    clear o G;go_wp2;go_ret;exact ⟨rfl,by have O:=F.out;(repeat' exact bel)⟩
 ·have e5:(c.shape==5)=false:=by simp [f]
  have e4:(c.shape==4)=false:=by simp [f]
  have e1:(c.shape==1)=false:=by simp [f]
  have e3:(c.shape==3)=true:=by simp [f]
  have o:=HW.out om;rw [show iC c k=c.cycle by simp [iC,eq,ee,eo,f]] at o;clear f;cases lb
  ·have H:(m:Int)=c.cycle:=by simpa using o
   clear o;go_wp2;go_ret;exact ⟨rfl,by have O:=F.out;(repeat' exact bel)⟩
  ·by_cases G:(k:Int)+1=c.extra
   ·have J:((k:Int)+1==c.extra)=true:=by simp [G]
    have H:(m:Int)=c.cycle+1:=by rw [o,if_pos ⟨G,rfl⟩]
    clear o G;go_wp2;go_ret;exact ⟨rfl,by have O:=F.out;(repeat' exact bel)⟩
   ·have J:((k:Int)+1==c.extra)=false:=by simp [G]
    have H:(m:Int)=c.cycle:=by rw [o,if_neg (fun h=>G h.1)];omega
    clear o G;go_wp2;go_ret;exact ⟨rfl,by have O:=F.out;(repeat' exact bel)⟩
 ·have e5:(c.shape==5)=false:=by simp [f]
  have e4:(c.shape==4)=true:=by simp [f]
  have a6:(io E != io (E+7))=true:=by simpa using H4.out f
  clear f;go_wp2_with fail;refine (im E _ aA.out).mono ?_;rintro e w3 ⟨rfl,I⟩;have r1:=((ax.new w2 #[dr (E+7),io (E+7),xz (E+7)] 73).call I).cell 1;simp at r1;have a5:w2.heap.size<w3.heap.size:=am I;have a9:w.heap.size<w3.heap.size:=am I;have aq:Hid (Below w w w3):=au F.out I;have a1:Hid (bR w3 w c):=by have hp:=ad.out;exact qq I
  clear q0 q1 q2 q3 q4 q5 q6 q7 q8 q9 Y aa ab ac;obtain ⟨q0,q1,q2,q3,q4,q5,q6,q7,q8,q9,Y,aa,ab,ac⟩:=a1.out;clear I;go_wp2;go_ret;exact ⟨rfl,by have O:=aq.out;(repeat' exact bel)⟩
end
end Go.Proofs.YtpebkobmhhnojaaGreatDoor
namespace Go.Proofs.YtpebkobmhhnojaaGreatDoor.topWeeks
section
open Go.ChangeShapes Go.WideShapes Go.ChangeAt Go.RowKit
theorem j1:(Rows.topWeeksRow.wf (OpenSpec.ofChange Rows.topWeeksSpec))=true:=by kernel_rfl
theorem j2:(laidOutB Tryz.pinned.checked.prog)=true:=by kernel_rfl
theorem j3:(mapsRowed Tryz.pinned.checked.prog)=true:=by kernel_rfl
theorem j4:(Tryz.f4.params.all (Tryz.pinned.checked.prog.readableRec ·))=true:=by kernel_rfl
theorem j5:(namedTie Tryz.pinned.checked.prog Rows.topWeeksRow.named Rows.topWeeksSpec.vars)=true:=by kernel_rfl
theorem j6:((Rows.topWeeksRow.stops==[]))=true:=by kernel_rfl
theorem j7:((Tryz.pinned.checked.prog.stops==[]))=true:=by kernel_rfl
theorem j8:((Rows.topWeeksRow.knobs==[]))=true:=by kernel_rfl
theorem j9:((Tryz.pinned.checked.prog.stopKnobs==[]))=true:=by kernel_rfl
theorem FI:((Rows.topWeeksRow.inPlace==Tryz.pinned.checked.prog.inPlace 4))=true:=by kernel_rfl
theorem Gq:((Rows.topWeeksRow.unfollowed==Tryz.pinned.checked.prog.unfollowed 4))=true:=by kernel_rfl
theorem Gp:((Rows.topWeeksRow.recurses==Tryz.pinned.checked.prog.recurses 4))=true:=by kernel_rfl
theorem FF:((Rows.topWeeksRow.named==Tryz.pinned.checked.prog.varsNamed 4))=true:=by kernel_rfl
theorem FD:((Rows.topWeeksRow.maps==(Tryz.f4.params.toList++Rows.topWeeksSpec.plain.varTypes Tryz.pinned.checked.prog).any (Tryz.pinned.checked.prog.mapsRec ·)))=true:=by kernel_rfl
theorem GN:((Rows.topWeeksRow.ifaces==(Tryz.f4.params.toList++Rows.topWeeksSpec.plain.varTypes Tryz.pinned.checked.prog).any (Tryz.pinned.checked.prog.ifacesRec ·)))=true:=by kernel_rfl
theorem Gx:((Rows.topWeeksRow.mapsOut==Tryz.pinned.checked.prog.mapsAmong Tryz.f4.resultTypes.toList))=true:=by kernel_rfl
theorem FO:((Rows.topWeeksRow.loops==(Tryz.f4.params.toList++Rows.topWeeksSpec.plain.varTypes Tryz.pinned.checked.prog).any (Tryz.pinned.checked.prog.loopsFrom ·)))=true:=by kernel_rfl
theorem Fu:((Rows.topWeeksRow.wideKeys==(Tryz.f4.params.toList++Rows.topWeeksSpec.plain.varTypes Tryz.pinned.checked.prog++Tryz.f4.resultTypes.toList).any (Tryz.pinned.checked.prog.wideKeysFrom ·)))=true:=by kernel_rfl
theorem Gz:(Rows.topWeeksSpec.vars.all (Tryz.pinned.checked.prog.varReadable ·))=true:=by kernel_rfl
theorem Gm:(Tryz.f4.resultTypes.all (fun t=>Tryz.pinned.checked.prog.readableRec t&&decide (t<Tryz.pinned.checked.prog.types.size)))=true:=by kernel_rfl
theorem FP:((Rows.topWeeksRow.ifacesOut==Tryz.f4.resultTypes.toList.any (Tryz.pinned.checked.prog.ifacesRec ·)))=true:=by kernel_rfl
theorem Gd:((Rows.topWeeksRow.loopsOut==Tryz.f4.resultTypes.toList.any (Tryz.pinned.checked.prog.loopsFrom ·)))=true:=by kernel_rfl
theorem Fq:((Rows.topWeeksRow.plainKeys==Tryz.pinned.checked.prog.plainKeys))=true:=by kernel_rfl
theorem FK:(Rows.topWeeksRow.shortTexts.isNone)=true:=by kernel_rfl
theorem Gw:(Tryz.pinned.checked.prog.stopsHeard)=true:=by kernel_rfl
theorem Fj:(Tryz.pinned.checked.prog.mayEnter)=true:=by kernel_rfl
theorem Gu:((Rows.topWeeksRow.lifted==Tryz.pinned.checked.prog.liftsFinal))=true:=by kernel_rfl
theorem FU:((Tryz.pinned.checked.prog.make==some Rows.topWeeksRow.make))=true:=by kernel_rfl
theorem Fp:((Rows.topWeeksRow.pinned==Rows.topWeeksRow.pinnedBy))=true:=by kernel_rfl
theorem Gy:((Rows.topWeeksRow.veiled==(Tryz.f4.params.toList++Rows.topWeeksSpec.plain.varTypes Tryz.pinned.checked.prog++Tryz.f4.resultTypes.toList).any (Tryz.pinned.checked.prog.veiledRec ·)))=true:=by kernel_rfl
theorem Gi:(Rows.topWeeksRow.veiledFits Tryz.pinned.checked.prog Tryz.f4.params.toList (Tryz.f4.params.toList++Rows.topWeeksSpec.plain.varTypes Tryz.pinned.checked.prog++Tryz.f4.resultTypes.toList))=true:=by kernel_rfl
theorem mE:joinedFacts Tryz.pinned.checked.prog 4 Tryz.f4 Rows.topWeeksSpec Rows.topWeeksRow=true:=by
 unfold joinedFacts;rw [j1,j2,j3,j4,j5,j6,j7,j8,j9,FI,Gq,Gp,FF,FD,GN,Gx,FO,Fu,Gz,Gm,FP,Gd,Fq,FK,Gw,Fj,Gu,FU,Fp,Gy,Gi]
 kernel_rfl
end
end Go.Proofs.YtpebkobmhhnojaaGreatDoor.topWeeks
