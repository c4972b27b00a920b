/- The closed facts of the row of TopUnits, one by one. -/
import Derived.Test.YtpebkobmhhnojaaGreatDoorTp12
import Derived.Test.YtpebkobmhhnojaaGreatDoorTp13
import Derived.Test.YtpebkobmhhnojaaGreatDoorTp33
set_option linter.unusedSimpArgs false
set_option linter.unusedVariables false
set_option maxRecDepth 100000
set_option maxHeartbeats 12800000
namespace Go.Proofs.YtpebkobmhhnojaaGreatDoor
section
open Go.RowKit Qd
theorem mD {c:aC} {d lv:Int} (h:fq c d lv=0):∃ i:Nat,gj c d lv=⟨lv,aH c d,(i:Int)+1⟩∧aU c (gj c d lv)=0∧dD c (gj c d lv)=⟨cf c (aH c d) (aX c (aH c d) lv i),cf c (aH c d) (aX c (aH c d) lv (i+1))-1⟩∧dz c (gj c d lv)=aX c (aH c d) lv i∧dT c (gj c d lv)=aX c (aH c d) lv (i+1)∧cf c (aH c d) (aX c (aH c d) lv i)≤d∧d<cf c (aH c d) (aX c (aH c d) lv (i+1)):=by
 obtain ⟨J,V,W,O,I,U,f⟩:=eW h;obtain ⟨i,e,hi,G,H⟩:=oA h;obtain ⟨o,E,F⟩:=ju f i hi;rw [e];exact ⟨i,rfl,o,jR f i hi,E,F,G,H⟩
theorem Dm {c:aC} {d lv f:Int} (h:fq c d lv=0) (G:1≤f) (h2:f≤lv):fq c d f=0∧tH c (gj c d lv) f=0∧tR c (gj c d lv) f=gj c d f:=by
 obtain ⟨hk,l1,l5,hs,hd,hy,hf⟩:=eW h;obtain ⟨i,e,J,_,ea,eb,ha,hb⟩:=mD h;have I:(gj c d lv).lv=lv:=by rw [e]
 have o:(gj c d lv).yr=aH c d:=by rw [e]
 obtain ⟨k,Y,O,F,U,V⟩:=qQ (lv:=f) J G (by rw [I];exact h2);rw [o,ea] at U;rw [o,eb] at V;rw [o] at O F;have H:=kl hf f G om;have E:=hy.1;have hc:=cu c (aH c d) E f G om (k+1) F;have b1:=cj c (aH c d) E U (by
  have:=cu c (aH c d) E lv l1 l5 i (by have:=(ev J).2.2.2.2.2;have W:=(ev J).2.2.2.2.1;rw [e] at this W;simp [uI] at this W;omega);exact this)
 have b2:=cj c (aH c d) E V hc;have:=Dy H k F (d:=d) om om;exact ⟨this.1,Y,by rw [O,this.2.2.2]⟩
theorem sT {c:aC} {u:Un} (h:aU c u=0) (d:Int) (f:(dD c u).a≤d) (o:d≤(dD c u).b):fq c d u.lv=0∧gj c d u.lv=u:=by
 obtain ⟨E,F,G,I,H,hi⟩:=ev h;rw [iQ h] at f o;simp only at f o;have:=Dy E (uI u) hi (d:=d) f (show d<cf c u.yr (aX c u.yr u.lv (uI u+1)) by have:dT c u=aX c u.yr u.lv (uI u+1):=rfl;rw [← this];omega);exact ⟨this.1,by rw [this.2.2.2,← H]⟩
theorem zV (c:aC) (y:Int) (h:aP c y 1601=0):bM c y≤371:=by
 by_cases o:c.kind=6
 ·obtain ⟨f,G,H⟩:=br h
  obtain ⟨J,O,_,I⟩:=bN f;have F:=fM h;have E:=kI (y-1+c.shift) c.month F om;have e:y-1+c.shift+1=y+c.shift:=om;rw [e] at E;simp [bM,aF,bB,h,dj h,bW,o];omega
 ·have:=dt c y h o
  omega
theorem EB {c:aC} {u:Un} (h:aU c u=0):(dD c u).b-(dD c u).a≤370:=by
 obtain ⟨I,G,H,f,J,hi⟩:=ev h;have o:=iR h;rw [iQ h];have E:=cj c u.yr f (Nat.zero_le (dz c u)) om;have F:=cj c u.yr f o.2 (Nat.le_refl _);rw [iv] at E;rw [dy c u.yr f] at F;have:=zV c u.yr f;simp [bM,f] at this;simp only;omega
theorem De {c:aC} {u:Un} (h:aU c u=0) (f:Int) (H:1≤f) (I:f≤u.lv) :
  tH c u f=0∧aU c (tR c u f)=0∧fq c (dD c u).a f=0∧gj c (dD c u).a f=tR c u f∧fq c (dD c u).b f=0∧gj c (dD c u).b f=tR c u f ∧
  (dD c (tR c u f)).a≤(dD c u).a∧(dD c u).b≤(dD c (tR c u f)).b:=by
 obtain ⟨b0,G,b2⟩:=yh h;obtain ⟨U,V⟩:=sT h (dD c u).a om G;obtain ⟨z1,z2⟩:=sT h (dD c u).b G om;have o:=Dm U H I;have E:=Dm z1 H I;rw [V] at o;rw [z2] at E;obtain ⟨i,e,O,J,_,_,W,hb⟩:=mD o.1;obtain ⟨i2,e2,ab,F,_,_,Y,aa⟩:=mD E.1;rw [← o.2.2] at O J;rw [← E.2.2] at F;refine ⟨o.2.1,O,o.1,o.2.2.symm,E.1,E.2.2.symm,?_,?_⟩
 ·rw [J];exact W
 ·rw [F];simp only;omega
def rj (c:aC) (t:Int) (L:List Un) (k:Nat):Int:=match L[k]? with
 | some u=>(dD c u).a-1
 | none=>bB c t
theorem lk {c:aC} {t:Int} {L:List Un} {k:Nat} {u:Un} (h:L[k]?=some u):rj c t L k=(dD c u).a-1:=by simp [rj,h]
theorem ry {c:aC} {t:Int} {L:List Un} {k:Nat} (h:L.length≤k):rj c t L k=bB c t:=by simp [rj,List.getElem?_eq_none h]
theorem xj (c:aC) (lv f t:Int) (o:Nat) (O:0<o) (ht:f+(o:Int)=t+1) (G:∀ a:Nat,a<o→aR c lv (f+a)=0) :
    rj c t (aT c lv f o) 0=bB c (f-1)∧∀ (k:Nat) (u:Un),(aT c lv f o)[k]?=some u→aU c u=0∧u.lv=lv∧(dD c u).a=rj c t (aT c lv f o) k+1∧(dD c u).b=rj c t (aT c lv f o) (k+1):=by
  obtain ⟨k1,k2,k3⟩:=oI c lv f o O G;have F:∀ (k:Nat) (u:Un),(aT c lv f o)[k]?=some u→aU c u=0∧u.lv=lv:=fun k u h=>by
    obtain ⟨a,i,ha,hi,rfl,_⟩:=mA c lv f o k u h;exact ⟨fs (G a ha) hi,rfl⟩
  refine ⟨?_,fun k u h=>⟨(F k u h).1,(F k u h).2,by rw [lk h];omega,?_⟩⟩
  · rw [lk k2]
    have E:=G 0 O;rw [show f+((0:Nat):Int)=f by omega] at E;obtain ⟨_,_,U,W,_,_,H⟩:=bv E;have hc:0<aM c f lv:=by
      have:=(ev (F 0 _ k2).1).2.2.2.2.2;simpa [uI] using this
    have:=jR E 0 hc;rw [show (((0:Nat):Int)+1)=1 by omega] at this;rw [this];simp only;rw [ox,iv,mB H];omega
  · by_cases hk:k+1<(aT c lv f o).length
    · obtain ⟨v,hv⟩:∃ v,(aT c lv f o)[k+1]?=some v:=⟨_,List.getElem?_eq_getElem hk⟩
      obtain ⟨n1,n2⟩:=k1 k u v h hv;rw [lk hv];rcases nf (F k u h).1 with V | V
      · rw [n2] at V;omega
      · omega
    · have aa : k < (aT c lv f o).length := by
        by_cases hl:k<(aT c lv f o).length
        · exact hl
        · rw [List.getElem?_eq_none om] at h;simp at h
      have I:k=(aT c lv f o).length-1:=om;rw [ry om];rw [I,k3] at h;obtain rfl:=(Option.some.inj h).symm;have E:=G (o-1) om;have e:f+((o-1:Nat):Int)=f+(o:Int)-1:=om;rw [e] at E;obtain ⟨_,_,U,W,_,_,H⟩:=bv E;have J:=(ev (F _ _ k3).1).2.2.2.2;simp only [uI] at J;obtain ⟨n,Y⟩:∃ n,aM c (f+(o:Int)-1) lv=n+1:=⟨aM c (f+(o:Int)-1) lv-1,by omega⟩;have:=jR E n om;rw [Y];rw [show (((n+1:Nat):Int))=(n:Int)+1 by omega,this];simp only;rw [← Y,gu c _ lv U W,dy c _ H,show f+(o:Int)-1=t by omega];omega
end
end Go.Proofs.YtpebkobmhhnojaaGreatDoor
namespace Go.Proofs.YtpebkobmhhnojaaGreatDoor.topUnits
section
open Go.ChangeShapes Go.WideShapes Go.ChangeAt Go.RowKit
theorem j1:(Rows.topUnitsRow.wf (OpenSpec.ofChange Rows.topUnitsSpec))=true:=by kernel_rfl
theorem j2:(laidOutB Tryz.pinned.checked.prog)=true:=by kernel_rfl
theorem j3:(mapsRowed Tryz.pinned.checked.prog)=true:=by kernel_rfl
theorem j4:(Tryz.f3.params.all (Tryz.pinned.checked.prog.readableRec ·))=true:=by kernel_rfl
theorem j5:(namedTie Tryz.pinned.checked.prog Rows.topUnitsRow.named Rows.topUnitsSpec.vars)=true:=by kernel_rfl
theorem j6:((Rows.topUnitsRow.stops==[]))=true:=by kernel_rfl
theorem j7:((Tryz.pinned.checked.prog.stops==[]))=true:=by kernel_rfl
theorem j8:((Rows.topUnitsRow.knobs==[]))=true:=by kernel_rfl
theorem j9:((Tryz.pinned.checked.prog.stopKnobs==[]))=true:=by kernel_rfl
theorem FI:((Rows.topUnitsRow.inPlace==Tryz.pinned.checked.prog.inPlace 3))=true:=by kernel_rfl
theorem Gq:((Rows.topUnitsRow.unfollowed==Tryz.pinned.checked.prog.unfollowed 3))=true:=by kernel_rfl
theorem Gp:((Rows.topUnitsRow.recurses==Tryz.pinned.checked.prog.recurses 3))=true:=by kernel_rfl
theorem FF:((Rows.topUnitsRow.named==Tryz.pinned.checked.prog.varsNamed 3))=true:=by kernel_rfl
theorem FD:((Rows.topUnitsRow.maps==(Tryz.f3.params.toList++Rows.topUnitsSpec.plain.varTypes Tryz.pinned.checked.prog).any (Tryz.pinned.checked.prog.mapsRec ·)))=true:=by kernel_rfl
theorem GN:((Rows.topUnitsRow.ifaces==(Tryz.f3.params.toList++Rows.topUnitsSpec.plain.varTypes Tryz.pinned.checked.prog).any (Tryz.pinned.checked.prog.ifacesRec ·)))=true:=by kernel_rfl
theorem Gx:((Rows.topUnitsRow.mapsOut==Tryz.pinned.checked.prog.mapsAmong Tryz.f3.resultTypes.toList))=true:=by kernel_rfl
theorem FO:((Rows.topUnitsRow.loops==(Tryz.f3.params.toList++Rows.topUnitsSpec.plain.varTypes Tryz.pinned.checked.prog).any (Tryz.pinned.checked.prog.loopsFrom ·)))=true:=by kernel_rfl
theorem Fu:((Rows.topUnitsRow.wideKeys==(Tryz.f3.params.toList++Rows.topUnitsSpec.plain.varTypes Tryz.pinned.checked.prog++Tryz.f3.resultTypes.toList).any (Tryz.pinned.checked.prog.wideKeysFrom ·)))=true:=by kernel_rfl
theorem Gz:(Rows.topUnitsSpec.vars.all (Tryz.pinned.checked.prog.varReadable ·))=true:=by kernel_rfl
theorem Gm:(Tryz.f3.resultTypes.all (fun t=>Tryz.pinned.checked.prog.readableRec t&&decide (t<Tryz.pinned.checked.prog.types.size)))=true:=by kernel_rfl
theorem FP:((Rows.topUnitsRow.ifacesOut==Tryz.f3.resultTypes.toList.any (Tryz.pinned.checked.prog.ifacesRec ·)))=true:=by kernel_rfl
theorem Gd:((Rows.topUnitsRow.loopsOut==Tryz.f3.resultTypes.toList.any (Tryz.pinned.checked.prog.loopsFrom ·)))=true:=by kernel_rfl
theorem Fq:((Rows.topUnitsRow.plainKeys==Tryz.pinned.checked.prog.plainKeys))=true:=by kernel_rfl
theorem FK:(Rows.topUnitsRow.shortTexts.isNone)=true:=by kernel_rfl
theorem Gw:(Tryz.pinned.checked.prog.stopsHeard)=true:=by kernel_rfl
theorem Fj:(Tryz.pinned.checked.prog.mayEnter)=true:=by kernel_rfl
theorem Gu:((Rows.topUnitsRow.lifted==Tryz.pinned.checked.prog.liftsFinal))=true:=by kernel_rfl
theorem FU:((Tryz.pinned.checked.prog.make==some Rows.topUnitsRow.make))=true:=by kernel_rfl
theorem Fp:((Rows.topUnitsRow.pinned==Rows.topUnitsRow.pinnedBy))=true:=by kernel_rfl
theorem Gy:((Rows.topUnitsRow.veiled==(Tryz.f3.params.toList++Rows.topUnitsSpec.plain.varTypes Tryz.pinned.checked.prog++Tryz.f3.resultTypes.toList).any (Tryz.pinned.checked.prog.veiledRec ·)))=true:=by kernel_rfl
theorem Gi:(Rows.topUnitsRow.veiledFits Tryz.pinned.checked.prog Tryz.f3.params.toList (Tryz.f3.params.toList++Rows.topUnitsSpec.plain.varTypes Tryz.pinned.checked.prog++Tryz.f3.resultTypes.toList))=true:=by kernel_rfl
theorem mE:joinedFacts Tryz.pinned.checked.prog 3 Tryz.f3 Rows.topUnitsSpec Rows.topUnitsRow=true:=by
 unfold joinedFacts;rw [j1,j2,j3,j4,j5,j6,j7,j8,j9,FI,Gq,Gp,FF,FD,GN,Gx,FO,Fu,Gz,Gm,FP,Gd,Fq,FK,Gw,Fj,Gu,FU,Fp,Gy,Gi]
 kernel_rfl
end
end Go.Proofs.YtpebkobmhhnojaaGreatDoor.topUnits
