/- The closed facts of the row of TopRoll, one by one. -/
import Derived.Test.YtpebkobmhhnojaaGreatDoorTp13
import Derived.Test.YtpebkobmhhnojaaGreatDoorTp43
set_option linter.unusedSimpArgs false
set_option linter.unusedVariables false
set_option maxRecDepth 100000
set_option maxHeartbeats 12800000
namespace Go.Proofs.YtpebkobmhhnojaaGreatDoor
section
open Go.RowKit Qd
theorem zo (f:Un→List Int) (y:Int) (a m n:Nat):en f y a (m+n)=en f y a m++en f y (a+m) n:=by
 induction n with
 | zero=>simp [en]
 | succ n h =>
  rw [← Nat.add_assoc,en,h,en,List.append_assoc];congr 3;simp only [Un.mk.injEq,true_and];omega
theorem xw {c:aC} {y lv:Int} (I:aR c lv y=0) (P:List Po) (f:Un→List Int) (i m:Nat) (h:i+m≤aM c y lv) :
  (cI (fun j:Nat=>(ij c ⟨lv,y,((i+j:Nat):Int)+1⟩ P f).sum) m).sum=(en f y (aX c y lv i) (aX c y lv (i+m)-aX c y lv i)).sum+(kp ⟨cf c y (aX c y lv i),cf c y (aX c y lv (i+m))-1⟩ P).sum:=by
 obtain ⟨W,hk,E,F,_,_,o⟩:=bv I
 induction m with
 | zero=>rw [Nat.add_zero,yG,Nat.sub_self];rfl
 | succ m Y =>
  obtain ⟨V,G,H⟩:=ju I (i+m) om;have J:=dM c y o lv E F (show i≤i+m by omega) om;have O:=iw c y o lv E F (i+m) om;have U:=cu c y o lv E F (i+m+1) om;rw [cn,List.sum_append,Y om];simp only [List.sum_cons,List.sum_nil];rw [ij,G,H,iQ V,G,H,List.sum_append,show i+(m+1)=i+m+1 by omega];rw [show aX c y lv (i+m+1)-aX c y lv i=(aX c y lv (i+m)-aX c y lv i)+(aX c y lv (i+m+1)-aX c y lv (i+m)) by omega,zo,List.sum_append,show aX c y lv i+(aX c y lv (i+m)-aX c y lv i)=aX c y lv (i+m) by omega];rw [← Cd P (cj c y o J om) (cj c y o (Nat.le_of_lt O) U)];simp only;omega
theorem lj {c:aC} {lv y:Int} {P:List Po} {A:List Ac} {Z:dW} (h:dw c lv y P A Z=0):aR c lv y=0∧fu P A=0∧Z.pe y=0∧∀ j:Nat,j<aM c y lv→TE c P A Z ⟨lv,y,(j:Int)+1⟩=0:=by
 unfold dw at h
 split at h
 ·rename_i h1
  split at h
  ·rename_i h2
   split at h
   ·rename_i h3
    exact ⟨h1,h2,h3,fun j f=>AO h _ (List.mem_of_getElem? (FW f))⟩
   ·rename_i h3;exact absurd h h3
  ·rename_i h2;exact absurd h h2
 ·rename_i h1;exact absurd h h1
def gK (c:aC) (y lv fine:Int) (k:Nat):Nat:=jt c y lv (aX c y fine k)
def i6 (g:Nat→Nat) (k:Nat):Bool:=decide (k=0) || !decide (g (k-1)=g k)
def gB (g:Nat→Nat) (f:Nat→Int) (k:Nat):Nat→List Int
 | 0=>[]
 | j+1=>if g (k+j)=g k then gB g f k j++[f (k+j)] else gB g f k j
def rD (g:Nat→Nat) (f:Nat→Int) (n:Nat):Nat→Bool
 | 0=>false
 | i+1=>rD g f n i || (i6 g i&&decide (iH (gB g f i (n-i)).sum≠0))
theorem grp_len (g:Nat→Nat) (f:Nat→Int) (k:Nat):∀ j,(gB g f k j).length≤j
 | 0=>by simp [gB]
 | j+1=>by
  have:=grp_len g f k j;unfold gB
  split
  ·simp;omega
  ·omega
theorem uk (g:Nat→Nat) (f:Nat→Int) (k m:Nat) (o:∀ j,j<m→g (k+j)=g k):∀ r,(∀ j,m≤j→j<m+r→g (k+j)≠g k)→gB g f k (m+r)=cI (fun j:Nat=>f (k+j)) m
 | 0,_=>by
  rw [Nat.add_zero]
  induction m with
  | zero=>rw [xq];rfl
  | succ m E =>
   rw [gB,if_pos (o m om),E (fun j F=>o j om) (fun j a b=>by omega),cn]
 | r+1,h=>by
  rw [← Nat.add_assoc,gB,if_neg (h (m+r) om om)];exact uk g f k m o r (fun j a b=>h j a om)
theorem qb {c:aC} {P:List Po} {A:List Ac} {Z:dW}:∀ {L:List Un},(∀ x∈L,TE c P A Z x=0)→dL c P A Z L=0
 | [],_=>rfl
 | x::l,h=>by rw [dL,if_pos (h x af)];exact qb fun z f=>h z (by simp [f])
theorem yM {g:Nat→Nat} {f:Nat→Int} {n:Nat}:∀ {i:Nat},rD g f n i=false→∀ k,k<i→i6 g k=true→iH (gB g f k (n-k)).sum=0
 | 0,_,k,hk,_=>by omega
 | i+1,h,k,hk,hf=>by
  rw [rD,Bool.or_eq_false_iff] at h;by_cases e:k=i
  ·subst e
   have:=h.2;rw [hf] at this;simpa using this
  ·exact yM h.1 k om hf
theorem Dl {g:Nat→Nat} {f:Nat→Int} {n:Nat}:∀ {i:Nat},(∀ k,k<i→i6 g k=true→iH (gB g f k (n-k)).sum=0)→rD g f n i=false
 | 0,_=>rfl
 | i+1,h=>by
  rw [rD,Bool.or_eq_false_iff];refine ⟨Dl fun k E=>h k om,?_⟩;cases o:i6 g i
  ·rfl
  ·simp [h i om o]
theorem t8 {c:aC} {y lv fine:Int} (E:aR c fine y=0) (h:1≤lv) (o:lv≤fine) (k:Nat) (F:k<aM c y fine) :
  tH c ⟨fine,y,(k:Int)+1⟩ lv=0∧tR c ⟨fine,y,(k:Int)+1⟩ lv=⟨lv,y,(gK c y lv fine k:Int)+1⟩∧gK c y lv fine k<aM c y lv:=by
 obtain ⟨_,_,U,J,_,_,H⟩:=bv E;obtain ⟨I,G,O⟩:=ju E k F;obtain ⟨_,f,_,_,_,_⟩:=qQ (lv:=lv) I h o;refine ⟨f,?_,(xV c y H lv fine h o J k F).1⟩;rw [tR,if_pos f,G];rfl
theorem F8 {c:aC} {y lv fine:Int} (V:aR c fine y=0) (J:1≤lv) (U:lv≤fine) (q:Nat) (W:q<aM c y lv) :
  ∃ i m:Nat,0<m∧i+m≤aM c y fine∧aX c y fine i=aX c y lv q∧aX c y fine (i+m)=aX c y lv (q+1)∧∀ k,k<aM c y fine→(gK c y lv fine k=q↔i≤k∧k<i+m):=by
 obtain ⟨_,_,G,F,_,_,E⟩:=bv V;have O:=kl V lv J om;obtain ⟨hU,Y,cb⟩:=ju O q W;obtain ⟨i,m,hm,f,_,_,H,I⟩:=Ah (lv:=fine) hU U F;rw [Y] at H;rw [cb] at I;simp only at H I f;refine ⟨i,m,hm,f,H,I,fun k hk=>⟨fun h=>?_,fun h=>?_⟩⟩
 ·have hu:=xV c y E lv fine J U F k hk
  unfold gK at h;rw [h] at hu;constructor
  ·rcases Nat.lt_or_ge k i with o | o
   ·have:=kg c y E fine G F o om
    omega
   ·exact o
  ·rcases Nat.lt_or_ge k (i+m) with o | o
   ·exact o
   ·have:=kg c y E fine G F (show i+m<k+1 by omega) om
    omega
 ·have a1:=dM c y E fine G F h.1 om
  have a2:=kg c y E fine G F h.2 f;exact oz c y E lv J om _ q W om om
theorem zL {c:aC} {y lv fine:Int} {P:List Po} {A:List Ac} {Z:dW} (hR:dw c fine y P A Z=0) (W:1≤lv) (h2:lv≤fine) (f:Nat→Int) (al:f=fun k:Nat=>TV c P A Z ⟨fine,y,(k:Int)+1⟩) :
    (∀ k,k<aM c y fine→i6 (gK c y lv fine) k=true→TV c P A Z ⟨lv,y,(gK c y lv fine k:Int)+1⟩=kh (gB (gK c y lv fine) f k (aM c y fine-k)).sum∧TE c P A Z ⟨lv,y,(gK c y lv fine k:Int)+1⟩=iH (gB (gK c y lv fine) f k (aM c y fine-k)).sum) ∧
    ((dw c lv y P A Z=0∧rD (gK c y lv fine) f (aM c y fine) (aM c y fine)=false)∨(dw c lv y P A Z=2∧rD (gK c y lv fine) f (aM c y fine) (aM c y fine)=true)):=by
  obtain ⟨F,hC,hp,Y⟩:=lj hR;obtain ⟨_,_,l1,l5,_,_,hA⟩:=bv F;have aa:=kl F lv W om;have J:∀ q,q<aM c y lv→∃ k,k<aM c y fine∧gK c y lv fine k=q∧i6 (gK c y lv fine) k=true∧TV c P A Z ⟨lv,y,(q:Int)+1⟩=kh (gB (gK c y lv fine) f k (aM c y fine-k)).sum∧TE c P A Z ⟨lv,y,(q:Int)+1⟩=iH (gB (gK c y lv fine) f k (aM c y fine-k)).sum∧∀ j,j<aM c y fine→gK c y lv fine j=q→i6 (gK c y lv fine) j=true→j=k:=by
    intro q J;obtain ⟨i,m,hm,aA,e1,e2,U⟩:=F8 F W h2 q J;have o:=(U i om).2 ⟨Nat.le_refl _,by omega⟩;have ao:∀ j,j<aM c y fine→gK c y lv fine j=q→i6 (gK c y lv fine) j=true→j=i:=by
      intro j H ad I;have:=(U j H).1 ad;rcases Nat.lt_or_ge i j with h3 | h3
      · have h4:=(U (j-1) om).2 ⟨by omega,by omega⟩
        unfold i6 at I;rw [h4,ad] at I;simp at I;omega
      · omega
    have aq:i6 (gK c y lv fine) i=true:=by
      unfold i6;rcases Nat.eq_zero_or_pos i with h3 | h3
      · simp [h3]
      · have h4 : gK c y lv fine (i - 1) ≠ q := fun h => by
          have:=(U (i-1) om).1 h;omega
        rw [o];simp [h4]
    have E:gB (gK c y lv fine) f i (aM c y fine-i)=cI (fun j:Nat=>f (i+j)) m:=by
      have:=uk (gK c y lv fine) f i m (fun j H=>by rw [o];exact (U (i+j) om).2 ⟨by omega,by omega⟩) (aM c y fine-i-m) (fun j a b=>by
        rw [o];intro h;have:=(U (i+j) om).1 h;omega)
      rwa [show m+(aM c y fine-i-m)=aM c y fine-i by omega] at this
    obtain ⟨hU,ca,cb⟩:=ju aa q J;obtain ⟨t1,t2⟩:=E5 (Z:=Z) hU hC hp;have hs:(cI (fun j:Nat=>f (i+j)) m).sum=(ij c ⟨lv,y,(q:Int)+1⟩ P (Z.f y)).sum:=by
      have e:cI (fun j:Nat=>f (i+j)) m=cI (fun j:Nat=>(ij c ⟨fine,y,((i+j:Nat):Int)+1⟩ P (Z.f y)).sum) m:=by
        refine rN fun j H=>?_
        rw [al];exact (E4 (Y (i+j) om)).2.2.2.2
      rw [e,xw F P _ i m aA,e1,e2,ij,List.sum_append,iQ hU,ca,cb]
    exact ⟨i,by omega,o,aq,by rw [E,hs];exact t2,by rw [E,hs];exact t1,ao⟩
  refine ⟨fun k V G=>?_,?_⟩
  · obtain ⟨k2,a1,a2,a3,a4,a5,a6⟩:=J _ (t8 F W h2 k V).2.2
    obtain rfl:=a6 k V rfl G;exact ⟨a4,a5⟩
  · have ah:dw c lv y P A Z=dL c P A Z (yU lv y (aM c y lv)):=by rw [dw,if_pos aa,if_pos hC,if_pos hp]
    have ab:∀ x∈yU lv y (aM c y lv),∃ q,q<aM c y lv∧x=⟨lv,y,(q:Int)+1⟩:=by
      intro x hx;obtain ⟨j,H⟩:=List.mem_iff_getElem?.1 hx;have ac:j<aM c y lv:=by
        have:=(List.getElem?_eq_some_iff.1 H).1
        rwa [Hy] at this
      rw [FW ac] at H;exact ⟨j,ac,(Option.some.inj H).symm⟩
    rcases zX (c:=c) (P:=P) (A:=A) (Z:=Z) (L:=yU lv y (aM c y lv)) (fun x hx=>by
      obtain ⟨q,O,rfl⟩:=ab x hx;obtain ⟨k,_,_,_,_,h,_⟩:=J q O;rw [h];unfold iH
      split
      · exact .inl rfl
      · exact .inr rfl) with ht | ht
    · left
      refine ⟨by rw [ah,ht.1],Dl fun k V G=>?_⟩;obtain ⟨k2,a1,a2,a3,a4,a5,a6⟩:=J _ (t8 F W h2 k V).2.2;obtain rfl:=a6 k V rfl G;rw [← a5];exact ht.2 _ (List.mem_of_getElem? (FW (t8 F W h2 k V).2.2))
    · right
      refine ⟨by rw [ah,ht],?_⟩;cases aB:rD (gK c y lv fine) f (aM c y fine) (aM c y fine)
      · exfalso
        have hz:dL c P A Z (yU lv y (aM c y lv))=0:=qb fun x hx=>by
          obtain ⟨q,O,rfl⟩:=ab x hx;obtain ⟨k,b1,b2,b3,_,h,_⟩:=J q O;rw [h];exact yM aB k b1 b3
        rw [ht] at hz;cases hz
      · rfl
end
end Go.Proofs.YtpebkobmhhnojaaGreatDoor
namespace Go.Proofs.YtpebkobmhhnojaaGreatDoor.topRoll
section
open Go.ChangeShapes Go.WideShapes Go.ChangeAt Go.RowKit
theorem j1:(Rows.topRollRow.wf (OpenSpec.ofChange Rows.topRollSpec))=true:=by kernel_rfl
theorem j2:(laidOutB Tryz.pinned.checked.prog)=true:=by kernel_rfl
theorem j3:(mapsRowed Tryz.pinned.checked.prog)=true:=by kernel_rfl
theorem j4:(Tryz.f5.params.all (Tryz.pinned.checked.prog.readableRec ·))=true:=by kernel_rfl
theorem j5:(namedTie Tryz.pinned.checked.prog Rows.topRollRow.named Rows.topRollSpec.vars)=true:=by kernel_rfl
theorem j6:((Rows.topRollRow.stops==[]))=true:=by kernel_rfl
theorem j7:((Tryz.pinned.checked.prog.stops==[]))=true:=by kernel_rfl
theorem j8:((Rows.topRollRow.knobs==[]))=true:=by kernel_rfl
theorem j9:((Tryz.pinned.checked.prog.stopKnobs==[]))=true:=by kernel_rfl
theorem FI:((Rows.topRollRow.inPlace==Tryz.pinned.checked.prog.inPlace 5))=true:=by kernel_rfl
theorem Gq:((Rows.topRollRow.unfollowed==Tryz.pinned.checked.prog.unfollowed 5))=true:=by kernel_rfl
theorem Gp:((Rows.topRollRow.recurses==Tryz.pinned.checked.prog.recurses 5))=true:=by kernel_rfl
theorem FF:((Rows.topRollRow.named==Tryz.pinned.checked.prog.varsNamed 5))=true:=by kernel_rfl
theorem FD:((Rows.topRollRow.maps==(Tryz.f5.params.toList++Rows.topRollSpec.plain.varTypes Tryz.pinned.checked.prog).any (Tryz.pinned.checked.prog.mapsRec ·)))=true:=by kernel_rfl
theorem GN:((Rows.topRollRow.ifaces==(Tryz.f5.params.toList++Rows.topRollSpec.plain.varTypes Tryz.pinned.checked.prog).any (Tryz.pinned.checked.prog.ifacesRec ·)))=true:=by kernel_rfl
theorem Gx:((Rows.topRollRow.mapsOut==Tryz.pinned.checked.prog.mapsAmong Tryz.f5.resultTypes.toList))=true:=by kernel_rfl
theorem FO:((Rows.topRollRow.loops==(Tryz.f5.params.toList++Rows.topRollSpec.plain.varTypes Tryz.pinned.checked.prog).any (Tryz.pinned.checked.prog.loopsFrom ·)))=true:=by kernel_rfl
theorem Fu:((Rows.topRollRow.wideKeys==(Tryz.f5.params.toList++Rows.topRollSpec.plain.varTypes Tryz.pinned.checked.prog++Tryz.f5.resultTypes.toList).any (Tryz.pinned.checked.prog.wideKeysFrom ·)))=true:=by kernel_rfl
theorem Gz:(Rows.topRollSpec.vars.all (Tryz.pinned.checked.prog.varReadable ·))=true:=by kernel_rfl
theorem Gm:(Tryz.f5.resultTypes.all (fun t=>Tryz.pinned.checked.prog.readableRec t&&decide (t<Tryz.pinned.checked.prog.types.size)))=true:=by kernel_rfl
theorem FP:((Rows.topRollRow.ifacesOut==Tryz.f5.resultTypes.toList.any (Tryz.pinned.checked.prog.ifacesRec ·)))=true:=by kernel_rfl
theorem Gd:((Rows.topRollRow.loopsOut==Tryz.f5.resultTypes.toList.any (Tryz.pinned.checked.prog.loopsFrom ·)))=true:=by kernel_rfl
theorem Fq:((Rows.topRollRow.plainKeys==Tryz.pinned.checked.prog.plainKeys))=true:=by kernel_rfl
theorem FK:(Rows.topRollRow.shortTexts.isNone)=true:=by kernel_rfl
theorem Gw:(Tryz.pinned.checked.prog.stopsHeard)=true:=by kernel_rfl
theorem Fj:(Tryz.pinned.checked.prog.mayEnter)=true:=by kernel_rfl
theorem Gu:((Rows.topRollRow.lifted==Tryz.pinned.checked.prog.liftsFinal))=true:=by kernel_rfl
theorem FU:((Tryz.pinned.checked.prog.make==some Rows.topRollRow.make))=true:=by kernel_rfl
theorem Fp:((Rows.topRollRow.pinned==Rows.topRollRow.pinnedBy))=true:=by kernel_rfl
theorem Gy:((Rows.topRollRow.veiled==(Tryz.f5.params.toList++Rows.topRollSpec.plain.varTypes Tryz.pinned.checked.prog++Tryz.f5.resultTypes.toList).any (Tryz.pinned.checked.prog.veiledRec ·)))=true:=by kernel_rfl
theorem Gi:(Rows.topRollRow.veiledFits Tryz.pinned.checked.prog Tryz.f5.params.toList (Tryz.f5.params.toList++Rows.topRollSpec.plain.varTypes Tryz.pinned.checked.prog++Tryz.f5.resultTypes.toList))=true:=by kernel_rfl
theorem mE:joinedFacts Tryz.pinned.checked.prog 5 Tryz.f5 Rows.topRollSpec Rows.topRollRow=true:=by
 unfold joinedFacts;rw [j1,j2,j3,j4,j5,j6,j7,j8,j9,FI,Gq,Gp,FF,FD,GN,Gx,FO,Fu,Gz,Gm,FP,Gd,Fq,FK,Gw,Fj,Gu,FU,Fp,Gy,Gi]
 kernel_rfl
end
end Go.Proofs.YtpebkobmhhnojaaGreatDoor.topRoll
