/- Lemmas. -/
import Derived.Test.YtjhhmeoibfdcmaaGreatWr42
set_option linter.unusedSimpArgs false
set_option linter.unusedVariables false
set_option maxRecDepth 100000
set_option maxHeartbeats 12800000
namespace Go.Proofs.YtjhhmeoibfdcmaaGreat
section
open Go.RowKit Qd
theorem cP.own {w E:World} {f:Option Nat} {g:Nat} {l:List (Int × Int)} (h:cP w g l) (F:w.grownBy E f) (o:f≠some g):cP E g l:=
 h.same (F.block g h.1 (fun e=>o e.symm))
theorem AB {c:ar} {lv:Int} {s:Sp} (h:bg c lv s=0) {a i:Nat} (ha:a<cR c lv s) (hi:i<aR c (aN c s.a+a) lv) :
  eH (mV c s.a lv) (mV c s.b lv) ⟨lv,aN c s.a+a,(i:Int)+1⟩=true↔(bD c (aN c s.a+a) (aW c (aN c s.a+a) lv i)≤s.b∧s.a≤bD c (aN c s.a+a) (aW c (aN c s.a+a) lv (i+1))-1):=by
 obtain ⟨hk,o,E,ah,S,T⟩:=eq h;obtain ⟨J,V,a1,a2,a3⟩:=qc S;obtain ⟨O,W,b1,b2,b3⟩:=qc T;obtain ⟨_,_,_,_,_,⟨yA,ay,aA⟩,fA⟩:=fh S;obtain ⟨_,_,_,_,_,⟨yB,aB,aF⟩,fB⟩:=fh T;have G:c.Ok:=by simpa [ar.okB] using hk
 have aq:aN c s.a+a≤aN c s.b:=by unfold cR at ha;omega
 rw [V,W,vf];simp only;generalize ab:aN c s.a=I at *;generalize ad:aN c s.b=R at *;have r1:=bo yA;have r2:=bo yB;generalize hY:I+(a:Int)=Y at *;have f:aO c Y 1601=0:=ja G om om;have al:=kx c Y f lv o E i hi;have H:=cT c Y f lv o E (i+1) om;have U:=eV c Y f;have h0:=kc c Y;constructor
 ·rintro ⟨k1,k2⟩
  constructor
  ·by_cases F:Y=R
   ·subst F
    have m:=dj c Y f lv o E (show i≤O by omega) om;have:=cn c Y f m (cT c Y f lv o E O om);omega
   ·have m:=ft c Y f (show aW c Y lv i<bW c Y by omega) (Nat.le_refl _)
    have:=dl c G (y:=Y) (z:=R) om om om;omega
  ·by_cases F:Y=I
   ·subst F
    have m:=dj c Y f lv o E (show J+1≤i+1 by omega) om;have:=cn c Y f m H;omega
   ·have m:=ft c Y f (show 0<aW c Y lv (i+1) by omega) H
    have:=dl c G (y:=I) (z:=Y) om om om;omega
 ·rintro ⟨k1,k2⟩
  constructor
  ·rintro ⟨F,hx⟩
   subst F;have m:=dj c Y f lv o E (show i+1≤J by omega) om;have:=cn c Y f m (cT c Y f lv o E J om);omega
  ·rintro ⟨F,hx⟩
   subst F;have m:=dj c Y f lv o E (show O+1≤i by omega) om;have:=cn c Y f m om;omega
theorem Gx {c:ar} {lv:Int} {s:Sp} (h:¬ bg c lv s=0):(eC c lv=1∧bg c lv s=1)∨(eC c lv=0∧s.b<s.a∧bg c lv s=1)∨(eC c lv=0∧s.a≤s.b∧¬ bQ c s.a=0∧bg c lv s=bQ c s.a)∨(eC c lv=0∧s.a≤s.b∧bQ c s.a=0∧¬ bQ c s.b=0∧bg c lv s=bQ c s.b):=by
 unfold bg at h ⊢;by_cases o:c.okB=true∧1≤lv∧lv≤5
 ·have F:eC c lv=0:=by rw [eC,if_pos o]
  by_cases f:s.a≤s.b
  ·have G:c.okB=true∧(1≤lv∧lv≤5)∧s.a≤s.b:=⟨o.1,o.2,f⟩
   rw [if_pos G] at h ⊢;rw [tN o.2.1 o.2.2,tN o.2.1 o.2.2] at h ⊢;by_cases E:bQ c s.a=0
   ·rw [if_pos E] at h ⊢
    exact .inr (.inr (.inr ⟨F,f,E,h,rfl⟩))
   ·rw [if_neg E]
    exact .inr (.inr (.inl ⟨F,f,E,rfl⟩))
  ·rw [if_neg (fun x=>f x.2.2)]
   exact .inr (.inl ⟨F,by omega,rfl⟩)
 ·rw [if_neg (fun x=>o ⟨x.1,x.2.1⟩),eC,if_neg o]
  exact .inl ⟨rfl,rfl⟩
theorem kz (w:World) (c:ar) (s:Sp):lQ ((w.alloc (bG c)).alloc (jB s)) (w.heap.size+1) s:=by
 refine ⟨?_,?_⟩ <;> simp [World.cell?_alloc_at]
theorem wa (c:ar) (lv:Int) (s:Sp) (w:World) (hn:c.name.size≤1000) (hE:¬ bg c lv s=0) :
  Calls Tryz.prog 63 #[av c,lv,bI s] w fun e w'=>e=.returned (.tuple #[.slice none 0 0,bg c lv s])∧Below w w w':=by
 rcases Gx hE with ⟨T,S⟩ | ⟨T,h3,S⟩ | ⟨T,h3,h4,S⟩ | ⟨T,h3,h4,h5,S⟩
 ·have HA:=hide T
  have HF:=hide S;clear hE T S;simp only [av,bI];go_enter Tryz.func63,Tryz.ntmps63;go_wp2_with fail;refine (fV c lv _ hn).mono ?_;rintro e R ⟨rfl,f⟩;rw [HA.out];have W:w.heap.size+1<R.heap.size:=aj f;have al:w.heap.size<R.heap.size:=om;have J:=hide (show Below w w R by (repeat' exact bel));have E:=hide (aa (B:=w.heap.size) (c:=c) f ae (az (au w c) ac _));have o:=hide (bu (B:=w.heap.size+1) (s:=s) f ac (kz w c s));obtain ⟨q0,q1,q2,q3,q4,q5,q6,q7,q8,q9,F,G,H,I⟩:=E.out;obtain ⟨p0,p1⟩:=o.out;clear f;have U:=J.out;go_wp2
  all_goals first
   | (exfalso;omega)
   | (go_ret2;exact ⟨by rw [HF.out];rfl,by (repeat' exact bel)⟩)
 ·have HA:=hide T
  have HF:=hide S;clear hE T S;simp only [av,bI];go_enter Tryz.func63,Tryz.ntmps63;go_wp2_with fail;refine (fV c lv _ hn).mono ?_;rintro e R ⟨rfl,f⟩;rw [HA.out];have W:w.heap.size+1<R.heap.size:=aj f;have al:w.heap.size<R.heap.size:=om;have J:=hide (show Below w w R by (repeat' exact bel));have E:=hide (aa (B:=w.heap.size) (c:=c) f ae (az (au w c) ac _));have o:=hide (bu (B:=w.heap.size+1) (s:=s) f ac (kz w c s));obtain ⟨q0,q1,q2,q3,q4,q5,q6,q7,q8,q9,F,G,H,I⟩:=E.out;obtain ⟨p0,p1⟩:=o.out;clear f;have U:=J.out;go_wp2
  all_goals first
   | (exfalso;omega)
   | (go_ret2;exact ⟨by rw [HF.out];rfl,by (repeat' exact bel)⟩)
 ·have HA:=hide T
  obtain ⟨SE,O⟩:∃ X,bQ c s.a=X:=⟨_,rfl⟩;rw [O] at S h4;have aF:(SE != 0)=true:=by simpa using h4
  have HF:=hide S;have HV:=hide O;clear hE T S h4 O;simp only [av,bI];go_enter Tryz.func63,Tryz.ntmps63;go_wp2_with fail;refine (fV c lv _ hn).mono ?_;rintro e R ⟨rfl,f⟩;rw [HA.out];have W:w.heap.size+1<R.heap.size:=aj f;have al:w.heap.size<R.heap.size:=om;have J:=hide (show Below w w R by (repeat' exact bel));have E:=hide (aa (B:=w.heap.size) (c:=c) f ae (az (au w c) ac _));have o:=hide (bu (B:=w.heap.size+1) (s:=s) f ac (kz w c s));obtain ⟨q0,q1,q2,q3,q4,q5,q6,q7,q8,q9,F,G,H,I⟩:=E.out;obtain ⟨p0,p1⟩:=o.out;clear f;go_wp2_with fail
  all_goals first
   | (exfalso;omega)
   | skip
  refine (fl c s.a _ hn).mono ?_;rintro e w2 ⟨rfl,h⟩;rw [HV.out];have aq:w.heap.size+1<w2.heap.size:=Nat.lt_of_lt_of_le W h.size;have a0:w.heap.size<w2.heap.size:=om;have ah:=hide (J.out.trans (h.mono om));have ad:=hide (aa h om E.out);have ab:=hide (bu h om o.out);clear q0 q1 q2 q3 q4 q5 q6 q7 q8 q9 F G H I;obtain ⟨q0,q1,q2,q3,q4,q5,q6,q7,q8,q9,F,G,H,I⟩:=ad.out;clear p0 p1;obtain ⟨p0,p1⟩:=ab.out;clear h;have U:=ah.out;go_wp2
  all_goals first
   | (exfalso;omega)
   | (go_ret2;exact ⟨by rw [HF.out];rfl,by (repeat' exact bel)⟩)
 ·have HA:=hide T
  obtain ⟨SE,O⟩:∃ X,bQ c s.b=X:=⟨_,rfl⟩;rw [O] at S h5;have aF:(SE != 0)=true:=by simpa using h5
  have HF:=hide S;have HV:=hide O;have HU:=hide h4;clear hE T S h4 h5 O;simp only [av,bI];go_enter Tryz.func63,Tryz.ntmps63;go_wp2_with fail;refine (fV c lv _ hn).mono ?_;rintro e R ⟨rfl,f⟩;rw [HA.out];have W:w.heap.size+1<R.heap.size:=aj f;have al:w.heap.size<R.heap.size:=om;have J:=hide (show Below w w R by (repeat' exact bel));have E:=hide (aa (B:=w.heap.size) (c:=c) f ae (az (au w c) ac _));have o:=hide (bu (B:=w.heap.size+1) (s:=s) f ac (kz w c s));obtain ⟨q0,q1,q2,q3,q4,q5,q6,q7,q8,q9,F,G,H,I⟩:=E.out;obtain ⟨p0,p1⟩:=o.out;clear f;go_wp2_with fail
  all_goals first
   | (exfalso;omega)
   | skip
  refine (fl c s.a _ hn).mono ?_;rintro e w2 ⟨rfl,h⟩;rw [HU.out];have aq:w.heap.size+1<w2.heap.size:=Nat.lt_of_lt_of_le W h.size;have a0:w.heap.size<w2.heap.size:=om;have ah:=hide (J.out.trans (h.mono om));have ad:=hide (aa h om E.out);have ab:=hide (bu h om o.out);clear q0 q1 q2 q3 q4 q5 q6 q7 q8 q9 F G H I;obtain ⟨q0,q1,q2,q3,q4,q5,q6,q7,q8,q9,F,G,H,I⟩:=ad.out;clear p0 p1;obtain ⟨p0,p1⟩:=ab.out;clear h;go_wp2_with fail;refine (fl c s.b _ hn).mono ?_;rintro e w3 ⟨rfl,V⟩;rw [HV.out];have a2:w.heap.size+1<w3.heap.size:=Nat.lt_of_lt_of_le aq V.size;have a1:w.heap.size<w3.heap.size:=om;have ay:=hide (ah.out.trans (V.mono om));have aB:=hide (aa V om ad.out);have aA:=hide (bu V om ab.out);clear q0 q1 q2 q3 q4 q5 q6 q7 q8 q9 F G H I;obtain ⟨q0,q1,q2,q3,q4,q5,q6,q7,q8,q9,F,G,H,I⟩:=aB.out;clear p0 p1;obtain ⟨p0,p1⟩:=aA.out;clear V;have U:=ay.out;go_wp2
  all_goals first
   | (exfalso;omega)
   | (go_ret2;exact ⟨by rw [HF.out];rfl,by (repeat' exact bel)⟩)
theorem mJ (c:ar) (lv:Int) (s:Sp) (w:World) (hn:c.name.size≤1000) (hE:bg c lv s=0) :
  Calls Tryz.prog 63 #[av c,lv,bI s] w (FP (be c lv s) w):=by
 obtain ⟨hk,cc,cl,d3,hA,hB⟩:=eq hE;obtain ⟨n0,o,ab,mm,nn,cp,hL,d7,_,_⟩:=gU hE;rw [tN cc cl] at hA hB;have r1:=bo (mU hA).2.2.1.1;have r2:=bo (mU hB).2.2.1.1;have HA:=hide (show eC c lv=0 by rw [eC,if_pos ⟨hk,cc,cl⟩]);have f:=hide (fun a i (ha:a<cR c lv s) (hi:i<aR c (aN c s.a+a) lv)=>AB hE ha hi);have HM:=hide (show be c lv s=(br c lv (aN c s.a) (cR c lv s)).filter (eH (mV c s.a lv) (mV c s.b lv)) by rw [be,if_pos hE]);have aq:0<(be c lv s).length:=by rw [hL];simp [List.length_take,List.length_drop];omega
 obtain ⟨K,hK⟩:∃ K,eH (mV c s.a lv) (mV c s.b lv)=K:=⟨_,rfl⟩;rw [hK] at HM f;obtain ⟨E,bd⟩:∃ y,aN c s.a=y:=⟨_,rfl⟩;obtain ⟨Yb,bh⟩:∃ y,aN c s.b=y:=⟨_,rfl⟩;obtain ⟨ny,cs⟩:∃ y,cR c lv s=y:=⟨_,rfl⟩;rw [bd] at ab f HM o r1;rw [bh] at o r2;rw [cs] at ab f HM o n0;rw [HM.out] at aq ⊢;obtain ⟨cE,cI⟩:=ui c lv E ny ab;have a5:=hide (fun a i (ha:a<ny) (hi:i<aR c (E+a) lv)=>sS c lv E a ny i ha hi);have c2:=hide ab;have c1:=hide (fun a (ha:a<ny)=>dv c (E+a) (a9 (ab a ha)).2.2.2.2.2.2 lv);have ds:=hide (fun a:Nat=>(show br c lv E (a+1)=br c lv E a++yU lv (E+a) (aR c (E+a) lv) from rfl));have HV:=hide (And.intro (And.intro hA bd) (And.intro hB bh));obtain ⟨T,hT⟩:∃ T,(br c lv E ny).length=T:=⟨_,rfl⟩;rw [hT] at cE cI a5;have es:ny≤9000:=om;have et:1601≤E:=r1.2.1;have ew:Yb≤9997:=r2.2.2;have bX:=hide (show E+(ny:Int)=Yb+1 from o);have b3:=hide aq;obtain ⟨sa,sb⟩:=s;simp only at d3 f HV;obtain ⟨i0,hi,d4,d5,d6⟩:=info_parts fG;clear hk ab hT o hE cp hL d7 hA hB r1 r2 hK bd bh cs aq HM;simp only [av,bI];go_enter Tryz.func63,Tryz.ntmps63;go_wp2_with fail;refine (fV c lv _ hn).mono ?_;rintro e w1 ⟨rfl,a2⟩;rw [HA.out];have ea:w.heap.size+1<w1.heap.size:=aj a2;have d8:w.heap.size<w1.heap.size:=om;have cM:=hide (show Below w w w1 by (repeat' exact bel));have b4:=hide (aa (B:=w.heap.size) (c:=c) a2 ae (az (au w c) ac _));have b0:=hide (bu (B:=w.heap.size+1) (s:=⟨sa,sb⟩) a2 ac (kz w c ⟨sa,sb⟩));obtain ⟨q0,q1,q2,q3,q4,q5,q6,q7,q8,q9,I,J,O,R⟩:=b4.out;obtain ⟨p0,p1⟩:=b0.out;simp only at p0 p1;clear a2;go_wp2_with fail
 all_goals first
  | (exfalso;omega)
  | skip
 refine (fl c sa _ hn).mono ?_;rintro e w2 ⟨rfl,ad⟩;rw [HV.out.1.1,HV.out.1.2];have eb:w.heap.size+1<w2.heap.size:=Nat.lt_of_lt_of_le ea ad.size;have e0:w.heap.size<w2.heap.size:=om;have cS:=hide (cM.out.trans (ad.mono om));have b5:=hide (aa ad om b4.out);have b1:=hide (bu ad om b0.out);clear q0 q1 q2 q3 q4 q5 q6 q7 q8 q9 I J O R;obtain ⟨q0,q1,q2,q3,q4,q5,q6,q7,q8,q9,I,J,O,R⟩:=b5.out;clear p0 p1;obtain ⟨p0,p1⟩:=b1.out;clear ad;simp only at p0 p1;go_wp2_with fail;refine (fl c sb _ hn).mono ?_;rintro e w3 ⟨rfl,ah⟩;rw [HV.out.2.1,HV.out.2.2];have e3:w.heap.size+1<w3.heap.size:=Nat.lt_of_lt_of_le eb ah.size;have e1:w.heap.size<w3.heap.size:=om;have c0:=hide (cS.out.trans (ah.mono om));have b6:=hide (aa ah om b5.out);have b2:=hide (bu ah om b1.out);clear q0 q1 q2 q3 q4 q5 q6 q7 q8 q9 I J O R;obtain ⟨q0,q1,q2,q3,q4,q5,q6,q7,q8,q9,I,J,O,R⟩:=b6.out;clear p0 p1;obtain ⟨p0,p1⟩:=b2.out;clear ah;simp only at p0 p1;obtain ⟨Bo,d0⟩:∃ B,B=w3.heap.size:=⟨_,rfl⟩;have dd:=hide (show ks c w.heap.size Bo [] (.slice none 0 0) w w3 from ⟨b6.out,by omega,by omega,World.ownsRow_nil _ _ _ _,c0.out⟩);have eS:w.heap.size+1<Bo:=om;clear d0 p0 p1;clear q0 q1 q2 q3 q4 q5 q6 q7 q8 q9 I J O R;go_wp2_with fail;go_loopw [11,12] (fun a4 ek wr=>∃ a:Nat,ek=.int .i64 (E+(a:Int))∧a≤ny∧lQ wr (w+1) ⟨sa,sb⟩∧ks c w.heap.size Bo ((br c lv E a).filter K) a4 w wr) (fun _ s _=>(Yb+5-intOf s).toNat)
 case atStart=>exact ⟨0,by simp,by omega,b2.out,dd.out⟩
 case round =>
  obtain ⟨a,rfl,ha,hP,hS⟩:=hrel;have HS:=hide hS;have HP:=hide hP;have ex:=hS.2.2.1;have eA:=hS.2.1;clear hS hP;have o:=bX.out;by_cases al:a<ny
  ·have bb:=c2.out a al
   have bt:=c1.out a al;have S:=hide (ds.out a);have aB:=hide (fun i hi=>a5.out a i al hi);have a8:=hide (fun i hi=>f.out a i al hi);obtain ⟨A,hA⟩:∃ A,br c lv E a=A:=⟨_,rfl⟩;rw [hA] at HS S aB;obtain ⟨y,hy⟩:∃ y,E+(a:Int)=y:=⟨_,rfl⟩;rw [hy] at bb bt S aB a8;have e2:y≤Yb:=om;rw [hy];have d8:1601≤y:=om;obtain ⟨M,hM⟩:∃ M,aR c y lv=M:=⟨_,rfl⟩;rw [hM] at bt S aB a8;have a7:=hide (And.intro hM bb);have HY:=hide hy;obtain ⟨eB,eD⟩:=bt;clear hA hy hM bb o;obtain ⟨q0,q1,q2,q3,q4,q5,q6,q7,q8,q9,I,J,O,R⟩:=HS.out.1;go_wp2_with fail
   all_goals first
    | (exfalso;omega)
    | skip
   refine (cF c lv y _ hn a7.out.2).mono ?_;rintro e w4 ⟨g,cap,rfl,hg,ca,bw,bl⟩;rw [a7.out.1] at ca ⊢;have dq:=hide (HS.out.call bl);have c9:=hide (bu bl om HP.out);have c4:=hide bw;have c7:=hide (show u11.ownBlock≠some g from fun e=>by have:=(HS.out.2.2.2.1.lt g e).2;omega);have eE:=bw.1;clear bl bw;clear q0 q1 q2 q3 q4 q5 q6 q7 q8 q9 I J O R;go_wp2_with fail;go_loopw [11,63] (fun a4 el wr=>∃ j:Nat,el=.int .i64 (j:Int)∧j≤M∧(lQ wr (w+1) ⟨sa,sb⟩∧cP wr g (iT c lv y)∧a4.ownBlock≠some g)∧ks c w.heap.size Bo ((A++yU lv y j).filter K) a4 w wr) (fun _ s _=>(100-intOf s).toNat)
   case atStart=>exact ⟨0,by simp,by omega,⟨c9.out,c4.out,c7.out⟩,by simpa [yU,bm] using dq.out⟩
   case round =>
    obtain ⟨j,rfl,hj,⟨hP,bc,cr⟩,hS⟩:=hrel;have W:=hide hS;have aF:=hide hP;have ay:=hide bc;have aA:=hide cr;have ey:=hS.2.2.1;have eF:=bc.1;clear hS bc cr;by_cases a3:j<M
    ·have a6:=aB.out j a3
     obtain ⟨d1,d2⟩:=kv ay.out j (by rw [a7.out.1];exact a3);obtain ⟨p0,p1⟩:=hP;simp only at p0 p1;have V:=a8.out j a3;have a0:=hide (show A++yU lv y (j+1)=(A++yU lv y j)++[⟨lv,y,(j:Int)+1⟩] by rw [Ef lv y j M a3,List.append_assoc]);obtain ⟨U,hU⟩:∃ U,A++yU lv y j=U:=⟨_,rfl⟩;rw [hU] at W a6 a0;have cb:(U.filter K).length≤U.length:=List.length_filter_le _ _;obtain ⟨n,bx⟩:∃ n,(U.filter K).length=n:=⟨_,rfl⟩;rw [bx] at cb;have cp:n<T:=om;have a1:=hide bx;obtain ⟨X1,b7⟩:∃ X,bD c y (aW c y lv j)=X:=⟨_,rfl⟩;obtain ⟨X2,b8⟩:∃ X,bD c y (aW c y lv (j+1))-1=X:=⟨_,rfl⟩;rw [b7] at d1 V;rw [b8] at d2 V;have HI:=hide V;have eL:(0:Int)≤(j:Int):=om;have eN:(j:Int)<(M:Int):=om;have eU:w.heap.size+1<wr.heap.size:=om;clear hU bx b7 b8 cb a6 V;have bp:(X1≤sb∧sa≤X2)∨sb<X1∨(X1≤sb∧X2<sa):=om;rcases bp with ⟨x1,x2⟩ | x1 | ⟨x1,x2⟩
     ·have c5:=hide (HI.out.2 ⟨x1,x2⟩)
      go_wp2_with ((at_builtin;refine wpList_append_own_at _ rfl _ _ 115 rfl Bo 26 i0 (.agg #[.int .i64 0,.int .i64 0,.int .i64 0]) 3 24 Tryz.underlying115 hi d4 d5 d6 rfl ag _ _ _ rfl ((W.out.call (show Below wr wr (wr.alloc (jB ⟨X1,X2⟩)) by (repeat' exact bel))).2.2.2.1.alloc _) ⟨wr+1,0,none⟩ 1 1 [.int .i64 lv,.int .i64 (y),.int .i64 ((j:Int)+1)] rfl rfl ?c1m ?c2m ?c3m ?c4m ?c5m ?_))
      case c1m =>
       intro i u H
       match i,H with
       | 0,H=>simp at H;subst H;simp [Addr.add]
       | 1,H=>simp at H;subst H;simp [Addr.add]
       | 2,H=>simp at H;subst H;simp [Addr.add]
       | i+3,H=>simp at H
      case c2m=>intro u H;simp at H;rcases H with rfl | rfl | rfl <;> rfl
      case c3m=>have:=a1.out;unfold maxLen;omega
      case c4m=>have:=a1.out;omega
      case c5m=>simp;omega
      ·intro v' w' G F _ b9
       have HG:=hide ((W.out.call (show Below wr wr (wr.alloc (jB ⟨X1,X2⟩)) by (repeat' exact bel))).grow (x:=⟨lv,y,(j:Int)+1⟩) _ (by rw [a1.out];exact (by rw [a1.out] at G;exact G)) F);have c8:=hide (bu HG.out.2 om (kg aF.out om (jB ⟨X1,X2⟩)));have c3:=hide (((ay.out.alloc (jB ⟨X1,X2⟩)).alloc _).own F aA.out);have c6:=hide (show v'.ownBlock≠some g from fun e=>by
        rcases b9 with h | h
        ·exact aA.out (by rw [← h];exact e)
        ·rw [e] at h
         have:=Option.some.inj h
         first | omega | (simp at this;omega))
       clear G F b9;go_wp2;go_roundw
       case rel=>exact ⟨j+1,by go_num,by omega,⟨c8.out,c3.out,c6.out⟩,by rw [a0.out,lY _ _ _ c5.out];exact HG.out.1⟩
       case measure=>simp [intOf];omega
     ·have ba:=hide (show ¬ K ⟨lv,y,(j:Int)+1⟩=true from fun h=>by have:=(HI.out.1 h).1;omega)
      go_wp2
      all_goals first
       | (exfalso;omega)
       | skip
      go_roundw
      case rel=>exact ⟨j+1,by go_num,by omega,⟨kg aF.out om _,ay.out.alloc _,aA.out⟩,by rw [a0.out,lI _ _ _ ba.out];exact W.out.call an⟩
      case measure=>simp [intOf];omega
     ·have ba:=hide (show ¬ K ⟨lv,y,(j:Int)+1⟩=true from fun h=>by have:=(HI.out.1 h).2;omega)
      go_wp2
      all_goals first
       | (exfalso;omega)
       | skip
      go_roundw
      case rel=>exact ⟨j+1,by go_num,by omega,⟨kg aF.out om _,ay.out.alloc _,aA.out⟩,by rw [a0.out,lI _ _ _ ba.out];exact W.out.call an⟩
      case measure=>simp [intOf];omega
    ·obtain rfl:j=M:=om
     have o:=bX.out;have d9:=HY.out;go_wp2
     all_goals first
      | (exfalso;omega)
      | skip
     refine ⟨⟨a+1,by rw [← d9];congr 1;omega,by omega,aF.out,by rw [S.out];exact W.out⟩,by simp [intOf];omega⟩
  ·obtain rfl:a=ny:=om
   obtain ⟨g,cap,rfl,hg,cy⟩:=HS.out.uns b3.out;have dY:=hide cy;have em:=HS.out.2.2.2.2;have al:¬ E+(a:Int)≤Yb:=om;clear cy;go_wp2
   all_goals first
    | (exfalso;omega)
    | (go_ret2;exact ⟨g,cap,rfl,dY.out,by (repeat' exact bel)⟩)
end
end Go.Proofs.YtjhhmeoibfdcmaaGreat
