/- The statement TopUnits: for every input the law answers true, and its arguments read behind the call as they read before. Condition: the listed variables of the library hold what the library lays (the card ties them to the text). -/
import Derived.Lay
import Derived.SevenTiedAt
import Derived.Test.YtpebkobmhhnojaaGreatDoorCards
import Derived.Test.YtpebkobmhhnojaaGreatDoorTie
import Derived.Test.YtpebkobmhhnojaaGreatDoorTp13
import Derived.Test.YtpebkobmhhnojaaGreatDoorTp38
import Derived.Test.YtpebkobmhhnojaaGreatDoorTp50
set_option linter.unusedSimpArgs false
set_option linter.unusedVariables false
set_option maxRecDepth 100000
set_option maxHeartbeats 12800000
namespace Go.Proofs.YtpebkobmhhnojaaGreatDoor
section
open Go.RowKit Qd
theorem bQ.al {w:World} (h:bQ w) (o:Obj):bQ (w.alloc o):=h.call ((Below.refl _ _).alloc (Nat.le_refl _) _)
theorem CK (c:aC) (lv f t k:Int) (w:World) (F:bQ w) (Y:100<c.name.size) (W:c.name.size≤9223372036854775807) :
  Calls Tryz.prog 3 #[aI c,lv,f,t,k] w fun e w'=>e=.returned (.bool true)∧Below w w w':=by
 have H:=hide F;clear F;simp only [aI];go_enter Tryz.func3,Tryz.ntmps3;go_wp2_with fail;refine (dH _ (H.out.al _)).mono ?_;rintro e G ⟨rfl,h⟩;have I:w.heap.size<G.heap.size:=am h;have o:Hid (Below w w G):=ww h;have E:=hide (az h af (be w c));obtain ⟨q0,q1,q2,q3,q4,q5,q6,q7,q8,q9,J,O,U,V⟩:=E.out;clear h;go_wp2
 all_goals first
  | (exfalso;omega)
  | (go_ret;exact ⟨rfl,o.out⟩)
theorem GJ (c:aC) (lv f t k:Int) (w:World) (hL:bQ w) (hn:c.name.size≤100) (O:¬ mJ c lv f t=0) :
  Calls Tryz.prog 3 #[aI c,lv,f,t,k] w fun e w'=>e=.returned (.bool true)∧Below w w w':=by
 have HL:=hide hL;have U:(mJ c lv f t != 0)=true:=by simpa using O
 have F:=hide (fun (w:World)=>DZ c lv f t w om O);obtain ⟨E,G⟩:∃ E,E=mJ c lv f t:=⟨_,rfl⟩;rw [← G] at U F;clear O G hL;simp only [aI];go_enter Tryz.func3,Tryz.ntmps3;go_wp2_with fail;refine (dH _ (HL.out.al _)).mono ?_;rintro e w1 ⟨rfl,h⟩;have ab:w.heap.size<w1.heap.size:=am h;have o:Hid (Below w w w1):=ww h;have J:=hide (az h af (be w c));obtain ⟨q0,q1,q2,q3,q4,q5,q6,q7,q8,q9,V,W,Y,aa⟩:=J.out;clear h;go_wp2_with fail
 all_goals first
  | (exfalso;omega)
  | (go_ret;exact ⟨rfl,o.out⟩)
  | (refine (F.out _).mono ?_;rintro e w2 ⟨rfl,H⟩;have I:=hide (o.out.trans (H.mono om));clear H q0 q1 q2 q3 q4 q5 q6 q7 q8 q9 V W Y aa;go_wp2;go_ret;exact ⟨rfl,I.out⟩)
theorem ES (c:aC) (lv f t k:Int) (w:World) (G:bQ w) (hn:c.name.size≤100) (F:mJ c lv f t=0) (U:3<t-f) :
  Calls Tryz.prog 3 #[aI c,lv,f,t,k] w fun e w'=>e=.returned (.bool true)∧Below w w w':=by
 have J:=hide G;obtain ⟨H,hl,O,h2,h3⟩:=zF F;have V:-10000≤f∧t≤20000:=by
  have O:=fS H;omega
 clear F G H;simp only [aI];go_enter Tryz.func3,Tryz.ntmps3;go_wp2_with fail;refine (dH _ (J.out.al _)).mono ?_;rintro e I ⟨rfl,h⟩;have W:w.heap.size<I.heap.size:=am h;have o:Hid (Below w w I):=ww h;have E:=hide (az h af (be w c));obtain ⟨q0,q1,q2,q3,q4,q5,q6,q7,q8,q9,Y,aa,ab,ac⟩:=E.out;clear h;go_wp2_with fail
 all_goals first
  | (exfalso;omega)
  | (go_ret;exact ⟨rfl,o.out⟩)
def xe (c:aC) (L:List Un) (g cap B:Nat) (f w:World):Prop:=bR w B c∧B<w.heap.size∧d9 w g cap L∧g<w.heap.size∧Below B f w
theorem xe.call {c:aC} {L:List Un} {g cap B:Nat} {o w w':World} (h:xe c L g cap B o w) (f:Below w w w'):xe c L g cap B o w':=⟨az f h.2.1 h.1,Nat.lt_of_lt_of_le h.2.1 f.size,h.2.2.1.call f,Nat.lt_of_lt_of_le h.2.2.2.1 f.size,h.2.2.2.2.trans (f.mono (Nat.le_of_lt h.2.1))⟩
def E7 (c:aC) (L:List Un) (g cap B P Q:Nat) (u:Un) (s:Sp) (f w:World):Prop:=xe c L g cap B f w∧(i8 w P u∧ml w Q s)∧P<w.heap.size∧Q<w.heap.size
theorem E7.call {c:aC} {L:List Un} {g cap B P Q:Nat} {u:Un} {s:Sp} {o w w':World} (h:E7 c L g cap B P Q u s o w) (f:Below w w w'):E7 c L g cap B P Q u s o w':=
 ⟨h.1.call f,⟨cD f h.2.2.1 h.2.1.1,dB f h.2.2.2 h.2.1.2⟩,Nat.lt_of_lt_of_le h.2.2.1 f.size,Nat.lt_of_lt_of_le h.2.2.2 f.size⟩
def xQ (w:World) (D:Nat) (a b:Int):Prop:=D<w.heap.size∧∀ j:Nat,j<3→∃ d:Int,w.cell? ⟨D,j,none⟩=some (.int .i64 d)∧a≤d∧d≤b
theorem xQ.call {w w':World} {D:Nat} {a b:Int} (h:xQ w D a b) (f:Below w w w'):xQ w' D a b:=
 ⟨Nat.lt_of_lt_of_le h.1 f.size,fun j F=>by
  obtain ⟨d,o,E⟩:=h.2 j F;exact ⟨d,(f.cell (p:=⟨D,j,none⟩) h.1).trans o,E⟩⟩
theorem EU (c:aC) (lv f t k:Int) (w:World) (hL:bQ w) (hn:c.name.size≤100) (hE:mJ c lv f t=0) (eS:t-f≤3) :
  Calls Tryz.prog 3 #[aI c,lv,f,t,k] w fun e w'=>e=.returned (.bool true)∧Below w w w':=by
 obtain ⟨hk,hl,hf,ht,ek⟩:=zF hE;have e8:1602≤f∧t≤9996:=by
  have h1:=fS hk;omega
 obtain ⟨ny,bw⟩:∃ ny:Nat,f+(ny:Int)=t+1:=⟨(t+1-f).toNat,by omega⟩;have cr:c.Ok:=by simpa [aC.okB] using hk
 have a5:∀ a:Nat,a<ny→aR c lv (f+a)=0:=fun a ha=>fN cr hl.1 hl.2 om om
 obtain ⟨k1,k2⟩:=xj c lv f t ny om bw a5;have ac:=lS c lv f ny a5;have a9:0<(aT c lv f ny).length∧(aT c lv f ny).length≤300:=om;have b7:aP c (f-1) 1600=0:=by
  have:=(bv (a5 0 om)).2.2.2.2.2.2;exact kF (by simpa using this)
 have b8:aP c t 1600=0:=by
  have:=(bv (a5 (ny-1) om)).2.2.2.2.2.2;exact dj (by rwa [show f+((ny-1:Nat):Int)=t by omega] at this)
 have ba:=hide (fun W=>jk c (f-1) W b7);have bb:=hide (fun W=>jk c t W b8);have a4:=hide (fun (w:World)=>CO c lv f t w om ny bw hk hl hf ht ek);obtain ⟨L,cb⟩:∃ L,L=aT c lv f ny:=⟨_,rfl⟩;rw [← cb] at k1 k2 a4 a9;obtain ⟨D,hD⟩:∃ D,D=rj c t L:=⟨_,rfl⟩;have ca:D L.length=bB c t:=by rw [hD];exact ry (Nat.le_refl _)
 rw [← hD] at k1 k2;have c0:=hide k1;have c3:=hide ca;have HU:=hide k2;have HL:=hide hL;have eL:=hide hn;clear hE hL hk cr a5 k1 k2 ac b7 b8 cb hD ca bw;simp only [aI];simp only [aI] at ba bb a4;go_enter Tryz.func3,Tryz.ntmps3;go_wp2_with fail;refine (dH _ (HL.out.al _)).mono ?_;rintro e w1 ⟨rfl,aA⟩;have e9:w.heap.size<w1.heap.size:=am aA;have cS:Hid (Below w w w1):=ww aA;have b4:=hide (az aA af (be w c));obtain ⟨I,J,O,U,Y,q5,q6,q7,q8,q9,h,o,E,F⟩:=b4.out;clear aA;go_wp2_with fail
 all_goals first
  | (exfalso;omega)
  | skip
 refine (a4.out _).mono ?_;rintro e w2 ⟨g,cap,rfl,bx,hg,aa⟩;have d2:=bx.lt a9.1;have bk:=hide (show xe c L g cap w.heap.size w w2 from ⟨az aa om b4.out,by have:=aa.size;omega,bx,d2.1,cS.out.trans (aa.mono om)⟩);clear bx aa hg;clear I J O U Y q5 q6 q7 q8 q9 h o E F;obtain ⟨I,J,O,U,Y,q5,q6,q7,q8,q9,h,o,E,F⟩:=bk.out.1;have fa:w.heap.size<w2.heap.size:=bk.out.2.1;go_wp2_with fail
 all_goals first
  | (exfalso;omega)
  | skip
 refine (ba.out _).mono ?_;rintro e w3 ⟨rfl,ah⟩;rw [← c0.out];have c4:=hide (bk.out.call ah);clear ah;clear I J O U Y q5 q6 q7 q8 q9 h o E F;go_wp2_with fail;go_loopw [13,94] (fun ex eA wr=>∃ k:Nat,eA=.int .i64 k∧ex=.int .i64 (D k)∧k≤L.length∧xe c L g cap w.heap.size w wr) (fun _ s _=>(500-intOf s).toNat)
 case atStart=>exact ⟨0,rfl,rfl,by omega,c4.out⟩
 case round =>
  obtain ⟨i,rfl,rfl,hi,hS⟩:=hrel;have HS:=hide hS;clear hS;by_cases ea:i<L.length
  rotate_left
  ·obtain rfl:i=L.length:=om
   rw [c3.out];obtain ⟨I,J,O,U,Y,q5,q6,q7,q8,q9,h,o,E,F⟩:=HS.out.1;have cl:=HS.out.2.1;go_wp2_with fail;refine (bb.out _).mono ?_;rintro e w4 ⟨rfl,ab⟩;have b9:=HS.out.2.2.2.2.trans (ab.mono om);clear ab;clear I J O U Y q5 q6 q7 q8 q9 h o E F;go_wp2;go_ret;exact ⟨rfl,b9⟩
  obtain ⟨u,hu⟩:∃ u,L[i]?=some u:=⟨_,List.getElem?_eq_getElem ea⟩;obtain ⟨hU,el,ha,hb⟩:=HU.out i u hu;obtain ⟨a0,a1,a2⟩:=d9.cell HS.out.2.2.1 hu;obtain ⟨b0,b1,b2⟩:=yh hU;have ac:=EB hU;have ao:=hide (fun d h1 h2=>sT hU d h1 h2);have aq:=hide (fun eB h1 h2=>De hU eB h1 h2);have bl:=hide (show dD c u=⟨D i+1,D (i+1)⟩ by rw [← ha,← hb]);have c7:=hide hU;rw [bl.out] at b0 b1 b2 ac ao aq;obtain ⟨ul,uy,ux⟩:=u;obtain rfl:lv=ul:=el.symm;obtain ⟨G,bs⟩:∃ x,D i=x:=⟨_,rfl⟩;obtain ⟨H,bt⟩:∃ x,D (i+1)=x:=⟨_,rfl⟩;rw [bs,bt] at b0 b1 b2 ac ao aq bl;rw [bs];have c1:=hide bt;simp only at b0 b1 b2 ac ao aq a0 a1 a2;have eD:=Ak lv uy ux;clear hU ha hb hu bs bt;obtain ⟨I,J,O,U,Y,q5,q6,q7,q8,q9,h,o,E,F⟩:=HS.out.1;have cl:=HS.out.2.1;have d3:=HS.out.2.2.2.1;go_wp2_with fail
  all_goals first
   | (exfalso;omega)
   | skip
  refine (fI c ⟨lv,uy,ux⟩ _ om).mono ?_;rintro e w5 ⟨rfl,bp⟩;rw [bl.out,c7.out];simp only [cw];have b5:=hide (show xe c L g cap w.heap.size w w5 from HS.out.call ar);have b6:=hide (show i8 w5 wr ⟨lv,uy,ux⟩ from cD bp af (nw wr ⟨lv,uy,ux⟩));have cx:wr.heap.size<w5.heap.size:=am bp;clear bp a0 a1 a2;clear I J O U Y q5 q6 q7 q8 q9 h o E F;have cp:¬ H-(G+1)+1=0:=om;go_wp2_with fail
  all_goals first
   | (exfalso;omega)
   | skip
  go_region;go_simp;go_wp2_with fail;obtain ⟨X,hX,dq,ds⟩:∃ X,wrap64 (G+1+max k 0 % (H-(G+1)+1))=X∧G+1≤X∧X≤H:=by
   have h1:=Int.emod_nonneg (max k 0) (show H-(G+1)+1≠0 from cp);have h2:=Int.emod_lt_of_pos (max k 0) (show 0<H-(G+1)+1 by omega);exact ⟨_,rfl,by unfold wrap64;omega,by unfold wrap64;omega⟩
  rw [hX]
  have b3:=hide (show E7 c L g cap w.heap.size wr.heap.size w5.heap.size ⟨lv,uy,ux⟩ ⟨G+1,H⟩ w (((w5.alloc (.cells #[.int .i64 (G+1),H] 35)).alloc (.cells #[.int .i64 (G+1),H,.int .i64 X] 3)).drew) from
   have cc:Below w5 w5 (((w5.alloc (.cells #[.int .i64 (G+1),H] 35)).alloc (.cells #[.int .i64 (G+1),H,.int .i64 X] 3)).drew):=(((Below.refl _ _).alloc (Nat.le_refl _) _).alloc af _).drew
   ⟨b5.out.call cc,⟨cD cc cx b6.out,rT (fX w5 ⟨G+1,H⟩) af _⟩,by simp;omega,by simp;omega⟩)
  have bX:=hide (show xQ (((w5.alloc (.cells #[.int .i64 (G+1),H] 35)).alloc (.cells #[.int .i64 (G+1),H,.int .i64 X] 3)).drew) (w5.heap.size+1) (G+1) H from by
   have hb:=ax.new (w5.alloc (.cells #[.int .i64 (G+1),H] 35)) #[.int .i64 (G+1),H,.int .i64 X] 3;have e:(w5.alloc (.cells #[.int .i64 (G+1),H] 35)).heap.size=w5.heap.size+1:=af;rw [e] at hb;obtain ⟨⟨x0,x1,x2⟩,_⟩:=hb.three;refine ⟨by simp,fun j hj=>?_⟩
   match j,hj with
   | 0,_=>exact ⟨_,x0,by omega,by omega⟩
   | 1,_=>exact ⟨_,x1,by omega,by omega⟩
   | 2,_=>exact ⟨_,x2,by omega,by omega⟩)
  have HX:=hide (And.intro b0 (And.intro b1 b2));obtain ⟨P,hP⟩:∃ P,P=wr.heap.size:=⟨_,rfl⟩;obtain ⟨Q,hQ⟩:∃ Q,Q=w5.heap.size:=⟨_,rfl⟩;rw [← hP,← hQ] at b3;rw [← hQ] at bX;rw [← hP,← hQ];clear hP hQ hX dq ds cp b5 b6 cx HS cl d3;go_loopw [149] (fun s wq=>∃ j:Nat,s=.int .i64 j∧j≤3∧E7 c L g cap w.heap.size P Q ⟨lv,uy,ux⟩ ⟨G+1,H⟩ w wq∧xQ wq (Q+1) (G+1) H) (fun s _=>(10-intOf s).toNat)
  case atStart=>exact ⟨0,rfl,by omega,b3.out,bX.out⟩
  case round =>
   obtain ⟨j,rfl,hj,hI,hD⟩:=hrel;have HI:=hide hI;have HD:=hide hD;clear hI hD;by_cases eb:j<3
   ·obtain ⟨d,e0,e1,e2⟩:=HD.out.2 j eb
    obtain ⟨f1,f2⟩:=ao.out d e1 e2;have HF:=hide (And.intro f1 f2);clear f1 f2;obtain ⟨I,J,O,U,Y,q5,q6,q7,q8,q9,h,o,E,F⟩:=HI.out.1.1;obtain ⟨⟨u0,u1,u2⟩,_⟩:=HI.out.2.1;simp only at u0 u1 u2;have a6:=HI.out.1.2.1;have a7:=HI.out.2.2.1;have a8:=HI.out.2.2.2;have d4:=HD.out.1;have e3:(0:Int)≤(j:Int):=om;have e4:(j:Int)<3:=om;go_wp2_with fail;refine (iV c d lv _ om).mono ?_;rintro e w6 ⟨rfl,dY⟩;rw [HF.out.1,HF.out.2];simp only [aZ];have bc:=hide (show E7 c L g cap w.heap.size P Q ⟨lv,uy,ux⟩ ⟨G+1,H⟩ w w6 from HI.out.call ar);have c2:=hide (show xQ w6 (Q+1) (G+1) H from HD.out.call ar);clear dY u0 u1 u2 e0;clear I J O U Y q5 q6 q7 q8 q9 h o E F;obtain ⟨⟨u0,u1,u2⟩,_⟩:=bc.out.2.1;simp only at u0 u1 u2;have d5:=bc.out.2.2.1;go_wp2;go_roundw
    case rel=>exact ⟨j+1,by go_num,by omega,bc.out.call ar,c2.out.call ar⟩
    case measure=>simp [intOf];omega
   ·obtain ⟨I,J,O,U,Y,q5,q6,q7,q8,q9,h,o,E,F⟩:=HI.out.1.1
    obtain ⟨⟨u0,u1,u2⟩,s0,s1⟩:=HI.out.2.1;simp only at u0 u1 u2 s0 s1;have a6:=HI.out.1.2.1;have a7:=HI.out.2.2.1;have a8:=HI.out.2.2.2;obtain ⟨W7,dg⟩:∃ x,x=wr:=⟨_,rfl⟩;subst dg;go_wp2_with fail;clear I J O U Y q5 q6 q7 q8 q9 h o E F;clear u0 u1 u2 s0 s1 a6 a7 a8;go_loopw [24] (fun s wq=>∃ p:Int,s=.int .i64 p∧1≤p∧p≤lv+1∧E7 c L g cap w.heap.size P Q ⟨lv,uy,ux⟩ ⟨G+1,H⟩ w wq) (fun s _=>(10-intOf s).toNat)
    case atStart=>exact ⟨1,rfl,by omega,by omega,HI.out⟩
    case round =>
     obtain ⟨p,rfl,em,e5,hI⟩:=hrel;have ad:=hide hI;clear hI;by_cases es:p≤lv
     ·obtain ⟨t1,t2,t3,t4,t5,t6,t7,t8⟩:=aq.out p em es
      obtain ⟨V,hV⟩:∃ V,tR c ⟨lv,uy,ux⟩ p=V:=⟨_,rfl⟩;rw [hV] at t2 t4 t6 t7 t8;obtain ⟨T0,T1,hT⟩:∃ T0 T1,dD c V=⟨T0,T1⟩:=⟨_,_,rfl⟩;rw [hT] at t7 t8;simp only at t7 t8;have HT:=hide (And.intro t1 (And.intro hV (And.intro t2 hT)));have HA:=hide (And.intro t3 t4);have HZ:=hide (And.intro t5 t6);clear t1 t2 t3 t4 t5 t6 hV hT;obtain ⟨va,vb,vc⟩:=V;have eE:=Ak va vb vc;obtain ⟨I,J,O,U,Y,q5,q6,q7,q8,q9,h,o,E,F⟩:=ad.out.1.1;obtain ⟨⟨u0,u1,u2⟩,s0,s1⟩:=ad.out.2.1;simp only at u0 u1 u2 s0 s1;have a6:=ad.out.1.2.1;have a7:=ad.out.2.2.1;have a8:=ad.out.2.2.2;go_wp2_with fail;refine (xP c ⟨lv,uy,ux⟩ p _ om).mono ?_;rintro e x1 ⟨rfl,aA⟩;rw [HT.out.1,HT.out.2.1];simp only [aZ];have bd:=hide (show E7 c L g cap w.heap.size P Q ⟨lv,uy,ux⟩ ⟨G+1,H⟩ w x1 from ad.out.call ar);clear aA u0 u1 u2 s0 s1 a6 a7 a8;clear I J O U Y q5 q6 q7 q8 q9 h o E F;obtain ⟨I,J,O,U,Y,q5,q6,q7,q8,q9,h,o,E,F⟩:=bd.out.1.1;have a6:=bd.out.1.2.1;go_wp2_with fail;refine (fI c ⟨va,vb,vc⟩ _ om).mono ?_;rintro e x2 ⟨rfl,aa⟩;rw [HT.out.2.2.1,HT.out.2.2.2];simp only [cw];have aB:=hide (show E7 c L g cap w.heap.size P Q ⟨lv,uy,ux⟩ ⟨G+1,H⟩ w x2 from bd.out.call ar);have c8:=hide (show i8 x2 x1 ⟨va,vb,vc⟩ from cD aa af (nw x1 ⟨va,vb,vc⟩));have cs:x1.heap.size<x2.heap.size:=am aa;clear aa;clear I J O U Y q5 q6 q7 q8 q9 h o E F;obtain ⟨I,J,O,U,Y,q5,q6,q7,q8,q9,h,o,E,F⟩:=aB.out.1.1;obtain ⟨_,s0,s1⟩:=aB.out.2.1;simp only at s0 s1;have a7:=aB.out.1.2.1;have a8:=aB.out.2.2.2;go_wp2_with fail;refine (iV c (G+1) p _ om).mono ?_;rintro e x3 ⟨rfl,ah⟩;rw [HA.out.1,HA.out.2];simp only [aZ];have a3:=hide (show E7 c L g cap w.heap.size P Q ⟨lv,uy,ux⟩ ⟨G+1,H⟩ w x3 from aB.out.call ar);have c9:=hide (show i8 x3 x1 ⟨va,vb,vc⟩ from cD ah ag (unAt_alloc c8.out cs _));have c5:=hide (show ml x3 x2 ⟨T0,T1⟩ from dB ah af (fX x2 ⟨T0,T1⟩));have cv:x2.heap.size<x3.heap.size:=am ah;clear ah s0 s1;clear I J O U Y q5 q6 q7 q8 q9 h o E F;obtain ⟨I,J,O,U,Y,q5,q6,q7,q8,q9,h,o,E,F⟩:=a3.out.1.1;obtain ⟨_,s0,s1⟩:=a3.out.2.1;simp only at s0 s1;have d4:=a3.out.1.2.1;have d5:=a3.out.2.2.2;go_wp2_with fail;refine (iV c H p _ om).mono ?_;rintro e x4 ⟨rfl,ab⟩;rw [HZ.out.1,HZ.out.2];simp only [aZ];have bh:=hide (show E7 c L g cap w.heap.size P Q ⟨lv,uy,ux⟩ ⟨G+1,H⟩ w x4 from a3.out.call ar);have dd:=hide (show i8 x4 x1 ⟨va,vb,vc⟩ from cD ab ag (unAt_alloc c9.out om _));have c6:=hide (show ml x4 x2 ⟨T0,T1⟩ from dB ab ag (rT c5.out cv _));have cy:=hide (show i8 x4 x3 ⟨va,vb,vc⟩ from cD ab af (nw x3 ⟨va,vb,vc⟩));have eF:x3.heap.size<x4.heap.size:=am ab;clear ab s0 s1;clear I J O U Y q5 q6 q7 q8 q9 h o E F;obtain ⟨_,s0,s1⟩:=bh.out.2.1;obtain ⟨v0,v1,v2⟩:=dd.out;obtain ⟨y0,y1⟩:=c6.out;obtain ⟨z0,z1,z2⟩:=cy.out;simp only at s0 s1 v0 v1 v2 y0 y1 z0 z1 z2;have eU:=bh.out.2.2.2;have e6:x1.heap.size<x4.heap.size:=om;have e7:x2.heap.size<x4.heap.size:=om;go_wp2_with fail
      all_goals first
       | (exfalso;omega)
       | skip
      go_roundw
      case rel=>exact ⟨p+1,by go_num,by omega,by omega,bh.out.call ar⟩
      case measure=>simp [intOf];omega
     ·go_wp2
      go_roundw
      case rel=>exact ⟨i+1,by go_num,by rw [c1.out],by omega,ad.out.1⟩
      case measure=>simp [intOf];omega
theorem Co (c:aC) (G:c.name.size≤9223372036854775807) (lv f t k:Int) (w:World) (o:bQ w) :
  Calls Tryz.prog 3 #[aI c,lv,f,t,k] w fun e w'=>e=.returned (.bool true)∧Below w w w':=by
 by_cases h:100<c.name.size
 ·exact CK c lv f t k w o h G
 ·by_cases E:mJ c lv f t=0
  ·by_cases F:3<t-f
   ·exact ES c lv f t k w o om E F
   ·exact EU c lv f t k w o om E om
  ·exact GJ c lv f t k w o om E
end
end Go.Proofs.YtpebkobmhhnojaaGreatDoor
namespace Go.Proofs.YtpebkobmhhnojaaGreatDoor.topUnits
section
open Go.ChangeShapes Go.WideShapes Go.ChangeAt Go.RowKit Qd
theorem Gv:Tryz.prog.readableRec 24=true∧24<Tryz.prog.types.size:=⟨by kernel_rfl,of_decide_eq_true (by kernel_rfl)⟩
theorem Fo:Tryz.prog.readableRec 3=true∧3<Tryz.prog.types.size:=⟨by kernel_rfl,of_decide_eq_true (by kernel_rfl)⟩
theorem lifted (os:Os) (G:os.Started) (H:Type) (enc:TypeId × Value→H) :
  ReturnsInHanded {} Tryz.checked os 3 .any (fun w o=>(Rows.topUnitsSpec.pre enc Tryz.prog Tryz.f3 Rows.topUnitsRow.domain false w o∧laidMetH Tryz.prog Rows.topUnitsRow.laid w)∧sizedMet enc Tryz.prog Tryz.f3 (OpenSpec.ofChange Rows.topUnitsSpec) false w o) (Rows.topUnitsSpec.post enc Tryz.prog Tryz.f3 false true false false):=by
 refine iU (C:=Tryz.checked) (X:=fun w _=>laidMetH Tryz.prog Rows.topUnitsRow.laid w) (fun _ _ _ hh h=>h.of_heap hh) own G (by kernel_rfl) Tryz.func3
  (ChangeSpec.witness_shaped (enc:=enc) (C:=Tryz.checked) (os:=os) (X:=fun w _=>laidMetH Tryz.prog Rows.topUnitsRow.laid w) false (World.laidAll Tryz.prog os Rows.topUnitsRow.laid) #[.agg #[.string ⟨#[]⟩,.int .i64 0,.int .i64 0,.int .i64 0,.int .i64 0,.int .i64 0,.int .i64 0,.int .i64 0,.int .i64 0,.int .i64 0,.int .i64 0,.int .i64 0,.int .i64 0,.int .i64 0],.int .i64 0,.int .i64 0,.int .i64 0,.int .i64 0] 8 (World.laidAll_os _ _ _)
   (World.shaped_of_ZipB (by kernel_rfl) (by kernel_rfl)) (by kernel_rfl) (by kernel_rfl) (by kernel_rfl)
   (by rw [MakeChecks.laidMetH_plain _ _ _ (by kernel_rfl)];exact laidMet_laidAll _ (by kernel_rfl) (by kernel_rfl))) ?_
 intro W I o ds gs V F hW hL ah;have E:∀ (j:Nat) t v,Tryz.f3.params[j]?=some t→o[j]?=some v→Value.okWide Tryz.prog W .any I t v:=F;have O:=hW;obtain ⟨p,q,J,hV,rfl,a5,a6⟩:=hW;have Y:DataW.TrodAll enc Tryz.prog W 0 (fun _=>true) true Tryz.f3.params.toList o.toList ds p:=J;have aa:=Y;rw [Tryz.params3] at Y E;obtain ⟨v0,bd,d0,ao,p0,q0,ab,rfl,a7,h0,r0⟩:=trodAll_cons Y;obtain ⟨v1,bh,d1,aq,p1,q1,rfl,rfl,a8,h1,r1⟩:=trodAll_cons r0;obtain ⟨v2,bk,d2,aA,p2,q2,rfl,rfl,a9,h2,r2⟩:=trodAll_cons r1;obtain ⟨v3,bl,d3,aB,p3,q3,rfl,rfl,ba,h3,r3⟩:=trodAll_cons r2;obtain ⟨v4,bp,d4,a0,p4,q4,rfl,rfl,bb,h4,r4⟩:=trodAll_cons r3;obtain ⟨rfl,rfl,bc⟩:=trodAll_nil r4;obtain rfl:o=#[v0,v1,v2,v3,v4]:=by cases o;simp_all
 obtain ⟨rfl,rfl⟩:=trodVars_none hV;obtain ⟨c0,rfl,ad,al⟩:=mu (E 0 24 v0 rfl rfl) h0;obtain ⟨a1,rfl,_,_,w1⟩:=open_int Tryz.underlying3 (E 1 3 v1 rfl rfl) h1;obtain ⟨a2,rfl,_,_,w2⟩:=open_int Tryz.underlying3 (E 2 3 v2 rfl rfl) h2;obtain ⟨a3,rfl,_,_,w3⟩:=open_int Tryz.underlying3 (E 3 3 v3 rfl rfl) h3;obtain ⟨a4,rfl,_,_,w4⟩:=open_int Tryz.underlying3 (E 4 3 v4 rfl rfl) h4;clear J F;refine ((fun c hn _ lv _ f _ t _ k _=>Co c hn lv f t k W (pm hL ah)) c0 ad al a1 w1 a2 w2 a3 w3 a4 w4).mono fun e W' ⟨he,hb⟩=>?_
 subst he;have ac:∀ x∈p++[],x.block<W.heap.size:=fun x U=>O.lt x U
 refine ⟨_,rfl,gG (pa:=p) (pv:=[]) O (fun _ _ _=>(trodAll_cons_mk (shut_bool Tryz.underlying4 _) trodAll_mk0)) (fun sp hs=>?_) (fun _ _=>rfl) rfl hb (ok_one (by kernel_rfl) rfl (okWide_bool_mk Tryz.underlying4 _))⟩;exact eN pb (by rw [Tryz.params3];intro t ht;simp only [List.mem_cons,List.not_mem_nil,or_false] at ht;rcases ht with rfl | rfl | rfl | rfl | rfl <;> first | exact Gv | exact Fo) aa (fun x U=>hb.same (ac x (List.mem_append_left _ U))) (fun x U=>hs x (List.mem_append_left _ U))
theorem yP:Rows.topUnitsRow.holds Tryz.pinned (OpenSpec.ofChange Rows.topUnitsSpec):=
 OpenClaim.holds_of_wide 3 Tryz.f3 rfl rfl rfl rfl rfl rfl rfl ⟨rfl,rfl,rfl,rfl,rfl⟩ rfl rfl rfl rfl rfl (by kernel_rfl) Tryz.func3 mE
  (of_decide_eq_true (by kernel_rfl)) (by unfold Func.isWrapper;rw [if_neg (of_decide_eq_false (by kernel_rfl))];exact ⟨rfl,rfl⟩)
  (fun os f H enc _=>lifted os f H enc)
theorem proved:Rows.TopUnitsCardSaid:=
 Claim7.holds_tied_plain_at .later [] [.data,.data,.data,.data,.pinned] true (true, "217ccb0b19a70f3b3cb9e823034708ac5b031a0391e28b0d26703c089ceaedfa") false yP (fun _ h=>by cases h) (by kernel_rfl) (fun _ h=>by cases h) topUnits_row_tie rfl ⟨rfl,rfl⟩ (by kernel_rfl) rfl
  (fun f G H E=>by
   obtain rfl:f=3:=Option.some.inj ((show Tryz.prog.funcNamed "quarterday/quarterdaytop.TopUnits" = some 3 by kernel_rfl).symm.trans H) |>.symm;obtain rfl:G=Tryz.f3:=(Option.some.inj (Tryz.func3.symm.trans E)).symm;exact ⟨by kernel_rfl,fun j t F=>by
    rw [Tryz.params3] at F;have I:t∈[24,3,3,3,3]:=by simpa using Array.mem_of_getElem? F
    have o:([24,3,3,3,3].all fun u=>!Tryz.prog.wantsStandIn u)=true:=by kernel_rfl
    exact (show Tryz.prog.wantsStandIn t=false by simpa using List.all_eq_true.1 o t I)⟩)
  (by kernel_rfl)
#print axioms proved
end
end Go.Proofs.YtpebkobmhhnojaaGreatDoor.topUnits
