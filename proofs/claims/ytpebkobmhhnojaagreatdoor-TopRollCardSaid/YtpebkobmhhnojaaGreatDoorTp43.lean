/- Lemmas. -/
import Derived.Deep.SlicePairs
import Derived.Test.YtpebkobmhhnojaaGreatDoorTp11
import Derived.Test.YtpebkobmhhnojaaGreatDoorTp13
import Derived.Test.YtpebkobmhhnojaaGreatDoorTp23
import Derived.Test.YtpebkobmhhnojaaGreatDoorTp36
import Derived.Test.YtpebkobmhhnojaaGreatDoorTp40
set_option linter.unusedSimpArgs false
set_option linter.unusedVariables false
set_option maxRecDepth 100000
set_option maxHeartbeats 12800000
namespace Go.Proofs.YtpebkobmhhnojaaGreatDoor
section
open Go.RowKit Qd
theorem kG (s:Sp) (p:Po) (P:List Po):(kp s (p::P)).sum=(if s.a≤p.day∧p.day≤s.b then p.n else 0)+(kp s P).sum:=by
 unfold kp;by_cases h:s.a≤p.day∧p.day≤s.b
 ·rw [List.filter_cons_of_pos (by simpa using h),if_pos h];simp
 ·rw [List.filter_cons_of_neg (by simpa using h),if_neg h];simp
theorem Cd (P:List Po) {A B C:Int} (o:A≤B) (E:B≤C):(kp ⟨A,B-1⟩ P).sum+(kp ⟨B,C-1⟩ P).sum=(kp ⟨A,C-1⟩ P).sum:=by
 induction P with
 | nil=>rfl
 | cons p P F =>
  rw [kG,kG,kG];simp only;by_cases f:A≤p.day∧p.day≤B-1
  ·rw [if_pos f,if_neg om,if_pos om];omega
  ·rw [if_neg f]
   by_cases h:B≤p.day∧p.day≤C-1
   ·rw [if_pos h,if_pos om];omega
   ·rw [if_neg h,if_neg om];omega
theorem yG (P:List Po) (A:Int):(kp ⟨A,A-1⟩ P).sum=0:=by
 induction P with
 | nil=>rfl
 | cons p P f=>rw [kG,f,if_neg (by simp only;omega)];rfl
theorem E5 {c:aC} {x:Un} {P:List Po} {A:List Ac} {Z:dW} (o:aU c x=0) (h:fu P A=0) (E:Z.pe x.yr=0):TE c P A Z x=iH (ij c x P (Z.f x.yr)).sum∧TV c P A Z x=kh (ij c x P (Z.f x.yr)).sum:=by
 simp [TE,tE,TV,tV,o,h,E]
theorem E4 {c:aC} {x:Un} {P:List Po} {A:List Ac} {Z:dW} (h:TE c P A Z x=0):aU c x=0∧fu P A=0∧Z.pe x.yr=0∧bE (ij c x P (Z.f x.yr)).sum∧TV c P A Z x=(ij c x P (Z.f x.yr)).sum:=by
 unfold TE tE at h;by_cases o:aU c x=0
 ·rw [if_pos o] at h
  by_cases E:fu P A=0
  ·rw [if_pos E] at h
   by_cases F:Z.pe x.yr=0
   ·rw [if_pos F] at h
    by_cases G:bE (ij c x P (Z.f x.yr)).sum
    ·exact ⟨o,E,F,G,by rw [(E5 o E F).2,(gr G).1]⟩
    ·rw [(yO G).2] at h;cases h
   ·rw [if_neg F] at h;exact absurd h F
  ·rw [if_neg E] at h;exact absurd h E
 ·rw [if_neg o] at h;exact absurd h o
theorem zX {c:aC} {P:List Po} {A:List Ac} {Z:dW} {L:List Un} (h:∀ x∈L,TE c P A Z x=0∨TE c P A Z x=2):(dL c P A Z L=0∧∀ x∈L,TE c P A Z x=0)∨dL c P A Z L=2:=by
 induction L with
 | nil=>exact .inl ⟨rfl,fun x h=>by simp at h⟩
 | cons x L G =>
  simp only [dL];rcases h x af with o | o
  ·rw [if_pos o]
   rcases G fun y f=>h y (List.mem_cons_of_mem _ f) with ⟨E,F⟩ | E
   ·exact .inl ⟨E,fun y f=>by rcases List.mem_cons.1 f with rfl | f;exact o;exact F y f⟩
   ·exact .inr E
  ·rw [if_neg om];exact .inr o
theorem AO {c:aC} {P:List Po} {A:List Ac} {Z:dW} {L:List Un} (h:dL c P A Z L=0):∀ x∈L,TE c P A Z x=0:=by
 induction L with
 | nil=>intro x o;simp at o
 | cons x L E =>
  simp only [dL] at h
  split at h
  ·rename_i h1
   intro y f;rcases List.mem_cons.1 f with rfl | f
   ·exact h1
   ·exact E h y f
  ·rename_i h1;exact absurd h h1
def H7 (a b c d e f:Int) (g:Bool) (h o E F G H:Int) (I:Bool):Bool:=lN a b c h o E&&(d==F&&(e==G&&(f==H&&g==I)))
theorem Gr (n:Nat) (a b c d e f h o E F G H:Int) (g I:Bool) (w:World):(Op.equalIn (n+3) 288 (.agg #[a,b,c,d,e,f,.bool g]) (.agg #[h,o,E,F,G,H,.bool I])).run Tryz.prog w=.ok (H7 a b c d e f g h o E F G H I) w:=by
 have W:=Tryz.underlying2;have J:=Tryz.isAgg2;have z3:=Tryz.sizeOf2;have Y:=Tryz.underlying4;have O:=Tryz.isAgg4;have z4:=Tryz.sizeOf4;have U:=Tryz.isAgg33;have z5:=Tryz.sizeOf33;have V:=kQ n a b c h o E w;rw [run_equalIn_struct w _ _ _ _ (by simp [Program.fieldsOf,Tryz.underlying288]) (by kernel_rfl)];simp only [Program.fieldsOf,Tryz.underlying288];go_simp;simp only [H7,lN]
 repeat' split
 all_goals simp_all
@[go_sem high] theorem GU (a b c d e f h o E F G H:Int) (g I:Bool) (w:World):(binOp .eql 288 (.agg #[a,b,c,d,e,f,.bool g]) (.agg #[h,o,E,F,G,H,.bool I])).run Tryz.prog w=.ok (.bool (H7 a b c d e f g h o E F G H I)) w:=by
 rw [run_eql_struct,Gr 9997];rfl
def Ef (c:aC) (u:Un) (S:Sp) (o f:Nat) (l:List Int) (v:Value) (m:List Po) (E:Value) (h w:World):Prop:=
 bR w h c∧i8 w (h+1) u∧h.heap.size+1<f∧ax w o #[S.a,S.b] 35∧o<f∧f≤w.heap.size∧w.ownsRow f 2 1 v l.length (cd l)∧EJ w f E m∧Below h h w
theorem Ef.call {c:aC} {u:Un} {S:Sp} {o E:Nat} {l:List Int} {v:Value} {m:List Po} {F:Value} {G w w':World} (h:Ef c u S o E l v m F G w) (f:Below w w w'):Ef c u S o E l v m F G w':=by
 obtain ⟨H,I,J,O,U,V,W,Y,h9⟩:=h;exact ⟨az f om H,cD f om I,J,O.call f,U,Nat.le_trans V f.size,jO W f,vE Y f,h9.trans (f.mono om)⟩
def dw (c:aC) (lv y:Int) (P:List Po) (A:List Ac) (Z:dW):Int:=if aR c lv y=0 then (if fu P A=0 then (if Z.pe y=0 then dL c P A Z (yU lv y (aM c y lv)) else Z.pe y) else fu P A) else aR c lv y
def fO (c:aC) (lv y:Int) (P:List Po) (A:List Ac) (Z:dW):List (Un × Int):=(yU lv y (aM c y lv)).map fun x=>(x,TV c P A Z x)
theorem FW {lv y:Int} {n j:Nat} (h:j<n):(yU lv y n)[j]?=some ⟨lv,y,(j:Int)+1⟩:=by simp [yU,cI,h]
theorem Hy (lv y:Int) (n:Nat):(yU lv y n).length=n:=by simp [yU,fe]
theorem wG (c:aC) (lv y:Int) (P:List Po) (A:List Ac) (Z:dW):(fO c lv y P A Z).length=aM c y lv:=by simp [fO,Hy]
theorem kS {c:aC} {lv y:Int} {P:List Po} {A:List Ac} {Z:dW} {j:Nat} (h:j<aM c y lv):(fO c lv y P A Z)[j]?=some (⟨lv,y,(j:Int)+1⟩,TV c P A Z ⟨lv,y,(j:Int)+1⟩):=by
 rw [fO,List.getElem?_map,FW h];rfl
theorem Dw {c:aC} {lv y:Int} (G:aR c lv y=0):aM c y lv≤60:=by
 obtain ⟨J,hk,E,F,O,U,o⟩:=bv G;have I:=gH c y o;rcases Nat.eq_zero_or_pos (aM c y lv) with h | h
 ·omega
 ·have H:=fs (j:=aM c y lv-1) G om
  have:=iR H;have f:∀ i,i≤aM c y lv→i≤aX c y lv i:=by
   intro i
   induction i with
   | zero=>intro _;omega
   | succ i V =>
    intro hi;have:=iw c y o lv E F i om;have:=V om;omega
  have W:=f _ (Nat.le_refl _);have Y:=cu c y o lv E F _ (Nat.le_refl (aM c y lv));omega
theorem vM (c:aC) (lv y:Int) (P:List Po) (A:List Ac) (Z:dW) (v1 v2:Value) (w:World) (hn:c.name.size≤1000) (hP:eu w v1 P) (hA:iA w v2 A) (hB:tb c P A v2 Z) :
  Calls Tryz.prog 18 #[aI c,lv,y,.agg #[v1,v2]] w fun e w'=>(∃ v,e=.returned (.tuple #[v,dw c lv y P A Z])∧(dw c lv y P A Z=0→∃ g,v=.slice (some ⟨g,0,none⟩) (aM c y lv) (aM c y lv)∧bS w' g (fO c lv y P A Z)∧w.heap.size≤g)∧(¬ dw c lv y P A Z=0→v=.slice none 0 0))∧Below w w w':=by
 have HP:=hide hP;have HA:=hide hA;have H0:=hide (mT c v1 v2 w);have b2:P.length≤100000∧A.length≤100000:=⟨by have:=hB.1.1;omega,by have:=hB.1.2;omega⟩;have HB:=hide hB;clear hB;obtain ⟨b0,bc,rfl,_⟩:=hP;obtain ⟨b5,b3,rfl,_⟩:=hA;simp only [aI];go_enter Tryz.func18,Tryz.ntmps18;go_wp2_with fail;refine (kY c lv y _ hn).mono ?_;rintro e w1 ⟨rfl,bd⟩;have ac:=hide (H0.out.call bd);clear bd;have o:=ac.out.2.2.2;by_cases V:aR c lv y=0
 rotate_left
 ·have I:=hide (show dw c lv y P A Z=aR c lv y by rw [dw,if_neg V])
  have hE:(aR c lv y != 0)=true:=by simpa using V
  have HF:=hide V;obtain ⟨E,F⟩:∃ E,aR c lv y=E:=⟨_,rfl⟩;rw [F] at I hE HF ⊢;clear V F;go_wp2;go_ret2;exact ⟨⟨.slice none 0 0,by rw [I.out];rfl,fun h=>absurd (I.out.symm.trans h) HF.out,fun _=>rfl⟩,o⟩
 have HF:=hide V;rw [V,show ff c lv y=(aM c y lv:Int) by rw [ff,if_pos V]];have b1:=Dw V;have bw:=hide (fun (h:fu P A=0)=>(HB.out.2.2 ⟨lv,y,1⟩ (fs (j:=0) V (by
  obtain ⟨ca,hk,h1,h5,al,bl,hA⟩:=bv V;have:=gH c y hA;have h2:=gu c y lv h1 h5;rcases Nat.eq_zero_or_pos (aM c y lv) with h0 | h0
  ·rw [h0,ox] at h2;omega
  ·exact h0)) h).1)
 obtain ⟨n,aB⟩:∃ n,aM c y lv=n:=⟨_,rfl⟩;have J:=hide aB;rw [aB] at b1 ⊢;clear V aB;obtain ⟨⟨k0,k1⟩,_⟩:=fW ac.out.2.1;have aa:=ac.out.2.2.1;go_wp2_with fail;refine (rM P A _ _ _ (HP.out.call o) (HA.out.call o) b2).mono ?_;rintro e w2 ⟨rfl,bh⟩;have O:=hide (ac.out.call bh);clear bh k0 k1 aa o;have o:=O.out.2.2.2;by_cases hC:fu P A=0
 rotate_left
 ·have I:=hide (show dw c lv y P A Z=fu P A by rw [dw,if_pos HF.out,if_neg hC])
  have hE:(fu P A != 0)=true:=by simpa using hC
  have HC:=hide hC;obtain ⟨E,F⟩:∃ E,fu P A=E:=⟨_,rfl⟩;rw [F] at I hE HC ⊢;clear hC F;go_wp2;go_ret2;exact ⟨⟨.slice none 0 0,by rw [I.out];rfl,fun h=>absurd (I.out.symm.trans h) HC.out,fun _=>rfl⟩,o⟩
 have HC:=hide hC;rw [hC];clear hC;obtain ⟨q0,q1,q2,q3,q4,q5,q6,q7,q8,q9,a5,a6,a7,a8⟩:=O.out.1;obtain ⟨⟨k0,k1⟩,_⟩:=fW O.out.2.1;have aa:=O.out.2.2.1;have al:w.heap.size<w2.heap.size:=om;go_wp2_with fail;refine (bw.out HC.out w2 (HA.out.call o)).mono ?_;rintro e G ⟨⟨m,rfl,a3,a4⟩,bk⟩;have ao:=hide (O.out.call bk);clear bk q0 q1 q2 q3 q4 q5 q6 q7 q8 q9 a5 a6 a7 a8 k0 k1 aa o al;have o:=ao.out.2.2.2;by_cases hZ:Z.pe y=0
 rotate_left
 ·obtain rfl:=a4 hZ
  have I:=hide (show dw c lv y P A Z=Z.pe y by rw [dw,if_pos HF.out,if_pos HC.out,if_neg hZ]);have hE:(Z.pe y != 0)=true:=by simpa using hZ
  have HZ:=hide hZ;simp only;obtain ⟨E,F⟩:∃ E,Z.pe y=E:=⟨_,rfl⟩;rw [F] at I hE HZ ⊢;clear hZ F a3 a4;go_wp2;go_ret2;exact ⟨⟨.slice none 0 0,by rw [I.out];rfl,fun h=>absurd (I.out.symm.trans h) HZ.out,fun _=>rfl⟩,o⟩
 have HM:=hide (a3 hZ);have HZ:=hide hZ;simp only;rw [hZ];clear hZ a3 a4;have I:=hide (show dw c lv y P A Z=dL c P A Z (yU lv y n) by rw [dw,if_pos HF.out,if_pos HC.out,if_pos HZ.out,J.out]);have b9:=fun w=>uA n om w
 have HL:=hide (show (fO c lv y P A Z).length=n by rw [wG,J.out]);have HG:=hide (fun (j:Nat) (h:j<n)=>kS (c:=c) (lv:=lv) (y:=y) (P:=P) (A:=A) (Z:=Z) (j:=j) (by rw [J.out];exact h));have ba:=hide (fun (j:Nat) (h:j<n) (W:World) (h1:eu W (.slice b0 P.length bc) P) (h2:nI W m (Z.f y))=>by
  have hU:=fs (j:=j) HF.out (by rw [J.out];exact h);have h3:=(HB.out.2.2 _ hU HC.out).2 HZ.out;have h4:=E5 (Z:=Z) (P:=P) (A:=A) hU HC.out HZ.out;have h5:=zg c ⟨lv,y,(j:Int)+1⟩ P (Z.f y) _ m W hn hU h1 h2 HB.out.1.1 HB.out.2.1 h3.1 h3.2;rw [← h4.1,← h4.2] at h5;exact h5)
 simp only [aI,aZ] at ba;have H4:=hide (show bS (G.alloc (mK n)) G.heap.size (bI tm (fO c lv y P A Z) 0)∧Below G G (G.alloc (mK n)) from ⟨by rw [fD,HL.out];exact bS.new G n,(Below.refl _ _).alloc (Nat.le_refl _) _⟩);go_wp2_with fail;go_loopw [49] (fun a9 wr=>∃ j:Nat,a9=.int .i64 j∧j≤n∧dL c P A Z ((yU lv y n).take j)=0∧Hid (bS wr G.heap.size (bI tm (fO c lv y P A Z) j)∧Below G G wr)) (fun a9 _=>(n+5-intOf a9).toNat)
 case atStart=>exact ⟨0,rfl,Nat.zero_le _,rfl,H4⟩
 case round =>
  obtain ⟨j,rfl,hj,ab,HQ⟩:=hrel;have ad:=ao.out.call HQ.out.2;have b6:=HQ.out.1.lt;by_cases Y:j<n
  ·obtain ⟨q0,q1,q2,q3,q4,q5,q6,q7,q8,q9,a5,a6,a7,a8⟩:=ad.1
   obtain ⟨⟨k0,k1⟩,_⟩:=fW ad.2.1;have aa:=ao.out.2.2.1;have al:w.heap.size<wr.heap.size:=om;have bl:w.heap.size+1<wr.heap.size:=om;have b7:(0:Int)≤(j:Int):=om;have b8:(j:Int)<(n:Int):=om;have bb:=hide ab;clear ab;clear ad;go_wp2_with fail;have U:Below G G (wr.alloc (.cells #[lv,y,.int .i64 ((j:Int)+1)] 33)):=HQ.out.2.alloc om _;refine (ba.out j Y _ (HP.out.call (o.trans (U.mono o.size))) (HM.out.call U)).mono ?_;rintro e w4 ⟨rfl,ah⟩;have H:=hide (show bS w4 G.heap.size (bI tm (fO c lv y P A Z) j)∧Below G G w4 from ⟨(HQ.out.1.call ((Below.refl _ _).alloc (Nat.le_refl _) _)).call ah,U.trans (ah.mono U.size)⟩);have K:=hide (ax.call (ax.new wr #[lv,y,.int .i64 ((j:Int)+1)] 33) ah);have bX:=hide (o.trans (H.out.2.mono o.size));clear ah U q0 q1 q2 q3 q4 q5 q6 q7 q8 q9 a5 a6 a7 a8 k0 k1 aa al bl o;have hx:=FW (lv:=lv) (y:=y) Y;by_cases hT:TE c P A Z ⟨lv,y,(j:Int)+1⟩=0
   rotate_left
   ·have HE:=hide (show dw c lv y P A Z=TE c P A Z ⟨lv,y,(j:Int)+1⟩ by rw [I.out];exact AK hx bb.out hT)
    have hE:(TE c P A Z ⟨lv,y,(j:Int)+1⟩ != 0)=true:=by simpa using hT
    have HT:=hide hT;obtain ⟨E,F⟩:∃ E,TE c P A Z ⟨lv,y,(j:Int)+1⟩=E:=⟨_,rfl⟩;rw [F] at HE hE HT ⊢;clear hT F hx;have aq:=bX.out;go_wp2;go_ret2;exact ⟨⟨.slice none 0 0,by rw [HE.out];rfl,fun h=>absurd (HE.out.symm.trans h) HT.out,fun _=>rfl⟩,aq⟩
   have bx:=hide (rQ hx bb.out hT);rw [hT];have aA:=HG.out j Y;obtain ⟨X,hX⟩:∃ X,TV c P A Z ⟨lv,y,(j:Int)+1⟩=X:=⟨_,rfl⟩;rw [hX] at aA ⊢;have HN:=hide (show bS (iZ w4 G.heap.size j (⟨lv,y,(j:Int)+1⟩,X)) G.heap.size (bI tm (fO c lv y P A Z) (j+1))∧Below G G (iZ w4 G.heap.size j (⟨lv,y,(j:Int)+1⟩,X)) from by
    have h:=H.out.1.put j (⟨lv,y,(j:Int)+1⟩,X) (by rw [ke _ _ _ (by rw [HL.out];omega),HL.out];exact Y);rw [gQ _ _ _ _ aA] at h;exact ⟨h,lG H.out.2 (Nat.le_refl _)⟩)
   unfold iZ at HN;simp only at HN;obtain ⟨s0,s1,s2,s3⟩:=H.out.1.cell (lQ tm (fO c lv y P A Z) j (by rw [HL.out];exact Y));have n0:=H.out.1.frozen (j*4);have n1:=H.out.1.frozen (j*4+1);have n2:=H.out.1.frozen (j*4+2);have n3:=H.out.1.frozen (j*4+3);have b4:=H.out.1.lt;obtain ⟨⟨a0,a1,a2⟩,cb⟩:=fU K.out;clear hx aA hX hT;go_wp2;go_roundw
   case rel=>exact ⟨j+1,by go_num,by omega,bx.out,HN⟩
   case measure=>simp [intOf];omega
  ·obtain rfl:j=n:=om
   have bt:=hide (show bS wr G.heap.size (fO c lv y P A Z) from by
    have h:=HQ.out.1;have e1:=fA tm (fO c lv y P A Z);rw [HL.out] at e1
    rwa [e1] at h)
   rw [List.take_of_length_le (by rw [Hy];exact Nat.le_refl _)] at ab;have HE:=hide (I.out.trans ab);have bp:=o.size;have bs:=hide (o.trans (HQ.out.2.mono bp));clear ab ad;go_wp2
   all_goals first
    | (exfalso;omega)
    | skip
   go_ret2;exact ⟨⟨.slice (some ⟨G,0,none⟩) j j,by rw [HE.out];rfl,fun _=>⟨_,by rw [J.out],bt.out,bp⟩,fun h=>absurd HE.out h⟩,bs.out⟩
theorem Ah {c:aC} {u:Un} {lv:Int} (F:aU c u=0) (E:u.lv≤lv) (f:lv≤5):∃ i n:Nat,0<n∧i+n≤aM c u.yr lv∧Dv c u lv=⟨lv,u.yr,(i:Int)+1⟩∧Di c u lv=⟨lv,u.yr,(i:Int)+n⟩∧aX c u.yr lv i=dz c u∧aX c u.yr lv (i+n)=dT c u:=by
 obtain ⟨hf,I,l5,o,hx,hi⟩:=ev F;obtain ⟨i,G,J⟩:=kZ c u.yr o u.lv lv I E f (uI u) om;obtain ⟨j,Y,O⟩:=kZ c u.yr o u.lv lv I E f (uI u+1) om;have W:=iR F;have U:aX c u.yr lv i=dz c u:=J.symm;have V:aX c u.yr lv j=dT c u:=O.symm;have aa:i<j:=by
  rcases Nat.lt_or_ge i j with h | h
  ·exact h
  ·have:=dM c u.yr o lv om f h G
   omega
 have H:tD c u lv=0:=by rw [tD,if_pos F,if_pos ⟨E,f⟩]
 have x1:=iw c u.yr o lv om f i om;have x2:=iw c u.yr o lv om f (j-1) om;rw [show j-1+1=j by omega] at x2;refine ⟨i,j-i,by omega,by omega,?_,?_,U,by rw [show i+(j-i)=j by omega];exact V⟩
 ·rw [Dv,if_pos H,oz c u.yr o lv om f (dz c u) i om om om]
 ·rw [Di,if_pos H,oz c u.yr o lv om f (dT c u-1) (j-1) om om (by rw [show j-1+1=j by omega];omega)]
  simp only [Un.mk.injEq,true_and];omega
end
section
open Go.ChangeShapes Go.WideShapes Go.ChangeAt Go.RowKit Qd
section
variable {H:Type} {enc:TypeId × Value→H} {base:Nat} {spare:Nat→Bool} {held:Bool}
def Ip:Value→Int
 | .int _ x=>x
 | _=>0
theorem uq {w:World} {a:Addr} {v:Value} (h:w.cell? a=some v):a.block<w.heap.size:=by
 unfold World.cell? at h
 split at h
 ·rename_i c t f hh
  exact (Array.getElem?_eq_some_iff.1 hh).1
 ·cases h
end
end
end Go.Proofs.YtpebkobmhhnojaaGreatDoor
