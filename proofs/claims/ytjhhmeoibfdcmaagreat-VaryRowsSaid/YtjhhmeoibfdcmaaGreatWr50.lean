/- Lemmas. -/
import Derived.Test.YtjhhmeoibfdcmaaGreatWr33
import Derived.Test.YtjhhmeoibfdcmaaGreatWr40
import Derived.Test.YtjhhmeoibfdcmaaGreatWr46
import Derived.Test.YtjhhmeoibfdcmaaGreatWr49
set_option linter.unusedSimpArgs false
set_option linter.unusedVariables false
set_option maxRecDepth 100000
set_option maxHeartbeats 12800000
namespace Go.Proofs.YtjhhmeoibfdcmaaGreat
section
open Go.RowKit Qd
def qM (L:List Un) (E:Int) (w:World) (e:Ending) (f:World):Prop:=∃ a n cap,e=.returned (.tuple #[.slice a n cap,E])∧RU f a n cap L∧Below w w f
theorem cY (c:ar) (y:Int) (w:World) (r:Bool) (f:r=decide (c.first≤y∧y≤c.last)):Calls Tryz.prog 128 #[av c,y] w fun e h=>e=.returned (.bool r)∧Below w w h:=by
 simp only [av];subst f;go_enter Tryz.func128,Tryz.ntmps128;go_wp2
 all_goals (go_ret;refine ⟨aY ?_,by (repeat' exact bel)⟩;simp;try omega)
theorem tC (c:ar) (u:Un) (k:Int) (w:World) (U:c.name.size≤1000) (o:¬ aE c u=0) :
  Calls Tryz.prog 77 #[av c,aC u,k] w (qM (gZ c u k) (ju c u k) w):=by
 have F:ju c u k=aE c u:=by unfold ju;rw [if_neg o]
 have S:=hide (show gZ c u k=[] by rw [gZ,if_neg (by rw [F];exact o)]);obtain ⟨E,h⟩:∃ X,aE c u=X:=⟨_,rfl⟩;rw [h] at o F;have R:=hide h;have HT:=hide F;have T:(E != 0)=true:=by simpa using o
 rw [F];clear o h F;simp only [av,aC];go_enter Tryz.func77,Tryz.ntmps77;go_wp2_with fail;refine (eW c u _ U).mono ?_;rintro e J ⟨rfl,f⟩;rw [R.out];have W:w.heap.size+1<J.heap.size:=aj f;have G:Hid (Below w w J):=ww f;have H:=hide (aa f ae (az (au w c) ac _));have I:=hide (aS f ac (cA w c u));obtain ⟨q0,q1,q2,q3,q4,q5,q6,q7,q8,q9,ab,ad,ah,al⟩:=H.out;obtain ⟨u0,u1,u2⟩:=I.out;have V:w.heap.size<J.heap.size:=om;clear f;have O:=G.out;go_wp2;go_ret2;exact ⟨none,0,0,rfl,by rw [S.out];exact .inl ⟨rfl,rfl,rfl,rfl⟩,by (repeat' exact bel)⟩
theorem uq (c:ar) (u:Un) (k:Int) (w:World) (hn:c.name.size≤1000) (W:aE c u=0) (hr:¬ (c.first≤u.yr+k∧u.yr+k≤c.last)) :
  Calls Tryz.prog 77 #[av c,aC u,k] w (qM (gZ c u k) (ju c u k) w):=by
 have he:ju c u k=11:=by unfold ju;rw [if_pos W,if_neg hr]
 have HL:=hide (show gZ c u k=[] by rw [gZ,if_neg (by rw [he];decide)]);have al:=xc W;have HU:=hide W;have HR:=hide hr;rw [he];obtain ⟨_,_,b1,b2,_,b3,b4⟩:=al;clear W he hr;have V:k < -400∨(-400≤k∧400<k)∨(-400≤k∧k≤400):=om;rcases V with V | ⟨V,h4⟩ | ⟨V,h4⟩
 ·simp only [av,aC]
  go_enter Tryz.func77,Tryz.ntmps77;go_wp2_with fail;refine (eW c u _ hn).mono ?_;rintro e G ⟨rfl,f⟩;rw [HU.out];have T:w.heap.size+1<G.heap.size:=aj f;have E:Hid (Below w w G):=ww f;have o:=hide (aa f ae (az (au w c) ac _));have h:=hide (aS f ac (cA w c u));obtain ⟨q0,q1,q2,q3,q4,q5,q6,q7,q8,q9,H,I,J,O⟩:=o.out;obtain ⟨u0,u1,u2⟩:=h.out;have S:w.heap.size<G.heap.size:=om;clear f;have R:=E.out;go_wp2
  all_goals first
   | (exfalso;omega)
   | (go_ret2;exact ⟨none,0,0,rfl,by rw [HL.out];exact .inl ⟨rfl,rfl,rfl,rfl⟩,by (repeat' exact bel)⟩)
 ·simp only [av,aC]
  go_enter Tryz.func77,Tryz.ntmps77;go_wp2_with fail;refine (eW c u _ hn).mono ?_;rintro e G ⟨rfl,f⟩;rw [HU.out];have T:w.heap.size+1<G.heap.size:=aj f;have E:Hid (Below w w G):=ww f;have o:=hide (aa f ae (az (au w c) ac _));have h:=hide (aS f ac (cA w c u));obtain ⟨q0,q1,q2,q3,q4,q5,q6,q7,q8,q9,H,I,J,O⟩:=o.out;obtain ⟨u0,u1,u2⟩:=h.out;have S:w.heap.size<G.heap.size:=om;clear f;have R:=E.out;go_wp2
  all_goals first
   | (exfalso;omega)
   | (go_ret2;exact ⟨none,0,0,rfl,by rw [HL.out];exact .inl ⟨rfl,rfl,rfl,rfl⟩,by (repeat' exact bel)⟩)
 ·simp only [av,aC]
  go_enter Tryz.func77,Tryz.ntmps77;go_wp2_with fail;refine (eW c u _ hn).mono ?_;rintro e G ⟨rfl,f⟩;rw [HU.out];have T:w.heap.size+1<G.heap.size:=aj f;have E:Hid (Below w w G):=ww f;have o:=hide (aa f ae (az (au w c) ac _));have h:=hide (aS f ac (cA w c u));obtain ⟨q0,q1,q2,q3,q4,q5,q6,q7,q8,q9,H,I,J,O⟩:=o.out;obtain ⟨u0,u1,u2⟩:=h.out;have S:w.heap.size<G.heap.size:=om;clear f;go_wp2_with fail
  all_goals first
   | (exfalso;omega)
   | skip
  refine (cY c (u.yr+k) _ false (by simp;have:=HR.out;omega)).mono ?_;rintro e U ⟨rfl,F⟩;have ay:w.heap.size+1<U.heap.size:=aj F;have ab:Hid (Below w w U):=ao E.out F;have ad:Hid (aG U w c):=by have hp:=o.out;exact qq F
  clear q0 q1 q2 q3 q4 q5 q6 q7 q8 q9 H I J O;obtain ⟨q0,q1,q2,q3,q4,q5,q6,q7,q8,q9,H,I,J,O⟩:=ad.out;have ah:=hide (show iB U (w+1) u from aS F sz (by first | exact h.out | exact bU h.out om _ | exact bU (bU h.out om _) ae _));clear u0 u1 u2;obtain ⟨u0,u1,u2⟩:=ah.out;have aq:w.heap.size<U.heap.size:=om;clear F;have R:=ab.out;go_wp2
  all_goals first
   | (exfalso;omega)
   | (go_ret2;exact ⟨none,0,0,rfl,by rw [HL.out];exact .inl ⟨rfl,rfl,rfl,rfl⟩,by (repeat' exact bel)⟩)
theorem xE (c:ar) (u:Un) (k:Int) (w:World) (hn:c.name.size≤1000) (hU:aE c u=0) (hr:c.first≤u.yr+k∧u.yr+k≤c.last) (ba:c.kind=6) :
    Calls Tryz.prog 77 #[av c,aC u,k] w (qM (gZ c u k) (ju c u k) w):=by
  have cl:=xc hU;have HU:=hide hU;have HR:=hide hr;have bt:-400≤k∧k≤400:=by
    have:=FJ (a9 (bN hU).1).2.1;omega
  obtain ⟨cS,c0⟩:=bt;obtain ⟨c3,c4,b1,b2,_,b3,b4⟩:=cl;have a4:=o5 hU hr;have U:=fun (h:dx c u k=[])=>zj hU hr h
  have T:=fun (h:¬ uo c (dx c u k)=true)=>zi hU hr h
  have a5:=fun (h:uo c (dx c u k)=true) (h0:0<(dx c u k).length)=>GN hU hr h h0
  have bw:dx c u k=dh c u (u.yr+k):=by simp [dx,ba]
  have a8:=hide (fun (W:World)=>rh c u (u.yr+k) W hn hU hr);have c9:(c.kind==6)=true:=by simp [ba]
  rw [← bw] at a8;obtain ⟨L,hL⟩:∃ L,dx c u k=L:=⟨_,rfl⟩;rw [hL] at a8 a4 U T a5;have b6:=hide U;have b5:=hide T;have H0:=hide a5;obtain ⟨dq,ds⟩:=hr;clear hU ba bw hL U T a5;simp only [av,aC];go_enter Tryz.func77,Tryz.ntmps77;go_wp2_with fail;refine (eW c u _ hn).mono ?_;rintro e w1 ⟨rfl,ab⟩;rw [HU.out];have d2:w.heap.size+1<w1.heap.size:=aj ab;have b7:Hid (Below w w w1):=ww ab;have bd:=hide (aa ab ae (az (au w c) ac _));have aA:=hide (aS ab ac (cA w c u));obtain ⟨q0,q1,q2,q3,q4,q5,q6,q7,q8,q9,f,E,F,G⟩:=bd.out;obtain ⟨u0,u1,u2⟩:=aA.out;have dY:w.heap.size<w1.heap.size:=om;clear ab;go_wp2_with fail
  all_goals first
    | (exfalso;omega)
    | skip
  refine (cY c (u.yr+k) _ true ae).mono ?_;rintro e w2 ⟨rfl,ad⟩;have d3:w.heap.size+1<w2.heap.size:=aj ad;have b8:Hid (Below w w w2):=ao b7.out ad;have bh:Hid (aG w2 w c):=by have hp:=bd.out;exact qq ad
  clear q0 q1 q2 q3 q4 q5 q6 q7 q8 q9 f E F G;obtain ⟨q0,q1,q2,q3,q4,q5,q6,q7,q8,q9,f,E,F,G⟩:=bh.out;have aB:=hide (show iB w2 (w+1) u from aS ad sz (by first | exact aA.out | exact bU aA.out om _ | exact bU (bU aA.out om _) ae _));clear u0 u1 u2;obtain ⟨u0,u1,u2⟩:=aB.out;have d0:w.heap.size<w2.heap.size:=om;clear ad;go_wp2_with fail;refine (a8.out _).mono ?_;rintro e S ⟨a,n,cap,rfl,bX,ah⟩;have bl:=hide bX;clear bX;have d4:w.heap.size+1<S.heap.size:=aj ah;have a6:Hid (Below w w S):=ao b8.out ah;have ay:Hid (aG S w c):=by have hp:=bh.out;exact qq ah
  clear q0 q1 q2 q3 q4 q5 q6 q7 q8 q9 f E F G;obtain ⟨q0,q1,q2,q3,q4,q5,q6,q7,q8,q9,f,E,F,G⟩:=ay.out;have cb:=hide (show iB S (w+1) u from aS ah sz (by first | exact aB.out | exact bU aB.out om _ | exact bU (bU aB.out om _) ae _));clear u0 u1 u2;obtain ⟨u0,u1,u2⟩:=cb.out;have d1:w.heap.size<S.heap.size:=om;clear ah;clear u0 u1 u2;rcases bl.out with ⟨rfl,rfl,rfl,rfl⟩ | ⟨bx,rfl,g,o,rfl,bc⟩
  · clear a4
    have H:=hide (b6.out rfl);go_wp2_with fail;go_loopw [112] (fun s wr=>s=.int .i64 0∧Below w w wr) (fun s _=>(500-intOf s).toNat)
    case atStart=>exact ⟨rfl,a6.out⟩
    case round =>
      obtain ⟨rfl,aF⟩:=hrel;go_wp2
      all_goals first
        | (exfalso;omega)
        | (go_ret2;exact ⟨none,0,0,by rw [H.out.1];rfl,by rw [H.out.2];exact .inl ⟨rfl,rfl,rfl,rfl⟩,by (repeat' exact bel)⟩)
  · have V:=hide bc
    have c7:=bc.1;clear bc bl;clear q0 q1 q2 q3 q4 q5 q6 q7 q8 q9 f E F G;obtain ⟨q0,q1,q2,q3,q4,q5,q6,q7,q8,q9,f,E,F,G⟩:=ay.out;by_cases R:uo c L=true
    · have H:=hide (H0.out R bx)
      have b9:=hide R;clear R;go_wp2_with fail;go_loopw [112] (fun s wr=>∃ j:Nat,s=.int .i64 j∧j≤L.length∧Below S S wr) (fun s _=>(500-intOf s).toNat)
      case atStart=>exact ⟨0,rfl,Nat.zero_le _,Below.refl _ _⟩
      case round =>
        obtain ⟨j,rfl,hj,O⟩:=hrel;have aq:=hide O;have cI:=O.size;by_cases bb:j<L.length
        · obtain ⟨x,hx⟩:∃ x,L[j]?=some x:=⟨_,List.getElem?_eq_getElem bb⟩
          have al:=oR b9.out hx;obtain ⟨a0,a1,a2⟩:=(V.out.call O).2 j x hx;obtain ⟨q0,q1,q2,q3,q4,q5,q6,q7,q8,q9,f,E,F,G⟩:=aa O om ay.out;have cp:=(V.out.call O).1;have cM:w.heap.size<wr.heap.size:=om;clear hx O;have cr:(0:Int)≤(j:Int):=om;have cs:(j:Int)<(L.length:Int):=om;go_wp2_with fail
          all_goals first
            | (exfalso;omega)
            | skip
          refine (cY c x.yr _ true ae).mono ?_;rintro e wz ⟨rfl,I⟩;have a7:=hide (show Below S S wz by have hp:=aq.out;refine Below.trans ?_ (I.mono ae);(repeat' exact bel));clear q0 q1 q2 q3 q4 q5 q6 q7 q8 q9 f E F G;clear a0 a1 a2 I;go_wp2
          all_goals first
            | (exfalso;omega)
            | skip
          go_roundw
          case rel=>exact ⟨j+1,by go_num,by omega,a7.out⟩
          case measure=>simp [intOf];omega
        · obtain rfl:j=L.length:=om
          have dd:((L.length:Int)==0)=false:=by rw [beq_eq_false_iff_ne];omega
          have ca:=hide (V.out.call O);have aF:=a6.out.trans (O.mono om);have c6:(0:Int)<(L.length:Int):=om;clear O;go_wp2
          all_goals first
            | (exfalso;omega)
            | (go_ret2;exact ⟨_,_,_,by rw [H.out.1];rfl,by rw [H.out.2];exact .inr ⟨bx,rfl,_,_,rfl,ca.out⟩,by (repeat' exact bel)⟩)
    · have H:=hide (b5.out R)
      obtain ⟨J,c5,xJ,b0,a3⟩:∃ J:Nat,J<L.length∧∃ x,L[J]?=some x∧¬ (c.first≤x.yr∧x.yr≤c.last):=by
        apply Classical.byContradiction;intro cE;exact R (oH (fun j x hx=>Classical.byContradiction fun h=>cE ⟨j,(List.getElem?_eq_some_iff.1 hx).1,x,hx,h⟩))
      have bp:=hide (And.intro b0 a3);clear R b0 a3;go_wp2_with fail;go_loopw [112] (fun s wr=>∃ j:Nat,s=.int .i64 j∧j≤J∧Below S S wr) (fun s _=>(500-intOf s).toNat)
      case atStart=>exact ⟨0,rfl,Nat.zero_le _,Below.refl _ _⟩
      case round =>
        obtain ⟨j,rfl,hj,O⟩:=hrel;have aq:=hide O;have cI:=O.size;have bb:j<L.length:=om;obtain ⟨x,hx⟩:∃ x,L[j]?=some x:=⟨_,List.getElem?_eq_getElem bb⟩;obtain ⟨a0,a1,a2⟩:=(V.out.call O).2 j x hx;obtain ⟨q0,q1,q2,q3,q4,q5,q6,q7,q8,q9,f,E,F,G⟩:=aa O om ay.out;have cp:=(V.out.call O).1;have cM:w.heap.size<wr.heap.size:=om;have HX:=hide hx;clear hx O;have cr:(0:Int)≤(j:Int):=om;have cs:(j:Int)<(L.length:Int):=om;by_cases al:c.first≤x.yr∧x.yr≤c.last
        · have c8 : j < J := by
            rcases Nat.lt_or_ge j J with h | h
            · exact h
            · exfalso
              have cy:j=J:=om;have h1:=HX.out;rw [cy,bp.out.1] at h1;cases h1;exact bp.out.2 al
          obtain ⟨c1,c2⟩:=al;go_wp2_with fail
          all_goals first
            | (exfalso;omega)
            | skip
          refine (cY c x.yr _ true ae).mono ?_;rintro e wz ⟨rfl,I⟩;have a7:=hide (show Below S S wz by have hp:=aq.out;refine Below.trans ?_ (I.mono ae);(repeat' exact bel));clear q0 q1 q2 q3 q4 q5 q6 q7 q8 q9 f E F G;clear a0 a1 a2 I;go_wp2
          all_goals first
            | (exfalso;omega)
            | skip
          go_roundw
          case rel=>exact ⟨j+1,by go_num,by omega,a7.out⟩
          case measure=>simp [intOf];omega
        · have cc:=hide al
          clear al;go_wp2_with fail
          all_goals first
            | (exfalso;omega)
            | skip
          refine (cY c x.yr _ false (by simp;have:=cc.out;omega)).mono ?_;rintro e wz ⟨rfl,I⟩;have aF:Below w w wz:=by have hp:=a6.out.trans (aq.out.mono om);refine Below.trans ?_ (I.mono ae);(repeat' exact bel)
          clear q0 q1 q2 q3 q4 q5 q6 q7 q8 q9 f E F G;clear a0 a1 a2 I;go_wp2
          all_goals first
            | (exfalso;omega)
            | (go_ret2;exact ⟨none,0,0,by rw [H.out.1];rfl,by rw [H.out.2];exact .inl ⟨rfl,rfl,rfl,rfl⟩,by (repeat' exact bel)⟩)
theorem xN (c:ar) (u:Un) (k:Int) (w:World) (hn:c.name.size≤1000) (hU:aE c u=0) (hr:c.first≤u.yr+k∧u.yr+k≤c.last) (a3:c.kind≠6) :
    Calls Tryz.prog 77 #[av c,aC u,k] w (qM (gZ c u k) (ju c u k) w):=by
  have f6:=xc hU;have HU:=hide hU;have HR:=hide hr;have eB:-400≤k∧k≤400:=by
    have:=FJ (a9 (bN hU).1).2.1;omega
  obtain ⟨g6,g7⟩:=eB;obtain ⟨he,hf,b1,b2,_,b3,b4⟩:=f6;have c0:=o5 hU hr;have bp:=fun (h:dx c u k=[])=>zj hU hr h
  have bl:=fun (h:¬ uo c (dx c u k)=true)=>zi hU hr h
  have c3:=fun (h:uo c (dx c u k)=true) (h0:0<(dx c u k).length)=>GN hU hr h h0
  have d1:dx c u k=cZ c u.yr (u.yr+k) (dS c u):=by simp [dx,a3]
  have hD:(c.kind==6)=false:=by simpa using a3
  obtain ⟨gm,a5,_,_,e4,e5,hA⟩:=a9 (bN hU).1;have cs:dp c u.yr:=⟨e4,e5⟩;have bd:dp c (u.yr+k):=hr;have eF:=dz hU;have gh:=li a5 a3 cs;have cc:=hide (dW a5 a3 bd (u.yr+k) om om);have cl:=hide (dW a5 a3 bd (u.yr+k-1) om om);have d5:=hide (fun x (hx:1≤x∧x≤aL c u.yr)=>Iy a5 a3 cs bd hx);have d4:=hide (fun x (hx:1≤x∧x≤aL c u.yr)=>EG a5 a3 cs bd hx);have bh:dS c u=ij ⟨5,u.yr,(aT c u:Int)+1⟩ (bF c u-aT c u):=rfl;have c6:=hide (fun (W:World)=>jh c u W hn hU);have gc:=di c u.yr hA;obtain ⟨S,f,T⟩:=u;simp only at *;obtain ⟨t,ht⟩:∃ t,f+k=t:=⟨_,rfl⟩;rw [ht] at d1 cc cl d5 d4 hr bd;obtain ⟨A,eD⟩:∃ A,aT c ⟨S,f,T⟩=A:=⟨_,rfl⟩;obtain ⟨B,eE⟩:∃ A,bF c ⟨S,f,T⟩=A:=⟨_,rfl⟩;rw [eD,eE] at bh eF;have a7:(dS c ⟨S,f,T⟩).length=B-A:=by rw [bh,jV]
  obtain ⟨M,hM⟩:∃ M,B-A=M:=⟨_,rfl⟩;rw [hM] at bh a7;have f5:A+M≤60∧0<M:=om;obtain ⟨hh,ho⟩:=f5;have e0:=cc.out.2.2.1;have e1:=cl.out.2.2.1;obtain ⟨N1,c9⟩:∃ N,aL c t=N:=⟨_,rfl⟩;obtain ⟨N2,dd⟩:∃ N,aL c (t-1)=N:=⟨_,rfl⟩;rw [c9] at e0;rw [dd] at e1;have a4:=hide (And.intro (And.intro c9 cc.out.1) (And.intro dd cl.out.1));have fn:=hide (fun j (h:j<M)=>(show (dS c ⟨S,f,T⟩)[j]?=some ⟨5,f,(A:Int)+1+(j:Int)⟩ from by rw [bh];exact iF _ _ _ h));have fB:=hide (fun j (h:j<M)=>(show 1≤(A:Int)+1+(j:Int)∧(A:Int)+1+(j:Int)≤aL c f by omega));have c7:=hide (fun n=>(show nz c t n=if n<1 then ⟨5,t-1,n+aL c (t-1)⟩ else if n≤aL c t then ⟨5,t,n⟩ else ⟨5,t+1,n-aL c t⟩ from rfl));have ek:=hide (fun j (h:j<M)=>(show (dS c ⟨S,f,T⟩).take (j+1)=(dS c ⟨S,f,T⟩).take j++[⟨5,f,(A:Int)+1+(j:Int)⟩] from by
    rw [List.take_add_one,bh,show (ij ⟨5,f,(A:Int)+1⟩ M)[j]?=some ⟨5,f,(A:Int)+1+(j:Int)⟩ from iF _ _ _ h];rfl))
  obtain ⟨L,hL⟩:∃ L,dx c ⟨S,f,T⟩ k=L:=⟨_,rfl⟩;rw [hL] at c0 bp bl c3;have fr:=hide (show cZ c f t (dS c ⟨S,f,T⟩)=L by rw [← d1];exact hL);have e8:=hide bp;have e7:=hide bl;have H0:=hide c3;have el:=hide ht;have b0:=hide a7;obtain ⟨hF,hG⟩:=hr;have gs:1602≤t∧t≤9996:=by have:=dR a5;omega
  obtain ⟨g9,ha⟩:=gs;obtain ⟨i0,hi,ds,dY,d0⟩:=info_parts fG;clear hU a3 d1 hL bp bl c3 gm a5 hA cs bd eF gh bh gc ht eD eE hM c9 dd a7 cc cl;simp only [av,aC];go_enter Tryz.func77,Tryz.ntmps77;go_wp2_with fail;refine (eW c ⟨S,f,T⟩ _ hn).mono ?_;rintro e w1 ⟨rfl,b5⟩;rw [HU.out];have gv:w.heap.size+1<w1.heap.size:=aj b5;have e4:w.heap.size<w1.heap.size:=om;have e9:=hide (show Below w w w1 by refine Below.trans ?_ (b5.mono ae);(repeat' exact bel));have d6:=hide (aa b5 ae (az (au w c) ac _));have em:=hide (aS b5 ac (cA w c ⟨S,f,T⟩));obtain ⟨q0,q1,q2,q3,q4,q5,q6,q7,q8,q9,G,H,I,O⟩:=d6.out;obtain ⟨u0,u1,u2⟩:=em.out;simp only at u0 u1 u2;clear b5;go_wp2_with fail
  all_goals first
    | (exfalso;omega)
    | skip
  refine (cY c (f+k) _ true (by have:=el.out;simp;omega)).mono ?_;rintro e w2 ⟨rfl,b6⟩;have gN:w.heap.size+1<w2.heap.size:=Nat.lt_of_lt_of_le gv b6.size;have e5:w.heap.size<w2.heap.size:=om;have fa:=hide (e9.out.trans (b6.mono om));have d7:=hide (aa b6 om d6.out);have es:=hide (aS b6 om em.out);clear q0 q1 q2 q3 q4 q5 q6 q7 q8 q9 G H I O;clear u0 u1 u2;obtain ⟨q0,q1,q2,q3,q4,q5,q6,q7,q8,q9,G,H,I,O⟩:=d7.out;obtain ⟨u0,u1,u2⟩:=es.out;simp only at u0 u1 u2;clear b6;go_wp2_with fail;rw [el.out];refine (bq c t _ hn).mono ?_;rintro e w3 ⟨rfl,b7⟩;rw [a4.out.1.1,a4.out.1.2];have g0:w.heap.size+1<w3.heap.size:=Nat.lt_of_lt_of_le gN b7.size;have hJ:w.heap.size<w3.heap.size:=om;have fb:=hide (fa.out.trans (b7.mono om));have d8:=hide (aa b7 om d7.out);have et:=hide (aS b7 om es.out);clear q0 q1 q2 q3 q4 q5 q6 q7 q8 q9 G H I O;clear u0 u1 u2;obtain ⟨q0,q1,q2,q3,q4,q5,q6,q7,q8,q9,G,H,I,O⟩:=d8.out;obtain ⟨u0,u1,u2⟩:=et.out;simp only at u0 u1 u2;clear b7;go_wp2_with fail;refine (bq c (t-1) _ hn).mono ?_;rintro e w4 ⟨rfl,b8⟩;rw [a4.out.2.1,a4.out.2.2];have g2:w.heap.size+1<w4.heap.size:=Nat.lt_of_lt_of_le g0 b8.size;have hK:w.heap.size<w4.heap.size:=om;have fd:=hide (fb.out.trans (b8.mono om));have d9:=hide (aa b8 om d8.out);have ew:=hide (aS b8 om et.out);clear q0 q1 q2 q3 q4 q5 q6 q7 q8 q9 G H I O;clear u0 u1 u2;obtain ⟨q0,q1,q2,q3,q4,q5,q6,q7,q8,q9,G,H,I,O⟩:=d9.out;obtain ⟨u0,u1,u2⟩:=ew.out;simp only at u0 u1 u2;clear b8;go_wp2_with fail;refine (c6.out _).mono ?_;rintro e w5 ⟨g,cap,rfl,ca,f7,c2,hg,b9⟩;rw [b0.out];have ey:=hide (ca.rdu c2);have hy:=ey.out.1;clear ca f7 c2;have hO:w.heap.size+1<w5.heap.size:=Nat.lt_of_lt_of_le g2 b9.size;have hN:w.heap.size<w5.heap.size:=om;have fi:=hide (fd.out.trans (b9.mono om));have ea:=hide (aa b9 om d9.out);have ex:=hide (aS b9 om ew.out);clear q0 q1 q2 q3 q4 q5 q6 q7 q8 q9 G H I O;clear u0 u1 u2;obtain ⟨q0,q1,q2,q3,q4,q5,q6,q7,q8,q9,G,H,I,O⟩:=ea.out;obtain ⟨u0,u1,u2⟩:=ex.out;simp only at u0 u1 u2;clear b9;obtain ⟨Bo,f2⟩:∃ B,B=w5.heap.size:=⟨_,rfl⟩;have f3:w.heap.size<Bo:=om;have f4:w.heap.size+1<Bo:=om;have f1:g<Bo:=om;have fz:=hide (show ks c w.heap.size Bo [] (.slice none 0 0) w w5 from ⟨ea.out,f3,by omega,World.ownsRow_nil _ _ _ _,fi.out⟩);clear q0 q1 q2 q3 q4 q5 q6 q7 q8 q9 G H I O;clear u0 u1 u2 f2;go_wp2_with fail;go_loopw [10,71] (fun e6 g4 wr=>∃ j:Nat,g4=.int .i64 j∧j≤M∧Below Bo w5 wr∧ks c w.heap.size Bo (cZ c f t ((dS c ⟨S,f,T⟩).take j)) e6 w wr∧(e6=.slice none 0 0↔(cZ c f t ((dS c ⟨S,f,T⟩).take j))=[])) (fun _ s _=>(500-intOf s).toNat)
  case atStart=>exact ⟨0,rfl,Nat.zero_le _,Below.refl _ _,by simpa [cZ] using fz.out,by simp [cZ]⟩
  case round =>
    obtain ⟨j,rfl,hj,hB,hS,cS⟩:=hrel;have HS:=hide hS;have ab:=hide hB;have bx:=hide cS;have hk:=hS.2.2.1;clear hS hB cS;have e2:w.heap.size<wr.heap.size:=om;have hb:w.heap.size+1<wr.heap.size:=om;have eL:g<wr.heap.size:=om;obtain ⟨q0,q1,q2,q3,q4,q5,q6,q7,q8,q9,G,H,I,O⟩:=HS.out.1;by_cases a6:j<M
    · obtain ⟨a0,a1,a2⟩:=(ey.out.below ab.out f1).2 j _ (fn.out j a6)
      simp only [Nat.zero_add] at a0 a1 a2;obtain ⟨u0,u1,u2⟩:=aS ab.out f4 ex.out;simp only at u0 u1 u2;have eN:(0:Int)≤(j:Int):=om;have eS:(j:Int)<(M:Int):=om;have cy:=fB.out j a6;have dq:=d5.out _ cy;have al:=d4.out _ cy;have ah:=hide (ek.out j a6);have c1:(cZ c f t ((dS c ⟨S,f,T⟩).take j)).length≤60:=by
        have h1:=sU c f t ((dS c ⟨S,f,T⟩).take j);have h2:((dS c ⟨S,f,T⟩).take j).length≤j:=List.length_take_le _ _;omega
      obtain ⟨x,hx⟩:∃ x:Int,(A:Int)+1+(j:Int)=x:=⟨_,rfl⟩;rw [hx] at a2 dq al ah cy;obtain ⟨V,hV⟩:∃ V,fP c f t x=V:=⟨_,rfl⟩;obtain ⟨U,hU⟩:∃ U,cZ c f t ((dS c ⟨S,f,T⟩).take j)=U:=⟨_,rfl⟩;rw [hV] at dq;rw [hU] at HS c1 bx;obtain ⟨nU,d2⟩:∃ n,U.length=n:=⟨_,rfl⟩;rw [d2] at c1;have bX:=hide hU;have ba:=hide d2;have HV:=hide hV;obtain ⟨hq,g8⟩:=dq;clear hx hV hU d2 cy;rcases al with al | al
      · have ad:=hide (show eI c f t (⟨5,f,x⟩:Un).ix=0 from al)
        have HE:=hide al;clear al;go_wp2_with fail;refine (og c f t x _ hn).mono ?_;rintro e w6 ⟨rfl,aB⟩;rw [HE.out,HV.out];have aq:wr.heap.size+1≤w6.heap.size:=by have:=aB.size;simp at this;omega
        have R:=hide (HS.out.call (Below.trans ((Below.refl _ _).alloc (Nat.le_refl _) _) (aB.mono ac)));have ay:=hide (ab.out.trans (Below.trans ((Below.refl _ _).alloc om _) (aB.mono ae)):Below Bo w5 w6);clear aB a0 a1 a2 u0 u1 u2;clear q0 q1 q2 q3 q4 q5 q6 q7 q8 q9 G H I O;have hH:w.heap.size+1<w6.heap.size:=om;rcases (show V=0∨(1≤V∧V≤N1)∨(1≤V∧N1<V) by omega) with hv | ⟨gt,eU⟩ | ⟨gt,eU⟩
        · subst hv
          go_wp2_with ((at_builtin;refine wpList_append_own _ rfl _ _ 115 rfl Bo 26 i0 (.agg #[.int .i64 0,.int .i64 0,.int .i64 0]) 3 24 Tryz.underlying115 hi ds dY d0 rfl ag _ _ _ rfl (fy R.out.2.2.2.1 (by have hz:=aq;(repeat' exact bel))) ⟨w6+1,0,none⟩ 1 1 [.int .i64 5,.int .i64 ((t-1)),.int .i64 (N2)] rfl rfl ?c1a ?c2a ?c3a ?c4a ?c5a ?_))
          case c1a =>
            intro i u E
            match i,E with
            | 0,E=>simp at E;subst E;simp [Addr.add]
            | 1,E=>simp at E;subst E;simp [Addr.add]
            | 2,E=>simp at E;subst E;simp [Addr.add]
            | i+3,E=>simp at E
          case c2a=>intro u E;simp at E;rcases E with rfl | rfl | rfl <;> rfl
          case c3a=>have:=ba.out;unfold maxLen;omega
          case c4a=>have:=ba.out;omega
          case c5a=>have:=R.out.2.2.1;simp;omega
          · intro v' w' o F _
            have HG:=hide (ks.grow (x:=⟨5,(t-1),N2⟩) (R.out.call (by have hz:=aq;(repeat' exact bel))) _ (by exact o) F);have bt:=hide (ay.out.trans (Below.trans (by have hz:=aq;(repeat' exact bel)) HG.out.2));have bw:=hide (show (v'=.slice none 0 0↔(cZ c f t ((dS c ⟨S,f,T⟩).take (j+1)))=[]) from by
              obtain ⟨g3,cE,rfl,_⟩:=eg o om;rw [ah.out,gL _ ad.out];simp)
            clear o F;go_wp2;go_roundw
            case rel=>exact ⟨j+1,by go_num,by omega,bt.out,by rw [ah.out,gL _ ad.out,bX.out,show nz c t (fP c f t (⟨5,f,x⟩:Un).ix)=⟨5,t-1,N2⟩ from by rw [show (⟨5,f,x⟩:Un).ix=x from rfl,HV.out,c7.out,if_pos om,a4.out.2.1];simp];exact HG.out.1,bw.out⟩
            case measure=>simp [intOf];omega
        · skip
          go_wp2_with ((at_builtin;refine wpList_append_own _ rfl _ _ 115 rfl Bo 26 i0 (.agg #[.int .i64 0,.int .i64 0,.int .i64 0]) 3 24 Tryz.underlying115 hi ds dY d0 rfl ag _ _ _ rfl (fy R.out.2.2.2.1 (by have hz:=aq;(repeat' exact bel))) ⟨w6+1,0,none⟩ 1 1 [.int .i64 5,.int .i64 (t),.int .i64 (V)] rfl rfl ?c1b ?c2b ?c3b ?c4b ?c5b ?_))
          case c1b =>
            intro i u E
            match i,E with
            | 0,E=>simp at E;subst E;simp [Addr.add]
            | 1,E=>simp at E;subst E;simp [Addr.add]
            | 2,E=>simp at E;subst E;simp [Addr.add]
            | i+3,E=>simp at E
          case c2b=>intro u E;simp at E;rcases E with rfl | rfl | rfl <;> rfl
          case c3b=>have:=ba.out;unfold maxLen;omega
          case c4b=>have:=ba.out;omega
          case c5b=>have:=R.out.2.2.1;simp;omega
          · intro v' w' o F _
            have HG:=hide (ks.grow (x:=⟨5,t,V⟩) (R.out.call (by have hz:=aq;(repeat' exact bel))) _ (by exact o) F);have bt:=hide (ay.out.trans (Below.trans (by have hz:=aq;(repeat' exact bel)) HG.out.2));have bw:=hide (show (v'=.slice none 0 0↔(cZ c f t ((dS c ⟨S,f,T⟩).take (j+1)))=[]) from by
              obtain ⟨g3,cE,rfl,_⟩:=eg o om;rw [ah.out,gL _ ad.out];simp)
            clear o F;go_wp2;go_roundw
            case rel=>exact ⟨j+1,by go_num,by omega,bt.out,by rw [ah.out,gL _ ad.out,bX.out,show nz c t (fP c f t (⟨5,f,x⟩:Un).ix)=⟨5,t,V⟩ from by rw [show (⟨5,f,x⟩:Un).ix=x from rfl,HV.out,c7.out,if_neg om,a4.out.1.1,if_pos eU]];exact HG.out.1,bw.out⟩
            case measure=>simp [intOf];omega
        · skip
          go_wp2_with ((at_builtin;refine wpList_append_own _ rfl _ _ 115 rfl Bo 26 i0 (.agg #[.int .i64 0,.int .i64 0,.int .i64 0]) 3 24 Tryz.underlying115 hi ds dY d0 rfl ag _ _ _ rfl (fy R.out.2.2.2.1 (by have hz:=aq;(repeat' exact bel))) ⟨w6+1,0,none⟩ 1 1 [.int .i64 5,.int .i64 ((t+1)),.int .i64 (V-N1)] rfl rfl ?c1d ?c2d ?c3d ?c4d ?c5d ?_))
          case c1d =>
            intro i u E
            match i,E with
            | 0,E=>simp at E;subst E;simp [Addr.add]
            | 1,E=>simp at E;subst E;simp [Addr.add]
            | 2,E=>simp at E;subst E;simp [Addr.add]
            | i+3,E=>simp at E
          case c2d=>intro u E;simp at E;rcases E with rfl | rfl | rfl <;> rfl
          case c3d=>have:=ba.out;unfold maxLen;omega
          case c4d=>have:=ba.out;omega
          case c5d=>have:=R.out.2.2.1;simp;omega
          · intro v' w' o F _
            have HG:=hide (ks.grow (x:=⟨5,(t+1),V-N1⟩) (R.out.call (by have hz:=aq;(repeat' exact bel))) _ (by exact o) F);have bt:=hide (ay.out.trans (Below.trans (by have hz:=aq;(repeat' exact bel)) HG.out.2));have bw:=hide (show (v'=.slice none 0 0↔(cZ c f t ((dS c ⟨S,f,T⟩).take (j+1)))=[]) from by
              obtain ⟨g3,cE,rfl,_⟩:=eg o om;rw [ah.out,gL _ ad.out];simp)
            clear o F;go_wp2;go_roundw
            case rel=>exact ⟨j+1,by go_num,by omega,bt.out,by rw [ah.out,gL _ ad.out,bX.out,show nz c t (fP c f t (⟨5,f,x⟩:Un).ix)=⟨5,t+1,V-N1⟩ from by rw [show (⟨5,f,x⟩:Un).ix=x from rfl,HV.out,c7.out,if_neg om,a4.out.1.1,if_neg om]];exact HG.out.1,bw.out⟩
            case measure=>simp [intOf];omega
      · have ad:=hide (show ¬ eI c f t (⟨5,f,x⟩:Un).ix=0 from by show ¬ eI c f t x=0;omega)
        have HE:=hide al;clear al;go_wp2_with fail;refine (og c f t x _ hn).mono ?_;rintro e w6 ⟨rfl,aB⟩;rw [HE.out,HV.out];have R:=hide (HS.out.call (Below.trans ((Below.refl _ _).alloc (Nat.le_refl _) _) (aB.mono ac)));have ay:=hide (ab.out.trans (Below.trans ((Below.refl _ _).alloc om _) (aB.mono ae)):Below Bo w5 w6);clear aB a0 a1 a2 u0 u1 u2;clear q0 q1 q2 q3 q4 q5 q6 q7 q8 q9 G H I O;go_wp2
        all_goals first
          | (exfalso;omega)
          | skip
        go_roundw
        case rel=>exact ⟨j+1,by go_num,by omega,ay.out,by rw [ah.out,ti _ ad.out,bX.out];exact R.out,by rw [ah.out,ti _ ad.out,bX.out];exact bx.out⟩
        case measure=>simp [intOf];omega
    · obtain rfl:j=M:=om
      have d3:(dS c ⟨S,f,T⟩).take j=dS c ⟨S,f,T⟩:=by rw [← b0.out,List.take_length]
      have bb:=HS.out;have cp:=bx.out;rw [d3,fr.out] at bb cp;have fA:=hide bb;have c4:=hide bb.2.2.2.2;have eb:=hide bb.1;have hI:w.heap.size<wr.heap.size:=om;obtain ⟨wo,rfl⟩:∃ wo:World,wo=wr:=⟨_,rfl⟩;by_cases c8:L=[]
      · subst c8
        obtain rfl:=cp.2 rfl;clear c0 bb cp d3;have aA:=hide (e8.out rfl);go_wp2_with fail;go_loopw [112] (fun s wr=>s=.int .i64 0∧Below w w wr) (fun s _=>(500-intOf s).toNat)
        case atStart=>exact ⟨rfl,c4.out⟩
        case round =>
          obtain ⟨rfl,cI⟩:=hrel;go_wp2
          all_goals first
            | (exfalso;omega)
            | (go_ret2;exact ⟨none,0,0,by rw [aA.out.1];rfl,by rw [aA.out.2];exact .inl ⟨rfl,rfl,rfl,rfl⟩,by (repeat' exact bel)⟩)
      · have cr:0<L.length:=List.length_pos_iff.2 c8
        obtain ⟨g1,g5,rfl,hs,ca⟩:=fA.out.uns cr;have a8:=hide (ca.rdu cr);have hw:=a8.out.1;clear ca bb cp d3 c8;by_cases bc:uo c L=true
        · have aA:=hide (H0.out bc cr)
          have c6:=hide bc;clear bc;go_wp2_with fail;go_loopw [112] (fun s wr=>∃ j:Nat,s=.int .i64 j∧j≤L.length∧Below wo wo wr) (fun s _=>(500-intOf s).toNat)
          case atStart=>exact ⟨0,rfl,Nat.zero_le _,Below.refl _ _⟩
          case round =>
            obtain ⟨j,rfl,hj,hB⟩:=hrel;have ab:=hide hB;have go:=hB.size;by_cases a6:j<L.length
            · obtain ⟨x,hx⟩:∃ x,L[j]?=some x:=⟨_,List.getElem?_eq_getElem a6⟩
              have cb:=oR c6.out hx;obtain ⟨a0,a1,a2⟩:=(a8.out.call hB).2 j x hx;simp only [Nat.zero_add] at a0 a1 a2;obtain ⟨q0,q1,q2,q3,q4,q5,q6,q7,q8,q9,G,H,I,O⟩:=aa hB om eb.out;have eL:=(a8.out.call hB).1;have e2:w.heap.size<wr.heap.size:=om;clear hx hB;have eN:(0:Int)≤(j:Int):=om;have eS:(j:Int)<(L.length:Int):=om;go_wp2_with fail
              all_goals first
                | (exfalso;omega)
                | skip
              refine (cY c x.yr _ true ae).mono ?_;rintro e wz ⟨rfl,aF⟩;have c5:=hide (show Below wo wo wz by have hp:=ab.out;refine Below.trans ?_ (aF.mono ae);(repeat' exact bel));clear q0 q1 q2 q3 q4 q5 q6 q7 q8 q9 G H I O;clear a0 a1 a2 aF;go_wp2
              all_goals first
                | (exfalso;omega)
                | skip
              go_roundw
              case rel=>exact ⟨j+1,by go_num,by omega,c5.out⟩
              case measure=>simp [intOf];omega
            · obtain rfl:j=L.length:=om
              have hE:((L.length:Int)==0)=false:=by rw [beq_eq_false_iff_ne];omega
              have fv:=hide (a8.out.call hB);have cI:=c4.out.trans (hB.mono om);have hm:(0:Int)<(L.length:Int):=om;clear hB;go_wp2
              all_goals first
                | (exfalso;omega)
                | (go_ret2;exact ⟨_,_,_,by rw [aA.out.1];rfl,by rw [aA.out.2];exact .inr ⟨cr,rfl,_,_,rfl,fv.out⟩,by (repeat' exact bel)⟩)
        · have aA:=hide (e7.out bc)
          obtain ⟨J,hl,xJ,e3,cM⟩:∃ J:Nat,J<L.length∧∃ x,L[J]?=some x∧¬ (c.first≤x.yr∧x.yr≤c.last):=by
            apply Classical.byContradiction;intro gf;exact bc (oH (fun j x hx=>Classical.byContradiction fun h=>gf ⟨j,(List.getElem?_eq_some_iff.1 hx).1,x,hx,h⟩))
          have eA:=hide (And.intro e3 cM);clear bc e3 cM;go_wp2_with fail;go_loopw [112] (fun s wr=>∃ j:Nat,s=.int .i64 j∧j≤J∧Below wo wo wr) (fun s _=>(500-intOf s).toNat)
          case atStart=>exact ⟨0,rfl,Nat.zero_le _,Below.refl _ _⟩
          case round =>
            obtain ⟨j,rfl,hj,hB⟩:=hrel;have ab:=hide hB;have go:=hB.size;have a6:j<L.length:=om;obtain ⟨x,hx⟩:∃ x,L[j]?=some x:=⟨_,List.getElem?_eq_getElem a6⟩;obtain ⟨a0,a1,a2⟩:=(a8.out.call hB).2 j x hx;simp only [Nat.zero_add] at a0 a1 a2;obtain ⟨q0,q1,q2,q3,q4,q5,q6,q7,q8,q9,G,H,I,O⟩:=aa hB om eb.out;have eL:=(a8.out.call hB).1;have e2:w.heap.size<wr.heap.size:=om;have HX:=hide hx;clear hx hB;have eN:(0:Int)≤(j:Int):=om;have eS:(j:Int)<(L.length:Int):=om;by_cases cb:c.first≤x.yr∧x.yr≤c.last
            · have hC : j < J := by
                rcases Nat.lt_or_ge j J with h | h
                · exact h
                · exfalso
                  have f8:j=J:=om;have h1:=HX.out;rw [f8,eA.out.1] at h1;cases h1;exact eA.out.2 cb
              obtain ⟨hc,hd⟩:=cb;go_wp2_with fail
              all_goals first
                | (exfalso;omega)
                | skip
              refine (cY c x.yr _ true ae).mono ?_;rintro e wz ⟨rfl,aF⟩;have c5:=hide (show Below wo wo wz by have hp:=ab.out;refine Below.trans ?_ (aF.mono ae);(repeat' exact bel));clear q0 q1 q2 q3 q4 q5 q6 q7 q8 q9 G H I O;clear a0 a1 a2 aF;go_wp2
              all_goals first
                | (exfalso;omega)
                | skip
              go_roundw
              case rel=>exact ⟨j+1,by go_num,by omega,c5.out⟩
              case measure=>simp [intOf];omega
            · have f0:=hide cb
              clear cb;go_wp2_with fail
              all_goals first
                | (exfalso;omega)
                | skip
              refine (cY c x.yr _ false (by simp;have:=f0.out;omega)).mono ?_;rintro e wz ⟨rfl,aF⟩;have cI:Below w w wz:=by have hp:=c4.out.trans (ab.out.mono om);refine Below.trans ?_ (aF.mono ae);(repeat' exact bel)
              clear q0 q1 q2 q3 q4 q5 q6 q7 q8 q9 G H I O;clear a0 a1 a2 aF;go_wp2
              all_goals first
                | (exfalso;omega)
                | (go_ret2;exact ⟨none,0,0,by rw [aA.out.1];rfl,by rw [aA.out.2];exact .inl ⟨rfl,rfl,rfl,rfl⟩,by (repeat' exact bel)⟩)
theorem tk (c:ar) (u:Un) (k:Int) (w:World) (o:c.name.size≤1000) :
  Calls Tryz.prog 77 #[av c,aC u,k] w (qM (gZ c u k) (ju c u k) w):=by
 by_cases h:aE c u=0
 ·by_cases E:c.first≤u.yr+k∧u.yr+k≤c.last
  ·by_cases f:c.kind=6
   ·exact xE c u k w o h E f
   ·exact xN c u k w o h E f
  ·exact uq c u k w o h E
 ·exact tC c u k w o h
end
end Go.Proofs.YtjhhmeoibfdcmaaGreat
