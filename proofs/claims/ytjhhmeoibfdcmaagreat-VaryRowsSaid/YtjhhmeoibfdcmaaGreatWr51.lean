/- Lemmas. -/
import Derived.Test.YtjhhmeoibfdcmaaGreatWr28
import Derived.Test.YtjhhmeoibfdcmaaGreatWr37
import Derived.Test.YtjhhmeoibfdcmaaGreatWr45
import Derived.Test.YtjhhmeoibfdcmaaGreatWr46
import Derived.Test.YtjhhmeoibfdcmaaGreatWr47
set_option linter.unusedSimpArgs false
set_option linter.unusedVariables false
set_option maxRecDepth 100000
set_option maxHeartbeats 12800000
namespace Go.Proofs.YtjhhmeoibfdcmaaGreat
section
open Go.RowKit Qd
theorem GL {c:ar} {u:Un} (h:aE c u=0):aI c 5 u.yr=0:=by
 obtain ⟨f,_⟩:=bN h;have h:=a9 f;simp [aI,h.2.1,h.2.2.2.2.1,h.2.2.2.2.2.1]
theorem Ia {c:ar} {u:Un} (h:aE c u=0):cd c ⟨1,u.yr,1⟩=⟨ax c u.yr,bv c u.yr⟩:=by
 obtain ⟨H,J,O,F,I,hi⟩:=bN h;have G:=nk h;have f:aT c ⟨1,u.yr,1⟩=0:=zq c u.yr 1;have o:bF c ⟨1,u.yr,1⟩=bW c u.yr:=by
  have:=lm c u.yr 1 om om;have E:aR c u.yr 1=1:=by simp [aR]
  rw [E] at this;exact this
 rw [kM G,f,o,kc,eV c u.yr F];congr 1;omega
theorem kl.below {c:ar} {lv y:Int} {g K:Nat} {w E:World} (h:kl c lv y g w) (f:Below K w E) (o:g<K):kl c lv y g E:=
 ⟨Nat.lt_of_lt_of_le h.1 f.size,fun i hi=>⟨(f.cell (p:=⟨g,i*2,none⟩) o).trans (h.2 i hi).1,(f.cell (p:=⟨g,i*2+1,none⟩) o).trans (h.2 i hi).2⟩⟩
def kp (c:ar) (u:Un) (E F:Value) (o g h:Nat) (v:Value) (l:List Int) (f w:World):Prop:=
 aG w f c∧iB w (f+1) u∧ap w (f+2) #[E,F] 30∧ap w o #[.int .i64 (cd c u).a,.int .i64 (cd c u).b] 45∧kl c 5 u.yr g w ∧
 f.heap.size+2<h∧o<h∧g<h∧h≤w.heap.size∧cw w h v l∧Below f f w
theorem kp.call {c:ar} {u:Un} {H I:Value} {F g G:Nat} {v:Value} {l:List Int} {O w J:World} (h:kp c u H I F g G v l O w) (f:Below w w J):kp c u H I F g G v l O J:=by
 obtain ⟨R,S,T,U,V,W,h7,h8,h9,o,E⟩:=h;exact ⟨aa f om R,aS f om S,T.call f,U.call f,V.call f,W,h7,h8,Nat.le_trans h9 f.size,dC o f,E.trans (f.mono om)⟩
theorem kp.app {c:ar} {u:Un} {O R:Value} {G g o:Nat} {v v':Value} {l l':List Int} {S w F:World} (h:kp c u O R G g o v l S w) (ho:cw F o v' l') (f:Below o w F):kp c u O R G g o v' l' S F:=by
 obtain ⟨T,V,W,h4,h5,H,I,J,h9,U,E⟩:=h;exact ⟨aa f om T,aS f om V,W.below f H,h4.below f I,h5.below f J,H,I,J,Nat.le_trans h9 f.size,ho,E.trans (f.mono om)⟩
theorem kp.cells {c:ar} {u:Un} {E F:Value} {o g G:Nat} {v:Value} {l:List Int} {f w:World} (h:kp c u E F o g G v l f w):aG w f c∧iB w (f+1) u∧(w.cell? ⟨f+1+1,0,none⟩=some E∧w.cell? ⟨f+1+1,1,none⟩=some F)∧(w.cell? ⟨o,0,none⟩=some (.int .i64 (cd c u).a)∧w.cell? ⟨o,1,none⟩=some (.int .i64 (cd c u).b))∧f.heap.size+2<w.heap.size∧o<w.heap.size∧g<w.heap.size∧Below f f w:=
 ⟨h.1,h.2.1,⟨h.2.2.1.cell 0,h.2.2.1.cell 1⟩,⟨h.2.2.2.1.cell 0,h.2.2.2.1.cell 1⟩,by have:=h.2.2.2.2.2.1;have:=h.2.2.2.2.2.2.2.2.1;omega,h.2.2.2.1.lt,h.2.2.2.2.1.1,h.2.2.2.2.2.2.2.2.2.2⟩
theorem kp.own {c:ar} {u:Un} {E F:Value} {o g f:Nat} {v:Value} {l:List Int} {G w:World} (h:kp c u E F o g f v l G w):cw w f v l∧f≤w.heap.size∧kl c 5 u.yr g w:=⟨h.2.2.2.2.2.2.2.2.2.1,h.2.2.2.2.2.2.2.2.1,h.2.2.2.2.1⟩
theorem oa (W:World) (k:Nat) (m:Value) (t:TypeId) (h:W.heap.size=k):(W.alloc (.cells #[m] t)).cell? ⟨k,0,none⟩=some m:=by
 subst h;exact (ap.new W #[m] t).cell 0
def JG (w:World) (v:Value) (D:List (Un × Int)):Prop:=∃ f cap,v=.slice f D.length cap∧∀ (i:Nat) (x:Un × Int),D[i]?=some x→∃ g,f=some ⟨g,0,none⟩∧g<w.heap.size∧w.cell? ⟨g,i*4,none⟩=some (.int .i64 x.1.lv)∧w.cell? ⟨g,i*4+1,none⟩=some (.int .i64 x.1.yr)∧w.cell? ⟨g,i*4+2,none⟩=some (.int .i64 x.1.ix)∧w.cell? ⟨g,i*4+3,none⟩=some (.int .i64 x.2)
theorem JG.call {w E:World} {v:Value} {D:List (Un × Int)} (h:JG w v D) (f:Below w w E):JG E v D:=by
 obtain ⟨F,cap,O,R⟩:=h;refine ⟨F,cap,O,fun i x S=>?_⟩;obtain ⟨g,e,o,G,H,I,J⟩:=R i x S;exact ⟨g,e,Nat.lt_of_lt_of_le o f.size,(f.cell (p:=⟨g,_,none⟩) o).trans G,(f.cell (p:=⟨g,_,none⟩) o).trans H,(f.cell (p:=⟨g,_,none⟩) o).trans I,(f.cell (p:=⟨g,_,none⟩) o).trans J⟩
theorem JG.keepI {w F:World} {b:Nat} {v:Value} {D:List (Un × Int)} (h:lM w b v D) (R:oh w F):lM F b v D:=by
 refine ⟨h.1,?_⟩;rcases h.2 with H | ⟨G,f,o,O,I,E,J⟩
 ·exact .inl H
 ·exact .inr ⟨G,f,o,O,I,R.2 _ _ _ ag E,J⟩
theorem vS {w:World} {b:Nat} {v:Value} {D:List (Un × Int)} (h:lM w b v D):JG w v D:=by
 have E:∀ D:List (Un × Int),(D.flatMap oj).length=D.length*4:=by
  intro D
  induction D with
  | nil=>rfl
  | cons x D J=>simp only [List.flatMap_cons,List.length_append,List.length_cons,J,oj,List.length_nil];omega
 rcases h.2 with ⟨f,F⟩ | ⟨g,cap,G,f,F,H,S,T,U,V⟩
 ·have I:D=[]:=List.length_eq_zero_iff.1 F
  subst I;exact ⟨none,0,f,fun i x o=>by simp at o⟩
 ·refine ⟨_,_,f,fun i x o=>⟨g,rfl,(Array.getElem?_eq_some_iff.1 H).1,?_⟩⟩
  subst f;have hi:=(List.getElem?_eq_some_iff.1 o).1;have W:=E D;obtain ⟨O,s1,s2,R⟩:=Fj D i x o;refine ⟨?_,?_,?_,?_⟩
  ·rw [h.cellAt _ om];simp [O]
  ·rw [h.cellAt _ om];simp [s1]
  ·rw [h.cellAt _ om];simp [s2]
  ·rw [h.cellAt _ om];simp [R]
theorem rm (c:ar) (u:Un) (P:List Po) (A:List Ac) (v1 v2:Value) (w:World) (hn:c.name.size≤1000) (hP:cL w v1 P) (hA:eo w v2 A) (hl:P.length≤5000∧A.length≤16) (cb:∀ p∈P,aX p.n) (b8:∀ a∈A,aX a.n)
    (el:∀ a∈A,bg c 5 ⟨a.a,a.b⟩=0→(be c 5 ⟨a.a,a.b⟩).length≤420) (hU:aE c u=0) (hC:fk P A=0) :
    Calls Tryz.prog 32 #[av c,aC u,.agg #[v1,v2]] w fun e w'=>e=.returned (.tuple #[TV c P A (ZA c A) u,TE c P A (ZA c A) u])∧Below w w w':=by
  have HP:=hide hP;have HA:=hide hA;have bt:=hide el;have cp:=hide (And.intro cb b8);have H0:=hide (iC c u v1 v2 w);have e9:P.length≤100000∧A.length≤100000:=om;have HU:=hide hU;have HC:=hide hC;have HF:=hide (GL hU);have dY:=hide (Ia hU);obtain ⟨sa,es⟩:∃ x,(cd c u).a=x:=⟨_,rfl⟩;obtain ⟨sb,et⟩:∃ x,(cd c u).b=x:=⟨_,rfl⟩;have F:=hide (And.intro es et);clear cb b8 el hU hC es et;obtain ⟨aq,R,rfl,_⟩:=hP;obtain ⟨b0,T,rfl,_⟩:=hA;simp only [av,aC];go_enter Tryz.func32,Tryz.ntmps32;go_wp2_with fail;refine (kH c u _ hn).mono ?_;rintro e w1 ⟨rfl,d7⟩;rw [HU.out];simp only [bI];rw [F.out.1,F.out.2];have bx:=hide (H0.out.call d7);clear d7;have bX:=hide (bx.out.call (show Below w1 w1 (w1.alloc (.cells #[sa,sb] 45)) by (repeat' exact bel)));have K2:=hide (ap.new w1 #[sa,sb] 45);have fi:=bx.out.2.2.2.1;obtain ⟨⟨q0,q1,q2,q3,q4,q5,q6,q7,q8,q9,H,I,J,O⟩,⟨u0,u1,u2⟩,⟨k0,k1⟩,G,f⟩:=bx.out.cells;have d3:=hide (HP.out.call bX.out.2.2.2.2);have ds:=hide (HA.out.call bX.out.2.2.2.2);go_wp2_with fail;refine (ml P A _ _ _ d3.out ds.out e9).mono ?_;rintro e w3 ⟨rfl,c0⟩;clear q0 q1 q2 q3 q4 q5 q6 q7 q8 q9 H I J O u0 u1 u2 k0 k1 G f;rw [HC.out];have aF:=hide (bX.out.call c0);have K3:=hide (K2.out.call c0);clear c0 d3 ds bX K2 bx fi;obtain ⟨⟨q0,q1,q2,q3,q4,q5,q6,q7,q8,q9,H,I,J,O⟩,⟨u0,u1,u2⟩,⟨k0,k1⟩,G,f⟩:=aF.out.cells;go_wp2_with fail;refine (bO c u.yr _ hn).mono ?_;rintro e w4 ⟨rfl,c3⟩;clear q0 q1 q2 q3 q4 q5 q6 q7 q8 q9 H I J O u0 u1 u2 k0 k1 G f;have a8:=hide (aF.out.call c3);have K4:=hide (K3.out.call c3);clear c3 aF K3;obtain ⟨⟨q0,q1,q2,q3,q4,q5,q6,q7,q8,q9,H,I,J,O⟩,⟨u0,u1,u2⟩,⟨k0,k1⟩,G,f⟩:=a8.out.cells;go_wp2_with fail;refine (gq c u.yr _ hn).mono ?_;rintro e w5 ⟨rfl,c4⟩;clear q0 q1 q2 q3 q4 q5 q6 q7 q8 q9 H I J O u0 u1 u2 k0 k1 G f;have cs:=hide (a8.out.call c4);have K5:=hide (K4.out.call c4);clear c4 a8 K4;obtain ⟨⟨q0,q1,q2,q3,q4,q5,q6,q7,q8,q9,H,I,J,O⟩,⟨u0,u1,u2⟩,⟨k0,k1⟩,G,f⟩:=cs.out.cells;go_wp2_with fail;refine (zS c 5 u.yr _ hn HF.out).mono ?_;rintro e w6 ⟨gs,fr,rfl,_,c7,c5⟩;clear q0 q1 q2 q3 q4 q5 q6 q7 q8 q9 H I J O u0 u1 u2 k0 k1 G f;have d6:=hide (show kp c u (.slice aq P.length R) (.slice b0 A.length T) w1.heap.size gs w6.heap.size (.slice none 0 0) (iV c u (A.take 0)) w w6 from by
    have h:=cs.out.call c5;have hk:=K5.out.call c5;refine ⟨h.1,h.2.1,h.2.2.1,?_,c7,h.2.2.2.1,hk.lt,c7.1,Nat.le_refl _,?_,h.2.2.2.2⟩
    · rw [F.out.1,F.out.2];exact hk
    · exact World.ownsRow_nil _ _ _ _)
  clear c7 c5 cs K5;obtain ⟨⟨q0,q1,q2,q3,q4,q5,q6,q7,q8,q9,H,I,J,O⟩,⟨u0,u1,u2⟩,⟨k0,k1⟩,⟨z0,z1⟩,G,a7,a4,f⟩:=d6.out.cells;go_wp2_with fail;go_loopw [17,64] (fun bl dd wr=>∃ i:Nat,dd=.int .i64 i∧i≤A.length∧wT c u.yr (A.take i)=0∧Hid (kp c u (.slice aq P.length R) (.slice b0 A.length T) w1.heap.size gs w6.heap.size bl (iV c u (A.take i)) w wr)) (fun _ dd _=>(A.length+5-intOf dd).toNat)
  case atStart=>exact ⟨0,rfl,Nat.zero_le _,rfl,d6⟩
  case round =>
    obtain ⟨i,rfl,hi,V,HS⟩:=hrel;clear q0 q1 q2 q3 q4 q5 q6 q7 q8 q9 H I J O u0 u1 u2 k0 k1 z0 z1 G a7 a4 f;obtain ⟨⟨q0,q1,q2,q3,q4,q5,q6,q7,q8,q9,H,I,J,O⟩,⟨u0,u1,u2⟩,⟨k0,k1⟩,⟨z0,z1⟩,G,a7,a4,f⟩:=HS.out.cells;rw [F.out.1] at z0;rw [F.out.2] at z1;have c9:w.heap.size<wr.heap.size:=om;have bd:w.heap.size+1<wr.heap.size:=om;have cc:w.heap.size+1+1<wr.heap.size:=om;by_cases fa:i<A.length
    · obtain ⟨x,hx⟩:∃ x,A[i]?=some x:=⟨_,List.getElem?_eq_getElem fa⟩
      obtain ⟨g,o,rfl,hg,d0,d1,d2⟩:=(HA.out.call f).at hx;have al:=wu c u.yr A i x hx V;have aA:=hide (AD c u A i x hx);have e6:(0:Int)≤(i:Int):=om;have e7:(i:Int)<(A.length:Int):=om;have HX:=hide (List.mem_of_getElem? hx);have eL:=hide V;clear hx V;by_cases ab:jy c u.yr x=true
      · rw [ab] at al aA
        simp only [if_true] at aA;have bc:=ab;unfold jy at bc;rw [decide_eq_true_eq,dY.out] at bc;obtain ⟨fb,b4⟩:=bc;simp only at fb b4;by_cases hE:bg c 5 ⟨x.a,x.b⟩=0
        · have cE:=hide (al.2 (by simp [hE]))
          have cI:=hide (fun W=>sN c 5 x.n ⟨x.a,x.b⟩ W hn hE (Nat.le_trans (bt.out x HX.out hE) om) (cp.out.2 x HX.out));have e0:=hide (fun (U:Un) (hu:U∈be c 5 ⟨x.a,x.b⟩)=>qI hE hu);have ew:=i8 c 5 x.n ⟨x.a,x.b⟩;have b9:=bt.out x HX.out hE;rw [← ew] at b9;have b6:=hide (show ∀ y∈qZ c 5 x.n ⟨x.a,x.b⟩,y.1∈be c 5 ⟨x.a,x.b⟩ from fun y hy=>(List.of_mem_zip hy).1);have em:=tf c u.yr (A.take i) 420 eL.out fun a ha=>bt.out a (List.mem_of_mem_take ha)
          have e5:(iV c u (A.take i)).length≤6720:=by
            refine Nat.le_trans (by rw [iV,List.length_map];exact List.length_filter_le _ _) (Nat.le_trans em ?_);rw [List.length_take];exact Nat.le_trans (Nat.mul_le_mul (show min i A.length≤16 by omega) (Nat.le_refl 420)) om
          obtain ⟨S,hS⟩:∃ S,qZ c 5 x.n ⟨x.a,x.b⟩=S:=⟨_,rfl⟩;rw [hS] at aA cI b9 b6;simp only [av,bI] at cI;clear hE al hS ew em ab;go_wp2_with fail
          all_goals first
            | (exfalso;omega)
            | skip
          refine (cI.out _).mono ?_;rintro e w7 ⟨⟨vs,rfl,c6⟩,ba⟩;clear q0 q1 q2 q3 q4 q5 q6 q7 q8 q9 H I J O u0 u1 u2 k0 k1 z0 z1 G a7 a4 f d0 d1 d2 c9 bd cc hg;have eN:=hide (show kp c u (.slice aq P.length R) (.slice (some ⟨g,o,none⟩) A.length T) w1.heap.size gs w6.heap.size u17 (iV c u (A.take i)++((S.take 0).filter fun y=>vu c u y.1).map (·.2)) w w7 from by
            rw [List.take_zero,List.filter_nil,List.map_nil,List.append_nil];exact HS.out.call (ww ba).out)
          have d4:=hide c6;obtain ⟨e2,b7,rfl,_⟩:=vS c6;clear c6 ba;go_wp2_with fail;go_loopw [17,94] (fun bl dq wr=>∃ j:Nat,dq=.int .i64 j∧j≤S.length∧Hid (kp c u (.slice aq P.length R) (.slice (some ⟨g,o,none⟩) A.length T) w1.heap.size gs w6.heap.size bl (iV c u (A.take i)++((S.take j).filter fun y=>vu c u y.1).map (·.2)) w wr∧∃ b,lM wr b (.slice e2 S.length b7) S)) (fun _ dq _=>(S.length+5-intOf dq).toNat)
          case atStart=>exact ⟨0,rfl,Nat.zero_le _,hide ⟨eN.out,_,d4.out⟩⟩
          case round =>
            obtain ⟨j,rfl,hj,HR⟩:=hrel;obtain ⟨⟨q0,q1,q2,q3,q4,q5,q6,q7,q8,q9,H,I,J,O⟩,⟨u0,u1,u2⟩,⟨k0,k1⟩,⟨z0,z1⟩,G,a7,a4,f⟩:=HR.out.1.cells;rw [F.out.1] at z0;rw [F.out.2] at z1;by_cases bb:j<S.length
            · obtain ⟨⟨U,m⟩,b5⟩:∃ y,S[j]?=some y:=⟨_,List.getElem?_eq_getElem bb⟩
              obtain ⟨b,cM⟩:=HR.out.2;have bw:=hide cM;obtain ⟨fz,fn,e3,h2⟩:=vS cM;obtain ⟨gh,ea,f1,a0,a1,a2,a3⟩:=h2 j _ b5;cases e3;subst ea;simp only at a0 a1 a2 a3;obtain ⟨cS,h5,_⟩:=e0.out U (b6.out _ (List.mem_of_getElem? b5));have a6:=bN cS;rw [h5] at a6;have cy:=hide (And.intro a6.2.2.2.2.1 a6.2.2.2.2.2);rw [cy.out.1] at a2;have bp:=hide (show (S.take (j+1)).filter (fun y=>vu c u y.1)=(S.take j).filter (fun y=>vu c u y.1)++(if vu c u U=true then [(U,m)] else []) by
                rw [List.take_add_one,b5,Option.toList_some,List.filter_append];congr 1;by_cases e8:vu c u U=true <;> simp [List.filter,e8])
              have f3:(0:Int)≤(j:Int):=om;have f4:(j:Int)<(S.length:Int):=om;have c9:w.heap.size<wr.heap.size:=om;have bd:w.heap.size+1<wr.heap.size:=om;have f6:(0:Int)≤(uI U:Int):=om;have f2:gs<wr.heap.size:=a4;have fv:uI U<60:=by have h1:=dv c U.yr a6.2.2.2.1 5;have:=a6.2.2.2.2.2;omega
              have a5:=hide (And.intro cS h5);clear b5 a6 h2 cM cS h5;by_cases hy:U.yr=u.yr
              · rw [hy] at a1
                obtain ⟨c1,c2⟩:=HR.out.1.own.2.2.2 (uI U) (by rw [← hy];exact cy.out.2);have f5:(uI U:Int)<(aR c u.yr 5:Int):=by have:=cy.out.2;rw [hy] at this;omega
                have e1:=hide (Kn HU.out a5.out.1 a5.out.2 hy);have eU:=hide (show cd c U=⟨bD c u.yr (aW c u.yr 5 (uI U)),bD c u.yr (aW c u.yr 5 (uI U+1))-1⟩ by rw [cd,if_pos a5.out.1];unfold gT gb aT bF;rw [a5.out.2,hy]);have hw:=e1.out;rw [eU.out] at hw;simp only at hw;rw [F.out.1,F.out.2] at hw;generalize bD c u.yr (aW c u.yr 5 (uI U))=D1 at c1 hw;generalize bD c u.yr (aW c u.yr 5 (uI U+1))-1=D2 at c2 hw;have c8:IntKind.i64.wrap ((uI U:Int)+1-1)=(uI U:Int):=by
                  rw [show (uI U:Int)+1-1=(uI U:Int) by omega];exact IntWalk.i64_in _ om
                by_cases b1:sa≤D1
                · have d9:decide (sa≤D1)=true:=by simpa using b1
                  by_cases b2:D2≤sb
                  · have b3:decide (D2≤sb)=true:=by simpa using b2
                    have aB:=hide (hw.1 ⟨b1,b2⟩);clear hw;go_wp2_with fail;go_quiet (fail);clear c8;have eF:=hide (show (iV c u (A.take i)++((S.take j).filter fun y=>vu c u y.1).map (·.2)).length≤7140 by
                      have h1:=List.length_filter_le (fun y:Un × Int=>vu c u y.1) (S.take j);rw [List.length_take] at h1;rw [List.length_append,List.length_map];omega)
                    have fA:=HR.out.1.own.2.1;go_wp2_with ((at_builtin;refine kS rfl _ _ rfl w6.heap.size _ _ _ [m] rfl (gA HR.out.1.own.1 ?hw) rfl (.inr ⟨_,_,by simp,rfl,?hl,?hc⟩) (Nat.le_trans (Nat.add_le_add_right eF.out _) ac) ?hz ?_))
                    case hw=>(repeat' exact bel)
                    case hl=>simp
                    case hc =>
                      intro i y hy
                      match i,hy with
                      | 0,hy=>simp at hy;subst hy;exact oa _ _ _ _ (by first | (simp;done) | (show (World.alloc _ _).heap.size=_;simp))
                    case hz=>first | omega | (simp;omega)
                    intro v' w' ad ay ah;have ex:∀ W,Below wr wr W→Below w6 W w'→kp c u (.slice aq P.length R) (.slice (some ⟨g,o,none⟩) A.length T) w1.heap.size gs w6.heap.size v' (iV c u (A.take i)++((S.take (j+1)).filter fun y=>vu c u y.1).map (·.2)) w w':=fun W h1 h2=>(HR.out.1.call h1).app (by rw [bp.out,if_pos aB.out,List.map_append,← List.append_assoc];unfold cw;simpa using ad) h2
                    have cl:∀ W,Below wr wr W→oh W w'→lM w' b (.slice (some ⟨gh,0,none⟩) S.length b7) S:=fun W h1 h2=>JG.keepI (iy bw.out h1) h2
                    have aF:=hide (ex _ an ay);have a8:=hide (cl _ an ah);clear ad ay ah ex cl;go_wp2;go_roundw
                    case rel=>exact ⟨j+1,by go_num,by omega,hide ⟨aF.out,_,a8.out⟩⟩
                    case measure=>simp [intOf];omega
                  · have b3:decide (D2≤sb)=false:=by simpa using b2
                    have aB:=hide (show ¬ vu c u U=true from fun h=>b2 (hw.2 h).2);clear hw;go_wp2_with fail;go_quiet (fail);clear c8;go_wp2;go_roundw
                    case rel=>exact ⟨j+1,by go_num,by omega,hide ⟨by rw [bp.out,if_neg aB.out,List.append_nil];exact HR.out.1.call an,_,iy bw.out an⟩⟩
                    case measure=>simp [intOf];omega
                · have d9:decide (sa≤D1)=false:=by simpa using b1
                  have aB:=hide (show ¬ vu c u U=true from fun h=>b1 (hw.2 h).1);clear hw;go_wp2_with fail;go_quiet (fail);clear c8;go_wp2;go_roundw
                  case rel=>exact ⟨j+1,by go_num,by omega,hide ⟨by rw [bp.out,if_neg aB.out,List.append_nil];exact HR.out.1.call an,_,iy bw.out an⟩⟩
                  case measure=>simp [intOf];omega
              · have aB := hide (show ¬ vu c u U = true by
                  unfold vu z7;simp [hy])
                have f8:(U.yr==u.yr)=false:=by simpa using hy
                have gc:decide (U.yr=u.yr)=false:=by simpa using hy
                go_wp2_with fail;go_quiet (fail);go_wp2;go_roundw
                case rel=>exact ⟨j+1,by go_num,by omega,hide ⟨by rw [bp.out,if_neg aB.out,List.append_nil];exact HR.out.1.call an,_,iy bw.out an⟩⟩
                case measure=>simp [intOf];omega
            · have HD := hide (show kp c u (.slice aq P.length R) (.slice (some ⟨g, o, none⟩) A.length T) w1.heap.size gs w6.heap.size _ (iV c u (A.take (i + 1))) w _ from by
                have h:=HR.out.1;rw [show S.take j=S from List.take_of_length_le om,← aA.out] at h;exact h)
              go_wp2
              all_goals first
                | (exfalso;omega)
                | skip
              go_roundw
              case rel=>exact ⟨i+1,by go_num,by omega,cE.out,HD⟩
              case measure=>simp [intOf];omega
        · have HV := hide (show TV c P A (ZA c A) u = 0 by
            have:=al.1 ⟨rfl,hE⟩;simp [TV,tV,ZA,this,hE])
          have eE:=hide (show TE c P A (ZA c A) u=bg c 5 ⟨x.a,x.b⟩ by
            have:=al.1 ⟨rfl,hE⟩;simp [TE,tE,ZA,this,hE,HU.out,HC.out])
          have d5:=hide (fun W=>vz c 5 x.n ⟨x.a,x.b⟩ W hn hE);have fB:(bg c 5 ⟨x.a,x.b⟩ != 0)=true:=by simpa using hE
          generalize bg c 5 ⟨x.a,x.b⟩=E at *;simp only [av,bI] at d5;clear al hE ab;go_wp2_with fail
          all_goals first
            | (exfalso;omega)
            | skip
          refine (d5.out _).mono ?_;rintro e w7 ⟨rfl,ba⟩;have eA:=hide (show Below wr wr w7 from (ww ba).out);have eB:=hide (show Below w w w7 from f.trans (eA.out.mono om));clear ba;go_wp2;go_ret2;exact ⟨aw HV.out.symm eE.out.symm,eB.out⟩
      · have ca:jy c u.yr x=false:=by simpa using ab
        rw [ca] at al aA;have cE:=hide (al.2 ac);simp only [Bool.false_eq_true,if_false,List.append_nil] at aA;unfold jy at ab;rw [decide_eq_true_eq,dY.out] at ab;simp only at ab;clear al ca;rcases (show x.b<ax c u.yr∨(ax c u.yr≤x.b∧bv c u.yr<x.a) by omega) with hq | ⟨hq,f7⟩
        all_goals
          clear ab;go_wp2
          all_goals first
            | (exfalso;omega)
            | skip
          go_roundw
          case rel=>exact ⟨i+1,by go_num,by omega,cE.out,hide (by rw [aA.out];exact HS.out.call an)⟩
          case measure=>simp [intOf];omega
    · have ey:=hide (show iV c u (A.take i)=iV c u A by rw [List.take_of_length_le om])
      have HE:=hide (show TE c P A (ZA c A) u=jn (H9 c u P A).sum by
        rw [List.take_of_length_le om] at V;rw [zt];simp [TE,tE,ZA,V,HU.out,HC.out])
      have HV:=hide (show TV c P A (ZA c A) u=jN (H9 c u P A).sum by
        rw [List.take_of_length_le om] at V;rw [zt];simp [TV,tV,ZA,V,HU.out,HC.out])
      have eS:=hide (show kp c u (.slice aq P.length R) (.slice b0 A.length T) w1.heap.size gs w6.heap.size u17 (iV c u A++mj (cd c u) (P.take 0)) w wr from by
        have h:=HS.out;rw [ey.out] at h;simpa [mj] using h)
      have e5:(iV c u A).length≤6720:=by
        rw [List.take_of_length_le om] at V;refine Nat.le_trans (by rw [iV,List.length_map];exact List.length_filter_le _ _) (Nat.le_trans (tf c u.yr A 420 V bt.out) ?_);exact Nat.le_trans (Nat.mul_le_mul (show A.length≤16 by omega) (Nat.le_refl 420)) om
      have cr:=hide (show ∀ n∈iV c u A,aX n by
        rw [List.take_of_length_le om] at V;intro n b4;unfold iV at b4;obtain ⟨y,hy,rfl⟩:=List.mem_map.1 b4;obtain ⟨a,ha,ab,h⟩:=Dj (List.mem_filter.1 hy).1;exact Eo (qi c u.yr A V a ha ab) (cp.out.2 a ha) h)
      clear V;go_wp2_with fail
      all_goals first
        | (exfalso;omega)
        | skip
      go_loopw [17,140] (fun bl bh wr=>∃ j:Nat,bh=.int .i64 j∧j≤P.length∧Hid (kp c u (.slice aq P.length R) (.slice b0 A.length T) w1.heap.size gs w6.heap.size bl (iV c u A++mj (cd c u) (P.take j)) w wr)) (fun _ bh _=>(6000-intOf bh).toNat)
      case atStart=>exact ⟨0,rfl,Nat.zero_le _,eS⟩
      case round =>
        obtain ⟨j,rfl,hj,HR⟩:=hrel;clear q0 q1 q2 q3 q4 q5 q6 q7 q8 q9 H I J O u0 u1 u2 k0 k1 z0 z1 G a7 a4 f c9 bd cc;obtain ⟨_,_,_,⟨z0,z1⟩,G,a7,a4,f⟩:=HR.out.cells;rw [F.out.1] at z0;rw [F.out.2] at z1;have eb:=td (cd c u) (P.take j);rw [List.length_take] at eb;by_cases bb:j<P.length
        · obtain ⟨x,hx⟩:∃ x,P[j]?=some x:=⟨_,List.getElem?_eq_getElem bb⟩
          obtain ⟨g,o,rfl,hg,d0,d1⟩:=(HP.out.call f).at hx;have e6:(0:Int)≤(j:Int):=om;have e7:(j:Int)<(P.length:Int):=om;have HX:=hide hx;clear hx;by_cases hd:sa≤x.day∧x.day≤sb
          · have HI:=hide (show mj (cd c u) (P.take (j+1))=mj (cd c u) (P.take j)++[x.n] from zv HX.out (by rw [F.out.1,F.out.2];exact hd))
            obtain ⟨d9,b3⟩:=hd;go_wp2_with ((at_builtin;refine kS rfl _ _ rfl w6.heap.size _ _ _ [x.n] rfl (gA HR.out.own.1 ?hw) rfl (.inr ⟨_,_,by simp,rfl,?hl,?hc⟩) ae ?hz ?_))
            case hw=>(repeat' exact bel)
            case hl=>simp
            case hc =>
              intro i y hy
              match i,hy with
              | 0,hy=>simp at hy;subst hy;simp
            case hz=>have:=HR.out.own.2.1;simp;omega
            intro v' w' ad ay ah;have aF:=hide ((HR.out.call (show Below wr wr ((wr.alloc (.cells #[.int .i64 x.day,.int .i64 x.n] 32)).alloc (.cells #[.int .i64 x.n] 2)) by (repeat' exact bel))).app (l':=iV c u A++mj (cd c u) (P.take j)++[x.n]) (by unfold cw;simpa using ad) ay);clear ad ay ah;go_wp2;go_roundw
            case rel=>exact ⟨j+1,by go_num,by omega,hide (by rw [HI.out,← List.append_assoc];exact aF.out)⟩
            case measure=>simp [intOf];omega
          · have HI:=hide (show mj (cd c u) (P.take (j+1))=mj (cd c u) (P.take j) from FU HX.out (by rw [F.out.1,F.out.2];exact hd))
            rcases (show x.day<sa∨(sa≤x.day∧sb<x.day) by omega) with b3 | ⟨b3,f0⟩
            all_goals
              go_wp2
              all_goals first
                | (exfalso;omega)
                | skip
              go_roundw
              case rel=>exact ⟨j+1,by go_num,by omega,hide (by rw [HI.out];exact HR.out.call an)⟩
              case measure=>simp [intOf];omega
        · have HN := hide (show iJ wr _ (H9 c u P A) from by
            have h:=jP HR.out.own.1;rw [List.take_of_length_le om] at h;exact h)
          have e4:=hide (show ∀ y∈H9 c u P A,aX y from fun y hy=>by
            rcases List.mem_append.1 hy with h | h
            · exact cr.out y h
            · obtain ⟨p,fd,rfl⟩:=zR h;exact cp.out.1 p fd)
          have ek:=hide (show (H9 c u P A).length≤1000000 by
            have:=td (cd c u) P;rw [H9,List.length_append];omega)
          clear eb;go_wp2_with fail;refine (l6 _ (H9 c u P A) _ HN.out e4.out ek.out).mono ?_;rintro e w8 ⟨rfl,d8⟩;have eD:=hide (f.trans (d8.mono f.size));clear d8;go_wp2;go_ret2;exact ⟨aw HV.out.symm HE.out.symm,eD.out⟩
end
end Go.Proofs.YtjhhmeoibfdcmaaGreat
