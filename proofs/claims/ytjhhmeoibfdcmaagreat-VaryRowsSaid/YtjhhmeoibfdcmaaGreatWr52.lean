/- Lemmas. -/
import Derived.Test.YtjhhmeoibfdcmaaGreatWr33
import Derived.Test.YtjhhmeoibfdcmaaGreatWr42
import Derived.Test.YtjhhmeoibfdcmaaGreatWr50
import Derived.Test.YtjhhmeoibfdcmaaGreatWr51
set_option linter.unusedSimpArgs false
set_option linter.unusedVariables false
set_option maxRecDepth 100000
set_option maxHeartbeats 12800000
namespace Go.Proofs.YtjhhmeoibfdcmaaGreat
section
open Go.RowKit Qd
theorem sK (c:ar) (u:Un) (P:List Po) (A:List Ac) (T U:Value) (w:World) (hn:c.name.size≤1000) (hP:cL w T P) (hA:eo w U A) (hl:P.length≤5000∧A.length≤16) (G:∀ p∈P,aX p.n) (o:∀ a∈A,aX a.n)
  (O:∀ a∈A,bg c 5 ⟨a.a,a.b⟩=0→(be c 5 ⟨a.a,a.b⟩).length≤420) :
  Calls Tryz.prog 32 #[av c,aC u,.agg #[T,U]] w fun e w'=>e=.returned (.tuple #[TV c P A (ZA c A) u,TE c P A (ZA c A) u])∧Below w w w':=by
 by_cases H:aE c u=0
 ·by_cases R:fk P A=0
  ·exact rm c u P A T U w hn hP hA hl G o O H R
  ·have HV:=hide (show TV c P A (ZA c A) u=0 by simp [TV,tV,R])
   have HE:=hide (show TE c P A (ZA c A) u=fk P A by simp [TE,tE,H,R]);have HP:=hide hP;have HA:=hide hA;have V:=hide (iC c u T U w);have al:P.length≤100000∧A.length≤100000:=om;have HU:=hide H;have a5:(fk P A != 0)=true:=by simpa using R
   obtain ⟨sa,aq⟩:∃ x,bI (cd c u)=.agg #[.int .i64 x,.int .i64 (cd c u).b]:=⟨_,rfl⟩;clear H R G o O;obtain ⟨a3,a1,rfl,_⟩:=hP;obtain ⟨a4,a2,rfl,_⟩:=hA;simp only [av,aC];go_enter Tryz.func32,Tryz.ntmps32;go_wp2_with fail;refine (kH c u _ hn).mono ?_;rintro e I ⟨rfl,F⟩;rw [HU.out];simp only [bI];clear aq;have h:=hide (V.out.call F);clear F;have J:=hide (h.out.call (show Below I I (I.alloc (.cells #[.int .i64 (cd c u).a,.int .i64 (cd c u).b] 45)) by (repeat' exact bel)));have a7:=h.out.2.2.2.1;obtain ⟨⟨q0,q1,q2,q3,q4,q5,q6,q7,q8,q9,aA,aB,aF,a0⟩,⟨u0,u1,u2⟩,⟨k0,k1⟩,ay,f⟩:=h.out.cells;have ad:=hide (HP.out.call J.out.2.2.2.2);have W:=hide (HA.out.call J.out.2.2.2.2);go_wp2_with fail;refine (ml P A _ _ _ ad.out W.out al).mono ?_;rintro e w3 ⟨rfl,S⟩;have ah:=hide (J.out.call S);clear q0 q1 q2 q3 q4 q5 q6 q7 q8 q9 aA aB aF a0 u0 u1 u2 k0 k1 ay f S;generalize fk P A=E at *;go_wp2;go_ret2;exact ⟨aw HV.out.symm HE.out.symm,ah.out.2.2.2.2⟩
 ·have HV:=hide (show TV c P A (ZA c A) u=0 by simp [TV,tV,H])
  have HE:=hide (show TE c P A (ZA c A) u=aE c u by simp [TE,tE,H]);have a6:(aE c u != 0)=true:=by simpa using H
  have V:=hide (iC c u T U w);clear H G o O;simp only [av,aC];go_enter Tryz.func32,Tryz.ntmps32;go_wp2_with fail;refine (kH c u _ hn).mono ?_;rintro e I ⟨rfl,F⟩;simp only [bI];have h:=hide (V.out.call F);clear F;generalize aE c u=E at *;have f:=h.out.2.2.2.2;have ab:=hide (show Below w w (I.alloc (.cells #[.int .i64 (cd c u).a,.int .i64 (cd c u).b] 45)) from f.trans ((show Below I I (I.alloc (.cells #[.int .i64 (cd c u).a,.int .i64 (cd c u).b] 45)) by (repeat' exact bel)).mono f.size));go_wp2;go_ret2;exact ⟨aw HV.out.symm HE.out.symm,ab.out⟩
theorem RU.below {w E:World} {K:Nat} {a:Option Addr} {n cap:Nat} {L:List Un} (h:RU w a n cap L) (I:Below K w E) (J:∀ g o,a=some ⟨g,o,none⟩→g<K):RU E a n cap L:=by
 rcases h with h | ⟨F,G,g,o,f,H⟩
 ·exact .inl h
 ·exact .inr ⟨F,G,g,o,f,H.below I (J g o f)⟩
theorem RU.lt {w:World} {a:Option Addr} {n cap:Nat} {L:List Un} (h:RU w a n cap L):∀ g o,a=some ⟨g,o,none⟩→g<w.heap.size:=by
 rcases h with ⟨_,h,_⟩ | ⟨_,_,g,o,f,E⟩
 ·intro g o e;rw [h] at e;cases e
 ·intro F G e;rw [f] at e;cases e;exact E.1
def rj (c:ar) (u:Un) (F G:Value) (E:Option Addr) (n cap:Nat) (L:List Un) (f:Nat) (v:Value) (l:List Int) (h w:World):Prop:=
 DT c u F G h.heap.size h w∧(∀ g o,E=some ⟨g,o,none⟩→g<f)∧RU w E n cap L∧h.heap.size+3<f∧f≤w.heap.size∧cw w f v l
theorem rj.call {c:ar} {u:Un} {G H:Value} {E:Option Addr} {n cap:Nat} {L:List Un} {o:Nat} {v:Value} {l:List Int} {J w I:World} (h:rj c u G H E n cap L o v l J w) (f:Below w w I):rj c u G H E n cap L o v l J I:=by
 obtain ⟨F,O,R,S,T,U⟩:=h;exact ⟨⟨F.1.call f,F.2.call f⟩,O,R.call f,S,Nat.le_trans T f.size,dC U f⟩
theorem rj.app {c:ar} {u:Un} {H I:Value} {F:Option Addr} {n cap:Nat} {L:List Un} {o:Nat} {v v':Value} {l l':List Int} {J w E:World} (h:rj c u H I F n cap L o v l J w) (ho:cw E o v' l') (f:Below o w E):rj c u H I F n cap L o v' l' J E:=by
 obtain ⟨⟨⟨O,R,S,T,U⟩,V⟩,G,W,h4,h5,h6⟩:=h;exact ⟨⟨⟨aa f om O,aS f om R,S.below f om,Nat.lt_of_lt_of_le T f.size,U.trans (f.mono om)⟩,V.below f om⟩,G,W.below f G,h4,Nat.le_trans h5 f.size,ho⟩
theorem mR {c:ar} {u:Un} {k:Int} {P:List Po} {A:List Ac} {Z:dD} (h:¬ io c u k P A Z=0):mM c u k P A Z=⟨⟨0,0,0⟩,0,0,0,false⟩:=by rw [mM,if_neg h]
theorem iU {h:Array Value} {W:World} {B:Nat} {a b c d e f x:Int} {g:Bool} (R:h[8]?=some (.pointer (some ⟨B,0,none⟩))) (S:h[9]?=some (.int .i64 x))
  (k:W.heap[B]?=some (.cells #[a,b,c,d,e,f,.bool g] 69 (0,0))) :
  (results Tryz.f37 h).run Tryz.prog W=.ok (.tuple #[.agg #[a,b,c,d,e,f,.bool g],x]) W:=by
 have o:ap W B #[a,b,c,d,e,f,.bool g] 69:=k;have E:=o.cell 0;have F:=o.cell 1;have G:=o.cell 2;have H:=o.cell 3;have I:=o.cell 4;have J:=o.cell 5;have O:=o.cell 6;simp at E F G H I J O;simp [results,Tryz.results37,go_sem,R,S,E,F,G,H,I,J,O]
theorem qJ (c:ar) (u:Un) (k:Int) (P:List Po) (A:List Ac) (v1 v2:Value) (w:World) (hn:c.name.size≤1000) (hP:cL w v1 P) (hA:eo w v2 A) (hl:P.length≤5000∧A.length≤16) (a8:∀ p∈P,aX p.n) (a6:∀ a∈A,aX a.n)
    (cs:∀ a∈A,bg c 5 ⟨a.a,a.b⟩=0→(be c 5 ⟨a.a,a.b⟩).length≤420) :
    Calls Tryz.prog 37 #[av c,aC u,k,.agg #[v1,v2]] w fun e w'=>e=.returned (.tuple #[.agg (kC (mM c u k P A (ZA c A))),io c u k P A (ZA c A)])∧Below w w w':=by
  have HP:=hide hP;have HA:=hide hA;have H0:=hide (wD c u v1 v2 w);have bb:=hide (fun (x:Un) (W:World) (h1:cL W v1 P) (h2:eo W v2 A)=>sK c x P A v1 v2 W hn h1 h2 hl a8 a6 cs);have b6:=hide (fun (W:World)=>tk c u k W hn);clear hl a8 a6 cs;obtain ⟨aA,H,rfl,_⟩:=hP;obtain ⟨aB,I,rfl,_⟩:=hA;generalize ZA c A=Z at *;simp only [av,aC] at bb b6;simp only [av,aC];go_enter Tryz.func37,Tryz.ntmps37;go_wp2_with fail;refine (bb.out u ((((w.alloc (bG c)).alloc (fc u)).alloc (.cells #[.slice aA P.length H,.slice aB A.length I] 30)).alloc (.cells IB 69)) (HP.out.call an) (HA.out.call an)).mono ?_;rintro e w1 ⟨rfl,b8⟩;have bc:=hide (H0.out.via b8);clear b8;obtain ⟨⟨q0,q1,q2,q3,q4,q5,q6,q7,q8,q9,V,ab,ah,al⟩,⟨u0,u1,u2⟩,⟨k0,k1⟩,J,f⟩:=bc.out.1.cells;have F:=bc.out.2;by_cases hT:TE c P A Z u=0
  rotate_left
  · have G:=hide (show io c u k P A Z=TE c P A Z u by rw [io,if_neg hT])
    have HV:=hide (mR (show ¬ io c u k P A Z=0 by rw [io,if_neg hT];exact hT));have dY:(TE c P A Z u != 0)=true:=by simpa using hT
    clear hT;go_wp2_with (refine wpList_store_row rfl _ _ _ rfl (w.heap.size+1+1+1) #[.int .i64 0,.int .i64 0,.int .i64 0,.int .i64 0,.int .i64 0,.int .i64 0,.bool false] rfl rfl _ _ F (by kernel_rfl) rfl (by simp [Value.oneCell']) ?_);go_wp2;exact bodyPost_ret (v:=.tuple #[.agg #[.int .i64 0,.int .i64 0,.int .i64 0,.int .i64 0,.int .i64 0,.int .i64 0,.bool false],TE c P A Z u]) (by exact iU rfl rfl (setRow_heap _ _ _ _ _ _ F)) rfl ⟨by rw [HV.out,G.out],below_setRow f om _⟩
  have HT:=hide hT;rw [hT];clear hT;go_wp2_with fail;refine (b6.out _).mono ?_;rintro e w2 ⟨ad,n,cap,rfl,b7,ca⟩;clear q0 q1 q2 q3 q4 q5 q6 q7 q8 q9 V ab ah al u0 u1 u2 k0 k1 J f F;have a3:=hide (bc.out.via ca);have a2:=hide b7;clear b7 ca;obtain ⟨⟨q0,q1,q2,q3,q4,q5,q6,q7,q8,q9,V,ab,ah,al⟩,⟨u0,u1,u2⟩,⟨k0,k1⟩,J,f⟩:=a3.out.1.cells;have F:=a3.out.2;obtain ⟨E,hE⟩:∃ E,ju c u k=E:=⟨_,rfl⟩;have O:=hide hE;rw [hE];clear hE;by_cases aF:E=12
  · subst aF
    have G:=hide (show io c u k P A Z=0 by
      rw [io,if_pos HT.out,if_pos (by rw [uw,if_pos O.out]),oA,jC,O.out];simp only [show decide ((12:Int)=0)=false by decide,Bool.false_and,Bool.false_eq_true,if_false,Int.sub_zero];exact (cB (rv _ _ _ _ _)).2)
    have HV:=hide (show mM c u k P A Z=⟨u,TV c P A Z u,0,TV c P A Z u,true⟩ by
      rw [mM,if_pos G.out,oA,jC,O.out];simp)
    generalize TV c P A Z u=T at *;go_wp2_with (refine wpList_store_row rfl _ _ _ rfl (w.heap.size+1+1+1) #[u.lv,u.yr,u.ix,T,.int .i64 0,T,.bool true] rfl rfl _ _ F (by kernel_rfl) rfl (by simp [Value.oneCell']) ?_);go_wp2;exact bodyPost_ret (v:=.tuple #[.agg #[u.lv,u.yr,u.ix,T,.int .i64 0,T,.bool true],.int .i64 0]) (by exact iU rfl rfl (setRow_heap _ _ _ _ _ _ F)) rfl ⟨by rw [HV.out,G.out],below_setRow f om _⟩
  have b9:(E==12)=false:=by simpa using aF
  by_cases h0:E=0
  rotate_left
  · have G:=hide (show io c u k P A Z=E by rw [io,if_pos HT.out,uw,O.out,if_neg aF,if_neg h0,if_neg h0])
    have HV:=hide (mR (show ¬ io c u k P A Z=0 by rw [G.out];exact h0));have ds:(E != 0)=true:=by simpa using h0
    clear aF h0;go_wp2_with (refine wpList_store_row rfl _ _ _ rfl (w.heap.size+1+1+1) #[.int .i64 0,.int .i64 0,.int .i64 0,.int .i64 0,.int .i64 0,.int .i64 0,.bool false] rfl rfl _ _ F (by kernel_rfl) rfl (by simp [Value.oneCell']) ?_);go_wp2;exact bodyPost_ret (v:=.tuple #[.agg #[.int .i64 0,.int .i64 0,.int .i64 0,.int .i64 0,.int .i64 0,.int .i64 0,.bool false],.int .i64 E]) (by exact iU rfl rfl (setRow_heap _ _ _ _ _ _ F)) rfl ⟨by rw [HV.out,G.out],below_setRow f om _⟩
  subst h0;clear b9 aF;have cp:=(GF O.out).2.2.2.2.2.1;have bd:=hide (show uw c u k P A Z=(if fe c P A Z (gZ c u k)=0 then jn (((gZ c u k).map (TV c P A Z)).sum) else fe c P A Z (gZ c u k)) by rw [uw,O.out];rfl);have b5:=hide (show fe c P A Z (gZ c u k)=0→oA c u k P A Z=jN ((gZ c u k).map (TV c P A Z)).sum∧jC c u k P A Z=true from fun h=>by
    have h1:jC c u k P A Z=true:=by rw [jC,O.out,h];rfl
    exact ⟨by rw [oA,h1];rfl,h1⟩)
  obtain ⟨L,hL⟩:∃ L,gZ c u k=L:=⟨_,rfl⟩;rw [hL] at cp bd b5 a2;clear hL;have c6:n=L.length:=by
    rcases a2.out with ⟨h1,_,h2,_⟩ | ⟨_,h2,_⟩
    · rw [h1,h2];rfl
    · exact h2
  subst c6;have c1:=hide (show rj c u (.slice aA P.length H) (.slice aB A.length I) ad L.length cap L w2.heap.size (.slice none 0 0) ((L.take 0).map (TV c P A Z)) w w2 from by
    refine ⟨a3.out,a2.out.lt,a2.out,a3.out.2.lt,Nat.le_refl _,?_⟩;exact World.ownsRow_nil _ _ _ _)
  clear F;go_wp2_with fail;go_loopw [13,50] (fun c8 bx wr=>∃ j:Nat,bx=.int .i64 j∧j≤L.length∧fe c P A Z (L.take j)=0∧Hid (rj c u (.slice aA P.length H) (.slice aB A.length I) ad L.length cap L w2.heap.size c8 ((L.take j).map (TV c P A Z)) w wr)) (fun _ bx _=>(L.length+5-intOf bx).toNat)
  case atStart=>exact ⟨0,rfl,Nat.zero_le _,rfl,c1⟩
  case round =>
    obtain ⟨j,rfl,hj,U,HS⟩:=hrel;clear q0 q1 q2 q3 q4 q5 q6 q7 q8 q9 V ab ah al u0 u1 u2 k0 k1 J f;obtain ⟨⟨q0,q1,q2,q3,q4,q5,q6,q7,q8,q9,V,ab,ah,al⟩,⟨u0,u1,u2⟩,⟨k0,k1⟩,J,f⟩:=HS.out.1.1.cells;have cI:w.heap.size<wr.heap.size:=om;have a1:w.heap.size+1<wr.heap.size:=om;have ba:w.heap.size+1+1<wr.heap.size:=om;have c5:((L.take j).map (TV c P A Z)).length≤60:=by rw [List.length_map,List.length_take];omega
    have bh:=hide U;clear U;by_cases bt:j<L.length
    · obtain ⟨x,hx⟩:∃ x,L[j]?=some x:=⟨_,List.getElem?_eq_getElem bt⟩
      obtain ⟨g,o,c4,bw⟩:∃ g o,ad=some ⟨g,o,none⟩∧Gc wr g o L:=by
        rcases HS.out.2.2.1 with ⟨h1,_⟩ | ⟨_,_,g,o,h1,h2⟩
        · rw [h1] at bt;simp at bt
        · exact ⟨g,o,h1,h2⟩
      subst c4;obtain ⟨d0,d1,d2⟩:=bw.2 j x hx;have hg:=bw.1;have HX:=hide hx;have b0:=hide (show (L.take (j+1)).map (TV c P A Z)=(L.take j).map (TV c P A Z)++[TV c P A Z x] by rw [List.take_add_one,hx];simp);have d4:(0:Int)≤(j:Int):=om;have d5:(j:Int)<(L.length:Int):=om;clear hx bw;go_wp2_with fail
      all_goals first
        | (exfalso;omega)
        | skip
      have cl:Below wr wr (wr.alloc (.cells #[.int .i64 x.lv,.int .i64 x.yr,.int .i64 x.ix] 26)):=an;have bl:=f.trans (cl.mono om);refine (bb.out x _ (HP.out.call bl) (HA.out.call bl)).mono ?_;rintro e w4 ⟨rfl,cb⟩;have cS:=hide (show Below wr wr w4 from (ww cb).out);have aq:=hide (HS.out.call cS.out);clear cb cl bl q0 q1 q2 q3 q4 q5 q6 q7 q8 q9 V ab ah al u0 u1 u2 k0 k1 J f cI a1 ba d0 d1 d2 hg;have J:=aq.out.1.1.2.2.2.1;have f:=aq.out.1.1.2.2.2.2;have F:=aq.out.1.2;by_cases hX:TE c P A Z x=0
      rotate_left
      · have G := hide (show io c u k P A Z = TE c P A Z x by
          have h1:=wR HX.out bh.out hX;rw [io,if_pos HT.out,bd.out,h1,if_neg hX,if_neg hX])
        have HV:=hide (mR (show ¬ io c u k P A Z=0 by rw [G.out];exact hX));have d3:(TE c P A Z x != 0)=true:=by simpa using hX
        generalize TE c P A Z x=E at *;clear hX;go_wp2_with (refine wpList_store_row rfl _ _ _ rfl (w.heap.size+1+1+1) #[.int .i64 0,.int .i64 0,.int .i64 0,.int .i64 0,.int .i64 0,.int .i64 0,.bool false] rfl rfl _ _ F (by kernel_rfl) rfl (by simp [Value.oneCell']) ?_);go_wp2;exact bodyPost_ret (v:=.tuple #[.agg #[.int .i64 0,.int .i64 0,.int .i64 0,.int .i64 0,.int .i64 0,.int .i64 0,.bool false],.int .i64 E]) (by exact iU rfl rfl (setRow_heap _ _ _ _ _ _ F)) rfl ⟨by rw [HV.out,G.out],below_setRow f om _⟩
      have c2:=hide (qe HX.out bh.out hX);rw [hX];clear hX;obtain ⟨m,hm⟩:∃ m,TV c P A Z x=m:=⟨_,rfl⟩;rw [hm] at b0 ⊢;clear hm;have dq:=aq.out.2.2.2.2.1;clear F;go_wp2_with ((at_builtin;refine kS rfl _ _ rfl w2.heap.size _ _ _ [m] rfl (gA aq.out.2.2.2.2.2 ?hw) rfl (.inr ⟨_,_,by simp,rfl,?hl,?hc⟩) (Nat.le_trans (Nat.add_le_add_right c5 _) ac) ?hz ?_))
      case hw=>(repeat' exact bel)
      case hl=>simp
      case hc =>
        intro i y hy
        match i,hy with
        | 0,hy=>simp at hy;subst hy;exact oa _ _ _ _ (by first | (simp;done) | (show (World.alloc _ _).heap.size=_;simp))
      case hz=>first | omega | (simp;omega)
      intro v' w' a0 a7 bp;have c0:=hide (show cw w' w2 v' ((L.take j).map (TV c P A Z)++[m]) from by
        have e1:((L.take j).map (TV c P A Z)++[m]).length=j+1:=ae;have e2:cu ((L.take j).map (TV c P A Z)++[m])=cu (List.take j (List.map (TV c P A Z) L)++[m]):=by rw [List.map_take]
        unfold cw;rw [e1,e2];exact a0)
      have cM:∀ W,Below w4 w4 W→Below w2 W w'→rj c u (.slice aA P.length H) (.slice aB A.length I) (some ⟨g,o,none⟩) L.length cap L w2.heap.size v' ((L.take (j+1)).map (TV c P A Z)) w w':=fun W h1 h2=>(aq.out.call h1).app (by rw [b0.out];exact c0.out) h2
      have a4:=hide (cM _ an a7);clear a0 a7 bp cM;go_wp2;go_roundw
      case rel=>exact ⟨j+1,by go_num,by omega,c2.out,a4⟩
      case measure=>simp [intOf];omega
    · have U:=bh.out
      rw [List.take_of_length_le om] at U;have b2:=hide (show rj c u (.slice aA P.length H) (.slice aB A.length I) ad L.length cap L w2.heap.size u13 (L.map (TV c P A Z)) w wr from by
        have h:=HS.out;rw [List.take_of_length_le om] at h;exact h)
      obtain ⟨cy,cE⟩:=b5.out U;have b4:=hide (And.intro cy cE);have b3:=hide (show uw c u k P A Z=jn (L.map (TV c P A Z)).sum by rw [bd.out,if_pos U]);have c3:=hide (show ∀ y∈L.map (TV c P A Z),aX y from fun y hy=>by
        obtain ⟨x,_,rfl⟩:=List.mem_map.1 hy;exact rv _ _ _ _ _)
      have cr:=hide (show (L.map (TV c P A Z)).length≤1000000 by rw [List.length_map];omega);have b1:=hide (jP b2.out.2.2.2.2.2);clear U cy cE;obtain ⟨dd,n9,c9,c7⟩:∃ ad n cap,u13=.slice ad n cap:=by
        obtain ⟨ad,cap,h,_⟩:=b1.out;exact ⟨_,_,_,h⟩
      subst c7;go_wp2_with fail
      all_goals first
        | (exfalso;omega)
        | skip
      refine (l6 _ (L.map (TV c P A Z)) _ b1.out c3.out cr.out).mono ?_;rintro e w5 ⟨rfl,cc⟩;have a4:=hide (b2.out.call cc);clear cc q0 q1 q2 q3 q4 q5 q6 q7 q8 q9 V ab ah al u0 u1 u2 k0 k1 J f cI a1 ba;obtain ⟨⟨q0,q1,q2,q3,q4,q5,q6,q7,q8,q9,V,ab,ah,al⟩,⟨u0,u1,u2⟩,⟨k0,k1⟩,J,f⟩:=a4.out.1.1.cells;have F:=a4.out.1.2;have a1:w.heap.size+1<w5.heap.size:=om;by_cases hF:aX (L.map (TV c P A Z)).sum
      rotate_left
      · obtain ⟨f1,R⟩:=jj hF
        have G:=hide (show io c u k P A Z=2 by rw [io,if_pos HT.out,b3.out,R];rfl);have HV:=hide (mR (show ¬ io c u k P A Z=0 by rw [G.out];decide));rw [f1,R];clear hF f1 R;go_wp2_with (refine wpList_store_row rfl _ _ _ rfl (w.heap.size+1+1+1) #[.int .i64 0,.int .i64 0,.int .i64 0,.int .i64 0,.int .i64 0,.int .i64 0,.bool false] rfl rfl _ _ F (by kernel_rfl) rfl (by simp [Value.oneCell']) ?_);go_wp2;exact bodyPost_ret (v:=.tuple #[.agg #[.int .i64 0,.int .i64 0,.int .i64 0,.int .i64 0,.int .i64 0,.int .i64 0,.bool false],.int .i64 2]) (by exact iU rfl rfl (setRow_heap _ _ _ _ _ _ F)) rfl ⟨by rw [HV.out,G.out],below_setRow f om _⟩
      obtain ⟨f1,R⟩:=cB hF;rw [f1,R];have a5:=hide (b3.out.trans R);have ay:=hide (b4.out.1.trans f1);have bX:=hide hF;generalize (L.map (TV c P A Z)).sum=S at *;clear hF f1 R;go_wp2_with fail;refine (xS (TV c P A Z u) S _ (rv _ _ _ _ _) bX.out).mono ?_;rintro e w6 ⟨rfl,rfl⟩;by_cases hG:aX (TV c P A Z u-S)
      rotate_left
      · obtain ⟨f1,R⟩:=jj hG
        have G:=hide (show io c u k P A Z=2 by rw [io,if_pos HT.out,if_pos a5.out,ay.out,R]);have HV:=hide (mR (show ¬ io c u k P A Z=0 by rw [G.out];decide));rw [f1,R];clear hG f1 R;go_wp2_with (refine wpList_store_row rfl _ _ _ rfl (w.heap.size+1+1+1) #[.int .i64 0,.int .i64 0,.int .i64 0,.int .i64 0,.int .i64 0,.int .i64 0,.bool false] rfl rfl _ _ F (by kernel_rfl) rfl (by simp [Value.oneCell']) ?_);go_wp2;exact bodyPost_ret (v:=.tuple #[.agg #[.int .i64 0,.int .i64 0,.int .i64 0,.int .i64 0,.int .i64 0,.int .i64 0,.bool false],.int .i64 2]) (by exact iU rfl rfl (setRow_heap _ _ _ _ _ _ F)) rfl ⟨by rw [HV.out,G.out],below_setRow f om _⟩
      obtain ⟨f1,R⟩:=cB hG;have G:=hide (show io c u k P A Z=0 by rw [io,if_pos HT.out,if_pos a5.out,ay.out,R]);have HV:=hide (show mM c u k P A Z=⟨u,TV c P A Z u,S,TV c P A Z u-S,false⟩ by rw [mM,if_pos G.out,ay.out,b4.out.2];rfl);rw [f1,R];generalize TV c P A Z u-S=D at *;generalize TV c P A Z u=T at *;clear hG f1 R;go_wp2_with (refine wpList_store_row rfl _ _ _ rfl (w.heap.size+1+1+1) #[u.lv,u.yr,u.ix,T,S,D,.bool false] rfl rfl _ _ F (by kernel_rfl) rfl (by simp [Value.oneCell']) ?_);go_wp2;exact bodyPost_ret (v:=.tuple #[.agg #[u.lv,u.yr,u.ix,T,S,D,.bool false],.int .i64 0]) (by exact iU rfl rfl (setRow_heap _ _ _ _ _ _ F)) rfl ⟨by rw [HV.out,G.out],below_setRow f om _⟩
end
end Go.Proofs.YtjhhmeoibfdcmaaGreat
