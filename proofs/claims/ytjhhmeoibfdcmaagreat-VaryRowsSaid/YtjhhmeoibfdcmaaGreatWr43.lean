/- Lemmas. -/
import Derived.Test.YtjhhmeoibfdcmaaGreatWr37
import Derived.Test.YtjhhmeoibfdcmaaGreatWr40
set_option linter.unusedSimpArgs false
set_option linter.unusedVariables false
set_option maxRecDepth 100000
set_option maxHeartbeats 12800000
namespace Go.Proofs.YtjhhmeoibfdcmaaGreat
section
open Go.RowKit Qd
theorem I3 {a n:Int} {ws:List Int} (h:0<n) (o:n≤9223372036854775807):∀ r∈ge a n ws,aX r:=by
 intro r f;simp only [ge,List.mem_map] at f;obtain ⟨x,_,rfl⟩:=f;have:=Int.emod_nonneg (a*x) (show n≠0 by omega);have:=Int.emod_lt_of_pos (a*x) h;unfold aX;omega
theorem Iq {a n:Int} {ws:List Int} (f:ws.sum=n) (o:0<n):(ge a n ws).sum / n=dk a n ws:=by
 have h:=py (a:=a) f;rw [DJ] at h;unfold ge;rw [h,Int.mul_ediv_cancel_left _ om]
theorem ud (a n M hi lo:Int) (L:Nat) (ws:List Int) (S:List Pt) (v:Value) (w:World) (hv:iJ w v ws) (hL:ws.length=L) (a5:0<L) (d0:L≤4096) (cs:0≤M) (d1:M<L) (d2:Hid (S.length=L)) (b2:Hid ((ge a n ws).length=L)) (aq:Hid ((qL a n ws).length=L))
  (ay:Hid (∀ W,iJ W v ws→Calls Tryz.prog 109 #[v] W fun e I=>e=.returned (.tuple #[n,.int .i64 0])∧Below W W I))
  (cc:Hid (∀ x∈ws,∀ W,Calls Tryz.prog 110 #[a,.int .i64 x,n] W fun e I=>e=.returned (.tuple #[.int .i64 (a*x / n),.int .i64 (a*x % n),.int .i64 0])∧Below W W I))
  (cp:Hid (∀ u W,iJ W u (ge a n ws)→Calls Tryz.prog 112 #[u] W fun e I=>e=.returned (.agg #[hi,.int .u64 lo])∧Below W W I))
  (b8:Hid (∃ h2 l2 r,(∀ W,Calls Tryz.prog 111 #[.agg #[hi,.int .u64 lo],n] W fun e I=>e=.returned (.tuple #[.agg #[.int .i64 h2,.int .u64 l2],.int .i64 r,.int .i64 0])∧Below W W I)∧∀ W,Calls Tryz.prog 113 #[.agg #[.int .i64 h2,.int .u64 l2]] W fun e I=>e=.returned (.tuple #[M,.int .i64 0])∧Below W W I))
  (HB:Hid (∀ (t:Nat),(t:Int)<M→∃ p,S[t]?=some p∧p.pos.toNat<L∧ji (uv (ge a n ws) (S.take t)) L p.pos.toNat∧uv (ge a n ws) (S.take (t+1))=(uv (ge a n ws) (S.take t)).set p.pos.toNat (-1) ∧
   ∃ y,(dG (qL a n ws) (S.take t))[p.pos.toNat]?=some y∧dG (qL a n ws) (S.take (t+1))=(dG (qL a n ws) (S.take t)).set p.pos.toNat (y+1)∧aX (y+1))) :
  Calls Tryz.prog 66 #[a,v] w fun e I=>(∃ x,e=.returned (.tuple #[x,.int .i64 0])∧cw I w x (dG (qL a n ws) (S.take M.toNat)))∧Below w w I:=by
 have HV:=hide hv;obtain ⟨ad,cap,rfl,hc⟩:=hv;rw [hL] at HV ay ⊢;clear hc;go_enter Tryz.func66,Tryz.ntmps66;go_wp2_with fail;refine (ay.out _ HV.out).mono ?_;rintro e w1 ⟨rfl,a6⟩;have H0:=hide (show gX w.heap.size w (.slice none 0 0) (.slice none 0 0) ((qL a n ws).take 0) ((ge a n ws).take 0) w1 from ⟨World.ownsRow_nil _ _ _ _,World.ownsRow_nil _ _ _ _,fun k hk=>by simp [Value.ownBlock] at hk,a6,a6.size⟩);clear a6;go_wp2_with fail;go_loopw [8,9,33] (fun s8 s9 s wr=>∃ j:Nat,s=.int .i64 j∧j≤L∧gX w.heap.size w s8 s9 ((qL a n ws).take j) ((ge a n ws).take j) wr) (fun _ _ s _=>(5000-intOf s).toNat)
 case atStart=>exact ⟨0,rfl,Nat.zero_le _,H0.out⟩
 case round =>
  obtain ⟨j,rfl,hj,U⟩:=hrel;have HS:=hide U;have E:=U.2.2.2.1;clear U;by_cases a7:j<L
  ·obtain ⟨x,hx⟩:∃ x,ws[j]?=some x:=⟨_,List.getElem?_eq_getElem om⟩
   have hV:=HV.out.call E;obtain ⟨dY,dq,e,hc⟩:=hV;rw [hL] at e;cases e;obtain ⟨g,o,rfl,hg,a0⟩:=hc j x hx;have cl:=hide (cc.out x (List.mem_of_getElem? hx));have HQ:=hide (show (qL a n ws).take (j+1)=(qL a n ws).take j++[a*x / n] by rw [List.take_add_one,z6 hx];rfl);have HR:=hide (show (ge a n ws).take (j+1)=(ge a n ws).take j++[a*x % n] by rw [List.take_add_one,zM hx];rfl);have cI:(0:Int)≤(j:Int):=om;have cM:(j:Int)<(L:Int):=om;clear hc hx;generalize a*x / n=q at *;generalize a*x % n=r at *;go_wp2_with fail;refine (cl.out _).mono ?_;rintro e w2 ⟨rfl,V⟩;have G:=hide (HS.out.call V);have c8:=G.out.2.2.2.2;clear V;go_wp2_with ((at_builtin;refine ef rfl _ _ rfl w.heap.size u8 ((qL a n ws).take j) q w2.heap.size rfl (G.out.1.alloc _) rfl ac (by rw [List.length_take];omega) ae ?_));intro v8 w3 bX bt aF;have F:=hide (gX.app (G.out.call ((Below.refl _ _).alloc (Nat.le_refl _) (.cells #[q] 2))) (show cw w3 w v8 ((qL a n ws).take j++[q]) by unfold cw;simpa using bX) bt (by simpa using aF));rw [← HQ.out] at F;have c9:=F.out.2.2.2.2;clear bX bt aF;go_wp2_with ((at_builtin;refine ef rfl _ _ rfl w.heap.size u9 ((ge a n ws).take j) r w3.heap.size rfl (F.out.2.1.alloc _) rfl ac (by rw [List.length_take];omega) ae ?_));intro v9 w4 b1 bw a1;have J:=hide (gX.swap (gX.app (gX.swap (F.out.call ((Below.refl _ _).alloc (Nat.le_refl _) (.cells #[.int .i64 r] 2)))) (show cw w4 w v9 ((ge a n ws).take j++[r]) by unfold cw;simpa using b1) bw (by simpa using a1)));rw [← HR.out] at J;clear b1 bw a1;go_wp2;go_roundw
   case rel=>exact ⟨j+1,by go_num,by omega,J.out⟩
   case measure=>simp [intOf];omega
  ·have bx:j=L:=om
   have al:=hide (show gX w.heap.size w u8 u9 (dG (qL a n ws) (S.take 0)) (uv (ge a n ws) (S.take 0)) wr by
    have h:=HS.out;rw [List.take_of_length_le (by rw [aq.out];omega),List.take_of_length_le (by rw [b2.out];omega)] at h;simpa [dG,uv] using h)
   have cr:=hide (cp.out u9 wr (by have h:=al.out.2.1;simp only [List.take_zero] at h;exact jP h));obtain ⟨h2,l2,rr,bl,bp⟩:=b8.out;have b7:=hide bl;have b9:=hide bp;have a4:=hide (fun T=>show (dG (qL a n ws) T).length=L by rw [lA,aq.out]);have a3:=hide (fun T=>show (uv (ge a n ws) T).length=L by rw [Gj,b2.out]);obtain ⟨g8,R,e8,_⟩:=World.ownsRow.form al.out.1 (by rw [a4.out];exact a5);obtain ⟨g9,aB,e9,_⟩:=World.ownsRow.form al.out.2.1 (by rw [a3.out];exact a5);rw [a4.out] at e8;rw [a3.out] at e9;subst e8 e9;rw [bx];clear bl bp hj bx HS a7;go_wp2_with fail;refine cr.out.mono ?_;rintro e w2 ⟨rfl,V⟩;have G:=hide (al.out.call V);have c8:=G.out.2.2.2.2;clear V;go_wp2_with fail;refine (b7.out _).mono ?_;rintro e w3 ⟨rfl,bc⟩;have F:=hide (G.out.call bc);have c9:=F.out.2.2.2.2;clear bc;go_wp2_with fail;refine (b9.out _).mono ?_;rintro e w4 ⟨rfl,bd⟩;have J:=hide ((F.out.call ((Below.refl _ _).alloc (Nat.le_refl _) (.cells #[.int .i64 h2,.int .u64 l2] 103))).call bd);have d5:=J.out.2.2.2.2;clear bd E;go_wp2_with fail;go_loopw [68] (fun s wr=>∃ t:Nat,s=.int .i64 t∧(t:Int)≤M∧gX w.heap.size w (.slice (some ⟨g8,0,none⟩) L R) (.slice (some ⟨g9,0,none⟩) L aB) (dG (qL a n ws) (S.take t)) (uv (ge a n ws) (S.take t)) wr) (fun s _=>(5000-intOf s).toNat)
   case atStart=>exact ⟨0,rfl,cs,J.out⟩
   case round =>
    obtain ⟨t,rfl,ht,U⟩:=hrel;have HS:=hide U;have E:=U.2.2.2.1;clear U;by_cases a7:(t:Int)<M
    ·obtain ⟨p,hp,c6,ab,bb,y,hy,bh,a2⟩:=HB.out t a7
     have b4:=hide bb;have b6:=hide bh;have b5:=hide ab;have HY:=hide hy;have aA:=hide (a4.out (S.take t));have f:=hide (a3.out (S.take t));generalize dG (qL a n ws) (S.take t)=X8 at *;generalize uv (ge a n ws) (S.take t)=O at *;generalize p.pos.toNat=b0 at *;unfold aX at a2;obtain ⟨d3,d4⟩:=a2;obtain ⟨wo,b3⟩:∃ wo:World,wo=wr:=⟨_,rfl⟩;rw [← b3] at HS E ⊢;clear hp bb bh ab hy b3;go_wp2_with fail;go_loopw [20,72] (fun dd ba wr=>∃ i b:Nat,dd=.int .i64 b∧ba=.int .i64 i∧i≤L∧Hid (ji O i b)∧gX w.heap.size w (.slice (some ⟨g8,0,none⟩) L R) (.slice (some ⟨g9,0,none⟩) L aB) X8 O wr) (fun _ ba _=>(5000-intOf ba).toNat)
     case atStart=>exact ⟨0,0,rfl,rfl,Nat.zero_le _,hide (AF _),HS.out⟩
     case round =>
      obtain ⟨i,b,rfl,rfl,hi,ah,U⟩:=hrel;have HT:=hide U;have E:=U.2.2.2.1;clear U;by_cases c4:i<L
      ·have cy:b<L:=by rcases ah.out.1 with h | h <;> omega
       obtain ⟨yi,a8⟩:∃ x,O[i]?=some x:=⟨_,List.getElem?_eq_getElem (by rw [f.out];exact c4)⟩;obtain ⟨yb,H⟩:∃ x,O[b]?=some x:=⟨_,List.getElem?_eq_getElem (by rw [f.out];exact cy)⟩;have c1:=(fI HT.out.2.1 f.out.symm a8).1;have c2:=(fI HT.out.2.1 f.out.symm H).1;have e1:O.getD i 0=yi:=by rw [List.getD_eq_getElem?_getD,a8];rfl
       have e2:O.getD b 0=yb:=by rw [List.getD_eq_getElem?_getD,H];rfl
       have ca:=hide (fun h=>AV ah.out (show O.getD b 0<O.getD i 0 by rw [e1,e2];exact h));have cb:=hide (fun h=>CL ah.out (show ¬ O.getD b 0<O.getD i 0 by rw [e1,e2];exact h));have cI:(0:Int)≤(i:Int):=om;have cM:(i:Int)<(L:Int):=om;have cS:(0:Int)≤(b:Int):=om;have c0:(b:Int)<(L:Int):=om;clear a8 H e1 e2;by_cases hc:yb<yi
       ·have HN:=hide (ca.out hc)
        go_wp2
        all_goals first
         | (exfalso;omega)
         | skip
        go_roundw
        case rel=>exact ⟨i+1,i,rfl,by go_num,by omega,HN,HT.out⟩
        case measure=>simp [intOf];omega
       ·have HN:=hide (cb.out hc)
        go_wp2
        all_goals first
         | (exfalso;omega)
         | skip
        go_roundw
        case rel=>exact ⟨i+1,b,rfl,by go_num,by omega,HN,HT.out⟩
        case measure=>simp [intOf];omega
      ·have c3:i=L:=om
       have cE:b=b0:=BC (by have h:=ah.out;rwa [c3] at h) b5.out a5;subst cE;obtain ⟨c1,f1⟩:=fI HT.out.1 aA.out.symm HY.out;obtain ⟨yb,H⟩:∃ x,O[b]?=some x:=⟨_,List.getElem?_eq_getElem (by rw [f.out];exact c6)⟩;obtain ⟨c2,f2⟩:=fI HT.out.2.1 f.out.symm H;have cS:(0:Int)≤(b:Int):=om;have c0:(b:Int)<(L:Int):=om;have c5:g8≠g9:=fun e=>HT.out.2.2.1 g8 rfl (by rw [e];rfl)
       have ds:¬ g9=g8:=fun e=>c5 e.symm
       clear H;go_wp2
       all_goals first
        | (exfalso;omega)
        | skip
       go_roundw
       case rel=>exact ⟨t+1,by go_num,by omega,by rw [b6.out,b4.out];exact gX.swap (gX.set (gX.swap (gX.set HT.out aA.out.symm b (y+1))) f.out.symm b (-1))⟩
       case measure=>simp [intOf];omega
    ·have c7:t=M.toNat:=om
     have HO:=hide HS.out.1;rw [c7] at HO;go_wp2
     all_goals first
      | (exfalso;omega)
      | (go_ret2;exact ⟨⟨_,rfl,by have h:=HO.out;unfold cw;rw [lA,aq.out];rw [cw,lA,aq.out] at h;exact h⟩,E⟩)
      | (refine bodyPost_ret (v:=.tuple #[.slice (some ⟨g8,0,none⟩) L R,.int .i64 0]) (by simp (maxDischargeDepth:=9) [results,Tryz.results66,go_sem]) rfl ⟨⟨_,rfl,HO.out⟩,E⟩)
theorem sM (a:Int) (ws:List Int) (v:Value) (w:World) (hv:iJ w v ws) (R:aX a) (F:∀ x∈ws,0≤x) (hn:ws.length≤4096) (o:0<ws.sum) (U:ws.sum≤9223372036854775807) :
  Calls Tryz.prog 66 #[a,v] w fun e w'=>(∃ x,e=.returned (.tuple #[x,.int .i64 0])∧cw w' w x (lO a ws))∧Below w w w':=by
 have G:=oK F;have E:∀ x∈ws,aX x:=fun x J=>by have:=F x J;have:=G x J;unfold aX;omega
 have f:=tq a ws;obtain ⟨S,T⟩:=zI (a:=a) o rfl;have O:0<ws.length:=om;have I:∀ r∈ge a ws.sum ws,aX r:=I3 o U;have V:bL (ge a ws.sum ws).sum:=kh I (by rw [pF];omega);have h:aX (dk a ws.sum ws):=by unfold aX;omega
 refine ud a ws.sum (dk a ws.sum ws) _ _ ws.length ws (jv (gz a ws.sum ws)) v w hv rfl O hn S T (hide (by rw [f.1.length_eq,fq])) (hide (pF _ _ _)) (hide (jo _ _ _))
  (hide fun W hW=>yG v ws W hW F hn E (by unfold aX;omega) o)
  (hide fun x J W=>sP a x ws.sum W R (E x J) o U (DV R o (fun y hy=>⟨F y hy,G y hy⟩) _ (by simp only [qL,List.mem_map];exact ⟨x,J,rfl⟩)))
  (hide fun u W hu=>wP u _ W hu I (by rw [pF];omega))
  (hide ⟨_,_,_,fun W=>pY _ ws.sum W V o U,fun W=>?_⟩) (hide fun t ht=>?_)
 ·rw [Iq rfl o]
  have:=mg (dk a ws.sum ws) W (mP h);rw [(cB h).1,(cB h).2] at this;exact this
 ·have ab:(jv (gz a ws.sum ws)).length=ws.length:=by rw [f.1.length_eq,fq]
  obtain ⟨p,H⟩:∃ p,(jv (gz a ws.sum ws))[t]?=some p:=⟨_,List.getElem?_eq_getElem om⟩;have hb:=kR o ((fO f).1 (List.mem_of_getElem? H));obtain ⟨y,k1,k2,k3⟩:=CN R F o f rfl ht H;refine ⟨p,H,by omega,GH o f H,?_,y,k1,k2,k3⟩;rw [List.take_add_one,H];exact Dl _ _ _
def kl (c:ar) (lv y:Int) (g:Nat) (w:World):Prop:=g<w.heap.size∧∀ i,i<aR c y lv→w.cell? ⟨g,i*2,none⟩=some (.int .i64 (bD c y (aW c y lv i)))∧w.cell? ⟨g,i*2+1,none⟩=some (.int .i64 (bD c y (aW c y lv (i+1))-1))
theorem kl.call {c:ar} {lv y:Int} {g:Nat} {w o:World} (h:kl c lv y g w) (f:Below w w o):kl c lv y g o:=
 ⟨Nat.lt_of_lt_of_le h.1 f.size,fun i hi=>⟨(f.cell (p:=⟨g,i*2,none⟩) h.1).trans (h.2 i hi).1,(f.cell (p:=⟨g,i*2+1,none⟩) h.1).trans (h.2 i hi).2⟩⟩
theorem kl.own {c:ar} {lv y:Int} {g:Nat} {w F:World} {o:Option Nat} (h:kl c lv y g w) (E:w.grownBy F o) (f:o≠some g):kl c lv y g F:=
 ⟨Nat.lt_of_lt_of_le h.1 E.size,fun i hi=>⟨(E.cell_far ⟨g,i*2,none⟩ h.1 (fun e=>f e.symm)).trans (h.2 i hi).1,(E.cell_far ⟨g,i*2+1,none⟩ h.1 (fun e=>f e.symm)).trans (h.2 i hi).2⟩⟩
def Md (c:ar) (lv:Int) (o f h:Value) (w:World):Prop:=(f=.slice none 0 0∧h=.int .i64 0)∨∃ g cap y,f=.slice (some ⟨g,0,none⟩) (aR c y lv) cap∧h=.int .i64 y∧kl c lv y g w∧o.ownBlock≠some g
def KO (c:ar) (s:Sp) (E f:Nat) (o:List Un) (h w:World):Prop:=aG w h c∧lQ w (h+1) s∧de w E f o∧h.heap.size+1<w.heap.size∧Below h h w
theorem KO.call {c:ar} {s:Sp} {F f:Nat} {E:List Un} {H w G:World} (h:KO c s F f E H w) (o:Below w w G):KO c s F f E H G:=
 ⟨aa o (by have:=h.2.2.2.1;omega) h.1,bu o h.2.2.2.1 h.2.1,h.2.2.1.call o,Nat.lt_of_lt_of_le h.2.2.2.1 o.size,h.2.2.2.2.trans (o.mono h.2.2.2.2.size)⟩
theorem sr (w:World) (c:ar) (s:Sp):lQ ((w.alloc (bG c)).alloc (jB s)) (w.heap.size+1) s:=by
 refine ⟨?_,?_⟩ <;> simp [World.cell?_alloc_at]
theorem vY (c:ar) (lv:Int) (s:Sp) (w:World) (hn:c.name.size≤1000) (h:bg c lv s=0) (hl:(be c lv s).length≤100000)
    (HM:Hid (∀ W,Calls Tryz.prog 63 #[av c,lv,bI s] W fun e w'=>∃ g cap,e=.returned (.tuple #[.slice (some ⟨g,0,none⟩) (be c lv s).length cap,.int .i64 0])∧de w' g cap (be c lv s)∧Below W W w'))
    (bx:Hid (∀ y,aI c lv y=0→∀ W,Calls Tryz.prog 64 #[av c,lv,.int .i64 y] W fun e w'=>∃ g cap,e=.returned (.tuple #[.slice (some ⟨g,0,none⟩) (aR c y lv) cap,.int .i64 0])∧W.heap.size≤g∧kl c lv y g w'∧Below W W w')) :
    Calls Tryz.prog 24 #[av c,lv,bI s] w fun e w'=>(∃ x,e=.returned (.tuple #[x,.int .i64 0])∧cw w' w x (ez c lv s))∧Below w w w':=by
  have b4:=eq h;have b2:=(fh b4.2.2.2.2.1).2.2.2.2.1;have b3:=(fh b4.2.2.2.2.2).2.2.2.2.1;simp [cH] at b2 b3;obtain ⟨b2,c7⟩:=b2;obtain ⟨b3,c8⟩:=b3;have b6:=hide (fun (u:Un) (hu:u∈be c lv s)=>qI h hu);have bw:=hide (fun (j:Nat) (u:Un) (hj:(be c lv s)[j]?=some u)=>vg hj);have bt:=hide (eh c lv s);obtain ⟨LM,b9⟩:∃ l,be c lv s=l:=⟨_,rfl⟩;obtain ⟨DL,b8⟩:∃ l,ez c lv s=l:=⟨_,rfl⟩;rw [b9] at HM b6 bw bt hl;rw [b8] at bw bt ⊢;clear b9 b8 h b4;have H0:=hide (show aG ((w.alloc (bG c)).alloc (jB s)) w.heap.size c∧lQ ((w.alloc (bG c)).alloc (jB s)) (w.heap.size+1) s from ⟨az (au w c) ac _,sr w c s⟩);simp only [av,bI] at HM bx;simp only [av];go_enter Tryz.func24,Tryz.ntmps24;go_wp2_with fail;refine (HM.out _).mono ?_;rintro e f ⟨gm,b7,rfl,cp,a6⟩;have b5:=hide (show KO c s gm b7 LM w f from ⟨aa a6 ae H0.out.1,bu a6 ac H0.out.2,cp,by have:=a6.size;simp at this;omega,(ww a6).out⟩);clear cp a6;go_wp2_with fail;go_loopw [10,11,12,28] (fun c0 c5 c6 si wr=>∃ j:Nat,si=.int .i64 j∧j≤LM.length∧cw wr f c0 (DL.take j)∧Md c lv c0 c5 c6 wr∧Below f f wr) (fun _ _ _ si _=>(100001-intOf si).toNat)
  case atStart=>exact ⟨0,rfl,Nat.zero_le _,World.ownsRow_nil _ _ _ _,.inl ⟨rfl,rfl⟩,Below.refl _ _⟩
  case round =>
    obtain ⟨j,rfl,hj,hO,hD,bb⟩:=hrel;have HO:=hide hO;have bp:=hide bb;have a3:=bb.size;have HB:=hide (b5.out.call bb);clear hO bb;by_cases c4:j<LM.length
    · obtain ⟨u,hu⟩:∃ u,LM[j]?=some u:=⟨_,List.getElem?_eq_getElem c4⟩
      obtain ⟨hU,bh,_,_,_⟩:=b6.out u (List.mem_of_getElem? hu);have HU:=hide (show aI c lv u.yr=0∧u.ix=(uI u:Int)+1∧uI u<aR c u.yr lv by have:=ie hU;rw [bh] at this;exact this);have aF:=hide (show cd c u=⟨bD c u.yr (aW c u.yr lv (uI u)),bD c u.yr (aW c u.yr lv (uI u+1))-1⟩ by rw [cd,if_pos hU];unfold gT gb aT bF;rw [bh]);have bl:=hide (Jm hU);have ds:1600<u.yr:=by
        have hA:=(a9 HU.out.1).2.2.2.2.2.2;obtain ⟨_,h1,h2⟩:=bo hA;omega
      have HT:=hide (show DL.take (j+1)=DL.take j++[df s.a s.b (cd c u)] by rw [List.take_add_one,bw.out j u hu];rfl);obtain ⟨a0,a1,a2⟩:=HB.out.2.2.1.cell hu;have c9:=HB.out.2.2.1.lt om;rw [HU.out.2.1] at a2;have dq:(j:Int)<(LM.length:Int):=om;have dd:(0:Int)≤(j:Int):=om;obtain ⟨q0,q1,q2,q3,q4,q5,q6,q7,q8,q9,cE,cI,cM,cS⟩:=HB.out.1;obtain ⟨b0,b1⟩:=HB.out.2.1;have a4:=HB.out.2.2.2.1;have dY:w.heap.size<wr.heap.size:=om;rcases hD with ⟨rfl,rfl⟩ | ⟨g2,V,y,rfl,rfl,ba,bX⟩
      · have hy:(u.yr==0)=false:=ae
        go_wp2_with fail;refine (bx.out u.yr HU.out.1 _).mono ?_;rintro e w2 ⟨g2,V,rfl,a8,al,aB⟩;have ad:=hide (show Below wr wr w2 from (ww aB).out);have I:=hide (dC HO.out ad.out);have aA:=hide (HB.out.call ad.out);have ah:=hide (bp.out.trans (ad.out.mono a3));have a5:=hide (ap.call (ap.new wr #[lv,.int .i64 u.yr,.int .i64 ((uI u:Int)+1)] 26) aB);have H:=hide (show u10.ownBlock≠some g2 from fun e=>by have:=(HO.out.lt g2 e).2;simp at a8;omega);have bd:f.heap.size≤w2.heap.size:=Nat.le_trans a3 ad.out.size;clear aB a8 q0 q1 q2 q3 q4 q5 q6 q7 q8 q9 cE cI cM cS b0 b1 a0 a1 a2 a4;obtain ⟨⟨d0,d1,d2⟩,cy⟩:=dw a5.out;have ca:=al.1;obtain ⟨c1,c2⟩:=al.2 (uI u) HU.out.2.2;have ab:=hide (show df s.a s.b (cd c u)=df s.a s.b ⟨bD c u.yr (aW c u.yr lv (uI u)),bD c u.yr (aW c u.yr lv (uI u+1))-1⟩ by rw [aF.out]);have ay:=bl.out;rw [aF.out] at ay;simp only at ay;obtain ⟨e1,e2,e3⟩:=ay;have U:=hide al;generalize bD c u.yr (aW c u.yr lv (uI u))=F at c1 ab e1 e2 e3;generalize bD c u.yr (aW c u.yr lv (uI u+1))-1=G at c2 ab e1 e2 e3;obtain ⟨b0,b1⟩:=aA.out.2.1;have a4:=aA.out.2.2.2.1;have cb:(0:Int)≤(uI u:Int):=om;have cc:(uI u:Int)<(aR c u.yr lv:Int):=by have:=HU.out.2.2;omega
        have bc:uI u<60:=by have h1:=dv c u.yr (a9 HU.out.1).2.2.2.2.2.2 lv;have:=HU.out.2.2;omega
        clear al;have a7:(G<s.b∧s.a<F)∨(G<s.b∧F≤s.a)∨(s.b≤G∧s.a<F)∨(s.b≤G∧F≤s.a):=om;rcases a7 with hq | hq | hq | hq
        · have m1:G<s.b:=om
          have m2:s.a<F:=om;have HQ:=hide (show df s.a s.b (cd c u)=G-F+1 by rw [ab.out];exact (show min s.b G-max s.a F+1=G-F+1 by omega));clear hq;go_wp2_with ((at_builtin;refine ef rfl _ _ rfl f.heap.size u10 (DL.take j) (G-F+1) (w2.heap.size+1) rfl ((I.out.alloc _).alloc _) rfl ac (by rw [List.length_take];omega) ae ?_));intro v' T ho E o;have R:=hide (show cw T f v' (DL.take (j+1)) by rw [HT.out,HQ.out];unfold cw;simpa using ho);have aq:=hide E;have S:=hide (show kl c lv u.yr g2 T from kl.own (U.out.call an) E H.out);have J:=hide (show v'.ownBlock≠some g2 by
            rcases o with e | e
            · rw [e];exact H.out
            · rw [e];intro e2;have:=Option.some.inj e2;omega)
          have O:=hide (show Below f f T from (show Below f f _ by have hx:=ah.out;exact bel).grown E ae (fun k hk=>(I.out.lt k hk).1));clear ho E o;go_wp2;go_roundw
          case rel=>exact ⟨j+1,by go_num,by omega,R.out,.inr ⟨g2,V,u.yr,rfl,rfl,S.out,J.out⟩,O.out⟩
          case measure=>simp [intOf];omega
        · have m1:G<s.b:=om
          have m2:¬ s.a<F:=om;have HQ:=hide (show df s.a s.b (cd c u)=G-s.a+1 by rw [ab.out];exact (show min s.b G-max s.a F+1=G-s.a+1 by omega));clear hq;go_wp2_with ((at_builtin;refine ef rfl _ _ rfl f.heap.size u10 (DL.take j) (G-s.a+1) (w2.heap.size+1) rfl ((I.out.alloc _).alloc _) rfl ac (by rw [List.length_take];omega) ae ?_));intro v' T ho E o;have R:=hide (show cw T f v' (DL.take (j+1)) by rw [HT.out,HQ.out];unfold cw;simpa using ho);have aq:=hide E;have S:=hide (show kl c lv u.yr g2 T from kl.own (U.out.call an) E H.out);have J:=hide (show v'.ownBlock≠some g2 by
            rcases o with e | e
            · rw [e];exact H.out
            · rw [e];intro e2;have:=Option.some.inj e2;omega)
          have O:=hide (show Below f f T from (show Below f f _ by have hx:=ah.out;exact bel).grown E ae (fun k hk=>(I.out.lt k hk).1));clear ho E o;go_wp2;go_roundw
          case rel=>exact ⟨j+1,by go_num,by omega,R.out,.inr ⟨g2,V,u.yr,rfl,rfl,S.out,J.out⟩,O.out⟩
          case measure=>simp [intOf];omega
        · have m1:¬ G<s.b:=om
          have m2:s.a<F:=om;have HQ:=hide (show df s.a s.b (cd c u)=s.b-F+1 by rw [ab.out];exact (show min s.b G-max s.a F+1=s.b-F+1 by omega));clear hq;go_wp2_with ((at_builtin;refine ef rfl _ _ rfl f.heap.size u10 (DL.take j) (s.b-F+1) (w2.heap.size+1) rfl ((I.out.alloc _).alloc _) rfl ac (by rw [List.length_take];omega) ae ?_));intro v' T ho E o;have R:=hide (show cw T f v' (DL.take (j+1)) by rw [HT.out,HQ.out];unfold cw;simpa using ho);have aq:=hide E;have S:=hide (show kl c lv u.yr g2 T from kl.own (U.out.call an) E H.out);have J:=hide (show v'.ownBlock≠some g2 by
            rcases o with e | e
            · rw [e];exact H.out
            · rw [e];intro e2;have:=Option.some.inj e2;omega)
          have O:=hide (show Below f f T from (show Below f f _ by have hx:=ah.out;exact bel).grown E ae (fun k hk=>(I.out.lt k hk).1));clear ho E o;go_wp2;go_roundw
          case rel=>exact ⟨j+1,by go_num,by omega,R.out,.inr ⟨g2,V,u.yr,rfl,rfl,S.out,J.out⟩,O.out⟩
          case measure=>simp [intOf];omega
        · have m1:¬ G<s.b:=om
          have m2:¬ s.a<F:=om;have HQ:=hide (show df s.a s.b (cd c u)=s.b-s.a+1 by rw [ab.out];exact (show min s.b G-max s.a F+1=s.b-s.a+1 by omega));clear hq;go_wp2_with ((at_builtin;refine ef rfl _ _ rfl f.heap.size u10 (DL.take j) (s.b-s.a+1) (w2.heap.size+1) rfl ((I.out.alloc _).alloc _) rfl ac (by rw [List.length_take];omega) ae ?_));intro v' T ho E o;have R:=hide (show cw T f v' (DL.take (j+1)) by rw [HT.out,HQ.out];unfold cw;simpa using ho);have aq:=hide E;have S:=hide (show kl c lv u.yr g2 T from kl.own (U.out.call an) E H.out);have J:=hide (show v'.ownBlock≠some g2 by
            rcases o with e | e
            · rw [e];exact H.out
            · rw [e];intro e2;have:=Option.some.inj e2;omega)
          have O:=hide (show Below f f T from (show Below f f _ by have hx:=ah.out;exact bel).grown E ae (fun k hk=>(I.out.lt k hk).1));clear ho E o;go_wp2;go_roundw
          case rel=>exact ⟨j+1,by go_num,by omega,R.out,.inr ⟨g2,V,u.yr,rfl,rfl,S.out,J.out⟩,O.out⟩
          case measure=>simp [intOf];omega
      · by_cases cs:y=u.yr
        rotate_left
        · have hy:(u.yr==y)=false:=by simp;exact fun e=>cs e.symm
          clear ba bX;go_wp2_with fail;refine (bx.out u.yr HU.out.1 _).mono ?_;rintro e w2 ⟨g2,V,rfl,a8,al,aB⟩;have ad:=hide (show Below wr wr w2 from (ww aB).out);have I:=hide (dC HO.out ad.out);have aA:=hide (HB.out.call ad.out);have ah:=hide (bp.out.trans (ad.out.mono a3));have a5:=hide (ap.call (ap.new wr #[lv,.int .i64 u.yr,.int .i64 ((uI u:Int)+1)] 26) aB);have H:=hide (show u10.ownBlock≠some g2 from fun e=>by have:=(HO.out.lt g2 e).2;simp at a8;omega);have bd:f.heap.size≤w2.heap.size:=Nat.le_trans a3 ad.out.size;clear aB a8 q0 q1 q2 q3 q4 q5 q6 q7 q8 q9 cE cI cM cS b0 b1 a0 a1 a2 a4;obtain ⟨⟨d0,d1,d2⟩,cy⟩:=dw a5.out;have ca:=al.1;obtain ⟨c1,c2⟩:=al.2 (uI u) HU.out.2.2;have ab:=hide (show df s.a s.b (cd c u)=df s.a s.b ⟨bD c u.yr (aW c u.yr lv (uI u)),bD c u.yr (aW c u.yr lv (uI u+1))-1⟩ by rw [aF.out]);have ay:=bl.out;rw [aF.out] at ay;simp only at ay;obtain ⟨e1,e2,e3⟩:=ay;have U:=hide al;generalize bD c u.yr (aW c u.yr lv (uI u))=F at c1 ab e1 e2 e3;generalize bD c u.yr (aW c u.yr lv (uI u+1))-1=G at c2 ab e1 e2 e3;obtain ⟨b0,b1⟩:=aA.out.2.1;have a4:=aA.out.2.2.2.1;have cb:(0:Int)≤(uI u:Int):=om;have cc:(uI u:Int)<(aR c u.yr lv:Int):=by have:=HU.out.2.2;omega
          have bc:uI u<60:=by have h1:=dv c u.yr (a9 HU.out.1).2.2.2.2.2.2 lv;have:=HU.out.2.2;omega
          clear al;have a7:(G<s.b∧s.a<F)∨(G<s.b∧F≤s.a)∨(s.b≤G∧s.a<F)∨(s.b≤G∧F≤s.a):=om;rcases a7 with hq | hq | hq | hq
          · have m1:G<s.b:=om
            have m2:s.a<F:=om;have HQ:=hide (show df s.a s.b (cd c u)=G-F+1 by rw [ab.out];exact (show min s.b G-max s.a F+1=G-F+1 by omega));clear hq;go_wp2_with ((at_builtin;refine ef rfl _ _ rfl f.heap.size u10 (DL.take j) (G-F+1) (w2.heap.size+1) rfl ((I.out.alloc _).alloc _) rfl ac (by rw [List.length_take];omega) ae ?_));intro v' T ho E o;have R:=hide (show cw T f v' (DL.take (j+1)) by rw [HT.out,HQ.out];unfold cw;simpa using ho);have aq:=hide E;have S:=hide (show kl c lv u.yr g2 T from kl.own (U.out.call an) E H.out);have J:=hide (show v'.ownBlock≠some g2 by
              rcases o with e | e
              · rw [e];exact H.out
              · rw [e];intro e2;have:=Option.some.inj e2;omega)
            have O:=hide (show Below f f T from (show Below f f _ by have hx:=ah.out;exact bel).grown E ae (fun k hk=>(I.out.lt k hk).1));clear ho E o;go_wp2;go_roundw
            case rel=>exact ⟨j+1,by go_num,by omega,R.out,.inr ⟨g2,V,u.yr,rfl,rfl,S.out,J.out⟩,O.out⟩
            case measure=>simp [intOf];omega
          · have m1:G<s.b:=om
            have m2:¬ s.a<F:=om;have HQ:=hide (show df s.a s.b (cd c u)=G-s.a+1 by rw [ab.out];exact (show min s.b G-max s.a F+1=G-s.a+1 by omega));clear hq;go_wp2_with ((at_builtin;refine ef rfl _ _ rfl f.heap.size u10 (DL.take j) (G-s.a+1) (w2.heap.size+1) rfl ((I.out.alloc _).alloc _) rfl ac (by rw [List.length_take];omega) ae ?_));intro v' T ho E o;have R:=hide (show cw T f v' (DL.take (j+1)) by rw [HT.out,HQ.out];unfold cw;simpa using ho);have aq:=hide E;have S:=hide (show kl c lv u.yr g2 T from kl.own (U.out.call an) E H.out);have J:=hide (show v'.ownBlock≠some g2 by
              rcases o with e | e
              · rw [e];exact H.out
              · rw [e];intro e2;have:=Option.some.inj e2;omega)
            have O:=hide (show Below f f T from (show Below f f _ by have hx:=ah.out;exact bel).grown E ae (fun k hk=>(I.out.lt k hk).1));clear ho E o;go_wp2;go_roundw
            case rel=>exact ⟨j+1,by go_num,by omega,R.out,.inr ⟨g2,V,u.yr,rfl,rfl,S.out,J.out⟩,O.out⟩
            case measure=>simp [intOf];omega
          · have m1:¬ G<s.b:=om
            have m2:s.a<F:=om;have HQ:=hide (show df s.a s.b (cd c u)=s.b-F+1 by rw [ab.out];exact (show min s.b G-max s.a F+1=s.b-F+1 by omega));clear hq;go_wp2_with ((at_builtin;refine ef rfl _ _ rfl f.heap.size u10 (DL.take j) (s.b-F+1) (w2.heap.size+1) rfl ((I.out.alloc _).alloc _) rfl ac (by rw [List.length_take];omega) ae ?_));intro v' T ho E o;have R:=hide (show cw T f v' (DL.take (j+1)) by rw [HT.out,HQ.out];unfold cw;simpa using ho);have aq:=hide E;have S:=hide (show kl c lv u.yr g2 T from kl.own (U.out.call an) E H.out);have J:=hide (show v'.ownBlock≠some g2 by
              rcases o with e | e
              · rw [e];exact H.out
              · rw [e];intro e2;have:=Option.some.inj e2;omega)
            have O:=hide (show Below f f T from (show Below f f _ by have hx:=ah.out;exact bel).grown E ae (fun k hk=>(I.out.lt k hk).1));clear ho E o;go_wp2;go_roundw
            case rel=>exact ⟨j+1,by go_num,by omega,R.out,.inr ⟨g2,V,u.yr,rfl,rfl,S.out,J.out⟩,O.out⟩
            case measure=>simp [intOf];omega
          · have m1:¬ G<s.b:=om
            have m2:¬ s.a<F:=om;have HQ:=hide (show df s.a s.b (cd c u)=s.b-s.a+1 by rw [ab.out];exact (show min s.b G-max s.a F+1=s.b-s.a+1 by omega));clear hq;go_wp2_with ((at_builtin;refine ef rfl _ _ rfl f.heap.size u10 (DL.take j) (s.b-s.a+1) (w2.heap.size+1) rfl ((I.out.alloc _).alloc _) rfl ac (by rw [List.length_take];omega) ae ?_));intro v' T ho E o;have R:=hide (show cw T f v' (DL.take (j+1)) by rw [HT.out,HQ.out];unfold cw;simpa using ho);have aq:=hide E;have S:=hide (show kl c lv u.yr g2 T from kl.own (U.out.call an) E H.out);have J:=hide (show v'.ownBlock≠some g2 by
              rcases o with e | e
              · rw [e];exact H.out
              · rw [e];intro e2;have:=Option.some.inj e2;omega)
            have O:=hide (show Below f f T from (show Below f f _ by have hx:=ah.out;exact bel).grown E ae (fun k hk=>(I.out.lt k hk).1));clear ho E o;go_wp2;go_roundw
            case rel=>exact ⟨j+1,by go_num,by omega,R.out,.inr ⟨g2,V,u.yr,rfl,rfl,S.out,J.out⟩,O.out⟩
            case measure=>simp [intOf];omega
        · subst cs
          have hy:(u.yr==u.yr)=true:=ac;obtain ⟨w2,cr⟩:∃ W,wr.alloc (.cells #[lv,.int .i64 u.yr,.int .i64 ((uI u:Int)+1)] 26)=W:=⟨_,rfl⟩;have ad:=hide (show Below wr wr w2 by rw [← cr];exact bel);have I:=hide (dC HO.out ad.out);have aA:=hide (HB.out.call ad.out);have ah:=hide (bp.out.trans (ad.out.mono a3));have a5:=hide (show ap w2 wr #[lv,.int .i64 u.yr,.int .i64 ((uI u:Int)+1)] 26 by rw [← cr];exact ap.new _ _ _);have H:=hide bX;have bd:f.heap.size≤w2.heap.size:=Nat.le_trans a3 ad.out.size;have al:=ba.call ad.out;clear b0 b1 a4 ba bX;obtain ⟨⟨d0,d1,d2⟩,cy⟩:=dw a5.out;have ca:=al.1;obtain ⟨c1,c2⟩:=al.2 (uI u) HU.out.2.2;have ab:=hide (show df s.a s.b (cd c u)=df s.a s.b ⟨bD c u.yr (aW c u.yr lv (uI u)),bD c u.yr (aW c u.yr lv (uI u+1))-1⟩ by rw [aF.out]);have ay:=bl.out;rw [aF.out] at ay;simp only at ay;obtain ⟨e1,e2,e3⟩:=ay;have U:=hide al;generalize bD c u.yr (aW c u.yr lv (uI u))=F at c1 ab e1 e2 e3;generalize bD c u.yr (aW c u.yr lv (uI u+1))-1=G at c2 ab e1 e2 e3;obtain ⟨b0,b1⟩:=aA.out.2.1;have a4:=aA.out.2.2.2.1;have cb:(0:Int)≤(uI u:Int):=om;have cc:(uI u:Int)<(aR c u.yr lv:Int):=by have:=HU.out.2.2;omega
          have bc:uI u<60:=by have h1:=dv c u.yr (a9 HU.out.1).2.2.2.2.2.2 lv;have:=HU.out.2.2;omega
          clear al;have a7:(G<s.b∧s.a<F)∨(G<s.b∧F≤s.a)∨(s.b≤G∧s.a<F)∨(s.b≤G∧F≤s.a):=om;rcases a7 with hq | hq | hq | hq
          · have m1:G<s.b:=om
            have m2:s.a<F:=om;have HQ:=hide (show df s.a s.b (cd c u)=G-F+1 by rw [ab.out];exact (show min s.b G-max s.a F+1=G-F+1 by omega));clear hq;go_wp2_with ((at_builtin;refine ef rfl _ _ rfl f.heap.size u10 (DL.take j) (G-F+1) (w2.heap.size+1) rfl ((I.out.alloc _).alloc _) rfl ac (by rw [List.length_take];omega) ae ?_));intro v' T ho E o;have R:=hide (show cw T f v' (DL.take (j+1)) by rw [HT.out,HQ.out];unfold cw;simpa using ho);have aq:=hide E;have S:=hide (show kl c lv u.yr g2 T from kl.own (U.out.call an) E H.out);have J:=hide (show v'.ownBlock≠some g2 by
              rcases o with e | e
              · rw [e];exact H.out
              · rw [e];intro e2;have:=Option.some.inj e2;omega)
            have O:=hide (show Below f f T from (show Below f f _ by have hx:=ah.out;exact bel).grown E ae (fun k hk=>(I.out.lt k hk).1));clear ho E o;go_wp2;go_roundw
            case rel=>exact ⟨j+1,by go_num,by omega,R.out,.inr ⟨g2,V,u.yr,rfl,rfl,S.out,J.out⟩,O.out⟩
            case measure=>simp [intOf];omega
          · have m1:G<s.b:=om
            have m2:¬ s.a<F:=om;have HQ:=hide (show df s.a s.b (cd c u)=G-s.a+1 by rw [ab.out];exact (show min s.b G-max s.a F+1=G-s.a+1 by omega));clear hq;go_wp2_with ((at_builtin;refine ef rfl _ _ rfl f.heap.size u10 (DL.take j) (G-s.a+1) (w2.heap.size+1) rfl ((I.out.alloc _).alloc _) rfl ac (by rw [List.length_take];omega) ae ?_));intro v' T ho E o;have R:=hide (show cw T f v' (DL.take (j+1)) by rw [HT.out,HQ.out];unfold cw;simpa using ho);have aq:=hide E;have S:=hide (show kl c lv u.yr g2 T from kl.own (U.out.call an) E H.out);have J:=hide (show v'.ownBlock≠some g2 by
              rcases o with e | e
              · rw [e];exact H.out
              · rw [e];intro e2;have:=Option.some.inj e2;omega)
            have O:=hide (show Below f f T from (show Below f f _ by have hx:=ah.out;exact bel).grown E ae (fun k hk=>(I.out.lt k hk).1));clear ho E o;go_wp2;go_roundw
            case rel=>exact ⟨j+1,by go_num,by omega,R.out,.inr ⟨g2,V,u.yr,rfl,rfl,S.out,J.out⟩,O.out⟩
            case measure=>simp [intOf];omega
          · have m1:¬ G<s.b:=om
            have m2:s.a<F:=om;have HQ:=hide (show df s.a s.b (cd c u)=s.b-F+1 by rw [ab.out];exact (show min s.b G-max s.a F+1=s.b-F+1 by omega));clear hq;go_wp2_with ((at_builtin;refine ef rfl _ _ rfl f.heap.size u10 (DL.take j) (s.b-F+1) (w2.heap.size+1) rfl ((I.out.alloc _).alloc _) rfl ac (by rw [List.length_take];omega) ae ?_));intro v' T ho E o;have R:=hide (show cw T f v' (DL.take (j+1)) by rw [HT.out,HQ.out];unfold cw;simpa using ho);have aq:=hide E;have S:=hide (show kl c lv u.yr g2 T from kl.own (U.out.call an) E H.out);have J:=hide (show v'.ownBlock≠some g2 by
              rcases o with e | e
              · rw [e];exact H.out
              · rw [e];intro e2;have:=Option.some.inj e2;omega)
            have O:=hide (show Below f f T from (show Below f f _ by have hx:=ah.out;exact bel).grown E ae (fun k hk=>(I.out.lt k hk).1));clear ho E o;go_wp2;go_roundw
            case rel=>exact ⟨j+1,by go_num,by omega,R.out,.inr ⟨g2,V,u.yr,rfl,rfl,S.out,J.out⟩,O.out⟩
            case measure=>simp [intOf];omega
          · have m1:¬ G<s.b:=om
            have m2:¬ s.a<F:=om;have HQ:=hide (show df s.a s.b (cd c u)=s.b-s.a+1 by rw [ab.out];exact (show min s.b G-max s.a F+1=s.b-s.a+1 by omega));clear hq;go_wp2_with ((at_builtin;refine ef rfl _ _ rfl f.heap.size u10 (DL.take j) (s.b-s.a+1) (w2.heap.size+1) rfl ((I.out.alloc _).alloc _) rfl ac (by rw [List.length_take];omega) ae ?_));intro v' T ho E o;have R:=hide (show cw T f v' (DL.take (j+1)) by rw [HT.out,HQ.out];unfold cw;simpa using ho);have aq:=hide E;have S:=hide (show kl c lv u.yr g2 T from kl.own (U.out.call an) E H.out);have J:=hide (show v'.ownBlock≠some g2 by
              rcases o with e | e
              · rw [e];exact H.out
              · rw [e];intro e2;have:=Option.some.inj e2;omega)
            have O:=hide (show Below f f T from (show Below f f _ by have hx:=ah.out;exact bel).grown E ae (fun k hk=>(I.out.lt k hk).1));clear ho E o;go_wp2;go_roundw
            case rel=>exact ⟨j+1,by go_num,by omega,R.out,.inr ⟨g2,V,u.yr,rfl,rfl,S.out,J.out⟩,O.out⟩
            case measure=>simp [intOf];omega
    · have HF := hide (show cw wr f u10 DL by
        have h:=HO.out
        rwa [List.take_of_length_le (by rw [bt.out];omega)] at h)
      have c3:=hide (HB.out.2.2.2.2);have cl:w.heap.size≤f.heap.size:=b5.out.2.2.2.2.size;go_wp2
      all_goals first
        | (exfalso;omega)
        | (go_ret2;exact ⟨⟨_,rfl,rZ HF.out cl⟩,c3.out⟩)
end
end Go.Proofs.YtjhhmeoibfdcmaaGreat
