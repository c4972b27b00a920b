/- The statement VaryTables: for every input the law answers true, and its arguments read behind the call as they read before. No condition. -/
import Derived.Test.YtjhhmeoibfdcmaaGreatWr37
import Derived.Test.YtjhhmeoibfdcmaaGreatWr42
import Derived.Test.YtjhhmeoibfdcmaaGreatWr47
import Derived.Test.YtjhhmeoibfdcmaaGreatWr48
import Derived.Test.YtjhhmeoibfdcmaaGreatWr52
set_option linter.unusedSimpArgs false
set_option linter.unusedVariables false
set_option maxRecDepth 100000
set_option maxHeartbeats 12800000
namespace Go.Proofs.YtjhhmeoibfdcmaaGreat
section
open Go.RowKit Qd
abbrev oC (w:World) (b:Nat) (v:Value) (D:List Rw):Prop:=w.ownsRow b 69 7 v D.length (D.flatMap lS)
theorem sC {w G:World} {b:Nat} {v:Value} {l:List Rw} (h:oC w b v l) (O:Below w w G):oC G b v l:=by
 refine ⟨h.1,?_⟩;rcases h.2 with H | ⟨F,f,E,R,I,o,J⟩
 ·exact .inl H
 ·exact .inr ⟨F,f,E,R,I,(O.block F (Array.getElem?_eq_some_iff.1 o).1).trans o,J⟩
theorem BP {w:World} {b E:Nat} {v:Value} {l:List Rw} (h:oC w b v l) (J:E≤b):oC w E v l:=by
 refine ⟨h.1,?_⟩;rcases h.2 with G | ⟨F,f,o,O,H,I⟩
 ·exact .inl G
 ·exact .inr ⟨F,f,o,O,Nat.le_trans J H,I⟩
theorem zx:∀ D:List Rw,(D.flatMap lS).length=D.length*7:=by
 intro D
 induction D with
 | nil=>rfl
 | cons x D f=>simp only [List.flatMap_cons,List.length_append,List.length_cons,f,lS,List.length_nil];omega
theorem IW {J:Array Oper} {H:List Oper} {o:Oper} {a:Act} {Q:Exit→Act→World→Prop} {w:World} (R:o.guard=none) (s x:Operand)
  (ho:o.op=.call { callee:=.builtin .append,args:=#[s,x],argTypes:=#[73,73] }) (E:Nat) (v:Value) (m:List Rw) (r:Rw) (B:Nat)
  (hs:a.eval s=v) (G:oC w E v m) (hx:a.eval x=.slice (some ⟨B,0,none⟩) 1 1) (I:ap w B (kC r) 69) (ad:m.length≤100000) (F:E≤w.heap.size)
  (h:∀ v' O,oC O E v' (m++[r])→Below E w O→wpList Tryz.prog J Q H (a.put o.dst v') O):wpList Tryz.prog J Q (o::H) a w:=by
 obtain ⟨i0,hi,S,T,U⟩:=info_parts Aa;have ab:=zx;refine wpList_append_own w R s x 73 ho E 69 i0 (.agg #[.int .i64 0,.int .i64 0,.int .i64 0,.int .i64 0,.int .i64 0,.int .i64 0,.bool false]) 7 56 Tryz.underlying73 hi S T U rfl ag v m.length (m.flatMap lS) hs G ⟨B,0,none⟩ 1 1 (lS r) hx rfl ?_ ?_ (by unfold maxLen;omega) om F ?_
 ·intro j y f
  match j,f with
  | 0,f=>simp [lS] at f;subst f;simpa [Addr.add] using I.cell 0
  | 1,f=>simp [lS] at f;subst f;simpa [Addr.add] using I.cell 1
  | 2,f=>simp [lS] at f;subst f;simpa [Addr.add] using I.cell 2
  | 3,f=>simp [lS] at f;subst f;simpa [Addr.add] using I.cell 3
  | 4,f=>simp [lS] at f;subst f;simpa [Addr.add] using I.cell 4
  | 5,f=>simp [lS] at f;subst f;simpa [Addr.add] using I.cell 5
  | 6,f=>simp [lS] at f;subst f;simpa [Addr.add] using I.cell 6
 ·intro y W
  simp [lS] at W;rcases W with rfl | rfl | rfl | rfl | rfl | rfl | rfl <;> rfl
 ·intro v' O V hg _
  exact h v' O (by unfold oC;rw [List.length_append,List.flatMap_append];simpa using V) ((Below.refl E w).grown hg F fun k hk=>(G.lt k hk).1)
def Gd (w:World) (v:Value) (D:List Rw):Prop:=∃ f cap,v=.slice f D.length cap∧∀ (i:Nat) (x:Rw),D[i]?=some x→∃ g,f=some ⟨g,0,none⟩∧g<w.heap.size∧w.cell? ⟨g,i*7,none⟩=some (.int .i64 x.u.lv)∧w.cell? ⟨g,i*7+1,none⟩=some (.int .i64 x.u.yr)∧w.cell? ⟨g,i*7+2,none⟩=some (.int .i64 x.u.ix)∧w.cell? ⟨g,i*7+3,none⟩=some (.int .i64 x.this)∧w.cell? ⟨g,i*7+4,none⟩=some (.int .i64 x.that)∧w.cell? ⟨g,i*7+5,none⟩=some (.int .i64 x.diff)∧w.cell? ⟨g,i*7+6,none⟩=some (.bool x.gone)
theorem Gd.call {w E:World} {v:Value} {D:List Rw} (h:Gd w v D) (f:Below w w E):Gd E v D:=by
 obtain ⟨F,cap,T,U⟩:=h;refine ⟨F,cap,T,fun i x V=>?_⟩;obtain ⟨g,e,o,G,H,I,J,O,R,S⟩:=U i x V;exact ⟨g,e,Nat.lt_of_lt_of_le o f.size,(f.cell (p:=⟨g,_,none⟩) o).trans G,(f.cell (p:=⟨g,_,none⟩) o).trans H,(f.cell (p:=⟨g,_,none⟩) o).trans I,(f.cell (p:=⟨g,_,none⟩) o).trans J,(f.cell (p:=⟨g,_,none⟩) o).trans O,(f.cell (p:=⟨g,_,none⟩) o).trans R,(f.cell (p:=⟨g,_,none⟩) o).trans S⟩
theorem ej.rws {w:World} {g:Nat} {D:List Rw} (h:ej w g D) (cap:Nat):Gd w (.slice (some ⟨g,0,none⟩) D.length cap) D:=
 ⟨_,_,rfl,fun i x f=>⟨g,rfl,h.lt,h.cell f⟩⟩
theorem Ad (w:World):Gd w (.slice none 0 0) []:=⟨none,0,rfl,fun i x f=>by simp at f⟩
theorem Ez {w:World} {b:Nat} {v:Value} {D:List Rw} (h:oC w b v D):Gd w v D:=by
 have E:=zx;rcases h.2 with ⟨f,F⟩ | ⟨g,cap,G,f,F,H,U,V,W,h7⟩
 ·have I:D=[]:=List.length_eq_zero_iff.1 F
  subst I;exact ⟨none,0,f,fun i x o=>by simp at o⟩
 ·refine ⟨_,_,f,fun i x o=>⟨g,rfl,(Array.getElem?_eq_some_iff.1 H).1,?_⟩⟩
  subst f;have hi:=(List.getElem?_eq_some_iff.1 o).1;have h8:=E D;obtain ⟨J,s1,s2,O,R,S,T⟩:=wX D i x o;refine ⟨?_,?_,?_,?_,?_,?_,?_⟩
  ·rw [h.cellAt _ om];simp [J]
  ·rw [h.cellAt _ om];simp [s1]
  ·rw [h.cellAt _ om];simp [s2]
  ·rw [h.cellAt _ om];simp [O]
  ·rw [h.cellAt _ om];simp [R]
  ·rw [h.cellAt _ om];simp [S]
  ·rw [h.cellAt _ om];simp [T]
@[go_sem high] theorem KT (a b c d e f h o E F G H:Int) (g I:Bool) (w:World):(binOp .neq 69 (.agg #[a,b,c,d,e,f,.bool g]) (.agg #[h,o,E,F,G,H,.bool I])).run Tryz.prog w=.ok (.bool (!JH a b c d e f g h o E F G H I)) w:=by
 rw [run_neq_struct,IC 9997];rfl
theorem wB (D:List Rw) (W v2:Value) (w:World) (U:Gd w W D) (V:Gd w v2 D) (hl:D.length≤100000) :
  Calls Tryz.prog 40 #[W,v2] w fun e w'=>e=.returned (.bool true)∧Below w w w':=by
 have H1:=hide U;have H2:=hide V;obtain ⟨ab,S,rfl,_⟩:=U;obtain ⟨ad,T,rfl,_⟩:=V;go_enter Tryz.func40,Tryz.ntmps40;go_wp2_with fail;go_loopw [13] (fun s wr=>∃ j:Nat,s=.int .i64 j∧j≤D.length∧Hid (Below w w wr)) (fun s _=>(100001-intOf s).toNat)
 case atStart=>exact ⟨0,rfl,Nat.zero_le _,hide (Below.refl _ _)⟩
 case round =>
  obtain ⟨j,rfl,hj,o⟩:=hrel;by_cases I:j<D.length
  ·obtain ⟨x,J⟩:∃ x,D[j]?=some x:=⟨_,List.getElem?_eq_getElem I⟩
   have E:=H1.out.call o.out;have F:=H2.out.call o.out;obtain ⟨O,G,e1,f⟩:=E;obtain ⟨g,e3,hg,c0,c1,c2,c3,c4,c5,c6⟩:=f j x J;obtain ⟨R,H,e2,h⟩:=F;obtain ⟨g',e4,ah,d0,d1,d2,d3,d4,d5,d6⟩:=h j x J;cases e1;cases e2;subst e3;subst e4;clear J f h;have al:(0:Int)≤(j:Int):=om;have aq:(j:Int)<(D.length:Int):=om;have ay:=qm x.u.lv x.u.yr x.u.ix x.this x.that x.diff x.gone;go_wp2_with fail;go_quiet (fail);go_wp2
   all_goals first
    | (exfalso;omega)
    | skip
   go_roundw
   case rel=>exact ⟨j+1,by go_num,by omega,hide (below_drewN o.out _)⟩
   case measure=>simp [intOf];omega
  ·go_wp2
   all_goals first
    | (exfalso;omega)
    | skip
   go_ret;exact ⟨rfl,o.out⟩
theorem Cm {c:ar} {lv y k:Int} {P:List Po} {A:List Ac} {Z:dD} {j:Nat} (h:j<aR c y lv):(jg c lv y k P A Z).take (j+1)=(jg c lv y k P A Z).take j++[mM c ⟨lv,y,(j:Int)+1⟩ k P A Z]:=by
 rw [List.take_add_one,vO h];rfl
theorem uh (c:ar) (lv y k:Int) (P:List Po) (A:List Ac) (v1 v2:Value) (w:World) (hn:c.name.size≤1000) (hP:cL w v1 P) (hA:eo w v2 A) (hl:P.length≤5000∧A.length≤16) (O:∀ p∈P,aX p.n) (J:∀ a∈A,aX a.n)
  (a3:∀ a∈A,bg c 5 ⟨a.a,a.b⟩=0→(be c 5 ⟨a.a,a.b⟩).length≤420) :
  Calls Tryz.prog 39 #[av c,lv,y,k,.agg #[v1,v2]] w fun e w'=>(∃ v,e=.returned (.tuple #[v,j0 c lv y k P A (ZA c A)])∧(j0 c lv y k P A (ZA c A)=0→oC w' w.heap.size v (jg c lv y k P A (ZA c A)))∧(¬ j0 c lv y k P A (ZA c A)=0→v=.slice none 0 0))∧Below w w w':=by
 have HP:=hide hP;have HA:=hide hA;have H0:=hide (mE c v1 v2 w);have al:=hide (fun (u:Un) (W:World) (h1:cL W v1 P) (h2:eo W v2 A)=>qJ c u k P A v1 v2 W hn h1 h2 hl O J a3);clear hl O J a3;obtain ⟨b4,b2,rfl,_⟩:=hP;obtain ⟨b5,b3,rfl,_⟩:=hA;generalize ZA c A=Z at *;simp only [av,aC] at al;simp only [av];go_enter Tryz.func39,Tryz.ntmps39;go_wp2_with fail;refine (tW c lv y _ hn).mono ?_;rintro e f ⟨rfl,aB⟩;have ah:=hide (H0.out.call aB);clear aB;have o:=ah.out.2.2.2;by_cases H:aI c lv y=0
 rotate_left
 ·have S:=hide (show j0 c lv y k P A Z=aI c lv y by rw [j0,if_neg H])
  have hE:(aI c lv y != 0)=true:=by simpa using H
  have HF:=hide H;obtain ⟨E,F⟩:∃ E,aI c lv y=E:=⟨_,rfl⟩;rw [F] at S hE HF ⊢;clear H F;go_wp2;go_ret2;exact ⟨⟨.slice none 0 0,by rw [S.out];rfl,fun h=>absurd (S.out.symm.trans h) HF.out,fun _=>rfl⟩,o⟩
 have HF:=hide H;rw [H,show ff c lv y=(aR c y lv:Int) by rw [ff,if_pos H]];have bc:=EW H;have S:=hide (show j0 c lv y k P A Z=i4 c k P A Z (yU lv y (aR c y lv)) by rw [j0,if_pos H]);obtain ⟨n,U⟩:∃ n,aR c y lv=n:=⟨_,rfl⟩;have ad:=hide U;rw [U] at bc S ⊢;clear H U;go_wp2_with fail;go_loopw [14,15] (fun b1 V wr=>∃ j:Nat,V=.int .i64 ((j:Int)+1)∧j≤n∧i4 c k P A Z ((yU lv y n).take j)=0∧Hid (oC wr f.heap.size b1 ((jg c lv y k P A Z).take j)∧Below f f wr)) (fun _ V _=>(n+5-intOf V).toNat)
 case atStart=>exact ⟨0,rfl,Nat.zero_le _,rfl,hide ⟨World.ownsRow_nil _ _ _ _,Below.refl _ _⟩⟩
 case round =>
  obtain ⟨j,rfl,hj,G,HQ⟩:=hrel;have HS:=hide (ah.out.call HQ.out.2);have bd:=HQ.out.2.size;by_cases a2:j<n
  ·obtain ⟨q0,q1,q2,q3,q4,q5,q6,q7,q8,q9,bw,bx,bX,b0⟩:=HS.out.1
   obtain ⟨⟨k0,k1⟩,_⟩:=fj HS.out.2.1;have bh:=HS.out.2.2.1;have bl:w.heap.size<wr.heap.size:=om;have bp:w.heap.size+1<wr.heap.size:=om;have b7:(0:Int)≤(j:Int):=om;have b8:(j:Int)<(n:Int):=om;have ay:=hide G;clear G;go_wp2_with fail
   all_goals first
    | (exfalso;omega)
    | skip
   have I:=HS.out.2.2.2;refine (al.out ⟨lv,y,(j:Int)+1⟩ _ (HP.out.call I) (HA.out.call I)).mono ?_;rintro e w4 ⟨rfl,aF⟩;have R:=hide aF;have ba:=hide (sC HQ.out.1 R.out);have aA:=hide (show Below w w w4 from I.trans (R.out.mono om));have ab:=hide (show Below f f w4 from HQ.out.2.trans (R.out.mono bd));clear aF I q0 q1 q2 q3 q4 q5 q6 q7 q8 q9 bw bx bX b0 k0 k1 bh bl bp o;have hx:=Lu (lv:=lv) (y:=y) a2;obtain ⟨x,a5⟩:∃ x:Rw,mM c ⟨lv,y,(j:Int)+1⟩ k P A Z=x:=⟨_,rfl⟩;have aq:=hide (Cm (c:=c) (lv:=lv) (y:=y) (k:=k) (P:=P) (A:=A) (Z:=Z) (j:=j) (by rw [ad.out];exact a2));rw [a5] at aq ⊢;clear a5;have a1:f.heap.size≤w4.heap.size:=ab.out.size;by_cases T:io c ⟨lv,y,(j:Int)+1⟩ k P A Z=0
   rotate_left
   ·have HE:=hide (show j0 c lv y k P A Z=io c ⟨lv,y,(j:Int)+1⟩ k P A Z by rw [S.out];exact vJ hx ay.out T)
    have hE:(io c ⟨lv,y,(j:Int)+1⟩ k P A Z != 0)=true:=by simpa using T
    have HT:=hide T;obtain ⟨E,F⟩:∃ E,io c ⟨lv,y,(j:Int)+1⟩ k P A Z=E:=⟨_,rfl⟩;rw [F] at HE hE HT ⊢;clear T F hx;have b6:=aA.out;have b9:=aA.out.size;go_wp2;go_ret2;exact ⟨⟨.slice none 0 0,by rw [HE.out];rfl,fun h=>absurd (HE.out.symm.trans h) HT.out,fun _=>rfl⟩,by (repeat' exact bel)⟩
   have bb:=hide (o7 hx ay.out T);rw [T];clear hx T;go_wp2_with ((at_builtin;refine IW rfl _ _ rfl f.heap.size _ ((jg c lv y k P A Z).take j) x (w4.heap.size+1) rfl (sC ba.out an) rfl ?hbk (by rw [List.length_take];omega) ae ?_))
   case hbk=>simpa using ap.new (w4.alloc (.cells (kC x) 69)) (kC x) 69
   intro v' w5 a4 a0;have a6:∀ W,Below w4 w4 W→Below f W w5→Below f f w5:=fun W h1 h2=>(ab.out.trans (h1.mono a1)).trans h2
   have HN:=hide (show oC w5 f.heap.size v' ((jg c lv y k P A Z).take (j+1))∧Below f f w5 from ⟨by rw [aq.out];exact a4,a6 _ an a0⟩);clear a4 a0 a6;go_wp2;go_roundw
   case rel=>exact ⟨j+1,by go_num,by omega,bb.out,HN⟩
   case measure=>simp [intOf];omega
  ·obtain rfl:j=n:=om
   have bt:=o.size;have a8:=hide (show oC wr w.heap.size _ (jg c lv y k P A Z) from by
    have h:=BP HQ.out.1 bt
    rwa [List.take_of_length_le (by rw [pH,ad.out];exact Nat.le_refl _)] at h)
   rw [List.take_of_length_le (by rw [KZ];exact Nat.le_refl _)] at G;have HE:=hide (S.out.trans G);have a7:=hide (HS.out.2.2.2);clear G;go_wp2
   all_goals first
    | (exfalso;omega)
    | skip
   go_ret2;exact ⟨⟨_,by rw [HE.out];rfl,fun _=>a8.out,fun h=>absurd HE.out h⟩,a7.out⟩
theorem DF (c:ar) (hn:c.name.size≤9223372036854775807) (lv y k:Int) (v1 v2:Value) (P:List Po) (A:List Ac) (w:World) (hP:cL w v1 P) (hA:eo w v2 A) (hp:∀ x∈P,Ge x) (ha:∀ x∈A,Al x) (bt:P.length≤9223372036854775807) (bw:A.length≤9223372036854775807) :
  Calls Tryz.prog 8 #[av c,lv,y,k,.agg #[v1,v2]] w fun e w'=>e=.returned (.bool true)∧Below w w w':=by
 have HP:=hide hP;have HA:=hide hA;have HW:=hide (And.intro (fun x h=>(hp x h).2) (fun x h=>(ha x h).2.2));have H0:=hide (mE c v1 v2 w);clear hp ha;obtain ⟨a3,aA,rfl,_⟩:=hP;obtain ⟨aF,J,rfl,_⟩:=hA;simp only [av];go_enter Tryz.func8,Tryz.ntmps8;go_wp2_with fail;refine (qw _).mono ?_;rintro e w1 ⟨rfl,a4⟩;have o:=hide (H0.out.call a4);clear a4;obtain ⟨q0,q1,q2,q3,q4,q5,q6,q7,q8,q9,V,ab,ah,al⟩:=o.out.1;obtain ⟨⟨k0,k1⟩,_⟩:=fj o.out.2.1;have O:=o.out.2.2.1;have f:=o.out.2.2.2;have U:w.heap.size<w1.heap.size:=om;go_wp2_with fail;refine (zn c P A _ _ _ (HP.out.call o.out.2.2.2) (HA.out.call o.out.2.2.2) hn bt bw).mono ?_;rintro e w2 ⟨rfl,a5⟩;have E:=hide (o.out.call a5);clear a5 q0 q1 q2 q3 q4 q5 q6 q7 q8 q9 V ab ah al k0 k1 O f U;cases hF:mu c P A
 ·have f:=E.out.2.2.2
  go_wp2;go_ret;exact ⟨rfl,f⟩
 obtain ⟨b5,b6,b7,a8⟩:=tX hF;have bc:=hide (ID c P A (.slice aF A.length J) hF HW.out.1 HW.out.2);have ba:c.name.size≤1000:=om;have bX:P.length≤5000∧A.length≤16:=om;have bd:=hide (show ∀ a∈A,bg c 5 ⟨a.a,a.b⟩=0→(be c 5 ⟨a.a,a.b⟩).length≤420 from fun a hx h=>tL h (a8 a hx));clear hF a8;have G:=hide (fun W (h1:cL W (.slice a3 P.length aA) P) (h2:eo W (.slice aF A.length J) A)=>FN c lv y k P A (ZA c A) _ _ W ba h1 h2 bc.out);have ay:=hide (fun W (h1:cL W (.slice a3 P.length aA) P) (h2:eo W (.slice aF A.length J) A)=>uh c lv y k P A _ _ W ba h1 h2 bX HW.out.1 HW.out.2 bd.out);have aq:=hide (pH c lv y k P A (ZA c A));have aB:=hide (fun (h:j0 c lv y k P A (ZA c A)=0)=>EW (show aI c lv y=0 by by_cases hf:aI c lv y=0;exact hf;rw [j0,if_neg hf] at h;exact h));obtain ⟨R,F⟩:∃ x,j0 c lv y k P A (ZA c A)=x:=⟨_,rfl⟩;obtain ⟨L,hL⟩:∃ x,jg c lv y k P A (ZA c A)=x:=⟨_,rfl⟩;obtain ⟨n,bb⟩:∃ x,aR c y lv=x:=⟨_,rfl⟩;rw [F] at G aB ay;rw [hL] at G ay aq;rw [bb] at G aB aq;simp only [av] at G ay;clear F hL bb;obtain ⟨q0,q1,q2,q3,q4,q5,q6,q7,q8,q9,V,ab,ah,al⟩:=E.out.1;obtain ⟨⟨k0,k1⟩,_⟩:=fj E.out.2.1;have O:=E.out.2.2.1;have f:=E.out.2.2.2;have U:w.heap.size<w2.heap.size:=om;go_wp2_with fail;refine (G.out _ (HP.out.call f) (HA.out.call f)).mono ?_;rintro e w5 ⟨⟨vl,rfl,S,T⟩,a6⟩;have H:=hide (E.out.call a6);obtain ⟨L',I⟩:∃ L',Hid (L'.length≤100000∧Gd w5 vl L'∧(R=0→L'=L)∧(¬ R=0→L'=[])):=by
  by_cases F:R=0
  ·obtain ⟨g,h1,h2,_⟩:=S F
   subst h1;have h3:=h2.rws n;rw [aq.out] at h3;exact ⟨L,hide ⟨by rw [aq.out];have:=aB.out F;omega,h3,fun _=>rfl,fun h=>absurd F h⟩⟩
  ·exact ⟨[],hide ⟨by simp,by rw [T F];exact Ad _,fun h=>absurd h F,fun _=>rfl⟩⟩
 have a1:∃ ad n cap,vl=.slice ad n cap:=by
  obtain ⟨ad,cap,h,_⟩:=I.out.2.1;exact ⟨_,_,_,h⟩
 obtain ⟨b2,n5,b0,rfl⟩:=a1;clear S T a6 q0 q1 q2 q3 q4 q5 q6 q7 q8 q9 V ab ah al k0 k1 O f U;obtain ⟨q0,q1,q2,q3,q4,q5,q6,q7,q8,q9,V,ab,ah,al⟩:=H.out.1;obtain ⟨⟨k0,k1⟩,_⟩:=fj H.out.2.1;have O:=H.out.2.2.1;have f:=H.out.2.2.2;have U:w.heap.size<w5.heap.size:=om;go_wp2_with fail;refine (ay.out _ (HP.out.call f) (HA.out.call f)).mono ?_;rintro e w6 ⟨⟨vk,rfl,S,T⟩,a0⟩;have bh:=hide (H.out.call a0);have a2:=hide (show Gd w6 vk L' from by
  by_cases F:R=0
  ·rw [I.out.2.2.1 F];exact Ez (S F)
  ·rw [I.out.2.2.2 F,T F];exact Ad _)
 have bl:=hide (I.out.2.1.call a0);have a1:∃ ad n cap,vk=.slice ad n cap:=by
  obtain ⟨ad,cap,h,_⟩:=a2.out;exact ⟨_,_,_,h⟩
 obtain ⟨b3,n6,b1,rfl⟩:=a1;clear S T a0 q0 q1 q2 q3 q4 q5 q6 q7 q8 q9 V ab ah al k0 k1 O f U;have f:=bh.out.2.2.2;have bx:=f.size;have b4:(R==R)=true:=ac;go_wp2_with fail;refine (wB L' _ _ _ bl.out a2.out I.out.1).mono ?_;rintro e w7 ⟨rfl,a7⟩;have bp:Below w w w7:=f.trans (a7.mono bx);clear a7;go_wp2;go_ret;exact ⟨by first | rfl | exact aY ac,bp⟩
end
end Go.Proofs.YtjhhmeoibfdcmaaGreat
namespace Go.Proofs.YtjhhmeoibfdcmaaGreat.varyTables
section
open Go.ChangeShapes Go.WideShapes Go.ChangeAt Go.RowKit Qd
theorem K8:Tryz.prog.readableRec 24=true∧24<Tryz.prog.types.size:=⟨by kernel_rfl,of_decide_eq_true (by kernel_rfl)⟩
theorem La:Tryz.prog.readableRec 3=true∧3<Tryz.prog.types.size:=⟨by kernel_rfl,of_decide_eq_true (by kernel_rfl)⟩
theorem KW:Tryz.prog.readableRec 30=true∧30<Tryz.prog.types.size:=⟨by kernel_rfl,of_decide_eq_true (by kernel_rfl)⟩
theorem lifted (os:Os) (E:os.Started) (H:Type) (enc:TypeId × Value→H) :
  ReturnsInHanded {} Tryz.checked os 8 .any (Rows.varyTablesSpec.pre6 enc Tryz.prog Tryz.f8 Rows.varyTablesRow.domain false) (Rows.varyTablesSpec.post enc Tryz.prog Tryz.f8 false true false false):=by
 refine returnsInHanded_of_change (C:=Tryz.checked) own E (by kernel_rfl) Tryz.func8
  (ChangeSpec.witness6 (enc:=enc) (C:=Tryz.checked) false ⟨#[],#[.agg #[.string ⟨#[]⟩,.int .i64 0,.int .i64 0,.int .i64 0,.int .i64 0,.int .i64 0,.int .i64 0,.int .i64 0,.int .i64 0,.int .i64 0,.int .i64 0,.int .i64 0,.int .i64 0,.int .i64 0],.int .i64 0,.int .i64 0,.int .i64 0,.agg #[.slice none 0 0,.slice none 0 0]],[]⟩ 8 (by kernel_rfl) (by kernel_rfl) (by kernel_rfl) (by kernel_rfl)) ?_
 intro W F h ds gs T o hW aB _;have f:∀ (j:Nat) t v,Tryz.f8.params[j]?=some t→h[j]?=some v→Value.okWide Tryz.prog W .any F t v:=o;have J:=hW;obtain ⟨p,q,I,hV,rfl,a7,a8⟩:=hW;have G:DataW.TrodAll enc Tryz.prog W 0 (fun _=>true) true Tryz.f8.params.toList h.toList ds p:=I;have ab:=G;rw [Tryz.params8] at G f;obtain ⟨v0,bp,d0,aF,p0,q0,ad,rfl,ba,h0,r0⟩:=trodAll_cons G;obtain ⟨v1,bt,d1,a0,p1,q1,rfl,rfl,bb,h1,r1⟩:=trodAll_cons r0;obtain ⟨v2,bw,d2,a4,p2,q2,rfl,rfl,bc,h2,r2⟩:=trodAll_cons r1;obtain ⟨v3,bx,d3,a5,p3,q3,rfl,rfl,bd,h3,r3⟩:=trodAll_cons r2;obtain ⟨v4,bX,d4,a6,p4,q4,rfl,rfl,bh,h4,r4⟩:=trodAll_cons r3;obtain ⟨rfl,rfl,bl⟩:=trodAll_nil r4;obtain rfl:h=#[v0,v1,v2,v3,v4]:=by cases h;simp_all
 obtain ⟨rfl,rfl⟩:=trodVars_none hV;obtain ⟨c0,rfl,ay,aA⟩:=vh (f 0 24 v0 rfl rfl) h0;obtain ⟨a1,rfl,_,_,w1⟩:=open_int Tryz.underlying3 (f 1 3 v1 rfl rfl) h1;obtain ⟨a2,rfl,_,_,w2⟩:=open_int Tryz.underlying3 (f 2 3 v2 rfl rfl) h2;obtain ⟨a3,rfl,_,_,w3⟩:=open_int Tryz.underlying3 (f 3 3 v3 rfl rfl) h3;obtain ⟨x4,y4,P4,A4,rfl,V,U,R,O,ah,aq⟩:=rT (f 4 30 v4 rfl rfl) h4;clear I o;refine ((fun c hn _ lv _ y _ k _ x y2 P A hP G hp ha hl hm _=>DF c hn lv y k x y2 P A _ hP G hp ha hl hm) c0 ay aA a1 w1 a2 w2 a3 w3 x4 y4 P4 A4 V U R O ah aq W).mono fun e W' ⟨he,hb⟩=>?_
 subst he;have al:∀ x∈p++[],x.block<W.heap.size:=fun x S=>J.lt x S
 refine ⟨_,rfl,lU (pa:=p) (pv:=[]) J (fun _ _ _=>(trodAll_cons_mk (shut_bool Tryz.underlying4 _) trodAll_mk0)) (fun sp hs=>?_) (fun _ _=>rfl) rfl hb (ok_one (by kernel_rfl) rfl (okWide_bool_mk Tryz.underlying4 _))⟩;exact jp zo (by rw [Tryz.params8];intro t ht;simp only [List.mem_cons,List.not_mem_nil,or_false] at ht;rcases ht with rfl | rfl | rfl | rfl | rfl <;> first | exact K8 | exact La | exact KW) ab (fun x S=>hb.same (al x (List.mem_append_left _ S))) (fun x S=>hs x (List.mem_append_left _ S))
theorem I4:Rows.varyTablesRow.holds Tryz.pinned (OpenSpec.ofChange Rows.varyTablesSpec):=
 OpenClaim.holds_of_wide 8 Tryz.f8 rfl rfl rfl rfl rfl rfl rfl ⟨rfl,rfl,rfl,rfl,rfl⟩ rfl rfl rfl rfl rfl (by kernel_rfl) Tryz.func8 yp
  (of_decide_eq_true (by kernel_rfl)) (by unfold Func.isWrapper;rw [if_neg (of_decide_eq_false (by kernel_rfl))];exact ⟨rfl,rfl⟩)
  (fun os f H enc _=>lifted os f H enc)
theorem proved:Rows.VaryTablesSaid:=
 I4
#print axioms proved
end
end Go.Proofs.YtjhhmeoibfdcmaaGreat.varyTables
