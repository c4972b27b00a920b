/- Lemmas. -/
import Derived.RangeFuncNested
import Derived.Test.YtjhhmeoibfdcmaaGreatWr09
import Derived.Test.YtjhhmeoibfdcmaaGreatWr15
set_option linter.unusedSimpArgs false
set_option linter.unusedVariables false
set_option maxRecDepth 100000
set_option maxHeartbeats 12800000
namespace Go.Proofs.YtjhhmeoibfdcmaaGreat
section
open Go.RowKit Go.Shelf Qd
attribute [local go_sem] Oper.semAt_some
def yU (lv y:Int) (i:Nat):List Un:=bm (fun j:Nat=>(⟨lv,y,(j:Int)+1⟩:Un)) i
def br (c:ar) (lv from_:Int):Nat→List Un
 | 0=>[]
 | a+1=>br c lv from_ a++yU lv (from_+a) (aR c (from_+a) lv)
theorem pz (c:ar) (lv f:Int) (a m:Nat):(br c lv f a).length≤(br c lv f (a+m)).length:=by
 induction m with
 | zero=>exact Nat.le_refl _
 | succ m h=>rw [← Nat.add_assoc,br,List.length_append];omega
theorem gV (lv y:Int) (i:Nat):(yU lv y i).length=i:=by simp [yU,bk]
theorem sS (c:ar) (lv f:Int) (a h i:Nat) (E:a<h) (hi:i<aR c (f+a) lv):(br c lv f a++yU lv (f+a) i).length<(br c lv f h).length:=by
 have o:=pz c lv f (a+1) (h-(a+1));rw [show a+1+(h-(a+1))=h by omega,br,List.length_append,gV] at o;rw [List.length_append,gV];omega
def Jn (u:Un):Array Value:=#[aC u,.int .i64 0]
theorem Ef (lv y:Int) (i n:Nat) (h:i<n):yU lv y (i+1)=yU lv y i++[⟨lv,y,(i:Int)+1⟩]:=bB _ _
def ev (o E:TypeId) (W f:World):Prop:=W.heap.size≤f.heap.size∧∀ (B:Nat) (h:Array Value) (t:TypeId) (z:Nat × Nat),t≠o→t≠E→W.heap[B]?=some (.cells h t z)→f.heap[B]?=some (.cells h t z)
theorem ev.refl (f o:TypeId) (W:World):ev f o W W:=⟨Nat.le_refl _,fun _ _ _ _ _ _ h=>h⟩
theorem ev.trans {f o:TypeId} {A B C:World} (h:ev f o A B) (k:ev f o B C):ev f o A C:=⟨Nat.le_trans h.1 k.1,fun i E t z F G hi=>k.2 i E t z F G (h.2 i E t z F G hi)⟩
theorem ev.alloc {f h:TypeId} (W:World) (o:Obj):ev f h W (W.alloc o):=⟨by simp,fun i E t z _ _ hi=>(Below.heap_alloc W o i (Array.getElem?_eq_some_iff.1 hi).1).trans hi⟩
theorem ev.turn {G H:TypeId} {W E:World} {f:Option Nat} (F:W.grownBy E f) (I:∀ r,f=some r→∀ o t z,W.heap[r]?=some (.cells o t z)→t=G∨t=H):ev G H W E:=
 ⟨F.size,fun i o t z J O hi=>(F.block i (Array.getElem?_eq_some_iff.1 hi).1 (fun e=>by rcases I i e.symm o t z hi with h | h <;> contradiction)).trans hi⟩
theorem rc {G H:TypeId} (W:World) (l:Nat) (o E:Obj) (h:W.heap[l]?=some o) (F:o.isCells=false):ev G H W (W.putObj l E):=
 .turn (grownBy_putObj' W l E) (fun r e I t z f=>by cases e;rw [h] at f;cases f;cases F)
theorem ap.ty {w F:World} {o E:TypeId} {B:Nat} {f:Array Value} {t:TypeId} (h:ap w B f t) (I:ev o E w F) (G:t≠o) (H:t≠E):ap F B f t:=I.2 B f t (0,0) G H h
theorem yM (c:ar) (lv f t:Int) (G:Nat) (hn:c.name.size≤1000) (bc:f+(G:Int)=t+1) (bb:-10000≤f∧t≤20000) (hE:∀ a:Nat,a<G→aI c lv (f+a)=0)
  (Bf U Bc R:Nat) (w:World)
  (g0:ap w Bc (bY c) 24) (g1:ap w Bf #[f] 3) (g2:ap w U #[t] 3) (g3:ap w R #[lv] 3) :
  SeqStopsK Fence.wide 4 Tryz.prog 211 #[.pointer (some ⟨Bf,0,none⟩),.pointer (some ⟨U,0,none⟩),.pointer (some ⟨Bc,0,none⟩),.pointer (some ⟨R,0,none⟩)] Jn (ev 26 115)
   (fun xs=>xs=br c lv f G) (fun _=>True) (br c lv f G).length w:=fun l J Jx W hW hJ a8 hY h0=>by
 have G0:=hide (g0.call hW);have G1:=hide (g1.call hW);have G2:=hide (g2.call hW);have G3:=hide (g3.call hW);have HE:=hide hE;have aF:=hide (fun (a:Nat) (ha:a<G)=>dv c (f+a) (a9 (hE a ha)).2.2.2.2.2.2 lv);have HY:=hide hY;have r1:W.cell? ⟨Bf,0,none⟩=some (.int .i64 f):=(G1.out).cell 0;clear hE hY;refine callsIn_of_wp Tryz.func211 rfl trivial ?_ rfl;simp only [Tryz.ntmps211,List.size_toArray,List.length_cons,List.length_nil,Nat.reduceAdd,Nat.reduceSub,Array.replicate_succ,Array.replicate_zero,List.push_toArray,List.append_toArray,List.nil_append,List.cons_append]
 gi_wp2_with fail
 gi_loopw [6] (fun s wr=>∃ a:Nat,a≤G∧s=.int .i64 (f+a)∧Hid (J (br c lv f a) wr)∧ap wr Bc (bY c) 24∧ap wr U #[t] 3∧ap wr R #[lv] 3)
  (fun s _=>(t+1-intOf s).toNat)
 case atStart=>exact ⟨0,Nat.zero_le _,by simp,hide h0,G0.out,G2.out,G3.out⟩
 case round =>
  obtain ⟨a,ha,rfl,ab,S,T,O⟩:=hrel;have x2:wr.cell? ⟨U,0,none⟩=some (.int .i64 t):=T.cell 0;by_cases F:a<G
  ·have x3:wr.cell? ⟨R,0,none⟩=some (.int .i64 lv):=O.cell 0
   obtain ⟨q0,q1,q2,q3,q4,q5,q6,q7,q8,q9,bd,bh,bl,bp⟩:=S.cal;have B0:=hide S;have B2:=hide T;have B3:=hide O;clear S T O
   gi_wp2_with fail
   refine ⟨trivial,(callsIn_wide.2 (rB c lv _ _ hn)).mono ?_⟩;rintro e w1 ⟨rfl,o⟩;have ay:=hide (B0.out.call o);have aA:=hide (B2.out.call o);have aB:=hide (B3.out.call o);have a0:=hide (hJ _ _ _ none ab.out (lT o none) (by intro r e;cases e));clear o;have ah:ff c lv (f+a)=(aR c (f+a) lv:Int):=by simp [ff,HE.out a F]
   rw [ah,HE.out a F];have ba:=aF.out a F;generalize hk:aR c (f+a) lv=n at *;have HK:=hide hk;clear ah hk
   gi_wp2_with fail
   gi_loopw [30] (fun s wr=>∃ i:Nat,i≤n∧s=.int .i64 (i:Int)∧Hid (J (br c lv f a++yU lv (f+a) i) wr)∧ap wr Bc (bY c) 24∧ap wr U #[t] 3∧ap wr R #[lv] 3)
    (fun s _=>(n-intOf s).toNat)
   case atStart=>exact ⟨0,Nat.zero_le _,rfl,by simpa [yU,bm] using a0,ay.out,aA.out,aB.out⟩
   case round =>
    obtain ⟨i,hi,rfl,V,S,T,O⟩:=hrel;have x3:wr.cell? ⟨R,0,none⟩=some (.int .i64 lv):=O.cell 0;by_cases al:i<n
    ·obtain ⟨fn,a7,aq,a6,hy,hR⟩:=HY.out _ ⟨lv,f+a,(i:Int)+1⟩ wr V.out (sS c lv f a G i F (by rw [HK.out];exact al))
     simp only [Jn,aC] at hy
     gi_wp2
     refine hR.mono ?_;rintro e W3 (⟨rfl,ad,E⟩ | ⟨rfl,H⟩)
     ·have I:=hide ad
      have a1:=S.ty E ag ag;have a2:=T.ty E ag ag;have a3:=O.ty E ag ag;clear ad E
      gi_wp2
      go_roundw
      case rel=>exact ⟨i+1,by omega,by go_num,hide (by rw [Ef _ _ _ _ al,← List.append_assoc];exact I.out),a1,a2,a3⟩
      case measure=>simp [intOf];omega
     ·have I:=hide H
      clear H
      gi_wp2
      refine bodyPost_ret (results_none rfl _ _ _) rfl ?_;exact ⟨⟨_,rfl⟩,.inr ⟨_,trivial,I.out⟩⟩
    ·have a5:i=n:=om
     subst a5
     gi_wp2
     go_roundw
     case rel=>exact ⟨a+1,by omega,by simp;omega,hide (by have h:=V.out;rw [← HK.out] at h;exact h),S,T,O⟩
     case measure=>simp [intOf];omega
  ·have a4:a=G:=om
   subst a4
   gi_wp2
   go_end0;exact ⟨⟨_,rfl⟩,.inl ⟨_,rfl,ab.out⟩⟩
attribute [local go_sem] Oper.semAt_some
theorem ES (m:Nat) (c:ar) (lv f t:Int) (w:World) :
  CallsIn Fence.wide m Tryz.prog 157 #[av c,lv,f,t] w fun e h =>
   e=.returned (.func (.func 211) #[] #[.pointer (some ⟨w+2,0,none⟩),.pointer (some ⟨w+3,0,none⟩),.pointer (some ⟨w,0,none⟩),.pointer (some ⟨w+1,0,none⟩)]) ∧
   h=(((w.alloc (.cells (bY c) 24)).alloc (.cells #[lv] 3)).alloc (.cells #[f] 3)).alloc (.cells #[t] 3):=by
 refine callsIn_wide.2 ?_;simp only [av];go_enter Tryz.func157,Tryz.ntmps157;go_wp2;go_ret;exact ⟨rfl,rfl⟩
def eG (l:List Un):List Value:=l.flatMap fun u=>[.int .i64 u.lv,.int .i64 u.yr,.int .i64 u.ix]
theorem gl (l:List Un) (u:Un):eG (l++[u])=eG l++[.int .i64 u.lv,.int .i64 u.yr,.int .i64 u.ix]:=by simp [eG]
def de (w:World) (g cap:Nat) (l:List Un):Prop:=w.ownsRow 0 26 3 (.slice (some ⟨g,0,none⟩) l.length cap) l.length (eG l)
theorem FF {W H:World} {n₀ B:Nat} {I:Nat} {v v':Value} {k:Nat} {xs:List Value} {f:Obj}
  (S:Boxed W B 115 v) (F:W.ownsRow n₀ 26 I v k xs)
  (h:(W.alloc f).grownBy H v.ownBlock) :
  ev 26 115 W (H.setCell ⟨B,0,none⟩ v') ∧
  ∀ (X:Nat) (o:Array Value) (t:TypeId),X≠B→t≠26→ap W X o t→ap (H.setCell ⟨B,0,none⟩ v') X o t:=by
 have R:Boxed H B 115 v:=(S.alloc f).kept h (S.not_row ag F);have E:∀ r,v.ownBlock=some r→∀ o t z,(W.alloc f).heap[r]?=some (.cells o t z)→t=26:=by
  intro r e o t z G;rcases (F.alloc f).2 with ⟨rfl,_⟩ | ⟨g,cap,T,rfl,_,O,_⟩
  ·simp [Value.ownBlock] at e
  ·obtain rfl:g=r:=by simpa [Value.ownBlock] using e
   rw [O] at G;cases G;rfl
 refine ⟨((ev.alloc W f).trans (.turn h (fun r e o t z G=>.inl (E r e o t z G)))).trans (.turn (grownBy_setCell' H B v') (fun r e o t z G=>?_)),?_⟩
 ·cases e
  rw [show H.heap[B]?=_ from R] at G;cases G;exact .inr rfl
 ·intro X o t V ht J
  have U:ap H X o t:=by
   refine (h.block X (J.alloc f).lt (fun e=>ht ?_)).trans (J.alloc f);exact E X e.symm o t (0,0) (J.alloc f)
  exact U.far V _
theorem lJ {β:Type} (B:Nat) (h:Array Value) (t:TypeId):Own (fun (_:β) W=>ap W B h t):=fun _ _ _ _ E o f=>dV E o f
theorem ui (c:ar) (lv f:Int) (o:Nat) (E:∀ a:Nat,a<o→aI c lv (f+a)=0):(br c lv f o).length≤60*o∧o≤(br c lv f o).length:=by
 induction o with
 | zero=>simp [br]
 | succ n F =>
  have h:=F (fun a G=>E a om);have H:=dv c (f+n) (a9 (E n om)).2.2.2.2.2.2 lv;rw [br,List.length_append,gV];omega
def L5 (lo:Nat) (T:Un→Nat→Act) (x:Un) (h:Act) (W:World):Prop:=∃ f,lo<f∧ap W f #[x.lv,x.yr,x.ix] 26∧h=T x f
theorem Hi (lo:Nat) (T:Un→Nat→Act) (x:Un) (h:Act) (B:Nat):OwnFrom B (fun (_:Unit) W=>L5 lo T x h W):=fun _ X Y J I G H=>by
 obtain ⟨f,o,E,F⟩:=I;exact ⟨f,o,dV E G (fun r e=>(H r e).2),F⟩
theorem iO (W:World) (a b d:Value) (t:TypeId):∀ (j:Nat) (u:Value),[a,b,d][j]?=some u→(W.alloc (.cells #[a,b,d] t)).cell? ((⟨W,0,none⟩:Addr).add j)=some u:=by
 intro j u h
 match j,h with
 | 0,h=>simpa [World.cell?_alloc_at,Addr.add] using h
 | 1,h=>simpa [World.cell?_alloc_at,Addr.add] using h
 | 2,h=>simpa [World.cell?_alloc_at,Addr.add] using h
theorem tg {W:World} {X I h k:Nat} {F:Array Value} {t:TypeId} {v:Value} {J:List Value} (f:W.ownsRow I 26 h v k J) (o:ap W X F t) (H:t≠26:=by decide):v.ownBlock≠some X:=by
 rcases f.2 with ⟨rfl,_⟩ | ⟨g,cap,G,rfl,_,E,_⟩
 ·simp [Value.ownBlock]
 ·intro e
  obtain rfl:g=X:=by simpa [Value.ownBlock] using e
  unfold ap at o;rw [E] at o;cases o;exact H rfl
theorem _root_.Go.World.ownsRow.base {w:World} {b E f n:Nat} {e:TypeId} {v:Value} {G:List Value} (h:w.ownsRow b e f v n G) (J:E≤b):w.ownsRow E e f v n G:=by
 refine ⟨h.1,?_⟩;rcases h.2 with F | ⟨g,cap,o,H,F,I⟩
 ·exact .inl F
 ·exact .inr ⟨g,cap,o,H,by omega,I⟩
theorem fG:(Tryz.prog.info? 26).map (fun i=>(i.zero,i.size,i.bytes))=some (some (.agg #[.int .i64 0,.int .i64 0,.int .i64 0]),3,24):=by kernel_rfl
end
section
open Go.RowKit Qd
def nY (c:ar) (l:List Un):Prop:=∀ (j:Nat) (u v:Un),l[j]?=some u→l[j+1]?=some v→CO c u=0∧wW c u=v
theorem Ar {c:ar} {f F:List Un} (G:nY c f) (H:nY c F) (h:∀ u v,f[f.length-1]?=some u→F[0]?=some v→CO c u=0∧wW c u=v):nY c (f++F):=by
 intro j u v E o;by_cases J:j+1<f.length
 ·rw [List.getElem?_append_left om] at E
  rw [List.getElem?_append_left om] at o;exact G j u v E o
 ·by_cases I:j+1=f.length
  ·rw [List.getElem?_append_left om] at E
   rw [List.getElem?_append_right om] at o;refine h u v ?_ ?_
   ·rw [show f.length-1=j by omega];exact E
   ·rw [show j+1-f.length=0 by omega] at o;exact o
  ·rw [List.getElem?_append_right om] at E
   rw [List.getElem?_append_right om] at o;rw [show j+1-f.length=(j-f.length)+1 by omega] at o;exact H _ u v E o
theorem tj (lv y:Int) (n j:Nat) (o:j<n):(yU lv y n)[j]?=some ⟨lv,y,(j:Int)+1⟩:=by
 induction n with
 | zero=>omega
 | succ n f =>
  rw [Ef lv y n (n+1) om];by_cases h:j<n
  ·rw [List.getElem?_append_left (by rw [gV];exact h)]
   exact f h
  ·obtain rfl:j=n:=om
   rw [List.getElem?_append_right (by rw [gV];omega),gV];simp
theorem oM {lv y:Int} {n j:Nat} {u:Un} (h:(yU lv y n)[j]?=some u):j<n∧u=⟨lv,y,(j:Int)+1⟩:=by
 have f:j<n:=by
  have:=(List.getElem?_eq_some_iff.1 h).1
  rwa [gV] at this
 rw [tj lv y n j f] at h;exact ⟨f,(Option.some.inj h).symm⟩
theorem lu {c:ar} {lv y:Int} {j:Nat} (h:aI c lv y=0) (o:j<aR c y lv):aE c ⟨lv,y,(j:Int)+1⟩=0:=by
 have f:(1:Int)≤(j:Int)+1∧(j:Int)+1≤(aR c y lv:Int):=om;simp only [aE];rw [if_pos h,if_pos f]
theorem vR {c:ar} {lv y:Int} (f:aI c lv y=0):nY c (yU lv y (aR c y lv)):=by
 intro j u v H I;obtain ⟨F,rfl⟩:=oM H;obtain ⟨G,rfl⟩:=oM I;have h:=lu f F;have o:=lu f G;have E:qx ⟨lv,y,(j:Int)+1⟩=⟨lv,y,((j+1:Nat):Int)+1⟩:=by simp [qx]
 simp only [CO,wW,h,E,o,if_true,and_self]
theorem Hs {c:ar} {lv y:Int} (h:aI c lv y=0) (f:aI c lv (y+1)=0) (n:Nat) (O:n+1=aR c y lv) (H:0<aR c (y+1) lv) :
  CO c ⟨lv,y,(n:Int)+1⟩=0∧wW c ⟨lv,y,(n:Int)+1⟩=⟨lv,y+1,((0:Nat):Int)+1⟩:=by
 have o:=lu h (show n<aR c y lv by omega);have E:=lu f H;have F:wF ⟨lv,y,(n:Int)+1⟩=⟨lv,y+1,((0:Nat):Int)+1⟩:=by simp [wF]
 have G:¬ aE c (qx ⟨lv,y,(n:Int)+1⟩)=0:=by
  have I:¬ ((1:Int)≤(n:Int)+1+1∧(n:Int)+1+1≤(aR c y lv:Int)):=om;have J:aE c (qx ⟨lv,y,(n:Int)+1⟩)=13:=by
   show (if aI c lv y=0 then (if 1≤(n:Int)+1+1∧(n:Int)+1+1≤(aR c y lv:Int) then (0:Int) else 13) else aI c lv y)=13;rw [if_pos h,if_neg I]
  omega
 simp only [CO,wW,o,F,E,if_true,if_neg G,and_self]
theorem Ah (c:ar) (lv f:Int) (F:Nat) (h0:0<F) (H:∀ a:Nat,a<F→aI c lv (f+a)=0) :
  nY c (br c lv f F)∧(br c lv f F)[0]?=some ⟨lv,f,1⟩∧(br c lv f F)[(br c lv f F).length-1]?=some ⟨lv,f+(F:Int)-1,(aR c (f+(F:Int)-1) lv:Int)⟩:=by
 induction F with
 | zero=>omega
 | succ n ih =>
  have E:=H n om;have T:=dv c (f+n) (a9 E).2.2.2.2.2.2 lv;have V:(br c lv f (n+1)).length=(br c lv f n).length+aR c (f+n) lv:=by rw [br,List.length_append,gV]
  have o:(br c lv f (n+1))[(br c lv f (n+1)).length-1]?=some ⟨lv,f+((n+1:Nat):Int)-1,(aR c (f+((n+1:Nat):Int)-1) lv:Int)⟩:=by
   rw [V,br,List.getElem?_append_right om,tj _ _ _ _ om];rw [show f+((n+1:Nat):Int)-1=f+n by omega];congr 2;omega
  by_cases W:n=0
  ·subst W
   refine ⟨?_,?_,o⟩
   ·have h:=vR E
    simpa [br] using h
   ·rw [br,List.getElem?_append_right (by simp [br]),tj _ _ _ _ (by simp only [br,List.length_nil] at T ⊢;omega)]
    simp [br]
  ·obtain ⟨i1,O,i3⟩:=ih om (fun a ha=>H a om)
   refine ⟨?_,?_,o⟩
   ·rw [br]
    refine Ar i1 (vR E) ?_;intro u v J hv;rw [i3] at J;cases J;obtain ⟨S,rfl⟩:=oM hv;have G:=H (n-1) om;have R:f+((n-1:Nat):Int)=f+(n:Int)-1:=om;rw [R] at G;have U:=dv c (f+(n:Int)-1) (a9 G).2.2.2.2.2.2 lv;have I:=Hs (y:=f+(n:Int)-1) G (by rw [show f+(n:Int)-1+1=f+n by omega];exact E) (aR c (f+(n:Int)-1) lv-1) om (by rw [show f+(n:Int)-1+1=f+n by omega];exact S);rw [show f+(n:Int)-1+1=f+n by omega,show (((aR c (f+(n:Int)-1) lv-1:Nat):Int))+1=(aR c (f+(n:Int)-1) lv:Int) by omega] at I;exact I
   ·rw [br,List.getElem?_append_left ?_]
    ·exact O
    ·exact (List.getElem?_eq_some_iff.1 O).1
theorem Ai (l:List Un) (i:Nat) (u:Un) (h:l[i]?=some u):(eG l)[i*3]?=some (.int .i64 u.lv)∧(eG l)[i*3+1]?=some (.int .i64 u.yr)∧(eG l)[i*3+2]?=some (.int .i64 u.ix):=by
 induction l generalizing i with
 | nil=>simp at h
 | cons a l o =>
  cases i with
  | zero=>simp at h;subst h;simp [eG]
  | succ i =>
   have f:=o i (by simpa using h);have e:eG (a::l)=.int .i64 a.lv :: .int .i64 a.yr :: .int .i64 a.ix::eG l:=rfl;rw [e,show (i+1)*3=i*3+1+1+1 by omega];simp only [List.getElem?_cons_succ,show i*3+1+1+1+1=(i*3+1)+1+1+1 by omega,show i*3+1+1+1+2=(i*3+2)+1+1+1 by omega];exact f
theorem de.cell {w:World} {g cap:Nat} {l:List Un} (h:de w g cap l) {i:Nat} {u:Un} (hi:l[i]?=some u) :
  w.cell? ⟨g,i*3,none⟩=some (.int .i64 u.lv)∧w.cell? ⟨g,i*3+1,none⟩=some (.int .i64 u.yr)∧w.cell? ⟨g,i*3+2,none⟩=some (.int .i64 u.ix):=by
 have R:=(List.getElem?_eq_some_iff.1 hi).1;rcases h.2 with ⟨I,_⟩ | ⟨U,E,f,J,_,O,V,_,W,T⟩
 ·cases I
 ·cases J
  obtain ⟨F,G,H⟩:=Ai l i u hi;have o:∀ k,k<l.length*3→w.cell? ⟨g,k,none⟩=(eG l)[k]?:=by
   intro k S;rw [cell_of_row w g k f _ (0,0) O,← T,List.getElem?_take,if_pos S];simp
  exact ⟨(o _ om).trans F,(o _ om).trans G,(o _ om).trans H⟩
theorem de.call {w G:World} {g cap:Nat} {l:List Un} (h:de w g cap l) (O:Below w w G):de G g cap l:=by
 refine ⟨h.1,?_⟩;rcases h.2 with H | ⟨E,f,o,R,I,F,J⟩
 ·exact .inl H
 ·exact .inr ⟨E,f,o,R,I,(O.block E (Array.getElem?_eq_some_iff.1 F).1).trans F,J⟩
theorem de.alloc {w:World} {g cap:Nat} {l:List Un} (h:de w g cap l) (o:Obj):de (w.alloc o) g cap l:=h.call (((Below.refl _ w).alloc (Nat.le_refl _) o))
theorem de.lt {w:World} {g cap:Nat} {l:List Un} (h:de w g cap l) (J:0<l.length):g<w.heap.size∧l.length≤cap:=by
 rcases h.2 with ⟨E,_⟩ | ⟨I,f,o,G,O,H,F,_⟩
 ·cases E
 ·cases G
  exact ⟨(Array.getElem?_eq_some_iff.1 H).1,F⟩
end
end Go.Proofs.YtjhhmeoibfdcmaaGreat
