/- Lemmas. -/
import Derived.RangeFuncNested
import Derived.Test.YtpebkobmhhnojaaGreatDoorTp04
import Derived.Test.YtpebkobmhhnojaaGreatDoorTp11
import Derived.Test.YtpebkobmhhnojaaGreatDoorTp16
import Derived.Test.YtpebkobmhhnojaaGreatDoorTp20
import Derived.Test.YtpebkobmhhnojaaGreatDoorTp22
set_option linter.unusedSimpArgs false
set_option linter.unusedVariables false
set_option maxRecDepth 100000
set_option maxHeartbeats 12800000
namespace Go.Proofs.YtpebkobmhhnojaaGreatDoor
section
open Go.RowKit Go.Shelf Qd
attribute [local go_sem] Oper.semAt_some
def yU (lv y:Int) (i:Nat):List Un:=cI (fun j:Nat=>(⟨lv,y,(j:Int)+1⟩:Un)) i
def aT (c:aC) (lv from_:Int):Nat→List Un
 | 0=>[]
 | a+1=>aT c lv from_ a++yU lv (from_+a) (aM c (from_+a) lv)
theorem nn (c:aC) (lv f:Int) (a m:Nat):(aT c lv f a).length≤(aT c lv f (a+m)).length:=by
 induction m with
 | zero=>exact Nat.le_refl _
 | succ m h=>rw [← Nat.add_assoc,aT,List.length_append];omega
theorem fl (lv y:Int) (i:Nat):(yU lv y i).length=i:=by simp [yU,fe]
theorem rW (c:aC) (lv f:Int) (a h i:Nat) (E:a<h) (hi:i<aM c (f+a) lv):(aT c lv f a++yU lv (f+a) i).length<(aT c lv f h).length:=by
 have o:=nn c lv f (a+1) (h-(a+1));rw [show a+1+(h-(a+1))=h by omega,aT,List.length_append,fl] at o;rw [List.length_append,fl];omega
def Ci (u:Un):Array Value:=#[aZ u,.int .i64 0]
theorem Dr (lv y:Int) (i n:Nat) (h:i<n):yU lv y (i+1)=yU lv y i++[⟨lv,y,(i:Int)+1⟩]:=cn _ _
def cR (o E:TypeId) (W f:World):Prop:=W.heap.size≤f.heap.size∧∀ (B:Nat) (h:Array Value) (t:TypeId) (z:Nat × Nat),t≠o→t≠E→W.heap[B]?=some (.cells h t z)→f.heap[B]?=some (.cells h t z)
theorem cR.refl (f o:TypeId) (W:World):cR f o W W:=⟨Nat.le_refl _,fun _ _ _ _ _ _ h=>h⟩
theorem cR.trans {f o:TypeId} {A B C:World} (h:cR f o A B) (k:cR f o B C):cR f o A C:=⟨Nat.le_trans h.1 k.1,fun i E t z F G hi=>k.2 i E t z F G (h.2 i E t z F G hi)⟩
theorem cR.alloc {f h:TypeId} (W:World) (o:Obj):cR f h W (W.alloc o):=⟨by simp,fun i E t z _ _ hi=>(Below.heap_alloc W o i (Array.getElem?_eq_some_iff.1 hi).1).trans hi⟩
theorem cR.turn {G H:TypeId} {W E:World} {f:Option Nat} (F:W.grownBy E f) (I:∀ r,f=some r→∀ o t z,W.heap[r]?=some (.cells o t z)→t=G∨t=H):cR G H W E:=
 ⟨F.size,fun i o t z J O hi=>(F.block i (Array.getElem?_eq_some_iff.1 hi).1 (fun e=>by rcases I i e.symm o t z hi with h | h <;> contradiction)).trans hi⟩
theorem jz {F G:TypeId} (W:World) (l:Nat) (o o':Obj) (h:W.heap[l]?=some o) (E:o.isCells=false):cR F G W (W.putObj l o'):=
 .turn (grownBy_putObj' W l o') (fun r e H t z f=>by cases e;rw [h] at f;cases f;cases E)
theorem ax.ty {w w':World} {o E:TypeId} {B:Nat} {f:Array Value} {t:TypeId} (h:ax w B f t) (H:cR o E w w') (F:t≠o) (G:t≠E):ax w' B f t:=H.2 B f t (0,0) F G h
theorem mn (c:aC) (lv f t:Int) (G:Nat) (hn:c.name.size≤1000) (bb:f+(G:Int)=t+1) (ba:-10000≤f∧t≤20000) (hE:∀ a:Nat,a<G→aR c lv (f+a)=0)
  (Bf Bt Bc U:Nat) (w:World)
  (g0:ax w Bc (bJ c) 24) (g1:ax w Bf #[f] 3) (g2:ax w Bt #[t] 3) (g3:ax w U #[lv] 3) :
  SeqStopsK Fence.wide 4 Tryz.prog 50 #[.pointer (some ⟨Bf,0,none⟩),.pointer (some ⟨Bt,0,none⟩),.pointer (some ⟨Bc,0,none⟩),.pointer (some ⟨U,0,none⟩)] Ci (cR 33 26)
   (fun xs=>xs=aT c lv f G) (fun _=>True) (aT c lv f G).length w:=fun l J Jx W hW hJ a8 hY h0=>by
 have G0:=hide (g0.call hW);have G1:=hide (g1.call hW);have G2:=hide (g2.call hW);have G3:=hide (g3.call hW);have HE:=hide hE;have aB:=hide (fun (a:Nat) (ha:a<G)=>jB c (f+a) (bv (hE a ha)).2.2.2.2.2.2 lv);have HY:=hide hY;have r1:W.cell? ⟨Bf,0,none⟩=some (.int .i64 f):=(G1.out).cell 0;clear hE hY;refine callsIn_of_wp Tryz.func50 rfl trivial ?_ rfl;simp only [Tryz.ntmps50,List.size_toArray,List.length_cons,List.length_nil,Nat.reduceAdd,Nat.reduceSub,Array.replicate_succ,Array.replicate_zero,List.push_toArray,List.append_toArray,List.nil_append,List.cons_append]
 gi_wp2_with fail
 gi_loopw [6] (fun s wr=>∃ a:Nat,a≤G∧s=.int .i64 (f+a)∧Hid (J (aT c lv f a) wr)∧ax wr Bc (bJ c) 24∧ax wr Bt #[t] 3∧ax wr U #[lv] 3)
  (fun s _=>(t+1-intOf s).toNat)
 case atStart=>exact ⟨0,Nat.zero_le _,by simp,hide h0,G0.out,G2.out,G3.out⟩
 case round =>
  obtain ⟨a,ha,rfl,ab,V,Y,O⟩:=hrel;have x2:wr.cell? ⟨Bt,0,none⟩=some (.int .i64 t):=Y.cell 0;by_cases F:a<G
  ·have x3:wr.cell? ⟨U,0,none⟩=some (.int .i64 lv):=O.cell 0
   obtain ⟨q0,q1,q2,q3,q4,q5,q6,q7,q8,q9,bc,bd,bh,bk⟩:=V.cal;have B0:=hide V;have B2:=hide Y;have B3:=hide O;clear V Y O
   gi_wp2_with fail
   refine ⟨trivial,(callsIn_wide.2 (kY c lv _ _ hn)).mono ?_⟩;rintro e w1 ⟨rfl,o⟩;have ao:=hide (B0.out.call o);have aq:=hide (B2.out.call o);have aA:=hide (B3.out.call o);have a0:=hide (hJ _ _ _ none ab.out (jv o none) (by intro r e;cases e));clear o;have ad:ff c lv (f+a)=(aM c (f+a) lv:Int):=by simp [ff,HE.out a F]
   rw [ad,HE.out a F];have a9:=aB.out a F;generalize hk:aM c (f+a) lv=n at *;have HK:=hide hk;clear ad hk
   gi_wp2_with fail
   gi_loopw [30] (fun s wr=>∃ i:Nat,i≤n∧s=.int .i64 (i:Int)∧Hid (J (aT c lv f a++yU lv (f+a) i) wr)∧ax wr Bc (bJ c) 24∧ax wr Bt #[t] 3∧ax wr U #[lv] 3)
    (fun s _=>(n-intOf s).toNat)
   case atStart=>exact ⟨0,Nat.zero_le _,rfl,by simpa [yU,cI] using a0,ao.out,aq.out,aA.out⟩
   case round =>
    obtain ⟨i,hi,rfl,aa,V,Y,O⟩:=hrel;have x3:wr.cell? ⟨U,0,none⟩=some (.int .i64 lv):=O.cell 0;by_cases ah:i<n
    ·obtain ⟨fn,a7,al,a6,hy,hR⟩:=HY.out _ ⟨lv,f+a,(i:Int)+1⟩ wr aa.out (rW c lv f a G i F (by rw [HK.out];exact ah))
     simp only [Ci,aZ] at hy
     gi_wp2
     refine hR.mono ?_;rintro e W3 (⟨rfl,ac,E⟩ | ⟨rfl,H⟩)
     ·have I:=hide ac
      have a1:=V.ty E aj aj;have a2:=Y.ty E aj aj;have a3:=O.ty E aj aj;clear ac E
      gi_wp2
      go_roundw
      case rel=>exact ⟨i+1,by omega,by go_num,hide (by rw [Dr _ _ _ _ ah,← List.append_assoc];exact I.out),a1,a2,a3⟩
      case measure=>simp [intOf];omega
     ·have I:=hide H
      clear H
      gi_wp2
      refine bodyPost_ret (results_none rfl _ _ _) rfl ?_;exact ⟨⟨_,rfl⟩,.inr ⟨_,trivial,I.out⟩⟩
    ·have a5:i=n:=om
     subst a5
     gi_wp2
     go_roundw
     case rel=>exact ⟨a+1,by omega,by simp;omega,hide (by have h:=aa.out;rw [← HK.out] at h;exact h),V,Y,O⟩
     case measure=>simp [intOf];omega
  ·have a4:a=G:=om
   subst a4
   gi_wp2
   go_end0;exact ⟨⟨_,rfl⟩,.inl ⟨_,rfl,ab.out⟩⟩
attribute [local go_sem] Oper.semAt_some
theorem qA (m:Nat) (c:aC) (lv f t:Int) (w:World) :
  CallsIn Fence.wide m Tryz.prog 22 #[aI c,lv,f,t] w fun e w' =>
   e=.returned (.func (.func 50) #[] #[.pointer (some ⟨w+2,0,none⟩),.pointer (some ⟨w+3,0,none⟩),.pointer (some ⟨w,0,none⟩),.pointer (some ⟨w+1,0,none⟩)]) ∧
   w'=(((w.alloc (.cells (bJ c) 24)).alloc (.cells #[lv] 3)).alloc (.cells #[f] 3)).alloc (.cells #[t] 3):=by
 refine callsIn_wide.2 ?_;simp only [aI];go_enter Tryz.func22,Tryz.ntmps22;go_wp2;go_ret;exact ⟨rfl,rfl⟩
def fQ (l:List Un):List Value:=l.flatMap fun u=>[.int .i64 u.lv,.int .i64 u.yr,.int .i64 u.ix]
theorem my (l:List Un) (u:Un):fQ (l++[u])=fQ l++[.int .i64 u.lv,.int .i64 u.yr,.int .i64 u.ix]:=by simp [fQ]
def d9 (w:World) (g cap:Nat) (l:List Un):Prop:=w.ownsRow 0 33 3 (.slice (some ⟨g,0,none⟩) l.length cap) l.length (fQ l)
theorem qW {W H:World} {n₀ B:Nat} {I:Nat} {v v':Value} {k:Nat} {xs:List Value} {f:Obj}
  (V:Boxed W B 26 v) (F:W.ownsRow n₀ 33 I v k xs)
  (h:(W.alloc f).grownBy H v.ownBlock) :
  cR 33 26 W (H.setCell ⟨B,0,none⟩ v') ∧
  ∀ (X:Nat) (o:Array Value) (t:TypeId),X≠B→t≠33→ax W X o t→ax (H.setCell ⟨B,0,none⟩ v') X o t:=by
 have U:Boxed H B 26 v:=(V.alloc f).kept h (V.not_row aj F);have E:∀ r,v.ownBlock=some r→∀ o t z,(W.alloc f).heap[r]?=some (.cells o t z)→t=33:=by
  intro r e o t z G;rcases (F.alloc f).2 with ⟨rfl,_⟩ | ⟨g,cap,Y,rfl,_,O,_⟩
  ·simp [Value.ownBlock] at e
  ·obtain rfl:g=r:=by simpa [Value.ownBlock] using e
   rw [O] at G;cases G;rfl
 refine ⟨((cR.alloc W f).trans (.turn h (fun r e o t z G=>.inl (E r e o t z G)))).trans (.turn (grownBy_setCell' H B v') (fun r e o t z G=>?_)),?_⟩
 ·cases e
  rw [show H.heap[B]?=_ from U] at G;cases G;exact .inr rfl
 ·intro X o t hX ht J
  have h1:ax H X o t:=by
   refine (h.block X (J.alloc f).lt (fun e=>ht ?_)).trans (J.alloc f);exact E X e.symm o t (0,0) (J.alloc f)
  exact h1.far hX _
theorem fC {β:Type} (B:Nat) (h:Array Value) (t:TypeId):Own (fun (_:β) W=>ax W B h t):=fun _ _ _ _ E o f=>fp E o f
theorem lS (c:aC) (lv f:Int) (o:Nat) (E:∀ a:Nat,a<o→aR c lv (f+a)=0):(aT c lv f o).length≤60*o∧o≤(aT c lv f o).length:=by
 induction o with
 | zero=>simp [aT]
 | succ n F =>
  have h:=F (fun a G=>E a om);have H:=jB c (f+n) (bv (E n om)).2.2.2.2.2.2 lv;rw [aT,List.length_append,fl];omega
def GZ (lo:Nat) (T:Un→Nat→Act) (x:Un) (h:Act) (W:World):Prop:=∃ f,lo<f∧ax W f #[x.lv,x.yr,x.ix] 33∧h=T x f
theorem ug (lo:Nat) (T:Un→Nat→Act) (x:Un) (h:Act) (B:Nat):OwnFrom B (fun (_:Unit) W=>GZ lo T x h W):=fun _ X Y J I G H=>by
 obtain ⟨f,o,E,F⟩:=I;exact ⟨f,o,fp E G (fun r e=>(H r e).2),F⟩
theorem nu (W:World) (a b d:Value) (t:TypeId):∀ (j:Nat) (u:Value),[a,b,d][j]?=some u→(W.alloc (.cells #[a,b,d] t)).cell? ((⟨W,0,none⟩:Addr).add j)=some u:=by
 intro j u h
 match j,h with
 | 0,h=>simpa [World.cell?_alloc_at,Addr.add] using h
 | 1,h=>simpa [World.cell?_alloc_at,Addr.add] using h
 | 2,h=>simpa [World.cell?_alloc_at,Addr.add] using h
theorem pp {W:World} {X I h k:Nat} {F:Array Value} {t:TypeId} {v:Value} {J:List Value} (f:W.ownsRow I 33 h v k J) (o:ax W X F t) (H:t≠33:=by decide):v.ownBlock≠some X:=by
 rcases f.2 with ⟨rfl,_⟩ | ⟨g,cap,G,rfl,_,E,_⟩
 ·simp [Value.ownBlock]
 ·intro e
  obtain rfl:g=X:=by simpa [Value.ownBlock] using e
  unfold ax at o;rw [E] at o;cases o;exact H rfl
theorem _root_.Go.World.ownsRow.base {w:World} {b E f n:Nat} {e:TypeId} {v:Value} {G:List Value} (h:w.ownsRow b e f v n G) (J:E≤b):w.ownsRow E e f v n G:=by
 refine ⟨h.1,?_⟩;rcases h.2 with F | ⟨g,cap,o,H,F,I⟩
 ·exact .inl F
 ·exact .inr ⟨g,cap,o,H,by omega,I⟩
theorem oJ:(Tryz.prog.info? 33).map (fun i=>(i.zero,i.size,i.bytes))=some (some (.agg #[.int .i64 0,.int .i64 0,.int .i64 0]),3,24):=by kernel_rfl
end
section
open Go.RowKit Qd
def lp (c:aC) (l:List Un):Prop:=∀ (j:Nat) (u v:Un),l[j]?=some u→l[j+1]?=some v→xy c u=0∧tf c u=v
theorem wy {c:aC} {f F:List Un} (G:lp c f) (H:lp c F) (h:∀ u v,f[f.length-1]?=some u→F[0]?=some v→xy c u=0∧tf c u=v):lp c (f++F):=by
 intro j u v E o;by_cases J:j+1<f.length
 ·rw [List.getElem?_append_left om] at E
  rw [List.getElem?_append_left om] at o;exact G j u v E o
 ·by_cases I:j+1=f.length
  ·rw [List.getElem?_append_left om] at E
   rw [List.getElem?_append_right om] at o;refine h u v ?_ ?_
   ·rw [show f.length-1=j by omega];exact E
   ·rw [show j+1-f.length=0 by omega] at o;exact o
  ·rw [List.getElem?_append_right om] at E
   rw [List.getElem?_append_right om] at o;rw [show j+1-f.length=(j-f.length)+1 by omega] at o;exact H _ u v E o
theorem pd (lv y:Int) (n j:Nat) (o:j<n):(yU lv y n)[j]?=some ⟨lv,y,(j:Int)+1⟩:=by
 induction n with
 | zero=>omega
 | succ n f =>
  rw [Dr lv y n (n+1) om];by_cases h:j<n
  ·rw [List.getElem?_append_left (by rw [fl];exact h)]
   exact f h
  ·obtain rfl:j=n:=om
   rw [List.getElem?_append_right (by rw [fl];omega),fl];simp
theorem l8 {lv y:Int} {n j:Nat} {u:Un} (h:(yU lv y n)[j]?=some u):j<n∧u=⟨lv,y,(j:Int)+1⟩:=by
 have f:j<n:=by
  have:=(List.getElem?_eq_some_iff.1 h).1
  rwa [fl] at this
 rw [pd lv y n j f] at h;exact ⟨f,(Option.some.inj h).symm⟩
theorem fs {c:aC} {lv y:Int} {j:Nat} (h:aR c lv y=0) (o:j<aM c y lv):aU c ⟨lv,y,(j:Int)+1⟩=0:=by
 have f:(1:Int)≤(j:Int)+1∧(j:Int)+1≤(aM c y lv:Int):=om;simp only [aU];rw [if_pos h,if_pos f]
theorem qH {c:aC} {lv y:Int} (f:aR c lv y=0):lp c (yU lv y (aM c y lv)):=by
 intro j u v H I;obtain ⟨F,rfl⟩:=l8 H;obtain ⟨G,rfl⟩:=l8 I;have h:=fs f F;have o:=fs f G;have E:nt ⟨lv,y,(j:Int)+1⟩=⟨lv,y,((j+1:Nat):Int)+1⟩:=by simp [nt]
 simp only [xy,tf,h,E,o,if_true,and_self]
theorem Cx {c:aC} {lv y:Int} (h:aR c lv y=0) (f:aR c lv (y+1)=0) (n:Nat) (O:n+1=aM c y lv) (H:0<aM c (y+1) lv) :
  xy c ⟨lv,y,(n:Int)+1⟩=0∧tf c ⟨lv,y,(n:Int)+1⟩=⟨lv,y+1,((0:Nat):Int)+1⟩:=by
 have o:=fs h (show n<aM c y lv by omega);have E:=fs f H;have F:rB ⟨lv,y,(n:Int)+1⟩=⟨lv,y+1,((0:Nat):Int)+1⟩:=by simp [rB]
 have G:¬ aU c (nt ⟨lv,y,(n:Int)+1⟩)=0:=by
  have I:¬ ((1:Int)≤(n:Int)+1+1∧(n:Int)+1+1≤(aM c y lv:Int)):=om;have J:aU c (nt ⟨lv,y,(n:Int)+1⟩)=13:=by
   show (if aR c lv y=0 then (if 1≤(n:Int)+1+1∧(n:Int)+1+1≤(aM c y lv:Int) then (0:Int) else 13) else aR c lv y)=13;rw [if_pos h,if_neg I]
  omega
 simp only [xy,tf,o,F,E,if_true,if_neg G,and_self]
theorem oI (c:aC) (lv f:Int) (F:Nat) (h0:0<F) (H:∀ a:Nat,a<F→aR c lv (f+a)=0) :
  lp c (aT c lv f F)∧(aT c lv f F)[0]?=some ⟨lv,f,1⟩∧(aT c lv f F)[(aT c lv f F).length-1]?=some ⟨lv,f+(F:Int)-1,(aM c (f+(F:Int)-1) lv:Int)⟩:=by
 induction F with
 | zero=>omega
 | succ n ih =>
  have E:=H n om;have W:=jB c (f+n) (bv E).2.2.2.2.2.2 lv;have hl:(aT c lv f (n+1)).length=(aT c lv f n).length+aM c (f+n) lv:=by rw [aT,List.length_append,fl]
  have o:(aT c lv f (n+1))[(aT c lv f (n+1)).length-1]?=some ⟨lv,f+((n+1:Nat):Int)-1,(aM c (f+((n+1:Nat):Int)-1) lv:Int)⟩:=by
   rw [hl,aT,List.getElem?_append_right om,pd _ _ _ _ om];rw [show f+((n+1:Nat):Int)-1=f+n by omega];congr 2;omega
  by_cases hn:n=0
  ·subst hn
   refine ⟨?_,?_,o⟩
   ·have h:=qH E
    simpa [aT] using h
   ·rw [aT,List.getElem?_append_right (by simp [aT]),pd _ _ _ _ (by simp only [aT,List.length_nil] at W ⊢;omega)]
    simp [aT]
  ·obtain ⟨i1,O,i3⟩:=ih om (fun a ha=>H a om)
   refine ⟨?_,?_,o⟩
   ·rw [aT]
    refine wy i1 (qH E) ?_;intro u v J hv;rw [i3] at J;cases J;obtain ⟨V,rfl⟩:=l8 hv;have G:=H (n-1) om;have U:f+((n-1:Nat):Int)=f+(n:Int)-1:=om;rw [U] at G;have Y:=jB c (f+(n:Int)-1) (bv G).2.2.2.2.2.2 lv;have I:=Cx (y:=f+(n:Int)-1) G (by rw [show f+(n:Int)-1+1=f+n by omega];exact E) (aM c (f+(n:Int)-1) lv-1) om (by rw [show f+(n:Int)-1+1=f+n by omega];exact V);rw [show f+(n:Int)-1+1=f+n by omega,show (((aM c (f+(n:Int)-1) lv-1:Nat):Int))+1=(aM c (f+(n:Int)-1) lv:Int) by omega] at I;exact I
   ·rw [aT,List.getElem?_append_left ?_]
    ·exact O
    ·exact (List.getElem?_eq_some_iff.1 O).1
theorem xn (l:List Un) (i:Nat) (u:Un) (h:l[i]?=some u):(fQ l)[i*3]?=some (.int .i64 u.lv)∧(fQ l)[i*3+1]?=some (.int .i64 u.yr)∧(fQ l)[i*3+2]?=some (.int .i64 u.ix):=by
 induction l generalizing i with
 | nil=>simp at h
 | cons a l o =>
  cases i with
  | zero=>simp at h;subst h;simp [fQ]
  | succ i =>
   have f:=o i (by simpa using h);have e:fQ (a::l)=.int .i64 a.lv :: .int .i64 a.yr :: .int .i64 a.ix::fQ l:=rfl;rw [e,show (i+1)*3=i*3+1+1+1 by omega];simp only [List.getElem?_cons_succ,show i*3+1+1+1+1=(i*3+1)+1+1+1 by omega,show i*3+1+1+1+2=(i*3+2)+1+1+1 by omega];exact f
theorem d9.cell {w:World} {g cap:Nat} {l:List Un} (h:d9 w g cap l) {i:Nat} {u:Un} (hi:l[i]?=some u) :
  w.cell? ⟨g,i*3,none⟩=some (.int .i64 u.lv)∧w.cell? ⟨g,i*3+1,none⟩=some (.int .i64 u.yr)∧w.cell? ⟨g,i*3+2,none⟩=some (.int .i64 u.ix):=by
 have U:=(List.getElem?_eq_some_iff.1 hi).1;rcases h.2 with ⟨I,_⟩ | ⟨Y,E,f,J,_,O,hn,_,hs,W⟩
 ·cases I
 ·cases J
  obtain ⟨F,G,H⟩:=xn l i u hi;have o:∀ k,k<l.length*3→w.cell? ⟨g,k,none⟩=(fQ l)[k]?:=by
   intro k V;rw [cell_of_row w g k f _ (0,0) O,← W,List.getElem?_take,if_pos V];simp
  exact ⟨(o _ om).trans F,(o _ om).trans G,(o _ om).trans H⟩
theorem d9.call {w w':World} {g cap:Nat} {l:List Un} (h:d9 w g cap l) (J:Below w w w'):d9 w' g cap l:=by
 refine ⟨h.1,?_⟩;rcases h.2 with G | ⟨E,f,o,O,H,F,I⟩
 ·exact .inl G
 ·exact .inr ⟨E,f,o,O,H,(J.block E (Array.getElem?_eq_some_iff.1 F).1).trans F,I⟩
theorem d9.alloc {w:World} {g cap:Nat} {l:List Un} (h:d9 w g cap l) (o:Obj):d9 (w.alloc o) g cap l:=h.call (((Below.refl _ w).alloc (Nat.le_refl _) o))
theorem d9.lt {w:World} {g cap:Nat} {l:List Un} (h:d9 w g cap l) (J:0<l.length):g<w.heap.size∧l.length≤cap:=by
 rcases h.2 with ⟨E,_⟩ | ⟨I,f,o,G,O,H,F,_⟩
 ·cases E
 ·cases G
  exact ⟨(Array.getElem?_eq_some_iff.1 H).1,F⟩
end
section
open Go.RowKit
def qL (a n:Int) (ws:List Int):List Int:=ws.map fun x=>a*x / n
def fy (a n:Int) (ws:List Int):List Pt:=ws.mapIdx fun i x=>⟨(i:Int),a*x % n⟩
theorem jE (a n:Int) (ws:List Int):(qL a n ws).length=ws.length:=by simp [qL]
theorem eP (a n:Int) (ws:List Int):(fy a n ws).length=ws.length:=by simp [fy]
theorem B4 {a n:Int} {ws:List Int} {i:Nat} {p:Pt} (h:(fy a n ws)[i]?=some p):∃ x,ws[i]?=some x∧p=⟨(i:Int),a*x % n⟩:=by
 simp only [fy,List.getElem?_mapIdx,Option.map_eq_some_iff] at h;obtain ⟨x,f,o⟩:=h;exact ⟨x,f,o.symm⟩
theorem zY {a n:Int} {ws:List Int} {i:Nat} {x:Int} (h:ws[i]?=some x):(fy a n ws)[i]?=some ⟨(i:Int),a*x % n⟩:=by simp [fy,h]
theorem yu {a n:Int} {ws:List Int} {i:Nat} {x:Int} (h:ws[i]?=some x):(qL a n ws)[i]?=some (a*x / n):=by simp [qL,h]
theorem nj (a n:Int) (ws:List Int):jD (fy a n ws):=by
 refine List.pairwise_iff_getElem.2 fun i j hi h f=>?_
 simp only [fy,List.getElem_mapIdx];omega
theorem EF (a n:Int) (ws:List Int):(fy a n ws).map Pt.ab=ws.map fun x=>a*x % n:=by
 refine List.ext_getElem? fun i=>?_
 simp [fy,List.getElem?_mapIdx,Function.comp_def]
theorem D7 (a n:Int) (ws:List Int):(qL a n ws).sum*n+((fy a n ws).map Pt.ab).sum=a*ws.sum:=by
 rw [EF,qL]
 induction ws with
 | nil=>simp
 | cons x l f =>
  have h:=Int.ediv_mul_add_emod (a*x) n;simp only [List.map_cons,List.sum_cons,Int.mul_add,Int.add_mul] at f ⊢;omega
theorem oE {a n:Int} (f:0<n) {ws:List Int} {p:Pt} (h:p∈fy a n ws):0≤p.ab∧p.ab<n∧0≤p.pos∧p.pos<ws.length:=by
 obtain ⟨i,hi,rfl⟩:=List.getElem_of_mem h;have o:i<ws.length:=by simpa [eP] using hi
 simp only [fy,List.getElem_mapIdx];exact ⟨Int.emod_nonneg _ om,Int.emod_lt_of_pos _ f,by omega,by omega⟩
theorem xJ {l m:List Int} (h:l.Perm m):l.sum=m.sum:=by
 induction h with
 | nil=>rfl
 | cons x _ f=>simp [f]
 | swap x y l=>simp only [List.sum_cons];omega
 | trans _ _ h1 h2=>exact h1.trans h2
theorem ze {n:Int} {l:List Int} (h:∀ x∈l,0≤x∧x<n):0≤l.sum∧l.sum≤n*l.length∧(0<l.length→l.sum<n*l.length):=by
 induction l with
 | nil=>simp
 | cons x l o =>
  have E:=o fun y f=>h y (List.mem_cons_of_mem _ f)
  have F:=h x af;simp only [List.sum_cons,List.length_cons,Int.natCast_add,Int.mul_add];omega
def dn (a n:Int) (ws:List Int):Int:=a-(qL a n ws).sum
theorem qK {a n:Int} {ws:List Int} (f:ws.sum=n):((fy a n ws).map Pt.ab).sum=n*dn a n ws:=by
 have h:=D7 a n ws;rw [f] at h;have e:n*dn a n ws=a*n-(qL a n ws).sum*n:=by
  unfold dn;rw [Int.mul_comm,Int.sub_mul]
 omega
theorem A5 {a n:Int} {ws:List Int} (E:0<n) (I:ws.sum=n):0≤dn a n ws∧dn a n ws<ws.length:=by
  have h:=qK (a:=a) I;obtain ⟨O,U,F⟩:=ze (n:=n) (l:=(fy a n ws).map Pt.ab) (by
    intro x W;obtain ⟨p,H,rfl⟩:=List.mem_map.1 W;exact ⟨(oE E H).1,(oE E H).2.1⟩)
  have V:((fy a n ws).map Pt.ab).length=ws.length:=by simp [eP]
  have J:0<ws.length:=by
    cases ws with
    | nil=>simp at I;omega
    | cons=>simp
  rw [V] at U F;have G:=F J;rw [h] at O G
  exact ⟨by rcases Int.lt_or_le (dn a n ws) 0 with o | f
            · have:=Int.mul_neg_of_pos_of_neg E o;omega
            · exact f,Int.lt_of_mul_lt_mul_left G om⟩
def fV (l:List Int) (T:List Pt):List Int:=T.foldl (fun l p=>l.modify p.pos.toNat (· + 1)) l
theorem vW (l:List Int):fV l []=l:=rfl
theorem sM (l:List Int) (T:List Pt) (p:Pt):fV l (T++[p])=(fV l T).modify p.pos.toNat (· + 1):=by simp [fV]
theorem vY (l:List Int) (T:List Pt):(fV l T).length=l.length:=by
 induction T generalizing l with
 | nil=>rfl
 | cons p T f=>simp only [fV,List.foldl_cons] at f ⊢;rw [f];simp
theorem ol (l:List Int) (T:List Pt) (i:Nat) (x:Int) (h:l[i]?=some x):(fV l T)[i]?=some (x+(T.countP fun p=>p.pos.toNat==i)):=by
 induction T generalizing l x with
 | nil=>simp [fV,h]
 | cons p T F =>
  have o:(l.modify p.pos.toNat (· + 1))[i]?=some (if p.pos.toNat=i then x+1 else x):=by
   rw [List.getElem?_modify,h]
   split <;> simp
  have f:=F _ _ o;simp only [fV,List.foldl_cons] at f ⊢;rw [f,List.countP_cons];by_cases E:p.pos.toNat=i <;> simp [E];omega
def xZ (a n:Int) (ws:List Int) (S:List Pt):List Int:=fV (qL a n ws) (S.take (dn a n ws).toNat)
theorem xG (a n:Int) (ws:List Int) (S:List Pt):(xZ a n ws S).length=ws.length:=by rw [xZ,vY,jE]
theorem oS {a n:Int} {ws:List Int} {S:List Pt} (h:gF (fy a n ws) S) {p:Pt}:p∈S↔p∈fy a n ws:=h.1.mem_iff
theorem un {a n:Int} {ws:List Int} {p q:Pt} (f:p∈fy a n ws) (o:q∈fy a n ws) (h:p.pos=q.pos):p=q:=by
 obtain ⟨i,hi,rfl⟩:=List.getElem_of_mem f;obtain ⟨j,E,rfl⟩:=List.getElem_of_mem o;simp only [fy,List.getElem_mapIdx] at h ⊢;have:i=j:=om;subst this;rfl
theorem AC {a n:Int} {ws:List Int} {S:List Pt} (J:0<n) (h:gF (fy a n ws) S) {i:Nat} {x:Int} (H:ws[i]?=some x) :
  ∃ e:Int,(xZ a n ws S)[i]?=some (a*x / n+e)∧((e=1∧(⟨(i:Int),a*x % n⟩:Pt)∈S.take (dn a n ws).toNat)∨(e=0∧(⟨(i:Int),a*x % n⟩:Pt) ∉ S.take (dn a n ws).toNat)):=by
 refine ⟨_,ol _ _ i _ (yu H),?_⟩;have o:(S.take (dn a n ws).toNat).Nodup:=by
  refine List.Nodup.sublist (List.take_sublist _ _) ?_;refine h.2.imp fun {x y} hxy=>?_
  rintro rfl;unfold Pt.lt at hxy;omega
 have F:∀ p∈S.take (dn a n ws).toNat,(p.pos.toNat==i)=true↔p=⟨(i:Int),a*x % n⟩:=by
  intro p E;have G:=(oS h).1 (List.mem_of_mem_take E);have O:=oE J G;constructor
  ·intro I
   refine un G (List.mem_of_getElem? (zY H)) ?_;have:p.pos.toNat=i:=by simpa using I
   simp only;omega
  ·rintro rfl;simp
 rw [List.countP_congr (q:=fun p=>p==(⟨(i:Int),a*x % n⟩:Pt)) (fun p E=>by rw [F p E];simp)];rw [show (List.countP (fun p=>p==(⟨(i:Int),a*x % n⟩:Pt)) (S.take (dn a n ws).toNat))=List.count ⟨(i:Int),a*x % n⟩ (S.take (dn a n ws).toNat) from rfl];by_cases f:(⟨(i:Int),a*x % n⟩:Pt)∈S.take (dn a n ws).toNat
 ·left
  rw [List.Nodup.count o];simp [f]
 ·right
  rw [List.count_eq_zero.2 f];exact ⟨rfl,f⟩
theorem qu {a n:Int} {ws:List Int} {S:List Pt} (O:0<n) (hs:ws.sum=n) (h:gF (fy a n ws) S) {p:Pt} (Y:p∈S.take (dn a n ws).toNat):0<p.ab:=by
 rcases Int.lt_or_le 0 p.ab with F | F
 ·exact F
 exfalso;obtain ⟨k,V,rfl⟩:=List.getElem_of_mem Y;rw [List.length_take] at V;simp only [List.getElem_take] at F;have U:(S.map Pt.ab).sum=n*dn a n ws:=by rw [← qK hs];exact xJ (h.1.map Pt.ab)
 have o:∀ q∈S,0≤q.ab∧q.ab<n:=fun q f=>by have:=oE O ((oS h).1 f);omega
 have G:(S.map Pt.ab).sum=((S.take k).map Pt.ab).sum+((S.drop k).map Pt.ab).sum:=by rw [← List.sum_append,← List.map_append,List.take_append_drop]
 have hz:((S.drop k).map Pt.ab).sum≤0:=by
  have H:∀ q∈S.drop k,q.ab≤0:=by
   intro q f;rw [List.drop_eq_getElem_cons om] at f;rcases List.mem_cons.1 f with rfl | f
   ·exact F
   ·have E:gg (S.drop k):=h.2.sublist (List.drop_sublist _ _)
    rw [List.drop_eq_getElem_cons om] at E;have:=List.rel_of_pairwise_cons E f;unfold Pt.lt at this;omega
  generalize S.drop k=l at H ⊢
  induction l with
  | nil=>simp
  | cons y l ih =>
   have h1:=ih fun q f=>H q (List.mem_cons_of_mem _ f)
   have J:=H y af;simp only [List.map_cons,List.sum_cons];omega
 obtain ⟨_,J,_⟩:=ze (n:=n) (l:=(S.take k).map Pt.ab) (by
  intro x hx;obtain ⟨q,f,rfl⟩:=List.mem_map.1 hx;exact o q (List.mem_of_mem_take f))
 have I:((S.take k).map Pt.ab).length=k:=by rw [List.length_map,List.length_take];omega
 rw [I] at J;have W:n*(dn a n ws)≤n*(k:Int):=om;have:=Int.le_of_mul_le_mul_left W O;omega
end
section
open Go.RowKit Go.Sort
def kr (a:Int) (ws:List Int):List Int:=xZ a ws.sum ws (iN (fy a ws.sum ws))
theorem tY (a:Int) (ws:List Int):gF (fy a ws.sum ws) (iN (fy a ws.sum ws)):=nA (nj a ws.sum ws)
theorem mo (a:Int) (ws:List Int):(kr a ws).length=ws.length:=xG _ _ _ _
def bI {α:Type} (z:α) (l:List α) (j:Nat):List α:=l.take j++List.replicate (l.length-j) z
theorem ke {α:Type} (z:α) (l:List α) (j:Nat) (h:j≤l.length):(bI z l j).length=l.length:=by simp [bI];omega
theorem fD {α:Type} (z:α) (l:List α):bI z l 0=List.replicate l.length z:=by simp [bI]
theorem fA {α:Type} (z:α) (l:List α):bI z l l.length=l:=by simp [bI]
theorem gQ {α:Type} (z:α) (l:List α) (j:Nat) (x:α) (h:l[j]?=some x):(bI z l j).set j x=bI z l (j+1):=by
 have o:=(List.getElem?_eq_some_iff.1 h).1;have f:(l.take j).length=j:=by rw [List.length_take];omega
 have e:List.replicate (l.length-j) z=z::List.replicate (l.length-(j+1)) z:=by rw [show l.length-j=(l.length-(j+1))+1 by omega];rfl
 unfold bI;rw [List.set_append_right _ _ om,f,Nat.sub_self,e,List.set_cons_zero,List.take_add_one,h];simp
theorem zP (l:List Int) (j:Nat) (x:Int) (h:l[j]?=some x):(l.take (j+1)).sum=(l.take j).sum+x:=by rw [List.take_add_one,h];simp
theorem tF {ws:List Int} (h:∀ x∈ws,0≤x):∀ x∈ws,x≤ws.sum:=by
 induction ws with
 | nil=>simp
 | cons y l o =>
  have E:=o fun x f=>h x (List.mem_cons_of_mem _ f)
  have F:0≤l.sum:=by
   clear E o
   induction l with
   | nil=>simp
   | cons z l o =>
    have:=o fun x f=>h x (by rcases List.mem_cons.1 f with rfl | f <;> simp [*])
    have:=h z af;simp only [List.sum_cons];omega
  intro x f;rcases List.mem_cons.1 f with rfl | f
  ·simp only [List.sum_cons];omega
  ·have:=E x f;have:=h y af;simp only [List.sum_cons];omega
theorem Fl {a n:Int} {ws:List Int} (E:bE a) (F:0<n) (h:∀ x∈ws,0≤x∧x≤n):∀ q∈qL a n ws,bE q:=by
 intro q f;simp only [qL,List.mem_map] at f;obtain ⟨x,o,rfl⟩:=f;exact gN E (h x o).1 (h x o).2 F
theorem tN {a n:Int} {ws:List Int} (f:bE a) (o:∀ q∈qL a n ws,bE q) (G:ws.length≤1000000) (j:Nat):cE (a-((qL a n ws).take j).sum):=by
 have h:=AA (l:=(qL a n ws).take j) (fun x E=>o x (List.mem_of_mem_take E));have F:((qL a n ws).take j).length≤ws.length:=by rw [List.length_take,jE];omega
 unfold cE;unfold bE at f;omega
theorem tv (l:List Int) (i:Nat) (x:Int) (h:l[i]?=some x):l.set i (x+1)=l.modify i (· + 1):=by
 refine List.ext_getElem? fun k=>?_
 rw [List.getElem?_set,List.getElem?_modify];have hi:=(List.getElem?_eq_some_iff.1 h).1;by_cases f:i=k
 ·subst f
  rw [if_pos rfl,if_pos hi,h];simp
 ·rw [if_neg f]
  cases l[k]? <;> simp [f]
theorem C3 {a n:Int} {ws:List Int} {S:List Pt} (V:0<n) (hs:ws.sum=n) (h:gF (fy a n ws) S) {j:Nat} {p:Pt} (J:(S.take (dn a n ws).toNat)[j]?=some p) :
  ∃ x,ws[p.pos.toNat]?=some x∧0≤p.pos∧p.pos<ws.length∧(fV (qL a n ws) ((S.take (dn a n ws).toNat).take j))[p.pos.toNat]?=some (a*x / n)∧0<a*x % n:=by
 obtain ⟨T,U⟩:∃ T,S.take (dn a n ws).toNat=T:=⟨_,rfl⟩;have f:0<p.ab:=qu V hs h (List.mem_of_getElem? J);have o:∀ q∈T,q∈fy a n ws:=fun q O=>(oS h).1 (List.mem_of_mem_take (by rw [U];exact O))
 have I:T.Pairwise Pt.lt:=by rw [← U];exact h.2.sublist (List.take_sublist _ _)
 rw [U] at J ⊢;have E:=o p (List.mem_of_getElem? J);obtain ⟨i,hi,e⟩:=List.getElem_of_mem E;obtain ⟨x,hx,e2⟩:=B4 (a:=a) (n:=n) (ws:=ws) (i:=i) (p:=p) (by rw [List.getElem?_eq_getElem hi,e]);have hb:=oE V E;have G:p.pos.toNat=i:=by rw [e2];simp
 refine ⟨x,by rw [G];exact hx,hb.2.2.1,hb.2.2.2,?_,by rw [e2] at f;exact f⟩;have hg:=ol (qL a n ws) (T.take j) i _ (yu hx);rw [G,hg];have hc:(T.take j).countP (fun q=>q.pos.toNat==i)=0:=by
  rw [List.countP_eq_zero];intro q O W;have H:=o q (List.mem_of_mem_take O);have aa:=oE V H;have Y:q=p:=un H E (by have:q.pos.toNat=i:=(by simpa using W);omega);subst Y;obtain ⟨k,hk,ek⟩:=List.getElem_of_mem O;rw [List.length_take] at hk;rw [List.getElem_take] at ek;have F:=(List.getElem?_eq_some_iff.1 J);have:=List.pairwise_iff_getElem.1 I k j om F.1 om;rw [ek,F.2] at this;unfold Pt.lt at this;omega
 rw [hc];simp
theorem tG {a n x:Int} (o:bE a) (E:0≤x) (f:x≤n) (H:0<n) (O:0<a*x % n):bE (a*x / n+1):=by
 have J:=gN o E f H;unfold bE at *;refine ⟨by omega,?_⟩;have I:a*x≤9223372036854775807*n:=by
  rcases Int.lt_or_le a 0 with h | h
  ·have:=Int.mul_le_mul_of_nonneg_right (show a≤0 by omega) E;omega
  ·have F:a*x≤a*n:=Int.mul_le_mul_of_nonneg_left f h
   have G:a*n≤9223372036854775807*n:=Int.mul_le_mul_of_nonneg_right o.2 om;omega
 have F:=Int.ediv_mul_add_emod (a*x) n;rcases Int.lt_or_le (a*x / n) 9223372036854775807 with h | h
 ·omega
 ·have G:9223372036854775807*n≤a*x / n*n:=Int.mul_le_mul_of_nonneg_right h om
  omega
theorem A8 (a:Int) (w:World):Calls Tryz.prog 186 #[a] w fun e w'=>e=.returned (.bool (decide (a<0)))∧w=w':=by
 go_enter Tryz.func186,Tryz.ntmps186;go_wp2;go_ret;exact ⟨rfl,rfl⟩
abbrev FY:Value:=.func (.func 186) #[] #[]
theorem zz (v:Value) (l:List Int) (w:World) (Y:lK w v l) (H:∀ x∈l,0≤x) (hn:l.length≤1000000) :
  Calls Tryz.prog 228 #[v,FY] w fun e w'=>e=.returned (.int .i64 (-1))∧Below w w w':=by
 obtain ⟨ad,cap,rfl,G⟩:=Y;have I:=hide G;have J:=hide H;clear G H;go_enter Tryz.func228,Tryz.ntmps228;go_wp2_with fail;go_loopw [8] (fun s wr=>∃ j:Nat,s=.int .i64 j∧j≤l.length∧Below w w wr) (fun s _=>(l.length+5-intOf s).toNat)
 case atStart=>exact ⟨0,rfl,Nat.zero_le _,by (repeat' exact bel)⟩
 case round =>
  obtain ⟨j,rfl,hj,f⟩:=hrel;by_cases h:j<l.length
  ·obtain ⟨x,E⟩:∃ x,l[j]?=some x:=⟨_,List.getElem?_eq_getElem h⟩
   obtain ⟨g,o,rfl,U,F⟩:=I.out j x E;have aa:=J.out x (List.mem_of_getElem? E);have ha:wr.cell? ⟨g,o+j,none⟩=some (.int .i64 x):=by
    rw [f.cell (p:=⟨g,o+j,none⟩) U];exact F
   have V:(0:Int)≤(j:Int):=om;have W:(j:Int)<(l.length:Int):=om;have O:decide (x<0)=false:=ag;clear E F;go_wp2_with fail;refine (A8 x _).mono ?_;rintro e w2 ⟨rfl,rfl⟩;rw [O];go_wp2;go_roundw
   case rel=>exact ⟨j+1,by go_num,by omega,by (repeat' exact bel)⟩
   case measure=>simp [intOf];omega
  ·go_wp2
   all_goals first
    | (exfalso;omega)
    | (go_ret;exact ⟨rfl,by (repeat' exact bel)⟩)
theorem pX (v:Value) (l:List Int) (w:World) (o:lK w v l) (h:∀ x∈l,0≤x) (H:l.length≤1000000) :
  Calls Tryz.prog 185 #[v,FY] w fun e w'=>e=.returned (.bool false)∧Below w w w':=by
 have F:=hide (zz v l w o h H);obtain ⟨I,cap,rfl,G⟩:=o;clear G h;go_enter Tryz.func185,Tryz.ntmps185;go_wp2_with fail;refine F.out.mono ?_;rintro e J ⟨rfl,f⟩;have E:=hide f;clear f;go_wp2;go_ret;exact ⟨rfl,E.out⟩
theorem uW (v:Value) (l:List Int) (w:World) (E:lK w v l) (U:∀ x∈l,0≤x) (hn:l.length≤4096) (h:∀ x∈l,bE x) (J:bE l.sum) (hp:0<l.sum) :
  Calls Tryz.prog 130 #[v] w fun e w'=>e=.returned (.tuple #[l.sum,.int .i64 0])∧Below w w w':=by
 have V:=hide (pX v l w E U om);have H:=hide (fun w E=>rh v l w E h om);rw [(gr J).1,(gr J).2] at H;have W:=hide E;obtain ⟨ad,cap,rfl,Y⟩:=E;obtain ⟨S,O⟩:∃ S,l.sum=S:=⟨_,rfl⟩;rw [O] at hp H ⊢;have hz:(S==0)=false:=ag;clear Y U h J O;go_enter Tryz.func130,Tryz.ntmps130;go_wp2_with fail
 all_goals first
  | (exfalso;omega)
  | skip
 refine V.out.mono ?_;rintro e w1 ⟨rfl,f⟩;have F:Hid (Below w w w1):=ww f;have I:=hide (W.out.call f);have aa:=f.size;clear f;go_wp2_with fail;refine (H.out _ I.out).mono ?_;rintro e w2 ⟨rfl,o⟩;have G:Hid (Below w w w2):=au F.out o;clear o;go_wp2;go_ret2;exact ⟨rfl,G.out⟩
theorem wJ:(Tryz.prog.info? 248).map (fun i=>(i.zero,i.size,i.bytes))=some (some (.agg #[.int .i64 0,.int .i64 0]),2,16):=by kernel_rfl
def kR (n:Nat):Obj:=.cells ((List.replicate n (⟨0,0⟩:Pt)).flatMap xC).toArray 248
theorem wt (n:Nat):(List.replicate n (⟨0,0⟩:Pt)).flatMap xC=List.replicate (n*2) (Value.int .i64 0):=by
 induction n with
 | zero=>rfl
 | succ n f =>
  rw [List.replicate_succ,List.flatMap_cons,f,show (n+1)*2=n*2+1+1 by omega,List.replicate_succ,List.replicate_succ];rfl
theorem aG.new (w:World) (n:Nat):aG (w.alloc (kR n)) w.heap.size (List.replicate n ⟨0,0⟩):=by
 unfold aG kR;rw [heap_alloc_new]
theorem sF (n:Nat) (J:n≤100000) (w:World):(Instr.makeSlice 244 (.int .i64 (n:Int)) (.int .i64 (n:Int))).run Tryz.prog w=.ok (.slice (some ⟨w,0,none⟩) n n) (w.alloc (kR n)):=by
 obtain ⟨G,hi,f,o,E⟩:=info_parts wJ;have F:=run_make (P:=Tryz.prog) w 244 248 G (.agg #[.int .i64 0,.int .i64 0]) Tryz.underlying244 hi f .i64 .i64 n n om om (by rw [E];omega) om;rw [F,o];have e:madeCells (Value.agg #[.int .i64 0,.int .i64 0]).cells (((n:Int)).toNat*2)=((List.replicate n (⟨0,0⟩:Pt)).flatMap xC).toArray:=by
  rw [wt];apply Array.ext
  ·simp [madeCells]
  ·intro i H I
   rcases Nat.mod_two_eq_zero_or_one i with h | h <;> simp [madeCells,Value.cells,h]
 rw [e];simp [kR]
def lr (O:List Int) (D:List Pt) (left:Int) (h o B:Nat) (f w:World):Prop:=
 bo w h O∧aG w o D∧ax w B (sL left) 100∧(h≠o∧h≠B∧o≠B)∧(f.heap.size≤h∧f.heap.size≤o∧f.heap.size≤B)∧Below f f w
theorem lr.call {O:List Int} {D:List Pt} {left:Int} {o E B:Nat} {G w w':World} (h:lr O D left o E B G w) (f:Below w w w'):lr O D left o E B G w':=by
 obtain ⟨H,I,J,U,V,F⟩:=h;exact ⟨H.call f,I.call f,J.call f,U,V,F.trans (f.mono F.size)⟩
theorem pu {f:Array Value} {t:TypeId} {B:Nat} {w:World} (h:ax w B f t) {p:Addr} (o:B≠p.block) (u:Value):ax (w.setCell p u) B f t:=(Below.heap_setCell w p u B o).trans h
theorem ji {D:List Pt} {g:Nat} {w:World} (h:aG w g D) {p:Addr} (f:g≠p.block) (u:Value):aG (w.setCell p u) g D:=(Below.heap_setCell w p u g f).trans h
theorem lr.put {O:List Int} {D:List Pt} {left:Int} {F f B:Nat} {I w:World} (h:lr O D left F f B I w) (j:Nat) (q:Int) (p:Pt) (Y:j<D.length) :
  lr (O.set j q) (D.set j p) left F f B I (((w.setCell ⟨F,j,none⟩ (.int .i64 q)).setCell ⟨f,j*2,none⟩ (.int .i64 p.pos)).setCell ⟨f,j*2+1,none⟩ (.int .i64 p.ab)):=by
 obtain ⟨J,U,V,⟨E,H,G⟩,o,W⟩:=h;refine ⟨((J.set j q).far E _).far E _,(ji U (Ne.symm E) _).put j p Y,pu (pu (pu V (Ne.symm H) _) (Ne.symm G) _) (Ne.symm G) _,⟨E,H,G⟩,o,((W.setCell o.1 _).setCell o.2.1 _).setCell o.2.1 _⟩
theorem lr.left {O:List Int} {D:List Pt} {left:Int} {F G B:Nat} {I w:World} (h:lr O D left F G B I w) (m:Int) :
  lr O D m F G B I ((w.setCell ⟨B,0,none⟩ (.int .i64 (m / 18446744073709551616))).setCell ⟨B,1,none⟩ (.int .u64 (m % 18446744073709551616))):=by
 obtain ⟨J,U,H,⟨W,o,E⟩,f,V⟩:=h;refine ⟨(J.far o _).far o _,ji (ji U E _) E _,?_,⟨W,o,E⟩,f,(V.setCell f.2.2 _).setCell f.2.2 _⟩;unfold ax at H ⊢;simp [World.setCell,Array.getElem?_modify,H]
def Hq (L:Nat) (o:World) (F G:Value) (E:World):Prop:=∃ f h,F=.slice (some ⟨f,0,none⟩) L L∧G=.slice (some ⟨h,0,none⟩) L L∧f≠h∧o.heap.size≤f∧o.heap.size≤h∧bo E f (List.replicate L 0)∧aG E h (List.replicate L ⟨0,0⟩)∧Below o o E
theorem rU (a:Int) (v:Value) (ws:List Int) (w:World) (ha:bE a) (hv:lK w v ws) (hl:∀ x∈ws,0≤x) (hn:ws.length≤4096) (h0:0<ws.sum) (hs:ws.sum<4294967296) :
  Calls Tryz.prog 102 #[a,v] w fun e w'=>(∃ g,e=.returned (.tuple #[.slice (some ⟨g,0,none⟩) ws.length ws.length,.int .i64 0])∧bo w' g (kr a ws)∧w.heap.size≤g)∧Below w w w':=by
 have a8:=tF hl;have b8:∀ x∈ws,bE x:=fun x I=>by have:=hl x I;have:=a8 x I;unfold bE;omega
 have a4:bE ws.sum:=by unfold bE;omega
 have V:=hide (uW v ws w hv hl hn b8 a4 h0);obtain ⟨n,a1⟩:∃ n,ws.sum=n:=⟨_,rfl⟩;obtain ⟨L,hL⟩:∃ n,ws.length=n:=⟨_,rfl⟩;have a5:=hide (fun x (I:x∈ws)=>And.intro (hl x I) (show x≤n by rw [← a1];exact a8 x I));have HV:=hide hv;have HA:=hide ha;have f:=hide (And.intro a1 hL);rw [a1] at h0 hs V;rw [hL] at hn ⊢;have eb:=fun w=>mx L om w
 have ek:=fun w=>sF L om w
 obtain ⟨ad,cap,rfl,hc⟩:=hv;rw [hL] at V HV ⊢;clear hl a8 b8 a4 ha a1 hL hc;go_enter Tryz.func102,Tryz.ntmps102;go_wp2_with fail;refine V.out.mono ?_;rintro e O ⟨rfl,ao⟩;have c8:=hide ao;have b7:=hide (HV.out.call ao);have d4:=ao.size;clear ao;go_upto_region 4 with (fail);go_cut [8,9] (fun s8 s9 wx=>Hq L O s8 s9 wx)
 case first =>
  go_region
  all_goals
   go_wp2_with fail;go_meet
  case rel =>
   refine ⟨O,O.heap.size+1,rfl,rfl,by omega,Nat.le_refl _,by omega,?_,?_,by (repeat' exact bel)⟩
   ·exact (bo.new O L).call ar
   ·have h:=aG.new (O.alloc (dU L)) L
    rw [show (O.alloc (dU L)).heap.size=O.heap.size+1 by simp] at h;exact h.drew
  case rel =>
   refine ⟨O+1,O.heap.size,rfl,rfl,by omega,by omega,Nat.le_refl _,?_,?_,by (repeat' exact bel)⟩
   ·have h:=bo.new (O.alloc (kR L)) L
    rw [show (O.alloc (kR L)).heap.size=O.heap.size+1 by simp] at h;exact h.call ar
   ·exact ((aG.new O L).call ar).drew
 case rest =>
  obtain ⟨F,U,rfl,rfl,aB,eE,eF,a6,a7,aq⟩:=hcut;have H:=Fl HA.out h0 a5.out;have b1:=hide (fun w=>lY a w HA.out);simp only [dK] at b1;have bp:=hide (c8.out.trans (aq.mono d4));have d0:=hide (b7.out.call aq);have fb:=aq.size;have HR:=hide (And.intro a6 a7);have eS:F<wc.heap.size∧U<wc.heap.size:=⟨a6.lt,a7.lt⟩;clear a6 a7 aq;go_wp2_with fail;refine (b1.out _).mono ?_;rintro e w3 ⟨rfl,W⟩;have bs:=hide (bp.out.trans (W.mono (by have:=bp.out.size;omega)));have fd:=W.size;have H0:=hide (show lr (bI 0 (qL a n ws) 0) (bI ⟨0,0⟩ (fy a n ws) 0) (a-((qL a n ws).take 0).sum) F U w3.heap.size w (w3.alloc (.cells #[.int .i64 (a / 18446744073709551616),.int .u64 (a % 18446744073709551616)] 100)) from by
   have cx:Below wc wc (w3.alloc (.cells #[.int .i64 (a / 18446744073709551616),.int .u64 (a % 18446744073709551616)] 100)):=W.alloc W.size _;have eB:=bs.out;refine ⟨?_,?_,?_,⟨aB,by omega,by omega⟩,⟨by omega,by omega,by omega⟩,by (repeat' exact bel)⟩
   ·rw [fD,jE,f.out.2];exact HR.out.1.call cx
   ·rw [fD,eP,f.out.2];exact HR.out.2.call cx
   ·rw [List.take_zero,List.sum_nil,Int.sub_zero];exact ax.new _ _ _)
  clear W HR d0 b7;have eA:w.heap.size≤w3.heap.size:=by have:=bs.out.size;omega
  go_wp2_with fail;go_loopw [38] (fun s wr=>∃ j:Nat,s=.int .i64 j∧j≤L∧lr (bI 0 (qL a n ws) j) (bI ⟨0,0⟩ (fy a n ws) j) (a-((qL a n ws).take j).sum) F U w3.heap.size w wr) (fun s _=>(L+5-intOf s).toNat)
  case atStart=>exact ⟨0,rfl,Nat.zero_le _,H0.out⟩
  case round =>
   obtain ⟨j,rfl,hj,hS⟩:=hrel;have HS:=hide hS;clear hS;by_cases aA:j<L
   ·obtain ⟨x,I⟩:∃ x,ws[j]?=some x:=⟨_,List.getElem?_eq_getElem (by rw [f.out.2];exact aA)⟩
    obtain ⟨a2,a3⟩:=a5.out x (List.mem_of_getElem? I);have ah:=yu (a:=a) (n:=n) I;have bd:=zY (a:=a) (n:=n) I;obtain ⟨q,hq⟩:∃ q,a*x / n=q:=⟨_,rfl⟩;obtain ⟨r,hr⟩:∃ q,a*x % n=q:=⟨_,rfl⟩;have bx:=hide (fun w=>Ch a x n w HA.out a2 a3 h0 hs);rw [hq,hr] at bx;rw [hq] at ah;rw [hr] at bd;have ac:bE q:=H q (List.mem_of_getElem? ah);have bh:=tN HA.out H (by rw [f.out.2];omega) j;have bk:=tN HA.out H (by rw [f.out.2];omega) (j+1);have d2:=zP _ j q ah;obtain ⟨lf,c3⟩:∃ y,a-((qL a n ws).take j).sum=y:=⟨_,rfl⟩;have aa:a-((qL a n ws).take (j+1)).sum=lf + -q:=om;rw [c3] at bh HS;rw [aa] at bk;have ba:cE (-q):=by unfold bE at ac;unfold cE;omega
    have b2:=hide (fun w=>lY q w ac);have b0:=hide (fun w=>BO q w (uD ac) ba);have bl:=hide (fun w=>oT lf (-q) w bh ba bk);simp only [dK] at b2 b0 bl;have dd:=hide aa;have b3:=hide (And.intro ah bd);obtain ⟨gv,ov,rfl,eU,a0⟩:∃ gv ov,ad=some ⟨gv,ov,none⟩∧gv<wr.heap.size∧wr.cell? ⟨gv,ov+j,none⟩=some (.int .i64 x):=by
     obtain ⟨ex,d5,e1,e2⟩:=HV.out;cases e1;obtain ⟨gv,ov,e3,e4,e5⟩:=e2 j x I;have cv:=HS.out.2.2.2.2.2;exact ⟨gv,ov,e3,Nat.lt_of_lt_of_le e4 cv.size,(cv.cell (p:=⟨gv,ov+j,none⟩) e4).trans e5⟩
    have e0:(0:Int)≤(j:Int):=om;have e6:(j:Int)<(L:Int):=om;clear I ah bd hq hr ac bh bk d2 c3 aa ba;go_wp2_with fail;refine (bx.out _).mono ?_;rintro e w4 ⟨rfl,Y⟩;have J:=hide (HS.out.call Y);clear Y a0;have cy:(bI 0 (qL a n ws) j)[j]?=some 0:=by
     have h1:(List.take j (qL a n ws)).length=j:=by rw [List.length_take,jE,f.out.2];omega
     unfold bI;rw [List.getElem?_append_right om,h1,Nat.sub_self,List.getElem?_replicate,if_pos (by rw [jE,f.out.2];omega)]
    have cS:(bI ⟨0,0⟩ (fy a n ws) j)[j]?=some ⟨0,0⟩:=by
     have h1:(List.take j (fy a n ws)).length=j:=by rw [List.length_take,eP,f.out.2];omega
     unfold bI;rw [List.getElem?_append_right om,h1,Nat.sub_self,List.getElem?_replicate,if_pos (by rw [eP,f.out.2];omega)]
    have c0:=J.out.1.cell cy;have f0:=J.out.1.frozen j;obtain ⟨c1,c2⟩:=J.out.2.1.cell cS;have f1:=J.out.2.1.frozen (j*2);have f2:=J.out.2.1.frozen (j*2+1);have es:=hide aB;clear cy cS;have b4:=hide (show lr (bI 0 (qL a n ws) (j+1)) (bI ⟨0,0⟩ (fy a n ws) (j+1)) lf F U w3.heap.size w (((w4.setCell ⟨F,j,none⟩ (.int .i64 q)).setCell ⟨U,j*2,none⟩ (.int .i64 (j:Int))).setCell ⟨U,j*2+1,none⟩ (.int .i64 r)) from by
     have h:=J.out.put j q ⟨(j:Int),r⟩ (by rw [ke _ _ _ (by rw [eP,f.out.2];omega),eP,f.out.2];exact aA);rw [gQ _ _ _ _ b3.out.1,gQ _ _ _ _ b3.out.2] at h;exact h)
    go_wp2_with fail;obtain ⟨W5,cl⟩:∃ W5,(((w4.setCell ⟨F,j,none⟩ (.int .i64 q)).setCell ⟨U,j*2,none⟩ (.int .i64 (j:Int))).setCell ⟨U,j*2+1,none⟩ (.int .i64 r))=W5:=⟨_,rfl⟩;rw [cl] at b4 ⊢;clear cl c0 c1 c2 f0 f1 f2;refine (b2.out _).mono ?_;rintro e w6 ⟨rfl,cp⟩;have dq:=hide (b4.out.call cp);clear cp;go_wp2_with fail;refine (b0.out _).mono ?_;rintro e w7 ⟨rfl,cr⟩;have b5:=hide (dq.out.call cr);clear cr;obtain ⟨⟨k0,k1⟩,k2,k3,k4⟩:=ec b5.out.2.2.1;go_wp2_with fail;refine (bl.out _).mono ?_;rintro e w8 ⟨rfl,cs⟩;have b6:=hide (b5.out.call (cs.mono af |> fun h=>((Below.refl _ _).alloc (Nat.le_refl _) _).trans h));clear cs k0 k1 k2 k3 k4;obtain ⟨⟨k0,k1⟩,k2,k3,k4⟩:=ec b6.out.2.2.1;have ds:=hide (b6.out.left (lf + -q));go_wp2_with fail;go_roundw
    case rel=>exact ⟨j+1,by go_num,by omega,by rw [dd.out];exact ds.out⟩
    case measure=>simp [intOf];omega
   ·obtain rfl:j=L:=om
    obtain ⟨M,hM⟩:∃ M,dn a n ws=M:=⟨_,rfl⟩;have cb:=A5 (a:=a) h0 f.out.1;rw [hM,f.out.2] at cb;have HE:=hide (show lr (qL a n ws) (fy a n ws) M F U w3.heap.size w wr from by
     have h:=HS.out;have e1:bI 0 (qL a n ws) j=qL a n ws:=by have:=fA 0 (qL a n ws);rwa [jE,f.out.2] at this
     have e2:bI ⟨0,0⟩ (fy a n ws) j=fy a n ws:=by have:=fA (⟨0,0⟩:Pt) (fy a n ws);rwa [eP,f.out.2] at this
     have e3:(qL a n ws).take j=qL a n ws:=List.take_of_length_le (by rw [jE,f.out.2];omega);rw [e1,e2,e3] at h;unfold dn at hM;rw [hM] at h;exact h)
    obtain ⟨d1,eD⟩:=cb;have G:bE M:=by unfold bE;omega
    have al:=hide (fun w=>mR M w (uD G));rw [(gr G).1,(gr G).2] at al;simp only [dK] at al;have bX:=hide hM;obtain ⟨m,rfl⟩:=Int.eq_ofNat_of_zero_le d1;obtain ⟨⟨k0,k1⟩,k2,k3,k4⟩:=ec HE.out.2.2.1;clear G hM H;go_wp2_with fail;refine (al.out _).mono ?_;rintro e w4 ⟨rfl,Y⟩;have E:=hide (HE.out.call Y);clear Y k0 k1 k2 k3 k4;go_wp2_with fail;refine (xN U j j (fy a n ws) w4 (nj a n ws) E.out.2.1 (by rw [eP,f.out.2]) om).mono ?_;rintro e w5 ⟨rfl,c5,bb⟩
    have c9:=hide (show bo w5 F (fV (qL a n ws) (((iN (fy a n ws)).take m).take 0))∧aG w5 U (iN (fy a n ws))∧Below w w w5 from
     ⟨by rw [List.take_zero,vW];exact (bb.block F E.out.1.lt aB).trans E.out.1,c5,E.out.2.2.2.2.2.trans (bb.below E.out.2.2.2.2.1.2.1 E.out.2.2.2.2.2.size)⟩)
    clear c5 bb;have a9:(dn a n ws).toNat=m:=by rw [bX.out];exact Int.toNat_natCast m
    have bt:=hide (fun (k:Nat) (p:Pt) (hk:((iN (fy a n ws)).take (dn a n ws).toNat)[k]?=some p)=>C3 (a:=a) h0 f.out.1 (nA (nj a n ws)) (j:=k) (p:=p) hk);rw [a9] at bt;have dY:=hide (show (iN (fy a n ws)).length=j by rw [(lw _).length_eq,eP,f.out.2]);have dg:=hide (show kr a ws=fV (qL a n ws) ((iN (fy a n ws)).take m) by unfold kr xZ;rw [f.out.1,a9]);clear a9;have bw:=hide E.out.2.2.2.2.1;clear HE E HS al bX;go_wp2_with fail;go_loopw [100] (fun s wr=>∃ k:Nat,s=.int .i64 k∧k≤m∧bo wr F (fV (qL a n ws) (((iN (fy a n ws)).take m).take k))∧aG wr U (iN (fy a n ws))∧Below w w wr) (fun s _=>(m+5-intOf s).toNat)
    case atStart=>exact ⟨0,rfl,Nat.zero_le _,c9.out⟩
    case round =>
     obtain ⟨k,rfl,hk,ca,cc,b9⟩:=hrel;have o:=hide (And.intro ca (And.intro cc b9));clear ca cc b9;by_cases aA:k<m
     ·obtain ⟨p,hp⟩:∃ p,(iN (fy a n ws))[k]?=some p:=⟨_,List.getElem?_eq_getElem (by rw [dY.out];omega)⟩
      have bc:((iN (fy a n ws)).take m)[k]?=some p:=by rw [List.getElem?_take,if_pos aA];exact hp
      obtain ⟨x,I,c4,c6,hg,hr⟩:=bt.out k p bc;rw [f.out.2] at c6;obtain ⟨a2,a3⟩:=a5.out x (List.mem_of_getElem? I);have hy:=tG HA.out a2 a3 h0 hr;obtain ⟨y,c7⟩:∃ y,a*x / n=y:=⟨_,rfl⟩;rw [c7] at hg hy;obtain ⟨c1,c2⟩:=o.out.2.1.cell hp;obtain ⟨fi,ab⟩:=p;simp only at c4 c6 hg c1 c2;obtain ⟨q,rfl⟩:=Int.eq_ofNat_of_zero_le c4;rw [show ((q:Int)).toNat=q from rfl] at hg;have c0:=o.out.1.cell hg;have f0:=o.out.1.frozen q;have HN:=hide (show bo ((wr.setCell ⟨F,q,none⟩ (.int .i64 (y+1))).alloc (.cells #[.int .i64 (q:Int),ab] 248)) F (fV (qL a n ws) (((iN (fy a n ws)).take m).take (k+1))) from by
       have h:=o.out.1.set q (y+1);rw [tv _ _ _ hg] at h;rw [List.take_add_one,bc,Option.toList_some,sM];exact h.call ((Below.refl _ _).alloc (Nat.le_refl _) _))
      have eL:=o.out.1.lt;have ea:=o.out.2.1.lt;unfold bE at hy;obtain ⟨e9,fa⟩:=hy;have ac:(0:Int)≤(q:Int):=om;have e7:(0:Int)≤(k:Int):=om;have e8:(k:Int)<(m:Int):=om;have d3:-9223372036854775808≤y∧y≤9223372036854775806:=by
       have:=gN HA.out a2 a3 h0;unfold bE at this;omega
      obtain ⟨el,em⟩:=d3;clear hp bc I hg hr c7;go_wp2_with fail;go_roundw
      case rel=>exact ⟨k+1,by go_num,by omega,HN.out,(ji o.out.2.1 (Ne.symm aB) _).call ((Below.refl _ _).alloc (Nat.le_refl _) _),(o.out.2.2.setCell bw.out.1 _).alloc (by simp;exact o.out.2.2.size) _⟩
      case measure=>simp [intOf];omega
     ·obtain rfl:k=m:=om
      have HF:=hide (show bo wr F (kr a ws) by
       have h:=o.out.1;rw [List.take_of_length_le (by rw [List.length_take];omega)] at h;rw [dg.out];exact h)
      go_wp2
      all_goals first
       | (exfalso;omega)
       | (go_ret2;exact ⟨⟨F,rfl,HF.out,bw.out.1⟩,o.out.2.2⟩)
end
end Go.Proofs.YtpebkobmhhnojaaGreatDoor
