/- Lemmas. -/
import Derived.Test.YtjhhmeoibfdcmaaGreatWr18
set_option linter.unusedSimpArgs false
set_option linter.unusedVariables false
set_option maxRecDepth 100000
set_option maxHeartbeats 12800000
namespace Go.Proofs.YtjhhmeoibfdcmaaGreat
section
open Go.RowKit Qd
theorem xW {α:Type} (l:List α) (K:α→Bool) (m n:Nat) (h:∀ (p:Nat) (u:α),l[p]?=some u→(K u=true↔m≤p∧p<m+n)):l.filter K=(l.drop m).take n:=by
 induction l generalizing m n with
 | nil=>simp
 | cons x l E =>
  have F:=h 0 x ac;have o:∀ (p:Nat) (u:α),l[p]?=some u→(K u=true↔m≤p+1∧p+1<m+n):=fun p u f=>h (p+1) u (by simpa using f)
  cases m with
  | zero =>
   cases n with
   | zero =>
    have:K x=false:=by cases G:K x <;> simp_all
    rw [List.filter_cons_of_neg (by simp [this]),E 0 0 (fun p u f=>by rw [o p u f];omega)];simp
   | succ n =>
    have:K x=true:=F.2 om;rw [List.filter_cons_of_pos this,E 0 n (fun p u f=>by rw [o p u f];omega)];simp
  | succ m =>
   have:¬ K x=true:=fun G=>by have:=F.1 G;omega
   rw [List.filter_cons_of_neg this,E m n (fun p u f=>by rw [o p u f];omega)];simp
theorem tN {c:ar} {d lv:Int} (f:1≤lv) (h:lv≤5):kU c d lv=bQ c d:=by
 unfold kU;cases o:c.okB
 ·simp [bQ,o]
 ·simp [f,h]
theorem vL (c:ar) (lv f:Int) (E p:Nat) (u:Un) (h:(br c lv f E)[p]?=some u):∃ a i:Nat,a<E∧i<aR c (f+a) lv∧u=⟨lv,f+a,(i:Int)+1⟩∧p=(br c lv f a).length+i:=by
 induction E with
 | zero=>simp [br] at h
 | succ n J =>
  by_cases I:p<(br c lv f n).length
  ·rw [br,List.getElem?_append_left I] at h
   obtain ⟨a,i,F,o,G,H⟩:=J h;exact ⟨a,i,by omega,o,G,H⟩
  ·rw [br,List.getElem?_append_right om] at h
   obtain ⟨F,o⟩:=oM h;exact ⟨n,p-(br c lv f n).length,by omega,F,o,by omega⟩
theorem rW (c:ar) (lv f:Int) (o a i:Nat) (G:a<o) (hi:i<aR c (f+a) lv):(br c lv f o)[(br c lv f a).length+i]?=some ⟨lv,f+a,(i:Int)+1⟩:=by
 induction o with
 | zero=>omega
 | succ n F =>
  by_cases h:a<n
  ·have E:=sS c lv f a n i h hi
   rw [List.length_append,gV] at E;rw [br,List.getElem?_append_left E];exact F h
  ·obtain rfl:a=n:=om
   rw [br,List.getElem?_append_right om,Nat.add_sub_cancel_left];exact tj _ _ _ _ hi
def eH (a b u:Un):Bool:=!((u.yr==a.yr&&decide (u.ix<a.ix)) || (u.yr==b.yr&&decide (b.ix<u.ix)))
theorem vf (a b u:Un):eH a b u=true↔¬ (u.yr=a.yr∧u.ix<a.ix)∧¬ (u.yr=b.yr∧b.ix<u.ix):=by
 simp only [eH,Bool.not_eq_true',Bool.or_eq_false_iff,Bool.and_eq_false_imp,beq_iff_eq,decide_eq_false_iff_not,not_and]
noncomputable def bg (c:ar) (lv:Int) (s:Sp):Int:=if c.okB=true∧(1≤lv∧lv≤5)∧s.a≤s.b then (if kU c s.a lv=0 then kU c s.b lv else kU c s.a lv) else 1
noncomputable def cR (c:ar) (lv:Int) (s:Sp):Nat:=(aN c s.b-aN c s.a+1).toNat
noncomputable def be (c:ar) (lv:Int) (s:Sp):List Un:=if bg c lv s=0 then (br c lv (aN c s.a) (cR c lv s)).filter (eH (mV c s.a lv) (mV c s.b lv)) else []
theorem eq {c:ar} {lv:Int} {s:Sp} (h:bg c lv s=0):c.okB=true∧1≤lv∧lv≤5∧s.a≤s.b∧kU c s.a lv=0∧kU c s.b lv=0:=by
 unfold bg at h
 split at h
 ·rename_i hk
  split at h
  ·rename_i h1;exact ⟨hk.1,hk.2.1.1,hk.2.1.2,hk.2.2,h1,h⟩
  ·exact absurd h (by assumption)
 ·omega
theorem zr {c:ar} {d n:Int} (h:bQ c d=0) (k:bQ c n=0) (S:d≤n):aN c d≤aN c n:=by
 obtain ⟨H,_,F,_⟩:=mU h;obtain ⟨_,_,G,_⟩:=mU k;have E:c.Ok:=by simpa [ar.okB] using H
 have I:=(bo F.1).2;have J:=(bo G.1).2;rcases Int.lt_or_le (aN c n) (aN c d) with o | f
 ·have:=dl c E (y:=aN c n) (z:=aN c d) om o om
  have O:=F.2.1;have R:=G.2.2;omega
 ·exact f
theorem gU {c:ar} {lv:Int} {s:Sp} (h:bg c lv s=0) :
  0<cR c lv s∧aN c s.a+(cR c lv s:Int)=aN c s.b+1∧(∀ j:Nat,j<cR c lv s→aI c lv (aN c s.a+j)=0) ∧
  ∃ m n:Nat,0<n∧be c lv s=((br c lv (aN c s.a) (cR c lv s)).drop m).take n∧m+n≤(br c lv (aN c s.a) (cR c lv s)).length ∧
   (br c lv (aN c s.a) (cR c lv s))[m]?=some (mV c s.a lv)∧(br c lv (aN c s.a) (cR c lv s))[m+n-1]?=some (mV c s.b lv):=by
 obtain ⟨hk,T,U,W,ha,hb⟩:=eq h;obtain ⟨_,_,_,sa,_,ya,fa⟩:=fh ha;obtain ⟨_,_,_,sb,_,yb,fb⟩:=fh hb;have hm:=zr sa sb W;obtain ⟨o,ea,ca,al,aq⟩:=qc ha;obtain ⟨H,eb,cb,J,O⟩:=qc hb;obtain ⟨ab,_,_,_,ay,_,aA⟩:=a9 fa;obtain ⟨_,_,_,_,_,aF,aB⟩:=a9 fb;obtain ⟨f,V⟩:∃ f,cR c lv s=f+1:=⟨(aN c s.b-aN c s.a).toNat,by unfold cR;omega⟩;have hL:be c lv s=(br c lv (aN c s.a) (cR c lv s)).filter (eH (mV c s.a lv) (mV c s.b lv)):=by rw [be,if_pos h]
 have hy:aN c s.a+(f:Int)=aN c s.b:=by unfold cR at V;omega
 rw [hL,V];have hF:∀ j:Nat,j<f+1→aI c lv (aN c s.a+j)=0:=fun j hj=>jI ab T U om om
 have c0:(br c lv (aN c s.a) 0).length=0:=rfl;have c1:(br c lv (aN c s.a) 1).length=aR c (aN c s.a) lv:=by simp [br,gV]
 have cl:(br c lv (aN c s.a) (f+1)).length=(br c lv (aN c s.a) f).length+aR c (aN c s.b) lv:=by rw [br,List.length_append,gV,hy]
 have E:∀ a:Nat,0<a→o<(br c lv (aN c s.a) a).length:=fun a I=>by
  have:=pz c lv (aN c s.a) 1 (a-1);rw [show 1+(a-1)=a by omega] at this;omega
 have a2:o≤(br c lv (aN c s.a) f).length+H:=by
  by_cases I:0<f
  ·have:=E f I;omega
  ·obtain rfl:f=0:=om
   have ah:aN c s.b=aN c s.a:=om;rw [ah] at J O cb;rcases Nat.lt_or_ge H o with a1 | a0
   ·have m1:=dj c (aN c s.a) ya.1 lv T U (show H+1≤o by omega) om
    have m2:=cn c (aN c s.a) ya.1 m1 (cT c _ ya.1 lv T U o om);omega
   ·omega
 refine ⟨by omega,by omega,hF,o,(br c lv (aN c s.a) f).length+H+1-o,by omega,?_,by omega,?_,?_⟩
 ·refine xW _ _ _ _ fun p u hp=>?_
  obtain ⟨a,i,l1,l2,rfl,ad⟩:=vL c lv _ _ p u hp;rw [vf,ea,eb];simp only;have R:a=0∨o<(br c lv (aN c s.a) a).length:=by
   by_cases I:0<a
   ·exact .inr (E a I)
   ·left;omega
  have S:a=f∨(br c lv (aN c s.a) a).length+i<(br c lv (aN c s.a) f).length:=by
   by_cases I:a=f
   ·exact .inl I
   ·have:=sS c lv (aN c s.a) a f i om l2
    rw [List.length_append,gV] at this;exact .inr this
  have g3:a=0→(br c lv (aN c s.a) a).length=0:=by rintro rfl;exact c0
  have g4:a=f→(br c lv (aN c s.a) a).length=(br c lv (aN c s.a) f).length:=by rintro rfl;rfl
  generalize (br c lv (aN c s.a) a).length=X at *;generalize (br c lv (aN c s.a) f).length=Y at *;generalize aN c s.a=F at *;generalize aN c s.b=G at *;clear hp hF E cl c0 c1 hL V;subst ad;have e1:(F+(a:Int)=F)↔a=0:=om;have e2:(F+(a:Int)=G)↔a=f:=om;rw [e1,e2];rcases R with R | R <;> rcases S with S | S <;> omega
 ·rw [ea]
  have:=rW c lv (aN c s.a) (f+1) 0 o om (by simpa using ca);simpa [br] using this
 ·rw [eb]
  have:=rW c lv (aN c s.a) (f+1) f H om (by rw [hy];exact cb);rw [hy] at this;rw [show o+((br c lv (aN c s.a) f).length+H+1-o)-1=(br c lv (aN c s.a) f).length+H by omega];exact this
theorem iZ {c:ar} {lv:Int} {s:Sp} (h:bg c lv s=0) :
  nY c (be c lv s)∧(be c lv s)[0]?=some (mV c s.a lv)∧(be c lv s)[(be c lv s).length-1]?=some (mV c s.b lv)∧0<(be c lv s).length∧(be c lv s).length≤60*cR c lv s:=by
 obtain ⟨U,W,E,m,n,S,F,H,J,O⟩:=gU h;obtain ⟨T,k1,k2⟩:=Ah c lv (aN c s.a) (cR c lv s) U E;have V:=(ui c lv (aN c s.a) (cR c lv s) E).1;have G:(be c lv s).length=n:=by rw [F,List.length_take,List.length_drop];omega
 have f:∀ j,j<n→(be c lv s)[j]?=(br c lv (aN c s.a) (cR c lv s))[m+j]?:=fun j R=>by
  rw [F,List.getElem?_take,if_pos R,List.getElem?_drop]
 refine ⟨?_,?_,?_,by omega,by omega⟩
 ·intro j u v I o
  have j1:j+1<n:=by rw [← G];exact (List.getElem?_eq_some_iff.1 o).1
  rw [f j om] at I;rw [f (j+1) j1] at o;exact T (m+j) u v I o
 ·rw [f 0 S];exact J
 ·rw [G,f (n-1) om,← O]
  congr 1;omega
theorem AT {c:ar} {lv:Int} {s:Sp} (h:bg c lv s=0) (hs:s.b-s.a≤2000):cR c lv s≤7:=by
 obtain ⟨hk,h1,h5,E,I,J⟩:=eq h;obtain ⟨_,_,_,R,_,F,fa⟩:=fh I;obtain ⟨_,_,_,S,_,G,fb⟩:=fh J;have hm:=zr R S E;obtain ⟨n0,hy,_⟩:=gU h;obtain ⟨o,T,U⟩:=bo F.1;obtain ⟨_,V,W⟩:=bo G.1;rcases Nat.lt_or_ge 7 (cR c lv s) with O | f
 ·have f:aN c s.a+7≤aN c s.b:=om
  have H:=ky c (aN c s.a) o om (aN c s.b-1-aN c s.a).toNat om;rw [show aN c s.a+((aN c s.b-1-aN c s.a).toNat:Int)=aN c s.b-1 by omega] at H;have e2:=dl c o (y:=aN c s.b-1) (z:=aN c s.b) om om om;have:=F.2.2;have:=G.2.1;omega
 ·exact f
end
section
open Go.RowKit Go.Shelf Qd
theorem ap.fz {w:World} {B:Nat} {f:Array Value} {t:TypeId} (h:ap w B f t) (i:Nat):w.frozen? ⟨B,i,none⟩=false:=by simp [World.frozen?,show w.heap[B]?=_ from h]
def lP (c:ar) (s:Sp) (B:Nat) (w:World):Prop:=ap w B (bY c) 24∧ap w (B+1) #[s.a,s.b] 45∧ap w (B+2) #[.slice none 0 0] 115∧ap w (B+3) #[.int .i64 0] 35
theorem lP.call {c:ar} {s:Sp} {B:Nat} {w o:World} (h:lP c s B w) (f:Below w w o):lP c s B o:=⟨h.1.call f,h.2.1.call f,h.2.2.1.call f,h.2.2.2.call f⟩
theorem lP.alloc {c:ar} {s:Sp} {B:Nat} {w:World} (h:lP c s B w) (o:Obj):lP c s B (w.alloc o):=⟨h.1.alloc o,h.2.1.alloc o,h.2.2.1.alloc o,h.2.2.2.alloc o⟩
theorem lP.lt {c:ar} {s:Sp} {B:Nat} {w:World} (h:lP c s B w):B+3<w.heap.size:=h.2.2.2.lt
theorem lP.sp {c:ar} {s:Sp} {B:Nat} {w:World} (h:lP c s B w):w.cell? ⟨B+1,0,none⟩=some (.int .i64 s.a)∧w.cell? ⟨B+1,1,none⟩=some (.int .i64 s.b):=⟨h.2.1.cell 0,h.2.1.cell 1⟩
theorem lP.res {c:ar} {s:Sp} {B:Nat} {w:World} (h:lP c s B w):(w.cell? ⟨B+2,0,none⟩=some (.slice none 0 0)∧w.cell? ⟨B+3,0,none⟩=some (.int .i64 0))∧w.frozen? ⟨B+2,0,none⟩=false∧w.frozen? ⟨B+3,0,none⟩=false:=⟨⟨h.2.2.1.cell 0,h.2.2.2.cell 0⟩,h.2.2.1.fz 0,h.2.2.2.fz 0⟩
theorem jT (c:ar) (s:Sp) (w:World):lP c s w.heap.size ((((w.alloc (.cells (bY c) 24)).alloc (.cells #[s.a,s.b] 45)).alloc (.cells #[.slice none 0 0] 115)).alloc (.cells #[.int .i64 0] 35)):=by
 refine ⟨(((ap.new w _ _).alloc _).alloc _).alloc _,?_,?_,?_⟩
 ·have:=((ap.new (w.alloc (.cells (bY c) 24)) #[s.a,s.b] 45).alloc (.cells #[.slice none 0 0] 115)).alloc (.cells #[.int .i64 0] 35)
  simpa using this
 ·have:=(ap.new ((w.alloc (.cells (bY c) 24)).alloc (.cells #[s.a,s.b] 45)) #[.slice none 0 0] 115).alloc (.cells #[.int .i64 0] 35)
  simpa using this
 ·have:=ap.new (((w.alloc (.cells (bY c) 24)).alloc (.cells #[s.a,s.b] 45)).alloc (.cells #[.slice none 0 0] 115)) #[.int .i64 0] 35
  simpa using this
theorem lP.fin {c:ar} {s:Sp} {B:Nat} {w:World} (h:lP c s B w) (v:Value) (e:Int):ap ((w.setCell ⟨B+1+1,0,none⟩ v).setCell ⟨B+1+1+1,0,none⟩ (.int .i64 e)) (B+1+1) #[v] 115∧ap ((w.setCell ⟨B+1+1,0,none⟩ v).setCell ⟨B+1+1+1,0,none⟩ (.int .i64 e)) (B+1+1+1) #[e] 35:=
 ⟨(h.2.2.1.set0 v).far (p:=⟨B+1+1+1,0,none⟩) ac _,(h.2.2.2.far (p:=⟨B+1+1,0,none⟩) ac v).set0 _⟩
theorem iD {f:Array Value} {W:World} {h o:Nat} {v:Value} {e:Int} (I:f[6]?=some (.pointer (some ⟨h,0,none⟩))) (J:f[7]?=some (.pointer (some ⟨o,0,none⟩)))
  (G:ap W h #[v] 115) (H:ap W o #[e] 35) :
  (results Tryz.f95 f).run Tryz.prog W=.ok (.tuple #[v,e]) W:=by
 have E:=G.cell 0;have F:=H.cell 0;simp at E F;simp [results,Tryz.results95,go_sem,I,J,E,F]
theorem AH (c:ar) (lv:Int) (s:Sp) (w:World) (I:c.name.size≤1000) (F:c.okB=false) :
  Calls Tryz.prog 95 #[av c,lv,bI s] w fun e w'=>e=.returned (.tuple #[.slice none 0 0,.int .i64 1])∧Below w w w':=by
 have G:=hide (show co c=1 by simp [co,F]);clear F;simp only [av,bI];go_enter Tryz.func95,Tryz.ntmps95;go_wp2_with fail;refine (bs c _ I).mono ?_;rintro e o ⟨rfl,h⟩;rw [G.out];have f:=hide ((jT c s w).call (by exact h));have E:=hide (show Below w w o by (repeat' exact bel));clear h;obtain ⟨q0,q1,q2,q3,q4,q5,q6,q7,q8,q9,U,V,W,ab⟩:=f.out.1.cal;obtain ⟨p0,p1⟩:=f.out.sp;obtain ⟨⟨r0,r1⟩,f0,f1⟩:=f.out.res;have J:=f.out.lt;have O:w.heap.size<o.heap.size:=om;have R:w.heap.size+1<o.heap.size:=om;have S:w.heap.size+1+1<o.heap.size:=om;have T:w.heap.size+1+1+1<o.heap.size:=om;go_wp2;exact bodyPost_ret (v:=.tuple #[.slice none 0 0,.int .i64 1]) (iD rfl rfl ((f.out.fin (.slice none 0 0) 1).1) ((f.out.fin (.slice none 0 0) 1).2)) rfl ⟨rfl,by have H:=E.out;exact ((H.setCell (by first | (simp;done) | (simp;omega)) _).setCell (by first | (simp;done) | (simp;omega)) _)⟩
theorem EJ (c:ar) (lv:Int) (s:Sp) (w:World) (R:c.name.size≤1000) (G:c.okB=true) (H:¬ (1≤lv∧lv≤5)) :
  Calls Tryz.prog 95 #[av c,lv,bI s] w fun e I=>e=.returned (.tuple #[.slice none 0 0,.int .i64 1])∧Below w w I:=by
 have F:decide (1≤lv∧lv≤5)=false:=by simpa using H
 clear H;have J:=hide (show co c=0 by simp [co,G]);clear G;simp only [av,bI];go_enter Tryz.func95,Tryz.ntmps95;go_wp2_with fail;refine (bs c _ R).mono ?_;rintro e o ⟨rfl,h⟩;rw [J.out];have f:=hide ((jT c s w).call (by exact h));have E:=hide (show Below w w o by (repeat' exact bel));clear h;obtain ⟨q0,q1,q2,q3,q4,q5,q6,q7,q8,q9,ab,ad,ah,al⟩:=f.out.1.cal;obtain ⟨p0,p1⟩:=f.out.sp;obtain ⟨⟨r0,r1⟩,f0,f1⟩:=f.out.res;have S:=f.out.lt;have T:w.heap.size<o.heap.size:=om;have U:w.heap.size+1<o.heap.size:=om;have V:w.heap.size+1+1<o.heap.size:=om;have W:w.heap.size+1+1+1<o.heap.size:=om;go_wp2_with (go_at_call 51;refine (dE _ _).mono ?_;rintro e I ⟨rfl,rfl⟩;rw [F]);exact bodyPost_ret (v:=.tuple #[.slice none 0 0,.int .i64 1]) (iD rfl rfl ((f.out.fin (.slice none 0 0) 1).1) ((f.out.fin (.slice none 0 0) 1).2)) rfl ⟨rfl,by have O:=E.out;exact ((O.setCell (by first | (simp;done) | (simp;omega)) _).setCell (by first | (simp;done) | (simp;omega)) _)⟩
theorem Cy (c:ar) (lv:Int) (s:Sp) (w:World) (R:c.name.size≤1000) (G:c.okB=true) (H:1≤lv∧lv≤5) (hs:s.b<s.a) :
  Calls Tryz.prog 95 #[av c,lv,bI s] w fun e I=>e=.returned (.tuple #[.slice none 0 0,.int .i64 1])∧Below w w I:=by
 have F:decide (1≤lv∧lv≤5)=true:=by simpa using H
 clear H;have J:=hide (show co c=0 by simp [co,G]);clear G;simp only [av,bI];go_enter Tryz.func95,Tryz.ntmps95;go_wp2_with fail;refine (bs c _ R).mono ?_;rintro e o ⟨rfl,h⟩;rw [J.out];have f:=hide ((jT c s w).call (by exact h));have E:=hide (show Below w w o by (repeat' exact bel));clear h;obtain ⟨q0,q1,q2,q3,q4,q5,q6,q7,q8,q9,ab,ad,ah,al⟩:=f.out.1.cal;obtain ⟨p0,p1⟩:=f.out.sp;obtain ⟨⟨r0,r1⟩,f0,f1⟩:=f.out.res;have S:=f.out.lt;have T:w.heap.size<o.heap.size:=om;have U:w.heap.size+1<o.heap.size:=om;have V:w.heap.size+1+1<o.heap.size:=om;have W:w.heap.size+1+1+1<o.heap.size:=om;go_wp2_with (go_at_call 51;refine (dE _ _).mono ?_;rintro e I ⟨rfl,rfl⟩;rw [F]);exact bodyPost_ret (v:=.tuple #[.slice none 0 0,.int .i64 1]) (iD rfl rfl ((f.out.fin (.slice none 0 0) 1).1) ((f.out.fin (.slice none 0 0) 1).2)) rfl ⟨rfl,by have O:=E.out;exact ((O.setCell (by first | (simp;done) | (simp;omega)) _).setCell (by first | (simp;done) | (simp;omega)) _)⟩
theorem FX (c:ar) (lv:Int) (s:Sp) (w:World) (hn:c.name.size≤1000) (hk:c.okB=true) (hl:1≤lv∧lv≤5) (hs:s.a≤s.b) (h1:¬ kU c s.a lv=0) :
  Calls Tryz.prog 95 #[av c,lv,bI s] w fun e w'=>e=.returned (.tuple #[.slice none 0 0,kU c s.a lv])∧Below w w w':=by
 have ad:decide (1≤lv∧lv≤5)=true:=by simpa using hl
 have ah:(kU c s.a lv != 0)=true:=by simpa using h1
 clear hl h1;have HO:=hide (show co c=0 by simp [co,hk]);clear hk;simp only [av,bI];go_enter Tryz.func95,Tryz.ntmps95;go_wp2_with fail;refine (bs c _ hn).mono ?_;rintro e U ⟨rfl,E⟩;rw [HO.out];have h:=hide ((jT c s w).call (by exact E));have W:=hide (show Below w w U by (repeat' exact bel));clear E;obtain ⟨q0,q1,q2,q3,q4,q5,q6,q7,q8,q9,O,R,S,T⟩:=h.out.1.cal;obtain ⟨p0,p1⟩:=h.out.sp;obtain ⟨⟨r0,r1⟩,f0,f1⟩:=h.out.res;have F:=h.out.lt;have G:w.heap.size<U.heap.size:=om;have H:w.heap.size+1<U.heap.size:=om;have I:w.heap.size+1+1<U.heap.size:=om;have J:w.heap.size+1+1+1<U.heap.size:=om;have al:s.a≤s.b:=hs;go_wp2_with (go_at_call 51;refine (dE _ _).mono ?_;rintro e w' ⟨rfl,rfl⟩;rw [ad]);refine (kY c s.a lv _ hn).mono ?_;rintro e V ⟨rfl,o⟩;clear q0 q1 q2 q3 q4 q5 q6 q7 q8 q9 O R S T;clear p0 p1 r0 r1 f0 f1;have f:=hide (h.out.call o);have ab:=hide (W.out.trans (o.mono om));clear o F G H I J;obtain ⟨q0,q1,q2,q3,q4,q5,q6,q7,q8,q9,O,R,S,T⟩:=f.out.1.cal;obtain ⟨p0,p1⟩:=f.out.sp;obtain ⟨⟨r0,r1⟩,f0,f1⟩:=f.out.res;have F:=f.out.lt;have G:w.heap.size<V.heap.size:=om;have H:w.heap.size+1<V.heap.size:=om;have I:w.heap.size+1+1<V.heap.size:=om;have J:w.heap.size+1+1+1<V.heap.size:=om;go_wp2;exact bodyPost_ret (v:=.tuple #[.slice none 0 0,kU c s.a lv]) (iD rfl rfl ((f.out.fin (.slice none 0 0) (kU c s.a lv)).1.alloc _) ((f.out.fin (.slice none 0 0) (kU c s.a lv)).2.alloc _)) rfl ⟨rfl,by have hB:=ab.out;exact (((hB.setCell (by first | (simp;done) | (simp;omega)) _).setCell (by first | (simp;done) | (simp;omega)) _).alloc ae _)⟩
theorem Di (c:ar) (lv:Int) (s:Sp) (w:World) (hn:c.name.size≤1000) (hk:c.okB=true) (hl:1≤lv∧lv≤5) (hs:s.a≤s.b) (h1:kU c s.a lv=0) (h2:¬ kU c s.b lv=0) :
  Calls Tryz.prog 95 #[av c,lv,bI s] w fun e w'=>e=.returned (.tuple #[.slice none 0 0,kU c s.b lv])∧Below w w w':=by
 have al:decide (1≤lv∧lv≤5)=true:=by simpa using hl
 have aq:(kU c s.b lv != 0)=true:=by simpa using h2
 have H1:=hide h1;clear hl h2 h1;have HO:=hide (show co c=0 by simp [co,hk]);clear hk;simp only [av,bI];go_enter Tryz.func95,Tryz.ntmps95;go_wp2_with fail;refine (bs c _ hn).mono ?_;rintro e W ⟨rfl,V⟩;rw [HO.out];have h:=hide ((jT c s w).call (by exact V));have ab:=hide (show Below w w W by (repeat' exact bel));clear V;obtain ⟨q0,q1,q2,q3,q4,q5,q6,q7,q8,q9,J,O,R,S⟩:=h.out.1.cal;obtain ⟨p0,p1⟩:=h.out.sp;obtain ⟨⟨r0,r1⟩,f0,f1⟩:=h.out.res;have E:=h.out.lt;have F:w.heap.size<W.heap.size:=om;have G:w.heap.size+1<W.heap.size:=om;have H:w.heap.size+1+1<W.heap.size:=om;have I:w.heap.size+1+1+1<W.heap.size:=om;have ay:s.a≤s.b:=hs;go_wp2_with (go_at_call 51;refine (dE _ _).mono ?_;rintro e w' ⟨rfl,rfl⟩;rw [al]);refine (kY c s.a lv _ hn).mono ?_;rintro e w2 ⟨rfl,T⟩;clear q0 q1 q2 q3 q4 q5 q6 q7 q8 q9 J O R S;clear p0 p1 r0 r1 f0 f1;have o:=hide (h.out.call T);have ad:=hide (ab.out.trans (T.mono om));clear T E F G H I;obtain ⟨q0,q1,q2,q3,q4,q5,q6,q7,q8,q9,J,O,R,S⟩:=o.out.1.cal;obtain ⟨p0,p1⟩:=o.out.sp;obtain ⟨⟨r0,r1⟩,f0,f1⟩:=o.out.res;have E:=o.out.lt;have F:w.heap.size<w2.heap.size:=om;have G:w.heap.size+1<w2.heap.size:=om;have H:w.heap.size+1+1<w2.heap.size:=om;have I:w.heap.size+1+1+1<w2.heap.size:=om;rw [H1.out];go_wp2_with fail;refine (kY c s.b lv _ hn).mono ?_;rintro e w3 ⟨rfl,U⟩;clear q0 q1 q2 q3 q4 q5 q6 q7 q8 q9 J O R S;clear p0 p1 r0 r1 f0 f1;have f:=hide ((o.out.alloc _).call U);have ah:=hide ((ad.out.alloc om _).trans (U.mono ae));clear U E F G H I;obtain ⟨q0,q1,q2,q3,q4,q5,q6,q7,q8,q9,J,O,R,S⟩:=f.out.1.cal;obtain ⟨p0,p1⟩:=f.out.sp;obtain ⟨⟨r0,r1⟩,f0,f1⟩:=f.out.res;have E:=f.out.lt;have F:w.heap.size<w3.heap.size:=om;have G:w.heap.size+1<w3.heap.size:=om;have H:w.heap.size+1+1<w3.heap.size:=om;have I:w.heap.size+1+1+1<w3.heap.size:=om;go_wp2;exact bodyPost_ret (v:=.tuple #[.slice none 0 0,kU c s.b lv]) (iD rfl rfl ((f.out.fin (.slice none 0 0) (kU c s.b lv)).1.alloc _) ((f.out.fin (.slice none 0 0) (kU c s.b lv)).2.alloc _)) rfl ⟨rfl,by have hB:=ah.out;exact (((hB.setCell (by first | (simp;done) | (simp;omega)) _).setCell (by first | (simp;done) | (simp;omega)) _).alloc ae _)⟩
theorem uk (c:ar) (lv:Int) (s:Sp) (w:World) (E:c.name.size≤1000) (h:¬ bg c lv s=0) :
  Calls Tryz.prog 95 #[av c,lv,bI s] w fun e H=>e=.returned (.tuple #[.slice none 0 0,bg c lv s])∧Below w w H:=by
 unfold bg at h ⊢;by_cases f:c.okB=true
 ·by_cases o:1≤lv∧lv≤5
  ·by_cases G:s.a≤s.b
   ·rw [if_pos ⟨f,o,G⟩] at h ⊢
    by_cases F:kU c s.a lv=0
    ·rw [if_pos F] at h ⊢
     exact Di c lv s w E f o G F h
    ·rw [if_neg F]
     exact FX c lv s w E f o G F
   ·rw [if_neg (fun x=>G x.2.2)]
    exact Cy c lv s w E f o om
  ·rw [if_neg (fun x=>o x.2.1)]
   exact EJ c lv s w E f o
 ·rw [if_neg (fun x=>f x.1)]
  exact AH c lv s w E (by simpa using f)
attribute [local go_sem] Oper.semAt_some
theorem BK {f:Array Value} {W:World} {h o g n cap:Nat} {e:Int} (I:f[6]?=some (.pointer (some ⟨h,0,none⟩))) (J:f[7]?=some (.pointer (some ⟨o,0,none⟩)))
  (G:ap W h #[.slice (some ⟨g,0,none⟩) n cap] 115) (H:ap W o #[e] 35) :
  (results Tryz.f95 f).run Tryz.prog W=.ok (.tuple #[.slice (some ⟨g,0,none⟩) n cap,e]) W:=by
 have E:=G.cell 0;have F:=H.cell 0;simp at E F;simp [results,Tryz.results95,go_sem,I,J,E,F]
theorem sg {W H:World} {I B X o k:Nat} {e:TypeId} {v v':Value} {S:List Value} {E:Obj} {F:Array Value} {t:TypeId} (h:W.ownsRow I e o v k S) (f:(W.alloc E).grownBy H v.ownBlock) (T:X<I) (G:X≠B) (R:ap W X F t) :
  ap (H.setCell ⟨B,0,none⟩ v') X F t:=by
 have O:ap H X F t:=(R.alloc E).own f (by
  rcases h.2 with ⟨rfl,_⟩ | ⟨g,cap,J,rfl,U,_⟩
  ·simp [Value.ownBlock]
  ·intro e
   have:g=X:=by simpa [Value.ownBlock] using e
   omega)
 exact O.far G _
theorem lY {α:Type} (p:α→Bool) (l:List α) (x:α) (h:p x=true):(l++[x]).filter p=l.filter p++[x]:=by simp [h]
theorem lI {α:Type} (p:α→Bool) (l:List α) (x:α) (h:¬ p x=true):(l++[x]).filter p=l.filter p:=by simp [h]
theorem ys (a b x:Un):(eH a b x=true∧(((x.yr==a.yr)=false∧(x.yr==b.yr)=false)∨((x.yr==a.yr)=false∧(x.yr==b.yr)=true∧decide (b.ix<x.ix)=false)∨((x.yr==a.yr)=true∧decide (x.ix<a.ix)=false∧(x.yr==b.yr)=false)∨((x.yr==a.yr)=true∧decide (x.ix<a.ix)=false∧(x.yr==b.yr)=true∧decide (b.ix<x.ix)=false))) ∨
  (¬ eH a b x=true∧(((x.yr==a.yr)=true∧decide (x.ix<a.ix)=true)∨((x.yr==a.yr)=false∧(x.yr==b.yr)=true∧decide (b.ix<x.ix)=true)∨((x.yr==a.yr)=true∧decide (x.ix<a.ix)=false∧(x.yr==b.yr)=true∧decide (b.ix<x.ix)=true))):=by
 unfold eH;cases (x.yr==a.yr) <;> cases decide (x.ix<a.ix) <;> cases (x.yr==b.yr) <;> cases decide (b.ix<x.ix) <;> simp
theorem Cs (c:ar) (lv:Int) (s:Sp) (w:World) (hn:c.name.size≤1000) (h:bg c lv s=0) :
  Calls Tryz.prog 95 #[av c,lv,bI s] w fun e w'=>∃ g cap,e=.returned (.tuple #[.slice (some ⟨g,0,none⟩) (be c lv s).length cap,.int .i64 0])∧de w' g cap (be c lv s)∧w.heap.size≤g∧Below w w w':=by
 obtain ⟨hk,l1,l5,dY,ha,hb⟩:=eq h;obtain ⟨n0,ad,hE,_⟩:=gU h;have b0:=iZ h;have HO:=hide (show co c=0 by simp [co,hk]);have cS:decide (1≤lv∧lv≤5)=true:=ae;have aB:-10000≤aN c s.a∧aN c s.b≤20000:=by
  have h1:=bo (fh ha).2.2.2.2.2.1.1;have h2:=bo (fh hb).2.2.2.2.2.1.1;omega
 have ba:(mV c s.a lv).yr=aN c s.a:=by obtain ⟨i,e,_⟩:=qc ha;rw [e]
 have bb:(mV c s.b lv).yr=aN c s.b:=by obtain ⟨i,e,_⟩:=qc hb;rw [e]
 obtain ⟨i0,hi,cs,cy,cE⟩:=info_parts fG;have hL:be c lv s=(br c lv (aN c s.a) (cR c lv s)).filter (eH (mV c s.a lv) (mV c s.b lv)):=by rw [be,if_pos h]
 have a6:=b0.2.2.2.1;have a8:cR c lv s≤30001:=by unfold cR;omega
 obtain ⟨G,bd⟩:∃ G,mV c s.a lv=G:=⟨_,rfl⟩;obtain ⟨f,bh⟩:∃ f,mV c s.b lv=f:=⟨_,rfl⟩;obtain ⟨ny,hN⟩:∃ ny,cR c lv s=ny:=⟨_,rfl⟩;obtain ⟨L,bw⟩:∃ L,be c lv s=L:=⟨_,rfl⟩;rw [bw] at hL a6 ⊢;rw [bd] at hL ba;rw [bh] at hL bb;rw [hN] at hL ad hE a8;rw [← ba] at hL aB ad hE;rw [← bb] at aB ad;have HL:=hide (And.intro hL a6);have HF:=hide (And.intro (And.intro ha bd) (And.intro hb bh));have HE:=hide hE;have a5:=hide (And.intro ad (And.intro aB a8));clear h b0 hE ad aB n0 ha hb hk ba bb bd bh hN bw hL a6 a8;simp only [av,bI];refine (callsIn_wide (n:=5)).1 ?_;refine callsIn_of_wp_marks Tryz.func95 rfl trivial ?_ rfl;simp only [Tryz.ntmps95,List.size_toArray,List.length_cons,List.length_nil,Nat.reduceAdd,Nat.reduceSub,Array.replicate_succ,Array.replicate_zero,List.push_toArray,List.append_toArray,List.nil_append,List.cons_append]
 gi_wp2_with fail
 refine ⟨trivial,(callsIn_wide.2 (bs c _ hn)).mono ?_⟩;rintro e w1 ⟨rfl,bx⟩;rw [HO.out];have al:=hide ((jT c s w).call (by exact bx));have b8:=hide (show Below w w w1 by (repeat' exact bel));clear bx;obtain ⟨q0,q1,q2,q3,q4,q5,q6,q7,q8,q9,aF,a0,a2,a3⟩:=al.out.1.cal;obtain ⟨p0,p1⟩:=al.out.sp
 gi_wp2_with fail
 refine ⟨trivial,(callsIn_wide.2 (dE lv _)).mono ?_⟩;rintro e w' ⟨rfl,rfl⟩;rw [cS]
 gi_wp2_with fail
 refine ⟨trivial,(callsIn_wide.2 (kY c s.a lv _ hn)).mono ?_⟩;rintro e w2 ⟨rfl,V⟩;clear q0 q1 q2 q3 q4 q5 q6 q7 q8 q9 aF a0 a2 a3;rw [HF.out.1.1,HF.out.1.2];clear p0 p1;have O:=hide (al.out.call V);have b9:=hide (b8.out.trans (V.mono (by have:=al.out.lt;omega)));clear V;have b6:w.heap.size<w2.heap.size:=by have:=O.out.lt;omega
 have b7:w.heap.size+1<w2.heap.size:=by have:=O.out.lt;omega
 obtain ⟨q0,q1,q2,q3,q4,q5,q6,q7,q8,q9,aF,a0,a2,a3⟩:=O.out.1.cal;obtain ⟨p0,p1⟩:=O.out.sp
 gi_wp2_with fail
 refine ⟨trivial,(callsIn_wide.2 (kY c s.b lv _ hn)).mono ?_⟩;rintro e H ⟨rfl,aA⟩;clear q0 q1 q2 q3 q4 q5 q6 q7 q8 q9 aF a0 a2 a3;rw [HF.out.2.1,HF.out.2.2];clear p0 p1;have aq:=hide ((O.out.alloc _).call aA);have ca:=hide ((b9.out.alloc (by have:=O.out.lt;omega) _).trans (aA.mono (by have:=O.out.lt;simp;omega)));have GA:=hide ((ap.new w2 #[.int .i64 G.lv,.int .i64 G.yr,.int .i64 G.ix] 26).call aA);clear aA b6 b7;have b6:w.heap.size<H.heap.size:=by have:=aq.out.lt;omega
 have b7:w.heap.size+1<H.heap.size:=by have:=aq.out.lt;omega
 obtain ⟨q0,q1,q2,q3,q4,q5,q6,q7,q8,q9,aF,a0,a2,a3⟩:=aq.out.1.cal;have ds:H.cell? ⟨w2,1,none⟩=some (.int .i64 G.yr):=GA.out.cell 1;have d2:w2.heap.size<H.heap.size:=GA.out.lt
 gi_wp2_with fail
 refine ⟨trivial,(ES _ c lv G.yr f.yr _).mono ?_⟩;rintro e w4 ⟨rfl,rfl⟩
 gi_wp2_with fail
 obtain ⟨R,I⟩:∃ R:World,R=((((((H.alloc (.cells #[.int .i64 f.lv,.int .i64 f.yr,.int .i64 f.ix] 26)).alloc (.cells #[.slice none 0 0] 115)).alloc (.cells (bY c) 24)).alloc (.cells #[lv] 3)).alloc (.cells #[.int .i64 G.yr] 3)).alloc (.cells #[.int .i64 f.yr] 3)):=⟨_,rfl⟩;have d4:R.heap.size=H.heap.size+6:=by rw [I];simp
 have s0:ap R (H+2) (bY c) 24:=by
  rw [I];have:=(((ap.new ((H.alloc (.cells #[.int .i64 f.lv,.int .i64 f.yr,.int .i64 f.ix] 26)).alloc (.cells #[.slice none 0 0] 115)) (bY c) 24).alloc (.cells #[lv] 3)).alloc (.cells #[.int .i64 G.yr] 3)).alloc (.cells #[.int .i64 f.yr] 3);simpa using this
 have s1:ap R (H+3) #[lv] 3:=by
  rw [I];have:=((ap.new (((H.alloc (.cells #[.int .i64 f.lv,.int .i64 f.yr,.int .i64 f.ix] 26)).alloc (.cells #[.slice none 0 0] 115)).alloc (.cells (bY c) 24)) #[lv] 3).alloc (.cells #[.int .i64 G.yr] 3)).alloc (.cells #[.int .i64 f.yr] 3);simpa using this
 have s2:ap R (H+4) #[.int .i64 G.yr] 3:=by
  rw [I];have:=(ap.new ((((H.alloc (.cells #[.int .i64 f.lv,.int .i64 f.yr,.int .i64 f.ix] 26)).alloc (.cells #[.slice none 0 0] 115)).alloc (.cells (bY c) 24)).alloc (.cells #[lv] 3)) #[.int .i64 G.yr] 3).alloc (.cells #[.int .i64 f.yr] 3);simpa using this
 have s3:ap R (H+5) #[.int .i64 f.yr] 3:=by
  rw [I];have:=ap.new (((((H.alloc (.cells #[.int .i64 f.lv,.int .i64 f.yr,.int .i64 f.ix] 26)).alloc (.cells #[.slice none 0 0] 115)).alloc (.cells (bY c) 24)).alloc (.cells #[lv] 3)).alloc (.cells #[.int .i64 G.yr] 3)) #[.int .i64 f.yr] 3;simpa using this
 have sO:Boxed R (H.heap.size+1) 115 (.slice none 0 0):=by
  rw [I];have:=((((Boxed.new (H.alloc (.cells #[.int .i64 f.lv,.int .i64 f.yr,.int .i64 f.ix] 26)) 115 (.slice none 0 0)).alloc (.cells (bY c) 24)).alloc (.cells #[lv] 3)).alloc (.cells #[.int .i64 G.yr] 3)).alloc (.cells #[.int .i64 f.yr] 3);simpa using this
 have sB:ap R H #[.int .i64 f.lv,.int .i64 f.yr,.int .i64 f.ix] 26:=by
  rw [I];exact (((((ap.new H _ _).alloc _).alloc _).alloc _).alloc _).alloc _
 have sA:ap R w2 #[.int .i64 G.lv,.int .i64 G.yr,.int .i64 G.ix] 26:=by
  rw [I];exact (((((GA.out.alloc _).alloc _).alloc _).alloc _).alloc _).alloc _
 have a7:lP c s w.heap.size R:=by
  rw [I];exact (((((aq.out.alloc _).alloc _).alloc _).alloc _).alloc _).alloc _
 have r1:ap R (w+1+1) #[.slice none 0 0] 115:=a7.2.2.1;have r2:ap R (w+1+1+1) #[.int .i64 0] 35:=a7.2.2.2;have d5:w.heap.size+3<w2.heap.size:=O.out.lt;have cb:Below w w R:=by
  have b1:=ca.out;rw [I];refine Below.alloc (Below.alloc (Below.alloc (Below.alloc (Below.alloc (Below.alloc b1 ?_ _) ?_ _) ?_ _) ?_ _) ?_ _) ?_ _ <;> first | omega | (simp;omega)
 rw [← I];clear I a7;have c9:=ui c lv G.yr ny HE.out
 refine wpIn_rangeFunc_ownH (α:=Un) rfl om (gf:=211) (lb:=#[.pointer (some ⟨H+4,0,none⟩),.pointer (some ⟨H+5,0,none⟩),.pointer (some ⟨H+2,0,none⟩),.pointer (some ⟨H+3,0,none⟩)]) rfl trivial (enters_of Tryz.func211 (by kernel_rfl) rfl)
  (yM c lv G.yr f.yr ny hn a5.out.1 a5.out.2.1 HE.out (H.heap.size+4) (H.heap.size+5) (H.heap.size+2) (H.heap.size+3) R s0 s2 s3 s1)
  ev.trans (fun W l o o' _ h1 h2 _=>rc W l o o' h1 h2) (Below.refl _ _) (fun _=>rfl)
  (fun (F:List Un) W=>(((((∃ v,Boxed W (H.heap.size+1) 115 v∧W.ownsRow (H.heap.size+1) 26 3 v (F.filter (eH G f)).length (eG (F.filter (eH G f)))∧(v=.slice none 0 0↔F.filter (eH G f)=[]))∧ap W (w+1+1) #[.slice none 0 0] 115)∧ap W (w+1+1+1) #[.int .i64 0] 35)∧ap W w2 #[.int .i64 G.lv,.int .i64 G.yr,.int .i64 G.ix] 26)∧ap W H #[.int .i64 f.lv,.int .i64 f.yr,.int .i64 f.ix] 26)∧Below w w W)
  (fun _ _ _=>False)
  (OwnFrom.and (OwnFrom.and (OwnFrom.and (OwnFrom.and (OwnFrom.and (Own.from (holdsRow_own (H.heap.size+1) (H.heap.size+1) _ _ 3 (fun (F:List Un)=>(F.filter (eH G f)).length) (fun (F:List Un)=>eG (F.filter (eH G f))) (fun (F:List Un) v=>v=.slice none 0 0↔F.filter (eH G f)=[])) _) (Own.from (lJ _ _ _) _)) (Own.from (lJ _ _ _) _)) (Own.from (lJ _ _ _) _)) (Own.from (lJ _ _ _) _)) (ownFrom_below (Nat.le_refl _) om))
  (fun _ _ _ _ _ hs _ _=>hs)
  ⟨⟨⟨⟨⟨⟨_,sO,World.ownsRow_nil _ _ _ _,by simp⟩,r1⟩,r2⟩,sA⟩,sB⟩,cb⟩
  (L5 (H.heap.size+1) ?a1) (fun x a'=>Hi _ _ x a' _)
  ?assign ?body ?done ?stop
 case assign =>
  rintro l F x W K ⟨⟨⟨⟨⟨⟨v,hv,E,T⟩,k1⟩,k2⟩,k3⟩,k4⟩,hB⟩ hK;have S:=hide hK;clear hK;obtain ⟨Bx,ay⟩:∃ Bx,Bx=W.heap.size:=⟨_,rfl⟩;simp only [Jn,aC]
  gi_wp2
  rw [← ay];have cl:=fun a' (h:a'=_)=>S.out a' _ ((KeepsOthers.alloc _ _).from _) (ev.alloc _ _) ⟨⟨⟨⟨⟨⟨v,hv.alloc _,E.alloc _,T⟩,k1.alloc _⟩,k2.alloc _⟩,k3.alloc _⟩,k4.alloc _⟩,hB.alloc hB.size _⟩ ⟨Bx,by rw [ay];exact hv.lt,by rw [ay];exact ap.new W #[.int .i64 x.lv,.int .i64 x.yr,.int .i64 x.ix] 26,h⟩
  have cp:=cl _ rfl;exact cp
 case body =>
  rintro l F x a' W hl ⟨r,hr⟩ ⟨⟨⟨⟨⟨⟨v,hv,E,T⟩,k1⟩,k2⟩,k3⟩,k4⟩,hB⟩ ⟨Bx,ay,bX,rfl⟩ b3;have hc:=hv.cell;have c2:W.cell? ⟨Bx,0,none⟩=some (.int .i64 x.lv):=bX.cell 0;have c3:W.cell? ⟨Bx,1,none⟩=some (.int .i64 x.yr):=bX.cell 1;have c4:W.cell? ⟨Bx,2,none⟩=some (.int .i64 x.ix):=bX.cell 2;have c5:W.cell? ⟨w2,1,none⟩=some (.int .i64 G.yr):=k3.cell 1;have c6:W.cell? ⟨w2,2,none⟩=some (.int .i64 G.ix):=k3.cell 2;have c7:W.cell? ⟨H,1,none⟩=some (.int .i64 f.yr):=k4.cell 1;have c8:W.cell? ⟨H,2,none⟩=some (.int .i64 f.ix):=k4.cell 2;have dq:=hB.size;have cr:H.heap.size+1≤W.heap.size:=Nat.le_of_lt hv.lt;have d3:(F.filter (eH G f)).length+1≤2000000:=by have:=List.length_filter_le (eH G f) F;have:=a5.out.2.2;omega
  have dd:=hide b3;have bl:=hide k3;have bp:=hide k4;clear b3;rcases ys G f x with ⟨ab,hh⟩ | ⟨ab,hh⟩
  ·have U:=hide ab
   clear ab;rcases hh with ⟨e1,e2⟩ | ⟨e1,e2,e3⟩ | ⟨e1,e2,e3⟩ | ⟨e1,e2,e3,e4⟩
   all_goals
    gi_wp2_with (gi_at_builtin;refine wpListIn_append_own _ rfl _ _ 115 rfl (H.heap.size+1) 26 i0 (.agg #[.int .i64 0,.int .i64 0,.int .i64 0]) 3 24 Tryz.underlying115 hi cs cy cE rfl ag _ _ _ rfl (E.alloc _) ⟨W,0,none⟩ 1 1 [.int .i64 x.lv,.int .i64 x.yr,.int .i64 x.ix] rfl rfl (iO _ _ _ _ _) (by simp [Value.oneCell']) (by unfold maxLen;omega) om ae ?_;intro v' w6 ah J c0;obtain ⟨g',bt,rfl⟩:=ownsRow_succ ah;obtain ⟨b5,c1,bc,cI,V⟩:=hv.appended ag E cr om ah J;have d0:=b5.cell;have d1:=b5.frozen)
    obtain ⟨cM,a4⟩:=FF (v':=.slice (some ⟨g',0,none⟩) ((F.filter (eH G f)).length+1) bt) hv E J;exact ⟨cI.from _,cM,⟨⟨⟨⟨⟨⟨_,c1,by rw [lY (eH G f) F x U.out,gl];simpa using bc,by rw [lY (eH G f) F x U.out];simp⟩,a4 _ _ _ om ag k1⟩,a4 _ _ _ om ag k2⟩,sg E J om om bl.out⟩,sg E J om om bp.out⟩,hB.trans (V.mono om)⟩⟩
  ·have U:=hide ab
   clear ab;rcases hh with ⟨e1,e2⟩ | ⟨e1,e2,e3⟩ | ⟨e1,e2,e3,e4⟩
   all_goals
    gi_wp2
    exact ⟨(KeepsOthers.refl _).from _,ev.refl _ _ _,⟨⟨⟨⟨⟨⟨v,hv,by rw [lI (eH G f) F x U.out];exact E,by rw [lI (eH G f) F x U.out];exact T⟩,k1⟩,k2⟩,bl.out⟩,bp.out⟩,hB⟩⟩
 case done =>
  rintro D xs W hD rfl ⟨⟨⟨⟨⟨⟨v,hv,E,T⟩,k1⟩,k2⟩,k3⟩,k4⟩,hB⟩ hK;rw [← HL.out.1] at E;obtain ⟨g,cap,rfl,hg⟩:=uT E HL.out.2;have hc:=hv.cell;have m1:W.cell? ⟨w+1+1,0,none⟩=some (.slice none 0 0):=k1.cell 0;have m2:W.cell? ⟨w+1+1+1,0,none⟩=some (.int .i64 0):=k2.cell 0;have f1:W.frozen? ⟨w+1+1,0,none⟩=false:=by simp [World.frozen?,show W.heap[w.heap.size+1+1]?=_ from k1]
  have f2:W.frozen? ⟨w+1+1+1,0,none⟩=false:=by simp [World.frozen?,show W.heap[w.heap.size+1+1+1]?=_ from k2]
  gi_wp2
  have S:((W.setCell ⟨w+1+1,0,none⟩ (.slice (some ⟨g,0,none⟩) L.length cap)).setCell ⟨w+1+1+1,0,none⟩ (.int .i64 0)).heap[D]?=some (.deferred (some [])):=((KeepsOthers.setCell _ _ _).trans (KeepsOthers.setCell _ _ _)).same _ _ hK rfl;refine ⟨by simp,.inl ⟨_,_,rfl,run_takeDeferred S,?_⟩⟩;have b2:=grownBy_putObj' ((W.setCell ⟨w+1+1,0,none⟩ (.slice (some ⟨g,0,none⟩) L.length cap)).setCell ⟨w+1+1+1,0,none⟩ (.int .i64 0)) D (.deferred none);have j1:=dV ((k1.set0 (.slice (some ⟨g,0,none⟩) L.length cap)).far (p:=⟨w+1+1+1,0,none⟩) ac (.int .i64 0)) b2 (fun r e=>by cases e;exact ⟨_,S,rfl⟩);have j2:=dV ((k2.far (p:=⟨w+1+1,0,none⟩) ac (.slice (some ⟨g,0,none⟩) L.length cap)).set0 (.int .i64 0)) b2 (fun r e=>by cases e;exact ⟨_,S,rfl⟩);refine ⟨_,BK rfl rfl j1 j2,g,cap,rfl,?_,by omega,?_⟩
  ·refine ownsRow_putObj ?_ _ S rfl
   have b4:=E.kept (grownBy_setCell' W (w.heap.size+1+1) (.slice (some ⟨g,0,none⟩) L.length cap)) (.inr (tg E k1));have bc:=b4.kept (grownBy_setCell' _ (w.heap.size+1+1+1) (.int .i64 0)) (.inr (tg b4 (k2.far (p:=⟨w+1+1,0,none⟩) ac _)));exact bc.base (Nat.zero_le _)
  ·exact ((hB.setCell ae _).setCell ae _).trans (belowK_b (w:=w) (Nat.le_refl _) _ D _ _ om S rfl rfl)
 case stop =>
  rintro D cc F W _ _ h _;exact h.elim
end
end Go.Proofs.YtjhhmeoibfdcmaaGreat
