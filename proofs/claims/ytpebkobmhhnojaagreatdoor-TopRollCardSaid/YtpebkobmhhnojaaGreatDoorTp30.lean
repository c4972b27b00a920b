/- Lemmas. -/
import Derived.Test.YtpebkobmhhnojaaGreatDoorTp27
set_option linter.unusedSimpArgs false
set_option linter.unusedVariables false
set_option maxRecDepth 100000
set_option maxHeartbeats 12800000
namespace Go.Proofs.YtpebkobmhhnojaaGreatDoor
section
open Go.RowKit Qd
theorem sK {α:Type} (l:List α) (K:α→Bool) (m n:Nat) (h:∀ (p:Nat) (u:α),l[p]?=some u→(K u=true↔m≤p∧p<m+n)):l.filter K=(l.drop m).take n:=by
 induction l generalizing m n with
 | nil=>simp
 | cons x l E =>
  have F:=h 0 x af;have o:∀ (p:Nat) (u:α),l[p]?=some u→(K u=true↔m≤p+1∧p+1<m+n):=fun p u f=>h (p+1) u (by simpa using f)
  cases m with
  | zero =>
   cases n with
   | zero =>
    have:K x=false:=by cases G:K x <;> simp_all
    rw [List.filter_cons_of_neg (by simp [this]),E 0 0 (fun p u f=>by rw [o p u f];omega)];simp
   | succ n =>
    have:K x=true:=F.2 om;rw [List.filter_cons_of_pos this,E 0 n (fun p u f=>by rw [o p u f];omega)];simp
  | succ m =>
   have:¬ K x=true:=fun G=>by have:=F.1 G;omega
   rw [List.filter_cons_of_neg this,E m n (fun p u f=>by rw [o p u f];omega)];simp
theorem o7 {c:aC} {d lv:Int} (f:1≤lv) (h:lv≤5):fq c d lv=cA c d:=by
 unfold fq;cases o:c.okB
 ·simp [cA,o]
 ·simp [f,h]
theorem mA (c:aC) (lv f:Int) (E p:Nat) (u:Un) (h:(aT c lv f E)[p]?=some u):∃ a i:Nat,a<E∧i<aM c (f+a) lv∧u=⟨lv,f+a,(i:Int)+1⟩∧p=(aT c lv f a).length+i:=by
 induction E with
 | zero=>simp [aT] at h
 | succ n J =>
  by_cases I:p<(aT c lv f n).length
  ·rw [aT,List.getElem?_append_left I] at h
   obtain ⟨a,i,F,o,G,H⟩:=J h;exact ⟨a,i,by omega,o,G,H⟩
  ·rw [aT,List.getElem?_append_right om] at h
   obtain ⟨F,o⟩:=l8 h;exact ⟨n,p-(aT c lv f n).length,by omega,F,o,by omega⟩
theorem oa (c:aC) (lv f:Int) (o a i:Nat) (G:a<o) (hi:i<aM c (f+a) lv):(aT c lv f o)[(aT c lv f a).length+i]?=some ⟨lv,f+a,(i:Int)+1⟩:=by
 induction o with
 | zero=>omega
 | succ n F =>
  by_cases h:a<n
  ·have E:=rW c lv f a n i h hi
   rw [List.length_append,fl] at E;rw [aT,List.getElem?_append_left E];exact F h
  ·obtain rfl:a=n:=om
   rw [aT,List.getElem?_append_right om,Nat.add_sub_cancel_left];exact pd _ _ _ _ hi
def dv (a b u:Un):Bool:=!((u.yr==a.yr&&decide (u.ix<a.ix)) || (u.yr==b.yr&&decide (b.ix<u.ix)))
theorem Af (a b u:Un):dv a b u=true↔¬ (u.yr=a.yr∧u.ix<a.ix)∧¬ (u.yr=b.yr∧b.ix<u.ix):=by
 simp only [dv,Bool.not_eq_true',Bool.or_eq_false_iff,Bool.and_eq_false_imp,beq_iff_eq,decide_eq_false_iff_not,not_and]
noncomputable def bF (c:aC) (lv:Int) (s:Sp):Int:=if c.okB=true∧(1≤lv∧lv≤5)∧s.a≤s.b then (if fq c s.a lv=0 then fq c s.b lv else fq c s.a lv) else 1
noncomputable def cq (c:aC) (lv:Int) (s:Sp):Nat:=(aH c s.b-aH c s.a+1).toNat
noncomputable def bn (c:aC) (lv:Int) (s:Sp):List Un:=if bF c lv s=0 then (aT c lv (aH c s.a) (cq c lv s)).filter (dv (gj c s.a lv) (gj c s.b lv)) else []
theorem eZ {c:aC} {lv:Int} {s:Sp} (h:bF c lv s=0):c.okB=true∧1≤lv∧lv≤5∧s.a≤s.b∧fq c s.a lv=0∧fq c s.b lv=0:=by
 unfold bF at h
 split at h
 ·rename_i hk
  split at h
  ·rename_i h1;exact ⟨hk.1,hk.2.1.1,hk.2.1.2,hk.2.2,h1,h⟩
  ·exact absurd h (by assumption)
 ·omega
theorem us {c:aC} {d n:Int} (h:cA c d=0) (k:cA c n=0) (V:d≤n):aH c d≤aH c n:=by
 obtain ⟨H,_,F,_⟩:=pD h;obtain ⟨_,_,G,_⟩:=pD k;have E:c.Ok:=by simpa [aC.okB] using H
 have I:=(br F.1).2;have J:=(br G.1).2;rcases Int.lt_or_le (aH c n) (aH c d) with o | f
 ·have:=dc c E (y:=aH c n) (z:=aH c d) om o om
  have O:=F.2.1;have U:=G.2.2;omega
 ·exact f
theorem gq {c:aC} {lv:Int} {s:Sp} (h:bF c lv s=0) :
  0<cq c lv s∧aH c s.a+(cq c lv s:Int)=aH c s.b+1∧(∀ j:Nat,j<cq c lv s→aR c lv (aH c s.a+j)=0) ∧
  ∃ m n:Nat,0<n∧bn c lv s=((aT c lv (aH c s.a) (cq c lv s)).drop m).take n∧m+n≤(aT c lv (aH c s.a) (cq c lv s)).length ∧
   (aT c lv (aH c s.a) (cq c lv s))[m]?=some (gj c s.a lv)∧(aT c lv (aH c s.a) (cq c lv s))[m+n-1]?=some (gj c s.b lv):=by
 obtain ⟨hk,W,h5,aa,ha,hb⟩:=eZ h;obtain ⟨_,_,_,sa,_,ya,fa⟩:=eW ha;obtain ⟨_,_,_,sb,_,yb,fb⟩:=eW hb;have hm:=us sa sb aa;obtain ⟨o,ea,ca,ah,al⟩:=oA ha;obtain ⟨H,eb,cb,J,O⟩:=oA hb;obtain ⟨ab,_,_,_,ao,_,aA⟩:=bv fa;obtain ⟨_,_,_,_,_,aq,aB⟩:=bv fb;obtain ⟨f,hN⟩:∃ f,cq c lv s=f+1:=⟨(aH c s.b-aH c s.a).toNat,by unfold cq;omega⟩;have hL:bn c lv s=(aT c lv (aH c s.a) (cq c lv s)).filter (dv (gj c s.a lv) (gj c s.b lv)):=by rw [bn,if_pos h]
 have hy:aH c s.a+(f:Int)=aH c s.b:=by unfold cq at hN;omega
 rw [hL,hN];have hF:∀ j:Nat,j<f+1→aR c lv (aH c s.a+j)=0:=fun j hj=>fN ab W h5 om om
 have c0:(aT c lv (aH c s.a) 0).length=0:=rfl;have c1:(aT c lv (aH c s.a) 1).length=aM c (aH c s.a) lv:=by simp [aT,fl]
 have cl:(aT c lv (aH c s.a) (f+1)).length=(aT c lv (aH c s.a) f).length+aM c (aH c s.b) lv:=by rw [aT,List.length_append,fl,hy]
 have E:∀ a:Nat,0<a→o<(aT c lv (aH c s.a) a).length:=fun a I=>by
  have:=nn c lv (aH c s.a) 1 (a-1);rw [show 1+(a-1)=a by omega] at this;omega
 have a2:o≤(aT c lv (aH c s.a) f).length+H:=by
  by_cases I:0<f
  ·have:=E f I;omega
  ·obtain rfl:f=0:=om
   have ad:aH c s.b=aH c s.a:=om;rw [ad] at J O cb;rcases Nat.lt_or_ge H o with a1 | a0
   ·have m1:=dM c (aH c s.a) ya.1 lv W h5 (show H+1≤o by omega) om
    have m2:=cj c (aH c s.a) ya.1 m1 (cu c _ ya.1 lv W h5 o om);omega
   ·omega
 refine ⟨by omega,by omega,hF,o,(aT c lv (aH c s.a) f).length+H+1-o,by omega,?_,by omega,?_,?_⟩
 ·refine sK _ _ _ _ fun p u hp=>?_
  obtain ⟨a,i,l1,l2,rfl,ac⟩:=mA c lv _ _ p u hp;rw [Af,ea,eb];simp only;have U:a=0∨o<(aT c lv (aH c s.a) a).length:=by
   by_cases I:0<a
   ·exact .inr (E a I)
   ·left;omega
  have V:a=f∨(aT c lv (aH c s.a) a).length+i<(aT c lv (aH c s.a) f).length:=by
   by_cases I:a=f
   ·exact .inl I
   ·have:=rW c lv (aH c s.a) a f i om l2
    rw [List.length_append,fl] at this;exact .inr this
  have g3:a=0→(aT c lv (aH c s.a) a).length=0:=by rintro rfl;exact c0
  have g4:a=f→(aT c lv (aH c s.a) a).length=(aT c lv (aH c s.a) f).length:=by rintro rfl;rfl
  generalize (aT c lv (aH c s.a) a).length=X at *;generalize (aT c lv (aH c s.a) f).length=Y at *;generalize aH c s.a=F at *;generalize aH c s.b=G at *;clear hp hF E cl c0 c1 hL hN;subst ac;have e1:(F+(a:Int)=F)↔a=0:=om;have e2:(F+(a:Int)=G)↔a=f:=om;rw [e1,e2];rcases U with U | U <;> rcases V with V | V <;> omega
 ·rw [ea]
  have:=oa c lv (aH c s.a) (f+1) 0 o om (by simpa using ca);simpa [aT] using this
 ·rw [eb]
  have:=oa c lv (aH c s.a) (f+1) f H om (by rw [hy];exact cb);rw [hy] at this;rw [show o+((aT c lv (aH c s.a) f).length+H+1-o)-1=(aT c lv (aH c s.a) f).length+H by omega];exact this
theorem gt {c:aC} {lv:Int} {s:Sp} (h:bF c lv s=0) :
  lp c (bn c lv s)∧(bn c lv s)[0]?=some (gj c s.a lv)∧(bn c lv s)[(bn c lv s).length-1]?=some (gj c s.b lv)∧0<(bn c lv s).length∧(bn c lv s).length≤60*cq c lv s:=by
 obtain ⟨Y,hy,E,m,n,V,F,H,J,O⟩:=gq h;obtain ⟨W,k1,k2⟩:=oI c lv (aH c s.a) (cq c lv s) Y E;have al:=(lS c lv (aH c s.a) (cq c lv s) E).1;have G:(bn c lv s).length=n:=by rw [F,List.length_take,List.length_drop];omega
 have f:∀ j,j<n→(bn c lv s)[j]?=(aT c lv (aH c s.a) (cq c lv s))[m+j]?:=fun j U=>by
  rw [F,List.getElem?_take,if_pos U,List.getElem?_drop]
 refine ⟨?_,?_,?_,by omega,by omega⟩
 ·intro j u v I o
  have j1:j+1<n:=by rw [← G];exact (List.getElem?_eq_some_iff.1 o).1
  rw [f j om] at I;rw [f (j+1) j1] at o;exact W (m+j) u v I o
 ·rw [f 0 V];exact J
 ·rw [G,f (n-1) om,← O]
  congr 1;omega
theorem uT {c:aC} {lv:Int} {s:Sp} (h:bF c lv s=0) (hs:s.b-s.a≤2000):cq c lv s≤7:=by
 obtain ⟨hk,h1,h5,E,I,J⟩:=eZ h;obtain ⟨_,_,_,U,_,F,fa⟩:=eW I;obtain ⟨_,_,_,V,_,G,fb⟩:=eW J;have hm:=us U V E;obtain ⟨n0,hy,_⟩:=gq h;obtain ⟨o,W,Y⟩:=br F.1;obtain ⟨_,b1,b2⟩:=br G.1;rcases Nat.lt_or_ge 7 (cq c lv s) with O | f
 ·have f:aH c s.a+7≤aH c s.b:=om
  have H:=mp c (aH c s.a) o om (aH c s.b-1-aH c s.a).toNat om;rw [show aH c s.a+((aH c s.b-1-aH c s.a).toNat:Int)=aH c s.b-1 by omega] at H;have e2:=dc c o (y:=aH c s.b-1) (z:=aH c s.b) om om om;have:=F.2.2;have:=G.2.1;omega
 ·exact f
end
section
open Go.RowKit Go.Shelf Qd
theorem ax.fz {w:World} {B:Nat} {f:Array Value} {t:TypeId} (h:ax w B f t) (i:Nat):w.frozen? ⟨B,i,none⟩=false:=by simp [World.frozen?,show w.heap[B]?=_ from h]
def jr (c:aC) (s:Sp) (B:Nat) (w:World):Prop:=ax w B (bJ c) 24∧ax w (B+1) #[s.a,s.b] 35∧ax w (B+2) #[.slice none 0 0] 26∧ax w (B+3) #[.int .i64 0] 27
theorem jr.call {c:aC} {s:Sp} {B:Nat} {w w':World} (h:jr c s B w) (f:Below w w w'):jr c s B w':=⟨h.1.call f,h.2.1.call f,h.2.2.1.call f,h.2.2.2.call f⟩
theorem jr.alloc {c:aC} {s:Sp} {B:Nat} {w:World} (h:jr c s B w) (o:Obj):jr c s B (w.alloc o):=⟨h.1.alloc o,h.2.1.alloc o,h.2.2.1.alloc o,h.2.2.2.alloc o⟩
theorem jr.lt {c:aC} {s:Sp} {B:Nat} {w:World} (h:jr c s B w):B+3<w.heap.size:=h.2.2.2.lt
theorem jr.sp {c:aC} {s:Sp} {B:Nat} {w:World} (h:jr c s B w):w.cell? ⟨B+1,0,none⟩=some (.int .i64 s.a)∧w.cell? ⟨B+1,1,none⟩=some (.int .i64 s.b):=⟨h.2.1.cell 0,h.2.1.cell 1⟩
theorem jr.res {c:aC} {s:Sp} {B:Nat} {w:World} (h:jr c s B w):(w.cell? ⟨B+2,0,none⟩=some (.slice none 0 0)∧w.cell? ⟨B+3,0,none⟩=some (.int .i64 0))∧w.frozen? ⟨B+2,0,none⟩=false∧w.frozen? ⟨B+3,0,none⟩=false:=⟨⟨h.2.2.1.cell 0,h.2.2.2.cell 0⟩,h.2.2.1.fz 0,h.2.2.2.fz 0⟩
theorem ie (c:aC) (s:Sp) (w:World):jr c s w.heap.size ((((w.alloc (.cells (bJ c) 24)).alloc (.cells #[s.a,s.b] 35)).alloc (.cells #[.slice none 0 0] 26)).alloc (.cells #[.int .i64 0] 27)):=by
 refine ⟨(((ax.new w _ _).alloc _).alloc _).alloc _,?_,?_,?_⟩
 ·have:=((ax.new (w.alloc (.cells (bJ c) 24)) #[s.a,s.b] 35).alloc (.cells #[.slice none 0 0] 26)).alloc (.cells #[.int .i64 0] 27)
  simpa using this
 ·have:=(ax.new ((w.alloc (.cells (bJ c) 24)).alloc (.cells #[s.a,s.b] 35)) #[.slice none 0 0] 26).alloc (.cells #[.int .i64 0] 27)
  simpa using this
 ·have:=ax.new (((w.alloc (.cells (bJ c) 24)).alloc (.cells #[s.a,s.b] 35)).alloc (.cells #[.slice none 0 0] 26)) #[.int .i64 0] 27
  simpa using this
theorem jr.fin {c:aC} {s:Sp} {B:Nat} {w:World} (h:jr c s B w) (v:Value) (e:Int):ax ((w.setCell ⟨B+1+1,0,none⟩ v).setCell ⟨B+1+1+1,0,none⟩ (.int .i64 e)) (B+1+1) #[v] 26∧ax ((w.setCell ⟨B+1+1,0,none⟩ v).setCell ⟨B+1+1+1,0,none⟩ (.int .i64 e)) (B+1+1+1) #[e] 27:=
 ⟨(h.2.2.1.set0 v).far (p:=⟨B+1+1+1,0,none⟩) af _,(h.2.2.2.far (p:=⟨B+1+1,0,none⟩) af v).set0 _⟩
theorem fP {f:Array Value} {W:World} {h o:Nat} {v:Value} {e:Int} (I:f[6]?=some (.pointer (some ⟨h,0,none⟩))) (J:f[7]?=some (.pointer (some ⟨o,0,none⟩)))
  (G:ax W h #[v] 26) (H:ax W o #[e] 27) :
  (results Tryz.f128 f).run Tryz.prog W=.ok (.tuple #[v,e]) W:=by
 have E:=G.cell 0;have F:=H.cell 0;simp at E F;simp [results,Tryz.results128,go_sem,I,J,E,F]
theorem vn (c:aC) (lv:Int) (s:Sp) (w:World) (I:c.name.size≤1000) (F:c.okB=false) :
  Calls Tryz.prog 128 #[aI c,lv,cw s] w fun e w'=>e=.returned (.tuple #[.slice none 0 0,.int .i64 1])∧Below w w w':=by
 have G:=hide (show dI c=1 by simp [dI,F]);clear F;simp only [aI,cw];go_enter Tryz.func128,Tryz.ntmps128;go_wp2_with fail;refine (bg c _ I).mono ?_;rintro e o ⟨rfl,h⟩;rw [G.out];have f:=hide ((ie c s w).call (by exact h));have E:=hide (show Below w w o by (repeat' exact bel));clear h;obtain ⟨q0,q1,q2,q3,q4,q5,q6,q7,q8,q9,Y,aa,ab,ac⟩:=f.out.1.cal;obtain ⟨p0,p1⟩:=f.out.sp;obtain ⟨⟨r0,r1⟩,f0,f1⟩:=f.out.res;have J:=f.out.lt;have O:w.heap.size<o.heap.size:=om;have U:w.heap.size+1<o.heap.size:=om;have V:w.heap.size+1+1<o.heap.size:=om;have W:w.heap.size+1+1+1<o.heap.size:=om;go_wp2;exact bodyPost_ret (v:=.tuple #[.slice none 0 0,.int .i64 1]) (fP rfl rfl ((f.out.fin (.slice none 0 0) 1).1) ((f.out.fin (.slice none 0 0) 1).2)) rfl ⟨rfl,by have H:=E.out;exact ((H.setCell (by first | (simp;done) | (simp;omega)) _).setCell (by first | (simp;done) | (simp;omega)) _)⟩
theorem xX (c:aC) (lv:Int) (s:Sp) (w:World) (O:c.name.size≤1000) (G:c.okB=true) (H:¬ (1≤lv∧lv≤5)) :
  Calls Tryz.prog 128 #[aI c,lv,cw s] w fun e w'=>e=.returned (.tuple #[.slice none 0 0,.int .i64 1])∧Below w w w':=by
 have F:decide (1≤lv∧lv≤5)=false:=by simpa using H
 clear H;have I:=hide (show dI c=0 by simp [dI,G]);clear G;simp only [aI,cw];go_enter Tryz.func128,Tryz.ntmps128;go_wp2_with fail;refine (bg c _ O).mono ?_;rintro e o ⟨rfl,h⟩;rw [I.out];have f:=hide ((ie c s w).call (by exact h));have E:=hide (show Below w w o by (repeat' exact bel));clear h;obtain ⟨q0,q1,q2,q3,q4,q5,q6,q7,q8,q9,ab,ac,ad,ah⟩:=f.out.1.cal;obtain ⟨p0,p1⟩:=f.out.sp;obtain ⟨⟨r0,r1⟩,f0,f1⟩:=f.out.res;have U:=f.out.lt;have V:w.heap.size<o.heap.size:=om;have W:w.heap.size+1<o.heap.size:=om;have Y:w.heap.size+1+1<o.heap.size:=om;have aa:w.heap.size+1+1+1<o.heap.size:=om;go_wp2_with (go_at_call 21;refine (bT _ _).mono ?_;rintro e w' ⟨rfl,rfl⟩;rw [F]);exact bodyPost_ret (v:=.tuple #[.slice none 0 0,.int .i64 1]) (fP rfl rfl ((f.out.fin (.slice none 0 0) 1).1) ((f.out.fin (.slice none 0 0) 1).2)) rfl ⟨rfl,by have J:=E.out;exact ((J.setCell (by first | (simp;done) | (simp;omega)) _).setCell (by first | (simp;done) | (simp;omega)) _)⟩
theorem wP (c:aC) (lv:Int) (s:Sp) (w:World) (O:c.name.size≤1000) (G:c.okB=true) (H:1≤lv∧lv≤5) (hs:s.b<s.a) :
  Calls Tryz.prog 128 #[aI c,lv,cw s] w fun e w'=>e=.returned (.tuple #[.slice none 0 0,.int .i64 1])∧Below w w w':=by
 have F:decide (1≤lv∧lv≤5)=true:=by simpa using H
 clear H;have I:=hide (show dI c=0 by simp [dI,G]);clear G;simp only [aI,cw];go_enter Tryz.func128,Tryz.ntmps128;go_wp2_with fail;refine (bg c _ O).mono ?_;rintro e o ⟨rfl,h⟩;rw [I.out];have f:=hide ((ie c s w).call (by exact h));have E:=hide (show Below w w o by (repeat' exact bel));clear h;obtain ⟨q0,q1,q2,q3,q4,q5,q6,q7,q8,q9,ab,ac,ad,ah⟩:=f.out.1.cal;obtain ⟨p0,p1⟩:=f.out.sp;obtain ⟨⟨r0,r1⟩,f0,f1⟩:=f.out.res;have U:=f.out.lt;have V:w.heap.size<o.heap.size:=om;have W:w.heap.size+1<o.heap.size:=om;have Y:w.heap.size+1+1<o.heap.size:=om;have aa:w.heap.size+1+1+1<o.heap.size:=om;go_wp2_with (go_at_call 21;refine (bT _ _).mono ?_;rintro e w' ⟨rfl,rfl⟩;rw [F]);exact bodyPost_ret (v:=.tuple #[.slice none 0 0,.int .i64 1]) (fP rfl rfl ((f.out.fin (.slice none 0 0) 1).1) ((f.out.fin (.slice none 0 0) 1).2)) rfl ⟨rfl,by have J:=E.out;exact ((J.setCell (by first | (simp;done) | (simp;omega)) _).setCell (by first | (simp;done) | (simp;omega)) _)⟩
theorem yA (c:aC) (lv:Int) (s:Sp) (w:World) (hn:c.name.size≤1000) (hk:c.okB=true) (hl:1≤lv∧lv≤5) (hs:s.a≤s.b) (h1:¬ fq c s.a lv=0) :
  Calls Tryz.prog 128 #[aI c,lv,cw s] w fun e w'=>e=.returned (.tuple #[.slice none 0 0,fq c s.a lv])∧Below w w w':=by
 have ac:decide (1≤lv∧lv≤5)=true:=by simpa using hl
 have ad:(fq c s.a lv != 0)=true:=by simpa using h1
 clear hl h1;have HO:=hide (show dI c=0 by simp [dI,hk]);clear hk;simp only [aI,cw];go_enter Tryz.func128,Tryz.ntmps128;go_wp2_with fail;refine (bg c _ hn).mono ?_;rintro e Y ⟨rfl,E⟩;rw [HO.out];have h:=hide ((ie c s w).call (by exact E));have aa:=hide (show Below w w Y by (repeat' exact bel));clear E;obtain ⟨q0,q1,q2,q3,q4,q5,q6,q7,q8,q9,O,U,V,W⟩:=h.out.1.cal;obtain ⟨p0,p1⟩:=h.out.sp;obtain ⟨⟨r0,r1⟩,f0,f1⟩:=h.out.res;have F:=h.out.lt;have G:w.heap.size<Y.heap.size:=om;have H:w.heap.size+1<Y.heap.size:=om;have I:w.heap.size+1+1<Y.heap.size:=om;have J:w.heap.size+1+1+1<Y.heap.size:=om;have ah:s.a≤s.b:=hs;go_wp2_with (go_at_call 21;refine (bT _ _).mono ?_;rintro e w' ⟨rfl,rfl⟩;rw [ac]);refine (iV c s.a lv _ hn).mono ?_;rintro e w2 ⟨rfl,o⟩;clear q0 q1 q2 q3 q4 q5 q6 q7 q8 q9 O U V W;clear p0 p1 r0 r1 f0 f1;have f:=hide (h.out.call o);have ab:=hide (aa.out.trans (o.mono om));clear o F G H I J;obtain ⟨q0,q1,q2,q3,q4,q5,q6,q7,q8,q9,O,U,V,W⟩:=f.out.1.cal;obtain ⟨p0,p1⟩:=f.out.sp;obtain ⟨⟨r0,r1⟩,f0,f1⟩:=f.out.res;have F:=f.out.lt;have G:w.heap.size<w2.heap.size:=om;have H:w.heap.size+1<w2.heap.size:=om;have I:w.heap.size+1+1<w2.heap.size:=om;have J:w.heap.size+1+1+1<w2.heap.size:=om;go_wp2;exact bodyPost_ret (v:=.tuple #[.slice none 0 0,fq c s.a lv]) (fP rfl rfl ((f.out.fin (.slice none 0 0) (fq c s.a lv)).1.alloc _) ((f.out.fin (.slice none 0 0) (fq c s.a lv)).2.alloc _)) rfl ⟨rfl,by have hB:=ab.out;exact (((hB.setCell (by first | (simp;done) | (simp;omega)) _).setCell (by first | (simp;done) | (simp;omega)) _).alloc ag _)⟩
theorem Aw (c:aC) (lv:Int) (s:Sp) (w:World) (hn:c.name.size≤1000) (hk:c.okB=true) (hl:1≤lv∧lv≤5) (hs:s.a≤s.b) (h1:fq c s.a lv=0) (h2:¬ fq c s.b lv=0) :
  Calls Tryz.prog 128 #[aI c,lv,cw s] w fun e w'=>e=.returned (.tuple #[.slice none 0 0,fq c s.b lv])∧Below w w w':=by
 have ah:decide (1≤lv∧lv≤5)=true:=by simpa using hl
 have al:(fq c s.b lv != 0)=true:=by simpa using h2
 have H1:=hide h1;clear hl h2 h1;have HO:=hide (show dI c=0 by simp [dI,hk]);clear hk;simp only [aI,cw];go_enter Tryz.func128,Tryz.ntmps128;go_wp2_with fail;refine (bg c _ hn).mono ?_;rintro e w1 ⟨rfl,aa⟩;rw [HO.out];have h:=hide ((ie c s w).call (by exact aa));have ab:=hide (show Below w w w1 by (repeat' exact bel));clear aa;obtain ⟨q0,q1,q2,q3,q4,q5,q6,q7,q8,q9,J,O,U,V⟩:=h.out.1.cal;obtain ⟨p0,p1⟩:=h.out.sp;obtain ⟨⟨r0,r1⟩,f0,f1⟩:=h.out.res;have E:=h.out.lt;have F:w.heap.size<w1.heap.size:=om;have G:w.heap.size+1<w1.heap.size:=om;have H:w.heap.size+1+1<w1.heap.size:=om;have I:w.heap.size+1+1+1<w1.heap.size:=om;have ao:s.a≤s.b:=hs;go_wp2_with (go_at_call 21;refine (bT _ _).mono ?_;rintro e w' ⟨rfl,rfl⟩;rw [ah]);refine (iV c s.a lv _ hn).mono ?_;rintro e w2 ⟨rfl,W⟩;clear q0 q1 q2 q3 q4 q5 q6 q7 q8 q9 J O U V;clear p0 p1 r0 r1 f0 f1;have o:=hide (h.out.call W);have ac:=hide (ab.out.trans (W.mono om));clear W E F G H I;obtain ⟨q0,q1,q2,q3,q4,q5,q6,q7,q8,q9,J,O,U,V⟩:=o.out.1.cal;obtain ⟨p0,p1⟩:=o.out.sp;obtain ⟨⟨r0,r1⟩,f0,f1⟩:=o.out.res;have E:=o.out.lt;have F:w.heap.size<w2.heap.size:=om;have G:w.heap.size+1<w2.heap.size:=om;have H:w.heap.size+1+1<w2.heap.size:=om;have I:w.heap.size+1+1+1<w2.heap.size:=om;rw [H1.out];go_wp2_with fail;refine (iV c s.b lv _ hn).mono ?_;rintro e w3 ⟨rfl,Y⟩;clear q0 q1 q2 q3 q4 q5 q6 q7 q8 q9 J O U V;clear p0 p1 r0 r1 f0 f1;have f:=hide ((o.out.alloc _).call Y);have ad:=hide ((ac.out.alloc om _).trans (Y.mono ag));clear Y E F G H I;obtain ⟨q0,q1,q2,q3,q4,q5,q6,q7,q8,q9,J,O,U,V⟩:=f.out.1.cal;obtain ⟨p0,p1⟩:=f.out.sp;obtain ⟨⟨r0,r1⟩,f0,f1⟩:=f.out.res;have E:=f.out.lt;have F:w.heap.size<w3.heap.size:=om;have G:w.heap.size+1<w3.heap.size:=om;have H:w.heap.size+1+1<w3.heap.size:=om;have I:w.heap.size+1+1+1<w3.heap.size:=om;go_wp2;exact bodyPost_ret (v:=.tuple #[.slice none 0 0,fq c s.b lv]) (fP rfl rfl ((f.out.fin (.slice none 0 0) (fq c s.b lv)).1.alloc _) ((f.out.fin (.slice none 0 0) (fq c s.b lv)).2.alloc _)) rfl ⟨rfl,by have hB:=ad.out;exact (((hB.setCell (by first | (simp;done) | (simp;omega)) _).setCell (by first | (simp;done) | (simp;omega)) _).alloc ag _)⟩
theorem oQ (c:aC) (lv:Int) (s:Sp) (w:World) (E:c.name.size≤1000) (h:¬ bF c lv s=0) :
  Calls Tryz.prog 128 #[aI c,lv,cw s] w fun e w'=>e=.returned (.tuple #[.slice none 0 0,bF c lv s])∧Below w w w':=by
 unfold bF at h ⊢;by_cases f:c.okB=true
 ·by_cases o:1≤lv∧lv≤5
  ·by_cases G:s.a≤s.b
   ·rw [if_pos ⟨f,o,G⟩] at h ⊢
    by_cases F:fq c s.a lv=0
    ·rw [if_pos F] at h ⊢
     exact Aw c lv s w E f o G F h
    ·rw [if_neg F]
     exact yA c lv s w E f o G F
   ·rw [if_neg (fun x=>G x.2.2)]
    exact wP c lv s w E f o om
  ·rw [if_neg (fun x=>o x.2.1)]
   exact xX c lv s w E f o
 ·rw [if_neg (fun x=>f x.1)]
  exact vn c lv s w E (by simpa using f)
attribute [local go_sem] Oper.semAt_some
theorem vy {f:Array Value} {W:World} {h o g n cap:Nat} {e:Int} (I:f[6]?=some (.pointer (some ⟨h,0,none⟩))) (J:f[7]?=some (.pointer (some ⟨o,0,none⟩)))
  (G:ax W h #[.slice (some ⟨g,0,none⟩) n cap] 26) (H:ax W o #[e] 27) :
  (results Tryz.f128 f).run Tryz.prog W=.ok (.tuple #[.slice (some ⟨g,0,none⟩) n cap,e]) W:=by
 have E:=G.cell 0;have F:=H.cell 0;simp at E F;simp [results,Tryz.results128,go_sem,I,J,E,F]
theorem oM {W H:World} {I B X o k:Nat} {e:TypeId} {v v':Value} {V:List Value} {E:Obj} {F:Array Value} {t:TypeId} (h:W.ownsRow I e o v k V) (f:(W.alloc E).grownBy H v.ownBlock) (Y:X<I) (G:X≠B) (U:ax W X F t) :
  ax (H.setCell ⟨B,0,none⟩ v') X F t:=by
 have O:ax H X F t:=(U.alloc E).own f (by
  rcases h.2 with ⟨rfl,_⟩ | ⟨g,cap,J,rfl,hg,_⟩
  ·simp [Value.ownBlock]
  ·intro e
   have:g=X:=by simpa [Value.ownBlock] using e
   omega)
 exact O.far G _
theorem m7 {α:Type} (p:α→Bool) (l:List α) (x:α) (h:p x=true):(l++[x]).filter p=l.filter p++[x]:=by simp [h]
theorem nV {α:Type} (p:α→Bool) (l:List α) (x:α) (h:¬ p x=true):(l++[x]).filter p=l.filter p:=by simp [h]
theorem rY (a b x:Un):(dv a b x=true∧(((x.yr==a.yr)=false∧(x.yr==b.yr)=false)∨((x.yr==a.yr)=false∧(x.yr==b.yr)=true∧decide (b.ix<x.ix)=false)∨((x.yr==a.yr)=true∧decide (x.ix<a.ix)=false∧(x.yr==b.yr)=false)∨((x.yr==a.yr)=true∧decide (x.ix<a.ix)=false∧(x.yr==b.yr)=true∧decide (b.ix<x.ix)=false))) ∨
  (¬ dv a b x=true∧(((x.yr==a.yr)=true∧decide (x.ix<a.ix)=true)∨((x.yr==a.yr)=false∧(x.yr==b.yr)=true∧decide (b.ix<x.ix)=true)∨((x.yr==a.yr)=true∧decide (x.ix<a.ix)=false∧(x.yr==b.yr)=true∧decide (b.ix<x.ix)=true))):=by
 unfold dv;cases (x.yr==a.yr) <;> cases decide (x.ix<a.ix) <;> cases (x.yr==b.yr) <;> cases decide (b.ix<x.ix) <;> simp
theorem uH (c:aC) (lv:Int) (s:Sp) (w:World) (hn:c.name.size≤1000) (h:bF c lv s=0) :
  Calls Tryz.prog 128 #[aI c,lv,cw s] w fun e w'=>∃ g cap,e=.returned (.tuple #[.slice (some ⟨g,0,none⟩) (bn c lv s).length cap,.int .i64 0])∧d9 w' g cap (bn c lv s)∧w.heap.size≤g∧Below w w w':=by
 obtain ⟨hk,l1,l5,dq,ha,hb⟩:=eZ h;obtain ⟨n0,ad,hE,_⟩:=gq h;have bw:=gt h;have HO:=hide (show dI c=0 by simp [dI,hk]);have cy:decide (1≤lv∧lv≤5)=true:=ag;have aB:-10000≤aH c s.a∧aH c s.b≤20000:=by
  have h1:=br (eW ha).2.2.2.2.2.1.1;have h2:=br (eW hb).2.2.2.2.2.1.1;omega
 have ba:(gj c s.a lv).yr=aH c s.a:=by obtain ⟨i,e,_⟩:=oA ha;rw [e]
 have bb:(gj c s.b lv).yr=aH c s.b:=by obtain ⟨i,e,_⟩:=oA hb;rw [e]
 obtain ⟨i0,hi,cp,cr,cs⟩:=info_parts oJ;have hL:bn c lv s=(aT c lv (aH c s.a) (cq c lv s)).filter (dv (gj c s.a lv) (gj c s.b lv)):=by rw [bn,if_pos h]
 have a7:=bw.2.2.2.1;have a9:cq c lv s≤30001:=by unfold cq;omega
 obtain ⟨G,bd⟩:∃ G,gj c s.a lv=G:=⟨_,rfl⟩;obtain ⟨f,bh⟩:∃ f,gj c s.b lv=f:=⟨_,rfl⟩;obtain ⟨ny,hN⟩:∃ ny,cq c lv s=ny:=⟨_,rfl⟩;obtain ⟨L,bs⟩:∃ L,bn c lv s=L:=⟨_,rfl⟩;rw [bs] at hL a7 ⊢;rw [bd] at hL ba;rw [bh] at hL bb;rw [hN] at hL ad hE a9;rw [← ba] at hL aB ad hE;rw [← bb] at aB ad;have HL:=hide (And.intro hL a7);have HF:=hide (And.intro (And.intro ha bd) (And.intro hb bh));have HE:=hide hE;have a6:=hide (And.intro ad (And.intro aB a9));clear h bw hE ad aB n0 ha hb hk ba bb bd bh hN bs hL a7 a9;simp only [aI,cw];refine (callsIn_wide (n:=5)).1 ?_;refine callsIn_of_wp_marks Tryz.func128 rfl trivial ?_ rfl;simp only [Tryz.ntmps128,List.size_toArray,List.length_cons,List.length_nil,Nat.reduceAdd,Nat.reduceSub,Array.replicate_succ,Array.replicate_zero,List.push_toArray,List.append_toArray,List.nil_append,List.cons_append]
 gi_wp2_with fail
 refine ⟨trivial,(callsIn_wide.2 (bg c _ hn)).mono ?_⟩;rintro e w1 ⟨rfl,bt⟩;rw [HO.out];have al:=hide ((ie c s w).call (by exact bt));have b6:=hide (show Below w w w1 by (repeat' exact bel));clear bt;obtain ⟨q0,q1,q2,q3,q4,q5,q6,q7,q8,q9,a0,a2,a3,a4⟩:=al.out.1.cal;obtain ⟨p0,p1⟩:=al.out.sp
 gi_wp2_with fail
 refine ⟨trivial,(callsIn_wide.2 (bT lv _)).mono ?_⟩;rintro e w' ⟨rfl,rfl⟩;rw [cy]
 gi_wp2_with fail
 refine ⟨trivial,(callsIn_wide.2 (iV c s.a lv _ hn)).mono ?_⟩;rintro e w2 ⟨rfl,ab⟩;clear q0 q1 q2 q3 q4 q5 q6 q7 q8 q9 a0 a2 a3 a4;rw [HF.out.1.1,HF.out.1.2];clear p0 p1;have O:=hide (al.out.call ab);have b7:=hide (b6.out.trans (ab.mono (by have:=al.out.lt;omega)));clear ab;have b4:w.heap.size<w2.heap.size:=by have:=O.out.lt;omega
 have b5:w.heap.size+1<w2.heap.size:=by have:=O.out.lt;omega
 obtain ⟨q0,q1,q2,q3,q4,q5,q6,q7,q8,q9,a0,a2,a3,a4⟩:=O.out.1.cal;obtain ⟨p0,p1⟩:=O.out.sp
 gi_wp2_with fail
 refine ⟨trivial,(callsIn_wide.2 (iV c s.b lv _ hn)).mono ?_⟩;rintro e H ⟨rfl,aA⟩;clear q0 q1 q2 q3 q4 q5 q6 q7 q8 q9 a0 a2 a3 a4;rw [HF.out.2.1,HF.out.2.2];clear p0 p1;have ao:=hide ((O.out.alloc _).call aA);have b8:=hide ((b7.out.alloc (by have:=O.out.lt;omega) _).trans (aA.mono (by have:=O.out.lt;simp;omega)));have GA:=hide ((ax.new w2 #[.int .i64 G.lv,.int .i64 G.yr,.int .i64 G.ix] 33).call aA);clear aA b4 b5;have b4:w.heap.size<H.heap.size:=by have:=ao.out.lt;omega
 have b5:w.heap.size+1<H.heap.size:=by have:=ao.out.lt;omega
 obtain ⟨q0,q1,q2,q3,q4,q5,q6,q7,q8,q9,a0,a2,a3,a4⟩:=ao.out.1.cal;have dg:H.cell? ⟨w2,1,none⟩=some (.int .i64 G.yr):=GA.out.cell 1;have d0:w2.heap.size<H.heap.size:=GA.out.lt
 gi_wp2_with fail
 refine ⟨trivial,(qA _ c lv G.yr f.yr _).mono ?_⟩;rintro e w4 ⟨rfl,rfl⟩
 gi_wp2_with fail
 obtain ⟨U,I⟩:∃ U:World,U=((((((H.alloc (.cells #[.int .i64 f.lv,.int .i64 f.yr,.int .i64 f.ix] 33)).alloc (.cells #[.slice none 0 0] 26)).alloc (.cells (bJ c) 24)).alloc (.cells #[lv] 3)).alloc (.cells #[.int .i64 G.yr] 3)).alloc (.cells #[.int .i64 f.yr] 3)):=⟨_,rfl⟩;have d2:U.heap.size=H.heap.size+6:=by rw [I];simp
 have s0:ax U (H+2) (bJ c) 24:=by
  rw [I];have:=(((ax.new ((H.alloc (.cells #[.int .i64 f.lv,.int .i64 f.yr,.int .i64 f.ix] 33)).alloc (.cells #[.slice none 0 0] 26)) (bJ c) 24).alloc (.cells #[lv] 3)).alloc (.cells #[.int .i64 G.yr] 3)).alloc (.cells #[.int .i64 f.yr] 3);simpa using this
 have s1:ax U (H+3) #[lv] 3:=by
  rw [I];have:=((ax.new (((H.alloc (.cells #[.int .i64 f.lv,.int .i64 f.yr,.int .i64 f.ix] 33)).alloc (.cells #[.slice none 0 0] 26)).alloc (.cells (bJ c) 24)) #[lv] 3).alloc (.cells #[.int .i64 G.yr] 3)).alloc (.cells #[.int .i64 f.yr] 3);simpa using this
 have s2:ax U (H+4) #[.int .i64 G.yr] 3:=by
  rw [I];have:=(ax.new ((((H.alloc (.cells #[.int .i64 f.lv,.int .i64 f.yr,.int .i64 f.ix] 33)).alloc (.cells #[.slice none 0 0] 26)).alloc (.cells (bJ c) 24)).alloc (.cells #[lv] 3)) #[.int .i64 G.yr] 3).alloc (.cells #[.int .i64 f.yr] 3);simpa using this
 have s3:ax U (H+5) #[.int .i64 f.yr] 3:=by
  rw [I];have:=ax.new (((((H.alloc (.cells #[.int .i64 f.lv,.int .i64 f.yr,.int .i64 f.ix] 33)).alloc (.cells #[.slice none 0 0] 26)).alloc (.cells (bJ c) 24)).alloc (.cells #[lv] 3)).alloc (.cells #[.int .i64 G.yr] 3)) #[.int .i64 f.yr] 3;simpa using this
 have sO:Boxed U (H.heap.size+1) 26 (.slice none 0 0):=by
  rw [I];have:=((((Boxed.new (H.alloc (.cells #[.int .i64 f.lv,.int .i64 f.yr,.int .i64 f.ix] 33)) 26 (.slice none 0 0)).alloc (.cells (bJ c) 24)).alloc (.cells #[lv] 3)).alloc (.cells #[.int .i64 G.yr] 3)).alloc (.cells #[.int .i64 f.yr] 3);simpa using this
 have sB:ax U H #[.int .i64 f.lv,.int .i64 f.yr,.int .i64 f.ix] 33:=by
  rw [I];exact (((((ax.new H _ _).alloc _).alloc _).alloc _).alloc _).alloc _
 have sA:ax U w2 #[.int .i64 G.lv,.int .i64 G.yr,.int .i64 G.ix] 33:=by
  rw [I];exact (((((GA.out.alloc _).alloc _).alloc _).alloc _).alloc _).alloc _
 have a8:jr c s w.heap.size U:=by
  rw [I];exact (((((ao.out.alloc _).alloc _).alloc _).alloc _).alloc _).alloc _
 have r1:ax U (w+1+1) #[.slice none 0 0] 26:=a8.2.2.1;have r2:ax U (w+1+1+1) #[.int .i64 0] 27:=a8.2.2.2;have d3:w.heap.size+3<w2.heap.size:=O.out.lt;have b9:Below w w U:=by
  have b1:=b8.out;rw [I];refine Below.alloc (Below.alloc (Below.alloc (Below.alloc (Below.alloc (Below.alloc b1 ?_ _) ?_ _) ?_ _) ?_ _) ?_ _) ?_ _ <;> first | omega | (simp;omega)
 rw [← I];clear I a8;have c8:=lS c lv G.yr ny HE.out
 refine wpIn_rangeFunc_ownH (α:=Un) rfl om (gf:=50) (lb:=#[.pointer (some ⟨H+4,0,none⟩),.pointer (some ⟨H+5,0,none⟩),.pointer (some ⟨H+2,0,none⟩),.pointer (some ⟨H+3,0,none⟩)]) rfl trivial (enters_of Tryz.func50 (by kernel_rfl) rfl)
  (mn c lv G.yr f.yr ny hn a6.out.1 a6.out.2.1 HE.out (H.heap.size+4) (H.heap.size+5) (H.heap.size+2) (H.heap.size+3) U s0 s2 s3 s1)
  cR.trans (fun W l o o' _ h1 h2 _=>jz W l o o' h1 h2) (Below.refl _ _) (fun _=>rfl)
  (fun (F:List Un) W=>(((((∃ v,Boxed W (H.heap.size+1) 26 v∧W.ownsRow (H.heap.size+1) 33 3 v (F.filter (dv G f)).length (fQ (F.filter (dv G f)))∧(v=.slice none 0 0↔F.filter (dv G f)=[]))∧ax W (w+1+1) #[.slice none 0 0] 26)∧ax W (w+1+1+1) #[.int .i64 0] 27)∧ax W w2 #[.int .i64 G.lv,.int .i64 G.yr,.int .i64 G.ix] 33)∧ax W H #[.int .i64 f.lv,.int .i64 f.yr,.int .i64 f.ix] 33)∧Below w w W)
  (fun _ _ _=>False)
  (OwnFrom.and (OwnFrom.and (OwnFrom.and (OwnFrom.and (OwnFrom.and (Own.from (holdsRow_own (H.heap.size+1) (H.heap.size+1) _ _ 3 (fun (F:List Un)=>(F.filter (dv G f)).length) (fun (F:List Un)=>fQ (F.filter (dv G f))) (fun (F:List Un) v=>v=.slice none 0 0↔F.filter (dv G f)=[])) _) (Own.from (fC _ _ _) _)) (Own.from (fC _ _ _) _)) (Own.from (fC _ _ _) _)) (Own.from (fC _ _ _) _)) (ownFrom_below (Nat.le_refl _) om))
  (fun _ _ _ _ _ hs _ _=>hs)
  ⟨⟨⟨⟨⟨⟨_,sO,World.ownsRow_nil _ _ _ _,by simp⟩,r1⟩,r2⟩,sA⟩,sB⟩,b9⟩
  (GZ (H.heap.size+1) ?a1) (fun x a'=>ug _ _ x a' _)
  ?assign ?body ?done ?stop
 case assign =>
  rintro l F x W K ⟨⟨⟨⟨⟨⟨v,hv,E,Y⟩,k1⟩,k2⟩,k3⟩,k4⟩,hB⟩ hK;have V:=hide hK;clear hK;obtain ⟨Bx,aq⟩:∃ Bx,Bx=W.heap.size:=⟨_,rfl⟩;simp only [Ci,aZ]
  gi_wp2
  rw [← aq];have ca:=fun a' (h:a'=_)=>V.out a' _ ((KeepsOthers.alloc _ _).from _) (cR.alloc _ _) ⟨⟨⟨⟨⟨⟨v,hv.alloc _,E.alloc _,Y⟩,k1.alloc _⟩,k2.alloc _⟩,k3.alloc _⟩,k4.alloc _⟩,hB.alloc hB.size _⟩ ⟨Bx,by rw [aq];exact hv.lt,by rw [aq];exact ax.new W #[.int .i64 x.lv,.int .i64 x.yr,.int .i64 x.ix] 33,h⟩
  have cb:=ca _ rfl;exact cb
 case body =>
  rintro l F x a' W hl ⟨r,hr⟩ ⟨⟨⟨⟨⟨⟨v,hv,E,Y⟩,k1⟩,k2⟩,k3⟩,k4⟩,hB⟩ ⟨Bx,aq,bX,rfl⟩ b0;have hc:=hv.cell;have c1:W.cell? ⟨Bx,0,none⟩=some (.int .i64 x.lv):=bX.cell 0;have c2:W.cell? ⟨Bx,1,none⟩=some (.int .i64 x.yr):=bX.cell 1;have c3:W.cell? ⟨Bx,2,none⟩=some (.int .i64 x.ix):=bX.cell 2;have c4:W.cell? ⟨w2,1,none⟩=some (.int .i64 G.yr):=k3.cell 1;have c5:W.cell? ⟨w2,2,none⟩=some (.int .i64 G.ix):=k3.cell 2;have c6:W.cell? ⟨H,1,none⟩=some (.int .i64 f.yr):=k4.cell 1;have c7:W.cell? ⟨H,2,none⟩=some (.int .i64 f.ix):=k4.cell 2;have dd:=hB.size;have cl:H.heap.size+1≤W.heap.size:=Nat.le_of_lt hv.lt;have d1:(F.filter (dv G f)).length+1≤2000000:=by have:=List.length_filter_le (dv G f) F;have:=a6.out.2.2;omega
  have c9:=hide b0;have bk:=hide k3;have bl:=hide k4;clear b0;rcases rY G f x with ⟨ac,hh⟩ | ⟨ac,hh⟩
  ·have aa:=hide ac
   clear ac;rcases hh with ⟨e1,e2⟩ | ⟨e1,e2,e3⟩ | ⟨e1,e2,e3⟩ | ⟨e1,e2,e3,e4⟩
   all_goals
    gi_wp2_with (gi_at_builtin;refine wpListIn_append_own _ rfl _ _ 26 rfl (H.heap.size+1) 33 i0 (.agg #[.int .i64 0,.int .i64 0,.int .i64 0]) 3 24 Tryz.underlying26 hi cp cr cs rfl aj _ _ _ rfl (E.alloc _) ⟨W,0,none⟩ 1 1 [.int .i64 x.lv,.int .i64 x.yr,.int .i64 x.ix] rfl rfl (nu _ _ _ _ _) (by simp [Value.oneCell']) (by unfold maxLen;omega) om ag ?_;intro v' w6 ah J cS;obtain ⟨g',bp,rfl⟩:=ownsRow_succ ah;obtain ⟨b3,c0,bc,cv,ab⟩:=hv.appended aj E cl om ah J;have ds:=b3.cell;have dY:=b3.frozen)
    obtain ⟨cx,a5⟩:=qW (v':=.slice (some ⟨g',0,none⟩) ((F.filter (dv G f)).length+1) bp) hv E J;exact ⟨cv.from _,cx,⟨⟨⟨⟨⟨⟨_,c0,by rw [m7 (dv G f) F x aa.out,my];simpa using bc,by rw [m7 (dv G f) F x aa.out];simp⟩,a5 _ _ _ om aj k1⟩,a5 _ _ _ om aj k2⟩,oM E J om om bk.out⟩,oM E J om om bl.out⟩,hB.trans (ab.mono om)⟩⟩
  ·have aa:=hide ac
   clear ac;rcases hh with ⟨e1,e2⟩ | ⟨e1,e2,e3⟩ | ⟨e1,e2,e3,e4⟩
   all_goals
    gi_wp2
    exact ⟨(KeepsOthers.refl _).from _,cR.refl _ _ _,⟨⟨⟨⟨⟨⟨v,hv,by rw [nV (dv G f) F x aa.out];exact E,by rw [nV (dv G f) F x aa.out];exact Y⟩,k1⟩,k2⟩,bk.out⟩,bl.out⟩,hB⟩⟩
 case done =>
  rintro D xs W hD rfl ⟨⟨⟨⟨⟨⟨v,hv,E,Y⟩,k1⟩,k2⟩,k3⟩,k4⟩,hB⟩ hK;rw [← HL.out.1] at E;obtain ⟨g,cap,rfl,hg⟩:=qY E HL.out.2;have hc:=hv.cell;have m1:W.cell? ⟨w+1+1,0,none⟩=some (.slice none 0 0):=k1.cell 0;have m2:W.cell? ⟨w+1+1+1,0,none⟩=some (.int .i64 0):=k2.cell 0;have f1:W.frozen? ⟨w+1+1,0,none⟩=false:=by simp [World.frozen?,show W.heap[w.heap.size+1+1]?=_ from k1]
  have f2:W.frozen? ⟨w+1+1+1,0,none⟩=false:=by simp [World.frozen?,show W.heap[w.heap.size+1+1+1]?=_ from k2]
  gi_wp2
  have V:((W.setCell ⟨w+1+1,0,none⟩ (.slice (some ⟨g,0,none⟩) L.length cap)).setCell ⟨w+1+1+1,0,none⟩ (.int .i64 0)).heap[D]?=some (.deferred (some [])):=((KeepsOthers.setCell _ _ _).trans (KeepsOthers.setCell _ _ _)).same _ _ hK rfl;refine ⟨by simp,.inl ⟨_,_,rfl,run_takeDeferred V,?_⟩⟩;have bx:=grownBy_putObj' ((W.setCell ⟨w+1+1,0,none⟩ (.slice (some ⟨g,0,none⟩) L.length cap)).setCell ⟨w+1+1+1,0,none⟩ (.int .i64 0)) D (.deferred none);have j1:=fp ((k1.set0 (.slice (some ⟨g,0,none⟩) L.length cap)).far (p:=⟨w+1+1+1,0,none⟩) af (.int .i64 0)) bx (fun r e=>by cases e;exact ⟨_,V,rfl⟩);have j2:=fp ((k2.far (p:=⟨w+1+1,0,none⟩) af (.slice (some ⟨g,0,none⟩) L.length cap)).set0 (.int .i64 0)) bx (fun r e=>by cases e;exact ⟨_,V,rfl⟩);refine ⟨_,vy rfl rfl j1 j2,g,cap,rfl,?_,by omega,?_⟩
  ·refine ownsRow_putObj ?_ _ V rfl
   have b2:=E.kept (grownBy_setCell' W (w.heap.size+1+1) (.slice (some ⟨g,0,none⟩) L.length cap)) (.inr (pp E k1));have bc:=b2.kept (grownBy_setCell' _ (w.heap.size+1+1+1) (.int .i64 0)) (.inr (pp b2 (k2.far (p:=⟨w+1+1,0,none⟩) af _)));exact bc.base (Nat.zero_le _)
  ·exact ((hB.setCell ag _).setCell ag _).trans (belowK_b (w:=w) (Nat.le_refl _) _ D _ _ om V rfl rfl)
 case stop =>
  rintro D cc F W _ _ h _;exact h.elim
theorem ax.fz' {w:World} {B:Nat} {f:Array Value} {t:TypeId} (h:ax w B f t) (i:Nat):w.frozen? ⟨B,i,none⟩=false:=by simp [World.frozen?,show w.heap[B]?=_ from h]
def mJ (c:aC) (lv f t:Int):Int:=if c.okB=true∧1≤lv∧lv≤5 then (if c.first≤f∧t≤c.last∧f≤t then 0 else 11) else 1
theorem zF {c:aC} {lv f t:Int} (h:mJ c lv f t=0):c.okB=true∧(1≤lv∧lv≤5)∧c.first≤f∧t≤c.last∧f≤t:=by
 unfold mJ at h
 split at h
 ·split at h
  ·rename_i h1 h2;exact ⟨h1.1,h1.2,h2⟩
  ·omega
 ·omega
end
end Go.Proofs.YtpebkobmhhnojaaGreatDoor
