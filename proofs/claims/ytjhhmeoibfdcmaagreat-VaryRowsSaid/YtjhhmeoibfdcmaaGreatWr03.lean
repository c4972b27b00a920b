/- Lemmas. -/
import Derived.BigQuiet
import Derived.Deep.DeepCutAuto
import Derived.Lib.QuietBelow
import Derived.Test.YtjhhmeoibfdcmaaGreatWr01
set_option linter.unusedSimpArgs false
set_option linter.unusedVariables false
set_option maxRecDepth 100000
set_option maxHeartbeats 12800000
namespace Go.Proofs.YtjhhmeoibfdcmaaGreat
section
open Go.RowKit
structure Pt where
 pos:Int
 ab:Int
 deriving DecidableEq,Inhabited
def Pt.lt (x y:Pt):Prop:=y.ab<x.ab∨(x.ab=y.ab∧x.pos<y.pos)
instance (x y:Pt):Decidable (Pt.lt x y):=by unfold Pt.lt;infer_instance
theorem Pt.lt_trans {x y z:Pt} (h:x.lt y) (k:y.lt z):x.lt z:=by unfold Pt.lt at *;omega
theorem Pt.lt_asymm {x y:Pt} (h:x.lt y) (k:y.lt x):False:=by unfold Pt.lt at *;omega
theorem Pt.not_lt {x y:Pt} (h:x.pos≠y.pos) (k:¬ x.lt y):y.lt x:=by unfold Pt.lt at *;omega
theorem Pt.lt_iff {x y:Pt} (h:y.pos<x.pos):x.lt y↔y.ab<x.ab:=by unfold Pt.lt;omega
def iW (l:List Pt):Prop:=l.Pairwise Pt.lt
def kn (a b:List Pt):Prop:=∀ x∈a,∀ y∈b,x.pos<y.pos
theorem kn.perm {a b f o:List Pt} (h:kn a b) (E:f.Perm a) (F:o.Perm b):kn f o:=fun x G y H=>h x (E.mem_iff.1 G) y (F.mem_iff.1 H)
theorem kn.sub {a b f o:List Pt} (h:kn a b) (E:∀ x∈f,x∈a) (F:∀ x∈o,x∈b):kn f o:=fun x G y H=>h x (E x G) y (F y H)
def iX (l s:List Pt):Prop:=s.Perm l∧iW s
theorem iX.uniq {l s t:List Pt} (h:iX l s) (k:iX l t):s=t:=by
 have E:s.Perm t:=h.1.trans k.1.symm;exact E.eq_of_pairwise (le:=Pt.lt) (fun a b _ _ f o=>(Pt.lt_asymm f o).elim) h.2 k.2
theorem iW.app {a b:List Pt} (f:iW a) (o:iW b) (h:∀ x∈a,∀ y∈b,x.lt y):iW (a++b):=List.pairwise_append.2 ⟨f,o,h⟩
theorem iW.left {a b:List Pt} (h:iW (a++b)):iW a:=(List.pairwise_append.1 h).1
theorem iW.right {a b:List Pt} (h:iW (a++b)):iW b:=(List.pairwise_append.1 h).2.1
theorem iW.cross {a b:List Pt} (h:iW (a++b)):∀ x∈a,∀ y∈b,x.lt y:=(List.pairwise_append.1 h).2.2
def zJ (l:List Pt) (i j:Nat):List Pt:=(l.set i (l[j]?.getD default)).set j (l[i]?.getD default)
theorem Cl (p q r:List Pt) (x y:Pt):zJ (p++x::(q++y::r)) p.length (p.length+1+q.length)=p++y::(q++x::r):=by
 unfold zJ;have f:(p++x::(q++y::r))[p.length]?=some x:=ac;have h:(p++x::(q++y::r))[p.length+1+q.length]?=some y:=by
  rw [List.getElem?_append_right om,show p.length+1+q.length-p.length=q.length+1 by omega,List.getElem?_cons_succ,List.getElem?_append_right (Nat.le_refl _)];simp
 rw [f,h];simp only [Option.getD_some];rw [List.set_append_right _ _ (Nat.le_refl _),Nat.sub_self,List.set_cons_zero,List.set_append_right _ _ om,show p.length+1+q.length-p.length=q.length+1 by omega,List.set_cons_succ,List.set_append_right _ _ (Nat.le_refl _),Nat.sub_self,List.set_cons_zero]
theorem iX.trans {l s t:List Pt} (h:s.Perm l) (k:iX s t):iX l t:=⟨k.1.trans h,k.2⟩
theorem IU {T U r1 r2:List Pt} (O:iW (T++U)) (R:iW (r1++r2))
  (W:∀ x∈T.getLast?,∀ y∈r2.head?,x.lt y) (h2:∀ x∈r1.getLast?,∀ y∈U.head?,x.lt y) :
  ∀ x∈T++r1,∀ y∈U++r2,x.lt y:=by
 have G:∀ {a b:List Pt},iW (a++b)→∀ x∈a,∃ z∈a.getLast?,x=z∨x.lt z:=by
  intro a b h x f;rcases List.eq_nil_or_concat a with rfl | ⟨a0,z,rfl⟩
  ·simp at f
  ·rw [List.concat_eq_append] at f h ⊢
   refine ⟨z,by simp,?_⟩;rcases List.mem_append.1 f with E | E
   ·exact .inr (h.left.cross x E z ac)
   ·simp at E;exact .inl E
 have F:∀ {a b:List Pt},iW (a++b)→∀ y∈b,∃ z∈b.head?,z=y∨z.lt y:=by
  intro a b h y o;cases b with
  | nil=>simp at o
  | cons z b0 =>
   refine ⟨z,by simp,?_⟩;rcases List.mem_cons.1 o with E | E
   ·exact .inl E.symm
   ·exact .inr (List.rel_of_pairwise_cons h.right E)
 have V:∀ {x z H y:Pt},(x=z∨x.lt z)→z.lt H→(H=y∨H.lt y)→x.lt y:=by
  intro x z H y a b c;rcases a with rfl | a <;> rcases c with rfl | c
  ·exact b
  ·exact Pt.lt_trans b c
  ·exact Pt.lt_trans a b
  ·exact Pt.lt_trans (Pt.lt_trans a b) c
 intro x f y o;rcases List.mem_append.1 f with f | f <;> rcases List.mem_append.1 o with o | o
 ·exact O.cross x f y o
 ·obtain ⟨z,S,e⟩:=G O x f
  obtain ⟨H,I,J⟩:=F R y o;exact V e (W z S H I) J
 ·obtain ⟨z,S,e⟩:=G R x f
  obtain ⟨H,I,J⟩:=F O y o;exact V e (h2 z S H I) J
 ·exact R.cross x f y o
theorem nT {x:Pt} {r1 r2:List Pt} (h:iW (r1++r2)) (E:∀ y∈r1,y.lt x) (F:∀ y∈r2,x.lt y):iW (r1++x::r2):=by
 refine h.left.app (List.pairwise_cons.2 ⟨F,h.right⟩) ?_;intro a o b f;rcases List.mem_cons.1 f with rfl | f
 ·exact E a o
 ·exact h.cross a o b f
def rf (p a m b r:List Pt) (i:Nat):List Pt:=p++(b.take i++a.drop i)++m++(a.take i++b.drop i)++r
theorem Dn (p a m b r:List Pt):rf p a m b r 0=p++a++m++b++r:=by simp [rf]
theorem FK (p a m b r:List Pt) (n:Nat) (f:a.length=n) (h:b.length=n):rf p a m b r n=p++b++m++a++r:=by
 unfold rf;rw [List.take_of_length_le om,List.drop_eq_nil_of_le om,List.take_of_length_le om,List.drop_eq_nil_of_le om];simp only [List.append_nil]
theorem EI (p a m b r:List Pt) (n i:Nat) (G:a.length=n) (J:b.length=n) (hi:i<n) :
  zJ (rf p a m b r i) (p.length+i) (p.length+n+m.length+i)=rf p a m b r (i+1):=by
 have f:a.drop i=a[i]::a.drop (i+1):=List.drop_eq_getElem_cons om;have o:b.drop i=b[i]::b.drop (i+1):=List.drop_eq_getElem_cons om;have E:a.take (i+1)=a.take i++[a[i]]:=List.take_succ_eq_append_getElem om;have F:b.take (i+1)=b.take i++[b[i]]:=List.take_succ_eq_append_getElem om;have h:=Cl (p++b.take i) (a.drop (i+1)++m++a.take i) (b.drop (i+1)++r) a[i] b[i];have H:(p++b.take i).length=p.length+i:=ae;have I:(a.drop (i+1)++m++a.take i).length=(n-(i+1))+m.length+i:=by simp [G];omega
 rw [H,I,show p.length+i+1+(n-(i+1)+m.length+i)=p.length+n+m.length+i by omega] at h;have s1:rf p a m b r i=p++b.take i++a[i]::(a.drop (i+1)++m++a.take i++b[i]::(b.drop (i+1)++r)):=by
  unfold rf;rw [f,o];simp only [List.append_assoc,List.cons_append,List.nil_append]
 have s2:rf p a m b r (i+1)=p++b.take i++b[i]::(a.drop (i+1)++m++a.take i++a[i]::(b.drop (i+1)++r)):=by
  unfold rf;rw [E,F];simp only [List.append_assoc,List.cons_append,List.nil_append]
 rw [s1,s2];exact h
theorem IX {s1 s2:List Pt} {x:Pt} (h:iW (s1++s2)) (E:∀ y∈s1.getLast?,y.lt x) (G:∀ y∈s2,x.lt y):iW (s1++x::s2):=by
 refine nT h ?_ G;intro y o;rcases List.eq_nil_or_concat s1 with rfl | ⟨H,z,rfl⟩
 ·simp at o
 ·rw [List.concat_eq_append] at o h E
  have F:z.lt x:=E z ac;rcases List.mem_append.1 o with f | f
  ·exact Pt.lt_trans (h.left.cross y f z ac) F
  ·simp at f;rw [f];exact F
structure cV (g:Nat) (w w':World):Prop where
 os:w'.os=w.os
 tape:w'.tape=w.tape
 output:w'.output=w.output
 size:w.heap.size≤w'.heap.size
 block:∀ k,k<w.heap.size→k≠g→w'.heap[k]?=w.heap[k]?
theorem cV.refl (g:Nat) (w:World):cV g w w:=⟨rfl,rfl,rfl,Nat.le_refl _,fun _ _ _=>rfl⟩
theorem cV.trans {g:Nat} {a b c:World} (h:cV g a b) (k:cV g b c):cV g a c:=
 ⟨k.os.trans h.os,k.tape.trans h.tape,k.output.trans h.output,Nat.le_trans h.size k.size,fun i hi f=>(k.block i (Nat.lt_of_lt_of_le hi h.size) f).trans (h.block i hi f)⟩
theorem cV.drew {g:Nat} {a w:World} (h:cV g a w):cV g a w.drew:=⟨h.os,h.tape,h.output,h.size,h.block⟩
theorem cV.of {K:Nat} {a w:World} (h:Below K a w) (g:Nat) (f:a.heap.size≤K:=by exact Nat.le_refl _):cV g a w:=⟨h.os,h.tape,h.output,h.size,fun k o _=>h.block k (Nat.lt_of_lt_of_le o f)⟩
theorem zc {g:Nat} {a w:World} (h:cV g a w) (n:Nat):cV g a (w.drewN n):=h.trans (cV.of (below_drewN (Below.refl w.heap.size w) n) g)
theorem cV.setCell {g:Nat} {a w:World} (h:cV g a w) {o:Nat} {b} (E:g≤g) (u:Value):cV g a (w.setCell ⟨g,o,b⟩ u):=
 h.trans ⟨rfl,rfl,rfl,by simp [World.setCell],fun k _ f=>Below.heap_setCell _ _ _ _ f⟩
theorem cV.below {g K:Nat} {a w:World} (h:cV g a w) (E:K≤g) (f:K≤a.heap.size):Below K a w:=⟨h.os,h.tape,h.output,h.size,fun k o=>h.block k (Nat.lt_of_lt_of_le o f) om⟩
def CU (p:Pt):List Value:=[.int .i64 p.pos,.int .i64 p.ab]
def aJ (w:World) (g:Nat) (D:List Pt):Prop:=w.heap[g]?=some (.cells (D.flatMap CU).toArray 163 (0,0))
theorem aJ.lt {w:World} {g:Nat} {D:List Pt} (h:aJ w g D):g<w.heap.size:=(Array.getElem?_eq_some_iff.1 h).1
theorem Jd (D:List Pt) (i:Nat) (p:Pt) (h:D[i]?=some p):(D.flatMap CU)[i*2]?=some (.int .i64 p.pos)∧(D.flatMap CU)[i*2+1]?=some (.int .i64 p.ab):=by
 induction D generalizing i with
 | nil=>simp at h
 | cons x l f =>
  cases i with
  | zero=>simp at h;subst h;simp [CU]
  | succ i =>
   have:=f i (by simpa using h);rw [show (i+1)*2=i*2+1+1 by omega];simpa [CU] using this
theorem JB (D:List Pt) (i:Nat) (p:Pt) (h:i<D.length):((D.flatMap CU).set (i*2) (.int .i64 p.pos)).set (i*2+1) (.int .i64 p.ab)=(D.set i p).flatMap CU:=by
 induction D generalizing i with
 | nil=>simp at h
 | cons x l f =>
  cases i with
  | zero=>simp [CU]
  | succ i =>
   have:=f i (by simpa using h);rw [show (i+1)*2=i*2+1+1 by omega];simpa [CU] using this
theorem aJ.cell {w:World} {g:Nat} {D:List Pt} (h:aJ w g D) {i:Nat} {p:Pt} (hi:D[i]?=some p):w.cell? ⟨g,i*2,none⟩=some (.int .i64 p.pos)∧w.cell? ⟨g,i*2+1,none⟩=some (.int .i64 p.ab):=by
 have:=Jd D i p hi;simp [World.cell?,show w.heap[g]?=_ from h,this]
theorem aJ.frozen {w:World} {g:Nat} {D:List Pt} (h:aJ w g D) (k:Nat):w.frozen? ⟨g,k,none⟩=false:=by simp [World.frozen?,show w.heap[g]?=_ from h]
theorem aJ.below {w f:World} {K g:Nat} {D:List Pt} (h:aJ w g D) (o:Below K w f) (E:g<K):aJ f g D:=(o.block g E).trans h
theorem aJ.call {w f:World} {g:Nat} {D:List Pt} (h:aJ w g D) (o:Below w w f):aJ f g D:=h.below o h.lt
theorem aJ.drew {w:World} {g:Nat} {D:List Pt} (h:aJ w g D):aJ w.drew g D:=h
theorem aJ.put {w:World} {g:Nat} {D:List Pt} (h:aJ w g D) (i:Nat) (p:Pt) (hi:i<D.length):aJ ((w.setCell ⟨g,i*2,none⟩ (.int .i64 p.pos)).setCell ⟨g,i*2+1,none⟩ (.int .i64 p.ab)) g (D.set i p):=by
 unfold aJ at h ⊢;rw [← JB D i p hi];simp [World.setCell,Array.getElem?_modify,h]
theorem Il (g cap L:Nat) (p a m b r:List Pt) (n:Nat) (fv:Value) (w:World) (J:a.length=n) (O:b.length=n) (hD:aJ w g (p++a++m++b++r)) (hL:(p++a++m++b++r).length=L) (hl:L≤1000000) :
  Calls Tryz.prog 243 #[.slice (some ⟨g,0,none⟩) L cap,.int .i64 (p.length:Int),.int .i64 ((p.length+n+m.length:Nat):Int),.int .i64 (n:Int),fv] w fun e w'=>e=.returned (.tuple #[])∧aJ w' g (p++b++m++a++r)∧cV g w w':=by
 have o:=hide (fun i (hi:i<n)=>EI p a m b r n i J O hi);have T:=hide (FK p a m b r n J O);have ah:=hide (And.intro J O);have H:p.length+n+m.length+n+r.length=L:=by rw [← hL];simp;omega
 have V:=hide (fun i=>(show i≤n→(rf p a m b r i).length=L from fun hi=>by rw [← hL];simp [rf];omega));have U:=hide (fun i (hi:i<n)=>(show (rf p a m b r i)[p.length+i]?=some (a[i]?.getD default)∧(rf p a m b r i)[p.length+n+m.length+i]?=some (b[i]?.getD default) from by
  have ea:a[i]?=some a[i]:=List.getElem?_eq_getElem om;have eb:b[i]?=some b[i]:=List.getElem?_eq_getElem om;have G:a.drop i=a[i]::a.drop (i+1):=List.drop_eq_getElem_cons om;have E:b.drop i=b[i]::b.drop (i+1):=List.drop_eq_getElem_cons om;have s1:rf p a m b r i=(p++b.take i)++a[i]::(a.drop (i+1)++m++a.take i++b[i]::(b.drop (i+1)++r)):=by
   unfold rf;rw [G,E];simp only [List.append_assoc,List.cons_append]
  have s2:rf p a m b r i=(p++b.take i++a.drop i++m++a.take i)++b[i]::(b.drop (i+1)++r):=by
   unfold rf;rw [E];simp only [List.append_assoc,List.cons_append]
  constructor
  ·rw [s1,List.getElem?_append_right ae,ea]
   have:p.length+i-(p++b.take i).length=0:=ae;rw [this];simp
  ·rw [s2,List.getElem?_append_right ae,eb]
   have:p.length+n+m.length+i-(p++b.take i++a.drop i++m++a.take i).length=0:=ae;rw [this];simp))
 have H0:=hide (show aJ w g (rf p a m b r 0) by rw [Dn];exact hD);have ay:=hD.lt;obtain ⟨A,hA⟩:∃ A,p.length=A:=⟨_,rfl⟩;rw [hA] at H o U;rw [hA];obtain ⟨B,F⟩:∃ B,A+n+m.length=B:=⟨_,rfl⟩;rw [F] at o U ⊢;have aq:B+n≤L:=om;have al:A+n≤B:=om;clear hD hL J O hA F H;go_enter Tryz.func243,Tryz.ntmps243;go_wp2_with fail;go_loopw [10] (fun s wr=>∃ i:Nat,s=.int .i64 i∧i≤n∧aJ wr g (rf p a m b r i)∧cV g w wr) (fun s _=>(n-intOf s).toNat)
 case atStart=>exact ⟨0,rfl,Nat.zero_le _,H0.out,cV.refl _ _⟩
 case round =>
  obtain ⟨i,rfl,hi,f,F⟩:=hrel;by_cases I:i<n
  ·obtain ⟨G,E⟩:=U.out i I
   obtain ⟨x,hx⟩:∃ x,a[i]?.getD default=x:=⟨_,rfl⟩;obtain ⟨y,hy⟩:∃ y,b[i]?.getD default=y:=⟨_,rfl⟩;rw [hx] at G;rw [hy] at E;obtain ⟨c1,c2⟩:=f.cell G;obtain ⟨c3,c4⟩:=f.cell E;have f1:=f.frozen ((A+i)*2);have f2:=f.frozen ((A+i)*2+1);have f3:=f.frozen ((B+i)*2);have f4:=f.frozen ((B+i)*2+1);have aA:=f.lt;have W:=hide f;have R:=hide F;have HE:=hide (And.intro G E);have s1:(0:Int)≤(A:Int)+(i:Int):=om;have s2:((A:Int)+(i:Int)).toNat=A+i:=om;have s3:(A:Int)+(i:Int)<(L:Int):=om;have s4:(0:Int)≤(B:Int)+(i:Int):=om;have s5:((B:Int)+(i:Int)).toNat=B+i:=om;have s6:(B:Int)+(i:Int)<(L:Int):=om;have s7:IntKind.i64.wrap ((A:Int)+(i:Int))=(A:Int)+(i:Int):=by simp [IntKind.wrap,IntKind.bits,IntKind.signed];omega
   have s8:IntKind.i64.wrap ((B:Int)+(i:Int))=(B:Int)+(i:Int):=by simp [IntKind.wrap,IntKind.bits,IntKind.signed];omega
   clear f F G E;have HN:=hide (show aJ ((((wr.setCell ⟨g,(A+i)*2,none⟩ (.int .i64 y.pos)).setCell ⟨g,(A+i)*2+1,none⟩ (.int .i64 y.ab)).setCell ⟨g,(B+i)*2,none⟩ (.int .i64 x.pos)).setCell ⟨g,(B+i)*2+1,none⟩ (.int .i64 x.ab)).drew g (rf p a m b r (i+1)) from by
    have ad:=V.out i hi;have h:=((W.out.put (A+i) y om).put (B+i) x ae).drew;have e:=o.out i I;unfold zJ at e;rw [HE.out.1,HE.out.2] at e;simp only [Option.getD_some] at e;rw [e] at h;exact h)
   have S:=hide (show cV g w ((((wr.setCell ⟨g,(A+i)*2,none⟩ (.int .i64 y.pos)).setCell ⟨g,(A+i)*2+1,none⟩ (.int .i64 y.ab)).setCell ⟨g,(B+i)*2,none⟩ (.int .i64 x.pos)).setCell ⟨g,(B+i)*2+1,none⟩ (.int .i64 x.ab)).drew from ((((R.out.setCell (Nat.le_refl _) _).setCell (Nat.le_refl _) _).setCell (Nat.le_refl _) _).setCell (Nat.le_refl _) _).drew);go_wp2_with fail;go_region
   all_goals
    go_simp;go_wp2;go_roundw
    case rel=>exact ⟨i+1,by go_num,by omega,HN.out,S.out⟩
    case measure=>simp [intOf];omega
  ·obtain rfl:i=n:=om
   have W:=hide (show aJ wr g (p++b++m++a++r) by rw [← T.out];exact f);have R:=hide F;clear f F;go_wp2
   all_goals first
    | (exfalso;omega)
    | (go_end0;exact ⟨rfl,W.out,R.out⟩)
theorem xe (g cap L:Nat) (p a m b r:List Pt) (n:Nat) (u v k:Int) (D:List Pt) (h:Value) (w:World) (G:a.length=n) (H:b.length=n) (O:u=(p.length:Int)) (R:v=(p.length:Int)+n+m.length) (I:k=n)
  (f:D=p++a++m++b++r) (E:aJ w g D) (F:D.length=L) (J:L≤1000000) :
  Calls Tryz.prog 243 #[.slice (some ⟨g,0,none⟩) L cap,u,v,k,h] w fun e o=>e=.returned (.tuple #[])∧aJ o g (p++b++m++a++r)∧cV g w o:=by
 subst f O I;have e:v=((p.length+n+m.length:Nat):Int):=om;subst e;exact Il g cap L p a m b r n h w G H E F J
def zA (g:Nat) (p a b r:List Pt) (M:Nat) (f w:World) (i j:Nat):Prop:=
 ∃ X A B Y:List Pt,A.length=i∧B.length=j∧p.length+X.length+i=M∧X++B++A++Y=b++a∧aJ w g (p++X++A++B++Y++r)∧cV g f w
theorem Ir (g cap L:Nat) (p a b r:List Pt) (u v z:Int) (D:List Pt) (fv:Value) (w:World) (ha:0<a.length) (hb:0<b.length) (hu:u=(p.length:Int)) (hv:v=(p.length:Int)+a.length) (hz:z=(p.length:Int)+a.length+b.length)
  (ah:D=p++a++b++r) (hD:aJ w g D) (hL:D.length=L) (hl:L≤1000000) :
  Calls Tryz.prog 234 #[.slice (some ⟨g,0,none⟩) L cap,u,v,z,fv] w fun e w'=>e=.returned (.tuple #[])∧aJ w' g (p++b++a++r)∧cV g w w':=by
 subst ah;have S:p.length+a.length+b.length+r.length=L:=by rw [← hL];simp;omega
 obtain ⟨M,hM⟩:∃ M,p.length+a.length=M:=⟨_,rfl⟩;obtain ⟨na,H⟩:∃ n,a.length=n:=⟨_,rfl⟩;obtain ⟨nb,I⟩:∃ n,b.length=n:=⟨_,rfl⟩;obtain ⟨P,hP⟩:∃ n,p.length=n:=⟨_,rfl⟩;have H0:=hide (show zA g p a b r M w w na nb from ⟨[],a,b,[],H,I,by simp;omega,by simp,by simpa using hD,cV.refl _ _⟩);rw [H] at ha hv hz S hM;rw [I] at hb hz S;rw [hP] at hu hv hz S hM;have hg:=hD.lt;have T:=hide (And.intro H (And.intro I hP));subst hu hv hz;clear hD hL H I hP;go_enter Tryz.func234,Tryz.ntmps234;go_wp2_with fail;go_loopw [10,11] (fun ay aA wr=>∃ i j:Nat,ay=.int .i64 i∧aA=.int .i64 j∧(0<i∧0<j∧i+j≤L)∧zA g p a b r M w wr i j) (fun s t _=>(intOf s+intOf t).toNat)
 case atStart=>exact ⟨na,nb,by congr 1;omega,by congr 1;omega,⟨ha,hb,by omega⟩,H0.out⟩
 case round =>
  obtain ⟨i,j,rfl,rfl,⟨aF,a1,a0⟩,X,A,B,Y,hA,hB,hX,R,V,J⟩:=hrel;have f:=hide (And.intro (And.intro hA hB) (And.intro R (And.intro V J)));have O:(p++X++A++B++Y++r).length=L:=by
   have h1:=congrArg List.length R;have h2:=T.out;simp only [List.length_append] at h1 ⊢;omega
  have G:=hide O;have HX:=hide hX;have U:=T.out.2.2;have al:P+X.length+i=M:=by rw [← U];exact hX
  have F:=hide (show (p++X).length=P+X.length by simp;omega);obtain ⟨x,hx⟩:∃ x,X.length=x:=⟨_,rfl⟩;rw [hx] at al F;clear hA hB hX R V J O U hx;have aB:(M:Int)=(P:Int)+(na:Int):=om;rcases (show i=j∨j<i∨i<j by omega) with hc | hc | hc
  ·subst hc
   have W:((i:Int) != (i:Int))=false:=ac;go_wp2_with fail
   all_goals first
    | (exfalso;omega)
    | skip
   refine (xe g cap L (p++X) A [] B (Y++r) i _ _ _ (p++X++A++B++Y++r) fv _ f.out.1.1 f.out.1.2 (by rw [F.out];omega) (by rw [F.out];simp;omega) rfl ac f.out.2.2.1 G.out hl).mono ?_;rintro e w2 ⟨rfl,E,o⟩;have HF:=hide (show aJ w2 g (p++b++a++r) from by
    have h:=f.out.2.1;rw [show p++b++a++r=p++(b++a)++r by simp,← h];simpa using E)
   have ab:=hide (f.out.2.2.2.trans o);clear E o;go_wp2
   all_goals first
    | (exfalso;omega)
    | (go_end0;exact ⟨rfl,HF.out,ab.out⟩)
  ·have W:((i:Int) != (j:Int))=true:=ae
   have aq:(j:Int)<(i:Int):=om;have ad:A=A.take j++A.drop j:=(List.take_append_drop j A).symm;go_wp2_with fail
   all_goals first
    | (exfalso;omega)
    | skip
   refine (xe g cap L (p++X) (A.take j) (A.drop j) B (Y++r) j _ _ _ (p++X++A++B++Y++r) fv _ (by have:=f.out.1.1;simp;omega) f.out.1.2 (by rw [F.out];omega) (by rw [F.out];have:=f.out.1.1;simp;omega) rfl (by rw [show p++X++A.take j++A.drop j++B++(Y++r)=p++X++(A.take j++A.drop j)++B++Y++r by simp,List.take_append_drop]) f.out.2.2.1 G.out hl).mono ?_;rintro e w2 ⟨rfl,E,o⟩;have HR:=hide (show zA g p a b r M w w2 (i-j) j from ⟨X++B,A.drop j,A.take j,Y,by have:=f.out.1.1;simp;omega,by have:=f.out.1.1;simp;omega,by have h1:=HX.out;have h2:=f.out.1.2;simp;omega,by
    have h:=f.out.2.1;rw [← h,show X++B++A++Y=X++B++(A.take j++A.drop j)++Y by rw [List.take_append_drop]];simp,by simpa using E,f.out.2.2.2.trans o⟩)
   clear E o ad;go_wp2;go_roundw
   case rel=>exact ⟨i-j,j,by congr 1;omega,rfl,⟨by omega,by omega,by omega⟩,HR.out⟩
   case measure=>simp [intOf];omega
  ·have W:((i:Int) != (j:Int))=true:=ae
   have aq:(i:Int)≤(j:Int):=om;go_wp2_with fail
   all_goals first
    | (exfalso;omega)
    | skip
   refine (xe g cap L (p++X) A (B.take (j-i)) (B.drop (j-i)) (Y++r) i _ _ _ (p++X++A++B++Y++r) fv _ f.out.1.1 (by have:=f.out.1.2;simp;omega) (by rw [F.out];omega) (by rw [F.out];have:=f.out.1.2;simp;omega) rfl (by rw [show p++X++A++B.take (j-i)++B.drop (j-i)++(Y++r)=p++X++A++(B.take (j-i)++B.drop (j-i))++Y++r by simp,List.take_append_drop]) f.out.2.2.1 G.out hl).mono ?_;rintro e w2 ⟨rfl,E,o⟩;have HR:=hide (show zA g p a b r M w w2 i (j-i) from ⟨X,B.drop (j-i),B.take (j-i),A++Y,by have:=f.out.1.2;simp;omega,by have:=f.out.1.2;simp;omega,by have h1:=HX.out;omega,by
    have h:=f.out.2.1;rw [← h,show X++B++A++Y=X++(B.take (j-i)++B.drop (j-i))++A++Y by rw [List.take_append_drop]];simp,by simpa using E,f.out.2.2.2.trans o⟩)
   clear E o;go_wp2;go_roundw
   case rel=>exact ⟨i,j-i,rfl,by congr 1;omega,⟨by omega,by omega,by omega⟩,HR.out⟩
   case measure=>simp [intOf];omega
def wG (x y:Pt):Int:=if y.ab<x.ab then -1 else if x.ab<y.ab then 1 else 0
theorem gG (x y:Pt):wG x y<0↔y.ab<x.ab:=by unfold wG;split <;> (try split) <;> omega
theorem lL (a:Int) (w:World):Calls Tryz.prog 171 #[a] w fun e f=>e=.returned (.bool false)∧w=f:=by
 go_enter Tryz.func171,Tryz.ntmps171;go_wp2;go_ret;exact ⟨aY ac,rfl⟩
theorem vW (a b:Int) (w:World):Calls Tryz.prog 108 #[a,b] w fun e E=>e=.returned (.int .i64 (if a<b then -1 else if b<a then 1 else 0))∧w=E:=by
 rcases (show a<b∨(b≤a∧b<a)∨(a=b) by omega) with h | ⟨F,h⟩ | h
 ·have o:=hide (show (if a<b then (-1:Int) else if b<a then 1 else 0)=-1 by rw [if_pos h])
  go_enter Tryz.func108,Tryz.ntmps108;go_wp2_with fail;refine (lL a _).mono ?_;rintro e f ⟨rfl,rfl⟩;go_wp2_with fail;refine (lL b _).mono ?_;rintro e f ⟨rfl,rfl⟩;go_wp2
  all_goals first
   | (exfalso;omega)
   | (go_ret;exact ⟨rfl,rfl⟩)
 ·have o:=hide (show (if a<b then (-1:Int) else if b<a then 1 else 0)=1 by rw [if_neg om,if_pos h])
  go_enter Tryz.func108,Tryz.ntmps108;go_wp2_with fail;refine (lL a _).mono ?_;rintro e f ⟨rfl,rfl⟩;go_wp2_with fail;refine (lL b _).mono ?_;rintro e f ⟨rfl,rfl⟩;go_wp2
  all_goals first
   | (exfalso;omega)
   | (go_ret;exact ⟨rfl,rfl⟩)
 ·subst h
  have o:=hide (show (if a<a then (-1:Int) else if a<a then 1 else 0)=0 by simp);go_enter Tryz.func108,Tryz.ntmps108;go_wp2_with fail;refine (lL a _).mono ?_;rintro e f ⟨rfl,rfl⟩;go_wp2_with fail;refine (lL a _).mono ?_;rintro e f ⟨rfl,rfl⟩;go_wp2
  all_goals first
   | (exfalso;omega)
   | (go_ret;exact ⟨rfl,rfl⟩)
theorem oI (x y:Pt) (w:World):Calls Tryz.prog 107 #[.agg #[x.pos,x.ab],.agg #[y.pos,y.ab]] w fun e E=>e=.returned (.int .i64 (wG x y))∧Below w w E:=by
 have h:=hide (show (if y.ab<x.ab then (-1:Int) else if x.ab<y.ab then 1 else 0)=wG x y from rfl);obtain ⟨C,f⟩:∃ C,(if y.ab<x.ab then (-1:Int) else if x.ab<y.ab then 1 else 0)=C:=⟨_,rfl⟩;have o:=hide f;rw [f] at h;clear f;go_enter Tryz.func107,Tryz.ntmps107;go_wp2_with fail;refine (vW y.ab x.ab _).mono ?_;rintro e F ⟨rfl,rfl⟩;rw [o.out];go_wp2;go_ret;exact ⟨aZ h.out,by (repeat' exact bel)⟩
end
section
open Go.RowKit Go.Sort
abbrev vI:Value:=.func (.func 107) #[] #[]
def l7 (l:List Pt):Prop:=l.Pairwise fun x y=>x.pos<y.pos
theorem l7.ahead {a b:List Pt} (h:l7 (a++b)):kn a b:=(List.pairwise_append.1 h).2.2
theorem l7.left {a b:List Pt} (h:l7 (a++b)):l7 a:=(List.pairwise_append.1 h).1
theorem l7.right {a b:List Pt} (h:l7 (a++b)):l7 b:=(List.pairwise_append.1 h).2.1
theorem pu (p q:List Pt) (x:Pt):(p++x::q)[p.length]?=some x:=ac
theorem aJ.down {w:World} {g:Nat} {p s1 s2 r:List Pt} {x y:Pt} {D:List Pt} (h:aJ w g D) (E:D=p++(s1++[y])++[x]++s2++r) (k:Nat) (F:k=p.length+s1.length) :
  aJ ((((w.setCell ⟨g,(k+1)*2,none⟩ (.int .i64 y.pos)).setCell ⟨g,(k+1)*2+1,none⟩ (.int .i64 y.ab)).setCell ⟨g,k*2,none⟩ (.int .i64 x.pos)).setCell ⟨g,k*2+1,none⟩ (.int .i64 x.ab)) g (p++s1++[x]++(y::s2)++r):=by
 subst E F;have G:(p++(s1++[y])++[x]++s2++r).length=p.length+s1.length+2+s2.length+r.length:=by simp only [List.length_append,List.length_cons,List.length_nil];omega
 have o:=(h.put (p.length+s1.length+1) y om).put (p.length+s1.length) x (by rw [List.length_set];omega);have e:((p++(s1++[y])++[x]++s2++r).set (p.length+s1.length+1) y).set (p.length+s1.length) x=p++s1++[x]++(y::s2)++r:=by
  rw [show p++(s1++[y])++[x]++s2++r=(p++s1)++y::x::(s2++r) by simp];have f:(p++s1).length=p.length+s1.length:=ac;rw [← f,List.set_append_right _ _ om,show (p++s1).length+1-(p++s1).length=1 by omega,List.set_append_right _ _ (Nat.le_refl _),Nat.sub_self];simp
 rw [e] at o;exact o
def wb (g:Nat) (p s r:List Pt) (f w:World) (i:Nat):Prop:=∃ s1,iX (s.take i) s1∧aJ w g (p++s1++s.drop i++r)∧cV g f w
def Dd (g:Nat) (p s1 q:List Pt) (x:Pt) (o w:World) (k:Nat):Prop:=∃ f h,f.length=k∧f++h=s1∧(∀ y∈h,x.lt y)∧aJ w g (p++f++[x]++h++q)∧cV g o w
theorem zg (g cap L:Nat) (p s r:List Pt) (u v:Int) (D:List Pt) (w:World) (hs:l7 s) (hu:u=(p.length:Int)) (hv:v=(p.length:Int)+s.length) (bl:D=p++s++r) (hD:aJ w g D) (hL:D.length=L) (hl:L≤1000000) :
    Calls Tryz.prog 217 #[.slice (some ⟨g,0,none⟩) L cap,u,v,vI] w fun e w'=>e=.returned (.tuple #[])∧(∃ s',iX s s'∧aJ w' g (p++s'++r))∧cV g w w':=by
  subst bl;have a1:p.length+s.length+r.length=L:=by rw [← hL];simp;omega
  obtain ⟨P,hP⟩:∃ n,p.length=n:=⟨_,rfl⟩;obtain ⟨n,hn⟩:∃ n,s.length=n:=⟨_,rfl⟩;have H0:=hide (show wb g p s r w w 1 from ⟨s.take 1,⟨List.Perm.refl _,by
    cases s with
    | nil=>simp [iW]
    | cons x l=>simp [iW]⟩,by rw [show p++s.take 1++s.drop 1++r=p++(s.take 1++s.drop 1)++r by simp,List.take_append_drop];exact hD,cV.refl _ _⟩)
  rw [hP] at hu hv a1;rw [hn] at hv a1;have o:=hide (And.intro hP hn);have HS:=hide hs;have hg:=hD.lt;subst hu hv;clear hD hL hP hn hs;go_enter Tryz.func217,Tryz.ntmps217;go_wp2_with fail;go_loopw [8] (fun s8 wr=>∃ i:Nat,s8=.int .i64 ((P:Int)+(i:Int))∧1≤i∧(i≤n∨(n=0∧i=1))∧wb g p s r w wr i) (fun s8 _=>(P+n+5-intOf s8).toNat)
  case atStart=>exact ⟨1,by first | rfl | (congr 1;omega),by omega,by omega,H0.out⟩
  case round =>
    obtain ⟨i,rfl,b3,b4,s1,U,f,T⟩:=hrel;have O:=hide (And.intro U (And.intro f T));clear U f T;by_cases bp:i<n
    · have S:i<s.length:=by rw [o.out.2];exact bp
      obtain ⟨x,hx⟩:∃ x,s[i]?=some x:=⟨_,List.getElem?_eq_getElem S⟩;have ay:s.drop i=x::s.drop (i+1):=by rw [List.drop_eq_getElem_cons S];congr 1;exact Option.some.inj ((List.getElem?_eq_getElem S).symm.trans hx)
      have a6:s.take (i+1)=s.take i++[x]:=by rw [List.take_add_one,hx];rfl
      have W:s1.length=i:=by rw [O.out.1.1.length_eq];simp;omega
      have bb:=hide (show ∀ y∈s1,y.pos<x.pos from fun y hy=>by
        have bx:y∈s.take i:=O.out.1.1.mem_iff.1 hy;have h:l7 (s.take i++s.drop i):=by rw [List.take_append_drop];exact HS.out
        exact h.ahead y bx x (by rw [ay];simp))
      have HN:=hide (show Dd g p s1 (s.drop (i+1)++r) x w wr i from ⟨s1,[],W,by simp,by simp,by have h:=O.out.2.1;rw [ay] at h;simpa using h,O.out.2.2⟩);have a0:=hide a6;have I:=hide O.out.1;have bX:=hide (show (s.drop (i+1)).length=n-(i+1) by simp;have:=o.out.2;omega);clear hx ay a6 W S;obtain ⟨wo,a7⟩:∃ wo:World,wo=wr:=⟨_,rfl⟩;rw [← a7] at HN O ⊢;clear a7;go_wp2_with fail;go_loopw [9] (fun s9 wr=>∃ k:Nat,s9=.int .i64 ((P:Int)+(k:Int))∧k≤i∧Dd g p s1 (s.drop (i+1)++r) x w wr k) (fun s9 _=>(intOf s9-P+1).toNat)
      case atStart=>exact ⟨i,rfl,Nat.le_refl _,HN.out⟩
      case round =>
        obtain ⟨k,rfl,b5,S1,J,R,E,aq,f,hB⟩:=hrel;have H:=hide (And.intro E (And.intro aq (And.intro f hB)));have b2:=f.lt;have b0:S1.length+J.length=i:=by rw [← List.length_append,E];rw [I.out.1.length_eq];simp;have:=o.out.2;omega
        rcases List.eq_nil_or_concat S1 with a5 | ⟨G,y,a2⟩
        · subst a5
          obtain rfl:k=0:=by simpa using R.symm
          have ad:=hide (show wb g p s r w wr (i+1) from ⟨x::J,⟨by
            have h1:=H.out.1;simp only [List.nil_append] at h1;rw [a0.out,h1];exact (List.Perm.cons x I.out.1).trans (List.perm_append_comm (l₁:=[x]) (l₂:=s.take i)),by
            have h1:=H.out.1;simp only [List.nil_append] at h1;exact List.pairwise_cons.2 ⟨H.out.2.1,by rw [h1];exact I.out.2⟩⟩,by simpa using H.out.2.2.1,H.out.2.2.2⟩)
          clear E aq f hB R;have a3:decide ((P:Int)<(P:Int)+((0:Nat):Int))=false:=ac;go_wp2_with fail;go_quiet (fail);have HW:=hide (show wb g p s r w (wr.drewN nq) (i+1) by
            obtain ⟨s2,k1,k2,k3⟩:=ad.out;exact ⟨s2,k1,k2,zc k3 nq⟩)
          go_wp2;go_roundw
          case rel=>exact ⟨i+1,by go_num,by omega,by omega,HW.out⟩
          case measure=>simp [intOf];omega
        · rw [List.concat_eq_append] at a2
          subst a2;have a4:G.length+1=k:=by simpa using R
          obtain ⟨z,rfl⟩:∃ z,k=z+1:=⟨G.length,a4.symm⟩;have hz:G.length=z:=om;have ba:=bb.out y (by rw [← E];simp);have a8:x.pos≠y.pos:=om;have HK:=hide (And.intro ba a8);have ah:(p++(G++[y])++[x]++J++(s.drop (i+1)++r))[P+z]?=some y:=by
            have h:=pu (p++G) ([x]++J++(s.drop (i+1)++r)) y;rw [show (p++G).length=P+z by simp [o.out.1,hz]] at h;simpa using h
          have al:(p++(G++[y])++[x]++J++(s.drop (i+1)++r))[P+z+1]?=some x:=by
            have h:=pu (p++G++[y]) (J++(s.drop (i+1)++r)) x;rw [show (p++G++[y]).length=P+z+1 by simp [o.out.1,hz];omega] at h;simpa using h
          obtain ⟨q,hq⟩:∃ q,P+z=q:=⟨_,rfl⟩;rw [hq] at ah al;have hj:(P:Int)+((z+1:Nat):Int)=(q:Int)+1:=om;obtain ⟨c1,c2⟩:=f.cell ah;obtain ⟨c3,c4⟩:=f.cell al;have k1:=cell_regrown c1;have k2:=cell_regrown c2;have k3:=cell_regrown c3;have k4:=cell_regrown c4;have f1:=f.frozen (q*2);have f2:=f.frozen (q*2+1);have f3:=f.frozen ((q+1)*2);have f4:=f.frozen ((q+1)*2+1);have HZ:=hide (And.intro hz hq);have q1:(0:Int)≤(q:Int)+1:=om;have q2:((q:Int)+1).toNat=q+1:=om;have q3:(q:Int)+1<(L:Int):=om;have q4:(0:Int)≤(q:Int):=om;have q6:(q:Int)<(L:Int):=om;have q7:IntKind.i64.wrap (q:Int)=(q:Int):=by simp [IntKind.wrap,IntKind.bits,IntKind.signed];omega
          have q8:IntKind.i64.wrap ((q:Int)+1-1)=(q:Int):=by simp [IntKind.wrap,IntKind.bits,IntKind.signed];omega
          have q9:(q:Int)+1-1=(q:Int):=om;have a3:decide ((P:Int)<(q:Int)+1)=true:=ae;rw [hj];clear E aq f hB R a4 hz ah al ba a8 hq hj;go_wp2_with fail;refine wp_region_quiet_below (by kernel_rfl) (by kernel_rfl) ?_
          repeat (go_big_quiet_step (first | exact Calls.regrown_of (oI x y _) | fail))
          refine wpQuiet_nil ?_;intro _ bt;obtain ⟨⟨dq,osq⟩,bw⟩:=bt;subst bw;obtain ⟨wq,aA⟩:∃ wq,grow (redrawn wr dq) osq=wq:=⟨_,rfl⟩;have aF:=hide (show Below wr wr wq by rw [← aA];exact below_regrown wr dq osq);have F:=hide (H.out.2.2.1.call aF.out);have aB:=hide (H.out.2.2.2.trans (cV.of aF.out g));have d1:=k1 dq osq;have d2:=k2 dq osq;have d3:=k3 dq osq;have d4:=k4 dq osq;rw [aA] at d1 d2 d3 d4 ⊢;have f1:=F.out.frozen (q*2);have f2:=F.out.frozen (q*2+1);have f3:=F.out.frozen ((q+1)*2);have f4:=F.out.frozen ((q+1)*2+1);have b1:=F.out.lt;clear k1 k2 k3 k4 c1 c2 c3 c4 aA;by_cases V:wG x y<0
          · have HL:=hide ((Pt.lt_iff HK.out.1).2 ((gG x y).1 V))
            have bc:=hide (show Dd g p s1 (s.drop (i+1)++r) x w (((((wq.setCell ⟨g,(q+1)*2,none⟩ (.int .i64 y.pos)).setCell ⟨g,(q+1)*2+1,none⟩ (.int .i64 y.ab)).setCell ⟨g,q*2,none⟩ (.int .i64 x.pos)).setCell ⟨g,q*2+1,none⟩ (.int .i64 x.ab)).drew) z from
              ⟨G,y::J,HZ.out.1,by simpa using H.out.1,fun a ha=>by
                rcases List.mem_cons.1 ha with rfl | ha
                · exact HL.out
                · exact H.out.2.1 a ha,by
                have h:=F.out.down (D:=p++(G++[y])++[x]++J++(s.drop (i+1)++r)) rfl q (by have:=HZ.out;have:=o.out.1;omega);exact h.drew,((((aB.out.setCell (Nat.le_refl _) _).setCell (Nat.le_refl _) _).setCell (Nat.le_refl _) _).setCell (Nat.le_refl _) _).drew⟩)
            go_wp2_with fail;go_region
            all_goals
              go_simp;go_wp2;go_roundw
              case rel=>exact ⟨z,by have:=HZ.out.2;congr 1;omega,by omega,bc.out⟩
              case measure=>have b6:=HZ.out.2;simp [intOf];omega
          · have bh:=hide (show ¬ x.lt y from fun h=>V ((gG x y).2 ((Pt.lt_iff HK.out.1).1 h)))
            have ad:=hide (show wb g p s r w wq (i+1) from ⟨G++[y]++x::J,⟨by
              have h1:=H.out.1;rw [a0.out];refine List.Perm.trans ?_ (List.Perm.append_right [x] I.out.1);rw [← h1];simp only [List.append_assoc];refine List.Perm.append_left G ?_;refine List.Perm.append_left [y] ?_;exact List.perm_append_comm (l₁:=[x]) (l₂:=J),IX (by rw [H.out.1];exact I.out.2) (fun a ha=>by
                have:a=y:=by simpa using ha.symm
                subst this;exact Pt.not_lt (fun e=>HK.out.2 e) bh.out) H.out.2.1⟩,by simpa using F.out,aB.out⟩)
            go_wp2;go_roundw
            case rel=>exact ⟨i+1,by go_num,by omega,by omega,ad.out⟩
            case measure=>simp [intOf];omega
    · have HF := hide (show ∃ s', iX s s' ∧ aJ wr g (p ++ s' ++ r) from ⟨s1, by
        have h:=O.out.1
        rwa [List.take_of_length_le (by have:=o.out.2;omega)] at h,by
        have h:=O.out.2.1;rw [List.drop_eq_nil_of_le (by have:=o.out.2;omega)] at h;simpa using h⟩)
      have bd:=hide O.out.2.2;go_wp2
      all_goals first
        | (exfalso;omega)
        | (go_end0;exact ⟨rfl,HF.out,bd.out⟩)
def BD (g:Nat) (p B r:List Pt) (x:Pt) (f w:World) (i j:Nat):Prop:=(∀ k y,B[k]?=some y→k<i→y.lt x)∧(∀ k y,B[k]?=some y→j≤k→¬ y.lt x)∧aJ w g (p++x::B++r)∧cV g f w
def Fg (g:Nat) (p B r:List Pt) (x:Pt) (f w:World) (k:Nat):Prop:=aJ w g (p++B.take k++[x]++B.drop k++r)∧cV g f w
theorem Fg.step {g:Nat} {p B r:List Pt} {x y:Pt} {I w:World} {k:Nat} (h:Fg g p B r x I w k) (E:B[k]?=some y) (q:Nat) (O:q=p.length+k) (S:g<w.heap.size) :
  Fg g p B r x I ((((w.setCell ⟨g,q*2,none⟩ (.int .i64 y.pos)).setCell ⟨g,q*2+1,none⟩ (.int .i64 y.ab)).setCell ⟨g,(q+1)*2,none⟩ (.int .i64 x.pos)).setCell ⟨g,(q+1)*2+1,none⟩ (.int .i64 x.ab)) (k+1):=by
 have H:k<B.length:=(List.getElem?_eq_some_iff.1 E).1;have J:B.drop k=y::B.drop (k+1):=by rw [List.drop_eq_getElem_cons H];congr 1;exact Option.some.inj ((List.getElem?_eq_getElem H).symm.trans E)
 have R:B.take (k+1)=B.take k++[y]:=by rw [List.take_add_one,E];rfl
 have f:(B.take k).length=k:=ae;refine ⟨?_,(((h.2.setCell (Nat.le_refl _) _).setCell (Nat.le_refl _) _).setCell (Nat.le_refl _) _).setCell (Nat.le_refl _) _⟩;have F:=h.1;rw [J] at F;have o:(p++B.take k).length=q:=by rw [List.length_append,f,O]
 have G:=(F.put q y (by simp only [List.length_append,List.length_cons,List.length_nil,f];omega)).put (q+1) x (by simp only [List.length_set,List.length_append,List.length_cons,List.length_nil,f];omega);have e:((p++B.take k++[x]++(y::B.drop (k+1))++r).set q y).set (q+1) x=p++B.take (k+1)++[x]++B.drop (k+1)++r:=by
  rw [R,show p++B.take k++[x]++(y::B.drop (k+1))++r=(p++B.take k)++x::y::(B.drop (k+1)++r) by simp];rw [← o,List.set_append_right _ _ (Nat.le_refl _),Nat.sub_self,List.set_append_right _ _ om,show (p++B.take k).length+1-(p++B.take k).length=1 by omega];simp
 rw [e] at G;exact G
theorem iW.get {B:List Pt} (h:iW B) {k H:Nat} {t y:Pt} (E:B[k]?=some t) (o:B[H]?=some y) (F:k≤H):t=y∨t.lt y:=by
 rcases Nat.lt_or_ge k H with f | f
 ·right
  obtain ⟨a,rfl⟩:=List.getElem?_eq_some_iff.1 E;obtain ⟨b,rfl⟩:=List.getElem?_eq_some_iff.1 o;exact List.pairwise_iff_getElem.1 h k H a b f
 ·left
  obtain rfl:k=H:=om;exact Option.some.inj (E.symm.trans o)
theorem BD.out {g:Nat} {p B r:List Pt} {x:Pt} {H w:World} {i:Nat} (h:BD g p B r x H w i i) (F:iW B) (G:∀ y∈B,x.pos<y.pos) (hi:i≤B.length):iX (x::B) (B.take i++[x]++B.drop i):=by
  have e:B.take i++B.drop i=B:=List.take_append_drop i B;refine ⟨?_,?_⟩
  · conv=>rhs;rw [← e]
    simp only [List.append_assoc,List.singleton_append];exact List.perm_middle
  · have := nT (x := x) (r1 := B.take i) (r2 := B.drop i) (by rw [e]; exact F) (fun y o => by
      obtain ⟨k,f⟩:=List.mem_iff_getElem?.1 o;rw [List.getElem?_take] at f
      split at f
      · exact h.1 k y f om
      · cases f) (fun y o=>by
      obtain ⟨k,f⟩:=List.mem_iff_getElem?.1 o;rw [List.getElem?_drop] at f;have E:=G y (List.mem_of_getElem? f);exact Pt.not_lt om (h.2.1 (i+k) y f om))
    simpa using this
theorem Gm (g cap L:Nat) (p B r:List Pt) (x:Pt) (u v z:Int) (D:List Pt) (w:World) (hs:iW B) (hx:∀ y∈B,x.pos<y.pos) (hb:0<B.length) (hu:u=(p.length:Int)) (hv:v=(p.length:Int)+1) (hz:z=(p.length:Int)+1+B.length) (a6:D=p++x::B++r) (hD:aJ w g D) (hL:D.length=L) (hl:L≤1000000) :
    Calls Tryz.prog 218 #[.slice (some ⟨g,0,none⟩) L cap,u,v,z,vI] w fun e w'=>e=.returned (.tuple #[])∧(∃ s',iX (x::B) s'∧aJ w' g (p++s'++r))∧cV g w w':=by
  subst a6;have aB:p.length+1+B.length+r.length=L:=by rw [← hL];simp;omega
  obtain ⟨P,hP⟩:∃ n,p.length=n:=⟨_,rfl⟩;obtain ⟨n,W⟩:∃ n,B.length=n:=⟨_,rfl⟩;have H0:=hide (show BD g p B r x w w 0 n from ⟨fun _ _ _ h=>by omega,fun k y F h=>by have:=(List.getElem?_eq_some_iff.1 F).1;omega,hD,cV.refl _ _⟩);rw [hP] at hu hv hz aB;rw [W] at hz aB hb;have f:=hide (And.intro hP W);have HS:=hide hs;have HX:=hide hx;have hg:=hD.lt;subst hu hv hz;clear hD hL hP W hs hx;go_enter Tryz.func218,Tryz.ntmps218;have S:((P:Int)+1-(P:Int)==1)=true:=by rw [beq_iff_eq];omega
  go_wp2_with fail
  try rw [S]
  clear S;go_loopw [10,11] (fun bd bh wr=>∃ i j:Nat,bd=.int .i64 ((P:Int)+1+(i:Int))∧bh=.int .i64 ((P:Int)+1+(j:Int))∧i≤j∧j≤n∧BD g p B r x w wr i j) (fun s t _=>(intOf t-intOf s).toNat)
  case atStart=>exact ⟨0,n,by first | rfl | (congr 1;omega),by first | rfl | (congr 1;omega),by omega,by omega,H0.out⟩
  case round =>
    obtain ⟨i,j,rfl,rfl,bx,ba,aF⟩:=hrel;have E:=hide aF;clear aF;by_cases b0:i<j
    · obtain ⟨H,hH⟩:∃ H:Nat,(i+j) / 2=H:=⟨_,rfl⟩
      have R:((P:Int)+1+(i:Int)+((P:Int)+1+(j:Int))) / 2=((P+1+H:Nat):Int):=om;have a7:i≤H∧H<j:=om;obtain ⟨q,hq⟩:∃ q,P+1+H=q:=⟨_,rfl⟩;rw [hq] at R;obtain ⟨y,I⟩:∃ y,B[H]?=some y:=⟨_,List.getElem?_eq_getElem (by rw [f.out.2];omega)⟩;have ay:(p++x::B++r)[q]?=some y:=by
        rw [List.append_assoc,List.getElem?_append_right (by rw [f.out.1];omega),f.out.1,List.cons_append,show q-P=H+1 by omega,List.getElem?_cons_succ,List.getElem?_append_left (by rw [f.out.2];omega)];exact I
      have aA:(p++x::B++r)[P]?=some x:=by
        rw [List.append_assoc,List.getElem?_append_right (by rw [f.out.1];omega),f.out.1,Nat.sub_self];rfl
      obtain ⟨c1,c2⟩:=E.out.2.2.1.cell ay;obtain ⟨c3,c4⟩:=E.out.2.2.1.cell aA;have k1:=cell_regrown c1;have k2:=cell_regrown c2;have k3:=cell_regrown c3;have k4:=cell_regrown c4;have a2:=HX.out y (List.mem_of_getElem? I);have J:=hide (And.intro I (And.intro a2 hq));have q1:(q:Int)<(L:Int):=om;have q2:(P:Int)<(L:Int):=om;have bw:=E.out.2.2.1.lt;obtain ⟨bp,bt⟩:=a7;clear I a2 ay aA hH;go_wp2_with fail
      try rw [R]
      refine wp_region_quiet_below (by kernel_rfl) (by kernel_rfl) ?_
      repeat (go_big_quiet_step (first | exact Calls.regrown_of (oI y x _) | fail))
      refine wpQuiet_nil ?_;intro _ bb;obtain ⟨⟨dq,osq⟩,bc⟩:=bb;subst bc;obtain ⟨wq,U⟩:∃ wq,grow (redrawn wr dq) osq=wq:=⟨_,rfl⟩;have ad:=hide (show Below wr wr wq by rw [← U];exact below_regrown wr dq osq);have al:=hide (E.out.2.2.1.call ad.out);have ab:=hide (E.out.2.2.2.trans (cV.of ad.out g));rw [U];clear k1 k2 k3 k4 c1 c2 c3 c4 U;by_cases O:wG y x<0
      · have V := hide (show BD g p B r x w wq (H + 1) j from ⟨fun k t F G => by
            rcases Nat.lt_or_ge k i with h | h
            · exact E.out.1 k t F h
            · have hl:=(Pt.lt_iff J.out.2.1).2 ((gG y x).1 O)
              rcases HS.out.get F J.out.1 om with rfl | e
              · exact hl
              · exact Pt.lt_trans e hl,E.out.2.1,al.out,ab.out⟩)
        go_wp2;go_roundw
        case rel=>exact ⟨H+1,j,by have:=J.out.2.2;congr 1;omega,rfl,by omega,by omega,V.out⟩
        case measure=>have:=J.out.2.2;simp [intOf];omega
      · have V := hide (show BD g p B r x w wq i H from ⟨E.out.1, fun k t F G => by
            have W:¬ y.lt x:=fun e=>O ((gG y x).2 ((Pt.lt_iff J.out.2.1).1 e))
            intro ht;rcases HS.out.get J.out.1 F G with rfl | e
            · exact W ht
            · exact W (Pt.lt_trans e ht),al.out,ab.out⟩)
        go_wp2;go_roundw
        case rel=>exact ⟨i,H,rfl,by have:=J.out.2.2;congr 1;omega,by omega,by omega,V.out⟩
        case measure=>have:=J.out.2.2;simp [intOf];omega
    · obtain rfl:j=i:=om
      have aq:=hide (E.out.out HS.out HX.out (by rw [f.out.2];exact ba));have ah:=hide (show Fg g p B r x w wr 0 from ⟨by simpa using E.out.2.2.1,E.out.2.2.2⟩);have a5:=hide (show ∀ k,k<j→∃ y,B[k]?=some y from fun k F=>⟨_,List.getElem?_eq_getElem (by rw [f.out.2];omega)⟩);clear E;obtain ⟨wo,a1⟩:∃ wo:World,wo=wr:=⟨_,rfl⟩;rw [← a1] at ah ⊢;clear a1;go_wp2_with fail;go_loopw [13] (fun bl wr=>∃ k:Nat,bl=.int .i64 ((P:Int)+(k:Int))∧k≤j∧Fg g p B r x w wr k) (fun s _=>(L+5-intOf s).toNat)
      case atStart=>exact ⟨0,by first | rfl | (congr 1;omega),by omega,ah.out⟩
      case round =>
        obtain ⟨k,rfl,bX,hM⟩:=hrel;have HM:=hide hM;have a8:=hM.1.lt;clear hM;by_cases G:k<j
        · obtain ⟨y,I⟩:=a5.out k G
          obtain ⟨q,hq⟩:∃ q,P+k=q:=⟨_,rfl⟩;have hj:(P:Int)+(k:Int)=(q:Int):=om;have V:=hide (HM.out.step I q (by rw [f.out.1];exact hq.symm) a8);have F:k<B.length:=(List.getElem?_eq_some_iff.1 I).1;have a0:p++B.take k++[x]++B.drop k++r=(p++B.take k)++x::y::(B.drop (k+1)++r):=by
            rw [show B.drop k=y::B.drop (k+1) by rw [List.drop_eq_getElem_cons F];congr 1;exact Option.some.inj ((List.getElem?_eq_getElem F).symm.trans I)];simp
          have T:(p++B.take k).length=q:=by rw [List.length_append,f.out.1,List.length_take];omega
          have o:=HM.out.1;rw [a0] at o;obtain ⟨c1,c2⟩:=o.cell (i:=q) (p:=x) (by rw [← T];exact pu _ _ _);obtain ⟨c3,c4⟩:=o.cell (i:=q+1) (p:=y) (by rw [← T,List.getElem?_append_right om,show (p++B.take k).length+1-(p++B.take k).length=1 by omega];rfl);have f1:=o.frozen (q*2);have f2:=o.frozen (q*2+1);have f3:=o.frozen ((q+1)*2);have f4:=o.frozen ((q+1)*2+1);have q1:(0:Int)≤(q:Int)+1:=om;have q2:((q:Int)+1).toNat=q+1:=om;have q3:(q:Int)+1<(L:Int):=by have:=f.out.2;omega
          have q4:(0:Int)≤(q:Int):=om;have q6:(q:Int)<(L:Int):=om;have q8:IntKind.i64.wrap ((q:Int)+1)=(q:Int)+1:=by simp [IntKind.wrap,IntKind.bits,IntKind.signed];omega
          have HQ:=hide hq;have a3:(q:Int)<(P:Int)+1+(j:Int)-1:=om;rw [hj];clear I hq hj F a0 T o;go_wp2_with fail;go_region
          all_goals
            go_simp;go_wp2;go_roundw
            case rel =>
              exact ⟨k+1,by have:=HQ.out;congr 1;omega,by omega,V.out.1.drew,V.out.2.drew⟩
            case measure=>simp [intOf];omega
        · obtain rfl:k=j:=om
          have HF:=hide (show ∃ s',iX (x::B) s'∧aJ wr g (p++s'++r) from ⟨_,aq.out,by simpa using HM.out.1⟩);have a4:=hide HM.out.2;go_wp2
          all_goals first
            | (exfalso;omega)
            | (refine bodyPost_ret (results_none rfl _ _ _) rfl ?_;exact ⟨rfl,HF.out,a4.out⟩)
def AR (g:Nat) (p A r:List Pt) (x:Pt) (f w:World) (i j:Nat):Prop:=(∀ k y,A[k]?=some y→k<i→¬ x.lt y)∧(∀ k y,A[k]?=some y→j≤k→x.lt y)∧aJ w g (p++A++x::r)∧cV g f w
def Ew (g:Nat) (p A r:List Pt) (x:Pt) (f w:World) (k:Nat):Prop:=aJ w g (p++A.take k++[x]++A.drop k++r)∧cV g f w
theorem Ew.step {g:Nat} {p A r:List Pt} {x y:Pt} {E w:World} {k:Nat} (h:Ew g p A r x E w (k+1)) (f:A[k]?=some y) (q:Nat) (I:q=p.length+k) :
  Ew g p A r x E ((((w.setCell ⟨g,(q+1)*2,none⟩ (.int .i64 y.pos)).setCell ⟨g,(q+1)*2+1,none⟩ (.int .i64 y.ab)).setCell ⟨g,q*2,none⟩ (.int .i64 x.pos)).setCell ⟨g,q*2+1,none⟩ (.int .i64 x.ab)) k:=by
 have o:k<A.length:=(List.getElem?_eq_some_iff.1 f).1;have G:A.drop k=y::A.drop (k+1):=by rw [List.drop_eq_getElem_cons o];congr 1;exact Option.some.inj ((List.getElem?_eq_getElem o).symm.trans f)
 have J:A.take (k+1)=A.take k++[y]:=by rw [List.take_add_one,f];rfl
 have H:(A.take k).length=k:=ae;refine ⟨?_,(((h.2.setCell (Nat.le_refl _) _).setCell (Nat.le_refl _) _).setCell (Nat.le_refl _) _).setCell (Nat.le_refl _) _⟩;have F:=h.1.down (p:=p) (s1:=A.take k) (s2:=A.drop (k+1)) (r:=r) (x:=x) (y:=y) (by rw [J]) q (by rw [H];exact I);rw [G];exact F
theorem AR.out {g:Nat} {p A r:List Pt} {x:Pt} {H w:World} {i:Nat} (h:AR g p A r x H w i i) (F:iW A) (G:∀ y∈A,y.pos<x.pos):iX (A++[x]) (A.take i++[x]++A.drop i):=by
  have e:A.take i++A.drop i=A:=List.take_append_drop i A;refine ⟨?_,?_⟩
  · conv=>rhs;rw [← e]
    simp only [List.append_assoc];refine List.Perm.append_left _ ?_;exact List.perm_append_comm
  · have := nT (x := x) (r1 := A.take i) (r2 := A.drop i) (by rw [e]; exact F) (fun y o => by
      obtain ⟨k,f⟩:=List.mem_iff_getElem?.1 o;rw [List.getElem?_take] at f
      split at f
      · have E:=G y (List.mem_of_getElem? f)
        exact Pt.not_lt om (h.1 k y f om)
      · cases f) (fun y o=>by
      obtain ⟨k,f⟩:=List.mem_iff_getElem?.1 o;rw [List.getElem?_drop] at f;exact h.2.1 (i+k) y f om)
    simpa using this
theorem FW (g cap L:Nat) (p A r:List Pt) (x:Pt) (u v z:Int) (D:List Pt) (w:World) (hs:iW A) (hx:∀ y∈A,y.pos<x.pos) (ha:1<A.length) (hu:u=(p.length:Int)) (hv:v=(p.length:Int)+A.length) (hz:z=(p.length:Int)+A.length+1) (a6:D=p++A++x::r) (hD:aJ w g D) (hL:D.length=L) (hl:L≤1000000) :
    Calls Tryz.prog 218 #[.slice (some ⟨g,0,none⟩) L cap,u,v,z,vI] w fun e w'=>e=.returned (.tuple #[])∧(∃ s',iX (A++[x]) s'∧aJ w' g (p++s'++r))∧cV g w w':=by
  subst a6;have aB:p.length+A.length+1+r.length=L:=by rw [← hL];simp;omega
  obtain ⟨P,hP⟩:∃ n,p.length=n:=⟨_,rfl⟩;obtain ⟨n,hn⟩:∃ n,A.length=n:=⟨_,rfl⟩;have H0:=hide (show AR g p A r x w w 0 n from ⟨fun _ _ _ h=>by omega,fun k y J h=>by have:=(List.getElem?_eq_some_iff.1 J).1;omega,hD,cV.refl _ _⟩);rw [hP] at hu hv hz aB;rw [hn] at hv hz aB ha;have f:=hide (And.intro hP hn);have HS:=hide hs;have HX:=hide hx;have hg:=hD.lt;subst hu hv hz;clear hD hL hP hn hs hx;go_enter Tryz.func218,Tryz.ntmps218;have R:((P:Int)+(n:Int)-(P:Int)==1)=false:=by rw [beq_eq_false_iff_ne];omega
  have S:((P:Int)+(n:Int)+1-((P:Int)+(n:Int))==1)=true:=by rw [beq_iff_eq];omega
  go_wp2_with fail
  try rw [R]
  try rw [S]
  clear R S;go_loopw [14,15] (fun bb bc wr=>∃ i j:Nat,bb=.int .i64 ((P:Int)+(i:Int))∧bc=.int .i64 ((P:Int)+(j:Int))∧i≤j∧j≤n∧AR g p A r x w wr i j) (fun s t _=>(intOf t-intOf s).toNat)
  case atStart=>exact ⟨0,n,by first | rfl | (congr 1;omega),by first | rfl | (congr 1;omega),by omega,by omega,H0.out⟩
  case round =>
    obtain ⟨i,j,rfl,rfl,bw,bx,aF⟩:=hrel;have F:=hide aF;clear aF;by_cases b1:i<j
    · obtain ⟨H,hH⟩:∃ H:Nat,(i+j) / 2=H:=⟨_,rfl⟩
      have O:((P:Int)+(i:Int)+((P:Int)+(j:Int))) / 2=((P+H:Nat):Int):=om;have a7:i≤H∧H<j:=om;obtain ⟨q,hq⟩:∃ q,P+H=q:=⟨_,rfl⟩;obtain ⟨t,ht⟩:∃ t,P+n=t:=⟨_,rfl⟩;rw [hq] at O;obtain ⟨y,G⟩:∃ y,A[H]?=some y:=⟨_,List.getElem?_eq_getElem (by rw [f.out.2];omega)⟩;have ay:(p++A++x::r)[q]?=some y:=by
        rw [List.append_assoc,List.getElem?_append_right (by rw [f.out.1];omega),f.out.1,show q-P=H by omega,List.getElem?_append_left (by rw [f.out.2];omega)];exact G
      have aA:(p++A++x::r)[t]?=some x:=by
        have h:=pu (p++A) r x;rw [List.length_append,f.out.1,f.out.2,ht] at h;exact h
      obtain ⟨c1,c2⟩:=F.out.2.2.1.cell ay;obtain ⟨c3,c4⟩:=F.out.2.2.1.cell aA;have k1:=cell_regrown c1;have k2:=cell_regrown c2;have k3:=cell_regrown c3;have k4:=cell_regrown c4;have a2:=HX.out y (List.mem_of_getElem? G);have I:=hide (And.intro G (And.intro a2 hq));have q1:(q:Int)<(L:Int):=om;have q2:(P:Int)+(n:Int)<(L:Int):=om;have q3:((P:Int)+(n:Int)).toNat=t:=om;have q4:(0:Int)≤(P:Int)+(n:Int):=om;have bt:=F.out.2.2.1.lt;obtain ⟨bh,bl⟩:=a7;clear G a2 ay aA hH;go_wp2_with fail
      try rw [O]
      refine wp_region_quiet_below (by kernel_rfl) (by kernel_rfl) ?_
      repeat (go_big_quiet_step (first | exact Calls.regrown_of (oI x y _) | fail))
      refine wpQuiet_nil ?_;intro _ a8;obtain ⟨⟨dq,osq⟩,ba⟩:=a8;subst ba;obtain ⟨wq,V⟩:∃ wq,grow (redrawn wr dq) osq=wq:=⟨_,rfl⟩;have ad:=hide (show Below wr wr wq by rw [← V];exact below_regrown wr dq osq);have al:=hide (F.out.2.2.1.call ad.out);have ab:=hide (F.out.2.2.2.trans (cV.of ad.out g));rw [V];clear k1 k2 k3 k4 c1 c2 c3 c4 V;by_cases E:wG x y<0
      · have W := hide (show AR g p A r x w wq i H from ⟨F.out.1, fun k t J T => by
            have hl:=(Pt.lt_iff I.out.2.1).2 ((gG x y).1 E);rcases HS.out.get I.out.1 J T with rfl | e
            · exact hl
            · exact Pt.lt_trans hl e,al.out,ab.out⟩)
        rw [decide_eq_true E];go_wp2;go_roundw
        case rel=>exact ⟨i,H,rfl,by have:=I.out.2.2;congr 1;omega,by omega,by omega,W.out⟩
        case measure=>have:=I.out.2.2;simp [intOf];omega
      · have W := hide (show AR g p A r x w wq (H + 1) j from ⟨fun k t J T => by
            have hn:¬ x.lt y:=fun e=>E ((gG x y).2 ((Pt.lt_iff I.out.2.1).1 e))
            intro ht;rcases HS.out.get J I.out.1 om with rfl | e
            · exact hn ht
            · exact hn (Pt.lt_trans ht e),F.out.2.1,al.out,ab.out⟩)
        rw [decide_eq_false E];go_wp2;go_roundw
        case rel=>exact ⟨H+1,j,by have:=I.out.2.2;congr 1;omega,rfl,by omega,by omega,W.out⟩
        case measure=>have:=I.out.2.2;simp [intOf];omega
    · obtain rfl:j=i:=om
      have aq:=hide (F.out.out HS.out HX.out);have ah:=hide (show Ew g p A r x w wr n from ⟨by
        rw [List.take_of_length_le (by rw [f.out.2];omega),List.drop_eq_nil_of_le (by rw [f.out.2];omega)];simpa using F.out.2.2.1,F.out.2.2.2⟩)
      have a5:=hide (show ∀ k,k<n→∃ y,A[k]?=some y from fun k J=>⟨_,List.getElem?_eq_getElem (by rw [f.out.2];omega)⟩);clear F;obtain ⟨wo,a1⟩:∃ wo:World,wo=wr:=⟨_,rfl⟩;rw [← a1] at ah ⊢;clear a1;go_wp2_with fail;go_loopw [17] (fun bd wr=>∃ k:Nat,bd=.int .i64 ((P:Int)+(k:Int))∧j≤k∧k≤n∧Ew g p A r x w wr k) (fun s _=>(intOf s+5).toNat)
      case atStart=>exact ⟨n,by first | rfl | (congr 1;omega),by omega,by omega,ah.out⟩
      case round =>
        obtain ⟨k0,rfl,bX,b0,hM⟩:=hrel;have HM:=hide hM;have bp:=hM.1.lt;clear hM;by_cases T:j<k0
        · obtain ⟨k,rfl⟩:∃ k,k0=k+1:=⟨k0-1,by omega⟩
          obtain ⟨y,G⟩:=a5.out k om;obtain ⟨q,hq⟩:∃ q,P+k=q:=⟨_,rfl⟩;have hj:(P:Int)+((k+1:Nat):Int)=(q:Int)+1:=om;have W:=hide (HM.out.step G q (by rw [f.out.1];exact hq.symm));have J:k<A.length:=(List.getElem?_eq_some_iff.1 G).1;have a0:p++A.take (k+1)++[x]++A.drop (k+1)++r=(p++A.take k)++y::x::(A.drop (k+1)++r):=by
            rw [show A.take (k+1)=A.take k++[y] by rw [List.take_add_one,G];rfl];simp
          have U:(p++A.take k).length=q:=by rw [List.length_append,f.out.1,List.length_take];omega
          have o:=HM.out.1;rw [a0] at o;obtain ⟨c1,c2⟩:=o.cell (i:=q) (p:=y) (by rw [← U];exact pu _ _ _);obtain ⟨c3,c4⟩:=o.cell (i:=q+1) (p:=x) (by rw [← U,List.getElem?_append_right om,show (p++A.take k).length+1-(p++A.take k).length=1 by omega];rfl);have f1:=o.frozen (q*2);have f2:=o.frozen (q*2+1);have f3:=o.frozen ((q+1)*2);have f4:=o.frozen ((q+1)*2+1);have q1:(0:Int)≤(q:Int)+1:=om;have q2:((q:Int)+1).toNat=q+1:=om;have q3:(q:Int)+1<(L:Int):=by have:=f.out.2;omega
          have q4:(0:Int)≤(q:Int):=om;have q6:(q:Int)<(L:Int):=om;have q7:IntKind.i64.wrap (q:Int)=(q:Int):=by simp [IntKind.wrap,IntKind.bits,IntKind.signed];omega
          have q8:IntKind.i64.wrap ((q:Int)+1-1)=(q:Int):=by simp [IntKind.wrap,IntKind.bits,IntKind.signed];omega
          have q9:(q:Int)+1-1=(q:Int):=om;have HQ:=hide hq;have a3:(P:Int)+(j:Int)<(q:Int)+1:=om;rw [hj];clear G hq hj J a0 U o;go_wp2_with fail;go_region
          all_goals
            go_simp;go_wp2;go_roundw
            case rel=>exact ⟨k,by have:=HQ.out;congr 1;omega,by omega,by omega,W.out.1.drew,W.out.2.drew⟩
            case measure=>have:=HQ.out;simp [intOf];omega
        · obtain rfl:k0=j:=om
          have HF:=hide (show ∃ s',iX (A++[x]) s'∧aJ wr g (p++s'++r) from ⟨_,aq.out,by simpa using HM.out.1⟩);have a4:=hide HM.out.2;go_wp2
          all_goals first
            | (exfalso;omega)
            | (refine bodyPost_ret (results_none rfl _ _ _) rfl ?_;exact ⟨rfl,HF.out,a4.out⟩)
theorem FH {o F G E s1 s2:List Pt} (J:iW (o++F)) (O:iW (G++E)) (H:∀ x∈o.getLast?,∀ y∈E.head?,x.lt y) (I:∀ x∈G.getLast?,∀ y∈F.head?,x.lt y)
  (f:iX (o++G) s1) (h:iX (F++E) s2):iX ((o++F)++(G++E)) (s1++s2):=by
 refine ⟨?_,f.2.app h.2 (fun x R y S=>IU J O H I x (f.1.mem_iff.1 R) y (h.1.mem_iff.1 S))⟩;refine (f.1.append h.1).trans ?_;simp only [List.append_assoc];refine List.Perm.append_left o ?_;rw [← List.append_assoc,← List.append_assoc];exact List.perm_append_comm.append_right E
def L3 (A B:List Pt) (M h f i j:Nat):Prop:=
 (i=h∨∃ x y,0<i∧A[i-1]?=some x∧B[M-i]?=some y∧x.lt y)∧(j=f∨∃ x y,j<M∧A[j]?=some x∧B[M-1-j]?=some y∧y.lt x)
theorem L3.ends {A B:List Pt} {M W V s:Nat} (h:L3 A B M W V s s) (S:W=0∨W+B.length=M) (R:V=M∨V=A.length) (T:s≤A.length) (ab:s≤M) (hB:M≤s+B.length) :
  (∀ x∈(A.take s).getLast?,∀ y∈(B.drop (M-s)).head?,x.lt y)∧(∀ x∈(B.take (M-s)).getLast?,∀ y∈(A.drop s).head?,x.lt y):=by
 have E:∀ (l:List Pt) (k:Nat) (x:Pt),k≤l.length→x∈(l.take k).getLast?→0<k∧l[k-1]?=some x:=by
  intro l k x hk f;rw [List.getLast?_eq_getElem?,List.length_take,Nat.min_eq_left hk,List.getElem?_take] at f;rcases Nat.eq_zero_or_pos k with rfl | I
  ·simp at f
  ·rw [if_pos om] at f
   exact ⟨I,f⟩
 have o:∀ (l:List Pt) (k:Nat) (x:Pt),x∈(l.drop k).head?→l[k]?=some x:=by
  intro l k x f;rw [List.head?_drop] at f;exact f
 refine ⟨fun x f y U=>?_,fun x f y U=>?_⟩
 ·obtain ⟨a1,J⟩:=E A s x T f
  have F:=o B _ y U;have b2:=(List.getElem?_eq_some_iff.1 F).1;rcases h.1 with e | ⟨x',y',_,G,H,O⟩
  ·exfalso
   rcases S with I | I <;> omega
  ·rw [J] at G
   rw [F] at H;cases G;cases H;exact O
 ·obtain ⟨a1,J⟩:=E B (M-s) x om f
  have F:=o A _ y U;have b2:=(List.getElem?_eq_some_iff.1 F).1;rcases h.2 with e | ⟨x',y',_,G,H,O⟩
  ·exfalso
   rcases R with I | I <;> omega
  ·rw [show M-s-1=M-1-s by omega] at J
   rw [F] at G;rw [J] at H;cases G;cases H;exact O
def Ki (N : Nat) : Prop := ∀ (g cap L : Nat) (p A B r : List Pt) (u v z : Int) (D : List Pt) (w : World), 0 < A.length → 0 < B.length → A.length + B.length ≤ N → iW A → iW B → kn A B →
  u=(p.length:Int)→v=(p.length:Int)+A.length→z=(p.length:Int)+A.length+B.length→D=p++A++B++r→aJ w g D→D.length=L→L≤1000000 →
  Calls Tryz.prog 218 #[.slice (some ⟨g,0,none⟩) L cap,u,v,z,vI] w fun e h=>e=.returned (.tuple #[])∧(∃ f,iX (A++B) f∧aJ h g (p++f++r))∧cV g w h
def Lp (g:Nat) (p f h q:List Pt) (o w:World):Prop:=∃ s1,iX (f++h) s1∧aJ w g (p++s1++q)∧cV g o w
theorem u6 {l:List Pt} (h:iW l):iX l l:=⟨List.Perm.refl _,h⟩
theorem zF {A B:List Pt} (f:iW A) (o:iW B) (h:A.length=0∨B.length=0):iW (A++B):=by
 rcases h with h | h
 ·obtain rfl:A=[]:=List.length_eq_zero_iff.1 h
  simpa using o
 ·obtain rfl:B=[]:=List.length_eq_zero_iff.1 h
  simpa using f
def Gt (g:Nat) (p A B r:List Pt) (M h f:Nat) (o w:World) (i j:Nat):Prop:=L3 A B M h f i j∧aJ w g (p++A++B++r)∧cV g o w
theorem Gg (N:Nat) (IH:Ki N) (g cap L:Nat) (p A B r:List Pt) (u v z:Int) (D:List Pt) (w:World) (ha:1<A.length) (hb:1<B.length) (hN:A.length+B.length≤N+1) (hs:iW A) (ht:iW B) (bp:kn A B)
    (hu:u=(p.length:Int)) (hv:v=(p.length:Int)+A.length) (hz:z=(p.length:Int)+A.length+B.length) (cI:D=p++A++B++r) (hD:aJ w g D) (hL:D.length=L) (hl:L≤1000000) :
    Calls Tryz.prog 218 #[.slice (some ⟨g,0,none⟩) L cap,u,v,z,vI] w fun e w'=>e=.returned (.tuple #[])∧(∃ s',iX (A++B) s'∧aJ w' g (p++s'++r))∧cV g w w':=by
  subst cI;have a0:p.length+A.length+B.length+r.length=L:=by rw [← hL];simp;omega
  obtain ⟨P,hP⟩:∃ n,p.length=n:=⟨_,rfl⟩;obtain ⟨G,a1⟩:∃ n,A.length=n:=⟨_,rfl⟩;obtain ⟨nb,a2⟩:∃ n,B.length=n:=⟨_,rfl⟩;rw [hP] at hu hv hz a0;rw [a1] at hv hz a0 ha hN;rw [a2] at hz a0 hb hN;have o:=hide (And.intro hP (And.intro a1 a2));have HS:=hide (And.intro hs (And.intro ht bp));have HI:=hide IH;have HD:=hide hD;have hg:=hD.lt;obtain ⟨M,hM⟩:∃ M,(G+nb) / 2=M:=⟨_,rfl⟩;have ab:((P:Int)+((P:Int)+(G:Int)+(nb:Int))) / 2=(P:Int)+(M:Int):=om;subst hu hv hz;clear hD hL hP a1 a2 hs ht bp IH;go_enter Tryz.func218,Tryz.ntmps218;have c8:((P:Int)+(G:Int)-(P:Int)==1)=false:=by rw [beq_eq_false_iff_ne];omega
  have dd:((P:Int)+(G:Int)+(nb:Int)-((P:Int)+(G:Int))==1)=false:=by rw [beq_eq_false_iff_ne];omega
  go_upto_if 140 with (fail);go_cut [20,21] (fun a5 a6 wx=>∃ s0 r0:Nat,a5=.int .i64 ((P:Int)+(s0:Int))∧a6=.int .i64 ((P:Int)+(r0:Int))∧(s0≤r0∧r0≤G∧r0≤M∧M≤s0+nb∧(s0=0∨s0+nb=M)∧(r0=M∨r0=G))∧w=wx)
  case first =>
    as_aux_lemma =>
      by_cases hc:(P:Int)+(M:Int)<(P:Int)+(G:Int)
      · go_wp2_with fail
        go_meet
        case rel=>exact ⟨M-nb,M,by congr 1;omega,rfl,by omega,rfl⟩
      · go_wp2_with fail
        go_meet
        case rel=>exact ⟨0,G,by first | rfl | (congr 1;omega),rfl,by omega,rfl⟩
  case rest =>
    obtain ⟨s0,r0,rfl,rfl,⟨V,a3,d6,d7,cb,cc⟩,rfl⟩:=hcut;have H0:=hide (show Gt g p A B r M s0 r0 w w s0 r0 from ⟨⟨.inl rfl,.inl rfl⟩,HD.out,cV.refl _ _⟩);have bl:=hide (And.intro cb cc);clear cb cc ab;go_wp2_with fail;go_loopw [20,21] (fun a5 a6 wr=>∃ i j:Nat,a5=.int .i64 ((P:Int)+(i:Int))∧a6=.int .i64 ((P:Int)+(j:Int))∧s0≤i∧i≤j∧j≤r0∧Gt g p A B r M s0 r0 w wr i j) (fun s t _=>(intOf t-intOf s).toNat)
    case atStart=>exact ⟨s0,r0,rfl,rfl,by omega,by omega,by omega,H0.out⟩
    case round =>
      obtain ⟨i,j,rfl,rfl,d2,d3,d4,b1⟩:=hrel;have HR:=hide b1;clear b1;by_cases d5:i<j
      · as_aux_lemma =>
          obtain ⟨H,hH⟩:∃ H:Nat,(i+j) / 2=H:=⟨_,rfl⟩;have ab:((P:Int)+(i:Int)+((P:Int)+(j:Int))) / 2=((P+H:Nat):Int):=om;have cS:i≤H∧H<j:=om;obtain ⟨q,hq⟩:∃ q,P+H=q:=⟨_,rfl⟩;obtain ⟨t,ht⟩:∃ t,P+G+(M-1-H)=t:=⟨_,rfl⟩;rw [hq] at ab;have c9:(P:Int)+(M:Int)+((P:Int)+(G:Int))-1-(q:Int)=(t:Int):=om;obtain ⟨x,hx⟩:∃ x,A[H]?=some x:=⟨_,List.getElem?_eq_getElem (by rw [o.out.2.1];omega)⟩;obtain ⟨y,hy⟩:∃ y,B[M-1-H]?=some y:=⟨_,List.getElem?_eq_getElem (by rw [o.out.2.2];omega)⟩;have bt:(p++A++B++r)[q]?=some x:=by
            rw [List.append_assoc,List.append_assoc,List.getElem?_append_right (by rw [o.out.1];omega),o.out.1,show q-P=H by omega,List.getElem?_append_left (by rw [o.out.2.1];omega)];exact hx
          have bw:(p++A++B++r)[t]?=some y:=by
            rw [List.append_assoc,List.getElem?_append_right (by rw [List.length_append,o.out.1,o.out.2.1];omega),List.length_append,o.out.1,o.out.2.1,show t-(P+G)=M-1-H by omega,List.getElem?_append_left (by rw [o.out.2.2];omega)];exact hy
          obtain ⟨c1,c2⟩:=HR.out.2.1.cell bt;obtain ⟨c3,c4⟩:=HR.out.2.1.cell bw;have k1:=cell_regrown c1;have k2:=cell_regrown c2;have k3:=cell_regrown c3;have k4:=cell_regrown c4;have cr:=HS.out.2.2 x (List.mem_of_getElem? hx) y (List.mem_of_getElem? hy);have HK:=hide (And.intro hx (And.intro hy (And.intro cr hq)));have q1:(q:Int)<(L:Int):=om;have q2:(t:Int)<(L:Int):=om;have d1:=HR.out.2.1.lt;obtain ⟨dY,d0⟩:=cS;clear hx hy cr bt bw hH;go_wp2_with fail
          try rw [ab]
          refine wp_region_quiet_below (by kernel_rfl) (by kernel_rfl) ?_
          repeat (go_big_quiet_step (first | exact Calls.regrown_of (oI y x _) | fail))
          refine wpQuiet_nil ?_;intro _ c0;obtain ⟨⟨dq,osq⟩,c5⟩:=c0;subst c5;obtain ⟨wq,a4⟩:∃ wq,grow (redrawn wr dq) osq=wq:=⟨_,rfl⟩;have ba:=hide (show Below wr wr wq by rw [← a4];exact below_regrown wr dq osq);have bc:=hide (HR.out.2.1.call ba.out);have a7:=hide (HR.out.2.2.trans (cV.of ba.out g));rw [a4];clear k1 k2 k3 k4 c1 c2 c3 c4 a4;by_cases W:wG y x<0
          · have HN:=hide (show Gt g p A B r M s0 r0 w wq i H from ⟨⟨HR.out.1.1,.inr ⟨x,y,by omega,HK.out.1,HK.out.2.1,(Pt.lt_iff HK.out.2.2.1).2 ((gG y x).1 W)⟩⟩,bc.out,a7.out⟩)
            rw [decide_eq_true W];go_wp2;go_roundw
            case rel=>exact ⟨i,H,rfl,by have:=HK.out.2.2.2;congr 1;omega,by omega,by omega,by omega,HN.out⟩
            case measure=>have:=HK.out.2.2.2;simp [intOf];omega
          · have HN:=hide (show Gt g p A B r M s0 r0 w wq (H+1) j from ⟨⟨.inr ⟨x,y,by omega,HK.out.1,by rw [show M-(H+1)=M-1-H by omega];exact HK.out.2.1,Pt.not_lt (by have:=HK.out.2.2.1;omega) (fun e=>W ((gG y x).2 ((Pt.lt_iff HK.out.2.2.1).1 e)))⟩,HR.out.1.2⟩,bc.out,a7.out⟩)
            rw [decide_eq_false W];go_wp2;go_roundw
            case rel=>exact ⟨H+1,j,by have:=HK.out.2.2.2;congr 1;omega,rfl,by omega,by omega,by omega,HN.out⟩
            case measure=>have:=HK.out.2.2.2;simp [intOf];omega
      · obtain rfl:j=i:=om
        have b6:j≤A.length:=by rw [o.out.2.1];omega
        obtain ⟨e1,e2⟩:=HR.out.1.ends (by rw [o.out.2.2];exact bl.out.1) (by rw [o.out.2.1];exact bl.out.2) b6 om (by rw [o.out.2.2];omega);obtain ⟨S,al⟩:∃ l,A.take j=l:=⟨_,rfl⟩;obtain ⟨J,aq⟩:∃ l,A.drop j=l:=⟨_,rfl⟩;obtain ⟨R,U⟩:∃ l,B.take (M-j)=l:=⟨_,rfl⟩;obtain ⟨O,ay⟩:∃ l,B.drop (M-j)=l:=⟨_,rfl⟩;have HA:=hide (show A=S++J by rw [← al,← aq,List.take_append_drop]);have HB:=hide (show B=R++O by rw [← U,← ay,List.take_append_drop]);have cs:=hide (show S.length=j∧J.length=G-j by rw [← al,← aq,List.length_take,List.length_drop,o.out.2.1];omega);have cy:=hide (show R.length=M-j∧O.length=nb-(M-j) by rw [← U,← ay,List.length_take,List.length_drop,o.out.2.2];omega);rw [al,ay] at e1;rw [U,aq] at e2;have HE:=hide (And.intro e1 e2);have bd:=hide (show aJ wr g (p++(S++J)++(R++O)++r) by rw [← HA.out,← HB.out];exact HR.out.2.1);have a8:=hide HR.out.2.2;clear e1 e2 al aq U ay b6 HR;have bx:=cs.out;have bX:=cy.out;obtain ⟨E,hE⟩:∃ E:Nat,P+M+(G-j)=E:=⟨_,rfl⟩;have ds:(P:Int)+(M:Int)+((P:Int)+(G:Int))-((P:Int)+(j:Int))=(E:Int):=om;have cM:P+M≤E∧E≤P+G+nb:=om;have HEq:=hide hE;have I:=hide (show iW (S++J)∧iW (R++O)∧kn (S++J) (R++O) by rw [← HA.out,← HB.out];exact HS.out);have HJ:=hide (fun (s1 s2:List Pt)=>FH (s1:=s1) (s2:=s2) I.out.1 I.out.2.1 HE.out.1 HE.out.2);have aB:=hide (show (p++(S++R)++(J++O)++r).length=L by simp only [List.length_append];have:=o.out.1;omega);have f:=hide (And.intro bx bX);obtain ⟨c6,c7⟩:=cM;clear bx bX hE;go_upto_region 39 with (fail);go_cut [185] (fun b wx=>b=.bool (decide (j<G∧j<M))∧wr=wx)
        case first =>
          as_aux_lemma =>
            by_cases h1:j<G
            · by_cases h2:j<M
              · have h3:P+G<E:=by have:=HEq.out;omega
                go_wp2_with fail;go_meet
                case rel=>exact ⟨by simp [h1,h2];omega,rfl⟩
              · have h3:E≤P+G:=by have:=HEq.out;omega
                go_wp2_with fail;go_meet
                case rel=>exact ⟨by simp [h1,h2];omega,rfl⟩
            · go_wp2_with fail
              go_meet
              case rel=>exact ⟨by simp [h1],rfl⟩
        case rest =>
          obtain ⟨rfl,rfl⟩:=hcut;go_upto_if 185 with (fail);obtain ⟨bb,F⟩:∃ bb,decide (j<G∧j<M)=bb:=⟨_,rfl⟩;rw [F];go_cut [] (fun wx=>aJ wx g (p++(S++R)++(J++O)++r)∧cV g w wx)
          case first =>
            as_aux_lemma =>
              cases bb
              · have h0:=of_decide_eq_false F
                have HN:=hide (show aJ wr g (p++(S++R)++(J++O)++r) from by
                  have h:=bd.out;have hl:=f.out;rcases (show G≤j∨M≤j by omega) with h9 | h9
                  · obtain rfl:J=[]:=List.length_eq_zero_iff.1 om
                    simpa using h
                  · obtain rfl:R=[]:=List.length_eq_zero_iff.1 om
                    simpa using h)
                clear F h0;go_wp2_with fail;go_meet
                case rel=>exact ⟨HN.out,a8.out⟩
              · have h0:=of_decide_eq_true F
                have bh:=hide (Ir g cap L (p++S) J R (O++r) ((P:Int)+(j:Int)) ((P:Int)+(G:Int)) (E:Int) (p++(S++J)++(R++O)++r) vI wr (by have:=f.out;omega) (by have:=f.out;omega)
                  (by simp only [List.length_append];have:=f.out;have:=o.out.1;omega) (by simp only [List.length_append];have:=f.out;have:=o.out.1;omega) (by simp only [List.length_append];have:=f.out;have:=o.out.1;have:=HEq.out;omega) ac bd.out (by have:=aB.out;simp only [List.length_append] at this ⊢;omega) hl)
                clear F h0;go_wp2_with fail;refine bh.out.mono ?_;rintro e w2 ⟨rfl,b7,b2⟩;have HN:=hide (show aJ w2 g (p++(S++R)++(J++O)++r) by simpa using b7);have cE:=hide (a8.out.trans b2);clear b7 b2;go_wp2_with fail;go_meet
                case rel=>exact ⟨HN.out,cE.out⟩
          case rest =>
            obtain ⟨b0,U⟩:=hcut;have ad:=hide (And.intro b0 U);clear b0 U F;obtain ⟨w3,cl⟩:∃ w3,w3=wc:=⟨_,rfl⟩;rw [← cl] at ad ⊢;clear cl;go_upto_region 41 with (fail);go_cut [199] (fun b wx=>b=.bool (decide (0<j∧j<M))∧w3=wx)
            case first =>
              as_aux_lemma =>
                by_cases h1:0<j
                · by_cases h2:j<M
                  · go_wp2_with fail
                    all_goals first
                      | (exfalso;omega)
                      | (go_meet;case rel=>exact ⟨by simp [h1,h2];try omega,rfl⟩)
                  · go_wp2_with fail
                    all_goals first
                      | (exfalso;omega)
                      | (go_meet;case rel=>exact ⟨by simp [h1,h2];try omega,rfl⟩)
                · go_wp2_with fail
                  all_goals first
                    | (exfalso;omega)
                    | (go_meet;case rel=>exact ⟨by simp [h1];try omega,rfl⟩)
            case rest =>
              obtain ⟨rfl,rfl⟩:=hcut;go_upto_if 199 with (fail);obtain ⟨bb,F⟩:∃ bb,decide (0<j∧j<M)=bb:=⟨_,rfl⟩;rw [F];go_cut [] (fun wx=>Lp g p S R (J++O++r) w wx)
              case first =>
                as_aux_lemma =>
                  cases bb
                  · have h0:=of_decide_eq_false F
                    have HN:=hide (show Lp g p S R (J++O++r) w w3 from ⟨S++R,u6 (zF I.out.1.left I.out.2.1.left (by have:=f.out;omega)),by simpa using ad.out.1,ad.out.2⟩);clear F h0;go_wp2_with fail;go_meet
                    case rel=>exact HN.out
                  · have h0:=of_decide_eq_true F
                    have aF:=hide (HI.out g cap L p S R (J++O++r) (P:Int) ((P:Int)+(j:Int)) ((P:Int)+(M:Int)) (p++(S++R)++(J++O)++r) w3 (by have:=f.out;omega) (by have:=f.out;omega) (by have:=f.out;omega)
                      I.out.1.left I.out.2.1.left (I.out.2.2.sub (fun x hx=>List.mem_append_left _ hx) (fun x hx=>List.mem_append_left _ hx)) (by have:=o.out.1;omega) (by have:=f.out;have:=o.out.1;omega) (by have:=f.out;have:=o.out.1;omega) ac ad.out.1 aB.out hl)
                    clear F h0;go_wp2_with fail;refine aF.out.mono ?_;rintro e w4 ⟨rfl,⟨s1,V,b8⟩,b3⟩;have HN:=hide (show Lp g p S R (J++O++r) w w4 from ⟨s1,V,b8,ad.out.2.trans b3⟩);clear V b8 b3;go_wp2_with fail;go_meet
                    case rel=>exact HN.out
              case rest =>
                obtain ⟨s1,V,b9,b4⟩:=hcut;have T:=hide (And.intro V (And.intro b9 b4));have ah:=hide (show s1.length=M by rw [V.1.length_eq,List.length_append];have:=f.out;omega);clear V b9 b4 F ad;obtain ⟨w5,cp⟩:∃ w5,w5=wc:=⟨_,rfl⟩;rw [← cp] at T ⊢;clear cp;by_cases h1:P+M<E∧E<P+G+nb
                · have aF := hide (HI.out g cap L (p ++ s1) J O r ((P : Int) + (M : Int)) (E : Int) ((P : Int) + (G : Int) + (nb : Int)) (p ++ s1 ++ (J ++ O ++ r)) w5 (by have := f.out; have := HEq.out; omega) (by have := f.out; have := HEq.out; omega) (by have := f.out; omega)
                    I.out.1.right I.out.2.1.right (I.out.2.2.sub (fun x hx=>List.mem_append_right _ hx) (fun x hx=>List.mem_append_right _ hx)) (by rw [List.length_append];have:=o.out.1;have:=ah.out;omega) (by rw [List.length_append];have:=f.out;have:=o.out.1;have:=ah.out;have:=HEq.out;omega) (by rw [List.length_append];have:=f.out;have:=o.out.1;have:=ah.out;omega) ac T.out.2.1
                    (by have h6:=aB.out;simp only [List.length_append] at h6 ⊢;have:=ah.out;have:=f.out;omega) hl)
                  obtain ⟨h2,h3⟩:=h1;go_wp2_with fail
                  all_goals first
                    | (exfalso;omega)
                    | skip
                  refine aF.out.mono ?_;rintro e w6 ⟨rfl,⟨s2,a3,ca⟩,b5⟩;have HF:=hide (show ∃ s',iX (A++B) s'∧aJ w6 g (p++s'++r) from ⟨s1++s2,by rw [HA.out,HB.out];exact HJ.out s1 s2 T.out.1 a3,by simpa using ca⟩);have aA:=hide (T.out.2.2.trans b5);clear a3 ca b5;go_wp2
                  all_goals first
                    | (exfalso;omega)
                    | (go_end0;exact ⟨rfl,by first | exact HF.out | simpa only [List.append_assoc] using HF.out,aA.out⟩)
                · have HF := hide (show ∃ s', iX (A ++ B) s' ∧ aJ w5 g (p ++ s' ++ r) from ⟨s1 ++ (J ++ O), by
                    rw [HA.out,HB.out];exact HJ.out s1 (J++O) T.out.1 (u6 (zF I.out.1.right I.out.2.1.right (by have:=f.out;have:=HEq.out;omega))),by simpa using T.out.2.1⟩)
                  have aA:=hide T.out.2.2;rcases (show E≤P+M∨(P+M<E∧P+G+nb≤E) by omega) with h2 | ⟨h2,h3⟩
                  all_goals
                    clear h1;go_wp2
                    all_goals first
                      | (exfalso;omega)
                      | (go_end0;exact ⟨rfl,by first | exact HF.out | simpa only [List.append_assoc] using HF.out,aA.out⟩)
end
section
open Go.RowKit
def Ck (b c:Nat) (l:List Pt):List Pt:=(l.drop (c*b)).take b
theorem zL {b c m:Nat} {l k:List Pt} (h:l.take m=k.take m) (f:(c+1)*b≤m):Ck b c l=Ck b c k:=by
 have e:∀ x:List Pt,Ck b c x=(x.take m |>.drop (c*b)).take b:=by
  intro x;unfold Ck;rw [List.drop_take,List.take_take];congr 1;have:(c+1)*b=c*b+b:=Nat.succ_mul c b;omega
 rw [e l,e k,h]
theorem C3 {b c m:Nat} {l k:List Pt} (h:l.drop m=k.drop m) (f:m≤c*b):Ck b c l=Ck b c k:=by
 have e:∀ x:List Pt,Ck b c x=((x.drop m).drop (c*b-m)).take b:=by
  intro x;unfold Ck;rw [List.drop_drop];congr 2;omega
 rw [e l,e k,h]
theorem nN (b i:Nat) (l:List Pt):Ck (2*b) i l=Ck b (2*i) l++Ck b (2*i+1) l:=by
 unfold Ck;rw [show i*(2*b)=2*i*b by rw [Nat.mul_left_comm,Nat.mul_assoc],show (2*i+1)*b=2*i*b+b from Nat.succ_mul _ _,← List.drop_drop];rw [show 2*b=b+b by omega,List.take_add]
theorem uc {b c:Nat} {l:List Pt} (h:l.length≤c*b):Ck b c l=[]:=by
 unfold Ck;rw [List.drop_eq_nil_of_le h,List.take_nil]
theorem Dw {b:Nat} {l:List Pt} (h:l.length≤b):Ck b 0 l=l:=by
 unfold Ck;rw [Nat.zero_mul,List.drop_zero,List.take_of_length_le h]
theorem pS (b c:Nat) (l:List Pt):(Ck b c l).length=min b (l.length-c*b):=by simp [Ck]
def JI (b:Nat) (s D:List Pt):Prop:=∀ c,iX (Ck b c s) (Ck b c D)
theorem Hn:iX [] []:=⟨List.Perm.refl _,List.Pairwise.nil⟩
def AZ (b:Nat) (s D:List Pt) (i:Nat):Prop:=D.length=s.length∧(∀ c,c<i→iX (Ck b c s) (Ck b c D))∧D.drop (i*b)=s.drop (i*b)
theorem AZ.step {b i:Nat} {s D o:List Pt} (h:AZ b s D i) (W:iX (Ck b i s) o) (V:o.length=(Ck b i s).length):AZ b s (D.take (i*b)++o++D.drop ((i+1)*b)) (i+1):=by
  obtain ⟨H,O,R⟩:=h;have T:(i+1)*b=i*b+b:=Nat.succ_mul _ _;have f:(D.take (i*b)).length=min (i*b) s.length:=by rw [List.length_take,H]
  have E:o.length=min b (s.length-i*b):=by rw [V,pS]
  refine ⟨by simp only [List.length_append,List.length_take,List.length_drop,H,E];omega,fun c hc=>?_,?_⟩
  · rcases Nat.lt_or_ge c i with G | U
    · have e : Ck b c (D.take (i * b) ++ o ++ D.drop ((i + 1) * b)) = Ck b c D := by
        refine zL (m:=i*b) ?_ (Nat.mul_le_mul_right b G);rcases Nat.le_total (i*b) s.length with F | F
        · rw [List.append_assoc,List.take_append_of_le_length (by rw [f];omega),List.take_take,Nat.min_self]
        · have I:o=[]:=List.length_eq_zero_iff.1 om
          have J:D.drop ((i+1)*b)=[]:=List.drop_eq_nil_of_le om;rw [I,J,List.append_nil,List.append_nil,List.take_take,Nat.min_self]
      rw [e];exact O c G
    · obtain rfl:c=i:=om
      have e:Ck b c (D.take (c*b)++o++D.drop ((c+1)*b))=o:=by
        unfold Ck;rcases Nat.le_total (c*b) s.length with F | F
        · rw [List.append_assoc,List.drop_append,List.drop_take,Nat.sub_self,List.take_zero,List.nil_append,f,show c*b-min (c*b) s.length=0 by omega,List.drop_zero]
          rcases Nat.le_total b (s.length-c*b) with S | S
          · rw [List.take_append_of_le_length om,List.take_of_length_le om]
          · rw [List.drop_eq_nil_of_le om,List.append_nil,List.take_of_length_le om]
        · have I:o=[]:=List.length_eq_zero_iff.1 om
          rw [I,List.drop_eq_nil_of_le,List.take_nil]
          · simp only [List.length_append,List.length_take,List.length_drop,H,List.length_nil];omega
      rw [e];exact W
  · have e : (D.take (i * b) ++ o ++ D.drop ((i + 1) * b)).drop ((i + 1) * b) = D.drop ((i + 1) * b) := by
      rcases Nat.le_total ((i+1)*b) s.length with F | F
      · rw [List.drop_append,List.drop_eq_nil_of_le (by simp only [List.length_append,f,E];omega),List.nil_append]
        rw [show (i+1)*b-(D.take (i*b)++o).length=0 by simp only [List.length_append,f,E];omega,List.drop_zero]
      · rw [List.drop_eq_nil_of_le,List.drop_eq_nil_of_le om]
        simp only [List.length_append,List.length_take,List.length_drop,H,E];omega
    rw [e,T,← List.drop_drop,R,List.drop_drop]
theorem AZ.fin {b i:Nat} {s D:List Pt} (h:AZ b s D i) (hi:s.length≤i*b):JI b s D:=by
 intro c;rcases Nat.lt_or_ge c i with o | f
 ·exact h.2.1 c o
 ·have E:i*b≤c*b:=Nat.mul_le_mul_right b f
  rw [uc om,uc (by rw [h.1];omega)];exact Hn
def pC (b:Nat) (s D:List Pt) (i:Nat):Prop:=D.length=s.length∧(∀ c,c<i→iX (Ck (2*b) c s) (Ck (2*b) c D))∧(∀ c,2*i≤c→iX (Ck b c s) (Ck b c D))
theorem pC.start {b:Nat} {s D:List Pt} (o:D.length=s.length) (h:JI b s D):pC b s D 0:=⟨o,fun c f=>absurd f (Nat.not_lt_zero _),fun c _=>h c⟩
theorem CZ (b i:Nat) (D:List Pt):D=D.take (i*(2*b))++Ck b (2*i) D++Ck b (2*i+1) D++D.drop ((i+1)*(2*b)):=by
 rw [List.append_assoc (D.take _),← nN];unfold Ck;rw [show (i+1)*(2*b)=i*(2*b)+2*b from Nat.succ_mul _ _,← List.drop_drop,List.append_assoc,List.take_append_drop,List.take_append_drop]
theorem pC.step {b i:Nat} {s D o:List Pt} (h:pC b s D i) (R:iX (Ck b (2*i) D++Ck b (2*i+1) D) o):pC b s (D.take (i*(2*b))++o++D.drop ((i+1)*(2*b))) (i+1):=by
  obtain ⟨F,U,J⟩:=h;have hb:(i+1)*(2*b)=i*(2*b)+2*b:=Nat.succ_mul _ _;have f:(D.take (i*(2*b))).length=min (i*(2*b)) s.length:=by rw [List.length_take,F]
  have E:o.length=min (2*b) (s.length-i*(2*b)):=by rw [R.1.length_eq,← nN,pS,F]
  have W:iX (Ck (2*b) i s) o:=by
    refine ⟨R.1.trans ?_,R.2⟩;rw [nN];exact (J (2*i) om).1.append (J (2*i+1) om).1
  refine ⟨by simp only [List.length_append,List.length_take,List.length_drop,F,E];omega,fun c S=>?_,fun c S=>?_⟩
  · rcases Nat.lt_or_ge c i with H | ab
    · have e : Ck (2 * b) c (D.take (i * (2 * b)) ++ o ++ D.drop ((i + 1) * (2 * b))) = Ck (2 * b) c D := by
        refine zL (m:=i*(2*b)) ?_ (Nat.mul_le_mul_right _ H);rcases Nat.le_total (i*(2*b)) s.length with G | G
        · rw [List.append_assoc,List.take_append_of_le_length (by rw [f];omega),List.take_take,Nat.min_self]
        · have I:o=[]:=List.length_eq_zero_iff.1 om
          have T:D.drop ((i+1)*(2*b))=[]:=List.drop_eq_nil_of_le om;rw [I,T,List.append_nil,List.append_nil,List.take_take,Nat.min_self]
      rw [e];exact U c H
    · obtain rfl:c=i:=om
      have e:Ck (2*b) c (D.take (c*(2*b))++o++D.drop ((c+1)*(2*b)))=o:=by
        unfold Ck;rcases Nat.le_total (c*(2*b)) s.length with G | G
        · rw [List.append_assoc,List.drop_append,List.drop_take,Nat.sub_self,List.take_zero,List.nil_append,f,show c*(2*b)-min (c*(2*b)) s.length=0 by omega,List.drop_zero]
          rcases Nat.le_total (2*b) (s.length-c*(2*b)) with V | V
          · rw [List.take_append_of_le_length om,List.take_of_length_le om]
          · rw [List.drop_eq_nil_of_le om,List.append_nil,List.take_of_length_le om]
        · have I:o=[]:=List.length_eq_zero_iff.1 om
          rw [I,List.drop_eq_nil_of_le,List.take_nil]
          · simp only [List.length_append,List.length_take,List.length_drop,F,List.length_nil];omega
      rw [e];exact W
  · have O : (i + 1) * (2 * b) ≤ c * b := by
      have:=Nat.mul_le_mul_right b S;rw [show (i+1)*(2*b)=2*(i+1)*b by rw [Nat.mul_left_comm,Nat.mul_assoc]];exact this
    have e:Ck b c (D.take (i*(2*b))++o++D.drop ((i+1)*(2*b)))=Ck b c D:=by
      refine C3 (m:=(i+1)*(2*b)) ?_ O;rcases Nat.le_total ((i+1)*(2*b)) s.length with G | G
      · rw [List.drop_append,List.drop_eq_nil_of_le (by simp only [List.length_append,f,E];omega),List.nil_append]
        rw [show (i+1)*(2*b)-(D.take (i*(2*b))++o).length=0 by simp only [List.length_append,f,E];omega,List.drop_zero]
      · rw [List.drop_eq_nil_of_le,List.drop_eq_nil_of_le om]
        simp only [List.length_append,List.length_take,List.length_drop,F,E];omega
    rw [e];exact J c om
theorem pC.fin {b i:Nat} {s D:List Pt} (h:pC b s D i) (hi:s.length≤i*(2*b)+b):JI (2*b) s D:=by
 obtain ⟨J,E,F⟩:=h;intro c;rcases Nat.lt_or_ge c i with o | f
 ·exact E c o
 ·have O:i*(2*b)≤c*(2*b):=Nat.mul_le_mul_right _ f
  have I:(2*c+1)*b=c*(2*b)+b:=by rw [Nat.succ_mul];congr 1;rw [Nat.mul_left_comm,Nat.mul_assoc]
  have G:Ck b (2*c+1) s=[]:=uc om;have H:Ck b (2*c+1) D=[]:=uc om;rw [nN,nN,G,H,List.append_nil,List.append_nil];exact F (2*c) om
theorem JI.fin {b:Nat} {s D:List Pt} (h:JI b s D) (o:D.length=s.length) (f:s.length≤b):iX s D:=by
 have:=h 0
 rwa [Dw f,Dw om] at this
theorem pC.runs {b i:Nat} {s D:List Pt} (h:pC b s D i) (E:s.Pairwise fun x y=>x.pos<y.pos):iW (Ck b (2*i) D)∧iW (Ck b (2*i+1) D)∧kn (Ck b (2*i) D) (Ck b (2*i+1) D):=by
 obtain ⟨F,G,f⟩:=h;have a:=f (2*i) om;have c:=f (2*i+1) om;refine ⟨a.2,c.2,?_⟩;have e:kn (Ck b (2*i) s) (Ck b (2*i+1) s):=by
  have o:(Ck b (2*i) s++Ck b (2*i+1) s).Pairwise fun x y=>x.pos<y.pos:=by
   rw [← nN];unfold Ck;exact E.sublist ((List.take_sublist _ _).trans (List.drop_sublist _ _))
  exact (List.pairwise_append.1 o).2.2
 exact e.perm a.1 c.1
def Ao (x:Pt):List Pt→List Pt
 | []=>[x]
 | y::l=>if x.lt y then x::y::l else y::Ao x l
def jv:List Pt→List Pt
 | []=>[]
 | x::l=>Ao x (jv l)
theorem rK (x:Pt) (l:List Pt):(Ao x l).Perm (x::l):=by
 induction l with
 | nil=>exact List.Perm.refl _
 | cons y l f =>
  unfold Ao
  split
  ·exact List.Perm.refl _
  ·exact (List.Perm.cons y f).trans (List.Perm.swap x y l)
theorem nO (l:List Pt):(jv l).Perm l:=by
 induction l with
 | nil=>exact List.Perm.refl _
 | cons x l f=>exact (rK x _).trans (List.Perm.cons x f)
theorem Ey {x:Pt} {l:List Pt} (h:iW l) (E:∀ y∈l,x.pos≠y.pos):iW (Ao x l):=by
 induction l with
 | nil=>exact List.pairwise_singleton _ _
 | cons y l F =>
  have o:=List.pairwise_cons.1 h;unfold Ao
  split
  ·rename_i hxy
   refine List.pairwise_cons.2 ⟨fun z f=>?_,h⟩;rcases List.mem_cons.1 f with rfl | f
   ·exact hxy
   ·exact Pt.lt_trans hxy (o.1 z f)
  ·rename_i hxy
   refine List.pairwise_cons.2 ⟨fun z f=>?_,F o.2 (fun z f=>E z (List.mem_cons_of_mem _ f))⟩;rcases List.mem_cons.1 ((rK x l).mem_iff.1 f) with rfl | f
   ·exact Pt.not_lt (E y ac) hxy
   ·exact o.1 z f
theorem pd {l:List Pt} (h:l.Pairwise fun x y=>x.pos<y.pos):iX l (jv l):=by
 refine ⟨nO l,?_⟩
 induction l with
 | nil=>exact List.Pairwise.nil
 | cons x l E =>
  have f:=List.pairwise_cons.1 h;exact Ey (E f.2) (fun y o=>by have:=f.1 y ((nO l).mem_iff.1 o);omega)
end
section
open Go.RowKit Go.Sort
theorem Hj:∀ N,Ki N:=by
 intro N
 induction N with
 | zero =>
  intro g cap L p A B r u v z D w ha R O;omega
 | succ N ih =>
  intro g cap L p A B r u v z D w ha R O S T f G H J h o E F;by_cases U:A.length=1
  ·obtain ⟨x,rfl⟩:=List.length_eq_one_iff.1 U
   refine (Gm g cap L p B r x u v z D w T (fun y I=>f x ac y I) R G (by simpa using H) (by simpa using J) (by simpa using h) o E F).mono ?_;rintro e w' ⟨W,h4,h5⟩;exact ⟨W,by simpa using h4,h5⟩
  ·by_cases V:B.length=1
   ·obtain ⟨x,rfl⟩:=List.length_eq_one_iff.1 V
    exact FW g cap L p A r x u v z D w S (fun y I=>f y I x ac) om G H (by simpa using J) (by simpa using h) o E F
   ·exact Gg N ih g cap L p A B r u v z D w om om O S T f G H J h o E F
theorem Dr {b i:Nat} {s D:List Pt} (h:D.drop (i*b)=s.drop (i*b)):D=D.take (i*b)++Ck b i s++D.drop ((i+1)*b):=by
 unfold Ck;rw [← h,show (i+1)*b=i*b+b from Nat.succ_mul _ _,← List.drop_drop,List.append_assoc,List.take_append_drop,List.take_append_drop]
theorem zV (b i:Nat) {s:List Pt} (h:l7 s):l7 (Ck b i s):=List.Pairwise.sublist ((List.take_sublist _ _).trans (List.drop_sublist _ _)) h
def Lo (g:Nat) (s:List Pt) (f w:World) (i:Nat):Prop:=∃ D,AZ 20 s D i∧aJ w g D∧cV g f w
def KV (g b:Nat) (s:List Pt) (f w:World):Prop:=∃ D,D.length=s.length∧JI b s D∧aJ w g D∧cV g f w
def Lj (g b:Nat) (s:List Pt) (f w:World) (i:Nat):Prop:=∃ D,pC b s D i∧aJ w g D∧cV g f w
theorem yH (g cap L:Nat) (s:List Pt) (w:World) (hs:l7 s) (hD:aJ w g s) (hL:s.length=L) (hl:L≤100000) :
  Calls Tryz.prog 170 #[.slice (some ⟨g,0,none⟩) L cap,L,vI] w fun e w'=>e=.returned (.tuple #[])∧(∃ s',iX s s'∧aJ w' g s')∧cV g w w':=by
 have H0:=hide (show Lo g s w w 0 from ⟨s,⟨rfl,fun c hc=>absurd hc (Nat.not_lt_zero _),rfl⟩,hD,cV.refl _ _⟩);have HL:=hide hL;have HS:=hide hs;have a2:=hide Hj;clear hD hL hs;go_enter Tryz.func170,Tryz.ntmps170;go_wp2_with fail;go_loopw [7,8] (fun s7 s8 wr=>∃ i a:Nat,s7=.int .i64 (a:Int)∧s8=.int .i64 ((a+20:Nat):Int)∧Hid (a=i*20)∧a≤L∧Lo g s w wr i) (fun _ s8 _=>(L+100-intOf s8).toNat)
 case atStart=>exact ⟨0,0,rfl,rfl,hide rfl,Nat.zero_le _,H0.out⟩
 case round =>
  obtain ⟨i,a,rfl,rfl,HA,bx,D,hI,J,V⟩:=hrel;have HI:=hide (And.intro hI (And.intro J V));have a0:=hide (Dr hI.2.2);have aA:=hide (show D.length=L by rw [hI.1];exact HL.out);have aB:=hide (show (Ck 20 i s).length=min 20 (L-a) by rw [pS,HL.out,HA.out]);have ay:=hide (show (D.take (i*20)).length=a by rw [List.length_take,aA.out,HA.out];have:=HA.out;omega);have a8:=J.lt;clear hI J V;by_cases ba:a+20≤L
  ·go_wp2_with fail
   all_goals first
    | (exfalso;omega)
    | skip
   refine (zg g cap L (D.take (i*20)) (Ck 20 i s) (D.drop ((i+1)*20)) _ _ D _ (zV 20 i HS.out) (by rw [ay.out]) (by rw [ay.out,aB.out];omega) a0.out HI.out.2.1 aA.out om).mono ?_;rintro e w2 ⟨rfl,⟨s',h,al⟩,ad⟩;have HN:=hide (show Lo g s w w2 (i+1) from ⟨_,HI.out.1.step h h.1.length_eq,al,HI.out.2.2.trans ad⟩);clear h al ad;go_wp2;go_roundw
   case rel=>exact ⟨i+1,a+20,by first | rfl | (congr 1;omega),by first | rfl | (congr 1;done) | (congr 1;omega),hide (by have:=HA.out;omega),ba,HN.out⟩
   case measure=>simp [intOf];omega
  ·go_wp2_with fail
   all_goals first
    | (exfalso;omega)
    | skip
   refine (zg g cap L (D.take (i*20)) (Ck 20 i s) (D.drop ((i+1)*20)) _ _ D _ (zV 20 i HS.out) (by rw [ay.out]) (by rw [ay.out,aB.out];omega) a0.out HI.out.2.1 aA.out om).mono ?_;rintro e w2 ⟨rfl,⟨s',h,al⟩,ad⟩;have I:=HI.out.1.step h h.1.length_eq;have HN:=hide (show KV g 20 s w w2 from ⟨_,I.1,I.fin (by rw [HL.out];have:=HA.out;omega),al,HI.out.2.2.trans ad⟩);clear h al ad I;go_wp2_with fail;go_loopw [6] (fun s6 wr=>∃ b:Nat,s6=.int .i64 (b:Int)∧20≤b∧b≤2*L+20∧KV g b s w wr) (fun s6 _=>(L+100-intOf s6).toNat)
   case atStart=>exact ⟨20,rfl,by omega,by omega,HN.out⟩
   case round =>
    obtain ⟨b,rfl,bh,bl,D,ab,W,J,V⟩:=hrel;have HB:=hide (And.intro ab (And.intro W (And.intro J V)));have a8:=J.lt;by_cases bt:b<L
    ·have a1:=hide (show Lj g b s w wr 0 from ⟨D,pC.start ab W,J,V⟩)
     obtain ⟨T,a3⟩:∃ n:Nat,2*b=n:=⟨_,rfl⟩;have bX:(2:Int)*(b:Int)=(T:Int):=om;have b0:(b:Int)*2=(T:Int):=om;have f:=hide a3;have a4:40≤T∧T≤4*L+40:=om;obtain ⟨bb,bc⟩:=a4;clear ab W J V a3;obtain ⟨wo,a6⟩:∃ wo:World,wo=wr:=⟨_,rfl⟩;rw [← a6] at a1 ⊢;clear a6;go_wp2_with fail;go_loopw [7,8] (fun s7 s8 wr=>∃ i a:Nat,s7=.int .i64 (a:Int)∧s8=.int .i64 ((a+T:Nat):Int)∧Hid (a=i*(2*b))∧a≤L∧Lj g b s w wr i) (fun _ s8 _=>(L+T+100-intOf s8).toNat)
     case atStart=>exact ⟨0,0,rfl,by first | rfl | (congr 1;omega),hide ac,Nat.zero_le _,a1.out⟩
     case round =>
      obtain ⟨i,a,rfl,rfl,O,bd,H,hI,J,V⟩:=hrel;have o:=hide (And.intro hI (And.intro J V));have S:=hide (hI.runs HS.out);have aF:=hide (CZ b i H);have G:=hide (show H.length=L by rw [hI.1];exact HL.out);have F:=hide (show (Ck b (2*i) H).length=min b (L-a) by rw [pS,G.out,O.out];congr 2;rw [Nat.mul_left_comm,Nat.mul_assoc]);have R:=hide (show (Ck b (2*i+1) H).length=min b (L-(a+b)) by rw [pS,G.out,O.out];congr 2;rw [Nat.succ_mul];congr 1;rw [Nat.mul_left_comm,Nat.mul_assoc]);have E:=hide (show (H.take (i*(2*b))).length=a by rw [List.length_take,G.out,← O.out];omega);have bp:=J.lt;clear hI J V;by_cases a5:a+T≤L
      ·go_wp2_with fail
       all_goals first
        | (exfalso;omega)
        | skip
       refine (a2.out (2*b) g cap L (H.take (i*(2*b))) (Ck b (2*i) H) (Ck b (2*i+1) H) (H.drop ((i+1)*(2*b))) _ _ _ H _ (by rw [F.out];have:=f.out;omega) (by rw [R.out];have:=f.out;omega) (by rw [F.out,R.out];omega) S.out.1 S.out.2.1 S.out.2.2
        (by rw [E.out]) (by rw [E.out,F.out];have:=f.out;omega) (by rw [E.out,F.out,R.out];have:=f.out;omega) aF.out o.out.2.1 G.out om).mono ?_
       rintro e w3 ⟨rfl,⟨s',h,aq⟩,ah⟩;have U:=hide (show Lj g b s w w3 (i+1) from ⟨_,o.out.1.step h,aq,o.out.2.2.trans ah⟩);clear h aq ah;go_wp2;go_roundw
       case rel=>exact ⟨i+1,a+T,by first | rfl | (congr 1;omega),by first | rfl | (congr 1;done) | (congr 1;omega),hide (by have h1:=O.out;have h2:=f.out;rw [Nat.succ_mul];omega),a5,U.out⟩
       case measure=>simp [intOf];omega
      ·by_cases bw:a+b<L
       ·go_wp2_with fail
        all_goals first
         | (exfalso;omega)
         | skip
        refine (a2.out (2*b) g cap L (H.take (i*(2*b))) (Ck b (2*i) H) (Ck b (2*i+1) H) (H.drop ((i+1)*(2*b))) _ _ _ H _ (by rw [F.out];have:=f.out;omega) (by rw [R.out];have:=f.out;omega) (by rw [F.out,R.out];omega) S.out.1 S.out.2.1 S.out.2.2
         (by rw [E.out]) (by rw [E.out,F.out];have:=f.out;omega) (by rw [E.out,F.out,R.out];have:=f.out;omega) aF.out o.out.2.1 G.out om).mono ?_
        rintro e w3 ⟨rfl,⟨s',h,aq⟩,ah⟩;have I:=o.out.1.step h;have U:=hide (show KV g T s w w3 from ⟨_,I.1,by rw [← f.out];exact I.fin (by rw [HL.out,Nat.succ_mul];have:=O.out;have:=f.out;omega),aq,o.out.2.2.trans ah⟩);clear h aq ah I;go_wp2;go_roundw
        case rel=>exact ⟨T,by first | rfl | (congr 1;omega),by omega,by have:=f.out;omega,U.out⟩
        case measure=>have:=f.out;simp [intOf];omega
       ·have U:=hide (show KV g T s w wr from ⟨_,o.out.1.1,by rw [← f.out];exact o.out.1.fin (by rw [HL.out,← O.out];omega),o.out.2.1,o.out.2.2⟩)
        go_wp2
        all_goals first
         | (exfalso;omega)
         | skip
        go_roundw
        case rel=>exact ⟨T,by first | rfl | (congr 1;omega),by omega,by have:=f.out;omega,U.out⟩
        case measure=>have:=f.out;simp [intOf];omega
    ·have HF:=hide (show ∃ s',iX s s'∧aJ wr g s' from ⟨D,W.fin ab (by rw [HL.out];omega),J⟩)
     have a7:=hide V;clear ab W J V;go_wp2
     all_goals first
      | (exfalso;omega)
      | (go_end0;exact ⟨rfl,HF.out,a7.out⟩)
theorem EQ (g cap L:Nat) (s:List Pt) (w:World) (E:l7 s) (o:aJ w g s) (G:s.length=L) (V:L≤100000) :
  Calls Tryz.prog 106 #[.slice (some ⟨g,0,none⟩) L cap,vI] w fun e J=>e=.returned (.tuple #[])∧aJ J g (jv s)∧cV g w J:=by
 have R:=hide (fun w o=>yH g cap L s w E o G V);have U:=hide (fun F (h:iX s F)=>iX.uniq h (pd E));have S:=hide o;clear E o G;go_enter Tryz.func106,Tryz.ntmps106;go_wp2_with fail;refine (R.out _ S.out).mono ?_;rintro e W ⟨rfl,⟨F,f,I⟩,H⟩;have T:=hide (show aJ W g (jv s) by rw [← U.out F f];exact I);have O:=hide H;clear f I H;go_wp2;go_end0;exact ⟨rfl,T.out,O.out⟩
end
end Go.Proofs.YtjhhmeoibfdcmaaGreat
