/- Lemmas. -/
import Derived.BigQuiet
import Derived.Deep.DeepCutAuto
import Derived.Lib.QuietBelow
import Derived.Test.YtpebkobmhhnojaaGreatDoorTp02
set_option linter.unusedSimpArgs false
set_option linter.unusedVariables false
set_option maxRecDepth 100000
set_option maxHeartbeats 12800000
namespace Go.Proofs.YtpebkobmhhnojaaGreatDoor
section
open Go.RowKit
structure Pt where
 pos:Int
 ab:Int
 deriving DecidableEq,Inhabited
def Pt.lt (x y:Pt):Prop:=y.ab<x.ab∨(x.ab=y.ab∧x.pos<y.pos)
instance (x y:Pt):Decidable (Pt.lt x y):=by unfold Pt.lt;infer_instance
theorem Pt.lt_trans {x y z:Pt} (h:x.lt y) (k:y.lt z):x.lt z:=by unfold Pt.lt at *;omega
theorem Pt.lt_asymm {x y:Pt} (h:x.lt y) (k:y.lt x):False:=by unfold Pt.lt at *;omega
theorem Pt.not_lt {x y:Pt} (h:x.pos≠y.pos) (k:¬ x.lt y):y.lt x:=by unfold Pt.lt at *;omega
theorem Pt.lt_iff {x y:Pt} (h:y.pos<x.pos):x.lt y↔y.ab<x.ab:=by unfold Pt.lt;omega
def gg (l:List Pt):Prop:=l.Pairwise Pt.lt
def iy (a b:List Pt):Prop:=∀ x∈a,∀ y∈b,x.pos<y.pos
theorem iy.perm {a b f o:List Pt} (h:iy a b) (E:f.Perm a) (F:o.Perm b):iy f o:=fun x G y H=>h x (E.mem_iff.1 G) y (F.mem_iff.1 H)
theorem iy.sub {a b f o:List Pt} (h:iy a b) (E:∀ x∈f,x∈a) (F:∀ x∈o,x∈b):iy f o:=fun x G y H=>h x (E x G) y (F y H)
def gF (l s:List Pt):Prop:=s.Perm l∧gg s
theorem gF.uniq {l s t:List Pt} (h:gF l s) (k:gF l t):s=t:=by
 have E:s.Perm t:=h.1.trans k.1.symm;exact E.eq_of_pairwise (le:=Pt.lt) (fun a b _ _ f o=>(Pt.lt_asymm f o).elim) h.2 k.2
theorem gg.app {a b:List Pt} (f:gg a) (o:gg b) (h:∀ x∈a,∀ y∈b,x.lt y):gg (a++b):=List.pairwise_append.2 ⟨f,o,h⟩
theorem gg.left {a b:List Pt} (h:gg (a++b)):gg a:=(List.pairwise_append.1 h).1
theorem gg.right {a b:List Pt} (h:gg (a++b)):gg b:=(List.pairwise_append.1 h).2.1
theorem gg.cross {a b:List Pt} (h:gg (a++b)):∀ x∈a,∀ y∈b,x.lt y:=(List.pairwise_append.1 h).2.2
def tI (l:List Pt) (i j:Nat):List Pt:=(l.set i (l[j]?.getD default)).set j (l[i]?.getD default)
theorem vG (p q r:List Pt) (x y:Pt):tI (p++x::(q++y::r)) p.length (p.length+1+q.length)=p++y::(q++x::r):=by
 unfold tI;have f:(p++x::(q++y::r))[p.length]?=some x:=af;have h:(p++x::(q++y::r))[p.length+1+q.length]?=some y:=by
  rw [List.getElem?_append_right om,show p.length+1+q.length-p.length=q.length+1 by omega,List.getElem?_cons_succ,List.getElem?_append_right (Nat.le_refl _)];simp
 rw [f,h];simp only [Option.getD_some];rw [List.set_append_right _ _ (Nat.le_refl _),Nat.sub_self,List.set_cons_zero,List.set_append_right _ _ om,show p.length+1+q.length-p.length=q.length+1 by omega,List.set_cons_succ,List.set_append_right _ _ (Nat.le_refl _),Nat.sub_self,List.set_cons_zero]
theorem gF.trans {l s t:List Pt} (h:s.Perm l) (k:gF s t):gF l t:=⟨k.1.trans h,k.2⟩
theorem DY {W Y r1 r2:List Pt} (O:gg (W++Y)) (U:gg (r1++r2))
  (h1:∀ x∈W.getLast?,∀ y∈r2.head?,x.lt y) (h2:∀ x∈r1.getLast?,∀ y∈Y.head?,x.lt y) :
  ∀ x∈W++r1,∀ y∈Y++r2,x.lt y:=by
 have G:∀ {a b:List Pt},gg (a++b)→∀ x∈a,∃ z∈a.getLast?,x=z∨x.lt z:=by
  intro a b h x f;rcases List.eq_nil_or_concat a with rfl | ⟨a0,z,rfl⟩
  ·simp at f
  ·rw [List.concat_eq_append] at f h ⊢
   refine ⟨z,by simp,?_⟩;rcases List.mem_append.1 f with E | E
   ·exact .inr (h.left.cross x E z af)
   ·simp at E;exact .inl E
 have F:∀ {a b:List Pt},gg (a++b)→∀ y∈b,∃ z∈b.head?,z=y∨z.lt y:=by
  intro a b h y o;cases b with
  | nil=>simp at o
  | cons z b0 =>
   refine ⟨z,by simp,?_⟩;rcases List.mem_cons.1 o with E | E
   ·exact .inl E.symm
   ·exact .inr (List.rel_of_pairwise_cons h.right E)
 have tr:∀ {x z H y:Pt},(x=z∨x.lt z)→z.lt H→(H=y∨H.lt y)→x.lt y:=by
  intro x z H y a b c;rcases a with rfl | a <;> rcases c with rfl | c
  ·exact b
  ·exact Pt.lt_trans b c
  ·exact Pt.lt_trans a b
  ·exact Pt.lt_trans (Pt.lt_trans a b) c
 intro x f y o;rcases List.mem_append.1 f with f | f <;> rcases List.mem_append.1 o with o | o
 ·exact O.cross x f y o
 ·obtain ⟨z,V,e⟩:=G O x f
  obtain ⟨H,I,J⟩:=F U y o;exact tr e (h1 z V H I) J
 ·obtain ⟨z,V,e⟩:=G U x f
  obtain ⟨H,I,J⟩:=F O y o;exact tr e (h2 z V H I) J
 ·exact U.cross x f y o
theorem kV {x:Pt} {r1 r2:List Pt} (h:gg (r1++r2)) (E:∀ y∈r1,y.lt x) (F:∀ y∈r2,x.lt y):gg (r1++x::r2):=by
 refine h.left.app (List.pairwise_cons.2 ⟨F,h.right⟩) ?_;intro a o b f;rcases List.mem_cons.1 f with rfl | f
 ·exact E a o
 ·exact h.cross a o b f
def nG (p a m b r:List Pt) (i:Nat):List Pt:=p++(b.take i++a.drop i)++m++(a.take i++b.drop i)++r
theorem xO (p a m b r:List Pt):nG p a m b r 0=p++a++m++b++r:=by simp [nG]
theorem xS (p a m b r:List Pt) (n:Nat) (f:a.length=n) (h:b.length=n):nG p a m b r n=p++b++m++a++r:=by
 unfold nG;rw [List.take_of_length_le om,List.drop_eq_nil_of_le om,List.take_of_length_le om,List.drop_eq_nil_of_le om];simp only [List.append_nil]
theorem yC (p a m b r:List Pt) (n i:Nat) (G:a.length=n) (J:b.length=n) (hi:i<n) :
  tI (nG p a m b r i) (p.length+i) (p.length+n+m.length+i)=nG p a m b r (i+1):=by
 have f:a.drop i=a[i]::a.drop (i+1):=List.drop_eq_getElem_cons om;have o:b.drop i=b[i]::b.drop (i+1):=List.drop_eq_getElem_cons om;have E:a.take (i+1)=a.take i++[a[i]]:=List.take_succ_eq_append_getElem om;have F:b.take (i+1)=b.take i++[b[i]]:=List.take_succ_eq_append_getElem om;have h:=vG (p++b.take i) (a.drop (i+1)++m++a.take i) (b.drop (i+1)++r) a[i] b[i];have H:(p++b.take i).length=p.length+i:=ag;have I:(a.drop (i+1)++m++a.take i).length=(n-(i+1))+m.length+i:=by simp [G];omega
 rw [H,I,show p.length+i+1+(n-(i+1)+m.length+i)=p.length+n+m.length+i by omega] at h;have s1:nG p a m b r i=p++b.take i++a[i]::(a.drop (i+1)++m++a.take i++b[i]::(b.drop (i+1)++r)):=by
  unfold nG;rw [f,o];simp only [List.append_assoc,List.cons_append,List.nil_append]
 have s2:nG p a m b r (i+1)=p++b.take i++b[i]::(a.drop (i+1)++m++a.take i++a[i]::(b.drop (i+1)++r)):=by
  unfold nG;rw [E,F];simp only [List.append_assoc,List.cons_append,List.nil_append]
 rw [s1,s2];exact h
theorem E3 {s1 s2:List Pt} {x:Pt} (h:gg (s1++s2)) (E:∀ y∈s1.getLast?,y.lt x) (G:∀ y∈s2,x.lt y):gg (s1++x::s2):=by
 refine kV h ?_ G;intro y o;rcases List.eq_nil_or_concat s1 with rfl | ⟨H,z,rfl⟩
 ·simp at o
 ·rw [List.concat_eq_append] at o h E
  have F:z.lt x:=E z af;rcases List.mem_append.1 o with f | f
  ·exact Pt.lt_trans (h.left.cross y f z af) F
  ·simp at f;rw [f];exact F
structure cg (g:Nat) (w w':World):Prop where
 os:w'.os=w.os
 tape:w'.tape=w.tape
 output:w'.output=w.output
 size:w.heap.size≤w'.heap.size
 block:∀ k,k<w.heap.size→k≠g→w'.heap[k]?=w.heap[k]?
theorem cg.refl (g:Nat) (w:World):cg g w w:=⟨rfl,rfl,rfl,Nat.le_refl _,fun _ _ _=>rfl⟩
theorem cg.trans {g:Nat} {a b c:World} (h:cg g a b) (k:cg g b c):cg g a c:=
 ⟨k.os.trans h.os,k.tape.trans h.tape,k.output.trans h.output,Nat.le_trans h.size k.size,fun i hi f=>(k.block i (Nat.lt_of_lt_of_le hi h.size) f).trans (h.block i hi f)⟩
theorem cg.drew {g:Nat} {a w:World} (h:cg g a w):cg g a w.drew:=⟨h.os,h.tape,h.output,h.size,h.block⟩
theorem cg.of {K:Nat} {a w:World} (h:Below K a w) (g:Nat) (f:a.heap.size≤K:=by exact Nat.le_refl _):cg g a w:=⟨h.os,h.tape,h.output,h.size,fun k o _=>h.block k (Nat.lt_of_lt_of_le o f)⟩
theorem ta {g:Nat} {a w:World} (h:cg g a w) (n:Nat):cg g a (w.drewN n):=h.trans (cg.of (below_drewN (Below.refl w.heap.size w) n) g)
theorem cg.setCell {g:Nat} {a w:World} (h:cg g a w) {o:Nat} {b} (E:g≤g) (u:Value):cg g a (w.setCell ⟨g,o,b⟩ u):=
 h.trans ⟨rfl,rfl,rfl,by simp [World.setCell],fun k _ f=>Below.heap_setCell _ _ _ _ f⟩
theorem cg.below {g K:Nat} {a w:World} (h:cg g a w) (E:K≤g) (f:K≤a.heap.size):Below K a w:=⟨h.os,h.tape,h.output,h.size,fun k o=>h.block k (Nat.lt_of_lt_of_le o f) om⟩
def xC (p:Pt):List Value:=[.int .i64 p.pos,.int .i64 p.ab]
def aG (w:World) (g:Nat) (D:List Pt):Prop:=w.heap[g]?=some (.cells (D.flatMap xC).toArray 248 (0,0))
theorem aG.lt {w:World} {g:Nat} {D:List Pt} (h:aG w g D):g<w.heap.size:=(Array.getElem?_eq_some_iff.1 h).1
theorem EY (D:List Pt) (i:Nat) (p:Pt) (h:D[i]?=some p):(D.flatMap xC)[i*2]?=some (.int .i64 p.pos)∧(D.flatMap xC)[i*2+1]?=some (.int .i64 p.ab):=by
 induction D generalizing i with
 | nil=>simp at h
 | cons x l f =>
  cases i with
  | zero=>simp at h;subst h;simp [xC]
  | succ i =>
   have:=f i (by simpa using h);rw [show (i+1)*2=i*2+1+1 by omega];simpa [xC] using this
theorem DK (D:List Pt) (i:Nat) (p:Pt) (h:i<D.length):((D.flatMap xC).set (i*2) (.int .i64 p.pos)).set (i*2+1) (.int .i64 p.ab)=(D.set i p).flatMap xC:=by
 induction D generalizing i with
 | nil=>simp at h
 | cons x l f =>
  cases i with
  | zero=>simp [xC]
  | succ i =>
   have:=f i (by simpa using h);rw [show (i+1)*2=i*2+1+1 by omega];simpa [xC] using this
theorem aG.cell {w:World} {g:Nat} {D:List Pt} (h:aG w g D) {i:Nat} {p:Pt} (hi:D[i]?=some p):w.cell? ⟨g,i*2,none⟩=some (.int .i64 p.pos)∧w.cell? ⟨g,i*2+1,none⟩=some (.int .i64 p.ab):=by
 have:=EY D i p hi;simp [World.cell?,show w.heap[g]?=_ from h,this]
theorem aG.frozen {w:World} {g:Nat} {D:List Pt} (h:aG w g D) (k:Nat):w.frozen? ⟨g,k,none⟩=false:=by simp [World.frozen?,show w.heap[g]?=_ from h]
theorem aG.below {w w':World} {K g:Nat} {D:List Pt} (h:aG w g D) (f:Below K w w') (o:g<K):aG w' g D:=(f.block g o).trans h
theorem aG.call {w w':World} {g:Nat} {D:List Pt} (h:aG w g D) (f:Below w w w'):aG w' g D:=h.below f h.lt
theorem aG.drew {w:World} {g:Nat} {D:List Pt} (h:aG w g D):aG w.drew g D:=h
theorem aG.put {w:World} {g:Nat} {D:List Pt} (h:aG w g D) (i:Nat) (p:Pt) (hi:i<D.length):aG ((w.setCell ⟨g,i*2,none⟩ (.int .i64 p.pos)).setCell ⟨g,i*2+1,none⟩ (.int .i64 p.ab)) g (D.set i p):=by
 unfold aG at h ⊢;rw [← DK D i p hi];simp [World.setCell,Array.getElem?_modify,h]
theorem Cm (g cap L:Nat) (p a m b r:List Pt) (n:Nat) (fv:Value) (w:World) (J:a.length=n) (O:b.length=n) (hD:aG w g (p++a++m++b++r)) (hL:(p++a++m++b++r).length=L) (hl:L≤1000000) :
  Calls Tryz.prog 279 #[.slice (some ⟨g,0,none⟩) L cap,.int .i64 (p.length:Int),.int .i64 ((p.length+n+m.length:Nat):Int),.int .i64 (n:Int),fv] w fun e w'=>e=.returned (.tuple #[])∧aG w' g (p++b++m++a++r)∧cg g w w':=by
 have o:=hide (fun i (hi:i<n)=>yC p a m b r n i J O hi);have W:=hide (xS p a m b r n J O);have ad:=hide (And.intro J O);have H:p.length+n+m.length+n+r.length=L:=by rw [← hL];simp;omega
 have aa:=hide (fun i=>(show i≤n→(nG p a m b r i).length=L from fun hi=>by rw [← hL];simp [nG];omega));have Y:=hide (fun i (hi:i<n)=>(show (nG p a m b r i)[p.length+i]?=some (a[i]?.getD default)∧(nG p a m b r i)[p.length+n+m.length+i]?=some (b[i]?.getD default) from by
  have ea:a[i]?=some a[i]:=List.getElem?_eq_getElem om;have eb:b[i]?=some b[i]:=List.getElem?_eq_getElem om;have G:a.drop i=a[i]::a.drop (i+1):=List.drop_eq_getElem_cons om;have E:b.drop i=b[i]::b.drop (i+1):=List.drop_eq_getElem_cons om;have s1:nG p a m b r i=(p++b.take i)++a[i]::(a.drop (i+1)++m++a.take i++b[i]::(b.drop (i+1)++r)):=by
   unfold nG;rw [G,E];simp only [List.append_assoc,List.cons_append]
  have s2:nG p a m b r i=(p++b.take i++a.drop i++m++a.take i)++b[i]::(b.drop (i+1)++r):=by
   unfold nG;rw [E];simp only [List.append_assoc,List.cons_append]
  constructor
  ·rw [s1,List.getElem?_append_right ag,ea]
   have:p.length+i-(p++b.take i).length=0:=ag;rw [this];simp
  ·rw [s2,List.getElem?_append_right ag,eb]
   have:p.length+n+m.length+i-(p++b.take i++a.drop i++m++a.take i).length=0:=ag;rw [this];simp))
 have H0:=hide (show aG w g (nG p a m b r 0) by rw [xO];exact hD);have ao:=hD.lt;obtain ⟨A,hA⟩:∃ A,p.length=A:=⟨_,rfl⟩;rw [hA] at H o Y;rw [hA];obtain ⟨B,F⟩:∃ B,A+n+m.length=B:=⟨_,rfl⟩;rw [F] at o Y ⊢;have al:B+n≤L:=om;have ah:A+n≤B:=om;clear hD hL J O hA F H;go_enter Tryz.func279,Tryz.ntmps279;go_wp2_with fail;go_loopw [10] (fun s wr=>∃ i:Nat,s=.int .i64 i∧i≤n∧aG wr g (nG p a m b r i)∧cg g w wr) (fun s _=>(n-intOf s).toNat)
 case atStart=>exact ⟨0,rfl,Nat.zero_le _,H0.out,cg.refl _ _⟩
 case round =>
  obtain ⟨i,rfl,hi,f,F⟩:=hrel;by_cases I:i<n
  ·obtain ⟨G,E⟩:=Y.out i I
   obtain ⟨x,hx⟩:∃ x,a[i]?.getD default=x:=⟨_,rfl⟩;obtain ⟨y,hy⟩:∃ y,b[i]?.getD default=y:=⟨_,rfl⟩;rw [hx] at G;rw [hy] at E;obtain ⟨c1,c2⟩:=f.cell G;obtain ⟨c3,c4⟩:=f.cell E;have f1:=f.frozen ((A+i)*2);have f2:=f.frozen ((A+i)*2+1);have f3:=f.frozen ((B+i)*2);have f4:=f.frozen ((B+i)*2+1);have aq:=f.lt;have HP:=hide f;have U:=hide F;have HE:=hide (And.intro G E);have s1:(0:Int)≤(A:Int)+(i:Int):=om;have s2:((A:Int)+(i:Int)).toNat=A+i:=om;have s3:(A:Int)+(i:Int)<(L:Int):=om;have s4:(0:Int)≤(B:Int)+(i:Int):=om;have s5:((B:Int)+(i:Int)).toNat=B+i:=om;have s6:(B:Int)+(i:Int)<(L:Int):=om;have s7:IntKind.i64.wrap ((A:Int)+(i:Int))=(A:Int)+(i:Int):=by simp [IntKind.wrap,IntKind.bits,IntKind.signed];omega
   have s8:IntKind.i64.wrap ((B:Int)+(i:Int))=(B:Int)+(i:Int):=by simp [IntKind.wrap,IntKind.bits,IntKind.signed];omega
   clear f F G E;have HN:=hide (show aG ((((wr.setCell ⟨g,(A+i)*2,none⟩ (.int .i64 y.pos)).setCell ⟨g,(A+i)*2+1,none⟩ (.int .i64 y.ab)).setCell ⟨g,(B+i)*2,none⟩ (.int .i64 x.pos)).setCell ⟨g,(B+i)*2+1,none⟩ (.int .i64 x.ab)).drew g (nG p a m b r (i+1)) from by
    have ac:=aa.out i hi;have h:=((HP.out.put (A+i) y om).put (B+i) x ag).drew;have e:=o.out i I;unfold tI at e;rw [HE.out.1,HE.out.2] at e;simp only [Option.getD_some] at e;rw [e] at h;exact h)
   have V:=hide (show cg g w ((((wr.setCell ⟨g,(A+i)*2,none⟩ (.int .i64 y.pos)).setCell ⟨g,(A+i)*2+1,none⟩ (.int .i64 y.ab)).setCell ⟨g,(B+i)*2,none⟩ (.int .i64 x.pos)).setCell ⟨g,(B+i)*2+1,none⟩ (.int .i64 x.ab)).drew from ((((U.out.setCell (Nat.le_refl _) _).setCell (Nat.le_refl _) _).setCell (Nat.le_refl _) _).setCell (Nat.le_refl _) _).drew);go_wp2_with fail;go_region
   all_goals
    go_simp;go_wp2;go_roundw
    case rel=>exact ⟨i+1,by go_num,by omega,HN.out,V.out⟩
    case measure=>simp [intOf];omega
  ·obtain rfl:i=n:=om
   have HP:=hide (show aG wr g (p++b++m++a++r) by rw [← W.out];exact f);have U:=hide F;clear f F;go_wp2
   all_goals first
    | (exfalso;omega)
    | (go_end0;exact ⟨rfl,HP.out,U.out⟩)
theorem sE (g cap L:Nat) (p a m b r:List Pt) (n:Nat) (u v k:Int) (D:List Pt) (h:Value) (w:World) (F:a.length=n) (G:b.length=n) (J:u=(p.length:Int)) (O:v=(p.length:Int)+n+m.length) (H:k=n)
  (f:D=p++a++m++b++r) (o:aG w g D) (E:D.length=L) (I:L≤1000000) :
  Calls Tryz.prog 279 #[.slice (some ⟨g,0,none⟩) L cap,u,v,k,h] w fun e w'=>e=.returned (.tuple #[])∧aG w' g (p++b++m++a++r)∧cg g w w':=by
 subst f J H;have e:v=((p.length+n+m.length:Nat):Int):=om;subst e;exact Cm g cap L p a m b r n h w F G o E I
def tW (g:Nat) (p a b r:List Pt) (M:Nat) (f w:World) (i j:Nat):Prop:=
 ∃ X A B Y:List Pt,A.length=i∧B.length=j∧p.length+X.length+i=M∧X++B++A++Y=b++a∧aG w g (p++X++A++B++Y++r)∧cg g f w
theorem Cs (g cap L:Nat) (p a b r:List Pt) (u v z:Int) (D:List Pt) (fv:Value) (w:World) (ha:0<a.length) (hb:0<b.length) (hu:u=(p.length:Int)) (hv:v=(p.length:Int)+a.length) (hz:z=(p.length:Int)+a.length+b.length)
  (al:D=p++a++b++r) (hD:aG w g D) (hL:D.length=L) (hl:L≤1000000) :
  Calls Tryz.prog 263 #[.slice (some ⟨g,0,none⟩) L cap,u,v,z,fv] w fun e w'=>e=.returned (.tuple #[])∧aG w' g (p++b++a++r)∧cg g w w':=by
 subst al;have V:p.length+a.length+b.length+r.length=L:=by rw [← hL];simp;omega
 obtain ⟨M,hM⟩:∃ M,p.length+a.length=M:=⟨_,rfl⟩;obtain ⟨na,H⟩:∃ n,a.length=n:=⟨_,rfl⟩;obtain ⟨nb,I⟩:∃ n,b.length=n:=⟨_,rfl⟩;obtain ⟨P,hP⟩:∃ n,p.length=n:=⟨_,rfl⟩;have H0:=hide (show tW g p a b r M w w na nb from ⟨[],a,b,[],H,I,by simp;omega,by simp,by simpa using hD,cg.refl _ _⟩);rw [H] at ha hv hz V hM;rw [I] at hb hz V;rw [hP] at hu hv hz V hM;have hg:=hD.lt;have W:=hide (And.intro H (And.intro I hP));subst hu hv hz;clear hD hL H I hP;go_enter Tryz.func263,Tryz.ntmps263;go_wp2_with fail;go_loopw [10,11] (fun aA aB wr=>∃ i j:Nat,aA=.int .i64 i∧aB=.int .i64 j∧(0<i∧0<j∧i+j≤L)∧tW g p a b r M w wr i j) (fun s t _=>(intOf s+intOf t).toNat)
 case atStart=>exact ⟨na,nb,by congr 1;omega,by congr 1;omega,⟨ha,hb,by omega⟩,H0.out⟩
 case round =>
  obtain ⟨i,j,rfl,rfl,⟨a1,a3,a2⟩,X,A,B,Y,hA,hB,hX,U,ab,J⟩:=hrel;have f:=hide (And.intro (And.intro hA hB) (And.intro U (And.intro ab J)));have O:(p++X++A++B++Y++r).length=L:=by
   have h1:=congrArg List.length U;have h2:=W.out;simp only [List.length_append] at h1 ⊢;omega
  have G:=hide O;have HX:=hide hX;have aa:=W.out.2.2;have ao:P+X.length+i=M:=by rw [← aa];exact hX
  have F:=hide (show (p++X).length=P+X.length by simp;omega);obtain ⟨x,hx⟩:∃ x,X.length=x:=⟨_,rfl⟩;rw [hx] at ao F;clear hA hB hX U ab J O aa hx;have a0:(M:Int)=(P:Int)+(na:Int):=om;rcases (show i=j∨j<i∨i<j by omega) with hc | hc | hc
  ·subst hc
   have ac:((i:Int) != (i:Int))=false:=af;go_wp2_with fail
   all_goals first
    | (exfalso;omega)
    | skip
   refine (sE g cap L (p++X) A [] B (Y++r) i _ _ _ (p++X++A++B++Y++r) fv _ f.out.1.1 f.out.1.2 (by rw [F.out];omega) (by rw [F.out];simp;omega) rfl af f.out.2.2.1 G.out hl).mono ?_;rintro e w2 ⟨rfl,E,o⟩;have HF:=hide (show aG w2 g (p++b++a++r) from by
    have h:=f.out.2.1;rw [show p++b++a++r=p++(b++a)++r by simp,← h];simpa using E)
   have ad:=hide (f.out.2.2.2.trans o);clear E o;go_wp2
   all_goals first
    | (exfalso;omega)
    | (go_end0;exact ⟨rfl,HF.out,ad.out⟩)
  ·have ac:((i:Int) != (j:Int))=true:=ag
   have aq:(j:Int)<(i:Int):=om;have ah:A=A.take j++A.drop j:=(List.take_append_drop j A).symm;go_wp2_with fail
   all_goals first
    | (exfalso;omega)
    | skip
   refine (sE g cap L (p++X) (A.take j) (A.drop j) B (Y++r) j _ _ _ (p++X++A++B++Y++r) fv _ (by have:=f.out.1.1;simp;omega) f.out.1.2 (by rw [F.out];omega) (by rw [F.out];have:=f.out.1.1;simp;omega) rfl (by rw [show p++X++A.take j++A.drop j++B++(Y++r)=p++X++(A.take j++A.drop j)++B++Y++r by simp,List.take_append_drop]) f.out.2.2.1 G.out hl).mono ?_;rintro e w2 ⟨rfl,E,o⟩;have HR:=hide (show tW g p a b r M w w2 (i-j) j from ⟨X++B,A.drop j,A.take j,Y,by have:=f.out.1.1;simp;omega,by have:=f.out.1.1;simp;omega,by have h1:=HX.out;have h2:=f.out.1.2;simp;omega,by
    have h:=f.out.2.1;rw [← h,show X++B++A++Y=X++B++(A.take j++A.drop j)++Y by rw [List.take_append_drop]];simp,by simpa using E,f.out.2.2.2.trans o⟩)
   clear E o ah;go_wp2;go_roundw
   case rel=>exact ⟨i-j,j,by congr 1;omega,rfl,⟨by omega,by omega,by omega⟩,HR.out⟩
   case measure=>simp [intOf];omega
  ·have ac:((i:Int) != (j:Int))=true:=ag
   have aq:(i:Int)≤(j:Int):=om;go_wp2_with fail
   all_goals first
    | (exfalso;omega)
    | skip
   refine (sE g cap L (p++X) A (B.take (j-i)) (B.drop (j-i)) (Y++r) i _ _ _ (p++X++A++B++Y++r) fv _ f.out.1.1 (by have:=f.out.1.2;simp;omega) (by rw [F.out];omega) (by rw [F.out];have:=f.out.1.2;simp;omega) rfl (by rw [show p++X++A++B.take (j-i)++B.drop (j-i)++(Y++r)=p++X++A++(B.take (j-i)++B.drop (j-i))++Y++r by simp,List.take_append_drop]) f.out.2.2.1 G.out hl).mono ?_;rintro e w2 ⟨rfl,E,o⟩;have HR:=hide (show tW g p a b r M w w2 i (j-i) from ⟨X,B.drop (j-i),B.take (j-i),A++Y,by have:=f.out.1.2;simp;omega,by have:=f.out.1.2;simp;omega,by have h1:=HX.out;omega,by
    have h:=f.out.2.1;rw [← h,show X++B++A++Y=X++(B.take (j-i)++B.drop (j-i))++A++Y by rw [List.take_append_drop]];simp,by simpa using E,f.out.2.2.2.trans o⟩)
   clear E o;go_wp2;go_roundw
   case rel=>exact ⟨i,j-i,rfl,by congr 1;omega,⟨by omega,by omega,by omega⟩,HR.out⟩
   case measure=>simp [intOf];omega
def qG (x y:Pt):Int:=if y.ab<x.ab then -1 else if x.ab<y.ab then 1 else 0
theorem eT (x y:Pt):qG x y<0↔y.ab<x.ab:=by unfold qG;split <;> (try split) <;> omega
theorem jm (a:Int) (w:World):Calls Tryz.prog 190 #[a] w fun e w'=>e=.returned (.bool false)∧w=w':=by
 go_enter Tryz.func190,Tryz.ntmps190;go_wp2;go_ret;exact ⟨bA af,rfl⟩
theorem qc (a b:Int) (w:World):Calls Tryz.prog 135 #[a,b] w fun e w'=>e=.returned (.int .i64 (if a<b then -1 else if b<a then 1 else 0))∧w=w':=by
 rcases (show a<b∨(b≤a∧b<a)∨(a=b) by omega) with h | ⟨E,h⟩ | h
 ·have o:=hide (show (if a<b then (-1:Int) else if b<a then 1 else 0)=-1 by rw [if_pos h])
  go_enter Tryz.func135,Tryz.ntmps135;go_wp2_with fail;refine (jm a _).mono ?_;rintro e f ⟨rfl,rfl⟩;go_wp2_with fail;refine (jm b _).mono ?_;rintro e f ⟨rfl,rfl⟩;go_wp2
  all_goals first
   | (exfalso;omega)
   | (go_ret;exact ⟨rfl,rfl⟩)
 ·have o:=hide (show (if a<b then (-1:Int) else if b<a then 1 else 0)=1 by rw [if_neg om,if_pos h])
  go_enter Tryz.func135,Tryz.ntmps135;go_wp2_with fail;refine (jm a _).mono ?_;rintro e f ⟨rfl,rfl⟩;go_wp2_with fail;refine (jm b _).mono ?_;rintro e f ⟨rfl,rfl⟩;go_wp2
  all_goals first
   | (exfalso;omega)
   | (go_ret;exact ⟨rfl,rfl⟩)
 ·subst h
  have o:=hide (show (if a<a then (-1:Int) else if a<a then 1 else 0)=0 by simp);go_enter Tryz.func135,Tryz.ntmps135;go_wp2_with fail;refine (jm a _).mono ?_;rintro e f ⟨rfl,rfl⟩;go_wp2_with fail;refine (jm a _).mono ?_;rintro e f ⟨rfl,rfl⟩;go_wp2
  all_goals first
   | (exfalso;omega)
   | (go_ret;exact ⟨rfl,rfl⟩)
theorem mi (x y:Pt) (w:World):Calls Tryz.prog 134 #[.agg #[x.pos,x.ab],.agg #[y.pos,y.ab]] w fun e w'=>e=.returned (.int .i64 (qG x y))∧Below w w w':=by
 have h:=hide (show (if y.ab<x.ab then (-1:Int) else if x.ab<y.ab then 1 else 0)=qG x y from rfl);obtain ⟨C,f⟩:∃ C,(if y.ab<x.ab then (-1:Int) else if x.ab<y.ab then 1 else 0)=C:=⟨_,rfl⟩;have o:=hide f;rw [f] at h;clear f;go_enter Tryz.func134,Tryz.ntmps134;go_wp2_with fail;refine (qc y.ab x.ab _).mono ?_;rintro e E ⟨rfl,rfl⟩;rw [o.out];go_wp2;go_ret;exact ⟨bD h.out,by (repeat' exact bel)⟩
end
section
open Go.RowKit Go.Sort
abbrev pY:Value:=.func (.func 134) #[] #[]
def jD (l:List Pt):Prop:=l.Pairwise fun x y=>x.pos<y.pos
theorem jD.ahead {a b:List Pt} (h:jD (a++b)):iy a b:=(List.pairwise_append.1 h).2.2
theorem jD.left {a b:List Pt} (h:jD (a++b)):jD a:=(List.pairwise_append.1 h).1
theorem jD.right {a b:List Pt} (h:jD (a++b)):jD b:=(List.pairwise_append.1 h).2.1
theorem mq (p q:List Pt) (x:Pt):(p++x::q)[p.length]?=some x:=af
theorem aG.down {w:World} {g:Nat} {p s1 s2 r:List Pt} {x y:Pt} {D:List Pt} (h:aG w g D) (E:D=p++(s1++[y])++[x]++s2++r) (k:Nat) (F:k=p.length+s1.length) :
  aG ((((w.setCell ⟨g,(k+1)*2,none⟩ (.int .i64 y.pos)).setCell ⟨g,(k+1)*2+1,none⟩ (.int .i64 y.ab)).setCell ⟨g,k*2,none⟩ (.int .i64 x.pos)).setCell ⟨g,k*2+1,none⟩ (.int .i64 x.ab)) g (p++s1++[x]++(y::s2)++r):=by
 subst E F;have G:(p++(s1++[y])++[x]++s2++r).length=p.length+s1.length+2+s2.length+r.length:=by simp only [List.length_append,List.length_cons,List.length_nil];omega
 have o:=(h.put (p.length+s1.length+1) y om).put (p.length+s1.length) x (by rw [List.length_set];omega);have e:((p++(s1++[y])++[x]++s2++r).set (p.length+s1.length+1) y).set (p.length+s1.length) x=p++s1++[x]++(y::s2)++r:=by
  rw [show p++(s1++[y])++[x]++s2++r=(p++s1)++y::x::(s2++r) by simp];have f:(p++s1).length=p.length+s1.length:=af;rw [← f,List.set_append_right _ _ om,show (p++s1).length+1-(p++s1).length=1 by omega,List.set_append_right _ _ (Nat.le_refl _),Nat.sub_self];simp
 rw [e] at o;exact o
def qN (g:Nat) (p s r:List Pt) (f w:World) (i:Nat):Prop:=∃ s1,gF (s.take i) s1∧aG w g (p++s1++s.drop i++r)∧cg g f w
def yw (g:Nat) (p s1 q:List Pt) (x:Pt) (o w:World) (k:Nat):Prop:=∃ f h,f.length=k∧f++h=s1∧(∀ y∈h,x.lt y)∧aG w g (p++f++[x]++h++q)∧cg g o w
theorem uj (g cap L:Nat) (p s r:List Pt) (u v:Int) (D:List Pt) (w:World) (hs:jD s) (hu:u=(p.length:Int)) (hv:v=(p.length:Int)+s.length) (bk:D=p++s++r) (hD:aG w g D) (hL:D.length=L) (hl:L≤1000000) :
    Calls Tryz.prog 231 #[.slice (some ⟨g,0,none⟩) L cap,u,v,pY] w fun e w'=>e=.returned (.tuple #[])∧(∃ s',gF s s'∧aG w' g (p++s'++r))∧cg g w w':=by
  subst bk;have a2:p.length+s.length+r.length=L:=by rw [← hL];simp;omega
  obtain ⟨P,hP⟩:∃ n,p.length=n:=⟨_,rfl⟩;obtain ⟨n,hn⟩:∃ n,s.length=n:=⟨_,rfl⟩;have H0:=hide (show qN g p s r w w 1 from ⟨s.take 1,⟨List.Perm.refl _,by
    cases s with
    | nil=>simp [gg]
    | cons x l=>simp [gg]⟩,by rw [show p++s.take 1++s.drop 1++r=p++(s.take 1++s.drop 1)++r by simp,List.take_append_drop];exact hD,cg.refl _ _⟩)
  rw [hP] at hu hv a2;rw [hn] at hv a2;have o:=hide (And.intro hP hn);have HS:=hide hs;have hg:=hD.lt;subst hu hv;clear hD hL hP hn hs;go_enter Tryz.func231,Tryz.ntmps231;go_wp2_with fail;go_loopw [8] (fun s8 wr=>∃ i:Nat,s8=.int .i64 ((P:Int)+(i:Int))∧1≤i∧(i≤n∨(n=0∧i=1))∧qN g p s r w wr i) (fun s8 _=>(P+n+5-intOf s8).toNat)
  case atStart=>exact ⟨1,by first | rfl | (congr 1;omega),by omega,by omega,H0.out⟩
  case round =>
    obtain ⟨i,rfl,b1,b2,s1,Y,f,W⟩:=hrel;have O:=hide (And.intro Y (And.intro f W));clear Y f W;by_cases bl:i<n
    · have V:i<s.length:=by rw [o.out.2];exact bl
      obtain ⟨x,hx⟩:∃ x,s[i]?=some x:=⟨_,List.getElem?_eq_getElem V⟩;have aq:s.drop i=x::s.drop (i+1):=by rw [List.drop_eq_getElem_cons V];congr 1;exact Option.some.inj ((List.getElem?_eq_getElem V).symm.trans hx)
      have a7:s.take (i+1)=s.take i++[x]:=by rw [List.take_add_one,hx];rfl
      have ac:s1.length=i:=by rw [O.out.1.1.length_eq];simp;omega
      have bb:=hide (show ∀ y∈s1,y.pos<x.pos from fun y hy=>by
        have bt:y∈s.take i:=O.out.1.1.mem_iff.1 hy;have h:jD (s.take i++s.drop i):=by rw [List.take_append_drop];exact HS.out
        exact h.ahead y bt x (by rw [aq];simp))
      have HN:=hide (show yw g p s1 (s.drop (i+1)++r) x w wr i from ⟨s1,[],ac,by simp,by simp,by have h:=O.out.2.1;rw [aq] at h;simpa using h,O.out.2.2⟩);have a1:=hide a7;have I:=hide O.out.1;have bw:=hide (show (s.drop (i+1)).length=n-(i+1) by simp;have:=o.out.2;omega);clear hx aq a7 ac V;obtain ⟨wo,a8⟩:∃ wo:World,wo=wr:=⟨_,rfl⟩;rw [← a8] at HN O ⊢;clear a8;go_wp2_with fail;go_loopw [9] (fun s9 wr=>∃ k:Nat,s9=.int .i64 ((P:Int)+(k:Int))∧k≤i∧yw g p s1 (s.drop (i+1)++r) x w wr k) (fun s9 _=>(intOf s9-P+1).toNat)
      case atStart=>exact ⟨i,rfl,Nat.le_refl _,HN.out⟩
      case round =>
        obtain ⟨k,rfl,b3,S1,J,U,E,ao,f,hB⟩:=hrel;have H:=hide (And.intro E (And.intro ao (And.intro f hB)));have b0:=f.lt;have bx:S1.length+J.length=i:=by rw [← List.length_append,E];rw [I.out.1.length_eq];simp;have:=o.out.2;omega
        rcases List.eq_nil_or_concat S1 with a6 | ⟨G,y,a3⟩
        · subst a6
          obtain rfl:k=0:=by simpa using U.symm
          have ad:=hide (show qN g p s r w wr (i+1) from ⟨x::J,⟨by
            have h1:=H.out.1;simp only [List.nil_append] at h1;rw [a1.out,h1];exact (List.Perm.cons x I.out.1).trans (List.perm_append_comm (l₁:=[x]) (l₂:=s.take i)),by
            have h1:=H.out.1;simp only [List.nil_append] at h1;exact List.pairwise_cons.2 ⟨H.out.2.1,by rw [h1];exact I.out.2⟩⟩,by simpa using H.out.2.2.1,H.out.2.2.2⟩)
          clear E ao f hB U;have a4:decide ((P:Int)<(P:Int)+((0:Nat):Int))=false:=af;go_wp2_with fail;go_quiet (fail);have HW:=hide (show qN g p s r w (wr.drewN nq) (i+1) by
            obtain ⟨s2,k1,k2,k3⟩:=ad.out;exact ⟨s2,k1,k2,ta k3 nq⟩)
          go_wp2;go_roundw
          case rel=>exact ⟨i+1,by go_num,by omega,by omega,HW.out⟩
          case measure=>simp [intOf];omega
        · rw [List.concat_eq_append] at a3
          subst a3;have a5:G.length+1=k:=by simpa using U
          obtain ⟨z,rfl⟩:∃ z,k=z+1:=⟨G.length,a5.symm⟩;have hz:G.length=z:=om;have ba:=bb.out y (by rw [← E];simp);have a9:x.pos≠y.pos:=om;have HK:=hide (And.intro ba a9);have ah:(p++(G++[y])++[x]++J++(s.drop (i+1)++r))[P+z]?=some y:=by
            have h:=mq (p++G) ([x]++J++(s.drop (i+1)++r)) y;rw [show (p++G).length=P+z by simp [o.out.1,hz]] at h;simpa using h
          have al:(p++(G++[y])++[x]++J++(s.drop (i+1)++r))[P+z+1]?=some x:=by
            have h:=mq (p++G++[y]) (J++(s.drop (i+1)++r)) x;rw [show (p++G++[y]).length=P+z+1 by simp [o.out.1,hz];omega] at h;simpa using h
          obtain ⟨q,hq⟩:∃ q,P+z=q:=⟨_,rfl⟩;rw [hq] at ah al;have hj:(P:Int)+((z+1:Nat):Int)=(q:Int)+1:=om;obtain ⟨c1,c2⟩:=f.cell ah;obtain ⟨c3,c4⟩:=f.cell al;have k1:=cell_regrown c1;have k2:=cell_regrown c2;have k3:=cell_regrown c3;have k4:=cell_regrown c4;have f1:=f.frozen (q*2);have f2:=f.frozen (q*2+1);have f3:=f.frozen ((q+1)*2);have f4:=f.frozen ((q+1)*2+1);have HZ:=hide (And.intro hz hq);have q1:(0:Int)≤(q:Int)+1:=om;have q2:((q:Int)+1).toNat=q+1:=om;have q3:(q:Int)+1<(L:Int):=om;have q4:(0:Int)≤(q:Int):=om;have q6:(q:Int)<(L:Int):=om;have q7:IntKind.i64.wrap (q:Int)=(q:Int):=by simp [IntKind.wrap,IntKind.bits,IntKind.signed];omega
          have q8:IntKind.i64.wrap ((q:Int)+1-1)=(q:Int):=by simp [IntKind.wrap,IntKind.bits,IntKind.signed];omega
          have q9:(q:Int)+1-1=(q:Int):=om;have a4:decide ((P:Int)<(q:Int)+1)=true:=ag;rw [hj];clear E ao f hB U a5 hz ah al ba a9 hq hj;go_wp2_with fail;refine wp_region_quiet_below (by kernel_rfl) (by kernel_rfl) ?_
          repeat (go_big_quiet_step (first | exact Calls.regrown_of (mi x y _) | fail))
          refine wpQuiet_nil ?_;intro _ bp;obtain ⟨⟨dq,osq⟩,bs⟩:=bp;subst bs;obtain ⟨wq,aA⟩:∃ wq,grow (redrawn wr dq) osq=wq:=⟨_,rfl⟩;have a0:=hide (show Below wr wr wq by rw [← aA];exact below_regrown wr dq osq);have F:=hide (H.out.2.2.1.call a0.out);have aB:=hide (H.out.2.2.2.trans (cg.of a0.out g));have d1:=k1 dq osq;have d2:=k2 dq osq;have d3:=k3 dq osq;have d4:=k4 dq osq;rw [aA] at d1 d2 d3 d4 ⊢;have f1:=F.out.frozen (q*2);have f2:=F.out.frozen (q*2+1);have f3:=F.out.frozen ((q+1)*2);have f4:=F.out.frozen ((q+1)*2+1);have bX:=F.out.lt;clear k1 k2 k3 k4 c1 c2 c3 c4 aA;by_cases aa:qG x y<0
          · have HL:=hide ((Pt.lt_iff HK.out.1).2 ((eT x y).1 aa))
            have bc:=hide (show yw g p s1 (s.drop (i+1)++r) x w (((((wq.setCell ⟨g,(q+1)*2,none⟩ (.int .i64 y.pos)).setCell ⟨g,(q+1)*2+1,none⟩ (.int .i64 y.ab)).setCell ⟨g,q*2,none⟩ (.int .i64 x.pos)).setCell ⟨g,q*2+1,none⟩ (.int .i64 x.ab)).drew) z from
              ⟨G,y::J,HZ.out.1,by simpa using H.out.1,fun a ha=>by
                rcases List.mem_cons.1 ha with rfl | ha
                · exact HL.out
                · exact H.out.2.1 a ha,by
                have h:=F.out.down (D:=p++(G++[y])++[x]++J++(s.drop (i+1)++r)) rfl q (by have:=HZ.out;have:=o.out.1;omega);exact h.drew,((((aB.out.setCell (Nat.le_refl _) _).setCell (Nat.le_refl _) _).setCell (Nat.le_refl _) _).setCell (Nat.le_refl _) _).drew⟩)
            go_wp2_with fail;go_region
            all_goals
              go_simp;go_wp2;go_roundw
              case rel=>exact ⟨z,by have:=HZ.out.2;congr 1;omega,by omega,bc.out⟩
              case measure=>have b4:=HZ.out.2;simp [intOf];omega
          · have bh:=hide (show ¬ x.lt y from fun h=>aa ((eT x y).2 ((Pt.lt_iff HK.out.1).1 h)))
            have ad:=hide (show qN g p s r w wq (i+1) from ⟨G++[y]++x::J,⟨by
              have h1:=H.out.1;rw [a1.out];refine List.Perm.trans ?_ (List.Perm.append_right [x] I.out.1);rw [← h1];simp only [List.append_assoc];refine List.Perm.append_left G ?_;refine List.Perm.append_left [y] ?_;exact List.perm_append_comm (l₁:=[x]) (l₂:=J),E3 (by rw [H.out.1];exact I.out.2) (fun a ha=>by
                have:a=y:=by simpa using ha.symm
                subst this;exact Pt.not_lt (fun e=>HK.out.2 e) bh.out) H.out.2.1⟩,by simpa using F.out,aB.out⟩)
            go_wp2;go_roundw
            case rel=>exact ⟨i+1,by go_num,by omega,by omega,ad.out⟩
            case measure=>simp [intOf];omega
    · have HF := hide (show ∃ s', gF s s' ∧ aG wr g (p ++ s' ++ r) from ⟨s1, by
        have h:=O.out.1
        rwa [List.take_of_length_le (by have:=o.out.2;omega)] at h,by
        have h:=O.out.2.1;rw [List.drop_eq_nil_of_le (by have:=o.out.2;omega)] at h;simpa using h⟩)
      have bd:=hide O.out.2.2;go_wp2
      all_goals first
        | (exfalso;omega)
        | (go_end0;exact ⟨rfl,HF.out,bd.out⟩)
def vJ (g:Nat) (p B r:List Pt) (x:Pt) (f w:World) (i j:Nat):Prop:=(∀ k y,B[k]?=some y→k<i→y.lt x)∧(∀ k y,B[k]?=some y→j≤k→¬ y.lt x)∧aG w g (p++x::B++r)∧cg g f w
def Ad (g:Nat) (p B r:List Pt) (x:Pt) (f w:World) (k:Nat):Prop:=aG w g (p++B.take k++[x]++B.drop k++r)∧cg g f w
theorem Ad.step {g:Nat} {p B r:List Pt} {x y:Pt} {I w:World} {k:Nat} (h:Ad g p B r x I w k) (E:B[k]?=some y) (q:Nat) (O:q=p.length+k) (V:g<w.heap.size) :
  Ad g p B r x I ((((w.setCell ⟨g,q*2,none⟩ (.int .i64 y.pos)).setCell ⟨g,q*2+1,none⟩ (.int .i64 y.ab)).setCell ⟨g,(q+1)*2,none⟩ (.int .i64 x.pos)).setCell ⟨g,(q+1)*2+1,none⟩ (.int .i64 x.ab)) (k+1):=by
 have H:k<B.length:=(List.getElem?_eq_some_iff.1 E).1;have J:B.drop k=y::B.drop (k+1):=by rw [List.drop_eq_getElem_cons H];congr 1;exact Option.some.inj ((List.getElem?_eq_getElem H).symm.trans E)
 have U:B.take (k+1)=B.take k++[y]:=by rw [List.take_add_one,E];rfl
 have f:(B.take k).length=k:=ag;refine ⟨?_,(((h.2.setCell (Nat.le_refl _) _).setCell (Nat.le_refl _) _).setCell (Nat.le_refl _) _).setCell (Nat.le_refl _) _⟩;have F:=h.1;rw [J] at F;have o:(p++B.take k).length=q:=by rw [List.length_append,f,O]
 have G:=(F.put q y (by simp only [List.length_append,List.length_cons,List.length_nil,f];omega)).put (q+1) x (by simp only [List.length_set,List.length_append,List.length_cons,List.length_nil,f];omega);have e:((p++B.take k++[x]++(y::B.drop (k+1))++r).set q y).set (q+1) x=p++B.take (k+1)++[x]++B.drop (k+1)++r:=by
  rw [U,show p++B.take k++[x]++(y::B.drop (k+1))++r=(p++B.take k)++x::y::(B.drop (k+1)++r) by simp];rw [← o,List.set_append_right _ _ (Nat.le_refl _),Nat.sub_self,List.set_append_right _ _ om,show (p++B.take k).length+1-(p++B.take k).length=1 by omega];simp
 rw [e] at G;exact G
theorem gg.get {B:List Pt} (h:gg B) {k H:Nat} {t y:Pt} (E:B[k]?=some t) (o:B[H]?=some y) (F:k≤H):t=y∨t.lt y:=by
 rcases Nat.lt_or_ge k H with f | f
 ·right
  obtain ⟨a,rfl⟩:=List.getElem?_eq_some_iff.1 E;obtain ⟨b,rfl⟩:=List.getElem?_eq_some_iff.1 o;exact List.pairwise_iff_getElem.1 h k H a b f
 ·left
  obtain rfl:k=H:=om;exact Option.some.inj (E.symm.trans o)
theorem vJ.out {g:Nat} {p B r:List Pt} {x:Pt} {H w:World} {i:Nat} (h:vJ g p B r x H w i i) (F:gg B) (G:∀ y∈B,x.pos<y.pos) (hi:i≤B.length):gF (x::B) (B.take i++[x]++B.drop i):=by
  have e:B.take i++B.drop i=B:=List.take_append_drop i B;refine ⟨?_,?_⟩
  · conv=>rhs;rw [← e]
    simp only [List.append_assoc,List.singleton_append];exact List.perm_middle
  · have := kV (x := x) (r1 := B.take i) (r2 := B.drop i) (by rw [e]; exact F) (fun y o => by
      obtain ⟨k,f⟩:=List.mem_iff_getElem?.1 o;rw [List.getElem?_take] at f
      split at f
      · exact h.1 k y f om
      · cases f) (fun y o=>by
      obtain ⟨k,f⟩:=List.mem_iff_getElem?.1 o;rw [List.getElem?_drop] at f;have E:=G y (List.mem_of_getElem? f);exact Pt.not_lt om (h.2.1 (i+k) y f om))
    simpa using this
theorem CG (g cap L:Nat) (p B r:List Pt) (x:Pt) (u v z:Int) (D:List Pt) (w:World) (hs:gg B) (hx:∀ y∈B,x.pos<y.pos) (hb:0<B.length) (hu:u=(p.length:Int)) (hv:v=(p.length:Int)+1) (hz:z=(p.length:Int)+1+B.length) (a5:D=p++x::B++r) (hD:aG w g D) (hL:D.length=L) (hl:L≤1000000) :
    Calls Tryz.prog 232 #[.slice (some ⟨g,0,none⟩) L cap,u,v,z,pY] w fun e w'=>e=.returned (.tuple #[])∧(∃ s',gF (x::B) s'∧aG w' g (p++s'++r))∧cg g w w':=by
  subst a5;have aq:p.length+1+B.length+r.length=L:=by rw [← hL];simp;omega
  obtain ⟨P,hP⟩:∃ n,p.length=n:=⟨_,rfl⟩;obtain ⟨n,hn⟩:∃ n,B.length=n:=⟨_,rfl⟩;have H0:=hide (show vJ g p B r x w w 0 n from ⟨fun _ _ _ h=>by omega,fun k y F h=>by have:=(List.getElem?_eq_some_iff.1 F).1;omega,hD,cg.refl _ _⟩);rw [hP] at hu hv hz aq;rw [hn] at hz aq hb;have f:=hide (And.intro hP hn);have HS:=hide hs;have HX:=hide hx;have hg:=hD.lt;subst hu hv hz;clear hD hL hP hn hs hx;go_enter Tryz.func232,Tryz.ntmps232;have V:((P:Int)+1-(P:Int)==1)=true:=by rw [beq_iff_eq];omega
  go_wp2_with fail
  try rw [V]
  clear V;go_loopw [10,11] (fun bb bc wr=>∃ i j:Nat,bb=.int .i64 ((P:Int)+1+(i:Int))∧bc=.int .i64 ((P:Int)+1+(j:Int))∧i≤j∧j≤n∧vJ g p B r x w wr i j) (fun s t _=>(intOf t-intOf s).toNat)
  case atStart=>exact ⟨0,n,by first | rfl | (congr 1;omega),by first | rfl | (congr 1;omega),by omega,by omega,H0.out⟩
  case round =>
    obtain ⟨i,j,rfl,rfl,bp,a8,aA⟩:=hrel;have E:=hide aA;clear aA;by_cases bt:i<j
    · obtain ⟨H,hH⟩:∃ H:Nat,(i+j) / 2=H:=⟨_,rfl⟩
      have U:((P:Int)+1+(i:Int)+((P:Int)+1+(j:Int))) / 2=((P+1+H:Nat):Int):=om;have a6:i≤H∧H<j:=om;obtain ⟨q,hq⟩:∃ q,P+1+H=q:=⟨_,rfl⟩;rw [hq] at U;obtain ⟨y,I⟩:∃ y,B[H]?=some y:=⟨_,List.getElem?_eq_getElem (by rw [f.out.2];omega)⟩;have al:(p++x::B++r)[q]?=some y:=by
        rw [List.append_assoc,List.getElem?_append_right (by rw [f.out.1];omega),f.out.1,List.cons_append,show q-P=H+1 by omega,List.getElem?_cons_succ,List.getElem?_append_left (by rw [f.out.2];omega)];exact I
      have ao:(p++x::B++r)[P]?=some x:=by
        rw [List.append_assoc,List.getElem?_append_right (by rw [f.out.1];omega),f.out.1,Nat.sub_self];rfl
      obtain ⟨c1,c2⟩:=E.out.2.2.1.cell al;obtain ⟨c3,c4⟩:=E.out.2.2.1.cell ao;have k1:=cell_regrown c1;have k2:=cell_regrown c2;have k3:=cell_regrown c3;have k4:=cell_regrown c4;have a1:=HX.out y (List.mem_of_getElem? I);have J:=hide (And.intro I (And.intro a1 hq));have q1:(q:Int)<(L:Int):=om;have q2:(P:Int)<(L:Int):=om;have bl:=E.out.2.2.1.lt;obtain ⟨bh,bk⟩:=a6;clear I a1 al ao hH;go_wp2_with fail
      try rw [U]
      refine wp_region_quiet_below (by kernel_rfl) (by kernel_rfl) ?_
      repeat (go_big_quiet_step (first | exact Calls.regrown_of (mi y x _) | fail))
      refine wpQuiet_nil ?_;intro _ a9;obtain ⟨⟨dq,osq⟩,ba⟩:=a9;subst ba;obtain ⟨wq,Y⟩:∃ wq,grow (redrawn wr dq) osq=wq:=⟨_,rfl⟩;have ab:=hide (show Below wr wr wq by rw [← Y];exact below_regrown wr dq osq);have ad:=hide (E.out.2.2.1.call ab.out);have aa:=hide (E.out.2.2.2.trans (cg.of ab.out g));rw [Y];clear k1 k2 k3 k4 c1 c2 c3 c4 Y;by_cases O:qG y x<0
      · have HN := hide (show vJ g p B r x w wq (H + 1) j from ⟨fun k t F G => by
            rcases Nat.lt_or_ge k i with h | h
            · exact E.out.1 k t F h
            · have hl:=(Pt.lt_iff J.out.2.1).2 ((eT y x).1 O)
              rcases HS.out.get F J.out.1 om with rfl | e
              · exact hl
              · exact Pt.lt_trans e hl,E.out.2.1,ad.out,aa.out⟩)
        go_wp2;go_roundw
        case rel=>exact ⟨H+1,j,by have:=J.out.2.2;congr 1;omega,rfl,by omega,by omega,HN.out⟩
        case measure=>have:=J.out.2.2;simp [intOf];omega
      · have HN := hide (show vJ g p B r x w wq i H from ⟨E.out.1, fun k t F G => by
            have hn:¬ y.lt x:=fun e=>O ((eT y x).2 ((Pt.lt_iff J.out.2.1).1 e))
            intro ht;rcases HS.out.get J.out.1 F G with rfl | e
            · exact hn ht
            · exact hn (Pt.lt_trans e ht),ad.out,aa.out⟩)
        go_wp2;go_roundw
        case rel=>exact ⟨i,H,rfl,by have:=J.out.2.2;congr 1;omega,by omega,by omega,HN.out⟩
        case measure=>have:=J.out.2.2;simp [intOf];omega
    · obtain rfl:j=i:=om
      have ah:=hide (E.out.out HS.out HX.out (by rw [f.out.2];exact a8));have ac:=hide (show Ad g p B r x w wr 0 from ⟨by simpa using E.out.2.2.1,E.out.2.2.2⟩);have a4:=hide (show ∀ k,k<j→∃ y,B[k]?=some y from fun k F=>⟨_,List.getElem?_eq_getElem (by rw [f.out.2];omega)⟩);clear E;obtain ⟨wo,a0⟩:∃ wo:World,wo=wr:=⟨_,rfl⟩;rw [← a0] at ac ⊢;clear a0;go_wp2_with fail;go_loopw [13] (fun bd wr=>∃ k:Nat,bd=.int .i64 ((P:Int)+(k:Int))∧k≤j∧Ad g p B r x w wr k) (fun s _=>(L+5-intOf s).toNat)
      case atStart=>exact ⟨0,by first | rfl | (congr 1;omega),by omega,ac.out⟩
      case round =>
        obtain ⟨k,rfl,bs,hM⟩:=hrel;have HM:=hide hM;have a7:=hM.1.lt;clear hM;by_cases G:k<j
        · obtain ⟨y,I⟩:=a4.out k G
          obtain ⟨q,hq⟩:∃ q,P+k=q:=⟨_,rfl⟩;have hj:(P:Int)+(k:Int)=(q:Int):=om;have HN:=hide (HM.out.step I q (by rw [f.out.1];exact hq.symm) a7);have F:k<B.length:=(List.getElem?_eq_some_iff.1 I).1;have aB:p++B.take k++[x]++B.drop k++r=(p++B.take k)++x::y::(B.drop (k+1)++r):=by
            rw [show B.drop k=y::B.drop (k+1) by rw [List.drop_eq_getElem_cons F];congr 1;exact Option.some.inj ((List.getElem?_eq_getElem F).symm.trans I)];simp
          have W:(p++B.take k).length=q:=by rw [List.length_append,f.out.1,List.length_take];omega
          have o:=HM.out.1;rw [aB] at o;obtain ⟨c1,c2⟩:=o.cell (i:=q) (p:=x) (by rw [← W];exact mq _ _ _);obtain ⟨c3,c4⟩:=o.cell (i:=q+1) (p:=y) (by rw [← W,List.getElem?_append_right om,show (p++B.take k).length+1-(p++B.take k).length=1 by omega];rfl);have f1:=o.frozen (q*2);have f2:=o.frozen (q*2+1);have f3:=o.frozen ((q+1)*2);have f4:=o.frozen ((q+1)*2+1);have q1:(0:Int)≤(q:Int)+1:=om;have q2:((q:Int)+1).toNat=q+1:=om;have q3:(q:Int)+1<(L:Int):=by have:=f.out.2;omega
          have q4:(0:Int)≤(q:Int):=om;have q6:(q:Int)<(L:Int):=om;have q8:IntKind.i64.wrap ((q:Int)+1)=(q:Int)+1:=by simp [IntKind.wrap,IntKind.bits,IntKind.signed];omega
          have HQ:=hide hq;have a2:(q:Int)<(P:Int)+1+(j:Int)-1:=om;rw [hj];clear I hq hj F aB W o;go_wp2_with fail;go_region
          all_goals
            go_simp;go_wp2;go_roundw
            case rel =>
              exact ⟨k+1,by have:=HQ.out;congr 1;omega,by omega,HN.out.1.drew,HN.out.2.drew⟩
            case measure=>simp [intOf];omega
        · obtain rfl:k=j:=om
          have HF:=hide (show ∃ s',gF (x::B) s'∧aG wr g (p++s'++r) from ⟨_,ah.out,by simpa using HM.out.1⟩);have a3:=hide HM.out.2;go_wp2
          all_goals first
            | (exfalso;omega)
            | (refine bodyPost_ret (results_none rfl _ _ _) rfl ?_;exact ⟨rfl,HF.out,a3.out⟩)
def wB (g:Nat) (p A r:List Pt) (x:Pt) (f w:World) (i j:Nat):Prop:=(∀ k y,A[k]?=some y→k<i→¬ x.lt y)∧(∀ k y,A[k]?=some y→j≤k→x.lt y)∧aG w g (p++A++x::r)∧cg g f w
def yV (g:Nat) (p A r:List Pt) (x:Pt) (f w:World) (k:Nat):Prop:=aG w g (p++A.take k++[x]++A.drop k++r)∧cg g f w
theorem yV.step {g:Nat} {p A r:List Pt} {x y:Pt} {E w:World} {k:Nat} (h:yV g p A r x E w (k+1)) (f:A[k]?=some y) (q:Nat) (I:q=p.length+k) :
  yV g p A r x E ((((w.setCell ⟨g,(q+1)*2,none⟩ (.int .i64 y.pos)).setCell ⟨g,(q+1)*2+1,none⟩ (.int .i64 y.ab)).setCell ⟨g,q*2,none⟩ (.int .i64 x.pos)).setCell ⟨g,q*2+1,none⟩ (.int .i64 x.ab)) k:=by
 have o:k<A.length:=(List.getElem?_eq_some_iff.1 f).1;have G:A.drop k=y::A.drop (k+1):=by rw [List.drop_eq_getElem_cons o];congr 1;exact Option.some.inj ((List.getElem?_eq_getElem o).symm.trans f)
 have J:A.take (k+1)=A.take k++[y]:=by rw [List.take_add_one,f];rfl
 have H:(A.take k).length=k:=ag;refine ⟨?_,(((h.2.setCell (Nat.le_refl _) _).setCell (Nat.le_refl _) _).setCell (Nat.le_refl _) _).setCell (Nat.le_refl _) _⟩;have F:=h.1.down (p:=p) (s1:=A.take k) (s2:=A.drop (k+1)) (r:=r) (x:=x) (y:=y) (by rw [J]) q (by rw [H];exact I);rw [G];exact F
theorem wB.out {g:Nat} {p A r:List Pt} {x:Pt} {H w:World} {i:Nat} (h:wB g p A r x H w i i) (F:gg A) (G:∀ y∈A,y.pos<x.pos):gF (A++[x]) (A.take i++[x]++A.drop i):=by
  have e:A.take i++A.drop i=A:=List.take_append_drop i A;refine ⟨?_,?_⟩
  · conv=>rhs;rw [← e]
    simp only [List.append_assoc];refine List.Perm.append_left _ ?_;exact List.perm_append_comm
  · have := kV (x := x) (r1 := A.take i) (r2 := A.drop i) (by rw [e]; exact F) (fun y o => by
      obtain ⟨k,f⟩:=List.mem_iff_getElem?.1 o;rw [List.getElem?_take] at f
      split at f
      · have E:=G y (List.mem_of_getElem? f)
        exact Pt.not_lt om (h.1 k y f om)
      · cases f) (fun y o=>by
      obtain ⟨k,f⟩:=List.mem_iff_getElem?.1 o;rw [List.getElem?_drop] at f;exact h.2.1 (i+k) y f om)
    simpa using this
theorem An (g cap L:Nat) (p A r:List Pt) (x:Pt) (u v z:Int) (D:List Pt) (w:World) (hs:gg A) (hx:∀ y∈A,y.pos<x.pos) (ha:1<A.length) (hu:u=(p.length:Int)) (hv:v=(p.length:Int)+A.length) (hz:z=(p.length:Int)+A.length+1) (a6:D=p++A++x::r) (hD:aG w g D) (hL:D.length=L) (hl:L≤1000000) :
    Calls Tryz.prog 232 #[.slice (some ⟨g,0,none⟩) L cap,u,v,z,pY] w fun e w'=>e=.returned (.tuple #[])∧(∃ s',gF (A++[x]) s'∧aG w' g (p++s'++r))∧cg g w w':=by
  subst a6;have aA:p.length+A.length+1+r.length=L:=by rw [← hL];simp;omega
  obtain ⟨P,hP⟩:∃ n,p.length=n:=⟨_,rfl⟩;obtain ⟨n,hn⟩:∃ n,A.length=n:=⟨_,rfl⟩;have H0:=hide (show wB g p A r x w w 0 n from ⟨fun _ _ _ h=>by omega,fun k y J h=>by have:=(List.getElem?_eq_some_iff.1 J).1;omega,hD,cg.refl _ _⟩);rw [hP] at hu hv hz aA;rw [hn] at hv hz aA ha;have f:=hide (And.intro hP hn);have HS:=hide hs;have HX:=hide hx;have hg:=hD.lt;subst hu hv hz;clear hD hL hP hn hs hx;go_enter Tryz.func232,Tryz.ntmps232;have U:((P:Int)+(n:Int)-(P:Int)==1)=false:=by rw [beq_eq_false_iff_ne];omega
  have V:((P:Int)+(n:Int)+1-((P:Int)+(n:Int))==1)=true:=by rw [beq_iff_eq];omega
  go_wp2_with fail
  try rw [U]
  try rw [V]
  clear U V;go_loopw [14,15] (fun ba bb wr=>∃ i j:Nat,ba=.int .i64 ((P:Int)+(i:Int))∧bb=.int .i64 ((P:Int)+(j:Int))∧i≤j∧j≤n∧wB g p A r x w wr i j) (fun s t _=>(intOf t-intOf s).toNat)
  case atStart=>exact ⟨0,n,by first | rfl | (congr 1;omega),by first | rfl | (congr 1;omega),by omega,by omega,H0.out⟩
  case round =>
    obtain ⟨i,j,rfl,rfl,bp,bs,aB⟩:=hrel;have F:=hide aB;clear aB;by_cases bx:i<j
    · obtain ⟨H,hH⟩:∃ H:Nat,(i+j) / 2=H:=⟨_,rfl⟩
      have O:((P:Int)+(i:Int)+((P:Int)+(j:Int))) / 2=((P+H:Nat):Int):=om;have a7:i≤H∧H<j:=om;obtain ⟨q,hq⟩:∃ q,P+H=q:=⟨_,rfl⟩;obtain ⟨t,ht⟩:∃ t,P+n=t:=⟨_,rfl⟩;rw [hq] at O;obtain ⟨y,G⟩:∃ y,A[H]?=some y:=⟨_,List.getElem?_eq_getElem (by rw [f.out.2];omega)⟩;have ao:(p++A++x::r)[q]?=some y:=by
        rw [List.append_assoc,List.getElem?_append_right (by rw [f.out.1];omega),f.out.1,show q-P=H by omega,List.getElem?_append_left (by rw [f.out.2];omega)];exact G
      have aq:(p++A++x::r)[t]?=some x:=by
        have h:=mq (p++A) r x;rw [List.length_append,f.out.1,f.out.2,ht] at h;exact h
      obtain ⟨c1,c2⟩:=F.out.2.2.1.cell ao;obtain ⟨c3,c4⟩:=F.out.2.2.1.cell aq;have k1:=cell_regrown c1;have k2:=cell_regrown c2;have k3:=cell_regrown c3;have k4:=cell_regrown c4;have a2:=HX.out y (List.mem_of_getElem? G);have I:=hide (And.intro G (And.intro a2 hq));have q1:(q:Int)<(L:Int):=om;have q2:(P:Int)+(n:Int)<(L:Int):=om;have q3:((P:Int)+(n:Int)).toNat=t:=om;have q4:(0:Int)≤(P:Int)+(n:Int):=om;have bl:=F.out.2.2.1.lt;obtain ⟨bd,bh⟩:=a7;clear G a2 ao aq hH;go_wp2_with fail
      try rw [O]
      refine wp_region_quiet_below (by kernel_rfl) (by kernel_rfl) ?_
      repeat (go_big_quiet_step (first | exact Calls.regrown_of (mi x y _) | fail))
      refine wpQuiet_nil ?_;intro _ a8;obtain ⟨⟨dq,osq⟩,a9⟩:=a8;subst a9;obtain ⟨wq,aa⟩:∃ wq,grow (redrawn wr dq) osq=wq:=⟨_,rfl⟩;have ac:=hide (show Below wr wr wq by rw [← aa];exact below_regrown wr dq osq);have ah:=hide (F.out.2.2.1.call ac.out);have ab:=hide (F.out.2.2.2.trans (cg.of ac.out g));rw [aa];clear k1 k2 k3 k4 c1 c2 c3 c4 aa;by_cases E:qG x y<0
      · have HN := hide (show wB g p A r x w wq i H from ⟨F.out.1, fun k t J W => by
            have hl:=(Pt.lt_iff I.out.2.1).2 ((eT x y).1 E);rcases HS.out.get I.out.1 J W with rfl | e
            · exact hl
            · exact Pt.lt_trans hl e,ah.out,ab.out⟩)
        rw [decide_eq_true E];go_wp2;go_roundw
        case rel=>exact ⟨i,H,rfl,by have:=I.out.2.2;congr 1;omega,by omega,by omega,HN.out⟩
        case measure=>have:=I.out.2.2;simp [intOf];omega
      · have HN := hide (show wB g p A r x w wq (H + 1) j from ⟨fun k t J W => by
            have hn:¬ x.lt y:=fun e=>E ((eT x y).2 ((Pt.lt_iff I.out.2.1).1 e))
            intro ht;rcases HS.out.get J I.out.1 om with rfl | e
            · exact hn ht
            · exact hn (Pt.lt_trans ht e),F.out.2.1,ah.out,ab.out⟩)
        rw [decide_eq_false E];go_wp2;go_roundw
        case rel=>exact ⟨H+1,j,by have:=I.out.2.2;congr 1;omega,rfl,by omega,by omega,HN.out⟩
        case measure=>have:=I.out.2.2;simp [intOf];omega
    · obtain rfl:j=i:=om
      have al:=hide (F.out.out HS.out HX.out);have ad:=hide (show yV g p A r x w wr n from ⟨by
        rw [List.take_of_length_le (by rw [f.out.2];omega),List.drop_eq_nil_of_le (by rw [f.out.2];omega)];simpa using F.out.2.2.1,F.out.2.2.2⟩)
      have a5:=hide (show ∀ k,k<n→∃ y,A[k]?=some y from fun k J=>⟨_,List.getElem?_eq_getElem (by rw [f.out.2];omega)⟩);clear F;obtain ⟨wo,a1⟩:∃ wo:World,wo=wr:=⟨_,rfl⟩;rw [← a1] at ad ⊢;clear a1;go_wp2_with fail;go_loopw [17] (fun bc wr=>∃ k:Nat,bc=.int .i64 ((P:Int)+(k:Int))∧j≤k∧k≤n∧yV g p A r x w wr k) (fun s _=>(intOf s+5).toNat)
      case atStart=>exact ⟨n,by first | rfl | (congr 1;omega),by omega,by omega,ad.out⟩
      case round =>
        obtain ⟨k0,rfl,bt,bw,hM⟩:=hrel;have HM:=hide hM;have bk:=hM.1.lt;clear hM;by_cases W:j<k0
        · obtain ⟨k,rfl⟩:∃ k,k0=k+1:=⟨k0-1,by omega⟩
          obtain ⟨y,G⟩:=a5.out k om;obtain ⟨q,hq⟩:∃ q,P+k=q:=⟨_,rfl⟩;have hj:(P:Int)+((k+1:Nat):Int)=(q:Int)+1:=om;have HN:=hide (HM.out.step G q (by rw [f.out.1];exact hq.symm));have J:k<A.length:=(List.getElem?_eq_some_iff.1 G).1;have a0:p++A.take (k+1)++[x]++A.drop (k+1)++r=(p++A.take k)++y::x::(A.drop (k+1)++r):=by
            rw [show A.take (k+1)=A.take k++[y] by rw [List.take_add_one,G];rfl];simp
          have Y:(p++A.take k).length=q:=by rw [List.length_append,f.out.1,List.length_take];omega
          have o:=HM.out.1;rw [a0] at o;obtain ⟨c1,c2⟩:=o.cell (i:=q) (p:=y) (by rw [← Y];exact mq _ _ _);obtain ⟨c3,c4⟩:=o.cell (i:=q+1) (p:=x) (by rw [← Y,List.getElem?_append_right om,show (p++A.take k).length+1-(p++A.take k).length=1 by omega];rfl);have f1:=o.frozen (q*2);have f2:=o.frozen (q*2+1);have f3:=o.frozen ((q+1)*2);have f4:=o.frozen ((q+1)*2+1);have q1:(0:Int)≤(q:Int)+1:=om;have q2:((q:Int)+1).toNat=q+1:=om;have q3:(q:Int)+1<(L:Int):=by have:=f.out.2;omega
          have q4:(0:Int)≤(q:Int):=om;have q6:(q:Int)<(L:Int):=om;have q7:IntKind.i64.wrap (q:Int)=(q:Int):=by simp [IntKind.wrap,IntKind.bits,IntKind.signed];omega
          have q8:IntKind.i64.wrap ((q:Int)+1-1)=(q:Int):=by simp [IntKind.wrap,IntKind.bits,IntKind.signed];omega
          have q9:(q:Int)+1-1=(q:Int):=om;have HQ:=hide hq;have a3:(P:Int)+(j:Int)<(q:Int)+1:=om;rw [hj];clear G hq hj J a0 Y o;go_wp2_with fail;go_region
          all_goals
            go_simp;go_wp2;go_roundw
            case rel=>exact ⟨k,by have:=HQ.out;congr 1;omega,by omega,by omega,HN.out.1.drew,HN.out.2.drew⟩
            case measure=>have:=HQ.out;simp [intOf];omega
        · obtain rfl:k0=j:=om
          have HF:=hide (show ∃ s',gF (A++[x]) s'∧aG wr g (p++s'++r) from ⟨_,al.out,by simpa using HM.out.1⟩);have a4:=hide HM.out.2;go_wp2
          all_goals first
            | (exfalso;omega)
            | (refine bodyPost_ret (results_none rfl _ _ _) rfl ?_;exact ⟨rfl,HF.out,a4.out⟩)
theorem yX {o F G E s1 s2:List Pt} (J:gg (o++F)) (O:gg (G++E)) (H:∀ x∈o.getLast?,∀ y∈E.head?,x.lt y) (I:∀ x∈G.getLast?,∀ y∈F.head?,x.lt y)
  (f:gF (o++G) s1) (h:gF (F++E) s2):gF ((o++F)++(G++E)) (s1++s2):=by
 refine ⟨?_,f.2.app h.2 (fun x U y V=>DY J O H I x (f.1.mem_iff.1 U) y (h.1.mem_iff.1 V))⟩;refine (f.1.append h.1).trans ?_;simp only [List.append_assoc];refine List.Perm.append_left o ?_;rw [← List.append_assoc,← List.append_assoc];exact List.perm_append_comm.append_right E
def Ht (A B:List Pt) (M h f i j:Nat):Prop:=
 (i=h∨∃ x y,0<i∧A[i-1]?=some x∧B[M-i]?=some y∧x.lt y)∧(j=f∨∃ x y,j<M∧A[j]?=some x∧B[M-1-j]?=some y∧y.lt x)
theorem Ht.ends {A B:List Pt} {M s0 r0 s:Nat} (h:Ht A B M s0 r0 s s) (V:s0=0∨s0+B.length=M) (U:r0=M∨r0=A.length) (W:s≤A.length) (aa:s≤M) (hB:M≤s+B.length) :
  (∀ x∈(A.take s).getLast?,∀ y∈(B.drop (M-s)).head?,x.lt y)∧(∀ x∈(B.take (M-s)).getLast?,∀ y∈(A.drop s).head?,x.lt y):=by
 have E:∀ (l:List Pt) (k:Nat) (x:Pt),k≤l.length→x∈(l.take k).getLast?→0<k∧l[k-1]?=some x:=by
  intro l k x hk f;rw [List.getLast?_eq_getElem?,List.length_take,Nat.min_eq_left hk,List.getElem?_take] at f;rcases Nat.eq_zero_or_pos k with rfl | I
  ·simp at f
  ·rw [if_pos om] at f
   exact ⟨I,f⟩
 have o:∀ (l:List Pt) (k:Nat) (x:Pt),x∈(l.drop k).head?→l[k]?=some x:=by
  intro l k x f;rw [List.head?_drop] at f;exact f
 refine ⟨fun x f y Y=>?_,fun x f y Y=>?_⟩
 ·obtain ⟨a1,J⟩:=E A s x W f
  have F:=o B _ y Y;have b2:=(List.getElem?_eq_some_iff.1 F).1;rcases h.1 with e | ⟨x',y',_,G,H,O⟩
  ·exfalso
   rcases V with I | I <;> omega
  ·rw [J] at G
   rw [F] at H;cases G;cases H;exact O
 ·obtain ⟨a1,J⟩:=E B (M-s) x om f
  have F:=o A _ y Y;have b2:=(List.getElem?_eq_some_iff.1 F).1;rcases h.2 with e | ⟨x',y',_,G,H,O⟩
  ·exfalso
   rcases U with I | I <;> omega
  ·rw [show M-s-1=M-1-s by omega] at J
   rw [F] at G;rw [J] at H;cases G;cases H;exact O
def Ge (N : Nat) : Prop := ∀ (g cap L : Nat) (p A B r : List Pt) (u v z : Int) (D : List Pt) (w : World), 0 < A.length → 0 < B.length → A.length + B.length ≤ N → gg A → gg B → iy A B →
  u=(p.length:Int)→v=(p.length:Int)+A.length→z=(p.length:Int)+A.length+B.length→D=p++A++B++r→aG w g D→D.length=L→L≤1000000 →
  Calls Tryz.prog 232 #[.slice (some ⟨g,0,none⟩) L cap,u,v,z,pY] w fun e w'=>e=.returned (.tuple #[])∧(∃ f,gF (A++B) f∧aG w' g (p++f++r))∧cg g w w'
def Hj (g:Nat) (p f h q:List Pt) (o w:World):Prop:=∃ s1,gF (f++h) s1∧aG w g (p++s1++q)∧cg g o w
theorem rr {l:List Pt} (h:gg l):gF l l:=⟨List.Perm.refl _,h⟩
theorem tO {A B:List Pt} (f:gg A) (o:gg B) (h:A.length=0∨B.length=0):gg (A++B):=by
 rcases h with h | h
 ·obtain rfl:A=[]:=List.length_eq_zero_iff.1 h
  simpa using o
 ·obtain rfl:B=[]:=List.length_eq_zero_iff.1 h
  simpa using f
def BP (g:Nat) (p A B r:List Pt) (M h f:Nat) (o w:World) (i j:Nat):Prop:=Ht A B M h f i j∧aG w g (p++A++B++r)∧cg g o w
theorem Bp (N:Nat) (IH:Ge N) (g cap L:Nat) (p A B r:List Pt) (u v z:Int) (D:List Pt) (w:World) (ha:1<A.length) (hb:1<B.length) (hN:A.length+B.length≤N+1) (hs:gg A) (ht:gg B) (bk:iy A B)
    (hu:u=(p.length:Int)) (hv:v=(p.length:Int)+A.length) (hz:z=(p.length:Int)+A.length+B.length) (cs:D=p++A++B++r) (hD:aG w g D) (hL:D.length=L) (hl:L≤1000000) :
    Calls Tryz.prog 232 #[.slice (some ⟨g,0,none⟩) L cap,u,v,z,pY] w fun e w'=>e=.returned (.tuple #[])∧(∃ s',gF (A++B) s'∧aG w' g (p++s'++r))∧cg g w w':=by
  subst cs;have a1:p.length+A.length+B.length+r.length=L:=by rw [← hL];simp;omega
  obtain ⟨P,hP⟩:∃ n,p.length=n:=⟨_,rfl⟩;obtain ⟨G,a2⟩:∃ n,A.length=n:=⟨_,rfl⟩;obtain ⟨nb,a3⟩:∃ n,B.length=n:=⟨_,rfl⟩;rw [hP] at hu hv hz a1;rw [a2] at hv hz a1 ha hN;rw [a3] at hz a1 hb hN;have o:=hide (And.intro hP (And.intro a2 a3));have HS:=hide (And.intro hs (And.intro ht bk));have HI:=hide IH;have HD:=hide hD;have hg:=hD.lt;obtain ⟨M,hM⟩:∃ M,(G+nb) / 2=M:=⟨_,rfl⟩;have ac:((P:Int)+((P:Int)+(G:Int)+(nb:Int))) / 2=(P:Int)+(M:Int):=om;subst hu hv hz;clear hD hL hP a2 a3 hs ht bk IH;go_enter Tryz.func232,Tryz.ntmps232;have c6:((P:Int)+(G:Int)-(P:Int)==1)=false:=by rw [beq_eq_false_iff_ne];omega
  have c8:((P:Int)+(G:Int)+(nb:Int)-((P:Int)+(G:Int))==1)=false:=by rw [beq_eq_false_iff_ne];omega
  go_upto_if 140 with (fail);go_cut [20,21] (fun a6 xB wx=>∃ s0 r0:Nat,a6=.int .i64 ((P:Int)+(s0:Int))∧xB=.int .i64 ((P:Int)+(r0:Int))∧(s0≤r0∧r0≤G∧r0≤M∧M≤s0+nb∧(s0=0∨s0+nb=M)∧(r0=M∨r0=G))∧w=wx)
  case first =>
    as_aux_lemma =>
      by_cases hc:(P:Int)+(M:Int)<(P:Int)+(G:Int)
      · go_wp2_with fail
        go_meet
        case rel=>exact ⟨M-nb,M,by congr 1;omega,rfl,by omega,rfl⟩
      · go_wp2_with fail
        go_meet
        case rel=>exact ⟨0,G,by first | rfl | (congr 1;omega),rfl,by omega,rfl⟩
  case rest =>
    obtain ⟨s0,r0,rfl,rfl,⟨aa,a4,d3,d4,b8,b9⟩,rfl⟩:=hcut;have H0:=hide (show BP g p A B r M s0 r0 w w s0 r0 from ⟨⟨.inl rfl,.inl rfl⟩,HD.out,cg.refl _ _⟩);have bh:=hide (And.intro b8 b9);clear b8 b9 ac;go_wp2_with fail;go_loopw [20,21] (fun a6 xB wr=>∃ i j:Nat,a6=.int .i64 ((P:Int)+(i:Int))∧xB=.int .i64 ((P:Int)+(j:Int))∧s0≤i∧i≤j∧j≤r0∧BP g p A B r M s0 r0 w wr i j) (fun s t _=>(intOf t-intOf s).toNat)
    case atStart=>exact ⟨s0,r0,rfl,rfl,by omega,by omega,by omega,H0.out⟩
    case round =>
      obtain ⟨i,j,rfl,rfl,dY,d0,d1,bx⟩:=hrel;have HR:=hide bx;clear bx;by_cases d2:i<j
      · as_aux_lemma =>
          obtain ⟨H,hH⟩:∃ H:Nat,(i+j) / 2=H:=⟨_,rfl⟩;have ac:((P:Int)+(i:Int)+((P:Int)+(j:Int))) / 2=((P+H:Nat):Int):=om;have cx:i≤H∧H<j:=om;obtain ⟨q,hq⟩:∃ q,P+H=q:=⟨_,rfl⟩;obtain ⟨t,ht⟩:∃ t,P+G+(M-1-H)=t:=⟨_,rfl⟩;rw [hq] at ac;have c7:(P:Int)+(M:Int)+((P:Int)+(G:Int))-1-(q:Int)=(t:Int):=om;obtain ⟨x,hx⟩:∃ x,A[H]?=some x:=⟨_,List.getElem?_eq_getElem (by rw [o.out.2.1];omega)⟩;obtain ⟨y,hy⟩:∃ y,B[M-1-H]?=some y:=⟨_,List.getElem?_eq_getElem (by rw [o.out.2.2];omega)⟩;have bl:(p++A++B++r)[q]?=some x:=by
            rw [List.append_assoc,List.append_assoc,List.getElem?_append_right (by rw [o.out.1];omega),o.out.1,show q-P=H by omega,List.getElem?_append_left (by rw [o.out.2.1];omega)];exact hx
          have bp:(p++A++B++r)[t]?=some y:=by
            rw [List.append_assoc,List.getElem?_append_right (by rw [List.length_append,o.out.1,o.out.2.1];omega),List.length_append,o.out.1,o.out.2.1,show t-(P+G)=M-1-H by omega,List.getElem?_append_left (by rw [o.out.2.2];omega)];exact hy
          obtain ⟨c1,c2⟩:=HR.out.2.1.cell bl;obtain ⟨c3,c4⟩:=HR.out.2.1.cell bp;have k1:=cell_regrown c1;have k2:=cell_regrown c2;have k3:=cell_regrown c3;have k4:=cell_regrown c4;have cc:=HS.out.2.2 x (List.mem_of_getElem? hx) y (List.mem_of_getElem? hy);have HK:=hide (And.intro hx (And.intro hy (And.intro cc hq)));have q1:(q:Int)<(L:Int):=om;have q2:(t:Int)<(L:Int):=om;have ds:=HR.out.2.1.lt;obtain ⟨dd,dg⟩:=cx;clear hx hy cc bl bp hH;go_wp2_with fail
          try rw [ac]
          refine wp_region_quiet_below (by kernel_rfl) (by kernel_rfl) ?_
          repeat (go_big_quiet_step (first | exact Calls.regrown_of (mi y x _) | fail))
          refine wpQuiet_nil ?_;intro _ cy;obtain ⟨⟨dq,osq⟩,cS⟩:=cy;subst cS;obtain ⟨wq,a5⟩:∃ wq,grow (redrawn wr dq) osq=wq:=⟨_,rfl⟩;have a9:=hide (show Below wr wr wq by rw [← a5];exact below_regrown wr dq osq);have ba:=hide (HR.out.2.1.call a9.out);have a7:=hide (HR.out.2.2.trans (cg.of a9.out g));rw [a5];clear k1 k2 k3 k4 c1 c2 c3 c4 a5;by_cases ab:qG y x<0
          · have HN:=hide (show BP g p A B r M s0 r0 w wq i H from ⟨⟨HR.out.1.1,.inr ⟨x,y,by omega,HK.out.1,HK.out.2.1,(Pt.lt_iff HK.out.2.2.1).2 ((eT y x).1 ab)⟩⟩,ba.out,a7.out⟩)
            rw [decide_eq_true ab];go_wp2;go_roundw
            case rel=>exact ⟨i,H,rfl,by have:=HK.out.2.2.2;congr 1;omega,by omega,by omega,by omega,HN.out⟩
            case measure=>have:=HK.out.2.2.2;simp [intOf];omega
          · have HN:=hide (show BP g p A B r M s0 r0 w wq (H+1) j from ⟨⟨.inr ⟨x,y,by omega,HK.out.1,by rw [show M-(H+1)=M-1-H by omega];exact HK.out.2.1,Pt.not_lt (by have:=HK.out.2.2.1;omega) (fun e=>ab ((eT y x).2 ((Pt.lt_iff HK.out.2.2.1).1 e)))⟩,HR.out.1.2⟩,ba.out,a7.out⟩)
            rw [decide_eq_false ab];go_wp2;go_roundw
            case rel=>exact ⟨H+1,j,by have:=HK.out.2.2.2;congr 1;omega,rfl,by omega,by omega,by omega,HN.out⟩
            case measure=>have:=HK.out.2.2.2;simp [intOf];omega
      · obtain rfl:j=i:=om
        have b3:j≤A.length:=by rw [o.out.2.1];omega
        obtain ⟨e1,e2⟩:=HR.out.1.ends (by rw [o.out.2.2];exact bh.out.1) (by rw [o.out.2.1];exact bh.out.2) b3 om (by rw [o.out.2.2];omega);obtain ⟨V,al⟩:∃ l,A.take j=l:=⟨_,rfl⟩;obtain ⟨J,ao⟩:∃ l,A.drop j=l:=⟨_,rfl⟩;obtain ⟨U,Y⟩:∃ l,B.take (M-j)=l:=⟨_,rfl⟩;obtain ⟨O,aq⟩:∃ l,B.drop (M-j)=l:=⟨_,rfl⟩;have HA:=hide (show A=V++J by rw [← al,← ao,List.take_append_drop]);have HB:=hide (show B=U++O by rw [← Y,← aq,List.take_append_drop]);have cl:=hide (show V.length=j∧J.length=G-j by rw [← al,← ao,List.length_take,List.length_drop,o.out.2.1];omega);have cp:=hide (show U.length=M-j∧O.length=nb-(M-j) by rw [← Y,← aq,List.length_take,List.length_drop,o.out.2.2];omega);rw [al,aq] at e1;rw [Y,ao] at e2;have HE:=hide (And.intro e1 e2);have bc:=hide (show aG wr g (p++(V++J)++(U++O)++r) by rw [← HA.out,← HB.out];exact HR.out.2.1);have a8:=hide HR.out.2.2;clear e1 e2 al ao Y aq b3 HR;have bs:=cl.out;have bt:=cp.out;obtain ⟨E,hE⟩:∃ E:Nat,P+M+(G-j)=E:=⟨_,rfl⟩;have c9:(P:Int)+(M:Int)+((P:Int)+(G:Int))-((P:Int)+(j:Int))=(E:Int):=om;have cv:P+M≤E∧E≤P+G+nb:=om;have HEq:=hide hE;have I:=hide (show gg (V++J)∧gg (U++O)∧iy (V++J) (U++O) by rw [← HA.out,← HB.out];exact HS.out);have HJ:=hide (fun (s1 s2:List Pt)=>yX (s1:=s1) (s2:=s2) I.out.1 I.out.2.1 HE.out.1 HE.out.2);have aB:=hide (show (p++(V++U)++(J++O)++r).length=L by simp only [List.length_append];have:=o.out.1;omega);have f:=hide (And.intro bs bt);obtain ⟨c0,c5⟩:=cv;clear bs bt hE;go_upto_region 39 with (fail);go_cut [185] (fun b wx=>b=.bool (decide (j<G∧j<M))∧wr=wx)
        case first =>
          as_aux_lemma =>
            by_cases h1:j<G
            · by_cases h2:j<M
              · have h3:P+G<E:=by have:=HEq.out;omega
                go_wp2_with fail;go_meet
                case rel=>exact ⟨by simp [h1,h2];omega,rfl⟩
              · have h3:E≤P+G:=by have:=HEq.out;omega
                go_wp2_with fail;go_meet
                case rel=>exact ⟨by simp [h1,h2];omega,rfl⟩
            · go_wp2_with fail
              go_meet
              case rel=>exact ⟨by simp [h1],rfl⟩
        case rest =>
          obtain ⟨rfl,rfl⟩:=hcut;go_upto_if 185 with (fail);obtain ⟨bb,F⟩:∃ bb,decide (j<G∧j<M)=bb:=⟨_,rfl⟩;rw [F];go_cut [] (fun wx=>aG wx g (p++(V++U)++(J++O)++r)∧cg g w wx)
          case first =>
            as_aux_lemma =>
              cases bb
              · have h0:=of_decide_eq_false F
                have HN:=hide (show aG wr g (p++(V++U)++(J++O)++r) from by
                  have h:=bc.out;have hl:=f.out;rcases (show G≤j∨M≤j by omega) with h9 | h9
                  · obtain rfl:J=[]:=List.length_eq_zero_iff.1 om
                    simpa using h
                  · obtain rfl:U=[]:=List.length_eq_zero_iff.1 om
                    simpa using h)
                clear F h0;go_wp2_with fail;go_meet
                case rel=>exact ⟨HN.out,a8.out⟩
              · have h0:=of_decide_eq_true F
                have bd:=hide (Cs g cap L (p++V) J U (O++r) ((P:Int)+(j:Int)) ((P:Int)+(G:Int)) (E:Int) (p++(V++J)++(U++O)++r) pY wr (by have:=f.out;omega) (by have:=f.out;omega)
                  (by simp only [List.length_append];have:=f.out;have:=o.out.1;omega) (by simp only [List.length_append];have:=f.out;have:=o.out.1;omega) (by simp only [List.length_append];have:=f.out;have:=o.out.1;have:=HEq.out;omega) af bc.out (by have:=aB.out;simp only [List.length_append] at this ⊢;omega) hl)
                clear F h0;go_wp2_with fail;refine bd.out.mono ?_;rintro e w2 ⟨rfl,b4,bX⟩;have HN:=hide (show aG w2 g (p++(V++U)++(J++O)++r) by simpa using b4);have cr:=hide (a8.out.trans bX);clear b4 bX;go_wp2_with fail;go_meet
                case rel=>exact ⟨HN.out,cr.out⟩
          case rest =>
            obtain ⟨bw,Y⟩:=hcut;have ad:=hide (And.intro bw Y);clear bw Y F;obtain ⟨w3,ca⟩:∃ w3,w3=wc:=⟨_,rfl⟩;rw [← ca] at ad ⊢;clear ca;go_upto_region 41 with (fail);go_cut [199] (fun b wx=>b=.bool (decide (0<j∧j<M))∧w3=wx)
            case first =>
              as_aux_lemma =>
                by_cases h1:0<j
                · by_cases h2:j<M
                  · go_wp2_with fail
                    all_goals first
                      | (exfalso;omega)
                      | (go_meet;case rel=>exact ⟨by simp [h1,h2];try omega,rfl⟩)
                  · go_wp2_with fail
                    all_goals first
                      | (exfalso;omega)
                      | (go_meet;case rel=>exact ⟨by simp [h1,h2];try omega,rfl⟩)
                · go_wp2_with fail
                  all_goals first
                    | (exfalso;omega)
                    | (go_meet;case rel=>exact ⟨by simp [h1];try omega,rfl⟩)
            case rest =>
              obtain ⟨rfl,rfl⟩:=hcut;go_upto_if 199 with (fail);obtain ⟨bb,F⟩:∃ bb,decide (0<j∧j<M)=bb:=⟨_,rfl⟩;rw [F];go_cut [] (fun wx=>Hj g p V U (J++O++r) w wx)
              case first =>
                as_aux_lemma =>
                  cases bb
                  · have h0:=of_decide_eq_false F
                    have HN:=hide (show Hj g p V U (J++O++r) w w3 from ⟨V++U,rr (tO I.out.1.left I.out.2.1.left (by have:=f.out;omega)),by simpa using ad.out.1,ad.out.2⟩);clear F h0;go_wp2_with fail;go_meet
                    case rel=>exact HN.out
                  · have h0:=of_decide_eq_true F
                    have a0:=hide (HI.out g cap L p V U (J++O++r) (P:Int) ((P:Int)+(j:Int)) ((P:Int)+(M:Int)) (p++(V++U)++(J++O)++r) w3 (by have:=f.out;omega) (by have:=f.out;omega) (by have:=f.out;omega)
                      I.out.1.left I.out.2.1.left (I.out.2.2.sub (fun x hx=>List.mem_append_left _ hx) (fun x hx=>List.mem_append_left _ hx)) (by have:=o.out.1;omega) (by have:=f.out;have:=o.out.1;omega) (by have:=f.out;have:=o.out.1;omega) af ad.out.1 aB.out hl)
                    clear F h0;go_wp2_with fail;refine a0.out.mono ?_;rintro e w4 ⟨rfl,⟨s1,aa,b5⟩,b0⟩;have HN:=hide (show Hj g p V U (J++O++r) w w4 from ⟨s1,aa,b5,ad.out.2.trans b0⟩);clear aa b5 b0;go_wp2_with fail;go_meet
                    case rel=>exact HN.out
              case rest =>
                obtain ⟨s1,aa,b6,b1⟩:=hcut;have W:=hide (And.intro aa (And.intro b6 b1));have ah:=hide (show s1.length=M by rw [aa.1.length_eq,List.length_append];have:=f.out;omega);clear aa b6 b1 F ad;obtain ⟨w5,cb⟩:∃ w5,w5=wc:=⟨_,rfl⟩;rw [← cb] at W ⊢;clear cb;by_cases h1:P+M<E∧E<P+G+nb
                · have a0 := hide (HI.out g cap L (p ++ s1) J O r ((P : Int) + (M : Int)) (E : Int) ((P : Int) + (G : Int) + (nb : Int)) (p ++ s1 ++ (J ++ O ++ r)) w5 (by have := f.out; have := HEq.out; omega) (by have := f.out; have := HEq.out; omega) (by have := f.out; omega)
                    I.out.1.right I.out.2.1.right (I.out.2.2.sub (fun x hx=>List.mem_append_right _ hx) (fun x hx=>List.mem_append_right _ hx)) (by rw [List.length_append];have:=o.out.1;have:=ah.out;omega) (by rw [List.length_append];have:=f.out;have:=o.out.1;have:=ah.out;have:=HEq.out;omega) (by rw [List.length_append];have:=f.out;have:=o.out.1;have:=ah.out;omega) af W.out.2.1
                    (by have h6:=aB.out;simp only [List.length_append] at h6 ⊢;have:=ah.out;have:=f.out;omega) hl)
                  obtain ⟨h2,h3⟩:=h1;go_wp2_with fail
                  all_goals first
                    | (exfalso;omega)
                    | skip
                  refine a0.out.mono ?_;rintro e w6 ⟨rfl,⟨s2,a4,b7⟩,b2⟩;have HF:=hide (show ∃ s',gF (A++B) s'∧aG w6 g (p++s'++r) from ⟨s1++s2,by rw [HA.out,HB.out];exact HJ.out s1 s2 W.out.1 a4,by simpa using b7⟩);have aA:=hide (W.out.2.2.trans b2);clear a4 b7 b2;go_wp2
                  all_goals first
                    | (exfalso;omega)
                    | (go_end0;exact ⟨rfl,by first | exact HF.out | simpa only [List.append_assoc] using HF.out,aA.out⟩)
                · have HF := hide (show ∃ s', gF (A ++ B) s' ∧ aG w5 g (p ++ s' ++ r) from ⟨s1 ++ (J ++ O), by
                    rw [HA.out,HB.out];exact HJ.out s1 (J++O) W.out.1 (rr (tO I.out.1.right I.out.2.1.right (by have:=f.out;have:=HEq.out;omega))),by simpa using W.out.2.1⟩)
                  have aA:=hide W.out.2.2;rcases (show E≤P+M∨(P+M<E∧P+G+nb≤E) by omega) with h2 | ⟨h2,h3⟩
                  all_goals
                    clear h1;go_wp2
                    all_goals first
                      | (exfalso;omega)
                      | (go_end0;exact ⟨rfl,by first | exact HF.out | simpa only [List.append_assoc] using HF.out,aA.out⟩)
end
section
open Go.RowKit
def Ck (b c:Nat) (l:List Pt):List Pt:=(l.drop (c*b)).take b
theorem uB {b c m:Nat} {l k:List Pt} (h:l.take m=k.take m) (f:(c+1)*b≤m):Ck b c l=Ck b c k:=by
 have e:∀ x:List Pt,Ck b c x=(x.take m |>.drop (c*b)).take b:=by
  intro x;unfold Ck;rw [List.drop_take,List.take_take];congr 1;have:(c+1)*b=c*b+b:=Nat.succ_mul c b;omega
 rw [e l,e k,h]
theorem zd {b c m:Nat} {l k:List Pt} (h:l.drop m=k.drop m) (f:m≤c*b):Ck b c l=Ck b c k:=by
 have e:∀ x:List Pt,Ck b c x=((x.drop m).drop (c*b-m)).take b:=by
  intro x;unfold Ck;rw [List.drop_drop];congr 2;omega
 rw [e l,e k,h]
theorem kN (b i:Nat) (l:List Pt):Ck (2*b) i l=Ck b (2*i) l++Ck b (2*i+1) l:=by
 unfold Ck;rw [show i*(2*b)=2*i*b by rw [Nat.mul_left_comm,Nat.mul_assoc],show (2*i+1)*b=2*i*b+b from Nat.succ_mul _ _,← List.drop_drop];rw [show 2*b=b+b by omega,List.take_add]
theorem px {b c:Nat} {l:List Pt} (h:l.length≤c*b):Ck b c l=[]:=by
 unfold Ck;rw [List.drop_eq_nil_of_le h,List.take_nil]
theorem Ar {b:Nat} {l:List Pt} (h:l.length≤b):Ck b 0 l=l:=by
 unfold Ck;rw [Nat.zero_mul,List.drop_zero,List.take_of_length_le h]
theorem nk (b c:Nat) (l:List Pt):(Ck b c l).length=min b (l.length-c*b):=by simp [Ck]
def Fh (b:Nat) (s D:List Pt):Prop:=∀ c,gF (Ck b c s) (Ck b c D)
theorem Cp:gF [] []:=⟨List.Perm.refl _,List.Pairwise.nil⟩
def wL (b:Nat) (s D:List Pt) (i:Nat):Prop:=D.length=s.length∧(∀ c,c<i→gF (Ck b c s) (Ck b c D))∧D.drop (i*b)=s.drop (i*b)
theorem wL.step {b i:Nat} {s D o:List Pt} (h:wL b s D i) (hs:gF (Ck b i s) o) (hl:o.length=(Ck b i s).length):wL b s (D.take (i*b)++o++D.drop ((i+1)*b)) (i+1):=by
  obtain ⟨H,O,U⟩:=h;have W:(i+1)*b=i*b+b:=Nat.succ_mul _ _;have f:(D.take (i*b)).length=min (i*b) s.length:=by rw [List.length_take,H]
  have E:o.length=min b (s.length-i*b):=by rw [hl,nk]
  refine ⟨by simp only [List.length_append,List.length_take,List.length_drop,H,E];omega,fun c hc=>?_,?_⟩
  · rcases Nat.lt_or_ge c i with G | Y
    · have e : Ck b c (D.take (i * b) ++ o ++ D.drop ((i + 1) * b)) = Ck b c D := by
        refine uB (m:=i*b) ?_ (Nat.mul_le_mul_right b G);rcases Nat.le_total (i*b) s.length with F | F
        · rw [List.append_assoc,List.take_append_of_le_length (by rw [f];omega),List.take_take,Nat.min_self]
        · have I:o=[]:=List.length_eq_zero_iff.1 om
          have J:D.drop ((i+1)*b)=[]:=List.drop_eq_nil_of_le om;rw [I,J,List.append_nil,List.append_nil,List.take_take,Nat.min_self]
      rw [e];exact O c G
    · obtain rfl:c=i:=om
      have e:Ck b c (D.take (c*b)++o++D.drop ((c+1)*b))=o:=by
        unfold Ck;rcases Nat.le_total (c*b) s.length with F | F
        · rw [List.append_assoc,List.drop_append,List.drop_take,Nat.sub_self,List.take_zero,List.nil_append,f,show c*b-min (c*b) s.length=0 by omega,List.drop_zero]
          rcases Nat.le_total b (s.length-c*b) with V | V
          · rw [List.take_append_of_le_length om,List.take_of_length_le om]
          · rw [List.drop_eq_nil_of_le om,List.append_nil,List.take_of_length_le om]
        · have I:o=[]:=List.length_eq_zero_iff.1 om
          rw [I,List.drop_eq_nil_of_le,List.take_nil]
          · simp only [List.length_append,List.length_take,List.length_drop,H,List.length_nil];omega
      rw [e];exact hs
  · have e : (D.take (i * b) ++ o ++ D.drop ((i + 1) * b)).drop ((i + 1) * b) = D.drop ((i + 1) * b) := by
      rcases Nat.le_total ((i+1)*b) s.length with F | F
      · rw [List.drop_append,List.drop_eq_nil_of_le (by simp only [List.length_append,f,E];omega),List.nil_append]
        rw [show (i+1)*b-(D.take (i*b)++o).length=0 by simp only [List.length_append,f,E];omega,List.drop_zero]
      · rw [List.drop_eq_nil_of_le,List.drop_eq_nil_of_le om]
        simp only [List.length_append,List.length_take,List.length_drop,H,E];omega
    rw [e,W,← List.drop_drop,U,List.drop_drop]
theorem wL.fin {b i:Nat} {s D:List Pt} (h:wL b s D i) (hi:s.length≤i*b):Fh b s D:=by
 intro c;rcases Nat.lt_or_ge c i with o | f
 ·exact h.2.1 c o
 ·have E:i*b≤c*b:=Nat.mul_le_mul_right b f
  rw [px om,px (by rw [h.1];omega)];exact Cp
def mF (b:Nat) (s D:List Pt) (i:Nat):Prop:=D.length=s.length∧(∀ c,c<i→gF (Ck (2*b) c s) (Ck (2*b) c D))∧(∀ c,2*i≤c→gF (Ck b c s) (Ck b c D))
theorem mF.start {b:Nat} {s D:List Pt} (o:D.length=s.length) (h:Fh b s D):mF b s D 0:=⟨o,fun c f=>absurd f (Nat.not_lt_zero _),fun c _=>h c⟩
theorem AJ (b i:Nat) (D:List Pt):D=D.take (i*(2*b))++Ck b (2*i) D++Ck b (2*i+1) D++D.drop ((i+1)*(2*b)):=by
 rw [List.append_assoc (D.take _),← kN];unfold Ck;rw [show (i+1)*(2*b)=i*(2*b)+2*b from Nat.succ_mul _ _,← List.drop_drop,List.append_assoc,List.take_append_drop,List.take_append_drop]
theorem mF.step {b i:Nat} {s D o:List Pt} (h:mF b s D i) (U:gF (Ck b (2*i) D++Ck b (2*i+1) D) o):mF b s (D.take (i*(2*b))++o++D.drop ((i+1)*(2*b))) (i+1):=by
  obtain ⟨F,Y,J⟩:=h;have hb:(i+1)*(2*b)=i*(2*b)+2*b:=Nat.succ_mul _ _;have f:(D.take (i*(2*b))).length=min (i*(2*b)) s.length:=by rw [List.length_take,F]
  have E:o.length=min (2*b) (s.length-i*(2*b)):=by rw [U.1.length_eq,← kN,nk,F]
  have hP:gF (Ck (2*b) i s) o:=by
    refine ⟨U.1.trans ?_,U.2⟩;rw [kN];exact (J (2*i) om).1.append (J (2*i+1) om).1
  refine ⟨by simp only [List.length_append,List.length_take,List.length_drop,F,E];omega,fun c V=>?_,fun c V=>?_⟩
  · rcases Nat.lt_or_ge c i with H | aa
    · have e : Ck (2 * b) c (D.take (i * (2 * b)) ++ o ++ D.drop ((i + 1) * (2 * b))) = Ck (2 * b) c D := by
        refine uB (m:=i*(2*b)) ?_ (Nat.mul_le_mul_right _ H);rcases Nat.le_total (i*(2*b)) s.length with G | G
        · rw [List.append_assoc,List.take_append_of_le_length (by rw [f];omega),List.take_take,Nat.min_self]
        · have I:o=[]:=List.length_eq_zero_iff.1 om
          have W:D.drop ((i+1)*(2*b))=[]:=List.drop_eq_nil_of_le om;rw [I,W,List.append_nil,List.append_nil,List.take_take,Nat.min_self]
      rw [e];exact Y c H
    · obtain rfl:c=i:=om
      have e:Ck (2*b) c (D.take (c*(2*b))++o++D.drop ((c+1)*(2*b)))=o:=by
        unfold Ck;rcases Nat.le_total (c*(2*b)) s.length with G | G
        · rw [List.append_assoc,List.drop_append,List.drop_take,Nat.sub_self,List.take_zero,List.nil_append,f,show c*(2*b)-min (c*(2*b)) s.length=0 by omega,List.drop_zero]
          rcases Nat.le_total (2*b) (s.length-c*(2*b)) with h5 | h5
          · rw [List.take_append_of_le_length om,List.take_of_length_le om]
          · rw [List.drop_eq_nil_of_le om,List.append_nil,List.take_of_length_le om]
        · have I:o=[]:=List.length_eq_zero_iff.1 om
          rw [I,List.drop_eq_nil_of_le,List.take_nil]
          · simp only [List.length_append,List.length_take,List.length_drop,F,List.length_nil];omega
      rw [e];exact hP
  · have O : (i + 1) * (2 * b) ≤ c * b := by
      have:=Nat.mul_le_mul_right b V;rw [show (i+1)*(2*b)=2*(i+1)*b by rw [Nat.mul_left_comm,Nat.mul_assoc]];exact this
    have e:Ck b c (D.take (i*(2*b))++o++D.drop ((i+1)*(2*b)))=Ck b c D:=by
      refine zd (m:=(i+1)*(2*b)) ?_ O;rcases Nat.le_total ((i+1)*(2*b)) s.length with G | G
      · rw [List.drop_append,List.drop_eq_nil_of_le (by simp only [List.length_append,f,E];omega),List.nil_append]
        rw [show (i+1)*(2*b)-(D.take (i*(2*b))++o).length=0 by simp only [List.length_append,f,E];omega,List.drop_zero]
      · rw [List.drop_eq_nil_of_le,List.drop_eq_nil_of_le om]
        simp only [List.length_append,List.length_take,List.length_drop,F,E];omega
    rw [e];exact J c om
theorem mF.fin {b i:Nat} {s D:List Pt} (h:mF b s D i) (hi:s.length≤i*(2*b)+b):Fh (2*b) s D:=by
 obtain ⟨J,E,F⟩:=h;intro c;rcases Nat.lt_or_ge c i with o | f
 ·exact E c o
 ·have O:i*(2*b)≤c*(2*b):=Nat.mul_le_mul_right _ f
  have I:(2*c+1)*b=c*(2*b)+b:=by rw [Nat.succ_mul];congr 1;rw [Nat.mul_left_comm,Nat.mul_assoc]
  have G:Ck b (2*c+1) s=[]:=px om;have H:Ck b (2*c+1) D=[]:=px om;rw [kN,kN,G,H,List.append_nil,List.append_nil];exact F (2*c) om
theorem Fh.fin {b:Nat} {s D:List Pt} (h:Fh b s D) (o:D.length=s.length) (f:s.length≤b):gF s D:=by
 have:=h 0
 rwa [Ar f,Ar om] at this
theorem mF.runs {b i:Nat} {s D:List Pt} (h:mF b s D i) (E:s.Pairwise fun x y=>x.pos<y.pos):gg (Ck b (2*i) D)∧gg (Ck b (2*i+1) D)∧iy (Ck b (2*i) D) (Ck b (2*i+1) D):=by
 obtain ⟨F,G,f⟩:=h;have a:=f (2*i) om;have c:=f (2*i+1) om;refine ⟨a.2,c.2,?_⟩;have e:iy (Ck b (2*i) s) (Ck b (2*i+1) s):=by
  have o:(Ck b (2*i) s++Ck b (2*i+1) s).Pairwise fun x y=>x.pos<y.pos:=by
   rw [← kN];unfold Ck;exact E.sublist ((List.take_sublist _ _).trans (List.drop_sublist _ _))
  exact (List.pairwise_append.1 o).2.2
 exact e.perm a.1 c.1
def uQ (x:Pt):List Pt→List Pt
 | []=>[x]
 | y::l=>if x.lt y then x::y::l else y::uQ x l
def iN:List Pt→List Pt
 | []=>[]
 | x::l=>uQ x (iN l)
theorem nU (x:Pt) (l:List Pt):(uQ x l).Perm (x::l):=by
 induction l with
 | nil=>exact List.Perm.refl _
 | cons y l f =>
  unfold uQ
  split
  ·exact List.Perm.refl _
  ·exact (List.Perm.cons y f).trans (List.Perm.swap x y l)
theorem lw (l:List Pt):(iN l).Perm l:=by
 induction l with
 | nil=>exact List.Perm.refl _
 | cons x l f=>exact (nU x _).trans (List.Perm.cons x f)
theorem zc {x:Pt} {l:List Pt} (h:gg l) (E:∀ y∈l,x.pos≠y.pos):gg (uQ x l):=by
 induction l with
 | nil=>exact List.pairwise_singleton _ _
 | cons y l F =>
  have o:=List.pairwise_cons.1 h;unfold uQ
  split
  ·rename_i hxy
   refine List.pairwise_cons.2 ⟨fun z f=>?_,h⟩;rcases List.mem_cons.1 f with rfl | f
   ·exact hxy
   ·exact Pt.lt_trans hxy (o.1 z f)
  ·rename_i hxy
   refine List.pairwise_cons.2 ⟨fun z f=>?_,F o.2 (fun z f=>E z (List.mem_cons_of_mem _ f))⟩;rcases List.mem_cons.1 ((nU x l).mem_iff.1 f) with rfl | f
   ·exact Pt.not_lt (E y af) hxy
   ·exact o.1 z f
theorem nA {l:List Pt} (h:l.Pairwise fun x y=>x.pos<y.pos):gF l (iN l):=by
 refine ⟨lw l,?_⟩
 induction l with
 | nil=>exact List.Pairwise.nil
 | cons x l E =>
  have f:=List.pairwise_cons.1 h;exact zc (E f.2) (fun y o=>by have:=f.1 y ((lw l).mem_iff.1 o);omega)
end
section
open Go.RowKit Go.Sort
theorem BC:∀ N,Ge N:=by
 intro N
 induction N with
 | zero =>
  intro g cap L p A B r u v z D w ha U O;omega
 | succ N ih =>
  intro g cap L p A B r u v z D w ha U O V W f G H J h o E F;by_cases Y:A.length=1
  ·obtain ⟨x,rfl⟩:=List.length_eq_one_iff.1 Y
   refine (CG g cap L p B r x u v z D w W (fun y I=>f x af y I) U G (by simpa using H) (by simpa using J) (by simpa using h) o E F).mono ?_;rintro e w' ⟨h3,h4,h5⟩;exact ⟨h3,by simpa using h4,h5⟩
  ·by_cases h2:B.length=1
   ·obtain ⟨x,rfl⟩:=List.length_eq_one_iff.1 h2
    exact An g cap L p A r x u v z D w V (fun y I=>f y I x af) om G H (by simpa using J) (by simpa using h) o E F
   ·exact Bp N ih g cap L p A B r u v z D w om om O V W f G H J h o E F
theorem yE {b i:Nat} {s D:List Pt} (h:D.drop (i*b)=s.drop (i*b)):D=D.take (i*b)++Ck b i s++D.drop ((i+1)*b):=by
 unfold Ck;rw [← h,show (i+1)*b=i*b+b from Nat.succ_mul _ _,← List.drop_drop,List.append_assoc,List.take_append_drop,List.take_append_drop]
theorem uC (b i:Nat) {s:List Pt} (h:jD s):jD (Ck b i s):=List.Pairwise.sublist ((List.take_sublist _ _).trans (List.drop_sublist _ _)) h
def GW (g:Nat) (s:List Pt) (f w:World) (i:Nat):Prop:=∃ D,wL 20 s D i∧aG w g D∧cg g f w
def GR (g b:Nat) (s:List Pt) (f w:World):Prop:=∃ D,D.length=s.length∧Fh b s D∧aG w g D∧cg g f w
def Hf (g b:Nat) (s:List Pt) (f w:World) (i:Nat):Prop:=∃ D,mF b s D i∧aG w g D∧cg g f w
theorem tC (g cap L:Nat) (s:List Pt) (w:World) (hs:jD s) (hD:aG w g s) (hL:s.length=L) (hl:L≤100000) :
  Calls Tryz.prog 189 #[.slice (some ⟨g,0,none⟩) L cap,L,pY] w fun e w'=>e=.returned (.tuple #[])∧(∃ s',gF s s'∧aG w' g s')∧cg g w w':=by
 have H0:=hide (show GW g s w w 0 from ⟨s,⟨rfl,fun c hc=>absurd hc (Nat.not_lt_zero _),rfl⟩,hD,cg.refl _ _⟩);have HL:=hide hL;have HS:=hide hs;have a2:=hide BC;clear hD hL hs;go_enter Tryz.func189,Tryz.ntmps189;go_wp2_with fail;go_loopw [7,8] (fun s7 s8 wr=>∃ i a:Nat,s7=.int .i64 (a:Int)∧s8=.int .i64 ((a+20:Nat):Int)∧Hid (a=i*20)∧a≤L∧GW g s w wr i) (fun _ s8 _=>(L+100-intOf s8).toNat)
 case atStart=>exact ⟨0,0,rfl,rfl,hide rfl,Nat.zero_le _,H0.out⟩
 case round =>
  obtain ⟨i,a,rfl,rfl,HA,bs,D,hI,J,hB⟩:=hrel;have HI:=hide (And.intro hI (And.intro J hB));have a0:=hide (yE hI.2.2);have aq:=hide (show D.length=L by rw [hI.1];exact HL.out);have aA:=hide (show (Ck 20 i s).length=min 20 (L-a) by rw [nk,HL.out,HA.out]);have ao:=hide (show (D.take (i*20)).length=a by rw [List.length_take,aq.out,HA.out];have:=HA.out;omega);have a8:=J.lt;clear hI J hB;by_cases a9:a+20≤L
  ·go_wp2_with fail
   all_goals first
    | (exfalso;omega)
    | skip
   refine (uj g cap L (D.take (i*20)) (Ck 20 i s) (D.drop ((i+1)*20)) _ _ D _ (uC 20 i HS.out) (by rw [ao.out]) (by rw [ao.out,aA.out];omega) a0.out HI.out.2.1 aq.out om).mono ?_;rintro e w2 ⟨rfl,⟨s',h,ah⟩,ac⟩;have HN:=hide (show GW g s w w2 (i+1) from ⟨_,HI.out.1.step h h.1.length_eq,ah,HI.out.2.2.trans ac⟩);clear h ah ac;go_wp2;go_roundw
   case rel=>exact ⟨i+1,a+20,by first | rfl | (congr 1;omega),by first | rfl | (congr 1;done) | (congr 1;omega),hide (by have:=HA.out;omega),a9,HN.out⟩
   case measure=>simp [intOf];omega
  ·go_wp2_with fail
   all_goals first
    | (exfalso;omega)
    | skip
   refine (uj g cap L (D.take (i*20)) (Ck 20 i s) (D.drop ((i+1)*20)) _ _ D _ (uC 20 i HS.out) (by rw [ao.out]) (by rw [ao.out,aA.out];omega) a0.out HI.out.2.1 aq.out om).mono ?_;rintro e w2 ⟨rfl,⟨s',h,ah⟩,ac⟩;have I:=HI.out.1.step h h.1.length_eq;have HN:=hide (show GR g 20 s w w2 from ⟨_,I.1,I.fin (by rw [HL.out];have:=HA.out;omega),ah,HI.out.2.2.trans ac⟩);clear h ah ac I;go_wp2_with fail;go_loopw [6] (fun s6 wr=>∃ b:Nat,s6=.int .i64 (b:Int)∧20≤b∧b≤2*L+20∧GR g b s w wr) (fun s6 _=>(L+100-intOf s6).toNat)
   case atStart=>exact ⟨20,rfl,by omega,by omega,HN.out⟩
   case round =>
    obtain ⟨b,rfl,bd,bh,D,ab,aa,J,hB⟩:=hrel;have HB:=hide (And.intro ab (And.intro aa (And.intro J hB)));have a8:=J.lt;by_cases bl:b<L
    ·have a1:=hide (show Hf g b s w wr 0 from ⟨D,mF.start ab aa,J,hB⟩)
     obtain ⟨W,a3⟩:∃ n:Nat,2*b=n:=⟨_,rfl⟩;have bt:(2:Int)*(b:Int)=(W:Int):=om;have bw:(b:Int)*2=(W:Int):=om;have f:=hide a3;have a4:40≤W∧W≤4*L+40:=om;obtain ⟨ba,bb⟩:=a4;clear ab aa J hB a3;obtain ⟨wo,a6⟩:∃ wo:World,wo=wr:=⟨_,rfl⟩;rw [← a6] at a1 ⊢;clear a6;go_wp2_with fail;go_loopw [7,8] (fun s7 s8 wr=>∃ i a:Nat,s7=.int .i64 (a:Int)∧s8=.int .i64 ((a+W:Nat):Int)∧Hid (a=i*(2*b))∧a≤L∧Hf g b s w wr i) (fun _ s8 _=>(L+W+100-intOf s8).toNat)
     case atStart=>exact ⟨0,0,rfl,by first | rfl | (congr 1;omega),hide af,Nat.zero_le _,a1.out⟩
     case round =>
      obtain ⟨i,a,rfl,rfl,O,bc,H,hI,J,hB⟩:=hrel;have o:=hide (And.intro hI (And.intro J hB));have V:=hide (hI.runs HS.out);have aB:=hide (AJ b i H);have G:=hide (show H.length=L by rw [hI.1];exact HL.out);have F:=hide (show (Ck b (2*i) H).length=min b (L-a) by rw [nk,G.out,O.out];congr 2;rw [Nat.mul_left_comm,Nat.mul_assoc]);have U:=hide (show (Ck b (2*i+1) H).length=min b (L-(a+b)) by rw [nk,G.out,O.out];congr 2;rw [Nat.succ_mul];congr 1;rw [Nat.mul_left_comm,Nat.mul_assoc]);have E:=hide (show (H.take (i*(2*b))).length=a by rw [List.length_take,G.out,← O.out];omega);have bk:=J.lt;clear hI J hB;by_cases a5:a+W≤L
      ·go_wp2_with fail
       all_goals first
        | (exfalso;omega)
        | skip
       refine (a2.out (2*b) g cap L (H.take (i*(2*b))) (Ck b (2*i) H) (Ck b (2*i+1) H) (H.drop ((i+1)*(2*b))) _ _ _ H _ (by rw [F.out];have:=f.out;omega) (by rw [U.out];have:=f.out;omega) (by rw [F.out,U.out];omega) V.out.1 V.out.2.1 V.out.2.2
        (by rw [E.out]) (by rw [E.out,F.out];have:=f.out;omega) (by rw [E.out,F.out,U.out];have:=f.out;omega) aB.out o.out.2.1 G.out om).mono ?_
       rintro e w3 ⟨rfl,⟨s',h,al⟩,ad⟩;have Y:=hide (show Hf g b s w w3 (i+1) from ⟨_,o.out.1.step h,al,o.out.2.2.trans ad⟩);clear h al ad;go_wp2;go_roundw
       case rel=>exact ⟨i+1,a+W,by first | rfl | (congr 1;omega),by first | rfl | (congr 1;done) | (congr 1;omega),hide (by have h1:=O.out;have h2:=f.out;rw [Nat.succ_mul];omega),a5,Y.out⟩
       case measure=>simp [intOf];omega
      ·by_cases bp:a+b<L
       ·go_wp2_with fail
        all_goals first
         | (exfalso;omega)
         | skip
        refine (a2.out (2*b) g cap L (H.take (i*(2*b))) (Ck b (2*i) H) (Ck b (2*i+1) H) (H.drop ((i+1)*(2*b))) _ _ _ H _ (by rw [F.out];have:=f.out;omega) (by rw [U.out];have:=f.out;omega) (by rw [F.out,U.out];omega) V.out.1 V.out.2.1 V.out.2.2
         (by rw [E.out]) (by rw [E.out,F.out];have:=f.out;omega) (by rw [E.out,F.out,U.out];have:=f.out;omega) aB.out o.out.2.1 G.out om).mono ?_
        rintro e w3 ⟨rfl,⟨s',h,al⟩,ad⟩;have I:=o.out.1.step h;have Y:=hide (show GR g W s w w3 from ⟨_,I.1,by rw [← f.out];exact I.fin (by rw [HL.out,Nat.succ_mul];have:=O.out;have:=f.out;omega),al,o.out.2.2.trans ad⟩);clear h al ad I;go_wp2;go_roundw
        case rel=>exact ⟨W,by first | rfl | (congr 1;omega),by omega,by have:=f.out;omega,Y.out⟩
        case measure=>have:=f.out;simp [intOf];omega
       ·have Y:=hide (show GR g W s w wr from ⟨_,o.out.1.1,by rw [← f.out];exact o.out.1.fin (by rw [HL.out,← O.out];omega),o.out.2.1,o.out.2.2⟩)
        go_wp2
        all_goals first
         | (exfalso;omega)
         | skip
        go_roundw
        case rel=>exact ⟨W,by first | rfl | (congr 1;omega),by omega,by have:=f.out;omega,Y.out⟩
        case measure=>have:=f.out;simp [intOf];omega
    ·have HF:=hide (show ∃ s',gF s s'∧aG wr g s' from ⟨D,aa.fin ab (by rw [HL.out];omega),J⟩)
     have a7:=hide hB;clear ab aa J hB;go_wp2
     all_goals first
      | (exfalso;omega)
      | (go_end0;exact ⟨rfl,HF.out,a7.out⟩)
theorem xN (g cap L:Nat) (s:List Pt) (w:World) (E:jD s) (o:aG w g s) (G:s.length=L) (Y:L≤100000) :
  Calls Tryz.prog 133 #[.slice (some ⟨g,0,none⟩) L cap,pY] w fun e w'=>e=.returned (.tuple #[])∧aG w' g (iN s)∧cg g w w':=by
 have O:=hide (fun w o=>tC g cap L s w E o G Y);have W:=hide (fun F (h:gF s F)=>gF.uniq h (nA E));have U:=hide o;clear E o G;go_enter Tryz.func133,Tryz.ntmps133;go_wp2_with fail;refine (O.out _ U.out).mono ?_;rintro e w1 ⟨rfl,⟨F,f,I⟩,H⟩;have V:=hide (show aG w1 g (iN s) by rw [← W.out F f];exact I);have J:=hide H;clear f I H;go_wp2;go_end0;exact ⟨rfl,V.out,J.out⟩
end
end Go.Proofs.YtpebkobmhhnojaaGreatDoor
