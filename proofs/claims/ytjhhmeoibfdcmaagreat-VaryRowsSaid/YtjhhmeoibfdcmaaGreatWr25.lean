/- Lemmas. -/
import Derived.Test.YtjhhmeoibfdcmaaGreatWr24
set_option linter.unusedSimpArgs false
set_option linter.unusedVariables false
set_option maxRecDepth 100000
set_option maxHeartbeats 12800000
namespace Go.Proofs.YtjhhmeoibfdcmaaGreat
section
open Go.RowKit Qd
theorem oP {c:ar} {y:Int} (f:aI c 5 y=0) (i:Nat) (hi:i<bW c y):aE c ⟨5,y,(i:Int)+1⟩=0∧cd c ⟨5,y,(i:Int)+1⟩=⟨bD c y i,bD c y (i+1)-1⟩:=by
 have h:=qB f i (by rw [qD];exact hi);have o:=wM f i (by rw [qD];exact hi);refine ⟨h.1,?_⟩;rw [o];simp [aW]
theorem rC {c:ar} {z:Int} (h:aO c z 1601=0) (f:aO c (z+1) 1601=0) (F:bP c z=7*aL c z):ax c (z+1)=ax c z+7*aL c z:=by
 have o:=eQ c z f;have E:bP c z=bv c z-ax c z+1:=by simp [bP,h]
 omega
theorem fE {c:ar} {z:Int} (E:c.okB=true) (f:dp c z) {lv:Int} (h:1≤lv) (o:lv≤5):aI c lv z=0:=jI (by simpa [ar.okB] using E) h o f.1 f.2
theorem Hp {c:ar} {t n:Int} (E:c.okB=true) (f:c.kind≠6) (O:dp c t) (V:-40≤n∧n≤100) (o:dp c (nz c t n).yr) :
  aE c (nz c t n)=0∧(nz c t n).lv=5∧cd c (nz c t n)=⟨ax c t+7*(n-1),ax c t+7*n-1⟩:=by
 obtain ⟨_,H,W,S⟩:=dW E f O t om om;obtain ⟨_,I,w1,T⟩:=dW E f O (t-1) om om;obtain ⟨_,J,w2,U⟩:=dW E f O (t+1) om om;have s1:=rC I (by rw [show t-1+1=t by omega];exact H) T;rw [show t-1+1=t by omega] at s1;have s2:=rC H J S;unfold nz at o ⊢
 split at o
 ·rename_i h
  rw [if_pos h];simp only at o ⊢;have R:=li E f o;obtain ⟨i,hi⟩:∃ i:Nat,n+aL c (t-1)=(i:Int)+1:=⟨(n+aL c (t-1)-1).toNat,by omega⟩;obtain ⟨F,G⟩:=oP (fE E o ag ag) i om;rw [hi];refine ⟨F,trivial,?_⟩;rw [G,nB c _ I f i om,nB c _ I f (i+1) om];simp only [Sp.mk.injEq];constructor <;> omega
 ·rename_i h
  split at o
  ·rename_i h2
   rw [if_neg h,if_pos h2];simp only at o ⊢;have R:=li E f o;obtain ⟨i,hi⟩:∃ i:Nat,n=(i:Int)+1:=⟨(n-1).toNat,by omega⟩;obtain ⟨F,G⟩:=oP (fE E o ag ag) i om;rw [hi];refine ⟨F,trivial,?_⟩;rw [G,nB c _ H f i om,nB c _ H f (i+1) om];simp only [Sp.mk.injEq];constructor <;> omega
  ·rename_i h2
   rw [if_neg h,if_neg h2];simp only at o ⊢;have R:=li E f o;obtain ⟨i,hi⟩:∃ i:Nat,n-aL c t=(i:Int)+1:=⟨(n-aL c t-1).toNat,by omega⟩;obtain ⟨F,G⟩:=oP (fE E o ag ag) i om;rw [hi];refine ⟨F,trivial,?_⟩;rw [G,nB c _ J f i om,nB c _ J f (i+1) om];simp only [Sp.mk.injEq];constructor <;> omega
def dh (c:ar) (u:Un) (t:Int):List Un:=
 if u.lv=5 then ij ⟨5,t,(aT c ⟨4,t,(nK c u 4).ix⟩:Int)+1+(u.ix-((aT c (nK c u 4):Int)+1))⟩ (min (bF c ⟨4,t,(nK c u 4).ix⟩:Int) ((aT c ⟨4,t,(nK c u 4).ix⟩:Int)+1+(u.ix-((aT c (nK c u 4):Int)+1)))+1-((aT c ⟨4,t,(nK c u 4).ix⟩:Int)+1+(u.ix-((aT c (nK c u 4):Int)+1)))).toNat
 else dS c ⟨u.lv,t,u.ix⟩
def dx (c:ar) (u:Un) (k:Int):List Un:=if c.kind=6 then dh c u (u.yr+k) else cZ c u.yr (u.yr+k) (dS c u)
def uo (c:ar) (l:List Un):Bool:=l.all fun w=>decide (c.first≤w.yr)&&decide (w.yr≤c.last)
theorem mS {c:ar} {l:List Un} (h:uo c l=true) {w:Un} (f:w∈l):dp c w.yr:=by
 have:=List.all_eq_true.1 h w f;simpa [dp] using this
def ju (c:ar) (u:Un) (k:Int):Int:=if aE c u=0 then (if c.first≤u.yr+k∧u.yr+k≤c.last then (if uo c (dx c u k)=true then (if (dx c u k).length=0 then 12 else 0) else 11) else 11) else aE c u
def gZ (c:ar) (u:Un) (k:Int):List Un:=if ju c u k=0 then dx c u k else []
theorem JM {c:ar} {u:Un} {k:Int} (h:ju c u k=0):aE c u=0∧(c.first≤u.yr+k∧u.yr+k≤c.last)∧uo c (dx c u k)=true∧0<(dx c u k).length∧gZ c u k=dx c u k:=by
 have e:gZ c u k=dx c u k:=by rw [gZ,if_pos h]
 unfold ju at h
 split at h
 ·rename_i h1
  split at h
  ·rename_i h2
   split at h
   ·rename_i h3
    split at h
    ·omega
    ·rename_i h4;exact ⟨h1,h2,h3,by omega,e⟩
   ·omega
  ·omega
 ·rename_i h1;exact absurd h h1
theorem sG {c:ar} {u:Un} {k:Int} (h:¬ ju c u k=0):gZ c u k=[]:=by rw [gZ,if_neg h]
def dX (f:Nat→Int) (m:Nat):List Sp:=bm (fun j=>(⟨f j,f (j+1)-1⟩:Sp)) m
theorem oW {c:ar} {t n:Int} (m:Nat) (G:c.okB=true) (o:c.kind≠6) (H:dp c t) (O:-40≤n∧n+m≤100) (J:∀ w∈kZ c t n m,dp c w.yr) :
  (kZ c t n m).map (cd c)=dX (fun j=>ax c t+7*(n+j-1)) m∧∀ w∈kZ c t n m,aE c w=0∧w.lv=5:=by
 have h:∀ j:Nat,j<m→aE c (nz c t (n+j))=0∧(nz c t (n+j)).lv=5∧cd c (nz c t (n+j))=⟨ax c t+7*(n+j-1),ax c t+7*(n+j)-1⟩:=fun j f =>
  Hp G o H om (J _ (List.mem_map.2 ⟨j,List.mem_range.2 f,rfl⟩))
 refine ⟨?_,?_⟩
 ·have E:(kZ c t n m).map (cd c)=bm (fun j:Nat=>cd c (nz c t (n+j))) m:=by simp [kZ,bm,List.map_map,Function.comp_def]
  rw [E];refine kk fun j f=>?_
  rw [(h j f).2.2];have F:ax c t+7*(n+(j:Int))-1=ax c t+7*(n+((j+1:Nat):Int)-1)-1:=om;rw [F]
 ·intro w I
  obtain ⟨j,f,rfl⟩:=List.mem_map.1 I;have:=h j (List.mem_range.1 f);exact ⟨this.1,this.2.1⟩
theorem IP {c:ar} {t:Int} (i m:Nat) (E:aI c 5 t=0) (h:i+m≤bW c t) :
  (ij ⟨5,t,(i:Int)+1⟩ m).map (cd c)=dX (fun j=>bD c t (i+j)) m∧∀ w∈ij ⟨5,t,(i:Int)+1⟩ m,aE c w=0∧w.lv=5:=by
 have f:∀ j:Nat,j<m→aE c ⟨5,t,(i:Int)+1+j⟩=0∧cd c ⟨5,t,(i:Int)+1+j⟩=⟨bD c t (i+j),bD c t (i+j+1)-1⟩:=fun j o=>by
  have:=oP E (i+j) om;rw [show ((i+j:Nat):Int)+1=(i:Int)+1+j by omega] at this;exact this
 refine ⟨?_,?_⟩
 ·have:(ij ⟨5,t,(i:Int)+1⟩ m).map (cd c)=bm (fun j:Nat=>cd c ⟨5,t,(i:Int)+1+j⟩) m:=by simp [ij,bm,List.map_map,Function.comp_def]
  rw [this];exact kk fun j o=>(f j o).2
 ·intro w F
  obtain ⟨j,o,rfl⟩:=List.mem_map.1 F;exact ⟨(f j (List.mem_range.1 o)).1,rfl⟩
theorem pr {c:ar} {u:Un} {t:Int} (h:aE c u=0) (F:dp c t) (R:¬ u.lv=5):aE c ⟨u.lv,t,u.ix⟩=0:=by
 obtain ⟨o,J,O,S,G,hi⟩:=bN h;obtain ⟨E,f,_,_,H,I,_⟩:=a9 o;have e:aR c t u.lv=aR c u.yr u.lv:=by
  unfold aR;rw [wK f t u.yr]
  repeat' split
  all_goals first | rfl | (exfalso;omega)
 have:=(qB (fE f F J O) (uI u) (by rw [e];exact hi)).1;rw [G];exact this
theorem mI {c:ar} {u:Un} {t:Int} (H:aE c u=0) (V:dp c t) (G:u.lv=5) :
  ∃ i:Nat,nK c u 4=⟨4,u.yr,(i:Int)+1⟩∧tT c u 4=0∧aE c ⟨4,u.yr,(i:Int)+1⟩=0∧aE c ⟨4,t,(i:Int)+1⟩=0∧aT c ⟨4,u.yr,(i:Int)+1⟩≤aT c u∧bF c u≤bF c ⟨4,u.yr,(i:Int)+1⟩∧u.ix=(aT c u:Int)+1∧bF c u=aT c u+1:=by
 obtain ⟨T,l1,l5,hA,W,hi⟩:=bN H;obtain ⟨U,o,_,_,E,F,_⟩:=a9 T;obtain ⟨i,I,J,f,O,R⟩:=DK H (lv:=4) ag om;have h:aI c 4 u.yr=0:=fE o ⟨E,F⟩ ag ag;have g:=qB h i f;have S:=qB (fE o V ag ag:aI c 4 t=0) i (by rw [Ks] at f ⊢;rw [wK o t u.yr];exact f);refine ⟨i,J,I,g.1,S.1,by rw [g.2.1];exact O,by rw [g.2.2];exact R,?_,?_⟩
 ·rw [aT,G];simp [aW];exact W
 ·rw [aT,bF,G];simp [aW]
theorem uD {c:ar} {u:Un} {t:Int} (o:aE c u=0) (G:dp c t):∃ i m:Nat,dh c u t=ij ⟨5,t,(i:Int)+1⟩ m∧(0<m→i+m≤bW c t):=by
 obtain ⟨V,l1,l5,U,W,hi⟩:=bN o;unfold dh;by_cases f:u.lv=5
 ·rw [if_pos f]
  obtain ⟨i,H,J,g,I,O,R,S,T⟩:=mI o G f;rw [H];simp only;have F:=dz I;simp only at F;refine ⟨aT c ⟨4,t,(i:Int)+1⟩ + (aT c u-aT c ⟨4,u.yr,(i:Int)+1⟩),(min (bF c ⟨4,t,(i:Int)+1⟩:Int) ((aT c ⟨4,t,(i:Int)+1⟩:Int)+1+(u.ix-((aT c ⟨4,u.yr,(i:Int)+1⟩:Int)+1)))+1-((aT c ⟨4,t,(i:Int)+1⟩:Int)+1+(u.ix-((aT c ⟨4,u.yr,(i:Int)+1⟩:Int)+1)))).toNat,?_,?_⟩
  ·rw [show ((aT c ⟨4,t,(i:Int)+1⟩:Int)+1+(u.ix-((aT c ⟨4,u.yr,(i:Int)+1⟩:Int)+1)))=((aT c ⟨4,t,(i:Int)+1⟩ + (aT c u-aT c ⟨4,u.yr,(i:Int)+1⟩):Nat):Int)+1 by omega]
  ·intro h
   omega
 ·rw [if_neg f]
  have E:=pr o G f;have F:=dz E;exact ⟨aT c ⟨u.lv,t,u.ix⟩,bF c ⟨u.lv,t,u.ix⟩ - aT c ⟨u.lv,t,u.ix⟩,rfl,fun _=>by simp only at F;omega⟩
theorem zK {c:ar} {u:Un} {k:Int} (h:ju c u k=0) :
  ∃ (f g:Nat→Int) (m n:Nat),0<m∧m+n≤60∧(gZ c u k).length=m+n∧(gZ c u k).map (cd c)=dX f m++dX g n∧(∀ j,j<m→f j<f (j+1))∧(∀ j,j<n→g j<g (j+1))∧(0<n→f m<g 0)∧∀ w∈gZ c u k,aE c w=0∧w.lv=5:=by
 obtain ⟨hU,ht,E,o,hL⟩:=JM h;obtain ⟨hf,l1,l5,hA,hx,hi⟩:=bN hU;obtain ⟨ad,W,_,_,ah,al,_⟩:=a9 hf;have G:dp c (u.yr+k):=ht;rw [hL];by_cases F:c.kind=6
 ·have e:dx c u k=dh c u (u.yr+k):=by rw [dx,if_pos F]
  rw [e] at o ⊢;obtain ⟨i,m,J,hb⟩:=uD hU G;rw [J] at o ⊢;rw [jV] at o ⊢;have V:aI c 5 (u.yr+k)=0:=fE W G ag ag;have T:=(a9 V).2.2.2.2.2.2;obtain ⟨O,R⟩:=IP i m V (hb o);have U:=di c _ T;have:=hb o;refine ⟨fun j=>bD c (u.yr+k) (i+j),fun _=>0,m,0,o,by omega,rfl,by rw [O];simp [dX,bm],fun j I=>?_,fun j I=>absurd I om,fun S=>absurd S om,R⟩;have:=ft c (u.yr+k) T (show i+j<i+(j+1) by omega) om;simp only;omega
 ·have e:dx c u k=cZ c u.yr (u.yr+k) (dS c u):=by rw [dx,if_neg F]
  rw [e] at o E ⊢;have ab:=dz hU;have U:=di c _ hA;rcases BZ hU F G with ⟨s,s1,s2,_,J,_⟩ | ⟨a,a1,a2,_,_,_,_,_,_,J⟩ | ⟨a,a1,a2,_,_,_,_,_,J⟩
  ·rw [J] at o E ⊢
   rw [mA] at o ⊢;obtain ⟨O,R⟩:=oW (n:=(aT c u:Int)+1+s) (bF c u-aT c u) W F G om (fun w H=>mS E H);exact ⟨fun j=>ax c (u.yr+k)+7*((aT c u:Int)+1+s+j-1),fun _=>0,_,0,o,by omega,rfl,by rw [O];simp [dX,bm],fun j I=>by simp only;omega,fun j I=>absurd I om,fun S=>absurd S om,R⟩
  ·rw [J] at o E ⊢
   rw [mA] at o ⊢;obtain ⟨O,R⟩:=oW (n:=(aT c u:Int)+1) (bF c u-aT c u-1) W F G om (fun w H=>mS E H);exact ⟨fun j=>ax c (u.yr+k)+7*((aT c u:Int)+1+j-1),fun _=>0,_,0,o,by omega,rfl,by rw [O];simp [dX,bm],fun j I=>by simp only;omega,fun j I=>absurd I om,fun S=>absurd S om,R⟩
  ·rw [J] at o E ⊢
   rw [List.length_append,mA,mA] at o ⊢;obtain ⟨O,R⟩:=oW (n:=(aT c u:Int)+1) (a-1-aT c u).toNat W F G om (fun w H=>mS E (List.mem_append.2 (.inl H)));obtain ⟨r1,r2⟩:=oW (n:=a+1) (bF c u-a+1).toNat W F G om (fun w H=>mS E (List.mem_append.2 (.inr H)));refine ⟨fun j=>ax c (u.yr+k)+7*((aT c u:Int)+1+j-1),fun j=>ax c (u.yr+k)+7*(a+1+j-1),_,_,by omega,by omega,rfl,by rw [List.map_append,O,r1],fun j I=>by simp only;omega,fun j I=>by simp only;omega,fun S=>by simp only;omega,fun w H=>?_⟩;rcases List.mem_append.1 H with H | H
   ·exact R w H
   ·exact r2 w H
def I5 (c:ar) (u:Un) (k:Int):List Sp:=oo ((gZ c u k).map (cd c))
theorem Gl {f g:Nat→Int} {m n:Nat} (h:0<m) (o:0<n→f m<g 0):oo (dX f m++dX g n)=if n=0 then [⟨f 0,f m-1⟩] else [⟨f 0,f m-1⟩,⟨g 0,g n-1⟩]:=by
 split
 ·rename_i h0
  subst h0;rw [show dX g 0=[] by simp [dX,bm],List.append_nil];exact vC f m h
 ·exact Fi f g m n h om (by have:=o om;omega)
theorem o5 {c:ar} {u:Un} {k:Int} (f:aE c u=0) (F:c.first≤u.yr+k∧u.yr+k≤c.last):(dx c u k).length≤60:=by
 obtain ⟨I,l1,l5,G,W,hi⟩:=bN f;obtain ⟨R,J,_,_,S,T,_⟩:=a9 I;have E:=di c _ G;unfold dx
 split
 ·obtain ⟨i,m,e,O⟩:=uD (t:=u.yr+k) f F
  rw [e,jV];have o:aI c 5 (u.yr+k)=0:=fE J F ag ag;have:=di c _ (a9 o).2.2.2.2.2.2;rcases Nat.eq_zero_or_pos m with h | h
  ·omega
  ·have:=O h;omega
 ·have U:=sU c u.yr (u.yr+k) (dS c u)
  have V:(dS c u).length=bF c u-aT c u:=jV _ _;have H:=dz f;omega
end
section
open Go.RowKit Go.Shelf Qd
attribute [local go_sem] Oper.semAt_some
theorem ku {f:Array Value} {W:World} {v:Value} {e:Int} (h:f[6]?=some v) (o:f[7]?=some (.int .i64 e)) :
  (results Tryz.f193 f).run Tryz.prog W=.ok (.tuple #[v,e]) W:=by
 simp [results,Tryz.results193,go_sem,h,o]
theorem pM (w:World) (o:Obj):(w.alloc o).heap.size=w.heap.size+1:=ac
theorem CG {w:World} {B:Nat} {a b c:Value} {t:TypeId} (h:ap w B #[a,b,c] t) :
  (w.cell? ⟨B,0,none⟩=some a∧w.cell? ⟨B,1,none⟩=some b∧w.cell? ⟨B,2,none⟩=some c)∧(w.frozen? ⟨B,0,none⟩=false∧w.frozen? ⟨B,1,none⟩=false∧w.frozen? ⟨B,2,none⟩=false):=⟨⟨h.cell 0,h.cell 1,h.cell 2⟩,h.frozen 0,h.frozen 1,h.frozen 2⟩
def jS (c:ar) (u p:Un) (B:Nat) (w:World):Prop:=ap w B (bY c) 24∧ap w (B+1) #[u.lv,u.yr,u.ix] 26∧ap w (B+2) #[p.lv,p.yr,p.ix] 26
theorem jS.call {c:ar} {u p:Un} {B:Nat} {w o:World} (h:jS c u p B w) (f:Below w w o):jS c u p B o:=⟨h.1.call f,h.2.1.call f,h.2.2.call f⟩
theorem jS.alloc {c:ar} {u p:Un} {B:Nat} {w:World} (h:jS c u p B w) (o:Obj):jS c u p B (w.alloc o):=⟨h.1.alloc o,h.2.1.alloc o,h.2.2.alloc o⟩
theorem jS.lt {c:ar} {u p:Un} {B:Nat} {w:World} (h:jS c u p B w):B+2<w.heap.size:=h.2.2.lt
theorem jS.un {c:ar} {u p:Un} {B:Nat} {w:World} (h:jS c u p B w):(w.cell? ⟨B+1,0,none⟩=some (.int .i64 u.lv)∧w.cell? ⟨B+1,1,none⟩=some (.int .i64 u.yr)∧w.cell? ⟨B+1,2,none⟩=some (.int .i64 u.ix)):=⟨h.2.1.cell 0,h.2.1.cell 1,h.2.1.cell 2⟩
theorem jS.pn {c:ar} {u p:Un} {B:Nat} {w:World} (h:jS c u p B w):(w.cell? ⟨B+1+1,0,none⟩=some (.int .i64 p.lv)∧w.cell? ⟨B+1+1,1,none⟩=some (.int .i64 p.yr)∧w.cell? ⟨B+1+1,2,none⟩=some (.int .i64 p.ix))∧(w.frozen? ⟨B+1+1,0,none⟩=false∧w.frozen? ⟨B+1+1,1,none⟩=false∧w.frozen? ⟨B+1+1,2,none⟩=false):=CG (B:=B+1+1) h.2.2
theorem mG (c:ar) (u:Un) (w:World):jS c u u w.heap.size (((w.alloc (.cells (bY c) 24)).alloc (.cells #[u.lv,u.yr,u.ix] 26)).alloc (.cells #[u.lv,u.yr,u.ix] 26)):=by
 refine ⟨((ap.new w _ _).alloc _).alloc _,?_,?_⟩
 ·have:=(ap.new (w.alloc (.cells (bY c) 24)) #[u.lv,u.yr,u.ix] 26).alloc (.cells #[u.lv,u.yr,u.ix] 26)
  simpa using this
 ·have:=ap.new ((w.alloc (.cells (bY c) 24)).alloc (.cells #[u.lv,u.yr,u.ix] 26)) #[u.lv,u.yr,u.ix] 26
  simpa using this
theorem jS.year {c:ar} {u p:Un} {B:Nat} {w:World} (h:jS c u p B w) (y:Int):jS c u ⟨p.lv,y,p.ix⟩ B (w.setCell ⟨B+1+1,1,none⟩ (.int .i64 y)):=⟨h.1.far ae _,h.2.1.far ac _,ap.set3 (B:=B+1+1) h.2.2 _⟩
theorem jS.setp {c:ar} {u p:Un} {B:Nat} {w:World} (h:jS c u p B w) (x y z:Int):jS c u ⟨x,y,z⟩ B (((w.setCell ⟨B+1+1,0,none⟩ (.int .i64 x)).setCell ⟨B+1+1,1,none⟩ (.int .i64 y)).setCell ⟨B+1+1,2,none⟩ (.int .i64 z)):=
 ⟨((h.1.far ae _).far ae _).far ae _,((h.2.1.far ac _).far ac _).far ac _,ap.set123 (B:=B+1+1) h.2.2 _ _ _⟩
theorem Ct (c:ar) (u:Un) (t:Int) (w:World) (hn:c.name.size≤1000) (hU:aE c u=0) (ht:dp c t) (h5:¬ u.lv=5) :
  Calls Tryz.prog 193 #[av c,aC u,t] w fun e w'=>∃ v,e=.returned (.tuple #[v,.int .i64 0])∧zH w' v (dh c u t)∧Below w w w':=by
 have U:=pr hU ht h5;have ah:=dz U;have a5:=di c t (bN U).2.2.2.1;have ay:=tp hU;have V:=tp U;have a7:dh c u t=ij ⟨5,t,(aT c ⟨u.lv,t,u.ix⟩:Int)+1⟩ (bF c ⟨u.lv,t,u.ix⟩ - aT c ⟨u.lv,t,u.ix⟩):=by rw [dh,if_neg h5];rfl
 rw [a7];clear a7;simp only at ah V;have c1:(u.lv==5)=false:=by simpa using h5
 obtain ⟨i0,hi,cb,cl,cp⟩:=info_parts fG;obtain ⟨A0,aF⟩:∃ A,aT c u=A:=⟨_,rfl⟩;obtain ⟨B0,a2⟩:∃ B,bF c u=B:=⟨_,rfl⟩;obtain ⟨A,a0⟩:∃ A,aT c ⟨u.lv,t,u.ix⟩=A:=⟨_,rfl⟩;obtain ⟨B,a3⟩:∃ B,bF c ⟨u.lv,t,u.ix⟩=B:=⟨_,rfl⟩;obtain ⟨N,a4⟩:∃ N,bW c t=N:=⟨_,rfl⟩;rw [aF,a2] at ay;rw [a0,a3] at V ah ⊢;rw [a4] at ah a5;have ab:=hide ay;have ad:=hide V;clear ay V hU U ht h5 aF a2 a0 a3 a4;simp only [av,aC];refine (callsIn_wide (n:=5)).1 ?_;refine callsIn_of_wp_marks Tryz.func193 rfl trivial ?_ rfl;simp only [Tryz.ntmps193,List.size_toArray,List.length_cons,List.length_nil,Nat.reduceAdd,Nat.reduceSub,Array.replicate_succ,Array.replicate_zero,List.push_toArray,List.append_toArray,List.nil_append,List.cons_append]
 gi_wp2_with fail
 have b0:=hide (mG c u w);have bp:=hide (show Below w w (((w.alloc (.cells (bY c) 24)).alloc (.cells #[u.lv,u.yr,u.ix] 26)).alloc (.cells #[u.lv,u.yr,u.ix] 26)) by (repeat' exact bel));refine ⟨trivial,(callsIn_wide.2 (gO c u 5 _ hn)).mono ?_⟩;rintro e w1 ⟨rfl,al⟩;rw [ab.out.1,ab.out.2.1,ab.out.2.2];simp only [aC];have I:=hide (b0.out.call (by exact al));have bt:=hide (bp.out.trans (al.mono ae));clear al;have c8:w.heap.size+2<w1.heap.size:=I.out.lt;have aA:w.heap.size<w1.heap.size:=om;have ba:w.heap.size+1<w1.heap.size:=om;have bb:w.heap.size+1+1<w1.heap.size:=om;obtain ⟨q0,q1,q2,q3,q4,q5,q6,q7,q8,q9,bc,bd,bh,bl⟩:=I.out.1.cal;obtain ⟨u0,u1,u2⟩:=I.out.un;obtain ⟨⟨p0,p1,p2⟩,p3,p4,p5⟩:=I.out.pn
 gi_wp2_with fail
 refine ⟨trivial,(callsIn_wide.2 (gO c ⟨u.lv,t,u.ix⟩ 5 _ hn)).mono ?_⟩;rintro e F ⟨rfl,aq⟩;rw [ad.out.1,ad.out.2.1,ad.out.2.2];simp only [aC];have S:=hide ((((I.out.year t).alloc _).alloc _).call (by exact aq));have bw:=hide (((((bt.out.setCell (p:=⟨w+1+1,1,none⟩) ae (.int .i64 t)).alloc ae _).alloc ae _)).trans (aq.mono ae));clear aq;clear q0 q1 q2 q3 q4 q5 q6 q7 q8 q9 bc bd bh bl;clear u0 u1 u2 p0 p1 p2 p3 p4 p5 aA ba bb;have c9:w.heap.size+2<F.heap.size:=S.out.lt;have aA:w.heap.size<F.heap.size:=om;have ba:w.heap.size+1<F.heap.size:=om;have bb:w.heap.size+1+1<F.heap.size:=om;obtain ⟨q0,q1,q2,q3,q4,q5,q6,q7,q8,q9,bc,bd,bh,bl⟩:=S.out.1.cal;obtain ⟨u0,u1,u2⟩:=S.out.un;obtain ⟨⟨p0,p1,p2⟩,p3,p4,p5⟩:=S.out.pn
 gi_wp2_with fail
 refine ⟨trivial,(m6 _ ⟨5,t,(A:Int)+1⟩ ⟨5,t,(B:Int)⟩ _).mono ?_⟩;rintro e w3 ⟨rfl,rfl⟩;simp only
 gi_wp2_with fail
 have bx:=hide bw.out;have c0:w.heap.size<F.heap.size:=aA;obtain ⟨W5,H⟩:∃ W5:World,W5=((((F.alloc (.cells #[.int .i64 5,t,.int .i64 ((A:Int)+1)] 26)).alloc (.cells #[.int .i64 5,t,.int .i64 (B:Int)] 26)).alloc (.cells #[.slice none 0 0] 115)).alloc (.cells #[.int .i64 5,t,.int .i64 ((A:Int)+1)] 26)).alloc (.cells #[.int .i64 5,t,.int .i64 (B:Int)] 26):=⟨_,rfl⟩;have s0:ap W5 (F+3) #[.int .i64 5,t,.int .i64 ((A:Int)+1)] 26:=by
  rw [H];have:=(ap.new (((F.alloc (.cells #[.int .i64 5,t,.int .i64 ((A:Int)+1)] 26)).alloc (.cells #[.int .i64 5,t,.int .i64 (B:Int)] 26)).alloc (.cells #[.slice none 0 0] 115)) #[.int .i64 5,t,.int .i64 ((A:Int)+1)] 26).alloc (.cells #[.int .i64 5,t,.int .i64 (B:Int)] 26);simpa using this
 have s1:ap W5 (F+4) #[.int .i64 5,t,.int .i64 (B:Int)] 26:=by
  rw [H];have:=ap.new ((((F.alloc (.cells #[.int .i64 5,t,.int .i64 ((A:Int)+1)] 26)).alloc (.cells #[.int .i64 5,t,.int .i64 (B:Int)] 26)).alloc (.cells #[.slice none 0 0] 115)).alloc (.cells #[.int .i64 5,t,.int .i64 ((A:Int)+1)] 26)) #[.int .i64 5,t,.int .i64 (B:Int)] 26;simpa using this
 have sO:Boxed W5 (F.heap.size+2) 115 (.slice none 0 0):=by
  rw [H];have:=((Boxed.new ((F.alloc (.cells #[.int .i64 5,t,.int .i64 ((A:Int)+1)] 26)).alloc (.cells #[.int .i64 5,t,.int .i64 (B:Int)] 26)) 115 (.slice none 0 0)).alloc (.cells #[.int .i64 5,t,.int .i64 ((A:Int)+1)] 26)).alloc (.cells #[.int .i64 5,t,.int .i64 (B:Int)] 26);simpa using this
 have dd:w.heap.size≤F.heap.size+2:=om;have b4:Below w w W5:=by
  have b1:=bx.out;rw [H];refine Below.alloc (Below.alloc (Below.alloc (Below.alloc (Below.alloc b1 ?_ _) ?_ _) ?_ _) ?_ _) ?_ _ <;> first | omega | (simp;omega)
 have c6:W5.heap.size=F.heap.size+5:=by rw [H];simp
 rw [← H];clear H;simp only [pM]
 refine wpIn_rangeFunc_ownH (α:=Wk ⟨5,t,((A:Int)+1)⟩ (B-A)) rfl om (gf:=236) (lb:=#[.pointer (some ⟨F+3,0,none⟩),.pointer (some ⟨F+4,0,none⟩)]) rfl trivial (enters_of Tryz.func236 (by kernel_rfl) rfl)
  (jb ⟨5,t,((A:Int)+1)⟩ ⟨5,t,(B:Int)⟩ (B-A) (by simp only;omega) (by simp only;omega) (F.heap.size+3) (F.heap.size+4) W5 s0 s1)
  da.trans (fun W l o o' _ h1 h2 _=>gF W l o o' h1 h2) (Below.refl _ _) (fun _=>rfl)
  (fun (f:List (Wk ⟨5,t,((A:Int)+1)⟩ (B-A))) W=>(∃ v,Boxed W (F.heap.size+2) 115 v∧W.ownsRow (F.heap.size+2) 26 3 v (cN f).length (eG (cN f))∧(v=.slice none 0 0↔cN f=[]))∧Below w w W)
  (fun _ _ _=>False)
  (OwnFrom.and (Own.from (holdsRow_own (F.heap.size+2) (F.heap.size+2) _ _ 3 (fun (f:List (Wk ⟨5,t,((A:Int)+1)⟩ (B-A)))=>(cN f).length) (fun f=>eG (cN f)) (fun f v=>v=.slice none 0 0↔cN f=[])) _) (ownFrom_below (Nat.le_refl _) om))
  (fun _ _ _ _ _ hs _ _=>hs)
  ⟨⟨_,sO,World.ownsRow_nil _ _ _ _,by simp [cN]⟩,b4⟩
  (KE (F.heap.size+2) ?a1) (fun x a'=>oQ _ _ x a' _)
  ?assign ?body ?done ?stop
 case assign =>
  rintro l f x W K ⟨⟨v,R,E,G⟩,hB⟩ hK;have b5:=hide hK;clear hK;obtain ⟨Bx,T⟩:∃ Bx,Bx=W.heap.size:=⟨_,rfl⟩;simp only [AG,aC]
  gi_wp2
  rw [← T];have b6:=fun a' (h:a'=_)=>b5.out a' _ ((KeepsOthers.alloc _ _).from _) (da.alloc _ _) ⟨⟨v,R.alloc _,E.alloc _,G⟩,hB.alloc hB.size _⟩ ⟨Bx,by rw [T];exact R.lt,by rw [T];exact ap.new W #[.int .i64 x.1.lv,.int .i64 x.1.yr,.int .i64 x.1.ix] 26,h⟩
  have b7:=b6 _ rfl;exact b7
 case body =>
  rintro l f ⟨x,c7⟩ a' W hl ⟨r,hr⟩ ⟨⟨v,R,E,G⟩,hB⟩ ⟨Bx,T,bX,rfl⟩ c4;simp only at bX ⊢;have cI:W.cell? ⟨Bx,0,none⟩=some (.int .i64 x.lv):=bX.cell 0;have cM:W.cell? ⟨Bx,1,none⟩=some (.int .i64 x.yr):=bX.cell 1;have cS:W.cell? ⟨Bx,2,none⟩=some (.int .i64 x.ix):=bX.cell 2;have hc:=R.cell;have b8:F.heap.size+2≤W.heap.size:=Nat.le_of_lt R.lt;have c5:(cN f).length+1≤2000000:=by rw [kB];omega
  gi_wp2_with (gi_at_builtin;refine ee _ rfl _ _ 115 rfl (F.heap.size+2) 26 i0 (.agg #[.int .i64 0,.int .i64 0,.int .i64 0]) 3 24 Tryz.underlying115 hi cb cl cp rfl ag _ _ _ rfl (E.alloc _) ⟨W,0,none⟩ 1 1 [.int .i64 x.lv,.int .i64 x.yr,.int .i64 x.ix] rfl rfl (iO _ _ _ _ _) (by simp [Value.oneCell']) (by unfold maxLen;omega) om ae om ?_;intro v' w6 O J cs;obtain ⟨g',aB,rfl⟩:=ownsRow_succ O;obtain ⟨a6,cE,cy,cr,b9⟩:=R.appended ag E b8 om O J;have c2:=a6.cell;have c3:=a6.frozen)
  have ca:=ug (v':=.slice (some ⟨g',0,none⟩) ((cN f).length+1) aB) R E (by rcases Nat.eq_zero_or_pos (cN f).length with h | h;exact .inl (G.2 (List.length_eq_zero_iff.1 h));exact .inr h) J cs;refine ⟨cr.from _,ca,⟨_,cE,?_,?_⟩,hB.trans (b9.mono om)⟩
  ·rw [dP,gl]
   simpa using cy
  ·rw [dP]
   simp
 case done =>
  rintro D xs W hD a8 ⟨⟨v,R,E,G⟩,hB⟩ hK;rw [show cN xs=ij ⟨5,t,((A:Int)+1)⟩ (B-A) from a8] at E G;clear a8;have hc:=R.cell;have b3:=hide E;have b2:=hide G;clear E G R
  gi_wp2
  refine ⟨by simp,.inl ⟨_,_,rfl,run_takeDeferred hK,?_⟩⟩;refine ⟨_,ku rfl rfl,v,rfl,?_,?_⟩
  ·exact tc (b:=0) (ownsRow_putObj (b3.out.base (Nat.zero_le _)) _ hK rfl) b2.out
  ·exact hB.trans (belowK_b (w:=w) (Nat.le_refl _) _ D _ _ om hK rfl rfl)
 case stop =>
  rintro D cc f W _ _ h _;exact h.elim
end
end Go.Proofs.YtjhhmeoibfdcmaaGreat
