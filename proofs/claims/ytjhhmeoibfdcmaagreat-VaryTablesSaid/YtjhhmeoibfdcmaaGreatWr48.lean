/- The closed facts of the row of VaryTables, one by one. -/
import Derived.Test.YtjhhmeoibfdcmaaGreatWr08
import Derived.Test.YtjhhmeoibfdcmaaGreatWr26
import Derived.Test.YtjhhmeoibfdcmaaGreatWr42
import Derived.Test.YtjhhmeoibfdcmaaGreatWr46
set_option linter.unusedSimpArgs false
set_option linter.unusedVariables false
set_option maxRecDepth 100000
set_option maxHeartbeats 12800000
namespace Go.Proofs.YtjhhmeoibfdcmaaGreat
section
open Go.RowKit Qd
theorem Lu {lv y:Int} {n j:Nat} (h:j<n):(yU lv y n)[j]?=some ⟨lv,y,(j:Int)+1⟩:=by simp [yU,bm,h]
theorem KZ (lv y:Int) (n:Nat):(yU lv y n).length=n:=by simp [yU,bk]
theorem EW {c:ar} {lv y:Int} (G:aI c lv y=0):aR c y lv≤60:=by
 obtain ⟨J,V,E,F,O,R,o⟩:=a9 G;have I:=di c y o;rcases Nat.eq_zero_or_pos (aR c y lv) with h | h
 ·omega
 ·have H:=lu (j:=aR c y lv-1) G om
  have:=dz H;have f:∀ i,i≤aR c y lv→i≤aW c y lv i:=by
   intro i
   induction i with
   | zero=>intro _;omega
   | succ i S =>
    intro hi;have:=kx c y o lv E F i om;have:=S om;omega
  have T:=f _ (Nat.le_refl _);have U:=cT c y o lv E F _ (Nat.le_refl (aR c y lv));omega
def lS (x:Rw):List Value:=[.int .i64 x.u.lv,.int .i64 x.u.yr,.int .i64 x.u.ix,.int .i64 x.this,.int .i64 x.that,.int .i64 x.diff,.bool x.gone]
def ej (w:World) (g:Nat) (D:List Rw):Prop:=w.heap[g]?=some (.cells (D.flatMap lS).toArray 69 (0,0))
theorem ej.lt {w:World} {g:Nat} {D:List Rw} (h:ej w g D):g<w.heap.size:=(Array.getElem?_eq_some_iff.1 h).1
theorem wX (D:List Rw) (i:Nat) (x:Rw) (h:D[i]?=some x):(D.flatMap lS)[i*7]?=some (.int .i64 x.u.lv)∧(D.flatMap lS)[i*7+1]?=some (.int .i64 x.u.yr)∧(D.flatMap lS)[i*7+2]?=some (.int .i64 x.u.ix)∧(D.flatMap lS)[i*7+3]?=some (.int .i64 x.this)∧(D.flatMap lS)[i*7+4]?=some (.int .i64 x.that)∧(D.flatMap lS)[i*7+5]?=some (.int .i64 x.diff)∧(D.flatMap lS)[i*7+6]?=some (.bool x.gone):=by
 induction D generalizing i with
 | nil=>simp at h
 | cons y l f =>
  cases i with
  | zero=>simp at h;subst h;simp [lS]
  | succ i =>
   have:=f i (by simpa using h);rw [show (i+1)*7=i*7+1+1+1+1+1+1+1 by omega];simpa [lS] using this
theorem Jj (D:List Rw) (i:Nat) (x:Rw) (h:i<D.length):(((((((D.flatMap lS).set (i*7) (.int .i64 x.u.lv)).set (i*7+1) (.int .i64 x.u.yr)).set (i*7+2) (.int .i64 x.u.ix)).set (i*7+3) (.int .i64 x.this)).set (i*7+4) (.int .i64 x.that)).set (i*7+5) (.int .i64 x.diff)).set (i*7+6) (.bool x.gone)=(D.set i x).flatMap lS:=by
 induction D generalizing i with
 | nil=>simp at h
 | cons y l f =>
  cases i with
  | zero=>simp [lS]
  | succ i =>
   have:=f i (by simpa using h);rw [show (i+1)*7=i*7+1+1+1+1+1+1+1 by omega];simpa [lS] using this
theorem ej.cell {w:World} {g:Nat} {D:List Rw} (h:ej w g D) {i:Nat} {x:Rw} (hi:D[i]?=some x):w.cell? ⟨g,i*7,none⟩=some (.int .i64 x.u.lv)∧w.cell? ⟨g,i*7+1,none⟩=some (.int .i64 x.u.yr)∧w.cell? ⟨g,i*7+2,none⟩=some (.int .i64 x.u.ix)∧w.cell? ⟨g,i*7+3,none⟩=some (.int .i64 x.this)∧w.cell? ⟨g,i*7+4,none⟩=some (.int .i64 x.that)∧w.cell? ⟨g,i*7+5,none⟩=some (.int .i64 x.diff)∧w.cell? ⟨g,i*7+6,none⟩=some (.bool x.gone):=by
 have:=wX D i x hi;simp [World.cell?,show w.heap[g]?=_ from h,this]
theorem ej.frozen {w:World} {g:Nat} {D:List Rw} (h:ej w g D) (k:Nat):w.frozen? ⟨g,k,none⟩=false:=by simp [World.frozen?,show w.heap[g]?=_ from h]
theorem ej.call {w f:World} {g:Nat} {D:List Rw} (h:ej w g D) (o:Below w w f):ej f g D:=(o.block g h.lt).trans h
def rx (w:World) (g i:Nat) (x:Rw):World:=(((((((w).setCell ⟨g,i*7,none⟩ (.int .i64 x.u.lv)).setCell ⟨g,i*7+1,none⟩ (.int .i64 x.u.yr)).setCell ⟨g,i*7+2,none⟩ (.int .i64 x.u.ix)).setCell ⟨g,i*7+3,none⟩ (.int .i64 x.this)).setCell ⟨g,i*7+4,none⟩ (.int .i64 x.that)).setCell ⟨g,i*7+5,none⟩ (.int .i64 x.diff)).setCell ⟨g,i*7+6,none⟩ (.bool x.gone)
theorem ej.put {w:World} {g:Nat} {D:List Rw} (h:ej w g D) (i:Nat) (x:Rw) (hi:i<D.length):ej (rx w g i x) g (D.set i x):=by
 unfold ej rx at *;rw [← Jj D i x hi];simp [World.setCell,Array.getElem?_modify,h]
theorem wS {o w:World} {K g i:Nat} {x:Rw} (h:Below K o w) (f:K≤g):Below K o (rx w g i x):=(((((((h.setCell f _).setCell f _).setCell f _).setCell f _).setCell f _).setCell f _).setCell f _)
theorem Aa:(Tryz.prog.info? 69).map (fun i=>(i.zero,i.size,i.bytes))=some (some (.agg #[.int .i64 0,.int .i64 0,.int .i64 0,.int .i64 0,.int .i64 0,.int .i64 0,.bool false]),7,56):=by kernel_rfl
abbrev Cv:Rw:=⟨⟨0,0,0⟩,0,0,0,false⟩
def rY (n:Nat):Obj:=.cells ((List.replicate n Cv).flatMap lS).toArray 69
theorem ej.new (w:World) (n:Nat):ej (w.alloc (rY n)) w.heap.size (List.replicate n Cv):=by
 unfold ej rY;rw [heap_alloc_new]
theorem xL (n i:Nat) (h:i<n*7):((List.replicate n Cv).flatMap lS)[i]?=some (#[.int .i64 0,.int .i64 0,.int .i64 0,.int .i64 0,.int .i64 0,.int .i64 0,Value.bool false].toList.getD (i % 7) undef):=by
 have J:i / 7<n:=om;have O:(List.replicate n Cv)[i / 7]?=some Cv:=by simp [J]
 obtain ⟨f,o,E,F,G,H,I⟩:=wX _ _ _ O;rcases (show i % 7=0∨i % 7=1∨i % 7=2∨i % 7=3∨i % 7=4∨i % 7=5∨i % 7=6 by omega) with h | h | h | h | h | h | h
 ·have e:i / 7*7=i:=om
  have:=f;rw [e] at this;rw [h];exact this
 ·have e:i / 7*7+1=i:=om
  have:=o;rw [e] at this;rw [h];exact this
 ·have e:i / 7*7+2=i:=om
  have:=E;rw [e] at this;rw [h];exact this
 ·have e:i / 7*7+3=i:=om
  have:=F;rw [e] at this;rw [h];exact this
 ·have e:i / 7*7+4=i:=om
  have:=G;rw [e] at this;rw [h];exact this
 ·have e:i / 7*7+5=i:=om
  have:=H;rw [e] at this;rw [h];exact this
 ·have e:i / 7*7+6=i:=om
  have:=I;rw [e] at this;rw [h];exact this
theorem Hu (n:Nat) (T:n≤100000) (w:World):(Instr.makeSlice 73 (.int .i64 (n:Int)) (.int .i64 (n:Int))).run Tryz.prog w=.ok (.slice (some ⟨w,0,none⟩) n n) (w.alloc (rY n)):=by
 obtain ⟨R,hi,f,o,E⟩:=info_parts Aa;have O:=run_make (P:=Tryz.prog) w 73 69 R (.agg #[.int .i64 0,.int .i64 0,.int .i64 0,.int .i64 0,.int .i64 0,.int .i64 0,.bool false]) Tryz.underlying73 hi f .i64 .i64 n n om om (by rw [E];omega) om;rw [O,o];have e:madeCells (Value.agg #[.int .i64 0,.int .i64 0,.int .i64 0,.int .i64 0,.int .i64 0,.int .i64 0,.bool false]).cells (((n:Int)).toNat*7)=((List.replicate n Cv).flatMap lS).toArray:=by
  apply Array.ext
  ·simp [madeCells,lS]
  ·intro i S F
   have G:i<n*7:=by simpa [lS] using F
   have H:=xL n i G;have I:=(List.getElem?_eq_some_iff.1 H).2;have J:((List.replicate n Cv).flatMap lS).toArray[i]'F=#[.int .i64 0,.int .i64 0,.int .i64 0,.int .i64 0,.int .i64 0,.int .i64 0,Value.bool false].toList.getD (i % 7) undef:=by
    rw [List.getElem_toArray];exact I
   rw [J];rcases (show i % 7=0∨i % 7=1∨i % 7=2∨i % 7=3∨i % 7=4∨i % 7=5∨i % 7=6 by omega) with h | h | h | h | h | h | h <;> simp [madeCells,Value.cells,h]
 rw [e];simp [rY]
def i4 (c:ar) (k:Int) (P:List Po) (A:List Ac) (Z:dD):List Un→Int
 | []=>0
 | x::l=>if io c x k P A Z=0 then i4 c k P A Z l else io c x k P A Z
theorem o7 {c:ar} {k:Int} {P:List Po} {A:List Ac} {Z:dD} {L:List Un} {j:Nat} {x:Un} (f:L[j]?=some x) (h:i4 c k P A Z (L.take j)=0) (E:io c x k P A Z=0):i4 c k P A Z (L.take (j+1))=0:=by
 induction L generalizing j with
 | nil=>simp at f
 | cons y l F =>
  cases j with
  | zero=>simp at f;subst f;simp [i4,E]
  | succ j =>
   simp only [List.take_succ_cons,i4] at h ⊢;by_cases o:io c y k P A Z=0
   ·rw [if_pos o] at h ⊢;exact F (by simpa using f) h
   ·rw [if_neg o] at h;exact absurd h o
theorem vJ {c:ar} {k:Int} {P:List Po} {A:List Ac} {Z:dD} {L:List Un} {j:Nat} {x:Un} (f:L[j]?=some x) (h:i4 c k P A Z (L.take j)=0) (E:¬ io c x k P A Z=0):i4 c k P A Z L=io c x k P A Z:=by
 induction L generalizing j with
 | nil=>simp at f
 | cons y l F =>
  cases j with
  | zero=>simp at f;subst f;simp [i4,E]
  | succ j =>
   simp only [List.take_succ_cons,i4] at h ⊢;by_cases o:io c y k P A Z=0
   ·rw [if_pos o] at h ⊢;exact F (by simpa using f) h
   ·rw [if_neg o] at h;exact absurd h o
def j0 (c:ar) (lv y k:Int) (P:List Po) (A:List Ac) (Z:dD):Int:=if aI c lv y=0 then i4 c k P A Z (yU lv y (aR c y lv)) else aI c lv y
def jg (c:ar) (lv y k:Int) (P:List Po) (A:List Ac) (Z:dD):List Rw:=(yU lv y (aR c y lv)).map fun x=>mM c x k P A Z
theorem pH (c:ar) (lv y k:Int) (P:List Po) (A:List Ac) (Z:dD):(jg c lv y k P A Z).length=aR c y lv:=by simp [jg,KZ]
theorem vO {c:ar} {lv y k:Int} {P:List Po} {A:List Ac} {Z:dD} {j:Nat} (h:j<aR c y lv):(jg c lv y k P A Z)[j]?=some (mM c ⟨lv,y,(j:Int)+1⟩ k P A Z):=by
 rw [jg,List.getElem?_map,Lu h];rfl
theorem FN (c:ar) (lv y k:Int) (P:List Po) (A:List Ac) (Z:dD) (v1 v2:Value) (w:World) (hn:c.name.size≤1000) (hP:cL w v1 P) (hA:eo w v2 A) (hB:me c P A v2 Z) :
  Calls Tryz.prog 38 #[av c,lv,y,k,.agg #[v1,v2]] w fun e w'=>(∃ v,e=.returned (.tuple #[v,j0 c lv y k P A Z])∧(j0 c lv y k P A Z=0→∃ g,v=.slice (some ⟨g,0,none⟩) (aR c y lv) (aR c y lv)∧ej w' g (jg c lv y k P A Z)∧w.heap.size≤g)∧(¬ j0 c lv y k P A Z=0→v=.slice none 0 0))∧Below w w w':=by
 have HP:=hide hP;have HA:=hide hA;have H0:=hide (mE c v1 v2 w);have HB:=hide hB;clear hB;obtain ⟨a6,aB,rfl,_⟩:=hP;obtain ⟨a7,aF,rfl,_⟩:=hA;simp only [av];go_enter Tryz.func38,Tryz.ntmps38;go_wp2_with fail;refine (rB c lv y _ hn).mono ?_;rintro e F ⟨rfl,a0⟩;have ab:=hide (H0.out.call a0);clear a0;have o:=ab.out.2.2.2;by_cases J:aI c lv y=0
 rotate_left
 ·have V:=hide (show j0 c lv y k P A Z=aI c lv y by rw [j0,if_neg J])
  have hE:(aI c lv y != 0)=true:=by simpa using J
  have HF:=hide J;obtain ⟨E,H⟩:∃ E,aI c lv y=E:=⟨_,rfl⟩;rw [H] at V hE HF ⊢;clear J H;go_wp2;go_ret2;exact ⟨⟨.slice none 0 0,by rw [V.out];rfl,fun h=>absurd (V.out.symm.trans h) HF.out,fun _=>rfl⟩,o⟩
 have HF:=hide J;rw [J,show ff c lv y=(aR c y lv:Int) by rw [ff,if_pos J]];have a8:=EW J;have V:=hide (show j0 c lv y k P A Z=i4 c k P A Z (yU lv y (aR c y lv)) by rw [j0,if_pos J]);obtain ⟨n,ah⟩:∃ n,aR c y lv=n:=⟨_,rfl⟩;have U:=hide ah;rw [ah] at a8 V ⊢;clear J ah;have b0:=fun w=>Hu n om w
 have HL:=hide (show (jg c lv y k P A Z).length=n by rw [pH,U.out]);have HG:=hide (fun (j:Nat) (h:j<n)=>vO (c:=c) (lv:=lv) (y:=y) (k:=k) (P:=P) (A:=A) (Z:=Z) (j:=j) (by rw [U.out];exact h));have ay:=hide (fun (x:Un) (W:World) (h1:cL W (.slice a6 P.length aB) P) (h2:eo W (.slice a7 A.length aF) A)=>qj c x k P A Z _ _ W hn h1 h2 HB.out);simp only [av,aC] at ay;have H4:=hide (show ej (F.alloc (rY n)) F.heap.size (bV Cv (jg c lv y k P A Z) 0)∧Below F F (F.alloc (rY n)) from ⟨by rw [iw,HL.out];exact ej.new F n,(Below.refl _ _).alloc (Nat.le_refl _) _⟩);go_wp2_with fail;go_loopw [29] (fun aq wr=>∃ j:Nat,aq=.int .i64 j∧j≤n∧i4 c k P A Z ((yU lv y n).take j)=0∧Hid (ej wr F.heap.size (bV Cv (jg c lv y k P A Z) j)∧Below F F wr)) (fun aq _=>(n+5-intOf aq).toNat)
 case atStart=>exact ⟨0,rfl,Nat.zero_le _,rfl,H4⟩
 case round =>
  obtain ⟨j,rfl,hj,I,T⟩:=hrel;have O:=ab.out.call T.out.2;have bw:=T.out.1.lt;by_cases S:j<n
  ·obtain ⟨q0,q1,q2,q3,q4,q5,q6,q7,q8,q9,bd,bh,bl,bp⟩:=O.1
   obtain ⟨⟨k0,k1⟩,_⟩:=fj O.2.1;have ba:=ab.out.2.2.1;have bb:w.heap.size<wr.heap.size:=om;have bc:w.heap.size+1<wr.heap.size:=om;have bx:(0:Int)≤(j:Int):=om;have bX:(j:Int)<(n:Int):=om;have aA:=hide I;clear I O;go_wp2_with fail;have a1:=o.trans (T.out.2.mono o.size);refine (ay.out ⟨lv,y,(j:Int)+1⟩ _ (HP.out.call a1) (HA.out.call a1)).mono ?_;rintro e w4 ⟨rfl,ad⟩;have f:=hide (show ej w4 F.heap.size (bV Cv (jg c lv y k P A Z) j)∧Below F F w4 from ⟨T.out.1.call ad,T.out.2.trans (ad.mono T.out.2.size)⟩);clear ad q0 q1 q2 q3 q4 q5 q6 q7 q8 q9 bd bh bl bp k0 k1 ba bb bc;have hx:=Lu (lv:=lv) (y:=y) S;have R:=HG.out j S;obtain ⟨x,al⟩:∃ x:Rw,mM c ⟨lv,y,(j:Int)+1⟩ k P A Z=x:=⟨_,rfl⟩;rw [al] at R ⊢;have HN:=hide (show ej (rx w4 F.heap.size j x) F.heap.size (bV Cv (jg c lv y k P A Z) (j+1))∧Below F F (rx w4 F.heap.size j x) from by
    have h:=f.out.1.put j x (by rw [mO _ _ _ (by rw [HL.out];omega),HL.out];exact S);rw [jw _ _ _ _ R] at h;exact ⟨h,wS f.out.2 (Nat.le_refl _)⟩)
   have G:=o.trans (HN.out.2.mono o.size);unfold rx at HN G;obtain ⟨s0,s1,s2,s3,s4,s5,s6⟩:=f.out.1.cell (oJ Cv (jg c lv y k P A Z) j (by rw [HL.out];exact S));have n0:=f.out.1.frozen (j*7);have n1:=f.out.1.frozen (j*7+1);have n2:=f.out.1.frozen (j*7+2);have n3:=f.out.1.frozen (j*7+3);have n4:=f.out.1.frozen (j*7+4);have n5:=f.out.1.frozen (j*7+5);have n6:=f.out.1.frozen (j*7+6);have bt:=f.out.1.lt;simp only [kC];by_cases hT:io c ⟨lv,y,(j:Int)+1⟩ k P A Z=0
   rotate_left
   ·have HE:=hide (show j0 c lv y k P A Z=io c ⟨lv,y,(j:Int)+1⟩ k P A Z by rw [V.out];exact vJ hx aA.out hT)
    have hE:(io c ⟨lv,y,(j:Int)+1⟩ k P A Z != 0)=true:=by simpa using hT
    have HT:=hide hT;obtain ⟨E,H⟩:∃ E,io c ⟨lv,y,(j:Int)+1⟩ k P A Z=E:=⟨_,rfl⟩;rw [H] at HE hE HT ⊢;clear hT H hx al R;go_wp2;go_ret2;exact ⟨⟨.slice none 0 0,by rw [HE.out];rfl,fun h=>absurd (HE.out.symm.trans h) HT.out,fun _=>rfl⟩,G⟩
   have a5:=hide (o7 hx aA.out hT);rw [hT];clear hx R al hT;go_wp2;go_roundw
   case rel=>exact ⟨j+1,by go_num,by omega,a5.out,HN⟩
   case measure=>simp [intOf];omega
  ·obtain rfl:j=n:=om
   have a4:=hide (show ej wr F.heap.size (jg c lv y k P A Z) from by
    have h:=T.out.1;have e1:=iq Cv (jg c lv y k P A Z);rw [HL.out] at e1
    rwa [e1] at h)
   rw [List.take_of_length_le (by rw [KZ];exact Nat.le_refl _)] at I;have HE:=hide (V.out.trans I);have a2:=o.size;have a3:=hide (o.trans (T.out.2.mono a2));clear I O;go_wp2
   all_goals first
    | (exfalso;omega)
    | skip
   go_ret2;exact ⟨⟨.slice (some ⟨F,0,none⟩) j j,by rw [HE.out];rfl,fun _=>⟨_,by rw [U.out],a4.out,a2⟩,fun h=>absurd HE.out h⟩,a3.out⟩
end
end Go.Proofs.YtjhhmeoibfdcmaaGreat
namespace Go.Proofs.YtjhhmeoibfdcmaaGreat.varyTables
section
open Go.ChangeShapes Go.WideShapes Go.ChangeAt Go.RowKit
theorem j1:(Rows.varyTablesRow.wf (OpenSpec.ofChange Rows.varyTablesSpec))=true:=by kernel_rfl
theorem j2:(laidOutB Tryz.pinned.checked.prog)=true:=by kernel_rfl
theorem j3:(mapsRowed Tryz.pinned.checked.prog)=true:=by kernel_rfl
theorem j4:(Tryz.f8.params.all (Tryz.pinned.checked.prog.readableRec ·))=true:=by kernel_rfl
theorem j5:(namedTie Tryz.pinned.checked.prog Rows.varyTablesRow.named Rows.varyTablesSpec.vars)=true:=by kernel_rfl
theorem j6:((Rows.varyTablesRow.stops==[]))=true:=by kernel_rfl
theorem j7:((Tryz.pinned.checked.prog.stops==[]))=true:=by kernel_rfl
theorem j8:((Rows.varyTablesRow.knobs==[]))=true:=by kernel_rfl
theorem j9:((Tryz.pinned.checked.prog.stopKnobs==[]))=true:=by kernel_rfl
theorem Lc:((Rows.varyTablesRow.inPlace==Tryz.pinned.checked.prog.inPlace 8))=true:=by kernel_rfl
theorem Ly:((Rows.varyTablesRow.unfollowed==Tryz.pinned.checked.prog.unfollowed 8))=true:=by kernel_rfl
theorem Lr:((Rows.varyTablesRow.recurses==Tryz.pinned.checked.prog.recurses 8))=true:=by kernel_rfl
theorem LZ:((Rows.varyTablesRow.named==Tryz.pinned.checked.prog.varsNamed 8))=true:=by kernel_rfl
theorem LY:((Rows.varyTablesRow.maps==(Tryz.f8.params.toList++Rows.varyTablesSpec.plain.varTypes Tryz.pinned.checked.prog).any (Tryz.pinned.checked.prog.mapsRec ·)))=true:=by kernel_rfl
theorem LP:((Rows.varyTablesRow.ifaces==(Tryz.f8.params.toList++Rows.varyTablesSpec.plain.varTypes Tryz.pinned.checked.prog).any (Tryz.pinned.checked.prog.ifacesRec ·)))=true:=by kernel_rfl
theorem LK:((Rows.varyTablesRow.mapsOut==Tryz.pinned.checked.prog.mapsAmong Tryz.f8.resultTypes.toList))=true:=by kernel_rfl
theorem LU:((Rows.varyTablesRow.loops==(Tryz.f8.params.toList++Rows.varyTablesSpec.plain.varTypes Tryz.pinned.checked.prog).any (Tryz.pinned.checked.prog.loopsFrom ·)))=true:=by kernel_rfl
theorem Lf:((Rows.varyTablesRow.wideKeys==(Tryz.f8.params.toList++Rows.varyTablesSpec.plain.varTypes Tryz.pinned.checked.prog++Tryz.f8.resultTypes.toList).any (Tryz.pinned.checked.prog.wideKeysFrom ·)))=true:=by kernel_rfl
theorem Le:(Rows.varyTablesSpec.vars.all (Tryz.pinned.checked.prog.varReadable ·))=true:=by kernel_rfl
theorem LH:(Tryz.f8.resultTypes.all (fun t=>Tryz.pinned.checked.prog.readableRec t&&decide (t<Tryz.pinned.checked.prog.types.size)))=true:=by kernel_rfl
theorem Lg:((Rows.varyTablesRow.ifacesOut==Tryz.f8.resultTypes.toList.any (Tryz.pinned.checked.prog.ifacesRec ·)))=true:=by kernel_rfl
theorem LN:((Rows.varyTablesRow.loopsOut==Tryz.f8.resultTypes.toList.any (Tryz.pinned.checked.prog.loopsFrom ·)))=true:=by kernel_rfl
theorem Lt:((Rows.varyTablesRow.plainKeys==Tryz.pinned.checked.prog.plainKeys))=true:=by kernel_rfl
theorem LB:(Rows.varyTablesRow.shortTexts.isNone)=true:=by kernel_rfl
theorem Ln:(Tryz.pinned.checked.prog.stopsHeard)=true:=by kernel_rfl
theorem Ll:(Tryz.pinned.checked.prog.mayEnter)=true:=by kernel_rfl
theorem Lb:((Rows.varyTablesRow.lifted==Tryz.pinned.checked.prog.liftsFinal))=true:=by kernel_rfl
theorem LI:((Tryz.pinned.checked.prog.make==some Rows.varyTablesRow.make))=true:=by kernel_rfl
theorem Li:((Rows.varyTablesRow.pinned==Rows.varyTablesRow.pinnedBy))=true:=by kernel_rfl
theorem LF:((Rows.varyTablesRow.veiled==(Tryz.f8.params.toList++Rows.varyTablesSpec.plain.varTypes Tryz.pinned.checked.prog++Tryz.f8.resultTypes.toList).any (Tryz.pinned.checked.prog.veiledRec ·)))=true:=by kernel_rfl
theorem KX:(Rows.varyTablesRow.veiledFits Tryz.pinned.checked.prog Tryz.f8.params.toList (Tryz.f8.params.toList++Rows.varyTablesSpec.plain.varTypes Tryz.pinned.checked.prog++Tryz.f8.resultTypes.toList))=true:=by kernel_rfl
theorem yp:joinedFacts Tryz.pinned.checked.prog 8 Tryz.f8 Rows.varyTablesSpec Rows.varyTablesRow=true:=by
 unfold joinedFacts;rw [j1,j2,j3,j4,j5,j6,j7,j8,j9,Lc,Ly,Lr,LZ,LY,LP,LK,LU,Lf,Le,LH,Lg,LN,Lt,LB,Ln,Ll,Lb,LI,Li,LF,KX]
 kernel_rfl
end
end Go.Proofs.YtjhhmeoibfdcmaaGreat.varyTables
