/- Lemmas. -/
import Derived.Maps.AppendAt
import Derived.Test.YtjhhmeoibfdcmaaGreatWr17
import Derived.Test.YtjhhmeoibfdcmaaGreatWr29
set_option linter.unusedSimpArgs false
set_option linter.unusedVariables false
set_option maxRecDepth 100000
set_option maxHeartbeats 12800000
namespace Go.Proofs.YtjhhmeoibfdcmaaGreat
section
open Go.RowKit Qd
theorem te (x y:Un):tM x.lv x.yr x.ix y.lv y.yr y.ix=true↔x=y:=by
 obtain ⟨a,b,c⟩:=x;obtain ⟨d,e,f⟩:=y;simp [tM]
instance L6:DecidableEq Un:=fun x y=>decidable_of_iff (tM x.lv x.yr x.ix y.lv y.yr y.ix=true) (te x y)
theorem gx (e:Un × Value × Nat) (L:fW) (x:Un):bE (e::L) x=if x=e.1 then some e.2.1 else bE L x:=by
 simp only [bE,te]
theorem vy (L:fW) (x:Un) (i:Nat) (w:World):∃ j,(Instr.findAsking 26 (aC x) (eu L).toList i).run Tryz.prog w=.ok ((bE L x).map fun v=>(i+j,v)) w ∧
  (∀ v,bE L x=some v→∃ e o G,L=o++e::G∧o.length=j∧e.1=x∧bE o x=none):=by
 induction L generalizing i with
 | nil=>exact ⟨0,by simp [eu,Instr.findAsking,bE],fun v h=>by simp [bE] at h⟩
 | cons e L S =>
  obtain ⟨j,O,R⟩:=S (i+1);have F:(Op.equal 26 (aC x) (aC e.1)).run Tryz.prog w=.ok (tM x.lv x.yr x.ix e.1.lv e.1.yr e.1.ix) w:=no 9998 x.lv x.yr x.ix e.1.lv e.1.yr e.1.ix w;have J:(eu (e::L)).toList=({ key:=aC e.1,val:=e.2.1,born:=e.2.2 }:MapEntry)::(eu L).toList:=by simp [eu]
  rw [J];cases f:tM x.lv x.yr x.ix e.1.lv e.1.yr e.1.ix
  ·refine ⟨j+1,?_,?_⟩
   ·rw [f] at F
    have E:bE (e::L) x=bE L x:=by simp [bE,f]
    rw [E];simp only [Instr.findAsking,Sem.run_bind,F,Result.andThen_ok,Bool.false_eq_true,if_false];rw [show i+(j+1)=i+1+j by omega];exact O
   ·intro v H
    have E:bE (e::L) x=bE L x:=by simp [bE,f]
    rw [E] at H;obtain ⟨I,o,G,T,U,V,W⟩:=R v H;exact ⟨I,e::o,G,by rw [T];rfl,by simp [U],V,by simp [bE,f,W]⟩
  ·refine ⟨0,?_,?_⟩
   ·rw [f] at F
    have E:bE (e::L) x=some e.2.1:=by simp [bE,f]
    rw [E];simp only [Instr.findAsking,Sem.run_bind,F,Result.andThen_ok,if_true];rfl
   ·intro v H
    exact ⟨e,[],L,rfl,rfl,((te _ _).1 f).symm,rfl⟩
theorem lC (f h:fW) (x:Un):bE (f++h) x=(bE f x).or (bE h x):=by
 induction f with
 | nil=>simp [bE]
 | cons e L o =>
  rw [List.cons_append,gx,gx,o]
  split <;> simp
theorem Fc (n:Nat) (a:Int):Instr.sameBits (n+1) (.int .i64 a) (.int .i64 a)=true:=by simp [Instr.sameBits]
theorem Aw (x:Un):Instr.sameBits 10000 (aC x) (aC x)=true:=by
 show Instr.sameBits (9999+1) (aC x) (aC x)=true;simp only [aC,Instr.sameBits];simp [Fc 9998]
def Dp (L:fW) (f:Nat):Prop:=(L.map fun e=>e.2.2).Nodup∧∀ e∈L,e.2.2<f
def sL (w:World) (M:Nat) (L:fW) (f:Nat):Prop:=w.heap[M]?=some (.map (eu L) f)∧Dp L f
theorem CX:Dp [] 0:=⟨List.nodup_nil,fun e h=>by simp at h⟩
def ec (w:World) (M:Nat) (L:fW) (f:Nat):World:={ w with heap:=w.heap.setIfInBounds M (.map (eu L) f) }
theorem rX {w:World} {M:Nat} {o:fW} {E:Nat} (h:w.heap[M]?=some (.map (eu o) E)) (L:fW) (f:Nat):(ec w M L f).heap[M]?=some (.map (eu L) f):=by
 have:=(Array.getElem?_eq_some_iff.1 h).1;simp [ec,this]
theorem dZ {w:World} {M b:Nat} (L:fW) (f:Nat) (h:b≠M):(ec w M L f).heap[b]?=w.heap[b]?:=by
 simp [ec,Array.getElem?_setIfInBounds,Ne.symm h]
theorem dF (w:World) (M:Nat) (L:fW) (f:Nat):(ec w M L f).heap.size=w.heap.size:=by simp [ec]
theorem mo {K M:Nat} {o w:World} (h:Below K o w) (E:K≤M) (L:fW) (f:Nat):Below K o (ec w M L f):=
 h.trans ⟨rfl,rfl,rfl,by rw [dF];exact Nat.le_refl _,fun k F=>dZ L f om⟩
theorem uX (o F:fW) (e E:Un × Value × Nat) (f:MapEntry→MapEntry) (G:f { key:=aC e.1,val:=e.2.1,born:=e.2.2 }={ key:=aC E.1,val:=E.2.1,born:=E.2.2 }):(eu (o++e::F)).modify o.length f=eu (o++E::F):=by
 apply Array.ext_getElem?;intro i;simp only [eu,Array.getElem?_modify,List.getElem?_toArray,List.getElem?_map];rcases Nat.lt_trichotomy i o.length with h | h | h
 ·rw [List.getElem?_append_left h,List.getElem?_append_left h,if_neg om]
 ·subst h;simp [G]
 ·rw [List.getElem?_append_right om,List.getElem?_append_right om,if_neg om]
  obtain ⟨q,H⟩:∃ q,i-o.length=q+1:=⟨i-o.length-1,by omega⟩;rw [H];rfl
theorem yv (L:fW) (M f:Nat) (x:Un) (w:World) (hM:sL w M L f) :
    ∃ (F G:fW) (b o:Nat),(Instr.mapEntry 86 (.map (some M)) (aC x)).run Tryz.prog w=.ok (.tuple #[(bE L x).getD (.slice none 0 0),goInt b]) (ec w M (F++(x,(bE L x).getD (.slice none 0 0),b)::G) o) ∧
      Dp (F++(x,(bE L x).getD (.slice none 0 0),b)::G) o∧(∀ v y,bE (F++(x,v,b)::G) y=if y=x then some v else bE L y):=by
  have um:=Tryz.underlying86;obtain ⟨R,T,S⟩:=hM;obtain ⟨j,hj,hk⟩:=vy L x 0 w;have U:(Instr.findKey 26 (aC x) (eu L).toList).run Tryz.prog w=.ok ((bE L x).map fun v=>(j,v)) w:=by
    rw [run_findKey_eq (P:=Tryz.prog) (w:=w) (k:=26) (by simp [Tryz.underlying26]) (aC x) (eu L).toList,hj];simp
  have hz:∀ w,(zeroValue 53).run Tryz.prog w=.ok (.slice none 0 0) w:=fun w=>by kernel_rfl
  cases H:bE L x with
  | none =>
    refine ⟨L,[],f,f+1,?_,⟨?_,?_⟩,fun v y=>?_⟩
    · simp only [Instr.mapEntry,Sem.run_bind,run_underlying um,Result.andThen_ok,MapKept.run_getObj_map R,sT,U,H,Option.map_none,hz,MapKept.run_setObj_map _ R,Sem.run_pure,Option.getD_none]
      simp [eu,ec]
    · rw [List.map_append,List.nodup_append]
      refine ⟨T,by simp,fun a ha c hc=>?_⟩;simp at hc;obtain ⟨e,E,rfl⟩:=List.mem_map.1 ha;have:=S e E;omega
    · intro e E
      rcases List.mem_append.1 E with E | E
      · have:=S e E;omega
      · simp at E;subst E;simp
    · rw [lC,gx]
      by_cases J:y=x
      · subst J;simp [H]
      · simp [J,bE]
  | some u =>
    obtain ⟨e,F,G,O,V,W,k4⟩:=hk u H;obtain ⟨h,e2,I⟩:=e;simp only at W;subst W;have hu:u=e2:=by
      rw [O,lC,k4,gx] at H;simp at H;exact H.symm
    subst hu;refine ⟨F,G,I,f,?_,by rw [O] at T S;exact ⟨T,S⟩,fun v y=>?_⟩
    · have hg : (eu L)[j]? = some ({ key := aC h, val := u, born := I } : MapEntry) := by
        rw [O,← V];simp [eu]
      have hs:(Instr.keyThatStays (aC h) (aC h)).run Tryz.prog w=.ok (aC h) w:=by
        simp [Instr.keyThatStays,Aw]
      have hm:(eu L).modify j (fun e=>{ e with key:=aC h })=eu (F++(h,u,I)::G):=by
        rw [O,← V];exact uX F G (h,u,I) (h,u,I) _ rfl
      simp only [Instr.mapEntry,Sem.run_bind,run_underlying um,Result.andThen_ok,MapKept.run_getObj_map R,sT,U,H,Option.map_some,hg,Option.getD_some,hs,hm,MapKept.run_setObj_map _ R,Sem.run_pure];rfl
    · rw [lC,gx,O,lC,gx]
      by_cases J:y=h
      · subst J;simp [k4]
      · simp [J]
theorem BJ (f o:fW) (e:Un × Value × Nat) (h:((f++e::o).map fun e=>e.2.2).Nodup):(eu (f++e::o)).findIdx? (fun m=>((m.born:Int))==(e.2.2:Int))=some f.length:=by
 rw [Array.findIdx?_eq_some_iff_getElem];refine ⟨by simp [eu],by simp [eu],fun i hi=>?_⟩;have E:(f[i]'hi).2.2≠e.2.2:=by
  rw [List.map_append,List.nodup_append] at h;exact h.2.2 _ (List.mem_map.2 ⟨_,List.getElem_mem hi,rfl⟩) _ ac
 simp only [eu,List.getElem_toArray,List.getElem_map,List.getElem_append_left hi];simp;omega
theorem yo (f h:fW) (M o b:Nat) (x:Un) (v u:Value) (w:World) (G:sL w M (f++(x,u,b)::h) o) :
  (Instr.entryStore 86 (.map (some M)) (goInt b) v).run Tryz.prog w=.ok () (ec w M (f++(x,v,b)::h) o):=by
 obtain ⟨E,I,J⟩:=G;have F:=BJ f h (x,u,b) I;have H:(eu (f++(x,u,b)::h)).modify f.length (fun e=>{ e with val:=v })=eu (f++(x,v,b)::h):=uX f h (x,u,b) (x,v,b) _ rfl;simp only [Instr.entryStore,Sem.run_bind,MapKept.run_getObj_map E,Result.andThen_ok,goInt,asInt,asIntOf,Sem.run_pure];simp only at F;simp only [F,H,MapKept.run_setObj_map _ E];rfl
structure rD (w:World) (M K:Nat) (L:fW) (clk:Nat) (f:Un→List Int):Prop where
 at_:sL w M L clk
 lt:M<K
 le:K≤w.heap.size
 own:∀ x,w.ownsRow K 2 1 ((bE L x).getD (.slice none 0 0)) (f x).length (cu (f x))
 ne:∀ x y b,x≠y→((bE L x).getD (.slice none 0 0)).ownBlock=some b→((bE L y).getD (.slice none 0 0)).ownBlock≠some b
 nil:∀ x,f x=[]→(bE L x).getD (.slice none 0 0)=.slice none 0 0
def uz (w:World) (M K:Nat) (f:Un→List Int):Prop:=∃ L h,rD w M K L h f
theorem sZ {w I:World} {f:Nat} {v:Value} {l:List Int} (h:w.ownsRow f 2 1 v l.length (cu l)) (S:∀ b,v.ownBlock=some b→I.heap[b]?=w.heap[b]?):I.ownsRow f 2 1 v l.length (cu l):=by
 refine ⟨h.1,?_⟩;rcases h.2 with J | ⟨G,o,E,H,O,F,R⟩
 ·exact .inl J
 ·exact .inr ⟨G,o,E,H,O,(S G (by rw [H];rfl)).trans F,R⟩
theorem rD.call {w G:World} {M K:Nat} {L:fW} {o:Nat} {f:Un→List Int} (h:rD w M K L o f) (E:Below w w G):rD G M K L o f:=
 ⟨⟨(E.block M (Array.getElem?_eq_some_iff.1 h.at_.1).1).trans h.at_.1,h.at_.2⟩,h.lt,Nat.le_trans h.le E.size,fun x=>sZ (h.own x) fun b F=>E.block b ((h.own x).lt b F).2,h.ne,h.nil⟩
theorem uz.call {w E:World} {M K:Nat} {f:Un→List Int} (h:uz w M K f) (F:Below w w E):uz E M K f:=by
 obtain ⟨L,o,h⟩:=h;exact ⟨L,o,h.call F⟩
theorem ER (w:World):uz (w.alloc (.map #[] 0)) w.heap.size (w.heap.size+1) (fun _=>[]):=by
 refine ⟨[],0,⟨⟨?_,CX⟩,by omega,by simp,fun x=>⟨rfl,.inl ⟨rfl,rfl⟩⟩,fun x y b _ h=>?_,fun x _=>rfl⟩⟩
 ·have h:=heap_alloc_new w (.map #[] 0)
  simpa [eu] using h
 ·simp [bE,Value.ownBlock] at h
theorem uz.pmap {w:World} {M K:Nat} {f:Un→List Int} (h:uz w M K f):pb w (.map (some M)) f:=by
 obtain ⟨L,F,h⟩:=h;refine ⟨M,L,F,rfl,h.at_.1,fun x=>?_⟩;by_cases E:f x=[]
 ·exact .inl ⟨E,h.nil x E⟩
 ·have J:=h.own x
  rcases J.2 with ⟨G,H⟩ | ⟨g,cap,O,G,H,R,T,U,V,W⟩
  ·exact absurd (List.length_eq_zero_iff.1 H) E
  ·refine .inr ⟨g,cap,E,G,(Array.getElem?_eq_some_iff.1 R).1,fun i z S=>?_⟩
   have I:=J.cells (show ((bE L x).getD (.slice none 0 0)).ownBlock=some g by rw [G];rfl) i (.int .i64 z) (by simp [cu,S]);by_cases o:i=0
   ·subst o;simpa [Addr.add] using I
   ·simpa [Addr.add,o] using I
theorem ef {H:Array Oper} {E:List Oper} {o:Oper} {a:Act} {Q:Exit→Act→World→Prop} {w:World} (R:o.guard=none) (s x:Operand)
  (ho:o.op=.call { callee:=.builtin .append,args:=#[s,x],argTypes:=#[53,53] }) (f:Nat) (v:Value) (m:List Int) (n:Int) (B:Nat)
  (hs:a.eval s=v) (G:w.ownsRow f 2 1 v m.length (cu m)) (hx:a.eval x=.slice (some ⟨B,0,none⟩) 1 1) (hc:w.cell? ⟨B,0,none⟩=some (.int .i64 n)) (ab:m.length≤100000000) (F:f≤w.heap.size)
  (h:∀ v' I,I.ownsRow f 2 1 v' (m++[n]).length (cu (m++[n]))→w.grownBy I v.ownBlock→(v'.ownBlock=v.ownBlock∨v'.ownBlock=some w.heap.size)→wpList Tryz.prog H Q E (a.put o.dst v') I):wpList Tryz.prog H Q (o::E) a w:=by
 obtain ⟨i,hi,S,T,U⟩:=info_parts qu;refine wpList_append_own_at w R s x 53 ho f 2 i (.int .i64 0) 1 8 Tryz.underlying53 hi S T U rfl ag v m.length (cu m) hs G ⟨B,0,none⟩ 1 1 [.int .i64 n] hx rfl ?_ ?_ ?_ ?_ F ?_
 ·intro j u J
  match j,J with
  | 0,J=>simp at J;subst J;simpa [Addr.add] using hc
 ·intro u W
  simp at W;subst W;rfl
 ·unfold maxLen;omega
 ·omega
 ·intro v' I V hg _ O
  exact h v' I (by rw [List.length_append,sF];exact V) hg O
def Ei (f:Un→List Int) (u:Un) (n:Int):Un→List Int:=fun y=>if y=u then f y++[n] else f y
theorem xF {w:World} {M K:Nat} {L:fW} {G:Nat} {f:Un→List Int} (h:rD w M K L G f) (u:Un) :
  ∃ (E F:fW) (b o:Nat),(Instr.mapEntry 86 (.map (some M)) (aC u)).run Tryz.prog w=.ok (.tuple #[(bE L u).getD (.slice none 0 0),goInt b]) (ec w M (E++(u,(bE L u).getD (.slice none 0 0),b)::F) o) ∧
   Dp (E++(u,(bE L u).getD (.slice none 0 0),b)::F) o∧(∀ v y,bE (E++(u,v,b)::F) y=if y=u then some v else bE L y) ∧
   (ec w M (E++(u,(bE L u).getD (.slice none 0 0),b)::F) o).ownsRow K 2 1 ((bE L u).getD (.slice none 0 0)) (f u).length (cu (f u)):=by
 obtain ⟨E,F,b,o,I,J,O⟩:=yv L M G u w h.at_;refine ⟨E,F,b,o,I,J,O,sZ (h.own u) fun H R=>dZ _ _ ?_⟩;have:=((h.own u).lt H R).1;have:=h.lt;omega
theorem xY {w:World} {M K:Nat} {L:fW} {al:Nat} {f:Un→List Int} (h:rD w M K L al f) (u:Un) (n:Int) (G H:fW) (b o:Nat) (O:World) (v':Value)
    (V:Dp (G++(u,(bE L u).getD (.slice none 0 0),b)::H) o) (h3:∀ v y,bE (G++(u,v,b)::H) y=if y=u then some v else bE L y)
    (ho:O.ownsRow K 2 1 v' (f u++[n]).length (cu (f u++[n]))) (hg:(ec w M (G++(u,(bE L u).getD (.slice none 0 0),b)::H) o).grownBy O ((bE L u).getD (.slice none 0 0)).ownBlock)
    (ay:v'.ownBlock=((bE L u).getD (.slice none 0 0)).ownBlock∨v'.ownBlock=some w.heap.size) :
    (Instr.entryStore 86 (.map (some M)) (goInt b) v').run Tryz.prog O=.ok () (ec O M (G++(u,v',b)::H) o)∧uz (ec O M (G++(u,v',b)::H) o) M K (Ei f u n)∧(∀ K0 w0,K0≤M→Below K0 w0 w→Below K0 w0 (ec O M (G++(u,v',b)::H) o)):=by
  have ab:((bE L u).getD (.slice none 0 0)).ownBlock≠some M:=fun e=>by
    have:=((h.own u).lt M e).1;have:=h.lt;omega
  have aq:=(Array.getElem?_eq_some_iff.1 h.at_.1).1;have aA:w.heap.size≤O.heap.size:=by have:=hg.size;rwa [dF] at this
  have R:sL O M (G++(u,(bE L u).getD (.slice none 0 0),b)::H) o:=⟨(hg.block M (by rw [dF];exact aq) (fun e=>ab e.symm)).trans (rX h.at_.1 _ _),V⟩;refine ⟨yo G H M o b u v' _ O R,⟨G++(u,v',b)::H,o,⟨⟨rX R.1 _ _,?_⟩,h.lt,by rw [dF];exact Nat.le_trans h.le aA,?_,?_,?_⟩⟩,?_⟩
  · exact ⟨by simpa using V.1, fun e S => by
      rcases List.mem_append.1 S with S | S
      · exact V.2 e (List.mem_append_left _ S)
      · rcases List.mem_cons.1 S with rfl | S
        · exact V.2 (u,(bE L u).getD (.slice none 0 0),b) ac
        · exact V.2 e (List.mem_append_right _ (List.mem_cons_of_mem _ S))⟩
  · intro x
    rw [h3];unfold Ei;by_cases E:x=u
    · subst E
      rw [if_pos rfl,if_pos rfl];refine sZ ho fun I J=>dZ _ _ ?_
      have:=(ho.lt I J).1;have:=h.lt;omega
    · rw [if_neg E,if_neg E]
      refine sZ (h.own x) fun I J=>?_
      have hl:=(h.own x).lt I J;have hK:=h.lt;rw [dZ _ _ om,hg.block I (by rw [dF];exact hl.2) (fun e=>h.ne x u I E J e.symm),dZ _ _ om]
  · intro x y I T E
    rw [h3] at E ⊢;have ad:∀ z,z≠u→((bE L z).getD (.slice none 0 0)).ownBlock=some I→v'.ownBlock≠some I:=by
      intro z hz J e;rcases ay with U | U
      · exact h.ne z u I hz J (by rw [← U];exact e)
      · rw [U] at e
        cases e;have:=((h.own z).lt _ J).2;omega
    by_cases F:x=u
    · subst F
      rw [if_pos rfl] at E;rw [if_neg (fun e=>T e.symm)];intro hy;exact ad y (fun e=>T e.symm) hy E
    · rw [if_neg F] at E
      by_cases ah:y=u
      · subst ah
        rw [if_pos rfl];exact ad x F E
      · rw [if_neg ah]
        exact h.ne x y I T E
  · intro x E
    rw [h3];unfold Ei at E;by_cases F:x=u
    · rw [if_pos F] at E;simp at E
    · rw [if_neg F] at E ⊢
      exact h.nil x E
  · intro K0 w0 W J
    have U:=mo J W (G++(u,(bE L u).getD (.slice none 0 0),b)::H) o;refine mo (U.grown hg (by rw [dF];omega) fun k hk=>?_) W _ _;have:=((h.own u).lt k hk).1;have:=h.lt;omega
noncomputable def jy (c:ar) (y:Int) (a:Ac):Bool:=decide ((cd c ⟨1,y,1⟩).a≤a.b∧a.a≤(cd c ⟨1,y,1⟩).b)
noncomputable def wT (c:ar) (y:Int):List Ac→Int
 | []=>0
 | a::l=>if jy c y a=true∧¬ bg c 5 ⟨a.a,a.b⟩=0 then bg c 5 ⟨a.a,a.b⟩ else wT c y l
noncomputable def pL (c:ar) (y:Int) (A:List Ac):List (Un × Int):=A.flatMap fun a=>if jy c y a=true then qZ c 5 a.n ⟨a.a,a.b⟩ else []
def yR (L:List (Un × Int)) (u:Un):List Int:=(L.filter fun x=>decide (u=x.1)).map (·.2)
theorem wu (c:ar) (y:Int) (A:List Ac) (i:Nat) (a:Ac) (o:A[i]?=some a) (h:wT c y (A.take i)=0) :
  (jy c y a=true∧¬ bg c 5 ⟨a.a,a.b⟩=0→wT c y A=bg c 5 ⟨a.a,a.b⟩)∧(¬ (jy c y a=true∧¬ bg c 5 ⟨a.a,a.b⟩=0)→wT c y (A.take (i+1))=0):=by
 induction A generalizing i with
 | nil=>simp at o
 | cons x A E =>
  cases i with
  | zero =>
   simp at o;subst o;constructor
   ·intro f;simp only [wT];rw [if_pos f]
   ·intro f;simp only [List.take_succ_cons,List.take_zero,wT];rw [if_neg f]
  | succ i =>
   simp only [List.getElem?_cons_succ] at o;simp only [List.take_succ_cons,wT] at h ⊢
   split at h
   ·rename_i f;exact absurd h f.2
   ·rename_i f;rw [if_neg f,if_neg f];exact E i o h
theorem BM {α β:Type} (l:List α) (f:α→List β) (k:Nat) (h:∀ a∈l,(f a).length≤k):(l.flatMap f).length≤l.length*k:=by
 induction l with
 | nil=>simp
 | cons a l E =>
  rw [List.flatMap_cons,List.length_append,List.length_cons,Nat.succ_mul];have F:=E fun b o=>h b (List.mem_cons_of_mem _ o)
  have G:=h a ac;omega
theorem qi (c:ar) (y:Int) (A:List Ac) (h:wT c y A=0) (a:Ac) (f:a∈A) (E:jy c y a=true):bg c 5 ⟨a.a,a.b⟩=0:=by
 induction A with
 | nil=>simp at f
 | cons x A F =>
  simp only [wT] at h
  split at h
  ·rename_i h1;exact absurd h h1.2
  ·rename_i h1
   rcases List.mem_cons.1 f with rfl | f
   ·by_cases o:bg c 5 ⟨a.a,a.b⟩=0
    ·exact o
    ·exact absurd ⟨E,o⟩ h1
   ·exact F h f
theorem tf (c:ar) (y:Int) (A:List Ac) (k:Nat) (h:wT c y A=0) (o:∀ a∈A,bg c 5 ⟨a.a,a.b⟩=0→(be c 5 ⟨a.a,a.b⟩).length≤k):(pL c y A).length≤A.length*k:=by
 refine BM A _ k fun a f=>?_
 split
 ·rename_i hn
  rw [i8];exact o a f (qi c y A h a f hn)
 ·simp
theorem Hd (c:ar) (y:Int) (A:List Ac) (i:Nat) (a:Ac) (f:A[i]?=some a):pL c y (A.take (i+1))=pL c y (A.take i)++(if jy c y a=true then qZ c 5 a.n ⟨a.a,a.b⟩ else []):=by
 rw [List.take_add_one,f,pL,List.flatMap_append];simp [pL]
theorem Hb:yR []=fun _=>[]:=rfl
theorem EO (L:List (Un × Int)) (v:Un) (n:Int):yR (L++[(v,n)])=Ei (yR L) v n:=by
 funext y;unfold yR Ei;rw [List.filter_append,List.map_append];by_cases h:y=v
 ·rw [if_pos h,List.filter_cons_of_pos (by simpa using h)];rfl
 ·rw [if_neg h,List.filter_cons_of_neg (by simpa using h)];simp
theorem zz (L:List (Un × Int)) (u:Un):(yR L u).length≤L.length:=by
 unfold yR;rw [List.length_map];exact List.length_filter_le _ _
theorem Ip {L:List (Un × Int)} {u:Un} {n:Int} (h:n∈yR L u):(u,n)∈L:=by
 unfold yR at h;obtain ⟨x,F,rfl⟩:=List.mem_map.1 h;obtain ⟨f,o⟩:=List.mem_filter.1 F;have E:u=x.1:=by simpa using o
 rw [E];exact f
theorem Ht {w:World} {f:Nat} {v:Value} {l:List Int} (h:w.ownsRow f 2 1 v l.length (cu l)) {g:Nat} {G:Array Value} {t:TypeId} {I:Nat × Nat} (J:w.heap[g]?=some (.cells G t I)) (O:t≠2):v.ownBlock≠some g:=by
 intro e;rcases h.2 with ⟨o,_⟩ | ⟨R,E,H,o,S,F,T⟩
 ·rw [o] at e;cases e
 ·rw [o] at e
  cases e;rw [J] at F;cases F;exact O rfl
structure tz (c:ar) (s:Sp) (L:List (Un × Int)) (B S1:Nat) (w0 w:World):Prop where
 cal:aG w B c
 sp:lQ w S1 s
 map:uz w (S1+1) (S1+2) (yR L)
 lt:B<S1
 sz:S1+2≤w.heap.size
 bel:Below B w0 w
theorem tz.call {c:ar} {s:Sp} {L:List (Un × Int)} {B o:Nat} {F w E:World} (h:tz c s L B o F w) (f:Below w w E):tz c s L B o F E:=by
 have G:=h.lt;have H:=h.sz;exact ⟨aa f om h.cal,bu f om h.sp,h.map.call f,G,Nat.le_trans H f.size,h.bel.trans (f.mono om)⟩
theorem yP (c:ar) (y:Int) (A:List Ac) (v2:Value) (w:World) (hn:c.name.size≤1000) (hU:aE c ⟨1,y,1⟩=0) (hA:eo w v2 A) (hl:A.length≤5000)
  (bc:∀ a∈A,aX a.n) (hm:∀ a∈A,bg c 5 ⟨a.a,a.b⟩=0→(be c 5 ⟨a.a,a.b⟩).length≤4096) :
  Calls Tryz.prog 48 #[av c,y,v2] w fun e w'=>(∃ m,e=.returned (.tuple #[m,wT c y A])∧(wT c y A=0→pb w' m (yR (pL c y A)))∧(¬ wT c y A=0→m=.map none))∧Below w w w':=by
 have HU:=hide hU;have HA:=hide hA;have b4:=hide bc;have aq:=hide hm;obtain ⟨ad,cap,rfl,_⟩:=hA;have c5:=@run_makeMap Tryz.prog;clear hU bc hm;simp only [av];go_enter Tryz.func48,Tryz.ntmps48;go_wp2_with fail;refine (ls c ⟨1,y,1⟩ _ hn).mono ?_;rintro e F ⟨rfl,I⟩;rw [HU.out];obtain ⟨s,hs⟩:∃ s,cd c ⟨1,y,1⟩=s:=⟨_,rfl⟩;rw [hs];have bb:=hide (fun a=>show jy c y a=decide (s.a≤a.b∧a.a≤s.b) by rw [← hs];rfl);have b7:=hide (show tz c s [] w.heap.size F.heap.size w ((F.alloc (jB s)).alloc (.map #[] 0)) from by
  have hb:Below w w F:=an;have hz:=I.size;simp at hz;have hc:aG F w c:=aa I ac (au w c);refine ⟨az (az hc om _) ae _,?_,?_,by omega,by simp,by (repeat' exact bel)⟩
  ·exact kg (fC F s) ac _
  ·rw [Hb]
   have:=ER (F.alloc (jB s));simpa using this)
 have cr:=I.size;simp at cr;clear I hs;simp only [bI];go_wp2_with fail;go_loopw [30] (fun a6 wr=>∃ i:Nat,a6=.int .i64 i∧i≤A.length∧wT c y (A.take i)=0∧Hid (tz c s (pL c y (A.take i)) w.heap.size F.heap.size w wr)) (fun a6 _=>(A.length+5-intOf a6).toNat)
 case atStart=>exact ⟨0,rfl,Nat.zero_le _,rfl,b7⟩
 case round =>
  obtain ⟨i,rfl,hi,U,V⟩:=hrel;obtain ⟨q0,q1,q2,q3,q4,q5,q6,q7,q8,q9,bX,b0,b1,b2⟩:=V.out.cal;obtain ⟨p0,p1⟩:=V.out.sp;have c8:=V.out.sz;have dd:w.heap.size<wr.heap.size:=by have:=V.out.lt;omega
  have c9:F.heap.size<wr.heap.size:=om;by_cases cl:i<A.length
  ·obtain ⟨x,hx⟩:∃ x,A[i]?=some x:=⟨_,List.getElem?_eq_getElem cl⟩
   obtain ⟨g,o,rfl,hg,d0,d1,d2⟩:=(HA.out.call V.out.bel).at hx;have J:=wu c y A i x hx U;rw [bb.out] at J;have f:=hide (Hd c y A i x hx);rw [bb.out] at f;have c1:(0:Int)≤(i:Int):=om;have c2:(i:Int)<(A.length:Int):=om;have HX:=hide (List.mem_of_getElem? hx);have b5:=hide U;clear hx U;by_cases R:s.a≤x.b∧x.a≤s.b
   ·rw [decide_eq_true R] at f J
    obtain ⟨c6,c7⟩:=R;by_cases hE:bg c 5 ⟨x.a,x.b⟩=0
    ·have aA:=hide (J.2 (by simp [hE]))
     clear J;have G:=hide (fun w=>yQ c 5 x.n ⟨x.a,x.b⟩ w hn hE (aq.out x HX.out hE) (b4.out x HX.out));have cp:=aq.out x HX.out hE;obtain ⟨n,a5⟩:∃ n,(be c 5 ⟨x.a,x.b⟩).length=n:=⟨_,rfl⟩;rw [a5] at G cp;have bt:=i8 c 5 x.n ⟨x.a,x.b⟩;rw [a5] at bt;have bl:(pL c y (A.take i)).length≤20480000:=by
      refine Nat.le_trans (tf c y (A.take i) 4096 b5.out fun a ha=>aq.out a (List.mem_of_mem_take ha)) (Nat.mul_le_mul (show (A.take i).length≤5000 by rw [List.length_take];omega) (Nat.le_refl 4096))
     obtain ⟨S,hS⟩:∃ S,qZ c 5 x.n ⟨x.a,x.b⟩=S:=⟨_,rfl⟩;rw [hS] at f G bt;simp only [if_true] at f;obtain ⟨L0,bh⟩:∃ L,pL c y (A.take i)=L:=⟨_,rfl⟩;rw [bh] at f V bl;simp only [av,bI] at G;clear hE a5 hS bh;go_wp2_with fail;refine (G.out _).mono ?_;rintro e w2 ⟨⟨g2,rfl,bp,cb⟩,O⟩;have ay:=hide (show tz c s (L0++S.take 0) w.heap.size F.heap.size w w2∧dy w2 g2 S from ⟨by rw [List.take_zero,List.append_nil];exact (V.out.call ((Below.refl _ _).alloc (Nat.le_refl _) _)).call O,bp⟩);have cS:wr.heap.size+1≤g2:=by simpa using cb
     clear O bp p0 p1 d0 d1 d2;clear q0 q1 q2 q3 q4 q5 q6 q7 q8 q9 bX b0 b1 b2;go_wp2_with fail;go_loopw [62] (fun a7 wr=>∃ j:Nat,a7=.int .i64 j∧j≤n∧Hid (tz c s (L0++S.take j) w.heap.size F.heap.size w wr∧dy wr g2 S)) (fun a7 _=>(n+5-intOf a7).toNat)
     case atStart=>exact ⟨0,rfl,Nat.zero_le _,ay⟩
     case round =>
      obtain ⟨j,rfl,hj,HR⟩:=hrel;by_cases cy:j<n
      ·obtain ⟨⟨u,m⟩,hu⟩:∃ u,S[j]?=some u:=⟨_,List.getElem?_eq_getElem om⟩
       obtain ⟨a0,a1,a2,a3⟩:=HR.out.2.cell hu;simp only at a0 a1 a2 a3;have c0:=HR.out.2.lt;have cE:=HR.out.1.sz;have c3:(0:Int)≤(j:Int):=om;have c4:(j:Int)<(n:Int):=om;have b8:=hide (show L0++S.take (j+1)=L0++S.take j++[(u,m)] by rw [List.take_add_one,hu,List.append_assoc];rfl);have ah:=hide (HR.out.1.call (show Below wr wr ((wr.alloc (.cells #[.int .i64 u.lv,.int .i64 u.yr,.int .i64 u.ix,.int .i64 m] 111)).alloc (.cells #[.int .i64 m] 2)) from by (repeat' exact bel)));obtain ⟨W,hW⟩:∃ W,(wr.alloc (.cells #[.int .i64 u.lv,.int .i64 u.yr,.int .i64 u.ix,.int .i64 m] 111)).alloc (.cells #[.int .i64 m] 2)=W:=⟨_,rfl⟩;rw [hW] at ah;obtain ⟨L,cI,T⟩:=ah.out.map;obtain ⟨L1,L2,b,H,e1,e2,e3,e4⟩:=xF T u;simp only [aC] at e1;have bw:=zz (L0++S.take j) u;rw [List.length_append,List.length_take] at bw;have HM:=hide T;have al:=hide (fun w' v'=>xY T u m L1 L2 b H w' v' e2 e3);obtain ⟨v0,bx⟩:∃ v,(bE L u).getD (.slice none 0 0)=v:=⟨_,rfl⟩;rw [bx] at e1 e2 e4 al;have ba:=hide (And.intro e2 (And.intro e3 e4));clear T e2 e3 e4 hu bx;have ca:(ec W (F.heap.size+1) (L1++(u,v0,b)::L2) H).cell? ⟨wr+1,0,none⟩=some (.int .i64 m):=by
        have h1:W.heap[wr.heap.size+1]?=some (.cells #[.int .i64 m] 2 (0,0)):=by
         rw [← hW];have:=heap_alloc_new (wr.alloc (.cells #[.int .i64 u.lv,.int .i64 u.yr,.int .i64 u.ix,.int .i64 m] 111)) (.cells #[.int .i64 m] 2);simpa using this
        have h2:=dZ (w:=W) (M:=F.heap.size+1) (L1++(u,v0,b)::L2) H (b:=wr.heap.size+1) om;rw [h1] at h2;simp [World.cell?,h2]
       have cM:wr.heap.size+1<W.heap.size:=by rw [← hW];simp
       go_wp2_with ((at_builtin;refine ef rfl _ _ rfl (F.heap.size+2) v0 (yR (L0++S.take j) u) m (wr.heap.size+1) rfl ba.out.2.2 rfl ca om (by rw [dF];omega) ?_));intro v' w3 ho a4 aF;rw [dF] at aF;obtain ⟨cs,b3,a8⟩:=al.out w3 v' (by simpa using ho) a4 aF;have b6:=hide (show tz c s (L0++S.take (j+1)) w.heap.size F.heap.size w (ec w3 (F.heap.size+1) (L1++(u,v',b)::L2) H)∧dy (ec w3 (F.heap.size+1) (L1++(u,v',b)::L2) H) g2 S from by
        have cc:=HR.out.1.lt;have I:=a8 (F.heap.size+1) W (Nat.le_refl _) (Below.refl _ _);have O:=a8 w.heap.size w om ah.out.bel;have aB:dy W g2 S:=by rw [← hW];exact HR.out.2.call an
        refine ⟨⟨aa I om ah.out.cal,bu I om ah.out.sp,by rw [b8.out,EO];exact b3,cc,by have:=I.size;omega,O⟩,?_⟩;have R:=Ht ba.out.2.2 (g:=g2) ((dZ _ _ om).trans aB) ag;have hl:=a4.block g2 (by rw [dF];exact aB.lt) (fun e=>R e.symm);exact (dZ _ _ om).trans (hl.trans ((dZ _ _ om).trans aB)))
       simp only [goInt] at cs;clear b3 a8 ho a4 aF;go_wp2;go_roundw
       case rel=>exact ⟨j+1,by go_num,by omega,b6⟩
       case measure=>simp [intOf];omega
      ·obtain rfl:j=n:=om
       have HD:=hide (show tz c s (pL c y (A.take (i+1))) w.heap.size F.heap.size w wr by
        have h:=HR.out.1;rw [List.take_of_length_le om,← f.out] at h;exact h)
       go_wp2
       all_goals first
        | (exfalso;omega)
        | skip
       go_roundw
       case rel=>exact ⟨i+1,by go_num,by omega,aA.out,HD⟩
       case measure=>simp [intOf];omega
    ·have b9:(bg c 5 ⟨x.a,x.b⟩ != 0)=true:=by simpa using hE
     have ab:=hide (J.1 ⟨rfl,hE⟩);have G:=hide (fun w=>CE c 5 x.n ⟨x.a,x.b⟩ w hn hE);have HE:=hide hE;obtain ⟨E,bd⟩:∃ E,bg c 5 ⟨x.a,x.b⟩=E:=⟨_,rfl⟩;rw [bd] at b9 ab G HE;simp only [av,bI] at G;clear hE J bd;go_wp2_with fail;refine (G.out _).mono ?_;rintro e w2 ⟨rfl,O⟩;have ay:=hide ((V.out.call ((Below.refl _ _).alloc (Nat.le_refl _) _)).call O);clear O p0 p1 d0 d1 d2;clear q0 q1 q2 q3 q4 q5 q6 q7 q8 q9 bX b0 b1 b2;go_wp2;go_ret2;exact ⟨⟨.map none,by rw [ab.out];rfl,fun h=>absurd (ab.out.symm.trans h) HE.out,fun _=>rfl⟩,ay.out.bel⟩
   ·have aA:=hide (J.2 (by simp [R]))
    rw [decide_eq_false R] at f;simp only [Bool.false_eq_true,if_false,List.append_nil] at f;clear J;rcases (show x.b<s.a∨(s.a≤x.b∧s.b<x.a) by omega) with h1 | ⟨h1,h2⟩
    all_goals
     clear R;go_wp2
     all_goals first
      | (exfalso;omega)
      | skip
     go_roundw
     case rel=>exact ⟨i+1,by go_num,by omega,aA.out,by rw [f.out];exact hide (V.out.call ((Below.refl _ _).alloc (Nat.le_refl _) _))⟩
     case measure=>simp [intOf];omega
  ·obtain rfl:i=A.length:=om
   rw [List.take_length] at U V;have HP:=hide U;clear U;go_wp2
   all_goals first
    | (exfalso;omega)
    | skip
   go_ret2;exact ⟨⟨.map (some (F.heap.size+1)),by rw [HP.out];rfl,fun _=>V.out.map.pmap,fun h=>absurd HP.out h⟩,V.out.bel⟩
end
end Go.Proofs.YtjhhmeoibfdcmaaGreat
