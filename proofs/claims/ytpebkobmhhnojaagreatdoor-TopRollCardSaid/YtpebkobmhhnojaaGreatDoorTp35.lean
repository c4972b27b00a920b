/- Lemmas. -/
import Derived.Maps.AppendAt
import Derived.Test.YtpebkobmhhnojaaGreatDoorTp23
import Derived.Test.YtpebkobmhhnojaaGreatDoorTp32
set_option linter.unusedSimpArgs false
set_option linter.unusedVariables false
set_option maxRecDepth 100000
set_option maxHeartbeats 12800000
namespace Go.Proofs.YtpebkobmhhnojaaGreatDoor
section
open Go.RowKit Qd
theorem pN (x y:Un):lN x.lv x.yr x.ix y.lv y.yr y.ix=true↔x=y:=by
 obtain ⟨a,b,c⟩:=x;obtain ⟨d,e,f⟩:=y;simp [lN]
instance Ik:DecidableEq Un:=fun x y=>decidable_of_iff (lN x.lv x.yr x.ix y.lv y.yr y.ix=true) (pN x y)
theorem ew (e:Un × Value × Nat) (L:er) (x:Un):bq (e::L) x=if x=e.1 then some e.2.1 else bq L x:=by
 simp only [bq,pN]
theorem qf (L:er) (x:Un) (i:Nat) (w:World):∃ j,(Instr.findAsking 33 (aZ x) (dC L).toList i).run Tryz.prog w=.ok ((bq L x).map fun v=>(i+j,v)) w ∧
  (∀ v,bq L x=some v→∃ e o G,L=o++e::G∧o.length=j∧e.1=x∧bq o x=none):=by
 induction L generalizing i with
 | nil=>exact ⟨0,by simp [dC,Instr.findAsking,bq],fun v h=>by simp [bq] at h⟩
 | cons e L V =>
  obtain ⟨j,O,U⟩:=V (i+1);have F:(Op.equal 33 (aZ x) (aZ e.1)).run Tryz.prog w=.ok (lN x.lv x.yr x.ix e.1.lv e.1.yr e.1.ix) w:=kQ 9998 x.lv x.yr x.ix e.1.lv e.1.yr e.1.ix w;have J:(dC (e::L)).toList=({ key:=aZ e.1,val:=e.2.1,born:=e.2.2 }:MapEntry)::(dC L).toList:=by simp [dC]
  rw [J];cases f:lN x.lv x.yr x.ix e.1.lv e.1.yr e.1.ix
  ·refine ⟨j+1,?_,?_⟩
   ·rw [f] at F
    have E:bq (e::L) x=bq L x:=by simp [bq,f]
    rw [E];simp only [Instr.findAsking,Sem.run_bind,F,Result.andThen_ok,Bool.false_eq_true,if_false];rw [show i+(j+1)=i+1+j by omega];exact O
   ·intro v H
    have E:bq (e::L) x=bq L x:=by simp [bq,f]
    rw [E] at H;obtain ⟨I,o,G,W,Y,k3,k4⟩:=U v H;exact ⟨I,e::o,G,by rw [W];rfl,by simp [Y],k3,by simp [bq,f,k4]⟩
  ·refine ⟨0,?_,?_⟩
   ·rw [f] at F
    have E:bq (e::L) x=some e.2.1:=by simp [bq,f]
    rw [E];simp only [Instr.findAsking,Sem.run_bind,F,Result.andThen_ok,if_true];rfl
   ·intro v H
    exact ⟨e,[],L,rfl,rfl,((pN _ _).1 f).symm,rfl⟩
theorem je (f h:er) (x:Un):bq (f++h) x=(bq f x).or (bq h x):=by
 induction f with
 | nil=>simp [bq]
 | cons e L o =>
  rw [List.cons_append,ew,ew,o]
  split <;> simp
theorem yQ (n:Nat) (a:Int):Instr.sameBits (n+1) (.int .i64 a) (.int .i64 a)=true:=by simp [Instr.sameBits]
theorem we (x:Un):Instr.sameBits 10000 (aZ x) (aZ x)=true:=by
 show Instr.sameBits (9999+1) (aZ x) (aZ x)=true;simp only [aZ,Instr.sameBits];simp [yQ 9998]
def Av (L:er) (f:Nat):Prop:=(L.map fun e=>e.2.2).Nodup∧∀ e∈L,e.2.2<f
def pM (w:World) (M:Nat) (L:er) (f:Nat):Prop:=w.heap[M]?=some (.map (dC L) f)∧Av L f
theorem xU:Av [] 0:=⟨List.nodup_nil,fun e h=>by simp at h⟩
def de (w:World) (M:Nat) (L:er) (f:Nat):World:={ w with heap:=w.heap.setIfInBounds M (.map (dC L) f) }
theorem nJ {w:World} {M:Nat} {o:er} {E:Nat} (h:w.heap[M]?=some (.map (dC o) E)) (L:er) (f:Nat):(de w M L f).heap[M]?=some (.map (dC L) f):=by
 have:=(Array.getElem?_eq_some_iff.1 h).1;simp [de,this]
theorem cX {w:World} {M b:Nat} (L:er) (f:Nat) (h:b≠M):(de w M L f).heap[b]?=w.heap[b]?:=by
 simp [de,Array.getElem?_setIfInBounds,Ne.symm h]
theorem cL (w:World) (M:Nat) (L:er) (f:Nat):(de w M L f).heap.size=w.heap.size:=by simp [de]
theorem kf {K M:Nat} {o w:World} (h:Below K o w) (E:K≤M) (L:er) (f:Nat):Below K o (de w M L f):=
 h.trans ⟨rfl,rfl,rfl,by rw [cL];exact Nat.le_refl _,fun k F=>cX L f om⟩
theorem qO (o F:er) (e E:Un × Value × Nat) (f:MapEntry→MapEntry) (G:f { key:=aZ e.1,val:=e.2.1,born:=e.2.2 }={ key:=aZ E.1,val:=E.2.1,born:=E.2.2 }):(dC (o++e::F)).modify o.length f=dC (o++E::F):=by
 apply Array.ext_getElem?;intro i;simp only [dC,Array.getElem?_modify,List.getElem?_toArray,List.getElem?_map];rcases Nat.lt_trichotomy i o.length with h | h | h
 ·rw [List.getElem?_append_left h,List.getElem?_append_left h,if_neg om]
 ·subst h;simp [G]
 ·rw [List.getElem?_append_right om,List.getElem?_append_right om,if_neg om]
  obtain ⟨q,H⟩:∃ q,i-o.length=q+1:=⟨i-o.length-1,by omega⟩;rw [H];rfl
theorem se (L:er) (M f:Nat) (x:Un) (w:World) (hM:pM w M L f) :
    ∃ (E F:er) (b clk':Nat),(Instr.mapEntry 94 (.map (some M)) (aZ x)).run Tryz.prog w=.ok (.tuple #[(bq L x).getD (.slice none 0 0),goInt b]) (de w M (E++(x,(bq L x).getD (.slice none 0 0),b)::F) clk') ∧
      Av (E++(x,(bq L x).getD (.slice none 0 0),b)::F) clk'∧(∀ v y,bq (E++(x,v,b)::F) y=if y=x then some v else bq L y):=by
  have um:=Tryz.underlying94;obtain ⟨O,V,U⟩:=hM;obtain ⟨j,hj,hk⟩:=qf L x 0 w;have W:(Instr.findKey 33 (aZ x) (dC L).toList).run Tryz.prog w=.ok ((bq L x).map fun v=>(j,v)) w:=by
    rw [run_findKey_eq (P:=Tryz.prog) (w:=w) (k:=33) (by simp [Tryz.underlying33]) (aZ x) (dC L).toList,hj];simp
  have hz:∀ w,(zeroValue 60).run Tryz.prog w=.ok (.slice none 0 0) w:=fun w=>by kernel_rfl
  cases G:bq L x with
  | none =>
    refine ⟨L,[],f,f+1,?_,⟨?_,?_⟩,fun v y=>?_⟩
    · simp only [Instr.mapEntry,Sem.run_bind,run_underlying um,Result.andThen_ok,MapKept.run_getObj_map O,pG,W,G,Option.map_none,hz,MapKept.run_setObj_map _ O,Sem.run_pure,Option.getD_none]
      simp [dC,de]
    · rw [List.map_append,List.nodup_append]
      refine ⟨V,by simp,fun a ha c hc=>?_⟩;simp at hc;obtain ⟨e,o,rfl⟩:=List.mem_map.1 ha;have:=U e o;omega
    · intro e o
      rcases List.mem_append.1 o with o | o
      · have:=U e o;omega
      · simp at o;subst o;simp
    · rw [je,ew]
      by_cases I:y=x
      · subst I;simp [G]
      · simp [I,bq]
  | some u =>
    obtain ⟨e,E,F,J,Y,k3,k4⟩:=hk u G;obtain ⟨h,e2,H⟩:=e;simp only at k3;subst k3;have hu:u=e2:=by
      rw [J,je,k4,ew] at G;simp at G;exact G.symm
    subst hu;refine ⟨E,F,H,f,?_,by rw [J] at V U;exact ⟨V,U⟩,fun v y=>?_⟩
    · have hg : (dC L)[j]? = some ({ key := aZ h, val := u, born := H } : MapEntry) := by
        rw [J,← Y];simp [dC]
      have hs:(Instr.keyThatStays (aZ h) (aZ h)).run Tryz.prog w=.ok (aZ h) w:=by
        simp [Instr.keyThatStays,we]
      have hm:(dC L).modify j (fun e=>{ e with key:=aZ h })=dC (E++(h,u,H)::F):=by
        rw [J,← Y];exact qO E F (h,u,H) (h,u,H) _ rfl
      simp only [Instr.mapEntry,Sem.run_bind,run_underlying um,Result.andThen_ok,MapKept.run_getObj_map O,pG,W,G,Option.map_some,hg,Option.getD_some,hs,hm,MapKept.run_setObj_map _ O,Sem.run_pure];rfl
    · rw [je,ew,J,je,ew]
      by_cases I:y=h
      · subst I;simp [k4]
      · simp [I]
theorem wE (f o:er) (e:Un × Value × Nat) (h:((f++e::o).map fun e=>e.2.2).Nodup):(dC (f++e::o)).findIdx? (fun m=>((m.born:Int))==(e.2.2:Int))=some f.length:=by
 rw [Array.findIdx?_eq_some_iff_getElem];refine ⟨by simp [dC],by simp [dC],fun i hi=>?_⟩;have E:(f[i]'hi).2.2≠e.2.2:=by
  rw [List.map_append,List.nodup_append] at h;exact h.2.2 _ (List.mem_map.2 ⟨_,List.getElem_mem hi,rfl⟩) _ af
 simp only [dC,List.getElem_toArray,List.getElem_map,List.getElem_append_left hi];simp;omega
theorem rX (f h:er) (M o b:Nat) (x:Un) (v u:Value) (w:World) (G:pM w M (f++(x,u,b)::h) o) :
  (Instr.entryStore 94 (.map (some M)) (goInt b) v).run Tryz.prog w=.ok () (de w M (f++(x,v,b)::h) o):=by
 obtain ⟨E,I,J⟩:=G;have F:=wE f h (x,u,b) I;have H:(dC (f++(x,u,b)::h)).modify f.length (fun e=>{ e with val:=v })=dC (f++(x,v,b)::h):=qO f h (x,u,b) (x,v,b) _ rfl;simp only [Instr.entryStore,Sem.run_bind,MapKept.run_getObj_map E,Result.andThen_ok,goInt,asInt,asIntOf,Sem.run_pure];simp only at F;simp only [F,H,MapKept.run_setObj_map _ E];rfl
structure oc (w:World) (M K:Nat) (L:er) (clk:Nat) (f:Un→List Int):Prop where
 at_:pM w M L clk
 lt:M<K
 le:K≤w.heap.size
 own:∀ x,w.ownsRow K 2 1 ((bq L x).getD (.slice none 0 0)) (f x).length (cd (f x))
 ne:∀ x y b,x≠y→((bq L x).getD (.slice none 0 0)).ownBlock=some b→((bq L y).getD (.slice none 0 0)).ownBlock≠some b
 nil:∀ x,f x=[]→(bq L x).getD (.slice none 0 0)=.slice none 0 0
def rA (w:World) (M K:Nat) (f:Un→List Int):Prop:=∃ L h,oc w M K L h f
theorem pO {w w':World} {f:Nat} {v:Value} {l:List Int} (h:w.ownsRow f 2 1 v l.length (cd l)) (U:∀ b,v.ownBlock=some b→w'.heap[b]?=w.heap[b]?):w'.ownsRow f 2 1 v l.length (cd l):=by
 refine ⟨h.1,?_⟩;rcases h.2 with I | ⟨G,o,E,H,J,F,O⟩
 ·exact .inl I
 ·exact .inr ⟨G,o,E,H,J,(U G (by rw [H];rfl)).trans F,O⟩
theorem oc.call {w w':World} {M K:Nat} {L:er} {o:Nat} {f:Un→List Int} (h:oc w M K L o f) (E:Below w w w'):oc w' M K L o f:=
 ⟨⟨(E.block M (Array.getElem?_eq_some_iff.1 h.at_.1).1).trans h.at_.1,h.at_.2⟩,h.lt,Nat.le_trans h.le E.size,fun x=>pO (h.own x) fun b F=>E.block b ((h.own x).lt b F).2,h.ne,h.nil⟩
theorem rA.call {w w':World} {M K:Nat} {f:Un→List Int} (h:rA w M K f) (E:Below w w w'):rA w' M K f:=by
 obtain ⟨L,o,h⟩:=h;exact ⟨L,o,h.call E⟩
theorem zS (w:World):rA (w.alloc (.map #[] 0)) w.heap.size (w.heap.size+1) (fun _=>[]):=by
 refine ⟨[],0,⟨⟨?_,xU⟩,by omega,by simp,fun x=>⟨rfl,.inl ⟨rfl,rfl⟩⟩,fun x y b _ h=>?_,fun x _=>rfl⟩⟩
 ·have h:=heap_alloc_new w (.map #[] 0)
  simpa [dC] using h
 ·simp [bq,Value.ownBlock] at h
theorem rA.pmap {w:World} {M K:Nat} {f:Un→List Int} (h:rA w M K f):nI w (.map (some M)) f:=by
 obtain ⟨L,F,h⟩:=h;refine ⟨M,L,F,rfl,h.at_.1,fun x=>?_⟩;by_cases E:f x=[]
 ·exact .inl ⟨E,h.nil x E⟩
 ·have J:=h.own x
  rcases J.2 with ⟨G,H⟩ | ⟨g,cap,O,G,H,U,W,Y,h6,h7⟩
  ·exact absurd (List.length_eq_zero_iff.1 H) E
  ·refine .inr ⟨g,cap,E,G,(Array.getElem?_eq_some_iff.1 U).1,fun i z V=>?_⟩
   have I:=J.cells (show ((bq L x).getD (.slice none 0 0)).ownBlock=some g by rw [G];rfl) i (.int .i64 z) (by simp [cd,V]);by_cases o:i=0
   ·subst o;simpa [Addr.add] using I
   ·simpa [Addr.add,o] using I
theorem BW {H:Array Oper} {E:List Oper} {o:Oper} {a:Act} {Q:Exit→Act→World→Prop} {w:World} (O:o.guard=none) (s x:Operand)
  (ho:o.op=.call { callee:=.builtin .append,args:=#[s,x],argTypes:=#[60,60] }) (f:Nat) (v:Value) (m:List Int) (n:Int) (B:Nat)
  (hs:a.eval s=v) (G:w.ownsRow f 2 1 v m.length (cd m)) (hx:a.eval x=.slice (some ⟨B,0,none⟩) 1 1) (hc:w.cell? ⟨B,0,none⟩=some (.int .i64 n)) (aa:m.length≤100000000) (F:f≤w.heap.size)
  (h:∀ v' w',w'.ownsRow f 2 1 v' (m++[n]).length (cd (m++[n]))→w.grownBy w' v.ownBlock→(v'.ownBlock=v.ownBlock∨v'.ownBlock=some w.heap.size)→wpList Tryz.prog H Q E (a.put o.dst v') w'):wpList Tryz.prog H Q (o::E) a w:=by
 obtain ⟨i,hi,U,V,W⟩:=info_parts mN;refine wpList_append_own_at w O s x 60 ho f 2 i (.int .i64 0) 1 8 Tryz.underlying60 hi U V W rfl aj v m.length (cd m) hs G ⟨B,0,none⟩ 1 1 [.int .i64 n] hx rfl ?_ ?_ ?_ ?_ F ?_
 ·intro j u I
  match j,I with
  | 0,I=>simp at I;subst I;simpa [Addr.add] using hc
 ·intro u hu
  simp at hu;subst hu;rfl
 ·unfold maxLen;omega
 ·omega
 ·intro v' w' Y hg _ J
  exact h v' w' (by rw [List.length_append,oL];exact Y) hg J
def zb (f:Un→List Int) (u:Un) (n:Int):Un→List Int:=fun y=>if y=u then f y++[n] else f y
theorem sw {w:World} {M K:Nat} {L:er} {F:Nat} {f:Un→List Int} (h:oc w M K L F f) (u:Un) :
  ∃ (o E:er) (b clk':Nat),(Instr.mapEntry 94 (.map (some M)) (aZ u)).run Tryz.prog w=.ok (.tuple #[(bq L u).getD (.slice none 0 0),goInt b]) (de w M (o++(u,(bq L u).getD (.slice none 0 0),b)::E) clk') ∧
   Av (o++(u,(bq L u).getD (.slice none 0 0),b)::E) clk'∧(∀ v y,bq (o++(u,v,b)::E) y=if y=u then some v else bq L y) ∧
   (de w M (o++(u,(bq L u).getD (.slice none 0 0),b)::E) clk').ownsRow K 2 1 ((bq L u).getD (.slice none 0 0)) (f u).length (cd (f u)):=by
 obtain ⟨o,E,b,clk',H,I,J⟩:=se L M F u w h.at_;refine ⟨o,E,b,clk',H,I,J,pO (h.own u) fun G O=>cX _ _ ?_⟩;have:=((h.own u).lt G O).1;have:=h.lt;omega
theorem sU {w:World} {M K:Nat} {L:er} {ad:Nat} {f:Un→List Int} (h:oc w M K L ad f) (u:Un) (n:Int) (F G:er) (b clk':Nat) (w':World) (v':Value)
    (W:Av (F++(u,(bq L u).getD (.slice none 0 0),b)::G) clk') (h3:∀ v y,bq (F++(u,v,b)::G) y=if y=u then some v else bq L y)
    (ho:w'.ownsRow K 2 1 v' (f u++[n]).length (cd (f u++[n]))) (hg:(de w M (F++(u,(bq L u).getD (.slice none 0 0),b)::G) clk').grownBy w' ((bq L u).getD (.slice none 0 0)).ownBlock)
    (al:v'.ownBlock=((bq L u).getD (.slice none 0 0)).ownBlock∨v'.ownBlock=some w.heap.size) :
    (Instr.entryStore 94 (.map (some M)) (goInt b) v').run Tryz.prog w'=.ok () (de w' M (F++(u,v',b)::G) clk')∧rA (de w' M (F++(u,v',b)::G) clk') M K (zb f u n)∧(∀ K0 w0,K0≤M→Below K0 w0 w→Below K0 w0 (de w' M (F++(u,v',b)::G) clk')):=by
  have aa:((bq L u).getD (.slice none 0 0)).ownBlock≠some M:=fun e=>by
    have:=((h.own u).lt M e).1;have:=h.lt;omega
  have ah:=(Array.getElem?_eq_some_iff.1 h.at_.1).1;have ao:w.heap.size≤w'.heap.size:=by have:=hg.size;rwa [cL] at this
  have J:pM w' M (F++(u,(bq L u).getD (.slice none 0 0),b)::G) clk':=⟨(hg.block M (by rw [cL];exact ah) (fun e=>aa e.symm)).trans (nJ h.at_.1 _ _),W⟩;refine ⟨rX F G M clk' b u v' _ w' J,⟨F++(u,v',b)::G,clk',⟨⟨nJ J.1 _ _,?_⟩,h.lt,by rw [cL];exact Nat.le_trans h.le ao,?_,?_,?_⟩⟩,?_⟩
  · exact ⟨by simpa using W.1, fun e O => by
      rcases List.mem_append.1 O with O | O
      · exact W.2 e (List.mem_append_left _ O)
      · rcases List.mem_cons.1 O with rfl | O
        · exact W.2 (u,(bq L u).getD (.slice none 0 0),b) af
        · exact W.2 e (List.mem_append_right _ (List.mem_cons_of_mem _ O))⟩
  · intro x
    rw [h3];unfold zb;by_cases o:x=u
    · subst o
      rw [if_pos rfl,if_pos rfl];refine pO ho fun H I=>cX _ _ ?_
      have:=(ho.lt H I).1;have:=h.lt;omega
    · rw [if_neg o,if_neg o]
      refine pO (h.own x) fun H I=>?_
      have hl:=(h.own x).lt H I;have hK:=h.lt;rw [cX _ _ om,hg.block H (by rw [cL];exact hl.2) (fun e=>h.ne x u H o I e.symm),cX _ _ om]
  · intro x y H U o
    rw [h3] at o ⊢;have ab:∀ z,z≠u→((bq L z).getD (.slice none 0 0)).ownBlock=some H→v'.ownBlock≠some H:=by
      intro z hz I e;rcases al with V | V
      · exact h.ne z u H hz I (by rw [← V];exact e)
      · rw [V] at e
        cases e;have:=((h.own z).lt _ I).2;omega
    by_cases E:x=u
    · subst E
      rw [if_pos rfl] at o;rw [if_neg (fun e=>U e.symm)];intro hy;exact ab y (fun e=>U e.symm) hy o
    · rw [if_neg E] at o
      by_cases ac:y=u
      · subst ac
        rw [if_pos rfl];exact ab x E o
      · rw [if_neg ac]
        exact h.ne x y H U o
  · intro x o
    rw [h3];unfold zb at o;by_cases E:x=u
    · rw [if_pos E] at o;simp at o
    · rw [if_neg E] at o ⊢
      exact h.nil x o
  · intro K0 w0 Y I
    have V:=kf I Y (F++(u,(bq L u).getD (.slice none 0 0),b)::G) clk';refine kf (V.grown hg (by rw [cL];omega) fun k hk=>?_) Y _ _;have:=((h.own u).lt k hk).1;have:=h.lt;omega
noncomputable def lD (c:aC) (y:Int) (a:Ac):Bool:=decide ((dD c ⟨1,y,1⟩).a≤a.b∧a.a≤(dD c ⟨1,y,1⟩).b)
noncomputable def sd (c:aC) (y:Int):List Ac→Int
 | []=>0
 | a::l=>if lD c y a=true∧¬ bF c 5 ⟨a.a,a.b⟩=0 then bF c 5 ⟨a.a,a.b⟩ else sd c y l
noncomputable def pL (c:aC) (y:Int) (A:List Ac):List (Un × Int):=A.flatMap fun a=>if lD c y a=true then pV c 5 a.n ⟨a.a,a.b⟩ else []
def xD (L:List (Un × Int)) (u:Un):List Int:=(L.filter fun x=>decide (u=x.1)).map (·.2)
theorem Ae (c:aC) (y:Int) (A:List Ac) (i:Nat) (a:Ac) (o:A[i]?=some a) (h:sd c y (A.take i)=0) :
  (lD c y a=true∧¬ bF c 5 ⟨a.a,a.b⟩=0→sd c y A=bF c 5 ⟨a.a,a.b⟩)∧(¬ (lD c y a=true∧¬ bF c 5 ⟨a.a,a.b⟩=0)→sd c y (A.take (i+1))=0):=by
 induction A generalizing i with
 | nil=>simp at o
 | cons x A E =>
  cases i with
  | zero =>
   simp at o;subst o;constructor
   ·intro f;simp only [sd];rw [if_pos f]
   ·intro f;simp only [List.take_succ_cons,List.take_zero,sd];rw [if_neg f]
  | succ i =>
   simp only [List.getElem?_cons_succ] at o;simp only [List.take_succ_cons,sd] at h ⊢
   split at h
   ·rename_i f;exact absurd h f.2
   ·rename_i f;rw [if_neg f,if_neg f];exact E i o h
theorem vj {α β:Type} (l:List α) (f:α→List β) (k:Nat) (h:∀ a∈l,(f a).length≤k):(l.flatMap f).length≤l.length*k:=by
 induction l with
 | nil=>simp
 | cons a l E =>
  rw [List.flatMap_cons,List.length_append,List.length_cons,Nat.succ_mul];have F:=E fun b o=>h b (List.mem_cons_of_mem _ o)
  have G:=h a af;omega
theorem qU (c:aC) (y:Int) (A:List Ac) (h:sd c y A=0) (a:Ac) (f:a∈A) (E:lD c y a=true):bF c 5 ⟨a.a,a.b⟩=0:=by
 induction A with
 | nil=>simp at f
 | cons x A F =>
  simp only [sd] at h
  split at h
  ·rename_i h1;exact absurd h h1.2
  ·rename_i h1
   rcases List.mem_cons.1 f with rfl | f
   ·by_cases o:bF c 5 ⟨a.a,a.b⟩=0
    ·exact o
    ·exact absurd ⟨E,o⟩ h1
   ·exact F h f
theorem Ax (c:aC) (y:Int) (A:List Ac) (k:Nat) (h:sd c y A=0) (o:∀ a∈A,bF c 5 ⟨a.a,a.b⟩=0→(bn c 5 ⟨a.a,a.b⟩).length≤k):(pL c y A).length≤A.length*k:=by
 refine vj A _ k fun a f=>?_
 split
 ·rename_i hn
  rw [ir];exact o a f (qU c y A h a f hn)
 ·simp
theorem BI (c:aC) (y:Int) (A:List Ac) (i:Nat) (a:Ac) (f:A[i]?=some a):pL c y (A.take (i+1))=pL c y (A.take i)++(if lD c y a=true then pV c 5 a.n ⟨a.a,a.b⟩ else []):=by
 rw [List.take_add_one,f,pL,List.flatMap_append];simp [pL]
theorem CN:xD []=fun _=>[]:=rfl
theorem AS (L:List (Un × Int)) (v:Un) (n:Int):xD (L++[(v,n)])=zb (xD L) v n:=by
 funext y;unfold xD zb;rw [List.filter_append,List.map_append];by_cases h:y=v
 ·rw [if_pos h,List.filter_cons_of_pos (by simpa using h)];rfl
 ·rw [if_neg h,List.filter_cons_of_neg (by simpa using h)];simp
theorem uc (L:List (Un × Int)) (u:Un):(xD L u).length≤L.length:=by
 unfold xD;rw [List.length_map];exact List.length_filter_le _ _
theorem Cr {L:List (Un × Int)} {u:Un} {n:Int} (h:n∈xD L u):(u,n)∈L:=by
 unfold xD at h;obtain ⟨x,F,rfl⟩:=List.mem_map.1 h;obtain ⟨f,o⟩:=List.mem_filter.1 F;have E:u=x.1:=by simpa using o
 rw [E];exact f
theorem BE {w:World} {f:Nat} {v:Value} {l:List Int} (h:w.ownsRow f 2 1 v l.length (cd l)) {g:Nat} {G:Array Value} {t:TypeId} {I:Nat × Nat} (J:w.heap[g]?=some (.cells G t I)) (O:t≠2):v.ownBlock≠some g:=by
 intro e;rcases h.2 with ⟨o,_⟩ | ⟨U,E,H,o,V,F,W⟩
 ·rw [o] at e;cases e
 ·rw [o] at e
  cases e;rw [J] at F;cases F;exact O rfl
structure oR (c:aC) (s:Sp) (L:List (Un × Int)) (B S1:Nat) (w0 w:World):Prop where
 cal:bR w B c
 sp:ml w S1 s
 map:rA w (S1+1) (S1+2) (xD L)
 lt:B<S1
 sz:S1+2≤w.heap.size
 bel:Below B w0 w
theorem oR.call {c:aC} {s:Sp} {L:List (Un × Int)} {B o:Nat} {E w w':World} (h:oR c s L B o E w) (f:Below w w w'):oR c s L B o E w':=by
 have F:=h.lt;have G:=h.sz;exact ⟨az f om h.cal,dB f om h.sp,h.map.call f,F,Nat.le_trans G f.size,h.bel.trans (f.mono om)⟩
theorem rL (c:aC) (y:Int) (A:List Ac) (v2:Value) (w:World) (hn:c.name.size≤1000) (hU:aU c ⟨1,y,1⟩=0) (hA:iA w v2 A) (hl:A.length≤5000)
  (ba:∀ a∈A,bE a.n) (hm:∀ a∈A,bF c 5 ⟨a.a,a.b⟩=0→(bn c 5 ⟨a.a,a.b⟩).length≤4096) :
  Calls Tryz.prog 40 #[aI c,y,v2] w fun e w'=>(∃ m,e=.returned (.tuple #[m,sd c y A])∧(sd c y A=0→nI w' m (xD (pL c y A)))∧(¬ sd c y A=0→m=.map none))∧Below w w w':=by
 have HU:=hide hU;have HA:=hide hA;have b0:=hide ba;have ah:=hide hm;obtain ⟨ad,cap,rfl,_⟩:=hA;have c2:=@run_makeMap Tryz.prog;clear hU ba hm;simp only [aI];go_enter Tryz.func40,Tryz.ntmps40;go_wp2_with fail;refine (fI c ⟨1,y,1⟩ _ hn).mono ?_;rintro e F ⟨rfl,H⟩;rw [HU.out];obtain ⟨s,hs⟩:∃ s,dD c ⟨1,y,1⟩=s:=⟨_,rfl⟩;rw [hs];have a9:=hide (fun a=>show lD c y a=decide (s.a≤a.b∧a.a≤s.b) by rw [← hs];rfl);have b3:=hide (show oR c s [] w.heap.size F.heap.size w ((F.alloc (yT s)).alloc (.map #[] 0)) from by
  have hb:Below w w F:=ar;have hz:=H.size;simp at hz;have hc:bR F w c:=az H af (be w c);refine ⟨bG (bG hc om _) ag _,?_,?_,by omega,by simp,by (repeat' exact bel)⟩
  ·exact rT (fX F s) af _
  ·rw [CN]
   have:=zS (F.alloc (yT s));simpa using this)
 have cb:=H.size;simp at cb;clear H hs;simp only [cw];go_wp2_with fail;go_loopw [30] (fun a5 wr=>∃ i:Nat,a5=.int .i64 i∧i≤A.length∧sd c y (A.take i)=0∧Hid (oR c s (pL c y (A.take i)) w.heap.size F.heap.size w wr)) (fun a5 _=>(A.length+5-intOf a5).toNat)
 case atStart=>exact ⟨0,rfl,Nat.zero_le _,rfl,b3⟩
 case round =>
  obtain ⟨i,rfl,hi,V,Y⟩:=hrel;obtain ⟨q0,q1,q2,q3,q4,q5,q6,q7,q8,q9,bs,bt,bw,bx⟩:=Y.out.cal;obtain ⟨p0,p1⟩:=Y.out.sp;have c5:=Y.out.sz;have c7:w.heap.size<wr.heap.size:=by have:=Y.out.lt;omega
  have c6:F.heap.size<wr.heap.size:=om;by_cases b9:i<A.length
  ·obtain ⟨x,hx⟩:∃ x,A[i]?=some x:=⟨_,List.getElem?_eq_getElem b9⟩
   obtain ⟨g,o,rfl,hg,d0,d1,d2⟩:=(HA.out.call Y.out.bel).at hx;have I:=Ae c y A i x hx V;rw [a9.out] at I;have f:=hide (BI c y A i x hx);rw [a9.out] at f;have cy:(0:Int)≤(i:Int):=om;have cS:(i:Int)<(A.length:Int):=om;have HX:=hide (List.mem_of_getElem? hx);have b1:=hide V;clear hx V;by_cases O:s.a≤x.b∧x.a≤s.b
   ·rw [decide_eq_true O] at f I
    obtain ⟨c3,c4⟩:=O;by_cases hE:bF c 5 ⟨x.a,x.b⟩=0
    ·have ao:=hide (I.2 (by simp [hE]))
     clear I;have G:=hide (fun w=>no c 5 x.n ⟨x.a,x.b⟩ w hn hE (ah.out x HX.out hE) (b0.out x HX.out));have ca:=ah.out x HX.out hE;obtain ⟨n,a4⟩:∃ n,(bn c 5 ⟨x.a,x.b⟩).length=n:=⟨_,rfl⟩;rw [a4] at G ca;have bk:=ir c 5 x.n ⟨x.a,x.b⟩;rw [a4] at bk;have bd:(pL c y (A.take i)).length≤20480000:=by
      refine Nat.le_trans (Ax c y (A.take i) 4096 b1.out fun a ha=>ah.out a (List.mem_of_mem_take ha)) (Nat.mul_le_mul (show (A.take i).length≤5000 by rw [List.length_take];omega) (Nat.le_refl 4096))
     obtain ⟨S,hS⟩:∃ S,pV c 5 x.n ⟨x.a,x.b⟩=S:=⟨_,rfl⟩;rw [hS] at f G bk;simp only [if_true] at f;obtain ⟨L0,bc⟩:∃ L,pL c y (A.take i)=L:=⟨_,rfl⟩;rw [bc] at f Y bd;simp only [aI,cw] at G;clear hE a4 hS bc;go_wp2_with fail;refine (G.out _).mono ?_;rintro e w2 ⟨⟨g2,rfl,bh,b7⟩,J⟩;have al:=hide (show oR c s (L0++S.take 0) w.heap.size F.heap.size w w2∧bS w2 g2 S from ⟨by rw [List.take_zero,List.append_nil];exact (Y.out.call ((Below.refl _ _).alloc (Nat.le_refl _) _)).call J,bh⟩);have cv:wr.heap.size+1≤g2:=by simpa using b7
     clear J bh p0 p1 d0 d1 d2;clear q0 q1 q2 q3 q4 q5 q6 q7 q8 q9 bs bt bw bx;go_wp2_with fail;go_loopw [62] (fun a6 wr=>∃ j:Nat,a6=.int .i64 j∧j≤n∧Hid (oR c s (L0++S.take j) w.heap.size F.heap.size w wr∧bS wr g2 S)) (fun a6 _=>(n+5-intOf a6).toNat)
     case atStart=>exact ⟨0,rfl,Nat.zero_le _,al⟩
     case round =>
      obtain ⟨j,rfl,hj,HR⟩:=hrel;by_cases cl:j<n
      ·obtain ⟨⟨u,m⟩,hu⟩:∃ u,S[j]?=some u:=⟨_,List.getElem?_eq_getElem om⟩
       obtain ⟨a0,a1,a2,a3⟩:=HR.out.2.cell hu;simp only at a0 a1 a2 a3;have cx:=HR.out.2.lt;have cp:=HR.out.1.sz;have c0:(0:Int)≤(j:Int):=om;have c1:(j:Int)<(n:Int):=om;have b4:=hide (show L0++S.take (j+1)=L0++S.take j++[(u,m)] by rw [List.take_add_one,hu,List.append_assoc];rfl);have ab:=hide (HR.out.1.call (show Below wr wr ((wr.alloc (.cells #[.int .i64 u.lv,.int .i64 u.yr,.int .i64 u.ix,.int .i64 m] 59)).alloc (.cells #[.int .i64 m] 2)) from by (repeat' exact bel)));obtain ⟨W,hW⟩:∃ W,(wr.alloc (.cells #[.int .i64 u.lv,.int .i64 u.yr,.int .i64 u.ix,.int .i64 m] 59)).alloc (.cells #[.int .i64 m] 2)=W:=⟨_,rfl⟩;rw [hW] at ab;obtain ⟨L,cr,U⟩:=ab.out.map;obtain ⟨L1,L2,b,clk',e1,e2,e3,e4⟩:=sw U u;simp only [aZ] at e1;have bl:=uc (L0++S.take j) u;rw [List.length_append,List.length_take] at bl;have HM:=hide U;have ac:=hide (fun w' v'=>sU U u m L1 L2 b clk' w' v' e2 e3);obtain ⟨v0,bp⟩:∃ v,(bq L u).getD (.slice none 0 0)=v:=⟨_,rfl⟩;rw [bp] at e1 e2 e4 ac;have a8:=hide (And.intro e2 (And.intro e3 e4));clear U e2 e3 e4 hu bp;have b6:(de W (F.heap.size+1) (L1++(u,v0,b)::L2) clk').cell? ⟨wr+1,0,none⟩=some (.int .i64 m):=by
        have h1:W.heap[wr.heap.size+1]?=some (.cells #[.int .i64 m] 2 (0,0)):=by
         rw [← hW];have:=heap_alloc_new (wr.alloc (.cells #[.int .i64 u.lv,.int .i64 u.yr,.int .i64 u.ix,.int .i64 m] 59)) (.cells #[.int .i64 m] 2);simpa using this
        have h2:=cX (w:=W) (M:=F.heap.size+1) (L1++(u,v0,b)::L2) clk' (b:=wr.heap.size+1) om;rw [h1] at h2;simp [World.cell?,h2]
       have cs:wr.heap.size+1<W.heap.size:=by rw [← hW];simp
       go_wp2_with ((at_builtin;refine BW rfl _ _ rfl (F.heap.size+2) v0 (xD (L0++S.take j) u) m (wr.heap.size+1) rfl a8.out.2.2 rfl b6 om (by rw [cL];omega) ?_));intro v' w3 ho aB aA;rw [cL] at aA;obtain ⟨cc,bX,a7⟩:=ac.out w3 v' (by simpa using ho) aB aA;have b2:=hide (show oR c s (L0++S.take (j+1)) w.heap.size F.heap.size w (de w3 (F.heap.size+1) (L1++(u,v',b)::L2) clk')∧bS (de w3 (F.heap.size+1) (L1++(u,v',b)::L2) clk') g2 S from by
        have b8:=HR.out.1.lt;have H:=a7 (F.heap.size+1) W (Nat.le_refl _) (Below.refl _ _);have J:=a7 w.heap.size w om ab.out.bel;have aq:bS W g2 S:=by rw [← hW];exact HR.out.2.call ar
        refine ⟨⟨az H om ab.out.cal,dB H om ab.out.sp,by rw [b4.out,AS];exact bX,b8,by have:=H.size;omega,J⟩,?_⟩;have O:=BE a8.out.2.2 (g:=g2) ((cX _ _ om).trans aq) aj;have hl:=aB.block g2 (by rw [cL];exact aq.lt) (fun e=>O e.symm);exact (cX _ _ om).trans (hl.trans ((cX _ _ om).trans aq)))
       simp only [goInt] at cc;clear bX a7 ho aB aA;go_wp2;go_roundw
       case rel=>exact ⟨j+1,by go_num,by omega,b2⟩
       case measure=>simp [intOf];omega
      ·obtain rfl:j=n:=om
       have HD:=hide (show oR c s (pL c y (A.take (i+1))) w.heap.size F.heap.size w wr by
        have h:=HR.out.1;rw [List.take_of_length_le om,← f.out] at h;exact h)
       go_wp2
       all_goals first
        | (exfalso;omega)
        | skip
       go_roundw
       case rel=>exact ⟨i+1,by go_num,by omega,ao.out,HD⟩
       case measure=>simp [intOf];omega
    ·have b5:(bF c 5 ⟨x.a,x.b⟩ != 0)=true:=by simpa using hE
     have aa:=hide (I.1 ⟨rfl,hE⟩);have G:=hide (fun w=>vS c 5 x.n ⟨x.a,x.b⟩ w hn hE);have HE:=hide hE;obtain ⟨E,bb⟩:∃ E,bF c 5 ⟨x.a,x.b⟩=E:=⟨_,rfl⟩;rw [bb] at b5 aa G HE;simp only [aI,cw] at G;clear hE I bb;go_wp2_with fail;refine (G.out _).mono ?_;rintro e w2 ⟨rfl,J⟩;have al:=hide ((Y.out.call ((Below.refl _ _).alloc (Nat.le_refl _) _)).call J);clear J p0 p1 d0 d1 d2;clear q0 q1 q2 q3 q4 q5 q6 q7 q8 q9 bs bt bw bx;go_wp2;go_ret2;exact ⟨⟨.map none,by rw [aa.out];rfl,fun h=>absurd (aa.out.symm.trans h) HE.out,fun _=>rfl⟩,al.out.bel⟩
   ·have ao:=hide (I.2 (by simp [O]))
    rw [decide_eq_false O] at f;simp only [Bool.false_eq_true,if_false,List.append_nil] at f;clear I;rcases (show x.b<s.a∨(s.a≤x.b∧s.b<x.a) by omega) with h1 | ⟨h1,h2⟩
    all_goals
     clear O;go_wp2
     all_goals first
      | (exfalso;omega)
      | skip
     go_roundw
     case rel=>exact ⟨i+1,by go_num,by omega,ao.out,by rw [f.out];exact hide (Y.out.call ((Below.refl _ _).alloc (Nat.le_refl _) _))⟩
     case measure=>simp [intOf];omega
  ·obtain rfl:i=A.length:=om
   rw [List.take_length] at V Y;have HP:=hide V;clear V;go_wp2
   all_goals first
    | (exfalso;omega)
    | skip
   go_ret2;exact ⟨⟨.map (some (F.heap.size+1)),by rw [HP.out];rfl,fun _=>Y.out.map.pmap,fun h=>absurd HP.out h⟩,Y.out.bel⟩
end
end Go.Proofs.YtpebkobmhhnojaaGreatDoor
