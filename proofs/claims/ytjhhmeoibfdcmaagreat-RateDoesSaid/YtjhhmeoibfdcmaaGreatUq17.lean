/- Maps keyed by units: a store. Maps keyed by units: an entry made, and its element stored. Package book: a map of slices that is filled, key by key. Package book: what of all accruals falls to the weeks of a year. -/
import Derived.Maps.AppendAt
import Derived.Test.YtjhhmeoibfdcmaaGreatUq09
import Derived.Test.YtjhhmeoibfdcmaaGreatUq16
set_option linter.unusedSimpArgs false
set_option linter.unusedVariables false
set_option maxRecDepth 100000
set_option maxHeartbeats 12800000
namespace Go.Proofs.YtjhhmeoibfdcmaaGreat
open Go.RowKit Qd
theorem unB_iff (x y:Un):unB x.lv x.yr x.ix y.lv y.yr y.ix=true↔x=y:=by
  obtain ⟨a,b,c⟩:=x
  obtain ⟨d,e,f⟩:=y
  simp [unB]
instance decUn:DecidableEq Un:=fun x y=>decidable_of_iff (unB x.lv x.yr x.ix y.lv y.yr y.ix=true) (unB_iff x y)
theorem lookV_cons (e:Un × Value × Nat) (L:UMap) (x:Un):lookV (e::L) x=if x=e.1 then some e.2.1 else lookV L x:=by
  simp only [lookV,unB_iff]
theorem run_asking2 (L:UMap) (x:Un) (i:Nat) (w:World):∃ j,(Instr.findAsking 26 (unitV x) (esOf L).toList i).run Tryz.prog w=.ok ((lookV L x).map fun v=>(i+j,v)) w ∧
    (∀ v,lookV L x=some v→∃ e L1 L2,L=L1++e::L2∧L1.length=j∧e.1=x∧lookV L1 x=none):=by
  induction L generalizing i with
  | nil=>exact ⟨0,by simp [esOf,Instr.findAsking,lookV],fun v h=>by simp [lookV] at h⟩
  | cons e L ih =>
    obtain ⟨j,hj,hk⟩:=ih (i+1)
    have he:(Op.equal 26 (unitV x) (unitV e.1)).run Tryz.prog w=.ok (unB x.lv x.yr x.ix e.1.lv e.1.yr e.1.ix) w:=eqUnit 9998 x.lv x.yr x.ix e.1.lv e.1.yr e.1.ix w
    have e1:(esOf (e::L)).toList=({ key:=unitV e.1,val:=e.2.1,born:=e.2.2 }:MapEntry)::(esOf L).toList:=by simp [esOf]
    rw [e1]
    cases hb:unB x.lv x.yr x.ix e.1.lv e.1.yr e.1.ix
    · refine ⟨j+1,?_,?_⟩
      · rw [hb] at he
        have hl:lookV (e::L) x=lookV L x:=by simp [lookV,hb]
        rw [hl]
        simp only [Instr.findAsking,Sem.run_bind,he,Result.andThen_ok,Bool.false_eq_true,if_false]
        rw [show i+(j+1)=i+1+j by omega]
        exact hj
      · intro v hv
        have hl:lookV (e::L) x=lookV L x:=by simp [lookV,hb]
        rw [hl] at hv
        obtain ⟨e',L1,L2,k1,k2,k3,k4⟩:=hk v hv
        exact ⟨e',e::L1,L2,by rw [k1];rfl,by simp [k2],k3,by simp [lookV,hb,k4]⟩
    · refine ⟨0,?_,?_⟩
      · rw [hb] at he
        have hl:lookV (e::L) x=some e.2.1:=by simp [lookV,hb]
        rw [hl]
        simp only [Instr.findAsking,Sem.run_bind,he,Result.andThen_ok,if_true]
        rfl
      · intro v hv
        exact ⟨e,[],L,rfl,rfl,((unB_iff _ _).1 hb).symm,rfl⟩
theorem lookV_app (L1 L2:UMap) (x:Un):lookV (L1++L2) x=(lookV L1 x).or (lookV L2 x):=by
  induction L1 with
  | nil=>simp [lookV]
  | cons e L ih =>
    rw [List.cons_append,lookV_cons,lookV_cons,ih]
    split <;> simp
theorem bits_int (n:Nat) (a:Int):Instr.sameBits (n+1) (.int .i64 a) (.int .i64 a)=true:=by simp [Instr.sameBits]
theorem bits_unit (x:Un):Instr.sameBits 10000 (unitV x) (unitV x)=true:=by
  show Instr.sameBits (9999+1) (unitV x) (unitV x)=true
  simp only [unitV,Instr.sameBits]
  simp [bits_int 9998]
end Go.Proofs.YtjhhmeoibfdcmaaGreat
namespace Go.Proofs.YtjhhmeoibfdcmaaGreat
open Go.RowKit Qd
def Stmp (L:UMap) (clk:Nat):Prop:=(L.map fun e=>e.2.2).Nodup∧∀ e∈L,e.2.2<clk
def UMapAt (w:World) (M:Nat) (L:UMap) (clk:Nat):Prop:=w.heap[M]?=some (.map (esOf L) clk)∧Stmp L clk
theorem stmp_nil:Stmp [] 0:=⟨List.nodup_nil,fun e h=>by simp at h⟩
def setMap (w:World) (M:Nat) (L:UMap) (clk:Nat):World:={ w with heap:=w.heap.setIfInBounds M (.map (esOf L) clk) }
theorem setMap_at {w:World} {M:Nat} {L0:UMap} {c0:Nat} (h:w.heap[M]?=some (.map (esOf L0) c0)) (L:UMap) (clk:Nat):(setMap w M L clk).heap[M]?=some (.map (esOf L) clk):=by
  have:=(Array.getElem?_eq_some_iff.1 h).1
  simp [setMap,this]
theorem setMap_far {w:World} {M b:Nat} (L:UMap) (clk:Nat) (h:b≠M):(setMap w M L clk).heap[b]?=w.heap[b]?:=by
  simp [setMap,Array.getElem?_setIfInBounds,Ne.symm h]
theorem setMap_size (w:World) (M:Nat) (L:UMap) (clk:Nat):(setMap w M L clk).heap.size=w.heap.size:=by simp [setMap]
theorem setMap_below {K M:Nat} {w0 w:World} (h:Below K w0 w) (hM:K≤M) (L:UMap) (clk:Nat):Below K w0 (setMap w M L clk):=
  h.trans ⟨rfl,rfl,rfl,by rw [setMap_size];exact Nat.le_refl _,fun k hk=>setMap_far L clk (by omega)⟩
theorem esOf_set (L1 L2:UMap) (e e':Un × Value × Nat) (f:MapEntry→MapEntry) (hf:f { key:=unitV e.1,val:=e.2.1,born:=e.2.2 }={ key:=unitV e'.1,val:=e'.2.1,born:=e'.2.2 }):(esOf (L1++e::L2)).modify L1.length f=esOf (L1++e'::L2):=by
  apply Array.ext_getElem?
  intro i
  simp only [esOf,Array.getElem?_modify,List.getElem?_toArray,List.getElem?_map]
  rcases Nat.lt_trichotomy i L1.length with h | h | h
  · rw [List.getElem?_append_left h,List.getElem?_append_left h,if_neg (by omega)]
  · subst h;simp [hf]
  · rw [List.getElem?_append_right (by omega),List.getElem?_append_right (by omega),if_neg (by omega)]
    obtain ⟨q,hq⟩:∃ q,i-L1.length=q+1:=⟨i-L1.length-1,by omega⟩
    rw [hq];rfl
theorem run_entryU (L:UMap) (M clk:Nat) (x:Un) (w:World) (hM:UMapAt w M L clk) :
    ∃ (L1 L2:UMap) (b clk':Nat),(Instr.mapEntry 86 (.map (some M)) (unitV x)).run Tryz.prog w=.ok (.tuple #[(lookV L x).getD (.slice none 0 0),goInt b]) (setMap w M (L1++(x,(lookV L x).getD (.slice none 0 0),b)::L2) clk') ∧
      Stmp (L1++(x,(lookV L x).getD (.slice none 0 0),b)::L2) clk'∧(∀ v y,lookV (L1++(x,v,b)::L2) y=if y=x then some v else lookV L y):=by
  have um:=Tryz.underlying86
  obtain ⟨hH,hn,hl⟩:=hM
  obtain ⟨j,hj,hk⟩:=run_asking2 L x 0 w
  have hf:(Instr.findKey 26 (unitV x) (esOf L).toList).run Tryz.prog w=.ok ((lookV L x).map fun v=>(j,v)) w:=by
    rw [run_findKey_eq (P:=Tryz.prog) (w:=w) (k:=26) (by simp [Tryz.underlying26]) (unitV x) (esOf L).toList,hj]
    simp
  have hz:∀ w,(zeroValue 53).run Tryz.prog w=.ok (.slice none 0 0) w:=fun w=>by kernel_rfl
  cases hL:lookV L x with
  | none =>
    refine ⟨L,[],clk,clk+1,?_,⟨?_,?_⟩,fun v y=>?_⟩
    · simp only [Instr.mapEntry,Sem.run_bind,run_underlying um,Result.andThen_ok,MapKept.run_getObj_map hH,run_key,hf,hL,Option.map_none,hz,MapKept.run_setObj_map _ hH,Sem.run_pure,Option.getD_none]
      simp [esOf,setMap]
    · rw [List.map_append,List.nodup_append]
      refine ⟨hn,by simp,fun a ha c hc=>?_⟩
      simp at hc
      obtain ⟨e,he,rfl⟩:=List.mem_map.1 ha
      have:=hl e he
      omega
    · intro e he
      rcases List.mem_append.1 he with he | he
      · have:=hl e he;omega
      · simp at he;subst he;simp
    · rw [lookV_app,lookV_cons]
      by_cases hy:y=x
      · subst hy;simp [hL]
      · simp [hy,lookV]
  | some u =>
    obtain ⟨e,L1,L2,k1,k2,k3,k4⟩:=hk u hL
    obtain ⟨e1,e2,e3⟩:=e
    simp only at k3
    subst k3
    have hu:u=e2:=by
      rw [k1,lookV_app,k4,lookV_cons] at hL
      simp at hL
      exact hL.symm
    subst hu
    refine ⟨L1,L2,e3,clk,?_,by rw [k1] at hn hl;exact ⟨hn,hl⟩,fun v y=>?_⟩
    · have hg : (esOf L)[j]? = some ({ key := unitV e1, val := u, born := e3 } : MapEntry) := by
        rw [k1,← k2];simp [esOf]
      have hs:(Instr.keyThatStays (unitV e1) (unitV e1)).run Tryz.prog w=.ok (unitV e1) w:=by
        simp [Instr.keyThatStays,bits_unit]
      have hm:(esOf L).modify j (fun e=>{ e with key:=unitV e1 })=esOf (L1++(e1,u,e3)::L2):=by
        rw [k1,← k2]
        exact esOf_set L1 L2 (e1,u,e3) (e1,u,e3) _ rfl
      simp only [Instr.mapEntry,Sem.run_bind,run_underlying um,Result.andThen_ok,MapKept.run_getObj_map hH,run_key,hf,hL,Option.map_some,hg,Option.getD_some,hs,hm,MapKept.run_setObj_map _ hH,Sem.run_pure]
      rfl
    · rw [lookV_app,lookV_cons,k1,lookV_app,lookV_cons]
      by_cases hy:y=e1
      · subst hy;simp [k4]
      · simp [hy]
theorem find_born (L1 L2:UMap) (e:Un × Value × Nat) (h:((L1++e::L2).map fun e=>e.2.2).Nodup):(esOf (L1++e::L2)).findIdx? (fun m=>((m.born:Int))==(e.2.2:Int))=some L1.length:=by
  rw [Array.findIdx?_eq_some_iff_getElem]
  refine ⟨by simp [esOf],by simp [esOf],fun i hi=>?_⟩
  have hne:(L1[i]'hi).2.2≠e.2.2:=by
    rw [List.map_append,List.nodup_append] at h
    exact h.2.2 _ (List.mem_map.2 ⟨_,List.getElem_mem hi,rfl⟩) _ (by simp)
  simp only [esOf,List.getElem_toArray,List.getElem_map,List.getElem_append_left hi]
  simp
  omega
theorem run_storeU (L1 L2:UMap) (M clk b:Nat) (x:Un) (v u:Value) (w:World) (hM:UMapAt w M (L1++(x,u,b)::L2) clk) :
    (Instr.entryStore 86 (.map (some M)) (goInt b) v).run Tryz.prog w=.ok () (setMap w M (L1++(x,v,b)::L2) clk):=by
  obtain ⟨hH,hn,hl⟩:=hM
  have hf:=find_born L1 L2 (x,u,b) hn
  have hm:(esOf (L1++(x,u,b)::L2)).modify L1.length (fun e=>{ e with val:=v })=esOf (L1++(x,v,b)::L2):=esOf_set L1 L2 (x,u,b) (x,v,b) _ rfl
  simp only [Instr.entryStore,Sem.run_bind,MapKept.run_getObj_map hH,Result.andThen_ok,goInt,asInt,asIntOf,Sem.run_pure]
  simp only at hf
  simp only [hf,hm,MapKept.run_setObj_map _ hH]
  rfl
end Go.Proofs.YtjhhmeoibfdcmaaGreat
namespace Go.Proofs.YtjhhmeoibfdcmaaGreat
open Go.RowKit Qd
structure GMapL (w:World) (M K:Nat) (L:UMap) (clk:Nat) (f:Un→List Int):Prop where
  at_:UMapAt w M L clk
  lt:M<K
  le:K≤w.heap.size
  own:∀ x,w.ownsRow K 2 1 ((lookV L x).getD (.slice none 0 0)) (f x).length (intsC (f x))
  ne:∀ x y b,x≠y→((lookV L x).getD (.slice none 0 0)).ownBlock=some b→((lookV L y).getD (.slice none 0 0)).ownBlock≠some b
  nil:∀ x,f x=[]→(lookV L x).getD (.slice none 0 0)=.slice none 0 0
def GMap (w:World) (M K:Nat) (f:Un→List Int):Prop:=∃ L clk,GMapL w M K L clk f
theorem own_of {w w':World} {base:Nat} {v:Value} {l:List Int} (h:w.ownsRow base 2 1 v l.length (intsC l)) (hb:∀ b,v.ownBlock=some b→w'.heap[b]?=w.heap[b]?):w'.ownsRow base 2 1 v l.length (intsC l):=by
  refine ⟨h.1,?_⟩
  rcases h.2 with h1 | ⟨g',cap',cur,he,h2,hg',h3⟩
  · exact .inl h1
  · exact .inr ⟨g',cap',cur,he,h2,(hb g' (by rw [he];rfl)).trans hg',h3⟩
theorem GMapL.call {w w':World} {M K:Nat} {L:UMap} {clk:Nat} {f:Un→List Int} (h:GMapL w M K L clk f) (hb:Below w.heap.size w w'):GMapL w' M K L clk f:=
  ⟨⟨(hb.block M (Array.getElem?_eq_some_iff.1 h.at_.1).1).trans h.at_.1,h.at_.2⟩,h.lt,Nat.le_trans h.le hb.size,fun x=>own_of (h.own x) fun b hb2=>hb.block b ((h.own x).lt b hb2).2,h.ne,h.nil⟩
theorem GMap.call {w w':World} {M K:Nat} {f:Un→List Int} (h:GMap w M K f) (hb:Below w.heap.size w w'):GMap w' M K f:=by
  obtain ⟨L,clk,h⟩:=h
  exact ⟨L,clk,h.call hb⟩
theorem gmap_new (w:World):GMap (w.alloc (.map #[] 0)) w.heap.size (w.heap.size+1) (fun _=>[]):=by
  refine ⟨[],0,⟨⟨?_,stmp_nil⟩,by omega,by simp,fun x=>⟨rfl,.inl ⟨rfl,rfl⟩⟩,fun x y b _ h=>?_,fun x _=>rfl⟩⟩
  · have h:=heap_alloc_new w (.map #[] 0)
    simpa [esOf] using h
  · simp [lookV,Value.ownBlock] at h
theorem GMap.pmap {w:World} {M K:Nat} {f:Un→List Int} (h:GMap w M K f):PMap w (.map (some M)) f:=by
  obtain ⟨L,clk,h⟩:=h
  refine ⟨M,L,clk,rfl,h.at_.1,fun x=>?_⟩
  by_cases hx:f x=[]
  · exact .inl ⟨hx,h.nil x hx⟩
  · have ho:=h.own x
    rcases ho.2 with ⟨h1,h2⟩ | ⟨g,cap,cur,h1,h2,h3,h4,h5,h6,h7⟩
    · exact absurd (List.length_eq_zero_iff.1 h2) hx
    · refine .inr ⟨g,cap,hx,h1,(Array.getElem?_eq_some_iff.1 h3).1,fun i z hz=>?_⟩
      have h8:=ho.cells (show ((lookV L x).getD (.slice none 0 0)).ownBlock=some g by rw [h1];rfl) i (.int .i64 z) (by simp [intsC,hz])
      by_cases hi0:i=0
      · subst hi0;simpa [Addr.add] using h8
      · simpa [Addr.add,hi0] using h8
theorem app_one {ops:Array Oper} {rest:List Oper} {o:Oper} {a:Act} {Q:Exit→Act→World→Prop} {w:World} (hgd:o.guard=none) (s x:Operand)
    (ho:o.op=.call { callee:=.builtin .append,args:=#[s,x],argTypes:=#[53,53] }) (base:Nat) (v:Value) (m:List Int) (n:Int) (B:Nat)
    (hs:a.eval s=v) (hown:w.ownsRow base 2 1 v m.length (intsC m)) (hx:a.eval x=.slice (some ⟨B,0,none⟩) 1 1) (hc:w.cell? ⟨B,0,none⟩=some (.int .i64 n)) (hml:m.length≤100000000) (hbase:base≤w.heap.size)
    (h:∀ v' w',w'.ownsRow base 2 1 v' (m++[n]).length (intsC (m++[n]))→w.grownBy w' v.ownBlock→(v'.ownBlock=v.ownBlock∨v'.ownBlock=some w.heap.size)→wpList Tryz.prog ops Q rest (a.put o.dst v') w'):wpList Tryz.prog ops Q (o::rest) a w:=by
  obtain ⟨i,hi,hi0,hi1,hi2⟩:=info_parts i64_info
  refine wpList_append_own_at w hgd s x 53 ho base 2 i (.int .i64 0) 1 8 Tryz.underlying53 hi hi0 hi1 hi2 rfl (by decide) v m.length (intsC m) hs hown ⟨B,0,none⟩ 1 1 [.int .i64 n] hx rfl ?_ ?_ ?_ ?_ hbase ?_
  · intro j u hj
    match j,hj with
    | 0,hj=>simp at hj;subst hj;simpa [Addr.add] using hc
  · intro u hu
    simp at hu
    subst hu
    rfl
  · unfold maxLen;omega
  · omega
  · intro v' w' ho' hg _ hat
    exact h v' w' (by rw [List.length_append,intsC_app];exact ho') hg hat
def fPut (f:Un→List Int) (u:Un) (n:Int):Un→List Int:=fun y=>if y=u then f y++[n] else f y
theorem gmap_entry {w:World} {M K:Nat} {L:UMap} {clk:Nat} {f:Un→List Int} (h:GMapL w M K L clk f) (u:Un) :
    ∃ (L1 L2:UMap) (b clk':Nat),(Instr.mapEntry 86 (.map (some M)) (unitV u)).run Tryz.prog w=.ok (.tuple #[(lookV L u).getD (.slice none 0 0),goInt b]) (setMap w M (L1++(u,(lookV L u).getD (.slice none 0 0),b)::L2) clk') ∧
      Stmp (L1++(u,(lookV L u).getD (.slice none 0 0),b)::L2) clk'∧(∀ v y,lookV (L1++(u,v,b)::L2) y=if y=u then some v else lookV L y) ∧
      (setMap w M (L1++(u,(lookV L u).getD (.slice none 0 0),b)::L2) clk').ownsRow K 2 1 ((lookV L u).getD (.slice none 0 0)) (f u).length (intsC (f u)):=by
  obtain ⟨L1,L2,b,clk',h1,h2,h3⟩:=run_entryU L M clk u w h.at_
  refine ⟨L1,L2,b,clk',h1,h2,h3,own_of (h.own u) fun b' hb=>setMap_far _ _ ?_⟩
  have:=((h.own u).lt b' hb).1
  have:=h.lt
  omega
theorem gmap_store {w:World} {M K:Nat} {L:UMap} {clk:Nat} {f:Un→List Int} (h:GMapL w M K L clk f) (u:Un) (n:Int) (L1 L2:UMap) (b clk':Nat) (w':World) (v':Value)
    (h2:Stmp (L1++(u,(lookV L u).getD (.slice none 0 0),b)::L2) clk') (h3:∀ v y,lookV (L1++(u,v,b)::L2) y=if y=u then some v else lookV L y)
    (ho:w'.ownsRow K 2 1 v' (f u++[n]).length (intsC (f u++[n]))) (hg:(setMap w M (L1++(u,(lookV L u).getD (.slice none 0 0),b)::L2) clk').grownBy w' ((lookV L u).getD (.slice none 0 0)).ownBlock)
    (hat:v'.ownBlock=((lookV L u).getD (.slice none 0 0)).ownBlock∨v'.ownBlock=some w.heap.size) :
    (Instr.entryStore 86 (.map (some M)) (goInt b) v').run Tryz.prog w'=.ok () (setMap w' M (L1++(u,v',b)::L2) clk')∧GMap (setMap w' M (L1++(u,v',b)::L2) clk') M K (fPut f u n)∧(∀ K0 w0,K0≤M→Below K0 w0 w→Below K0 w0 (setMap w' M (L1++(u,v',b)::L2) clk')):=by
  have hMne:((lookV L u).getD (.slice none 0 0)).ownBlock≠some M:=fun e=>by
    have:=((h.own u).lt M e).1
    have:=h.lt
    omega
  have hMl:=(Array.getElem?_eq_some_iff.1 h.at_.1).1
  have hsz:w.heap.size≤w'.heap.size:=by have:=hg.size;rwa [setMap_size] at this
  have hat2:UMapAt w' M (L1++(u,(lookV L u).getD (.slice none 0 0),b)::L2) clk':=⟨(hg.block M (by rw [setMap_size];exact hMl) (fun e=>hMne e.symm)).trans (setMap_at h.at_.1 _ _),h2⟩
  refine ⟨run_storeU L1 L2 M clk' b u v' _ w' hat2,⟨L1++(u,v',b)::L2,clk',⟨⟨setMap_at hat2.1 _ _,?_⟩,h.lt,by rw [setMap_size];exact Nat.le_trans h.le hsz,?_,?_,?_⟩⟩,?_⟩
  · exact ⟨by simpa using h2.1, fun e he => by
      rcases List.mem_append.1 he with he | he
      · exact h2.2 e (List.mem_append_left _ he)
      · rcases List.mem_cons.1 he with rfl | he
        · exact h2.2 (u,(lookV L u).getD (.slice none 0 0),b) (by simp)
        · exact h2.2 e (List.mem_append_right _ (List.mem_cons_of_mem _ he))⟩
  · intro x
    rw [h3]
    unfold fPut
    by_cases hx:x=u
    · subst hx
      rw [if_pos rfl,if_pos rfl]
      refine own_of ho fun b' hb=>setMap_far _ _ ?_
      have:=(ho.lt b' hb).1
      have:=h.lt
      omega
    · rw [if_neg hx,if_neg hx]
      refine own_of (h.own x) fun b' hb=>?_
      have hl:=(h.own x).lt b' hb
      have hK:=h.lt
      rw [setMap_far _ _ (by omega),hg.block b' (by rw [setMap_size];exact hl.2) (fun e=>h.ne x u b' hx hb e.symm),setMap_far _ _ (by omega)]
  · intro x y b' hxy hx
    rw [h3] at hx ⊢
    have hbu:∀ z,z≠u→((lookV L z).getD (.slice none 0 0)).ownBlock=some b'→v'.ownBlock≠some b':=by
      intro z hz hb e
      rcases hat with h1 | h1
      · exact h.ne z u b' hz hb (by rw [← h1];exact e)
      · rw [h1] at e
        cases e
        have:=((h.own z).lt _ hb).2
        omega
    by_cases hxu:x=u
    · subst hxu
      rw [if_pos rfl] at hx
      rw [if_neg (fun e=>hxy e.symm)]
      intro hy
      exact hbu y (fun e=>hxy e.symm) hy hx
    · rw [if_neg hxu] at hx
      by_cases hyu:y=u
      · subst hyu
        rw [if_pos rfl]
        exact hbu x hxu hx
      · rw [if_neg hyu]
        exact h.ne x y b' hxy hx
  · intro x hx
    rw [h3]
    unfold fPut at hx
    by_cases hxu:x=u
    · rw [if_pos hxu] at hx;simp at hx
    · rw [if_neg hxu] at hx ⊢
      exact h.nil x hx
  · intro K0 w0 hK0 hb
    have h1:=setMap_below hb hK0 (L1++(u,(lookV L u).getD (.slice none 0 0),b)::L2) clk'
    refine setMap_below (h1.grown hg (by rw [setMap_size];omega) fun k hk=>?_) hK0 _ _
    have:=((h.own u).lt k hk).1
    have:=h.lt
    omega
end Go.Proofs.YtjhhmeoibfdcmaaGreat
namespace Go.Proofs.YtjhhmeoibfdcmaaGreat
open Go.RowKit Qd
noncomputable def nearA (c:Cal) (y:Int) (a:Ac):Bool:=decide ((spV c ⟨1,y,1⟩).a≤a.b∧a.a≤(spV c ⟨1,y,1⟩).b)
noncomputable def ptE (c:Cal) (y:Int):List Ac→Int
  | []=>0
  | a::l=>if nearA c y a=true∧¬ meetsE c 5 ⟨a.a,a.b⟩=0 then meetsE c 5 ⟨a.a,a.b⟩ else ptE c y l
noncomputable def pL (c:Cal) (y:Int) (A:List Ac):List (Un × Int):=A.flatMap fun a=>if nearA c y a=true then shL c 5 a.n ⟨a.a,a.b⟩ else []
def shF (L:List (Un × Int)) (u:Un):List Int:=(L.filter fun x=>decide (u=x.1)).map (·.2)
theorem ptE_step (c:Cal) (y:Int) (A:List Ac) (i:Nat) (a:Ac) (ha:A[i]?=some a) (h:ptE c y (A.take i)=0) :
    (nearA c y a=true∧¬ meetsE c 5 ⟨a.a,a.b⟩=0→ptE c y A=meetsE c 5 ⟨a.a,a.b⟩)∧(¬ (nearA c y a=true∧¬ meetsE c 5 ⟨a.a,a.b⟩=0)→ptE c y (A.take (i+1))=0):=by
  induction A generalizing i with
  | nil=>simp at ha
  | cons x A ih =>
    cases i with
    | zero =>
      simp at ha
      subst ha
      constructor
      · intro h1;simp only [ptE];rw [if_pos h1]
      · intro h1;simp only [List.take_succ_cons,List.take_zero,ptE];rw [if_neg h1]
    | succ i =>
      simp only [List.getElem?_cons_succ] at ha
      simp only [List.take_succ_cons,ptE] at h ⊢
      split at h
      · rename_i h1;exact absurd h h1.2
      · rename_i h1;rw [if_neg h1,if_neg h1];exact ih i ha h
theorem flatM_len {α β:Type} (l:List α) (f:α→List β) (k:Nat) (h:∀ a∈l,(f a).length≤k):(l.flatMap f).length≤l.length*k:=by
  induction l with
  | nil=>simp
  | cons a l ih =>
    rw [List.flatMap_cons,List.length_append,List.length_cons,Nat.succ_mul]
    have h1:=ih fun b hb=>h b (List.mem_cons_of_mem _ hb)
    have h2:=h a (by simp)
    omega
theorem ptE_near (c:Cal) (y:Int) (A:List Ac) (h:ptE c y A=0) (a:Ac) (ha:a∈A) (hn:nearA c y a=true):meetsE c 5 ⟨a.a,a.b⟩=0:=by
  induction A with
  | nil=>simp at ha
  | cons x A ih =>
    simp only [ptE] at h
    split at h
    · rename_i h1;exact absurd h h1.2
    · rename_i h1
      rcases List.mem_cons.1 ha with rfl | ha
      · by_cases h2:meetsE c 5 ⟨a.a,a.b⟩=0
        · exact h2
        · exact absurd ⟨hn,h2⟩ h1
      · exact ih h ha
theorem pL_len (c:Cal) (y:Int) (A:List Ac) (k:Nat) (h:ptE c y A=0) (hm:∀ a∈A,meetsE c 5 ⟨a.a,a.b⟩=0→(meetsL c 5 ⟨a.a,a.b⟩).length≤k):(pL c y A).length≤A.length*k:=by
  refine flatM_len A _ k fun a ha=>?_
  split
  · rename_i hn
    rw [shL_len]
    exact hm a ha (ptE_near c y A h a ha hn)
  · simp
theorem pL_step (c:Cal) (y:Int) (A:List Ac) (i:Nat) (a:Ac) (ha:A[i]?=some a):pL c y (A.take (i+1))=pL c y (A.take i)++(if nearA c y a=true then shL c 5 a.n ⟨a.a,a.b⟩ else []):=by
  rw [List.take_add_one,ha,pL,List.flatMap_append]
  simp [pL]
theorem shF_nil:shF []=fun _=>[]:=rfl
theorem shF_snoc (L:List (Un × Int)) (v:Un) (n:Int):shF (L++[(v,n)])=fPut (shF L) v n:=by
  funext y
  unfold shF fPut
  rw [List.filter_append,List.map_append]
  by_cases h:y=v
  · rw [if_pos h,List.filter_cons_of_pos (by simpa using h)];rfl
  · rw [if_neg h,List.filter_cons_of_neg (by simpa using h)];simp
theorem shF_len (L:List (Un × Int)) (u:Un):(shF L u).length≤L.length:=by
  unfold shF;rw [List.length_map];exact List.length_filter_le _ _
theorem shF_mem {L:List (Un × Int)} {u:Un} {n:Int} (h:n∈shF L u):(u,n)∈L:=by
  unfold shF at h
  obtain ⟨x,hx,rfl⟩:=List.mem_map.1 h
  obtain ⟨h1,h2⟩:=List.mem_filter.1 hx
  have h3:u=x.1:=by simpa using h2
  rw [h3];exact h1
theorem ownB_ne {w:World} {base:Nat} {v:Value} {l:List Int} (h:w.ownsRow base 2 1 v l.length (intsC l)) {g:Nat} {cs:Array Value} {t:TypeId} {fr:Nat × Nat} (hg:w.heap[g]?=some (.cells cs t fr)) (ht:t≠2):v.ownBlock≠some g:=by
  intro e
  rcases h.2 with ⟨h1,_⟩ | ⟨g',cap',cur,h1,h2,h3,h4⟩
  · rw [h1] at e;cases e
  · rw [h1] at e
    cases e
    rw [hg] at h3
    cases h3
    exact ht rfl
structure PtSt (c:Cal) (s:Sp) (L:List (Un × Int)) (B S1:Nat) (w0 w:World):Prop where
  cal:CalAt w B c
  sp:SpAt w S1 s
  map:GMap w (S1+1) (S1+2) (shF L)
  lt:B<S1
  sz:S1+2≤w.heap.size
  bel:Below B w0 w
theorem PtSt.call {c:Cal} {s:Sp} {L:List (Un × Int)} {B S1:Nat} {w0 w w':World} (h:PtSt c s L B S1 w0 w) (hb:Below w.heap.size w w'):PtSt c s L B S1 w0 w':=by
  have h1:=h.lt
  have h2:=h.sz
  exact ⟨calAt_below hb (by omega) h.cal,spAt_below hb (by omega) h.sp,h.map.call hb,h1,Nat.le_trans h2 hb.size,h.bel.trans (hb.mono (by omega))⟩
theorem bparts_any (c:Cal) (y:Int) (A:List Ac) (v2:Value) (w:World) (hn:c.name.size≤1000) (hU:unitE c ⟨1,y,1⟩=0) (hA:Accs w v2 A) (hl:A.length≤5000)
    (h64:∀ a∈A,in64 a.n) (hm:∀ a∈A,meetsE c 5 ⟨a.a,a.b⟩=0→(meetsL c 5 ⟨a.a,a.b⟩).length≤4096) :
    Calls Tryz.prog 48 #[calV c,.int .i64 y,v2] w fun e w'=>(∃ m,e=.returned (.tuple #[m,.int .i64 (ptE c y A)])∧(ptE c y A=0→PMap w' m (shF (pL c y A)))∧(¬ ptE c y A=0→m=.map none))∧Below w.heap.size w w':=by
  have HU:=hide hU
  have HA:=hide hA
  have H64:=hide h64
  have HMM:=hide hm
  obtain ⟨ad,cap,rfl,_⟩:=hA
  have hmm:=@run_makeMap Tryz.prog
  clear hU h64 hm
  simp only [calV]
  go_enter Tryz.func48,Tryz.ntmps48
  go_wp2_with fail
  refine (uspan_any c ⟨1,y,1⟩ _ hn).mono ?_
  rintro e w1 ⟨rfl,hb1⟩
  rw [HU.out]
  obtain ⟨s,hs⟩:∃ s,spV c ⟨1,y,1⟩=s:=⟨_,rfl⟩
  rw [hs]
  have HNE:=hide (fun a=>show nearA c y a=decide (s.a≤a.b∧a.a≤s.b) by rw [← hs];rfl)
  have HS0:=hide (show PtSt c s [] w.heap.size w1.heap.size w ((w1.alloc (spObj s)).alloc (.map #[] 0)) from by
    have hb:Below w.heap.size w w1:=by (repeat' exact bel)
    have hz:=hb1.size
    simp at hz
    have hc:CalAt w1 w.heap.size c:=calAt_below hb1 (by simp) (calAt_new w c)
    refine ⟨calAt_alloc (calAt_alloc hc (by omega) _) (by simp;omega) _,?_,?_,by omega,by simp,by (repeat' exact bel)⟩
    · exact spAt_alloc (spAt_fresh w1 s) (by simp) _
    · rw [shF_nil]
      have:=gmap_new (w1.alloc (spObj s))
      simpa using this)
  have hz0:=hb1.size
  simp at hz0
  clear hb1 hs
  simp only [spanV]
  go_wp2_with fail
  go_loopw [30] (fun s30 wr=>∃ i:Nat,s30=.int .i64 i∧i≤A.length∧ptE c y (A.take i)=0∧Hid (PtSt c s (pL c y (A.take i)) w.heap.size w1.heap.size w wr)) (fun s30 _=>(A.length+5-intOf s30).toNat)
  case atStart=>exact ⟨0,rfl,Nat.zero_le _,rfl,HS0⟩
  case round =>
    obtain ⟨i,rfl,hi,hpt,HS⟩:=hrel
    obtain ⟨q0,q1,q2,q3,q4,q5,q6,q7,q8,q9,q10,q11,q12,q13⟩:=HS.out.cal
    obtain ⟨p0,p1⟩:=HS.out.sp
    have hsz:=HS.out.sz
    have hyr:w.heap.size<wr.heap.size:=by have:=HS.out.lt;omega
    have hyq:w1.heap.size<wr.heap.size:=by omega
    by_cases hlt:i<A.length
    · obtain ⟨x,hx⟩:∃ x,A[i]?=some x:=⟨_,List.getElem?_eq_getElem hlt⟩
      obtain ⟨g,o,rfl,hg,d0,d1,d2⟩:=(HA.out.call HS.out.bel).at hx
      have hst:=ptE_step c y A i x hx hpt
      rw [HNE.out] at hst
      have HPL:=hide (pL_step c y A i x hx)
      rw [HNE.out] at HPL
      have hi1:(0:Int)≤(i:Int):=by omega
      have hi3:(i:Int)<(A.length:Int):=by omega
      have HX:=hide (List.mem_of_getElem? hx)
      have HPT:=hide hpt
      clear hx hpt
      by_cases hne:s.a≤x.b∧x.a≤s.b
      · rw [decide_eq_true hne] at HPL hst
        obtain ⟨hn1,hn2⟩:=hne
        by_cases hE:meetsE c 5 ⟨x.a,x.b⟩=0
        · have HST:=hide (hst.2 (by simp [hE]))
          clear hst
          have HSP:=hide (fun w=>rsplit_yes c 5 x.n ⟨x.a,x.b⟩ w hn hE (HMM.out x HX.out hE) (H64.out x HX.out))
          have hml:=HMM.out x HX.out hE
          obtain ⟨n,hnn⟩:∃ n,(meetsL c 5 ⟨x.a,x.b⟩).length=n:=⟨_,rfl⟩
          rw [hnn] at HSP hml
          have hsl:=shL_len c 5 x.n ⟨x.a,x.b⟩
          rw [hnn] at hsl
          have hpl2:(pL c y (A.take i)).length≤20480000:=by
            refine Nat.le_trans (pL_len c y (A.take i) 4096 HPT.out fun a ha=>HMM.out a (List.mem_of_mem_take ha)) (Nat.mul_le_mul (show (A.take i).length≤5000 by rw [List.length_take];omega) (Nat.le_refl 4096))
          obtain ⟨S,hS⟩:∃ S,shL c 5 x.n ⟨x.a,x.b⟩=S:=⟨_,rfl⟩
          rw [hS] at HPL HSP hsl
          simp only [if_true] at HPL
          obtain ⟨L0,hL0⟩:∃ L,pL c y (A.take i)=L:=⟨_,rfl⟩
          rw [hL0] at HPL HS hpl2
          simp only [calV,spanV] at HSP
          clear hE hnn hS hL0
          go_wp2_with fail
          refine (HSP.out _).mono ?_
          rintro e w2 ⟨⟨g2,rfl,hsh,hg2⟩,hb2⟩
          have HS2:=hide (show PtSt c s (L0++S.take 0) w.heap.size w1.heap.size w w2∧ShrAt w2 g2 S from ⟨by rw [List.take_zero,List.append_nil];exact (HS.out.call ((Below.refl _ _).alloc (Nat.le_refl _) _)).call hb2,hsh⟩)
          have hg3:wr.heap.size+1≤g2:=by simpa using hg2
          clear hb2 hsh p0 p1 d0 d1 d2
          clear q0 q1 q2 q3 q4 q5 q6 q7 q8 q9 q10 q11 q12 q13
          go_wp2_with fail
          go_loopw [62] (fun s62 wr=>∃ j:Nat,s62=.int .i64 j∧j≤n∧Hid (PtSt c s (L0++S.take j) w.heap.size w1.heap.size w wr∧ShrAt wr g2 S)) (fun s62 _=>(n+5-intOf s62).toNat)
          case atStart=>exact ⟨0,rfl,Nat.zero_le _,HS2⟩
          case round =>
            obtain ⟨j,rfl,hj,HR⟩:=hrel
            by_cases hlt2:j<n
            · obtain ⟨⟨u,m⟩,hu⟩:∃ u,S[j]?=some u:=⟨_,List.getElem?_eq_getElem (by omega)⟩
              obtain ⟨a0,a1,a2,a3⟩:=HR.out.2.cell hu
              simp only at a0 a1 a2 a3
              have hgl:=HR.out.2.lt
              have hszr:=HR.out.1.sz
              have hj1:(0:Int)≤(j:Int):=by omega
              have hj3:(j:Int)<(n:Int):=by omega
              have HTK:=hide (show L0++S.take (j+1)=L0++S.take j++[(u,m)] by rw [List.take_add_one,hu,List.append_assoc];rfl)
              have HR1:=hide (HR.out.1.call (show Below wr.heap.size wr ((wr.alloc (.cells #[.int .i64 u.lv,.int .i64 u.yr,.int .i64 u.ix,.int .i64 m] 111)).alloc (.cells #[.int .i64 m] 2)) from by (repeat' exact bel)))
              obtain ⟨W,hW⟩:∃ W,(wr.alloc (.cells #[.int .i64 u.lv,.int .i64 u.yr,.int .i64 u.ix,.int .i64 m] 111)).alloc (.cells #[.int .i64 m] 2)=W:=⟨_,rfl⟩
              rw [hW] at HR1
              obtain ⟨L,clk,hmap⟩:=HR1.out.map
              obtain ⟨L1,L2,b,clk',e1,e2,e3,e4⟩:=gmap_entry hmap u
              simp only [unitV] at e1
              have hsl2:=shF_len (L0++S.take j) u
              rw [List.length_append,List.length_take] at hsl2
              have HM:=hide hmap
              have HST3:=hide (fun w' v'=>gmap_store hmap u m L1 L2 b clk' w' v' e2 e3)
              obtain ⟨v0,hv0⟩:∃ v,(lookV L u).getD (.slice none 0 0)=v:=⟨_,rfl⟩
              rw [hv0] at e1 e2 e4 HST3
              have HE2:=hide (And.intro e2 (And.intro e3 e4))
              clear hmap e2 e3 e4 hu hv0
              have hWc:(setMap W (w1.heap.size+1) (L1++(u,v0,b)::L2) clk').cell? ⟨wr.heap.size+1,0,none⟩=some (.int .i64 m):=by
                have h1:W.heap[wr.heap.size+1]?=some (.cells #[.int .i64 m] 2 (0,0)):=by
                  rw [← hW]
                  have:=heap_alloc_new (wr.alloc (.cells #[.int .i64 u.lv,.int .i64 u.yr,.int .i64 u.ix,.int .i64 m] 111)) (.cells #[.int .i64 m] 2)
                  simpa using this
                have h2:=setMap_far (w:=W) (M:=w1.heap.size+1) (L1++(u,v0,b)::L2) clk' (b:=wr.heap.size+1) (by omega)
                rw [h1] at h2
                simp [World.cell?,h2]
              have hWz:wr.heap.size+1<W.heap.size:=by rw [← hW];simp
              go_wp2_with ((at_builtin;refine app_one rfl _ _ rfl (w1.heap.size+2) v0 (shF (L0++S.take j) u) m (wr.heap.size+1) rfl HE2.out.2.2 rfl hWc (by omega) (by rw [setMap_size];omega) ?_))
              intro v' w3 ho hgr hat
              rw [setMap_size] at hat
              obtain ⟨st1,st2,st3⟩:=HST3.out w3 v' (by simpa using ho) hgr hat
              have HR4:=hide (show PtSt c s (L0++S.take (j+1)) w.heap.size w1.heap.size w (setMap w3 (w1.heap.size+1) (L1++(u,v',b)::L2) clk')∧ShrAt (setMap w3 (w1.heap.size+1) (L1++(u,v',b)::L2) clk') g2 S from by
                have hlB:=HR.out.1.lt
                have hb1:=st3 (w1.heap.size+1) W (Nat.le_refl _) (Below.refl _ _)
                have hb2:=st3 w.heap.size w (by omega) HR1.out.bel
                have hWS:ShrAt W g2 S:=by rw [← hW];exact HR.out.2.call (by (repeat' exact bel))
                refine ⟨⟨calAt_below hb1 (by omega) HR1.out.cal,spAt_below hb1 (by omega) HR1.out.sp,by rw [HTK.out,shF_snoc];exact st2,hlB,by have:=hb1.size;omega,hb2⟩,?_⟩
                have hne:=ownB_ne HE2.out.2.2 (g:=g2) ((setMap_far _ _ (by omega)).trans hWS) (by decide)
                have hl:=hgr.block g2 (by rw [setMap_size];exact hWS.lt) (fun e=>hne e.symm)
                exact (setMap_far _ _ (by omega)).trans (hl.trans ((setMap_far _ _ (by omega)).trans hWS)))
              simp only [goInt] at st1
              clear st2 st3 ho hgr hat
              go_wp2
              go_roundw
              case rel=>exact ⟨j+1,by go_num,by omega,HR4⟩
              case measure=>simp [intOf];omega
            · obtain rfl:j=n:=by omega
              have HD:=hide (show PtSt c s (pL c y (A.take (i+1))) w.heap.size w1.heap.size w wr by
                have h:=HR.out.1
                rw [List.take_of_length_le (by omega),← HPL.out] at h
                exact h)
              go_wp2
              all_goals first
                | (exfalso;omega)
                | skip
              go_roundw
              case rel=>exact ⟨i+1,by go_num,by omega,HST.out,HD⟩
              case measure=>simp [intOf];omega
        · have hEE:(meetsE c 5 ⟨x.a,x.b⟩ != 0)=true:=by simpa using hE
          have HFIN:=hide (hst.1 ⟨rfl,hE⟩)
          have HSP:=hide (fun w=>rsplit_no c 5 x.n ⟨x.a,x.b⟩ w hn hE)
          have HE:=hide hE
          obtain ⟨E,hE2⟩:∃ E,meetsE c 5 ⟨x.a,x.b⟩=E:=⟨_,rfl⟩
          rw [hE2] at hEE HFIN HSP HE
          simp only [calV,spanV] at HSP
          clear hE hst hE2
          go_wp2_with fail
          refine (HSP.out _).mono ?_
          rintro e w2 ⟨rfl,hb2⟩
          have HS2:=hide ((HS.out.call ((Below.refl _ _).alloc (Nat.le_refl _) _)).call hb2)
          clear hb2 p0 p1 d0 d1 d2
          clear q0 q1 q2 q3 q4 q5 q6 q7 q8 q9 q10 q11 q12 q13
          go_wp2
          go_ret2
          exact ⟨⟨.map none,by rw [HFIN.out];rfl,fun h=>absurd (HFIN.out.symm.trans h) HE.out,fun _=>rfl⟩,HS2.out.bel⟩
      · have HST:=hide (hst.2 (by simp [hne]))
        rw [decide_eq_false hne] at HPL
        simp only [Bool.false_eq_true,if_false,List.append_nil] at HPL
        clear hst
        rcases (show x.b<s.a∨(s.a≤x.b∧s.b<x.a) by omega) with h1 | ⟨h1,h2⟩
        all_goals
          clear hne
          go_wp2
          all_goals first
            | (exfalso;omega)
            | skip
          go_roundw
          case rel=>exact ⟨i+1,by go_num,by omega,HST.out,by rw [HPL.out];exact hide (HS.out.call ((Below.refl _ _).alloc (Nat.le_refl _) _))⟩
          case measure=>simp [intOf];omega
    · obtain rfl:i=A.length:=by omega
      rw [List.take_length] at hpt HS
      have HP:=hide hpt
      clear hpt
      go_wp2
      all_goals first
        | (exfalso;omega)
        | skip
      go_ret2
      exact ⟨⟨.map (some (w1.heap.size+1)),by rw [HP.out];rfl,fun _=>HS.out.map.pmap,fun h=>absurd HP.out h⟩,HS.out.bel⟩
end Go.Proofs.YtjhhmeoibfdcmaaGreat
