/- Lemmas. -/
import Derived.OpenShut
import Derived.ProofKit
import Derived.Test.YtpebkobmhhnojaaGreatDoorTp05
import Derived.Test.YtpebkobmhhnojaaGreatDoorTp09
set_option linter.unusedSimpArgs false
set_option linter.unusedVariables false
set_option maxRecDepth 100000
set_option maxHeartbeats 12800000
namespace Go.Proofs.YtpebkobmhhnojaaGreatDoor
section
open Go.ChangeShapes Go.WideShapes Go.ChangeAt Go.RowKit Qd
theorem own:ownKnob Tryz.prog.godebug=none:=by kernel_rfl
theorem pb:laidOutB Tryz.prog=true:=by kernel_rfl
section
variable {H:Type} {enc:TypeId × Value→H} {P:Program}
theorem gG {f:Func} {s:ChangeSpec} {o aa F Y:Bool} {W W':World} {E:Array Value} {v:Value} {ds gs:List (DataW H)} {h pa pv:List MemPlace}
  (hW:DataW.Whole enc P f.params.toList s.vars o W E.toList ds gs h)
  (V:∀ (b:Nat) (sp:Nat→Bool) (hd:Bool),DataW.TrodAll enc P W' b sp hd f.resultTypes.toList (v.resultList f.resultTypes.size) (s.fn H (ds++gs)).results [])
  (G:∀ sp:Nat→Bool,(∀ p∈h,sp p.block=true)→DataW.TrodAll enc P W' 0 sp true f.params.toList E.toList (s.fn H (ds++gs)).args pa)
  (J:∀ sp:Nat→Bool,(∀ p∈h,sp p.block=true)→DataW.TrodVars enc P W' sp s.vars (s.fn H (ds++gs)).vars pv)
  (O:h=pa++pv) (hb:Below W W W')
  (ah:∀ (j:Nat) (t:TypeId) (r:Value),f.resultTypes[j]?=some t→(v.resultList f.resultTypes.size)[j]?=some r→Value.okWide P W' .any 0 t r) :
  s.post enc P f o aa F Y W E v W':=by
 have ac:∀ p∈h,p.block<W.heap.size:=fun p I=>hW.lt p I
 have U:∀ p∈h,(fun b=>decide (b<W.heap.size)) p.block=true:=fun p I=>by simpa using ac p I
 refine ⟨ds,gs,h,[],pa,pv,hW,V _ _ _,G _ U,J _ U,World.keptBut_mono (fun p I=>⟨I,?_⟩) (hb.frame (· ∈ h)),fun _=>?_⟩
 ·rw [O,List.mem_append] at I
  exact Or.inr I
 ·obtain ⟨_,_,_,_,_,hz,hn⟩:=hW
  refine ⟨ah,_,_,([]++pa)++pv,⟨[]++pa,pv,trodAll_append (G _ (fun _ _=>rfl)) (V _ _ _),J _ (fun _ _=>rfl),rfl,?_,?_⟩,?_⟩
  ·intro b ad I
   have ab:MemPlace.cell b ad∈h:=by rw [O];simpa using I
   rw [hb.frozen (ac _ ab)];exact hz b ad ab
  ·intro ha
   have:=hn ha;rw [O] at this;simpa using this
  ·intro p I _
   rw [O];simpa using I
theorem eN (J:laidOutB P=true) {W G:World} {o:Nat→Bool}:∀ {F:List TypeId} {O:List Value} {I:List (DataW H)} {E:List MemPlace},
  (∀ t∈F,P.readableRec t=true∧t<P.types.size)→DataW.TrodAll enc P W 0 (fun _=>true) true F O I E→(∀ p∈E,W.sameAt G p)→(∀ p∈E,o p.block=true)→DataW.TrodAll enc P G 0 o true F O I E
 | [],[],[],_,_,h,_,_=>h
 | t::_,_::_,_::_,_,hT,⟨p,q,h1,h2,e⟩,hm,hs =>
  ⟨p,q,WideElems.Trod_stays J (hT t (List.mem_cons.2 (Or.inl rfl))).1 (hT t (List.mem_cons.2 (Or.inl rfl))).2 h1 (fun x f=>hm x (by rw [e];exact List.mem_append_left _ f)) (fun x f=>hs x (by rw [e];exact List.mem_append_left _ f)),
   eN J (fun t U=>hT t (List.mem_cons.2 (Or.inr U))) h2 (fun x f=>hm x (by rw [e];exact List.mem_append_right _ f)) (fun x f=>hs x (by rw [e];exact List.mem_append_right _ f)),e⟩
end
section
variable {H:Type} {enc:TypeId × Value→H} {w:World} {base:Nat} {spare:Nat→Bool} {held:Bool}
theorem jf:Tryz.prog.cellsOf 3=1:=by kernel_rfl
theorem wT:Tryz.prog.cellsOf 9=1:=by kernel_rfl
theorem wC:Tryz.prog.cellsOf 22=3:=by kernel_rfl
theorem vP:Tryz.prog.cellsOf 24=14:=by kernel_rfl
def jG (x:Int):Prop:=(Lit.int .i64 x).wf=true
def GD (c:aC):Prop:=jG c.kind∧jG c.day∧jG c.month∧jG c.shift∧jG c.shape∧jG c.p0∧jG c.p1∧jG c.p2∧jG c.cycle∧jG c.extra∧jG c.first∧jG c.last∧jG c.policy
theorem jW {x:Int} (h:jG x):-9223372036854775808≤x∧x≤9223372036854775807:=by
 simpa [jG,Lit.wf,IntKind.min,IntKind.max,IntKind.signed,IntKind.bits] using h
theorem mu {r:Reach} {b0:Nat} {v:Value} {d:DataW H} {p:List MemPlace} (hv:Value.okWide Tryz.prog w r b0 24 v) (h:DataW.Trod enc Tryz.prog w base spare held 24 v d p) :
  ∃ c:aC,v=aI c∧c.name.size≤9223372036854775807∧GD c:=by
 obtain ⟨cs,rfl,U⟩:=okWide_struct Tryz.underlying24 hv;rw [vP] at U;obtain ⟨l⟩:=cs
 match l,U with
 | [c0,c1,c2,c3,c4,c5,c6,c7,c8,c9,c10,c11,c12,c13],_ =>
  obtain ⟨aq,hf⟩:=h;obtain ⟨xs,n,_,hx,_,O,f⟩:=DataW.trod_struct Tryz.underlying24 hf
  match xs,O with
  | [y0,y1,y2,y3,y4,y5,y6,y7,y8,y9,y10,y11],_ =>
   have g0:=f 0 _ rfl;have g1:=f 1 _ rfl;have g2:=f 2 _ rfl;have g3:=f 3 _ rfl;have g4:=f 4 _ rfl;have g5:=f 5 _ rfl;have g6:=f 6 _ rfl;have g7:=f 7 _ rfl;have g8:=f 8 _ rfl;have g9:=f 9 _ rfl;have I:=f 10 _ rfl;have J:=f 11 _ rfl;simp [Value.cells,jf,wT,wC] at g0 g1 g2 g3 g4 g5 g6 g7 g8 g9 I J;obtain ⟨x0,e0,_,s0⟩:=DataW.trod_string Tryz.underlying9 g0;obtain ⟨x1,e1,_,s1⟩:=DataW.trod_int Tryz.underlying3 g1;obtain ⟨x2,e2,_,s2⟩:=DataW.trod_int Tryz.underlying3 g2;obtain ⟨x3,e3,_,s3⟩:=DataW.trod_int Tryz.underlying3 g3;obtain ⟨x4,e4,_,s4⟩:=DataW.trod_int Tryz.underlying3 g4;obtain ⟨x5,e5,_,s5⟩:=DataW.trod_int Tryz.underlying3 g5;obtain ⟨zs,m,_,_,_,W,V⟩:=DataW.trod_array Tryz.underlying22 g6;obtain ⟨x9,e9,_,s9⟩:=DataW.trod_int Tryz.underlying3 g7;obtain ⟨ad,o,_,Y⟩:=DataW.trod_int Tryz.underlying3 g8;obtain ⟨ah,E,_,aa⟩:=DataW.trod_int Tryz.underlying3 g9;obtain ⟨al,F,_,ab⟩:=DataW.trod_int Tryz.underlying3 I;obtain ⟨ao,G,_,ac⟩:=DataW.trod_int Tryz.underlying3 J
   match zs,W with
   | [z0,z1,z2],_ =>
    have k0:=V 0 om;have k1:=V 1 om;have k2:=V 2 om;simp [jf] at k0 k1 k2;obtain ⟨x6,e6,_,s6⟩:=DataW.trod_int Tryz.underlying3 k0;obtain ⟨x7,e7,_,s7⟩:=DataW.trod_int Tryz.underlying3 k1;obtain ⟨x8,e8,_,s8⟩:=DataW.trod_int Tryz.underlying3 k2;simp only [List.cons.injEq,and_true] at e0 e1 e2 e3 e4 e5 e6 e7 e8 e9 o E F G;subst e0 e1 e2 e3 e4 e5 e6 e7 e8 e9 o E F G;exact ⟨⟨x0,x1,x2,x3,x4,x5,x6,x7,x8,x9,ad,ah,al,ao⟩,rfl,by simpa [maxLen] using s0,s1,s2,s3,s4,s5,s6,s7,s8,s9,Y,aa,ab,ac⟩
end
end
section
open Go.ChangeShapes Go.WideShapes Go.ChangeAt Go.RowKit Qd
section
variable {H:Type} {enc:TypeId × Value→H} {base:Nat} {spare:Nat→Bool} {held:Bool}
end
end
end Go.Proofs.YtpebkobmhhnojaaGreatDoor
