/- Lemmas. -/
import Derived.Test.YtpebkobmhhnojaaGreatDoorTp14
set_option linter.unusedSimpArgs false
set_option linter.unusedVariables false
set_option maxRecDepth 100000
set_option maxHeartbeats 12800000
namespace Go.Proofs.YtpebkobmhhnojaaGreatDoor
section
open Go.RowKit Qd
theorem xI (R b g o:Nat) (J n d E:Int) (s s2:ByteArray) (G:Bool) (wa ka:Option Addr) (wn wc kn kc:Nat) (nm F ws U ks I h:Value) (m:Nat) (xs:List Value) (w:World) (ac:R≠b) (ad:R≠g) (ah:b≠g) (hm:m≤1000) (al:o≤w.heap.size)
  (N:Nat) (aa:N≤R) (ab:N≤b) (Y:N≤o)
  (V:w.heap[R]?=some (.cells #[.pointer (some ⟨b,0,none⟩),.pointer (some ⟨g,0,none⟩),d] 198 (0,0)))
  (h1:w.heap[b]?=some (.cells #[nm,F,ws,U,ks,I] 195 (0,0)))
  (h2:w.heap[g]?=some (.cells #[.string s2,E,.slice wa wn wc,.bool G,.slice ka kn kc,h] 195 (0,0))) (f:w.ownsRow o 154 5 ks m xs) :
  Calls Tryz.prog 105 #[.pointer (some ⟨R,0,none⟩),ck 5 J n s] w fun e w'=>e=.returned (.int .i64 0)∧Below N w w'∧∃ v,w'.ownsRow o 154 5 v (m+1) (xs++[.string s2,.int .i64 E,.slice wa wn wc,.bool G,.slice ka kn kc]) ∧
   w'.heap[R]?=some (.cells #[.pointer (some ⟨b,0,none⟩),.pointer none,d] 198 (0,0)) ∧
   w'.heap[b]?=some (.cells #[nm,F,ws,U,v,I] 195 (0,0)) ∧
   (∀ (B:Nat) (H:Array Value) (t:TypeId),t≠154→B ∉ [R,b]→w.heap[B]?=some (.cells H t (0,0))→w'.heap[B]?=some (.cells H t (0,0)))∧∀ j,j<o→j ∉ [R,b]→w'.heap[j]?=w.heap[j]?:=by
 have hR:R<w.heap.size:=(Array.getElem?_eq_some_iff.1 V).1;have hN:N≤w.heap.size:=om;have HH:=hide (oG R b g o d E s2 G wa ka wn wc kn kc nm F ws U ks I h m xs (w.alloc (.cells #[.int .i64 5,J,n,.string s] 200)) ac ad ah hm ag N aa ab Y (aD V) (aD h1) (aD h2) (aO f ar));clear V h1 h2 f;go_enter Tryz.func105,Tryz.ntmps105;go_wp2_with fail;refine (HH.out).mono ?_;rintro e w' ⟨rfl,O,v,q1,q2,q3,q4,q5⟩;have q0:Below N w w':=Below.trans ar O;have q6:∀ (B:Nat) (H:Array Value) (t:TypeId),t≠154→B ∉ [R,b]→w.heap[B]?=some (.cells H t (0,0))→w'.heap[B]?=some (.cells H t (0,0)):=fun B H t ht W hc=>q4 B H t ht W (aD hc)
 have q7:∀ j,j<o→j ∉ [R,b]→w'.heap[j]?=w.heap[j]?:=fun j hj W=>(q5 j hj W).trans (Below.heap_alloc _ _ j om)
 have HQ:=hide (And.intro q0 (And.intro q1 (And.intro q2 (And.intro q3 (And.intro q6 q7)))));clear O q0 q1 q2 q3 q4 q5 q6 q7;go_wp2_with fail;go_ret;obtain ⟨p0,p1,p2,p3,p4,p5⟩:=HQ.out;exact ⟨rfl,p0,v,p1,p2,p3,p4,p5⟩
theorem o9 (R b a G:Nat) (f n d I:Int) (s s2:ByteArray) (O:Bool) (wa ka:Option Addr) (wn wc kn kc:Nat) (nm J ws bl ks Y:Value) (m:Nat) (xs:List Value) (w:World) (hd:1≤d∧d≤6) (ad:R≠b) (ac:R≠a) (a4:a≠b) (hm:m≤1000) (a0:G≤w.heap.size)
  (N:Nat) (a2:N≤R) (a3:N≤a) (a1:N≤G)
  (E:w.heap[R]?=some (.cells #[.pointer (some ⟨b,0,none⟩),.pointer none,d] 198 (0,0)))
  (h1:w.heap[b]?=some (.cells #[.string s2,I,.slice wa wn wc,.bool O,.slice ka kn kc,.pointer (some ⟨a,0,none⟩)] 195 (0,0)))
  (h2:w.heap[a]?=some (.cells #[nm,J,ws,bl,ks,Y] 195 (0,0))) (H:w.ownsRow G 154 5 ks m xs) :
  Calls Tryz.prog 104 #[.pointer (some ⟨R,0,none⟩),ck 4 f n s] w fun e w'=>e=.returned (.int .i64 0)∧Below N w w'∧∃ v,w'.ownsRow G 154 5 v (m+1) (xs++[.string s2,.int .i64 I,.slice wa wn wc,.bool O,.slice ka kn kc]) ∧
   w'.heap[R]?=some (.cells #[.pointer (some ⟨a,0,none⟩),.pointer none,.int .i64 (d-1)] 198 (0,0)) ∧
   w'.heap[a]?=some (.cells #[nm,J,ws,bl,v,Y] 195 (0,0)) ∧
   (∀ (B:Nat) (U:Array Value) (t:TypeId),t≠154→B ∉ [R,a]→w.heap[B]?=some (.cells U t (0,0))→w'.heap[B]?=some (.cells U t (0,0)))∧∀ j,j<G→j ∉ [R,a]→w'.heap[j]?=w.heap[j]?:=by
 have hR:R<w.heap.size:=(Array.getElem?_eq_some_iff.1 E).1;have hb:b<w.heap.size:=(Array.getElem?_eq_some_iff.1 h1).1;have ha:a<w.heap.size:=(Array.getElem?_eq_some_iff.1 h2).1;have hN:N≤w.heap.size:=om;have c0:w.cell? ⟨R,0,none⟩=some (.pointer (some ⟨b,0,none⟩)):=ae E 0;have c1:w.cell? ⟨R,1,none⟩=some (.pointer none):=ae E 1;have c2:w.cell? ⟨R,2,none⟩=some (.int .i64 d):=ae E 2;have f0:=aw E 0;have f1:=aw E 1;have f2:=aw E 2;have b5:w.cell? ⟨b,5,none⟩=some (.pointer (some ⟨a,0,none⟩)):=ae h1 5;have a7:IntKind.i64.wrap (d-1)=d-1:=by simp [IntKind.wrap,IntKind.bits,IntKind.signed];omega
 have a5:b≠R:=fun h=>ad h.symm
 have H0:=hide E;have H1:=hide h1;have H2:=hide h2;have HO:=hide H;clear E h1 h2 H;go_enter Tryz.func104,Tryz.ntmps104;go_wp2_with fail;go_region;go_simp;go_wp2_with fail;have o:∀ j,j≠R→j<w.heap.size→((((w.setCell ⟨R,2,none⟩ (.int .i64 (d-1))).setCell ⟨R,1,none⟩ (.pointer (some ⟨b,0,none⟩))).setCell ⟨R,0,none⟩ (.pointer (some ⟨a,0,none⟩))).alloc (.cells #[.int .i64 4,f,n,.string s] 200)).drew.heap[j]?=w.heap[j]?:=fun j hj hl=>by
  refine (Below.heap_alloc _ _ j (by simp [World.setCell];exact hl)).trans ?_;rw [Below.heap_setCell _ _ _ j hj,Below.heap_setCell _ _ _ j hj,Below.heap_setCell _ _ _ j hj]
 have a6:w.heap.size≤((((w.setCell ⟨R,2,none⟩ (.int .i64 (d-1))).setCell ⟨R,1,none⟩ (.pointer (some ⟨b,0,none⟩))).setCell ⟨R,0,none⟩ (.pointer (some ⟨a,0,none⟩))).alloc (.cells #[.int .i64 4,f,n,.string s] 200)).drew.heap.size:=by
  show _≤(Array.push _ _).size;simp [World.setCell]
 have ab:((((w.setCell ⟨R,2,none⟩ (.int .i64 (d-1))).setCell ⟨R,1,none⟩ (.pointer (some ⟨b,0,none⟩))).setCell ⟨R,0,none⟩ (.pointer (some ⟨a,0,none⟩))).alloc (.cells #[.int .i64 4,f,n,.string s] 200)).drew.heap[R]?=some (.cells #[.pointer (some ⟨a,0,none⟩),.pointer (some ⟨b,0,none⟩),.int .i64 (d-1)] 198 (0,0)):=by
  refine (Below.heap_alloc _ _ R (by simp [World.setCell];exact hR)).trans ?_;exact aK (aK (aK H0.out 2 (.int .i64 (d-1))) 1 (.pointer (some ⟨b,0,none⟩))) 0 (.pointer (some ⟨a,0,none⟩))
 have aq:Below N w ((((w.setCell ⟨R,2,none⟩ (.int .i64 (d-1))).setCell ⟨R,1,none⟩ (.pointer (some ⟨b,0,none⟩))).setCell ⟨R,0,none⟩ (.pointer (some ⟨a,0,none⟩))).alloc (.cells #[.int .i64 4,f,n,.string s] 200)).drew:=ar;generalize ((((w.setCell ⟨R,2,none⟩ (.int .i64 (d-1))).setCell ⟨R,1,none⟩ (.pointer (some ⟨b,0,none⟩))).setCell ⟨R,0,none⟩ (.pointer (some ⟨a,0,none⟩))).alloc (.cells #[.int .i64 4,f,n,.string s] 200)).drew=W at *;have aA:W.ownsRow G 154 5 ks m xs:=by
  refine ⟨HO.out.1,?_⟩;rcases HO.out.2 with h1 | ⟨g',aa,aB,he,h2,F,h5⟩
  ·exact .inl h1
  ·refine .inr ⟨g',aa,aB,he,h2,(o g' (fun e=>?_) (Array.getElem?_eq_some_iff.1 F).1).trans F,h5⟩
   rw [e,H0.out] at F;cases F
 have al:=(o b a5 hb).trans H1.out;have ah:=(o a (fun e=>ac e.symm) ha).trans H2.out;refine (oG R a b G (d-1) I s2 O wa ka wn wc kn kc nm J ws bl ks Y (.pointer (some ⟨a,0,none⟩)) m xs W ac ad a4 hm (Nat.le_trans a0 a6) N a2 a3 a1 ab ah al aA).mono ?_;rintro e w' ⟨rfl,ao,v,q1,q2,q3,q4,q5⟩;have q0:Below N w w':=aq.trans ao;have q6:∀ (B:Nat) (U:Array Value) (t:TypeId),t≠154→B ∉ [R,a]→w.heap[B]?=some (.cells U t (0,0))→w'.heap[B]?=some (.cells U t (0,0)):=fun B U t ht V hc=>q4 B U t ht V ((o B (by simp at V;exact V.1) (Array.getElem?_eq_some_iff.1 hc).1).trans hc)
 have q7:∀ j,j<G→j ∉ [R,a]→w'.heap[j]?=w.heap[j]?:=fun j hj V=>(q5 j hj V).trans (o j (by simp at V;exact V.1) om)
 have HQ:=hide (And.intro q0 (And.intro q1 (And.intro q2 (And.intro q3 (And.intro q6 q7)))));clear ao q0 q1 q2 q3 q4 q5 q6 q7 o ab aq aA al ah c0 c1 c2 f0 f1 f2 b5;go_wp2_with fail;go_ret;obtain ⟨p0,p1,p2,p3,p4,p5⟩:=HQ.out;exact ⟨rfl,p0,v,p1,p2,p3,p4,p5⟩
theorem bL {f:Nat} {T:TypeId} {sz:Nat} {v:Value} {n:Nat} {J:List Value} {w w':World} (h:w.ownsRow f T sz v n J)
  (W:∀ k G,v.ownBlock=some k→k<w.heap.size→w.heap[k]?=some (.cells G T (0,0))→w'.heap[k]?=some (.cells G T (0,0))):w'.ownsRow f T sz v n J:=by
 refine ⟨h.1,?_⟩;rcases h.2 with O | ⟨H,o,E,I,U,F,V⟩
 ·exact .inl O
 ·exact .inr ⟨H,o,E,I,U,W H E (by rw [I];rfl) (Array.getElem?_eq_some_iff.1 F).1 F,V⟩
structure It where
 nm:ByteArray
 at_:Int
 v:Value
 n:Nat
 xs:List Value
def Hc (t:It):List Value:=[.string t.nm,.int .i64 t.at_,t.v,.bool false,.slice none 0 0]
def AH (t:It) (h:Bool) (o f:Value):Obj:=.cells #[.string t.nm,t.at_,t.v,.bool h,o,f] 195 (0,0)
def Br (b:Nat) (g:Option Addr) (d:Int):Obj:=.cells #[.pointer (some ⟨b,0,none⟩),.pointer g,d] 198 (0,0)
abbrev ic (w:World) (B:Nat) (t:It):Prop:=w.ownsRow B 204 4 t.v t.n t.xs
abbrev qt (w:World) (B:Nat) (ks:Value) (L:List It):Prop:=w.ownsRow B 154 5 ks L.length (L.flatMap Hc)
structure AT (N:Nat) (w:World) (B R b:Nat) (d:Int) (k:It) (bl:Bool) (ks inn:Value) (L:List It) (F:List (Nat × Obj)):Prop where
 hR:w.heap[R]?=some (Br b none d)
 hb:w.heap[b]?=some (AH k bl ks inn)
 hk:qt w B ks L
 h0:ic w B k
 hL:∀ t∈L,ic w B t
 hF:∀ p∈F,w.heap[p.1]?=some p.2∧(∃ c,p.2=.cells c 195 (0,0))∧p.1≠b∧N≤p.1
 hB:B≤w.heap.size
 hN:N≤R∧N≤b∧N≤B
structure AU (N:Nat) (w:World) (B B1 R b g:Nat) (d:Int) (k:It) (bl:Bool) (ks inn:Value) (L:List It) (F:List (Nat × Obj)) (t:It):Prop where
 hR:w.heap[R]?=some (Br b (some ⟨g,0,none⟩) d)
 hb:w.heap[b]?=some (AH k bl ks inn)
 hg:w.heap[g]?=some (AH t false (.slice none 0 0) (.pointer (some ⟨b,0,none⟩)))
 hbg:b≠g
 hk:qt w B ks L
 h0:ic w B k∧∀ j,k.v.ownBlock=some j→j<B1
 hL:∀ t∈L,ic w B t∧∀ j,t.v.ownBlock=some j→j<B1
 ht:ic w B1 t
 hF:∀ p∈F,w.heap[p.1]?=some p.2∧(∃ c,p.2=.cells c 195 (0,0))∧p.1≠b∧p.1≠g∧N≤p.1
 hB:B≤B1∧B1≤w.heap.size
 hN:N≤R∧N≤b∧N≤g∧N≤B
theorem ch {w:World} {a b:Nat} {c E:Array Value} {t o:TypeId} (F:w.heap[a]?=some (.cells c t (0,0))) (f:w.heap[b]?=some (.cells E o (0,0))) (h:t≠o):a≠b:=by
 rintro rfl;rw [F] at f;cases f;exact h rfl
theorem bC {w:World} {a:Nat} {o:Obj} (f:w.heap[a]?=some o):a<w.heap.size:=(Array.getElem?_eq_some_iff.1 f).1
theorem qM {N:Nat} {w:World} {B R b:Nat} {d:Int} {k:It} {W:Bool} {ks H:Value} {L:List It} {F:List (Nat × Obj)} (h:AT N w B R b d k W ks H L F) (E n:Int) (s:ByteArray) :
  Calls Tryz.prog 104 #[.pointer (some ⟨R,0,none⟩),ck 1 E n s] w fun e w'=>e=.returned (.int .i64 0)∧Below N w w' ∧
   ∃ B1 g,AU N w' B B1 R b g d k W ks H L F ⟨s,E,.slice none 0 0,0,[]⟩:=by
 refine (qj R b _ E n d s w N h.hN.1 h.hR).mono ?_;rintro e w' ⟨rfl,U,g,hg,Y,h2,h3⟩;have hs:w.heap.size≤w'.heap.size:=Nat.le_trans hg (Nat.le_of_lt (bC Y));refine ⟨rfl,U,w.heap.size,g,?_⟩;have hb:=bC h.hb;have f:∀ j o,w.heap[j]?=some o→j≠R→w'.heap[j]?=some o:=fun j o I G=>(h3 j (bC I) G).trans I
 have O:=ch h.hR h.hb aj
 have own:∀ (B:Nat) (T:TypeId) (sz:Nat) (v:Value) (n:Nat) (V:List Value),T≠198→w.ownsRow B T sz v n V→w'.ownsRow B T sz v n V:=fun B T sz v n V hT I =>
  bL I fun k cs _ _ hc=>f k _ hc (ch hc h.hR hT)
 refine ⟨h2,f _ _ h.hb (Ne.symm O),Y,by omega,own _ _ _ _ _ _ aj h.hk,⟨own _ _ _ _ _ _ aj h.h0,fun j G=>((World.ownsRow.lt h.h0) j G).2⟩,fun t ht=>⟨own _ _ _ _ _ _ aj (h.hL t ht),fun j G=>((World.ownsRow.lt (h.hL t ht)) j G).2⟩,World.ownsRow_nil _ _ _ _,fun p hp=>?_,⟨h.hB,hs⟩,⟨h.hN.1,h.hN.2.1,Nat.le_trans h.hN.2.2 (Nat.le_trans h.hB hg),h.hN.2.2⟩⟩;obtain ⟨J,⟨c,p2⟩,p3,p4⟩:=h.hF p hp;refine ⟨f _ _ J ?_,⟨c,p2⟩,p3,by have:=bC J;omega,p4⟩;rw [p2] at J;exact ch J h.hR aj
theorem ui {N:Nat} {w:World} {B G R b g:Nat} {d:Int} {k:It} {bl:Bool} {ks U:Value} {L:List It} {F:List (Nat × Obj)} {t:It} (h:AU N w B G R b g d k bl ks U L F t) (V E n:Int) (s:ByteArray) (W:V=1∨V=2) (hn:t.n<8) :
  Calls Tryz.prog 105 #[.pointer (some ⟨R,0,none⟩),ck V E n s] w fun e w'=>e=.returned (.int .i64 0)∧Below N w w' ∧
   ∃ v,AU N w' B G R b g d k bl ks U L F ⟨t.nm,t.at_,v,t.n+1,t.xs++[.bool (decide (V=2)),.int .i64 n,.string s,.int .i64 E]⟩:=by
 refine (vF R g G _ V E n d s _ _ _ _ _ _ t.n t.xs w W (ch h.hR h.hg aj) hn h.hB.2 N h.hN.2.2.1 (Nat.le_trans h.hN.2.2.2 h.hB.1) h.hR h.hg h.ht).mono ?_;rintro e w' ⟨rfl,I,v,Y,hg,f1,f2⟩;have hs:=I.size;have f:∀ j H (T:TypeId),w.heap[j]?=some (.cells H T (0,0))→T≠204→j≠g→w'.heap[j]?=some (.cells H T (0,0)):=fun j H T Y hT hj=>f1 _ _ _ hT (by simpa using hj) Y
 have o:∀ t:It,(ic w B t∧∀ j,t.v.ownBlock=some j→j<G)→(ic w' B t∧∀ j,t.v.ownBlock=some j→j<G):=fun t O =>
  ⟨bL O.1 fun k H hk hl J=>(f2 k (O.2 k hk) (by simpa using ch J h.hg aj)).trans J,O.2⟩
 refine ⟨rfl,I,v,f _ _ _ h.hR aj (ch h.hR h.hg aj),f _ _ _ h.hb aj h.hbg,hg,h.hbg,bL h.hk fun k H _ _ J=>f _ _ _ J aj (ch J h.hg aj),o _ h.h0,fun t O=>o t (h.hL t O),Y,fun p hp=>?_,⟨h.hB.1,Nat.le_trans h.hB.2 hs⟩,h.hN⟩;obtain ⟨p1,⟨c,p2⟩,p3,p4,p5⟩:=h.hF p hp;refine ⟨?_,⟨c,p2⟩,p3,p4,p5⟩;rw [p2] at p1 ⊢;exact f _ _ _ p1 aj p4
theorem Eh {N:Nat} {w:World} {B E R b g:Nat} {d:Int} {k:It} {bl:Bool} {ks J:Value} {L:List It} {F:List (Nat × Obj)} {t:It} (h:AU N w B E R b g d k bl ks J L F t) (G n:Int) (s:ByteArray) (hn:L.length≤1000) :
  Calls Tryz.prog 105 #[.pointer (some ⟨R,0,none⟩),ck 5 G n s] w fun e w'=>e=.returned (.int .i64 0)∧Below N w w' ∧
   ∃ v,AT N w' B R b d k bl v J (L++[t]) F:=by
 obtain ⟨va,vc,hv⟩:=dN h.ht;have V:w.heap[g]?=some (.cells #[.string t.nm,.int .i64 t.at_,.slice va t.n vc,.bool false,.slice none 0 0,.pointer (some ⟨b,0,none⟩)] 195 (0,0)):=by
  have h:=h.hg
  rwa [AH,hv] at h
 refine (xI R b g B G n d t.at_ s t.nm false va none t.n vc 0 0 _ _ _ _ _ _ _ L.length (L.flatMap Hc) w (ch h.hR h.hb aj) (ch h.hR h.hg aj) h.hbg hn (Nat.le_trans h.hB.1 h.hB.2) N h.hN.1 h.hN.2.1 h.hN.2.2.2 h.hR h.hb V h.hk).mono ?_;rintro e w' ⟨rfl,H,v,Y,hR,hb,f1,f2⟩;have hs:=H.size;have o:∀ j O (T:TypeId),w.heap[j]?=some (.cells O T (0,0))→T≠154→j≠R→j≠b→w'.heap[j]?=some (.cells O T (0,0)):=fun j O T Y hT hj W=>f1 _ _ _ hT (by simp [hj,W]) Y
 have f:∀ (E:Nat) (t:It),ic w E t→ic w' E t:=fun E t ht =>
  bL ht fun k O hk hl U=>o k _ _ U aj (ch U h.hR aj) (ch U h.hb aj)
 refine ⟨rfl,H,v,hR,hb,?_,f _ _ h.h0.1,fun u I=>?_,fun p hp=>?_,by have:=h.hB;omega,⟨h.hN.1,h.hN.2.1,h.hN.2.2.2⟩⟩
 ·unfold qt;rw [List.length_append,List.flatMap_append];simpa [Hc,hv] using Y
 ·rcases List.mem_append.1 I with I | I
  ·exact f _ _ (h.hL u I).1
  ·obtain rfl:u=t:=by simpa using I
   exact iY (f _ _ h.ht) h.hB.1
 ·obtain ⟨p1,⟨c,p2⟩,p3,p4,p5⟩:=h.hF p hp
  refine ⟨?_,⟨c,p2⟩,p3,p5⟩;rw [p2] at p1 ⊢;exact o _ _ _ p1 aj (ch p1 h.hR aj) p3
theorem BJ {N:Nat} {w:World} {B Y R b g:Nat} {d:Int} {k:It} {bl:Bool} {ks I:Value} {L:List It} {F:List (Nat × Obj)} {t:It} (h:AU N w B Y R b g d k bl ks I L F t) (G n:Int) (s:ByteArray) (hd:0≤d∧d<6) :
  Calls Tryz.prog 105 #[.pointer (some ⟨R,0,none⟩),ck 3 G n s] w fun e w'=>e=.returned (.int .i64 0)∧Below N w w' ∧
   AT N w' Y R g (d+1) t true (.slice none 0 0) (.pointer (some ⟨b,0,none⟩)) [] ((b,AH k bl ks I)::F):=by
 have J:=ch h.hR h.hg aj;refine (uY R g _ G n d s _ _ _ _ _ w hd J N h.hN.1 h.hN.2.2.1 h.hR h.hg).mono ?_;rintro e w' ⟨rfl,H,hg,hR,f⟩;have hs:=H.size;have E:∀ j o,w.heap[j]?=some o→j≠R→j≠g→w'.heap[j]?=some o:=fun j o ho hj U=>(f j (bC ho) hj U).trans ho
 refine ⟨rfl,H,hR,hg,World.ownsRow_nil _ _ _ _,bL h.ht fun k cs _ _ O=>E _ _ O (ch O h.hR aj) (ch O h.hg aj),fun t ht=>(by simp at ht),fun p V=>?_,Nat.le_trans h.hB.2 hs,⟨h.hN.1,h.hN.2.2.1,Nat.le_trans h.hN.2.2.2 h.hB.1⟩⟩;rcases List.mem_cons.1 V with rfl | V
 ·exact ⟨E _ _ h.hb (ch h.hb h.hR aj) h.hbg,⟨_,rfl⟩,h.hbg,h.hN.2.1⟩
 ·obtain ⟨W,⟨c,p2⟩,p3,p4,p5⟩:=h.hF p V
  refine ⟨E _ _ W ?_ p4,⟨c,p2⟩,p4,p5⟩;rw [p2] at W;exact ch W h.hR aj
theorem AF {N:Nat} {w:World} {B R b a:Nat} {d:Int} {k k0:It} {U I:Bool} {ks E:Value} {L:List It} (h:AT N w B R b d k U ks (.pointer (some ⟨a,0,none⟩)) L [(a,AH k0 I (.slice none 0 0) E)]) (H n:Int) (s:ByteArray) (hd:1≤d∧d≤6) :
  Calls Tryz.prog 104 #[.pointer (some ⟨R,0,none⟩),ck 4 H n s] w fun e w'=>e=.returned (.int .i64 0)∧Below N w w' ∧
   ∃ v,w'.heap[R]?=some (Br a none (d-1))∧w'.heap[a]?=some (AH k0 I v E)∧w'.ownsRow w.heap.size 154 5 v 1 [.string k.nm,.int .i64 k.at_,k.v,.bool U,ks]∧qt w' B ks L∧ic w' B k∧∀ t∈L,ic w' B t:=by
 obtain ⟨G,-,a3,a4⟩:=h.hF _ (List.mem_singleton.2 rfl);have W:=ch h.hR G aj;obtain ⟨va,vc,hv⟩:=dN h.h0;obtain ⟨ka,kc,O⟩:=dN h.hk;have Y:w.heap[b]?=some (.cells #[.string k.nm,.int .i64 k.at_,.slice va k.n vc,.bool U,.slice ka L.length kc,.pointer (some ⟨a,0,none⟩)] 195 (0,0)):=by
  have h:=h.hb
  rwa [AH,hv,O] at h
 refine (o9 R b a w.heap.size H n d k.at_ s k.nm U va ka k.n vc L.length kc _ _ _ _ _ _ 0 [] w hd (ch h.hR h.hb aj) W a3 aj (Nat.le_refl _) N h.hN.1 a4 (Nat.le_trans h.hN.2.2 h.hB) h.hR Y G (World.ownsRow_nil _ _ _ _)).mono ?_;rintro e w' ⟨rfl,J,v,V,hR,ha,f1,f2⟩;have hs:=J.size;have o:∀ j F (T:TypeId),w.heap[j]?=some (.cells F T (0,0))→j≠R→j≠a→w'.heap[j]?=some (.cells F T (0,0)):=fun j F T V hj aa=>(f2 j (bC V) (by simp [hj,aa])).trans V
 refine ⟨rfl,J,v,hR,ha,by rw [hv,O];exact V,?_,?_,fun t ht=>?_⟩
 ·exact bL h.hk fun k F _ _ f=>o _ _ _ f (ch f h.hR aj) (ch f G aj)
 ·exact bL h.h0 fun k F _ _ f=>o _ _ _ f (ch f h.hR aj) (ch f G aj)
 ·exact bL (h.hL t ht) fun k F _ _ f=>o _ _ _ f (ch f h.hR aj) (ch f G aj)
end
end Go.Proofs.YtpebkobmhhnojaaGreatDoor
