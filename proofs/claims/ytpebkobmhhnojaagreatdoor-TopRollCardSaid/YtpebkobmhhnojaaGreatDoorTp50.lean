/- Lemmas. -/
import Derived.Lay
import Derived.Lib.LaidTab
import Derived.MakeChecks
import Derived.Shelf.Vars
import Derived.Test.YtpebkobmhhnojaaGreatDoorTp13
import Derived.Test.YtpebkobmhhnojaaGreatDoorTp21
import Derived.Test.YtpebkobmhhnojaaGreatDoorTp44
import Derived.Test.YtpebkobmhhnojaaGreatDoorTp49
set_option linter.unusedSimpArgs false
set_option linter.unusedVariables false
set_option maxRecDepth 100000
set_option maxHeartbeats 12800000
namespace Go.Proofs.YtpebkobmhhnojaaGreatDoor
section
open Go.RowKit Qd
def F9:ByteArray:=⟨#[100,97,121,32,97,32,50,48,50,52,45,48,50,45,48,51,32,119,101,101,107,10,115,112,108,105,116,32,97,32,119,101,101,107,32,49,48,32,50,48,50,51,45,48,50,45,48,51,32,50,48,50,51,45,48,50,45,48,53]⟩
def sI:ByteArray:=⟨#[50,48,50,51,45,87,53,51,10,50,48,50,51,45,87,48,49,32,55,10,50,48,50,51,45,87,48,50,32,51,10]⟩
theorem zO:Lib.countB F9 ⟨#[10]⟩=1∧((Lib.splitB ⟨#[10]⟩ 0 1 F9).map Value.string).toArray=#[.string da,.string cU]:=by
 refine ⟨by decide +kernel,?_⟩;rw [show Lib.splitB ⟨#[10]⟩ 0 1 F9=[da,cU] by decide +kernel];rfl
theorem xE:cU.toList.isEmpty=false:=by decide +kernel
theorem ER {B b:Nat} {f:List Value} {w:World} {k:Nat} {o:Array Value} (h:Lib.IsBuilder BT UT B b f w) (F:w.heap[k]?=some (.cells o 9 (0,0))):k≠b:=by
 have one:∀ p,Lib.BuilderAt BT UT B b p f w→k≠b:=fun p h=>by
  obtain ⟨G,v,E,H,I⟩:=h;exact ch F E aj
 rcases h with h | h
 ·exact one _ h
 ·exact one _ h
theorem jX {B b:Nat} {f:List Value} {w w':World} (h:Lib.IsBuilder BT UT B b f w) (o:Below w w w'):Lib.IsBuilder BT UT B b f w':=by
 have one:∀ p,Lib.BuilderAt BT UT B b p f w→Lib.BuilderAt BT UT B b p f w':=fun p h=>by
  obtain ⟨E,v,F,G,H⟩:=h;exact ⟨E,v,av F o,aO G o,H⟩
 rcases h with h | h
 ·exact .inl (one _ h)
 ·exact .inr (one _ h)
theorem bi.low {w w':World} {g B:Nat} {o:List Value} (h:bi w g o) (E:g<B) (f:Below B w w'):bi w' g o:=
 ⟨Nat.lt_of_lt_of_le h.1 f.size,fun j u F=>(f.cell (p:=⟨g,j,none⟩) E).trans (h.2 j u F)⟩
theorem Em (w:World) (hL:bQ w):Calls Tryz.prog 20 #[.string bY,.string F9] w fun e w'=>e=.returned (.tuple #[.string sI,.int .i64 0,.int .i64 0])∧Below w w w':=by
 have HC:=hide (uN w);generalize bY=cx at *;have d3:=xE;obtain ⟨sx,aA⟩:∃ s,s=F9:=⟨_,rfl⟩;have bk:=hide aA;rw [← aA];clear aA;have cb:=hide Ft;have cc:=hide Gk;have ao:=hide zO;rw [← bk.out] at ao;have c6:sx.size<4294967281:=by rw [bk.out];decide
 generalize da=U at *;generalize cU=V at *;go_enter Tryz.func20,Tryz.ntmps20;go_wp2_with fail;refine (HC.out).mono ?_;rintro e f ⟨v,rfl,⟨g,c,rfl,hr⟩,E⟩;have ab:=hide hr;have aa:=hide (hL.call E);have O:=hide E;have d4:=O.out.size;have d2:=ab.out.1;clear hr E;obtain ⟨m,hm⟩:=aa.out.len;have HS:=hide (Tryz.strings_Split sx ⟨#[10]⟩ m f c6 hm aj);rw [ao.out.1,ao.out.2] at HS;clear hm;go_wp2_with fail;refine (HS.out).mono ?_;rintro e x ⟨rfl,rfl⟩;go_wp2_with fail;refine wp_loop_rounds 3 ?_;have E:Below f f (((f.alloc (.cells #[.string U,.string V] 9)).alloc (.cells #[.slice none 0 0,.slice none 0 0] 53)).alloc (.cells #[.pointer none,.slice none 0 0] BT)):=ar;have e1:(f.alloc (.cells #[.string U,.string V] 9)).heap.size=f.heap.size+1:=af;have e2:((f.alloc (.cells #[.string U,.string V] 9)).alloc (.cells #[.slice none 0 0,.slice none 0 0] 53)).heap.size=f.heap.size+1+1:=af;have ac:Hid ((((f.alloc (.cells #[.string U,.string V] 9)).alloc (.cells #[.slice none 0 0,.slice none 0 0] 53)).alloc (.cells #[.pointer none,.slice none 0 0] BT)).heap[f.heap.size]?=some (.cells #[.string U,.string V] 9)):=hide (aD (aD (heap_alloc_new f _)));have W:Hid ((((f.alloc (.cells #[.string U,.string V] 9)).alloc (.cells #[.slice none 0 0,.slice none 0 0] 53)).alloc (.cells #[.pointer none,.slice none 0 0] BT)).heap[f.heap.size+1]?=some (.cells #[.slice none 0 0,.slice none 0 0] 53)):=hide (by
  have h:=aD (o':=(.cells #[.pointer none,.slice none 0 0] BT)) (heap_alloc_new (f.alloc (.cells #[.string U,.string V] 9)) (.cells #[.slice none 0 0,.slice none 0 0] 53));rw [e1] at h;exact h)
 have cS:Hid (Lib.IsBuilder BT UT (f.heap.size+1+1) (f.heap.size+1+1) [] (((f.alloc (.cells #[.string U,.string V] 9)).alloc (.cells #[.slice none 0 0,.slice none 0 0] 53)).alloc (.cells #[.pointer none,.slice none 0 0] BT))):=hide (by
  have h:=Lib.fresh_isBuilder BT UT ((f.alloc (.cells #[.string U,.string V] 9)).alloc (.cells #[.slice none 0 0,.slice none 0 0] 53));rw [e2] at h;exact h)
 have bp:f.heap.size+1+1<(((f.alloc (.cells #[.string U,.string V] 9)).alloc (.cells #[.slice none 0 0,.slice none 0 0] 53)).alloc (.cells #[.pointer none,.slice none 0 0] BT)).heap.size:=af;have bd:=hide (ab.out.call E);have a6:=hide (aa.out.call E);have aB:=hide (O.out.trans (E.mono O.out.size));clear E e1 e2;generalize (((f.alloc (.cells #[.string U,.string V] 9)).alloc (.cells #[.slice none 0 0,.slice none 0 0] 53)).alloc (.cells #[.pointer none,.slice none 0 0] BT))=v0 at *;rw [rounds_succ];have l0:v0.cell? ⟨f,0,none⟩=some (.string U):=ae ac.out 0;have b0:v0.cell? ⟨f+1,0,none⟩=some (.slice none 0 0):=ae W.out 0;have b1:v0.cell? ⟨f+1,1,none⟩=some (.slice none 0 0):=ae W.out 1;go_wp2_with fail;clear l0 b0 b1;refine (cb.out g c v0 a6.out bd.out).mono ?_;rintro e I ⟨k0,rfl,hk,E⟩;have a8:=hide (av ac.out E);have F:=hide (av W.out E);have c0:=hide (jX cS.out E);have ab:=hide (bd.out.call E);have aa:=hide (a6.out.call E);have O:=hide (aB.out.trans (E.mono aB.out.size));have b6:=hide hk;have bs:f.heap.size+1+1<I.heap.size:=Nat.lt_of_lt_of_le bp E.size;clear E hk;have b0:I.cell? ⟨f+1,0,none⟩=some (.slice none 0 0):=ae F.out 0;have f0:I.frozen? ⟨f+1,0,none⟩=false:=aw F.out 0;have s0:I.setCell ⟨f+1,0,none⟩ (.slice none 0 0)=I:=bj F.out 0 rfl;have b1:I.cell? ⟨f+1,1,none⟩=some (.slice none 0 0):=ae F.out 1;have f1:I.frozen? ⟨f+1,1,none⟩=false:=aw F.out 1;have s1:I.setCell ⟨f+1,1,none⟩ (.slice none 0 0)=I:=bj F.out 1 rfl;have c9:f.heap.size+1<I.heap.size:=ay F.out;go_wp2_with fail;refine wp_loop_rounds 2 ?_;clear b0 b1 f0 f1 s0 s1;have E:Below I I (I.alloc (.cells #[.slice none 0 0,.slice none 0 0] 53)):=ar;have a9:=hide (av a8.out E);have a3:=hide (av F.out E);have c1:=hide (jX c0.out E);have cp:=hide (ab.out.call E);have dq:=hide (aa.out.call E);have b3:=hide (O.out.trans (E.mono O.out.size));have b7:=hide (av b6.out E);have bt:f.heap.size+1+1<(I.alloc (.cells #[.slice none 0 0,.slice none 0 0] 53)).heap.size:=Nat.lt_of_lt_of_le bs E.size;generalize I.alloc (.cells #[.slice none 0 0,.slice none 0 0] 53)=v2 at *;clear E;rw [rounds_succ];have k0:v2.cell? ⟨k0,0,none⟩=some (.string ⟨#[50,48,50,51,45,87,53,51]⟩):=ae b7.out 0;go_wp2_with fail;clear k0;have H:(⟨#[50,48,50,51,45,87,53,51]⟩:ByteArray) ++ ⟨#[10]⟩=⟨#[50,48,50,51,45,87,53,51,10]⟩:=by decide +kernel
 try rw [H]
 refine (ls (f.heap.size+1+1) (f.heap.size+1+1) [] ⟨#[50,48,50,51,45,87,53,51,10]⟩ v2 c1.out (by decide +kernel) om).mono ?_;rintro e v3 ⟨rfl,hw,E,hj⟩;have c2:Hid (Lib.IsBuilder BT UT (f.heap.size+1+1) (f.heap.size+1+1) (Lib.strCells ⟨#[50,48,50,51,45,87,53,51,10]⟩) v3):=hide (.inr (by
  have h:([]++Lib.strCells ⟨#[50,48,50,51,45,87,53,51,10]⟩:List Value)=Lib.strCells ⟨#[50,48,50,51,45,87,53,51,10]⟩:=by rfl
  rw [← h];exact hw))
 have ad:=hide ((E.block (f.heap.size) om).trans a9.out);have Y:=hide ((E.block (f.heap.size+1) om).trans a3.out);have ah:=hide (b3.out.trans (E.mono om));have a7:=hide (hL.call ah.out);have bh:=hide (bi.low cp.out (show g<f.heap.size+1+1 by omega) E);have bw:f.heap.size+1+1<v3.heap.size:=Nat.lt_of_lt_of_le bt E.size;clear hw E hj H;go_wp2_with fail;rw [rounds_succ];go_wp2_with fail;rw [rounds_succ];have l0:v3.cell? ⟨f,1,none⟩=some (.string V):=ae ad.out 1;have b0:v3.cell? ⟨f+1,0,none⟩=some (.slice none 0 0):=ae Y.out 0;have b1:v3.cell? ⟨f+1,1,none⟩=some (.slice none 0 0):=ae Y.out 1;go_wp2_with fail;clear l0 b0 b1;refine (cc.out g c v3 a7.out bh.out).mono ?_;rintro e J ⟨k1,rfl,hk,E⟩;have ba:=hide (av ad.out E);have G:=hide (av Y.out E);have c3:=hide (jX c2.out E);have cr:=hide (bh.out.call E);have ca:=hide (a7.out.call E);have a0:=hide (ah.out.trans (E.mono ah.out.size));have b8:=hide hk;have bx:f.heap.size+1+1<J.heap.size:=Nat.lt_of_lt_of_le bw E.size;clear E hk;have b0:J.cell? ⟨f+1,0,none⟩=some (.slice none 0 0):=ae G.out 0;have f0:J.frozen? ⟨f+1,0,none⟩=false:=aw G.out 0;have s0:J.setCell ⟨f+1,0,none⟩ (.slice none 0 0)=J:=bj G.out 0 rfl;have b1:J.cell? ⟨f+1,1,none⟩=some (.slice none 0 0):=ae G.out 1;have f1:J.frozen? ⟨f+1,1,none⟩=false:=aw G.out 1;have s1:J.setCell ⟨f+1,1,none⟩ (.slice none 0 0)=J:=bj G.out 1 rfl;have dd:f.heap.size+1<J.heap.size:=ay G.out;go_wp2_with fail;refine wp_loop_rounds 3 ?_;clear b0 b1 f0 f1 s0 s1;have E:Below J J (J.alloc (.cells #[.slice none 0 0,.slice none 0 0] 53)):=ar;have bb:=hide (av ba.out E);have a4:=hide (av G.out E);have bl:=hide (jX c3.out E);have cs:=hide (cr.out.call E);have ds:=hide (ca.out.call E);have b4:=hide (a0.out.trans (E.mono a0.out.size));have al:=hide (av b8.out E);have bX:f.heap.size+1+1<(J.alloc (.cells #[.slice none 0 0,.slice none 0 0] 53)).heap.size:=Nat.lt_of_lt_of_le bx E.size;generalize J.alloc (.cells #[.slice none 0 0,.slice none 0 0] 53)=v5 at *;clear E;rw [rounds_succ];have k0:v5.cell? ⟨k1,0,none⟩=some (.string ⟨#[50,48,50,51,45,87,48,49,32,55]⟩):=ae al.out 0;go_wp2_with fail;clear k0;have H:(⟨#[50,48,50,51,45,87,48,49,32,55]⟩:ByteArray) ++ ⟨#[10]⟩=⟨#[50,48,50,51,45,87,48,49,32,55,10]⟩:=by decide +kernel
 try rw [H]
 refine (ls (f.heap.size+1+1) (f.heap.size+1+1) (Lib.strCells ⟨#[50,48,50,51,45,87,53,51,10]⟩) ⟨#[50,48,50,51,45,87,48,49,32,55,10]⟩ v5 bl.out (by decide +kernel) om).mono ?_;rintro e v6 ⟨rfl,hw,E,hj⟩;have c4:Hid (Lib.IsBuilder BT UT (f.heap.size+1+1) (f.heap.size+1+1) (Lib.strCells ⟨#[50,48,50,51,45,87,53,51,10,50,48,50,51,45,87,48,49,32,55,10]⟩) v6):=hide (.inr (by
  have h:((Lib.strCells ⟨#[50,48,50,51,45,87,53,51,10]⟩)++Lib.strCells ⟨#[50,48,50,51,45,87,48,49,32,55,10]⟩:List Value)=Lib.strCells ⟨#[50,48,50,51,45,87,53,51,10,50,48,50,51,45,87,48,49,32,55,10]⟩:=by rfl
  rw [← h];exact hw))
 have bc:=hide ((E.block (f.heap.size) om).trans bb.out);have a5:=hide ((E.block (f.heap.size+1) om).trans a4.out);have a1:=hide (b4.out.trans (E.mono om));have dY:=hide (hL.call a1.out);have cv:=hide (bi.low cs.out (show g<f.heap.size+1+1 by omega) E);have b9:=hide (hj _ _ _ aj (ER bl.out al.out) al.out);have b2:f.heap.size+1+1<v6.heap.size:=Nat.lt_of_lt_of_le bX E.size;clear hw E hj H;go_wp2_with fail;rw [rounds_succ];have k0:v6.cell? ⟨k1,1,none⟩=some (.string ⟨#[50,48,50,51,45,87,48,50,32,51]⟩):=ae b9.out 1;go_wp2_with fail;clear k0;have H:(⟨#[50,48,50,51,45,87,48,50,32,51]⟩:ByteArray) ++ ⟨#[10]⟩=⟨#[50,48,50,51,45,87,48,50,32,51,10]⟩:=by decide +kernel
 try rw [H]
 refine (ls (f.heap.size+1+1) (f.heap.size+1+1) (Lib.strCells ⟨#[50,48,50,51,45,87,53,51,10,50,48,50,51,45,87,48,49,32,55,10]⟩) ⟨#[50,48,50,51,45,87,48,50,32,51,10]⟩ v6 c4.out (by decide +kernel) om).mono ?_;rintro e v7 ⟨rfl,hw,E,hj⟩;have c5:Hid (Lib.IsBuilder BT UT (f.heap.size+1+1) (f.heap.size+1+1) (Lib.strCells ⟨#[50,48,50,51,45,87,53,51,10,50,48,50,51,45,87,48,49,32,55,10,50,48,50,51,45,87,48,50,32,51,10]⟩) v7):=hide (.inr (by
  have h:((Lib.strCells ⟨#[50,48,50,51,45,87,53,51,10,50,48,50,51,45,87,48,49,32,55,10]⟩)++Lib.strCells ⟨#[50,48,50,51,45,87,48,50,32,51,10]⟩:List Value)=Lib.strCells ⟨#[50,48,50,51,45,87,53,51,10,50,48,50,51,45,87,48,49,32,55,10,50,48,50,51,45,87,48,50,32,51,10]⟩:=by rfl
  rw [← h];exact hw))
 have c8:=hide ((E.block (f.heap.size) om).trans bc.out);have c7:=hide ((E.block (f.heap.size+1) om).trans a5.out);have a2:=hide (a1.out.trans (E.mono om));have d0:=hide (hL.call a2.out);have d1:=hide (bi.low cv.out (show g<f.heap.size+1+1 by omega) E);have dg:f.heap.size+1+1<v7.heap.size:=Nat.lt_of_lt_of_le b2 E.size;clear hw E hj H;go_wp2_with fail;rw [rounds_succ];go_wp2_with fail;rw [rounds_succ];go_wp2_with fail;have cy:=hide (Tryz.Builder_String_any (f.heap.size+1+1) (f.heap.size+1+1) (sI.data.toList) v7 (show Lib.IsBuilder BT UT (f.heap.size+1+1) (f.heap.size+1+1) (Lib.byteCells sI.data.toList) v7 from c5.out) om);refine (cy.out).mono ?_;rintro e y ⟨rfl,E⟩;have b5:=hide (a2.out.trans (E.mono om));clear E;have ho:(⟨sI.data.toList.toArray⟩:ByteArray)=sI:=rfl;rw [ho];obtain ⟨ot,aq⟩:∃ o,sI=o:=⟨_,rfl⟩;have cl:=hide aq;rw [aq];clear aq;go_wp2_with fail;exact bodyPost_ret (v:=.tuple #[.string ot,.int .i64 0,.int .i64 0]) (by simp (maxDischargeDepth:=9) [results,Tryz.results20,go_sem]) rfl ⟨by rw [cl.out],b5.out⟩
theorem dH (w:World) (o:bQ w):Calls Tryz.prog 6 #[] w fun e w'=>e=.returned (.bool true)∧Below w w w':=by
 go_enter Tryz.func6,Tryz.ntmps6;go_wp2_with fail;refine (Em w o).mono ?_;rintro e F ⟨rfl,f⟩;have h:=hide f;clear f;have E:sI=(⟨#[50,48,50,51,45,87,53,51,10,50,48,50,51,45,87,48,49,32,55,10,50,48,50,51,45,87,48,50,32,51,10]⟩:ByteArray):=rfl;rw [E];go_wp2;go_ret;exact ⟨rfl,h.out⟩
end
section
open Go.ChangeShapes Go.WideShapes Go.ChangeAt Go.RowKit Qd
theorem iU {H:Type} {enc:TypeId × Value→H} {C:Checked} {os:Os} {f:FuncId} {fn:Func} {s:ChangeSpec} {O:List PathCond} {o U G J:Bool} {X:World→Array Value→Prop}
  (hX:∀ (w w':World) (h:Array Value),w.heap=w'.heap→X w h→X w' h)
  (own:ownKnob C.prog.godebug=none) (V:os.Started) (aa:C.prog.inits.idxOf? f=none) (ao:C.prog.funcs[f]?=some fn)
  (Y:∃ (w:World) (E:Tape) (i:Input),w.os=os∧(w.forCall E i).Shaped C.prog∧i.vars=[]∧Input.okWide C.prog (w.forCall E i) .any w.heap.size f i ∧
   ((s.pre enc C.prog fn O o (w.forCall E i).memory i.args∧X (w.forCall E i).memory i.args)∧sizedMet enc C.prog fn (OpenSpec.ofChange s) o (w.forCall E i).memory i.args)∧Assume.holds {} C.prog (lone (Frame.enter C.prog f i.args .normal) [] (w.forCall E i)))
  (I:∀ (W:World) (ab:Nat) (h:Array Value) (ds gs:List (DataW H)) (F:List MemPlace),
   (∀ (j:Nat) t v,fn.params[j]?=some t→h[j]?=some v→Value.okWide C.prog W .any ab t v) →
   DataW.Whole enc C.prog fn.params.toList s.vars o W h.toList ds gs F→X W h→W.ShapedOpen C.prog →
   Calls C.prog f h W fun e W'=>∃ v,e=.returned v∧s.post enc C.prog fn o U G J W h v W') :
  ReturnsInHanded {} C os f .any (fun w h=>(s.pre enc C.prog fn O o w h∧X w h)∧sizedMet enc C.prog fn (OpenSpec.ofChange s) o w h) (s.post enc C.prog fn o U G J):=by
 refine returnsInHanded_of_calls own V aa Y ?_;intro w E i _ aA _ aq ad _;obtain ⟨_,_,_,al,ac,_,_,_,_,ah⟩:=aq;obtain rfl:al=fn:=Option.some.inj (ac.symm.trans ao);obtain ⟨⟨⟨ds,gs,F,hw,_⟩,hx⟩,_⟩:=ad;refine (I (w.forCall E i) w.heap.size i.args ds gs F ah (DataW.Whole.of_heap (w':=w.forCall E i) (by rfl) hw) (hX _ _ _ (by rfl) hx) aA).mono fun e W' ⟨v,he,hp⟩=>?_
 subst he;exact ChangeSpec.post_blind hp
theorem EX {W:World} (h:laidMetH Tryz.prog Rows.topUnitsRow.laid W):Lib.TabIs Tryz.prog W "internal/strconv.uint64pow10" .u64 Lib.pow10Tab:=by
 rw [MakeChecks.laidMetH_plain _ _ _ (by kernel_rfl)] at h;obtain ⟨J,⟨_,_,_,_,_,_,_,_,_,_,⟨_,_,_,_,_,_,_,_,_,_,⟨I,O,H,F,p,q,o,E,f,G,_,_⟩,_⟩,_⟩,_⟩:=h;obtain rfl:=Option.some.inj ((show Tryz.prog.globalNamed "internal/strconv.uint64pow10" = some 3 by kernel_rfl).symm.trans o);obtain rfl:=Option.some.inj ((show (Tryz.prog.globals[3]?).map (·.type)=some 361 by kernel_rfl).symm.trans E);have e:(Rows.laid_internal_strconv_uint64pow10:DataW Unit)=Lib.tabData .u64 Lib.pow10Tab:=by kernel_rfl
 rw [e] at G;unfold Lib.TabIs;rw [f,← Lib.cells_of_tab Tryz.underlying361 Tryz.underlying98 (by kernel_rfl) (by kernel_rfl) G]
theorem pm {W:World} (h:laidMetH Tryz.prog Rows.topUnitsRow.laid W) (f:W.ShapedOpen Tryz.prog):bQ W:=
 ⟨cell_of_shapedOpen_int (g:=0) (t:=3) (zero:=#[.int .i64 0]) f (of_decide_eq_true (by kernel_rfl)) (by kernel_rfl) rfl (by kernel_rfl) (by kernel_rfl) Tryz.underlying3,EX h⟩
end
end Go.Proofs.YtpebkobmhhnojaaGreatDoor
