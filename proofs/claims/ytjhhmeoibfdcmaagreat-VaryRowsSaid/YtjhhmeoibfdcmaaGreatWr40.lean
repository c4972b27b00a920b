/- Lemmas. -/
import Derived.Deep.SlicePairs
import Derived.Test.YtjhhmeoibfdcmaaGreatWr08
import Derived.Test.YtjhhmeoibfdcmaaGreatWr15
import Derived.Test.YtjhhmeoibfdcmaaGreatWr17
import Derived.Test.YtjhhmeoibfdcmaaGreatWr26
import Derived.Test.YtjhhmeoibfdcmaaGreatWr32
import Derived.Test.YtjhhmeoibfdcmaaGreatWr33
import Derived.Test.YtjhhmeoibfdcmaaGreatWr36
import Derived.Test.YtjhhmeoibfdcmaaGreatWr37
import Derived.Test.YtjhhmeoibfdcmaaGreatWr38
set_option linter.unusedSimpArgs false
set_option linter.unusedVariables false
set_option maxRecDepth 100000
set_option maxHeartbeats 12800000
namespace Go.Proofs.YtjhhmeoibfdcmaaGreat
section
open Go.RowKit Qd
def Lh (a b c d f h o E:Int):Bool:=tM a b c f h o&&d==E
theorem GV (n:Nat) (a b c d f h o E:Int) (w:World):(Op.equalIn (n+3) 111 (.agg #[a,b,c,d]) (.agg #[f,h,o,E])).run Tryz.prog w=.ok (Lh a b c d f h o E) w:=by
 have I:=Tryz.underlying2;have F:=Tryz.isAgg2;have J:=Tryz.sizeOf2;have G:=Tryz.isAgg26;have O:=Tryz.sizeOf26;have H:=no n a b c f h o w;rw [run_equalIn_struct w _ _ _ _ (by simp [Program.fieldsOf,Tryz.underlying111]) (by kernel_rfl)];simp only [Program.fieldsOf,Tryz.underlying111];go_simp;simp only [Lh,tM]
 repeat' split
 all_goals simp_all
@[go_sem high] theorem JL (a b c d f h o E:Int) (w:World):(binOp .eql 111 (.agg #[a,b,c,d]) (.agg #[f,h,o,E])).run Tryz.prog w=.ok (.bool (Lh a b c d f h o E)) w:=by
 rw [run_eql_struct,GV 9997];rfl
theorem Gr {a:Int} {ws:List Int} (h:0<ws.sum) {i:Nat} {x:Int} (E:ws[i]?=some x):∃ N,(lO a ws)[i]?=some N∧(N=a*x / ws.sum∨(N=a*x / ws.sum+1∧0<a*x % ws.sum)):=by
 obtain ⟨e,o,f⟩:=FT (a:=a) h (tq a ws) E;refine ⟨_,o,?_⟩;rcases f with ⟨rfl,f⟩ | ⟨rfl,f⟩
 ·exact .inr ⟨rfl,wn h rfl (tq a ws) f⟩
 ·left;omega
theorem Dx {a:Int} {ws:List Int} (I:aX a) (J:∀ x∈ws,0≤x) (o:0<ws.sum) {i:Nat} {N:Int} (h:(lO a ws)[i]?=some N):aX N:=by
 have hi:=(List.getElem?_eq_some_iff.1 h).1;rw [mq] at hi;obtain ⟨x,E⟩:∃ x,ws[i]?=some x:=⟨_,List.getElem?_eq_getElem hi⟩;obtain ⟨M,G,f⟩:=Gr (a:=a) o E;rw [h] at G;cases G;have F:=J x (List.mem_of_getElem? E);have H:=oK J x (List.mem_of_getElem? E);rcases f with rfl | ⟨rfl,f⟩
 ·exact jE I F H o
 ·exact zW I F H o f
def Z0:dD:=⟨fun _=>0,fun _ _=>[]⟩
theorem Dk (y:Int) (a n:Nat):fX (fun _=>[]) y a n=[]:=by
 induction n with
 | zero=>rfl
 | succ n f=>rw [fX,f];rfl
theorem yG (v:Value) (ws:List Int) (w:World) (hv:iJ w v ws) (hl:∀ x∈ws,0≤x) (hn:ws.length≤4096) (F:∀ x∈ws,aX x) (I:aX ws.sum) (h0:0<ws.sum) :
  Calls Tryz.prog 109 #[v] w fun e w'=>e=.returned (.tuple #[ws.sum,.int .i64 0])∧Below w w w':=by
 have HV:=hide hv;have HL:=hide hl;obtain ⟨S,R⟩:∃ S,ws.sum=S:=⟨_,rfl⟩;have E:=hide (fun W (h:iJ W v ws)=>l6 v ws W h F om);rw [(cB I).1,(cB I).2,R] at E;rw [R] at h0 ⊢;obtain ⟨ad,cap,rfl,H⟩:=hv;clear H hl F I R;go_enter Tryz.func109,Tryz.ntmps109;have al:(S==0)=false:=ae;go_wp2_with fail
 all_goals first
  | (exfalso;omega)
  | skip
 go_loopw [13] (fun s wr=>∃ j:Nat,s=.int .i64 j∧j≤ws.length∧Below w w wr) (fun s _=>(5000-intOf s).toNat)
 case atStart=>exact ⟨0,rfl,Nat.zero_le _,Below.refl _ _⟩
 case round =>
  obtain ⟨j,rfl,hj,f⟩:=hrel;have T:=HV.out.call f;by_cases U:j<ws.length
  ·obtain ⟨x,V⟩:∃ x,ws[j]?=some x:=⟨_,List.getElem?_eq_getElem U⟩
   have aA:=HL.out x (List.mem_of_getElem? V);obtain ⟨ah,ab,e,H⟩:=T;cases e;obtain ⟨g,o,rfl,hg,a0⟩:=H j x V;have aq:(0:Int)≤(j:Int):=om;have ay:(j:Int)<(ws.length:Int):=om;clear H V;go_wp2
   all_goals first
    | (exfalso;omega)
    | skip
   go_roundw
   case rel=>exact ⟨j+1,by go_num,by omega,by (repeat' exact bel)⟩
   case measure=>simp [intOf];omega
  ·have O:=hide T
   clear T;go_wp2_with fail;refine (E.out _ O.out).mono ?_;rintro e w1 ⟨rfl,G⟩;have J:Hid (Below w w w1):=by have I:=f.size;exact ww G
   clear G;go_wp2;go_ret2;exact ⟨rfl,J.out⟩
theorem wP (v:Value) (l:List Int) (w:World) (hv:iJ w v l) (hl:∀ x∈l,aX x) (hn:l.length≤1000000):Calls Tryz.prog 112 #[v] w fun e w'=>e=.returned (cv l.sum)∧Below w w w':=by
 have ay:=hide (show ap ((w.alloc jL).alloc jL) w.heap.size #[.int .i64 0,.int .u64 0] 103 from (jz w).alloc _);have H0:=hide (show gP ([]:List Int).sum (w.heap.size+1) (w.alloc jL) ((w.alloc jL).alloc jL) from ⟨by simpa [qO] using jz (w.alloc jL),by simp,(Below.refl _ _).alloc ac _⟩);obtain ⟨ad,cap,rfl,hc⟩:=hv;have HC:=hide hc;have HL:=hide hl;clear hc hl;go_enter Tryz.func112,Tryz.ntmps112;go_wp2_with fail;go_loopw [8] (fun s wr=>∃ j:Nat,s=.int .i64 j∧j≤l.length∧gP (l.take j).sum (w.heap.size+1) (w.alloc jL) wr∧ap wr w #[.int .i64 0,.int .u64 0] 103∧Below w w wr) (fun s _=>(l.length+5-intOf s).toNat)
 case atStart=>exact ⟨0,rfl,Nat.zero_le _,by simpa using H0.out,ay.out,by (repeat' exact bel)⟩
 case round =>
  obtain ⟨j,rfl,hj,hS,hR,G⟩:=hrel;have HS:=hide hS;have HR:=hide hR;have W:=hide G;clear hS hR;have a3:=HS.out.2.1;by_cases a1:j<l.length
  ·obtain ⟨x,hx⟩:∃ x,l[j]?=some x:=⟨_,List.getElem?_eq_getElem a1⟩
   obtain ⟨g,o,rfl,hg,a0⟩:=HC.out j x hx;have E:=HL.out x (List.mem_of_getElem? hx);have O:=hide (show (l.take (j+1)).sum=(l.take j).sum+x by rw [List.take_add_one,hx];simp);have U:=kh (l:=l.take j) (fun y hy=>HL.out y (List.mem_of_mem_take hy)) (by rw [List.length_take];omega);have F:=kh (l:=l.take (j+1)) (fun y hy=>HL.out y (List.mem_of_mem_take hy)) (by rw [List.length_take];omega);rw [O.out] at F;have ha:wr.cell? ⟨g,o+j,none⟩=some (.int .i64 x):=by
    rw [G.cell (p:=⟨g,o+j,none⟩) hg];exact a0
   obtain ⟨S,al⟩:∃ S,(l.take j).sum=S:=⟨_,rfl⟩;rw [al] at U F O HS;have a5:(0:Int)≤(j:Int):=om;have a6:(j:Int)<(l.length:Int):=om;have ah:=hide (fun w=>ow x w E);have V:=hide (fun w=>sq S x w U (mP E) F);simp only [cv] at ah V;obtain ⟨⟨b0,b1⟩,f0,f1⟩:=HS.out.cells;clear hx E U F al a0;go_wp2_with fail
   go_region_with (first
    | (go_at_call 124;(with_reducible refine (ah.out _).mono ?_);rintro e w1 ⟨rfl,aq⟩;have H:=hide (show Below wr wr w1 from (ww aq).out);have I:=hide (HS.out.call H.out);obtain ⟨⟨c0,c1⟩,g0,g1⟩:=I.out.cells;have a2:=I.out.2.1;clear aq)
    | (go_at_call 123;(with_reducible refine (V.out w1).mono ?_);rintro e w2 ⟨rfl,f⟩;have J:=hide (I.out.call f);have ab:=hide (H.out.trans (f.mono H.out.size));obtain ⟨⟨y0,y1⟩,y2,y3⟩:=J.out.cells;have a4:=J.out.2.1;clear f))
   all_goals
    go_simp;go_wp2;go_roundw
    case rel =>
     have aB:=HR.out.call ab.out;have f:=W.out.trans (ab.out.mono W.out.size);exact ⟨j+1,by go_num,by omega,by rw [O.out];exact J.out.set,o0 (o0 aB ac _) ac _,(f.setCell ac _).setCell ac _⟩
    case measure=>simp [intOf];omega
  ·have aF:j=l.length:=om
   have aA:=hide (show gP l.sum (w.heap.size+1) (w.alloc jL) wr by have h:=HS.out;rwa [List.take_of_length_le om] at h);obtain ⟨⟨b0,b1⟩,f0,f1⟩:=aA.out.cells;obtain ⟨⟨r0,r1⟩,k0,k1,hz⟩:=cO HR.out;obtain ⟨hi,R⟩:∃ x,l.sum / 18446744073709551616=x:=⟨_,rfl⟩;obtain ⟨lo,T⟩:∃ x,l.sum % 18446744073709551616=x:=⟨_,rfl⟩;have HF:=hide (show cv l.sum=.agg #[hi,.int .u64 lo] by rw [cv,R,T]);rw [R] at b0;rw [T] at b1;clear R T aF;go_wp2
   all_goals first
    | (exfalso;omega)
    | (refine bodyPost_ret (v:=.agg #[hi,.int .u64 lo]) (by simp (maxDischargeDepth:=9) [results,Tryz.results112,go_sem,r0,r1,k0,k1,hz]) rfl ⟨by rw [HF.out],by (repeat' exact bel)⟩)
abbrev cw (w:World) (b:Nat) (v:Value) (l:List Int):Prop:=w.ownsRow b 2 1 v l.length (cu l)
def zf (v u:Value):Prop:=∀ k,v.ownBlock=some k→u.ownBlock≠some k
theorem zf.symm {v u:Value} (h:zf v u):zf u v:=fun k f o=>h k o f
theorem dC {w G:World} {b:Nat} {v:Value} {l:List Int} (h:cw w b v l) (O:Below w w G):cw G b v l:=by
 refine ⟨h.1,?_⟩;rcases h.2 with H | ⟨F,f,E,R,I,o,J⟩
 ·exact .inl H
 ·exact .inr ⟨F,f,E,R,I,(O.block F (Array.getElem?_eq_some_iff.1 o).1).trans o,J⟩
theorem rZ {w:World} {b E:Nat} {v:Value} {l:List Int} (h:cw w b v l) (J:E≤b):cw w E v l:=by
 refine ⟨h.1,?_⟩;rcases h.2 with G | ⟨F,f,o,O,H,I⟩
 ·exact .inl G
 ·exact .inr ⟨F,f,o,O,Nat.le_trans J H,I⟩
def gX (b:Nat) (f:World) (v u:Value) (l m:List Int) (w:World):Prop:=cw w b v l∧cw w b u m∧zf v u∧Below b f w∧b≤w.heap.size
theorem gX.call {b:Nat} {E:World} {v u:Value} {l m:List Int} {w o:World} (h:gX b E v u l m w) (f:Below w w o):gX b E v u l m o:=
 ⟨dC h.1 f,dC h.2.1 f,h.2.2.1,h.2.2.2.1.trans (f.mono h.2.2.2.2),Nat.le_trans h.2.2.2.2 f.size⟩
theorem gX.swap {b:Nat} {f:World} {v u:Value} {l m:List Int} {w:World} (h:gX b f v u l m w):gX b f u v m l w:=⟨h.2.1,h.1,h.2.2.1.symm,h.2.2.2⟩
theorem gX.app {b:Nat} {H:World} {v v' u:Value} {l l' m:List Int} {w F:World} (h:gX b H v u l m w) (I:cw F b v' l') (E:w.grownBy F v.ownBlock) (o:v'.ownBlock=v.ownBlock∨v'.ownBlock=some w.heap.size):gX b H v' u l' m F:=by
 refine ⟨I,h.2.1.kept E ?_,?_,h.2.2.2.1.trans ((Below.refl b w).grown E h.2.2.2.2 fun k f=>(h.1.lt k f).1),Nat.le_trans h.2.2.2.2 E.size⟩
 ·cases J:v.ownBlock with
  | none =>
   cases G:u.ownBlock with
   | none=>exact .inl rfl
   | some k=>right;simp
  | some k =>
   right;exact h.2.2.1 k J
 ·intro k f
  rcases o with e | e
  ·exact h.2.2.1 k (by rw [← e];exact f)
  ·rw [e] at f
   intro G;have:=(h.2.1.lt k G).2;cases f;omega
theorem Au (l:List Int) (i:Nat) (y:Int):(cu l).set i (.int .i64 y)=cu (l.set i y):=by simp [cu,List.map_set]
theorem EY {w:World} {b g n cap:Nat} {l:List Int} (h:cw w b (.slice (some ⟨g,0,none⟩) n cap) l) (f:n=l.length) (i:Nat) (y:Int) :
  cw (w.setCell ⟨g,i,none⟩ (.int .i64 y)) b (.slice (some ⟨g,0,none⟩) n cap) (l.set i y):=by
 subst f;have:=(World.ownsRow.stored h i (.int .i64 y)).1;unfold cw;rw [← Au,List.length_set];exact this
theorem gX.set {b:Nat} {f:World} {g n cap:Nat} {u:Value} {l m:List Int} {w:World} (h:gX b f (.slice (some ⟨g,0,none⟩) n cap) u l m w) (o:n=l.length) (i:Nat) (y:Int) :
  gX b f (.slice (some ⟨g,0,none⟩) n cap) u (l.set i y) m (w.setCell ⟨g,i,none⟩ (.int .i64 y)):=
 ⟨EY h.1 o i y,ownsRow_setCell_other h.2.1 (h.2.2.1 g rfl) _,h.2.2.1,h.2.2.2.1.setCell (h.1.lt g rfl).1 _,by simpa using h.2.2.2.2⟩
theorem fI {w:World} {b g n cap:Nat} {l:List Int} (h:cw w b (.slice (some ⟨g,0,none⟩) n cap) l) (E:n=l.length) {i:Nat} {y:Int} (f:l[i]?=some y):w.cell? ⟨g,i,none⟩=some (.int .i64 y)∧w.frozen? ⟨g,i,none⟩=false:=by
 subst E;have o:=(List.getElem?_eq_some_iff.1 f).1;refine ⟨?_,World.ownsRow.frozenAt h _⟩;rw [World.ownsRow.cellAt h i om];simp [cu,f]
theorem xU {l:List Int} {i:Nat} {x:Int} (h:l[i]?=some x):l.modify i (· + 1)=l.set i (x+1):=by
 refine List.ext_getElem? fun j=>?_
 rw [List.getElem?_modify,List.getElem?_set];have o:=(List.getElem?_eq_some_iff.1 h).1;by_cases f:i=j
 ·subst f
  rw [h];simp [o]
 ·simp [f]
theorem CN {a:Int} {ws:List Int} {S:List Pt} (T:aX a) (J:∀ x∈ws,0≤x) (I:0<ws.sum) (h:iX (gz a ws.sum ws) S) (hS:lO a ws=AY a ws.sum ws S) {t:Nat} (ht:(t:Int)<dk a ws.sum ws) {p:Pt} (V:S[t]?=some p) :
  ∃ y,(dG (qL a ws.sum ws) (S.take t))[p.pos.toNat]?=some y∧dG (qL a ws.sum ws) (S.take (t+1))=(dG (qL a ws.sum ws) (S.take t)).set p.pos.toNat (y+1)∧aX (y+1):=by
 have G:∀ x∈ws,x≤ws.sum:=fun x F=>oK J x F
 have H:=(fO h).1 (List.mem_of_getElem? V);obtain ⟨p0,p1,p2,p3⟩:=kR I H;have f:p.pos.toNat<ws.length:=om;have o:(qL a ws.sum ws)[p.pos.toNat]?=some ((qL a ws.sum ws)[p.pos.toNat]'(by rw [jo];exact f)):=List.getElem?_eq_getElem _;generalize ah:(qL a ws.sum ws)[p.pos.toNat]'(by rw [jo];exact f)=q at o;have W:=DV T I (fun x F=>⟨J x F,G x F⟩) q (List.mem_of_getElem? o);have R:=jG (qL a ws.sum ws) (S.take t) p.pos.toNat q o;have g2:=jG (qL a ws.sum ws) (S.take (t+1)) p.pos.toNat q o;have g3:=jG (qL a ws.sum ws) (S.take (dk a ws.sum ws).toNat) p.pos.toNat q o;have O:S.take (t+1)=S.take t++[p]:=by rw [List.take_add_one,V];rfl
 have E:dG (qL a ws.sum ws) (S.take (t+1))=(dG (qL a ws.sum ws) (S.take t)).set p.pos.toNat (q+((S.take t).countP fun r=>r.pos.toNat==p.pos.toNat)+1):=by
  rw [O,qg];exact xU R
 refine ⟨_,R,E,?_⟩;have ab:(S.take (t+1)).countP (fun r=>r.pos.toNat==p.pos.toNat)=(S.take t).countP (fun r=>r.pos.toNat==p.pos.toNat)+1:=by rw [O,List.countP_append];simp
 have ad:(S.take (t+1)).countP (fun r=>r.pos.toNat==p.pos.toNat)≤(S.take (dk a ws.sum ws).toNat).countP (fun r=>r.pos.toNat==p.pos.toNat):=by
  refine List.Sublist.countP_le ?_;rw [show S.take (t+1)=(S.take (dk a ws.sum ws).toNat).take (t+1) by rw [List.take_take,Nat.min_eq_left om]];exact List.take_sublist _ _
 have U:aX (q+((S.take (dk a ws.sum ws).toNat).countP fun r=>r.pos.toNat==p.pos.toNat)):=Dx T J I (i:=p.pos.toNat) (by rw [hS];exact g3);unfold aX at *;omega
def eC (c:ar) (lv:Int):Int:=if c.okB=true∧1≤lv∧lv≤5 then 0 else 1
theorem fV (c:ar) (lv:Int) (w:World) (T:c.name.size≤1000) :
  Calls Tryz.prog 98 #[av c,lv] w fun e w'=>e=.returned (.int .i64 (eC c lv))∧Below w w w':=by
 have E:(co c=1∧eC c lv=1)∨(co c=0∧lv<1∧eC c lv=1)∨(co c=0∧(1≤lv∧5<lv)∧eC c lv=1)∨(co c=0∧(1≤lv∧lv≤5)∧eC c lv=0):=by
  rcases eY c with ⟨_,f,h⟩ | ⟨_,f,h⟩
  ·by_cases F:lv<1
   ·exact .inr (.inl ⟨f,F,by rw [eC,if_neg om]⟩)
   ·by_cases I:5<lv
    ·exact .inr (.inr (.inl ⟨f,⟨by omega,I⟩,by rw [eC,if_neg om]⟩))
    ·exact .inr (.inr (.inr ⟨f,⟨by omega,by omega⟩,by rw [eC,if_pos ⟨h,by omega,by omega⟩]⟩))
  ·exact .inl ⟨f,by rw [eC,if_neg (by simp [h])]⟩
 rcases E with ⟨f,h⟩ | ⟨f,F,h⟩ | ⟨f,⟨F,I⟩,h⟩ | ⟨f,⟨F,I⟩,h⟩
 all_goals
  have S:=hide f;have R:=hide h;clear f h;simp only [av];go_enter Tryz.func98,Tryz.ntmps98;go_wp2_with fail;refine (aH c _ T).mono ?_;rintro e O ⟨rfl,o⟩;rw [S.out];have U:w.heap.size<O.heap.size:=aj o;have G:Hid (Below w w O):=ww o;have H:=hide (aa o ac (au w c));obtain ⟨q0,q1,q2,q3,q4,q5,q6,q7,q8,q9,V,W,ab,ad⟩:=H.out;clear o;have J:=G.out;go_wp2
  all_goals first
   | (exfalso;omega)
   | (go_ret;exact ⟨by rw [R.out];rfl,by (repeat' exact bel)⟩)
theorem xc {c:ar} {u:Un} (h:aE c u=0):1≤u.ix∧u.ix≤60∧1602≤u.yr∧u.yr≤9996∧(aR c u.yr u.lv:Int)≤60∧c.first≤u.yr∧u.yr≤c.last:=by
 obtain ⟨o,F,G,f,R,hi⟩:=bN h;obtain ⟨H,E,_,_,I,J,_⟩:=a9 o;obtain ⟨_,_,S,T,U⟩:=dR E;have O:=dv c u.yr f u.lv;omega
end
section
open Go.ChangeShapes Go.WideShapes Go.ChangeAt Go.RowKit Qd
section
variable {H:Type} {enc:TypeId × Value→H} {base:Nat} {spare:Nat→Bool} {held:Bool}
def L8:Value→Int
 | .int _ x=>x
 | _=>0
theorem zm {w:World} {a:Addr} {v:Value} (h:w.cell? a=some v):a.block<w.heap.size:=by
 unfold World.cell? at h
 split at h
 ·rename_i c t f hh
  exact (Array.getElem?_eq_some_iff.1 hh).1
 ·cases h
end
end
end Go.Proofs.YtjhhmeoibfdcmaaGreat
