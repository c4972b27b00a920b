/- Lemmas. -/
import Derived.ArgAppend
import Derived.Test.YtjhhmeoibfdcmaaGreatWr06
import Derived.Test.YtjhhmeoibfdcmaaGreatWr09
import Derived.Test.YtjhhmeoibfdcmaaGreatWr13
import Derived.Test.YtjhhmeoibfdcmaaGreatWr18
import Derived.Test.YtjhhmeoibfdcmaaGreatWr20
set_option linter.unusedSimpArgs false
set_option linter.unusedVariables false
set_option maxRecDepth 100000
set_option maxHeartbeats 12800000
namespace Go.Proofs.YtjhhmeoibfdcmaaGreat
section
open Go.RowKit Qd
def ij (u:Un) (n:Nat):List Un:=bm (fun j:Nat=>(⟨u.lv,u.yr,u.ix+(j:Int)⟩:Un)) n
theorem qC (u:Un) (n:Nat):ij u (n+1)=ij u n++[⟨u.lv,u.yr,u.ix+(n:Int)⟩]:=bB _ _
theorem jV (u:Un) (n:Nat):(ij u n).length=n:=by simp [ij,bk]
theorem pf {α:Type} (f:Nat→α) (m n:Nat):bm f (m+n)=bm f m++bm (fun j=>f (m+j)) n:=by
 induction n with
 | zero=>simp [bm]
 | succ n h=>rw [← Nat.add_assoc,bB,h,bB,List.append_assoc]
theorem kk {α:Type} {f g:Nat→α} {n:Nat} (h:∀ j,j<n→f j=g j):bm f n=bm g n:=by
 unfold bm;exact List.map_congr_left fun j o=>h j (List.mem_range.1 o)
theorem iF {α:Type} (f:Nat→α) (n j:Nat) (h:j<n):(bm f n)[j]?=some (f j):=by simp [bm,h]
theorem Gv (u:Un) (m n:Nat):ij u (m+n)=ij u m++ij ⟨u.lv,u.yr,u.ix+(m:Int)⟩ n:=by
 rw [ij,pf];congr 1;refine kk fun j _=>?_
 simp only [Un.mk.injEq,true_and];omega
def lX (r:List Sp) (s:Sp):List Sp:=match r.getLast? with
 | some p=>if p.b=s.a-1 then r.dropLast++[⟨p.a,s.b⟩] else r++[s]
 | none=>[s]
theorem ot (r:List Sp) (p s:Sp) (h:p.b=s.a-1):lX (r++[p]) s=r++[⟨p.a,s.b⟩]:=by simp [lX,h]
theorem xD (r:List Sp) (p s:Sp) (h:¬ p.b=s.a-1):lX (r++[p]) s=r++[p]++[s]:=by simp [lX,h]
def oo (l:List Sp):List Sp:=l.foldl lX []
theorem m9 (l:List Sp) (s:Sp):oo (l++[s])=lX (oo l) s:=by simp [oo]
theorem vC (f:Nat→Int) (m:Nat) (h:0<m):oo (bm (fun j=>(⟨f j,f (j+1)-1⟩:Sp)) m)=[⟨f 0,f m-1⟩]:=by
 obtain ⟨n,rfl⟩:∃ n,m=n+1:=⟨m-1,by omega⟩
 induction n with
 | zero=>simp [bm,oo,lX]
 | succ n o =>
  rw [bB,m9,o om];exact ot [] _ _ rfl
theorem Fi (f g:Nat→Int) (m n:Nat) (h:0<m) (F:0<n) (E:¬ f m=g 0) :
  oo (bm (fun j=>(⟨f j,f (j+1)-1⟩:Sp)) m++bm (fun j=>(⟨g j,g (j+1)-1⟩:Sp)) n)=[⟨f 0,f m-1⟩,⟨g 0,g n-1⟩]:=by
 obtain ⟨k,rfl⟩:∃ k,n=k+1:=⟨n-1,by omega⟩
 induction k with
 | zero =>
  rw [show bm (fun j=>(⟨g j,g (j+1)-1⟩:Sp)) (0+1)=[⟨g 0,g (0+1)-1⟩] by simp [bm],m9,vC f m h];exact xD [] _ _ (by simp only;omega)
 | succ k o =>
  rw [bB,← List.append_assoc,m9,o om];exact ot [⟨f 0,f m-1⟩] _ _ rfl
end
section
open Go.RowKit Go.Shelf Qd
attribute [local go_sem] Oper.semAt_some
theorem l8 (w:World) {P:Program} (E:Nat) (t ty e:TypeId) (i:TypeInfo) (z:Value) (f bytes:Nat) (ht:P.underlying t=some (.slice e)) (hi:P.info? e=some i) (hz:i.zero=some z)
  (I:i.size=f) (T:i.bytes=bytes) (W:z.cells.size=f) (V:0<f)
  (v:Value) (n:Nat) (xs:List Value) (F:w.ownsRow E e f v n xs)
  (a:Addr) (m c:Nat) (h:List Value) (hl:h.length=m*f) (H:∀ j u,h[j]?=some u→w.cell? (a.add j)=some u) (h1:∀ u∈h,u.oneCell'=true)
  (S:n+m≤maxLen) (o:(n+m)*bytes≤140737488355328) (G:E≤w.heap.size) (hm:0<m) :
  ∃ v' O,(Builtin.append_ #[t,t] ty #[v,.slice (some a) m c]).run P w=.ok v' O∧O.ownsRow E e f v' (n+m) (xs++h)∧w.grownBy O v.ownBlock ∧
   (w.grownBy O none∨∃ g cap R,v=.slice (some ⟨g,0,none⟩) n cap∧n+m≤cap∧w.heap[g]?=some (.cells R e (0,0))∧R.size=cap*f):=by
 rcases F.2 with ⟨rfl,aq⟩ | ⟨g,cap,R,rfl,ah,hg,ay,al,ab,ad⟩
 ·obtain ⟨v',O,r1,r2,J,r4⟩:=run_append_own (P:=P) w E t ty e i z f bytes ht hi hz I T W V _ n xs F a m c h hl H h1 S o G
  exact ⟨v',O,r1,r2,J,.inl J⟩
 ·by_cases U:n+m≤cap
  ·obtain ⟨v',O,r1,r2,J,r4⟩:=run_append_own (P:=P) w E t ty e i z f bytes ht hi hz I T W V _ n xs F a m c h hl H h1 S o G
   exact ⟨v',O,r1,r2,J,.inr ⟨g,cap,R,rfl,U,hg,ab⟩⟩
  ·obtain ⟨v',O,r1,r2,J⟩:=run_append_arg_grows (P:=P) w t ty e i z f bytes ht hi hz I T W V ⟨g,0,none⟩ n cap xs F.1 (F.cells (g:=g) rfl) a m c h hl H om S o
   exact ⟨v',O,r1,r2.base G,⟨J.os,J.tape,J.output,J.size,fun k hk _=>J.block k hk ac⟩,.inl J⟩
theorem ee {F:Fence} {n:Nat} {P:Program} (w:World) {S:Array Oper} {G:List Oper} {o:Oper} {a:Act} {Q:Exit→Act→World→Prop}
  (hg:o.guard=none) (s x:Operand) (t:TypeId) (H:o.op=Op.call { callee:=Callee.builtin Builtin.append,args:=#[s,x],argTypes:=#[t,t] })
  (E:Nat) (e:TypeId) (i:TypeInfo) (z:Value) (f bytes:Nat) (h1:P.underlying t=some (.slice e)) (h2:P.info? e=some i) (h3:i.zero=some z) (h4:i.size=f) (h5:i.bytes=bytes) (h6:z.cells.size=f) (h7:0<f)
  (v:Value) (k:Nat) (xs:List Value) (hs:a.eval s=v) (O:w.ownsRow E e f v k xs) (T:Addr) (m c:Nat) (h:List Value) (hx:a.eval x=.slice (some T) m c) (hn:h.length=m*f)
  (hc:∀ j u,h[j]?=some u→w.cell? (T.add j)=some u) (U:∀ u∈h,u.oneCell'=true) (b1:k+m≤maxLen) (b2:(k+m)*bytes≤140737488355328) (b3:E≤w.heap.size) (hm:0<m)
  (hK:∀ v' I,I.ownsRow E e f v' (k+m) (xs++h)→w.grownBy I v.ownBlock→(w.grownBy I none∨∃ g cap J,v=.slice (some ⟨g,0,none⟩) k cap∧k+m≤cap∧w.heap[g]?=some (.cells J e (0,0))∧J.size=cap*f)→wpListIn F n P S Q G (a.put o.dst v') I) :
  wpListIn F n P S Q (o::G) a w:=by
 refine wpListIn_plain hg fun K V=>?_
 obtain ⟨v',I,R,r1,r2,r3⟩:=l8 (P:=P) w E t o.type e i z f bytes h1 h2 h3 h4 h5 h6 h7 v k xs O T m c h hn hc U b1 b2 b3 hm;unfold Oper.wpIn;refine ⟨?_,?_⟩
 ·simp [Oper.about,H,resolve,Target.leads,Sem.run_pure]
 ·rw [Oper.semAt_plain F _ _ (by rw [H];intro c W;cases W)]
  simp [execOp,H,resolve,invoke,builtin,hs,hx,R,Result.andThen];exact V _ _ (hK v' I r1 r2 r3)
def da (W h:World):Prop:=W.heap.size≤h.heap.size∧∀ (B:Nat) (f:Array Value) (t:TypeId) (z:Nat × Nat),t≠115→(t=26→f.size=3)→W.heap[B]?=some (.cells f t z)→h.heap[B]?=some (.cells f t z)
theorem da.trans {A B C:World} (h:da A B) (k:da B C):da A C:=⟨Nat.le_trans h.1 k.1,fun i f t z o E hi=>k.2 i f t z o E (h.2 i f t z o E hi)⟩
theorem da.below {W f:World} (h:Below W W f):da W f:=⟨h.size,fun i o t z _ _ hi=>(h.block i (Array.getElem?_eq_some_iff.1 hi).1).trans hi⟩
theorem da.alloc (W:World) (o:Obj):da W (W.alloc o):=.below ((Below.refl _ _).alloc (Nat.le_refl _) _)
theorem da.turn {W E:World} {f:Option Nat} (F:W.grownBy E f) (I:∀ r,f=some r→∀ o t z,W.heap[r]?=some (.cells o t z)→t=115∨(t=26∧o.size≠3)):da W E:=
 ⟨F.size,fun i o t z G H hi=>(F.block i (Array.getElem?_eq_some_iff.1 hi).1 (fun e=>by rcases I i e.symm o t z hi with h | h;exact G h;exact h.2 (H h.1))).trans hi⟩
theorem gF (W:World) (l:Nat) (o E:Obj) (h:W.heap[l]?=some o) (F:o.isCells=false):da W (W.putObj l E):=
 .turn (grownBy_putObj' W l E) (fun r e G t z f=>by cases e;rw [h] at f;cases f;cases F)
theorem ap.bx {w o:World} {B:Nat} {f:Array Value} {t:TypeId} (h:ap w B f t) (G:da w o) (E:t≠115) (F:t=26→f.size=3):ap o B f t:=G.2 B f t (0,0) E F h
theorem ug {W F:World} {U B:Nat} {v v':Value} {k:Nat} {V:List Value} {o:Obj}
  (R:Boxed W B 115 v) (H:W.ownsRow U 26 3 v k V) (I:v=.slice none 0 0∨0<k)
  (f:(W.alloc o).grownBy F v.ownBlock) (J:(W.alloc o).grownBy F none∨∃ g cap E,v=.slice (some ⟨g,0,none⟩) k cap∧k+1≤cap∧(W.alloc o).heap[g]?=some (.cells E 26 (0,0))∧E.size=cap*3) :
  da W (F.setCell ⟨B,0,none⟩ v'):=by
 have O:Boxed F B 115 v:=(R.alloc o).kept f (R.not_row ag H);refine ((da.alloc W o).trans ?_).trans (.turn (grownBy_setCell' F B v') (fun r e S t z I=>?_))
 ·rcases J with h | ⟨g,cap,E,rfl,hc,T,hs⟩
  ·exact .turn h (fun r e=>by cases e)
  ·refine .turn f (fun r e S t z G=>?_)
   obtain rfl:g=r:=by simpa [Value.ownBlock] using e
   rw [T] at G;cases G;have:0<k:=by rcases I with h | h;cases h;exact h
   exact .inr ⟨rfl,by omega⟩
 ·cases e
  rw [show F.heap[B]?=_ from O] at I;cases I;exact .inl rfl
theorem m6 (m:Nat) (u v:Un) (w:World) :
  CallsIn Fence.wide m Tryz.prog 223 #[aC u,aC v] w fun e f =>
   e=.returned (.func (.func 236) #[] #[.pointer (some ⟨w,0,none⟩),.pointer (some ⟨w+1,0,none⟩)]) ∧
   f=(w.alloc (.cells #[u.lv,u.yr,u.ix] 26)).alloc (.cells #[v.lv,v.yr,v.ix] 26):=by
 refine callsIn_wide.2 ?_;simp only [aC];go_enter Tryz.func223,Tryz.ntmps223;go_wp2;go_ret;exact ⟨rfl,rfl⟩
abbrev Wk (u:Un) (n:Nat):Type:={x:Un // ∃ j:Nat,j<n∧x=⟨u.lv,u.yr,u.ix+(j:Int)⟩}
def AG {u:Un} {n:Nat} (x:Wk u n):Array Value:=#[aC x.1]
def cN {u:Un} {n:Nat} (f:List (Wk u n)):List Un:=f.map Subtype.val
theorem dP {u:Un} {n:Nat} (f:List (Wk u n)) (x:Wk u n):cN (f++[x])=cN f++[x.1]:=by simp [cN]
theorem kB {u:Un} {n:Nat} (f:List (Wk u n)):(cN f).length=f.length:=by simp [cN]
def IY (v:Value) (w:World):Int:=match v with | .pointer (some a)=>intOf ((w.cell? ⟨a.block,2,none⟩).getD (.int .i64 0)) | _=>0
theorem zG {w:World} {B:Nat} {a b:Value} {i:Int} {f:TypeId} (h:ap w B #[a,b,i] f):IY (.pointer (some ⟨B,0,none⟩)) w=i:=by simp [IY,h.cell 2,intOf]
theorem jb (u v:Un) (n:Nat) (hn:n=(v.ix+1-u.ix).toNat) (hb:-1000≤u.ix∧v.ix≤1000) (I U:Nat) (w:World)
  (g1:ap w I #[u.lv,u.yr,u.ix] 26) (g2:ap w U #[v.lv,v.yr,v.ix] 26) :
  SeqStopsK Fence.wide 4 Tryz.prog 236 #[.pointer (some ⟨I,0,none⟩),.pointer (some ⟨U,0,none⟩)] (AG (u:=u) (n:=n)) da (fun G=>cN G=ij u n) (fun _=>True) n w:=fun l J Jx W hW hJ aA hY h0=>by
 have G1:=hide (g1.call hW);have G2:=hide (g2.call hW);have HY:=hide hY;have a0:W.cell? ⟨I,0,none⟩=some (.int .i64 u.lv):=(G1.out).cell 0;have a1:W.cell? ⟨I,1,none⟩=some (.int .i64 u.yr):=(G1.out).cell 1;have a2:W.cell? ⟨I,2,none⟩=some (.int .i64 u.ix):=(G1.out).cell 2;clear hY;refine callsIn_of_wp Tryz.func236 rfl trivial ?_ rfl;simp only [Tryz.ntmps236,List.size_toArray,List.length_cons,List.length_nil,Nat.reduceAdd,Nat.reduceSub,Array.replicate_succ,Array.replicate_zero,List.push_toArray,List.append_toArray,List.nil_append,List.cons_append]
 gi_wp2_with fail
 have ad:=hide (hJ _ _ _ none h0 (World.grownBy_alloc W (.cells #[u.lv,u.yr,u.ix] 26) none) (by intro r e;cases e))
 gi_loopw [4] (fun s wr=>∃ (j f:Nat) (G:List (Wk u n)),j≤n∧s=.pointer (some ⟨f,0,none⟩)∧Hid (cN G=ij u j)∧Hid (J G wr)∧ap wr f #[u.lv,u.yr,.int .i64 (u.ix+j)] 26∧ap wr U #[v.lv,v.yr,v.ix] 26)
  (fun s wr=>(v.ix+1-IY s wr).toNat)
 case atStart=>exact ⟨0,_,[],Nat.zero_le _,rfl,hide (by simp [cN,ij,bm]),ad,by simpa using ap.new W _ _,G2.out.alloc _⟩
 case round =>
  obtain ⟨j,f,G,hj,rfl,HX,R,S,b2⟩:=hrel;have x0:wr.cell? ⟨f,0,none⟩=some (.int .i64 u.lv):=S.cell 0;have x1:wr.cell? ⟨f,1,none⟩=some (.int .i64 u.yr):=S.cell 1;have x2:wr.cell? ⟨f,2,none⟩=some (.int .i64 (u.ix+j)):=S.cell 2;have y2:wr.cell? ⟨U,2,none⟩=some (.int .i64 v.ix):=b2.cell 2;by_cases F:j<n
  ·obtain ⟨fn,ay,V,aq,hy,hR⟩:=HY.out G ⟨⟨u.lv,u.yr,u.ix+(j:Int)⟩,j,F,rfl⟩ wr R.out (by rw [← kB,HX.out,jV];exact F)
   simp only [AG,aC] at hy;have O:=hide S;have ab:=hide b2;have al:decide (u.ix+(j:Int)≤v.ix)=true:=ae
   gi_wp2
   refine hR.mono ?_;rintro e H (⟨rfl,T,E⟩ | ⟨rfl,h⟩)
   ·have o:=hide T
    have c1:=O.out.bx E ag (fun _=>rfl);have C2:=hide (ab.out.bx E ag (fun _=>rfl));have z0:H.cell? ⟨f,0,none⟩=some (.int .i64 u.lv):=c1.cell 0;have z1:H.cell? ⟨f,1,none⟩=some (.int .i64 u.yr):=c1.cell 1;have z2:H.cell? ⟨f,2,none⟩=some (.int .i64 (u.ix+j)):=c1.cell 2;clear T E c1 x0 x1 x2 y2 S b2
    gi_wp2
    go_roundw
    case rel=>exact ⟨j+1,H.heap.size,G++[⟨⟨u.lv,u.yr,u.ix+(j:Int)⟩,j,F,rfl⟩],by omega,rfl,hide (by rw [qC,← HX.out,dP]),hide (hJ _ _ _ none o.out (World.grownBy_alloc _ _ none) (by intro r e;cases e)),by rw [show u.ix+((j+1:Nat):Int)=u.ix+j+1 by omega];exact ap.new H _ _,C2.out.alloc _⟩
    case measure =>
     rw [zG (ap.new H _ _),zG O.out];omega
   ·have o:=hide h
    clear h
    gi_wp2
    refine bodyPost_ret (results_none rfl _ _ _) rfl ?_;exact ⟨⟨_,rfl⟩,.inr ⟨_,trivial,o.out⟩⟩
  ·have ah:j=n:=om
   subst ah;have al:decide (u.ix+(j:Int)≤v.ix)=false:=ae
   gi_wp2
   go_end0;exact ⟨⟨_,rfl⟩,.inl ⟨_,HX.out,R.out⟩⟩
end
section
open Go.RowKit Qd
def nz (c:ar) (t n:Int):Un:=if n<1 then ⟨5,t-1,n+aL c (t-1)⟩ else if n≤aL c t then ⟨5,t,n⟩ else ⟨5,t+1,n-aL c t⟩
theorem dW {c:ar} {t:Int} (o:c.okB=true) (E:c.kind≠6) (h:dp c t) (z:Int) (R:t-1≤z) (S:z≤t+1):dA c z=0∧aO c z 1601=0∧(aL c z=52∨aL c z=53)∧bP c z=7*aL c z:=by
 have F:c.Ok:=by simpa [ar.okB] using o
 obtain ⟨_,_,J,O,_⟩:=dR o;obtain ⟨H,I⟩:=h;have G:aO c z 1601=0:=ja F om om;have f:dA c z=0:=by simp [dA,fZ,o,E,G]
 exact ⟨f,G,(gj f).2.2.2.2.2.1,(gj f).2.2.2.2.2.2⟩
theorem m8 {f:Array Value} {W:World} {B:Nat} {o E F e:Int} (J:f[6]?=some (.pointer (some ⟨B,0,none⟩))) (O:f[7]?=some (.int .i64 e))
  (h:ap W B #[o,E,F] 26) :
  (results Tryz.f225 f).run Tryz.prog W=.ok (.tuple #[.agg #[o,E,F],e]) W:=by
 have G:=h.cell 0;have H:=h.cell 1;have I:=h.cell 2;simp at G H I;simp [results,Tryz.results225,go_sem,J,O,G,H,I]
def rl (c:ar) (B:Nat) (f w:World):Prop:=ap w B (bY c) 24∧ap w (B+1) #[.int .i64 0,.int .i64 0,.int .i64 0] 26∧Below B f w
theorem rl.call {c:ar} {B:Nat} {E w o:World} (h:rl c B E w) (f:Below w w o):rl c B E o:=⟨h.1.call f,h.2.1.call f,h.2.2.trans (f.mono (Nat.le_of_lt h.1.lt))⟩
theorem rl.set {c:ar} {B:Nat} {f w:World} (h:rl c B f w) (x y z:Value):ap (((w.setCell ⟨B+1,0,none⟩ x).setCell ⟨B+1,1,none⟩ y).setCell ⟨B+1,2,none⟩ z) (B+1) #[x,y,z] 26∧Below B f (((w.setCell ⟨B+1,0,none⟩ x).setCell ⟨B+1,1,none⟩ y).setCell ⟨B+1,2,none⟩ z):=
 ⟨h.2.1.set123 x y z,((h.2.2.setCell ac _).setCell ac _).setCell ac _⟩
theorem rl.unx {c:ar} {B:Nat} {f w:World} (h:rl c B f w):(w.cell? ⟨B+1,0,none⟩=some (.int .i64 0)∧w.cell? ⟨B+1,1,none⟩=some (.int .i64 0)∧w.cell? ⟨B+1,2,none⟩=some (.int .i64 0))∧w.frozen? ⟨B+1,0,none⟩=false∧w.frozen? ⟨B+1,1,none⟩=false∧w.frozen? ⟨B+1,2,none⟩=false:=
 ⟨⟨h.2.1.cell 0,h.2.1.cell 1,h.2.1.cell 2⟩,by simp [World.frozen?,show w.heap[B+1]?=_ from h.2.1],by simp [World.frozen?,show w.heap[B+1]?=_ from h.2.1],by simp [World.frozen?,show w.heap[B+1]?=_ from h.2.1]⟩
theorem xG (c:ar) (t n:Int) (w:World) (W:c.name.size≤1000) (V:c.okB=true) (G:c.kind≠6) (I:dp c t) (hb:-40≤n∧n≤100) :
    Calls Tryz.prog 225 #[av c,t,n] w fun e w'=>e=.returned (.tuple #[aC (nz c t n),.int .i64 0])∧Below w w w':=by
  have a2:1602≤t∧t≤9996:=by
    obtain ⟨_,_,b1,b2,_⟩:=dR V;have U:=I.1;have h2:=I.2;omega
  have n0:=dW V G I t om om;have n1:=dW V G I (t-1) om om;have n2:=dW V G I (t+1) om om;have J:=hide n0.1;have O:=hide n1.1;have aq:=hide n2.1;have a3:=n0.2.2.1;have a4:=n1.2.2.1;have a5:=n2.2.2.1;clear n0 n1 n2 I V G;simp only [av];go_enter Tryz.func225,Tryz.ntmps225;go_wp2_with fail;have P0:=hide (show rl c w.heap.size w ((w.alloc (.cells (bY c) 24)).alloc (.cells #[.int .i64 0,.int .i64 0,.int .i64 0] 26)) from ⟨(ap.new w _ _).alloc _,by simpa using ap.new (w.alloc (.cells (bY c) 24)) #[.int .i64 0,.int .i64 0,.int .i64 0] 26,by (repeat' exact bel)⟩);go_loopw [1,2] (fun s1 s2 wr=>∃ T N:Int,s1=.int .i64 T∧s2=.int .i64 N∧Hid ((T=t∧N=n)∨(n<1∧T=t-1∧N=n+aL c (t-1)))∧rl c w.heap.size w wr) (fun _ s2 _=>(1-intOf s2).toNat)
  case atStart=>exact ⟨t,n,rfl,rfl,hide (.inl ⟨rfl,rfl⟩),P0.out⟩
  case round =>
    obtain ⟨T,N,rfl,rfl,aA,hP⟩:=hrel;have HP:=hide hP;obtain ⟨q0,q1,q2,q3,q4,q5,q6,q7,q8,q9,ab,ad,ah,al⟩:=HP.out.1.cal;have a1:=aA.out;by_cases hN:N<1
    · have h2:T=t∧N=n:=om
      obtain ⟨rfl,rfl⟩:=h2;go_wp2_with fail;refine (du c _ _ W).mono ?_;rintro e w1 ⟨rfl,f⟩;rw [O.out];have ay:=hide (HP.out.call f);clear f;go_wp2
      all_goals first
        | (exfalso;omega)
        | exact ⟨⟨_,_,rfl,rfl,hide (.inr ⟨hN,rfl,rfl⟩),ay.out⟩,by simp [intOf];omega⟩
    · have a0:¬ N<1:=hN
      go_wp2_with fail;go_loopw [1,2] (fun s1 s2 wr=>∃ E o:Int,s1=.int .i64 E∧s2=.int .i64 o∧Hid ((E=T∧o=N)∨(1≤n∧aL c t<n∧E=t+1∧o=n-aL c t))∧rl c w.heap.size w wr) (fun _ s2 _=>(intOf s2).toNat)
      case atStart=>exact ⟨T,N,rfl,rfl,hide (.inl ⟨rfl,rfl⟩),HP.out⟩
      case round =>
        obtain ⟨E,o,rfl,rfl,R,aB⟩:=hrel;have F:=hide aB;clear q0 q1 q2 q3 q4 q5 q6 q7 q8 q9 ab ad ah al;obtain ⟨q0,q1,q2,q3,q4,q5,q6,q7,q8,q9,ab,ad,ah,al⟩:=F.out.1.cal;have aF:=R.out;rcases (show (E=t∧o=n∧1≤n)∨(n<1∧E=t-1∧o=n+aL c (t-1))∨(1≤n∧aL c t<n∧E=t+1∧o=n-aL c t) by omega) with ⟨rfl,rfl,U⟩ | ⟨U,rfl,rfl⟩ | ⟨U,h2,rfl,rfl⟩
        · by_cases H:o≤aL c E
          · have S:=hide (show nz c E o=⟨5,E,o⟩ by rw [nz,if_neg om,if_pos H])
            go_wp2_with fail;refine (du c _ _ W).mono ?_;rintro e w1 ⟨rfl,f⟩;rw [J.out];have h:=hide (F.out.call f);clear f;obtain ⟨⟨k0,k1,k2⟩,k3,k4,k5⟩:=h.out.unx;go_wp2;rw [S.out];obtain ⟨s1,s2⟩:=h.out.set (.int .i64 5) (.int .i64 E) (.int .i64 o);exact bodyPost_ret (v:=.tuple #[.agg #[.int .i64 5,E,o],.int .i64 0]) (m8 rfl rfl s1) rfl ⟨rfl,s2⟩
          · go_wp2_with fail
            refine (du c _ _ W).mono ?_;rintro e w1 ⟨rfl,f⟩;rw [J.out];have h:=hide (F.out.call f);clear f;go_wp2
            all_goals first
              | (exfalso;omega)
              | exact ⟨⟨_,_,rfl,rfl,hide (.inr ⟨U,by omega,rfl,rfl⟩),h.out⟩,by simp [intOf];omega⟩
        · have S:=hide (show nz c t n=⟨5,t-1,n+aL c (t-1)⟩ by rw [nz,if_pos U])
          have H:n+aL c (t-1)≤aL c (t-1):=om;go_wp2_with fail;refine (du c _ _ W).mono ?_;rintro e w1 ⟨rfl,f⟩;rw [O.out];have h:=hide (F.out.call f);clear f;obtain ⟨⟨k0,k1,k2⟩,k3,k4,k5⟩:=h.out.unx;go_wp2
          all_goals first
            | (exfalso;omega)
            | (rw [S.out]
               obtain ⟨s1,s2⟩:=h.out.set (.int .i64 5) (.int .i64 (t-1)) (.int .i64 (n+aL c (t-1)));exact bodyPost_ret (v:=.tuple #[.agg #[.int .i64 5,.int .i64 (t-1),.int .i64 (n+aL c (t-1))],.int .i64 0]) (m8 rfl rfl s1) rfl ⟨rfl,s2⟩)
        · have S:=hide (show nz c t n=⟨5,t+1,n-aL c t⟩ by rw [nz,if_neg om,if_neg om])
          have H:n-aL c t≤aL c (t+1):=om;go_wp2_with fail;refine (du c _ _ W).mono ?_;rintro e w1 ⟨rfl,f⟩;rw [aq.out];have h:=hide (F.out.call f);clear f;obtain ⟨⟨k0,k1,k2⟩,k3,k4,k5⟩:=h.out.unx;go_wp2
          all_goals first
            | (exfalso;omega)
            | (rw [S.out]
               obtain ⟨s1,s2⟩:=h.out.set (.int .i64 5) (.int .i64 (t+1)) (.int .i64 (n-aL c t));exact bodyPost_ret (v:=.tuple #[.agg #[.int .i64 5,.int .i64 (t+1),.int .i64 (n-aL c t)],.int .i64 0]) (m8 rfl rfl s1) rfl ⟨rfl,s2⟩)
def cZ (c:ar) (y t:Int) (l:List Un):List Un:=l.flatMap fun x=>if eI c y t x.ix=0 then [nz c t (fP c y t x.ix)] else []
theorem rO (c:ar) (y t:Int) (l:List Un) (x:Un):cZ c y t (l++[x])=cZ c y t l++(if eI c y t x.ix=0 then [nz c t (fP c y t x.ix)] else []):=by simp [cZ]
theorem gL {c:ar} {y t:Int} (l:List Un) {x:Un} (h:eI c y t x.ix=0):cZ c y t (l++[x])=cZ c y t l++[nz c t (fP c y t x.ix)]:=by rw [rO,if_pos h]
theorem ti {c:ar} {y t:Int} (l:List Un) {x:Un} (h:¬ eI c y t x.ix=0):cZ c y t (l++[x])=cZ c y t l:=by rw [rO,if_neg h,List.append_nil]
theorem sU (c:ar) (y t:Int) (l:List Un):(cZ c y t l).length≤l.length:=by
 induction l with
 | nil=>simp [cZ]
 | cons a l f =>
  have e:cZ c y t (a::l)=(if eI c y t a.ix=0 then [nz c t (fP c y t a.ix)] else [])++cZ c y t l:=by simp [cZ]
  rw [e,List.length_append,List.length_cons]
  split <;> simp <;> omega
def dS (c:ar) (u:Un):List Un:=ij ⟨5,u.yr,(aT c u:Int)+1⟩ (bF c u-aT c u)
theorem KJ (c:ar) (y:Int) (f:aO c y 1601=0) (i:Nat) (hi:i<bW c y):gJ c y 5 i=i:=uH c y f 5 om om i i (by rw [qD];exact hi) (by simp [aW]) (by simp [aW])
theorem tp {c:ar} {u:Un} (h:aE c u=0):qP c u 5=0∧CW c u 5=⟨5,u.yr,(aT c u:Int)+1⟩∧CQ c u 5=⟨5,u.yr,(bF c u:Int)⟩:=by
 obtain ⟨F,G,E,f,_,_⟩:=bN h;have o:=dz h;have e:qP c u 5=0:=by simp [qP,h,E]
 refine ⟨e,?_,?_⟩
 ·rw [CW,if_pos e,KJ c u.yr f _ om]
 ·rw [CQ,if_pos e,KJ c u.yr f _ om]
  congr 1;omega
theorem EG {c:ar} {y t x:Int} (o:c.okB=true) (f:c.kind≠6) (G:dp c y) (E:dp c t) (F:1≤x∧x≤aL c y):eI c y t x=0∨eI c y t x=12:=by
 rcases uO o f G E F with h | h | ⟨_,h | h⟩
 ·exact .inl h.2.1
 ·exact .inl h.2.1
 ·exact .inr h.2.2.1
 ·exact .inl h.2.1
theorem li {c:ar} {z:Int} (o:c.okB=true) (f:c.kind≠6) (E:dp c z):(bW c z:Int)=aL c z:=by
 obtain ⟨_,h,_,F⟩:=dW o f E z om om;have:=Fe c z h f;omega
def kZ (c:ar) (t n:Int) (m:Nat):List Un:=bm (fun j:Nat=>nz c t (n+(j:Int))) m
theorem mA (c:ar) (t n:Int) (m:Nat):(kZ c t n m).length=m:=bk _ _
theorem sI (c:ar) (y t:Int) (f h:List Un):cZ c y t (f++h)=cZ c y t f++cZ c y t h:=by simp [cZ]
theorem mX {c:ar} {y t:Int} (x s:Int) (m:Nat) (h:∀ j:Nat,j<m→eI c y t (x+j)=0∧fP c y t (x+j)=x+j+s):cZ c y t (ij ⟨5,y,x⟩ m)=kZ c t (x+s) m:=by
 induction m with
 | zero=>simp [ij,kZ,bm,cZ]
 | succ m o =>
  have f:=qC ⟨5,y,x⟩ m;simp only at f;rw [f,gL _ (x:=⟨5,y,x+m⟩) (h m om).1,o (fun j E=>h j om)];simp only [kZ,bB];rw [(h m om).2,show x+m+s=x+s+m by omega]
theorem DW {c:ar} {y t x:Int} (h:¬ eI c y t x=0):cZ c y t (ij ⟨5,y,x⟩ 1)=[]:=by
 simp [ij,bm,cZ,h]
theorem yl (y x:Int) (m n:Nat):ij ⟨5,y,x⟩ (m+n)=ij ⟨5,y,x⟩ m++ij ⟨5,y,x+m⟩ n:=Gv _ _ _
theorem BZ {c:ar} {u:Un} {t:Int} (hU:aE c u=0) (F:c.kind≠6) (ht:dp c t) :
  (∃ s:Int,-1≤s∧s≤1∧(∀ x:Int,(aT c u:Int)<x→x≤bF c u→eI c u.yr t x=0∧fP c u.yr t x=x+s)∧cZ c u.yr t (dS c u)=kZ c t ((aT c u:Int)+1+s) (bF c u-aT c u)∧¬ (c.policy=3∧aL c u.yr=53∧aL c t=52∧(aT c u:Int)<aD c u.yr∧aD c u.yr≤bF c u)) ∨
  (∃ a:Int,(aT c u:Int)<a∧a≤bF c u∧c.policy=3∧aL c u.yr=53∧aL c t=52∧a=aD c u.yr∧eI c u.yr t a=12∧(∀ x:Int,(aT c u:Int)<x→x≤bF c u→x≠a→eI c u.yr t x=0∧fP c u.yr t x=if x<a then x else x-1)∧cZ c u.yr t (dS c u)=kZ c t ((aT c u:Int)+1) (bF c u-aT c u-1)) ∨
  (∃ a:Int,(aT c u:Int)+1<a∧a≤bF c u∧c.policy=3∧aL c u.yr=52∧aL c t=53∧a=aD c t∧(∀ x:Int,(aT c u:Int)<x→x≤bF c u→eI c u.yr t x=0∧fP c u.yr t x=if x<a then x else x+1)∧cZ c u.yr t (dS c u)=kZ c t ((aT c u:Int)+1) (a-1-aT c u).toNat++kZ c t (a+1) (bF c u-a+1).toNat):=by
 obtain ⟨hf,l1,l5,hA,_,_⟩:=bN hU;obtain ⟨ay,I,_,_,ad,ah,_⟩:=a9 hf;have U:dp c u.yr:=⟨ad,ah⟩;have al:=dz hU;have aA:=li I F U;have H:=fun x (o:(aT c u:Int)<x) (E:x≤bF c u)=>Ga I F U ht (x:=x) ⟨by omega,by omega⟩
 have ew:(⟨5,u.yr,(aT c u:Int)+1⟩:Un)=⟨5,u.yr,(aT c u:Int)+1⟩:=rfl;obtain ⟨_,_,_,_,aF,a0⟩:=(tR I F U);have a1:=(tR I F U).2.2;have aB:=(tR I F ht).2.2;have W:=ss I F U ht
 have G:∀ s:Int,-1≤s→s≤1→(∀ x:Int,(aT c u:Int)<x→x≤bF c u→eI c u.yr t x=0∧fP c u.yr t x=x+s)→cZ c u.yr t (dS c u)=kZ c t ((aT c u:Int)+1+s) (bF c u-aT c u):=fun s _ _ h =>
  mX _ _ _ fun j V=>h _ om om
 generalize O:aT c u=A at *;generalize R:bF c u=B at *;by_cases S:c.policy=1
 ·left
  have f:∀ x:Int,(A:Int)<x→x≤B→eI c u.yr t x=0∧fP c u.yr t x=x+0:=fun x o E=>by
   rcases H x o E with h | h | h | h | h | h <;> first | (exfalso;omega) | exact ⟨h.1,by omega⟩
  exact ⟨0,by omega,by omega,f,G 0 om om f,by omega⟩
 ·by_cases ab:c.policy=2
  ·left
   have f:∀ x:Int,(A:Int)<x→x≤B→eI c u.yr t x=0∧fP c u.yr t x=x+(aL c t-aL c u.yr):=fun x o E=>by
    rcases H x o E with h | h | h | h | h | h <;> first | (exfalso;omega) | exact ⟨h.1,by omega⟩
   exact ⟨aL c t-aL c u.yr,by omega,by omega,f,G _ om om f,by omega⟩
  ·have T:c.policy=3:=by rcases tH I F with h | h | h <;> first | exact absurd h S | exact absurd h ab | exact h
   rcases W with ⟨e1,e2⟩ | ⟨g1,g2,g3,g4,g5⟩ | ⟨g1,g2,g3,g4,g5⟩
   ·left
    have f:∀ x:Int,(A:Int)<x→x≤B→eI c u.yr t x=0∧fP c u.yr t x=x+0:=fun x o E=>by
     rcases H x o E with h | h | h | h | h | h <;> first | (exfalso;omega) | exact ⟨h.1,by omega⟩
    exact ⟨0,by omega,by omega,f,G 0 om om f,by omega⟩
   ·
    by_cases ha:aD c t≤(A:Int)+1
    ·left
     have f:∀ x:Int,(A:Int)<x→x≤B→eI c u.yr t x=0∧fP c u.yr t x=x+1:=fun x o E=>by
      rcases H x o E with h | h | h | h | h | h <;> first | (exfalso;omega) | exact ⟨h.1,by omega⟩
     exact ⟨1,by omega,by omega,f,G 1 om om f,by omega⟩
    ·by_cases hb:(B:Int)<aD c t
     ·left
      have f:∀ x:Int,(A:Int)<x→x≤B→eI c u.yr t x=0∧fP c u.yr t x=x+0:=fun x o E=>by
       rcases H x o E with h | h | h | h | h | h <;> first | (exfalso;omega) | exact ⟨h.1,by omega⟩
      exact ⟨0,by omega,by omega,f,G 0 om om f,by omega⟩
     ·right;right
      have f:∀ x:Int,(A:Int)<x→x≤B→eI c u.yr t x=0∧fP c u.yr t x=if x<aD c t then x else x+1:=fun x o E=>by
       rcases H x o E with h | h | h | h | h | h <;> first | (exfalso;omega) | exact ⟨h.1,by split <;> omega⟩
      refine ⟨aD c t,by omega,by omega,T,g4,g5,rfl,f,?_⟩;obtain ⟨p,S⟩:∃ p:Nat,aD c t=(A:Int)+1+p:=⟨(aD c t-A-1).toNat,by omega⟩;have e:dS c u=ij ⟨5,u.yr,(A:Int)+1⟩ p++ij ⟨5,u.yr,(A:Int)+1+p⟩ (B-A-p):=by
       rw [← yl,dS,O,R];congr 1;omega
      rw [e,sI,mX _ 0 p (fun j V=>by have:=f ((A:Int)+1+j) om om;rw [if_pos om] at this;exact ⟨this.1,by omega⟩),mX _ 1 (B-A-p) (fun j V=>by have:=f ((A:Int)+1+p+j) om om;rw [if_neg om] at this;exact ⟨this.1,by omega⟩)];rw [S,show ((A:Int)+1+p-1-A).toNat=p by omega,show (B-((A:Int)+1+p)+1).toNat=B-A-p by omega,Int.add_zero]
   ·
    by_cases ha:aD c u.yr≤(A:Int)
    ·left
     have f:∀ x:Int,(A:Int)<x→x≤B→eI c u.yr t x=0∧fP c u.yr t x=x + -1:=fun x o E=>by
      rcases H x o E with h | h | h | h | h | h <;> first | (exfalso;omega) | exact ⟨h.1,by omega⟩
     exact ⟨-1,by omega,by omega,f,G (-1) om om f,by omega⟩
    ·by_cases hb:(B:Int)<aD c u.yr
     ·left
      have f:∀ x:Int,(A:Int)<x→x≤B→eI c u.yr t x=0∧fP c u.yr t x=x+0:=fun x o E=>by
       rcases H x o E with h | h | h | h | h | h <;> first | (exfalso;omega) | exact ⟨h.1,by omega⟩
      exact ⟨0,by omega,by omega,f,G 0 om om f,by omega⟩
     ·right;left
      have f:∀ x:Int,(A:Int)<x→x≤B→x≠aD c u.yr→eI c u.yr t x=0∧fP c u.yr t x=if x<aD c u.yr then x else x-1:=fun x o E aq=>by
       rcases H x o E with h | h | h | h | h | h <;> first | (exfalso;omega) | exact ⟨h.1,by split <;> omega⟩
      have J:eI c u.yr t (aD c u.yr)=12:=by
       rcases H (aD c u.yr) om om with h | h | h | h | h | h <;> first | (exfalso;omega) | exact h.1
      refine ⟨aD c u.yr,by omega,by omega,T,g4,g5,rfl,J,f,?_⟩;obtain ⟨p,S⟩:∃ p:Nat,aD c u.yr=(A:Int)+1+p:=⟨(aD c u.yr-A-1).toNat,by omega⟩;have e:dS c u=ij ⟨5,u.yr,(A:Int)+1⟩ p++(ij ⟨5,u.yr,(A:Int)+1+p⟩ 1++ij ⟨5,u.yr,(A:Int)+1+p+(1:Nat)⟩ (B-A-p-1)):=by
       rw [← yl,← yl,dS,O,R];congr 1;omega
      rw [e,sI,sI,mX _ 0 p (fun j V=>by have:=f ((A:Int)+1+j) om om om;rw [if_pos om] at this;exact ⟨this.1,by omega⟩),DW (by rw [← S,J];decide),mX _ (-1) (B-A-p-1) (fun j V=>by have:=f ((A:Int)+1+p+(1:Nat)+j) om om om;rw [if_neg om] at this;exact ⟨this.1,by omega⟩)];rw [List.nil_append,Int.add_zero,show B-A-1=p+(B-A-p-1) by omega,kZ,kZ,kZ,pf];congr 1;refine kk fun j _=>?_
      congr 1;omega
end
section
open Go.RowKit Go.Shelf Qd
attribute [local go_sem] Oper.semAt_some
def zH (w:World) (v:Value) (L:List Un):Prop:=(L=[]∧v=.slice none 0 0)∨∃ g cap,v=.slice (some ⟨g,0,none⟩) L.length cap∧0<L.length∧de w g cap L
theorem tc {w:World} {b:Nat} {v:Value} {L:List Un} (h:w.ownsRow b 26 3 v L.length (eG L)) (f:v=.slice none 0 0↔L=[]):zH w v L:=by
 by_cases o:L=[]
 ·exact .inl ⟨o,f.2 o⟩
 ·have E:0<L.length:=List.length_pos_iff.2 o
  obtain ⟨g,cap,rfl,F⟩:=uT h E;exact .inr ⟨g,cap,rfl,E,h.base (Nat.zero_le _)⟩
def KE {u:Un} {n:Nat} (lo:Nat) (T:Wk u n→Nat→Act) (x:Wk u n) (h:Act) (W:World):Prop:=∃ f,lo<f∧ap W f #[x.1.lv,x.1.yr,x.1.ix] 26∧h=T x f
theorem oQ {u:Un} {n:Nat} (lo:Nat) (T:Wk u n→Nat→Act) (x:Wk u n) (h:Act) (B:Nat):OwnFrom B (fun (_:Unit) W=>KE lo T x h W):=fun _ X Y J I G H=>by
 obtain ⟨f,o,E,F⟩:=I;exact ⟨f,o,dV E G (fun r e=>(H r e).2),F⟩
theorem qb {W f:World} {B:Nat} {t:TypeId} {v:Value} (h:Boxed W B t v) (o:Below W W f):Boxed f B t v:=(o.block B h.lt).trans h
theorem rt {w I:World} {f o n:Nat} {e:TypeId} {v:Value} {J:List Value} (h:w.ownsRow f e o v n J) (T:Below w w I):I.ownsRow f e o v n J:=by
 refine ⟨h.1,?_⟩;rcases h.2 with O | ⟨G,E,F,U,R,H,S⟩
 ·exact .inl O
 ·exact .inr ⟨G,E,F,U,R,(T.block G (Array.getElem?_eq_some_iff.1 H).1).trans H,S⟩
theorem oc {W f:World} (h:Below W W f):KeepsOthers W f:=⟨h.size,fun k o E _=>(h.block k (Array.getElem?_eq_some_iff.1 E).1).trans E⟩
theorem xj (W:World) (o:Obj) (a b d:Value) (t:TypeId):∀ (j:Nat) (u:Value),[a,b,d][j]?=some u→((W.alloc o).alloc (.cells #[a,b,d] t)).cell? ((⟨W+1,0,none⟩:Addr).add j)=some u:=by
 have h:=iO (W.alloc o) a b d t;have e:(W.alloc o).heap.size=W.heap.size+1:=ac;rw [e] at h;exact h
end
end Go.Proofs.YtjhhmeoibfdcmaaGreat
