/- Lemmas. -/
import Derived.Maps.AppendAt
import Derived.Test.YtjhhmeoibfdcmaaGreatWr09
import Derived.Test.YtjhhmeoibfdcmaaGreatWr10
import Derived.Test.YtjhhmeoibfdcmaaGreatWr15
import Derived.Test.YtjhhmeoibfdcmaaGreatWr17
import Derived.Test.YtjhhmeoibfdcmaaGreatWr23
import Derived.Test.YtjhhmeoibfdcmaaGreatWr40
set_option linter.unusedSimpArgs false
set_option linter.unusedVariables false
set_option maxRecDepth 100000
set_option maxHeartbeats 12800000
namespace Go.Proofs.YtjhhmeoibfdcmaaGreat
section
open Go.RowKit Qd
def JH (a b c d e f:Int) (g:Bool) (h o E F G H:Int) (I:Bool):Bool:=tM a b c h o E&&(d==F&&(e==G&&(f==H&&g==I)))
theorem IC (n:Nat) (a b c d e f h o E F G H:Int) (g I:Bool) (w:World):(Op.equalIn (n+3) 69 (.agg #[a,b,c,d,e,f,.bool g]) (.agg #[h,o,E,F,G,H,.bool I])).run Tryz.prog w=.ok (JH a b c d e f g h o E F G H I) w:=by
 have T:=Tryz.underlying2;have J:=Tryz.isAgg2;have V:=Tryz.sizeOf2;have U:=Tryz.underlying4;have O:=Tryz.isAgg4;have W:=Tryz.sizeOf4;have R:=Tryz.isAgg26;have z5:=Tryz.sizeOf26;have S:=no n a b c h o E w;rw [run_equalIn_struct w _ _ _ _ (by simp [Program.fieldsOf,Tryz.underlying69]) (by kernel_rfl)];simp only [Program.fieldsOf,Tryz.underlying69];go_simp;simp only [JH,tM]
 repeat' split
 all_goals simp_all
@[go_sem high] theorem KS (a b c d e f h o E F G H:Int) (g I:Bool) (w:World):(binOp .eql 69 (.agg #[a,b,c,d,e,f,.bool g]) (.agg #[h,o,E,F,G,H,.bool I])).run Tryz.prog w=.ok (.bool (JH a b c d e f g h o E F G H I)) w:=by
 rw [run_eql_struct,IC 9997];rfl
theorem qm (a b c d e f:Int) (g:Bool):JH a b c d e f g a b c d e f g=true:=by simp [JH,tM]
def fL:ar:=⟨⟨#[120]⟩,3,6,1,1,1,4,5,4,0,12,2000,2030,1⟩
def l4:List Po:=[⟨(cd fL ⟨5,2022,1⟩).b,5⟩]
theorem KA:aE fL ⟨5,2022,1⟩=0:=by decide +kernel
theorem Kd:io fL ⟨5,2023,1⟩ (-1) l4 [] Z0=0:=by decide +kernel
theorem KH:(mM fL ⟨5,2023,1⟩ (-1) l4 [] Z0).u.lv=5∧(mM fL ⟨5,2023,1⟩ (-1) l4 [] Z0).u.yr=2023∧(mM fL ⟨5,2023,1⟩ (-1) l4 [] Z0).u.ix=1∧(mM fL ⟨5,2023,1⟩ (-1) l4 [] Z0).this=0∧(mM fL ⟨5,2023,1⟩ (-1) l4 [] Z0).that=5∧(mM fL ⟨5,2023,1⟩ (-1) l4 [] Z0).diff=-5∧(mM fL ⟨5,2023,1⟩ (-1) l4 [] Z0).gone=false:=by decide +kernel
theorem JR (c:ar) (P:List Po) (G:c.name.size≤1000) (F:P.length≤5000) (o:∀ p∈P,aX p.n):me c P [] (.slice none 0 0) Z0:=
 ⟨⟨F,by simp⟩,o,fun u E _=>⟨uY c u.yr none 0 G (nk E),fun _=>⟨fun x n h=>by simp [Z0] at h,by rw [show Z0.f u.yr=fun _=>[] from rfl,Dk];simp⟩⟩⟩
theorem qw (w:World):Calls Tryz.prog 35 #[] w fun e w'=>e=.returned (.bool true)∧Below w w w':=by
 have HB:=hide (JR fL l4 ag (by simp [l4]) (by intro p hp;simp [l4] at hp;subst hp;exact ⟨by decide,by decide⟩));have ab:=hide KA;obtain ⟨E,G⟩:∃ x,(cd fL ⟨5,2022,1⟩).b=x:=⟨_,rfl⟩;obtain ⟨sa,O⟩:∃ x,(cd fL ⟨5,2022,1⟩).a=x:=⟨_,rfl⟩;have H:=hide (And.intro O G);have ah:=hide (show l4=[⟨E,5⟩] by rw [l4,G]);clear G O;go_enter Tryz.func35,Tryz.ntmps35;go_wp2_with fail;refine (ls fL ⟨5,2022,1⟩ _ ag).mono ?_;rintro e o ⟨rfl,f⟩;rw [ab.out];simp only [bI];rw [H.out.1,H.out.2];have aA:w.heap.size<o.heap.size:=aj f;have ad:Hid (Below w w o):=ww f;have aq:=hide (aa f ac (au w fL));clear f;obtain ⟨q0,q1,q2,q3,q4,q5,q6,q7,q8,q9,R,S,T,U⟩:=aq.out;simp only [fL] at q0 q1 q2 q3 q4 q5 q6 q7 q8 q9 R S T U;go_wp2_with fail;obtain ⟨W,J⟩:∃ W:World,W=(((o.alloc (.cells #[sa,E] 45)).alloc (.cells #[.int .i64 5,.int .i64 2023,.int .i64 1] 26)).alloc (.cells #[E,.int .i64 5] 32)):=⟨_,rfl⟩;have al:=hide (show cL W (.slice (some ⟨o+1+1,0,none⟩) 1 1) l4 by
  have KP:ap W (o+1+1) #[E,.int .i64 5] 32:=by
   rw [J];have h:=ap.new ((o.alloc (.cells #[sa,E] 45)).alloc (.cells #[.int .i64 5,.int .i64 2023,.int .i64 1] 26)) #[E,.int .i64 5] 32;simpa using h
  rw [ah.out];refine ⟨_,_,rfl,fun i x V=>?_⟩
  match i,V with
  | 0,V=>simp at V;subst V;exact ⟨_,_,rfl,KP.lt,KP.cell 0,KP.cell 1⟩)
 have HW:=hide (show Below w w W by have I:=ad.out;rw [J];(repeat' exact bel));have KU:=hide (show ap W (o+1) #[.int .i64 5,.int .i64 2023,.int .i64 1] 26 by
  rw [J];have h:=(ap.new (o.alloc (.cells #[sa,E] 45)) #[.int .i64 5,.int .i64 2023,.int .i64 1] 26).alloc (.cells #[E,.int .i64 5] 32);simpa using h)
 rw [← J];clear J q0 q1 q2 q3 q4 q5 q6 q7 q8 q9 R S T U;have hV:=KH;refine (qj fL ⟨5,2023,1⟩ (-1) l4 [] Z0 (.slice (some ⟨o+1+1,0,none⟩) 1 1) (.slice none 0 0) W ag al.out (eo.nil _) HB.out).mono ?_;rintro e w2 ⟨rfl,F⟩;obtain ⟨v1,v2,v3,v4,v5,v6,v7⟩:=hV;simp only [kC,v1,v2,v3,v4,v5,v6,v7,Kd];obtain ⟨⟨a0,a1,a2⟩,a3⟩:=dw (KU.out.call F);have I:=HW.out.trans (F.mono HW.out.size);clear F v1 v2 v3 v4 v5 v6 v7;have ay:=qm 5 2023 1 0 5 (-5) false;go_wp2;go_ret;exact ⟨aY ac,by (repeat' exact bel)⟩
def ks (c:ar) (B f:Nat) (L:List Un) (v:Value) (h w:World):Prop:=
 aG w B c∧B<f∧f≤w.heap.size∧w.ownsRow f 26 3 v L.length (eG L)∧Below B h w
theorem ks.call {c:ar} {B o:Nat} {L:List Un} {v:Value} {F w E:World} (h:ks c B o L v F w) (f:Below w w E):ks c B o L v F E:=by
 obtain ⟨G,H,I,J,O⟩:=h;exact ⟨aa f om G,H,Nat.le_trans I f.size,fy J f,O.trans (f.mono om)⟩
theorem ks.grow {c:ar} {B E:Nat} {L:List Un} {x:Un} {v v':Value} {I W F:World} (h:ks c B E L v I W) (o:Obj)
  (U:F.ownsRow E 26 3 v' (L.length+1) (eG L++[.int .i64 x.lv,.int .i64 x.yr,.int .i64 x.ix])) (f:(W.alloc o).grownBy F v.ownBlock):ks c B E (L++[x]) v' I F∧Below E W F:=by
 obtain ⟨J,H,O,R,S⟩:=h;have G:Below E W F:=((Below.refl E W).alloc O o).grown f ae (fun k T=>by have:=(R.lt k T).1;omega);have V:W.heap.size≤F.heap.size:=by have:=f.size;simp at this;omega
 refine ⟨⟨aa G H J,H,by omega,?_,S.trans (G.mono om)⟩,G⟩;rw [gl];simpa using U
theorem ks.uns {c:ar} {B f:Nat} {L:List Un} {v:Value} {F w:World} (h:ks c B f L v F w) (o:0<L.length):∃ g cap,v=.slice (some ⟨g,0,none⟩) L.length cap∧f≤g∧de w g cap L:=by
 obtain ⟨g,cap,rfl,_,_,E⟩:=eg h.2.2.2.1 o;exact ⟨g,cap,rfl,E,pj h.2.2.2.1 (Nat.zero_le _)⟩
def FP (L:List Un) (w:World) (e:Ending) (f:World):Prop:=∃ g cap,e=.returned (.tuple #[.slice (some ⟨g,0,none⟩) L.length cap,.int .i64 0])∧de f g cap L∧Below w w f
noncomputable def Kc:Int:=(cd fL ⟨5,2023,7⟩).a
noncomputable def LD:List Po:=[⟨Kc,3⟩,⟨Kc,4⟩]
def A7 (S:Sp) (f:Value) (B h o:Nat) (E w:World):Prop:=aG w B fL∧B<w.heap.size∧ap w h #[S.a,S.b] 45∧ap w o #[f,.slice none 0 0] 30∧cL w f LD∧Below B E w
theorem A7.call {S:Sp} {F:Value} {B o E:Nat} {H w G:World} (h:A7 S F B o E H w) (f:Below w w G):A7 S F B o E H G:=
 ⟨aa f h.2.1 h.1,Nat.lt_of_lt_of_le h.2.1 f.size,h.2.2.1.call f,h.2.2.2.1.call f,h.2.2.2.2.1.call f,h.2.2.2.2.2.trans (f.mono (Nat.le_of_lt h.2.1))⟩
theorem A7.via {S:Sp} {E:Value} {B f o m:Nat} {G w W F:World} (h:A7 S E B f o G w) (J:Below m W F) (H:Below w w W:=by exact bel) (I:w.heap.size≤m:=by exact sz):A7 S E B f o G F:=h.call (H.trans (J.mono I))
theorem xS (a b:Int) (w:World) (o:aX a) (E:aX b):Calls Tryz.prog 78 #[a,b] w fun e U=>e=.returned (.tuple #[jN (a-b),jn (a-b)])∧w=U:=by
 by_cases f:aX (a-b)
 ·have G:=hide (cB f).1
  have F:=hide (cB f).2;unfold aX at o E f;obtain ⟨H,I⟩:=o;obtain ⟨J,O⟩:=E;obtain ⟨S,T⟩:=f;rcases (show b<0∨b=0∨0<b by omega) with h | h | h
  all_goals
   go_enter Tryz.func78,Tryz.ntmps78;go_wp2
   all_goals first
    | (exfalso;omega)
    | skip
   all_goals
    go_ret2;exact ⟨aw (by rw [G.out] <;> first | rfl | omega | exact IntWalk.i64_in _ om) F.out.symm,rfl⟩
 ·have G:=hide (jj f).1
  have F:=hide (jj f).2;unfold aX at o E f;obtain ⟨H,I⟩:=o;obtain ⟨J,O⟩:=E;rcases (show (b<0∧9223372036854775807+b<a)∨(0<b∧a < -9223372036854775808+b) by omega) with ⟨h,R⟩ | ⟨h,R⟩
  all_goals
   clear f;go_enter Tryz.func78,Tryz.ntmps78;go_wp2
   all_goals first
    | (exfalso;omega)
    | skip
   all_goals
    go_ret2;exact ⟨aw G.out.symm F.out.symm,rfl⟩
end
end Go.Proofs.YtjhhmeoibfdcmaaGreat
