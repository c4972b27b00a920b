/- Lemmas. -/
import Derived.Test.YtpebkobmhhnojaaGreatDoorTp02
import Derived.Test.YtpebkobmhhnojaaGreatDoorTp03
import Derived.Test.YtpebkobmhhnojaaGreatDoorTp05
import Derived.Test.YtpebkobmhhnojaaGreatDoorTp06
set_option linter.unusedSimpArgs false
set_option linter.unusedVariables false
set_option maxRecDepth 100000
set_option maxHeartbeats 12800000
namespace Go.Proofs.YtpebkobmhhnojaaGreatDoor
section
open Go.RowKit Qd
theorem Cg (c:aC) (w:World) (H:c.kind=3) :
  Calls Tryz.prog 33 #[aI c] w fun e w'=>e=.returned (.bool (decide c.ruled))∧Below w w w':=by
 obtain ⟨V,k,d,m,Y,sp,a,b,p,I,J,O,U,W⟩:=c;obtain rfl:k=3:=H;simp only [aI];go_enter Tryz.func33,Tryz.ntmps33;go_wp2_with fail;refine (ft _).mono ?_;rintro e E ⟨rfl,f⟩;obtain ⟨F,G⟩:=fc f;have o:w.heap.size<E.heap.size:=am f;have h:Below w w E:=by
  refine Below.trans ?_ (f.mono af)
  (repeat' exact bel)
 clear f;go_wp2;go_region
 all_goals go_wp2
 all_goals
  go_ret;refine ⟨bA ?_,by (repeat' exact bel)⟩;clear F G h o;simp_all [aC.ruled,aC.pat0]
 all_goals omega
theorem Bb (c:aC) (w:World) (H:c.kind=4) :
  Calls Tryz.prog 33 #[aI c] w fun e w'=>e=.returned (.bool (decide c.ruled))∧Below w w w':=by
 obtain ⟨V,k,d,m,Y,sp,a,b,p,I,J,O,U,W⟩:=c;obtain rfl:k=4:=H;simp only [aI];go_enter Tryz.func33,Tryz.ntmps33;go_wp2_with fail;refine (Bq _).mono ?_;rintro e E ⟨rfl,f⟩;obtain ⟨F,G⟩:=fc f;have o:w.heap.size<E.heap.size:=am f;have h:Below w w E:=by
  refine Below.trans ?_ (f.mono af)
  (repeat' exact bel)
 clear f;go_wp2;go_region
 all_goals go_wp2
 all_goals
  go_ret;refine ⟨bA ?_,by (repeat' exact bel)⟩;clear F G h o;simp_all [aC.ruled,aC.pat0]
 all_goals omega
theorem B9 (c:aC) (w:World) (I:(c.kind==3)=false) (J:(c.kind==4)=false) :
  Calls Tryz.prog 33 #[aI c] w fun e w'=>e=.returned (.bool (decide c.ruled))∧Below w w w':=by
 simp only [aI];cases O:(decide (1≤c.month∧c.month≤12))
 case false =>
  go_enter Tryz.func33,Tryz.ntmps33;go_wp2_with fail;refine (qx _ I J _).mono ?_;rintro e F ⟨rfl,f⟩;obtain ⟨G,H⟩:=fc f;have o:w.heap.size<F.heap.size:=am f;have h:Below w w F:=by
   refine Below.trans ?_ (f.mono af)
   (repeat' exact bel)
  clear f;go_wp2_with (first | (go_at_call 31;refine (cK _ _ _ _).mono ?_;rintro e w' ⟨rfl,rfl⟩));go_ret;refine ⟨bA ?_,by (repeat' exact bel)⟩;clear G H h o;simp_all [aC.ruled]
  try omega
 case true =>
  go_enter Tryz.func33,Tryz.ntmps33;go_wp2_with fail;refine (qx _ I J _).mono ?_;rintro e F ⟨rfl,f⟩;obtain ⟨G,H⟩:=fc f;have o:w.heap.size<F.heap.size:=am f;have h:Below w w F:=by
   refine Below.trans ?_ (f.mono af)
   (repeat' exact bel)
  clear f;go_wp2_with (first | (go_at_call 31;refine (cK _ _ _ _).mono ?_;rintro e w' ⟨rfl,rfl⟩) | (go_at_call 68;(with_reducible refine (Ca _ _ _ _ _ _ _ _ _ _ _ _ _ _ _).mono ?_);rintro e U ⟨rfl,E⟩))
  all_goals
   go_ret;refine ⟨bA ?_,by first | (repeat' exact bel) | (refine Below.trans ?_ (E.mono ag);(repeat' exact bel))⟩;clear G H h o
   try clear E
   simp_all [aC.ruled,aC.pat0,aC.weeks]
  all_goals grind
theorem xl (c:aC) (w:World) :
  Calls Tryz.prog 33 #[aI c] w fun e w'=>e=.returned (.bool (decide c.ruled))∧Below w w w':=by
 by_cases f:c.kind=3
 ·exact Cg c w f
 ·by_cases h:c.kind=4
  ·exact Bb c w h
  ·exact B9 c w (beq_eq_false_iff_ne.2 f) (beq_eq_false_iff_ne.2 h)
theorem Dd (F:ByteArray) (k d m H I a b p f h o E G:Int) (w:World) :
  Calls Tryz.prog 33 #[.agg #[.string F,k,d,m,H,I,a,b,p,f,h,o,E,G]] w
   fun e w'=>e=.returned (.bool (decide (aC.mk F k d m H I a b p f h o E G).ruled))∧Below w w w':=xl ⟨F,k,d,m,H,I,a,b,p,f,h,o,E,G⟩ w
def dI (c:aC):Int:=if c.okB then 0 else 1
theorem CF {c:aC} (h:c.Ok):dI c=0:=by unfold dI aC.okB;rw [decide_eq_true h];rfl
theorem E0 {c:aC} (h:¬ c.Ok):dI c=1:=by unfold dI aC.okB;rw [decide_eq_false h];rfl
theorem Cu (x y:Int):(x==y)=decide (x=y):=by by_cases h:x=y <;> simp [h]
theorem bg (c:aC) (w:World) (h:c.name.size≤1000) :
  Calls Tryz.prog 12 #[aI c] w fun e w'=>e=.returned (.int .i64 (dI c))∧Below w w w':=by
 obtain ⟨H,k,d,m,J,O,a,b,p,o,E,F,G,I⟩:=c;simp only [aI]
 dsimp only at h
 go_enter Tryz.func12,Tryz.ntmps12;go_wp2_with (first | (go_at_call 31;refine (cK _ _ _ _).mono ?_;rintro e w' ⟨rfl,rfl⟩) | (go_at_call 32;(with_reducible refine (ky _ _ h).mono ?_);rintro e w' ⟨rfl,rfl⟩) | (go_at_call 33;(with_reducible refine (Dd _ _ _ _ _ _ _ _ _ _ _ _ _ _ _).mono ?_);rintro e U ⟨rfl,f⟩))
 all_goals
  go_ret;refine ⟨bD ?_,by first | (repeat' exact bel) | (refine Below.trans ?_ (f.mono af);(repeat' exact bel))⟩
  try clear f
  first
   | refine (CF ?_).symm
   | refine (E0 ?_).symm
  simp only [aC.Ok,aC.served,aC.polic]
  try simp only [Cu] at *
 all_goals grind
theorem tJ (f:ByteArray) (k d m H I a b p h o E F G:Int) (w:World) (J:f.size≤1000) :
  Calls Tryz.prog 12 #[.agg #[.string f,k,d,m,H,I,a,b,p,h,o,E,F,G]] w
   fun e w'=>e=.returned (.int .i64 (dI (aC.mk f k d m H I a b p h o E F G)))∧Below w w w':=bg ⟨f,k,d,m,H,I,a,b,p,h,o,E,F,G⟩ w J
def eH (c:aC):Int:=if c.okB then dl c.shape c.cycle else 0
theorem lF (c:aC) (w:World) (G:c.name.size≤1000) :
  Calls Tryz.prog 13 #[aI c] w fun e w'=>e=.returned (.tuple #[eH c,dI c])∧Below w w w':=by
 simp only [aI];cases o:c.okB
 ·have h:dI c=1:=by simp [dI,o]
  have F:eH c=0:=by simp [eH,o]
  go_enter Tryz.func13,Tryz.ntmps13;go_wp2_with fail;refine (bg c _ G).mono ?_;rintro e H ⟨rfl,f⟩;rw [h];go_wp2;go_ret2;refine ⟨aW F.symm h.symm,?_⟩;refine Below.trans ?_ (f.mono af)
  (repeat' exact bel)
 ·have h:dI c=0:=by simp [dI,o]
  have F:eH c=dl c.shape c.cycle:=by simp [eH,o]
  go_enter Tryz.func13,Tryz.ntmps13;go_wp2_with fail;refine (bg c _ G).mono ?_;rintro e H ⟨rfl,f⟩;rw [h];obtain ⟨I,J⟩:=fc f;have E:Below w w H:=by
   refine Below.trans ?_ (f.mono af)
   (repeat' exact bel)
  clear f;go_wp2_with (first | (go_at_call 34;(with_reducible refine (fZ _ _ _).mono ?_);rintro e w' ⟨rfl,rfl⟩));go_ret2;exact ⟨aW F.symm h.symm,E⟩
theorem oq (m d y:Int) (w:World) :
  Calls Tryz.prog 299 #[.agg #[m,d],y] w fun e w'=>e=.returned (.tuple #[bU y m d,ik y m d])∧Below w w w':=by
 go_enter Tryz.func299,Tryz.ntmps299;go_wp2_with fail;refine (qR _ _ _ _).mono ?_;rintro e h ⟨rfl,f⟩;go_wp2;go_ret2;exact ⟨rfl,((Below.refl _ _).alloc (Nat.le_refl _) _).trans (f.mono af)⟩
theorem nK (m d y:Int) (w:World) :
  Calls Tryz.prog 301 #[.agg #[m,d],y] w fun e w'=>e=.returned (.tuple #[jx y m d,jy y m d])∧Below w w w':=by
 go_enter Tryz.func301,Tryz.ntmps301;go_wp2_with fail;refine (zH _ _ _ _).mono ?_;rintro e h ⟨rfl,f⟩;go_wp2;go_ret2;exact ⟨rfl,((Below.refl _ _).alloc (Nat.le_refl _) _).trans (f.mono af)⟩
def pA (y m:Int):Int:=if aL y m then bZ y m else 0
def pS (y m:Int):Int:=if aL y m then 0 else 4
theorem nr (m y:Int) (w:World) :
  Calls Tryz.prog 300 #[m,y] w fun e w'=>e=.returned (.tuple #[pA y m,pS y m])∧Below w w w':=by
 cases h:aL y m
 ·have J:gE y m=4:=by simp [gE,h]
  have F:=hide (show pA y m=0 by simp [pA,h]);have G:=hide (show pS y m=4 by simp [pS,h]);go_enter Tryz.func300,Tryz.ntmps300;go_wp2_with fail;refine (ct _ _ _).mono ?_;rintro e U ⟨rfl,f⟩;rw [J];go_wp2;go_ret2;exact ⟨aW F.out.symm G.out.symm,f⟩
 ·have J:gE y m=0:=by simp [gE,h]
  have I:=i7 y m h;have o:dA y m (cM y m)=0:=by simp [dA,I]
  have E:kD y m (cM y m)=bZ y m:=by simp [kD,I,bZ]
  have F:=hide (show pA y m=bZ y m by simp [pA,h]);have G:=hide (show pS y m=0 by simp [pS,h]);have O:=hide (And.intro o E);clear o E I;go_enter Tryz.func300,Tryz.ntmps300;go_wp2_with fail;refine (ct _ _ _).mono ?_;rintro e U ⟨rfl,f⟩;rw [J];go_wp2_with fail;refine (jn _ _ _ _).mono ?_;rintro e V ⟨rfl,H⟩;rw [O.out.1,O.out.2];go_wp2;go_ret2;exact ⟨aW F.out.symm G.out.symm,f.trans (H.mono f.size)⟩
def gi (k m d:Int):Value:=
 if k=1∨k=4 then .iface 236 (.agg #[m,d]) else if k=6 then .iface 237 (.int .i64 m) else .iface 238 (.agg #[m,d])
theorem gZ (c:aC) (w:World) :
  Calls Tryz.prog 86 #[aI c] w fun e w'=>e=.returned (gi c.kind c.month c.day)∧Below w w w':=by
 simp only [aI];go_enter Tryz.func86,Tryz.ntmps86;go_wp2
 all_goals
  go_ret;refine ⟨?_,by (repeat' exact bel)⟩;simp_all [gi]
def aP (c:aC) (y a:Int):Int:=if c.okB then (if a≤y∧y≤9997 then 0 else 11) else 1
theorem dZ (c:aC) (y a:Int) (w:World) (E:c.name.size≤1000) :
  Calls Tryz.prog 85 #[aI c,y,a] w fun e w'=>e=.returned (.int .i64 (aP c y a))∧Below w w w':=by
 simp only [aI];cases h:c.okB
 ·have o:dI c=1:=by simp [dI,h]
  have F:=hide (show aP c y a=1 by simp [aP,h]);go_enter Tryz.func85,Tryz.ntmps85;go_wp2_with fail;refine (bg c _ E).mono ?_;rintro e G ⟨rfl,f⟩;rw [o];go_wp2;go_ret;exact ⟨bD F.out.symm,((Below.refl _ _).alloc (Nat.le_refl _) _).trans (f.mono af)⟩
 ·have o:dI c=0:=by simp [dI,h]
  go_enter Tryz.func85,Tryz.ntmps85;go_wp2_with fail;refine (bg c _ E).mono ?_;rintro e G ⟨rfl,f⟩;rw [o];go_wp2
  all_goals
   go_ret;refine ⟨bD ?_,((Below.refl _ _).alloc (Nat.le_refl _) _).trans (f.mono af)⟩;clear f;simp only [aP,h]
   grind
abbrev bR (w:World) (B:Nat) (c:aC):Prop:=
 w.cell? ⟨B,0,none⟩=some (.string c.name)∧w.cell? ⟨B,1,none⟩=some (.int .i64 c.kind)∧w.cell? ⟨B,2,none⟩=some (.int .i64 c.day)∧w.cell? ⟨B,3,none⟩=some (.int .i64 c.month) ∧
 w.cell? ⟨B,4,none⟩=some (.int .i64 c.shift)∧w.cell? ⟨B,5,none⟩=some (.int .i64 c.shape)∧w.cell? ⟨B,6,none⟩=some (.int .i64 c.p0)∧w.cell? ⟨B,7,none⟩=some (.int .i64 c.p1) ∧
 w.cell? ⟨B,8,none⟩=some (.int .i64 c.p2)∧w.cell? ⟨B,9,none⟩=some (.int .i64 c.cycle)∧w.cell? ⟨B,10,none⟩=some (.int .i64 c.extra)∧w.cell? ⟨B,11,none⟩=some (.int .i64 c.first) ∧
 w.cell? ⟨B,12,none⟩=some (.int .i64 c.last)∧w.cell? ⟨B,13,none⟩=some (.int .i64 c.policy)
abbrev df (c:aC):Obj:=.cells #[.string c.name,c.kind,c.day,c.month,c.shift,c.shape,c.p0,c.p1,c.p2,c.cycle,c.extra,c.first,c.last,c.policy] 24
theorem be (w:World) (c:aC):bR (w.alloc (df c)) w.heap.size c:=by
 refine ⟨?_,?_,?_,?_,?_,?_,?_,?_,?_,?_,?_,?_,?_,?_⟩ <;> simp
theorem mr {W H:World} {B:Nat} {c:aC} (h:∀ o,H.cell? ⟨B,o,none⟩=W.cell? ⟨B,o,none⟩) (Q:bR W B c):bR H B c:=by
 obtain ⟨I,J,O,U,V,Y,q6,q7,q8,q9,f,E,F,G⟩:=Q;exact ⟨(h 0).trans I,(h 1).trans J,(h 2).trans O,(h 3).trans U,(h 4).trans V,(h 5).trans Y,(h 6).trans q6,(h 7).trans q7,(h 8).trans q8,(h 9).trans q9,(h 10).trans f,(h 11).trans E,(h 12).trans F,(h 13).trans G⟩
theorem az {W f:World} {B K:Nat} {c:aC} (E:Below K W f) (h:B<K) (Q:bR W B c):bR f B c:=
 mr (fun o=>E.cell (p:=⟨B,o,none⟩) h) Q
theorem bG {W:World} {B:Nat} {c:aC} (Q:bR W B c) (f:B<W.heap.size) (o:Obj):bR (W.alloc o) B c:=
 mr (fun i=>World.cell?_alloc_lt W o ⟨B,i,none⟩ f) Q
theorem qq {W f:World} {p m:Nat} {c:aC} (E:Below m W f) (h:bR W p c:=by first | (with_reducible assumption) | exact bG (by with_reducible assumption) om _ | exact bG (bG (by with_reducible assumption) om _) ag _) (o:p<m:=by exact sz):Hid (bR f p c):=az E o h
def bW (c:aC) (z:Int):Int:=
 if c.kind=1∨c.kind=4 then bZ z c.month-(fg z c.month-c.day+7) % 7 else if c.kind=6 then bZ z c.month else bZ z c.month+dJ z c.month c.day
def bB (c:aC) (y:Int):Int:=if aP c y 1600=0 then bW c (y+c.shift) else 0
def aF (c:aC) (y:Int):Int:=if aP c y 1601=0 then bW c (y-1+c.shift)+1 else 0
theorem kO (y m:Int) (h:aL y m=true):27≤bZ y m:=by
 have o:=iO y m h;have E:1600≤y∧y≤9999∧1≤m∧m≤12:=by simpa [aL] using h
 have F:=iM y om om;have f:=eh y m;unfold bZ fj;omega
theorem iF (y m:Int) (h:aL y m=true) (E:y≤9998):bZ y m<3068037-365:=by
 have U:1600≤y∧y≤9999∧1≤m∧m≤12:=by simpa [aL] using h
 have I:=i7 y m h;have F:=db y om om;have G:=gd (y+1) 9999 om om;have H:bu 9999=3067672:=by decide
 have o:=eX y;have J:cM y m=aN y (m+1)-aN y m:=by unfold cM;rw [if_pos h]
 have O:aN y (m+1)≤aN y 13:=by
  rcases Int.lt_or_eq_of_le (show m+1≤13 by omega) with f | f
  ·have:=iT y (m+1) 13 om f om;omega
  ·rw [f];omega
 unfold bZ fj;omega
theorem br {c:aC} {y a:Int} (h:aP c y a=0):c.Ok∧a≤y∧y≤9997:=by
 unfold aP at h
 split at h
 ·rename_i hk
  split at h
  ·exact ⟨by simpa [aC.okB] using hk,by assumption⟩
  ·omega
 ·omega
theorem bN {c:aC} (h:c.Ok):(1≤c.month∧c.month≤12)∧(0≤c.shift∧c.shift≤1)∧(1≤c.kind∧c.kind≤6)∧(c.kind≠6→1≤c.day∧c.day≤7):=by
 obtain ⟨_,_,_,f⟩:=h;unfold aC.ruled at f;omega
theorem Aj (c:aC) (y:Int) (w:World) (hn:c.name.size≤1000) (J:aP c y 1600=0) (E:c.kind=1∨c.kind=4) :
  Calls Tryz.prog 83 #[aI c,y] w fun e w'=>e=.returned (.tuple #[bB c y,aP c y 1600])∧Below w w w':=by
 obtain ⟨H,aa,ab⟩:=br J;obtain ⟨hm,hs,hk,hd⟩:=bN H;have ht:aL (y+c.shift) c.month=true:=by simp [aL];omega
 have H1:=hide (show bB c y=bW c (y+c.shift) by simp [bB,J]);have V:=hide J;have F:ik (y+c.shift) c.month c.day=0:=by simp [ik,ht];omega
 have W:bU (y+c.shift) c.month c.day=bW c (y+c.shift):=by simp [bU,F,bW,E]
 have Y:ik (y+c.shift) c.month c.day=0:=F;have HR:=hide (show gi c.kind c.month c.day=.iface 236 (.agg #[c.month,c.day]) by simp [gi,E]);have E1:=hide (show IntKind.i64.wrap (y+c.shift)=(y+c.shift) by first | exact IntWalk.i64_in _ om | rw [IntWalk.i64_in (y-1) om,IntWalk.i64_in _ om]);have H3:=hide W;have H4:=hide Y;clear J H ht W Y E hd
 try clear F
 try clear hab hnd hlo hhi
 try clear hn1
 simp only [aI];go_enter Tryz.func83,Tryz.ntmps83;go_wp2_with fail;refine (dZ c _ _ _ hn).mono ?_;rintro e w1 ⟨rfl,f⟩;have o:w.heap.size<w1.heap.size:=am f;have O:=hide (Below.trans ((Below.refl _ _).alloc (Nat.le_refl _) _) (f.mono af):Below w w w1);have U:=hide (az f af (be w c));obtain ⟨q0,q1,q2,q3,q4,q5,q6,q7,q8,q9,ac,ad,ah,al⟩:=U.out;clear f;rw [V.out];go_wp2_with fail
 go_region_held3 (fun w'=>w'.cell? ⟨w,0,none⟩=some (.string c.name)∧w'.cell? ⟨w,1,none⟩=some (.int .i64 c.kind)∧w'.cell? ⟨w,2,none⟩=some (.int .i64 c.day)∧w'.cell? ⟨w,3,none⟩=some (.int .i64 c.month)∧w'.cell? ⟨w,4,none⟩=some (.int .i64 c.shift)∧w'.cell? ⟨w,5,none⟩=some (.int .i64 c.shape)∧w'.cell? ⟨w,6,none⟩=some (.int .i64 c.p0)∧w'.cell? ⟨w,7,none⟩=some (.int .i64 c.p1)∧w'.cell? ⟨w,8,none⟩=some (.int .i64 c.p2)∧w'.cell? ⟨w,9,none⟩=some (.int .i64 c.cycle)∧w'.cell? ⟨w,10,none⟩=some (.int .i64 c.extra)∧w'.cell? ⟨w,11,none⟩=some (.int .i64 c.first)∧w'.cell? ⟨w,12,none⟩=some (.int .i64 c.last)∧w'.cell? ⟨w,13,none⟩=some (.int .i64 c.policy)) (first | go_keep | exact az h o U.out | exact az G I (az h o U.out))
  (first
  | (go_at_call 86;refine (gZ c _).mono ?_;rintro e w2 ⟨rfl,h⟩;rw [HR.out];have I:w.heap.size<w2.heap.size:=Nat.lt_of_lt_of_le o h.size)
  | (go_at_call 299;refine (oq _ _ _ _).mono ?_;rintro e w3 ⟨rfl,G⟩;rw [E1.out,H3.out,H4.out]))
 all_goals
  go_simp;go_wp2;go_ret2;refine ⟨aW ?_ V.out.symm,?_⟩
  ·exact H1.out.symm
  ·exact (O.out.drew.trans (h.mono (Nat.le_of_lt o))).trans (G.mono (Nat.le_of_lt I))
theorem xg (c:aC) (y:Int) (w:World) (hn:c.name.size≤1000) (I:aP c y 1600=0) (E:c.kind=6) :
  Calls Tryz.prog 83 #[aI c,y] w fun e w'=>e=.returned (.tuple #[bB c y,aP c y 1600])∧Below w w w':=by
 obtain ⟨G,aa,ab⟩:=br I;obtain ⟨hm,hs,hk,hd⟩:=bN G;have V:aL (y+c.shift) c.month=true:=by simp [aL];omega
 have H1:=hide (show bB c y=bW c (y+c.shift) by simp [bB,I]);have W:=hide I;have U:¬ (c.kind=1∨c.kind=4):=om;have Y:pA (y+c.shift) c.month=bW c (y+c.shift):=by simp [pA,V,bW,E]
 have h4:pS (y+c.shift) c.month=0:=by simp [pS,V]
 have HR:=hide (show gi c.kind c.month c.day=.iface 237 (.int .i64 c.month) by simp [gi,E]);have E1:=hide (show IntKind.i64.wrap (y+c.shift)=(y+c.shift) by first | exact IntWalk.i64_in _ om | rw [IntWalk.i64_in (y-1) om,IntWalk.i64_in _ om]);have H3:=hide Y;have H4:=hide h4;clear I G V Y h4 E hd
 try clear hwk
 try clear hab hnd hlo hhi
 try clear U
 simp only [aI];go_enter Tryz.func83,Tryz.ntmps83;go_wp2_with fail;refine (dZ c _ _ _ hn).mono ?_;rintro e w1 ⟨rfl,f⟩;have o:w.heap.size<w1.heap.size:=am f;have J:=hide (Below.trans ((Below.refl _ _).alloc (Nat.le_refl _) _) (f.mono af):Below w w w1);have O:=hide (az f af (be w c));obtain ⟨q0,q1,q2,q3,q4,q5,q6,q7,q8,q9,ac,ad,ah,al⟩:=O.out;clear f;rw [W.out];go_wp2_with fail
 go_region_held3 (fun w'=>w'.cell? ⟨w,0,none⟩=some (.string c.name)∧w'.cell? ⟨w,1,none⟩=some (.int .i64 c.kind)∧w'.cell? ⟨w,2,none⟩=some (.int .i64 c.day)∧w'.cell? ⟨w,3,none⟩=some (.int .i64 c.month)∧w'.cell? ⟨w,4,none⟩=some (.int .i64 c.shift)∧w'.cell? ⟨w,5,none⟩=some (.int .i64 c.shape)∧w'.cell? ⟨w,6,none⟩=some (.int .i64 c.p0)∧w'.cell? ⟨w,7,none⟩=some (.int .i64 c.p1)∧w'.cell? ⟨w,8,none⟩=some (.int .i64 c.p2)∧w'.cell? ⟨w,9,none⟩=some (.int .i64 c.cycle)∧w'.cell? ⟨w,10,none⟩=some (.int .i64 c.extra)∧w'.cell? ⟨w,11,none⟩=some (.int .i64 c.first)∧w'.cell? ⟨w,12,none⟩=some (.int .i64 c.last)∧w'.cell? ⟨w,13,none⟩=some (.int .i64 c.policy)) (first | go_keep | exact az h o O.out | exact az F H (az h o O.out))
  (first
  | (go_at_call 86;refine (gZ c _).mono ?_;rintro e w2 ⟨rfl,h⟩;rw [HR.out];have H:w.heap.size<w2.heap.size:=Nat.lt_of_lt_of_le o h.size)
  | (go_at_call 300;refine (nr _ _ _).mono ?_;rintro e w3 ⟨rfl,F⟩;rw [E1.out,H3.out,H4.out]))
 all_goals
  go_simp;go_wp2;go_ret2;refine ⟨aW ?_ W.out.symm,?_⟩
  ·exact H1.out.symm
  ·exact (J.out.drew.trans (h.mono (Nat.le_of_lt o))).trans (F.mono (Nat.le_of_lt H))
theorem yd (c:aC) (y:Int) (w:World) (hn:c.name.size≤1000) (O:aP c y 1600=0) (f:¬ (c.kind=1∨c.kind=4)∧¬ c.kind=6) :
  Calls Tryz.prog 83 #[aI c,y] w fun e w'=>e=.returned (.tuple #[bB c y,aP c y 1600])∧Below w w w':=by
 obtain ⟨I,ac,ad⟩:=br O;obtain ⟨hm,hs,hk,hd⟩:=bN I;have U:aL (y+c.shift) c.month=true:=by simp [aL];omega
 have H1:=hide (show bB c y=bW c (y+c.shift) by simp [bB,O]);have H2:=hide O;have G:ik (y+c.shift) c.month c.day=0:=by simp [ik,U];omega
 have aa:=kO (y+c.shift) c.month U;have Y:=iF (y+c.shift) c.month U om;have ab:-3≤dJ (y+c.shift) c.month c.day∧dJ (y+c.shift) c.month c.day≤3:=by unfold dJ;omega
 have F:kE (bZ (y+c.shift) c.month) (dJ (y+c.shift) c.month c.day)=true:=by simp [kE,cH];omega
 have h3:jx (y+c.shift) c.month c.day=bW c (y+c.shift):=by simp [jx,G,bW,f.1,f.2,pk,F]
 have h4:jy (y+c.shift) c.month c.day=0:=by simp [jy,G,pT,F]
 have HR:=hide (show gi c.kind c.month c.day=.iface 238 (.agg #[c.month,c.day]) by simp [gi,f.1,f.2]);have E1:=hide (show IntKind.i64.wrap (y+c.shift)=(y+c.shift) by first | exact IntWalk.i64_in _ om | rw [IntWalk.i64_in (y-1) om,IntWalk.i64_in _ om]);have H3:=hide h3;have H4:=hide h4;clear O I U h3 h4 f hd
 try clear G
 try clear F ab aa Y
 try clear hn1
 simp only [aI];go_enter Tryz.func83,Tryz.ntmps83;go_wp2_with fail;refine (dZ c _ _ _ hn).mono ?_;rintro e w1 ⟨rfl,h⟩;have E:w.heap.size<w1.heap.size:=am h;have V:=hide (Below.trans ((Below.refl _ _).alloc (Nat.le_refl _) _) (h.mono af):Below w w w1);have W:=hide (az h af (be w c));obtain ⟨q0,q1,q2,q3,q4,q5,q6,q7,q8,q9,ah,al,ao,aq⟩:=W.out;clear h;rw [H2.out];go_wp2_with fail
 go_region_held3 (fun w'=>w'.cell? ⟨w,0,none⟩=some (.string c.name)∧w'.cell? ⟨w,1,none⟩=some (.int .i64 c.kind)∧w'.cell? ⟨w,2,none⟩=some (.int .i64 c.day)∧w'.cell? ⟨w,3,none⟩=some (.int .i64 c.month)∧w'.cell? ⟨w,4,none⟩=some (.int .i64 c.shift)∧w'.cell? ⟨w,5,none⟩=some (.int .i64 c.shape)∧w'.cell? ⟨w,6,none⟩=some (.int .i64 c.p0)∧w'.cell? ⟨w,7,none⟩=some (.int .i64 c.p1)∧w'.cell? ⟨w,8,none⟩=some (.int .i64 c.p2)∧w'.cell? ⟨w,9,none⟩=some (.int .i64 c.cycle)∧w'.cell? ⟨w,10,none⟩=some (.int .i64 c.extra)∧w'.cell? ⟨w,11,none⟩=some (.int .i64 c.first)∧w'.cell? ⟨w,12,none⟩=some (.int .i64 c.last)∧w'.cell? ⟨w,13,none⟩=some (.int .i64 c.policy)) (first | go_keep | exact az o E W.out | exact az H J (az o E W.out))
  (first
  | (go_at_call 86;refine (gZ c _).mono ?_;rintro e w2 ⟨rfl,o⟩;rw [HR.out];have J:w.heap.size<w2.heap.size:=Nat.lt_of_lt_of_le E o.size)
  | (go_at_call 301;refine (nK _ _ _ _).mono ?_;rintro e w3 ⟨rfl,H⟩;rw [E1.out,H3.out,H4.out]))
 all_goals
  go_simp;go_wp2;go_ret2;refine ⟨aW ?_ H2.out.symm,?_⟩
  ·exact H1.out.symm
  ·exact (V.out.drew.trans (o.mono (Nat.le_of_lt E))).trans (H.mono (Nat.le_of_lt J))
theorem Eo (c:aC) (y:Int) (w:World) (F:c.name.size≤1000) (f:¬ aP c y 1600=0) :
  Calls Tryz.prog 83 #[aI c,y] w fun e w'=>e=.returned (.tuple #[bB c y,aP c y 1600])∧Below w w w':=by
 have E:(aP c y 1600 != 0)=true:=by simpa using f
 have o:=hide (show bB c y=0 by simp [bB,f]);clear f;simp only [aI];go_enter Tryz.func83,Tryz.ntmps83;go_wp2_with fail;refine (dZ c _ _ _ F).mono ?_;rintro e G ⟨rfl,h⟩;go_wp2;go_ret2;exact ⟨aW o.out.symm rfl,((Below.refl _ _).alloc (Nat.le_refl _) _).trans (h.mono af)⟩
theorem l6 (c:aC) (y:Int) (w:World) (o:c.name.size≤1000) :
  Calls Tryz.prog 83 #[aI c,y] w fun e w'=>e=.returned (.tuple #[bB c y,aP c y 1600])∧Below w w w':=by
 by_cases h:aP c y 1600=0
 ·have f:(c.kind=1∨c.kind=4)∨c.kind=6∨¬ (c.kind=1∨c.kind=4)∧¬ c.kind=6:=om
  rcases f with f | f | f
  ·exact Aj c y w o h f
  ·exact xg c y w o h f
  ·exact yd c y w o h f
 ·exact Eo c y w o h
theorem lu (c:aC) (z:Int) (f:c.Ok) (h:aL z c.month=true) (F:z≤9998):0≤bW c z∧bW c z≤3068037:=by
 have E:=kO z c.month h;have o:=iF z c.month h F;obtain ⟨I,J,H,G⟩:=bN f;have O:=eO z c.month;unfold bW dJ
 split
 ·omega
 ·split <;> omega
theorem sC (c:aC) (y:Int) (w:World) (hn:c.name.size≤1000) (J:aP c y 1601=0) (E:c.kind=1∨c.kind=4) :
  Calls Tryz.prog 58 #[aI c,y] w fun e w'=>e=.returned (.tuple #[aF c y,aP c y 1601])∧Below w w w':=by
 obtain ⟨F,aa,ab⟩:=br J;obtain ⟨hm,hs,hk,hd⟩:=bN F;have V:aL (y-1+c.shift) c.month=true:=by simp [aL];omega
 have H1:=hide (show aF c y=bW c (y-1+c.shift)+1 by simp [aF,J]);have W:=hide J;have G:ik (y-1+c.shift) c.month c.day=0:=by simp [ik,V];omega
 have Y:bU (y-1+c.shift) c.month c.day=bW c (y-1+c.shift):=by simp [bU,G,bW,E]
 have h4:ik (y-1+c.shift) c.month c.day=0:=G;have HR:=hide (show gi c.kind c.month c.day=.iface 236 (.agg #[c.month,c.day]) by simp [gi,E]);have E1:=hide (show IntKind.i64.wrap (IntKind.i64.wrap (y-1)+c.shift)=(y-1+c.shift) by first | exact IntWalk.i64_in _ om | rw [IntWalk.i64_in (y-1) om,IntWalk.i64_in _ om]);have H3:=hide Y;have H4:=hide h4;have HF:=lu c (y-1+c.shift) F V om;clear J F V Y h4 E hd
 try clear G
 try clear hab hnd hlo hhi
 try clear hn1
 simp only [aI];go_enter Tryz.func58,Tryz.ntmps58;go_wp2_with fail;refine (dZ c _ _ _ hn).mono ?_;rintro e w1 ⟨rfl,f⟩;have o:w.heap.size<w1.heap.size:=am f;have O:=hide (Below.trans ((Below.refl _ _).alloc (Nat.le_refl _) _) (f.mono af):Below w w w1);have U:=hide (az f af (be w c));obtain ⟨q0,q1,q2,q3,q4,q5,q6,q7,q8,q9,ac,ad,ah,al⟩:=U.out;clear f;rw [W.out];go_wp2_with fail
 go_region_held3 (fun w'=>w'.cell? ⟨w,0,none⟩=some (.string c.name)∧w'.cell? ⟨w,1,none⟩=some (.int .i64 c.kind)∧w'.cell? ⟨w,2,none⟩=some (.int .i64 c.day)∧w'.cell? ⟨w,3,none⟩=some (.int .i64 c.month)∧w'.cell? ⟨w,4,none⟩=some (.int .i64 c.shift)∧w'.cell? ⟨w,5,none⟩=some (.int .i64 c.shape)∧w'.cell? ⟨w,6,none⟩=some (.int .i64 c.p0)∧w'.cell? ⟨w,7,none⟩=some (.int .i64 c.p1)∧w'.cell? ⟨w,8,none⟩=some (.int .i64 c.p2)∧w'.cell? ⟨w,9,none⟩=some (.int .i64 c.cycle)∧w'.cell? ⟨w,10,none⟩=some (.int .i64 c.extra)∧w'.cell? ⟨w,11,none⟩=some (.int .i64 c.first)∧w'.cell? ⟨w,12,none⟩=some (.int .i64 c.last)∧w'.cell? ⟨w,13,none⟩=some (.int .i64 c.policy)) (first | go_keep | exact az h o U.out | exact az H I (az h o U.out))
  (first
  | (go_at_call 86;refine (gZ c _).mono ?_;rintro e w2 ⟨rfl,h⟩;rw [HR.out];have I:w.heap.size<w2.heap.size:=Nat.lt_of_lt_of_le o h.size)
  | (go_at_call 299;refine (oq _ _ _ _).mono ?_;rintro e w3 ⟨rfl,H⟩;rw [E1.out,H3.out,H4.out]))
 all_goals
  go_simp;go_wp2;go_ret2;refine ⟨aW ?_ W.out.symm,?_⟩
  ·exact H1.out.symm
  ·exact (O.out.drew.trans (h.mono (Nat.le_of_lt o))).trans (H.mono (Nat.le_of_lt I))
theorem qI (c:aC) (y:Int) (w:World) (hn:c.name.size≤1000) (I:aP c y 1601=0) (E:c.kind=6) :
  Calls Tryz.prog 58 #[aI c,y] w fun e w'=>e=.returned (.tuple #[aF c y,aP c y 1601])∧Below w w w':=by
 obtain ⟨F,aa,ab⟩:=br I;obtain ⟨hm,hs,hk,hd⟩:=bN F;have J:aL (y-1+c.shift) c.month=true:=by simp [aL];omega
 have H1:=hide (show aF c y=bW c (y-1+c.shift)+1 by simp [aF,I]);have W:=hide I;have V:¬ (c.kind=1∨c.kind=4):=om;have Y:pA (y-1+c.shift) c.month=bW c (y-1+c.shift):=by simp [pA,J,bW,E]
 have h4:pS (y-1+c.shift) c.month=0:=by simp [pS,J]
 have HR:=hide (show gi c.kind c.month c.day=.iface 237 (.int .i64 c.month) by simp [gi,E]);have E1:=hide (show IntKind.i64.wrap (IntKind.i64.wrap (y-1)+c.shift)=(y-1+c.shift) by first | exact IntWalk.i64_in _ om | rw [IntWalk.i64_in (y-1) om,IntWalk.i64_in _ om]);have H3:=hide Y;have H4:=hide h4;have HF:=lu c (y-1+c.shift) F J om;clear I F J Y h4 E hd
 try clear hwk
 try clear hab hnd hlo hhi
 try clear V
 simp only [aI];go_enter Tryz.func58,Tryz.ntmps58;go_wp2_with fail;refine (dZ c _ _ _ hn).mono ?_;rintro e w1 ⟨rfl,f⟩;have o:w.heap.size<w1.heap.size:=am f;have O:=hide (Below.trans ((Below.refl _ _).alloc (Nat.le_refl _) _) (f.mono af):Below w w w1);have U:=hide (az f af (be w c));obtain ⟨q0,q1,q2,q3,q4,q5,q6,q7,q8,q9,ac,ad,ah,al⟩:=U.out;clear f;rw [W.out];go_wp2_with fail
 go_region_held3 (fun w'=>w'.cell? ⟨w,0,none⟩=some (.string c.name)∧w'.cell? ⟨w,1,none⟩=some (.int .i64 c.kind)∧w'.cell? ⟨w,2,none⟩=some (.int .i64 c.day)∧w'.cell? ⟨w,3,none⟩=some (.int .i64 c.month)∧w'.cell? ⟨w,4,none⟩=some (.int .i64 c.shift)∧w'.cell? ⟨w,5,none⟩=some (.int .i64 c.shape)∧w'.cell? ⟨w,6,none⟩=some (.int .i64 c.p0)∧w'.cell? ⟨w,7,none⟩=some (.int .i64 c.p1)∧w'.cell? ⟨w,8,none⟩=some (.int .i64 c.p2)∧w'.cell? ⟨w,9,none⟩=some (.int .i64 c.cycle)∧w'.cell? ⟨w,10,none⟩=some (.int .i64 c.extra)∧w'.cell? ⟨w,11,none⟩=some (.int .i64 c.first)∧w'.cell? ⟨w,12,none⟩=some (.int .i64 c.last)∧w'.cell? ⟨w,13,none⟩=some (.int .i64 c.policy)) (first | go_keep | exact az h o U.out | exact az G H (az h o U.out))
  (first
  | (go_at_call 86;refine (gZ c _).mono ?_;rintro e w2 ⟨rfl,h⟩;rw [HR.out];have H:w.heap.size<w2.heap.size:=Nat.lt_of_lt_of_le o h.size)
  | (go_at_call 300;refine (nr _ _ _).mono ?_;rintro e w3 ⟨rfl,G⟩;rw [E1.out,H3.out,H4.out]))
 all_goals
  go_simp;go_wp2;go_ret2;refine ⟨aW ?_ W.out.symm,?_⟩
  ·exact H1.out.symm
  ·exact (O.out.drew.trans (h.mono (Nat.le_of_lt o))).trans (G.mono (Nat.le_of_lt H))
theorem tl (c:aC) (y:Int) (w:World) (hn:c.name.size≤1000) (U:aP c y 1601=0) (f:¬ (c.kind=1∨c.kind=4)∧¬ c.kind=6) :
  Calls Tryz.prog 58 #[aI c,y] w fun e w'=>e=.returned (.tuple #[aF c y,aP c y 1601])∧Below w w w':=by
 obtain ⟨G,ac,ad⟩:=br U;obtain ⟨hm,hs,hk,hd⟩:=bN G;have J:aL (y-1+c.shift) c.month=true:=by simp [aL];omega
 have H1:=hide (show aF c y=bW c (y-1+c.shift)+1 by simp [aF,U]);have H2:=hide U;have H:ik (y-1+c.shift) c.month c.day=0:=by simp [ik,J];omega
 have aa:=kO (y-1+c.shift) c.month J;have Y:=iF (y-1+c.shift) c.month J om;have ab:-3≤dJ (y-1+c.shift) c.month c.day∧dJ (y-1+c.shift) c.month c.day≤3:=by unfold dJ;omega
 have F:kE (bZ (y-1+c.shift) c.month) (dJ (y-1+c.shift) c.month c.day)=true:=by simp [kE,cH];omega
 have h3:jx (y-1+c.shift) c.month c.day=bW c (y-1+c.shift):=by simp [jx,H,bW,f.1,f.2,pk,F]
 have h4:jy (y-1+c.shift) c.month c.day=0:=by simp [jy,H,pT,F]
 have HR:=hide (show gi c.kind c.month c.day=.iface 238 (.agg #[c.month,c.day]) by simp [gi,f.1,f.2]);have E1:=hide (show IntKind.i64.wrap (IntKind.i64.wrap (y-1)+c.shift)=(y-1+c.shift) by first | exact IntWalk.i64_in _ om | rw [IntWalk.i64_in (y-1) om,IntWalk.i64_in _ om]);have H3:=hide h3;have H4:=hide h4;have HF:=lu c (y-1+c.shift) G J om;clear U G J h3 h4 f hd
 try clear H
 try clear F ab aa Y
 try clear hn1
 simp only [aI];go_enter Tryz.func58,Tryz.ntmps58;go_wp2_with fail;refine (dZ c _ _ _ hn).mono ?_;rintro e w1 ⟨rfl,h⟩;have E:w.heap.size<w1.heap.size:=am h;have V:=hide (Below.trans ((Below.refl _ _).alloc (Nat.le_refl _) _) (h.mono af):Below w w w1);have W:=hide (az h af (be w c));obtain ⟨q0,q1,q2,q3,q4,q5,q6,q7,q8,q9,ah,al,ao,aq⟩:=W.out;clear h;rw [H2.out];go_wp2_with fail
 go_region_held3 (fun w'=>w'.cell? ⟨w,0,none⟩=some (.string c.name)∧w'.cell? ⟨w,1,none⟩=some (.int .i64 c.kind)∧w'.cell? ⟨w,2,none⟩=some (.int .i64 c.day)∧w'.cell? ⟨w,3,none⟩=some (.int .i64 c.month)∧w'.cell? ⟨w,4,none⟩=some (.int .i64 c.shift)∧w'.cell? ⟨w,5,none⟩=some (.int .i64 c.shape)∧w'.cell? ⟨w,6,none⟩=some (.int .i64 c.p0)∧w'.cell? ⟨w,7,none⟩=some (.int .i64 c.p1)∧w'.cell? ⟨w,8,none⟩=some (.int .i64 c.p2)∧w'.cell? ⟨w,9,none⟩=some (.int .i64 c.cycle)∧w'.cell? ⟨w,10,none⟩=some (.int .i64 c.extra)∧w'.cell? ⟨w,11,none⟩=some (.int .i64 c.first)∧w'.cell? ⟨w,12,none⟩=some (.int .i64 c.last)∧w'.cell? ⟨w,13,none⟩=some (.int .i64 c.policy)) (first | go_keep | exact az o E W.out | exact az I O (az o E W.out))
  (first
  | (go_at_call 86;refine (gZ c _).mono ?_;rintro e w2 ⟨rfl,o⟩;rw [HR.out];have O:w.heap.size<w2.heap.size:=Nat.lt_of_lt_of_le E o.size)
  | (go_at_call 301;refine (nK _ _ _ _).mono ?_;rintro e w3 ⟨rfl,I⟩;rw [E1.out,H3.out,H4.out]))
 all_goals
  go_simp;go_wp2;go_ret2;refine ⟨aW ?_ H2.out.symm,?_⟩
  ·exact H1.out.symm
  ·exact (V.out.drew.trans (o.mono (Nat.le_of_lt E))).trans (I.mono (Nat.le_of_lt O))
theorem yS (c:aC) (y:Int) (w:World) (F:c.name.size≤1000) (f:¬ aP c y 1601=0) :
  Calls Tryz.prog 58 #[aI c,y] w fun e w'=>e=.returned (.tuple #[aF c y,aP c y 1601])∧Below w w w':=by
 have E:(aP c y 1601 != 0)=true:=by simpa using f
 have o:=hide (show aF c y=0 by simp [aF,f]);clear f;simp only [aI];go_enter Tryz.func58,Tryz.ntmps58;go_wp2_with fail;refine (dZ c _ _ _ F).mono ?_;rintro e G ⟨rfl,h⟩;go_wp2;go_ret2;exact ⟨aW o.out.symm rfl,((Below.refl _ _).alloc (Nat.le_refl _) _).trans (h.mono af)⟩
theorem dk (c:aC) (y:Int) (w:World) (o:c.name.size≤1000) :
  Calls Tryz.prog 58 #[aI c,y] w fun e w'=>e=.returned (.tuple #[aF c y,aP c y 1601])∧Below w w w':=by
 by_cases h:aP c y 1601=0
 ·have f:(c.kind=1∨c.kind=4)∨c.kind=6∨¬ (c.kind=1∨c.kind=4)∧¬ c.kind=6:=om
  rcases f with f | f | f
  ·exact sC c y w o h f
  ·exact qI c y w o h f
  ·exact tl c y w o h f
 ·exact yS c y w o h
theorem gn (y m:Int) (h:aL y m=true):bZ y m=bu y+aN y (m+1)-1:=by
 have f:cM y m=aN y (m+1)-aN y m:=by unfold cM;rw [if_pos h]
 unfold bZ fj;omega
theorem sc (y f m:Int):aN y m-1≤aN f m∧aN f m≤aN y m+1:=by
 unfold aN
 split <;> split <;> omega
theorem kI (y m:Int) (h:aL y m=true) (G:y≤9998):bZ y m+364≤bZ (y+1) m∧bZ (y+1) m≤bZ y m+367:=by
 have F:1600≤y∧y≤9999∧1≤m∧m≤12:=by simpa [aL] using h
 have o:aL (y+1) m=true:=by simp [aL];omega
 rw [gn y m h,gn (y+1) m o];have f:=db y om om;have E:=sc y (y+1) (m+1)
 split at f <;> omega
theorem yF (c:aC) (z:Int) (f:c.Ok) (h:aL z c.month=true) (o:z≤9998):bW c z+358≤bW c (z+1)∧bW c (z+1)≤bW c z+373:=by
 have e:=kI z c.month h o;obtain ⟨G,H,F,E⟩:=bN f;have I:=eO z c.month;have J:=eO (z+1) c.month;unfold bW dJ
 split
 ·omega
 ·split <;> omega
theorem lO (c:aC) (z:Int) (h:c.Ok) (f:c.kind≠6):(bW c z+5) % 7+1=c.day:=by
 obtain ⟨G,H,F,o⟩:=bN h;have E:=o f;unfold bW
 split
 ·unfold fg;omega
 ·unfold dJ fg;omega
theorem dj {c:aC} {y:Int} (h:aP c y 1601=0):aP c y 1600=0:=by
 obtain ⟨f,o,E⟩:=br h;have:c.okB=true:=by simpa [aC.okB] using f
 simp [aP,this];omega
theorem gY {c:aC} {y a:Int} (h:aP c y a=0) (F:1600≤a):aL (y+c.shift) c.month=true:=by
 obtain ⟨f,o,E⟩:=br h;obtain ⟨I,J,H,G⟩:=bN f;simp [aL];omega
theorem fM {c:aC} {y:Int} (h:aP c y 1601=0):aL (y-1+c.shift) c.month=true:=by
 obtain ⟨f,o,E⟩:=br h;obtain ⟨H,I,G,F⟩:=bN f;simp [aL];omega
def bM (c:aC) (y:Int):Int:=if aP c y 1601=0 then bB c y-aF c y+1 else 0
theorem dm (c:aC) (y:Int) (h:aP c y 1601=0):0≤aF c y∧aF c y≤3068037∧0≤bB c y∧bB c y≤3068037∧358≤bM c y∧bM c y≤373:=by
 obtain ⟨f,Y,h2⟩:=br h;obtain ⟨hm,hs,hk,hd⟩:=bN f;have o:=fM h;have O:=gY h om;have U:=lu c (y-1+c.shift) f o om;have V:=lu c (y+c.shift) f O om;have J:=yF c (y-1+c.shift) f o om;have e:y-1+c.shift+1=y+c.shift:=om;rw [e] at J;have G:aF c y=bW c (y-1+c.shift)+1:=by simp [aF,h]
 have F:bB c y=bW c (y+c.shift):=by simp [bB,dj h]
 have E:bM c y=bB c y-aF c y+1:=by simp [bM,h]
 rw [E,G,F];have I:=kO _ _ o;have H:=iF _ _ o om;have hw:=eO (y-1+c.shift) c.month;have W:bW c (y-1+c.shift)+1≤3068037:=by
  unfold bW dJ
  split
  ·omega
  ·split <;> omega
 omega
theorem dt (c:aC) (y:Int) (h:aP c y 1601=0) (f:c.kind≠6):bM c y=364∨bM c y=371:=by
 obtain ⟨o,J,O⟩:=br h;have U:=dm c y h;have H:=lO c (y-1+c.shift) o f;have I:=lO c (y+c.shift) o f;have G:aF c y=bW c (y-1+c.shift)+1:=by simp [aF,h]
 have F:bB c y=bW c (y+c.shift):=by simp [bB,dj h]
 have E:bM c y=bB c y-aF c y+1:=by simp [bM,h]
 omega
theorem zy (c:aC) (y:Int) (w:World) (H:c.name.size≤1000) :
  Calls Tryz.prog 123 #[aI c,y] w fun e w'=>e=.returned (.tuple #[bM c y,aP c y 1601])∧Below w w w':=by
 by_cases h:aP c y 1601=0
 ·have o:=dj h
  have hb:=dm c y h;have E:=hide (show bM c y=bB c y-aF c y+1 by simp [bM,h]);have Y:=hide h;have H3:=hide o;clear h o;simp only [aI];go_enter Tryz.func123,Tryz.ntmps123;go_wp2_with fail;refine (dk c _ _ H).mono ?_;rintro e W ⟨rfl,f⟩;have I:w.heap.size<W.heap.size:=am f;have F:=hide (Below.trans ((Below.refl _ _).alloc (Nat.le_refl _) _) (f.mono af):Below w w W);have HQ:=hide (az f af (be w c));obtain ⟨q0,q1,q2,q3,q4,q5,q6,q7,q8,q9,J,O,U,V⟩:=HQ.out;clear f;rw [Y.out];go_wp2_with fail;refine (l6 c _ _ H).mono ?_;rintro e w2 ⟨rfl,G⟩;rw [H3.out];clear q0 q1 q2 q3 q4 q5 q6 q7 q8 q9 J O U V;go_wp2;go_ret2;exact ⟨aW E.out.symm Y.out.symm,F.out.trans (G.mono (Nat.le_of_lt I))⟩
 ·have aa:(aP c y 1601 != 0)=true:=by simpa using h
  have E:=hide (show bM c y=0 by simp [bM,h]);clear h;simp only [aI];go_enter Tryz.func123,Tryz.ntmps123;go_wp2_with fail;refine (dk c _ _ H).mono ?_;rintro e W ⟨rfl,f⟩;go_wp2;go_ret2;exact ⟨aW E.out.symm rfl,((Below.refl _ _).alloc (Nat.le_refl _) _).trans (f.mono af)⟩
def j0 (c:aC):Bool:=c.okB&&decide (c.kind≠6)
def dh (c:aC) (y:Int):Int:=if j0 c then bM c y / 7 else 0
def o5 (c:aC) (y:Int):Int:=if j0 c then aP c y 1601 else 1
theorem C1 (c:aC) (y:Int):0≤bM c y∧bM c y≤380:=by
 by_cases h:aP c y 1601=0
 ·have:=dm c y h;omega
 ·simp [bM,h]
theorem sY (c:aC) (y:Int) (w:World) (V:c.name.size≤1000) :
  Calls Tryz.prog 89 #[aI c,y] w fun e w'=>e=.returned (.tuple #[dh c y,o5 c y])∧Below w w w':=by
 have ac:=C1 c y;cases o:c.okB
 ·have U:dI c=1:=by simp [dI,o]
  have E:=hide (show dh c y=0 by simp [dh,j0,o]);have F:=hide (show o5 c y=1 by simp [o5,j0,o]);simp only [aI];go_enter Tryz.func89,Tryz.ntmps89;go_wp2_with fail;refine (bg c _ V).mono ?_;rintro e W ⟨rfl,f⟩;rw [U];go_wp2;go_ret2;exact ⟨aW E.out.symm F.out.symm,((Below.refl _ _).alloc (Nat.le_refl _) _).trans (f.mono af)⟩
 ·have U:dI c=0:=by simp [dI,o]
  by_cases h:c.kind=6
  ·have E:=hide (show dh c y=0 by simp [dh,j0,h])
   have F:=hide (show o5 c y=1 by simp [o5,j0,h]);have G:(c.kind==6)=true:=by simp [h]
   clear h;simp only [aI];go_enter Tryz.func89,Tryz.ntmps89;go_wp2_with fail;refine (bg c _ V).mono ?_;rintro e W ⟨rfl,f⟩;rw [U];have HQ:=hide (az f af (be w c));obtain ⟨q0,q1,q2,q3,q4,q5,q6,q7,q8,q9,H,I,J,O⟩:=HQ.out;go_wp2;go_ret2;exact ⟨aW E.out.symm F.out.symm,((Below.refl _ _).alloc (Nat.le_refl _) _).trans (f.mono af)⟩
  ·have E:=hide (show dh c y=bM c y / 7 by simp [dh,j0,o,h])
   have F:=hide (show o5 c y=aP c y 1601 by simp [o5,j0,o,h]);have G:(c.kind==6)=false:=by simp [h]
   clear h;simp only [aI];go_enter Tryz.func89,Tryz.ntmps89;go_wp2_with fail;refine (bg c _ V).mono ?_;rintro e W ⟨rfl,f⟩;rw [U];have ab:w.heap.size<W.heap.size:=am f;have Y:=hide (Below.trans ((Below.refl _ _).alloc (Nat.le_refl _) _) (f.mono af):Below w w W);have HQ:=hide (az f af (be w c));obtain ⟨q0,q1,q2,q3,q4,q5,q6,q7,q8,q9,H,I,J,O⟩:=HQ.out;clear f;go_wp2_with fail;refine (zy c _ _ V).mono ?_;rintro e w2 ⟨rfl,aa⟩;clear q0 q1 q2 q3 q4 q5 q6 q7 q8 q9 H I J O;go_wp2;go_ret2;exact ⟨aW E.out.symm F.out.symm,Y.out.trans (aa.mono (Nat.le_of_lt ab))⟩
theorem jK (c:aC) (h:c.okB=true):12≤eH c∧eH c≤52:=by
 have E:c.Ok:=by simpa [aC.okB] using h
 have:eH c=dl c.shape c.cycle:=by simp [eH,h]
 rw [this];obtain ⟨_,_,_,o⟩:=E;have F:(52:Int) / 1=52:=by decide
 have G:(52:Int) / 2=26:=by decide
 have H:(52:Int) / 4=13:=by decide
 unfold dl;simp only [aC.ruled,aC.weeks,eG,aC.pat0] at o
 split
 ·omega
 ·split
  ·rcases o with h | h | h | h | h
   ·omega
   ·omega
   ·have f:c.cycle=1∨c.cycle=2∨c.cycle=4:=om
    rcases f with f | f | f <;> rw [f] <;> omega
   ·have f:c.cycle=1∨c.cycle=2∨c.cycle=4:=om
    rcases f with f | f | f <;> rw [f] <;> omega
   ·omega
  ·split
   ·omega
   ·omega
abbrev aZ (u:Un):Value:=.agg #[u.lv,u.yr,u.ix]
abbrev cw (s:Sp):Value:=.agg #[s.a,s.b]
end
end Go.Proofs.YtpebkobmhhnojaaGreatDoor
