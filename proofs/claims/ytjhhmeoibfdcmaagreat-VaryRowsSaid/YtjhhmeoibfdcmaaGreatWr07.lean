/- Lemmas. -/
import Derived.Test.YtjhhmeoibfdcmaaGreatWr04
import Derived.Test.YtjhhmeoibfdcmaaGreatWr05
set_option linter.unusedSimpArgs false
set_option linter.unusedVariables false
set_option maxRecDepth 100000
set_option maxHeartbeats 12800000
namespace Go.Proofs.YtjhhmeoibfdcmaaGreat
section
open Go.RowKit Qd
theorem rn (m d y:Int) (w:World) :
  Calls Tryz.prog 264 #[.agg #[m,d],y] w fun e h=>e=.returned (.tuple #[cz y m d,f9 y m d])∧Below w w h:=by
 go_enter Tryz.func264,Tryz.ntmps264;go_wp2_with fail;refine (vw _ _ _ _).mono ?_;rintro e o ⟨rfl,f⟩;go_wp2;go_ret2;exact ⟨rfl,((Below.refl _ _).alloc (Nat.le_refl _) _).trans (f.mono ac)⟩
theorem rM (m d y:Int) (w:World) :
  Calls Tryz.prog 266 #[.agg #[m,d],y] w fun e h=>e=.returned (.tuple #[fg y m d,fm y m d])∧Below w w h:=by
 go_enter Tryz.func266,Tryz.ntmps266;go_wp2_with fail;refine (Ek _ _ _ _).mono ?_;rintro e o ⟨rfl,f⟩;go_wp2;go_ret2;exact ⟨rfl,((Below.refl _ _).alloc (Nat.le_refl _) _).trans (f.mono ac)⟩
def tF (y m:Int):Int:=if aP y m then bK y m else 0
def tJ (y m:Int):Int:=if aP y m then 0 else 4
theorem pP (m y:Int) (w:World) :
  Calls Tryz.prog 265 #[m,y] w fun e R=>e=.returned (.tuple #[tF y m,tJ y m])∧Below w w R:=by
 cases h:aP y m
 ·have J:dI y m=4:=by simp [dI,h]
  have F:=hide (show tF y m=0 by simp [tF,h]);have G:=hide (show tJ y m=4 by simp [tJ,h]);go_enter Tryz.func265,Tryz.ntmps265;go_wp2_with fail;refine (dt _ _ _).mono ?_;rintro e S ⟨rfl,f⟩;rw [J];go_wp2;go_ret2;exact ⟨aw F.out.symm G.out.symm,f⟩
 ·have J:dI y m=0:=by simp [dI,h]
  have I:=iR y m h;have o:cQ y m (bS y m)=0:=by simp [cQ,I]
  have E:iY y m (bS y m)=bK y m:=by simp [iY,I,bK]
  have F:=hide (show tF y m=bK y m by simp [tF,h]);have G:=hide (show tJ y m=0 by simp [tJ,h]);have O:=hide (And.intro o E);clear o E I;go_enter Tryz.func265,Tryz.ntmps265;go_wp2_with fail;refine (dt _ _ _).mono ?_;rintro e S ⟨rfl,f⟩;rw [J];go_wp2_with fail;refine (zy _ _ _ _).mono ?_;rintro e T ⟨rfl,H⟩;rw [O.out.1,O.out.2];go_wp2;go_ret2;exact ⟨aw F.out.symm G.out.symm,f.trans (H.mono f.size)⟩
def jc (k m d:Int):Value:=
 if k=1∨k=4 then .iface 236 (.agg #[m,d]) else if k=6 then .iface 237 (.int .i64 m) else .iface 238 (.agg #[m,d])
theorem jM (c:ar) (w:World) :
  Calls Tryz.prog 144 #[av c] w fun e f=>e=.returned (jc c.kind c.month c.day)∧Below w w f:=by
 simp only [av];go_enter Tryz.func144,Tryz.ntmps144;go_wp2
 all_goals
  go_ret;refine ⟨?_,by (repeat' exact bel)⟩;simp_all [jc]
def aO (c:ar) (y a:Int):Int:=if c.okB then (if a≤y∧y≤9997 then 0 else 11) else 1
theorem fH (c:ar) (y a:Int) (w:World) (E:c.name.size≤1000) :
  Calls Tryz.prog 143 #[av c,y,a] w fun e G=>e=.returned (.int .i64 (aO c y a))∧Below w w G:=by
 simp only [av];cases h:c.okB
 ·have o:co c=1:=by simp [co,h]
  have F:=hide (show aO c y a=1 by simp [aO,h]);go_enter Tryz.func143,Tryz.ntmps143;go_wp2_with fail;refine (bs c _ E).mono ?_;rintro e H ⟨rfl,f⟩;rw [o];go_wp2;go_ret;exact ⟨aZ F.out.symm,((Below.refl _ _).alloc (Nat.le_refl _) _).trans (f.mono ac)⟩
 ·have o:co c=0:=by simp [co,h]
  go_enter Tryz.func143,Tryz.ntmps143;go_wp2_with fail;refine (bs c _ E).mono ?_;rintro e H ⟨rfl,f⟩;rw [o];go_wp2
  all_goals
   go_ret;refine ⟨aZ ?_,((Below.refl _ _).alloc (Nat.le_refl _) _).trans (f.mono ac)⟩;clear f;simp only [aO,h]
   grind
abbrev aG (w:World) (B:Nat) (c:ar):Prop:=
 w.cell? ⟨B,0,none⟩=some (.string c.name)∧w.cell? ⟨B,1,none⟩=some (.int .i64 c.kind)∧w.cell? ⟨B,2,none⟩=some (.int .i64 c.day)∧w.cell? ⟨B,3,none⟩=some (.int .i64 c.month) ∧
 w.cell? ⟨B,4,none⟩=some (.int .i64 c.shift)∧w.cell? ⟨B,5,none⟩=some (.int .i64 c.shape)∧w.cell? ⟨B,6,none⟩=some (.int .i64 c.p0)∧w.cell? ⟨B,7,none⟩=some (.int .i64 c.p1) ∧
 w.cell? ⟨B,8,none⟩=some (.int .i64 c.p2)∧w.cell? ⟨B,9,none⟩=some (.int .i64 c.cycle)∧w.cell? ⟨B,10,none⟩=some (.int .i64 c.extra)∧w.cell? ⟨B,11,none⟩=some (.int .i64 c.first) ∧
 w.cell? ⟨B,12,none⟩=some (.int .i64 c.last)∧w.cell? ⟨B,13,none⟩=some (.int .i64 c.policy)
abbrev bG (c:ar):Obj:=.cells #[.string c.name,c.kind,c.day,c.month,c.shift,c.shape,c.p0,c.p1,c.p2,c.cycle,c.extra,c.first,c.last,c.policy] 24
theorem au (w:World) (c:ar):aG (w.alloc (bG c)) w.heap.size c:=by
 refine ⟨?_,?_,?_,?_,?_,?_,?_,?_,?_,?_,?_,?_,?_,?_⟩ <;> simp
theorem mb {W H:World} {B:Nat} {c:ar} (h:∀ o,H.cell? ⟨B,o,none⟩=W.cell? ⟨B,o,none⟩) (Q:aG W B c):aG H B c:=by
 obtain ⟨I,J,O,R,S,T,U,V,q8,q9,f,E,F,G⟩:=Q;exact ⟨(h 0).trans I,(h 1).trans J,(h 2).trans O,(h 3).trans R,(h 4).trans S,(h 5).trans T,(h 6).trans U,(h 7).trans V,(h 8).trans q8,(h 9).trans q9,(h 10).trans f,(h 11).trans E,(h 12).trans F,(h 13).trans G⟩
theorem aa {W f:World} {B K:Nat} {c:ar} (E:Below K W f) (h:B<K) (Q:aG W B c):aG f B c:=
 mb (fun o=>E.cell (p:=⟨B,o,none⟩) h) Q
theorem az {W:World} {B:Nat} {c:ar} (Q:aG W B c) (f:B<W.heap.size) (o:Obj):aG (W.alloc o) B c:=
 mb (fun i=>World.cell?_alloc_lt W o ⟨B,i,none⟩ f) Q
theorem qq {W f:World} {p m:Nat} {c:ar} (E:Below m W f) (h:aG W p c:=by first | (with_reducible assumption) | exact az (by with_reducible assumption) om _ | exact az (az (by with_reducible assumption) om _) ae _) (o:p<m:=by exact sz):Hid (aG f p c):=aa E o h
def ct (c:ar) (z:Int):Int:=
 if c.kind=1∨c.kind=4 then bK z c.month-(gR z c.month-c.day+7) % 7 else if c.kind=6 then bK z c.month else bK z c.month+dn z c.month c.day
def bv (c:ar) (y:Int):Int:=if aO c y 1600=0 then ct c (y+c.shift) else 0
def ax (c:ar) (y:Int):Int:=if aO c y 1601=0 then ct c (y-1+c.shift)+1 else 0
theorem l0 (y m:Int) (h:aP y m=true):27≤bK y m:=by
 have o:=nf y m h;have E:1600≤y∧y≤9999∧1≤m∧m≤12:=by simpa [aP] using h
 have F:=iI y om om;have f:=ep y m;unfold bK jl;omega
theorem nc (y m:Int) (h:aP y m=true) (E:y≤9998):bK y m<3068037-365:=by
 have R:1600≤y∧y≤9999∧1≤m∧m≤12:=by simpa [aP] using h
 have I:=iR y m h;have F:=ed y om om;have G:=gg (y+1) 9999 om om;have H:aV 9999=3067672:=by decide
 have o:=gK y;have J:bS y m=aK y (m+1)-aK y m:=by unfold bS;rw [if_pos h]
 have O:aK y (m+1)≤aK y 13:=by
  rcases Int.lt_or_eq_of_le (show m+1≤13 by omega) with f | f
  ·have:=jA y (m+1) 13 om f om;omega
  ·rw [f];omega
 unfold bK jl;omega
theorem bo {c:ar} {y a:Int} (h:aO c y a=0):c.Ok∧a≤y∧y≤9997:=by
 unfold aO at h
 split at h
 ·rename_i hk
  split at h
  ·exact ⟨by simpa [ar.okB] using hk,by assumption⟩
  ·omega
 ·omega
theorem cg {c:ar} (h:c.Ok):(1≤c.month∧c.month≤12)∧(0≤c.shift∧c.shift≤1)∧(1≤c.kind∧c.kind≤6)∧(c.kind≠6→1≤c.day∧c.day≤7):=by
 obtain ⟨_,_,_,f⟩:=h;unfold ar.ruled at f;omega
theorem ET (c:ar) (y:Int) (w:World) (hn:c.name.size≤1000) (O:aO c y 1600=0) (F:c.kind=1∨c.kind=4) :
  Calls Tryz.prog 141 #[av c,y] w fun e f=>e=.returned (.tuple #[bv c y,aO c y 1600])∧Below w w f:=by
 obtain ⟨I,ab,ad⟩:=bo O;obtain ⟨hm,hs,hk,hd⟩:=cg I;have W:aP (y+c.shift) c.month=true:=by simp [aP];omega
 have H1:=hide (show bv c y=ct c (y+c.shift) by simp [bv,O]);have T:=hide O;have G:f9 (y+c.shift) c.month c.day=0:=by simp [f9,W];omega
 have U:cz (y+c.shift) c.month c.day=ct c (y+c.shift):=by simp [cz,G,ct,F]
 have V:f9 (y+c.shift) c.month c.day=0:=G;have HR:=hide (show jc c.kind c.month c.day=.iface 236 (.agg #[c.month,c.day]) by simp [jc,F]);have E1:=hide (show IntKind.i64.wrap (y+c.shift)=(y+c.shift) by first | exact IntWalk.i64_in _ om | rw [IntWalk.i64_in (y-1) om,IntWalk.i64_in _ om]);have H3:=hide U;have H4:=hide V;clear O I W U V F hd
 try clear G
 try clear hab hnd hlo hhi
 try clear hn1
 simp only [av];go_enter Tryz.func141,Tryz.ntmps141;go_wp2_with fail;refine (fH c _ _ _ hn).mono ?_;rintro e w1 ⟨rfl,h⟩;have E:w.heap.size<w1.heap.size:=aj h;have R:=hide (Below.trans ((Below.refl _ _).alloc (Nat.le_refl _) _) (h.mono ac):Below w w w1);have S:=hide (aa h ac (au w c));obtain ⟨q0,q1,q2,q3,q4,q5,q6,q7,q8,q9,ah,al,aq,ay⟩:=S.out;clear h;rw [T.out];go_wp2_with fail
 go_region_held3 (fun f=>f.cell? ⟨w,0,none⟩=some (.string c.name)∧f.cell? ⟨w,1,none⟩=some (.int .i64 c.kind)∧f.cell? ⟨w,2,none⟩=some (.int .i64 c.day)∧f.cell? ⟨w,3,none⟩=some (.int .i64 c.month)∧f.cell? ⟨w,4,none⟩=some (.int .i64 c.shift)∧f.cell? ⟨w,5,none⟩=some (.int .i64 c.shape)∧f.cell? ⟨w,6,none⟩=some (.int .i64 c.p0)∧f.cell? ⟨w,7,none⟩=some (.int .i64 c.p1)∧f.cell? ⟨w,8,none⟩=some (.int .i64 c.p2)∧f.cell? ⟨w,9,none⟩=some (.int .i64 c.cycle)∧f.cell? ⟨w,10,none⟩=some (.int .i64 c.extra)∧f.cell? ⟨w,11,none⟩=some (.int .i64 c.first)∧f.cell? ⟨w,12,none⟩=some (.int .i64 c.last)∧f.cell? ⟨w,13,none⟩=some (.int .i64 c.policy)) (first | go_keep | exact aa o E S.out | exact aa H J (aa o E S.out))
  (first
  | (go_at_call 144;refine (jM c _).mono ?_;rintro e w2 ⟨rfl,o⟩;rw [HR.out];have J:w.heap.size<w2.heap.size:=Nat.lt_of_lt_of_le E o.size)
  | (go_at_call 264;refine (rn _ _ _ _).mono ?_;rintro e w3 ⟨rfl,H⟩;rw [E1.out,H3.out,H4.out]))
 all_goals
  go_simp;go_wp2;go_ret2;refine ⟨aw ?_ T.out.symm,?_⟩
  ·exact H1.out.symm
  ·exact (R.out.drew.trans (o.mono (Nat.le_of_lt E))).trans (H.mono (Nat.le_of_lt J))
theorem CI (c:ar) (y:Int) (w:World) (hn:c.name.size≤1000) (J:aO c y 1600=0) (F:c.kind=6) :
  Calls Tryz.prog 141 #[av c,y] w fun e f=>e=.returned (.tuple #[bv c y,aO c y 1600])∧Below w w f:=by
 obtain ⟨H,ab,ad⟩:=bo J;obtain ⟨hm,hs,hk,hd⟩:=cg H;have T:aP (y+c.shift) c.month=true:=by simp [aP];omega
 have H1:=hide (show bv c y=ct c (y+c.shift) by simp [bv,J]);have U:=hide J;have S:¬ (c.kind=1∨c.kind=4):=om;have V:tF (y+c.shift) c.month=ct c (y+c.shift):=by simp [tF,T,ct,F]
 have W:tJ (y+c.shift) c.month=0:=by simp [tJ,T]
 have HR:=hide (show jc c.kind c.month c.day=.iface 237 (.int .i64 c.month) by simp [jc,F]);have E1:=hide (show IntKind.i64.wrap (y+c.shift)=(y+c.shift) by first | exact IntWalk.i64_in _ om | rw [IntWalk.i64_in (y-1) om,IntWalk.i64_in _ om]);have H3:=hide V;have H4:=hide W;clear J H T V W F hd
 try clear hwk
 try clear hab hnd hlo hhi
 try clear S
 simp only [av];go_enter Tryz.func141,Tryz.ntmps141;go_wp2_with fail;refine (fH c _ _ _ hn).mono ?_;rintro e w1 ⟨rfl,h⟩;have E:w.heap.size<w1.heap.size:=aj h;have O:=hide (Below.trans ((Below.refl _ _).alloc (Nat.le_refl _) _) (h.mono ac):Below w w w1);have R:=hide (aa h ac (au w c));obtain ⟨q0,q1,q2,q3,q4,q5,q6,q7,q8,q9,ah,al,aq,ay⟩:=R.out;clear h;rw [U.out];go_wp2_with fail
 go_region_held3 (fun f=>f.cell? ⟨w,0,none⟩=some (.string c.name)∧f.cell? ⟨w,1,none⟩=some (.int .i64 c.kind)∧f.cell? ⟨w,2,none⟩=some (.int .i64 c.day)∧f.cell? ⟨w,3,none⟩=some (.int .i64 c.month)∧f.cell? ⟨w,4,none⟩=some (.int .i64 c.shift)∧f.cell? ⟨w,5,none⟩=some (.int .i64 c.shape)∧f.cell? ⟨w,6,none⟩=some (.int .i64 c.p0)∧f.cell? ⟨w,7,none⟩=some (.int .i64 c.p1)∧f.cell? ⟨w,8,none⟩=some (.int .i64 c.p2)∧f.cell? ⟨w,9,none⟩=some (.int .i64 c.cycle)∧f.cell? ⟨w,10,none⟩=some (.int .i64 c.extra)∧f.cell? ⟨w,11,none⟩=some (.int .i64 c.first)∧f.cell? ⟨w,12,none⟩=some (.int .i64 c.last)∧f.cell? ⟨w,13,none⟩=some (.int .i64 c.policy)) (first | go_keep | exact aa o E R.out | exact aa G I (aa o E R.out))
  (first
  | (go_at_call 144;refine (jM c _).mono ?_;rintro e w2 ⟨rfl,o⟩;rw [HR.out];have I:w.heap.size<w2.heap.size:=Nat.lt_of_lt_of_le E o.size)
  | (go_at_call 265;refine (pP _ _ _).mono ?_;rintro e w3 ⟨rfl,G⟩;rw [E1.out,H3.out,H4.out]))
 all_goals
  go_simp;go_wp2;go_ret2;refine ⟨aw ?_ U.out.symm,?_⟩
  ·exact H1.out.symm
  ·exact (O.out.drew.trans (o.mono (Nat.le_of_lt E))).trans (G.mono (Nat.le_of_lt I))
theorem DO (c:ar) (y:Int) (w:World) (hn:c.name.size≤1000) (R:aO c y 1600=0) (h:¬ (c.kind=1∨c.kind=4)∧¬ c.kind=6) :
  Calls Tryz.prog 141 #[av c,y] w fun e f=>e=.returned (.tuple #[bv c y,aO c y 1600])∧Below w w f:=by
 obtain ⟨J,ad,ah⟩:=bo R;obtain ⟨hm,hs,hk,hd⟩:=cg J;have S:aP (y+c.shift) c.month=true:=by simp [aP];omega
 have H1:=hide (show bv c y=ct c (y+c.shift) by simp [bv,R]);have H2:=hide R;have H:f9 (y+c.shift) c.month c.day=0:=by simp [f9,S];omega
 have W:=l0 (y+c.shift) c.month S;have V:=nc (y+c.shift) c.month S om;have ab:-3≤dn (y+c.shift) c.month c.day∧dn (y+c.shift) c.month c.day≤3:=by unfold dn;omega
 have G:kr (bK (y+c.shift) c.month) (dn (y+c.shift) c.month c.day)=true:=by simp [kr,cH];omega
 have h3:fg (y+c.shift) c.month c.day=ct c (y+c.shift):=by simp [fg,H,ct,h.1,h.2,qy,G]
 have h4:fm (y+c.shift) c.month c.day=0:=by simp [fm,H,pq,G]
 have HR:=hide (show jc c.kind c.month c.day=.iface 238 (.agg #[c.month,c.day]) by simp [jc,h.1,h.2]);have E1:=hide (show IntKind.i64.wrap (y+c.shift)=(y+c.shift) by first | exact IntWalk.i64_in _ om | rw [IntWalk.i64_in (y-1) om,IntWalk.i64_in _ om]);have H3:=hide h3;have H4:=hide h4;clear R J S h3 h4 h hd
 try clear H
 try clear G ab W V
 try clear hn1
 simp only [av];go_enter Tryz.func141,Tryz.ntmps141;go_wp2_with fail;refine (fH c _ _ _ hn).mono ?_;rintro e w1 ⟨rfl,o⟩;have F:w.heap.size<w1.heap.size:=aj o;have T:=hide (Below.trans ((Below.refl _ _).alloc (Nat.le_refl _) _) (o.mono ac):Below w w w1);have U:=hide (aa o ac (au w c));obtain ⟨q0,q1,q2,q3,q4,q5,q6,q7,q8,q9,al,aq,ay,aA⟩:=U.out;clear o;rw [H2.out];go_wp2_with fail
 go_region_held3 (fun f=>f.cell? ⟨w,0,none⟩=some (.string c.name)∧f.cell? ⟨w,1,none⟩=some (.int .i64 c.kind)∧f.cell? ⟨w,2,none⟩=some (.int .i64 c.day)∧f.cell? ⟨w,3,none⟩=some (.int .i64 c.month)∧f.cell? ⟨w,4,none⟩=some (.int .i64 c.shift)∧f.cell? ⟨w,5,none⟩=some (.int .i64 c.shape)∧f.cell? ⟨w,6,none⟩=some (.int .i64 c.p0)∧f.cell? ⟨w,7,none⟩=some (.int .i64 c.p1)∧f.cell? ⟨w,8,none⟩=some (.int .i64 c.p2)∧f.cell? ⟨w,9,none⟩=some (.int .i64 c.cycle)∧f.cell? ⟨w,10,none⟩=some (.int .i64 c.extra)∧f.cell? ⟨w,11,none⟩=some (.int .i64 c.first)∧f.cell? ⟨w,12,none⟩=some (.int .i64 c.last)∧f.cell? ⟨w,13,none⟩=some (.int .i64 c.policy)) (first | go_keep | exact aa E F U.out | exact aa I O (aa E F U.out))
  (first
  | (go_at_call 144;refine (jM c _).mono ?_;rintro e w2 ⟨rfl,E⟩;rw [HR.out];have O:w.heap.size<w2.heap.size:=Nat.lt_of_lt_of_le F E.size)
  | (go_at_call 266;refine (rM _ _ _ _).mono ?_;rintro e w3 ⟨rfl,I⟩;rw [E1.out,H3.out,H4.out]))
 all_goals
  go_simp;go_wp2;go_ret2;refine ⟨aw ?_ H2.out.symm,?_⟩
  ·exact H1.out.symm
  ·exact (T.out.drew.trans (E.mono (Nat.le_of_lt F))).trans (I.mono (Nat.le_of_lt O))
theorem Jh (c:ar) (y:Int) (w:World) (F:c.name.size≤1000) (f:¬ aO c y 1600=0) :
  Calls Tryz.prog 141 #[av c,y] w fun e G=>e=.returned (.tuple #[bv c y,aO c y 1600])∧Below w w G:=by
 have E:(aO c y 1600 != 0)=true:=by simpa using f
 have o:=hide (show bv c y=0 by simp [bv,f]);clear f;simp only [av];go_enter Tryz.func141,Tryz.ntmps141;go_wp2_with fail;refine (fH c _ _ _ F).mono ?_;rintro e H ⟨rfl,h⟩;go_wp2;go_ret2;exact ⟨aw o.out.symm rfl,((Below.refl _ _).alloc (Nat.le_refl _) _).trans (h.mono ac)⟩
theorem oG (c:ar) (y:Int) (w:World) (o:c.name.size≤1000) :
  Calls Tryz.prog 141 #[av c,y] w fun e E=>e=.returned (.tuple #[bv c y,aO c y 1600])∧Below w w E:=by
 by_cases h:aO c y 1600=0
 ·have f:(c.kind=1∨c.kind=4)∨c.kind=6∨¬ (c.kind=1∨c.kind=4)∧¬ c.kind=6:=om
  rcases f with f | f | f
  ·exact ET c y w o h f
  ·exact CI c y w o h f
  ·exact DO c y w o h f
 ·exact Jh c y w o h
theorem lZ (c:ar) (z:Int) (f:c.Ok) (h:aP z c.month=true) (F:z≤9998):0≤ct c z∧ct c z≤3068037:=by
 have E:=l0 z c.month h;have o:=nc z c.month h F;obtain ⟨I,J,H,G⟩:=cg f;have O:=gD z c.month;unfold ct dn
 split
 ·omega
 ·split <;> omega
theorem wY (c:ar) (y:Int) (w:World) (hn:c.name.size≤1000) (O:aO c y 1601=0) (F:c.kind=1∨c.kind=4) :
  Calls Tryz.prog 88 #[av c,y] w fun e f=>e=.returned (.tuple #[ax c y,aO c y 1601])∧Below w w f:=by
 obtain ⟨G,ab,ad⟩:=bo O;obtain ⟨hm,hs,hk,hd⟩:=cg G;have T:aP (y-1+c.shift) c.month=true:=by simp [aP];omega
 have H1:=hide (show ax c y=ct c (y-1+c.shift)+1 by simp [ax,O]);have U:=hide O;have H:f9 (y-1+c.shift) c.month c.day=0:=by simp [f9,T];omega
 have V:cz (y-1+c.shift) c.month c.day=ct c (y-1+c.shift):=by simp [cz,H,ct,F]
 have W:f9 (y-1+c.shift) c.month c.day=0:=H;have HR:=hide (show jc c.kind c.month c.day=.iface 236 (.agg #[c.month,c.day]) by simp [jc,F]);have E1:=hide (show IntKind.i64.wrap (IntKind.i64.wrap (y-1)+c.shift)=(y-1+c.shift) by first | exact IntWalk.i64_in _ om | rw [IntWalk.i64_in (y-1) om,IntWalk.i64_in _ om]);have H3:=hide V;have H4:=hide W;have HF:=lZ c (y-1+c.shift) G T om;clear O G T V W F hd
 try clear H
 try clear hab hnd hlo hhi
 try clear hn1
 simp only [av];go_enter Tryz.func88,Tryz.ntmps88;go_wp2_with fail;refine (fH c _ _ _ hn).mono ?_;rintro e w1 ⟨rfl,h⟩;have E:w.heap.size<w1.heap.size:=aj h;have R:=hide (Below.trans ((Below.refl _ _).alloc (Nat.le_refl _) _) (h.mono ac):Below w w w1);have S:=hide (aa h ac (au w c));obtain ⟨q0,q1,q2,q3,q4,q5,q6,q7,q8,q9,ah,al,aq,ay⟩:=S.out;clear h;rw [U.out];go_wp2_with fail
 go_region_held3 (fun f=>f.cell? ⟨w,0,none⟩=some (.string c.name)∧f.cell? ⟨w,1,none⟩=some (.int .i64 c.kind)∧f.cell? ⟨w,2,none⟩=some (.int .i64 c.day)∧f.cell? ⟨w,3,none⟩=some (.int .i64 c.month)∧f.cell? ⟨w,4,none⟩=some (.int .i64 c.shift)∧f.cell? ⟨w,5,none⟩=some (.int .i64 c.shape)∧f.cell? ⟨w,6,none⟩=some (.int .i64 c.p0)∧f.cell? ⟨w,7,none⟩=some (.int .i64 c.p1)∧f.cell? ⟨w,8,none⟩=some (.int .i64 c.p2)∧f.cell? ⟨w,9,none⟩=some (.int .i64 c.cycle)∧f.cell? ⟨w,10,none⟩=some (.int .i64 c.extra)∧f.cell? ⟨w,11,none⟩=some (.int .i64 c.first)∧f.cell? ⟨w,12,none⟩=some (.int .i64 c.last)∧f.cell? ⟨w,13,none⟩=some (.int .i64 c.policy)) (first | go_keep | exact aa o E S.out | exact aa I J (aa o E S.out))
  (first
  | (go_at_call 144;refine (jM c _).mono ?_;rintro e w2 ⟨rfl,o⟩;rw [HR.out];have J:w.heap.size<w2.heap.size:=Nat.lt_of_lt_of_le E o.size)
  | (go_at_call 264;refine (rn _ _ _ _).mono ?_;rintro e w3 ⟨rfl,I⟩;rw [E1.out,H3.out,H4.out]))
 all_goals
  go_simp;go_wp2;go_ret2;refine ⟨aw ?_ U.out.symm,?_⟩
  ·exact H1.out.symm
  ·exact (R.out.drew.trans (o.mono (Nat.le_of_lt E))).trans (I.mono (Nat.le_of_lt J))
theorem vt (c:ar) (y:Int) (w:World) (hn:c.name.size≤1000) (J:aO c y 1601=0) (F:c.kind=6) :
  Calls Tryz.prog 88 #[av c,y] w fun e f=>e=.returned (.tuple #[ax c y,aO c y 1601])∧Below w w f:=by
 obtain ⟨G,ab,ad⟩:=bo J;obtain ⟨hm,hs,hk,hd⟩:=cg G;have O:aP (y-1+c.shift) c.month=true:=by simp [aP];omega
 have H1:=hide (show ax c y=ct c (y-1+c.shift)+1 by simp [ax,J]);have U:=hide J;have T:¬ (c.kind=1∨c.kind=4):=om;have V:tF (y-1+c.shift) c.month=ct c (y-1+c.shift):=by simp [tF,O,ct,F]
 have W:tJ (y-1+c.shift) c.month=0:=by simp [tJ,O]
 have HR:=hide (show jc c.kind c.month c.day=.iface 237 (.int .i64 c.month) by simp [jc,F]);have E1:=hide (show IntKind.i64.wrap (IntKind.i64.wrap (y-1)+c.shift)=(y-1+c.shift) by first | exact IntWalk.i64_in _ om | rw [IntWalk.i64_in (y-1) om,IntWalk.i64_in _ om]);have H3:=hide V;have H4:=hide W;have HF:=lZ c (y-1+c.shift) G O om;clear J G O V W F hd
 try clear hwk
 try clear hab hnd hlo hhi
 try clear T
 simp only [av];go_enter Tryz.func88,Tryz.ntmps88;go_wp2_with fail;refine (fH c _ _ _ hn).mono ?_;rintro e w1 ⟨rfl,h⟩;have E:w.heap.size<w1.heap.size:=aj h;have R:=hide (Below.trans ((Below.refl _ _).alloc (Nat.le_refl _) _) (h.mono ac):Below w w w1);have S:=hide (aa h ac (au w c));obtain ⟨q0,q1,q2,q3,q4,q5,q6,q7,q8,q9,ah,al,aq,ay⟩:=S.out;clear h;rw [U.out];go_wp2_with fail
 go_region_held3 (fun f=>f.cell? ⟨w,0,none⟩=some (.string c.name)∧f.cell? ⟨w,1,none⟩=some (.int .i64 c.kind)∧f.cell? ⟨w,2,none⟩=some (.int .i64 c.day)∧f.cell? ⟨w,3,none⟩=some (.int .i64 c.month)∧f.cell? ⟨w,4,none⟩=some (.int .i64 c.shift)∧f.cell? ⟨w,5,none⟩=some (.int .i64 c.shape)∧f.cell? ⟨w,6,none⟩=some (.int .i64 c.p0)∧f.cell? ⟨w,7,none⟩=some (.int .i64 c.p1)∧f.cell? ⟨w,8,none⟩=some (.int .i64 c.p2)∧f.cell? ⟨w,9,none⟩=some (.int .i64 c.cycle)∧f.cell? ⟨w,10,none⟩=some (.int .i64 c.extra)∧f.cell? ⟨w,11,none⟩=some (.int .i64 c.first)∧f.cell? ⟨w,12,none⟩=some (.int .i64 c.last)∧f.cell? ⟨w,13,none⟩=some (.int .i64 c.policy)) (first | go_keep | exact aa o E S.out | exact aa H I (aa o E S.out))
  (first
  | (go_at_call 144;refine (jM c _).mono ?_;rintro e w2 ⟨rfl,o⟩;rw [HR.out];have I:w.heap.size<w2.heap.size:=Nat.lt_of_lt_of_le E o.size)
  | (go_at_call 265;refine (pP _ _ _).mono ?_;rintro e w3 ⟨rfl,H⟩;rw [E1.out,H3.out,H4.out]))
 all_goals
  go_simp;go_wp2;go_ret2;refine ⟨aw ?_ U.out.symm,?_⟩
  ·exact H1.out.symm
  ·exact (R.out.drew.trans (o.mono (Nat.le_of_lt E))).trans (H.mono (Nat.le_of_lt I))
theorem xv (c:ar) (y:Int) (w:World) (hn:c.name.size≤1000) (S:aO c y 1601=0) (h:¬ (c.kind=1∨c.kind=4)∧¬ c.kind=6) :
  Calls Tryz.prog 88 #[av c,y] w fun e f=>e=.returned (.tuple #[ax c y,aO c y 1601])∧Below w w f:=by
 obtain ⟨H,ad,ah⟩:=bo S;obtain ⟨hm,hs,hk,hd⟩:=cg H;have O:aP (y-1+c.shift) c.month=true:=by simp [aP];omega
 have H1:=hide (show ax c y=ct c (y-1+c.shift)+1 by simp [ax,S]);have H2:=hide S;have I:f9 (y-1+c.shift) c.month c.day=0:=by simp [f9,O];omega
 have W:=l0 (y-1+c.shift) c.month O;have V:=nc (y-1+c.shift) c.month O om;have ab:-3≤dn (y-1+c.shift) c.month c.day∧dn (y-1+c.shift) c.month c.day≤3:=by unfold dn;omega
 have G:kr (bK (y-1+c.shift) c.month) (dn (y-1+c.shift) c.month c.day)=true:=by simp [kr,cH];omega
 have h3:fg (y-1+c.shift) c.month c.day=ct c (y-1+c.shift):=by simp [fg,I,ct,h.1,h.2,qy,G]
 have h4:fm (y-1+c.shift) c.month c.day=0:=by simp [fm,I,pq,G]
 have HR:=hide (show jc c.kind c.month c.day=.iface 238 (.agg #[c.month,c.day]) by simp [jc,h.1,h.2]);have E1:=hide (show IntKind.i64.wrap (IntKind.i64.wrap (y-1)+c.shift)=(y-1+c.shift) by first | exact IntWalk.i64_in _ om | rw [IntWalk.i64_in (y-1) om,IntWalk.i64_in _ om]);have H3:=hide h3;have H4:=hide h4;have HF:=lZ c (y-1+c.shift) H O om;clear S H O h3 h4 h hd
 try clear I
 try clear G ab W V
 try clear hn1
 simp only [av];go_enter Tryz.func88,Tryz.ntmps88;go_wp2_with fail;refine (fH c _ _ _ hn).mono ?_;rintro e w1 ⟨rfl,o⟩;have F:w.heap.size<w1.heap.size:=aj o;have T:=hide (Below.trans ((Below.refl _ _).alloc (Nat.le_refl _) _) (o.mono ac):Below w w w1);have U:=hide (aa o ac (au w c));obtain ⟨q0,q1,q2,q3,q4,q5,q6,q7,q8,q9,al,aq,ay,aA⟩:=U.out;clear o;rw [H2.out];go_wp2_with fail
 go_region_held3 (fun f=>f.cell? ⟨w,0,none⟩=some (.string c.name)∧f.cell? ⟨w,1,none⟩=some (.int .i64 c.kind)∧f.cell? ⟨w,2,none⟩=some (.int .i64 c.day)∧f.cell? ⟨w,3,none⟩=some (.int .i64 c.month)∧f.cell? ⟨w,4,none⟩=some (.int .i64 c.shift)∧f.cell? ⟨w,5,none⟩=some (.int .i64 c.shape)∧f.cell? ⟨w,6,none⟩=some (.int .i64 c.p0)∧f.cell? ⟨w,7,none⟩=some (.int .i64 c.p1)∧f.cell? ⟨w,8,none⟩=some (.int .i64 c.p2)∧f.cell? ⟨w,9,none⟩=some (.int .i64 c.cycle)∧f.cell? ⟨w,10,none⟩=some (.int .i64 c.extra)∧f.cell? ⟨w,11,none⟩=some (.int .i64 c.first)∧f.cell? ⟨w,12,none⟩=some (.int .i64 c.last)∧f.cell? ⟨w,13,none⟩=some (.int .i64 c.policy)) (first | go_keep | exact aa E F U.out | exact aa J R (aa E F U.out))
  (first
  | (go_at_call 144;refine (jM c _).mono ?_;rintro e w2 ⟨rfl,E⟩;rw [HR.out];have R:w.heap.size<w2.heap.size:=Nat.lt_of_lt_of_le F E.size)
  | (go_at_call 266;refine (rM _ _ _ _).mono ?_;rintro e w3 ⟨rfl,J⟩;rw [E1.out,H3.out,H4.out]))
 all_goals
  go_simp;go_wp2;go_ret2;refine ⟨aw ?_ H2.out.symm,?_⟩
  ·exact H1.out.symm
  ·exact (T.out.drew.trans (E.mono (Nat.le_of_lt F))).trans (J.mono (Nat.le_of_lt R))
theorem E8 (c:ar) (y:Int) (w:World) (F:c.name.size≤1000) (f:¬ aO c y 1601=0) :
  Calls Tryz.prog 88 #[av c,y] w fun e G=>e=.returned (.tuple #[ax c y,aO c y 1601])∧Below w w G:=by
 have E:(aO c y 1601 != 0)=true:=by simpa using f
 have o:=hide (show ax c y=0 by simp [ax,f]);clear f;simp only [av];go_enter Tryz.func88,Tryz.ntmps88;go_wp2_with fail;refine (fH c _ _ _ F).mono ?_;rintro e H ⟨rfl,h⟩;go_wp2;go_ret2;exact ⟨aw o.out.symm rfl,((Below.refl _ _).alloc (Nat.le_refl _) _).trans (h.mono ac)⟩
theorem dN (c:ar) (y:Int) (w:World) (o:c.name.size≤1000) :
  Calls Tryz.prog 88 #[av c,y] w fun e E=>e=.returned (.tuple #[ax c y,aO c y 1601])∧Below w w E:=by
 by_cases h:aO c y 1601=0
 ·have f:(c.kind=1∨c.kind=4)∨c.kind=6∨¬ (c.kind=1∨c.kind=4)∧¬ c.kind=6:=om
  rcases f with f | f | f
  ·exact wY c y w o h f
  ·exact vt c y w o h f
  ·exact xv c y w o h f
 ·exact E8 c y w o h
theorem gE (y m:Int) (h:aP y m=true):bK y m=aV y+aK y (m+1)-1:=by
 have f:bS y m=aK y (m+1)-aK y m:=by unfold bS;rw [if_pos h]
 unfold bK jl;omega
theorem yJ (y f m:Int):aK y m-1≤aK f m∧aK f m≤aK y m+1:=by
 unfold aK
 split <;> split <;> omega
theorem sc (y m:Int) (h:aP y m=true) (G:y≤9998):bK y m+364≤bK (y+1) m∧bK (y+1) m≤bK y m+367:=by
 have F:1600≤y∧y≤9999∧1≤m∧m≤12:=by simpa [aP] using h
 have o:aP (y+1) m=true:=by simp [aP];omega
 rw [gE y m h,gE (y+1) m o];have f:=ed y om om;have E:=yJ y (y+1) (m+1)
 split at f <;> omega
theorem F5 (c:ar) (z:Int) (f:c.Ok) (h:aP z c.month=true) (o:z≤9998):ct c z+358≤ct c (z+1)∧ct c (z+1)≤ct c z+373:=by
 have e:=sc z c.month h o;obtain ⟨G,H,F,E⟩:=cg f;have I:=gD z c.month;have J:=gD (z+1) c.month;unfold ct dn
 split
 ·omega
 ·split <;> omega
theorem zO (c:ar) (z:Int) (h:c.Ok) (f:c.kind≠6):(ct c z+5) % 7+1=c.day:=by
 obtain ⟨G,H,F,o⟩:=cg h;have E:=o f;unfold ct
 split
 ·unfold gR;omega
 ·unfold dn gR;omega
theorem fo {c:ar} {y:Int} (h:aO c y 1601=0):aO c y 1600=0:=by
 obtain ⟨f,o,E⟩:=bo h;have:c.okB=true:=by simpa [ar.okB] using f
 simp [aO,this];omega
theorem lg {c:ar} {y a:Int} (h:aO c y a=0) (F:1600≤a):aP (y+c.shift) c.month=true:=by
 obtain ⟨f,o,E⟩:=bo h;obtain ⟨I,J,H,G⟩:=cg f;simp [aP];omega
theorem jY {c:ar} {y:Int} (h:aO c y 1601=0):aP (y-1+c.shift) c.month=true:=by
 obtain ⟨f,o,E⟩:=bo h;obtain ⟨H,I,G,F⟩:=cg f;simp [aP];omega
def bP (c:ar) (y:Int):Int:=if aO c y 1601=0 then bv c y-ax c y+1 else 0
theorem ch (c:ar) (y:Int) (h:aO c y 1601=0):0≤ax c y∧ax c y≤3068037∧0≤bv c y∧bv c y≤3068037∧358≤bP c y∧bP c y≤373:=by
 obtain ⟨f,U,V⟩:=bo h;obtain ⟨hm,hs,hk,W⟩:=cg f;have o:=jY h;have O:=lg h om;have R:=lZ c (y-1+c.shift) f o om;have S:=lZ c (y+c.shift) f O om;have J:=F5 c (y-1+c.shift) f o om;have e:y-1+c.shift+1=y+c.shift:=om;rw [e] at J;have G:ax c y=ct c (y-1+c.shift)+1:=by simp [ax,h]
 have F:bv c y=ct c (y+c.shift):=by simp [bv,fo h]
 have E:bP c y=bv c y-ax c y+1:=by simp [bP,h]
 rw [E,G,F];have I:=l0 _ _ o;have H:=nc _ _ o om;have hw:=gD (y-1+c.shift) c.month;have T:ct c (y-1+c.shift)+1≤3068037:=by
  unfold ct dn
  split
  ·omega
  ·split <;> omega
 omega
theorem iE (c:ar) (y:Int) (h:aO c y 1601=0) (f:c.kind≠6):bP c y=364∨bP c y=371:=by
 obtain ⟨o,J,O⟩:=bo h;have R:=ch c y h;have H:=zO c (y-1+c.shift) o f;have I:=zO c (y+c.shift) o f;have G:ax c y=ct c (y-1+c.shift)+1:=by simp [ax,h]
 have F:bv c y=ct c (y+c.shift):=by simp [bv,fo h]
 have E:bP c y=bv c y-ax c y+1:=by simp [bP,h]
 omega
theorem EE (c:ar) (y:Int) (w:World) (H:c.name.size≤1000) :
  Calls Tryz.prog 207 #[av c,y] w fun e w'=>e=.returned (.tuple #[bP c y,aO c y 1601])∧Below w w w':=by
 by_cases h:aO c y 1601=0
 ·have o:=fo h
  have hb:=ch c y h;have E:=hide (show bP c y=bv c y-ax c y+1 by simp [bP,h]);have U:=hide h;have V:=hide o;clear h o;simp only [av];go_enter Tryz.func207,Tryz.ntmps207;go_wp2_with fail;refine (dN c _ _ H).mono ?_;rintro e T ⟨rfl,f⟩;have I:w.heap.size<T.heap.size:=aj f;have F:=hide (Below.trans ((Below.refl _ _).alloc (Nat.le_refl _) _) (f.mono ac):Below w w T);have W:=hide (aa f ac (au w c));obtain ⟨q0,q1,q2,q3,q4,q5,q6,q7,q8,q9,J,O,R,S⟩:=W.out;clear f;rw [U.out];go_wp2_with fail;refine (oG c _ _ H).mono ?_;rintro e w2 ⟨rfl,G⟩;rw [V.out];clear q0 q1 q2 q3 q4 q5 q6 q7 q8 q9 J O R S;go_wp2;go_ret2;exact ⟨aw E.out.symm U.out.symm,F.out.trans (G.mono (Nat.le_of_lt I))⟩
 ·have ab:(aO c y 1601 != 0)=true:=by simpa using h
  have E:=hide (show bP c y=0 by simp [bP,h]);clear h;simp only [av];go_enter Tryz.func207,Tryz.ntmps207;go_wp2_with fail;refine (dN c _ _ H).mono ?_;rintro e T ⟨rfl,f⟩;go_wp2;go_ret2;exact ⟨aw E.out.symm rfl,((Below.refl _ _).alloc (Nat.le_refl _) _).trans (f.mono ac)⟩
def fZ (c:ar):Bool:=c.okB&&decide (c.kind≠6)
def aL (c:ar) (y:Int):Int:=if fZ c then bP c y / 7 else 0
def dA (c:ar) (y:Int):Int:=if fZ c then aO c y 1601 else 1
theorem zN (c:ar) (y:Int):0≤bP c y∧bP c y≤380:=by
 by_cases h:aO c y 1601=0
 ·have:=ch c y h;omega
 ·simp [bP,h]
theorem du (c:ar) (y:Int) (w:World) (S:c.name.size≤1000) :
  Calls Tryz.prog 147 #[av c,y] w fun e w'=>e=.returned (.tuple #[aL c y,dA c y])∧Below w w w':=by
 have ad:=zN c y;cases o:c.okB
 ·have R:co c=1:=by simp [co,o]
  have E:=hide (show aL c y=0 by simp [aL,fZ,o]);have F:=hide (show dA c y=1 by simp [dA,fZ,o]);simp only [av];go_enter Tryz.func147,Tryz.ntmps147;go_wp2_with fail;refine (bs c _ S).mono ?_;rintro e T ⟨rfl,f⟩;rw [R];go_wp2;go_ret2;exact ⟨aw E.out.symm F.out.symm,((Below.refl _ _).alloc (Nat.le_refl _) _).trans (f.mono ac)⟩
 ·have R:co c=0:=by simp [co,o]
  by_cases h:c.kind=6
  ·have E:=hide (show aL c y=0 by simp [aL,fZ,h])
   have F:=hide (show dA c y=1 by simp [dA,fZ,h]);have G:(c.kind==6)=true:=by simp [h]
   clear h;simp only [av];go_enter Tryz.func147,Tryz.ntmps147;go_wp2_with fail;refine (bs c _ S).mono ?_;rintro e T ⟨rfl,f⟩;rw [R];have V:=hide (aa f ac (au w c));obtain ⟨q0,q1,q2,q3,q4,q5,q6,q7,q8,q9,H,I,J,O⟩:=V.out;go_wp2;go_ret2;exact ⟨aw E.out.symm F.out.symm,((Below.refl _ _).alloc (Nat.le_refl _) _).trans (f.mono ac)⟩
  ·have E:=hide (show aL c y=bP c y / 7 by simp [aL,fZ,o,h])
   have F:=hide (show dA c y=aO c y 1601 by simp [dA,fZ,o,h]);have G:(c.kind==6)=false:=by simp [h]
   clear h;simp only [av];go_enter Tryz.func147,Tryz.ntmps147;go_wp2_with fail;refine (bs c _ S).mono ?_;rintro e T ⟨rfl,f⟩;rw [R];have ab:w.heap.size<T.heap.size:=aj f;have U:=hide (Below.trans ((Below.refl _ _).alloc (Nat.le_refl _) _) (f.mono ac):Below w w T);have V:=hide (aa f ac (au w c));obtain ⟨q0,q1,q2,q3,q4,q5,q6,q7,q8,q9,H,I,J,O⟩:=V.out;clear f;go_wp2_with fail;refine (EE c _ _ S).mono ?_;rintro e w2 ⟨rfl,W⟩;clear q0 q1 q2 q3 q4 q5 q6 q7 q8 q9 H I J O;go_wp2;go_ret2;exact ⟨aw E.out.symm F.out.symm,U.out.trans (W.mono (Nat.le_of_lt ab))⟩
end
end Go.Proofs.YtjhhmeoibfdcmaaGreat
