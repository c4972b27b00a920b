/- Lemmas. -/
import Derived.Test.YtjhhmeoibfdcmaaGreatWr01
import Derived.Test.YtjhhmeoibfdcmaaGreatWr02
set_option linter.unusedSimpArgs false
set_option linter.unusedVariables false
set_option maxRecDepth 100000
set_option maxHeartbeats 12800000
namespace Go.Proofs.YtjhhmeoibfdcmaaGreat
section
open Go.RowKit Qd
theorem lz (y m:Int) (w:World) :
  Calls Tryz.prog 229 #[y,m] w fun e f=>e=.returned (.bool (aP y m))∧w=f:=by
 go_enter Tryz.func229,Tryz.ntmps229;go_wp2
 all_goals (go_ret;refine ⟨aY ?_,rfl⟩;simp_all [aP];try omega)
theorem DZ (y:Int) (w:World) :
  Calls Tryz.prog 199 #[y] w fun e f=>e=.returned (.bool (fS y))∧w=f:=by
 cases h:aP y 1
 ·go_enter Tryz.func199,Tryz.ntmps199
  go_wp2_with (first | (go_at_call 229;refine (lz _ _ _).mono ?_;rintro e f ⟨rfl,rfl⟩))
  all_goals (go_ret;refine ⟨aY ?_,rfl⟩;simp_all [aP,fS];try omega)
 ·have o:1600≤y∧y≤9999:=by simpa [aP] using h
  go_enter Tryz.func199,Tryz.ntmps199;go_wp2_with (first | (go_at_call 229;refine (lz _ _ _).mono ?_;rintro e f ⟨rfl,rfl⟩))
  all_goals (go_ret;refine ⟨aY ?_,rfl⟩;simp_all [aP,fS];try rfl)
theorem C5 (m:Int) (h:1≤m) (o:m≤13):([.int .i64 0,.int .i64 31,.int .i64 59,.int .i64 90,.int .i64 120,.int .i64 151,.int .i64 181,.int .i64 212,.int .i64 243,.int .i64 273,.int .i64 304,.int .i64 334,.int .i64 365]:List Value)[m.toNat-1]?=some (.int .i64 (lR m)):=by
 have f:m=1∨m=2∨m=3∨m=4∨m=5∨m=6∨m=7∨m=8∨m=9∨m=10∨m=11∨m=12∨m=13:=om;rcases f with rfl | rfl | rfl | rfl | rfl | rfl | rfl | rfl | rfl | rfl | rfl | rfl | rfl <;> simp [lR]
theorem ir (y m:Int) (w:World) (o:1≤m) (E:m≤13) :
  Calls Tryz.prog 135 #[y,m] w fun e f=>e=.returned (.int .i64 (aK y m))∧Below w w f:=by
 have F:=C5 m o E;have G:=Du m;have h:=hide (show aK y m=lR m+if 2<m∧fS y=true then 1 else 0 from rfl);go_enter Tryz.func135,Tryz.ntmps135;go_wp2_with (first | (go_at_call 199;refine (DZ _ _).mono ?_;rintro e f ⟨rfl,rfl⟩))
 all_goals (go_ret;refine ⟨aZ ?_,by (repeat' exact bel)⟩;rw [h.out];clear F;grind)
theorem dt (y m:Int) (w:World) :
  Calls Tryz.prog 206 #[y,m] w fun e G=>e=.returned (.tuple #[bS y m,dI y m])∧Below w w G:=by
 cases h:aP y m
 ·have o:Hid (bS y m=0):=by simp [Hid,bS,h]
  have E:Hid (dI y m=4):=by simp [Hid,dI,h]
  go_enter Tryz.func206,Tryz.ntmps206;go_wp2_with (first | (go_at_call 229;refine (lz _ _ _).mono ?_;rintro e G ⟨rfl,rfl⟩))
  all_goals (go_ret2;refine ⟨aw o.out.symm E.out.symm,Below.refl _ _⟩)
 ·have J:1≤m∧m≤12:=by simp [aP] at h;omega
  have o:Hid (bS y m=aK y (m+1)-aK y m):=by simp [Hid,bS,h]
  have E:Hid (dI y m=0):=by simp [Hid,dI,h]
  have H:=ep y m;have I:=ep y (m+1);go_enter Tryz.func206,Tryz.ntmps206;go_wp2_with (first | (go_at_call 229;refine (lz _ _ _).mono ?_;rintro e G ⟨rfl,rfl⟩));refine (ir _ _ _ om om).mono ?_;rintro e O ⟨rfl,f⟩;go_wp2_with fail;refine (ir _ _ _ om om).mono ?_;rintro e R ⟨rfl,F⟩;go_wp2;go_ret2;exact ⟨aw o.out.symm E.out.symm,f.trans (F.mono f.size)⟩
theorem ns (y:Int) (w:World) (h:1600≤y) (o:y≤10000) :
  Calls Tryz.prog 134 #[y] w fun e f=>e=.returned (.int .i64 (aV y))∧w=f:=by
 have H:=hide (show aV y=(y-1600)*365+((y-1600+3) / 4-(y-1600+99) / 100+(y-1600+399) / 400) from rfl);go_enter Tryz.func134,Tryz.ntmps134;go_wp2;go_ret;exact ⟨aZ H.out.symm,rfl⟩
theorem kQ (day:Int) (w:World) :
  Calls Tryz.prog 133 #[day] w fun e f=>e=.returned (.bool (cH day))∧w=f:=by
 go_enter Tryz.func133,Tryz.ntmps133;go_wp2
 all_goals (go_ret;refine ⟨aY ?_,rfl⟩;simp_all [cH];try omega)
def np (day:Int):Int:=if cH day then (day+5) % 7+1 else 0
theorem vZ (day:Int) (w:World) :
  Calls Tryz.prog 241 #[day] w fun e E=>e=.returned (.tuple #[np day,nI day])∧w=E:=by
 cases f:cH day
 ·have o:Hid (nI day=4):=by simp [Hid,nI,f]
  have h:Hid (np day=0):=by simp [Hid,np,f]
  go_enter Tryz.func241,Tryz.ntmps241;go_wp2_with (first | (go_at_call 133;refine (kQ _ _).mono ?_;rintro e E ⟨rfl,rfl⟩));go_ret2;exact ⟨aw h.out.symm o.out.symm,rfl⟩
 ·have o:Hid (nI day=0):=by simp [Hid,nI,f]
  have h:Hid (np day=(day+5) % 7+1):=by simp [Hid,np,f]
  have F:0≤day∧day<3068037:=by simpa [cH] using f
  go_enter Tryz.func241,Tryz.ntmps241;go_wp2_with (first | (go_at_call 133;refine (kQ _ _).mono ?_;rintro e E ⟨rfl,rfl⟩));go_ret2;exact ⟨aw h.out.symm o.out.symm,rfl⟩
def kr (day n:Int):Bool:=cH day&&decide (-day≤n)&&decide (n<3068037-day)
def qy (day n:Int):Int:=if kr day n then day+n else 0
def pq (day n:Int):Int:=if kr day n then 0 else 4
theorem Hl (day n:Int) (w:World) :
  Calls Tryz.prog 268 #[day,n] w fun e o=>e=.returned (.tuple #[qy day n,pq day n])∧w=o:=by
 cases h:cH day
 ·have f:Hid (kr day n=false):=by simp [Hid,kr,h]
  go_enter Tryz.func268,Tryz.ntmps268;go_wp2_with (first | (go_at_call 133;refine (kQ _ _).mono ?_;rintro e o ⟨rfl,rfl⟩));go_ret2;exact ⟨aw (by unfold qy;rw [f.out];rfl) (by unfold pq;rw [f.out];rfl),rfl⟩
 ·have F:0≤day∧day<3068037:=by simpa [cH] using h
  have E:n < -day∨3068037-day≤n∨(-day≤n∧n<3068037-day):=om;rcases E with E | E | E
  ·have f:Hid (kr day n=false):=by simp [Hid,kr,h];omega
   go_enter Tryz.func268,Tryz.ntmps268;go_wp2_with (first | (go_at_call 133;refine (kQ _ _).mono ?_;rintro e o ⟨rfl,rfl⟩))
   all_goals first | (exfalso;omega) | (go_ret2;exact ⟨aw (by unfold qy;rw [f.out];rfl) (by unfold pq;rw [f.out];rfl),rfl⟩)
  ·have f:Hid (kr day n=false):=by simp [Hid,kr,h];omega
   go_enter Tryz.func268,Tryz.ntmps268;go_wp2_with (first | (go_at_call 133;refine (kQ _ _).mono ?_;rintro e o ⟨rfl,rfl⟩))
   all_goals first | (exfalso;omega) | (go_ret2;exact ⟨aw (by unfold qy;rw [f.out];rfl) (by unfold pq;rw [f.out];rfl),rfl⟩)
  ·have f:Hid (kr day n=true):=by simp [Hid,kr,h];omega
   go_enter Tryz.func268,Tryz.ntmps268;go_wp2_with (first | (go_at_call 133;refine (kQ _ _).mono ?_;rintro e o ⟨rfl,rfl⟩))
   all_goals first | (exfalso;omega) | (go_ret2;exact ⟨aw (by unfold qy;rw [f.out];rfl) (by unfold pq;rw [f.out];rfl),rfl⟩)
theorem qF (y m d:Int) (w:World) :
  Calls Tryz.prog 248 #[.agg #[y,m,d]] w fun e O=>e=.returned (.int .i64 (cQ y m d))∧Below w w O:=by
 cases o:aP y m
 ·have E:dI y m=4:=by simp [dI,o]
  have h:Hid (cQ y m d=4):=by simp [Hid,cQ,dc,o]
  go_enter Tryz.func248,Tryz.ntmps248;go_wp2_with fail;refine (dt _ _ _).mono ?_;rintro e I ⟨rfl,f⟩;obtain ⟨G,H⟩:=gI f;rw [E];go_wp2
  all_goals (go_ret;refine ⟨aZ h.out.symm,?_⟩;refine Below.trans ?_ (f.mono ac);(repeat' exact bel))
 ·have E:dI y m=0:=by simp [dI,o]
  have F:d<1∨bS y m<d∨(1≤d∧d≤bS y m):=om;rcases F with F | F | ⟨F,J⟩
  ·have h:Hid (cQ y m d=4):=by simp [Hid,cQ,dc,o];omega
   go_enter Tryz.func248,Tryz.ntmps248;go_wp2_with fail;refine (dt _ _ _).mono ?_;rintro e I ⟨rfl,f⟩;obtain ⟨G,H⟩:=gI f;rw [E];go_wp2
   all_goals first | (exfalso;omega) | (go_ret;refine ⟨aZ h.out.symm,?_⟩;refine Below.trans ?_ (f.mono ac);(repeat' exact bel))
  ·have h:Hid (cQ y m d=4):=by simp [Hid,cQ,dc,o];omega
   go_enter Tryz.func248,Tryz.ntmps248;go_wp2_with fail;refine (dt _ _ _).mono ?_;rintro e I ⟨rfl,f⟩;obtain ⟨G,H⟩:=gI f;rw [E];go_wp2
   all_goals first | (exfalso;omega) | (go_ret;refine ⟨aZ h.out.symm,?_⟩;refine Below.trans ?_ (f.mono ac);(repeat' exact bel))
  ·have h:Hid (cQ y m d=0):=by simp [Hid,cQ,dc,o];omega
   go_enter Tryz.func248,Tryz.ntmps248;go_wp2_with fail;refine (dt _ _ _).mono ?_;rintro e I ⟨rfl,f⟩;obtain ⟨G,H⟩:=gI f;rw [E];go_wp2
   all_goals first | (exfalso;omega) | (go_ret;refine ⟨aZ h.out.symm,?_⟩;refine Below.trans ?_ (f.mono ac);(repeat' exact bel))
theorem zy (y m d:Int) (w:World) :
  Calls Tryz.prog 240 #[.agg #[y,m,d]] w fun e E=>e=.returned (.tuple #[iY y m d,cQ y m d])∧Below w w E:=by
 cases o:dc y m d
 ·have h:cQ y m d=4:=by simp [cQ,o]
  have J:Hid (iY y m d=0):=by simp [Hid,iY,o]
  have O:=hide h;go_enter Tryz.func240,Tryz.ntmps240;go_wp2_with fail;refine (qF _ _ _ _).mono ?_;rintro e F ⟨rfl,f⟩;rw [h];clear h;go_wp2
  all_goals (go_ret2;refine ⟨aw J.out.symm O.out.symm,?_⟩;refine Below.trans ?_ (f.mono ac);(repeat' exact bel))
 ·have h:cQ y m d=0:=by simp [cQ,o]
  have J:Hid (iY y m d=aV y+aK y m+d-1):=by simp [Hid,iY,o,jl]
  have O:=hide h;have H:=o;simp only [dc,Bool.and_eq_true,decide_eq_true_eq] at H;obtain ⟨ht,ab,ad⟩:=H;have al:=jX y m;have aq:1600≤y∧y≤9999∧1≤m∧m≤12:=by simpa [aP] using ht
  have hy:=iI y om om;have ha:=ep y m;clear o ht;go_enter Tryz.func240,Tryz.ntmps240;go_wp2_with fail;refine (qF _ _ _ _).mono ?_;rintro e F ⟨rfl,f⟩;obtain ⟨I,hf⟩:=gI f;rw [h];clear h;have T:w.heap.size<F.heap.size:=aj f;have R:Below w w F:=by
   refine Below.trans ?_ (f.mono ac)
   (repeat' exact bel)
  clear f;have q0:F.cell? ⟨w,0,none⟩=some (.int .i64 y):=by rw [I _ _ ac];simp
  have q1:F.cell? ⟨w,1,none⟩=some (.int .i64 m):=by rw [I _ _ ac];simp
  have q2:F.cell? ⟨w,2,none⟩=some (.int .i64 d):=by rw [I _ _ ac];simp
  clear I hf;go_wp2_with fail
  go_region_held3 (fun E=>E.cell? ⟨w,0,none⟩=some (.int .i64 y)∧E.cell? ⟨w,1,none⟩=some (.int .i64 m)∧E.cell? ⟨w,2,none⟩=some (.int .i64 d)) (first | go_keep | (refine ⟨?_,?_,?_⟩ <;> (rw [S _ _ (by go_size)];simp [q0,q1,q2])))
   (first
    | (go_at_call 134;refine (ns y _ om om).mono ?_;rintro e E ⟨rfl,rfl⟩)
    | (go_at_call 135;refine (ir y m _ om om).mono ?_;rintro e w2 ⟨rfl,G⟩;obtain ⟨S,ah⟩:=gI G))
  all_goals
   go_simp;go_wp2;go_ret2;have U:IntKind.i64.wrap (aV y+aK y m)=aV y+aK y m:=IntWalk.i64_in _ om;have V:IntKind.i64.wrap (aV y+aK y m+d)=aV y+aK y m+d:=IntWalk.i64_in _ om;have W:IntKind.i64.wrap (aV y+aK y m+d-1)=aV y+aK y m+d-1:=IntWalk.i64_in _ om;refine ⟨aw ?_ O.out.symm,?_⟩
   ·rw [U,V,W];exact J.out.symm
   ·exact R.drew.trans (G.mono (Nat.le_of_lt T))
theorem xm (y left:Int) (k:Nat) (h:left<aK y (k+1)):jQ y left (k+1)=jQ y left k:=by
 have:¬ aK y ((k:Int)+1)≤left:=om;simp [jQ,this]
theorem IE (day:Int) (w:World) (h:cH day=false) :
  Calls Tryz.prog 81 #[day] w fun e f=>e=.returned (.tuple #[.agg #[.int .i64 0,.int .i64 0,.int .i64 0],.int .i64 4])∧Below w w f:=by
 go_enter Tryz.func81,Tryz.ntmps81;go_wp2_with (first | (go_at_call 133;refine (kQ _ _).mono ?_;rintro e f ⟨rfl,rfl⟩));go_returns;refine ⟨rfl,?_⟩
 (repeat' exact bel)
theorem xf (day:Int) (w:World) (h:cH day=true) :
    Calls Tryz.prog 81 #[day] w fun e R=>e=.returned (.tuple #[.agg #[dL day,jU day,wU day],.int .i64 0])∧Below w w R:=by
  have O:0≤day∧day<3068037:=by simpa [cH] using h
  obtain ⟨g1,g2,g3,g4⟩:=uG day O.1 O.2;have bl:=nd day O.1 O.2;have HG:=hide (show gY day=min (1600+day / 146097*400+day % 146097 / 36524*100+day % 146097 % 36524 / 1461*4+day % 146097 % 36524 % 1461 / 365) 9999 from rfl);go_enter Tryz.func81,Tryz.ntmps81;go_wp2_with (first | (go_at_call 133;refine (kQ _ _).mono ?_;rintro e R ⟨rfl,rfl⟩))
  all_goals
    go_loop [4] (fun s=>∃ y:Int,s=.int .i64 y∧dL day≤y∧y≤9999) (fun s=>(intOf s).toNat)
    case atStart =>
      exact ⟨_,rfl,by unfold dL;rw [HG.out];split <;> omega,by omega⟩
    case round =>
      obtain ⟨y,rfl,aA,bd⟩:=hrel;have bh:=iI y om om;by_cases aq:day<aV y
      · have bc:dL day≠y:=by intro e;rw [← e] at aq;omega
        go_wp2_with (first | (go_at_call 134;refine (ns y _ om om).mono ?_;rintro e R ⟨rfl,rfl⟩));go_round
        case rel=>exact ⟨y-1,rfl,by omega,by omega⟩
        case measure=>simp [intOf];omega
      · have aB : y = dL day := by
          rcases Int.lt_or_eq_of_le aA with G | G
          · have:=gg (dL day+1) y om om;omega
          · exact G.symm
        subst aB;go_wp2_with (first | (go_at_call 134;refine (ns (dL day) _ om om).mono ?_;rintro e R ⟨rfl,rfl⟩));have al:0≤day-aV (dL day):=om;have ay:=pA (dL day) (day-aV (dL day)) om 12 om om (by
          have U:=gK (dL day);have hs:=ed (dL day) om om;have:((12:Nat):Int)+1=13:=rfl;rw [this,U];omega)
        have J:=hide (show jU day=jQ (dL day) (day-aV (dL day)) 12 from rfl);have HD:=hide (show wU day=day-aV (dL day)-aK (dL day) (jU day)+1 from rfl);have a1:1≤jU day:=by rw [J.out];omega
        have a2:jU day≤12:=by rw [J.out];omega
        have a3:aK (dL day) (jU day)≤day-aV (dL day):=by rw [J.out];omega
        clear ay HG;go_loopw [6] (fun s wr=>∃ k:Nat,s=.int .i64 k∧1≤k∧k≤12∧Hid (jQ (dL day) (day-aV (dL day)) k=jU day)∧Below (w.heap.size+1) (w.alloc (.cells #[.int .i64 0,.int .i64 0,.int .i64 0] 135)) wr) (fun s _=>(intOf s).toNat)
        case atStart=>exact ⟨12,rfl,by omega,by omega,J.out.symm,Below.refl _ _⟩
        case round =>
          obtain ⟨k,rfl,a8,ba,S,H⟩:=hrel;have a4:=ep (dL day) k;have ah:∀ o,wr.cell? ⟨w,o,none⟩=(w.alloc (.cells #[.int .i64 0,.int .i64 0,.int .i64 0] 135)).cell? ⟨w,o,none⟩:=fun o=>H.cell (p:=⟨w,o,none⟩) ac
          have a7:∀ o,wr.frozen? ⟨w,o,none⟩=(w.alloc (.cells #[.int .i64 0,.int .i64 0,.int .i64 0] 135)).frozen? ⟨w,o,none⟩:=fun o=>H.frozen (p:=⟨w,o,none⟩) ac
          have a0:w.heap.size<wr.heap.size:=aj H;by_cases E:aK (dL day) k≤day-aV (dL day)
          · have I : (k : Int) = jU day := by
              rw [← S.out];cases k with
              | zero=>omega
              | succ k=>unfold jQ;rw [if_pos (by simpa using E)];rfl
            have T:=hide I;clear I;go_wp2_with fail;refine (ir (dL day) k _ om om).mono ?_;rintro e w2 ⟨rfl,f⟩;obtain ⟨ab,a5⟩:=gI f;have aF:w.heap.size<w2.heap.size:=by have:=f.size;omega
            go_wp2_with fail;refine (ir (dL day) k _ om om).mono ?_;rintro e w3 ⟨rfl,F⟩;obtain ⟨ad,a6⟩:=gI F;have bp:w.heap.size<w3.heap.size:=by have:=F.size;omega
            go_wp2;have e0:∀ o,w3.cell? ⟨w,o,none⟩=(w.alloc (.cells #[.int .i64 0,.int .i64 0,.int .i64 0] 135)).cell? ⟨w,o,none⟩:=fun o=>by
              rw [ad _ _ aF,ab _ _ a0];exact ah o
            refine bodyPost_ret (v:=.tuple #[.agg #[dL day,k,.int .i64 (day-aV (dL day)-aK (dL day) k+1)],.int .i64 0]) (by simp [results,Tryz.results81,go_sem,e0]) rfl ⟨?_,?_⟩
            · rw [HD.out,T.out]
            · have V : Below w w w3 := by
                refine Below.trans ?_ (F.mono om);refine Below.trans ?_ (f.mono om);refine Below.trans ?_ (H.mono om);exact (Below.refl _ _).alloc (Nat.le_refl _) _
              exact ((V.setCell ac _).setCell ac _).setCell ac _
          · have bb : 2 ≤ k := by
              rcases Nat.lt_or_ge k 2 with G | G
              · exfalso
                obtain rfl:k=1:=om;have:=lB (dL day);simp at E;omega
              · exact G
            have W:=S;clear S;go_wp2_with fail;refine (ir (dL day) k _ om om).mono ?_;rintro e w2 ⟨rfl,f⟩;go_wp2;refine ⟨⟨k-1,?_,by omega,by omega,?_,H.trans (f.mono om)⟩,by simp [intOf];omega⟩
            · have:((k-1:Nat):Int)=(k:Int)-1:=om
              rw [this]
            · obtain ⟨k,rfl⟩:∃ j,k=j+1:=⟨k-1,by omega⟩
              have:=W.out;rw [xm _ _ _ (by simp at E ⊢;omega)] at this;exact this
def bK (y m:Int):Int:=jl y m (bS y m)
def gR (y m:Int):Int:=(bK y m+5) % 7+1
def f9 (y m f:Int):Int:=if aP y m then (if 1≤f∧f≤7 then 0 else 1) else 4
def BL (y m f:Int):Int:=if f9 y m f=0 then bK y m else 0
def AA (y m f:Int):Int:=if f9 y m f=0 then gR y m else 0
theorem iR (y m:Int) (h:aP y m=true):dc y m (bS y m)=true:=by
 have:=nf y m h;simp [dc,h];omega
theorem qv (y m:Int) (h:aP y m=true):0≤bK y m∧bK y m<3068037:=by
 have:=t8 (iR y m h);simpa [cH,bK] using this
theorem gD (y m:Int):1≤gR y m∧gR y m≤7:=by unfold gR;omega
theorem mK (y m f:Int) (w:World) :
  Calls Tryz.prog 231 #[y,m,f] w fun e w'=>e=.returned (.tuple #[BL y m f,AA y m f,f9 y m f])∧Below w w w':=by
 cases F:aP y m
 ·have E:dI y m=4:=by simp [dI,F]
  have h:f9 y m f=4:=by simp [f9,F]
  have G:=hide (show BL y m f=0 by simp [BL,h]);have H:=hide (show AA y m f=0 by simp [AA,h]);have I:=hide h;clear h;go_enter Tryz.func231,Tryz.ntmps231;go_wp2_with fail;refine (dt _ _ _).mono ?_;rintro e w1 ⟨rfl,o⟩;rw [E];clear E;go_wp2;go_ret3;refine ⟨?_,o⟩;rw [G.out,H.out,I.out];rfl
 ·have E:dI y m=0:=by simp [dI,F]
  have U:f<1∨7<f∨(1≤f∧f≤7):=om;rcases U with U | U | ⟨U,ad⟩
  ·have h:f9 y m f=1:=by simp [f9,F];omega
   have G:=hide (show BL y m f=0 by simp [BL,h]);have H:=hide (show AA y m f=0 by simp [AA,h]);have I:=hide h;clear h;go_enter Tryz.func231,Tryz.ntmps231;go_wp2_with fail;refine (dt _ _ _).mono ?_;rintro e w1 ⟨rfl,o⟩;rw [E];clear E;go_wp2
   all_goals first
    | (exfalso;omega)
    | (go_ret3;refine ⟨?_,o⟩;rw [G.out,H.out,I.out];rfl)
  ·have h:f9 y m f=1:=by simp [f9,F];omega
   have G:=hide (show BL y m f=0 by simp [BL,h]);have H:=hide (show AA y m f=0 by simp [AA,h]);have I:=hide h;clear h;go_enter Tryz.func231,Tryz.ntmps231;go_wp2_with fail;refine (dt _ _ _).mono ?_;rintro e w1 ⟨rfl,o⟩;rw [E];clear E;go_wp2
   all_goals first
    | (exfalso;omega)
    | (go_ret3;refine ⟨?_,o⟩;rw [G.out,H.out,I.out];rfl)
  ·have h:f9 y m f=0:=by simp [f9,F];omega
   have W:=iR y m F;have O:cQ y m (bS y m)=0:=by simp [cQ,W]
   have R:iY y m (bS y m)=bK y m:=by simp [iY,W,bK]
   have ab:=qv y m F;have J:cH (bK y m)=true:=by simp [cH];omega
   have S:nI (bK y m)=0:=by simp [nI,J]
   have T:np (bK y m)=gR y m:=by simp [np,J,gR]
   have G:=hide (show BL y m f=bK y m by simp [BL,h]);have H:=hide (show AA y m f=gR y m by simp [AA,h]);have I:=hide h;have H4:=hide (And.intro O R);have H5:=hide (And.intro S T);clear h W O R J S T;go_enter Tryz.func231,Tryz.ntmps231;go_wp2_with fail;refine (dt _ _ _).mono ?_;rintro e w1 ⟨rfl,o⟩;rw [E];clear E;go_wp2_with (first | (go_at_call 240;refine (zy _ _ _ _).mono ?_;rintro e w2 ⟨rfl,V⟩;rw [H4.out.1,H4.out.2]) | (go_at_call 241;refine (vZ _ _).mono ?_;rintro e w' ⟨rfl,rfl⟩;rw [H5.out.1,H5.out.2]))
   all_goals first
    | (exfalso;omega)
    | (go_ret3;refine ⟨?_,o.trans (V.mono o.size)⟩;rw [G.out,H.out,I.out];rfl)
def cz (y m f:Int):Int:=if f9 y m f=0 then bK y m-(gR y m-f+7) % 7 else 0
theorem vw (y m f:Int) (w:World) :
    Calls Tryz.prog 205 #[y,m,f] w fun e U=>e=.returned (.tuple #[cz y m f,f9 y m f])∧Below w w U:=by
  by_cases h:f9 y m f=0
  · have J : aP y m = true ∧ 1 ≤ f ∧ f ≤ 7 := by
      unfold f9 at h
      split at h
      · split at h
        · exact ⟨by assumption,by assumption⟩
        · omega
      · omega
    have H:BL y m f=bK y m:=by simp [BL,h]
    have I:AA y m f=gR y m:=by simp [AA,h]
    have W:=qv y m J.1;have T:=gD y m;obtain ⟨_,R,S⟩:=J;have E:=hide (show cz y m f=bK y m-(gR y m-f+7) % 7 by simp [cz,h]);have F:=hide h;have G:=hide (And.intro H I);clear h H I;go_enter Tryz.func205,Tryz.ntmps205;go_wp2_with fail;refine (mK _ _ _ _).mono ?_;rintro e V ⟨rfl,o⟩;rw [F.out,G.out.1,G.out.2];go_wp2;go_ret2;exact ⟨aw (by rw [E.out];omega) F.out.symm,o⟩
  · have O:(f9 y m f != 0)=true:=by simpa using h
    have E:=hide (show cz y m f=0 by simp [cz,h]);clear h;go_enter Tryz.func205,Tryz.ntmps205;go_wp2_with fail;refine (mK _ _ _ _).mono ?_;rintro e V ⟨rfl,o⟩;go_wp2;go_ret2;exact ⟨aw E.out.symm rfl,o⟩
def dn (y m f:Int):Int:=(f-gR y m+7+3) % 7-3
def fg (y m f:Int):Int:=if f9 y m f=0 then qy (bK y m) (dn y m f) else 0
def fm (y m f:Int):Int:=if f9 y m f=0 then pq (bK y m) (dn y m f) else f9 y m f
theorem Ek (y m f:Int) (w:World) :
    Calls Tryz.prog 267 #[y,m,f] w fun e O=>e=.returned (.tuple #[fg y m f,fm y m f])∧Below w w O:=by
  by_cases h:f9 y m f=0
  · have J : aP y m = true ∧ 1 ≤ f ∧ f ≤ 7 := by
      unfold f9 at h
      split at h
      · split at h
        · exact ⟨by assumption,by assumption⟩
        · omega
      · omega
    have H:BL y m f=bK y m:=by simp [BL,h]
    have I:AA y m f=gR y m:=by simp [AA,h]
    have hb:=qv y m J.1;have V:=gD y m;obtain ⟨_,T,U⟩:=J;have E:=hide (show fg y m f=qy (bK y m) ((f-gR y m+7+3) % 7-3) by simp [fg,h,dn]);have F:=hide (show fm y m f=pq (bK y m) ((f-gR y m+7+3) % 7-3) by simp [fm,h,dn]);have R:=hide h;have G:=hide (And.intro H I);clear h H I;go_enter Tryz.func267,Tryz.ntmps267;go_wp2_with fail;refine (mK _ _ _ _).mono ?_;rintro e W ⟨rfl,o⟩;rw [R.out,G.out.1,G.out.2];go_wp2_with fail;refine (Hl _ _ _).mono ?_;rintro e O ⟨rfl,rfl⟩;go_wp2;go_ret2;exact ⟨aw E.out.symm F.out.symm,o⟩
  · have S:(f9 y m f != 0)=true:=by simpa using h
    have E:=hide (show fg y m f=0 by simp [fg,h]);have F:=hide (show fm y m f=f9 y m f by simp [fm,h]);clear h;go_enter Tryz.func267,Tryz.ntmps267;go_wp2_with fail;refine (mK _ _ _ _).mono ?_;rintro e W ⟨rfl,o⟩;go_wp2;go_ret2;exact ⟨aw E.out.symm F.out.symm,o⟩
end
end Go.Proofs.YtjhhmeoibfdcmaaGreat
