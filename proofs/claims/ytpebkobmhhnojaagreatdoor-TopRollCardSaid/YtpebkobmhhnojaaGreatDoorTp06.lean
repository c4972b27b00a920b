/- Lemmas. -/
import Derived.Test.YtpebkobmhhnojaaGreatDoorTp02
import Derived.Test.YtpebkobmhhnojaaGreatDoorTp03
set_option linter.unusedSimpArgs false
set_option linter.unusedVariables false
set_option maxRecDepth 100000
set_option maxHeartbeats 12800000
namespace Go.Proofs.YtpebkobmhhnojaaGreatDoor
section
open Go.RowKit Qd
theorem jl (y m:Int) (w:World) :
  Calls Tryz.prog 51 #[y,m] w fun e w'=>e=.returned (.bool (aL y m))∧w=w':=by
 go_enter Tryz.func51,Tryz.ntmps51;go_wp2
 all_goals (go_ret;refine ⟨bA ?_,rfl⟩;simp_all [aL];try omega)
theorem zk (y:Int) (w:World) :
  Calls Tryz.prog 82 #[y] w fun e w'=>e=.returned (.bool (lE y))∧w=w':=by
 cases f:aL y 1
 ·go_enter Tryz.func82,Tryz.ntmps82
  go_wp2_with (first | (go_at_call 51;refine (jl _ _ _).mono ?_;rintro e w' ⟨rfl,rfl⟩))
  all_goals (go_ret;refine ⟨bA ?_,rfl⟩;simp_all [aL,lE];try omega)
 ·have h:1600≤y∧y≤9999:=by simpa [aL] using f
  go_enter Tryz.func82,Tryz.ntmps82;go_wp2_with (first | (go_at_call 51;refine (jl _ _ _).mono ?_;rintro e w' ⟨rfl,rfl⟩))
  all_goals (go_ret;refine ⟨bA ?_,rfl⟩;simp_all [aL,lE];try rfl)
theorem Ay (m:Int) (h:1≤m) (o:m≤13):([.int .i64 0,.int .i64 31,.int .i64 59,.int .i64 90,.int .i64 120,.int .i64 151,.int .i64 181,.int .i64 212,.int .i64 243,.int .i64 273,.int .i64 304,.int .i64 334,.int .i64 365]:List Value)[m.toNat-1]?=some (.int .i64 (kK m)):=by
 have f:m=1∨m=2∨m=3∨m=4∨m=5∨m=6∨m=7∨m=8∨m=9∨m=10∨m=11∨m=12∨m=13:=om;rcases f with rfl | rfl | rfl | rfl | rfl | rfl | rfl | rfl | rfl | rfl | rfl | rfl | rfl <;> simp [kK]
theorem fH (y m:Int) (w:World) (h:1≤m) (o:m≤13) :
  Calls Tryz.prog 52 #[y,m] w fun e w'=>e=.returned (.int .i64 (aN y m))∧Below w w w':=by
 have E:=Ay m h o;have F:=yJ m;have f:=hide (show aN y m=kK m+if 2<m∧lE y=true then 1 else 0 from rfl);go_enter Tryz.func52,Tryz.ntmps52;go_wp2_with (first | (go_at_call 82;refine (zk _ _).mono ?_;rintro e w' ⟨rfl,rfl⟩))
 all_goals (go_ret;refine ⟨bD ?_,by (repeat' exact bel)⟩;rw [f.out];clear E;grind)
theorem ct (y m:Int) (w:World) :
  Calls Tryz.prog 23 #[y,m] w fun e w'=>e=.returned (.tuple #[cM y m,gE y m])∧Below w w w':=by
 cases h:aL y m
 ·have o:Hid (cM y m=0):=by simp [Hid,cM,h]
  have E:Hid (gE y m=4):=by simp [Hid,gE,h]
  go_enter Tryz.func23,Tryz.ntmps23;go_wp2_with (first | (go_at_call 51;refine (jl _ _ _).mono ?_;rintro e w' ⟨rfl,rfl⟩))
  all_goals (go_ret2;refine ⟨aW o.out.symm E.out.symm,Below.refl _ _⟩)
 ·have I:1≤m∧m≤12:=by simp [aL] at h;omega
  have o:Hid (cM y m=aN y (m+1)-aN y m):=by simp [Hid,cM,h]
  have E:Hid (gE y m=0):=by simp [Hid,gE,h]
  have G:=eh y m;have H:=eh y (m+1);go_enter Tryz.func23,Tryz.ntmps23;go_wp2_with (first | (go_at_call 51;refine (jl _ _ _).mono ?_;rintro e w' ⟨rfl,rfl⟩));refine (fH _ _ _ om om).mono ?_;rintro e J ⟨rfl,f⟩;go_wp2_with fail;refine (fH _ _ _ om om).mono ?_;rintro e O ⟨rfl,F⟩;go_wp2;go_ret2;exact ⟨aW o.out.symm E.out.symm,f.trans (F.mono f.size)⟩
theorem ln (y:Int) (w:World) (f:1600≤y) (h:y≤10000) :
  Calls Tryz.prog 54 #[y] w fun e w'=>e=.returned (.int .i64 (bu y))∧w=w':=by
 have H:=hide (show bu y=(y-1600)*365+((y-1600+3) / 4-(y-1600+99) / 100+(y-1600+399) / 400) from rfl);go_enter Tryz.func54,Tryz.ntmps54;go_wp2;go_ret;exact ⟨bD H.out.symm,rfl⟩
theorem iE (day:Int) (w:World) :
  Calls Tryz.prog 36 #[day] w fun e w'=>e=.returned (.bool (cH day))∧w=w':=by
 go_enter Tryz.func36,Tryz.ntmps36;go_wp2
 all_goals (go_ret;refine ⟨bA ?_,rfl⟩;simp_all [cH];try omega)
def rF (day:Int):Int:=if cH day then (day+5) % 7+1 else 0
theorem cW (day:Int) (w:World) :
  Calls Tryz.prog 15 #[day] w fun e w'=>e=.returned (.tuple #[rF day,nC day])∧w=w':=by
 cases f:cH day
 ·have o:Hid (nC day=4):=by simp [Hid,nC,f]
  have h:Hid (rF day=0):=by simp [Hid,rF,f]
  go_enter Tryz.func15,Tryz.ntmps15;go_wp2_with (first | (go_at_call 36;refine (iE _ _).mono ?_;rintro e w' ⟨rfl,rfl⟩));go_ret2;exact ⟨aW h.out.symm o.out.symm,rfl⟩
 ·have o:Hid (nC day=0):=by simp [Hid,nC,f]
  have h:Hid (rF day=(day+5) % 7+1):=by simp [Hid,rF,f]
  have E:0≤day∧day<3068037:=by simpa [cH] using f
  go_enter Tryz.func15,Tryz.ntmps15;go_wp2_with (first | (go_at_call 36;refine (iE _ _).mono ?_;rintro e w' ⟨rfl,rfl⟩));go_ret2;exact ⟨aW h.out.symm o.out.symm,rfl⟩
def kE (day n:Int):Bool:=cH day&&decide (-day≤n)&&decide (n<3068037-day)
def pk (day n:Int):Int:=if kE day n then day+n else 0
def pT (day n:Int):Int:=if kE day n then 0 else 4
theorem C9 (day n:Int) (w:World) :
  Calls Tryz.prog 303 #[day,n] w fun e w'=>e=.returned (.tuple #[pk day n,pT day n])∧w=w':=by
 cases h:cH day
 ·have f:Hid (kE day n=false):=by simp [Hid,kE,h]
  go_enter Tryz.func303,Tryz.ntmps303;go_wp2_with (first | (go_at_call 36;refine (iE _ _).mono ?_;rintro e w' ⟨rfl,rfl⟩));go_ret2;exact ⟨aW (by unfold pk;rw [f.out];rfl) (by unfold pT;rw [f.out];rfl),rfl⟩
 ·have E:0≤day∧day<3068037:=by simpa [cH] using h
  have o:n < -day∨3068037-day≤n∨(-day≤n∧n<3068037-day):=om;rcases o with o | o | o
  ·have f:Hid (kE day n=false):=by simp [Hid,kE,h];omega
   go_enter Tryz.func303,Tryz.ntmps303;go_wp2_with (first | (go_at_call 36;refine (iE _ _).mono ?_;rintro e w' ⟨rfl,rfl⟩))
   all_goals first | (exfalso;omega) | (go_ret2;exact ⟨aW (by unfold pk;rw [f.out];rfl) (by unfold pT;rw [f.out];rfl),rfl⟩)
  ·have f:Hid (kE day n=false):=by simp [Hid,kE,h];omega
   go_enter Tryz.func303,Tryz.ntmps303;go_wp2_with (first | (go_at_call 36;refine (iE _ _).mono ?_;rintro e w' ⟨rfl,rfl⟩))
   all_goals first | (exfalso;omega) | (go_ret2;exact ⟨aW (by unfold pk;rw [f.out];rfl) (by unfold pT;rw [f.out];rfl),rfl⟩)
  ·have f:Hid (kE day n=true):=by simp [Hid,kE,h];omega
   go_enter Tryz.func303,Tryz.ntmps303;go_wp2_with (first | (go_at_call 36;refine (iE _ _).mono ?_;rintro e w' ⟨rfl,rfl⟩))
   all_goals first | (exfalso;omega) | (go_ret2;exact ⟨aW (by unfold pk;rw [f.out];rfl) (by unfold pT;rw [f.out];rfl),rfl⟩)
theorem mX (y m d:Int) (w:World) :
  Calls Tryz.prog 53 #[.agg #[y,m,d]] w fun e w'=>e=.returned (.int .i64 (dA y m d))∧Below w w w':=by
 cases o:aL y m
 ·have E:gE y m=4:=by simp [gE,o]
  have h:Hid (dA y m d=4):=by simp [Hid,dA,cN,o]
  go_enter Tryz.func53,Tryz.ntmps53;go_wp2_with fail;refine (ct _ _ _).mono ?_;rintro e I ⟨rfl,f⟩;obtain ⟨G,H⟩:=fc f;rw [E];go_wp2
  all_goals (go_ret;refine ⟨bD h.out.symm,?_⟩;refine Below.trans ?_ (f.mono af);(repeat' exact bel))
 ·have E:gE y m=0:=by simp [gE,o]
  have F:d<1∨cM y m<d∨(1≤d∧d≤cM y m):=om;rcases F with F | F | ⟨F,J⟩
  ·have h:Hid (dA y m d=4):=by simp [Hid,dA,cN,o];omega
   go_enter Tryz.func53,Tryz.ntmps53;go_wp2_with fail;refine (ct _ _ _).mono ?_;rintro e I ⟨rfl,f⟩;obtain ⟨G,H⟩:=fc f;rw [E];go_wp2
   all_goals first | (exfalso;omega) | (go_ret;refine ⟨bD h.out.symm,?_⟩;refine Below.trans ?_ (f.mono af);(repeat' exact bel))
  ·have h:Hid (dA y m d=4):=by simp [Hid,dA,cN,o];omega
   go_enter Tryz.func53,Tryz.ntmps53;go_wp2_with fail;refine (ct _ _ _).mono ?_;rintro e I ⟨rfl,f⟩;obtain ⟨G,H⟩:=fc f;rw [E];go_wp2
   all_goals first | (exfalso;omega) | (go_ret;refine ⟨bD h.out.symm,?_⟩;refine Below.trans ?_ (f.mono af);(repeat' exact bel))
  ·have h:Hid (dA y m d=0):=by simp [Hid,dA,cN,o];omega
   go_enter Tryz.func53,Tryz.ntmps53;go_wp2_with fail;refine (ct _ _ _).mono ?_;rintro e I ⟨rfl,f⟩;obtain ⟨G,H⟩:=fc f;rw [E];go_wp2
   all_goals first | (exfalso;omega) | (go_ret;refine ⟨bD h.out.symm,?_⟩;refine Below.trans ?_ (f.mono af);(repeat' exact bel))
theorem jn (y m d:Int) (w:World) :
  Calls Tryz.prog 24 #[.agg #[y,m,d]] w fun e w'=>e=.returned (.tuple #[kD y m d,dA y m d])∧Below w w w':=by
 cases o:cN y m d
 ·have h:dA y m d=4:=by simp [dA,o]
  have I:Hid (kD y m d=0):=by simp [Hid,kD,o]
  have J:=hide h;go_enter Tryz.func24,Tryz.ntmps24;go_wp2_with fail;refine (mX _ _ _ _).mono ?_;rintro e E ⟨rfl,f⟩;rw [h];clear h;go_wp2
  all_goals (go_ret2;refine ⟨aW I.out.symm J.out.symm,?_⟩;refine Below.trans ?_ (f.mono af);(repeat' exact bel))
 ·have h:dA y m d=0:=by simp [dA,o]
  have I:Hid (kD y m d=bu y+aN y m+d-1):=by simp [Hid,kD,o,fj]
  have J:=hide h;have G:=o;simp only [cN,Bool.and_eq_true,decide_eq_true_eq] at G;obtain ⟨ht,ab,ac⟩:=G;have ah:=kU y m;have al:1600≤y∧y≤9999∧1≤m∧m≤12:=by simpa [aL] using ht
  have hy:=iM y om om;have ha:=eh y m;clear o ht;go_enter Tryz.func24,Tryz.ntmps24;go_wp2_with fail;refine (mX _ _ _ _).mono ?_;rintro e E ⟨rfl,f⟩;obtain ⟨H,hf⟩:=fc f;rw [h];clear h;have V:w.heap.size<E.heap.size:=am f;have O:Below w w E:=by
   refine Below.trans ?_ (f.mono af)
   (repeat' exact bel)
  clear f;have q0:E.cell? ⟨w,0,none⟩=some (.int .i64 y):=by rw [H _ _ af];simp
  have q1:E.cell? ⟨w,1,none⟩=some (.int .i64 m):=by rw [H _ _ af];simp
  have q2:E.cell? ⟨w,2,none⟩=some (.int .i64 d):=by rw [H _ _ af];simp
  clear H hf;go_wp2_with fail
  go_region_held3 (fun w'=>w'.cell? ⟨w,0,none⟩=some (.int .i64 y)∧w'.cell? ⟨w,1,none⟩=some (.int .i64 m)∧w'.cell? ⟨w,2,none⟩=some (.int .i64 d)) (first | go_keep | (refine ⟨?_,?_,?_⟩ <;> (rw [U _ _ (by go_size)];simp [q0,q1,q2])))
   (first
    | (go_at_call 54;refine (ln y _ om om).mono ?_;rintro e w' ⟨rfl,rfl⟩)
    | (go_at_call 52;refine (fH y m _ om om).mono ?_;rintro e w2 ⟨rfl,F⟩;obtain ⟨U,ad⟩:=fc F))
  all_goals
   go_simp;go_wp2;go_ret2;have W:IntKind.i64.wrap (bu y+aN y m)=bu y+aN y m:=IntWalk.i64_in _ om;have Y:IntKind.i64.wrap (bu y+aN y m+d)=bu y+aN y m+d:=IntWalk.i64_in _ om;have aa:IntKind.i64.wrap (bu y+aN y m+d-1)=bu y+aN y m+d-1:=IntWalk.i64_in _ om;refine ⟨aW ?_ J.out.symm,?_⟩
   ·rw [W,Y,aa];exact I.out.symm
   ·exact O.drew.trans (F.mono (Nat.le_of_lt V))
theorem sR (y left:Int) (k:Nat) (h:left<aN y (k+1)):gL y left (k+1)=gL y left k:=by
 have:¬ aN y ((k:Int)+1)≤left:=om;simp [gL,this]
theorem Dk (day:Int) (w:World) (h:cH day=false) :
  Calls Tryz.prog 37 #[day] w fun e w'=>e=.returned (.tuple #[.agg #[.int .i64 0,.int .i64 0,.int .i64 0],.int .i64 4])∧Below w w w':=by
 go_enter Tryz.func37,Tryz.ntmps37;go_wp2_with (first | (go_at_call 36;refine (iE _ _).mono ?_;rintro e w' ⟨rfl,rfl⟩));go_returns;refine ⟨rfl,?_⟩
 (repeat' exact bel)
theorem im (day:Int) (w:World) (h:cH day=true) :
    Calls Tryz.prog 37 #[day] w fun e w'=>e=.returned (.tuple #[.agg #[dr day,io day,xz day],.int .i64 0])∧Below w w w':=by
  have O:0≤day∧day<3068037:=by simpa [cH] using h
  obtain ⟨g1,g2,g3,g4⟩:=re day O.1 O.2;have bh:=pU day O.1 O.2;have HG:=hide (show fm day=min (1600+day / 146097*400+day % 146097 / 36524*100+day % 146097 % 36524 / 1461*4+day % 146097 % 36524 % 1461 / 365) 9999 from rfl);go_enter Tryz.func37,Tryz.ntmps37;go_wp2_with (first | (go_at_call 36;refine (iE _ _).mono ?_;rintro e w' ⟨rfl,rfl⟩))
  all_goals
    go_loop [4] (fun s=>∃ y:Int,s=.int .i64 y∧dr day≤y∧y≤9999) (fun s=>(intOf s).toNat)
    case atStart =>
      exact ⟨_,rfl,by unfold dr;rw [HG.out];split <;> omega,by omega⟩
    case round =>
      obtain ⟨y,rfl,aq,bc⟩:=hrel;have bd:=iM y om om;by_cases al:day<bu y
      · have bb:dr day≠y:=by intro e;rw [← e] at al;omega
        go_wp2_with (first | (go_at_call 54;refine (ln y _ om om).mono ?_;rintro e w' ⟨rfl,rfl⟩));go_round
        case rel=>exact ⟨y-1,rfl,by omega,by omega⟩
        case measure=>simp [intOf];omega
      · have aA : y = dr day := by
          rcases Int.lt_or_eq_of_le aq with G | G
          · have:=gd (dr day+1) y om om;omega
          · exact G.symm
        subst aA;go_wp2_with (first | (go_at_call 54;refine (ln (dr day) _ om om).mono ?_;rintro e w' ⟨rfl,rfl⟩));have ah:0≤day-bu (dr day):=om;have ao:=mH (dr day) (day-bu (dr day)) om 12 om om (by
          have W:=eX (dr day);have hs:=db (dr day) om om;have:((12:Nat):Int)+1=13:=rfl;rw [this,W];omega)
        have J:=hide (show io day=gL (dr day) (day-bu (dr day)) 12 from rfl);have HD:=hide (show xz day=day-bu (dr day)-aN (dr day) (io day)+1 from rfl);have a1:1≤io day:=by rw [J.out];omega
        have a2:io day≤12:=by rw [J.out];omega
        have a3:aN (dr day) (io day)≤day-bu (dr day):=by rw [J.out];omega
        clear ao HG;go_loopw [6] (fun s wr=>∃ k:Nat,s=.int .i64 k∧1≤k∧k≤12∧Hid (gL (dr day) (day-bu (dr day)) k=io day)∧Below (w.heap.size+1) (w.alloc (.cells #[.int .i64 0,.int .i64 0,.int .i64 0] 73)) wr) (fun s _=>(intOf s).toNat)
        case atStart=>exact ⟨12,rfl,by omega,by omega,J.out.symm,Below.refl _ _⟩
        case round =>
          obtain ⟨k,rfl,a8,a9,U,H⟩:=hrel;have a4:=eh (dr day) k;have ad:∀ o,wr.cell? ⟨w,o,none⟩=(w.alloc (.cells #[.int .i64 0,.int .i64 0,.int .i64 0] 73)).cell? ⟨w,o,none⟩:=fun o=>H.cell (p:=⟨w,o,none⟩) af
          have a7:∀ o,wr.frozen? ⟨w,o,none⟩=(w.alloc (.cells #[.int .i64 0,.int .i64 0,.int .i64 0] 73)).frozen? ⟨w,o,none⟩:=fun o=>H.frozen (p:=⟨w,o,none⟩) af
          have a0:w.heap.size<wr.heap.size:=am H;by_cases E:aN (dr day) k≤day-bu (dr day)
          · have I : (k : Int) = io day := by
              rw [← U.out];cases k with
              | zero=>omega
              | succ k=>unfold gL;rw [if_pos (by simpa using E)];rfl
            have V:=hide I;clear I;go_wp2_with fail;refine (fH (dr day) k _ om om).mono ?_;rintro e w2 ⟨rfl,f⟩;obtain ⟨ab,a5⟩:=fc f;have aB:w.heap.size<w2.heap.size:=by have:=f.size;omega
            go_wp2_with fail;refine (fH (dr day) k _ om om).mono ?_;rintro e w3 ⟨rfl,F⟩;obtain ⟨ac,a6⟩:=fc F;have bk:w.heap.size<w3.heap.size:=by have:=F.size;omega
            go_wp2;have e0:∀ o,w3.cell? ⟨w,o,none⟩=(w.alloc (.cells #[.int .i64 0,.int .i64 0,.int .i64 0] 73)).cell? ⟨w,o,none⟩:=fun o=>by
              rw [ac _ _ aB,ab _ _ a0];exact ad o
            refine bodyPost_ret (v:=.tuple #[.agg #[dr day,k,.int .i64 (day-bu (dr day)-aN (dr day) k+1)],.int .i64 0]) (by simp [results,Tryz.results37,go_sem,e0]) rfl ⟨?_,?_⟩
            · rw [HD.out,V.out]
            · have Y : Below w w w3 := by
                refine Below.trans ?_ (F.mono om);refine Below.trans ?_ (f.mono om);refine Below.trans ?_ (H.mono om);exact (Below.refl _ _).alloc (Nat.le_refl _) _
              exact ((Y.setCell af _).setCell af _).setCell af _
          · have ba : 2 ≤ k := by
              rcases Nat.lt_or_ge k 2 with G | G
              · exfalso
                obtain rfl:k=1:=om;have:=lU (dr day);simp at E;omega
              · exact G
            have aa:=U;clear U;go_wp2_with fail;refine (fH (dr day) k _ om om).mono ?_;rintro e w2 ⟨rfl,f⟩;go_wp2;refine ⟨⟨k-1,?_,by omega,by omega,?_,H.trans (f.mono om)⟩,by simp [intOf];omega⟩
            · have:((k-1:Nat):Int)=(k:Int)-1:=om
              rw [this]
            · obtain ⟨k,rfl⟩:∃ j,k=j+1:=⟨k-1,by omega⟩
              have:=aa.out;rw [sR _ _ _ (by simp at E ⊢;omega)] at this;exact this
def bZ (y m:Int):Int:=fj y m (cM y m)
def fg (y m:Int):Int:=(bZ y m+5) % 7+1
def ik (y m f:Int):Int:=if aL y m then (if 1≤f∧f≤7 then 0 else 1) else 4
def wA (y m f:Int):Int:=if ik y m f=0 then bZ y m else 0
def wM (y m f:Int):Int:=if ik y m f=0 then fg y m else 0
theorem i7 (y m:Int) (h:aL y m=true):cN y m (cM y m)=true:=by
 have:=iO y m h;simp [cN,h];omega
theorem sD (y m:Int) (h:aL y m=true):0≤bZ y m∧bZ y m<3068037:=by
 have:=uo (i7 y m h);simpa [cH,bZ] using this
theorem eO (y m:Int):1≤fg y m∧fg y m≤7:=by unfold fg;omega
theorem kA (y m f:Int) (w:World) :
  Calls Tryz.prog 184 #[y,m,f] w fun e w'=>e=.returned (.tuple #[wA y m f,wM y m f,ik y m f])∧Below w w w':=by
 cases F:aL y m
 ·have E:gE y m=4:=by simp [gE,F]
  have h:ik y m f=4:=by simp [ik,F]
  have G:=hide (show wA y m f=0 by simp [wA,h]);have H:=hide (show wM y m f=0 by simp [wM,h]);have I:=hide h;clear h;go_enter Tryz.func184,Tryz.ntmps184;go_wp2_with fail;refine (ct _ _ _).mono ?_;rintro e w1 ⟨rfl,o⟩;rw [E];clear E;go_wp2;go_ret3;refine ⟨?_,o⟩;rw [G.out,H.out,I.out];rfl
 ·have E:gE y m=0:=by simp [gE,F]
  have Y:f<1∨7<f∨(1≤f∧f≤7):=om;rcases Y with Y | Y | ⟨Y,ac⟩
  ·have h:ik y m f=1:=by simp [ik,F];omega
   have G:=hide (show wA y m f=0 by simp [wA,h]);have H:=hide (show wM y m f=0 by simp [wM,h]);have I:=hide h;clear h;go_enter Tryz.func184,Tryz.ntmps184;go_wp2_with fail;refine (ct _ _ _).mono ?_;rintro e w1 ⟨rfl,o⟩;rw [E];clear E;go_wp2
   all_goals first
    | (exfalso;omega)
    | (go_ret3;refine ⟨?_,o⟩;rw [G.out,H.out,I.out];rfl)
  ·have h:ik y m f=1:=by simp [ik,F];omega
   have G:=hide (show wA y m f=0 by simp [wA,h]);have H:=hide (show wM y m f=0 by simp [wM,h]);have I:=hide h;clear h;go_enter Tryz.func184,Tryz.ntmps184;go_wp2_with fail;refine (ct _ _ _).mono ?_;rintro e w1 ⟨rfl,o⟩;rw [E];clear E;go_wp2
   all_goals first
    | (exfalso;omega)
    | (go_ret3;refine ⟨?_,o⟩;rw [G.out,H.out,I.out];rfl)
  ·have h:ik y m f=0:=by simp [ik,F];omega
   have hd:=i7 y m F;have O:dA y m (cM y m)=0:=by simp [dA,hd]
   have U:kD y m (cM y m)=bZ y m:=by simp [kD,hd,bZ]
   have ab:=sD y m F;have J:cH (bZ y m)=true:=by simp [cH];omega
   have V:nC (bZ y m)=0:=by simp [nC,J]
   have W:rF (bZ y m)=fg y m:=by simp [rF,J,fg]
   have G:=hide (show wA y m f=bZ y m by simp [wA,h]);have H:=hide (show wM y m f=fg y m by simp [wM,h]);have I:=hide h;have H4:=hide (And.intro O U);have H5:=hide (And.intro V W);clear h hd O U J V W;go_enter Tryz.func184,Tryz.ntmps184;go_wp2_with fail;refine (ct _ _ _).mono ?_;rintro e w1 ⟨rfl,o⟩;rw [E];clear E;go_wp2_with (first | (go_at_call 24;refine (jn _ _ _ _).mono ?_;rintro e w2 ⟨rfl,aa⟩;rw [H4.out.1,H4.out.2]) | (go_at_call 15;refine (cW _ _).mono ?_;rintro e w' ⟨rfl,rfl⟩;rw [H5.out.1,H5.out.2]))
   all_goals first
    | (exfalso;omega)
    | (go_ret3;refine ⟨?_,o.trans (aa.mono o.size)⟩;rw [G.out,H.out,I.out];rfl)
def bU (y m f:Int):Int:=if ik y m f=0 then bZ y m-(fg y m-f+7) % 7 else 0
theorem qR (y m f:Int) (w:World) :
    Calls Tryz.prog 122 #[y,m,f] w fun e w'=>e=.returned (.tuple #[bU y m f,ik y m f])∧Below w w w':=by
  by_cases h:ik y m f=0
  · have J : aL y m = true ∧ 1 ≤ f ∧ f ≤ 7 := by
      unfold ik at h
      split at h
      · split at h
        · exact ⟨by assumption,by assumption⟩
        · omega
      · omega
    have H:wA y m f=bZ y m:=by simp [wA,h]
    have I:wM y m f=fg y m:=by simp [wM,h]
    have hb:=sD y m J.1;have W:=eO y m;obtain ⟨_,U,V⟩:=J;have E:=hide (show bU y m f=bZ y m-(fg y m-f+7) % 7 by simp [bU,h]);have F:=hide h;have G:=hide (And.intro H I);clear h H I;go_enter Tryz.func122,Tryz.ntmps122;go_wp2_with fail;refine (kA _ _ _ _).mono ?_;rintro e Y ⟨rfl,o⟩;rw [F.out,G.out.1,G.out.2];go_wp2;go_ret2;exact ⟨aW (by rw [E.out];omega) F.out.symm,o⟩
  · have O:(ik y m f != 0)=true:=by simpa using h
    have E:=hide (show bU y m f=0 by simp [bU,h]);clear h;go_enter Tryz.func122,Tryz.ntmps122;go_wp2_with fail;refine (kA _ _ _ _).mono ?_;rintro e Y ⟨rfl,o⟩;go_wp2;go_ret2;exact ⟨aW E.out.symm rfl,o⟩
def dJ (y m f:Int):Int:=(f-fg y m+7+3) % 7-3
def jx (y m f:Int):Int:=if ik y m f=0 then pk (bZ y m) (dJ y m f) else 0
def jy (y m f:Int):Int:=if ik y m f=0 then pT (bZ y m) (dJ y m f) else ik y m f
theorem zH (y m f:Int) (w:World) :
    Calls Tryz.prog 302 #[y,m,f] w fun e w'=>e=.returned (.tuple #[jx y m f,jy y m f])∧Below w w w':=by
  by_cases h:ik y m f=0
  · have J : aL y m = true ∧ 1 ≤ f ∧ f ≤ 7 := by
      unfold ik at h
      split at h
      · split at h
        · exact ⟨by assumption,by assumption⟩
        · omega
      · omega
    have H:wA y m f=bZ y m:=by simp [wA,h]
    have I:wM y m f=fg y m:=by simp [wM,h]
    have hb:=sD y m J.1;have Y:=eO y m;obtain ⟨_,V,W⟩:=J;have E:=hide (show jx y m f=pk (bZ y m) ((f-fg y m+7+3) % 7-3) by simp [jx,h,dJ]);have F:=hide (show jy y m f=pT (bZ y m) ((f-fg y m+7+3) % 7-3) by simp [jy,h,dJ]);have O:=hide h;have G:=hide (And.intro H I);clear h H I;go_enter Tryz.func302,Tryz.ntmps302;go_wp2_with fail;refine (kA _ _ _ _).mono ?_;rintro e w1 ⟨rfl,o⟩;rw [O.out,G.out.1,G.out.2];go_wp2_with fail;refine (C9 _ _ _).mono ?_;rintro e w' ⟨rfl,rfl⟩;go_wp2;go_ret2;exact ⟨aW E.out.symm F.out.symm,o⟩
  · have U:(ik y m f != 0)=true:=by simpa using h
    have E:=hide (show jx y m f=0 by simp [jx,h]);have F:=hide (show jy y m f=ik y m f by simp [jy,h]);clear h;go_enter Tryz.func302,Tryz.ntmps302;go_wp2_with fail;refine (kA _ _ _ _).mono ?_;rintro e w1 ⟨rfl,o⟩;go_wp2;go_ret2;exact ⟨aW E.out.symm F.out.symm,o⟩
end
end Go.Proofs.YtpebkobmhhnojaaGreatDoor
