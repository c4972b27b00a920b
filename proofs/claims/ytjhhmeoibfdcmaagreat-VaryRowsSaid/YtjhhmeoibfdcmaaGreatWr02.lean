/- Lemmas. -/
import Derived.Test.YtjhhmeoibfdcmaaGreatWr00
set_option linter.unusedSimpArgs false
set_option linter.unusedVariables false
set_option maxRecDepth 100000
set_option maxHeartbeats 12800000
namespace Qd
structure ar where
 name:ByteArray
 kind:Int
 day:Int
 month:Int
 shift:Int
 shape:Int
 p0:Int
 p1:Int
 p2:Int
 cycle:Int
 extra:Int
 first:Int
 last:Int
 policy:Int
def gC (b:Int):Bool:=decide (97≤b∧b≤122)
def o9 (b:Int):Bool:=decide (48≤b∧b≤57)
def gk (b:Int):Bool:=gC b || o9 b || decide (b=45)
def mn (u:UInt8):Int:=(u.toNat:Int)
def kP (l:List UInt8):Nat:=(l.takeWhile fun u=>gk (mn u)).length
def bH (s:ByteArray):Bool:=
 decide (0<s.size)&&decide (s.size≤16)&&gC (mn (s.data.toList.headD 0))&&decide (kP s.data.toList=s.size)
theorem EX (a b:Nat):((a:Int)==(b:Int))=decide (a=b):=by
 by_cases h:a=b
 ·simp [h]
 ·have f:¬ (a:Int)=(b:Int):=om
  rw [beq_eq_false_iff_ne.2 f];simp [h]
theorem Br (s:ByteArray) (h:0<s.size):s.data.toList.headD 0=s[0]:=by
 obtain ⟨⟨l⟩⟩:=s;cases l with
 | nil=>exact absurd h (by simp [ByteArray.size])
 | cons a l=>rfl
theorem lr (s:ByteArray) (h:0<s.size):bH s=(decide (s.size≤16)&&gC (s[0].toNat:Int)&&decide (kP s.data.toList=s.size)):=by
 unfold bH;rw [Br s h];simp [h,mn]
theorem vj (s:ByteArray) (h:¬ 0<s.size):bH s=false:=by
 unfold bH;simp [h]
theorem iM {α:Type} (p:α→Bool) (l:List α) (k:Nat) (E:k<l.length) (h:∀ j,(F:j<k)→p (l[j]'om)=true) (f:p l[k]=false) :
  (l.takeWhile p).length=k:=by
 induction l generalizing k with
 | nil=>simp at E
 | cons a l G =>
  cases k with
  | zero=>simp at f;simp [List.takeWhile_cons,f]
  | succ k =>
   have o:=h 0 om;simp at o;simp only [List.takeWhile_cons,o,if_true,List.length_cons];rw [G k (by simpa using E) (fun j F=>by have:=h (j+1) om;simpa using this) (by simpa using f)]
theorem jm {α:Type} (p:α→Bool) (l:List α) (h:∀ j,(o:j<l.length)→p l[j]=true):(l.takeWhile p).length=l.length:=by
 induction l with
 | nil=>rfl
 | cons a l E =>
  have f:=h 0 ac;simp at f;simp only [List.takeWhile_cons,f,if_true,List.length_cons];rw [E (fun j o=>by have:=h (j+1) (by simpa using o);simpa using this)]
def bC (shape f:Int):Int:=if shape=2 then 13 else if shape=3∧0<f then 52 / f else if 1≤shape∧shape≤5 then 12 else 0
def ar.pat0 (c:ar):Prop:=c.p0=0∧c.p1=0∧c.p2=0
instance (c:ar):Decidable c.pat0:=by unfold ar.pat0;infer_instance
def ar.pat13 (c:ar):Prop:=(c.p0=4∧c.p1=4∧c.p2=5)∨(c.p0=4∧c.p1=5∧c.p2=4)∨(c.p0=5∧c.p1=4∧c.p2=4)
instance (c:ar):Decidable c.pat13:=by unfold ar.pat13;infer_instance
def dB (h a b p f o:Int):Prop:=
 ((h=1∧((a=4∧b=4∧p=5)∨(a=4∧b=5∧p=4)∨(a=5∧b=4∧p=4))∧f=0)∨(h=2∧(a=0∧b=0∧p=0)∧f=0)∨(h=3∧(a=0∧b=0∧p=0)∧(f=1∨f=2∨f=4)))∧1≤o∧o≤bC h f
instance (sp a b p cy ex:Int):Decidable (dB sp a b p cy ex):=by unfold dB;infer_instance
def ar.weeks (c:ar):Prop:=dB c.shape c.p0 c.p1 c.p2 c.cycle c.extra
instance (c:ar):Decidable c.weeks:=by unfold ar.weeks;infer_instance
def ar.ruled (c:ar):Prop:=
 (c.kind=3∧c.day=6∧c.month=1∧c.shift=1∧c.shape=1∧c.p0=4∧c.p1=5∧c.p2=4∧c.cycle=0∧c.extra=12) ∨
 (c.kind=4∧c.day=7∧c.month=12∧c.shift=0∧c.shape=4∧c.pat0∧c.cycle=0∧c.extra=12) ∨
 ((c.kind=1∨c.kind=2)∧(1≤c.month∧c.month≤12)∧(0≤c.shift∧c.shift≤1)∧(1≤c.day∧c.day≤7)∧c.weeks) ∨
 (c.kind=5∧c.day=7∧c.month=12∧c.shift=0∧c.weeks) ∨
 (c.kind=6∧(1≤c.month∧c.month≤12)∧(0≤c.shift∧c.shift≤1)∧c.day=0∧c.shape=5∧c.pat0∧c.cycle=0∧c.extra=0)
instance (c:ar):Decidable c.ruled:=by unfold ar.ruled;infer_instance
def ar.served (c:ar):Prop:=1602≤c.first∧c.last≤9996∧c.first≤c.last∧c.last-c.first<400
instance (c:ar):Decidable c.served:=by unfold ar.served;infer_instance
def ar.polic (c:ar):Prop:=(1≤c.policy∧c.policy≤4)∧(c.policy=4↔c.kind=6)
instance (c:ar):Decidable c.polic:=by unfold ar.polic;infer_instance
def ar.Ok (c:ar):Prop:=c.served∧c.polic∧bH c.name=true∧c.ruled
instance (c:ar):Decidable c.Ok:=by unfold ar.Ok;infer_instance
def ar.okB (c:ar):Bool:=decide c.Ok
def km (a b c:Int):Int:=if a=4∧b=4∧c=5 then 0 else if a=4∧b=5∧c=4 then 1 else if a=5∧b=4∧c=4 then 2 else -1
theorem JC (a b p:Int):((a=4∧b=4∧p=5)∨(a=4∧b=5∧p=4)∨(a=5∧b=4∧p=4))↔0<km a b p+1:=by
 unfold km;constructor
 ·rintro (⟨rfl,rfl,rfl⟩ | ⟨rfl,rfl,rfl⟩ | ⟨rfl,rfl,rfl⟩) <;> decide
 ·intro h
  split at h
  ·left;assumption
  ·split at h
   ·right;left;assumption
   ·split at h
    ·right;right;assumption
    ·omega
def aP (y m:Int):Bool:=decide (1600≤y∧y≤9999∧1≤m∧m≤12)
def fS (y:Int):Bool:=decide (1600≤y∧y≤9999)&&(decide (y % 400=0) || (decide (y % 4=0)&&decide (y % 100≠0)))
def lR (m:Int):Int:=
 if m=1 then 0 else if m=2 then 31 else if m=3 then 59 else if m=4 then 90 else if m=5 then 120 else if m=6 then 151 else if m=7 then 181 else
 if m=8 then 212 else if m=9 then 243 else if m=10 then 273 else if m=11 then 304 else if m=12 then 334 else 365
def aK (y m:Int):Int:=lR m+if 2<m∧fS y=true then 1 else 0
def bS (y m:Int):Int:=if aP y m then aK y (m+1)-aK y m else 0
def dI (y m:Int):Int:=if aP y m then 0 else 4
def dc (y m d:Int):Bool:=aP y m&&decide (1≤d∧d≤bS y m)
def cQ (y m d:Int):Int:=if dc y m d then 0 else 4
def aV (y:Int):Int:=(y-1600)*365+((y-1600+3) / 4-(y-1600+99) / 100+(y-1600+399) / 400)
def jl (y m d:Int):Int:=aV y+aK y m+d-1
def iY (y m d:Int):Int:=if dc y m d then jl y m d else 0
def cH (day:Int):Bool:=decide (0≤day∧day<3068037)
def nI (day:Int):Int:=if cH day then 0 else 4
def gY (day:Int):Int:=min (1600+day / 146097*400+day % 146097 / 36524*100+day % 146097 % 36524 / 1461*4+day % 146097 % 36524 % 1461 / 365) 9999
def dL (day:Int):Int:=if day<aV (gY day) then gY day-1 else gY day
def jQ (y left:Int):Nat→Int
 | 0=>1
 | k+1=>if aK y (k+1)≤left then k+1 else jQ y left k
def jU (day:Int):Int:=jQ (dL day) (day-aV (dL day)) 12
def wU (day:Int):Int:=day-aV (dL day)-aK (dL day) (jU day)+1
theorem Du (m:Int):0≤lR m∧lR m≤365:=by
 unfold lR
 repeat' split
 all_goals omega
theorem ep (y m:Int):0≤aK y m∧aK y m≤366:=by
 have:=Du m;unfold aK
 split <;> omega
theorem jX (y m:Int):0≤bS y m∧bS y m≤31:=by
 unfold bS
 split
 ·rename_i h
  have o:1≤m∧m≤12:=by simp [aP] at h;omega
  have f:m=1∨m=2∨m=3∨m=4∨m=5∨m=6∨m=7∨m=8∨m=9∨m=10∨m=11∨m=12:=om;rcases f with rfl | rfl | rfl | rfl | rfl | rfl | rfl | rfl | rfl | rfl | rfl | rfl <;> (simp [aK,lR];try (split <;> omega))
 ·omega
theorem nf (y m:Int) (h:aP y m=true):28≤bS y m:=by
 unfold bS;rw [if_pos h];have o:1≤m∧m≤12:=by simp [aP] at h;omega
 have f:m=1∨m=2∨m=3∨m=4∨m=5∨m=6∨m=7∨m=8∨m=9∨m=10∨m=11∨m=12:=om;rcases f with rfl | rfl | rfl | rfl | rfl | rfl | rfl | rfl | rfl | rfl | rfl | rfl <;> (simp [aK,lR];try (split <;> omega))
theorem lB (y:Int):aK y 1=0:=by simp [aK,lR]
theorem gK (y:Int):aK y 13=365+if fS y=true then 1 else 0:=by simp [aK,lR]
theorem qK (y m:Int) (h:1≤m) (o:m≤12):aK y m+28≤aK y (m+1):=by
 have f:m=1∨m=2∨m=3∨m=4∨m=5∨m=6∨m=7∨m=8∨m=9∨m=10∨m=11∨m=12:=om;rcases f with rfl | rfl | rfl | rfl | rfl | rfl | rfl | rfl | rfl | rfl | rfl | rfl <;> (simp [aK,lR];try (split <;> omega))
theorem ed (y:Int) (f:1600≤y) (h:y≤9999):aV (y+1)=aV y+365+if fS y=true then 1 else 0:=by
 unfold aV fS;have e:(decide (1600≤y∧y≤9999))=true:=by simp [f,h]
 rw [e];simp only [Bool.true_and,Bool.or_eq_true,Bool.and_eq_true,decide_eq_true_eq]
 split <;> omega
theorem iI (y:Int) (f:1600≤y) (h:y≤10000):0≤aV y∧aV y≤3068037:=by
 unfold aV;omega
theorem mf:aV 1600=0:=by decide
theorem CB:aV 10000=3068037:=by decide
theorem gg (a b:Int) (f:1600≤a) (h:a≤b):aV a≤aV b:=by unfold aV;omega
theorem kV (a b:Int) (f:1600≤a) (h:a<b):aV a+365≤aV b:=by unfold aV;omega
theorem uG (day:Int) (h0:0≤day) (h1:day<3068037) :
  1600≤gY day∧gY day≤9999∧day<aV (gY day+1)∧(aV (gY day)≤day∨(1601≤gY day∧aV (gY day-1)≤day)):=by
 obtain ⟨a,U⟩:∃ a,a=day / 146097:=⟨_,rfl⟩;obtain ⟨r1,F⟩:∃ r,r=day % 146097:=⟨_,rfl⟩;obtain ⟨b,V⟩:∃ b,b=r1 / 36524:=⟨_,rfl⟩;obtain ⟨r2,G⟩:∃ r,r=r1 % 36524:=⟨_,rfl⟩;obtain ⟨c,W⟩:∃ c,c=r2 / 1461:=⟨_,rfl⟩;obtain ⟨o,H⟩:∃ r,r=r2 % 1461:=⟨_,rfl⟩;obtain ⟨e,he⟩:∃ e,e=o / 365:=⟨_,rfl⟩;have S:gY day=min (1600+a*400+b*100+c*4+e) 9999:=by
  unfold gY;rw [he,H,W,G,V,F,U]
 have b1:0≤a∧a≤20:=om;have b2:0≤r1∧r1<146097∧day=146097*a+r1:=om;have b3:0≤b∧b≤4∧0≤r2∧r2<36524∧r1=36524*b+r2:=om;have b4:0≤c∧c≤24∧0≤o∧o<1461∧r2=1461*c+o:=om;have b5:0≤e∧e≤4∧365*e≤o∧o<365*e+365:=om;clear U F V G W H he;have Y:∀ k,aV (1600+k)=k*365+((k+3) / 4-(k+99) / 100+(k+399) / 400):=by
  intro k;unfold aV;congr 2 <;> omega
 have h:400*a+100*b+4*c+e≤8399∨400*a+100*b+4*c+e=8400:=om;rcases h with T | T
 ·have f:gY day=1600+(400*a+100*b+4*c+e):=by rw [S];omega
  rw [f];have I:(1600:Int)+(400*a+100*b+4*c+e)+1=1600+(400*a+100*b+4*c+e+1):=om;have J:(1600:Int)+(400*a+100*b+4*c+e)-1=1600+(400*a+100*b+4*c+e-1):=om;rw [I,J,Y,Y,Y];clear S f I J Y h0 h1;have R:e=0∨e=1∨e=2∨e=3∨e=4:=om;have O:b=0∨b=1∨b=2∨b=3∨b=4:=om;have E:c=0∨(1≤c∧c≤23)∨c=24:=om;rcases R with rfl | rfl | rfl | rfl | rfl <;> rcases O with rfl | rfl | rfl | rfl | rfl <;> rcases E with rfl | E | rfl <;> omega
 ·have f:gY day=9999:=by rw [S];omega
  rw [f];have e0:aV 9999=3067672:=by decide
  have I:aV (9999+1)=3068037:=by decide
  have J:aV (9999-1)=3067307:=by decide
  rw [e0,I,J];omega
theorem nd (day:Int) (f:0≤day) (o:day<3068037):1600≤dL day∧dL day≤9999∧aV (dL day)≤day∧day<aV (dL day+1):=by
 obtain ⟨E,F,G,H⟩:=uG day f o;unfold dL
 split
 ·rename_i h
  have e:gY day-1+1=gY day:=om;rw [e];omega
 ·omega
theorem pA (y left:Int) (o:0≤left):∀ k:Nat,1≤k→k≤12→left<aK y (k+1) →
  1≤jQ y left k∧jQ y left k≤k∧aK y (jQ y left k)≤left∧left<aK y (jQ y left k+1)
 | 0,h,_,_=>by omega
 | k+1,_,h2,h3=>by
  unfold jQ
  split
  ·rename_i h
   exact ⟨by omega,by omega,h,by simpa using h3⟩
  ·rename_i h
   have E:1≤k:=by
    rcases Nat.eq_zero_or_pos k with f | f
    ·exfalso
     subst f;have F:=lB y;simp at h;omega
    ·exact f
   have:=pA y left o k E om om;omega
theorem Ix (day:Int) (h:cH day=true) :
  dc (dL day) (jU day) (wU day)=true∧jl (dL day) (jU day) (wU day)=day:=by
 have o:0≤day∧day<3068037:=by simpa [cH] using h
 obtain ⟨G,H,T,U⟩:=nd day o.1 o.2;have I:=ed (dL day) G H;have f:=gK (dL day);obtain ⟨J,O,R,S⟩:=pA (dL day) (day-aV (dL day)) om 12 om om (by have:((12:Nat):Int)+1=13:=rfl;rw [this,f];omega);have E:aP (dL day) (jU day)=true:=by
  unfold jU;simp only [aP,decide_eq_true_eq];omega
 refine ⟨?_,?_⟩
 ·unfold dc
  rw [E];have F:bS (dL day) (jU day)=aK (dL day) (jU day+1)-aK (dL day) (jU day):=by unfold bS;rw [if_pos E]
  rw [F];unfold wU jU;simp only [Bool.true_and,decide_eq_true_eq];omega
 ·unfold jl wU
  omega
theorem jA (y a b:Int) (E:1≤a) (h:a<b) (H:b≤13):aK y a+28≤aK y b:=by
 have f:∀ n:Nat,∀ a:Int,1≤a→a+n+1≤13→aK y a+28≤aK y (a+n+1):=by
  intro n
  induction n with
  | zero=>intro a o F;simpa using qK y a o om
  | succ n G =>
   intro a o F;have I:=G a o om;have J:=qK y (a+n+1) om om;have e:a+((n+1:Nat):Int)+1=a+n+1+1:=om;rw [e];omega
 have:=f (b-a-1).toNat a E om;have e:a+((b-a-1).toNat:Int)+1=b:=om
 rwa [e] at this
theorem D6 {y m d F o I:Int} (h:dc y m d=true) (R:dc F o I=true) (e:jl y m d=jl F o I):y=F∧m=o∧d=I:=by
 have H:∀ {y m d:Int},dc y m d=true→1600≤y∧y≤9999∧1≤m∧m≤12∧1≤d∧aK y m+d≤aK y (m+1)∧aK y (m+1)≤aK y 13∧0≤aK y m∧aV y+aK y 13=aV (y+1):=by
  intro y m d h;simp only [dc,Bool.and_eq_true,decide_eq_true_eq] at h;obtain ⟨O,T,U⟩:=h;have hl:bS y m=aK y (m+1)-aK y m:=by unfold bS;rw [if_pos O]
  have G:1600≤y∧y≤9999∧1≤m∧m≤12:=by simpa [aP] using O
  have S:=gK y;have hs:=ed y G.1 G.2.1;have W:=ep y m;have J:aK y (m+1)≤aK y 13:=by
   rcases Int.lt_or_eq_of_le (show m+1≤13 by omega) with f | f
   ·have:=jA y (m+1) 13 om f om;omega
   ·rw [f];omega
  omega
 have k:=H h;have k':=H R;unfold jl at e;have V:y=F:=by
  rcases Int.lt_trichotomy y F with f | f | f
  ·have:=gg (y+1) F om om;omega
  ·exact f
  ·have:=gg (F+1) y om om;omega
 subst V;have J:m=o:=by
  rcases Int.lt_trichotomy m o with f | f | f
  ·rcases Int.lt_or_eq_of_le (show m+1≤o by omega) with E | E
   ·have:=jA y (m+1) o om E om;omega
   ·subst E;omega
  ·exact f
  ·rcases Int.lt_or_eq_of_le (show o+1≤m by omega) with E | E
   ·have:=jA y (o+1) m om E om;omega
   ·subst E;omega
 subst J;exact ⟨rfl,rfl,by omega⟩
theorem t8 {y m d:Int} (h:dc y m d=true):cH (jl y m d)=true:=by
 simp only [dc,Bool.and_eq_true,decide_eq_true_eq] at h;obtain ⟨E,G,H⟩:=h;have O:bS y m=aK y (m+1)-aK y m:=by unfold bS;rw [if_pos E]
 have f:1600≤y∧y≤9999∧1≤m∧m≤12:=by simpa [aP] using E
 have F:=gK y;have S:=ed y f.1 f.2.1;have J:=ep y m;have T:=iI y f.1 om;have I:=iI (y+1) om om;have R:aK y (m+1)≤aK y 13:=by
  rcases Int.lt_or_eq_of_le (show m+1≤13 by omega) with o | o
  ·have:=jA y (m+1) 13 om o om;omega
  ·rw [o];omega
 unfold cH jl;rw [decide_eq_true_eq];omega
theorem zQ {y m d:Int} (h:dc y m d=true):dL (jl y m d)=y∧jU (jl y m d)=m∧wU (jl y m d)=d:=by
 obtain ⟨f,o⟩:=Ix _ (t8 h);exact D6 f h o
structure Un where
 lv:Int
 yr:Int
 ix:Int
structure Sp where
 a:Int
 b:Int
end Qd
