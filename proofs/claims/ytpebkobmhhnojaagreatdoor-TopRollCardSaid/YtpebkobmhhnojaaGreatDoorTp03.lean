/- Lemmas. -/
import Derived.Test.YtpebkobmhhnojaaGreatDoorTp00
set_option linter.unusedSimpArgs false
set_option linter.unusedVariables false
set_option maxRecDepth 100000
set_option maxHeartbeats 12800000
namespace Qd
structure aC where
 name:ByteArray
 kind:Int
 day:Int
 month:Int
 shift:Int
 shape:Int
 p0:Int
 p1:Int
 p2:Int
 cycle:Int
 extra:Int
 first:Int
 last:Int
 policy:Int
def d6 (b:Int):Bool:=decide (97≤b∧b≤122)
def dR (b:Int):Bool:=decide (48≤b∧b≤57)
def gC (b:Int):Bool:=d6 b || dR b || decide (b=45)
def ci (u:UInt8):Int:=(u.toNat:Int)
def iS (l:List UInt8):Nat:=(l.takeWhile fun u=>gC (ci u)).length
def jU (s:ByteArray):Bool:=
 decide (0<s.size)&&decide (s.size≤16)&&d6 (ci (s.data.toList.headD 0))&&decide (iS s.data.toList=s.size)
theorem AD (a b:Nat):((a:Int)==(b:Int))=decide (a=b):=by
 by_cases h:a=b
 ·simp [h]
 ·have f:¬ (a:Int)=(b:Int):=om
  rw [beq_eq_false_iff_ne.2 f];simp [h]
theorem vd (s:ByteArray) (h:0<s.size):s.data.toList.headD 0=s[0]:=by
 obtain ⟨⟨l⟩⟩:=s;cases l with
 | nil=>exact absurd h (by simp [ByteArray.size])
 | cons a l=>rfl
theorem wS (s:ByteArray) (h:0<s.size):jU s=(decide (s.size≤16)&&d6 (s[0].toNat:Int)&&decide (iS s.data.toList=s.size)):=by
 unfold jU;rw [vd s h];simp [h,ci]
theorem AR (s:ByteArray) (h:¬ 0<s.size):jU s=false:=by
 unfold jU;simp [h]
theorem vV (l:List UInt8):iS l≤l.length:=by
 unfold iS;exact (List.takeWhile_sublist _).length_le
theorem d8 {α:Type} (p:α→Bool) (l:List α) (k:Nat) (E:k<l.length) (h:∀ j,(F:j<k)→p (l[j]'om)=true) (f:p l[k]=false) :
  (l.takeWhile p).length=k:=by
 induction l generalizing k with
 | nil=>simp at E
 | cons a l G =>
  cases k with
  | zero=>simp at f;simp [List.takeWhile_cons,f]
  | succ k =>
   have o:=h 0 om;simp at o;simp only [List.takeWhile_cons,o,if_true,List.length_cons];rw [G k (by simpa using E) (fun j F=>by have:=h (j+1) om;simpa using this) (by simpa using f)]
theorem eR {α:Type} (p:α→Bool) (l:List α) (h:∀ j,(o:j<l.length)→p l[j]=true):(l.takeWhile p).length=l.length:=by
 induction l with
 | nil=>rfl
 | cons a l E =>
  have f:=h 0 af;simp at f;simp only [List.takeWhile_cons,f,if_true,List.length_cons];rw [E (fun j o=>by have:=h (j+1) (by simpa using o);simpa using this)]
def dl (shape f:Int):Int:=if shape=2 then 13 else if shape=3∧0<f then 52 / f else if 1≤shape∧shape≤5 then 12 else 0
def aC.pat0 (c:aC):Prop:=c.p0=0∧c.p1=0∧c.p2=0
instance (c:aC):Decidable c.pat0:=by unfold aC.pat0;infer_instance
def aC.pat13 (c:aC):Prop:=(c.p0=4∧c.p1=4∧c.p2=5)∨(c.p0=4∧c.p1=5∧c.p2=4)∨(c.p0=5∧c.p1=4∧c.p2=4)
instance (c:aC):Decidable c.pat13:=by unfold aC.pat13;infer_instance
def eG (h a b p f o:Int):Prop:=
 ((h=1∧((a=4∧b=4∧p=5)∨(a=4∧b=5∧p=4)∨(a=5∧b=4∧p=4))∧f=0)∨(h=2∧(a=0∧b=0∧p=0)∧f=0)∨(h=3∧(a=0∧b=0∧p=0)∧(f=1∨f=2∨f=4)))∧1≤o∧o≤dl h f
instance (sp a b p cy ex:Int):Decidable (eG sp a b p cy ex):=by unfold eG;infer_instance
def aC.weeks (c:aC):Prop:=eG c.shape c.p0 c.p1 c.p2 c.cycle c.extra
instance (c:aC):Decidable c.weeks:=by unfold aC.weeks;infer_instance
def aC.ruled (c:aC):Prop:=
 (c.kind=3∧c.day=6∧c.month=1∧c.shift=1∧c.shape=1∧c.p0=4∧c.p1=5∧c.p2=4∧c.cycle=0∧c.extra=12) ∨
 (c.kind=4∧c.day=7∧c.month=12∧c.shift=0∧c.shape=4∧c.pat0∧c.cycle=0∧c.extra=12) ∨
 ((c.kind=1∨c.kind=2)∧(1≤c.month∧c.month≤12)∧(0≤c.shift∧c.shift≤1)∧(1≤c.day∧c.day≤7)∧c.weeks) ∨
 (c.kind=5∧c.day=7∧c.month=12∧c.shift=0∧c.weeks) ∨
 (c.kind=6∧(1≤c.month∧c.month≤12)∧(0≤c.shift∧c.shift≤1)∧c.day=0∧c.shape=5∧c.pat0∧c.cycle=0∧c.extra=0)
instance (c:aC):Decidable c.ruled:=by unfold aC.ruled;infer_instance
def aC.served (c:aC):Prop:=1602≤c.first∧c.last≤9996∧c.first≤c.last∧c.last-c.first<400
instance (c:aC):Decidable c.served:=by unfold aC.served;infer_instance
def aC.polic (c:aC):Prop:=(1≤c.policy∧c.policy≤4)∧(c.policy=4↔c.kind=6)
instance (c:aC):Decidable c.polic:=by unfold aC.polic;infer_instance
def aC.Ok (c:aC):Prop:=c.served∧c.polic∧jU c.name=true∧c.ruled
instance (c:aC):Decidable c.Ok:=by unfold aC.Ok;infer_instance
def aC.okB (c:aC):Bool:=decide c.Ok
def iz (a b c:Int):Int:=if a=4∧b=4∧c=5 then 0 else if a=4∧b=5∧c=4 then 1 else if a=5∧b=4∧c=4 then 2 else -1
theorem Eg (a b p:Int):((a=4∧b=4∧p=5)∨(a=4∧b=5∧p=4)∨(a=5∧b=4∧p=4))↔0<iz a b p+1:=by
 unfold iz;constructor
 ·rintro (⟨rfl,rfl,rfl⟩ | ⟨rfl,rfl,rfl⟩ | ⟨rfl,rfl,rfl⟩) <;> decide
 ·intro h
  split at h
  ·left;assumption
  ·split at h
   ·right;left;assumption
   ·split at h
    ·right;right;assumption
    ·omega
def aL (y m:Int):Bool:=decide (1600≤y∧y≤9999∧1≤m∧m≤12)
def lE (y:Int):Bool:=decide (1600≤y∧y≤9999)&&(decide (y % 400=0) || (decide (y % 4=0)&&decide (y % 100≠0)))
def kK (m:Int):Int:=
 if m=1 then 0 else if m=2 then 31 else if m=3 then 59 else if m=4 then 90 else if m=5 then 120 else if m=6 then 151 else if m=7 then 181 else
 if m=8 then 212 else if m=9 then 243 else if m=10 then 273 else if m=11 then 304 else if m=12 then 334 else 365
def aN (y m:Int):Int:=kK m+if 2<m∧lE y=true then 1 else 0
def cM (y m:Int):Int:=if aL y m then aN y (m+1)-aN y m else 0
def gE (y m:Int):Int:=if aL y m then 0 else 4
def cN (y m d:Int):Bool:=aL y m&&decide (1≤d∧d≤cM y m)
def dA (y m d:Int):Int:=if cN y m d then 0 else 4
def bu (y:Int):Int:=(y-1600)*365+((y-1600+3) / 4-(y-1600+99) / 100+(y-1600+399) / 400)
def fj (y m d:Int):Int:=bu y+aN y m+d-1
def kD (y m d:Int):Int:=if cN y m d then fj y m d else 0
def cH (day:Int):Bool:=decide (0≤day∧day<3068037)
def nC (day:Int):Int:=if cH day then 0 else 4
def fm (day:Int):Int:=min (1600+day / 146097*400+day % 146097 / 36524*100+day % 146097 % 36524 / 1461*4+day % 146097 % 36524 % 1461 / 365) 9999
def dr (day:Int):Int:=if day<bu (fm day) then fm day-1 else fm day
def gL (y left:Int):Nat→Int
 | 0=>1
 | k+1=>if aN y (k+1)≤left then k+1 else gL y left k
def io (day:Int):Int:=gL (dr day) (day-bu (dr day)) 12
def xz (day:Int):Int:=day-bu (dr day)-aN (dr day) (io day)+1
theorem yJ (m:Int):0≤kK m∧kK m≤365:=by
 unfold kK
 repeat' split
 all_goals omega
theorem eh (y m:Int):0≤aN y m∧aN y m≤366:=by
 have:=yJ m;unfold aN
 split <;> omega
theorem kU (y m:Int):0≤cM y m∧cM y m≤31:=by
 unfold cM
 split
 ·rename_i h
  have o:1≤m∧m≤12:=by simp [aL] at h;omega
  have f:m=1∨m=2∨m=3∨m=4∨m=5∨m=6∨m=7∨m=8∨m=9∨m=10∨m=11∨m=12:=om;rcases f with rfl | rfl | rfl | rfl | rfl | rfl | rfl | rfl | rfl | rfl | rfl | rfl <;> (simp [aN,kK];try (split <;> omega))
 ·omega
theorem iO (y m:Int) (h:aL y m=true):28≤cM y m:=by
 unfold cM;rw [if_pos h];have o:1≤m∧m≤12:=by simp [aL] at h;omega
 have f:m=1∨m=2∨m=3∨m=4∨m=5∨m=6∨m=7∨m=8∨m=9∨m=10∨m=11∨m=12:=om;rcases f with rfl | rfl | rfl | rfl | rfl | rfl | rfl | rfl | rfl | rfl | rfl | rfl <;> (simp [aN,kK];try (split <;> omega))
theorem lU (y:Int):aN y 1=0:=by simp [aN,kK]
theorem eX (y:Int):aN y 13=365+if lE y=true then 1 else 0:=by simp [aN,kK]
theorem mM (y m:Int) (h:1≤m) (o:m≤12):aN y m+28≤aN y (m+1):=by
 have f:m=1∨m=2∨m=3∨m=4∨m=5∨m=6∨m=7∨m=8∨m=9∨m=10∨m=11∨m=12:=om;rcases f with rfl | rfl | rfl | rfl | rfl | rfl | rfl | rfl | rfl | rfl | rfl | rfl <;> (simp [aN,kK];try (split <;> omega))
theorem db (y:Int) (f:1600≤y) (h:y≤9999):bu (y+1)=bu y+365+if lE y=true then 1 else 0:=by
 unfold bu lE;have e:(decide (1600≤y∧y≤9999))=true:=by simp [f,h]
 rw [e];simp only [Bool.true_and,Bool.or_eq_true,Bool.and_eq_true,decide_eq_true_eq]
 split <;> omega
theorem iM (y:Int) (f:1600≤y) (h:y≤10000):0≤bu y∧bu y≤3068037:=by
 unfold bu;omega
theorem gd (a b:Int) (f:1600≤a) (h:a≤b):bu a≤bu b:=by unfold bu;omega
theorem np (a b:Int) (f:1600≤a) (h:a<b):bu a+365≤bu b:=by unfold bu;omega
theorem re (day:Int) (h0:0≤day) (h1:day<3068037) :
  1600≤fm day∧fm day≤9999∧day<bu (fm day+1)∧(bu (fm day)≤day∨(1601≤fm day∧bu (fm day-1)≤day)):=by
 obtain ⟨a,ha⟩:∃ a,a=day / 146097:=⟨_,rfl⟩;obtain ⟨r1,F⟩:∃ r,r=day % 146097:=⟨_,rfl⟩;obtain ⟨b,hb⟩:∃ b,b=r1 / 36524:=⟨_,rfl⟩;obtain ⟨r2,G⟩:∃ r,r=r1 % 36524:=⟨_,rfl⟩;obtain ⟨c,hc⟩:∃ c,c=r2 / 1461:=⟨_,rfl⟩;obtain ⟨o,H⟩:∃ r,r=r2 % 1461:=⟨_,rfl⟩;obtain ⟨e,he⟩:∃ e,e=o / 365:=⟨_,rfl⟩;have V:fm day=min (1600+a*400+b*100+c*4+e) 9999:=by
  unfold fm;rw [he,H,hc,G,hb,F,ha]
 have b1:0≤a∧a≤20:=om;have b2:0≤r1∧r1<146097∧day=146097*a+r1:=om;have b3:0≤b∧b≤4∧0≤r2∧r2<36524∧r1=36524*b+r2:=om;have b4:0≤c∧c≤24∧0≤o∧o<1461∧r2=1461*c+o:=om;have b5:0≤e∧e≤4∧365*e≤o∧o<365*e+365:=om;clear ha F hb G hc H he;have Y:∀ k,bu (1600+k)=k*365+((k+3) / 4-(k+99) / 100+(k+399) / 400):=by
  intro k;unfold bu;congr 2 <;> omega
 have h:400*a+100*b+4*c+e≤8399∨400*a+100*b+4*c+e=8400:=om;rcases h with W | W
 ·have f:fm day=1600+(400*a+100*b+4*c+e):=by rw [V];omega
  rw [f];have I:(1600:Int)+(400*a+100*b+4*c+e)+1=1600+(400*a+100*b+4*c+e+1):=om;have J:(1600:Int)+(400*a+100*b+4*c+e)-1=1600+(400*a+100*b+4*c+e-1):=om;rw [I,J,Y,Y,Y];clear V f I J Y h0 h1;have U:e=0∨e=1∨e=2∨e=3∨e=4:=om;have O:b=0∨b=1∨b=2∨b=3∨b=4:=om;have E:c=0∨(1≤c∧c≤23)∨c=24:=om;rcases U with rfl | rfl | rfl | rfl | rfl <;> rcases O with rfl | rfl | rfl | rfl | rfl <;> rcases E with rfl | E | rfl <;> omega
 ·have f:fm day=9999:=by rw [V];omega
  rw [f];have e0:bu 9999=3067672:=by decide
  have I:bu (9999+1)=3068037:=by decide
  have J:bu (9999-1)=3067307:=by decide
  rw [e0,I,J];omega
theorem pU (day:Int) (f:0≤day) (o:day<3068037):1600≤dr day∧dr day≤9999∧bu (dr day)≤day∧day<bu (dr day+1):=by
 obtain ⟨E,F,G,H⟩:=re day f o;unfold dr
 split
 ·rename_i h
  have e:fm day-1+1=fm day:=om;rw [e];omega
 ·omega
theorem mH (y left:Int) (o:0≤left):∀ k:Nat,1≤k→k≤12→left<aN y (k+1) →
  1≤gL y left k∧gL y left k≤k∧aN y (gL y left k)≤left∧left<aN y (gL y left k+1)
 | 0,h,_,_=>by omega
 | k+1,_,h2,h3=>by
  unfold gL
  split
  ·rename_i h
   exact ⟨by omega,by omega,h,by simpa using h3⟩
  ·rename_i h
   have E:1≤k:=by
    rcases Nat.eq_zero_or_pos k with f | f
    ·exfalso
     subst f;have F:=lU y;simp at h;omega
    ·exact f
   have:=mH y left o k E om om;omega
theorem DI (day:Int) (h:cH day=true) :
  cN (dr day) (io day) (xz day)=true∧fj (dr day) (io day) (xz day)=day:=by
 have o:0≤day∧day<3068037:=by simpa [cH] using h
 obtain ⟨G,H,W,Y⟩:=pU day o.1 o.2;have I:=db (dr day) G H;have f:=eX (dr day);obtain ⟨J,O,U,V⟩:=mH (dr day) (day-bu (dr day)) om 12 om om (by have:((12:Nat):Int)+1=13:=rfl;rw [this,f];omega);have E:aL (dr day) (io day)=true:=by
  unfold io;simp only [aL,decide_eq_true_eq];omega
 refine ⟨?_,?_⟩
 ·unfold cN
  rw [E];have F:cM (dr day) (io day)=aN (dr day) (io day+1)-aN (dr day) (io day):=by unfold cM;rw [if_pos E]
  rw [F];unfold xz io;simp only [Bool.true_and,decide_eq_true_eq];omega
 ·unfold fj xz
  omega
theorem iT (y a b:Int) (E:1≤a) (h:a<b) (H:b≤13):aN y a+28≤aN y b:=by
 have f:∀ n:Nat,∀ a:Int,1≤a→a+n+1≤13→aN y a+28≤aN y (a+n+1):=by
  intro n
  induction n with
  | zero=>intro a o F;simpa using mM y a o om
  | succ n G =>
   intro a o F;have I:=G a o om;have J:=mM y (a+n+1) om om;have e:a+((n+1:Nat):Int)+1=a+n+1+1:=om;rw [e];omega
 have:=f (b-a-1).toNat a E om;have e:a+((b-a-1).toNat:Int)+1=b:=om
 rwa [e] at this
theorem ym {y m d F o I:Int} (h:cN y m d=true) (U:cN F o I=true) (e:fj y m d=fj F o I):y=F∧m=o∧d=I:=by
 have H:∀ {y m d:Int},cN y m d=true→1600≤y∧y≤9999∧1≤m∧m≤12∧1≤d∧aN y m+d≤aN y (m+1)∧aN y (m+1)≤aN y 13∧0≤aN y m∧bu y+aN y 13=bu (y+1):=by
  intro y m d h;simp only [cN,Bool.and_eq_true,decide_eq_true_eq] at h;obtain ⟨O,W,Y⟩:=h;have hl:cM y m=aN y (m+1)-aN y m:=by unfold cM;rw [if_pos O]
  have G:1600≤y∧y≤9999∧1≤m∧m≤12:=by simpa [aL] using O
  have V:=eX y;have hs:=db y G.1 G.2.1;have hb:=eh y m;have J:aN y (m+1)≤aN y 13:=by
   rcases Int.lt_or_eq_of_le (show m+1≤13 by omega) with f | f
   ·have:=iT y (m+1) 13 om f om;omega
   ·rw [f];omega
  omega
 have k:=H h;have k':=H U;unfold fj at e;have hy:y=F:=by
  rcases Int.lt_trichotomy y F with f | f | f
  ·have:=gd (y+1) F om om;omega
  ·exact f
  ·have:=gd (F+1) y om om;omega
 subst hy;have J:m=o:=by
  rcases Int.lt_trichotomy m o with f | f | f
  ·rcases Int.lt_or_eq_of_le (show m+1≤o by omega) with E | E
   ·have:=iT y (m+1) o om E om;omega
   ·subst E;omega
  ·exact f
  ·rcases Int.lt_or_eq_of_le (show o+1≤m by omega) with E | E
   ·have:=iT y (o+1) m om E om;omega
   ·subst E;omega
 subst J;exact ⟨rfl,rfl,by omega⟩
theorem uo {y m d:Int} (h:cN y m d=true):cH (fj y m d)=true:=by
 simp only [cN,Bool.and_eq_true,decide_eq_true_eq] at h;obtain ⟨E,G,H⟩:=h;have O:cM y m=aN y (m+1)-aN y m:=by unfold cM;rw [if_pos E]
 have f:1600≤y∧y≤9999∧1≤m∧m≤12:=by simpa [aL] using E
 have F:=eX y;have V:=db y f.1 f.2.1;have J:=eh y m;have W:=iM y f.1 om;have I:=iM (y+1) om om;have U:aN y (m+1)≤aN y 13:=by
  rcases Int.lt_or_eq_of_le (show m+1≤13 by omega) with o | o
  ·have:=iT y (m+1) 13 om o om;omega
  ·rw [o];omega
 unfold cH fj;rw [decide_eq_true_eq];omega
theorem me {y m d:Int} (h:cN y m d=true):dr (fj y m d)=y∧io (fj y m d)=m∧xz (fj y m d)=d:=by
 obtain ⟨f,o⟩:=DI _ (uo h);exact ym f h o
structure Un where
 lv:Int
 yr:Int
 ix:Int
structure Sp where
 a:Int
 b:Int
end Qd
