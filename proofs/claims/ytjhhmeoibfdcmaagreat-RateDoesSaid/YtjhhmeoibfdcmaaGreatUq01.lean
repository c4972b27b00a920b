/- Small lemmas for walks, over any program. Plain words on calendars: no program in sight. Plain words on the civil calendar: no program in sight. The day's year and month, found: no program in sight. Plain words on units and spans: no program in sight. Contracts of lex and field, first part. Units and spans as values. -/
import Derived.BigGuardPart
import Derived.BigQuiet
import Derived.BigRegion
import Derived.ChangeAlike
import Derived.Deep.AppendLies
import Derived.Deep.DeepCutAuto
import Derived.Deep.DeepFit
import Derived.Deep.Draws
import Derived.Deep.LoopGhost
import Derived.Deep.QuietTactic
import Derived.Deep.RegionHeld3
import Derived.Deep.RegionWith
import Derived.Handy
import Derived.Lib.Hide
import Derived.Maps.AppendAt
import Derived.RegionTactic
import Derived.StillTailTactics
import Derived.Test.YtjhhmeoibfdcmaaGreatRows
import Derived.WalkKit
import Derived.WalkLawsBesides
import Derived.WalkSpells
set_option linter.unusedSimpArgs false
set_option linter.unusedVariables false
set_option maxRecDepth 100000
set_option maxHeartbeats 12800000
namespace Go.Proofs.YtjhhmeoibfdcmaaGreat
open Go.RowKit
theorem ret_bool {a b:Bool} (h:a=b):Ending.returned (.bool a)=.returned (.bool b):=by rw [h]
theorem ret_int {k:IntKind} {a b:Int} (h:a=b):Ending.returned (.int k a)=.returned (.int k b):=by rw [h]
theorem ret_int2 {k l:IntKind} {a b c d:Int} (h:a=c) (h2:b=d):Ending.returned (.tuple #[.int k a,.int l b])=.returned (.tuple #[.int k c,.int l d]):=by rw [h,h2]
theorem hide {p:Prop} (h:p):Hid p:=h
theorem unhide {p:Prop} (h:Hid p):p:=h
theorem quiet_add_left {P:Program} {f:FuncId} {args:Array Value} {w:World} {a n:Nat} {v:Value}
    (h:Calls P f args (w.drewN (a+n)) fun e w'=>e=.returned v∧w.drewN (a+n)=w') :
    Calls P f args (w.drewN (a+n)) fun e w''=>e=.returned v∧∃ m,w''=w.drewN (a+m):=
  h.mono fun _ _ ⟨he,hm⟩=>⟨he,n,hm.symm⟩
theorem quiet_left {P:Program} {f:FuncId} {args:Array Value} {w:World} {n:Nat} {v:Value}
    (h:Calls P f args (w.drewN n) fun e w'=>e=.returned v∧w.drewN n=w'):Calls P f args (w.drewN n) fun e w''=>e=.returned v∧∃ m,w''=w.drewN m:=
  h.mono fun _ _ ⟨he,hm⟩=>⟨he,n,hm.symm⟩
theorem bcell {W w1:World} (hb:Below W.heap.size W w1):(∀ b o,b<W.heap.size→w1.cell? ⟨b,o,none⟩=W.cell? ⟨b,o,none⟩)∧(∀ b o,b<W.heap.size→w1.frozen? ⟨b,o,none⟩=W.frozen? ⟨b,o,none⟩):=
  ⟨fun b o h=>hb.cell (p:=⟨b,o,none⟩) h,fun b o h=>hb.frozen (p:=⟨b,o,none⟩) h⟩
theorem sz {p:Prop} (h:p:=by first | omega | (simp;done) | (simp;omega)):p:=h
theorem bel {n:Nat} {w w':World} (h:Below n w w':=by repeat' (first | (with_reducible exact Below.refl _ _) | (with_reducible assumption) | (with_reducible refine Below.alloc ?_ ?_ _) | (with_reducible refine below_drewN ?_ _) | (with_reducible refine Below.drew ?_) | (with_reducible refine Below.setCell ?_ ?_ _) | (with_reducible refine Below.trans ?_ (Below.mono (by assumption) ?_)) | go_size | (simp at *;omega))):Below n w w':=h
theorem ww {n m:Nat} {w W w1:World} (hb:Below m W w1) (h:Below n w W:=by exact bel) (h2:n≤m:=by exact sz):Hid (Below n w w1):=h.trans (hb.mono h2)
@[go_sem] theorem eqPat (d:Nat) (a b c x y z:Int) (w:World):(Op.equalIn (d+2) 22 (.agg #[.int .i64 a,.int .i64 b,.int .i64 c]) (.agg #[.int .i64 x,.int .i64 y,.int .i64 z])).run Tryz.prog w=.ok (a==x&&(b==y&&c==z)) w:=by
  have u3:=Tryz.underlying3
  have a3:=Tryz.isAgg3
  have z3:=Tryz.sizeOf3
  rw [Op.equalIn]
  simp only [Sem.run_bind,run_underlying Tryz.underlying22,Result.andThen_ok]
  simp only [Std.Legacy.Range.forIn_eq_forIn_range',Std.Legacy.Range.size,Nat.sub_zero,Nat.add_sub_cancel,Nat.div_one,List.range'_succ,List.range'_zero,List.forIn_cons,List.forIn_nil]
  go_simp
  by_cases h1:a=x <;> by_cases h2:b=y <;> by_cases h3:c=z <;> simp [h1,h2,h3]
end Go.Proofs.YtjhhmeoibfdcmaaGreat
namespace Qd
structure Cal where
  name:ByteArray
  kind:Int
  day:Int
  month:Int
  shift:Int
  shape:Int
  p0:Int
  p1:Int
  p2:Int
  cycle:Int
  extra:Int
  first:Int
  last:Int
  policy:Int
def letterB (b:Int):Bool:=decide (97≤b∧b≤122)
def digitB (b:Int):Bool:=decide (48≤b∧b≤57)
def innerB (b:Int):Bool:=letterB b || digitB b || decide (b=45)
def byteI (u:UInt8):Int:=(u.toNat:Int)
def runLen (l:List UInt8):Nat:=(l.takeWhile fun u=>innerB (byteI u)).length
def nameB (s:ByteArray):Bool:=
  decide (0<s.size)&&decide (s.size≤16)&&letterB (byteI (s.data.toList.headD 0))&&decide (runLen s.data.toList=s.size)
theorem beq_cast (a b:Nat):((a:Int)==(b:Int))=decide (a=b):=by
  by_cases h:a=b
  · simp [h]
  · have h2:¬ (a:Int)=(b:Int):=by omega
    rw [beq_eq_false_iff_ne.2 h2];simp [h]
theorem head_byte (s:ByteArray) (h:0<s.size):s.data.toList.headD 0=s[0]:=by
  obtain ⟨⟨l⟩⟩:=s
  cases l with
  | nil=>exact absurd h (by simp [ByteArray.size])
  | cons a l=>rfl
theorem nameB_yes (s:ByteArray) (h:0<s.size):nameB s=(decide (s.size≤16)&&letterB (s[0].toNat:Int)&&decide (runLen s.data.toList=s.size)):=by
  unfold nameB
  rw [head_byte s h]
  simp [h,byteI]
theorem nameB_no (s:ByteArray) (h:¬ 0<s.size):nameB s=false:=by
  unfold nameB
  simp [h]
theorem takeWhile_stop {α:Type} (p:α→Bool) (l:List α) (k:Nat) (hk:k<l.length) (h:∀ j,(hj:j<k)→p (l[j]'(by omega))=true) (hn:p l[k]=false) :
    (l.takeWhile p).length=k:=by
  induction l generalizing k with
  | nil=>simp at hk
  | cons a l ih =>
    cases k with
    | zero=>simp at hn;simp [List.takeWhile_cons,hn]
    | succ k =>
      have h0:=h 0 (by omega)
      simp at h0
      simp only [List.takeWhile_cons,h0,if_true,List.length_cons]
      rw [ih k (by simpa using hk) (fun j hj=>by have:=h (j+1) (by omega);simpa using this) (by simpa using hn)]
theorem takeWhile_all {α:Type} (p:α→Bool) (l:List α) (h:∀ j,(hj:j<l.length)→p l[j]=true):(l.takeWhile p).length=l.length:=by
  induction l with
  | nil=>rfl
  | cons a l ih =>
    have h0:=h 0 (by simp)
    simp at h0
    simp only [List.takeWhile_cons,h0,if_true,List.length_cons]
    rw [ih (fun j hj=>by have:=h (j+1) (by simpa using hj);simpa using this)]
def manyP (shape cycle:Int):Int:=if shape=2 then 13 else if shape=3∧0<cycle then 52 / cycle else if 1≤shape∧shape≤5 then 12 else 0
def Cal.pat0 (c:Cal):Prop:=c.p0=0∧c.p1=0∧c.p2=0
instance (c:Cal):Decidable c.pat0:=by unfold Cal.pat0;infer_instance
def Cal.pat13 (c:Cal):Prop:=(c.p0=4∧c.p1=4∧c.p2=5)∨(c.p0=4∧c.p1=5∧c.p2=4)∨(c.p0=5∧c.p1=4∧c.p2=4)
instance (c:Cal):Decidable c.pat13:=by unfold Cal.pat13;infer_instance
def weeksP (sp a b p cy ex:Int):Prop:=
  ((sp=1∧((a=4∧b=4∧p=5)∨(a=4∧b=5∧p=4)∨(a=5∧b=4∧p=4))∧cy=0)∨(sp=2∧(a=0∧b=0∧p=0)∧cy=0)∨(sp=3∧(a=0∧b=0∧p=0)∧(cy=1∨cy=2∨cy=4)))∧1≤ex∧ex≤manyP sp cy
instance (sp a b p cy ex:Int):Decidable (weeksP sp a b p cy ex):=by unfold weeksP;infer_instance
def Cal.weeks (c:Cal):Prop:=weeksP c.shape c.p0 c.p1 c.p2 c.cycle c.extra
instance (c:Cal):Decidable c.weeks:=by unfold Cal.weeks;infer_instance
def Cal.ruled (c:Cal):Prop:=
  (c.kind=3∧c.day=6∧c.month=1∧c.shift=1∧c.shape=1∧c.p0=4∧c.p1=5∧c.p2=4∧c.cycle=0∧c.extra=12) ∨
  (c.kind=4∧c.day=7∧c.month=12∧c.shift=0∧c.shape=4∧c.pat0∧c.cycle=0∧c.extra=12) ∨
  ((c.kind=1∨c.kind=2)∧(1≤c.month∧c.month≤12)∧(0≤c.shift∧c.shift≤1)∧(1≤c.day∧c.day≤7)∧c.weeks) ∨
  (c.kind=5∧c.day=7∧c.month=12∧c.shift=0∧c.weeks) ∨
  (c.kind=6∧(1≤c.month∧c.month≤12)∧(0≤c.shift∧c.shift≤1)∧c.day=0∧c.shape=5∧c.pat0∧c.cycle=0∧c.extra=0)
instance (c:Cal):Decidable c.ruled:=by unfold Cal.ruled;infer_instance
def Cal.served (c:Cal):Prop:=1602≤c.first∧c.last≤9996∧c.first≤c.last∧c.last-c.first<400
instance (c:Cal):Decidable c.served:=by unfold Cal.served;infer_instance
def Cal.polic (c:Cal):Prop:=(1≤c.policy∧c.policy≤4)∧(c.policy=4↔c.kind=6)
instance (c:Cal):Decidable c.polic:=by unfold Cal.polic;infer_instance
def Cal.Ok (c:Cal):Prop:=c.served∧c.polic∧nameB c.name=true∧c.ruled
instance (c:Cal):Decidable c.Ok:=by unfold Cal.Ok;infer_instance
def Cal.okB (c:Cal):Bool:=decide c.Ok
def patIx (a b c:Int):Int:=if a=4∧b=4∧c=5 then 0 else if a=4∧b=5∧c=4 then 1 else if a=5∧b=4∧c=4 then 2 else -1
theorem pat_ix (a b p:Int):((a=4∧b=4∧p=5)∨(a=4∧b=5∧p=4)∨(a=5∧b=4∧p=4))↔0<patIx a b p+1:=by
  unfold patIx
  constructor
  · rintro (⟨rfl,rfl,rfl⟩ | ⟨rfl,rfl,rfl⟩ | ⟨rfl,rfl,rfl⟩) <;> decide
  · intro h
    split at h
    · left;assumption
    · split at h
      · right;left;assumption
      · split at h
        · right;right;assumption
        · omega
end Qd
namespace Qd
def thereB (y m:Int):Bool:=decide (1600≤y∧y≤9999∧1≤m∧m≤12)
def leapB (y:Int):Bool:=decide (1600≤y∧y≤9999)&&(decide (y % 400=0) || (decide (y % 4=0)&&decide (y % 100≠0)))
def tabV (m:Int):Int:=
  if m=1 then 0 else if m=2 then 31 else if m=3 then 59 else if m=4 then 90 else if m=5 then 120 else if m=6 then 151 else if m=7 then 181 else
  if m=8 then 212 else if m=9 then 243 else if m=10 then 273 else if m=11 then 304 else if m=12 then 334 else 365
def aheadV (y m:Int):Int:=tabV m+if 2<m∧leapB y=true then 1 else 0
def lenV (y m:Int):Int:=if thereB y m then aheadV y (m+1)-aheadV y m else 0
def lenE (y m:Int):Int:=if thereB y m then 0 else 4
def dateB (y m d:Int):Bool:=thereB y m&&decide (1≤d∧d≤lenV y m)
def dateE (y m d:Int):Int:=if dateB y m d then 0 else 4
def yearsV (y:Int):Int:=(y-1600)*365+((y-1600+3) / 4-(y-1600+99) / 100+(y-1600+399) / 400)
def dayN (y m d:Int):Int:=yearsV y+aheadV y m+d-1
def dayV (y m d:Int):Int:=if dateB y m d then dayN y m d else 0
def isB (day:Int):Bool:=decide (0≤day∧day<3068037)
def isE (day:Int):Int:=if isB day then 0 else 4
def guess (day:Int):Int:=min (1600+day / 146097*400+day % 146097 / 36524*100+day % 146097 % 36524 / 1461*4+day % 146097 % 36524 % 1461 / 365) 9999
def ofY (day:Int):Int:=if day<yearsV (guess day) then guess day-1 else guess day
def mDown (y left:Int):Nat→Int
  | 0=>1
  | k+1=>if aheadV y (k+1)≤left then k+1 else mDown y left k
def ofM (day:Int):Int:=mDown (ofY day) (day-yearsV (ofY day)) 12
def ofD (day:Int):Int:=day-yearsV (ofY day)-aheadV (ofY day) (ofM day)+1
theorem tab_bd (m:Int):0≤tabV m∧tabV m≤365:=by
  unfold tabV
  repeat' split
  all_goals omega
theorem ahead_bd (y m:Int):0≤aheadV y m∧aheadV y m≤366:=by
  have:=tab_bd m
  unfold aheadV
  split <;> omega
theorem len_bd (y m:Int):0≤lenV y m∧lenV y m≤31:=by
  unfold lenV
  split
  · rename_i h
    have hm:1≤m∧m≤12:=by simp [thereB] at h;omega
    have h12:m=1∨m=2∨m=3∨m=4∨m=5∨m=6∨m=7∨m=8∨m=9∨m=10∨m=11∨m=12:=by omega
    rcases h12 with rfl | rfl | rfl | rfl | rfl | rfl | rfl | rfl | rfl | rfl | rfl | rfl <;> (simp [aheadV,tabV];try (split <;> omega))
  · omega
theorem len_lo (y m:Int) (h:thereB y m=true):28≤lenV y m:=by
  unfold lenV
  rw [if_pos h]
  have hm:1≤m∧m≤12:=by simp [thereB] at h;omega
  have h12:m=1∨m=2∨m=3∨m=4∨m=5∨m=6∨m=7∨m=8∨m=9∨m=10∨m=11∨m=12:=by omega
  rcases h12 with rfl | rfl | rfl | rfl | rfl | rfl | rfl | rfl | rfl | rfl | rfl | rfl <;> (simp [aheadV,tabV];try (split <;> omega))
theorem ahead_1 (y:Int):aheadV y 1=0:=by simp [aheadV,tabV]
theorem ahead_13 (y:Int):aheadV y 13=365+if leapB y=true then 1 else 0:=by simp [aheadV,tabV]
theorem ahead_mono (y m:Int) (h1:1≤m) (h2:m≤12):aheadV y m+28≤aheadV y (m+1):=by
  have h12:m=1∨m=2∨m=3∨m=4∨m=5∨m=6∨m=7∨m=8∨m=9∨m=10∨m=11∨m=12:=by omega
  rcases h12 with rfl | rfl | rfl | rfl | rfl | rfl | rfl | rfl | rfl | rfl | rfl | rfl <;> (simp [aheadV,tabV];try (split <;> omega))
theorem years_succ (y:Int) (h1:1600≤y) (h2:y≤9999):yearsV (y+1)=yearsV y+365+if leapB y=true then 1 else 0:=by
  unfold yearsV leapB
  have e:(decide (1600≤y∧y≤9999))=true:=by simp [h1,h2]
  rw [e]
  simp only [Bool.true_and,Bool.or_eq_true,Bool.and_eq_true,decide_eq_true_eq]
  split <;> omega
theorem years_bd (y:Int) (h1:1600≤y) (h2:y≤10000):0≤yearsV y∧yearsV y≤3068037:=by
  unfold yearsV
  omega
theorem years_1600:yearsV 1600=0:=by decide
theorem years_end:yearsV 10000=3068037:=by decide
theorem years_mono (a b:Int) (h0:1600≤a) (h:a≤b):yearsV a≤yearsV b:=by unfold yearsV;omega
theorem years_lt (a b:Int) (h0:1600≤a) (h:a<b):yearsV a+365≤yearsV b:=by unfold yearsV;omega
end Qd
namespace Qd
theorem guess_ok (day:Int) (h0:0≤day) (h1:day<3068037) :
    1600≤guess day∧guess day≤9999∧day<yearsV (guess day+1)∧(yearsV (guess day)≤day∨(1601≤guess day∧yearsV (guess day-1)≤day)):=by
  obtain ⟨a,ha⟩:∃ a,a=day / 146097:=⟨_,rfl⟩
  obtain ⟨r1,hr1⟩:∃ r,r=day % 146097:=⟨_,rfl⟩
  obtain ⟨b,hb⟩:∃ b,b=r1 / 36524:=⟨_,rfl⟩
  obtain ⟨r2,hr2⟩:∃ r,r=r1 % 36524:=⟨_,rfl⟩
  obtain ⟨c,hc⟩:∃ c,c=r2 / 1461:=⟨_,rfl⟩
  obtain ⟨r3,hr3⟩:∃ r,r=r2 % 1461:=⟨_,rfl⟩
  obtain ⟨e,he⟩:∃ e,e=r3 / 365:=⟨_,rfl⟩
  have hg:guess day=min (1600+a*400+b*100+c*4+e) 9999:=by
    unfold guess
    rw [he,hr3,hc,hr2,hb,hr1,ha]
  have b1:0≤a∧a≤20:=by omega
  have b2:0≤r1∧r1<146097∧day=146097*a+r1:=by omega
  have b3:0≤b∧b≤4∧0≤r2∧r2<36524∧r1=36524*b+r2:=by omega
  have b4:0≤c∧c≤24∧0≤r3∧r3<1461∧r2=1461*c+r3:=by omega
  have b5:0≤e∧e≤4∧365*e≤r3∧r3<365*e+365:=by omega
  clear ha hr1 hb hr2 hc hr3 he
  have Y:∀ k,yearsV (1600+k)=k*365+((k+3) / 4-(k+99) / 100+(k+399) / 400):=by
    intro k;unfold yearsV;congr 2 <;> omega
  have hcase:400*a+100*b+4*c+e≤8399∨400*a+100*b+4*c+e=8400:=by omega
  rcases hcase with hn1 | hn1
  · have hg3:guess day=1600+(400*a+100*b+4*c+e):=by rw [hg];omega
    rw [hg3]
    have e1:(1600:Int)+(400*a+100*b+4*c+e)+1=1600+(400*a+100*b+4*c+e+1):=by omega
    have e2:(1600:Int)+(400*a+100*b+4*c+e)-1=1600+(400*a+100*b+4*c+e-1):=by omega
    rw [e1,e2,Y,Y,Y]
    clear hg hg3 e1 e2 Y h0 h1
    have he5:e=0∨e=1∨e=2∨e=3∨e=4:=by omega
    have hb5:b=0∨b=1∨b=2∨b=3∨b=4:=by omega
    have hc2:c=0∨(1≤c∧c≤23)∨c=24:=by omega
    rcases he5 with rfl | rfl | rfl | rfl | rfl <;> rcases hb5 with rfl | rfl | rfl | rfl | rfl <;> rcases hc2 with rfl | hc2 | rfl <;> omega
  · have hg3:guess day=9999:=by rw [hg];omega
    rw [hg3]
    have e0:yearsV 9999=3067672:=by decide
    have e1:yearsV (9999+1)=3068037:=by decide
    have e2:yearsV (9999-1)=3067307:=by decide
    rw [e0,e1,e2]
    omega
theorem ofY_ok (day:Int) (h0:0≤day) (h1:day<3068037):1600≤ofY day∧ofY day≤9999∧yearsV (ofY day)≤day∧day<yearsV (ofY day+1):=by
  obtain ⟨g1,g2,g3,g4⟩:=guess_ok day h0 h1
  unfold ofY
  split
  · rename_i h
    have e:guess day-1+1=guess day:=by omega
    rw [e]
    omega
  · omega
theorem mDown_ok (y left:Int) (h0:0≤left):∀ k:Nat,1≤k→k≤12→left<aheadV y (k+1) →
    1≤mDown y left k∧mDown y left k≤k∧aheadV y (mDown y left k)≤left∧left<aheadV y (mDown y left k+1)
  | 0,h,_,_=>by omega
  | k+1,_,h2,h3=>by
    unfold mDown
    split
    · rename_i h
      exact ⟨by omega,by omega,h,by simpa using h3⟩
    · rename_i h
      have hk:1≤k:=by
        rcases Nat.eq_zero_or_pos k with h5 | h5
        · exfalso
          subst h5
          have h6:=ahead_1 y
          simp at h
          omega
        · exact h5
      have:=mDown_ok y left h0 k hk (by omega) (by omega)
      omega
theorem of_ok (day:Int) (h:isB day=true) :
    dateB (ofY day) (ofM day) (ofD day)=true∧dayN (ofY day) (ofM day) (ofD day)=day:=by
  have hd:0≤day∧day<3068037:=by simpa [isB] using h
  obtain ⟨y1,y2,y3,y4⟩:=ofY_ok day hd.1 hd.2
  have hs:=years_succ (ofY day) y1 y2
  have h13:=ahead_13 (ofY day)
  obtain ⟨m1,m2,m3,m4⟩:=mDown_ok (ofY day) (day-yearsV (ofY day)) (by omega) 12 (by omega) (by omega) (by have:((12:Nat):Int)+1=13:=rfl;rw [this,h13];omega)
  have ht:thereB (ofY day) (ofM day)=true:=by
    unfold ofM
    simp only [thereB,decide_eq_true_eq]
    omega
  refine ⟨?_,?_⟩
  · unfold dateB
    rw [ht]
    have hl:lenV (ofY day) (ofM day)=aheadV (ofY day) (ofM day+1)-aheadV (ofY day) (ofM day):=by unfold lenV;rw [if_pos ht]
    rw [hl]
    unfold ofD ofM
    simp only [Bool.true_and,decide_eq_true_eq]
    omega
  · unfold dayN ofD
    omega
theorem ahead_le (y a b:Int) (h1:1≤a) (h:a<b) (h2:b≤13):aheadV y a+28≤aheadV y b:=by
  have h12:∀ n:Nat,∀ a:Int,1≤a→a+n+1≤13→aheadV y a+28≤aheadV y (a+n+1):=by
    intro n
    induction n with
    | zero=>intro a ha hb;simpa using ahead_mono y a ha (by omega)
    | succ n ih =>
      intro a ha hb
      have h3:=ih a ha (by omega)
      have h4:=ahead_mono y (a+n+1) (by omega) (by omega)
      have e:a+((n+1:Nat):Int)+1=a+n+1+1:=by omega
      rw [e]
      omega
  have:=h12 (b-a-1).toNat a h1 (by omega)
  have e:a+((b-a-1).toNat:Int)+1=b:=by omega
  rwa [e] at this
theorem dayN_inj {y m d y' m' d':Int} (h:dateB y m d=true) (h':dateB y' m' d'=true) (e:dayN y m d=dayN y' m' d'):y=y'∧m=m'∧d=d':=by
  have key:∀ {y m d:Int},dateB y m d=true→1600≤y∧y≤9999∧1≤m∧m≤12∧1≤d∧aheadV y m+d≤aheadV y (m+1)∧aheadV y (m+1)≤aheadV y 13∧0≤aheadV y m∧yearsV y+aheadV y 13=yearsV (y+1):=by
    intro y m d h
    simp only [dateB,Bool.and_eq_true,decide_eq_true_eq] at h
    obtain ⟨ht,hd1,hd2⟩:=h
    have hl:lenV y m=aheadV y (m+1)-aheadV y m:=by unfold lenV;rw [if_pos ht]
    have ht2:1600≤y∧y≤9999∧1≤m∧m≤12:=by simpa [thereB] using ht
    have h13:=ahead_13 y
    have hs:=years_succ y ht2.1 ht2.2.1
    have hb:=ahead_bd y m
    have hm:aheadV y (m+1)≤aheadV y 13:=by
      rcases Int.lt_or_eq_of_le (show m+1≤13 by omega) with h5 | h5
      · have:=ahead_le y (m+1) 13 (by omega) h5 (by omega);omega
      · rw [h5];omega
    omega
  have k:=key h
  have k':=key h'
  unfold dayN at e
  have hy:y=y':=by
    rcases Int.lt_trichotomy y y' with h5 | h5 | h5
    · have:=years_mono (y+1) y' (by omega) (by omega);omega
    · exact h5
    · have:=years_mono (y'+1) y (by omega) (by omega);omega
  subst hy
  have hm:m=m':=by
    rcases Int.lt_trichotomy m m' with h5 | h5 | h5
    · rcases Int.lt_or_eq_of_le (show m+1≤m' by omega) with h6 | h6
      · have:=ahead_le y (m+1) m' (by omega) h6 (by omega);omega
      · subst h6;omega
    · exact h5
    · rcases Int.lt_or_eq_of_le (show m'+1≤m by omega) with h6 | h6
      · have:=ahead_le y (m'+1) m (by omega) h6 (by omega);omega
      · subst h6;omega
  subst hm
  exact ⟨rfl,rfl,by omega⟩
theorem dayN_bd {y m d:Int} (h:dateB y m d=true):isB (dayN y m d)=true:=by
  simp only [dateB,Bool.and_eq_true,decide_eq_true_eq] at h
  obtain ⟨ht,hd1,hd2⟩:=h
  have hl:lenV y m=aheadV y (m+1)-aheadV y m:=by unfold lenV;rw [if_pos ht]
  have ht2:1600≤y∧y≤9999∧1≤m∧m≤12:=by simpa [thereB] using ht
  have h13:=ahead_13 y
  have hs:=years_succ y ht2.1 ht2.2.1
  have hb:=ahead_bd y m
  have hy:=years_bd y ht2.1 (by omega)
  have hy2:=years_bd (y+1) (by omega) (by omega)
  have hm:aheadV y (m+1)≤aheadV y 13:=by
    rcases Int.lt_or_eq_of_le (show m+1≤13 by omega) with h5 | h5
    · have:=ahead_le y (m+1) 13 (by omega) h5 (by omega);omega
    · rw [h5];omega
  unfold isB dayN
  rw [decide_eq_true_eq]
  omega
theorem of_dayN {y m d:Int} (h:dateB y m d=true):ofY (dayN y m d)=y∧ofM (dayN y m d)=m∧ofD (dayN y m d)=d:=by
  obtain ⟨h1,h2⟩:=of_ok _ (dayN_bd h)
  exact dayN_inj h1 h h2
end Qd
namespace Qd
structure Un where
  lv:Int
  yr:Int
  ix:Int
structure Sp where
  a:Int
  b:Int
end Qd
namespace Go.Proofs.YtjhhmeoibfdcmaaGreat
open Go.RowKit Qd
theorem between_any (n a b:Int) (w:World) :
    Calls Tryz.prog 83 #[.int .i64 n,.int .i64 a,.int .i64 b] w fun e w'=>e=.returned (.bool (decide (a≤n∧n≤b)))∧w=w':=by
  go_enter Tryz.func83,Tryz.ntmps83
  go_wp2
  all_goals (go_ret;refine ⟨ret_bool ?_,rfl⟩;simp;try omega)
theorem letter_any (b:Int) (w:World) :
    Calls Tryz.prog 136 #[.int .u8 b] w fun e w'=>e=.returned (.bool (letterB b))∧w=w':=by
  go_enter Tryz.func136,Tryz.ntmps136
  go_wp2
  all_goals (go_ret;refine ⟨ret_bool ?_,rfl⟩;simp [letterB];try omega)
theorem digit_any (b:Int) (w:World) :
    Calls Tryz.prog 200 #[.int .u8 b] w fun e w'=>e=.returned (.bool (digitB b))∧w=w':=by
  go_enter Tryz.func200,Tryz.ntmps200
  go_wp2
  all_goals (go_ret;refine ⟨ret_bool ?_,rfl⟩;simp [digitB];try omega)
theorem inner_any (b:Int) (w:World) :
    Calls Tryz.prog 138 #[.int .u8 b] w fun e w'=>e=.returned (.bool (innerB b))∧w=w':=by
  go_enter Tryz.func138,Tryz.ntmps138
  go_wp2_with (first | (go_at_call 136;refine (letter_any _ _).mono ?_;rintro e w' ⟨rfl,rfl⟩) | (go_at_call 200;refine (digit_any _ _).mono ?_;rintro e w' ⟨rfl,rfl⟩))
  all_goals (go_ret;refine ⟨ret_bool ?_,rfl⟩;simp_all [innerB];try rfl)
theorem len_bytes (s:ByteArray):s.data.toList.length=s.size:=rfl
theorem run_inner (s:ByteArray) (w:World) (hs:s.size≤1000) :
    Calls Tryz.prog 137 #[.string s,.func (.func 138) #[] #[]] w fun e w'=>e=.returned (.int .i64 (runLen s.data.toList))∧w=w':=by
  go_enter Tryz.func137,Tryz.ntmps137
  go_wp2
  go_loop [5] (fun n=>∃ k:Nat,k≤s.size∧n=.int .i64 k∧Hid (∀ j,(hj:j<k)→(hjs:j<s.size)→innerB (byteI s[j])=true)) (fun n=>s.size-(intOf n).toNat)
  case atStart=>exact ⟨0,Nat.zero_le _,rfl,Lib.hid (fun j hj=>by omega)⟩
  case round =>
    obtain ⟨k,hk,rfl,H⟩:=hrel
    by_cases hlt:k<s.size
    · by_cases hi:innerB (byteI s[k])=true
      · have HI:=Lib.hid hi
        have hi2:innerB (s[k].toNat:Int)=true:=hi
        clear hi
        go_wp2_with (go_at_call 138;refine (inner_any _ _).mono ?_;rintro e w' ⟨rfl,rfl⟩)
        go_round
        case rel=>exact ⟨k+1,by omega,by go_num,Lib.hid (fun j hj hjs=>by
          rcases Nat.lt_or_ge j k with h | h
          · exact H.out j h hjs
          · obtain rfl:j=k:=by omega
            exact HI.out)⟩
        case measure=>simp [intOf];omega
      · have HI:=Lib.hid hi
        have hi2:innerB (s[k].toNat:Int)=false:=by simpa [byteI] using hi
        clear hi
        go_wp2_with (go_at_call 138;refine (inner_any _ _).mono ?_;rintro e w' ⟨rfl,rfl⟩)
        go_ret
        refine ⟨ret_int ?_,rfl⟩
        have:runLen s.data.toList=k:=takeWhile_stop _ _ k (by rw [len_bytes];exact hlt) (fun j hj=>H.out j hj (by omega)) (by have:=HI.out;simp only [Bool.not_eq_true] at this;exact this)
        rw [this]
    · go_wp2
      go_ret
      refine ⟨ret_int ?_,rfl⟩
      have:runLen s.data.toList=s.data.toList.length:=takeWhile_all _ _ (fun j hj=>H.out j (by have:=len_bytes s;omega) (by have:=len_bytes s;omega))
      rw [this,len_bytes];show (k:Int)=(s.size:Int);omega
theorem name_any (s:ByteArray) (w:World) (hs:s.size≤1000) :
    Calls Tryz.prog 84 #[.string s] w fun e w'=>e=.returned (.bool (nameB s))∧w=w':=by
  by_cases h0:0<s.size
  · have hne : (s.toList == []) = false := by
      rw [ByteArray.toList_eq,beq_eq_false_iff_ne];intro h;have h2:=len_bytes s;rw [h] at h2;simp at h2;omega
    go_enter Tryz.func84,Tryz.ntmps84
    go_wp2_with (first | (go_at_call 136;refine (letter_any _ _).mono ?_;rintro e w' ⟨rfl,rfl⟩) | (go_at_call 137;refine (run_inner _ _ hs).mono ?_;rintro e w' ⟨rfl,rfl⟩))
    all_goals (go_ret;refine ⟨ret_bool ?_,rfl⟩;rw [nameB_yes s h0];clear hne)
    · have h1:s.size≤16:=by omega
      have h2:letterB ↑s[0].toNat=true:=by assumption
      simp [h1,h2,beq_cast]
    · have h2:letterB ↑s[0].toNat=false:=by assumption
      simp [h2]
    · have h1:¬ s.size≤16:=by omega
      simp [h1]
  · have hne : (s.toList == []) = true := by
      rw [ByteArray.toList_eq,beq_iff_eq];apply List.eq_nil_of_length_eq_zero;rw [len_bytes];omega
    go_enter Tryz.func84,Tryz.ntmps84
    go_wp2
    all_goals (go_ret;refine ⟨ret_bool ?_,rfl⟩;rw [nameB_no s h0])
end Go.Proofs.YtjhhmeoibfdcmaaGreat
namespace Go.Proofs.YtjhhmeoibfdcmaaGreat
open Go.RowKit Qd
abbrev unitV (u:Un):Value:=.agg #[.int .i64 u.lv,.int .i64 u.yr,.int .i64 u.ix]
abbrev spanV (s:Sp):Value:=.agg #[.int .i64 s.a,.int .i64 s.b]
end Go.Proofs.YtjhhmeoibfdcmaaGreat
