/- Plain words on calendars: no program in sight. Plain words on the civil calendar: no program in sight. The day's year and month, found: no program in sight. Plain words on units and spans: no program in sight. -/

set_option linter.unusedSimpArgs false
set_option linter.unusedVariables false
namespace Qd

/-- A calendar's fields. -/
structure Cal where
  name : ByteArray
  kind : Int
  day : Int
  month : Int
  shift : Int
  shape : Int
  p0 : Int
  p1 : Int
  p2 : Int
  cycle : Int
  extra : Int
  first : Int
  last : Int
  policy : Int

def letterB (b : Int) : Bool := decide (97 ≤ b ∧ b ≤ 122)
def digitB (b : Int) : Bool := decide (48 ≤ b ∧ b ≤ 57)
def innerB (b : Int) : Bool := letterB b || digitB b || decide (b = 45)
def byteI (u : UInt8) : Int := (u.toNat : Int)
def runLen (l : List UInt8) : Nat := (l.takeWhile fun u => innerB (byteI u)).length
def nameB (s : ByteArray) : Bool :=
  decide (0 < s.size) && decide (s.size ≤ 16) && letterB (byteI (s.data.toList.headD 0)) && decide (runLen s.data.toList = s.size)

theorem beq_cast (a b : Nat) : ((a : Int) == (b : Int)) = decide (a = b) := by
  by_cases h : a = b
  · simp [h]
  · have h2 : ¬ (a : Int) = (b : Int) := by omega
    rw [beq_eq_false_iff_ne.2 h2]; simp [h]
theorem head_byte (s : ByteArray) (h : 0 < s.size) : s.data.toList.headD 0 = s[0] := by
  obtain ⟨⟨l⟩⟩ := s
  cases l with
  | nil => exact absurd h (by simp [ByteArray.size])
  | cons a l => rfl
theorem nameB_yes (s : ByteArray) (h : 0 < s.size) : nameB s = (decide (s.size ≤ 16) && letterB (s[0].toNat : Int) && decide (runLen s.data.toList = s.size)) := by
  unfold nameB
  rw [head_byte s h]
  simp [h, byteI]
theorem nameB_no (s : ByteArray) (h : ¬ 0 < s.size) : nameB s = false := by
  unfold nameB
  simp [h]
theorem runLen_le (l : List UInt8) : runLen l ≤ l.length := by
  unfold runLen; exact (List.takeWhile_sublist _).length_le
/-- All that stands ahead of place k is inner, what stands there is not. -/
theorem takeWhile_stop {α : Type} (p : α → Bool) (l : List α) (k : Nat) (hk : k < l.length) (h : ∀ j, (hj : j < k) → p (l[j]'(by omega)) = true) (hn : p l[k] = false) :
    (l.takeWhile p).length = k := by
  induction l generalizing k with
  | nil => simp at hk
  | cons a l ih =>
    cases k with
    | zero => simp at hn; simp [List.takeWhile_cons, hn]
    | succ k =>
      have h0 := h 0 (by omega)
      simp at h0
      simp only [List.takeWhile_cons, h0, if_true, List.length_cons]
      rw [ih k (by simpa using hk) (fun j hj => by have := h (j + 1) (by omega); simpa using this) (by simpa using hn)]
theorem takeWhile_all {α : Type} (p : α → Bool) (l : List α) (h : ∀ j, (hj : j < l.length) → p l[j] = true) : (l.takeWhile p).length = l.length := by
  induction l with
  | nil => rfl
  | cons a l ih =>
    have h0 := h 0 (by simp)
    simp at h0
    simp only [List.takeWhile_cons, h0, if_true, List.length_cons]
    rw [ih (fun j hj => by have := h (j + 1) (by simpa using hj); simpa using this)]

def manyP (shape cycle : Int) : Int := if shape = 2 then 13 else if shape = 3 ∧ 0 < cycle then 52 / cycle else if 1 ≤ shape ∧ shape ≤ 5 then 12 else 0

def Cal.pat0 (c : Cal) : Prop := c.p0 = 0 ∧ c.p1 = 0 ∧ c.p2 = 0
instance (c : Cal) : Decidable c.pat0 := by unfold Cal.pat0; infer_instance
def Cal.pat13 (c : Cal) : Prop := (c.p0 = 4 ∧ c.p1 = 4 ∧ c.p2 = 5) ∨ (c.p0 = 4 ∧ c.p1 = 5 ∧ c.p2 = 4) ∨ (c.p0 = 5 ∧ c.p1 = 4 ∧ c.p2 = 4)
instance (c : Cal) : Decidable c.pat13 := by unfold Cal.pat13; infer_instance
def weeksP (sp a b p cy ex : Int) : Prop :=
  ((sp = 1 ∧ ((a = 4 ∧ b = 4 ∧ p = 5) ∨ (a = 4 ∧ b = 5 ∧ p = 4) ∨ (a = 5 ∧ b = 4 ∧ p = 4)) ∧ cy = 0) ∨ (sp = 2 ∧ (a = 0 ∧ b = 0 ∧ p = 0) ∧ cy = 0) ∨ (sp = 3 ∧ (a = 0 ∧ b = 0 ∧ p = 0) ∧ (cy = 1 ∨ cy = 2 ∨ cy = 4))) ∧ 1 ≤ ex ∧ ex ≤ manyP sp cy
instance (sp a b p cy ex : Int) : Decidable (weeksP sp a b p cy ex) := by unfold weeksP; infer_instance
def Cal.weeks (c : Cal) : Prop := weeksP c.shape c.p0 c.p1 c.p2 c.cycle c.extra
instance (c : Cal) : Decidable c.weeks := by unfold Cal.weeks; infer_instance
def Cal.ruled (c : Cal) : Prop :=
  (c.kind = 3 ∧ c.day = 6 ∧ c.month = 1 ∧ c.shift = 1 ∧ c.shape = 1 ∧ c.p0 = 4 ∧ c.p1 = 5 ∧ c.p2 = 4 ∧ c.cycle = 0 ∧ c.extra = 12) ∨
  (c.kind = 4 ∧ c.day = 7 ∧ c.month = 12 ∧ c.shift = 0 ∧ c.shape = 4 ∧ c.pat0 ∧ c.cycle = 0 ∧ c.extra = 12) ∨
  ((c.kind = 1 ∨ c.kind = 2) ∧ (1 ≤ c.month ∧ c.month ≤ 12) ∧ (0 ≤ c.shift ∧ c.shift ≤ 1) ∧ (1 ≤ c.day ∧ c.day ≤ 7) ∧ c.weeks) ∨
  (c.kind = 5 ∧ c.day = 7 ∧ c.month = 12 ∧ c.shift = 0 ∧ c.weeks) ∨
  (c.kind = 6 ∧ (1 ≤ c.month ∧ c.month ≤ 12) ∧ (0 ≤ c.shift ∧ c.shift ≤ 1) ∧ c.day = 0 ∧ c.shape = 5 ∧ c.pat0 ∧ c.cycle = 0 ∧ c.extra = 0)
instance (c : Cal) : Decidable c.ruled := by unfold Cal.ruled; infer_instance
def Cal.served (c : Cal) : Prop := 1602 ≤ c.first ∧ c.last ≤ 9996 ∧ c.first ≤ c.last ∧ c.last - c.first < 400
instance (c : Cal) : Decidable c.served := by unfold Cal.served; infer_instance
def Cal.polic (c : Cal) : Prop := (1 ≤ c.policy ∧ c.policy ≤ 4) ∧ (c.policy = 4 ↔ c.kind = 6)
instance (c : Cal) : Decidable c.polic := by unfold Cal.polic; infer_instance
/-- The calendar may be. -/
def Cal.Ok (c : Cal) : Prop := c.served ∧ c.polic ∧ nameB c.name = true ∧ c.ruled
instance (c : Cal) : Decidable c.Ok := by unfold Cal.Ok; infer_instance
def Cal.okB (c : Cal) : Bool := decide c.Ok
/-- Where a pattern stands among the three. -/
def patIx (a b c : Int) : Int := if a = 4 ∧ b = 4 ∧ c = 5 then 0 else if a = 4 ∧ b = 5 ∧ c = 4 then 1 else if a = 5 ∧ b = 4 ∧ c = 4 then 2 else -1
theorem pat_ix (a b p : Int) : ((a = 4 ∧ b = 4 ∧ p = 5) ∨ (a = 4 ∧ b = 5 ∧ p = 4) ∨ (a = 5 ∧ b = 4 ∧ p = 4)) ↔ 0 < patIx a b p + 1 := by
  unfold patIx
  constructor
  · rintro (⟨rfl, rfl, rfl⟩ | ⟨rfl, rfl, rfl⟩ | ⟨rfl, rfl, rfl⟩) <;> decide
  · intro h
    split at h
    · left; assumption
    · split at h
      · right; left; assumption
      · split at h
        · right; right; assumption
        · omega
end Qd

set_option linter.unusedSimpArgs false
set_option linter.unusedVariables false
namespace Qd
def thereB (y m : Int) : Bool := decide (1600 ≤ y ∧ y ≤ 9999 ∧ 1 ≤ m ∧ m ≤ 12)
def leapB (y : Int) : Bool := decide (1600 ≤ y ∧ y ≤ 9999) && (decide (y % 400 = 0) || (decide (y % 4 = 0) && decide (y % 100 ≠ 0)))
def tabV (m : Int) : Int :=
  if m = 1 then 0 else if m = 2 then 31 else if m = 3 then 59 else if m = 4 then 90 else if m = 5 then 120 else if m = 6 then 151 else if m = 7 then 181 else
  if m = 8 then 212 else if m = 9 then 243 else if m = 10 then 273 else if m = 11 then 304 else if m = 12 then 334 else 365
def aheadV (y m : Int) : Int := tabV m + if 2 < m ∧ leapB y = true then 1 else 0
def lenV (y m : Int) : Int := if thereB y m then aheadV y (m + 1) - aheadV y m else 0
def lenE (y m : Int) : Int := if thereB y m then 0 else 4
/-- There is such a day. -/
def dateB (y m d : Int) : Bool := thereB y m && decide (1 ≤ d ∧ d ≤ lenV y m)
def dateE (y m d : Int) : Int := if dateB y m d then 0 else 4
def yearsV (y : Int) : Int := (y - 1600) * 365 + ((y - 1600 + 3) / 4 - (y - 1600 + 99) / 100 + (y - 1600 + 399) / 400)
def dayN (y m d : Int) : Int := yearsV y + aheadV y m + d - 1
def dayV (y m d : Int) : Int := if dateB y m d then dayN y m d else 0
def isB (day : Int) : Bool := decide (0 ≤ day ∧ day < 3068037)
def isE (day : Int) : Int := if isB day then 0 else 4
/-- The first guess at a day's year. -/
def guess (day : Int) : Int := min (1600 + day / 146097 * 400 + day % 146097 / 36524 * 100 + day % 146097 % 36524 / 1461 * 4 + day % 146097 % 36524 % 1461 / 365) 9999
def ofY (day : Int) : Int := if day < yearsV (guess day) then guess day - 1 else guess day
/-- The last month, from one on down, that is not behind. -/
def mDown (y left : Int) : Nat → Int
  | 0 => 1
  | k + 1 => if aheadV y (k + 1) ≤ left then k + 1 else mDown y left k
def ofM (day : Int) : Int := mDown (ofY day) (day - yearsV (ofY day)) 12
def ofD (day : Int) : Int := day - yearsV (ofY day) - aheadV (ofY day) (ofM day) + 1

theorem tab_bd (m : Int) : 0 ≤ tabV m ∧ tabV m ≤ 365 := by
  unfold tabV
  repeat' split
  all_goals omega
theorem ahead_bd (y m : Int) : 0 ≤ aheadV y m ∧ aheadV y m ≤ 366 := by
  have := tab_bd m
  unfold aheadV
  split <;> omega
theorem len_bd (y m : Int) : 0 ≤ lenV y m ∧ lenV y m ≤ 31 := by
  unfold lenV
  split
  · rename_i h
    have hm : 1 ≤ m ∧ m ≤ 12 := by simp [thereB] at h; omega
    have h12 : m = 1 ∨ m = 2 ∨ m = 3 ∨ m = 4 ∨ m = 5 ∨ m = 6 ∨ m = 7 ∨ m = 8 ∨ m = 9 ∨ m = 10 ∨ m = 11 ∨ m = 12 := by omega
    rcases h12 with rfl | rfl | rfl | rfl | rfl | rfl | rfl | rfl | rfl | rfl | rfl | rfl <;> (simp [aheadV, tabV]; try (split <;> omega))
  · omega
theorem len_lo (y m : Int) (h : thereB y m = true) : 28 ≤ lenV y m := by
  unfold lenV
  rw [if_pos h]
  have hm : 1 ≤ m ∧ m ≤ 12 := by simp [thereB] at h; omega
  have h12 : m = 1 ∨ m = 2 ∨ m = 3 ∨ m = 4 ∨ m = 5 ∨ m = 6 ∨ m = 7 ∨ m = 8 ∨ m = 9 ∨ m = 10 ∨ m = 11 ∨ m = 12 := by omega
  rcases h12 with rfl | rfl | rfl | rfl | rfl | rfl | rfl | rfl | rfl | rfl | rfl | rfl <;> (simp [aheadV, tabV]; try (split <;> omega))
theorem ahead_1 (y : Int) : aheadV y 1 = 0 := by simp [aheadV, tabV]
theorem ahead_13 (y : Int) : aheadV y 13 = 365 + if leapB y = true then 1 else 0 := by simp [aheadV, tabV]
theorem ahead_mono (y m : Int) (h1 : 1 ≤ m) (h2 : m ≤ 12) : aheadV y m + 28 ≤ aheadV y (m + 1) := by
  have h12 : m = 1 ∨ m = 2 ∨ m = 3 ∨ m = 4 ∨ m = 5 ∨ m = 6 ∨ m = 7 ∨ m = 8 ∨ m = 9 ∨ m = 10 ∨ m = 11 ∨ m = 12 := by omega
  rcases h12 with rfl | rfl | rfl | rfl | rfl | rfl | rfl | rfl | rfl | rfl | rfl | rfl <;> (simp [aheadV, tabV]; try (split <;> omega))
/-- Each year has 365 days, or 366. -/
theorem years_succ (y : Int) (h1 : 1600 ≤ y) (h2 : y ≤ 9999) : yearsV (y + 1) = yearsV y + 365 + if leapB y = true then 1 else 0 := by
  unfold yearsV leapB
  have e : (decide (1600 ≤ y ∧ y ≤ 9999)) = true := by simp [h1, h2]
  rw [e]
  simp only [Bool.true_and, Bool.or_eq_true, Bool.and_eq_true, decide_eq_true_eq]
  split <;> omega
theorem years_bd (y : Int) (h1 : 1600 ≤ y) (h2 : y ≤ 10000) : 0 ≤ yearsV y ∧ yearsV y ≤ 3068037 := by
  unfold yearsV
  omega
theorem years_1600 : yearsV 1600 = 0 := by decide
theorem years_end : yearsV 10000 = 3068037 := by decide
theorem years_mono (a b : Int) (h0 : 1600 ≤ a) (h : a ≤ b) : yearsV a ≤ yearsV b := by unfold yearsV; omega
theorem years_lt (a b : Int) (h0 : 1600 ≤ a) (h : a < b) : yearsV a + 365 ≤ yearsV b := by unfold yearsV; omega
end Qd

set_option linter.unusedSimpArgs false
set_option linter.unusedVariables false
namespace Qd
theorem guess_ok (day : Int) (h0 : 0 ≤ day) (h1 : day < 3068037) :
    1600 ≤ guess day ∧ guess day ≤ 9999 ∧ day < yearsV (guess day + 1) ∧ (yearsV (guess day) ≤ day ∨ (1601 ≤ guess day ∧ yearsV (guess day - 1) ≤ day)) := by
  obtain ⟨a, ha⟩ : ∃ a, a = day / 146097 := ⟨_, rfl⟩
  obtain ⟨r1, hr1⟩ : ∃ r, r = day % 146097 := ⟨_, rfl⟩
  obtain ⟨b, hb⟩ : ∃ b, b = r1 / 36524 := ⟨_, rfl⟩
  obtain ⟨r2, hr2⟩ : ∃ r, r = r1 % 36524 := ⟨_, rfl⟩
  obtain ⟨c, hc⟩ : ∃ c, c = r2 / 1461 := ⟨_, rfl⟩
  obtain ⟨r3, hr3⟩ : ∃ r, r = r2 % 1461 := ⟨_, rfl⟩
  obtain ⟨e, he⟩ : ∃ e, e = r3 / 365 := ⟨_, rfl⟩
  have hg : guess day = min (1600 + a * 400 + b * 100 + c * 4 + e) 9999 := by
    unfold guess
    rw [he, hr3, hc, hr2, hb, hr1, ha]
  have b1 : 0 ≤ a ∧ a ≤ 20 := by omega
  have b2 : 0 ≤ r1 ∧ r1 < 146097 ∧ day = 146097 * a + r1 := by omega
  have b3 : 0 ≤ b ∧ b ≤ 4 ∧ 0 ≤ r2 ∧ r2 < 36524 ∧ r1 = 36524 * b + r2 := by omega
  have b4 : 0 ≤ c ∧ c ≤ 24 ∧ 0 ≤ r3 ∧ r3 < 1461 ∧ r2 = 1461 * c + r3 := by omega
  have b5 : 0 ≤ e ∧ e ≤ 4 ∧ 365 * e ≤ r3 ∧ r3 < 365 * e + 365 := by omega
  clear ha hr1 hb hr2 hc hr3 he
  have Y : ∀ k, yearsV (1600 + k) = k * 365 + ((k + 3) / 4 - (k + 99) / 100 + (k + 399) / 400) := by
    intro k; unfold yearsV; congr 2 <;> omega
  have hcase : 400 * a + 100 * b + 4 * c + e ≤ 8399 ∨ 400 * a + 100 * b + 4 * c + e = 8400 := by omega
  rcases hcase with hn1 | hn1
  · have hg3 : guess day = 1600 + (400 * a + 100 * b + 4 * c + e) := by rw [hg]; omega
    rw [hg3]
    have e1 : (1600 : Int) + (400 * a + 100 * b + 4 * c + e) + 1 = 1600 + (400 * a + 100 * b + 4 * c + e + 1) := by omega
    have e2 : (1600 : Int) + (400 * a + 100 * b + 4 * c + e) - 1 = 1600 + (400 * a + 100 * b + 4 * c + e - 1) := by omega
    rw [e1, e2, Y, Y, Y]
    clear hg hg3 e1 e2 Y h0 h1
    have he5 : e = 0 ∨ e = 1 ∨ e = 2 ∨ e = 3 ∨ e = 4 := by omega
    have hb5 : b = 0 ∨ b = 1 ∨ b = 2 ∨ b = 3 ∨ b = 4 := by omega
    have hc2 : c = 0 ∨ (1 ≤ c ∧ c ≤ 23) ∨ c = 24 := by omega
    rcases he5 with rfl | rfl | rfl | rfl | rfl <;> rcases hb5 with rfl | rfl | rfl | rfl | rfl <;> rcases hc2 with rfl | hc2 | rfl <;> omega
  · have hg3 : guess day = 9999 := by rw [hg]; omega
    rw [hg3]
    have e0 : yearsV 9999 = 3067672 := by decide
    have e1 : yearsV (9999 + 1) = 3068037 := by decide
    have e2 : yearsV (9999 - 1) = 3067307 := by decide
    rw [e0, e1, e2]
    omega

theorem ofY_ok (day : Int) (h0 : 0 ≤ day) (h1 : day < 3068037) : 1600 ≤ ofY day ∧ ofY day ≤ 9999 ∧ yearsV (ofY day) ≤ day ∧ day < yearsV (ofY day + 1) := by
  obtain ⟨g1, g2, g3, g4⟩ := guess_ok day h0 h1
  unfold ofY
  split
  · rename_i h
    have e : guess day - 1 + 1 = guess day := by omega
    rw [e]
    omega
  · omega

theorem mDown_ok (y left : Int) (h0 : 0 ≤ left) : ∀ k : Nat, 1 ≤ k → k ≤ 12 → left < aheadV y (k + 1) →
    1 ≤ mDown y left k ∧ mDown y left k ≤ k ∧ aheadV y (mDown y left k) ≤ left ∧ left < aheadV y (mDown y left k + 1)
  | 0, h, _, _ => by omega
  | k + 1, _, h2, h3 => by
    unfold mDown
    split
    · rename_i h
      exact ⟨by omega, by omega, h, by simpa using h3⟩
    · rename_i h
      have hk : 1 ≤ k := by
        rcases Nat.eq_zero_or_pos k with h5 | h5
        · exfalso
          subst h5
          have h6 := ahead_1 y
          simp at h
          omega
        · exact h5
      have := mDown_ok y left h0 k hk (by omega) (by omega)
      omega

theorem of_ok (day : Int) (h : isB day = true) :
    dateB (ofY day) (ofM day) (ofD day) = true ∧ dayN (ofY day) (ofM day) (ofD day) = day := by
  have hd : 0 ≤ day ∧ day < 3068037 := by simpa [isB] using h
  obtain ⟨y1, y2, y3, y4⟩ := ofY_ok day hd.1 hd.2
  have hs := years_succ (ofY day) y1 y2
  have h13 := ahead_13 (ofY day)
  obtain ⟨m1, m2, m3, m4⟩ := mDown_ok (ofY day) (day - yearsV (ofY day)) (by omega) 12 (by omega) (by omega) (by have : ((12 : Nat) : Int) + 1 = 13 := rfl; rw [this, h13]; omega)
  have ht : thereB (ofY day) (ofM day) = true := by
    unfold ofM
    simp only [thereB, decide_eq_true_eq]
    omega
  refine ⟨?_, ?_⟩
  · unfold dateB
    rw [ht]
    have hl : lenV (ofY day) (ofM day) = aheadV (ofY day) (ofM day + 1) - aheadV (ofY day) (ofM day) := by unfold lenV; rw [if_pos ht]
    rw [hl]
    unfold ofD ofM
    simp only [Bool.true_and, decide_eq_true_eq]
    omega
  · unfold dayN ofD
    omega
theorem ahead_le (y a b : Int) (h1 : 1 ≤ a) (h : a < b) (h2 : b ≤ 13) : aheadV y a + 28 ≤ aheadV y b := by
  have h12 : ∀ n : Nat, ∀ a : Int, 1 ≤ a → a + n + 1 ≤ 13 → aheadV y a + 28 ≤ aheadV y (a + n + 1) := by
    intro n
    induction n with
    | zero => intro a ha hb; simpa using ahead_mono y a ha (by omega)
    | succ n ih =>
      intro a ha hb
      have h3 := ih a ha (by omega)
      have h4 := ahead_mono y (a + n + 1) (by omega) (by omega)
      have e : a + ((n + 1 : Nat) : Int) + 1 = a + n + 1 + 1 := by omega
      rw [e]
      omega
  have := h12 (b - a - 1).toNat a h1 (by omega)
  have e : a + ((b - a - 1).toNat : Int) + 1 = b := by omega
  rwa [e] at this
/-- A day has one date. -/
theorem dayN_inj {y m d y' m' d' : Int} (h : dateB y m d = true) (h' : dateB y' m' d' = true) (e : dayN y m d = dayN y' m' d') : y = y' ∧ m = m' ∧ d = d' := by
  have key : ∀ {y m d : Int}, dateB y m d = true → 1600 ≤ y ∧ y ≤ 9999 ∧ 1 ≤ m ∧ m ≤ 12 ∧ 1 ≤ d ∧ aheadV y m + d ≤ aheadV y (m + 1) ∧ aheadV y (m + 1) ≤ aheadV y 13 ∧ 0 ≤ aheadV y m ∧ yearsV y + aheadV y 13 = yearsV (y + 1) := by
    intro y m d h
    simp only [dateB, Bool.and_eq_true, decide_eq_true_eq] at h
    obtain ⟨ht, hd1, hd2⟩ := h
    have hl : lenV y m = aheadV y (m + 1) - aheadV y m := by unfold lenV; rw [if_pos ht]
    have ht2 : 1600 ≤ y ∧ y ≤ 9999 ∧ 1 ≤ m ∧ m ≤ 12 := by simpa [thereB] using ht
    have h13 := ahead_13 y
    have hs := years_succ y ht2.1 ht2.2.1
    have hb := ahead_bd y m
    have hm : aheadV y (m + 1) ≤ aheadV y 13 := by
      rcases Int.lt_or_eq_of_le (show m + 1 ≤ 13 by omega) with h5 | h5
      · have := ahead_le y (m + 1) 13 (by omega) h5 (by omega); omega
      · rw [h5]; omega
    omega
  have k := key h
  have k' := key h'
  unfold dayN at e
  have hy : y = y' := by
    rcases Int.lt_trichotomy y y' with h5 | h5 | h5
    · have := years_mono (y + 1) y' (by omega) (by omega); omega
    · exact h5
    · have := years_mono (y' + 1) y (by omega) (by omega); omega
  subst hy
  have hm : m = m' := by
    rcases Int.lt_trichotomy m m' with h5 | h5 | h5
    · rcases Int.lt_or_eq_of_le (show m + 1 ≤ m' by omega) with h6 | h6
      · have := ahead_le y (m + 1) m' (by omega) h6 (by omega); omega
      · subst h6; omega
    · exact h5
    · rcases Int.lt_or_eq_of_le (show m' + 1 ≤ m by omega) with h6 | h6
      · have := ahead_le y (m' + 1) m (by omega) h6 (by omega); omega
      · subst h6; omega
  subst hm
  exact ⟨rfl, rfl, by omega⟩
theorem dayN_bd {y m d : Int} (h : dateB y m d = true) : isB (dayN y m d) = true := by
  simp only [dateB, Bool.and_eq_true, decide_eq_true_eq] at h
  obtain ⟨ht, hd1, hd2⟩ := h
  have hl : lenV y m = aheadV y (m + 1) - aheadV y m := by unfold lenV; rw [if_pos ht]
  have ht2 : 1600 ≤ y ∧ y ≤ 9999 ∧ 1 ≤ m ∧ m ≤ 12 := by simpa [thereB] using ht
  have h13 := ahead_13 y
  have hs := years_succ y ht2.1 ht2.2.1
  have hb := ahead_bd y m
  have hy := years_bd y ht2.1 (by omega)
  have hy2 := years_bd (y + 1) (by omega) (by omega)
  have hm : aheadV y (m + 1) ≤ aheadV y 13 := by
    rcases Int.lt_or_eq_of_le (show m + 1 ≤ 13 by omega) with h5 | h5
    · have := ahead_le y (m + 1) 13 (by omega) h5 (by omega); omega
    · rw [h5]; omega
  unfold isB dayN
  rw [decide_eq_true_eq]
  omega
/-- The date of a day that was made of a date. -/
theorem of_dayN {y m d : Int} (h : dateB y m d = true) : ofY (dayN y m d) = y ∧ ofM (dayN y m d) = m ∧ ofD (dayN y m d) = d := by
  obtain ⟨h1, h2⟩ := of_ok _ (dayN_bd h)
  exact dayN_inj h1 h h2
end Qd

namespace Qd
/-- A unit's numbers. -/
structure Un where
  lv : Int
  yr : Int
  ix : Int
/-- A span's days. -/
structure Sp where
  a : Int
  b : Int
end Qd
