/- Plain words on calendars: no program in sight. -/
set_option linter.unusedSimpArgs false
set_option linter.unusedVariables false
namespace Qd

/-- A calendar's fields. -/
structure Cal where
  name : ByteArray
  kind : Int
  day : Int
  month : Int
  shift : Int
  shape : Int
  p0 : Int
  p1 : Int
  p2 : Int
  cycle : Int
  extra : Int
  first : Int
  last : Int
  policy : Int

def letterB (b : Int) : Bool := decide (97 ≤ b ∧ b ≤ 122)
def digitB (b : Int) : Bool := decide (48 ≤ b ∧ b ≤ 57)
def innerB (b : Int) : Bool := letterB b || digitB b || decide (b = 45)
def byteI (u : UInt8) : Int := (u.toNat : Int)
def runLen (l : List UInt8) : Nat := (l.takeWhile fun u => innerB (byteI u)).length
def nameB (s : ByteArray) : Bool :=
  decide (0 < s.size) && decide (s.size ≤ 16) && letterB (byteI (s.data.toList.headD 0)) && decide (runLen s.data.toList = s.size)

theorem beq_cast (a b : Nat) : ((a : Int) == (b : Int)) = decide (a = b) := by
  by_cases h : a = b
  · simp [h]
  · have h2 : ¬ (a : Int) = (b : Int) := by omega
    rw [beq_eq_false_iff_ne.2 h2]; simp [h]
theorem head_byte (s : ByteArray) (h : 0 < s.size) : s.data.toList.headD 0 = s[0] := by
  obtain ⟨⟨l⟩⟩ := s
  cases l with
  | nil => exact absurd h (by simp [ByteArray.size])
  | cons a l => rfl
theorem nameB_yes (s : ByteArray) (h : 0 < s.size) : nameB s = (decide (s.size ≤ 16) && letterB (s[0].toNat : Int) && decide (runLen s.data.toList = s.size)) := by
  unfold nameB
  rw [head_byte s h]
  simp [h, byteI]
theorem nameB_no (s : ByteArray) (h : ¬ 0 < s.size) : nameB s = false := by
  unfold nameB
  simp [h]
theorem runLen_le (l : List UInt8) : runLen l ≤ l.length := by
  unfold runLen; exact (List.takeWhile_sublist _).length_le
/-- All that stands ahead of place k is inner, what stands there is not. -/
theorem takeWhile_stop {α : Type} (p : α → Bool) (l : List α) (k : Nat) (hk : k < l.length) (h : ∀ j, (hj : j < k) → p (l[j]'(by omega)) = true) (hn : p l[k] = false) :
    (l.takeWhile p).length = k := by
  induction l generalizing k with
  | nil => simp at hk
  | cons a l ih =>
    cases k with
    | zero => simp at hn; simp [List.takeWhile_cons, hn]
    | succ k =>
      have h0 := h 0 (by omega)
      simp at h0
      simp only [List.takeWhile_cons, h0, if_true, List.length_cons]
      rw [ih k (by simpa using hk) (fun j hj => by have := h (j + 1) (by omega); simpa using this) (by simpa using hn)]
theorem takeWhile_all {α : Type} (p : α → Bool) (l : List α) (h : ∀ j, (hj : j < l.length) → p l[j] = true) : (l.takeWhile p).length = l.length := by
  induction l with
  | nil => rfl
  | cons a l ih =>
    have h0 := h 0 (by simp)
    simp at h0
    simp only [List.takeWhile_cons, h0, if_true, List.length_cons]
    rw [ih (fun j hj => by have := h (j + 1) (by simpa using hj); simpa using this)]

def manyP (shape cycle : Int) : Int := if shape = 2 then 13 else if shape = 3 ∧ 0 < cycle then 52 / cycle else if 1 ≤ shape ∧ shape ≤ 5 then 12 else 0

def Cal.pat0 (c : Cal) : Prop := c.p0 = 0 ∧ c.p1 = 0 ∧ c.p2 = 0
instance (c : Cal) : Decidable c.pat0 := by unfold Cal.pat0; infer_instance
def Cal.pat13 (c : Cal) : Prop := (c.p0 = 4 ∧ c.p1 = 4 ∧ c.p2 = 5) ∨ (c.p0 = 4 ∧ c.p1 = 5 ∧ c.p2 = 4) ∨ (c.p0 = 5 ∧ c.p1 = 4 ∧ c.p2 = 4)
instance (c : Cal) : Decidable c.pat13 := by unfold Cal.pat13; infer_instance
def weeksP (sp a b p cy ex : Int) : Prop :=
  ((sp = 1 ∧ ((a = 4 ∧ b = 4 ∧ p = 5) ∨ (a = 4 ∧ b = 5 ∧ p = 4) ∨ (a = 5 ∧ b = 4 ∧ p = 4)) ∧ cy = 0) ∨ (sp = 2 ∧ (a = 0 ∧ b = 0 ∧ p = 0) ∧ cy = 0) ∨ (sp = 3 ∧ (a = 0 ∧ b = 0 ∧ p = 0) ∧ (cy = 1 ∨ cy = 2 ∨ cy = 4))) ∧ 1 ≤ ex ∧ ex ≤ manyP sp cy
instance (sp a b p cy ex : Int) : Decidable (weeksP sp a b p cy ex) := by unfold weeksP; infer_instance
def Cal.weeks (c : Cal) : Prop := weeksP c.shape c.p0 c.p1 c.p2 c.cycle c.extra
instance (c : Cal) : Decidable c.weeks := by unfold Cal.weeks; infer_instance
def Cal.ruled (c : Cal) : Prop :=
  (c.kind = 3 ∧ c.day = 6 ∧ c.month = 1 ∧ c.shift = 1 ∧ c.shape = 1 ∧ c.p0 = 4 ∧ c.p1 = 5 ∧ c.p2 = 4 ∧ c.cycle = 0 ∧ c.extra = 12) ∨
  (c.kind = 4 ∧ c.day = 7 ∧ c.month = 12 ∧ c.shift = 0 ∧ c.shape = 4 ∧ c.pat0 ∧ c.cycle = 0 ∧ c.extra = 12) ∨
  ((c.kind = 1 ∨ c.kind = 2) ∧ (1 ≤ c.month ∧ c.month ≤ 12) ∧ (0 ≤ c.shift ∧ c.shift ≤ 1) ∧ (1 ≤ c.day ∧ c.day ≤ 7) ∧ c.weeks) ∨
  (c.kind = 5 ∧ c.day = 7 ∧ c.month = 12 ∧ c.shift = 0 ∧ c.weeks) ∨
  (c.kind = 6 ∧ (1 ≤ c.month ∧ c.month ≤ 12) ∧ (0 ≤ c.shift ∧ c.shift ≤ 1) ∧ c.day = 0 ∧ c.shape = 5 ∧ c.pat0 ∧ c.cycle = 0 ∧ c.extra = 0)
instance (c : Cal) : Decidable c.ruled := by unfold Cal.ruled; infer_instance
def Cal.served (c : Cal) : Prop := 1602 ≤ c.first ∧ c.last ≤ 9996 ∧ c.first ≤ c.last ∧ c.last - c.first < 400
instance (c : Cal) : Decidable c.served := by unfold Cal.served; infer_instance
def Cal.polic (c : Cal) : Prop := (1 ≤ c.policy ∧ c.policy ≤ 4) ∧ (c.policy = 4 ↔ c.kind = 6)
instance (c : Cal) : Decidable c.polic := by unfold Cal.polic; infer_instance
/-- The calendar may be. -/
def Cal.Ok (c : Cal) : Prop := c.served ∧ c.polic ∧ nameB c.name = true ∧ c.ruled
instance (c : Cal) : Decidable c.Ok := by unfold Cal.Ok; infer_instance
def Cal.okB (c : Cal) : Bool := decide c.Ok
/-- Where a pattern stands among the three. -/
def patIx (a b c : Int) : Int := if a = 4 ∧ b = 4 ∧ c = 5 then 0 else if a = 4 ∧ b = 5 ∧ c = 4 then 1 else if a = 5 ∧ b = 4 ∧ c = 4 then 2 else -1
theorem pat_ix (a b p : Int) : ((a = 4 ∧ b = 4 ∧ p = 5) ∨ (a = 4 ∧ b = 5 ∧ p = 4) ∨ (a = 5 ∧ b = 4 ∧ p = 4)) ↔ 0 < patIx a b p + 1 := by
  unfold patIx
  constructor
  · rintro (⟨rfl, rfl, rfl⟩ | ⟨rfl, rfl, rfl⟩ | ⟨rfl, rfl, rfl⟩) <;> decide
  · intro h
    split at h
    · left; assumption
    · split at h
      · right; left; assumption
      · split at h
        · right; right; assumption
        · omega
end Qd
