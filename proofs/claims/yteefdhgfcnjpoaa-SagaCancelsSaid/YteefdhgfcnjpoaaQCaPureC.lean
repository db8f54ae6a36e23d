/- Plain laws on the mirror of chapter 14's functions, part C: what each operation comes to. -/
import Derived.Test.YteefdhgfcnjpoaaQCaPAx5
import Derived.Test.YteefdhgfcnjpoaaQCaPAx6
import Derived.Test.YteefdhgfcnjpoaaQCaPAx8
import Derived.Test.YteefdhgfcnjpoaaQCaPAx11
import Derived.Test.YteefdhgfcnjpoaaQCaPAx12
import Derived.Test.YteefdhgfcnjpoaaQCaPureB
namespace Go.Proofs.Yteefdhgfcnjpoaa.Pure
open Go.RowKit Go.Proofs.Yteefdhgfcnjpoaa.PA Go.Proofs.YteefdhgfcnjpoaaW.PrintWords Go.Proofs.YteefdhgfcnjpoaaW.PrintLast
set_option linter.unusedVariables false
set_option linter.unusedSimpArgs false

/-! ### going back -/
/-- the greatest index below n whose step is undone -/
def lastB (l : List S38) : Nat → Option Nat
  | 0 => none
  | n + 1 => if (rd_T38 l (n : Int)).f3 = true then some n else lastB l n
def backO : Option Nat → Sg
  | none => ⟨3, 0, 0, false, 0, false, 2⟩
  | some i => ⟨2, i, 0, false, 0, false, 0⟩
/-- it goes back from step i on (i may be one below the first) -/
def backS (l : List S38) (i : Int) : Sg := backO (lastB l (i + 1).toNat)
theorem saga_back_l0 (l : List S38) (hl : l.length ≤ 9223372036854775807) : ∀ (n k : Nat), n ≤ l.length → n < k → saga_back.l0 k l ((n : Int) - 1) = some (backO (lastB l n)).tup := by
  intro n
  induction n with
  | zero =>
    intro k hn hk
    obtain ⟨k, rfl⟩ : ∃ m, k = m + 1 := ⟨k - 1, by omega⟩
    simp only [saga_back.l0, saga_over.f, lastB, backO, Sg.tup]
    rw [if_neg (by omega)]; rfl
  | succ n ih =>
    intro k hn hk
    obtain ⟨k, rfl⟩ : ∃ m, k = m + 1 := ⟨k - 1, by omega⟩
    have hi := ih k (by omega) (by omega)
    have e : ((n + 1 : Nat) : Int) - 1 = (n : Int) := by omega
    rw [e]
    simp only [saga_back.l0, lastB]
    rw [if_pos (by omega), if_pos (by omega), if_pos (by omega), wrap_id (by omega) (by omega), hi]
    cases h : (rd_T38 l (n : Int)).f3 <;> simp [backO, Sg.tup]
theorem saga_back_ev (l : List S38) (hl : l.length ≤ 9223372036854775807) (i : Int) (h0 : -1 ≤ i) (h1 : i < l.length) : Ev (fun k => saga_back.f k l i) (backS l i).tup :=
  ⟨(i + 1).toNat + 1, fun k hk => by
    have := saga_back_l0 l hl (i + 1).toNat k (by omega) (by omega)
    rw [show (((i + 1).toNat : Nat) : Int) - 1 = i by omega] at this
    exact this⟩
def encO : Option Nat → Int
  | none => -1
  | some i => i

/-! ### the operations -/
def res8 (s : Sg) (e : Int) : Int × Int × Int × Bool × Int × Bool × Int × Int := (s.ph, s.st, s.tr, s.as_, s.le, s.ca, s.co, e)
def sg0 : Sg := ⟨0, 0, 0, false, 0, false, 0⟩
def nextS (l : List S38) (s : Sg) : Int × Bool × Int × Bool :=
  if ckI l s = 0 ∧ s.ph ≠ 3 ∧ s.as_ = false then (s.st, s.ph == 2, wrap64 (s.tr + 1), true) else (0, false, 0, false)
def askS (l : List S38) (s : Sg) : Int × Int × Int × Bool × Int × Bool × Int × Int :=
  if ckI l s = 0 then
    if s.ph = 3 ∨ s.as_ = true then res8 sg0 2 else res8 { s with tr := wrap64 (s.tr + 1), as_ := true, le := (rd_T38 l s.st).f2 } 0
  else res8 sg0 (ckI l s)
/-- what came of a step, forward -/
def forwS (l : List S38) (s : Sg) (code : Int) : Sg :=
  if code = 2 then backS l (s.st - 1)
  else if code = 3 ∧ s.ca = false ∧ s.tr < (rd_T38 l s.st).f1 then { s with as_ := false, le := 0 }
  else if code = 3 ∨ s.ca = true then backS l s.st
  else if s.st = (l.length : Int) - 1 then ⟨3, 0, 0, false, 0, false, 1⟩
  else ⟨1, s.st + 1, 0, false, 0, false, 0⟩
/-- what came of a step, back -/
def undoS (l : List S38) (s : Sg) (code : Int) : Sg :=
  if code = 1 then backS l (s.st - 1)
  else if s.tr = (rd_T38 l s.st).f1 then ⟨3, 0, 0, false, 0, false, 3⟩ else { s with as_ := false, le := 0 }
def tellS (l : List S38) (s : Sg) (step : Int) (undo : Bool) (code : Int) : Int × Int × Int × Bool × Int × Bool × Int × Int :=
  if ckI l s = 0 then
    if code < 1 ∨ code > 3 then res8 sg0 2
    else if s.as_ = false ∨ ¬ step = s.st ∨ undo ≠ (s.ph == 2) then res8 s 0
    else if undo = true then res8 (undoS l s code) 0 else res8 (forwS l s code) 0
  else res8 sg0 (ckI l s)
def tickS (l : List S38) (s : Sg) : Int × Int × Int × Bool × Int × Bool × Int × Int :=
  if ckI l s = 0 then
    if s.as_ = true then (if s.le = 1 then tellS l s s.st (s.ph == 2) 3 else res8 { s with le := wrap64 (s.le - 1) } 0) else res8 s 0
  else res8 sg0 (ckI l s)
def cancS (l : List S38) (s : Sg) : Int × Int × Int × Bool × Int × Bool × Int × Int :=
  if ckI l s = 0 then
    if s.ph = 1 then
      if s.as_ = true then res8 { s with ca := true } 0 else if s.tr > 0 then res8 (backS l s.st) 0 else res8 (backS l (s.st - 1)) 0
    else res8 s 0
  else res8 sg0 (ckI l s)

/-- what a state that may be says, in propositions -/
structure Val (l : List S38) (s : Sg) : Prop where
  plan : planB l = true
  len : 1 ≤ l.length ∧ l.length ≤ 16
  st : stB l s = true
theorem ckI_zero {l : List S38} {s : Sg} (h : ckI l s = 0) : Val l s := by
  unfold ckI at h
  cases hp : planB l with
  | false => rw [hp] at h; simp at h
  | true =>
    cases hs : stB l s with
    | false => rw [hp, hs] at h; simp at h
    | true =>
      refine ⟨hp, ?_, hs⟩
      unfold planB at hp
      simp only [Bool.and_eq_true, decide_eq_true_eq] at hp
      exact hp.1
theorem ckI_of {l : List S38} {s : Sg} (h : Val l s) : ckI l s = 0 := by
  unfold ckI; rw [h.plan, h.st]; rfl
/-- a state that is not over -/
theorem Val.goes {l : List S38} {s : Sg} (h : Val l s) (h3 : s.ph ≠ 3) : (s.ph = 1 ∨ s.ph = 2) ∧ 0 ≤ s.st ∧ s.st < (l.length : Int) ∧ s.co = 0 ∧
    (s.as_ = true → 1 ≤ s.tr ∧ s.tr ≤ (rd_T38 l s.st).f1 ∧ 1 ≤ s.le ∧ s.le ≤ (rd_T38 l s.st).f2) ∧ (s.as_ = false → 0 ≤ s.tr ∧ s.tr < (rd_T38 l s.st).f1 ∧ s.le = 0) ∧
    (s.ph = 2 → (rd_T38 l s.st).f3 = true ∧ s.ca = false) := by
  have h := h.st
  unfold stB at h
  rw [if_neg h3] at h
  by_cases hp : s.ph = 1 ∨ s.ph = 2
  · rw [if_pos hp] at h
    simp only [Bool.and_eq_true, decide_eq_true_eq] at h
    obtain ⟨⟨a, b, c⟩, d, e⟩ := h
    refine ⟨hp, a, b, c, fun hs => ?_, fun hs => ?_, fun h2 => ?_⟩
    · rw [if_pos hs] at d; simpa using d
    · rw [if_neg (by rw [hs]; decide)] at d; simpa using d
    · rw [if_pos h2] at e; simpa using e
  · rw [if_neg hp] at h; simp at h
theorem Val.over {l : List S38} {s : Sg} (h : Val l s) (h3 : s.ph = 3) : 1 ≤ s.co ∧ s.co ≤ 3 ∧ s.st = 0 ∧ s.tr = 0 ∧ s.le = 0 ∧ s.as_ = false ∧ s.ca = false := by
  have h := h.st
  unfold stB at h
  rw [if_pos h3] at h
  simp only [Bool.and_eq_true, decide_eq_true_eq, Bool.not_eq_true'] at h
  obtain ⟨⟨a, b, c, d, e⟩, f, g⟩ := h
  exact ⟨a, b, c, d, e, f, g⟩

theorem next_ev (l : List S38) (h : planW l) (s : Sg) : Ev (fun k => saga_Next.f k l s.ph s.st s.tr s.as_ s.le s.ca s.co) (nextS l s) := by
  obtain ⟨K, hK⟩ := saga_check l h s
  refine ⟨K, fun k hk => ?_⟩
  show saga_Next.f k l s.ph s.st s.tr s.as_ s.le s.ca s.co = _
  unfold saga_Next.f nextS
  have e1 := hK k (by omega)
  dsimp only at e1
  rw [e1, Option.bind_some]
  by_cases c0 : ckI l s = 0
  · rw [if_pos c0]
    by_cases c1 : s.ph = 3
    · simp [c1]
    · cases hs : s.as_ <;> simp [c0, c1, hs]
  · simp [c0]

theorem ask_ev (l : List S38) (h : planW l) (s : Sg) : Ev (fun k => saga_Ask.f k l s.ph s.st s.tr s.as_ s.le s.ca s.co) (askS l s) := by
  obtain ⟨K, hK⟩ := saga_check l h s
  obtain ⟨K2, hK2⟩ := next_ev l h s
  refine ⟨K + K2, fun k hk => ?_⟩
  show saga_Ask.f k l s.ph s.st s.tr s.as_ s.le s.ca s.co = _
  unfold saga_Ask.f askS
  have e1 := hK k (by omega)
  have e2 := hK2 k (by omega)
  dsimp only at e1 e2
  rw [e1, Option.bind_some, e2]
  unfold nextS
  by_cases c0 : ckI l s = 0
  · rw [if_pos c0, if_pos c0]
    by_cases c1 : s.ph = 3
    · simp [c1, res8, sg0]
    · obtain ⟨_, a, b, _⟩ := (ckI_zero c0).goes c1
      cases hs : s.as_ <;> simp [c0, c1, a, b, res8, sg0]
  · simp [c0, res8, sg0]

end Go.Proofs.Yteefdhgfcnjpoaa.Pure
