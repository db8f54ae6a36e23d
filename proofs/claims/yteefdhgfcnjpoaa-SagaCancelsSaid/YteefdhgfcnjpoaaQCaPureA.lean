/- Plain laws on the mirror of chapter 14's functions, part A: plans. -/
import Derived.Test.YteefdhgfcnjpoaaQCaPAx3
import Derived.Test.YteefdhgfcnjpoaaQCaPAx4
import Derived.Test.YteefdhgfcnjpoaaQCaPAx5
import Derived.Test.YteefdhgfcnjpoaaQCaPAx6
namespace Go.Proofs.Yteefdhgfcnjpoaa.Pure
open Go.RowKit Go.Proofs.Yteefdhgfcnjpoaa.PA Go.Proofs.YteefdhgfcnjpoaaW.PrintWords Go.Proofs.YteefdhgfcnjpoaaW.PrintLast
set_option linter.unusedVariables false
set_option linter.unusedSimpArgs false

theorem wrap_id {i : Int} (h0 : -9223372036854775808 ≤ i) (h1 : i ≤ 9223372036854775807) : wrap64 i = i := by unfold wrap64; omega

/-- a letter, a digit, or a hyphen -/
def signOK (c : Int) : Bool := decide (97 ≤ c ∧ c ≤ 122) || decide (48 ≤ c ∧ c ≤ 57) || decide (c = 45)
def nameOK (l : List Int) : Bool := l.all signOK && decide (1 ≤ l.length ∧ l.length ≤ 32)
def bytesOK (l : List Int) : Prop := ∀ c ∈ l, 0 ≤ c ∧ c ≤ 255

theorem signOK_iff (c : Int) : signOK c = true ↔ (97 ≤ c ∧ c ≤ 122) ∨ (48 ≤ c ∧ c ≤ 57) ∨ c = 45 := by
  unfold signOK; simp [or_assoc]

theorem rd_nat (l : List Int) (i : Nat) (h : i < l.length) : rd l (i : Int) = l[i] := by
  simp [rd, List.getD_eq_getElem?_getD, h]

/-! ### names -/
theorem ref_name_l0 (l : List Int) (hl : l.length ≤ 9223372036854775807) : ∀ (d k i : Nat), i + d = l.length → d < k → drayageref13_name.l0 k l (i : Int) = some ((l.drop i).all signOK && decide (1 ≤ l.length ∧ l.length ≤ 32)) := by
  intro d
  induction d with
  | zero =>
    intro k i hi hk
    obtain ⟨k, rfl⟩ : ∃ m, k = m + 1 := ⟨k - 1, by omega⟩
    simp only [drayageref13_name.l0]
    rw [if_neg (by omega), List.drop_of_length_le (by omega)]
    split
    · simp only [List.all_nil, Bool.true_and, Option.some.injEq, decide_eq_decide]; omega
    · simp only [List.all_nil, Bool.true_and, Option.some.injEq]; exact (decide_eq_false (by omega)).symm
  | succ d ih =>
    intro k i hi hk
    obtain ⟨k, rfl⟩ : ∃ m, k = m + 1 := ⟨k - 1, by omega⟩
    have hlt : i < l.length := by omega
    have hrec : drayageref13_name.l0 k l (wrap64 ((i : Int) + 1)) = some ((l.drop (i + 1)).all signOK && decide (1 ≤ l.length ∧ l.length ≤ 32)) := by
      rw [wrap_id (by omega) (by omega)]
      exact_mod_cast ih k (i + 1) (by omega) (by omega)
    simp only [drayageref13_name.l0]
    rw [if_pos (by omega), if_pos (by omega), hrec, rd_nat l i hlt, List.drop_eq_getElem_cons hlt, List.all_cons]
    generalize l[i] = c
    by_cases hs : signOK c = true
    · rw [hs]
      rw [signOK_iff] at hs
      simp only [Bool.true_and]
      repeat' split
      all_goals first | rfl | (exfalso; omega)
    · have hs' : signOK c = false := by simpa using hs
      rw [hs']
      rw [signOK_iff] at hs
      simp only [Bool.false_and]
      repeat' split
      all_goals first | rfl | (exfalso; omega)

theorem ref_name (l : List Int) (hl : l.length ≤ 9223372036854775807) : Ev (fun k => drayageref13_name.f k l) (nameOK l) :=
  ⟨l.length + 1, fun k hk => by
    have := ref_name_l0 l hl l.length k 0 (by omega) (by omega)
    unfold drayageref13_name.f nameOK
    simpa using this⟩

theorem strOf_size (l : List Int) : (strOfNums l).size = l.length := by
  simp [strOfNums, ByteArray.size]
theorem strOf_get (l : List Int) (hb : bytesOK l) (i : Nat) (h : i < l.length) : (((strOfNums l).get! i).toNat : Int) = l[i] := by
  have h2 := hb l[i] (List.getElem_mem h)
  simp [strOfNums, ByteArray.get!, h]
  omega
theorem nameSign_eq (c : Nat) : nameSign c = signOK (c : Int) := by
  rw [Bool.eq_iff_iff, signOK_iff]
  simp [nameSign, or_assoc]
  omega
theorem nameWhole_eq (l : List Int) (hb : bytesOK l) : nameWhole (strOfNums l) = l.all signOK := by
  rw [Bool.eq_iff_iff]
  unfold nameWhole
  rw [List.all_eq_true, List.all_eq_true]
  constructor
  · intro h x hx
    obtain ⟨i, hi, rfl⟩ := List.getElem_of_mem hx
    have := h i (by simp [strOf_size, hi])
    rwa [nameSign_eq, strOf_get l hb i hi] at this
  · intro h i hi
    have hi : i < l.length := by simpa [strOf_size] using hi
    rw [nameSign_eq, strOf_get l hb i hi]
    exact h _ (List.getElem_mem hi)
theorem plan_name_eq (l : List Int) (hb : bytesOK l) : plan_name.f (strOfNums l) = some (nameOK l) := by
  unfold plan_name.f nameOK
  rw [nameWhole_eq l hb, strOf_size, Bool.and_assoc]
  congr 2
  rw [Bool.eq_iff_iff, Bool.and_eq_true, decide_eq_true_iff, decide_eq_true_iff, decide_eq_true_iff]
  omega

/-! ### steps -/
def numOK (s : S38) : Bool := decide (1 ≤ s.f0.f1 ∧ s.f0.f1 ≤ 1000000)
def tryOK (s : S38) : Bool := decide (1 ≤ s.f1 ∧ s.f1 ≤ 255 ∧ 1 ≤ s.f2 ∧ s.f2 ≤ 10000)
/-- may a step be -/
def rightB (s : S38) : Bool :=
  (if s.f0.f0 = 1 ∨ s.f0.f0 = 3 then numOK s && nameOK s.f0.f2
   else if s.f0.f0 = 2 ∨ s.f0.f0 = 4 then decide (s.f0.f1 = 0) && decide (s.f0.f2.length = 0)
   else if s.f0.f0 = 5 then numOK s && decide (s.f0.f2.length = 0)
   else if s.f0.f0 = 6 then decide (s.f0.f1 = 0) && nameOK s.f0.f2 else false) && tryOK s
/-- what a step's parts are in bounds of -/
def stepW (s : S38) : Prop := bytesOK s.f0.f2 ∧ s.f0.f2.length ≤ 9223372036854775807

theorem getD_nat (l : List S38) (i : Nat) (h : i < l.length) : rd_T38 l (i : Int) = l[i] := by
  simp [rd_T38, List.getD_eq_getElem?_getD, h]

theorem try_ifs (d e : Int) : (if d ≥ 1 then if d ≤ 255 then if e ≥ 1 then some (decide (e ≤ 10000)) else some false else some false else some false) = some (decide (1 ≤ d ∧ d ≤ 255 ∧ 1 ≤ e ∧ e ≤ 10000)) := by
  repeat' split
  all_goals first
    | (simp only [Option.some.injEq, decide_eq_decide]; omega)
    | (simp only [Option.some.injEq]; exact (decide_eq_false (by omega)).symm)

theorem ite_dec (p : Prop) [Decidable p] (T : Bool) : (if p then some T else some false) = some (decide p && T) := by by_cases h : p <;> simp [h]

theorem ref_right (s : S38) (h : stepW s) : Ev (fun k => drayageref13_Right.f k s.f0.f0 s.f0.f1 s.f0.f2 s.f1 s.f2 s.f3) (rightB s) := by
  obtain ⟨K, hK⟩ := ref_name s.f0.f2 h.2
  refine ⟨K + 5, fun k hk => ?_⟩
  obtain ⟨k, rfl⟩ : ∃ m, k = m + 5 := ⟨k - 5, by omega⟩
  obtain ⟨⟨a, b, c⟩, d, e, f⟩ := s
  have h4 : drayageref13_name.f (k + 4) c = some (nameOK c) := hK (k + 4) (by omega)
  have hl : (c.length : Int) = 0 ↔ c.length = 0 := by omega
  unfold drayageref13_Right.f rightB numOK tryOK
  simp only [drayageref13_Right.j0, drayageref13_Right.j1, drayageref13_Right.j2, h4, Option.bind_some, try_ifs, hl]
  generalize decide (1 ≤ d ∧ d ≤ 255 ∧ 1 ≤ e ∧ e ≤ 10000) = T
  generalize nameOK c = x
  generalize c.length = n at *
  clear h4 hK h
  by_cases hb1 : 1 ≤ b
  all_goals
    by_cases hb2 : b ≤ 1000000
    all_goals
      rcases (by omega : a = 1 ∨ a = 2 ∨ a = 3 ∨ a = 4 ∨ a = 5 ∨ a = 6 ∨ (a ≠ 1 ∧ a ≠ 2 ∧ a ≠ 3 ∧ a ≠ 4 ∧ a ≠ 5 ∧ a ≠ 6)) with rfl | rfl | rfl | rfl | rfl | rfl | ⟨h1, h2, h3, h4, h5, h6⟩
      all_goals
        by_cases hb0 : b = 0
        all_goals by_cases hn : n = 0
        all_goals first | (exfalso; omega) | (cases x <;> simp_all [ite_dec] <;> omega) | (cases x <;> simp_all [ite_dec]) | skip

theorem plan_right_ev (s : S38) (h : stepW s) : Ev (fun k => plan_right.f k s.f0.f0 s.f0.f1 s.f0.f2 s.f1 s.f2 s.f3) (rightB s) := by
  refine ⟨5, fun k hk => ?_⟩
  obtain ⟨k, rfl⟩ : ∃ m, k = m + 5 := ⟨k - 5, by omega⟩
  obtain ⟨⟨a, b, c⟩, d, e, f⟩ := s
  have h4 : plan_name.f (strOfNums c) = some (nameOK c) := plan_name_eq c h.1
  have hl : (c.length : Int) = 0 ↔ c.length = 0 := by omega
  unfold plan_right.f rightB numOK tryOK
  simp only [plan_right.j0, plan_counts.f, plan_named.f, plan_words.f, h4, Option.bind_some, try_ifs, hl]
  generalize decide (1 ≤ d ∧ d ≤ 255 ∧ 1 ≤ e ∧ e ≤ 10000) = T
  generalize nameOK c = x
  generalize c.length = n at *
  clear h4 h
  by_cases hb1 : 1 ≤ b
  all_goals
    by_cases hb2 : b ≤ 1000000
    all_goals
      rcases (by omega : a = 1 ∨ a = 2 ∨ a = 3 ∨ a = 4 ∨ a = 5 ∨ a = 6 ∨ (a ≠ 1 ∧ a ≠ 2 ∧ a ≠ 3 ∧ a ≠ 4 ∧ a ≠ 5 ∧ a ≠ 6)) with rfl | rfl | rfl | rfl | rfl | rfl | ⟨h1, h2, h3, h4, h5, h6⟩
      all_goals
        by_cases hb0 : b = 0
        all_goals by_cases hn : n = 0
        all_goals first | (exfalso; omega) | (cases x <;> simp_all [ite_dec] <;> omega) | (cases x <;> simp_all [ite_dec]) | skip
end Go.Proofs.Yteefdhgfcnjpoaa.Pure
