/- Plain laws on the mirror of chapter 14's functions, part G: states that may be, and what becomes of them. -/
import Derived.Test.YteefdhgfcnjpoaaQTrPureF
namespace Go.Proofs.Yteefdhgfcnjpoaa.Pure
open Go.RowKit Go.Proofs.Yteefdhgfcnjpoaa.PA Go.Proofs.YteefdhgfcnjpoaaW.PrintWords Go.Proofs.YteefdhgfcnjpoaaW.PrintLast
set_option linter.unusedVariables false
set_option linter.unusedSimpArgs false

theorem plan_len {l : List S38} (h : planB l = true) : 1 ≤ l.length ∧ l.length ≤ 16 := by
  unfold planB at h
  simp only [Bool.and_eq_true, decide_eq_true_eq] at h
  exact h.1
theorem plan_step {l : List S38} (h : planB l = true) (i : Int) (h0 : 0 ≤ i) (h1 : i < l.length) : 1 ≤ (rd_T38 l i).f1 ∧ (rd_T38 l i).f1 ≤ 255 ∧ 1 ≤ (rd_T38 l i).f2 ∧ (rd_T38 l i).f2 ≤ 10000 := by
  unfold planB at h
  simp only [Bool.and_eq_true, decide_eq_true_eq, List.all_eq_true] at h
  obtain ⟨n, rfl⟩ := Int.eq_ofNat_of_zero_le h0
  have hn : n < l.length := by omega
  rw [getD_nat l n hn]
  have := h.2 _ (List.getElem_mem hn)
  unfold rightB tryOK at this
  simp only [Bool.and_eq_true, decide_eq_true_eq] at this
  exact this.2
theorem stB_goes {l : List S38} {s : Sg} (hp : s.ph = 1 ∨ s.ph = 2) (h0 : 0 ≤ s.st) (h1 : s.st < (l.length : Int)) (hc : s.co = 0)
    (hA : s.as_ = true → 1 ≤ s.tr ∧ s.tr ≤ (rd_T38 l s.st).f1 ∧ 1 ≤ s.le ∧ s.le ≤ (rd_T38 l s.st).f2) (hN : s.as_ = false → 0 ≤ s.tr ∧ s.tr < (rd_T38 l s.st).f1 ∧ s.le = 0)
    (hB : s.ph = 2 → (rd_T38 l s.st).f3 = true ∧ s.ca = false) : stB l s = true := by
  have h3 : ¬ s.ph = 3 := by omega
  unfold stB
  rw [if_neg h3, if_pos hp, decide_eq_true ⟨h0, h1, hc⟩, Bool.true_and, Bool.and_eq_true]
  constructor
  · cases hs : s.as_ with
    | true => simpa [hs] using hA hs
    | false => simpa [hs] using hN hs
  · by_cases h2 : s.ph = 2
    · obtain ⟨a, b⟩ := hB h2
      simp [h2, a, b]
    · simp [h2]

theorem lastB_some {l : List S38} : ∀ (n i : Nat), lastB l n = some i → i < n ∧ (rd_T38 l (i : Int)).f3 = true ∧ ∀ j, i < j → j < n → (rd_T38 l (j : Int)).f3 = false := by
  intro n
  induction n with
  | zero => intro i h; simp [lastB] at h
  | succ n ih =>
    intro i h
    simp only [lastB] at h
    by_cases hb : (rd_T38 l (n : Int)).f3 = true
    · rw [if_pos hb] at h
      obtain rfl : n = i := by simpa using h
      exact ⟨by omega, hb, fun j h1 h2 => by omega⟩
    · rw [if_neg hb] at h
      obtain ⟨a, b, c⟩ := ih i h
      refine ⟨by omega, b, fun j h1 h2 => ?_⟩
      by_cases hj : j = n
      · subst hj; simpa using hb
      · exact c j h1 (by omega)
theorem lastB_none {l : List S38} : ∀ (n : Nat), lastB l n = none → ∀ j, j < n → (rd_T38 l (j : Int)).f3 = false := by
  intro n
  induction n with
  | zero => intro _ j hj; omega
  | succ n ih =>
    intro h j hj
    simp only [lastB] at h
    by_cases hb : (rd_T38 l (n : Int)).f3 = true
    · rw [if_pos hb] at h; simp at h
    · rw [if_neg hb] at h
      by_cases hjn : j = n
      · subst hjn; simpa using hb
      · exact ih h j (by omega)

/-! ### the operations on states that may be -/
def askG (l : List S38) (s : Sg) : Sg := { s with tr := s.tr + 1, as_ := true, le := (rd_T38 l s.st).f2 }
def tellG (l : List S38) (s : Sg) (step : Int) (undo : Bool) (code : Int) : Sg :=
  if s.as_ = false ∨ ¬ step = s.st ∨ undo ≠ (s.ph == 2) then s else if undo = true then undoS l s code else forwS l s code
def tickG (l : List S38) (s : Sg) : Sg := if s.as_ = true then (if s.le = 1 then tellG l s s.st (s.ph == 2) 3 else { s with le := s.le - 1 }) else s
def cancG (l : List S38) (s : Sg) : Sg :=
  if s.ph = 1 then (if s.as_ = true then { s with ca := true } else if s.tr > 0 then backS l s.st else backS l (s.st - 1)) else s

theorem Val.tr_le {l : List S38} {s : Sg} (V : Val l s) (h3 : s.ph ≠ 3) : 0 ≤ s.tr ∧ s.tr ≤ (rd_T38 l s.st).f1 ∧ s.tr ≤ 255 := by
  obtain ⟨_, a, b, _, hA, hN, _⟩ := V.goes h3
  have := plan_step V.plan s.st a b
  cases hs : s.as_ with
  | true => have := hA hs; omega
  | false => have := hN hs; omega
theorem askS_eq {l : List S38} {s : Sg} (V : Val l s) (h3 : s.ph ≠ 3) (ha : s.as_ = false) : askS l s = res8 (askG l s) 0 := by
  have := V.tr_le h3
  unfold askS askG
  rw [if_pos (ckI_of V), if_neg (by simp [h3, ha]), wrap_id (by omega) (by omega)]

theorem tellS_eq {l : List S38} {s : Sg} (V : Val l s) (step : Int) (undo : Bool) (code : Int) (hc : 1 ≤ code ∧ code ≤ 3) : tellS l s step undo code = res8 (tellG l s step undo code) 0 := by
  unfold tellS tellG
  rw [if_pos (ckI_of V), if_neg (by omega)]
  by_cases h : s.as_ = false ∨ ¬ step = s.st ∨ undo ≠ (s.ph == 2)
  · rw [if_pos h, if_pos h]
  · rw [if_neg h, if_neg h]
    cases undo <;> rfl

/-! ### they stay states that may be -/
theorem val_ask {l : List S38} {s : Sg} (V : Val l s) (h3 : s.ph ≠ 3) (ha : s.as_ = false) : Val l (askG l s) := by
  obtain ⟨hp, a, b, c, _, hN, hB⟩ := V.goes h3
  have hN := hN ha
  have := plan_step V.plan s.st a b
  exact ⟨V.plan, V.len, stB_goes hp a b c (fun _ => ⟨by simp [askG]; omega, by simp [askG]; omega, by simp [askG]; omega, by simp [askG]⟩) (fun e => by simp [askG] at e) hB⟩

end Go.Proofs.Yteefdhgfcnjpoaa.Pure
