/- Plain laws on the mirror of chapter 14's functions, part G: states that may be, and what becomes of them. -/
import Derived.Test.YteefdhgfcnjpoaaQCaPureF
namespace Go.Proofs.Yteefdhgfcnjpoaa.Pure
open Go.RowKit Go.Proofs.Yteefdhgfcnjpoaa.PA Go.Proofs.YteefdhgfcnjpoaaW.PrintWords Go.Proofs.YteefdhgfcnjpoaaW.PrintLast
set_option linter.unusedVariables false
set_option linter.unusedSimpArgs false

theorem plan_len {l : List S38} (h : planB l = true) : 1 ≤ l.length ∧ l.length ≤ 16 := by
  unfold planB at h
  simp only [Bool.and_eq_true, decide_eq_true_eq] at h
  exact h.1
theorem plan_step {l : List S38} (h : planB l = true) (i : Int) (h0 : 0 ≤ i) (h1 : i < l.length) : 1 ≤ (rd_T38 l i).f1 ∧ (rd_T38 l i).f1 ≤ 255 ∧ 1 ≤ (rd_T38 l i).f2 ∧ (rd_T38 l i).f2 ≤ 10000 := by
  unfold planB at h
  simp only [Bool.and_eq_true, decide_eq_true_eq, List.all_eq_true] at h
  obtain ⟨n, rfl⟩ := Int.eq_ofNat_of_zero_le h0
  have hn : n < l.length := by omega
  rw [getD_nat l n hn]
  have := h.2 _ (List.getElem_mem hn)
  unfold rightB tryOK at this
  simp only [Bool.and_eq_true, decide_eq_true_eq] at this
  exact this.2
theorem stB_goes {l : List S38} {s : Sg} (hp : s.ph = 1 ∨ s.ph = 2) (h0 : 0 ≤ s.st) (h1 : s.st < (l.length : Int)) (hc : s.co = 0)
    (hA : s.as_ = true → 1 ≤ s.tr ∧ s.tr ≤ (rd_T38 l s.st).f1 ∧ 1 ≤ s.le ∧ s.le ≤ (rd_T38 l s.st).f2) (hN : s.as_ = false → 0 ≤ s.tr ∧ s.tr < (rd_T38 l s.st).f1 ∧ s.le = 0)
    (hB : s.ph = 2 → (rd_T38 l s.st).f3 = true ∧ s.ca = false) : stB l s = true := by
  have h3 : ¬ s.ph = 3 := by omega
  unfold stB
  rw [if_neg h3, if_pos hp, decide_eq_true ⟨h0, h1, hc⟩, Bool.true_and, Bool.and_eq_true]
  constructor
  · cases hs : s.as_ with
    | true => simpa [hs] using hA hs
    | false => simpa [hs] using hN hs
  · by_cases h2 : s.ph = 2
    · obtain ⟨a, b⟩ := hB h2
      simp [h2, a, b]
    · simp [h2]
theorem val_over {l : List S38} (h : planB l = true) (c : Int) (hc : 1 ≤ c ∧ c ≤ 3) : Val l ⟨3, 0, 0, false, 0, false, c⟩ := by
  refine ⟨h, plan_len h, ?_⟩
  unfold stB
  simp [hc.1, hc.2]
theorem val_fresh {l : List S38} (h : planB l = true) (i : Int) (h0 : 0 ≤ i) (h1 : i < l.length) : Val l ⟨1, i, 0, false, 0, false, 0⟩ := by
  have := plan_step h i h0 h1
  exact ⟨h, plan_len h, stB_goes (.inl rfl) h0 h1 rfl (fun e => by simp at e) (fun _ => ⟨by simp, by simp; omega, rfl⟩) (fun e => by simp at e)⟩
theorem lastB_some {l : List S38} : ∀ (n i : Nat), lastB l n = some i → i < n ∧ (rd_T38 l (i : Int)).f3 = true ∧ ∀ j, i < j → j < n → (rd_T38 l (j : Int)).f3 = false := by
  intro n
  induction n with
  | zero => intro i h; simp [lastB] at h
  | succ n ih =>
    intro i h
    simp only [lastB] at h
    by_cases hb : (rd_T38 l (n : Int)).f3 = true
    · rw [if_pos hb] at h
      obtain rfl : n = i := by simpa using h
      exact ⟨by omega, hb, fun j h1 h2 => by omega⟩
    · rw [if_neg hb] at h
      obtain ⟨a, b, c⟩ := ih i h
      refine ⟨by omega, b, fun j h1 h2 => ?_⟩
      by_cases hj : j = n
      · subst hj; simpa using hb
      · exact c j h1 (by omega)

theorem val_back {l : List S38} (h : planB l = true) (i : Int) (h0 : -1 ≤ i) (h1 : i < l.length) : Val l (backS l i) := by
  unfold backS
  cases hb : lastB l (i + 1).toNat with
  | none => exact val_over h 2 (by omega)
  | some j =>
    obtain ⟨a, b, _⟩ := lastB_some _ j hb
    have := plan_step h (j : Int) (by omega) (by omega)
    exact ⟨h, plan_len h, stB_goes (.inr rfl) (by simp [backO]) (by simp [backO]; omega) rfl (fun e => by simp [backO] at e) (fun _ => ⟨by simp [backO], by simp [backO]; omega, rfl⟩) (fun _ => ⟨b, rfl⟩)⟩

/-! ### the operations on states that may be -/
def askG (l : List S38) (s : Sg) : Sg := { s with tr := s.tr + 1, as_ := true, le := (rd_T38 l s.st).f2 }
def tellG (l : List S38) (s : Sg) (step : Int) (undo : Bool) (code : Int) : Sg :=
  if s.as_ = false ∨ ¬ step = s.st ∨ undo ≠ (s.ph == 2) then s else if undo = true then undoS l s code else forwS l s code
def tickG (l : List S38) (s : Sg) : Sg := if s.as_ = true then (if s.le = 1 then tellG l s s.st (s.ph == 2) 3 else { s with le := s.le - 1 }) else s
def cancG (l : List S38) (s : Sg) : Sg :=
  if s.ph = 1 then (if s.as_ = true then { s with ca := true } else if s.tr > 0 then backS l s.st else backS l (s.st - 1)) else s

theorem Val.tr_le {l : List S38} {s : Sg} (V : Val l s) (h3 : s.ph ≠ 3) : 0 ≤ s.tr ∧ s.tr ≤ (rd_T38 l s.st).f1 ∧ s.tr ≤ 255 := by
  obtain ⟨_, a, b, _, hA, hN, _⟩ := V.goes h3
  have := plan_step V.plan s.st a b
  cases hs : s.as_ with
  | true => have := hA hs; omega
  | false => have := hN hs; omega
theorem askS_eq {l : List S38} {s : Sg} (V : Val l s) (h3 : s.ph ≠ 3) (ha : s.as_ = false) : askS l s = res8 (askG l s) 0 := by
  have := V.tr_le h3
  unfold askS askG
  rw [if_pos (ckI_of V), if_neg (by simp [h3, ha]), wrap_id (by omega) (by omega)]
theorem nextS_eq {l : List S38} {s : Sg} (V : Val l s) : nextS l s = if s.ph ≠ 3 ∧ s.as_ = false then (s.st, s.ph == 2, s.tr + 1, true) else (0, false, 0, false) := by
  unfold nextS
  by_cases h : s.ph ≠ 3 ∧ s.as_ = false
  · have := V.tr_le h.1
    rw [if_pos ⟨ckI_of V, h⟩, if_pos h, wrap_id (by omega) (by omega)]
  · rw [if_neg (fun e => h e.2), if_neg h]
theorem tellS_eq {l : List S38} {s : Sg} (V : Val l s) (step : Int) (undo : Bool) (code : Int) (hc : 1 ≤ code ∧ code ≤ 3) : tellS l s step undo code = res8 (tellG l s step undo code) 0 := by
  unfold tellS tellG
  rw [if_pos (ckI_of V), if_neg (by omega)]
  by_cases h : s.as_ = false ∨ ¬ step = s.st ∨ undo ≠ (s.ph == 2)
  · rw [if_pos h, if_pos h]
  · rw [if_neg h, if_neg h]
    cases undo <;> rfl
theorem tickS_eq {l : List S38} {s : Sg} (V : Val l s) : tickS l s = res8 (tickG l s) 0 := by
  unfold tickS tickG
  rw [if_pos (ckI_of V)]
  cases hs : s.as_ with
  | false => simp
  | true =>
    have h3 : s.ph ≠ 3 := fun e => by have := (V.over e).2.2.2.2.2.1; rw [hs] at this; exact absurd this (by decide)
    obtain ⟨_, a, b, _, hA, _⟩ := V.goes h3
    have hA := hA hs
    have := plan_step V.plan s.st a b
    by_cases h1 : s.le = 1
    · rw [if_pos rfl, if_pos h1, if_pos rfl, if_pos h1, tellS_eq V _ _ _ (by omega)]
    · rw [if_pos rfl, if_neg h1, if_pos rfl, if_neg h1, wrap_id (by omega) (by omega)]
theorem cancS_eq {l : List S38} {s : Sg} (V : Val l s) : cancS l s = res8 (cancG l s) 0 := by
  unfold cancS cancG
  rw [if_pos (ckI_of V)]
  by_cases h1 : s.ph = 1
  · rw [if_pos h1, if_pos h1]
    cases s.as_ with
    | true => rfl
    | false => by_cases h2 : s.tr > 0 <;> simp [h2]
  · rw [if_neg h1, if_neg h1]

/-! ### they stay states that may be -/
theorem val_ask {l : List S38} {s : Sg} (V : Val l s) (h3 : s.ph ≠ 3) (ha : s.as_ = false) : Val l (askG l s) := by
  obtain ⟨hp, a, b, c, _, hN, hB⟩ := V.goes h3
  have hN := hN ha
  have := plan_step V.plan s.st a b
  exact ⟨V.plan, V.len, stB_goes hp a b c (fun _ => ⟨by simp [askG]; omega, by simp [askG]; omega, by simp [askG]; omega, by simp [askG]⟩) (fun e => by simp [askG] at e) hB⟩
theorem val_again {l : List S38} {s : Sg} (V : Val l s) (h3 : s.ph ≠ 3) (ha : s.as_ = true) (ht : s.tr < (rd_T38 l s.st).f1) : Val l { s with as_ := false, le := 0 } := by
  obtain ⟨hp, a, b, c, hA, _, hB⟩ := V.goes h3
  have hA := hA ha
  exact ⟨V.plan, V.len, stB_goes hp a b c (fun e => by simp at e) (fun _ => ⟨by show 0 ≤ s.tr; omega, ht, rfl⟩) hB⟩
theorem val_forw {l : List S38} {s : Sg} (V : Val l s) (h1 : s.ph = 1) (ha : s.as_ = true) (code : Int) : Val l (forwS l s code) := by
  obtain ⟨hp, a, b, c, hA, _, hB⟩ := V.goes (by omega)
  have hl := V.len
  unfold forwS
  by_cases c2 : code = 2
  · rw [if_pos c2]; exact val_back V.plan _ (by omega) (by omega)
  · rw [if_neg c2]
    by_cases c3 : code = 3 ∧ s.ca = false ∧ s.tr < (rd_T38 l s.st).f1
    · rw [if_pos c3]; exact val_again V (by omega) ha c3.2.2
    · rw [if_neg c3]
      by_cases c4 : code = 3 ∨ s.ca = true
      · rw [if_pos c4]; exact val_back V.plan _ (by omega) (by omega)
      · rw [if_neg c4]
        by_cases c5 : s.st = (l.length : Int) - 1
        · rw [if_pos c5]; exact val_over V.plan 1 (by omega)
        · rw [if_neg c5]; exact val_fresh V.plan _ (by omega) (by omega)
theorem val_undo {l : List S38} {s : Sg} (V : Val l s) (h1 : s.ph = 2) (ha : s.as_ = true) (code : Int) : Val l (undoS l s code) := by
  obtain ⟨hp, a, b, c, hA, _, hB⟩ := V.goes (by omega)
  have hA := hA ha
  have hl := V.len
  unfold undoS
  by_cases c1 : code = 1
  · rw [if_pos c1]; exact val_back V.plan _ (by omega) (by omega)
  · rw [if_neg c1]
    by_cases c3 : s.tr = (rd_T38 l s.st).f1
    · rw [if_pos c3]; exact val_over V.plan 3 (by omega)
    · rw [if_neg c3]; exact val_again V (by omega) ha (by omega)
theorem val_tell {l : List S38} {s : Sg} (V : Val l s) (step : Int) (undo : Bool) (code : Int) : Val l (tellG l s step undo code) := by
  unfold tellG
  by_cases h : s.as_ = false ∨ ¬ step = s.st ∨ undo ≠ (s.ph == 2)
  · rw [if_pos h]; exact V
  · rw [if_neg h]
    have ha : s.as_ = true := by cases hs : s.as_ with | true => rfl | false => exact absurd (.inl hs) h
    have h3 : s.ph ≠ 3 := fun e => by have := (V.over e).2.2.2.2.2.1; rw [ha] at this; exact absurd this (by decide)
    obtain ⟨hp, _⟩ := V.goes h3
    have hu : undo = (s.ph == 2) := Decidable.byContradiction fun e => h (.inr (.inr e))
    by_cases h2 : s.ph = 2
    · rw [hu, if_pos (by simp [h2])]; exact val_undo V h2 ha code
    · rw [hu, if_neg (by simp [h2])]; exact val_forw V (by omega) ha code
theorem val_tick {l : List S38} {s : Sg} (V : Val l s) : Val l (tickG l s) := by
  unfold tickG
  cases hs : s.as_ with
  | false => exact V
  | true =>
    have h3 : s.ph ≠ 3 := fun e => by have := (V.over e).2.2.2.2.2.1; rw [hs] at this; exact absurd this (by decide)
    rw [if_pos rfl]
    by_cases h1 : s.le = 1
    · rw [if_pos h1]; exact val_tell V _ _ _
    · rw [if_neg h1]
      obtain ⟨hp, a, b, c, hA, _, hB⟩ := V.goes h3
      have hA := hA hs
      exact ⟨V.plan, V.len, stB_goes hp a b c (fun _ => ⟨hA.1, hA.2.1, by show 1 ≤ s.le - 1; omega, by show s.le - 1 ≤ (rd_T38 l s.st).f2; omega⟩) (fun e => by simp [hs] at e) hB⟩
theorem val_canc {l : List S38} {s : Sg} (V : Val l s) : Val l (cancG l s) := by
  unfold cancG
  by_cases h1 : s.ph = 1
  · rw [if_pos h1]
    obtain ⟨hp, a, b, c, hA, hN, hB⟩ := V.goes (by omega)
    have hl := V.len
    cases hs : s.as_ with
    | true => rw [if_pos rfl]; exact ⟨V.plan, V.len, stB_goes hp a b c (fun _ => hA hs) (fun e => by simp at e) (fun e => by simp [h1] at e)⟩
    | false =>
      rw [if_neg (by decide)]
      by_cases h2 : s.tr > 0
      · rw [if_pos h2]; exact val_back V.plan _ (by omega) (by omega)
      · rw [if_neg h2]; exact val_back V.plan _ (by omega) (by omega)
  · rw [if_neg h1]; exact V
end Go.Proofs.Yteefdhgfcnjpoaa.Pure
