/- Plain laws on the mirror of chapter 14's functions, part H: what happens to an order, and the law SagaStays. -/
import Derived.Test.YteefdhgfcnjpoaaQCaPAx16
import Derived.Test.YteefdhgfcnjpoaaQCaPureG
namespace Go.Proofs.Yteefdhgfcnjpoaa.Pure
open Go.RowKit Go.Proofs.Yteefdhgfcnjpoaa.PA Go.Proofs.YteefdhgfcnjpoaaW.PrintWords Go.Proofs.YteefdhgfcnjpoaaW.PrintLast
set_option linter.unusedVariables false
set_option linter.unusedSimpArgs false

/-- a code, 1 to 3, out of any number -/
def codeOf (c : Int) : Int := wrap64 (1 + wrap64 (Int.tmod (IntKind.u64.wrap c) 3))
theorem u64_range (c : Int) : 0 ≤ IntKind.u64.wrap c ∧ IntKind.u64.wrap c ≤ 18446744073709551615 := by
  have h1 : IntKind.u64.wrap c = c % 18446744073709551616 := by simp [IntKind.wrap, IntKind.signed, IntKind.bits]
  omega
theorem codeOf_range (c : Int) : 1 ≤ codeOf c ∧ codeOf c ≤ 3 := by
  unfold codeOf
  have h := u64_range c
  have h2 : Int.tmod (IntKind.u64.wrap c) 3 = (IntKind.u64.wrap c) % 3 := Int.tmod_eq_emod_of_nonneg h.1
  rw [h2]
  generalize IntKind.u64.wrap c = u at *
  rw [wrap_id (i := u % 3) (by omega) (by omega), wrap_id (by omega) (by omega)]
  omega
/-- an event -/
def happG (l : List S38) (s : Sg) (x : S54) : Sg :=
  if x.f0 = 0 ∨ x.f0 = 1 then (if s.ph ≠ 3 ∧ s.as_ = false then askG l s else s)
  else if x.f0 = 2 ∨ x.f0 = 3 ∨ x.f0 = 4 then tellG l s s.st (s.ph == 2) (codeOf x.f2)
  else if x.f0 = 5 then tickG l s
  else if x.f0 = 6 then cancG l s
  else tellG l s (wrap64 (Int.tmod (IntKind.u64.wrap x.f1) 16)) ((Int.tmod x.f1 2) == 0) (codeOf x.f2)
abbrev resb (s : Sg) (b : Bool) : Int × Int × Int × Bool × Int × Bool × Int × Bool := (s.ph, s.st, s.tr, s.as_, s.le, s.ca, s.co, b)
theorem val_happ {l : List S38} {s : Sg} (V : Val l s) (x : S54) : Val l (happG l s x) := by
  unfold happG
  by_cases h1 : x.f0 = 0 ∨ x.f0 = 1
  · rw [if_pos h1]
    by_cases h : s.ph ≠ 3 ∧ s.as_ = false
    · rw [if_pos h]; exact val_ask V h.1 h.2
    · rw [if_neg h]; exact V
  · rw [if_neg h1]
    by_cases h2 : x.f0 = 2 ∨ x.f0 = 3 ∨ x.f0 = 4
    · rw [if_pos h2]; exact val_tell V _ _ _
    · rw [if_neg h2]
      by_cases h3 : x.f0 = 5
      · rw [if_pos h3]; exact val_tick V
      · rw [if_neg h3]
        by_cases h4 : x.f0 = 6
        · rw [if_pos h4]; exact val_canc V
        · rw [if_neg h4]; exact val_tell V _ _ _
theorem happ_ev (l : List S38) (h : planW l) (s : Sg) (V : Val l s) (x : S54) : Ev (fun k => drayagelaw14_happens.f k l s.ph s.st s.tr s.as_ s.le s.ca s.co x.f0 x.f1 x.f2) (resb (happG l s x) true) := by
  obtain ⟨K1, h1⟩ := next_ev l h s
  obtain ⟨K2, h2⟩ := ask_ev l h s
  obtain ⟨K3, h3⟩ := tell_ev l h s s.st (s.ph == 2) (codeOf x.f2)
  obtain ⟨K4, h4⟩ := tick_ev l h s
  obtain ⟨K5, h5⟩ := canc_ev l h s
  obtain ⟨K6, h6⟩ := tell_ev l h s (wrap64 (Int.tmod (IntKind.u64.wrap x.f1) 16)) ((Int.tmod x.f1 2) == 0) (codeOf x.f2)
  refine ⟨K1 + K2 + K3 + K4 + K5 + K6 + 5, fun k hk => ?_⟩
  obtain ⟨k, rfl⟩ : ∃ m, k = m + 3 := ⟨k - 3, by omega⟩
  have g1 := h1 (k + 2) (by omega)
  have g2 := h2 (k + 2) (by omega)
  have g3 := h3 (k + 1) (by omega)
  have g4 := h4 (k + 1) (by omega)
  have g5 := h5 (k + 1) (by omega)
  have g6 := h6 (k + 1) (by omega)
  clear h1 h2 h3 h4 h5 h6
  have hc := codeOf_range x.f2
  dsimp only at g1 g2 g3 g4 g5 g6
  rw [nextS_eq V] at g1
  rw [tellS_eq V _ _ _ hc] at g3 g6
  rw [tickS_eq V] at g4
  rw [cancS_eq V] at g5
  show drayagelaw14_happens.f (k + 3) l s.ph s.st s.tr s.as_ s.le s.ca s.co x.f0 x.f1 x.f2 = _
  have e0 : wrap64 (1 + wrap64 (Int.tmod (IntKind.u64.wrap x.f2) 3)) = codeOf x.f2 := rfl
  unfold drayagelaw14_happens.f happG
  simp only [drayagelaw14_happens.j0, drayagelaw14_happens.j1, e0]
  by_cases c0 : x.f0 = 0 ∨ x.f0 = 1
  · have e1 : (if x.f0 = 0 then (x.f0 == 0) else (x.f0 == 1)) = true := by rcases c0 with e | e <;> simp [e]
    rw [if_pos c0]
    by_cases c : s.ph ≠ 3 ∧ s.as_ = false
    · rw [askS_eq V c.1 c.2] at g2
      rw [if_pos c] at g1
      rw [if_pos c]
      rcases c0 with e | e <;> simp [e, g1, g2, res8, resb]
    · rw [if_neg c] at g1
      rw [if_neg c]
      rcases c0 with e | e <;> simp [e, g1, res8, resb]
  · rw [if_neg c0]
    have n0 : ¬ x.f0 = 0 := fun e => c0 (.inl e)
    have n1 : ¬ x.f0 = 1 := fun e => c0 (.inr e)
    by_cases c2 : x.f0 = 2 ∨ x.f0 = 3 ∨ x.f0 = 4
    · rw [if_pos c2]
      rcases c2 with e | e | e <;> simp [e, g3, res8, resb]
    · rw [if_neg c2]
      have n2 : ¬ x.f0 = 2 := fun e => c2 (.inl e)
      have n3 : ¬ x.f0 = 3 := fun e => c2 (.inr (.inl e))
      have n4 : ¬ x.f0 = 4 := fun e => c2 (.inr (.inr e))
      by_cases c5 : x.f0 = 5
      · simp [c5, g4, res8, resb]
      · by_cases c6 : x.f0 = 6
        · simp [c6, g5, res8, resb]
        · simp [n0, n1, n2, n3, n4, c5, c6, g6, res8, resb]
end Go.Proofs.Yteefdhgfcnjpoaa.Pure
