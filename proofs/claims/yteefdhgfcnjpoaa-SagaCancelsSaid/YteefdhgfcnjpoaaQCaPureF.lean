/- Plain laws on the mirror of chapter 14's functions, part F: known, long, and the law SagaMoves. -/
import Derived.Test.YteefdhgfcnjpoaaQCaPAx3
import Derived.Test.YteefdhgfcnjpoaaQCaPAx9
import Derived.Test.YteefdhgfcnjpoaaQCaPAx0
import Derived.Test.YteefdhgfcnjpoaaQCaPAx1
import Derived.Test.YteefdhgfcnjpoaaQCaPAx2
import Derived.Test.YteefdhgfcnjpoaaQCaPAx7
import Derived.Test.YteefdhgfcnjpoaaQCaPAx8
import Derived.Test.YteefdhgfcnjpoaaQCaPAx11
import Derived.Test.YteefdhgfcnjpoaaQCaPAx12
import Derived.Test.YteefdhgfcnjpoaaQCaPAx13
import Derived.Test.YteefdhgfcnjpoaaQCaPAx14
import Derived.Test.YteefdhgfcnjpoaaQCaPureD
namespace Go.Proofs.Yteefdhgfcnjpoaa.Pure
open Go.RowKit Go.Proofs.Yteefdhgfcnjpoaa.PA Go.Proofs.YteefdhgfcnjpoaaW.PrintWords Go.Proofs.YteefdhgfcnjpoaaW.PrintLast
set_option linter.unusedVariables false
set_option linter.unusedSimpArgs false

theorem known_ev : Ev (fun k => drayagelaw14_known.f k) true :=
  Ev.of (fun k => drayagelaw14_known.mono k) (k := 60) (by decide +kernel)

theorem long_l0 (l : List S38) (hl : l.length ≤ 9223372036854775807) : ∀ (d i : Nat), i + d = l.length → ∃ b, ∀ k, 2 * d + 2 ≤ k → drayagelaw14_long.l0 k l (i : Int) = some b := by
  intro d
  induction d with
  | zero =>
    intro i hi
    refine ⟨decide ((l.length : Int) > 60), fun k hk => ?_⟩
    obtain ⟨k, rfl⟩ : ∃ m, k = m + 2 := ⟨k - 2, by omega⟩
    simp only [drayagelaw14_long.l0, drayagelaw14_long.j1]
    rw [if_neg (by omega)]; rfl
  | succ d ih =>
    intro i hi
    obtain ⟨b, hb⟩ := ih (i + 1) (by omega)
    have hw : wrap64 ((i : Int) + 1) = ((i + 1 : Nat) : Int) := by rw [wrap_id (by omega) (by omega)]; omega
    by_cases h1 : (i : Int) < 100
    · by_cases h2 : (((rd_T38 l (i : Int)).f0.f2).length : Int) > 500
      · refine ⟨true, fun k hk => ?_⟩
        obtain ⟨k, rfl⟩ : ∃ m, k = m + 2 := ⟨k - 2, by omega⟩
        simp only [drayagelaw14_long.l0, drayagelaw14_long.j1]
        rw [if_pos (by omega), decide_eq_true h1, if_pos rfl, if_pos (by omega), if_pos (by omega), if_pos h2]
      · refine ⟨b, fun k hk => ?_⟩
        obtain ⟨k, rfl⟩ : ∃ m, k = m + 2 := ⟨k - 2, by omega⟩
        simp only [drayagelaw14_long.l0, drayagelaw14_long.j1]
        rw [if_pos (by omega), decide_eq_true h1, if_pos rfl, if_pos (by omega), if_pos (by omega), if_neg h2, hw]
        exact hb k (by omega)
    · refine ⟨decide ((l.length : Int) > 60), fun k hk => ?_⟩
      obtain ⟨k, rfl⟩ : ∃ m, k = m + 2 := ⟨k - 2, by omega⟩
      simp only [drayagelaw14_long.l0, drayagelaw14_long.j1]
      rw [if_pos (by omega), decide_eq_false h1, if_neg (by decide)]
theorem long_ev (l : List S38) (hl : l.length ≤ 9223372036854775807) : ∃ b, Ev (fun k => drayagelaw14_long.f k l) b := by
  obtain ⟨b, hb⟩ := long_l0 l hl l.length 0 (by omega)
  exact ⟨b, 2 * l.length + 2, fun k hk => hb k hk⟩

/-! ### what can be read as data is in bounds -/
def wf64 (n : Int) : Prop := (Lit.int .i64 n).wf = true
def Q38 (x : S38) : Prop := (wf64 x.f0.f0 ∧ wf64 x.f0.f1 ∧ x.f0.f2.length ≤ maxLen ∧ ∀ c ∈ x.f0.f2, (Lit.int .u8 c).wf = true) ∧ wf64 x.f1 ∧ wf64 x.f2 ∧ True
theorem planW_of (l : List S38) (h : l.length ≤ maxLen ∧ ∀ x ∈ l, Q38 x) : planW l := by
  obtain ⟨h0, h1⟩ := h
  refine ⟨fun s hs => ?_, by unfold maxLen at h0; omega⟩
  obtain ⟨⟨_, _, a, b⟩, _⟩ := h1 s hs
  refine ⟨fun c hc => ?_, by unfold maxLen at a; omega⟩
  have := b c hc
  simp [Lit.wf] at this
  have e1 : IntKind.u8.min = 0 := by decide
  have e2 : IntKind.u8.max = 255 := by decide
  rw [e1, e2] at this
  exact this

end Go.Proofs.Yteefdhgfcnjpoaa.Pure
