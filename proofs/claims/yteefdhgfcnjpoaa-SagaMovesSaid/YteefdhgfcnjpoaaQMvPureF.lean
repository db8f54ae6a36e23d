/- Plain laws on the mirror of chapter 14's functions, part F: known, long, and the law SagaMoves. -/
import Derived.Test.YteefdhgfcnjpoaaQMvPAx3
import Derived.Test.YteefdhgfcnjpoaaQMvPAx9
import Derived.Test.YteefdhgfcnjpoaaQMvPAx15
import Derived.Test.YteefdhgfcnjpoaaQMvPureE
namespace Go.Proofs.Yteefdhgfcnjpoaa.Pure
open Go.RowKit Go.Proofs.Yteefdhgfcnjpoaa.PA Go.Proofs.YteefdhgfcnjpoaaW.PrintWords Go.Proofs.YteefdhgfcnjpoaaW.PrintLast
set_option linter.unusedVariables false
set_option linter.unusedSimpArgs false

theorem known_ev : Ev (fun k => drayagelaw14_known.f k) true :=
  Ev.of (fun k => drayagelaw14_known.mono k) (k := 60) (by decide +kernel)

theorem long_l0 (l : List S38) (hl : l.length ≤ 9223372036854775807) : ∀ (d i : Nat), i + d = l.length → ∃ b, ∀ k, 2 * d + 2 ≤ k → drayagelaw14_long.l0 k l (i : Int) = some b := by
  intro d
  induction d with
  | zero =>
    intro i hi
    refine ⟨decide ((l.length : Int) > 60), fun k hk => ?_⟩
    obtain ⟨k, rfl⟩ : ∃ m, k = m + 2 := ⟨k - 2, by omega⟩
    simp only [drayagelaw14_long.l0, drayagelaw14_long.j1]
    rw [if_neg (by omega)]; rfl
  | succ d ih =>
    intro i hi
    obtain ⟨b, hb⟩ := ih (i + 1) (by omega)
    have hw : wrap64 ((i : Int) + 1) = ((i + 1 : Nat) : Int) := by rw [wrap_id (by omega) (by omega)]; omega
    by_cases h1 : (i : Int) < 100
    · by_cases h2 : (((rd_T38 l (i : Int)).f0.f2).length : Int) > 500
      · refine ⟨true, fun k hk => ?_⟩
        obtain ⟨k, rfl⟩ : ∃ m, k = m + 2 := ⟨k - 2, by omega⟩
        simp only [drayagelaw14_long.l0, drayagelaw14_long.j1]
        rw [if_pos (by omega), decide_eq_true h1, if_pos rfl, if_pos (by omega), if_pos (by omega), if_pos h2]
      · refine ⟨b, fun k hk => ?_⟩
        obtain ⟨k, rfl⟩ : ∃ m, k = m + 2 := ⟨k - 2, by omega⟩
        simp only [drayagelaw14_long.l0, drayagelaw14_long.j1]
        rw [if_pos (by omega), decide_eq_true h1, if_pos rfl, if_pos (by omega), if_pos (by omega), if_neg h2, hw]
        exact hb k (by omega)
    · refine ⟨decide ((l.length : Int) > 60), fun k hk => ?_⟩
      obtain ⟨k, rfl⟩ : ∃ m, k = m + 2 := ⟨k - 2, by omega⟩
      simp only [drayagelaw14_long.l0, drayagelaw14_long.j1]
      rw [if_pos (by omega), decide_eq_false h1, if_neg (by decide)]
theorem long_ev (l : List S38) (hl : l.length ≤ 9223372036854775807) : ∃ b, Ev (fun k => drayagelaw14_long.f k l) b := by
  obtain ⟨b, hb⟩ := long_l0 l hl l.length 0 (by omega)
  exact ⟨b, 2 * l.length + 2, fun k hk => hb k hk⟩

/-- the law SagaMoves -/
theorem moves (l : List S38) (h : planW l) (s : Sg) (step : Int) (undo : Bool) (code : Int) : Ev (fun k => drayagelaw14_SagaMoves.f k l s.ph s.st s.tr s.as_ s.le s.ca s.co step undo code) true := by
  obtain ⟨b, K0, h0⟩ := long_ev l h.2
  obtain ⟨K1, h1⟩ := known_ev
  obtain ⟨K2, h2⟩ := next_ev l h s
  obtain ⟨K3, h3⟩ := ref_next_ev l h s
  obtain ⟨K4, h4⟩ := ask_ev l h s
  obtain ⟨K5, h5⟩ := ref_ask_ev l h s
  obtain ⟨K6, h6⟩ := tell_ev l h s step undo code
  obtain ⟨K7, h7⟩ := ref_tell_ev l h s step undo code
  obtain ⟨K8, h8⟩ := tick_ev l h s
  obtain ⟨K9, h9⟩ := ref_tick_ev l h s
  obtain ⟨K10, h10⟩ := canc_ev l h s
  obtain ⟨K11, h11⟩ := ref_canc_ev l h s
  obtain ⟨K12, h12⟩ := saga_check l h s
  obtain ⟨K13, h13⟩ := ref_st_check l h s
  refine ⟨K0 + K1 + K2 + K3 + K4 + K5 + K6 + K7 + K8 + K9 + K10 + K11 + K12 + K13, fun k hk => ?_⟩
  have g0 := h0 k (by omega)
  have g1 := h1 k (by omega)
  have g2 := h2 k (by omega)
  have g3 := h3 k (by omega)
  have g4 := h4 k (by omega)
  have g5 := h5 k (by omega)
  have g6 := h6 k (by omega)
  have g7 := h7 k (by omega)
  have g8 := h8 k (by omega)
  have g9 := h9 k (by omega)
  have g10 := h10 k (by omega)
  have g11 := h11 k (by omega)
  have g12 := h12 k (by omega)
  have g13 := h13 k (by omega)
  clear h0 h1 h2 h3 h4 h5 h6 h7 h8 h9 h10 h11 h12 h13
  show drayagelaw14_SagaMoves.f k l s.ph s.st s.tr s.as_ s.le s.ca s.co step undo code = _
  dsimp only at *
  unfold drayagelaw14_SagaMoves.f
  rw [g0, Option.bind_some]
  cases b with
  | true => rw [if_pos rfl, g1]; rfl
  | false =>
    rw [if_neg (by decide), g2, Option.bind_some, g3, Option.bind_some, g4, Option.bind_some, g5, Option.bind_some, g6, Option.bind_some, g7, Option.bind_some, g8, Option.bind_some, g9, Option.bind_some, g10, Option.bind_some, g11, Option.bind_some, g12, Option.bind_some, g13, Option.bind_some, g1]
    simp

/-! ### what can be read as data is in bounds -/
def wf64 (n : Int) : Prop := (Lit.int .i64 n).wf = true
def Q38 (x : S38) : Prop := (wf64 x.f0.f0 ∧ wf64 x.f0.f1 ∧ x.f0.f2.length ≤ maxLen ∧ ∀ c ∈ x.f0.f2, (Lit.int .u8 c).wf = true) ∧ wf64 x.f1 ∧ wf64 x.f2 ∧ True
theorem planW_of (l : List S38) (h : l.length ≤ maxLen ∧ ∀ x ∈ l, Q38 x) : planW l := by
  obtain ⟨h0, h1⟩ := h
  refine ⟨fun s hs => ?_, by unfold maxLen at h0; omega⟩
  obtain ⟨⟨_, _, a, b⟩, _⟩ := h1 s hs
  refine ⟨fun c hc => ?_, by unfold maxLen at a; omega⟩
  have := b c hc
  simp [Lit.wf] at this
  have e1 : IntKind.u8.min = 0 := by decide
  have e2 : IntKind.u8.max = 255 := by decide
  rw [e1, e2] at this
  exact this

theorem SagaMoves (x0 : List S38) (x1 : Int × Int × Int × Bool × Int × Bool × Int) (a2 : Int) (a3 : Bool) (a4 : Int) (w0 : x0.length ≤ maxLen ∧ ∀ x ∈ x0, Q38 x) (w1 : wf64 x1.1 ∧ wf64 x1.2.1 ∧ wf64 x1.2.2.1 ∧ True ∧ wf64 x1.2.2.2.2.1 ∧ True ∧ wf64 x1.2.2.2.2.2.2) (w2 : wf64 a2) (w4 : wf64 a4) :
    Ev (fun k => drayagelaw14_SagaMoves.f k x0 x1.1 x1.2.1 x1.2.2.1 x1.2.2.2.1 x1.2.2.2.2.1 x1.2.2.2.2.2.1 x1.2.2.2.2.2.2 a2 a3 a4) true :=
  moves x0 (planW_of x0 w0) ⟨x1.1, x1.2.1, x1.2.2.1, x1.2.2.2.1, x1.2.2.2.2.1, x1.2.2.2.2.2.1, x1.2.2.2.2.2.2⟩ a2 a3 a4
end Go.Proofs.Yteefdhgfcnjpoaa.Pure
