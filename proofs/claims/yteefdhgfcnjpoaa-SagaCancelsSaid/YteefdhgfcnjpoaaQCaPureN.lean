/- Plain laws on the mirror of chapter 14's functions, part N: the law SagaCancels. -/
import Derived.Test.YteefdhgfcnjpoaaQCaPAx5
import Derived.Test.YteefdhgfcnjpoaaQCaPAx25
import Derived.Test.YteefdhgfcnjpoaaQCaPAx0
import Derived.Test.YteefdhgfcnjpoaaQCaPAx3
import Derived.Test.YteefdhgfcnjpoaaQCaPAx8
import Derived.Test.YteefdhgfcnjpoaaQCaPAx9
import Derived.Test.YteefdhgfcnjpoaaQCaPAx13
import Derived.Test.YteefdhgfcnjpoaaQCaPAx16
import Derived.Test.YteefdhgfcnjpoaaQCaPAx1
import Derived.Test.YteefdhgfcnjpoaaQCaPAx2
import Derived.Test.YteefdhgfcnjpoaaQCaPureI
namespace Go.Proofs.Yteefdhgfcnjpoaa.Pure
open Go.RowKit Go.Proofs.Yteefdhgfcnjpoaa.PA Go.Proofs.YteefdhgfcnjpoaaW.PrintWords Go.Proofs.YteefdhgfcnjpoaaW.PrintLast Go.Proofs.YteefdhgfcnjpoaaW.PrintMore
set_option linter.unusedVariables false
set_option linter.unusedSimpArgs false
set_option linter.unusedSectionVars false

/-- an order that was cancelled at step i -/
def Gone (i : Int) (t : Sg) : Prop := (t.ph = 1 → t.ca = true ∧ t.st = i) ∧ (t.ph = 3 → t.co ≠ 1)
theorem gone_back (l : List S38) (i j : Int) : Gone i (backS l j) := by
  unfold backS
  cases lastB l (j + 1).toNat with
  | none => exact ⟨fun e => by simp [backO] at e, fun _ => by simp [backO]⟩
  | some n => exact ⟨fun e => by simp [backO] at e, fun e => by simp [backO] at e⟩
theorem gone_tell {l : List S38} {s : Sg} (V : Val l s) (i : Int) (G : Gone i s) (step : Int) (undo : Bool) (code : Int) : Gone i (tellG l s step undo code) := by
  unfold tellG
  by_cases h : s.as_ = false ∨ ¬ step = s.st ∨ undo ≠ (s.ph == 2)
  · rw [if_pos h]; exact G
  · rw [if_neg h]
    have ha : s.as_ = true := by cases hs : s.as_ with | true => rfl | false => exact absurd (.inl hs) h
    have h3 : s.ph ≠ 3 := fun e => by have := (V.over e).2.2.2.2.2.1; rw [ha] at this; exact absurd this (by decide)
    obtain ⟨hp, _⟩ := V.goes h3
    have hu : undo = (s.ph == 2) := Decidable.byContradiction fun e => h (.inr (.inr e))
    by_cases h2 : s.ph = 2
    · rw [hu, if_pos (by simp [h2])]
      unfold undoS
      split
      · exact gone_back l i _
      · split
        · exact ⟨fun e => by simp at e, fun _ => by simp⟩
        · exact ⟨fun e => absurd (show s.ph = 1 from e) (by omega), fun e => absurd (show s.ph = 3 from e) h3⟩
    · have h1 : s.ph = 1 := by omega
      have hc := G.1 h1
      rw [hu, if_neg (by simp [h2])]
      unfold forwS
      split
      · exact gone_back l i _
      · rw [if_neg (fun e => by rw [hc.1] at e; exact absurd e.2.1 (by decide)), if_pos (.inr hc.1)]
        exact gone_back l i _
theorem gone_canc {l : List S38} {s : Sg} (i : Int) (G : s.ph = 1 → s.st = i) (G3 : s.ph = 3 → s.co ≠ 1) : Gone i (cancG l s) := by
  unfold cancG
  by_cases h1 : s.ph = 1
  · rw [if_pos h1]
    split
    · exact ⟨fun _ => ⟨rfl, G h1⟩, fun e => absurd (show s.ph = 3 from e) (by omega)⟩
    · split
      · exact gone_back l i _
      · exact gone_back l i _
  · rw [if_neg h1]
    exact ⟨fun e => absurd e h1, G3⟩
theorem canc_twice (l : List S38) (s : Sg) : cancG l (cancG l s) = cancG l s := by
  have hB : ∀ j, cancG l (backS l j) = backS l j := fun j => by
    have := back_ph l j
    unfold cancG
    rw [if_neg (by omega)]
  by_cases h1 : s.ph = 1
  · cases hs : s.as_ with
    | true =>
      have e : cancG l s = { s with ca := true } := by unfold cancG; rw [if_pos h1, if_pos hs]
      rw [e]
      unfold cancG
      rw [if_pos (by exact h1), if_pos (by exact hs)]
    | false =>
      by_cases h2 : s.tr > 0
      · have e : cancG l s = backS l s.st := by unfold cancG; rw [if_pos h1, if_neg (by rw [hs]; decide), if_pos h2]
        rw [e, hB]
      · have e : cancG l s = backS l (s.st - 1) := by unfold cancG; rw [if_pos h1, if_neg (by rw [hs]; decide), if_neg h2]
        rw [e, hB]
  · have e : cancG l s = s := by unfold cancG; rw [if_neg h1]
    rw [e, e]
theorem gone_happ {l : List S38} {s : Sg} (V : Val l s) (i : Int) (G : Gone i s) (x : S54) : Gone i (happG l s x) := by
  unfold happG
  by_cases h1 : x.f0 = 0 ∨ x.f0 = 1
  · rw [if_pos h1]
    split
    · exact G
    · exact G
  · rw [if_neg h1]
    by_cases h2 : x.f0 = 2 ∨ x.f0 = 3 ∨ x.f0 = 4
    · rw [if_pos h2]; exact gone_tell V i G _ _ _
    · rw [if_neg h2]
      by_cases h3 : x.f0 = 5
      · rw [if_pos h3]
        unfold tickG
        split
        · split
          · exact gone_tell V i G _ _ _
          · exact G
        · exact G
      · rw [if_neg h3]
        by_cases h4 : x.f0 = 6
        · rw [if_pos h4]; exact gone_canc i (fun e => (G.1 e).2) G.2
        · rw [if_neg h4]; exact gone_tell V i G _ _ _
theorem canc_l1 (l : List S38) (h : planW l) (l2 : List S54) (hl : l2.length ≤ 9223372036854775807) (s : Sg) : ∀ (d i : Nat) (a : Sg), i + d = 100 → Val l a → Gone s.st a →
    Ev (fun k => drayagelaw14_SagaCancels.l1 k l l2 (i : Int) s.ph s.st s.tr s.as_ s.le s.ca s.co a.ph a.st a.tr a.as_ a.le a.ca a.co) true := by
  obtain ⟨K0, h0⟩ := known_ev
  intro d
  induction d with
  | zero =>
    intro i a hi V G
    refine ⟨K0 + 2, fun k hk => ?_⟩
    obtain ⟨k, rfl⟩ : ∃ m, k = m + 2 := ⟨k - 2, by omega⟩
    have g0 := h0 k (by omega)
    dsimp only at g0 ⊢
    have e : decide ((i : Int) < 100) = false := by simp; omega
    rw [drayagelaw14_SagaCancels.l1, e, ite_self, drayagelaw14_SagaCancels.j6, if_neg (by decide), g0]
    rfl
  | succ d ih =>
    intro i a hi V G
    by_cases hin : i < l2.length
    · obtain ⟨K1, h1⟩ := happ_ev l h a V (rd_T54 l2 (i : Int))
      have V2 := val_happ V (rd_T54 l2 (i : Int))
      have G2 := gone_happ V s.st G (rd_T54 l2 (i : Int))
      generalize ht : happG l a (rd_T54 l2 (i : Int)) = t at *
      obtain ⟨K3, h3⟩ := ih (i + 1) t (by omega) V2 G2
      refine ⟨K1 + K3 + 2, fun k hk => ?_⟩
      obtain ⟨k, rfl⟩ : ∃ m, k = m + 2 := ⟨k - 2, by omega⟩
      have g1 := h1 k (by omega)
      have g3 := h3 k (by omega)
      clear h1 h3 ih
      dsimp only at g1 g3 ⊢
      rw [drayagelaw14_SagaCancels.l1, if_pos (by omega), decide_eq_true (by omega), drayagelaw14_SagaCancels.j6, if_pos rfl, if_pos (by omega), if_pos (by omega), g1, Option.bind_some]
      simp only [resb, ↓reduceIte]
      rw [wrap_id (i := (i : Int) + 1) (by omega) (by omega)]
      by_cases e3 : t.ph = 3
      · have := G2.2 e3
        rw [if_pos e3, if_neg this, if_neg (by omega)]
        exact g3
      · rw [if_neg e3]
        by_cases e1 : t.ph = 1
        · obtain ⟨c1, c2⟩ := G2.1 e1
          rw [if_pos e1, if_pos c1, if_pos c2]
          exact g3
        · rw [if_neg e1]
          exact g3
    · refine ⟨K0 + 2, fun k hk => ?_⟩
      obtain ⟨k, rfl⟩ : ∃ m, k = m + 2 := ⟨k - 2, by omega⟩
      have g0 := h0 k (by omega)
      dsimp only at g0 ⊢
      rw [drayagelaw14_SagaCancels.l1, if_neg (by omega), drayagelaw14_SagaCancels.j6, if_neg (by decide), g0]
      rfl
/-- behind the first events -/
theorem canc_mid (l : List S38) (h : planW l) (l1 l2 : List S54) (hl : l2.length ≤ 9223372036854775807) (s : Sg) (V : Val l s) (x10 : Int) :
    Ev (fun k => drayagelaw14_SagaCancels.j3 k l l1 l2 x10 false s.ph s.st s.tr s.as_ s.le s.ca s.co) true := by
  obtain ⟨K0, h0⟩ := known_ev
  by_cases h3 : s.ph = 3
  · refine ⟨K0 + 1, fun k hk => ?_⟩
    obtain ⟨k, rfl⟩ : ∃ m, k = m + 1 := ⟨k - 1, by omega⟩
    have g0 := h0 k (by omega)
    dsimp only at g0 ⊢
    rw [drayagelaw14_SagaCancels.j3, if_neg (by decide), if_pos h3, g0]
    rfl
  · obtain ⟨K1, h1⟩ := canc_ev l h s
    rw [cancS_eq V] at h1
    have Va := val_canc V
    have Ga : Gone s.st (cancG l s) := gone_canc s.st (fun _ => rfl) (fun e => absurd e h3)
    have tw := canc_twice l s
    obtain ⟨K2, h2⟩ := canc_ev l h (cancG l s)
    rw [cancS_eq Va, tw] at h2
    generalize cancG l s = a at *
    obtain ⟨K4, h4⟩ := canc_l1 l h l2 hl s 100 0 a (by omega) Va Ga
    refine ⟨K1 + K2 + K4 + 2, fun k hk => ?_⟩
    obtain ⟨k, rfl⟩ : ∃ m, k = m + 2 := ⟨k - 2, by omega⟩
    have g1 := h1 (k + 1) (by omega)
    have g2 := h2 (k + 1) (by omega)
    have g4 := h4 k (by omega)
    clear h0 h1 h2 h4
    dsimp only at g1 g2 g4 ⊢
    have J4 : drayagelaw14_SagaCancels.j4 (k + 1) l l2 false s.ph s.st s.tr s.as_ s.le s.ca s.co a.ph a.st a.tr a.as_ a.le a.ca a.co = some true := by
      rw [drayagelaw14_SagaCancels.j4, if_neg (by decide)]
      exact g4
    rw [drayagelaw14_SagaCancels.j3, if_neg (by decide), if_neg h3, g1, Option.bind_some]
    simp only [res8] at g2 ⊢
    rw [g2, Option.bind_some]
    simpa using J4
theorem canc_l0 (l : List S38) (h : planW l) (l1 l2 : List S54) (hl1 : l1.length ≤ 9223372036854775807) (hl : l2.length ≤ 9223372036854775807) : ∀ (d i : Nat) (s : Sg), i + d = 60 → Val l s →
    Ev (fun k => drayagelaw14_SagaCancels.l0 k l l1 l2 (i : Int) s.ph s.st s.tr s.as_ s.le s.ca s.co) true := by
  intro d
  induction d with
  | zero =>
    intro i s hi V
    obtain ⟨K1, h1⟩ := canc_mid l h l1 l2 hl s V (i : Int)
    refine ⟨K1 + 1, fun k hk => ?_⟩
    obtain ⟨k, rfl⟩ : ∃ m, k = m + 1 := ⟨k - 1, by omega⟩
    have g1 := h1 k (by omega)
    dsimp only at g1 ⊢
    have e : decide ((i : Int) < 60) = false := by simp; omega
    rw [drayagelaw14_SagaCancels.l0, e, ite_self]
    exact g1
  | succ d ih =>
    intro i s hi V
    by_cases hin : i < l1.length
    · obtain ⟨K1, h1⟩ := happ_ev l h s V (rd_T54 l1 (i : Int))
      have V2 := val_happ V (rd_T54 l1 (i : Int))
      generalize ht : happG l s (rd_T54 l1 (i : Int)) = t at *
      obtain ⟨K3, h3⟩ := ih (i + 1) t (by omega) V2
      refine ⟨K1 + K3 + 2, fun k hk => ?_⟩
      obtain ⟨k, rfl⟩ : ∃ m, k = m + 2 := ⟨k - 2, by omega⟩
      have g1 := h1 k (by omega)
      have g3 := h3 k (by omega)
      clear h1 h3 ih
      dsimp only at g1 g3 ⊢
      rw [drayagelaw14_SagaCancels.l0, if_pos (by omega), decide_eq_true (by omega), drayagelaw14_SagaCancels.j3, if_pos rfl, if_pos (by omega), if_pos (by omega), g1, Option.bind_some]
      simp only [resb, ↓reduceIte]
      rw [wrap_id (i := (i : Int) + 1) (by omega) (by omega)]
      exact g3
    · obtain ⟨K1, h1⟩ := canc_mid l h l1 l2 hl s V (i : Int)
      refine ⟨K1 + 1, fun k hk => ?_⟩
      obtain ⟨k, rfl⟩ : ∃ m, k = m + 1 := ⟨k - 1, by omega⟩
      have g1 := h1 k (by omega)
      dsimp only at g1 ⊢
      rw [drayagelaw14_SagaCancels.l0, if_neg (by omega)]
      exact g1
theorem cancels (l : List S38) (h : planW l) (l1 l2 : List S54) (hl1 : l1.length ≤ 9223372036854775807) (hl : l2.length ≤ 9223372036854775807) : Ev (fun k => drayagelaw14_SagaCancels.f k l l1 l2) true := by
  obtain ⟨b, K0, h0⟩ := long_ev l h.2
  obtain ⟨K1, h1⟩ := known_ev
  obtain ⟨K2, h2⟩ := ref_check l h
  by_cases hb : planB l = true
  · have V := val_start hb
    obtain ⟨K3, h3⟩ := canc_l0 l h l1 l2 hl1 hl 60 0 _ (by omega) V
    obtain ⟨K4, h4⟩ := canc_ev l h ⟨1, 0, 0, false, 0, false, 0⟩
    have e : cancG l ⟨1, 0, 0, false, 0, false, 0⟩ = ⟨3, 0, 0, false, 0, false, 2⟩ := by
      simp [cancG, backS, lastB, backO]
    rw [cancS_eq V, e] at h4
    refine ⟨K0 + K1 + K2 + K3 + K4 + 3, fun k hk => ?_⟩
    obtain ⟨k, rfl⟩ : ∃ m, k = m + 2 := ⟨k - 2, by omega⟩
    have g0 := h0 (k + 2) (by omega)
    have g1 := h1 (k + 1) (by omega)
    have g2 := h2 (k + 2) (by omega)
    have g3 := h3 k (by omega)
    have g4 := h4 (k + 1) (by omega)
    clear h0 h1 h2 h3 h4
    dsimp only at g0 g1 g2 g3 g4 ⊢
    rw [if_pos hb] at g2
    have J1 : drayagelaw14_SagaCancels.j1 (k + 1) l l1 l2 false = some true := by
      rw [drayagelaw14_SagaCancels.j1, if_neg (by decide)]
      exact g3
    unfold drayagelaw14_SagaCancels.f
    rw [g0, Option.bind_some]
    cases b with
    | true => rw [if_pos rfl, drayagelaw14_SagaCancels.j0, if_pos rfl, g1]; rfl
    | false =>
      rw [if_neg (by decide), g2, Option.bind_some, drayagelaw14_SagaCancels.j0, if_neg (by decide), show saga_Start.f = some (1, 0, 0, false, 0, false, 0) from rfl, Option.bind_some]
      dsimp only
      rw [g4, Option.bind_some]
      simpa [res8] using J1
  · refine ⟨K0 + K1 + K2 + 2, fun k hk => ?_⟩
    obtain ⟨k, rfl⟩ : ∃ m, k = m + 1 := ⟨k - 1, by omega⟩
    have g0 := h0 (k + 1) (by omega)
    have g1 := h1 k (by omega)
    have g2 := h2 (k + 1) (by omega)
    clear h0 h1 h2
    dsimp only at g0 g1 g2 ⊢
    rw [if_neg hb] at g2
    unfold drayagelaw14_SagaCancels.f
    rw [g0, Option.bind_some]
    cases b with
    | true => rw [if_pos rfl, drayagelaw14_SagaCancels.j0, if_pos rfl, g1]; rfl
    | false => rw [if_neg (by decide), g2, Option.bind_some, drayagelaw14_SagaCancels.j0, if_pos (by decide), g1]; rfl
theorem SagaCancels (x0 : List S38) (x1 x2 : List S54) (w0 : x0.length ≤ maxLen ∧ ∀ x ∈ x0, Q38 x) (w1 : x1.length ≤ maxLen ∧ ∀ x ∈ x1, wf64 x.f0 ∧ wf64 x.f1 ∧ wf64 x.f2) (w2 : x2.length ≤ maxLen ∧ ∀ x ∈ x2, wf64 x.f0 ∧ wf64 x.f1 ∧ wf64 x.f2) :
    Ev (fun k => drayagelaw14_SagaCancels.f k x0 x1 x2) true :=
  cancels x0 (planW_of x0 w0) x1 x2 (by have := w1.1; unfold maxLen at this; omega) (by have := w2.1; unfold maxLen at this; omega)
end Go.Proofs.Yteefdhgfcnjpoaa.Pure
