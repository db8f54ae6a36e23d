/- Plain laws on the mirror of chapter 14's functions, part I: the law SagaStays. -/
import Derived.Test.YteefdhgfcnjpoaaQStPAx17
import Derived.Test.YteefdhgfcnjpoaaQStPureH
namespace Go.Proofs.Yteefdhgfcnjpoaa.Pure
open Go.RowKit Go.Proofs.Yteefdhgfcnjpoaa.PA Go.Proofs.YteefdhgfcnjpoaaW.PrintWords Go.Proofs.YteefdhgfcnjpoaaW.PrintLast
set_option linter.unusedVariables false
set_option linter.unusedSimpArgs false

theorem back_ph (l : List S38) (i : Int) : 2 ≤ (backS l i).ph ∧ (backS l i).ph ≤ 3 := by
  unfold backS
  cases lastB l (i + 1).toNat <;> simp [backO]
theorem tell_ph {l : List S38} {s : Sg} (V : Val l s) (step : Int) (undo : Bool) (code : Int) : s.ph ≤ (tellG l s step undo code).ph := by
  unfold tellG
  by_cases h : s.as_ = false ∨ ¬ step = s.st ∨ undo ≠ (s.ph == 2)
  · rw [if_pos h]; exact Int.le_refl _
  · rw [if_neg h]
    have ha : s.as_ = true := by cases hs : s.as_ with | true => rfl | false => exact absurd (.inl hs) h
    have h3 : s.ph ≠ 3 := fun e => by have := (V.over e).2.2.2.2.2.1; rw [ha] at this; exact absurd this (by decide)
    obtain ⟨hp, _⟩ := V.goes h3
    have hu : undo = (s.ph == 2) := Decidable.byContradiction fun e => h (.inr (.inr e))
    by_cases h2 : s.ph = 2
    · rw [hu, if_pos (by simp [h2])]
      unfold undoS
      have hb := back_ph l (s.st - 1)
      split
      · omega
      · split
        · show s.ph ≤ 3; omega
        · exact Int.le_refl _
    · rw [hu, if_neg (by simp [h2])]
      unfold forwS
      have hb := back_ph l (s.st - 1)
      have hb2 := back_ph l s.st
      repeat' split
      all_goals first | omega | exact Int.le_refl _ | (show s.ph ≤ 3; omega) | (show s.ph ≤ 1; omega)
theorem tell_over {l : List S38} {s : Sg} (V : Val l s) (h3 : s.ph = 3) (step : Int) (undo : Bool) (code : Int) : tellG l s step undo code = s := by
  unfold tellG
  rw [if_pos (.inl (V.over h3).2.2.2.2.2.1)]
theorem tick_ph {l : List S38} {s : Sg} (V : Val l s) : s.ph ≤ (tickG l s).ph := by
  unfold tickG
  split
  · split
    · exact tell_ph V _ _ _
    · exact Int.le_refl _
  · exact Int.le_refl _
theorem canc_ph {l : List S38} {s : Sg} (V : Val l s) : s.ph ≤ (cancG l s).ph := by
  unfold cancG
  have hb := back_ph l (s.st - 1)
  have hb2 := back_ph l s.st
  repeat' split
  all_goals first | omega | exact Int.le_refl _
theorem happ_ph {l : List S38} {s : Sg} (V : Val l s) (x : S54) : s.ph ≤ (happG l s x).ph := by
  unfold happG
  by_cases h1 : x.f0 = 0 ∨ x.f0 = 1
  · rw [if_pos h1]
    split
    · exact Int.le_refl _
    · exact Int.le_refl _
  · rw [if_neg h1]
    by_cases h2 : x.f0 = 2 ∨ x.f0 = 3 ∨ x.f0 = 4
    · rw [if_pos h2]; exact tell_ph V _ _ _
    · rw [if_neg h2]
      by_cases h3 : x.f0 = 5
      · rw [if_pos h3]; exact tick_ph V
      · rw [if_neg h3]
        by_cases h4 : x.f0 = 6
        · rw [if_pos h4]; exact canc_ph V
        · rw [if_neg h4]; exact tell_ph V _ _ _
theorem happ_over {l : List S38} {s : Sg} (V : Val l s) (h3 : s.ph = 3) (x : S54) : happG l s x = s := by
  unfold happG
  by_cases h1 : x.f0 = 0 ∨ x.f0 = 1
  · rw [if_pos h1, if_neg (fun e => e.1 h3)]
  · rw [if_neg h1]
    by_cases h2 : x.f0 = 2 ∨ x.f0 = 3 ∨ x.f0 = 4
    · rw [if_pos h2]; exact tell_over V h3 _ _ _
    · rw [if_neg h2]
      by_cases h5 : x.f0 = 5
      · rw [if_pos h5]
        unfold tickG
        rw [if_neg (by rw [(V.over h3).2.2.2.2.2.1]; decide)]
      · rw [if_neg h5]
        by_cases h4 : x.f0 = 6
        · rw [if_pos h4]; unfold cancG; rw [if_neg (by omega)]
        · rw [if_neg h4]; exact tell_over V h3 _ _ _
theorem stays_j3 (l : List S38) (l1 : List S54) (i : Nat) (hi : i < 9223372036854775807) (s : Sg) (V : Val l s) (k : Nat) (r : Bool)
    (e : drayagelaw14_SagaStays.l0 k l l1 ((i + 1 : Nat) : Int) s.ph s.st s.tr s.as_ s.le s.ca s.co = some r) :
    drayagelaw14_SagaStays.j3 (k + 1) l l1 (i : Int) false s.ph s.st s.tr s.as_ s.le s.ca s.co = some r := by
  unfold drayagelaw14_SagaStays.j3
  rw [if_neg (by decide), wrap_id (i := (i : Int) + 1) (by omega) (by omega)]
  by_cases h : s.ph < 3
  · obtain ⟨_, a, b, _⟩ := V.goes (by omega)
    have := V.tr_le (by omega)
    rw [if_pos h, if_pos a, if_pos b, if_neg (by omega)]
    exact e
  · rw [if_neg h]
    exact e
theorem stays_l0 (l : List S38) (h : planW l) (l1 : List S54) (hl : l1.length ≤ 9223372036854775807) : ∀ (d i : Nat) (s : Sg), i + d = 150 → Val l s →
    Ev (fun k => drayagelaw14_SagaStays.l0 k l l1 (i : Int) s.ph s.st s.tr s.as_ s.le s.ca s.co) true := by
  obtain ⟨K0, h0⟩ := known_ev
  intro d
  induction d with
  | zero =>
    intro i s hi V
    refine ⟨K0 + 3, fun k hk => ?_⟩
    obtain ⟨k, rfl⟩ : ∃ m, k = m + 2 := ⟨k - 2, by omega⟩
    have g0 := h0 k (by omega)
    dsimp only at g0 ⊢
    unfold drayagelaw14_SagaStays.l0
    have e : decide ((i : Int) < 150) = false := by simp; omega
    rw [e, ite_self]
    unfold drayagelaw14_SagaStays.j2
    rw [if_neg (by decide), g0]
    rfl
  | succ d ih =>
    intro i s hi V
    by_cases hin : i < l1.length
    · obtain ⟨K1, h1⟩ := happ_ev l h s V (rd_T54 l1 (i : Int))
      have V2 := val_happ V (rd_T54 l1 (i : Int))
      have hp := happ_ph V (rd_T54 l1 (i : Int))
      have ho := fun e => happ_over V e (rd_T54 l1 (i : Int))
      generalize ht : happG l s (rd_T54 l1 (i : Int)) = t at *
      obtain ⟨K2, h2⟩ := saga_check l h t
      obtain ⟨K3, h3⟩ := ih (i + 1) t (by omega) V2
      refine ⟨K1 + K2 + K3 + 4, fun k hk => ?_⟩
      obtain ⟨k, rfl⟩ : ∃ m, k = m + 3 := ⟨k - 3, by omega⟩
      have g1 := h1 (k + 1) (by omega)
      have g2 := h2 (k + 1) (by omega)
      have g3 := h3 k (by omega)
      clear h0 h1 h2 h3 ih
      dsimp only at g1 g2 g3
      show drayagelaw14_SagaStays.l0 (k + 3) l l1 (i : Int) s.ph s.st s.tr s.as_ s.le s.ca s.co = _
      rw [ckI_of V2] at g2
      have j := stays_j3 l l1 i (by omega) t V2 k true g3
      unfold drayagelaw14_SagaStays.l0
      rw [if_pos (by omega), decide_eq_true (by omega)]
      unfold drayagelaw14_SagaStays.j2
      rw [if_pos rfl, if_pos (by omega), if_pos (by omega), g1, Option.bind_some]
      simp only [resb, ↓reduceIte]
      have hd : decide (t.ph < s.ph) = false := decide_eq_false (by omega)
      rw [g2, Option.bind_some, if_pos rfl]
      rw [hd]
      by_cases h3 : s.ph = 3
      · have e := ho h3
        subst e
        rw [if_pos h3, if_neg (by simp)]
        exact j
      · rw [if_neg h3]
        exact j
    · refine ⟨K0 + 3, fun k hk => ?_⟩
      obtain ⟨k, rfl⟩ : ∃ m, k = m + 2 := ⟨k - 2, by omega⟩
      have g0 := h0 k (by omega)
      dsimp only at g0 ⊢
      unfold drayagelaw14_SagaStays.l0
      rw [if_neg (by omega)]
      unfold drayagelaw14_SagaStays.j2
      rw [if_neg (by decide), g0]
      rfl
theorem val_start {l : List S38} (h : planB l = true) : Val l ⟨1, 0, 0, false, 0, false, 0⟩ := by
  have := plan_len h
  exact val_fresh h 0 (by omega) (by omega)
theorem stays (l : List S38) (h : planW l) (l1 : List S54) (hl : l1.length ≤ 9223372036854775807) : Ev (fun k => drayagelaw14_SagaStays.f k l l1) true := by
  obtain ⟨b, K0, h0⟩ := long_ev l h.2
  obtain ⟨K1, h1⟩ := known_ev
  obtain ⟨K2, h2⟩ := ref_check l h
  by_cases hb : planB l = true
  · obtain ⟨K3, h3⟩ := stays_l0 l h l1 hl 150 0 _ (by omega) (val_start hb)
    refine ⟨K0 + K1 + K2 + K3 + 2, fun k hk => ?_⟩
    obtain ⟨k, rfl⟩ : ∃ m, k = m + 1 := ⟨k - 1, by omega⟩
    have g0 := h0 (k + 1) (by omega)
    have g1 := h1 k (by omega)
    have g2 := h2 (k + 1) (by omega)
    have g3 := h3 k (by omega)
    clear h0 h1 h2 h3
    dsimp only at g0 g1 g2 g3 ⊢
    rw [if_pos hb] at g2
    unfold drayagelaw14_SagaStays.f
    rw [g0, Option.bind_some]
    cases b with
    | true =>
      rw [if_pos rfl]
      rw [drayagelaw14_SagaStays.j0]
      rw [if_pos rfl, g1]; rfl
    | false =>
      rw [if_neg (by decide), g2, Option.bind_some]
      rw [drayagelaw14_SagaStays.j0]
      rw [if_neg (by decide)]
      exact g3
  · refine ⟨K0 + K1 + K2 + 2, fun k hk => ?_⟩
    obtain ⟨k, rfl⟩ : ∃ m, k = m + 1 := ⟨k - 1, by omega⟩
    have g0 := h0 (k + 1) (by omega)
    have g1 := h1 k (by omega)
    have g2 := h2 (k + 1) (by omega)
    clear h0 h1 h2
    dsimp only at g0 g1 g2 ⊢
    rw [if_neg hb] at g2
    unfold drayagelaw14_SagaStays.f
    rw [g0, Option.bind_some]
    cases b with
    | true =>
      rw [if_pos rfl]
      rw [drayagelaw14_SagaStays.j0]
      rw [if_pos rfl, g1]; rfl
    | false =>
      rw [if_neg (by decide), g2, Option.bind_some]
      rw [drayagelaw14_SagaStays.j0]
      rw [if_pos (by decide), g1]; rfl
theorem SagaStays (x0 : List S38) (x1 : List S54) (w0 : x0.length ≤ maxLen ∧ ∀ x ∈ x0, Q38 x) (w1 : x1.length ≤ maxLen ∧ ∀ x ∈ x1, wf64 x.f0 ∧ wf64 x.f1 ∧ wf64 x.f2) :
    Ev (fun k => drayagelaw14_SagaStays.f k x0 x1) true :=
  stays x0 (planW_of x0 w0) x1 (by have := w1.1; unfold maxLen at this; omega)
end Go.Proofs.Yteefdhgfcnjpoaa.Pure
