/- Plain laws on the mirror of chapter 14's functions, part K: the law SagaEnds. -/
import Derived.Test.YteefdhgfcnjpoaaQEnPAx5
import Derived.Test.YteefdhgfcnjpoaaQEnPAx9
import Derived.Test.YteefdhgfcnjpoaaQEnPAx19
import Derived.Test.YteefdhgfcnjpoaaQEnPureJ
namespace Go.Proofs.Yteefdhgfcnjpoaa.Pure
open Go.RowKit Go.Proofs.Yteefdhgfcnjpoaa.PA Go.Proofs.YteefdhgfcnjpoaaW.PrintWords Go.Proofs.YteefdhgfcnjpoaaW.PrintLast
set_option linter.unusedVariables false
set_option linter.unusedSimpArgs false
set_option linter.unusedSectionVars false

/-- the tries of the first steps, together -/
def sumT (l : List S38) : Nat → Int
  | 0 => 0
  | n + 1 => sumT l n + (rd_T38 l (n : Int)).f1
theorem sumT_le {l : List S38} (hb : planB l = true) (n : Nat) (hn : n ≤ l.length) : 0 ≤ sumT l n ∧ sumT l n ≤ 255 * n := by
  induction n with
  | zero => simp [sumT]
  | succ n ih =>
    have := ih (by omega)
    have := plan_step hb (n : Int) (by omega) (by omega)
    simp only [sumT]
    omega
theorem sumT_mono {l : List S38} (hb : planB l = true) (i j : Nat) (h : i ≤ j) (hj : j ≤ l.length) : sumT l i ≤ sumT l j := by
  induction j with
  | zero =>
    obtain rfl : i = 0 := by omega
    exact Int.le_refl _
  | succ j ih =>
    by_cases e : i = j + 1
    · subst e; exact Int.le_refl _
    · have := ih (by omega) (by omega)
      have := plan_step hb (j : Int) (by omega) (by omega)
      simp only [sumT]
      omega
/-- how many asks may still come -/
def left (l : List S38) (s : Sg) : Int :=
  if s.ph = 1 then 2 * sumT l l.length - sumT l s.st.toNat - s.tr else if s.ph = 2 then sumT l (s.st.toNat + 1) - s.tr else 0
theorem left_back {l : List S38} (hb : planB l = true) (i : Int) (h0 : -1 ≤ i) (h1 : i < l.length) : left l (backS l i) ≤ sumT l (i + 1).toNat := by
  unfold backS
  cases hn : lastB l (i + 1).toNat with
  | none =>
    have := sumT_le hb (i + 1).toNat (by omega)
    simpa [left, backO] using this.1
  | some j =>
    obtain ⟨hj, _⟩ := lastB_some _ j hn
    have := sumT_mono hb (j + 1) (i + 1).toNat (by omega) (by omega)
    simpa [left, backO] using this
theorem left_range {l : List S38} {s : Sg} (V : Val l s) : 0 ≤ left l s ∧ left l s ≤ 2 * sumT l l.length := by
  have hb := V.plan
  have hS := sumT_le hb l.length (Nat.le_refl _)
  unfold left
  by_cases h3 : s.ph = 3
  · rw [if_neg (by omega), if_neg (by omega)]; omega
  · obtain ⟨hp, a, b, _⟩ := V.goes h3
    have ht := V.tr_le h3
    have h1 := sumT_le hb s.st.toNat (by omega)
    have h2 := sumT_mono hb (s.st.toNat + 1) l.length (by omega) (Nat.le_refl _)
    have e : sumT l (s.st.toNat + 1) = sumT l s.st.toNat + (rd_T38 l s.st).f1 := by
      simp only [sumT]
      rw [Int.toNat_of_nonneg a]
    rcases hp with hp | hp
    · rw [if_pos hp]; omega
    · rw [if_neg (by omega), if_pos hp]; omega
theorem left_ask {l : List S38} {s : Sg} (V : Val l s) (h3 : s.ph ≠ 3) : left l (askG l s) = left l s - 1 := by
  obtain ⟨hp, _⟩ := V.goes h3
  unfold left askG
  dsimp only
  rcases hp with hp | hp
  · rw [if_pos hp, if_pos hp]; omega
  · rw [if_neg (by omega), if_pos hp, if_neg (by omega), if_pos hp]; omega
/-- told of its step: fewer asks may come -/
theorem left_tell {l : List S38} {s : Sg} (V : Val l s) (ha : s.as_ = true) (code : Int) : left l (tellG l s s.st (s.ph == 2) code) ≤ left l s ∧ (tellG l s s.st (s.ph == 2) code).as_ = false := by
  have h3 : s.ph ≠ 3 := fun e => by have := (V.over e).2.2.2.2.2.1; rw [ha] at this; exact absurd this (by decide)
  have hb := V.plan
  obtain ⟨hp, a, b, _⟩ := V.goes h3
  have ht := V.tr_le h3
  have hl := V.len
  have h1 := sumT_le hb s.st.toNat (by omega)
  have h2 := sumT_mono hb (s.st.toNat + 1) l.length (by omega) (Nat.le_refl _)
  have e : sumT l (s.st.toNat + 1) = sumT l s.st.toNat + (rd_T38 l s.st).f1 := by
    simp only [sumT]
    rw [Int.toNat_of_nonneg a]
  have hB1 := left_back hb s.st (by omega) (by omega)
  have hB0 := left_back hb (s.st - 1) (by omega) (by omega)
  have e1 : (s.st + 1).toNat = s.st.toNat + 1 := by omega
  have e0 : (s.st - 1 + 1).toNat = s.st.toNat := by omega
  rw [e1] at hB1
  rw [e0] at hB0
  have hasB : ∀ i, (backS l i).as_ = false := fun i => by unfold backS; cases lastB l (i + 1).toNat <;> rfl
  unfold tellG
  rw [if_neg (by simp [ha])]
  rcases hp with hp | hp
  · have hL : left l s = 2 * sumT l l.length - sumT l s.st.toNat - s.tr := by unfold left; rw [if_pos hp]
    rw [if_neg (by simp [hp])]
    unfold forwS
    split
    · exact ⟨by omega, hasB _⟩
    · split
      · refine ⟨?_, rfl⟩
        show left l _ ≤ _
        unfold left
        dsimp only
        rw [if_pos hp]
        exact Int.le_refl _
      · split
        · exact ⟨by omega, hasB _⟩
        · split
          · refine ⟨?_, rfl⟩
            have := left_range V
            simpa [left] using this.1
          · refine ⟨?_, rfl⟩
            rw [hL]
            show left l ⟨1, s.st + 1, 0, false, 0, false, 0⟩ ≤ _
            unfold left
            dsimp only
            rw [if_pos rfl, e1, e]
            omega
  · have hL : left l s = sumT l (s.st.toNat + 1) - s.tr := by unfold left; rw [if_neg (by omega), if_pos hp]
    rw [if_pos (by simp [hp])]
    unfold undoS
    split
    · exact ⟨by omega, hasB _⟩
    · split
      · refine ⟨?_, rfl⟩
        have := left_range V
        simpa [left] using this.1
      · refine ⟨?_, rfl⟩
        show left l _ ≤ _
        unfold left
        dsimp only
        rw [if_neg (by omega), if_pos hp]
        exact Int.le_refl _

/-! ### one step refused, or none -/
section
variable (l : List S38) (h : planW l) (hb : planB l = true) (u : Nat) (hu : u ≤ l.length)
include h hb hu

theorem ends_over (co : Int) (x17 : Int) (hc : co = if u = l.length then 1 else 2) : Ev (fun k => drayagelaw14_SagaEnds.l3 k l (u : Int) x17 3 0 0 false 0 false co) true := by
  obtain ⟨K0, h0⟩ := known_ev
  refine ⟨K0 + 2, fun k hk => ?_⟩
  obtain ⟨k, rfl⟩ : ∃ m, k = m + 2 := ⟨k - 2, by omega⟩
  have g0 := h0 k (by omega)
  dsimp only at g0 ⊢
  have hd : decide ((3 : Int) < 3) = false := rfl
  rw [drayagelaw14_SagaEnds.l3, hd, ite_self, drayagelaw14_SagaEnds.j7, if_neg (by decide)]
  by_cases c : u = l.length
  · rw [if_pos c] at hc
    rw [if_pos (by omega), if_pos rfl, if_pos hc, g0]; rfl
  · rw [if_neg c] at hc
    rw [if_neg (by omega), if_pos rfl, if_pos hc, g0]; rfl
theorem ends_back (hu2 : u < l.length) : ∀ (n m : Nat) (x17 : Nat), m ≤ n → m ≤ l.length → x17 + m ≤ 2 * u + 1 →
    Ev (fun k => drayagelaw14_SagaEnds.l3 k l (u : Int) (x17 : Int) (backO (lastB l m)).ph (backO (lastB l m)).st (backO (lastB l m)).tr (backO (lastB l m)).as_ (backO (lastB l m)).le (backO (lastB l m)).ca (backO (lastB l m)).co) true := by
  have hl := plan_len hb
  intro n
  induction n with
  | zero =>
    intro m x17 hm hml hx
    obtain rfl : m = 0 := by omega
    exact ends_over l h hb u hu 2 x17 (by rw [if_neg (by omega)])
  | succ n ih =>
    intro m x17 hm hml hx
    cases hn : lastB l m with
    | none => exact ends_over l h hb u hu 2 x17 (by rw [if_neg (by omega)])
    | some j =>
      obtain ⟨hj, hf, _⟩ := lastB_some _ j hn
      have hs := plan_step hb (j : Int) (by omega) (by omega)
      obtain ⟨K1, h1⟩ := ih j (x17 + 1) (by omega) (by omega) (by omega)
      obtain ⟨K2, h2⟩ := asks_ev l h (val_one hb 2 (j : Int) 0 (.inr rfl) (by omega) (by omega) (by omega) (by omega) (fun _ => hf)) (by simp) rfl 1 (by omega)
      refine ⟨K1 + K2 + 3, fun k hk => ?_⟩
      obtain ⟨k, rfl⟩ : ∃ m, k = m + 3 := ⟨k - 3, by omega⟩
      have g1 := h1 k (by omega)
      obtain ⟨ga, gt⟩ := h2 k (by omega)
      clear h1 h2 ih
      dsimp only at g1 ga gt ⊢
      rw [if_pos rfl] at gt
      have e : undoS l (askG l ⟨2, (j : Int), 0, false, 0, false, 0⟩) 1 = backO (lastB l j) := by
        unfold undoS askG backS
        dsimp only
        rw [if_pos rfl]
        have : ((j : Int) - 1 + 1).toNat = j := by omega
        rw [this]
      rw [e] at gt
      simp only [backO]
      have hd : decide ((2 : Int) < 3) = true := rfl
      rw [drayagelaw14_SagaEnds.l3, wrap_id (i := 2 * (l.length : Int)) (by omega) (by omega), wrap_id (i := 2 * (l.length : Int) + 1) (by omega) (by omega), if_pos (by omega), hd, drayagelaw14_SagaEnds.j7, if_pos rfl, if_neg (by decide), drayagelaw14_SagaEnds.j8, if_neg (by decide), ga, Option.bind_some]
      simp only [res8]
      simp only [askG] at gt ⊢
      rw [gt, Option.bind_some, wrap_id (i := (x17 : Int) + 1) (by omega) (by omega)]
      exact g1
theorem ends_forw : ∀ (d i : Nat), i + d = u → i < l.length → Ev (fun k => drayagelaw14_SagaEnds.l3 k l (u : Int) (i : Int) 1 (i : Int) 0 false 0 false 0) true := by
  have hl := plan_len hb
  intro d
  induction d with
  | zero =>
    intro i hi hil
    obtain rfl : i = u := by omega
    have hs := plan_step hb (i : Int) (by omega) (by omega)
    obtain ⟨K1, h1⟩ := ends_back l h hb i hu hil i i (i + 1) (by omega) (by omega) (by omega)
    obtain ⟨K2, h2⟩ := asks_ev l h (val_one hb 1 (i : Int) 0 (.inl rfl) (by omega) (by omega) (by omega) (by omega) (fun e => by simp at e)) (by simp) rfl 2 (by omega)
    refine ⟨K1 + K2 + 3, fun k hk => ?_⟩
    obtain ⟨k, rfl⟩ : ∃ m, k = m + 3 := ⟨k - 3, by omega⟩
    have g1 := h1 k (by omega)
    obtain ⟨ga, gt⟩ := h2 k (by omega)
    clear h1 h2
    dsimp only at g1 ga gt ⊢
    rw [if_neg (by decide)] at gt
    have e : forwS l (askG l ⟨1, (i : Int), 0, false, 0, false, 0⟩) 2 = backO (lastB l i) := by
      unfold forwS askG backS
      dsimp only
      rw [if_pos rfl]
      have : ((i : Int) - 1 + 1).toNat = i := by omega
      rw [this]
    rw [e] at gt
    have hd : decide ((1 : Int) < 3) = true := rfl
    have hq : ((i : Int) == (i : Int)) = true := by simp
    rw [drayagelaw14_SagaEnds.l3, wrap_id (i := 2 * (l.length : Int)) (by omega) (by omega), wrap_id (i := 2 * (l.length : Int) + 1) (by omega) (by omega), if_pos (by omega), hd, drayagelaw14_SagaEnds.j7, if_pos rfl, if_pos rfl, hq, drayagelaw14_SagaEnds.j8, if_pos rfl, ga, Option.bind_some]
    simp only [res8]
    simp only [askG] at gt ⊢
    rw [gt, Option.bind_some, wrap_id (i := (i : Int) + 1) (by omega) (by omega)]
    exact g1
  | succ d ih =>
    intro i hi hil
    have hs := plan_step hb (i : Int) (by omega) (by omega)
    have hR : Ev (fun k => drayagelaw14_SagaEnds.l3 k l (u : Int) ((i + 1 : Nat) : Int) (forwS l (askG l ⟨1, (i : Int), 0, false, 0, false, 0⟩) 1).ph (forwS l (askG l ⟨1, (i : Int), 0, false, 0, false, 0⟩) 1).st (forwS l (askG l ⟨1, (i : Int), 0, false, 0, false, 0⟩) 1).tr (forwS l (askG l ⟨1, (i : Int), 0, false, 0, false, 0⟩) 1).as_ (forwS l (askG l ⟨1, (i : Int), 0, false, 0, false, 0⟩) 1).le (forwS l (askG l ⟨1, (i : Int), 0, false, 0, false, 0⟩) 1).ca (forwS l (askG l ⟨1, (i : Int), 0, false, 0, false, 0⟩) 1).co) true := by
      unfold forwS askG
      dsimp only
      rw [if_neg (by decide), if_neg (fun e => by simp at e), if_neg (by decide)]
      by_cases c : i + 1 = l.length
      · rw [if_pos (by omega)]
        exact ends_over l h hb u hu 1 _ (by rw [if_pos (by omega)])
      · rw [if_neg (by omega)]
        exact ih (i + 1) (by omega) (by omega)
    obtain ⟨K1, h1⟩ := hR
    obtain ⟨K2, h2⟩ := asks_ev l h (val_one hb 1 (i : Int) 0 (.inl rfl) (by omega) (by omega) (by omega) (by omega) (fun e => by simp at e)) (by simp) rfl 1 (by omega)
    refine ⟨K1 + K2 + 3, fun k hk => ?_⟩
    obtain ⟨k, rfl⟩ : ∃ m, k = m + 3 := ⟨k - 3, by omega⟩
    have g1 := h1 k (by omega)
    obtain ⟨ga, gt⟩ := h2 k (by omega)
    clear h1 h2 ih
    dsimp only at g1 ga gt ⊢
    rw [if_neg (by decide)] at gt
    generalize forwS l (askG l ⟨1, (i : Int), 0, false, 0, false, 0⟩) 1 = t at *
    have hd : decide ((1 : Int) < 3) = true := rfl
    have hq : ((i : Int) == (u : Int)) = false := by simp; omega
    rw [drayagelaw14_SagaEnds.l3, wrap_id (i := 2 * (l.length : Int)) (by omega) (by omega), wrap_id (i := 2 * (l.length : Int) + 1) (by omega) (by omega), if_pos (by omega), hd, drayagelaw14_SagaEnds.j7, if_pos rfl, if_pos rfl, hq, drayagelaw14_SagaEnds.j8, if_neg (by decide), ga, Option.bind_some]
    simp only [res8]
    simp only [askG] at gt ⊢
    rw [gt, Option.bind_some, wrap_id (i := (i : Int) + 1) (by omega) (by omega)]
    exact g1
end
/-! ### the asks of a run that never waits -/
section
variable (l : List S38) (h : planW l) (hb : planB l = true) (a2 : Int)
include h hb
theorem ends_done (x11 x13 : Int) (s : Sg) (h3 : s.ph = 3) : Ev (fun k => drayagelaw14_SagaEnds.l2 k l a2 x11 x13 s.ph s.st s.tr s.as_ s.le s.ca s.co) true := by
  have hl := plan_len hb
  obtain ⟨e, x, hx, ex⟩ := place (l.length + 1) a2 (by omega) (by omega)
  have hR : Ev (fun k => drayagelaw14_SagaEnds.l3 k l (x : Int) ((0 : Nat) : Int) 1 ((0 : Nat) : Int) 0 false 0 false 0) true := ends_forw l h hb x (by omega) x 0 (by omega) (by omega)
  obtain ⟨K1, h1⟩ := hR
  refine ⟨K1 + 1, fun k hk => ?_⟩
  obtain ⟨k, rfl⟩ : ∃ m, k = m + 1 := ⟨k - 1, by omega⟩
  have g1 := h1 k (by omega)
  dsimp only at g1 ⊢
  have e1 : wrap64 ((l.length : Int) + 1) = ((l.length + 1 : Nat) : Int) := (wrap_id (i := (l.length : Int) + 1) (by omega) (by omega)).trans (by omega)
  rw [drayagelaw14_SagaEnds.l2, if_neg (by omega), e1, ex, show saga_Start.f = some (1, 0, 0, false, 0, false, 0) from rfl, Option.bind_some, if_neg (by omega)]
  exact g1
theorem ends_j5 (m : Int) (x11 : Int) (hx : x11 = 2 * sumT l l.length) (P : ∀ (s : Sg) (x13 : Int), Val l s → s.as_ = false → left l s ≤ m → 0 ≤ x13 → x13 + left l s ≤ x11 → Ev (fun k => drayagelaw14_SagaEnds.l2 k l a2 x11 x13 s.ph s.st s.tr s.as_ s.le s.ca s.co) true)
    (s : Sg) (x13 : Int) (V : Val l s) (ha : s.as_ = true) (hm : left l s ≤ m) (h0 : 0 ≤ x13) (hs : x13 + left l s ≤ x11) : Ev (fun k => drayagelaw14_SagaEnds.j5 k l a2 x11 x13 s.ph s.st s.tr s.as_ s.le s.ca s.co) true := by
  have go : ∀ code : Int, 1 ≤ code ∧ code ≤ 3 → ∃ K, ∀ k, K ≤ k → ∃ t : Sg, saga_Tell.f k l s.ph s.st s.tr s.as_ s.le s.ca s.co s.st (s.ph == 2) code = some (res8 t 0) ∧ ¬ (x13 > x11) ∧ ¬ t.ph = 0 ∧ drayagelaw14_SagaEnds.l2 k l a2 x11 x13 t.ph t.st t.tr t.as_ t.le t.ca t.co = some true := by
    intro code hc
    obtain ⟨K1, h1⟩ := tell_ev l h s s.st (s.ph == 2) code
    rw [tellS_eq V _ _ _ hc] at h1
    obtain ⟨hl, hasn⟩ := left_tell V ha code
    have V2 := val_tell V s.st (s.ph == 2) code
    generalize tellG l s s.st (s.ph == 2) code = t at *
    have hr := left_range V2
    have hr0 := left_range V
    obtain ⟨K2, h2⟩ := P t x13 V2 hasn (by omega) h0 (by omega)
    refine ⟨K1 + K2, fun k hk => ⟨t, h1 k (by omega), by omega, ?_, h2 k (by omega)⟩⟩
    intro e
    have := V2.goes (by omega)
    omega
  obtain ⟨K1, h1⟩ := go 1 (by omega)
  obtain ⟨K3, h3⟩ := go 3 (by omega)
  refine ⟨K1 + K3 + 1, fun k hk => ?_⟩
  obtain ⟨k, rfl⟩ : ∃ m, k = m + 1 := ⟨k - 1, by omega⟩
  obtain ⟨t, a, b, c, d⟩ := h1 k (by omega)
  obtain ⟨t3, a3, b3, c3, d3⟩ := h3 k (by omega)
  dsimp only
  rw [drayagelaw14_SagaEnds.j5]
  by_cases e : Int.tmod a2 2 = 0
  · rw [if_pos e, a, Option.bind_some, if_neg b]
    simp only [res8]
    exact (if_neg c).trans d
  · rw [if_neg e, a3, Option.bind_some, if_neg b3]
    simp only [res8]
    exact (if_neg c3).trans d3
theorem ends_l2 (x11 : Int) (hx : x11 = 2 * sumT l l.length) : ∀ (n : Nat) (s : Sg) (x13 : Int), Val l s → s.as_ = false → left l s ≤ n → 0 ≤ x13 → x13 + left l s ≤ x11 →
    Ev (fun k => drayagelaw14_SagaEnds.l2 k l a2 x11 x13 s.ph s.st s.tr s.as_ s.le s.ca s.co) true := by
  have hl := plan_len hb
  have hS := sumT_le hb l.length (Nat.le_refl _)
  intro n
  induction n with
  | zero =>
    intro s x13 V ha hm h0 hs
    by_cases h3 : s.ph = 3
    · exact ends_done l h hb a2 x11 x13 s h3
    · exfalso
      have := left_range (val_ask V h3 ha)
      rw [left_ask V h3] at this
      omega
  | succ n ih =>
    intro s x13 V ha hm h0 hs
    by_cases h3 : s.ph = 3
    · exact ends_done l h hb a2 x11 x13 s h3
    · have hp := V.goes h3
      have hlr := left_range V
      have hla := left_ask V h3
      obtain ⟨K1, h1⟩ := ask_ev l h s
      rw [askS_eq V h3 ha] at h1
      obtain ⟨K2, h2⟩ := ends_j5 l h hb a2 n x11 hx ih (askG l s) (x13 + 1) (val_ask V h3 ha) rfl (by omega) (by omega) (by omega)
      refine ⟨K1 + K2 + 1, fun k hk => ?_⟩
      obtain ⟨k, rfl⟩ : ∃ m, k = m + 1 := ⟨k - 1, by omega⟩
      have g1 := h1 k (by omega)
      have g2 := h2 k (by omega)
      dsimp only at g1 g2 ⊢
      rw [drayagelaw14_SagaEnds.l2, if_pos (by omega), if_neg (by rw [ha]; decide), g1, Option.bind_some]
      simp only [res8]
      rw [wrap_id (i := x13 + 1) (by omega) (by omega)]
      exact g2
theorem ends_l2any (x11 : Int) (hx : x11 = 2 * sumT l l.length) (s : Sg) (V : Val l s) : Ev (fun k => drayagelaw14_SagaEnds.l2 k l a2 x11 0 s.ph s.st s.tr s.as_ s.le s.ca s.co) true := by
  have hlr := left_range V
  cases ha : s.as_ with
  | false =>
    have := ends_l2 l h hb a2 x11 hx (left l s).toNat s 0 V ha (by omega) (by omega) (by omega)
    rw [ha] at this
    exact this
  | true =>
    have h3 : s.ph ≠ 3 := fun e => by have := (V.over e).2.2.2.2.2.1; rw [ha] at this; exact absurd this (by decide)
    have hp := V.goes h3
    obtain ⟨K2, h2⟩ := ends_j5 l h hb a2 ((left l s).toNat : Nat) x11 hx (ends_l2 l h hb a2 x11 hx (left l s).toNat) s 0 V ha (by omega) (by omega) (by omega)
    refine ⟨K2 + 1, fun k hk => ?_⟩
    obtain ⟨k, rfl⟩ : ∃ m, k = m + 1 := ⟨k - 1, by omega⟩
    have g2 := h2 k (by omega)
    dsimp only at g2 ⊢
    rw [ha] at g2
    rw [drayagelaw14_SagaEnds.l2, if_pos (by omega), if_pos rfl]
    exact g2
theorem ends_l1 (s : Sg) (V : Val l s) : ∀ (d i : Nat), i + d = l.length → Ev (fun k => drayagelaw14_SagaEnds.l1 k l a2 (2 * sumT l i) (i : Int) s.ph s.st s.tr s.as_ s.le s.ca s.co) true := by
  have hl := plan_len hb
  intro d
  induction d with
  | zero =>
    intro i hi
    obtain rfl : i = l.length := by omega
    obtain ⟨K1, h1⟩ := ends_l2any l h hb a2 _ rfl s V
    refine ⟨K1 + 1, fun k hk => ?_⟩
    obtain ⟨k, rfl⟩ : ∃ m, k = m + 1 := ⟨k - 1, by omega⟩
    have g1 := h1 k (by omega)
    dsimp only at g1 ⊢
    rw [drayagelaw14_SagaEnds.l1, if_neg (by omega)]
    exact g1
  | succ d ih =>
    intro i hi
    obtain ⟨K1, h1⟩ := ih (i + 1) (by omega)
    have hs := plan_step hb (i : Int) (by omega) (by omega)
    have hS := sumT_le hb i (by omega)
    refine ⟨K1 + 1, fun k hk => ?_⟩
    obtain ⟨k, rfl⟩ : ∃ m, k = m + 1 := ⟨k - 1, by omega⟩
    have g1 := h1 k (by omega)
    dsimp only at g1 ⊢
    rw [drayagelaw14_SagaEnds.l1, if_pos (by omega), if_pos (by omega), wrap_id (i := 2 * (rd_T38 l (i : Int)).f1) (by omega) (by omega), wrap_id (i := 2 * sumT l i + 2 * (rd_T38 l (i : Int)).f1) (by omega) (by omega), wrap_id (i := (i : Int) + 1) (by omega) (by omega)]
    have e : 2 * sumT l (i + 1) = 2 * sumT l i + 2 * (rd_T38 l (i : Int)).f1 := by simp only [sumT]; omega
    rw [← e]
    exact g1
theorem ends_l0 (l1 : List S54) (hl : l1.length ≤ 9223372036854775807) : ∀ (d i : Nat) (s : Sg), i + d = 60 → Val l s →
    Ev (fun k => drayagelaw14_SagaEnds.l0 k l l1 a2 (i : Int) s.ph s.st s.tr s.as_ s.le s.ca s.co) true := by
  intro d
  induction d with
  | zero =>
    intro i s hi V
    obtain ⟨K1, h1⟩ := ends_l1 l h hb a2 s V l.length 0 (by omega)
    refine ⟨K1 + 2, fun k hk => ?_⟩
    obtain ⟨k, rfl⟩ : ∃ m, k = m + 2 := ⟨k - 2, by omega⟩
    have g1 := h1 k (by omega)
    dsimp only at g1 ⊢
    have e : decide ((i : Int) < 60) = false := by simp; omega
    rw [drayagelaw14_SagaEnds.l0, e, ite_self, drayagelaw14_SagaEnds.j2, if_neg (by decide)]
    exact g1
  | succ d ih =>
    intro i s hi V
    by_cases hin : i < l1.length
    · obtain ⟨K1, h1⟩ := happ_ev l h s V (rd_T54 l1 (i : Int))
      have V2 := val_happ V (rd_T54 l1 (i : Int))
      generalize ht : happG l s (rd_T54 l1 (i : Int)) = t at *
      obtain ⟨K3, h3⟩ := ih (i + 1) t (by omega) V2
      refine ⟨K1 + K3 + 2, fun k hk => ?_⟩
      obtain ⟨k, rfl⟩ : ∃ m, k = m + 2 := ⟨k - 2, by omega⟩
      have g1 := h1 k (by omega)
      have g3 := h3 k (by omega)
      clear h1 h3 ih
      dsimp only at g1 g3 ⊢
      rw [drayagelaw14_SagaEnds.l0, if_pos (by omega), decide_eq_true (by omega), drayagelaw14_SagaEnds.j2, if_pos rfl, if_pos (by omega), if_pos (by omega), g1, Option.bind_some]
      simp only [resb, ↓reduceIte]
      rw [wrap_id (i := (i : Int) + 1) (by omega) (by omega)]
      exact g3
    · obtain ⟨K1, h1⟩ := ends_l1 l h hb a2 s V l.length 0 (by omega)
      refine ⟨K1 + 2, fun k hk => ?_⟩
      obtain ⟨k, rfl⟩ : ∃ m, k = m + 2 := ⟨k - 2, by omega⟩
      have g1 := h1 k (by omega)
      dsimp only at g1 ⊢
      rw [drayagelaw14_SagaEnds.l0, if_neg (by omega), drayagelaw14_SagaEnds.j2, if_neg (by decide)]
      exact g1
end
theorem ends (l : List S38) (h : planW l) (l1 : List S54) (hl : l1.length ≤ 9223372036854775807) (a2 : Int) : Ev (fun k => drayagelaw14_SagaEnds.f k l l1 a2) true := by
  obtain ⟨b, K0, h0⟩ := long_ev l h.2
  obtain ⟨K1, h1⟩ := known_ev
  obtain ⟨K2, h2⟩ := ref_check l h
  by_cases hb : planB l = true
  · obtain ⟨K3, h3⟩ := ends_l0 l h hb a2 l1 hl 60 0 _ (by omega) (val_start hb)
    refine ⟨K0 + K1 + K2 + K3 + 2, fun k hk => ?_⟩
    obtain ⟨k, rfl⟩ : ∃ m, k = m + 1 := ⟨k - 1, by omega⟩
    have g0 := h0 (k + 1) (by omega)
    have g1 := h1 k (by omega)
    have g2 := h2 (k + 1) (by omega)
    have g3 := h3 k (by omega)
    clear h0 h1 h2 h3
    dsimp only at g0 g1 g2 g3 ⊢
    rw [if_pos hb] at g2
    unfold drayagelaw14_SagaEnds.f
    rw [g0, Option.bind_some]
    cases b with
    | true => rw [if_pos rfl, drayagelaw14_SagaEnds.j0, if_pos rfl, g1]; rfl
    | false =>
      rw [if_neg (by decide), g2, Option.bind_some, drayagelaw14_SagaEnds.j0, if_neg (by decide)]
      exact g3
  · refine ⟨K0 + K1 + K2 + 2, fun k hk => ?_⟩
    obtain ⟨k, rfl⟩ : ∃ m, k = m + 1 := ⟨k - 1, by omega⟩
    have g0 := h0 (k + 1) (by omega)
    have g1 := h1 k (by omega)
    have g2 := h2 (k + 1) (by omega)
    clear h0 h1 h2
    dsimp only at g0 g1 g2 ⊢
    rw [if_neg hb] at g2
    unfold drayagelaw14_SagaEnds.f
    rw [g0, Option.bind_some]
    cases b with
    | true => rw [if_pos rfl, drayagelaw14_SagaEnds.j0, if_pos rfl, g1]; rfl
    | false => rw [if_neg (by decide), g2, Option.bind_some, drayagelaw14_SagaEnds.j0, if_pos (by decide), g1]; rfl
theorem SagaEnds (x0 : List S38) (x1 : List S54) (a2 : Int) (w0 : x0.length ≤ maxLen ∧ ∀ x ∈ x0, Q38 x) (w1 : x1.length ≤ maxLen ∧ ∀ x ∈ x1, wf64 x.f0 ∧ wf64 x.f1 ∧ wf64 x.f2) (w2 : wf64 a2) :
    Ev (fun k => drayagelaw14_SagaEnds.f k x0 x1 a2) true :=
  ends x0 (planW_of x0 w0) x1 (by have := w1.1; unfold maxLen at this; omega) a2
end Go.Proofs.Yteefdhgfcnjpoaa.Pure
