/- Plain laws on the mirror of chapter 14's functions, part B: Check of plans and states. -/
import Derived.Test.YteefdhgfcnjpoaaQCaPAx4
import Derived.Test.YteefdhgfcnjpoaaQCaPAx5
import Derived.Test.YteefdhgfcnjpoaaQCaPAx6
import Derived.Test.YteefdhgfcnjpoaaQCaPAx7
import Derived.Test.YteefdhgfcnjpoaaQCaPureA
namespace Go.Proofs.Yteefdhgfcnjpoaa.Pure
open Go.RowKit Go.Proofs.Yteefdhgfcnjpoaa.PA Go.Proofs.YteefdhgfcnjpoaaW.PrintWords Go.Proofs.YteefdhgfcnjpoaaW.PrintLast
set_option linter.unusedVariables false
set_option linter.unusedSimpArgs false

theorem ev_all {α β : Type} (g : α → Nat → Option β) (r : α → β) : ∀ (l : List α), (∀ s ∈ l, Ev (g s) (r s)) → ∃ K, ∀ s ∈ l, ∀ k, K ≤ k → g s k = some (r s) := by
  intro l
  induction l with
  | nil => intro _; exact ⟨0, by simp⟩
  | cons a l ih =>
    intro h
    obtain ⟨K1, h1⟩ := h a List.mem_cons_self
    obtain ⟨K2, h2⟩ := ih (fun s hs => h s (List.mem_cons_of_mem _ hs))
    refine ⟨max K1 K2, fun s hs k hk => ?_⟩
    rcases List.mem_cons.1 hs with rfl | hs
    · exact h1 k (by omega)
    · exact h2 s hs k (by omega)

/-- may a plan be -/
def planB (l : List S38) : Bool := decide (1 ≤ l.length ∧ l.length ≤ 16) && l.all rightB
def planW (l : List S38) : Prop := (∀ s ∈ l, stepW s) ∧ l.length ≤ 9223372036854775807

theorem plan_loop (l : List S38) (hl : l.length ≤ 9223372036854775807) (K : Nat) (hK : ∀ s ∈ l, ∀ k, K ≤ k → plan_right.f k s.f0.f0 s.f0.f1 s.f0.f2 s.f1 s.f2 s.f3 = some (rightB s)) :
    ∀ (d k i : Nat), i + d = l.length → K + d < k → plan_Check.l0 k l (l.length : Int) (i : Int) = some (if (l.drop i).all rightB = true then 0 else 130) := by
  intro d
  induction d with
  | zero =>
    intro k i hi hk
    obtain ⟨k, rfl⟩ : ∃ m, k = m + 1 := ⟨k - 1, by omega⟩
    simp only [plan_Check.l0]
    rw [if_neg (by omega), List.drop_of_length_le (by omega)]
    simp
  | succ d ih =>
    intro k i hi hk
    obtain ⟨k, rfl⟩ : ∃ m, k = m + 1 := ⟨k - 1, by omega⟩
    have hlt : i < l.length := by omega
    have hrec : plan_Check.l0 k l (l.length : Int) (wrap64 ((i : Int) + 1)) = some (if (l.drop (i + 1)).all rightB = true then 0 else 130) := by
      rw [wrap_id (by omega) (by omega)]
      exact_mod_cast ih k (i + 1) (by omega) (by omega)
    simp only [plan_Check.l0]
    rw [if_pos (by omega), if_pos (by omega), if_pos (by omega), getD_nat l i hlt, hK _ (List.getElem_mem hlt) k (by omega), hrec, List.drop_eq_getElem_cons hlt, List.all_cons]
    cases rightB l[i] <;> simp

theorem plan_check (l : List S38) (h : planW l) : Ev (fun k => plan_Check.f k l) (if planB l = true then 0 else 130) := by
  obtain ⟨K, hK⟩ := ev_all (fun (s : S38) k => plan_right.f k s.f0.f0 s.f0.f1 s.f0.f2 s.f1 s.f2 s.f3) rightB l (fun s hs => plan_right_ev s (h.1 s hs))
  refine ⟨K + l.length + 3, fun k hk => ?_⟩
  obtain ⟨k, rfl⟩ : ∃ m, k = m + 1 := ⟨k - 1, by omega⟩
  have hlo := plan_loop l h.2 K hK l.length k 0 (by omega) (by omega)
  show plan_Check.f (k + 1) l = _
  unfold plan_Check.f planB
  simp only [plan_Check.j0]
  rw [show ((0 : Nat) : Int) = 0 from rfl] at hlo
  rw [hlo, List.drop_zero]
  by_cases h1 : (l.length : Int) < 1
  · rw [if_pos h1, decide_eq_false (by omega)]; simp
  · rw [if_neg h1]
    by_cases h2 : (l.length : Int) > 16
    · rw [decide_eq_true h2, decide_eq_false (by omega)]; simp
    · rw [decide_eq_false h2, decide_eq_true (by omega)]; simp

theorem ref_loop (l : List S38) (hl : l.length ≤ 9223372036854775807) (K : Nat) (hK : ∀ s ∈ l, ∀ k, K ≤ k → drayageref13_Right.f k s.f0.f0 s.f0.f1 s.f0.f2 s.f1 s.f2 s.f3 = some (rightB s)) :
    ∀ (d k i : Nat), i + d = l.length → K + d < k → drayageref13_Check.l0 k l (i : Int) = some (if (l.drop i).all rightB = true then 0 else 130) := by
  intro d
  induction d with
  | zero =>
    intro k i hi hk
    obtain ⟨k, rfl⟩ : ∃ m, k = m + 1 := ⟨k - 1, by omega⟩
    simp only [drayageref13_Check.l0]
    rw [if_neg (by omega), List.drop_of_length_le (by omega)]
    simp
  | succ d ih =>
    intro k i hi hk
    obtain ⟨k, rfl⟩ : ∃ m, k = m + 1 := ⟨k - 1, by omega⟩
    have hlt : i < l.length := by omega
    have hrec : drayageref13_Check.l0 k l (wrap64 ((i : Int) + 1)) = some (if (l.drop (i + 1)).all rightB = true then 0 else 130) := by
      rw [wrap_id (by omega) (by omega)]
      exact_mod_cast ih k (i + 1) (by omega) (by omega)
    simp only [drayageref13_Check.l0]
    rw [if_pos (by omega), if_pos (by omega), getD_nat l i hlt, hK _ (List.getElem_mem hlt) k (by omega), hrec, List.drop_eq_getElem_cons hlt, List.all_cons]
    cases rightB l[i] <;> simp

theorem ref_check (l : List S38) (h : planW l) : Ev (fun k => drayageref13_Check.f k l) (if planB l = true then 0 else 130) := by
  obtain ⟨K, hK⟩ := ev_all (fun (s : S38) k => drayageref13_Right.f k s.f0.f0 s.f0.f1 s.f0.f2 s.f1 s.f2 s.f3) rightB l (fun s hs => ref_right s (h.1 s hs))
  refine ⟨K + l.length + 3, fun k hk => ?_⟩
  obtain ⟨k, rfl⟩ : ∃ m, k = m + 1 := ⟨k - 1, by omega⟩
  have hlo := ref_loop l h.2 K hK l.length k 0 (by omega) (by omega)
  show drayageref13_Check.f (k + 1) l = _
  unfold drayageref13_Check.f planB
  simp only [drayageref13_Check.j0]
  rw [show ((0 : Nat) : Int) = 0 from rfl] at hlo
  rw [hlo, List.drop_zero]
  by_cases h1 : (l.length : Int) = 0
  · rw [if_pos h1, decide_eq_false (by omega)]; simp
  · rw [if_neg h1]
    by_cases h2 : (l.length : Int) > 16
    · rw [decide_eq_true h2, decide_eq_false (by omega)]; simp
    · rw [decide_eq_false h2, decide_eq_true (by omega)]; simp

/-! ### states -/
/-- a state: Phase, Step, Try, Asked, Left, Cancel, Code -/
structure Sg where
  ph : Int
  st : Int
  tr : Int
  as_ : Bool
  le : Int
  ca : Bool
  co : Int
def Sg.tup (s : Sg) : Int × Int × Int × Bool × Int × Bool × Int := (s.ph, s.st, s.tr, s.as_, s.le, s.ca, s.co)
def stB (l : List S38) (s : Sg) : Bool :=
  if s.ph = 3 then decide (1 ≤ s.co ∧ s.co ≤ 3 ∧ s.st = 0 ∧ s.tr = 0 ∧ s.le = 0) && (!s.as_ && !s.ca)
  else if s.ph = 1 ∨ s.ph = 2 then
    decide (0 ≤ s.st ∧ s.st < (l.length : Int) ∧ s.co = 0) &&
      ((if s.as_ = true then decide (1 ≤ s.tr ∧ s.tr ≤ (rd_T38 l s.st).f1 ∧ 1 ≤ s.le ∧ s.le ≤ (rd_T38 l s.st).f2) else decide (0 ≤ s.tr ∧ s.tr < (rd_T38 l s.st).f1 ∧ s.le = 0)) &&
        (if s.ph = 2 then (rd_T38 l s.st).f3 && !s.ca else true))
  else false
def ckI (l : List S38) (s : Sg) : Int := if planB l = true then (if stB l s = true then 0 else 140) else 130

theorem saga_check (l : List S38) (h : planW l) (s : Sg) : Ev (fun k => saga_Check.f k l s.ph s.st s.tr s.as_ s.le s.ca s.co) (ckI l s) := by
  obtain ⟨K, hK⟩ := plan_check l h
  refine ⟨K + 5, fun k hk => ?_⟩
  have hp : plan_Check.f k l = some (if planB l = true then 0 else 130) := hK k (by omega)
  obtain ⟨k, rfl⟩ : ∃ m, k = m + 3 := ⟨k - 3, by omega⟩
  obtain ⟨ph, st, tr, as_, le, ca, co⟩ := s
  show saga_Check.f (k + 3) l ph st tr as_ le ca co = _
  unfold saga_Check.f ckI stB
  simp only [saga_Check.j0, saga_Check.j1, saga_over.f, hp, Option.bind_some]
  cases planB l with
  | false => simp
  | true =>
    simp only [if_true]
    by_cases h3 : ph = 3
    · subst h3
      cases as_ <;> cases ca <;> by_cases c1 : co < 1 <;> by_cases c2 : co > 3 <;> by_cases c3 : st = 0 <;> by_cases c4 : tr = 0 <;> by_cases c5 : le = 0 <;> simp [*] <;> omega
    · generalize rd_T38 l st = x
      obtain ⟨⟨xa, xb, xc⟩, T, W, B⟩ := x
      simp only [h3, if_false]
      by_cases c1 : ph < 1
      · rw [if_pos c1, if_neg (show ¬ (ph = 1 ∨ ph = 2) by omega)]; simp
      · rw [if_neg c1]
        by_cases c2 : ph > 3
        · rw [if_pos c2, if_neg (show ¬ (ph = 1 ∨ ph = 2) by omega)]; simp
        · rw [if_neg c2, if_pos (show (ph = 1 ∨ ph = 2) by omega)]
          by_cases c4 : st < 0
          · rw [if_pos c4, decide_eq_false (show ¬ (0 ≤ st ∧ st < (l.length : Int) ∧ co = 0) by omega)]; simp
          · rw [if_neg c4]
            by_cases c5 : st ≥ (l.length : Int)
            · rw [if_pos c5, decide_eq_false (show ¬ (0 ≤ st ∧ st < (l.length : Int) ∧ co = 0) by omega)]; simp
            · rw [if_neg c5]
              by_cases c6 : co = 0
              · subst c6
                rw [decide_eq_true (show (0 ≤ st ∧ st < (l.length : Int) ∧ (0 : Int) = 0) by omega), if_pos (show 0 ≤ st by omega), if_pos (show st < (l.length : Int) by omega)]
                have e2 : ((0 : Int) != 0) = false := rfl
                rw [e2]
                simp only [Bool.true_and, Bool.false_eq_true, if_false]
                by_cases p2 : ph = 2
                all_goals
                  cases as_ <;> cases ca <;> cases B <;> by_cases d1 : tr ≥ 1 <;> by_cases d2 : tr ≤ T <;> by_cases d3 : le ≥ 1 <;> by_cases d4 : le ≤ W <;> by_cases d5 : le = 0 <;> by_cases d6 : tr ≥ 0 <;> by_cases d7 : tr < T <;> first | (exfalso; omega) | (simp [*] <;> omega) | simp [*]
              · have e1 : (co != 0) = true := bne_iff_ne.mpr c6
                rw [e1, decide_eq_false (show ¬ (0 ≤ st ∧ st < (l.length : Int) ∧ co = 0) by omega)]; simp
end Go.Proofs.Yteefdhgfcnjpoaa.Pure
