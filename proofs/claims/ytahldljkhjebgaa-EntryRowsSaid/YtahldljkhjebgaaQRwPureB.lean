/- Plain laws on the mirror of chapter 4's functions, part B: what Row tells, and the laws EntryEpochs and EntryBegins. -/
import Derived.Test.YtahldljkhjebgaaQRwPAx1
import Derived.Test.YtahldljkhjebgaaQRwPAx5
import Derived.Test.YtahldljkhjebgaaQRwPAx0
import Derived.Test.YtahldljkhjebgaaQRwPAx2
import Derived.Test.YtahldljkhjebgaaQRwPureA
namespace Go.Proofs.Ytahldljkhjebgaa.Pure
open Go.RowKit Go.Proofs.Ytahldljkhjebgaa.PA Go.Proofs.YtahldljkhjebgaaW.PrintWords Go.Proofs.YtahldljkhjebgaaW.PrintLast Go.Proofs.YtahldljkhjebgaaW.PrintMore
set_option linter.unusedVariables false
set_option linter.unusedSimpArgs false

def chk (x : S26) : Bool := entryOk x.f0 x.f1 x.f2 x.f3 x.f4 x.f5 x.f6 x.f7 x.f8 x.f9.length x.f10.length
/-- may b stand behind a? -/
def nextOk (a b : S26) : Bool := decide (IntKind.u64.wrap (b.f1 - 1) = a.f1) && (decide (b.f2 = a.f2) || (decide (b.f0 = 1) && decide (b.f2 > a.f2)))
def okAt (l : List S26) (i : Nat) : Bool := chk (l.getD i z26) && (i == 0 || nextOk (l.getD (i - 1) z26) (l.getD i z26))
theorem check_is (x : S26) : entry_Check.f x.f0 x.f1 x.f2 x.f3 x.f4 x.f5 x.f6 x.f7 x.f8 x.f9 x.f10 = some (ansE (chk x)) := rfl
theorem rd_nat (l : List S26) (i : Nat) : rd_T26 l (i : Int) = l.getD i z26 := rfl
/-- a round of Row -/
theorem row_turn (l : List S26) (n i : Nat) (hn : l.length ≤ 1256584717459) (hi : i < n) (hnl : n ≤ l.length) (k : Nat) :
    entry_Row.l0 (k + 1) l l (n : Int) (i : Int) = bif okAt l i then entry_Row.l0 k l l (n : Int) ((i + 1 : Nat) : Int) else some ((i : Int), 41) := by
  rw [entry_Row.l0, if_pos (by omega), if_pos (by omega), if_pos (by omega), rd_nat, check_is, Option.bind_some]
  have hw : wrap64 ((i : Int) + 1) = ((i + 1 : Nat) : Int) := by rw [w64_id (by omega) (by omega)]; omega
  unfold okAt
  cases hc : chk (l.getD i z26) with
  | false => simp [ansE]
  | true =>
    simp only [ansE, if_true, Bool.true_and]
    by_cases h0 : i = 0
    · subst h0; rw [if_pos (by rfl), hw]; rfl
    · have hw2 : wrap64 ((i : Int) - 1) = ((i - 1 : Nat) : Int) := by rw [w64_id (by omega) (by omega)]; omega
      have hb : (i == 0) = false := by simp [h0]
      rw [if_neg (by omega), hw2, if_pos (by omega), if_pos (by omega), rd_nat, hw, hb, Bool.false_or]
      unfold nextOk
      generalize l.getD i z26 = b
      generalize l.getD (i - 1) z26 = a
      by_cases c1 : b.f0 = 1 <;> by_cases c2 : IntKind.u64.wrap (b.f1 - 1) = a.f1 <;> by_cases c3 : b.f2 = a.f2 <;> by_cases c4 : b.f2 > a.f2 <;> simp [c1, c2, c3, c4]
theorem row_end (l : List S26) (k : Nat) : entry_Row.l0 (k + 1) l l (l.length : Int) (l.length : Int) = some ((l.length : Int), 0) := by
  rw [entry_Row.l0, if_neg (by omega)]
/-- what Row tells: how many of the first ones may stand -/
theorem row_from (l : List S26) (hl : l.length ≤ 1256584717459) : ∀ (m i : Nat), i + m = l.length → ∃ n : Nat, i ≤ n ∧ n ≤ l.length ∧ (∀ j, i ≤ j → j < n → okAt l j = true) ∧ (n < l.length → okAt l n = false) ∧ ∀ k, m + 1 ≤ k → entry_Row.l0 k l l (l.length : Int) (i : Int) = some ((n : Int), if n = l.length then 0 else 41) := by
  intro m
  induction m with
  | zero =>
    intro i hi
    have e : i = l.length := by omega
    subst e
    refine ⟨l.length, Nat.le_refl _, Nat.le_refl _, fun j a b => by omega, fun h => absurd h (by omega), fun k hk => ?_⟩
    obtain ⟨k, rfl⟩ : ∃ q, k = q + 1 := ⟨k - 1, by omega⟩
    rw [row_end, if_pos rfl]
  | succ m ih =>
    intro i hi
    cases hc : okAt l i with
    | false =>
      refine ⟨i, Nat.le_refl _, by omega, fun j a b => by omega, fun _ => hc, fun k hk => ?_⟩
      obtain ⟨k, rfl⟩ : ∃ q, k = q + 1 := ⟨k - 1, by omega⟩
      rw [row_turn l l.length i hl (by omega) (Nat.le_refl _), hc, cond_false, if_neg (by omega)]
    | true =>
      obtain ⟨n, a, b, c, d, e⟩ := ih (i + 1) (by omega)
      refine ⟨n, by omega, b, fun j p q => ?_, d, fun k hk => ?_⟩
      · by_cases hj : j = i
        · rw [hj]; exact hc
        · exact c j (by omega) q
      · obtain ⟨k, rfl⟩ : ∃ q, k = q + 1 := ⟨k - 1, by omega⟩
        rw [row_turn l l.length i hl (by omega) (Nat.le_refl _), hc, cond_true]
        exact e k (by omega)
theorem row_is (l : List S26) (hl : l.length ≤ 1256584717459) : ∃ n : Nat, n ≤ l.length ∧ (∀ j, j < n → okAt l j = true) ∧ (n < l.length → okAt l n = false) ∧ ∀ k, l.length + 1 ≤ k → entry_Row.f k l = some ((n : Int), if n = l.length then 0 else 41) := by
  obtain ⟨n, _, b, c, d, e⟩ := row_from l hl l.length 0 (by omega)
  exact ⟨n, b, fun j h => c j (by omega) h, d, fun k hk => e k (by omega)⟩

theorem chk_num {x : S26} (h : chk x = true) : x.f1 ≠ 0 ∧ x.f2 ≠ 0 := by
  unfold chk entryOk at h
  constructor
  · intro e; rw [e] at h; simp at h
  · intro e; rw [e] at h; by_cases q : x.f1 = 0 <;> simp [q] at h
/-! EntryEpochs -/

/-! EntryBegins -/

end Go.Proofs.Ytahldljkhjebgaa.Pure
