/- The walk of function 60 (names), told by the verified walk VX, and its contract. -/
import Derived.Test.YtgghljienippgaaVX
import Derived.Test.YtgghljienippgaaProg
import Derived.Test.YtgghljienippgaaVM
import Derived.Test.YtgghljienippgaaVN
namespace Go.VX
open Go.Proofs
open Go.RowKit (Below)
set_option linter.unusedVariables false
set_option linter.unusedSimpArgs false
set_option maxRecDepth 100000
open Go.VX.M17

theorem walk_names_0 (n : Nat)  (w : World) (Q : Value → Prop) : (∀ (g0 : Nat), Array.size w.heap ≤ g0 → Go.VX.br (Decidable.decide (Int.negSucc n < 1) && Bool.true) (Go.VX.Done (Q (Go.Value.string (ByteArray.mk #[])))) ((0 ≤ Int.negSucc n ∧ Int.negSucc n < 14) ∧ g0 = g0 ∧ Go.VX.Done (Q (Go.Value.string (ByteArray.mk #[]))))) = codeVC (⟨TT.plain _, (fun f => false), noFar, true, noInv, noInv, noPV, noCV w⟩ : Cfg Try.prog) w 200 (Try.f60.body.getD .skip) ⟨⟨w, []⟩, mkT Try.f60.ntmps [.int .i64 (Int.negSucc n)] [], []⟩ (retK Try.prog Try.f60 fun b v s h => newK h (Done (Q v))) := by
  kernel_rfl

theorem walk_names_1  (w : World) (Q : Value → Prop) : (∀ (g0 : Nat), Array.size w.heap ≤ g0 → Go.VX.Done (Q (Go.Value.string (ByteArray.mk #[])))) = codeVC (⟨TT.plain _, (fun f => false), noFar, true, noInv, noInv, noPV, noCV w⟩ : Cfg Try.prog) w 200 (Try.f60.body.getD .skip) ⟨⟨w, []⟩, mkT Try.f60.ntmps [.int .i64 0] [], []⟩ (retK Try.prog Try.f60 fun b v s h => newK h (Done (Q v))) := by
  kernel_rfl

theorem walk_names_2  (w : World) (Q : Value → Prop) : (∀ (g0 : Nat), Array.size w.heap ≤ g0 → (Int.le 0 1 ∧ Int.lt 1 14) ∧ g0 = g0 ∧ Go.VX.Done (Q (Go.Value.string (ByteArray.mk #[69, 80, 76, 68])))) = codeVC (⟨TT.plain _, (fun f => false), noFar, true, noInv, noInv, noPV, noCV w⟩ : Cfg Try.prog) w 200 (Try.f60.body.getD .skip) ⟨⟨w, []⟩, mkT Try.f60.ntmps [.int .i64 1] [], []⟩ (retK Try.prog Try.f60 fun b v s h => newK h (Done (Q v))) := by
  kernel_rfl

theorem walk_names_3  (w : World) (Q : Value → Prop) : (∀ (g0 : Nat), Array.size w.heap ≤ g0 → (Int.le 0 2 ∧ Int.lt 2 14) ∧ g0 = g0 ∧ Go.VX.Done (Q (Go.Value.string (ByteArray.mk #[69, 76])))) = codeVC (⟨TT.plain _, (fun f => false), noFar, true, noInv, noInv, noPV, noCV w⟩ : Cfg Try.prog) w 200 (Try.f60.body.getD .skip) ⟨⟨w, []⟩, mkT Try.f60.ntmps [.int .i64 2] [], []⟩ (retK Try.prog Try.f60 fun b v s h => newK h (Done (Q v))) := by
  kernel_rfl

theorem walk_names_4  (w : World) (Q : Value → Prop) : (∀ (g0 : Nat), Array.size w.heap ≤ g0 → (Int.le 0 3 ∧ Int.lt 3 14) ∧ g0 = g0 ∧ Go.VX.Done (Q (Go.Value.string (ByteArray.mk #[69, 76])))) = codeVC (⟨TT.plain _, (fun f => false), noFar, true, noInv, noInv, noPV, noCV w⟩ : Cfg Try.prog) w 200 (Try.f60.body.getD .skip) ⟨⟨w, []⟩, mkT Try.f60.ntmps [.int .i64 3] [], []⟩ (retK Try.prog Try.f60 fun b v s h => newK h (Done (Q v))) := by
  kernel_rfl

theorem walk_names_5  (w : World) (Q : Value → Prop) : (∀ (g0 : Nat), Array.size w.heap ≤ g0 → (Int.le 0 4 ∧ Int.lt 4 14) ∧ g0 = g0 ∧ Go.VX.Done (Q (Go.Value.string (ByteArray.mk #[69, 67])))) = codeVC (⟨TT.plain _, (fun f => false), noFar, true, noInv, noInv, noPV, noCV w⟩ : Cfg Try.prog) w 200 (Try.f60.body.getD .skip) ⟨⟨w, []⟩, mkT Try.f60.ntmps [.int .i64 4] [], []⟩ (retK Try.prog Try.f60 fun b v s h => newK h (Done (Q v))) := by
  kernel_rfl

theorem walk_names_6  (w : World) (Q : Value → Prop) : (∀ (g0 : Nat), Array.size w.heap ≤ g0 → (Int.le 0 5 ∧ Int.lt 5 14) ∧ g0 = g0 ∧ Go.VX.Done (Q (Go.Value.string (ByteArray.mk #[69, 84, 67])))) = codeVC (⟨TT.plain _, (fun f => false), noFar, true, noInv, noInv, noPV, noCV w⟩ : Cfg Try.prog) w 200 (Try.f60.body.getD .skip) ⟨⟨w, []⟩, mkT Try.f60.ntmps [.int .i64 5] [], []⟩ (retK Try.prog Try.f60 fun b v s h => newK h (Done (Q v))) := by
  kernel_rfl

theorem walk_names_7  (w : World) (Q : Value → Prop) : (∀ (g0 : Nat), Array.size w.heap ≤ g0 → (Int.le 0 6 ∧ Int.lt 6 14) ∧ g0 = g0 ∧ Go.VX.Done (Q (Go.Value.string (ByteArray.mk #[69, 67])))) = codeVC (⟨TT.plain _, (fun f => false), noFar, true, noInv, noInv, noPV, noCV w⟩ : Cfg Try.prog) w 200 (Try.f60.body.getD .skip) ⟨⟨w, []⟩, mkT Try.f60.ntmps [.int .i64 6] [], []⟩ (retK Try.prog Try.f60 fun b v s h => newK h (Done (Q v))) := by
  kernel_rfl

theorem walk_names_8  (w : World) (Q : Value → Prop) : (∀ (g0 : Nat), Array.size w.heap ≤ g0 → (Int.le 0 7 ∧ Int.lt 7 14) ∧ g0 = g0 ∧ Go.VX.Done (Q (Go.Value.string (ByteArray.mk #[69, 79, 83, 85, 68])))) = codeVC (⟨TT.plain _, (fun f => false), noFar, true, noInv, noInv, noPV, noCV w⟩ : Cfg Try.prog) w 200 (Try.f60.body.getD .skip) ⟨⟨w, []⟩, mkT Try.f60.ntmps [.int .i64 7] [], []⟩ (retK Try.prog Try.f60 fun b v s h => newK h (Done (Q v))) := by
  kernel_rfl

theorem walk_names_9  (w : World) (Q : Value → Prop) : (∀ (g0 : Nat), Array.size w.heap ≤ g0 → (Int.le 0 8 ∧ Int.lt 8 14) ∧ g0 = g0 ∧ Go.VX.Done (Q (Go.Value.string (ByteArray.mk #[69, 79, 83, 85, 67, 68])))) = codeVC (⟨TT.plain _, (fun f => false), noFar, true, noInv, noInv, noPV, noCV w⟩ : Cfg Try.prog) w 200 (Try.f60.body.getD .skip) ⟨⟨w, []⟩, mkT Try.f60.ntmps [.int .i64 8] [], []⟩ (retK Try.prog Try.f60 fun b v s h => newK h (Done (Q v))) := by
  kernel_rfl

theorem walk_names_10  (w : World) (Q : Value → Prop) : (∀ (g0 : Nat), Array.size w.heap ≤ g0 → (Int.le 0 9 ∧ Int.lt 9 14) ∧ g0 = g0 ∧ Go.VX.Done (Q (Go.Value.string (ByteArray.mk #[69, 79, 83, 85])))) = codeVC (⟨TT.plain _, (fun f => false), noFar, true, noInv, noInv, noPV, noCV w⟩ : Cfg Try.prog) w 200 (Try.f60.body.getD .skip) ⟨⟨w, []⟩, mkT Try.f60.ntmps [.int .i64 9] [], []⟩ (retK Try.prog Try.f60 fun b v s h => newK h (Done (Q v))) := by
  kernel_rfl

theorem walk_names_11  (w : World) (Q : Value → Prop) : (∀ (g0 : Nat), Array.size w.heap ≤ g0 → (Int.le 0 10 ∧ Int.lt 10 14) ∧ g0 = g0 ∧ Go.VX.Done (Q (Go.Value.string (ByteArray.mk #[75, 68])))) = codeVC (⟨TT.plain _, (fun f => false), noFar, true, noInv, noInv, noPV, noCV w⟩ : Cfg Try.prog) w 200 (Try.f60.body.getD .skip) ⟨⟨w, []⟩, mkT Try.f60.ntmps [.int .i64 10] [], []⟩ (retK Try.prog Try.f60 fun b v s h => newK h (Done (Q v))) := by
  kernel_rfl

theorem walk_names_12  (w : World) (Q : Value → Prop) : (∀ (g0 : Nat), Array.size w.heap ≤ g0 → (Int.le 0 11 ∧ Int.lt 11 14) ∧ g0 = g0 ∧ Go.VX.Done (Q (Go.Value.string (ByteArray.mk #[75])))) = codeVC (⟨TT.plain _, (fun f => false), noFar, true, noInv, noInv, noPV, noCV w⟩ : Cfg Try.prog) w 200 (Try.f60.body.getD .skip) ⟨⟨w, []⟩, mkT Try.f60.ntmps [.int .i64 11] [], []⟩ (retK Try.prog Try.f60 fun b v s h => newK h (Done (Q v))) := by
  kernel_rfl

theorem walk_names_13  (w : World) (Q : Value → Prop) : (∀ (g0 : Nat), Array.size w.heap ≤ g0 → (Int.le 0 12 ∧ Int.lt 12 14) ∧ g0 = g0 ∧ Go.VX.Done (Q (Go.Value.string (ByteArray.mk #[75])))) = codeVC (⟨TT.plain _, (fun f => false), noFar, true, noInv, noInv, noPV, noCV w⟩ : Cfg Try.prog) w 200 (Try.f60.body.getD .skip) ⟨⟨w, []⟩, mkT Try.f60.ntmps [.int .i64 12] [], []⟩ (retK Try.prog Try.f60 fun b v s h => newK h (Done (Q v))) := by
  kernel_rfl

theorem walk_names_14  (w : World) (Q : Value → Prop) : (∀ (g0 : Nat), Array.size w.heap ≤ g0 → (Int.le 0 13 ∧ Int.lt 13 14) ∧ g0 = g0 ∧ Go.VX.Done (Q (Go.Value.string (ByteArray.mk #[79, 67, 75, 68])))) = codeVC (⟨TT.plain _, (fun f => false), noFar, true, noInv, noInv, noPV, noCV w⟩ : Cfg Try.prog) w 200 (Try.f60.body.getD .skip) ⟨⟨w, []⟩, mkT Try.f60.ntmps [.int .i64 13] [], []⟩ (retK Try.prog Try.f60 fun b v s h => newK h (Done (Q v))) := by
  kernel_rfl

theorem walk_names_15 (n : Nat)  (w : World) (Q : Value → Prop) : (∀ (g0 : Nat), Array.size w.heap ≤ g0 → Go.VX.br (Bool.false || Decidable.decide (Int.ofNat (n + 14) > 13)) (Go.VX.Done (Q (Go.Value.string (ByteArray.mk #[])))) ((0 ≤ Int.ofNat (n + 14) ∧ Int.ofNat (n + 14) < 14) ∧ g0 = g0 ∧ False)) = codeVC (⟨TT.plain _, (fun f => false), noFar, true, noInv, noInv, noPV, noCV w⟩ : Cfg Try.prog) w 200 (Try.f60.body.getD .skip) ⟨⟨w, []⟩, mkT Try.f60.ntmps [.int .i64 (Int.ofNat (n + 14))] [], []⟩ (retK Try.prog Try.f60 fun b v s h => newK h (Done (Q v))) := by
  kernel_rfl

theorem names_calls (k : Int)  (w : World) : Calls Try.prog 60 ([.int .i64 k] : List Value).toArray w fun en w' => en = .returned (.string (mNames k)) ∧ Below w.heap.size w w' := by
  by_cases hk : 1 ≤ k ∧ k ≤ 13
  · rcases (by omega : k = 1 ∨ k = 2 ∨ k = 3 ∨ k = 4 ∨ k = 5 ∨ k = 6 ∨ k = 7 ∨ k = 8 ∨ k = 9 ∨ k = 10 ∨ k = 11 ∨ k = 12 ∨ k = 13) with rfl | rfl | rfl | rfl | rfl | rfl | rfl | rfl | rfl | rfl | rfl | rfl | rfl
    · refine calls_eq (calls_pure (G := (⟨TT.plain _, (fun f => false), noFar, true, noInv, noInv, noPV, noCV w⟩ : Cfg Try.prog)) (noCV_ok' Try.prog w) (noPV_ok Try.prog) 200 Try.func60 rfl (Q := fun v => v = .string (mNames 1)) ((walk_names_2  w (fun v => v = .string (mNames 1))).mp ?_))
      (repeat' (first | intro _ | apply And.intro | apply br_intro)) <;> all_goals first | rfl | decide | (show (_ : Int) ≤ _; decide) | (show (_ : Int) < _; decide) | assumption | exact True.intro | (refine Done.mk ?_; rfl) | (exfalso; simp only [Bool.and_true, Bool.true_and, Bool.false_or, Bool.or_false, decide_eq_false_iff_not, decide_eq_true_eq, Int.not_lt, Int.not_le, gt_iff_lt, Int.ofNat_eq_natCast] at *; omega)
    · refine calls_eq (calls_pure (G := (⟨TT.plain _, (fun f => false), noFar, true, noInv, noInv, noPV, noCV w⟩ : Cfg Try.prog)) (noCV_ok' Try.prog w) (noPV_ok Try.prog) 200 Try.func60 rfl (Q := fun v => v = .string (mNames 2)) ((walk_names_3  w (fun v => v = .string (mNames 2))).mp ?_))
      (repeat' (first | intro _ | apply And.intro | apply br_intro)) <;> all_goals first | rfl | decide | (show (_ : Int) ≤ _; decide) | (show (_ : Int) < _; decide) | assumption | exact True.intro | (refine Done.mk ?_; rfl) | (exfalso; simp only [Bool.and_true, Bool.true_and, Bool.false_or, Bool.or_false, decide_eq_false_iff_not, decide_eq_true_eq, Int.not_lt, Int.not_le, gt_iff_lt, Int.ofNat_eq_natCast] at *; omega)
    · refine calls_eq (calls_pure (G := (⟨TT.plain _, (fun f => false), noFar, true, noInv, noInv, noPV, noCV w⟩ : Cfg Try.prog)) (noCV_ok' Try.prog w) (noPV_ok Try.prog) 200 Try.func60 rfl (Q := fun v => v = .string (mNames 3)) ((walk_names_4  w (fun v => v = .string (mNames 3))).mp ?_))
      (repeat' (first | intro _ | apply And.intro | apply br_intro)) <;> all_goals first | rfl | decide | (show (_ : Int) ≤ _; decide) | (show (_ : Int) < _; decide) | assumption | exact True.intro | (refine Done.mk ?_; rfl) | (exfalso; simp only [Bool.and_true, Bool.true_and, Bool.false_or, Bool.or_false, decide_eq_false_iff_not, decide_eq_true_eq, Int.not_lt, Int.not_le, gt_iff_lt, Int.ofNat_eq_natCast] at *; omega)
    · refine calls_eq (calls_pure (G := (⟨TT.plain _, (fun f => false), noFar, true, noInv, noInv, noPV, noCV w⟩ : Cfg Try.prog)) (noCV_ok' Try.prog w) (noPV_ok Try.prog) 200 Try.func60 rfl (Q := fun v => v = .string (mNames 4)) ((walk_names_5  w (fun v => v = .string (mNames 4))).mp ?_))
      (repeat' (first | intro _ | apply And.intro | apply br_intro)) <;> all_goals first | rfl | decide | (show (_ : Int) ≤ _; decide) | (show (_ : Int) < _; decide) | assumption | exact True.intro | (refine Done.mk ?_; rfl) | (exfalso; simp only [Bool.and_true, Bool.true_and, Bool.false_or, Bool.or_false, decide_eq_false_iff_not, decide_eq_true_eq, Int.not_lt, Int.not_le, gt_iff_lt, Int.ofNat_eq_natCast] at *; omega)
    · refine calls_eq (calls_pure (G := (⟨TT.plain _, (fun f => false), noFar, true, noInv, noInv, noPV, noCV w⟩ : Cfg Try.prog)) (noCV_ok' Try.prog w) (noPV_ok Try.prog) 200 Try.func60 rfl (Q := fun v => v = .string (mNames 5)) ((walk_names_6  w (fun v => v = .string (mNames 5))).mp ?_))
      (repeat' (first | intro _ | apply And.intro | apply br_intro)) <;> all_goals first | rfl | decide | (show (_ : Int) ≤ _; decide) | (show (_ : Int) < _; decide) | assumption | exact True.intro | (refine Done.mk ?_; rfl) | (exfalso; simp only [Bool.and_true, Bool.true_and, Bool.false_or, Bool.or_false, decide_eq_false_iff_not, decide_eq_true_eq, Int.not_lt, Int.not_le, gt_iff_lt, Int.ofNat_eq_natCast] at *; omega)
    · refine calls_eq (calls_pure (G := (⟨TT.plain _, (fun f => false), noFar, true, noInv, noInv, noPV, noCV w⟩ : Cfg Try.prog)) (noCV_ok' Try.prog w) (noPV_ok Try.prog) 200 Try.func60 rfl (Q := fun v => v = .string (mNames 6)) ((walk_names_7  w (fun v => v = .string (mNames 6))).mp ?_))
      (repeat' (first | intro _ | apply And.intro | apply br_intro)) <;> all_goals first | rfl | decide | (show (_ : Int) ≤ _; decide) | (show (_ : Int) < _; decide) | assumption | exact True.intro | (refine Done.mk ?_; rfl) | (exfalso; simp only [Bool.and_true, Bool.true_and, Bool.false_or, Bool.or_false, decide_eq_false_iff_not, decide_eq_true_eq, Int.not_lt, Int.not_le, gt_iff_lt, Int.ofNat_eq_natCast] at *; omega)
    · refine calls_eq (calls_pure (G := (⟨TT.plain _, (fun f => false), noFar, true, noInv, noInv, noPV, noCV w⟩ : Cfg Try.prog)) (noCV_ok' Try.prog w) (noPV_ok Try.prog) 200 Try.func60 rfl (Q := fun v => v = .string (mNames 7)) ((walk_names_8  w (fun v => v = .string (mNames 7))).mp ?_))
      (repeat' (first | intro _ | apply And.intro | apply br_intro)) <;> all_goals first | rfl | decide | (show (_ : Int) ≤ _; decide) | (show (_ : Int) < _; decide) | assumption | exact True.intro | (refine Done.mk ?_; rfl) | (exfalso; simp only [Bool.and_true, Bool.true_and, Bool.false_or, Bool.or_false, decide_eq_false_iff_not, decide_eq_true_eq, Int.not_lt, Int.not_le, gt_iff_lt, Int.ofNat_eq_natCast] at *; omega)
    · refine calls_eq (calls_pure (G := (⟨TT.plain _, (fun f => false), noFar, true, noInv, noInv, noPV, noCV w⟩ : Cfg Try.prog)) (noCV_ok' Try.prog w) (noPV_ok Try.prog) 200 Try.func60 rfl (Q := fun v => v = .string (mNames 8)) ((walk_names_9  w (fun v => v = .string (mNames 8))).mp ?_))
      (repeat' (first | intro _ | apply And.intro | apply br_intro)) <;> all_goals first | rfl | decide | (show (_ : Int) ≤ _; decide) | (show (_ : Int) < _; decide) | assumption | exact True.intro | (refine Done.mk ?_; rfl) | (exfalso; simp only [Bool.and_true, Bool.true_and, Bool.false_or, Bool.or_false, decide_eq_false_iff_not, decide_eq_true_eq, Int.not_lt, Int.not_le, gt_iff_lt, Int.ofNat_eq_natCast] at *; omega)
    · refine calls_eq (calls_pure (G := (⟨TT.plain _, (fun f => false), noFar, true, noInv, noInv, noPV, noCV w⟩ : Cfg Try.prog)) (noCV_ok' Try.prog w) (noPV_ok Try.prog) 200 Try.func60 rfl (Q := fun v => v = .string (mNames 9)) ((walk_names_10  w (fun v => v = .string (mNames 9))).mp ?_))
      (repeat' (first | intro _ | apply And.intro | apply br_intro)) <;> all_goals first | rfl | decide | (show (_ : Int) ≤ _; decide) | (show (_ : Int) < _; decide) | assumption | exact True.intro | (refine Done.mk ?_; rfl) | (exfalso; simp only [Bool.and_true, Bool.true_and, Bool.false_or, Bool.or_false, decide_eq_false_iff_not, decide_eq_true_eq, Int.not_lt, Int.not_le, gt_iff_lt, Int.ofNat_eq_natCast] at *; omega)
    · refine calls_eq (calls_pure (G := (⟨TT.plain _, (fun f => false), noFar, true, noInv, noInv, noPV, noCV w⟩ : Cfg Try.prog)) (noCV_ok' Try.prog w) (noPV_ok Try.prog) 200 Try.func60 rfl (Q := fun v => v = .string (mNames 10)) ((walk_names_11  w (fun v => v = .string (mNames 10))).mp ?_))
      (repeat' (first | intro _ | apply And.intro | apply br_intro)) <;> all_goals first | rfl | decide | (show (_ : Int) ≤ _; decide) | (show (_ : Int) < _; decide) | assumption | exact True.intro | (refine Done.mk ?_; rfl) | (exfalso; simp only [Bool.and_true, Bool.true_and, Bool.false_or, Bool.or_false, decide_eq_false_iff_not, decide_eq_true_eq, Int.not_lt, Int.not_le, gt_iff_lt, Int.ofNat_eq_natCast] at *; omega)
    · refine calls_eq (calls_pure (G := (⟨TT.plain _, (fun f => false), noFar, true, noInv, noInv, noPV, noCV w⟩ : Cfg Try.prog)) (noCV_ok' Try.prog w) (noPV_ok Try.prog) 200 Try.func60 rfl (Q := fun v => v = .string (mNames 11)) ((walk_names_12  w (fun v => v = .string (mNames 11))).mp ?_))
      (repeat' (first | intro _ | apply And.intro | apply br_intro)) <;> all_goals first | rfl | decide | (show (_ : Int) ≤ _; decide) | (show (_ : Int) < _; decide) | assumption | exact True.intro | (refine Done.mk ?_; rfl) | (exfalso; simp only [Bool.and_true, Bool.true_and, Bool.false_or, Bool.or_false, decide_eq_false_iff_not, decide_eq_true_eq, Int.not_lt, Int.not_le, gt_iff_lt, Int.ofNat_eq_natCast] at *; omega)
    · refine calls_eq (calls_pure (G := (⟨TT.plain _, (fun f => false), noFar, true, noInv, noInv, noPV, noCV w⟩ : Cfg Try.prog)) (noCV_ok' Try.prog w) (noPV_ok Try.prog) 200 Try.func60 rfl (Q := fun v => v = .string (mNames 12)) ((walk_names_13  w (fun v => v = .string (mNames 12))).mp ?_))
      (repeat' (first | intro _ | apply And.intro | apply br_intro)) <;> all_goals first | rfl | decide | (show (_ : Int) ≤ _; decide) | (show (_ : Int) < _; decide) | assumption | exact True.intro | (refine Done.mk ?_; rfl) | (exfalso; simp only [Bool.and_true, Bool.true_and, Bool.false_or, Bool.or_false, decide_eq_false_iff_not, decide_eq_true_eq, Int.not_lt, Int.not_le, gt_iff_lt, Int.ofNat_eq_natCast] at *; omega)
    · refine calls_eq (calls_pure (G := (⟨TT.plain _, (fun f => false), noFar, true, noInv, noInv, noPV, noCV w⟩ : Cfg Try.prog)) (noCV_ok' Try.prog w) (noPV_ok Try.prog) 200 Try.func60 rfl (Q := fun v => v = .string (mNames 13)) ((walk_names_14  w (fun v => v = .string (mNames 13))).mp ?_))
      (repeat' (first | intro _ | apply And.intro | apply br_intro)) <;> all_goals first | rfl | decide | (show (_ : Int) ≤ _; decide) | (show (_ : Int) < _; decide) | assumption | exact True.intro | (refine Done.mk ?_; rfl) | (exfalso; simp only [Bool.and_true, Bool.true_and, Bool.false_or, Bool.or_false, decide_eq_false_iff_not, decide_eq_true_eq, Int.not_lt, Int.not_le, gt_iff_lt, Int.ofNat_eq_natCast] at *; omega)
  · cases k with
    | negSucc n =>
      refine calls_eq (calls_pure (G := (⟨TT.plain _, (fun f => false), noFar, true, noInv, noInv, noPV, noCV w⟩ : Cfg Try.prog)) (noCV_ok' Try.prog w) (noPV_ok Try.prog) 200 Try.func60 rfl (Q := fun v => v = .string (mNames (Int.negSucc n))) ((walk_names_0 n  w (fun v => v = .string (mNames (Int.negSucc n)))).mp ?_))
      (repeat' (first | intro _ | apply And.intro | apply br_intro)) <;> all_goals first | rfl | decide | (show (_ : Int) ≤ _; decide) | (show (_ : Int) < _; decide) | assumption | exact True.intro | (refine Done.mk ?_; rfl) | (exfalso; simp only [Bool.and_true, Bool.true_and, Bool.false_or, Bool.or_false, decide_eq_false_iff_not, decide_eq_true_eq, Int.not_lt, Int.not_le, gt_iff_lt, Int.ofNat_eq_natCast] at *; omega)
    | ofNat m =>
      by_cases h0 : m = 0
      · subst h0
        refine calls_eq (calls_pure (G := (⟨TT.plain _, (fun f => false), noFar, true, noInv, noInv, noPV, noCV w⟩ : Cfg Try.prog)) (noCV_ok' Try.prog w) (noPV_ok Try.prog) 200 Try.func60 rfl (Q := fun v => v = .string (mNames 0)) ((walk_names_1  w (fun v => v = .string (mNames 0))).mp ?_))
        (repeat' (first | intro _ | apply And.intro | apply br_intro)) <;> all_goals first | rfl | decide | (show (_ : Int) ≤ _; decide) | (show (_ : Int) < _; decide) | assumption | exact True.intro | (refine Done.mk ?_; rfl) | (exfalso; simp only [Bool.and_true, Bool.true_and, Bool.false_or, Bool.or_false, decide_eq_false_iff_not, decide_eq_true_eq, Int.not_lt, Int.not_le, gt_iff_lt, Int.ofNat_eq_natCast] at *; omega)
      · obtain ⟨n, rfl⟩ : ∃ n, m = n + 14 := ⟨m - 14, by simp only [Int.ofNat_eq_natCast] at hk; omega⟩
        refine calls_eq (calls_pure (G := (⟨TT.plain _, (fun f => false), noFar, true, noInv, noInv, noPV, noCV w⟩ : Cfg Try.prog)) (noCV_ok' Try.prog w) (noPV_ok Try.prog) 200 Try.func60 rfl (Q := fun v => v = .string (mNames (Int.ofNat (n + 14)))) ((walk_names_15 n  w (fun v => v = .string (mNames (Int.ofNat (n + 14))))).mp ?_))
        (repeat' (first | intro _ | apply And.intro | apply br_intro)) <;> all_goals first | rfl | decide | (show (_ : Int) ≤ _; decide) | (show (_ : Int) < _; decide) | assumption | exact True.intro | (refine Done.mk ?_; rfl) | (exfalso; simp only [Bool.and_true, Bool.true_and, Bool.false_or, Bool.or_false, decide_eq_false_iff_not, decide_eq_true_eq, Int.not_lt, Int.not_le, gt_iff_lt, Int.ofNat_eq_natCast] at *; omega)

def pvnames : PV := addPV 60 (fun | [.int .i64 k] => some (none, .string (mNames k)) | _ => none) noPV
theorem pvnames_ok (P : Program) (hP : P = Try.prog) : PVok P pvnames := by
  subst hP
  refine addPV_ok (fun args p v w h hp => ?_) (noPV_ok _)
  split at h
  · cases h; exact names_calls _ w
  · cases h

end Go.VX
