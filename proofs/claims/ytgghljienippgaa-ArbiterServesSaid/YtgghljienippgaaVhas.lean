/- The walk of function 62 (has), told by the verified walk VX, and its contract. -/
import Derived.Test.YtgghljienippgaaVX
import Derived.Test.YtgghljienippgaaProg
import Derived.Test.YtgghljienippgaaVM
import Derived.Test.YtgghljienippgaaVN
import Derived.Test.YtgghljienippgaaVnames
namespace Go.VX
open Go.Proofs
open Go.RowKit (Below)
set_option linter.unusedVariables false
set_option linter.unusedSimpArgs false
set_option maxRecDepth 100000
open Go.VX.M17

theorem walk_has_0 (n : Nat) (p : Int) (w : World) (Q : Value → Prop) : (Go.VX.Done (Q (Go.Value.bool Bool.false))) = codeVC (⟨TT.plain _, (fun f => false), noFar, true, noInv, noInv, pvnames, noCV w⟩ : Cfg Try.prog) w 200 (Try.f62.body.getD .skip) ⟨⟨w, []⟩, mkT Try.f62.ntmps [.int .i64 (Int.negSucc n), .int .u8 p] [], []⟩ (retK Try.prog Try.f62 fun b v s h => newK h (Done (Q v))) := by
  kernel_rfl

theorem walk_has_1 (p : Int) (w : World) (Q : Value → Prop) : (Go.VX.Done (Q (Go.Value.bool Bool.false))) = codeVC (⟨TT.plain _, (fun f => false), noFar, true, noInv, noInv, pvnames, noCV w⟩ : Cfg Try.prog) w 200 (Try.f62.body.getD .skip) ⟨⟨w, []⟩, mkT Try.f62.ntmps [.int .i64 0, .int .u8 p] [], []⟩ (retK Try.prog Try.f62 fun b v s h => newK h (Done (Q v))) := by
  kernel_rfl

theorem walk_has_2 (p : Int) (w : World) (Q : Value → Prop) : (Go.VX.br (69 == p) (Go.VX.Done (Q (Go.Value.bool Bool.true))) (Go.VX.br (80 == p) (Go.VX.Done (Q (Go.Value.bool Bool.true))) (Go.VX.br (76 == p) (Go.VX.Done (Q (Go.Value.bool Bool.true))) (Go.VX.br (68 == p) (Go.VX.Done (Q (Go.Value.bool Bool.true))) (Go.VX.Done (Q (Go.Value.bool Bool.false))))))) = codeVC (⟨TT.plain _, (fun f => false), noFar, true, noInv, noInv, pvnames, noCV w⟩ : Cfg Try.prog) w 200 (Try.f62.body.getD .skip) ⟨⟨w, []⟩, mkT Try.f62.ntmps [.int .i64 1, .int .u8 p] [], []⟩ (retK Try.prog Try.f62 fun b v s h => newK h (Done (Q v))) := by
  kernel_rfl

theorem walk_has_3 (p : Int) (w : World) (Q : Value → Prop) : (Go.VX.br (69 == p) (Go.VX.Done (Q (Go.Value.bool Bool.true))) (Go.VX.br (76 == p) (Go.VX.Done (Q (Go.Value.bool Bool.true))) (Go.VX.Done (Q (Go.Value.bool Bool.false))))) = codeVC (⟨TT.plain _, (fun f => false), noFar, true, noInv, noInv, pvnames, noCV w⟩ : Cfg Try.prog) w 200 (Try.f62.body.getD .skip) ⟨⟨w, []⟩, mkT Try.f62.ntmps [.int .i64 2, .int .u8 p] [], []⟩ (retK Try.prog Try.f62 fun b v s h => newK h (Done (Q v))) := by
  kernel_rfl

theorem walk_has_4 (p : Int) (w : World) (Q : Value → Prop) : (Go.VX.br (69 == p) (Go.VX.Done (Q (Go.Value.bool Bool.true))) (Go.VX.br (76 == p) (Go.VX.Done (Q (Go.Value.bool Bool.true))) (Go.VX.Done (Q (Go.Value.bool Bool.false))))) = codeVC (⟨TT.plain _, (fun f => false), noFar, true, noInv, noInv, pvnames, noCV w⟩ : Cfg Try.prog) w 200 (Try.f62.body.getD .skip) ⟨⟨w, []⟩, mkT Try.f62.ntmps [.int .i64 3, .int .u8 p] [], []⟩ (retK Try.prog Try.f62 fun b v s h => newK h (Done (Q v))) := by
  kernel_rfl

theorem walk_has_5 (p : Int) (w : World) (Q : Value → Prop) : (Go.VX.br (69 == p) (Go.VX.Done (Q (Go.Value.bool Bool.true))) (Go.VX.br (67 == p) (Go.VX.Done (Q (Go.Value.bool Bool.true))) (Go.VX.Done (Q (Go.Value.bool Bool.false))))) = codeVC (⟨TT.plain _, (fun f => false), noFar, true, noInv, noInv, pvnames, noCV w⟩ : Cfg Try.prog) w 200 (Try.f62.body.getD .skip) ⟨⟨w, []⟩, mkT Try.f62.ntmps [.int .i64 4, .int .u8 p] [], []⟩ (retK Try.prog Try.f62 fun b v s h => newK h (Done (Q v))) := by
  kernel_rfl

theorem walk_has_6 (p : Int) (w : World) (Q : Value → Prop) : (Go.VX.br (69 == p) (Go.VX.Done (Q (Go.Value.bool Bool.true))) (Go.VX.br (84 == p) (Go.VX.Done (Q (Go.Value.bool Bool.true))) (Go.VX.br (67 == p) (Go.VX.Done (Q (Go.Value.bool Bool.true))) (Go.VX.Done (Q (Go.Value.bool Bool.false)))))) = codeVC (⟨TT.plain _, (fun f => false), noFar, true, noInv, noInv, pvnames, noCV w⟩ : Cfg Try.prog) w 200 (Try.f62.body.getD .skip) ⟨⟨w, []⟩, mkT Try.f62.ntmps [.int .i64 5, .int .u8 p] [], []⟩ (retK Try.prog Try.f62 fun b v s h => newK h (Done (Q v))) := by
  kernel_rfl

theorem walk_has_7 (p : Int) (w : World) (Q : Value → Prop) : (Go.VX.br (69 == p) (Go.VX.Done (Q (Go.Value.bool Bool.true))) (Go.VX.br (67 == p) (Go.VX.Done (Q (Go.Value.bool Bool.true))) (Go.VX.Done (Q (Go.Value.bool Bool.false))))) = codeVC (⟨TT.plain _, (fun f => false), noFar, true, noInv, noInv, pvnames, noCV w⟩ : Cfg Try.prog) w 200 (Try.f62.body.getD .skip) ⟨⟨w, []⟩, mkT Try.f62.ntmps [.int .i64 6, .int .u8 p] [], []⟩ (retK Try.prog Try.f62 fun b v s h => newK h (Done (Q v))) := by
  kernel_rfl

theorem walk_has_8 (p : Int) (w : World) (Q : Value → Prop) : (Go.VX.br (69 == p) (Go.VX.Done (Q (Go.Value.bool Bool.true))) (Go.VX.br (79 == p) (Go.VX.Done (Q (Go.Value.bool Bool.true))) (Go.VX.br (83 == p) (Go.VX.Done (Q (Go.Value.bool Bool.true))) (Go.VX.br (85 == p) (Go.VX.Done (Q (Go.Value.bool Bool.true))) (Go.VX.br (68 == p) (Go.VX.Done (Q (Go.Value.bool Bool.true))) (Go.VX.Done (Q (Go.Value.bool Bool.false)))))))) = codeVC (⟨TT.plain _, (fun f => false), noFar, true, noInv, noInv, pvnames, noCV w⟩ : Cfg Try.prog) w 200 (Try.f62.body.getD .skip) ⟨⟨w, []⟩, mkT Try.f62.ntmps [.int .i64 7, .int .u8 p] [], []⟩ (retK Try.prog Try.f62 fun b v s h => newK h (Done (Q v))) := by
  kernel_rfl

theorem walk_has_9 (p : Int) (w : World) (Q : Value → Prop) : (Go.VX.br (69 == p) (Go.VX.Done (Q (Go.Value.bool Bool.true))) (Go.VX.br (79 == p) (Go.VX.Done (Q (Go.Value.bool Bool.true))) (Go.VX.br (83 == p) (Go.VX.Done (Q (Go.Value.bool Bool.true))) (Go.VX.br (85 == p) (Go.VX.Done (Q (Go.Value.bool Bool.true))) (Go.VX.br (67 == p) (Go.VX.Done (Q (Go.Value.bool Bool.true))) (Go.VX.br (68 == p) (Go.VX.Done (Q (Go.Value.bool Bool.true))) (Go.VX.Done (Q (Go.Value.bool Bool.false))))))))) = codeVC (⟨TT.plain _, (fun f => false), noFar, true, noInv, noInv, pvnames, noCV w⟩ : Cfg Try.prog) w 200 (Try.f62.body.getD .skip) ⟨⟨w, []⟩, mkT Try.f62.ntmps [.int .i64 8, .int .u8 p] [], []⟩ (retK Try.prog Try.f62 fun b v s h => newK h (Done (Q v))) := by
  kernel_rfl

theorem walk_has_10 (p : Int) (w : World) (Q : Value → Prop) : (Go.VX.br (69 == p) (Go.VX.Done (Q (Go.Value.bool Bool.true))) (Go.VX.br (79 == p) (Go.VX.Done (Q (Go.Value.bool Bool.true))) (Go.VX.br (83 == p) (Go.VX.Done (Q (Go.Value.bool Bool.true))) (Go.VX.br (85 == p) (Go.VX.Done (Q (Go.Value.bool Bool.true))) (Go.VX.Done (Q (Go.Value.bool Bool.false))))))) = codeVC (⟨TT.plain _, (fun f => false), noFar, true, noInv, noInv, pvnames, noCV w⟩ : Cfg Try.prog) w 200 (Try.f62.body.getD .skip) ⟨⟨w, []⟩, mkT Try.f62.ntmps [.int .i64 9, .int .u8 p] [], []⟩ (retK Try.prog Try.f62 fun b v s h => newK h (Done (Q v))) := by
  kernel_rfl

theorem walk_has_11 (p : Int) (w : World) (Q : Value → Prop) : (Go.VX.br (75 == p) (Go.VX.Done (Q (Go.Value.bool Bool.true))) (Go.VX.br (68 == p) (Go.VX.Done (Q (Go.Value.bool Bool.true))) (Go.VX.Done (Q (Go.Value.bool Bool.false))))) = codeVC (⟨TT.plain _, (fun f => false), noFar, true, noInv, noInv, pvnames, noCV w⟩ : Cfg Try.prog) w 200 (Try.f62.body.getD .skip) ⟨⟨w, []⟩, mkT Try.f62.ntmps [.int .i64 10, .int .u8 p] [], []⟩ (retK Try.prog Try.f62 fun b v s h => newK h (Done (Q v))) := by
  kernel_rfl

theorem walk_has_12 (p : Int) (w : World) (Q : Value → Prop) : (Go.VX.br (75 == p) (Go.VX.Done (Q (Go.Value.bool Bool.true))) (Go.VX.Done (Q (Go.Value.bool Bool.false)))) = codeVC (⟨TT.plain _, (fun f => false), noFar, true, noInv, noInv, pvnames, noCV w⟩ : Cfg Try.prog) w 200 (Try.f62.body.getD .skip) ⟨⟨w, []⟩, mkT Try.f62.ntmps [.int .i64 11, .int .u8 p] [], []⟩ (retK Try.prog Try.f62 fun b v s h => newK h (Done (Q v))) := by
  kernel_rfl

theorem walk_has_13 (p : Int) (w : World) (Q : Value → Prop) : (Go.VX.br (75 == p) (Go.VX.Done (Q (Go.Value.bool Bool.true))) (Go.VX.Done (Q (Go.Value.bool Bool.false)))) = codeVC (⟨TT.plain _, (fun f => false), noFar, true, noInv, noInv, pvnames, noCV w⟩ : Cfg Try.prog) w 200 (Try.f62.body.getD .skip) ⟨⟨w, []⟩, mkT Try.f62.ntmps [.int .i64 12, .int .u8 p] [], []⟩ (retK Try.prog Try.f62 fun b v s h => newK h (Done (Q v))) := by
  kernel_rfl

theorem walk_has_14 (p : Int) (w : World) (Q : Value → Prop) : (Go.VX.br (79 == p) (Go.VX.Done (Q (Go.Value.bool Bool.true))) (Go.VX.br (67 == p) (Go.VX.Done (Q (Go.Value.bool Bool.true))) (Go.VX.br (75 == p) (Go.VX.Done (Q (Go.Value.bool Bool.true))) (Go.VX.br (68 == p) (Go.VX.Done (Q (Go.Value.bool Bool.true))) (Go.VX.Done (Q (Go.Value.bool Bool.false))))))) = codeVC (⟨TT.plain _, (fun f => false), noFar, true, noInv, noInv, pvnames, noCV w⟩ : Cfg Try.prog) w 200 (Try.f62.body.getD .skip) ⟨⟨w, []⟩, mkT Try.f62.ntmps [.int .i64 13, .int .u8 p] [], []⟩ (retK Try.prog Try.f62 fun b v s h => newK h (Done (Q v))) := by
  kernel_rfl

theorem walk_has_15 (n : Nat) (p : Int) (w : World) (Q : Value → Prop) : (Go.VX.Done (Q (Go.Value.bool Bool.false))) = codeVC (⟨TT.plain _, (fun f => false), noFar, true, noInv, noInv, pvnames, noCV w⟩ : Cfg Try.prog) w 200 (Try.f62.body.getD .skip) ⟨⟨w, []⟩, mkT Try.f62.ntmps [.int .i64 (Int.ofNat (n + 14)), .int .u8 p] [], []⟩ (retK Try.prog Try.f62 fun b v s h => newK h (Done (Q v))) := by
  kernel_rfl

theorem has_calls (k : Int) (p : Int) (w : World) : Calls Try.prog 62 ([.int .i64 k, .int .u8 p] : List Value).toArray w fun en w' => en = .returned (.bool (mHas k p)) ∧ Below w.heap.size w w' := by
  by_cases hk : 1 ≤ k ∧ k ≤ 13
  · rcases (by omega : k = 1 ∨ k = 2 ∨ k = 3 ∨ k = 4 ∨ k = 5 ∨ k = 6 ∨ k = 7 ∨ k = 8 ∨ k = 9 ∨ k = 10 ∨ k = 11 ∨ k = 12 ∨ k = 13) with rfl | rfl | rfl | rfl | rfl | rfl | rfl | rfl | rfl | rfl | rfl | rfl | rfl
    · refine calls_eq (calls_pure (G := (⟨TT.plain _, (fun f => false), noFar, true, noInv, noInv, pvnames, noCV w⟩ : Cfg Try.prog)) (noCV_ok' Try.prog w) (pvnames_ok Try.prog rfl) 200 Try.func62 rfl (Q := fun v => v = .bool (mHas 1 p)) ((walk_has_2 p w (fun v => v = .bool (mHas 1 p))).mp ?_))
      (repeat' (first | intro _ | apply And.intro | apply br_intro)) <;> all_goals first | rfl | decide | (show (_ : Int) ≤ _; decide) | (show (_ : Int) < _; decide) | assumption | exact True.intro | (refine Done.mk ?_; (first | rfl | (simp_all [mHas, mNames, hasL]; done))) | (exfalso; simp only [Bool.and_true, Bool.true_and, Bool.false_or, Bool.or_false, decide_eq_false_iff_not, decide_eq_true_eq, Int.not_lt, Int.not_le, gt_iff_lt, Int.ofNat_eq_natCast] at *; omega)
    · refine calls_eq (calls_pure (G := (⟨TT.plain _, (fun f => false), noFar, true, noInv, noInv, pvnames, noCV w⟩ : Cfg Try.prog)) (noCV_ok' Try.prog w) (pvnames_ok Try.prog rfl) 200 Try.func62 rfl (Q := fun v => v = .bool (mHas 2 p)) ((walk_has_3 p w (fun v => v = .bool (mHas 2 p))).mp ?_))
      (repeat' (first | intro _ | apply And.intro | apply br_intro)) <;> all_goals first | rfl | decide | (show (_ : Int) ≤ _; decide) | (show (_ : Int) < _; decide) | assumption | exact True.intro | (refine Done.mk ?_; (first | rfl | (simp_all [mHas, mNames, hasL]; done))) | (exfalso; simp only [Bool.and_true, Bool.true_and, Bool.false_or, Bool.or_false, decide_eq_false_iff_not, decide_eq_true_eq, Int.not_lt, Int.not_le, gt_iff_lt, Int.ofNat_eq_natCast] at *; omega)
    · refine calls_eq (calls_pure (G := (⟨TT.plain _, (fun f => false), noFar, true, noInv, noInv, pvnames, noCV w⟩ : Cfg Try.prog)) (noCV_ok' Try.prog w) (pvnames_ok Try.prog rfl) 200 Try.func62 rfl (Q := fun v => v = .bool (mHas 3 p)) ((walk_has_4 p w (fun v => v = .bool (mHas 3 p))).mp ?_))
      (repeat' (first | intro _ | apply And.intro | apply br_intro)) <;> all_goals first | rfl | decide | (show (_ : Int) ≤ _; decide) | (show (_ : Int) < _; decide) | assumption | exact True.intro | (refine Done.mk ?_; (first | rfl | (simp_all [mHas, mNames, hasL]; done))) | (exfalso; simp only [Bool.and_true, Bool.true_and, Bool.false_or, Bool.or_false, decide_eq_false_iff_not, decide_eq_true_eq, Int.not_lt, Int.not_le, gt_iff_lt, Int.ofNat_eq_natCast] at *; omega)
    · refine calls_eq (calls_pure (G := (⟨TT.plain _, (fun f => false), noFar, true, noInv, noInv, pvnames, noCV w⟩ : Cfg Try.prog)) (noCV_ok' Try.prog w) (pvnames_ok Try.prog rfl) 200 Try.func62 rfl (Q := fun v => v = .bool (mHas 4 p)) ((walk_has_5 p w (fun v => v = .bool (mHas 4 p))).mp ?_))
      (repeat' (first | intro _ | apply And.intro | apply br_intro)) <;> all_goals first | rfl | decide | (show (_ : Int) ≤ _; decide) | (show (_ : Int) < _; decide) | assumption | exact True.intro | (refine Done.mk ?_; (first | rfl | (simp_all [mHas, mNames, hasL]; done))) | (exfalso; simp only [Bool.and_true, Bool.true_and, Bool.false_or, Bool.or_false, decide_eq_false_iff_not, decide_eq_true_eq, Int.not_lt, Int.not_le, gt_iff_lt, Int.ofNat_eq_natCast] at *; omega)
    · refine calls_eq (calls_pure (G := (⟨TT.plain _, (fun f => false), noFar, true, noInv, noInv, pvnames, noCV w⟩ : Cfg Try.prog)) (noCV_ok' Try.prog w) (pvnames_ok Try.prog rfl) 200 Try.func62 rfl (Q := fun v => v = .bool (mHas 5 p)) ((walk_has_6 p w (fun v => v = .bool (mHas 5 p))).mp ?_))
      (repeat' (first | intro _ | apply And.intro | apply br_intro)) <;> all_goals first | rfl | decide | (show (_ : Int) ≤ _; decide) | (show (_ : Int) < _; decide) | assumption | exact True.intro | (refine Done.mk ?_; (first | rfl | (simp_all [mHas, mNames, hasL]; done))) | (exfalso; simp only [Bool.and_true, Bool.true_and, Bool.false_or, Bool.or_false, decide_eq_false_iff_not, decide_eq_true_eq, Int.not_lt, Int.not_le, gt_iff_lt, Int.ofNat_eq_natCast] at *; omega)
    · refine calls_eq (calls_pure (G := (⟨TT.plain _, (fun f => false), noFar, true, noInv, noInv, pvnames, noCV w⟩ : Cfg Try.prog)) (noCV_ok' Try.prog w) (pvnames_ok Try.prog rfl) 200 Try.func62 rfl (Q := fun v => v = .bool (mHas 6 p)) ((walk_has_7 p w (fun v => v = .bool (mHas 6 p))).mp ?_))
      (repeat' (first | intro _ | apply And.intro | apply br_intro)) <;> all_goals first | rfl | decide | (show (_ : Int) ≤ _; decide) | (show (_ : Int) < _; decide) | assumption | exact True.intro | (refine Done.mk ?_; (first | rfl | (simp_all [mHas, mNames, hasL]; done))) | (exfalso; simp only [Bool.and_true, Bool.true_and, Bool.false_or, Bool.or_false, decide_eq_false_iff_not, decide_eq_true_eq, Int.not_lt, Int.not_le, gt_iff_lt, Int.ofNat_eq_natCast] at *; omega)
    · refine calls_eq (calls_pure (G := (⟨TT.plain _, (fun f => false), noFar, true, noInv, noInv, pvnames, noCV w⟩ : Cfg Try.prog)) (noCV_ok' Try.prog w) (pvnames_ok Try.prog rfl) 200 Try.func62 rfl (Q := fun v => v = .bool (mHas 7 p)) ((walk_has_8 p w (fun v => v = .bool (mHas 7 p))).mp ?_))
      (repeat' (first | intro _ | apply And.intro | apply br_intro)) <;> all_goals first | rfl | decide | (show (_ : Int) ≤ _; decide) | (show (_ : Int) < _; decide) | assumption | exact True.intro | (refine Done.mk ?_; (first | rfl | (simp_all [mHas, mNames, hasL]; done))) | (exfalso; simp only [Bool.and_true, Bool.true_and, Bool.false_or, Bool.or_false, decide_eq_false_iff_not, decide_eq_true_eq, Int.not_lt, Int.not_le, gt_iff_lt, Int.ofNat_eq_natCast] at *; omega)
    · refine calls_eq (calls_pure (G := (⟨TT.plain _, (fun f => false), noFar, true, noInv, noInv, pvnames, noCV w⟩ : Cfg Try.prog)) (noCV_ok' Try.prog w) (pvnames_ok Try.prog rfl) 200 Try.func62 rfl (Q := fun v => v = .bool (mHas 8 p)) ((walk_has_9 p w (fun v => v = .bool (mHas 8 p))).mp ?_))
      (repeat' (first | intro _ | apply And.intro | apply br_intro)) <;> all_goals first | rfl | decide | (show (_ : Int) ≤ _; decide) | (show (_ : Int) < _; decide) | assumption | exact True.intro | (refine Done.mk ?_; (first | rfl | (simp_all [mHas, mNames, hasL]; done))) | (exfalso; simp only [Bool.and_true, Bool.true_and, Bool.false_or, Bool.or_false, decide_eq_false_iff_not, decide_eq_true_eq, Int.not_lt, Int.not_le, gt_iff_lt, Int.ofNat_eq_natCast] at *; omega)
    · refine calls_eq (calls_pure (G := (⟨TT.plain _, (fun f => false), noFar, true, noInv, noInv, pvnames, noCV w⟩ : Cfg Try.prog)) (noCV_ok' Try.prog w) (pvnames_ok Try.prog rfl) 200 Try.func62 rfl (Q := fun v => v = .bool (mHas 9 p)) ((walk_has_10 p w (fun v => v = .bool (mHas 9 p))).mp ?_))
      (repeat' (first | intro _ | apply And.intro | apply br_intro)) <;> all_goals first | rfl | decide | (show (_ : Int) ≤ _; decide) | (show (_ : Int) < _; decide) | assumption | exact True.intro | (refine Done.mk ?_; (first | rfl | (simp_all [mHas, mNames, hasL]; done))) | (exfalso; simp only [Bool.and_true, Bool.true_and, Bool.false_or, Bool.or_false, decide_eq_false_iff_not, decide_eq_true_eq, Int.not_lt, Int.not_le, gt_iff_lt, Int.ofNat_eq_natCast] at *; omega)
    · refine calls_eq (calls_pure (G := (⟨TT.plain _, (fun f => false), noFar, true, noInv, noInv, pvnames, noCV w⟩ : Cfg Try.prog)) (noCV_ok' Try.prog w) (pvnames_ok Try.prog rfl) 200 Try.func62 rfl (Q := fun v => v = .bool (mHas 10 p)) ((walk_has_11 p w (fun v => v = .bool (mHas 10 p))).mp ?_))
      (repeat' (first | intro _ | apply And.intro | apply br_intro)) <;> all_goals first | rfl | decide | (show (_ : Int) ≤ _; decide) | (show (_ : Int) < _; decide) | assumption | exact True.intro | (refine Done.mk ?_; (first | rfl | (simp_all [mHas, mNames, hasL]; done))) | (exfalso; simp only [Bool.and_true, Bool.true_and, Bool.false_or, Bool.or_false, decide_eq_false_iff_not, decide_eq_true_eq, Int.not_lt, Int.not_le, gt_iff_lt, Int.ofNat_eq_natCast] at *; omega)
    · refine calls_eq (calls_pure (G := (⟨TT.plain _, (fun f => false), noFar, true, noInv, noInv, pvnames, noCV w⟩ : Cfg Try.prog)) (noCV_ok' Try.prog w) (pvnames_ok Try.prog rfl) 200 Try.func62 rfl (Q := fun v => v = .bool (mHas 11 p)) ((walk_has_12 p w (fun v => v = .bool (mHas 11 p))).mp ?_))
      (repeat' (first | intro _ | apply And.intro | apply br_intro)) <;> all_goals first | rfl | decide | (show (_ : Int) ≤ _; decide) | (show (_ : Int) < _; decide) | assumption | exact True.intro | (refine Done.mk ?_; (first | rfl | (simp_all [mHas, mNames, hasL]; done))) | (exfalso; simp only [Bool.and_true, Bool.true_and, Bool.false_or, Bool.or_false, decide_eq_false_iff_not, decide_eq_true_eq, Int.not_lt, Int.not_le, gt_iff_lt, Int.ofNat_eq_natCast] at *; omega)
    · refine calls_eq (calls_pure (G := (⟨TT.plain _, (fun f => false), noFar, true, noInv, noInv, pvnames, noCV w⟩ : Cfg Try.prog)) (noCV_ok' Try.prog w) (pvnames_ok Try.prog rfl) 200 Try.func62 rfl (Q := fun v => v = .bool (mHas 12 p)) ((walk_has_13 p w (fun v => v = .bool (mHas 12 p))).mp ?_))
      (repeat' (first | intro _ | apply And.intro | apply br_intro)) <;> all_goals first | rfl | decide | (show (_ : Int) ≤ _; decide) | (show (_ : Int) < _; decide) | assumption | exact True.intro | (refine Done.mk ?_; (first | rfl | (simp_all [mHas, mNames, hasL]; done))) | (exfalso; simp only [Bool.and_true, Bool.true_and, Bool.false_or, Bool.or_false, decide_eq_false_iff_not, decide_eq_true_eq, Int.not_lt, Int.not_le, gt_iff_lt, Int.ofNat_eq_natCast] at *; omega)
    · refine calls_eq (calls_pure (G := (⟨TT.plain _, (fun f => false), noFar, true, noInv, noInv, pvnames, noCV w⟩ : Cfg Try.prog)) (noCV_ok' Try.prog w) (pvnames_ok Try.prog rfl) 200 Try.func62 rfl (Q := fun v => v = .bool (mHas 13 p)) ((walk_has_14 p w (fun v => v = .bool (mHas 13 p))).mp ?_))
      (repeat' (first | intro _ | apply And.intro | apply br_intro)) <;> all_goals first | rfl | decide | (show (_ : Int) ≤ _; decide) | (show (_ : Int) < _; decide) | assumption | exact True.intro | (refine Done.mk ?_; (first | rfl | (simp_all [mHas, mNames, hasL]; done))) | (exfalso; simp only [Bool.and_true, Bool.true_and, Bool.false_or, Bool.or_false, decide_eq_false_iff_not, decide_eq_true_eq, Int.not_lt, Int.not_le, gt_iff_lt, Int.ofNat_eq_natCast] at *; omega)
  · cases k with
    | negSucc n =>
      refine calls_eq (calls_pure (G := (⟨TT.plain _, (fun f => false), noFar, true, noInv, noInv, pvnames, noCV w⟩ : Cfg Try.prog)) (noCV_ok' Try.prog w) (pvnames_ok Try.prog rfl) 200 Try.func62 rfl (Q := fun v => v = .bool (mHas (Int.negSucc n) p)) ((walk_has_0 n p w (fun v => v = .bool (mHas (Int.negSucc n) p))).mp ?_))
      (repeat' (first | intro _ | apply And.intro | apply br_intro)) <;> all_goals first | rfl | decide | (show (_ : Int) ≤ _; decide) | (show (_ : Int) < _; decide) | assumption | exact True.intro | (refine Done.mk ?_; (first | rfl | (simp_all [mHas, mNames, hasL]; done))) | (exfalso; simp only [Bool.and_true, Bool.true_and, Bool.false_or, Bool.or_false, decide_eq_false_iff_not, decide_eq_true_eq, Int.not_lt, Int.not_le, gt_iff_lt, Int.ofNat_eq_natCast] at *; omega)
    | ofNat m =>
      by_cases h0 : m = 0
      · subst h0
        refine calls_eq (calls_pure (G := (⟨TT.plain _, (fun f => false), noFar, true, noInv, noInv, pvnames, noCV w⟩ : Cfg Try.prog)) (noCV_ok' Try.prog w) (pvnames_ok Try.prog rfl) 200 Try.func62 rfl (Q := fun v => v = .bool (mHas 0 p)) ((walk_has_1 p w (fun v => v = .bool (mHas 0 p))).mp ?_))
        (repeat' (first | intro _ | apply And.intro | apply br_intro)) <;> all_goals first | rfl | decide | (show (_ : Int) ≤ _; decide) | (show (_ : Int) < _; decide) | assumption | exact True.intro | (refine Done.mk ?_; (first | rfl | (simp_all [mHas, mNames, hasL]; done))) | (exfalso; simp only [Bool.and_true, Bool.true_and, Bool.false_or, Bool.or_false, decide_eq_false_iff_not, decide_eq_true_eq, Int.not_lt, Int.not_le, gt_iff_lt, Int.ofNat_eq_natCast] at *; omega)
      · obtain ⟨n, rfl⟩ : ∃ n, m = n + 14 := ⟨m - 14, by simp only [Int.ofNat_eq_natCast] at hk; omega⟩
        refine calls_eq (calls_pure (G := (⟨TT.plain _, (fun f => false), noFar, true, noInv, noInv, pvnames, noCV w⟩ : Cfg Try.prog)) (noCV_ok' Try.prog w) (pvnames_ok Try.prog rfl) 200 Try.func62 rfl (Q := fun v => v = .bool (mHas (Int.ofNat (n + 14)) p)) ((walk_has_15 n p w (fun v => v = .bool (mHas (Int.ofNat (n + 14)) p))).mp ?_))
        (repeat' (first | intro _ | apply And.intro | apply br_intro)) <;> all_goals first | rfl | decide | (show (_ : Int) ≤ _; decide) | (show (_ : Int) < _; decide) | assumption | exact True.intro | (refine Done.mk ?_; (first | rfl | (simp_all [mHas, mNames, hasL]; done))) | (exfalso; simp only [Bool.and_true, Bool.true_and, Bool.false_or, Bool.or_false, decide_eq_false_iff_not, decide_eq_true_eq, Int.not_lt, Int.not_le, gt_iff_lt, Int.ofNat_eq_natCast] at *; omega)

def pvhas : PV := addPV 62 (fun | [.int .i64 k, .int .u8 p] => some (none, .bool (mHas k p)) | _ => none) pvnames
theorem pvhas_ok (P : Program) (hP : P = Try.prog) : PVok P pvhas := by
  subst hP
  refine addPV_ok (fun args p v w h hp => ?_) (pvnames_ok _ rfl)
  split at h
  · cases h; exact has_calls _ _ w
  · cases h

end Go.VX
