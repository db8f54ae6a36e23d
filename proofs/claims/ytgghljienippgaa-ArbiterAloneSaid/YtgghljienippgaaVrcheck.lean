/- The walk of function 54 (rcheck), told by the verified walk VX, and its contract. -/
import Derived.Test.YtgghljienippgaaVX
import Derived.Test.YtgghljienippgaaProg
import Derived.Test.YtgghljienippgaaVM
import Derived.Test.YtgghljienippgaaVnow
namespace Go.VX
open Go.Proofs
open Go.RowKit (Below)
set_option linter.unusedVariables false
set_option linter.unusedSimpArgs false
set_option maxRecDepth 100000
set_option maxHeartbeats 4000000
open Go.VX.M17

theorem walk_rcheck (e ho u mo : Int) (w : World) (Q : Value → Prop) : (∀ (g0 : Nat), Array.size w.heap ≤ g0 → g0 = g0 ∧ g0 = g0 ∧ g0 = g0 ∧ g0 = g0 ∧ g0 = g0 ∧ Go.VX.br (Decidable.decide (mo < 1) || Decidable.decide (mo > 2) || Decidable.decide (ho < 0) || Decidable.decide (ho > 2) || Decidable.decide (u > 4611686018427397904)) (Go.VX.Done (Q (Go.Value.int Go.IntKind.i64 2))) (g0 = g0 ∧ g0 = g0 ∧ g0 = g0 ∧ Go.VX.br (ho == 0 && (e != 0 || u != 0)) (Go.VX.Done (Q (Go.Value.int Go.IntKind.i64 2))) (g0 = g0 ∧ g0 = g0 ∧ Go.VX.br (ho != 0 && e == 0) (Go.VX.Done (Q (Go.Value.int Go.IntKind.i64 2))) (Go.VX.Done (Q (Go.Value.int Go.IntKind.i64 0)))))) = codeVC (⟨TT.plain _, (fun f => false), noFar, true, noInv, noInv, pvsave0, spnow w⟩ : Cfg Try.prog) w 200 (Try.f54.body.getD .skip) ⟨⟨w, []⟩, mkT Try.f54.ntmps [.agg #[.int .u32 e, .int .i64 ho, .int .u64 u, .int .i64 mo]] [], []⟩ (retK Try.prog Try.f54 fun b v s h => newK h (Done (Q v))) := by
  kernel_rfl

theorem rcheck_calls (e ho u mo : Int) (w : World) (hcond : 0 ≤ e ∧ 0 ≤ u) : Calls Try.prog 54 ([.agg #[.int .u32 e, .int .i64 ho, .int .u64 u, .int .i64 mo]] : List Value).toArray w fun en w' => en = .returned (.int .i64 (mCheck e ho u mo)) ∧ Below w.heap.size w w' := by
  refine calls_eq (calls_pure (G := (⟨TT.plain _, (fun f => false), noFar, true, noInv, noInv, pvsave0, spnow w⟩ : Cfg Try.prog)) (spnow_ok Try.prog w rfl) (pvsave0_ok Try.prog rfl) 200 Try.func54 rfl (Q := fun v => v = .int .i64 (mCheck e ho u mo)) ?_)
  refine (walk_rcheck e ho u mo w (fun v => v = .int .i64 (mCheck e ho u mo))).mp ?_
  repeat' (first | intro _ | apply And.intro | apply br_intro)
  all_goals try first | rfl | exact True.intro | assumption
  all_goals first | (refine Done.mk ?_; (simp only [cond, beq_iff_eq, bne_iff_ne, beq_eq_false_iff_ne, bne_eq_false_iff_eq, Bool.or_eq_true, Bool.and_eq_true, Bool.or_eq_false_iff, Bool.and_eq_false_imp, decide_eq_true_eq, decide_eq_false_iff_not, Bool.not_eq_true', Bool.not_eq_false', Bool.not_eq_eq_eq_not, Bool.not_true, Bool.not_false, ne_eq, Int.not_lt, Int.not_le, ge_iff_le, gt_iff_lt] at *; show Value.int _ _ = Value.int _ _; congr 1; unfold mCheck; (repeat' split) <;> first | rfl | omega | (exfalso; omega) | (exfalso; simp_all; done) | (simp_all; done) | (exfalso; simp_all; omega))) | (intros; first | rfl | assumption | trivial | omega | (show (_ : Int) ≤ _; first | decide | omega) | (show (_ : Int) < _; first | decide | omega) | (simp only [cond, beq_iff_eq, bne_iff_ne, beq_eq_false_iff_ne, bne_eq_false_iff_eq, Bool.or_eq_true, Bool.and_eq_true, Bool.or_eq_false_iff, Bool.and_eq_false_imp, decide_eq_true_eq, decide_eq_false_iff_not, Bool.not_eq_true', Bool.not_eq_false', Bool.not_eq_eq_eq_not, Bool.not_true, Bool.not_false, ne_eq, Int.not_lt, Int.not_le, ge_iff_le, gt_iff_lt] at *; first | rfl | assumption | omega | (simp_all; done)))

def pvrcheck : PV := addPV 54 (fun | [.agg c0] => (match c0.toList with | [.int .u32 e, .int .i64 ho, .int .u64 u, .int .i64 mo] => some (some (0 ≤ e ∧ 0 ≤ u), .int .i64 (mCheck e ho u mo)) | _ => none) | _ => none) pvsave0
theorem pvrcheck_ok (P : Program) (hP : P = Try.prog) : PVok P pvrcheck := by
  subst hP
  refine addPV_ok (fun args p v w h hp => ?_) (pvsave0_ok _ rfl)
  split at h
  · split at h
    · rename_i hc0; obtain rfl := arr_of hc0; cases h; exact rcheck_calls _ _ _ _ w (hp _ rfl)
    · cases h
  · cases h

end Go.VX
