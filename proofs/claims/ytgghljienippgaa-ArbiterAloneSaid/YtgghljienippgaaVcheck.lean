/- The walk of function 52 (check), told by the verified walk VX, and its contract. -/
import Derived.Test.YtgghljienippgaaVX
import Derived.Test.YtgghljienippgaaProg
import Derived.Test.YtgghljienippgaaVM
import Derived.Test.YtgghljienippgaaVspan
namespace Go.VX
open Go.Proofs
open Go.RowKit (Below)
set_option linter.unusedVariables false
set_option linter.unusedSimpArgs false
set_option maxRecDepth 100000
set_option maxHeartbeats 4000000
open Go.VX.M17

theorem walk_check (e ho u mo : Int) (w : World) (Q : Value → Prop) : (∀ (g0 : Nat), Array.size w.heap ≤ g0 → g0 = g0 ∧ g0 = g0 ∧ g0 = g0 ∧ g0 = g0 ∧ g0 = g0 ∧ g0 = g0 ∧ g0 = g0 ∧ g0 = g0 ∧ Go.VX.br (!(mo == 1 || mo == 2) || !(ho == 0 && e == 0 && u == 0) && !((ho == 1 || ho == 2) && Decidable.decide (e > 0) && Decidable.decide (u ≤ 4611686018427397904))) (Go.VX.Done (Q (Go.Value.int Go.IntKind.i64 2))) (Go.VX.Done (Q (Go.Value.int Go.IntKind.i64 0)))) = codeVC (⟨TT.plain _, (fun f => false), noFar, true, noInv, noInv, pvspan, noCV w⟩ : Cfg Try.prog) w 200 (Try.f52.body.getD .skip) ⟨⟨w, []⟩, mkT Try.f52.ntmps [.agg #[.int .u32 e, .int .i64 ho, .int .u64 u, .int .i64 mo]] [], []⟩ (retK Try.prog Try.f52 fun b v s h => newK h (Done (Q v))) := by
  kernel_rfl

theorem check_calls (e ho u mo : Int) (w : World) : Calls Try.prog 52 ([.agg #[.int .u32 e, .int .i64 ho, .int .u64 u, .int .i64 mo]] : List Value).toArray w fun en w' => en = .returned (.int .i64 (mCheck e ho u mo)) ∧ Below w.heap.size w w' := by
  refine calls_eq (calls_pure (G := (⟨TT.plain _, (fun f => false), noFar, true, noInv, noInv, pvspan, noCV w⟩ : Cfg Try.prog)) (noCV_ok' Try.prog w) (pvspan_ok Try.prog rfl) 200 Try.func52 rfl (Q := fun v => v = .int .i64 (mCheck e ho u mo)) ?_)
  refine (walk_check e ho u mo w (fun v => v = .int .i64 (mCheck e ho u mo))).mp ?_
  repeat' (first | intro _ | apply And.intro | apply br_intro)
  all_goals try first | rfl | exact True.intro | assumption
  all_goals first | (refine Done.mk ?_; (simp only [cond, beq_iff_eq, bne_iff_ne, beq_eq_false_iff_ne, bne_eq_false_iff_eq, Bool.or_eq_true, Bool.and_eq_true, Bool.or_eq_false_iff, Bool.and_eq_false_imp, decide_eq_true_eq, decide_eq_false_iff_not, Bool.not_eq_true', Bool.not_eq_false', Bool.not_eq_eq_eq_not, Bool.not_true, Bool.not_false, ne_eq, Int.not_lt, Int.not_le, ge_iff_le, gt_iff_lt] at *; show Value.int _ _ = Value.int _ _; congr 1; unfold mCheck; (repeat' split) <;> first | rfl | omega | (exfalso; omega) | (exfalso; simp_all; done) | (simp_all; done) | (exfalso; simp_all; omega))) | (intros; first | rfl | assumption | trivial | omega | (show (_ : Int) ≤ _; first | decide | omega) | (show (_ : Int) < _; first | decide | omega) | (simp only [cond, beq_iff_eq, bne_iff_ne, beq_eq_false_iff_ne, bne_eq_false_iff_eq, Bool.or_eq_true, Bool.and_eq_true, Bool.or_eq_false_iff, Bool.and_eq_false_imp, decide_eq_true_eq, decide_eq_false_iff_not, Bool.not_eq_true', Bool.not_eq_false', Bool.not_eq_eq_eq_not, Bool.not_true, Bool.not_false, ne_eq, Int.not_lt, Int.not_le, ge_iff_le, gt_iff_lt] at *; first | rfl | assumption | omega | (simp_all; done)))

def pvcheck : PV := addPV 52 (fun | [.agg c0] => (match c0.toList with | [.int .u32 e, .int .i64 ho, .int .u64 u, .int .i64 mo] => some (none, .int .i64 (mCheck e ho u mo)) | _ => none) | _ => none) pvspan
theorem pvcheck_ok (P : Program) (hP : P = Try.prog) : PVok P pvcheck := by
  subst hP
  refine addPV_ok (fun args p v w h hp => ?_) (pvspan_ok _ rfl)
  split at h
  · split at h
    · rename_i hc0; obtain rfl := arr_of hc0; cases h; exact check_calls _ _ _ _ w
    · cases h
  · cases h

end Go.VX
