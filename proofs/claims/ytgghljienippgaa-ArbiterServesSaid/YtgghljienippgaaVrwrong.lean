/- The walk of function 63 (rwrong), told by the verified walk VX, and its contract. -/
import Derived.Test.YtgghljienippgaaVX
import Derived.Test.YtgghljienippgaaProg
import Derived.Test.YtgghljienippgaaVM
import Derived.Test.YtgghljienippgaaVP
import Derived.Test.YtgghljienippgaaVrcheck
namespace Go.VX
open Go.Proofs
open Go.RowKit (Below)
set_option linter.unusedVariables false
set_option linter.unusedSimpArgs false
set_option maxRecDepth 100000
open Go.VX.M17

theorem walk_rwrong (e ho u mo who len : Int) (w : World) (Q : Value → Prop) : (∀ (g0 : Nat), Array.size w.heap ≤ g0 → g0 = g0 ∧ (0 ≤ e ∧ 0 ≤ u) ∧ Go.VX.Done (Q (Go.Value.bool (Go.VX.M17.mCheck e ho u mo != 0 || Decidable.decide (who < 1) || Decidable.decide (who > 2) || Decidable.decide (len < 1) || Decidable.decide (len > 10000))))) = codeVC (⟨TT.plain _, (fun f => false), noFar, true, noInv, noInv, pvrcheck, spnow w⟩ : Cfg Try.prog) w 200 (Try.f63.body.getD .skip) ⟨⟨w, []⟩, mkT Try.f63.ntmps [.agg #[.int .u32 e, .int .i64 ho, .int .u64 u, .int .i64 mo], .int .i64 who, .int .u64 len] [], []⟩ (retK Try.prog Try.f63 fun b v s h => newK h (Done (Q v))) := by
  kernel_rfl

theorem rwrong_calls (e ho u mo who len : Int) (w : World) (hcond : 0 ≤ e ∧ 0 ≤ u) : Calls Try.prog 63 ([.agg #[.int .u32 e, .int .i64 ho, .int .u64 u, .int .i64 mo], .int .i64 who, .int .u64 len] : List Value).toArray w fun en w' => en = .returned (.bool (mWrong e ho u mo who len)) ∧ Below w.heap.size w w' := by
  refine calls_eq (calls_pure (G := (⟨TT.plain _, (fun f => false), noFar, true, noInv, noInv, pvrcheck, spnow w⟩ : Cfg Try.prog)) (spnow_ok Try.prog w rfl) (pvrcheck_ok Try.prog rfl) 200 Try.func63 rfl (Q := fun v => v = .bool (mWrong e ho u mo who len)) ?_)
  refine (walk_rwrong e ho u mo who len w (fun v => v = .bool (mWrong e ho u mo who len))).mp ?_
  repeat' (first | intro _ | apply And.intro | apply br_intro)
  all_goals try first | rfl | exact True.intro | assumption
  all_goals first | (refine Done.mk ?_; (show Value.bool _ = Value.bool _; congr 1; apply bool_eq_of; rw [mWrong_t]; simp; omega)) | (intros; first | rfl | assumption | trivial | omega | (show (_ : Int) ≤ _; first | decide | omega) | (show (_ : Int) < _; first | decide | omega) | (simp only [cond, beq_iff_eq, bne_iff_ne, beq_eq_false_iff_ne, bne_eq_false_iff_eq, Bool.or_eq_true, Bool.and_eq_true, Bool.or_eq_false_iff, Bool.and_eq_false_imp, decide_eq_true_eq, decide_eq_false_iff_not, Bool.not_eq_true', Bool.not_eq_false', Bool.not_eq_eq_eq_not, Bool.not_true, Bool.not_false, ne_eq, Int.not_lt, Int.not_le, ge_iff_le, gt_iff_lt] at *; first | rfl | assumption | omega | (simp_all; done)))

def pvrwrong : PV := addPV 63 (fun | [.agg c0, .int .i64 who, .int .u64 len] => (match c0.toList with | [.int .u32 e, .int .i64 ho, .int .u64 u, .int .i64 mo] => some (some (0 ≤ e ∧ 0 ≤ u), .bool (mWrong e ho u mo who len)) | _ => none) | _ => none) pvrcheck
theorem pvrwrong_ok (P : Program) (hP : P = Try.prog) : PVok P pvrwrong := by
  subst hP
  refine addPV_ok (fun args p v w h hp => ?_) (pvrcheck_ok _ rfl)
  split at h
  · split at h
    · rename_i hc0; obtain rfl := arr_of hc0; cases h; exact rwrong_calls _ _ _ _ _ _ w (hp _ rfl)
    · cases h
  · cases h

end Go.VX
