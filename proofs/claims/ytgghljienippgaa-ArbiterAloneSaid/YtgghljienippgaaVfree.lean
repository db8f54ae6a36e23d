/- The walk of function 70 (free), told by the verified walk VX, and its contract. -/
import Derived.Test.YtgghljienippgaaVX
import Derived.Test.YtgghljienippgaaProg
import Derived.Test.YtgghljienippgaaVM
import Derived.Test.YtgghljienippgaaVcheck
namespace Go.VX
open Go.Proofs
open Go.RowKit (Below)
set_option linter.unusedVariables false
set_option linter.unusedSimpArgs false
set_option maxRecDepth 100000
set_option maxHeartbeats 4000000
open Go.VX.M17

theorem walk_free (e ho u mo now guard : Int) (w : World) (Q : Value → Prop) : (∀ (g0 : Nat), Array.size w.heap ≤ g0 → g0 = g0 ∧ Go.VX.br (Go.VX.M17.mCheck e ho u mo != 0 || Decidable.decide (guard > 10000)) (Go.VX.Done (Q (Go.Value.bool Bool.false))) (g0 = g0 ∧ g0 = g0 ∧ g0 = g0 ∧ Go.VX.Done (Q (Go.Value.bool (ho == 0 || Decidable.decide (now > u) && Decidable.decide (Go.IntKind.wrap Go.IntKind.u64 (now - u) > guard)))))) = codeVC (⟨TT.plain _, (fun f => false), noFar, true, noInv, noInv, pvcheck, noCV w⟩ : Cfg Try.prog) w 200 (Try.f70.body.getD .skip) ⟨⟨w, []⟩, mkT Try.f70.ntmps [.agg #[.int .u32 e, .int .i64 ho, .int .u64 u, .int .i64 mo], .int .u64 now, .int .u64 guard] [], []⟩ (retK Try.prog Try.f70 fun b v s h => newK h (Done (Q v))) := by
  kernel_rfl

theorem free_calls (e ho u mo now guard : Int) (w : World) : Calls Try.prog 70 ([.agg #[.int .u32 e, .int .i64 ho, .int .u64 u, .int .i64 mo], .int .u64 now, .int .u64 guard] : List Value).toArray w fun en w' => en = .returned (.bool (mFree e ho u mo now guard)) ∧ Below w.heap.size w w' := by
  refine calls_eq (calls_pure (G := (⟨TT.plain _, (fun f => false), noFar, true, noInv, noInv, pvcheck, noCV w⟩ : Cfg Try.prog)) (noCV_ok' Try.prog w) (pvcheck_ok Try.prog rfl) 200 Try.func70 rfl (Q := fun v => v = .bool (mFree e ho u mo now guard)) ?_)
  refine (walk_free e ho u mo now guard w (fun v => v = .bool (mFree e ho u mo now guard))).mp ?_
  repeat' (first | intro _ | apply And.intro | apply br_intro)
  all_goals try first | rfl | exact True.intro | assumption
  all_goals first | (refine Done.mk ?_; (simp only [cond, beq_iff_eq, bne_iff_ne, beq_eq_false_iff_ne, bne_eq_false_iff_eq, Bool.or_eq_true, Bool.and_eq_true, Bool.or_eq_false_iff, Bool.and_eq_false_imp, decide_eq_true_eq, decide_eq_false_iff_not, Bool.not_eq_true', Bool.not_eq_false', Bool.not_eq_eq_eq_not, Bool.not_true, Bool.not_false, ne_eq, Int.not_lt, Int.not_le, ge_iff_le, gt_iff_lt] at *; show Value.bool _ = Value.bool _; congr 1; apply bool_eq_of; unfold mFree; (repeat' split) <;> (try (simp only [cond, beq_iff_eq, bne_iff_ne, beq_eq_false_iff_ne, bne_eq_false_iff_eq, Bool.or_eq_true, Bool.and_eq_true, Bool.or_eq_false_iff, Bool.and_eq_false_imp, decide_eq_true_eq, decide_eq_false_iff_not, Bool.not_eq_true', Bool.not_eq_false', Bool.not_eq_eq_eq_not, Bool.not_true, Bool.not_false, ne_eq, Int.not_lt, Int.not_le, ge_iff_le, gt_iff_lt])) <;> first | trivial | omega | (simp_all; done) | (simp_all; omega))) | (intros; first | rfl | assumption | trivial | omega | (show (_ : Int) ≤ _; first | decide | omega) | (show (_ : Int) < _; first | decide | omega) | (simp only [cond, beq_iff_eq, bne_iff_ne, beq_eq_false_iff_ne, bne_eq_false_iff_eq, Bool.or_eq_true, Bool.and_eq_true, Bool.or_eq_false_iff, Bool.and_eq_false_imp, decide_eq_true_eq, decide_eq_false_iff_not, Bool.not_eq_true', Bool.not_eq_false', Bool.not_eq_eq_eq_not, Bool.not_true, Bool.not_false, ne_eq, Int.not_lt, Int.not_le, ge_iff_le, gt_iff_lt] at *; first | rfl | assumption | omega | (simp_all; done)))

def pvfree : PV := addPV 70 (fun | [.agg c0, .int .u64 now, .int .u64 guard] => (match c0.toList with | [.int .u32 e, .int .i64 ho, .int .u64 u, .int .i64 mo] => some (none, .bool (mFree e ho u mo now guard)) | _ => none) | _ => none) pvcheck
theorem pvfree_ok (P : Program) (hP : P = Try.prog) : PVok P pvfree := by
  subst hP
  refine addPV_ok (fun args p v w h hp => ?_) (pvcheck_ok _ rfl)
  split at h
  · split at h
    · rename_i hc0; obtain rfl := arr_of hc0; cases h; exact free_calls _ _ _ _ _ _ w
    · cases h
  · cases h

end Go.VX
