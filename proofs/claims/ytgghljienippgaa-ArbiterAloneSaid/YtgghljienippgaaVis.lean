/- The walk of function 68 (is), told by the verified walk VX, and its contract. -/
import Derived.Test.YtgghljienippgaaVX
import Derived.Test.YtgghljienippgaaProg
import Derived.Test.YtgghljienippgaaVM
import Derived.Test.YtgghljienippgaaVM
namespace Go.VX
open Go.Proofs
open Go.RowKit (Below)
set_option linter.unusedVariables false
set_option linter.unusedSimpArgs false
set_option maxRecDepth 100000
set_option maxHeartbeats 4000000
open Go.VX.M17

theorem walk_is (x : Int) (w : World) (Q : Value → Prop) : (Go.VX.Done (Q (Go.Value.bool (x == 1 || x == 2)))) = codeVC (⟨TT.plain _, (fun f => false), noFar, true, noInv, noInv, noPV, noCV w⟩ : Cfg Try.prog) w 200 (Try.f68.body.getD .skip) ⟨⟨w, []⟩, mkT Try.f68.ntmps [.int .i64 x] [], []⟩ (retK Try.prog Try.f68 fun b v s h => newK h (Done (Q v))) := by
  kernel_rfl

theorem is_calls (x : Int) (w : World) : Calls Try.prog 68 ([.int .i64 x] : List Value).toArray w fun en w' => en = .returned (.bool (x == 1 || x == 2)) ∧ Below w.heap.size w w' := by
  refine calls_eq (calls_pure (G := (⟨TT.plain _, (fun f => false), noFar, true, noInv, noInv, noPV, noCV w⟩ : Cfg Try.prog)) (noCV_ok' Try.prog w) (noPV_ok Try.prog) 200 Try.func68 rfl (Q := fun v => v = .bool (x == 1 || x == 2)) ?_)
  refine (walk_is x w (fun v => v = .bool (x == 1 || x == 2))).mp ?_
  repeat' (first | intro _ | apply And.intro | apply br_intro)
  all_goals try first | rfl | exact True.intro | assumption
  all_goals first | (refine Done.mk ?_; rfl) | (intros; first | rfl | assumption | trivial | omega | (show (_ : Int) ≤ _; first | decide | omega) | (show (_ : Int) < _; first | decide | omega) | (simp only [cond, beq_iff_eq, bne_iff_ne, beq_eq_false_iff_ne, bne_eq_false_iff_eq, Bool.or_eq_true, Bool.and_eq_true, Bool.or_eq_false_iff, Bool.and_eq_false_imp, decide_eq_true_eq, decide_eq_false_iff_not, Bool.not_eq_true', Bool.not_eq_false', Bool.not_eq_eq_eq_not, Bool.not_true, Bool.not_false, ne_eq, Int.not_lt, Int.not_le, ge_iff_le, gt_iff_lt] at *; first | rfl | assumption | omega | (simp_all; done)))

def pvis : PV := addPV 68 (fun | [.int .i64 x] => some (none, .bool (x == 1 || x == 2)) | _ => none) noPV
theorem pvis_ok (P : Program) (hP : P = Try.prog) : PVok P pvis := by
  subst hP
  refine addPV_ok (fun args p v w h hp => ?_) (noPV_ok _)
  split at h
  · cases h; exact is_calls _ w
  · cases h

end Go.VX
