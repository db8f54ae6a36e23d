/- The walk of function 69 (span), told by the verified walk VX, and its contract. -/
import Derived.Test.YtgghljienippgaaVX
import Derived.Test.YtgghljienippgaaProg
import Derived.Test.YtgghljienippgaaVM
import Derived.Test.YtgghljienippgaaVis
namespace Go.VX
open Go.Proofs
open Go.RowKit (Below)
set_option linter.unusedVariables false
set_option linter.unusedSimpArgs false
set_option maxRecDepth 100000
set_option maxHeartbeats 4000000
open Go.VX.M17

theorem walk_span (x : Int) (w : World) (Q : Value → Prop) : (Go.VX.Done (Q (Go.Value.bool (Decidable.decide (x ≥ 1) && Decidable.decide (x ≤ 10000))))) = codeVC (⟨TT.plain _, (fun f => false), noFar, true, noInv, noInv, pvis, noCV w⟩ : Cfg Try.prog) w 200 (Try.f69.body.getD .skip) ⟨⟨w, []⟩, mkT Try.f69.ntmps [.int .u64 x] [], []⟩ (retK Try.prog Try.f69 fun b v s h => newK h (Done (Q v))) := by
  kernel_rfl

theorem span_calls (x : Int) (w : World) : Calls Try.prog 69 ([.int .u64 x] : List Value).toArray w fun en w' => en = .returned (.bool (decide (1 ≤ x) && decide (x ≤ 10000))) ∧ Below w.heap.size w w' := by
  refine calls_eq (calls_pure (G := (⟨TT.plain _, (fun f => false), noFar, true, noInv, noInv, pvis, noCV w⟩ : Cfg Try.prog)) (noCV_ok' Try.prog w) (pvis_ok Try.prog rfl) 200 Try.func69 rfl (Q := fun v => v = .bool (decide (1 ≤ x) && decide (x ≤ 10000))) ?_)
  refine (walk_span x w (fun v => v = .bool (decide (1 ≤ x) && decide (x ≤ 10000)))).mp ?_
  repeat' (first | intro _ | apply And.intro | apply br_intro)
  all_goals try first | rfl | exact True.intro | assumption
  all_goals first | (refine Done.mk ?_; (skip; show Value.bool _ = Value.bool _; congr 1)) | (intros; first | rfl | assumption | trivial | omega | (show (_ : Int) ≤ _; first | decide | omega) | (show (_ : Int) < _; first | decide | omega) | (simp only [cond, beq_iff_eq, bne_iff_ne, beq_eq_false_iff_ne, bne_eq_false_iff_eq, Bool.or_eq_true, Bool.and_eq_true, Bool.or_eq_false_iff, Bool.and_eq_false_imp, decide_eq_true_eq, decide_eq_false_iff_not, Bool.not_eq_true', Bool.not_eq_false', Bool.not_eq_eq_eq_not, Bool.not_true, Bool.not_false, ne_eq, Int.not_lt, Int.not_le, ge_iff_le, gt_iff_lt] at *; first | rfl | assumption | omega | (simp_all; done)))

def pvspan : PV := addPV 69 (fun | [.int .u64 x] => some (none, .bool (decide (1 ≤ x) && decide (x ≤ 10000))) | _ => none) pvis
theorem pvspan_ok (P : Program) (hP : P = Try.prog) : PVok P pvspan := by
  subst hP
  refine addPV_ok (fun args p v w h hp => ?_) (pvis_ok _ rfl)
  split at h
  · cases h; exact span_calls _ w
  · cases h

end Go.VX
