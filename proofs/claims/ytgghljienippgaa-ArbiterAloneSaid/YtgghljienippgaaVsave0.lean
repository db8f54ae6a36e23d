/- The walk of function 21 (save0), told by the verified walk VX, and its contract. -/
import Derived.Test.YtgghljienippgaaVX
import Derived.Test.YtgghljienippgaaProg
import Derived.Test.YtgghljienippgaaVM
import Derived.Test.YtgghljienippgaaVlease0
namespace Go.VX
open Go.Proofs
open Go.RowKit (Below)
set_option linter.unusedVariables false
set_option linter.unusedSimpArgs false
set_option maxRecDepth 100000
set_option maxHeartbeats 4000000
open Go.VX.M17

theorem walk_save0  (w : World) (Q : Value → Prop) : (Go.VX.Done (Q (Go.Value.slice Option.none 0 0))) = codeVC (⟨TT.plain _, (fun f => false), noFar, true, noInv, noInv, pvlease0, splease w⟩ : Cfg Try.prog) w 200 (Try.f21.body.getD .skip) ⟨⟨w, []⟩, mkT Try.f21.ntmps [.pointer none] [], []⟩ (retK Try.prog Try.f21 fun b v s h => newK h (Done (Q v))) := by
  kernel_rfl

theorem save0_calls  (w : World) : Calls Try.prog 21 ([.pointer none] : List Value).toArray w fun en w' => en = .returned (.slice none 0 0) ∧ Below w.heap.size w w' := by
  refine calls_eq (calls_pure (G := (⟨TT.plain _, (fun f => false), noFar, true, noInv, noInv, pvlease0, splease w⟩ : Cfg Try.prog)) (splease_ok Try.prog w rfl) (pvlease0_ok Try.prog rfl) 200 Try.func21 rfl (Q := fun v => v = .slice none 0 0) ?_)
  refine (walk_save0  w (fun v => v = .slice none 0 0)).mp ?_
  repeat' (first | intro _ | apply And.intro | apply br_intro)
  all_goals try first | rfl | exact True.intro | assumption
  all_goals first | (refine Done.mk ?_; rfl) | (intros; first | rfl | assumption | trivial | omega | (show (_ : Int) ≤ _; first | decide | omega) | (show (_ : Int) < _; first | decide | omega) | (simp only [cond, beq_iff_eq, bne_iff_ne, beq_eq_false_iff_ne, bne_eq_false_iff_eq, Bool.or_eq_true, Bool.and_eq_true, Bool.or_eq_false_iff, Bool.and_eq_false_imp, decide_eq_true_eq, decide_eq_false_iff_not, Bool.not_eq_true', Bool.not_eq_false', Bool.not_eq_eq_eq_not, Bool.not_true, Bool.not_false, ne_eq, Int.not_lt, Int.not_le, ge_iff_le, gt_iff_lt] at *; first | rfl | assumption | omega | (simp_all; done)))

def pvsave0 : PV := addPV 21 (fun | [.pointer none] => some (none, .slice none 0 0) | _ => none) pvlease0
theorem pvsave0_ok (P : Program) (hP : P = Try.prog) : PVok P pvsave0 := by
  subst hP
  refine addPV_ok (fun args p v w h hp => ?_) (pvlease0_ok _ rfl)
  split at h
  · cases h; exact save0_calls  w
  · cases h

end Go.VX
