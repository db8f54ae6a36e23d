/- The walk of function 13 (tick0), told by the verified walk VX, and its contract. -/
import Derived.Test.YtgghljienippgaaVX
import Derived.Test.YtgghljienippgaaProg
import Derived.Test.YtgghljienippgaaVM
import Derived.Test.YtgghljienippgaaVknown
namespace Go.VX
open Go.Proofs
open Go.RowKit (Below)
set_option linter.unusedVariables false
set_option linter.unusedSimpArgs false
set_option maxRecDepth 100000
set_option maxHeartbeats 4000000
open Go.VX.M17

theorem walk_tick0 (n : Int) (w : World) (Q : Value → Prop) : (Go.VX.Done (Q (Go.Value.tuple #[]))) = codeVC (⟨TT.plain _, (fun f => false), noFar, true, noInv, noInv, pvknown, splease w⟩ : Cfg Try.prog) w 200 (Try.f13.body.getD .skip) ⟨⟨w, []⟩, mkT Try.f13.ntmps [.pointer none, .int .i64 n] [], []⟩ (retK Try.prog Try.f13 fun b v s h => newK h (Done (Q v))) := by
  kernel_rfl

theorem tick0_calls (n : Int) (w : World) : Calls Try.prog 13 ([.pointer none, .int .i64 n] : List Value).toArray w fun en w' => en = .returned (.tuple #[]) ∧ Below w.heap.size w w' := by
  refine calls_eq (calls_pure (G := (⟨TT.plain _, (fun f => false), noFar, true, noInv, noInv, pvknown, splease w⟩ : Cfg Try.prog)) (splease_ok Try.prog w rfl) (pvknown_ok Try.prog rfl) 200 Try.func13 rfl (Q := fun v => v = .tuple #[]) ?_)
  refine (walk_tick0 n w (fun v => v = .tuple #[])).mp ?_
  repeat' (first | intro _ | apply And.intro | apply br_intro)
  all_goals try first | rfl | exact True.intro | assumption
  all_goals first | (refine Done.mk ?_; rfl) | (intros; first | rfl | assumption | trivial | omega | (show (_ : Int) ≤ _; first | decide | omega) | (show (_ : Int) < _; first | decide | omega) | (simp only [cond, beq_iff_eq, bne_iff_ne, beq_eq_false_iff_ne, bne_eq_false_iff_eq, Bool.or_eq_true, Bool.and_eq_true, Bool.or_eq_false_iff, Bool.and_eq_false_imp, decide_eq_true_eq, decide_eq_false_iff_not, Bool.not_eq_true', Bool.not_eq_false', Bool.not_eq_eq_eq_not, Bool.not_true, Bool.not_false, ne_eq, Int.not_lt, Int.not_le, ge_iff_le, gt_iff_lt] at *; first | rfl | assumption | omega | (simp_all; done)))

def pvtick0 : PV := addPV 13 (fun | [.pointer none, .int .i64 n] => some (none, .tuple #[]) | _ => none) pvknown
theorem pvtick0_ok (P : Program) (hP : P = Try.prog) : PVok P pvtick0 := by
  subst hP
  refine addPV_ok (fun args p v w h hp => ?_) (pvknown_ok _ rfl)
  split at h
  · cases h; exact tick0_calls _ w
  · cases h

end Go.VX
