/- The walk of function 16 (lease0), told by the verified walk VX, and its contract. -/
import Derived.Test.YtgghljienippgaaVX
import Derived.Test.YtgghljienippgaaProg
import Derived.Test.YtgghljienippgaaVM
import Derived.Test.YtgghljienippgaaVnow0
namespace Go.VX
open Go.Proofs
open Go.RowKit (Below)
set_option linter.unusedVariables false
set_option linter.unusedSimpArgs false
set_option maxRecDepth 100000
set_option maxHeartbeats 4000000
open Go.VX.M17

theorem walk_lease0  (w : World) (Q : Value → Prop) : (∀ (g0 : Nat), Array.size w.heap ≤ g0 → g0 = g0 ∧ g0 = (Go.Addr.add (Go.Addr.mk g0 0 Option.none) 0).block ∧ g0 = (Go.Addr.add (Go.Addr.mk g0 0 Option.none) 1).block ∧ g0 = (Go.Addr.add (Go.Addr.mk g0 0 Option.none) 2).block ∧ g0 = (Go.Addr.add (Go.Addr.mk g0 0 Option.none) 3).block ∧ Go.VX.Done (Q (Go.Value.agg #[Go.Value.int Go.IntKind.u32 0, Go.Value.int Go.IntKind.i64 0, Go.Value.int Go.IntKind.u64 0, Go.Value.int Go.IntKind.i64 0]))) = codeVC (⟨TT.plain _, (fun f => false), noFar, true, noInv, noInv, pvnow0, splease w⟩ : Cfg Try.prog) w 200 (Try.f16.body.getD .skip) ⟨⟨w, []⟩, mkT Try.f16.ntmps [.pointer none] [], []⟩ (retK Try.prog Try.f16 fun b v s h => newK h (Done (Q v))) := by
  kernel_rfl

theorem lease0_calls  (w : World) : Calls Try.prog 16 ([.pointer none] : List Value).toArray w fun en w' => en = .returned (.agg #[.int .u32 0, .int .i64 0, .int .u64 0, .int .i64 0]) ∧ Below w.heap.size w w' := by
  refine calls_eq (calls_pure (G := (⟨TT.plain _, (fun f => false), noFar, true, noInv, noInv, pvnow0, splease w⟩ : Cfg Try.prog)) (splease_ok Try.prog w rfl) (pvnow0_ok Try.prog rfl) 200 Try.func16 rfl (Q := fun v => v = .agg #[.int .u32 0, .int .i64 0, .int .u64 0, .int .i64 0]) ?_)
  refine (walk_lease0  w (fun v => v = .agg #[.int .u32 0, .int .i64 0, .int .u64 0, .int .i64 0])).mp ?_
  repeat' (first | intro _ | apply And.intro | apply br_intro)
  all_goals try first | rfl | exact True.intro | assumption
  all_goals first | (refine Done.mk ?_; rfl) | (intros; first | rfl | assumption | trivial | omega | (show (_ : Int) ≤ _; first | decide | omega) | (show (_ : Int) < _; first | decide | omega) | (simp only [cond, beq_iff_eq, bne_iff_ne, beq_eq_false_iff_ne, bne_eq_false_iff_eq, Bool.or_eq_true, Bool.and_eq_true, Bool.or_eq_false_iff, Bool.and_eq_false_imp, decide_eq_true_eq, decide_eq_false_iff_not, Bool.not_eq_true', Bool.not_eq_false', Bool.not_eq_eq_eq_not, Bool.not_true, Bool.not_false, ne_eq, Int.not_lt, Int.not_le, ge_iff_le, gt_iff_lt] at *; first | rfl | assumption | omega | (simp_all; done)))

def pvlease0 : PV := addPV 16 (fun | [.pointer none] => some (none, .agg #[.int .u32 0, .int .i64 0, .int .u64 0, .int .i64 0]) | _ => none) pvnow0
theorem pvlease0_ok (P : Program) (hP : P = Try.prog) : PVok P pvlease0 := by
  subst hP
  refine addPV_ok (fun args p v w h hp => ?_) (pvnow0_ok _ rfl)
  split at h
  · cases h; exact lease0_calls  w
  · cases h

end Go.VX
