/- The walk of function 72 (num1), told by the verified walk VX, and its contract. -/
import Derived.Test.YtgghljienippgaaVX
import Derived.Test.YtgghljienippgaaProg
import Derived.Test.YtgghljienippgaaVM
import Derived.Test.YtgghljienippgaaVS
namespace Go.VX
open Go.Proofs
open Go.RowKit (Below)
set_option linter.unusedVariables false
set_option linter.unusedSimpArgs false
set_option maxRecDepth 100000
open Go.VX.M17

theorem walk_num1 (n : Int) (w : World) (Q : List Value → Prop) : (∀ (g0 : Nat), Array.size w.heap ≤ g0 → g0 = g0 ∧ True ∧ ∀ (g2 g3 : Nat) (x4 : List Go.Value), Array.size w.heap ≤ g2 → 1 ≤ g3 → (Int.le 0 0 ∧ Int.lt 0 1) ∧ g2 = g2 ∧ ∀ (g7 : Nat), Array.size w.heap ≤ g7 → g7 = g7 ∧ True ∧ ∀ (g9 g10 : Nat) (x11 : List Go.Value), Array.size w.heap ≤ g9 → 1 ≤ g10 → g10 = g10 ∧ g9 = g9 ∧ 1 ≤ g10 ∧ Go.VX.Done (Q [Go.Value.int Go.IntKind.u8 (Go.IntKind.wrap Go.IntKind.u8 (Int.tmod n 256))])) = codeVC (⟨TT.plain _, (fun f => false), noFar, true, noInv, noInv, noPV, noCV w⟩ : Cfg Try.prog) w 200 (Try.f72.body.getD .skip) ⟨⟨w, []⟩, mkT Try.f72.ntmps [.int .u64 n, .int .i64 1] [], []⟩ (retK Try.prog Try.f72 fun b v s h => newK h (rowE 5 h v s 1 fun x => Done (Q x))) := by
  kernel_rfl

theorem num1_calls (n : Int) (w : World) : Calls Try.prog 72 ([.int .u64 n, .int .i64 1] : List Value).toArray w fun en w' => ∃ v, en = .returned v ∧ NewRow w.heap.size w' 5 v 1 (numR n 1) ∧ Below w.heap.size w w' := by
  refine calls_newP (G := (⟨TT.plain _, (fun f => false), noFar, true, noInv, noInv, noPV, noCV w⟩ : Cfg Try.prog)) (noCV_ok' Try.prog w) (noPV_ok Try.prog) 200 Try.func72 rfl ?_
  refine (walk_num1 n w (fun x => x = numR n 1)).mp ?_
  repeat' (first | intro _ | apply And.intro | apply br_intro)
  all_goals try first | rfl | exact True.intro | assumption
  all_goals first | (refine Done.mk ?_; rfl) | (intros; first | rfl | assumption | trivial | omega | (show (_ : Int) ≤ _; first | decide | omega) | (show (_ : Int) < _; first | decide | omega) | (simp only [cond, beq_iff_eq, bne_iff_ne, beq_eq_false_iff_ne, bne_eq_false_iff_eq, Bool.or_eq_true, Bool.and_eq_true, Bool.or_eq_false_iff, Bool.and_eq_false_imp, decide_eq_true_eq, decide_eq_false_iff_not, Bool.not_eq_true', Bool.not_eq_false', Bool.not_eq_eq_eq_not, Bool.not_true, Bool.not_false, ne_eq, Int.not_lt, Int.not_le, ge_iff_le, gt_iff_lt] at *; first | rfl | assumption | omega | (simp_all; done)))

end Go.VX
