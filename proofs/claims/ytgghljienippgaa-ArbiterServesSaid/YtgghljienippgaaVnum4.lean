/- The walk of function 72 (num4), told by the verified walk VX, and its contract. -/
import Derived.Test.YtgghljienippgaaVX
import Derived.Test.YtgghljienippgaaProg
import Derived.Test.YtgghljienippgaaVM
import Derived.Test.YtgghljienippgaaVS
namespace Go.VX
open Go.Proofs
open Go.RowKit (Below)
set_option linter.unusedVariables false
set_option linter.unusedSimpArgs false
set_option maxRecDepth 100000
open Go.VX.M17

theorem walk_num4 (n : Int) (w : World) (Q : List Value → Prop) : (∀ (g0 : Nat), Array.size w.heap ≤ g0 → g0 = g0 ∧ True ∧ ∀ (g2 g3 : Nat) (x4 : List Go.Value), Array.size w.heap ≤ g2 → 1 ≤ g3 → ∀ (g7 : Nat), Array.size w.heap ≤ g7 → g7 = g7 ∧ g3 = g3 ∧ (g2 = g2 ∧ 1 ≤ g3 ∧ True) ∧ ∀ (g9 g10 : Nat) (x11 : List Go.Value), g9 = g2 ∨ Array.size w.heap ≤ g9 → 2 ≤ g10 → ∀ (g14 : Nat), Array.size w.heap ≤ g14 → g14 = g14 ∧ g10 = g10 ∧ (g9 = g9 ∧ 2 ≤ g10 ∧ True) ∧ ∀ (g16 g17 : Nat) (x18 : List Go.Value), g16 = g9 ∨ Array.size w.heap ≤ g16 → 3 ≤ g17 → ∀ (g21 : Nat), Array.size w.heap ≤ g21 → g21 = g21 ∧ g17 = g17 ∧ (g16 = g16 ∧ 3 ≤ g17 ∧ True) ∧ ∀ (g23 g24 : Nat) (x25 : List Go.Value), g23 = g16 ∨ Array.size w.heap ≤ g23 → 4 ≤ g24 → (Int.le 0 3 ∧ Int.lt 3 4) ∧ g23 = g23 ∧ ∀ (g28 : Nat), Array.size w.heap ≤ g28 → g28 = g28 ∧ True ∧ ∀ (g30 g31 : Nat) (x32 : List Go.Value), Array.size w.heap ≤ g30 → 1 ≤ g31 → (Int.le 0 2 ∧ Int.lt 2 4) ∧ g23 = g23 ∧ ∀ (g35 : Nat), Array.size w.heap ≤ g35 → g35 = g35 ∧ g31 = g31 ∧ (g30 = g30 ∧ 1 ≤ g31 ∧ True) ∧ ∀ (g37 g38 : Nat) (x39 : List Go.Value), g37 = g30 ∨ Array.size w.heap ≤ g37 → 2 ≤ g38 → (Int.le 0 1 ∧ Int.lt 1 4) ∧ g23 = g23 ∧ ∀ (g42 : Nat), Array.size w.heap ≤ g42 → g42 = g42 ∧ g38 = g38 ∧ (g37 = g37 ∧ 2 ≤ g38 ∧ True) ∧ ∀ (g44 g45 : Nat) (x46 : List Go.Value), g44 = g37 ∨ Array.size w.heap ≤ g44 → 3 ≤ g45 → (Int.le 0 0 ∧ Int.lt 0 4) ∧ g23 = g23 ∧ ∀ (g49 : Nat), Array.size w.heap ≤ g49 → g49 = g49 ∧ g45 = g45 ∧ (g44 = g44 ∧ 3 ≤ g45 ∧ True) ∧ ∀ (g51 g52 : Nat) (x53 : List Go.Value), g51 = g44 ∨ Array.size w.heap ≤ g51 → 4 ≤ g52 → g52 = g52 ∧ g51 = g51 ∧ 4 ≤ g52 ∧ Go.VX.Done (Q [Go.Value.int Go.IntKind.u8 (Go.IntKind.wrap Go.IntKind.u8 (Int.tmod (Go.IntKind.wrap Go.IntKind.u64 (Int.tdiv (Go.IntKind.wrap Go.IntKind.u64 (Int.tdiv (Go.IntKind.wrap Go.IntKind.u64 (Int.tdiv n 256)) 256)) 256)) 256)), Go.Value.int Go.IntKind.u8 (Go.IntKind.wrap Go.IntKind.u8 (Int.tmod (Go.IntKind.wrap Go.IntKind.u64 (Int.tdiv (Go.IntKind.wrap Go.IntKind.u64 (Int.tdiv n 256)) 256)) 256)), Go.Value.int Go.IntKind.u8 (Go.IntKind.wrap Go.IntKind.u8 (Int.tmod (Go.IntKind.wrap Go.IntKind.u64 (Int.tdiv n 256)) 256)), Go.Value.int Go.IntKind.u8 (Go.IntKind.wrap Go.IntKind.u8 (Int.tmod n 256))])) = codeVC (⟨TT.plain _, (fun f => false), noFar, true, noInv, noInv, noPV, noCV w⟩ : Cfg Try.prog) w 200 (Try.f72.body.getD .skip) ⟨⟨w, []⟩, mkT Try.f72.ntmps [.int .u64 n, .int .i64 4] [], []⟩ (retK Try.prog Try.f72 fun b v s h => newK h (rowE 5 h v s 4 fun x => Done (Q x))) := by
  kernel_rfl

theorem num4_calls (n : Int) (w : World) : Calls Try.prog 72 ([.int .u64 n, .int .i64 4] : List Value).toArray w fun en w' => ∃ v, en = .returned v ∧ NewRow w.heap.size w' 5 v 4 (numR n 4) ∧ Below w.heap.size w w' := by
  refine calls_newP (G := (⟨TT.plain _, (fun f => false), noFar, true, noInv, noInv, noPV, noCV w⟩ : Cfg Try.prog)) (noCV_ok' Try.prog w) (noPV_ok Try.prog) 200 Try.func72 rfl ?_
  refine (walk_num4 n w (fun x => x = numR n 4)).mp ?_
  repeat' (first | intro _ | apply And.intro | apply br_intro)
  all_goals try first | rfl | exact True.intro | assumption
  all_goals first | (refine Done.mk ?_; rfl) | (intros; first | rfl | assumption | trivial | omega | (show (_ : Int) ≤ _; first | decide | omega) | (show (_ : Int) < _; first | decide | omega) | (simp only [cond, beq_iff_eq, bne_iff_ne, beq_eq_false_iff_ne, bne_eq_false_iff_eq, Bool.or_eq_true, Bool.and_eq_true, Bool.or_eq_false_iff, Bool.and_eq_false_imp, decide_eq_true_eq, decide_eq_false_iff_not, Bool.not_eq_true', Bool.not_eq_false', Bool.not_eq_eq_eq_not, Bool.not_true, Bool.not_false, ne_eq, Int.not_lt, Int.not_le, ge_iff_le, gt_iff_lt] at *; first | rfl | assumption | omega | (simp_all; done)))

end Go.VX
