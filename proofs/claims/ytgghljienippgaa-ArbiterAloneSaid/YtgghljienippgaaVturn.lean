/- The walk of function 59 (turn), told by the verified walk VX, and its contract. -/
import Derived.Test.YtgghljienippgaaVX
import Derived.Test.YtgghljienippgaaProg
import Derived.Test.YtgghljienippgaaVM
import Derived.Test.YtgghljienippgaaVrenew
namespace Go.VX
open Go.Proofs
open Go.RowKit (Below)
set_option linter.unusedVariables false
set_option linter.unusedSimpArgs false
set_option maxRecDepth 100000
set_option maxHeartbeats 4000000
open Go.VX.M17

theorem walk_turn (e ho u mo now who epoch mode : Int) (w : World) (Q : Value → Prop) : (∀ (g0 : Nat), Array.size w.heap ≤ g0 → ∀ (g2 : Nat), Array.size w.heap ≤ g2 → g0 = g0 ∧ Go.VX.br (Go.VX.M17.mCheck e ho u mo != 0 || !(who == 1 || who == 2) || mode != 1 && mode != 2) (g2 = g2 ∧ g2 = (Go.Addr.add (Go.Addr.mk g2 0 Option.none) 0).block ∧ g2 = (Go.Addr.add (Go.Addr.mk g2 0 Option.none) 1).block ∧ g2 = (Go.Addr.add (Go.Addr.mk g2 0 Option.none) 2).block ∧ g2 = (Go.Addr.add (Go.Addr.mk g2 0 Option.none) 3).block ∧ Go.VX.Done (Q (Go.Value.tuple #[Go.Value.agg #[Go.Value.int Go.IntKind.u32 0, Go.Value.int Go.IntKind.i64 0, Go.Value.int Go.IntKind.u64 0, Go.Value.int Go.IntKind.i64 0], Go.Value.int Go.IntKind.i64 2]))) (g0 = g0 ∧ Go.VX.br (Go.VX.M17.mOwn e ho u now who epoch != 0) (g2 = g2 ∧ g2 = (Go.Addr.add (Go.Addr.mk g2 0 Option.none) 0).block ∧ g2 = (Go.Addr.add (Go.Addr.mk g2 0 Option.none) 1).block ∧ g2 = (Go.Addr.add (Go.Addr.mk g2 0 Option.none) 2).block ∧ g2 = (Go.Addr.add (Go.Addr.mk g2 0 Option.none) 3).block ∧ Go.VX.Done (Q (Go.Value.tuple #[Go.Value.agg #[Go.Value.int Go.IntKind.u32 0, Go.Value.int Go.IntKind.i64 0, Go.Value.int Go.IntKind.u64 0, Go.Value.int Go.IntKind.i64 0], Go.Value.int Go.IntKind.i64 (Go.VX.M17.mOwn e ho u now who epoch)]))) (g0 = g0 ∧ g0 = g0 ∧ g2 = g2 ∧ g2 = (Go.Addr.add (Go.Addr.mk g2 0 Option.none) 0).block ∧ g2 = (Go.Addr.add (Go.Addr.mk g2 0 Option.none) 1).block ∧ g2 = (Go.Addr.add (Go.Addr.mk g2 0 Option.none) 2).block ∧ g2 = (Go.Addr.add (Go.Addr.mk g2 0 Option.none) 3).block ∧ Go.VX.Done (Q (Go.Value.tuple #[Go.Value.agg #[Go.Value.int Go.IntKind.u32 e, Go.Value.int Go.IntKind.i64 ho, Go.Value.int Go.IntKind.u64 u, Go.Value.int Go.IntKind.i64 mode], Go.Value.int Go.IntKind.i64 0]))))) = codeVC (⟨TT.plain _, (fun f => false), noFar, true, noInv, noInv, pvrenew, noCV w⟩ : Cfg Try.prog) w 200 (Try.f59.body.getD .skip) ⟨⟨w, []⟩, mkT Try.f59.ntmps [.agg #[.int .u32 e, .int .i64 ho, .int .u64 u, .int .i64 mo], .int .u64 now, .int .i64 who, .int .u32 epoch, .int .i64 mode] [], []⟩ (retK Try.prog Try.f59 fun b v s h => newK h (Done (Q v))) := by
  kernel_rfl

theorem turn_calls (e ho u mo now who epoch mode : Int) (w : World) : Calls Try.prog 59 ([.agg #[.int .u32 e, .int .i64 ho, .int .u64 u, .int .i64 mo], .int .u64 now, .int .i64 who, .int .u32 epoch, .int .i64 mode] : List Value).toArray w fun en w' => en = .returned (ltup (mTurn e ho u mo now who epoch mode)) ∧ Below w.heap.size w w' := by
  refine calls_eq (calls_pure (G := (⟨TT.plain _, (fun f => false), noFar, true, noInv, noInv, pvrenew, noCV w⟩ : Cfg Try.prog)) (noCV_ok' Try.prog w) (pvrenew_ok Try.prog rfl) 200 Try.func59 rfl (Q := fun v => v = ltup (mTurn e ho u mo now who epoch mode)) ?_)
  refine (walk_turn e ho u mo now who epoch mode w (fun v => v = ltup (mTurn e ho u mo now who epoch mode))).mp ?_
  repeat' (first | intro _ | apply And.intro | apply br_intro)
  all_goals try first | rfl | exact True.intro | assumption
  all_goals first | (refine Done.mk ?_; (simp only [cond, beq_iff_eq, bne_iff_ne, beq_eq_false_iff_ne, bne_eq_false_iff_eq, Bool.or_eq_true, Bool.and_eq_true, Bool.or_eq_false_iff, Bool.and_eq_false_imp, decide_eq_true_eq, decide_eq_false_iff_not, Bool.not_eq_true', Bool.not_eq_false', Bool.not_eq_eq_eq_not, Bool.not_true, Bool.not_false, ne_eq, Int.not_lt, Int.not_le, ge_iff_le, gt_iff_lt] at *; show _ = _; unfold mTurn; (repeat' split) <;> first | rfl | (exfalso; omega) | (exfalso; simp_all; done) | (exfalso; simp_all; omega))) | (intros; first | rfl | assumption | trivial | omega | (show (_ : Int) ≤ _; first | decide | omega) | (show (_ : Int) < _; first | decide | omega) | (simp only [cond, beq_iff_eq, bne_iff_ne, beq_eq_false_iff_ne, bne_eq_false_iff_eq, Bool.or_eq_true, Bool.and_eq_true, Bool.or_eq_false_iff, Bool.and_eq_false_imp, decide_eq_true_eq, decide_eq_false_iff_not, Bool.not_eq_true', Bool.not_eq_false', Bool.not_eq_eq_eq_not, Bool.not_true, Bool.not_false, ne_eq, Int.not_lt, Int.not_le, ge_iff_le, gt_iff_lt] at *; first | rfl | assumption | omega | (simp_all; done)))

def pvturn : PV := addPV 59 (fun | [.agg c0, .int .u64 now, .int .i64 who, .int .u32 epoch, .int .i64 mode] => (match c0.toList with | [.int .u32 e, .int .i64 ho, .int .u64 u, .int .i64 mo] => some (none, ltup (mTurn e ho u mo now who epoch mode)) | _ => none) | _ => none) pvrenew
theorem pvturn_ok (P : Program) (hP : P = Try.prog) : PVok P pvturn := by
  subst hP
  refine addPV_ok (fun args p v w h hp => ?_) (pvrenew_ok _ rfl)
  split at h
  · split at h
    · rename_i hc0; obtain rfl := arr_of hc0; cases h; exact turn_calls _ _ _ _ _ _ _ _ w
    · cases h
  · cases h

end Go.VX
