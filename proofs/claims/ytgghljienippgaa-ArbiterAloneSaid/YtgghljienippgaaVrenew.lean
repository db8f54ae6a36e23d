/- The walk of function 58 (renew), told by the verified walk VX, and its contract. -/
import Derived.Test.YtgghljienippgaaVX
import Derived.Test.YtgghljienippgaaProg
import Derived.Test.YtgghljienippgaaVM
import Derived.Test.YtgghljienippgaaVown
namespace Go.VX
open Go.Proofs
open Go.RowKit (Below)
set_option linter.unusedVariables false
set_option linter.unusedSimpArgs false
set_option maxRecDepth 100000
set_option maxHeartbeats 4000000
open Go.VX.M17

theorem walk_renew (e ho u mo now who epoch len : Int) (w : World) (Q : Value → Prop) : (∀ (g0 : Nat), Array.size w.heap ≤ g0 → ∀ (g2 : Nat), Array.size w.heap ≤ g2 → g0 = g0 ∧ Go.VX.br (Go.VX.M17.mCheck e ho u mo != 0 || !(who == 1 || who == 2) || !(Decidable.decide (1 ≤ len) && Decidable.decide (len ≤ 10000))) (g2 = g2 ∧ g2 = (Go.Addr.add (Go.Addr.mk g2 0 Option.none) 0).block ∧ g2 = (Go.Addr.add (Go.Addr.mk g2 0 Option.none) 1).block ∧ g2 = (Go.Addr.add (Go.Addr.mk g2 0 Option.none) 2).block ∧ g2 = (Go.Addr.add (Go.Addr.mk g2 0 Option.none) 3).block ∧ Go.VX.Done (Q (Go.Value.tuple #[Go.Value.agg #[Go.Value.int Go.IntKind.u32 0, Go.Value.int Go.IntKind.i64 0, Go.Value.int Go.IntKind.u64 0, Go.Value.int Go.IntKind.i64 0], Go.Value.int Go.IntKind.i64 2]))) (Go.VX.br (Decidable.decide (now > 4611686018427387904)) (g2 = g2 ∧ g2 = (Go.Addr.add (Go.Addr.mk g2 0 Option.none) 0).block ∧ g2 = (Go.Addr.add (Go.Addr.mk g2 0 Option.none) 1).block ∧ g2 = (Go.Addr.add (Go.Addr.mk g2 0 Option.none) 2).block ∧ g2 = (Go.Addr.add (Go.Addr.mk g2 0 Option.none) 3).block ∧ Go.VX.Done (Q (Go.Value.tuple #[Go.Value.agg #[Go.Value.int Go.IntKind.u32 0, Go.Value.int Go.IntKind.i64 0, Go.Value.int Go.IntKind.u64 0, Go.Value.int Go.IntKind.i64 0], Go.Value.int Go.IntKind.i64 71]))) (g0 = g0 ∧ Go.VX.br (Go.VX.M17.mOwn e ho u now who epoch != 0) (g2 = g2 ∧ g2 = (Go.Addr.add (Go.Addr.mk g2 0 Option.none) 0).block ∧ g2 = (Go.Addr.add (Go.Addr.mk g2 0 Option.none) 1).block ∧ g2 = (Go.Addr.add (Go.Addr.mk g2 0 Option.none) 2).block ∧ g2 = (Go.Addr.add (Go.Addr.mk g2 0 Option.none) 3).block ∧ Go.VX.Done (Q (Go.Value.tuple #[Go.Value.agg #[Go.Value.int Go.IntKind.u32 0, Go.Value.int Go.IntKind.i64 0, Go.Value.int Go.IntKind.u64 0, Go.Value.int Go.IntKind.i64 0], Go.Value.int Go.IntKind.i64 (Go.VX.M17.mOwn e ho u now who epoch)]))) (g0 = g0 ∧ g0 = g0 ∧ g0 = g0 ∧ g2 = g2 ∧ g2 = (Go.Addr.add (Go.Addr.mk g2 0 Option.none) 0).block ∧ g2 = (Go.Addr.add (Go.Addr.mk g2 0 Option.none) 1).block ∧ g2 = (Go.Addr.add (Go.Addr.mk g2 0 Option.none) 2).block ∧ g2 = (Go.Addr.add (Go.Addr.mk g2 0 Option.none) 3).block ∧ Go.VX.Done (Q (Go.Value.tuple #[Go.Value.agg #[Go.Value.int Go.IntKind.u32 e, Go.Value.int Go.IntKind.i64 ho, Go.Value.int Go.IntKind.u64 (if Go.IntKind.wrap Go.IntKind.u64 (now + len) > u then Go.IntKind.wrap Go.IntKind.u64 (now + len) else u), Go.Value.int Go.IntKind.i64 mo], Go.Value.int Go.IntKind.i64 0])))))) = codeVC (⟨TT.plain _, (fun f => false), noFar, true, noInv, noInv, pvown, noCV w⟩ : Cfg Try.prog) w 200 (Try.f58.body.getD .skip) ⟨⟨w, []⟩, mkT Try.f58.ntmps [.agg #[.int .u32 e, .int .i64 ho, .int .u64 u, .int .i64 mo], .int .u64 now, .int .i64 who, .int .u32 epoch, .int .u64 len] [], []⟩ (retK Try.prog Try.f58 fun b v s h => newK h (Done (Q v))) := by
  kernel_rfl

theorem renew_calls (e ho u mo now who epoch len : Int) (w : World) : Calls Try.prog 58 ([.agg #[.int .u32 e, .int .i64 ho, .int .u64 u, .int .i64 mo], .int .u64 now, .int .i64 who, .int .u32 epoch, .int .u64 len] : List Value).toArray w fun en w' => en = .returned (ltup (mRenew e ho u mo now who epoch len)) ∧ Below w.heap.size w w' := by
  refine calls_eq (calls_pure (G := (⟨TT.plain _, (fun f => false), noFar, true, noInv, noInv, pvown, noCV w⟩ : Cfg Try.prog)) (noCV_ok' Try.prog w) (pvown_ok Try.prog rfl) 200 Try.func58 rfl (Q := fun v => v = ltup (mRenew e ho u mo now who epoch len)) ?_)
  refine (walk_renew e ho u mo now who epoch len w (fun v => v = ltup (mRenew e ho u mo now who epoch len))).mp ?_
  repeat' (first | intro _ | apply And.intro | apply br_intro)
  all_goals try first | rfl | exact True.intro | assumption
  all_goals first | (refine Done.mk ?_; (simp only [cond, beq_iff_eq, bne_iff_ne, beq_eq_false_iff_ne, bne_eq_false_iff_eq, Bool.or_eq_true, Bool.and_eq_true, Bool.or_eq_false_iff, Bool.and_eq_false_imp, decide_eq_true_eq, decide_eq_false_iff_not, Bool.not_eq_true', Bool.not_eq_false', Bool.not_eq_eq_eq_not, Bool.not_true, Bool.not_false, ne_eq, Int.not_lt, Int.not_le, ge_iff_le, gt_iff_lt] at *; show _ = _; unfold mRenew; (repeat' split) <;> first | rfl | (exfalso; omega) | (exfalso; simp_all; done) | (exfalso; simp_all; omega))) | (intros; first | rfl | assumption | trivial | omega | (show (_ : Int) ≤ _; first | decide | omega) | (show (_ : Int) < _; first | decide | omega) | (simp only [cond, beq_iff_eq, bne_iff_ne, beq_eq_false_iff_ne, bne_eq_false_iff_eq, Bool.or_eq_true, Bool.and_eq_true, Bool.or_eq_false_iff, Bool.and_eq_false_imp, decide_eq_true_eq, decide_eq_false_iff_not, Bool.not_eq_true', Bool.not_eq_false', Bool.not_eq_eq_eq_not, Bool.not_true, Bool.not_false, ne_eq, Int.not_lt, Int.not_le, ge_iff_le, gt_iff_lt] at *; first | rfl | assumption | omega | (simp_all; done)))

def pvrenew : PV := addPV 58 (fun | [.agg c0, .int .u64 now, .int .i64 who, .int .u32 epoch, .int .u64 len] => (match c0.toList with | [.int .u32 e, .int .i64 ho, .int .u64 u, .int .i64 mo] => some (none, ltup (mRenew e ho u mo now who epoch len)) | _ => none) | _ => none) pvown
theorem pvrenew_ok (P : Program) (hP : P = Try.prog) : PVok P pvrenew := by
  subst hP
  refine addPV_ok (fun args p v w h hp => ?_) (pvown_ok _ rfl)
  split at h
  · split at h
    · rename_i hc0; obtain rfl := arr_of hc0; cases h; exact renew_calls _ _ _ _ _ _ _ _ w
    · cases h
  · cases h

end Go.VX
