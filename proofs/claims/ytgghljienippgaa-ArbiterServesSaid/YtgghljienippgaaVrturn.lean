/- The walk of function 39 (rturn), told by the verified walk VX, and its contract. -/
import Derived.Test.YtgghljienippgaaVX
import Derived.Test.YtgghljienippgaaProg
import Derived.Test.YtgghljienippgaaVM
import Derived.Test.YtgghljienippgaaVrrenew
import Derived.Test.YtgghljienippgaaVrchk
namespace Go.VX
open Go.Proofs
open Go.RowKit (Below)
set_option linter.unusedVariables false
set_option linter.unusedSimpArgs false
set_option maxRecDepth 100000
open Go.VX.M17

theorem walk_rturn (e ho u mo now who epoch mode : Int) (w : World) (Q : Value → Prop) : (∀ (g0 : Nat), Array.size w.heap ≤ g0 → ∀ (g2 : Nat), Array.size w.heap ≤ g2 → g0 = g0 ∧ (0 ≤ e ∧ 0 ≤ u) ∧ Go.VX.br (Go.VX.M17.mWrong e ho u mo who 1 || Decidable.decide (mode < 1) || Decidable.decide (mode > 2)) (g2 = g2 ∧ g2 = (Go.Addr.add (Go.Addr.mk g2 0 Option.none) 0).block ∧ g2 = (Go.Addr.add (Go.Addr.mk g2 0 Option.none) 1).block ∧ g2 = (Go.Addr.add (Go.Addr.mk g2 0 Option.none) 2).block ∧ g2 = (Go.Addr.add (Go.Addr.mk g2 0 Option.none) 3).block ∧ Go.VX.Done (Q (Go.Value.tuple #[Go.Value.agg #[Go.Value.int Go.IntKind.u32 0, Go.Value.int Go.IntKind.i64 0, Go.Value.int Go.IntKind.u64 0, Go.Value.int Go.IntKind.i64 0], Go.Value.int Go.IntKind.i64 2]))) (g0 = g0 ∧ g0 = g0 ∧ Go.VX.br (ho != who || e != epoch) (g2 = g2 ∧ g2 = (Go.Addr.add (Go.Addr.mk g2 0 Option.none) 0).block ∧ g2 = (Go.Addr.add (Go.Addr.mk g2 0 Option.none) 1).block ∧ g2 = (Go.Addr.add (Go.Addr.mk g2 0 Option.none) 2).block ∧ g2 = (Go.Addr.add (Go.Addr.mk g2 0 Option.none) 3).block ∧ Go.VX.Done (Q (Go.Value.tuple #[Go.Value.agg #[Go.Value.int Go.IntKind.u32 0, Go.Value.int Go.IntKind.i64 0, Go.Value.int Go.IntKind.u64 0, Go.Value.int Go.IntKind.i64 0], Go.Value.int Go.IntKind.i64 72]))) (g0 = g0 ∧ Go.VX.br (Decidable.decide (now > u)) (g2 = g2 ∧ g2 = (Go.Addr.add (Go.Addr.mk g2 0 Option.none) 0).block ∧ g2 = (Go.Addr.add (Go.Addr.mk g2 0 Option.none) 1).block ∧ g2 = (Go.Addr.add (Go.Addr.mk g2 0 Option.none) 2).block ∧ g2 = (Go.Addr.add (Go.Addr.mk g2 0 Option.none) 3).block ∧ Go.VX.Done (Q (Go.Value.tuple #[Go.Value.agg #[Go.Value.int Go.IntKind.u32 0, Go.Value.int Go.IntKind.i64 0, Go.Value.int Go.IntKind.u64 0, Go.Value.int Go.IntKind.i64 0], Go.Value.int Go.IntKind.i64 73]))) (g0 = g0 ∧ g0 = g0 ∧ g2 = g2 ∧ g2 = (Go.Addr.add (Go.Addr.mk g2 0 Option.none) 0).block ∧ g2 = (Go.Addr.add (Go.Addr.mk g2 0 Option.none) 1).block ∧ g2 = (Go.Addr.add (Go.Addr.mk g2 0 Option.none) 2).block ∧ g2 = (Go.Addr.add (Go.Addr.mk g2 0 Option.none) 3).block ∧ Go.VX.Done (Q (Go.Value.tuple #[Go.Value.agg #[Go.Value.int Go.IntKind.u32 e, Go.Value.int Go.IntKind.i64 ho, Go.Value.int Go.IntKind.u64 u, Go.Value.int Go.IntKind.i64 mode], Go.Value.int Go.IntKind.i64 0])))))) = codeVC (⟨TT.plain _, (fun f => false), noFar, true, noInv, noInv, pvrrenew, spnow w⟩ : Cfg Try.prog) w 200 (Try.f39.body.getD .skip) ⟨⟨w, []⟩, mkT Try.f39.ntmps [.agg #[.int .u32 e, .int .i64 ho, .int .u64 u, .int .i64 mo], .int .u64 now, .int .i64 who, .int .u32 epoch, .int .i64 mode] [], []⟩ (retK Try.prog Try.f39 fun b v s h => newK h (Done (Q v))) := by
  kernel_rfl

theorem rturn_calls (e ho u mo now who epoch mode : Int) (w : World) (hcond : 0 ≤ e ∧ 0 ≤ u) : Calls Try.prog 39 ([.agg #[.int .u32 e, .int .i64 ho, .int .u64 u, .int .i64 mo], .int .u64 now, .int .i64 who, .int .u32 epoch, .int .i64 mode] : List Value).toArray w fun en w' => en = .returned (ltup (mTurn e ho u mo now who epoch mode)) ∧ Below w.heap.size w w' := by
  refine calls_eq (calls_pure (G := (⟨TT.plain _, (fun f => false), noFar, true, noInv, noInv, pvrrenew, spnow w⟩ : Cfg Try.prog)) (spnow_ok Try.prog w rfl) (pvrrenew_ok Try.prog rfl) 200 Try.func39 rfl (Q := fun v => v = ltup (mTurn e ho u mo now who epoch mode)) ?_)
  refine (walk_rturn e ho u mo now who epoch mode w (fun v => v = ltup (mTurn e ho u mo now who epoch mode))).mp ?_
  repeat' (first | intro _ | apply And.intro | apply br_intro)
  all_goals try first | rfl | exact True.intro | assumption
  all_goals first | (refine Done.mk ?_; (simp only [mWrong_t, mWrong_f, Bool.or_eq_true, Bool.or_eq_false_iff] at *; simp only [cond, beq_iff_eq, bne_iff_ne, beq_eq_false_iff_ne, bne_eq_false_iff_eq, Bool.or_eq_true, Bool.and_eq_true, Bool.or_eq_false_iff, Bool.and_eq_false_imp, decide_eq_true_eq, decide_eq_false_iff_not, Bool.not_eq_true', Bool.not_eq_false', Bool.not_eq_eq_eq_not, Bool.not_true, Bool.not_false, ne_eq, Int.not_lt, Int.not_le, ge_iff_le, gt_iff_lt] at *; show _ = _; unfold mTurn mOwn; (repeat' split) <;> first | rfl | (exfalso; omega) | (exfalso; simp_all; done) | (exfalso; simp_all; omega))) | (intros; first | rfl | assumption | trivial | omega | (show (_ : Int) ≤ _; first | decide | omega) | (show (_ : Int) < _; first | decide | omega) | (simp only [cond, beq_iff_eq, bne_iff_ne, beq_eq_false_iff_ne, bne_eq_false_iff_eq, Bool.or_eq_true, Bool.and_eq_true, Bool.or_eq_false_iff, Bool.and_eq_false_imp, decide_eq_true_eq, decide_eq_false_iff_not, Bool.not_eq_true', Bool.not_eq_false', Bool.not_eq_eq_eq_not, Bool.not_true, Bool.not_false, ne_eq, Int.not_lt, Int.not_le, ge_iff_le, gt_iff_lt] at *; first | rfl | assumption | omega | (simp_all; done)))

def pvrturn : PV := addPV 39 (fun | [.agg c0, .int .u64 now, .int .i64 who, .int .u32 epoch, .int .i64 mode] => (match c0.toList with | [.int .u32 e, .int .i64 ho, .int .u64 u, .int .i64 mo] => some (some (0 ≤ e ∧ 0 ≤ u), ltup (mTurn e ho u mo now who epoch mode)) | _ => none) | _ => none) pvrrenew
theorem pvrturn_ok (P : Program) (hP : P = Try.prog) : PVok P pvrturn := by
  subst hP
  refine addPV_ok (fun args p v w h hp => ?_) (pvrrenew_ok _ rfl)
  split at h
  · split at h
    · rename_i hc0; obtain rfl := arr_of hc0; cases h; exact rturn_calls _ _ _ _ _ _ _ _ w (hp _ rfl)
    · cases h
  · cases h

def pvrs : PV := addPV 35 (fun | [.agg c0] => (match c0.toList with | [.int .i64 nk, .int .u32 ne, .int .u32 old, .int .u64 lsn, .int .u64 tick, .int .u32 ord, .int .i64 st, .bool un, .int .i64 co, .slice K kl kc, .slice D dl dc] => some (none, .int .i64 (mRChk nk ne old lsn tick ord st un co kl dl)) | _ => none) | _ => none) pvrturn
theorem pvrs_ok (P : Program) (hP : P = Try.prog) : PVok P pvrs := by
  subst hP
  refine addPV_ok (fun args p v w h hp => ?_) (pvrturn_ok _ rfl)
  split at h
  · split at h
    · rename_i hc0; obtain rfl := arr_of hc0; cases h; exact rchk_calls _ _ _ _ _ _ _ _ _ _ _ _ _ _ _ w
    · cases h
  · cases h

end Go.VX
