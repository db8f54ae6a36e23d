/- The walk of function 71 (own), told by the verified walk VX, and its contract. -/
import Derived.Test.YtgghljienippgaaVX
import Derived.Test.YtgghljienippgaaProg
import Derived.Test.YtgghljienippgaaVM
import Derived.Test.YtgghljienippgaaVgrant
namespace Go.VX
open Go.Proofs
open Go.RowKit (Below)
set_option linter.unusedVariables false
set_option linter.unusedSimpArgs false
set_option maxRecDepth 100000
set_option maxHeartbeats 4000000
open Go.VX.M17

theorem walk_own (e ho u mo now who epoch : Int) (w : World) (Q : Value → Prop) : (∀ (g0 : Nat), Array.size w.heap ≤ g0 → g0 = g0 ∧ g0 = g0 ∧ Go.VX.br (ho != who || e != epoch) (Go.VX.Done (Q (Go.Value.int Go.IntKind.i64 72))) (g0 = g0 ∧ Go.VX.br (Decidable.decide (now > u)) (Go.VX.Done (Q (Go.Value.int Go.IntKind.i64 73))) (Go.VX.Done (Q (Go.Value.int Go.IntKind.i64 0))))) = codeVC (⟨TT.plain _, (fun f => false), noFar, true, noInv, noInv, pvgrant, noCV w⟩ : Cfg Try.prog) w 200 (Try.f71.body.getD .skip) ⟨⟨w, []⟩, mkT Try.f71.ntmps [.agg #[.int .u32 e, .int .i64 ho, .int .u64 u, .int .i64 mo], .int .u64 now, .int .i64 who, .int .u32 epoch] [], []⟩ (retK Try.prog Try.f71 fun b v s h => newK h (Done (Q v))) := by
  kernel_rfl

theorem own_calls (e ho u mo now who epoch : Int) (w : World) : Calls Try.prog 71 ([.agg #[.int .u32 e, .int .i64 ho, .int .u64 u, .int .i64 mo], .int .u64 now, .int .i64 who, .int .u32 epoch] : List Value).toArray w fun en w' => en = .returned (.int .i64 (mOwn e ho u now who epoch)) ∧ Below w.heap.size w w' := by
  refine calls_eq (calls_pure (G := (⟨TT.plain _, (fun f => false), noFar, true, noInv, noInv, pvgrant, noCV w⟩ : Cfg Try.prog)) (noCV_ok' Try.prog w) (pvgrant_ok Try.prog rfl) 200 Try.func71 rfl (Q := fun v => v = .int .i64 (mOwn e ho u now who epoch)) ?_)
  refine (walk_own e ho u mo now who epoch w (fun v => v = .int .i64 (mOwn e ho u now who epoch))).mp ?_
  repeat' (first | intro _ | apply And.intro | apply br_intro)
  all_goals try first | rfl | exact True.intro | assumption
  all_goals first | (refine Done.mk ?_; (simp only [cond, beq_iff_eq, bne_iff_ne, beq_eq_false_iff_ne, bne_eq_false_iff_eq, Bool.or_eq_true, Bool.and_eq_true, Bool.or_eq_false_iff, Bool.and_eq_false_imp, decide_eq_true_eq, decide_eq_false_iff_not, Bool.not_eq_true', Bool.not_eq_false', Bool.not_eq_eq_eq_not, Bool.not_true, Bool.not_false, ne_eq, Int.not_lt, Int.not_le, ge_iff_le, gt_iff_lt] at *; show Value.int _ _ = Value.int _ _; congr 1; unfold mOwn; (repeat' split) <;> first | rfl | omega | (exfalso; omega) | (exfalso; simp_all; done) | (simp_all; done) | (exfalso; simp_all; omega))) | (intros; first | rfl | assumption | trivial | omega | (show (_ : Int) ≤ _; first | decide | omega) | (show (_ : Int) < _; first | decide | omega) | (simp only [cond, beq_iff_eq, bne_iff_ne, beq_eq_false_iff_ne, bne_eq_false_iff_eq, Bool.or_eq_true, Bool.and_eq_true, Bool.or_eq_false_iff, Bool.and_eq_false_imp, decide_eq_true_eq, decide_eq_false_iff_not, Bool.not_eq_true', Bool.not_eq_false', Bool.not_eq_eq_eq_not, Bool.not_true, Bool.not_false, ne_eq, Int.not_lt, Int.not_le, ge_iff_le, gt_iff_lt] at *; first | rfl | assumption | omega | (simp_all; done)))

def pvown : PV := addPV 71 (fun | [.agg c0, .int .u64 now, .int .i64 who, .int .u32 epoch] => (match c0.toList with | [.int .u32 e, .int .i64 ho, .int .u64 u, .int .i64 mo] => some (none, .int .i64 (mOwn e ho u now who epoch)) | _ => none) | _ => none) pvgrant
theorem pvown_ok (P : Program) (hP : P = Try.prog) : PVok P pvown := by
  subst hP
  refine addPV_ok (fun args p v w h hp => ?_) (pvgrant_ok _ rfl)
  split at h
  · split at h
    · rename_i hc0; obtain rfl := arr_of hc0; cases h; exact own_calls _ _ _ _ _ _ _ w
    · cases h
  · cases h

end Go.VX
