/- The walk of function 64 (rfree), told by the verified walk VX, and its contract. -/
import Derived.Test.YtgghljienippgaaVX
import Derived.Test.YtgghljienippgaaProg
import Derived.Test.YtgghljienippgaaVM
import Derived.Test.YtgghljienippgaaVP
import Derived.Test.YtgghljienippgaaVrwrong
namespace Go.VX
open Go.Proofs
open Go.RowKit (Below)
set_option linter.unusedVariables false
set_option linter.unusedSimpArgs false
set_option maxRecDepth 100000
open Go.VX.M17

theorem walk_rfree (e ho u mo now guard : Int) (w : World) (Q : Value → Prop) : (∀ (g0 : Nat), Array.size w.heap ≤ g0 → g0 = g0 ∧ (0 ≤ e ∧ 0 ≤ u) ∧ Go.VX.br (Go.VX.M17.mCheck e ho u mo != 0 || Decidable.decide (guard > 10000)) (Go.VX.Done (Q (Go.Value.bool Bool.false))) (g0 = g0 ∧ Go.VX.br (ho == 0) (Go.VX.Done (Q (Go.Value.bool Bool.true))) (g0 = g0 ∧ Go.VX.Done (Q (Go.Value.bool (Decidable.decide (now > Go.IntKind.wrap Go.IntKind.u64 (u + guard)))))))) = codeVC (⟨TT.plain _, (fun f => false), noFar, true, noInv, noInv, pvrwrong, spnow w⟩ : Cfg Try.prog) w 200 (Try.f64.body.getD .skip) ⟨⟨w, []⟩, mkT Try.f64.ntmps [.agg #[.int .u32 e, .int .i64 ho, .int .u64 u, .int .i64 mo], .int .u64 now, .int .u64 guard] [], []⟩ (retK Try.prog Try.f64 fun b v s h => newK h (Done (Q v))) := by
  kernel_rfl

theorem rfree_calls (e ho u mo now guard : Int) (w : World) (hcond : 0 ≤ e ∧ 0 ≤ u ∧ 0 ≤ now ∧ now ≤ 18446744073709551615 ∧ 0 ≤ guard) : Calls Try.prog 64 ([.agg #[.int .u32 e, .int .i64 ho, .int .u64 u, .int .i64 mo], .int .u64 now, .int .u64 guard] : List Value).toArray w fun en w' => en = .returned (.bool (mFree e ho u mo now guard)) ∧ Below w.heap.size w w' := by
  refine calls_eq (calls_pure (G := (⟨TT.plain _, (fun f => false), noFar, true, noInv, noInv, pvrwrong, spnow w⟩ : Cfg Try.prog)) (spnow_ok Try.prog w rfl) (pvrwrong_ok Try.prog rfl) 200 Try.func64 rfl (Q := fun v => v = .bool (mFree e ho u mo now guard)) ?_)
  refine (walk_rfree e ho u mo now guard w (fun v => v = .bool (mFree e ho u mo now guard))).mp ?_
  repeat' (first | intro _ | apply And.intro | apply br_intro)
  all_goals try first | rfl | exact True.intro | assumption
  all_goals first | (refine Done.mk ?_; (obtain ⟨F1, F2, F3⟩ := free_leaf (e := e) (ho := ho) (u := u) (mo := mo) (now := now) (guard := guard) hcond; show Value.bool _ = Value.bool _; congr 1; clear hcond; revert F1 F2 F3; simp only [cond, beq_iff_eq, bne_iff_ne, beq_eq_false_iff_ne, bne_eq_false_iff_eq, Bool.or_eq_true, Bool.and_eq_true, Bool.or_eq_false_iff, Bool.and_eq_false_imp, decide_eq_true_eq, decide_eq_false_iff_not, Bool.not_eq_true', Bool.not_eq_false', Bool.not_eq_eq_eq_not, Bool.not_true, Bool.not_false, ne_eq, Int.not_lt, Int.not_le, ge_iff_le, gt_iff_lt] at *; intro F1 F2 F3; first | exact (F1 (by omega)).symm | exact (F2 (by omega) (by omega)).symm | exact (F3 (by omega) (by omega)).symm)) | (intros; first | rfl | assumption | trivial | omega | (show (_ : Int) ≤ _; first | decide | omega) | (show (_ : Int) < _; first | decide | omega) | (simp only [cond, beq_iff_eq, bne_iff_ne, beq_eq_false_iff_ne, bne_eq_false_iff_eq, Bool.or_eq_true, Bool.and_eq_true, Bool.or_eq_false_iff, Bool.and_eq_false_imp, decide_eq_true_eq, decide_eq_false_iff_not, Bool.not_eq_true', Bool.not_eq_false', Bool.not_eq_eq_eq_not, Bool.not_true, Bool.not_false, ne_eq, Int.not_lt, Int.not_le, ge_iff_le, gt_iff_lt] at *; first | rfl | assumption | omega | (simp_all; done)))

def pvrfree : PV := addPV 64 (fun | [.agg c0, .int .u64 now, .int .u64 guard] => (match c0.toList with | [.int .u32 e, .int .i64 ho, .int .u64 u, .int .i64 mo] => some (some (0 ≤ e ∧ 0 ≤ u ∧ 0 ≤ now ∧ now ≤ 18446744073709551615 ∧ 0 ≤ guard), .bool (mFree e ho u mo now guard)) | _ => none) | _ => none) pvrwrong
theorem pvrfree_ok (P : Program) (hP : P = Try.prog) : PVok P pvrfree := by
  subst hP
  refine addPV_ok (fun args p v w h hp => ?_) (pvrwrong_ok _ rfl)
  split at h
  · split at h
    · rename_i hc0; obtain rfl := arr_of hc0; cases h; exact rfree_calls _ _ _ _ _ _ w (hp _ rfl)
    · cases h
  · cases h

end Go.VX
