/- The walk of function 20 (same), told by the verified walk VX, and its contract. -/
import Derived.Test.YtgghljienippgaaVX
import Derived.Test.YtgghljienippgaaProg
import Derived.Test.YtgghljienippgaaVM
import Derived.Test.YtgghljienippgaaVlong
namespace Go.VX
open Go.Proofs
open Go.RowKit (Below)
set_option linter.unusedVariables false
set_option linter.unusedSimpArgs false
set_option maxRecDepth 100000
set_option maxHeartbeats 4000000
open Go.VX.M17

theorem walk_same (a0 a1 a2 a3 a4 a5 a6 : Int) (a7 : Bool) (a8 b0 b1 b2 b3 b4 b5 b6 : Int) (b7 : Bool) (b8 : Int) (w : World) (Q : Value → Prop) : (∀ (g0 : Nat), Array.size w.heap ≤ g0 → ∀ (g2 : Nat), Array.size w.heap ≤ g2 → g0 = g0 ∧ g2 = g2 ∧ g0 = g0 ∧ g2 = g2 ∧ g0 = g0 ∧ g2 = g2 ∧ g0 = g0 ∧ g2 = g2 ∧ g0 = g0 ∧ g2 = g2 ∧ g0 = g0 ∧ g2 = g2 ∧ g0 = g0 ∧ g2 = g2 ∧ g0 = g0 ∧ g2 = g2 ∧ g0 = g0 ∧ g2 = g2 ∧ g0 = g0 ∧ Go.VX.br (a0 == b0 && a1 == b1 && a2 == b2 && a3 == b3 && a4 == b4 && a5 == b5 && a6 == b6 && a7 == b7 && a8 == b8) ((a0 == b0 && a1 == b1 && a2 == b2 && a3 == b3 && a4 == b4 && a5 == b5 && a6 == b6 && a7 == b7 && a8 == b8) = Bool.true ∧ g2 = g2 ∧ g0 = g0 ∧ Bool.true = Bool.true ∧ g2 = g2 ∧ Go.VX.Done (Q (Go.Value.bool Bool.true))) (g0 = g0 ∧ Go.VX.Done (Q (Go.Value.bool Bool.false)))) = codeVC (⟨TT.plain _, (fun f => false), noFar, true, noInv, noInv, pvsave0, noCV w⟩ : Cfg Try.prog) w 200 (Try.f20.body.getD .skip) ⟨⟨w, []⟩, mkT Try.f20.ntmps [.agg #[.int .i64 a0, .int .u32 a1, .int .u32 a2, .int .u64 a3, .int .u64 a4, .int .u32 a5, .int .i64 a6, .bool a7, .int .i64 a8, .slice none 0 0, .slice none 0 0], .agg #[.int .i64 b0, .int .u32 b1, .int .u32 b2, .int .u64 b3, .int .u64 b4, .int .u32 b5, .int .i64 b6, .bool b7, .int .i64 b8, .slice none 0 0, .slice none 0 0]] [], []⟩ (retK Try.prog Try.f20 fun b v s h => newK h (Done (Q v))) := by
  kernel_rfl

theorem same_calls (a0 a1 a2 a3 a4 a5 a6 : Int) (a7 : Bool) (a8 b0 b1 b2 b3 b4 b5 b6 : Int) (b7 : Bool) (b8 : Int) (w : World) : Calls Try.prog 20 ([.agg #[.int .i64 a0, .int .u32 a1, .int .u32 a2, .int .u64 a3, .int .u64 a4, .int .u32 a5, .int .i64 a6, .bool a7, .int .i64 a8, .slice none 0 0, .slice none 0 0], .agg #[.int .i64 b0, .int .u32 b1, .int .u32 b2, .int .u64 b3, .int .u64 b4, .int .u32 b5, .int .i64 b6, .bool b7, .int .i64 b8, .slice none 0 0, .slice none 0 0]] : List Value).toArray w fun en w' => en = .returned (.bool (a0 == b0 && a1 == b1 && a2 == b2 && a3 == b3 && a4 == b4 && a5 == b5 && a6 == b6 && a7 == b7 && a8 == b8)) ∧ Below w.heap.size w w' := by
  refine calls_eq (calls_pure (G := (⟨TT.plain _, (fun f => false), noFar, true, noInv, noInv, pvsave0, noCV w⟩ : Cfg Try.prog)) (noCV_ok' Try.prog w) (pvsave0_ok Try.prog rfl) 200 Try.func20 rfl (Q := fun v => v = .bool (a0 == b0 && a1 == b1 && a2 == b2 && a3 == b3 && a4 == b4 && a5 == b5 && a6 == b6 && a7 == b7 && a8 == b8)) ?_)
  refine (walk_same a0 a1 a2 a3 a4 a5 a6 a7 a8 b0 b1 b2 b3 b4 b5 b6 b7 b8 w (fun v => v = .bool (a0 == b0 && a1 == b1 && a2 == b2 && a3 == b3 && a4 == b4 && a5 == b5 && a6 == b6 && a7 == b7 && a8 == b8))).mp ?_
  repeat' (first | intro _ | apply And.intro | apply br_intro)
  all_goals try first | rfl | exact True.intro | assumption
  all_goals first | (refine Done.mk ?_; (rename_i hq; show Value.bool _ = Value.bool _; rw [hq])) | (intros; first | rfl | assumption | trivial | omega | (show (_ : Int) ≤ _; first | decide | omega) | (show (_ : Int) < _; first | decide | omega) | (simp only [cond, beq_iff_eq, bne_iff_ne, beq_eq_false_iff_ne, bne_eq_false_iff_eq, Bool.or_eq_true, Bool.and_eq_true, Bool.or_eq_false_iff, Bool.and_eq_false_imp, decide_eq_true_eq, decide_eq_false_iff_not, Bool.not_eq_true', Bool.not_eq_false', Bool.not_eq_eq_eq_not, Bool.not_true, Bool.not_false, ne_eq, Int.not_lt, Int.not_le, ge_iff_le, gt_iff_lt] at *; first | rfl | assumption | omega | (simp_all; done)))

def pvsame : PV := addPV 20 (fun | [.agg c0, .agg c1] => (match c0.toList with | [.int .i64 a0, .int .u32 a1, .int .u32 a2, .int .u64 a3, .int .u64 a4, .int .u32 a5, .int .i64 a6, .bool a7, .int .i64 a8, .slice none 0 0, .slice none 0 0] => (match c1.toList with | [.int .i64 b0, .int .u32 b1, .int .u32 b2, .int .u64 b3, .int .u64 b4, .int .u32 b5, .int .i64 b6, .bool b7, .int .i64 b8, .slice none 0 0, .slice none 0 0] => some (none, .bool (a0 == b0 && a1 == b1 && a2 == b2 && a3 == b3 && a4 == b4 && a5 == b5 && a6 == b6 && a7 == b7 && a8 == b8)) | _ => none) | _ => none) | _ => none) pvsave0
theorem pvsame_ok (P : Program) (hP : P = Try.prog) : PVok P pvsame := by
  subst hP
  refine addPV_ok (fun args p v w h hp => ?_) (pvsave0_ok _ rfl)
  split at h
  · split at h
    · rename_i hc0; obtain rfl := arr_of hc0; split at h
      · rename_i hc1; obtain rfl := arr_of hc1; cases h; exact same_calls _ _ _ _ _ _ _ _ _ _ _ _ _ _ _ _ _ _  w
      · cases h
    · cases h
  · cases h

end Go.VX
