/- The walk of function 18 (rtick), told by the verified walk VX, and its contract. -/
import Derived.Test.YtgghljienippgaaVX
import Derived.Test.YtgghljienippgaaProg
import Derived.Test.YtgghljienippgaaVM
import Derived.Test.YtgghljienippgaaVrturn
namespace Go.VX
open Go.Proofs
open Go.RowKit (Below)
set_option linter.unusedVariables false
set_option linter.unusedSimpArgs false
set_option maxRecDepth 100000
open Go.VX.M17

theorem walk_rtick (g : Nat) (L G now e ho u mo n : Int) (w : World) (Q : Value → List Value → Prop) : (Go.VX.br (Decidable.decide (n < 1)) ((g = g ∧ 54 = 54) ∧ Go.VX.Done (Q (Go.Value.tuple #[]) [Go.Value.int Go.IntKind.u64 L, Go.Value.int Go.IntKind.u64 G, Go.Value.int Go.IntKind.u64 now, Go.Value.int Go.IntKind.u32 e, Go.Value.int Go.IntKind.i64 ho, Go.Value.int Go.IntKind.u64 u, Go.Value.int Go.IntKind.i64 mo])) (g = g ∧ Go.VX.br (Decidable.decide (Go.IntKind.wrap Go.IntKind.u64 n < Go.IntKind.wrap Go.IntKind.u64 (4611686018427387904 - now))) (g = g ∧ g = g ∧ (g = g ∧ 54 = 54) ∧ Go.VX.Done (Q (Go.Value.tuple #[]) [Go.Value.int Go.IntKind.u64 L, Go.Value.int Go.IntKind.u64 G, Go.Value.int Go.IntKind.u64 (Go.IntKind.wrap Go.IntKind.u64 (now + Go.IntKind.wrap Go.IntKind.u64 n)), Go.Value.int Go.IntKind.u32 e, Go.Value.int Go.IntKind.i64 ho, Go.Value.int Go.IntKind.u64 u, Go.Value.int Go.IntKind.i64 mo])) (g = g ∧ g = g ∧ (g = g ∧ 54 = 54) ∧ Go.VX.Done (Q (Go.Value.tuple #[]) [Go.Value.int Go.IntKind.u64 L, Go.Value.int Go.IntKind.u64 G, Go.Value.int Go.IntKind.u64 (Go.IntKind.wrap Go.IntKind.u64 (now + Go.IntKind.wrap Go.IntKind.u64 (4611686018427387904 - now))), Go.Value.int Go.IntKind.u32 e, Go.Value.int Go.IntKind.i64 ho, Go.Value.int Go.IntKind.u64 u, Go.Value.int Go.IntKind.i64 mo])))) = codeVC (⟨TT.plain _, (fun f => false), noFar, true, noInv, noInv, pvrturn, spnow w⟩ : Cfg Try.prog) w 200 (Try.f18.body.getD .skip) ⟨⟨w, []⟩, mkT Try.f18.ntmps (.pointer (some ⟨g, 0, none⟩) :: [.int .i64 n]) [[[some 0]]], [⟨g, [.int .u64 L, .int .u64 G, .int .u64 now, .int .u32 e, .int .i64 ho, .int .u64 u, .int .i64 mo], 54, [], none, false, .lit⟩]⟩ (retK Try.prog Try.f18 fun b v s h => stK g 54 h fun c => Done (Q v c)) := by
  kernel_rfl

theorem rtick_calls (g : Nat) (L G now e ho u mo n : Int) (w : World) (hg : w.heap[g]? = some (.cells ([.int .u64 L, .int .u64 G, .int .u64 now, .int .u32 e, .int .i64 ho, .int .u64 u, .int .i64 mo] : List Value).toArray 54 (0, 0))) : Calls Try.prog 18 (.pointer (some ⟨g, 0, none⟩) :: [.int .i64 n] : List Value).toArray w fun en w' => en = .returned (.tuple #[]) ∧ Keep g ([.int .u64 L, .int .u64 G, .int .u64 (mTick now n), .int .u32 e, .int .i64 ho, .int .u64 u, .int .i64 mo]) 54 w w' := by
  refine calls_st (G := (⟨TT.plain _, (fun f => false), noFar, true, noInv, noInv, pvrturn, spnow w⟩ : Cfg Try.prog)) (spnow_ok Try.prog w rfl) (pvrturn_ok Try.prog rfl) 200 Try.func18 rfl hg ?_
  refine (walk_rtick g L G now e ho u mo n w (fun v c => v = .tuple #[] ∧ c = [.int .u64 L, .int .u64 G, .int .u64 (mTick now n), .int .u32 e, .int .i64 ho, .int .u64 u, .int .i64 mo])).mp ?_
  clear hg
  repeat' (first | intro _ | apply And.intro | apply br_intro)
  all_goals try first | rfl | exact True.intro | assumption
  all_goals first | (refine Done.mk ?_; (refine ⟨rfl, ?_⟩; simp only [decide_eq_true_eq, decide_eq_false_iff_not, Int.not_lt] at *; first | rw [tick_0 (by omega)] | rw [tick_1 (by omega) (by omega)] | rw [tick_2 (by omega) (by omega)])) | (intros; first | rfl | assumption | trivial | omega | (show (_ : Int) ≤ _; first | decide | omega) | (show (_ : Int) < _; first | decide | omega) | (simp only [cond, beq_iff_eq, bne_iff_ne, beq_eq_false_iff_ne, bne_eq_false_iff_eq, Bool.or_eq_true, Bool.and_eq_true, Bool.or_eq_false_iff, Bool.and_eq_false_imp, decide_eq_true_eq, decide_eq_false_iff_not, Bool.not_eq_true', Bool.not_eq_false', Bool.not_eq_eq_eq_not, Bool.not_true, Bool.not_false, ne_eq, Int.not_lt, Int.not_le, ge_iff_le, gt_iff_lt] at *; first | rfl | assumption | omega | (simp_all; done)))

def sprtick (w : World) : CV := addSt 18 54 (fun r c => match r, c with
  | [.int .i64 n], [.int .u64 L, .int .u64 G, .int .u64 now, .int .u32 e, .int .i64 ho, .int .u64 u, .int .i64 mo] => some (.tuple #[], [.int .u64 L, .int .u64 G, .int .u64 (mTick now n), .int .u32 e, .int .i64 ho, .int .u64 u, .int .i64 mo])
  | _, _ => none) (spnow w)
theorem sprtick_ok (P : Program) (w : World) (hP : P = Try.prog) : CVok P w (sprtick w) := by
  subst hP
  refine addSt_ok (fun r g c v c' w h hg => ?_) (spnow_ok _ _ rfl)
  split at h
  · cases h; exact rtick_calls g _ _ _ _ _ _ _ _  w hg
  · cases h

end Go.VX
