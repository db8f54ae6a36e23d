/- The walk of function 13 (tick), told by the verified walk VX, and its contract. -/
import Derived.Test.YtgghljienippgaaVX
import Derived.Test.YtgghljienippgaaProg
import Derived.Test.YtgghljienippgaaVM
import Derived.Test.YtgghljienippgaaVserve
namespace Go.VX
open Go.Proofs
open Go.RowKit (Below)
set_option linter.unusedVariables false
set_option linter.unusedSimpArgs false
set_option maxRecDepth 100000
set_option maxHeartbeats 4000000
open Go.VX.M17

theorem walk_tick (g : Nat) (L G now e ho u mo la n : Int) (w : World) (Q : Value → List Value → Prop) : (Go.VX.br (Bool.true && Decidable.decide (n > 0)) (Bool.true = Bool.true ∧ g = g ∧ g = g ∧ g = g ∧ (g = g ∧ 71 = 71) ∧ Go.VX.Done (Q (Go.Value.tuple #[]) [Go.Value.int Go.IntKind.u64 L, Go.Value.int Go.IntKind.u64 G, Go.Value.int Go.IntKind.u64 (Go.IntKind.wrap Go.IntKind.u64 (now + if Go.IntKind.wrap Go.IntKind.u64 (4611686018427387904 - now) < Go.IntKind.wrap Go.IntKind.u64 n then Go.IntKind.wrap Go.IntKind.u64 (4611686018427387904 - now) else Go.IntKind.wrap Go.IntKind.u64 n)), Go.Value.int Go.IntKind.u32 e, Go.Value.int Go.IntKind.i64 ho, Go.Value.int Go.IntKind.u64 u, Go.Value.int Go.IntKind.i64 mo, Go.Value.int Go.IntKind.i64 la])) ((g = g ∧ 71 = 71) ∧ Go.VX.Done (Q (Go.Value.tuple #[]) [Go.Value.int Go.IntKind.u64 L, Go.Value.int Go.IntKind.u64 G, Go.Value.int Go.IntKind.u64 now, Go.Value.int Go.IntKind.u32 e, Go.Value.int Go.IntKind.i64 ho, Go.Value.int Go.IntKind.u64 u, Go.Value.int Go.IntKind.i64 mo, Go.Value.int Go.IntKind.i64 la]))) = codeVC (⟨TT.plain _, (fun f => false), noFar, true, noInv, noInv, pvchk, spserve w⟩ : Cfg Try.prog) w 200 (Try.f13.body.getD .skip) ⟨⟨w, []⟩, mkT Try.f13.ntmps (.pointer (some ⟨g, 0, none⟩) :: [.int .i64 n]) [[[some 0]]], [⟨g, [.int .u64 L, .int .u64 G, .int .u64 now, .int .u32 e, .int .i64 ho, .int .u64 u, .int .i64 mo, .int .i64 la], 71, [], none, false, .lit⟩]⟩ (retK Try.prog Try.f13 fun b v s h => stK g 71 h fun c => Done (Q v c)) := by
  kernel_rfl

theorem tick_calls (g : Nat) (L G now e ho u mo la n : Int) (w : World) (hg : w.heap[g]? = some (.cells ([.int .u64 L, .int .u64 G, .int .u64 now, .int .u32 e, .int .i64 ho, .int .u64 u, .int .i64 mo, .int .i64 la] : List Value).toArray 71 (0, 0))) : Calls Try.prog 13 (.pointer (some ⟨g, 0, none⟩) :: [.int .i64 n] : List Value).toArray w fun en w' => en = .returned (.tuple #[]) ∧ Keep g ([.int .u64 L, .int .u64 G, .int .u64 (mTick now n), .int .u32 e, .int .i64 ho, .int .u64 u, .int .i64 mo, .int .i64 la]) 71 w w' := by
  refine calls_st (G := (⟨TT.plain _, (fun f => false), noFar, true, noInv, noInv, pvchk, spserve w⟩ : Cfg Try.prog)) (spserve_ok Try.prog w rfl) (pvchk_ok Try.prog rfl) 200 Try.func13 rfl hg ?_
  refine (walk_tick g L G now e ho u mo la n w (fun v c => v = .tuple #[] ∧ c = [.int .u64 L, .int .u64 G, .int .u64 (mTick now n), .int .u32 e, .int .i64 ho, .int .u64 u, .int .i64 mo, .int .i64 la])).mp ?_
  clear hg
  repeat' (first | intro _ | apply And.intro | apply br_intro)
  all_goals try first | rfl | exact True.intro | assumption
  all_goals first | (refine Done.mk ?_; (rename_i hq; simp only [Bool.true_and, decide_eq_true_eq, decide_eq_false_iff_not] at hq; refine ⟨rfl, ?_⟩; unfold mTick; split <;> first | rfl | (exfalso; omega))) | (intros; first | rfl | assumption | trivial | omega | (show (_ : Int) ≤ _; first | decide | omega) | (show (_ : Int) < _; first | decide | omega) | (simp only [cond, beq_iff_eq, bne_iff_ne, beq_eq_false_iff_ne, bne_eq_false_iff_eq, Bool.or_eq_true, Bool.and_eq_true, Bool.or_eq_false_iff, Bool.and_eq_false_imp, decide_eq_true_eq, decide_eq_false_iff_not, Bool.not_eq_true', Bool.not_eq_false', Bool.not_eq_eq_eq_not, Bool.not_true, Bool.not_false, ne_eq, Int.not_lt, Int.not_le, ge_iff_le, gt_iff_lt] at *; first | rfl | assumption | omega | (simp_all; done)))

def sptick (w : World) : CV := addSt 13 71 (fun r c => match r, c with
  | [.int .i64 n], [.int .u64 L, .int .u64 G, .int .u64 now, .int .u32 e, .int .i64 ho, .int .u64 u, .int .i64 mo, .int .i64 la] => some (.tuple #[], [.int .u64 L, .int .u64 G, .int .u64 (mTick now n), .int .u32 e, .int .i64 ho, .int .u64 u, .int .i64 mo, .int .i64 la])
  | _, _ => none) (spserve w)
theorem sptick_ok (P : Program) (w : World) (hP : P = Try.prog) : CVok P w (sptick w) := by
  subst hP
  refine addSt_ok (fun r g c v c' w h hg => ?_) (spserve_ok _ _ rfl)
  split at h
  · cases h; exact tick_calls g _ _ _ _ _ _ _ _ _  w hg
  · cases h

end Go.VX
