/- The walk of function 22 (now), told by the verified walk VX, and its contract. -/
import Derived.Test.YtgghljienippgaaVX
import Derived.Test.YtgghljienippgaaProg
import Derived.Test.YtgghljienippgaaVM
import Derived.Test.YtgghljienippgaaVsave0
namespace Go.VX
open Go.Proofs
open Go.RowKit (Below)
set_option linter.unusedVariables false
set_option linter.unusedSimpArgs false
set_option maxRecDepth 100000
set_option maxHeartbeats 4000000
open Go.VX.M17

theorem walk_now (g : Nat) (L G now e ho u mo la : Int) (w : World) (Q : Value → List Value → Prop) : (g = g ∧ (g = g ∧ 71 = 71) ∧ Go.VX.Done (Q (Go.Value.int Go.IntKind.u64 now) [Go.Value.int Go.IntKind.u64 L, Go.Value.int Go.IntKind.u64 G, Go.Value.int Go.IntKind.u64 now, Go.Value.int Go.IntKind.u32 e, Go.Value.int Go.IntKind.i64 ho, Go.Value.int Go.IntKind.u64 u, Go.Value.int Go.IntKind.i64 mo, Go.Value.int Go.IntKind.i64 la])) = codeVC (⟨TT.plain _, (fun f => false), noFar, true, noInv, noInv, pvsave0, splease w⟩ : Cfg Try.prog) w 200 (Try.f22.body.getD .skip) ⟨⟨w, []⟩, mkT Try.f22.ntmps (.pointer (some ⟨g, 0, none⟩) :: []) [[[some 0]]], [⟨g, [.int .u64 L, .int .u64 G, .int .u64 now, .int .u32 e, .int .i64 ho, .int .u64 u, .int .i64 mo, .int .i64 la], 71, [], none, false, .lit⟩]⟩ (retK Try.prog Try.f22 fun b v s h => stK g 71 h fun c => Done (Q v c)) := by
  kernel_rfl

theorem now_calls (g : Nat) (L G now e ho u mo la : Int) (w : World) (hg : w.heap[g]? = some (.cells ([.int .u64 L, .int .u64 G, .int .u64 now, .int .u32 e, .int .i64 ho, .int .u64 u, .int .i64 mo, .int .i64 la] : List Value).toArray 71 (0, 0))) : Calls Try.prog 22 (.pointer (some ⟨g, 0, none⟩) :: [] : List Value).toArray w fun en w' => en = .returned (.int .u64 now) ∧ Keep g ([.int .u64 L, .int .u64 G, .int .u64 now, .int .u32 e, .int .i64 ho, .int .u64 u, .int .i64 mo, .int .i64 la]) 71 w w' := by
  refine calls_st (G := (⟨TT.plain _, (fun f => false), noFar, true, noInv, noInv, pvsave0, splease w⟩ : Cfg Try.prog)) (splease_ok Try.prog w rfl) (pvsave0_ok Try.prog rfl) 200 Try.func22 rfl hg ?_
  refine (walk_now g L G now e ho u mo la w (fun v c => v = .int .u64 now ∧ c = [.int .u64 L, .int .u64 G, .int .u64 now, .int .u32 e, .int .i64 ho, .int .u64 u, .int .i64 mo, .int .i64 la])).mp ?_
  clear hg
  repeat' (first | intro _ | apply And.intro | apply br_intro)
  all_goals try first | rfl | exact True.intro | assumption
  all_goals first | (refine Done.mk ?_; exact ⟨rfl, rfl⟩) | (intros; first | rfl | assumption | trivial | omega | (show (_ : Int) ≤ _; first | decide | omega) | (show (_ : Int) < _; first | decide | omega) | (simp only [cond, beq_iff_eq, bne_iff_ne, beq_eq_false_iff_ne, bne_eq_false_iff_eq, Bool.or_eq_true, Bool.and_eq_true, Bool.or_eq_false_iff, Bool.and_eq_false_imp, decide_eq_true_eq, decide_eq_false_iff_not, Bool.not_eq_true', Bool.not_eq_false', Bool.not_eq_eq_eq_not, Bool.not_true, Bool.not_false, ne_eq, Int.not_lt, Int.not_le, ge_iff_le, gt_iff_lt] at *; first | rfl | assumption | omega | (simp_all; done)))

def spnow (w : World) : CV := addSt 22 71 (fun r c => match r, c with
  | [], [.int .u64 L, .int .u64 G, .int .u64 now, .int .u32 e, .int .i64 ho, .int .u64 u, .int .i64 mo, .int .i64 la] => some (.int .u64 now, [.int .u64 L, .int .u64 G, .int .u64 now, .int .u32 e, .int .i64 ho, .int .u64 u, .int .i64 mo, .int .i64 la])
  | _, _ => none) (splease w)
theorem spnow_ok (P : Program) (w : World) (hP : P = Try.prog) : CVok P w (spnow w) := by
  subst hP
  refine addSt_ok (fun r g c v c' w h hg => ?_) (splease_ok _ _ rfl)
  split at h
  · cases h; exact now_calls g _ _ _ _ _ _ _ _  w hg
  · cases h

end Go.VX
