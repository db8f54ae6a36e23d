/- The walk of function 11 (serve0), told by the verified walk VX, and its contract. -/
import Derived.Test.YtgghljienippgaaVX
import Derived.Test.YtgghljienippgaaProg
import Derived.Test.YtgghljienippgaaVM
import Derived.Test.YtgghljienippgaaVtick0
namespace Go.VX
open Go.Proofs
open Go.RowKit (Below)
set_option linter.unusedVariables false
set_option linter.unusedSimpArgs false
set_option maxRecDepth 100000
set_option maxHeartbeats 4000000
open Go.VX.M17

theorem walk_serve0 (who nk ne old lsn tick ord st : Int) (un : Bool) (co : Int) (K D : Option Addr) (kl kc dl dc : Nat) (w : World) (Q : Value → Prop) : (∀ (g0 : Nat), Array.size w.heap ≤ g0 → ∀ (g2 : Nat), Array.size w.heap ≤ g2 → g2 = g2 ∧ g2 = (Go.Addr.add (Go.Addr.mk g2 0 Option.none) 0).block ∧ g2 = (Go.Addr.add (Go.Addr.mk g2 0 Option.none) 1).block ∧ g2 = (Go.Addr.add (Go.Addr.mk g2 0 Option.none) 2).block ∧ g2 = (Go.Addr.add (Go.Addr.mk g2 0 Option.none) 3).block ∧ g2 = (Go.Addr.add (Go.Addr.mk g2 0 Option.none) 4).block ∧ g2 = (Go.Addr.add (Go.Addr.mk g2 0 Option.none) 5).block ∧ g2 = (Go.Addr.add (Go.Addr.mk g2 0 Option.none) 6).block ∧ g2 = (Go.Addr.add (Go.Addr.mk g2 0 Option.none) 7).block ∧ g2 = (Go.Addr.add (Go.Addr.mk g2 0 Option.none) 8).block ∧ g2 = (Go.Addr.add (Go.Addr.mk g2 0 Option.none) 9).block ∧ g2 = (Go.Addr.add (Go.Addr.mk g2 0 Option.none) 10).block ∧ Go.VX.Done (Q (Go.Value.agg #[Go.Value.int Go.IntKind.i64 0, Go.Value.int Go.IntKind.u32 0, Go.Value.int Go.IntKind.u32 0, Go.Value.int Go.IntKind.u64 0, Go.Value.int Go.IntKind.u64 0, Go.Value.int Go.IntKind.u32 0, Go.Value.int Go.IntKind.i64 0, Go.Value.bool Bool.false, Go.Value.int Go.IntKind.i64 0, Go.Value.slice Option.none 0 0, Go.Value.slice Option.none 0 0]))) = codeVC (⟨TT.plain _, (fun f => false), noFar, true, noInv, noInv, pvtick0, splease w⟩ : Cfg Try.prog) w 200 (Try.f11.body.getD .skip) ⟨⟨w, []⟩, mkT Try.f11.ntmps [.pointer none, .int .i64 who, .agg #[.int .i64 nk, .int .u32 ne, .int .u32 old, .int .u64 lsn, .int .u64 tick, .int .u32 ord, .int .i64 st, .bool un, .int .i64 co, .slice K kl kc, .slice D dl dc]] [], []⟩ (retK Try.prog Try.f11 fun b v s h => newK h (Done (Q v))) := by
  kernel_rfl

theorem serve0_calls (who nk ne old lsn tick ord st : Int) (un : Bool) (co : Int) (K D : Option Addr) (kl kc dl dc : Nat) (w : World) : Calls Try.prog 11 ([.pointer none, .int .i64 who, .agg #[.int .i64 nk, .int .u32 ne, .int .u32 old, .int .u64 lsn, .int .u64 tick, .int .u32 ord, .int .i64 st, .bool un, .int .i64 co, .slice K kl kc, .slice D dl dc]] : List Value).toArray w fun en w' => en = .returned (.agg #[.int .i64 0, .int .u32 0, .int .u32 0, .int .u64 0, .int .u64 0, .int .u32 0, .int .i64 0, .bool false, .int .i64 0, .slice none 0 0, .slice none 0 0]) ∧ Below w.heap.size w w' := by
  refine calls_eq (calls_pure (G := (⟨TT.plain _, (fun f => false), noFar, true, noInv, noInv, pvtick0, splease w⟩ : Cfg Try.prog)) (splease_ok Try.prog w rfl) (pvtick0_ok Try.prog rfl) 200 Try.func11 rfl (Q := fun v => v = .agg #[.int .i64 0, .int .u32 0, .int .u32 0, .int .u64 0, .int .u64 0, .int .u32 0, .int .i64 0, .bool false, .int .i64 0, .slice none 0 0, .slice none 0 0]) ?_)
  refine (walk_serve0 who nk ne old lsn tick ord st un co K D kl kc dl dc w (fun v => v = .agg #[.int .i64 0, .int .u32 0, .int .u32 0, .int .u64 0, .int .u64 0, .int .u32 0, .int .i64 0, .bool false, .int .i64 0, .slice none 0 0, .slice none 0 0])).mp ?_
  repeat' (first | intro _ | apply And.intro | apply br_intro)
  all_goals try first | rfl | exact True.intro | assumption
  all_goals first | (refine Done.mk ?_; rfl) | (intros; first | rfl | assumption | trivial | omega | (show (_ : Int) ≤ _; first | decide | omega) | (show (_ : Int) < _; first | decide | omega) | (simp only [cond, beq_iff_eq, bne_iff_ne, beq_eq_false_iff_ne, bne_eq_false_iff_eq, Bool.or_eq_true, Bool.and_eq_true, Bool.or_eq_false_iff, Bool.and_eq_false_imp, decide_eq_true_eq, decide_eq_false_iff_not, Bool.not_eq_true', Bool.not_eq_false', Bool.not_eq_eq_eq_not, Bool.not_true, Bool.not_false, ne_eq, Int.not_lt, Int.not_le, ge_iff_le, gt_iff_lt] at *; first | rfl | assumption | omega | (simp_all; done)))

def pvserve0 : PV := addPV 11 (fun | [.pointer none, .int .i64 who, .agg c2] => (match c2.toList with | [.int .i64 nk, .int .u32 ne, .int .u32 old, .int .u64 lsn, .int .u64 tick, .int .u32 ord, .int .i64 st, .bool un, .int .i64 co, .slice K kl kc, .slice D dl dc] => some (none, .agg #[.int .i64 0, .int .u32 0, .int .u32 0, .int .u64 0, .int .u64 0, .int .u32 0, .int .i64 0, .bool false, .int .i64 0, .slice none 0 0, .slice none 0 0]) | _ => none) | _ => none) pvtick0
theorem pvserve0_ok (P : Program) (hP : P = Try.prog) : PVok P pvserve0 := by
  subst hP
  refine addPV_ok (fun args p v w h hp => ?_) (pvtick0_ok _ rfl)
  split at h
  · split at h
    · rename_i hc2; obtain rfl := arr_of hc2; cases h; exact serve0_calls _ _ _ _ _ _ _ _ _ _ _ _ _ _ _ _  w
    · cases h
  · cases h

end Go.VX
