/- The walk of function 14 (known), told by the verified walk VX, and its contract. -/
import Derived.Test.YtgghljienippgaaVX
import Derived.Test.YtgghljienippgaaProg
import Derived.Test.YtgghljienippgaaVM
import Derived.Test.YtgghljienippgaaVlease
namespace Go.VX
open Go.Proofs
open Go.RowKit (Below)
set_option linter.unusedVariables false
set_option linter.unusedSimpArgs false
set_option maxRecDepth 100000
set_option maxHeartbeats 4000000
open Go.VX.M17

theorem walk_known  (w : World) (Q : Value → Prop) : (∀ (g0 : Nat), Array.size w.heap ≤ g0 → ∀ (g2 : Nat), Array.size w.heap ≤ g2 → g2 = g2 ∧ g2 = (Go.Addr.add (Go.Addr.mk g2 0 Option.none) 0).block ∧ g2 = (Go.Addr.add (Go.Addr.mk g2 0 Option.none) 1).block ∧ g2 = (Go.Addr.add (Go.Addr.mk g2 0 Option.none) 2).block ∧ g2 = (Go.Addr.add (Go.Addr.mk g2 0 Option.none) 3).block ∧ g2 = (Go.Addr.add (Go.Addr.mk g2 0 Option.none) 4).block ∧ g2 = (Go.Addr.add (Go.Addr.mk g2 0 Option.none) 5).block ∧ g2 = (Go.Addr.add (Go.Addr.mk g2 0 Option.none) 6).block ∧ g2 = (Go.Addr.add (Go.Addr.mk g2 0 Option.none) 7).block ∧ g2 = (Go.Addr.add (Go.Addr.mk g2 0 Option.none) 8).block ∧ g2 = (Go.Addr.add (Go.Addr.mk g2 0 Option.none) 9).block ∧ g2 = (Go.Addr.add (Go.Addr.mk g2 0 Option.none) 10).block ∧ (g0 = g0 ∧ 71 = 71) ∧ ∀ (g4 : Nat), Array.size w.heap ≤ g4 → g4 = g4 ∧ ∀ (g6 : Nat), Array.size w.heap ≤ g6 → g6 = g6 ∧ g6 = (Go.Addr.add (Go.Addr.mk g6 0 Option.none) 0).block ∧ g6 = (Go.Addr.add (Go.Addr.mk g6 0 Option.none) 1).block ∧ g6 = (Go.Addr.add (Go.Addr.mk g6 0 Option.none) 2).block ∧ g6 = (Go.Addr.add (Go.Addr.mk g6 0 Option.none) 3).block ∧ g6 = (Go.Addr.add (Go.Addr.mk g6 0 Option.none) 4).block ∧ g6 = (Go.Addr.add (Go.Addr.mk g6 0 Option.none) 5).block ∧ g6 = (Go.Addr.add (Go.Addr.mk g6 0 Option.none) 6).block ∧ g6 = (Go.Addr.add (Go.Addr.mk g6 0 Option.none) 7).block ∧ g6 = (Go.Addr.add (Go.Addr.mk g6 0 Option.none) 8).block ∧ g6 = (Go.Addr.add (Go.Addr.mk g6 0 Option.none) 9).block ∧ g6 = (Go.Addr.add (Go.Addr.mk g6 0 Option.none) 10).block ∧ (g0 = g0 ∧ 71 = 71) ∧ ∀ (g8 : Nat), Array.size w.heap ≤ g8 → g8 = g8 ∧ ∀ (g10 : Nat), Array.size w.heap ≤ g10 → g10 = g10 ∧ g10 = (Go.Addr.add (Go.Addr.mk g10 0 Option.none) 0).block ∧ g10 = (Go.Addr.add (Go.Addr.mk g10 0 Option.none) 1).block ∧ g10 = (Go.Addr.add (Go.Addr.mk g10 0 Option.none) 2).block ∧ g10 = (Go.Addr.add (Go.Addr.mk g10 0 Option.none) 3).block ∧ g10 = (Go.Addr.add (Go.Addr.mk g10 0 Option.none) 4).block ∧ g10 = (Go.Addr.add (Go.Addr.mk g10 0 Option.none) 5).block ∧ g10 = (Go.Addr.add (Go.Addr.mk g10 0 Option.none) 6).block ∧ g10 = (Go.Addr.add (Go.Addr.mk g10 0 Option.none) 7).block ∧ g10 = (Go.Addr.add (Go.Addr.mk g10 0 Option.none) 8).block ∧ g10 = (Go.Addr.add (Go.Addr.mk g10 0 Option.none) 9).block ∧ g10 = (Go.Addr.add (Go.Addr.mk g10 0 Option.none) 10).block ∧ (g0 = g0 ∧ 71 = 71) ∧ ∀ (g12 : Nat), Array.size w.heap ≤ g12 → g12 = g12 ∧ (g0 = g0 ∧ 71 = 71) ∧ ∀ (g14 : Nat), Array.size w.heap ≤ g14 → g14 = g14 ∧ g14 = (Go.Addr.add (Go.Addr.mk g14 0 Option.none) 0).block ∧ g14 = (Go.Addr.add (Go.Addr.mk g14 0 Option.none) 1).block ∧ g14 = (Go.Addr.add (Go.Addr.mk g14 0 Option.none) 2).block ∧ g14 = (Go.Addr.add (Go.Addr.mk g14 0 Option.none) 3).block ∧ g14 = (Go.Addr.add (Go.Addr.mk g14 0 Option.none) 4).block ∧ g14 = (Go.Addr.add (Go.Addr.mk g14 0 Option.none) 5).block ∧ g14 = (Go.Addr.add (Go.Addr.mk g14 0 Option.none) 6).block ∧ g14 = (Go.Addr.add (Go.Addr.mk g14 0 Option.none) 7).block ∧ g14 = (Go.Addr.add (Go.Addr.mk g14 0 Option.none) 8).block ∧ g14 = (Go.Addr.add (Go.Addr.mk g14 0 Option.none) 9).block ∧ g14 = (Go.Addr.add (Go.Addr.mk g14 0 Option.none) 10).block ∧ (g0 = g0 ∧ 71 = 71) ∧ ∀ (g16 : Nat), Array.size w.heap ≤ g16 → g16 = g16 ∧ ∀ (g18 : Nat), Array.size w.heap ≤ g18 → g18 = g18 ∧ g18 = (Go.Addr.add (Go.Addr.mk g18 0 Option.none) 0).block ∧ g18 = (Go.Addr.add (Go.Addr.mk g18 0 Option.none) 1).block ∧ g18 = (Go.Addr.add (Go.Addr.mk g18 0 Option.none) 2).block ∧ g18 = (Go.Addr.add (Go.Addr.mk g18 0 Option.none) 3).block ∧ g18 = (Go.Addr.add (Go.Addr.mk g18 0 Option.none) 4).block ∧ g18 = (Go.Addr.add (Go.Addr.mk g18 0 Option.none) 5).block ∧ g18 = (Go.Addr.add (Go.Addr.mk g18 0 Option.none) 6).block ∧ g18 = (Go.Addr.add (Go.Addr.mk g18 0 Option.none) 7).block ∧ g18 = (Go.Addr.add (Go.Addr.mk g18 0 Option.none) 8).block ∧ g18 = (Go.Addr.add (Go.Addr.mk g18 0 Option.none) 9).block ∧ g18 = (Go.Addr.add (Go.Addr.mk g18 0 Option.none) 10).block ∧ (g0 = g0 ∧ 71 = 71) ∧ ∀ (g20 : Nat), Array.size w.heap ≤ g20 → g20 = g20 ∧ g4 = g4 ∧ g4 = g4 ∧ g4 = g4 ∧ g8 = g8 ∧ g8 = g8 ∧ g12 = g12 ∧ g12 = g12 ∧ g16 = g16 ∧ g20 = g20 ∧ g20 = g20 ∧ Go.VX.Done (Q (Go.Value.bool Bool.true))) = codeVC (⟨TT.plain _, (fun f => Nat.beq f 10 || Nat.beq f 30 || Nat.beq f 12), noFar, true, noInv, noInv, pvchk, splease w⟩ : Cfg Try.prog) w 200 (Try.f14.body.getD .skip) ⟨⟨w, []⟩, mkT Try.f14.ntmps [] [], []⟩ (retK Try.prog Try.f14 fun b v s h => newK h (Done (Q v))) := by
  kernel_rfl

theorem known_calls  (w : World) : Calls Try.prog 14 ([] : List Value).toArray w fun en w' => en = .returned (.bool true) ∧ Below w.heap.size w w' := by
  refine calls_eq (calls_pure (G := (⟨TT.plain _, (fun f => Nat.beq f 10 || Nat.beq f 30 || Nat.beq f 12), noFar, true, noInv, noInv, pvchk, splease w⟩ : Cfg Try.prog)) (splease_ok Try.prog w rfl) (pvchk_ok Try.prog rfl) 200 Try.func14 rfl (Q := fun v => v = .bool true) ?_)
  refine (walk_known  w (fun v => v = .bool true)).mp ?_
  repeat' (first | intro _ | apply And.intro | apply br_intro)
  all_goals try first | rfl | exact True.intro | assumption
  all_goals first | (refine Done.mk ?_; rfl) | (intros; first | rfl | assumption | trivial | omega | (show (_ : Int) ≤ _; first | decide | omega) | (show (_ : Int) < _; first | decide | omega) | (simp only [cond, beq_iff_eq, bne_iff_ne, beq_eq_false_iff_ne, bne_eq_false_iff_eq, Bool.or_eq_true, Bool.and_eq_true, Bool.or_eq_false_iff, Bool.and_eq_false_imp, decide_eq_true_eq, decide_eq_false_iff_not, Bool.not_eq_true', Bool.not_eq_false', Bool.not_eq_eq_eq_not, Bool.not_true, Bool.not_false, ne_eq, Int.not_lt, Int.not_le, ge_iff_le, gt_iff_lt] at *; first | rfl | assumption | omega | (simp_all; done)))

def pvknown : PV := addPV 14 (fun | [] => some (none, .bool true) | _ => none) pvchk
theorem pvknown_ok (P : Program) (hP : P = Try.prog) : PVok P pvknown := by
  subst hP
  refine addPV_ok (fun args p v w h hp => ?_) (pvchk_ok _ rfl)
  split at h
  · cases h; exact known_calls  w
  · cases h

end Go.VX
