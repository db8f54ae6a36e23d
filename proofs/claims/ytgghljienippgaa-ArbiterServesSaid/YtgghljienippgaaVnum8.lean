/- The walk of function 72 (num8), told by the verified walk VX, and its contract. -/
import Derived.Test.YtgghljienippgaaVX
import Derived.Test.YtgghljienippgaaProg
import Derived.Test.YtgghljienippgaaVM
import Derived.Test.YtgghljienippgaaVS
import Derived.Test.YtgghljienippgaaVY
import Derived.Test.YtgghljienippgaaVnum1
import Derived.Test.YtgghljienippgaaVnum4
namespace Go.VX
open Go.Proofs
open Go.RowKit (Below)
set_option linter.unusedVariables false
set_option linter.unusedSimpArgs false
set_option maxRecDepth 100000
open Go.VX.M17

theorem walk_num8 (n : Int) (w : World) (Q : List Value → Prop) : (∀ (g0 : Nat), Array.size w.heap ≤ g0 → g0 = g0 ∧ True ∧ ∀ (g2 g3 : Nat) (x4 : List Go.Value), Array.size w.heap ≤ g2 → 1 ≤ g3 → ∀ (g7 : Nat), Array.size w.heap ≤ g7 → g7 = g7 ∧ g3 = g3 ∧ (g2 = g2 ∧ 1 ≤ g3 ∧ True) ∧ ∀ (g9 g10 : Nat) (x11 : List Go.Value), g9 = g2 ∨ Array.size w.heap ≤ g9 → 2 ≤ g10 → ∀ (g14 : Nat), Array.size w.heap ≤ g14 → g14 = g14 ∧ g10 = g10 ∧ (g9 = g9 ∧ 2 ≤ g10 ∧ True) ∧ ∀ (g16 g17 : Nat) (x18 : List Go.Value), g16 = g9 ∨ Array.size w.heap ≤ g16 → 3 ≤ g17 → ∀ (g21 : Nat), Array.size w.heap ≤ g21 → g21 = g21 ∧ g17 = g17 ∧ (g16 = g16 ∧ 3 ≤ g17 ∧ True) ∧ ∀ (g23 g24 : Nat) (x25 : List Go.Value), g23 = g16 ∨ Array.size w.heap ≤ g23 → 4 ≤ g24 → ∀ (g28 : Nat), Array.size w.heap ≤ g28 → g28 = g28 ∧ g24 = g24 ∧ (g23 = g23 ∧ 4 ≤ g24 ∧ True) ∧ ∀ (g30 g31 : Nat) (x32 : List Go.Value), g30 = g23 ∨ Array.size w.heap ≤ g30 → 5 ≤ g31 → ∀ (g35 : Nat), Array.size w.heap ≤ g35 → g35 = g35 ∧ g31 = g31 ∧ (g30 = g30 ∧ 5 ≤ g31 ∧ True) ∧ ∀ (g37 g38 : Nat) (x39 : List Go.Value), g37 = g30 ∨ Array.size w.heap ≤ g37 → 6 ≤ g38 → ∀ (g42 : Nat), Array.size w.heap ≤ g42 → g42 = g42 ∧ g38 = g38 ∧ (g37 = g37 ∧ 6 ≤ g38 ∧ True) ∧ ∀ (g44 g45 : Nat) (x46 : List Go.Value), g44 = g37 ∨ Array.size w.heap ≤ g44 → 7 ≤ g45 → ∀ (g49 : Nat), Array.size w.heap ≤ g49 → g49 = g49 ∧ g45 = g45 ∧ (g44 = g44 ∧ 7 ≤ g45 ∧ True) ∧ ∀ (g51 g52 : Nat) (x53 : List Go.Value), g51 = g44 ∨ Array.size w.heap ≤ g51 → 8 ≤ g52 → (Int.le 0 7 ∧ Int.lt 7 8) ∧ g51 = g51 ∧ ∀ (g56 : Nat), Array.size w.heap ≤ g56 → g56 = g56 ∧ True ∧ ∀ (g58 g59 : Nat) (x60 : List Go.Value), Array.size w.heap ≤ g58 → 1 ≤ g59 → (Int.le 0 6 ∧ Int.lt 6 8) ∧ g51 = g51 ∧ ∀ (g63 : Nat), Array.size w.heap ≤ g63 → g63 = g63 ∧ g59 = g59 ∧ (g58 = g58 ∧ 1 ≤ g59 ∧ True) ∧ ∀ (g65 g66 : Nat) (x67 : List Go.Value), g65 = g58 ∨ Array.size w.heap ≤ g65 → 2 ≤ g66 → (Int.le 0 5 ∧ Int.lt 5 8) ∧ g51 = g51 ∧ ∀ (g70 : Nat), Array.size w.heap ≤ g70 → g70 = g70 ∧ g66 = g66 ∧ (g65 = g65 ∧ 2 ≤ g66 ∧ True) ∧ ∀ (g72 g73 : Nat) (x74 : List Go.Value), g72 = g65 ∨ Array.size w.heap ≤ g72 → 3 ≤ g73 → (Int.le 0 4 ∧ Int.lt 4 8) ∧ g51 = g51 ∧ ∀ (g77 : Nat), Array.size w.heap ≤ g77 → g77 = g77 ∧ g73 = g73 ∧ (g72 = g72 ∧ 3 ≤ g73 ∧ True) ∧ ∀ (g79 g80 : Nat) (x81 : List Go.Value), g79 = g72 ∨ Array.size w.heap ≤ g79 → 4 ≤ g80 → (Int.le 0 3 ∧ Int.lt 3 8) ∧ g51 = g51 ∧ ∀ (g84 : Nat), Array.size w.heap ≤ g84 → g84 = g84 ∧ g80 = g80 ∧ (g79 = g79 ∧ 4 ≤ g80 ∧ True) ∧ ∀ (g86 g87 : Nat) (x88 : List Go.Value), g86 = g79 ∨ Array.size w.heap ≤ g86 → 5 ≤ g87 → (Int.le 0 2 ∧ Int.lt 2 8) ∧ g51 = g51 ∧ ∀ (g91 : Nat), Array.size w.heap ≤ g91 → g91 = g91 ∧ g87 = g87 ∧ (g86 = g86 ∧ 5 ≤ g87 ∧ True) ∧ ∀ (g93 g94 : Nat) (x95 : List Go.Value), g93 = g86 ∨ Array.size w.heap ≤ g93 → 6 ≤ g94 → (Int.le 0 1 ∧ Int.lt 1 8) ∧ g51 = g51 ∧ ∀ (g98 : Nat), Array.size w.heap ≤ g98 → g98 = g98 ∧ g94 = g94 ∧ (g93 = g93 ∧ 6 ≤ g94 ∧ True) ∧ ∀ (g100 g101 : Nat) (x102 : List Go.Value), g100 = g93 ∨ Array.size w.heap ≤ g100 → 7 ≤ g101 → (Int.le 0 0 ∧ Int.lt 0 8) ∧ g51 = g51 ∧ ∀ (g105 : Nat), Array.size w.heap ≤ g105 → g105 = g105 ∧ g101 = g101 ∧ (g100 = g100 ∧ 7 ≤ g101 ∧ True) ∧ ∀ (g107 g108 : Nat) (x109 : List Go.Value), g107 = g100 ∨ Array.size w.heap ≤ g107 → 8 ≤ g108 → g108 = g108 ∧ g107 = g107 ∧ 8 ≤ g108 ∧ Go.VX.Done (Q [Go.Value.int Go.IntKind.u8 (Go.IntKind.wrap Go.IntKind.u8 (Int.tmod (Go.IntKind.wrap Go.IntKind.u64 (Int.tdiv (Go.IntKind.wrap Go.IntKind.u64 (Int.tdiv (Go.IntKind.wrap Go.IntKind.u64 (Int.tdiv (Go.IntKind.wrap Go.IntKind.u64 (Int.tdiv (Go.IntKind.wrap Go.IntKind.u64 (Int.tdiv (Go.IntKind.wrap Go.IntKind.u64 (Int.tdiv (Go.IntKind.wrap Go.IntKind.u64 (Int.tdiv n 256)) 256)) 256)) 256)) 256)) 256)) 256)) 256)), Go.Value.int Go.IntKind.u8 (Go.IntKind.wrap Go.IntKind.u8 (Int.tmod (Go.IntKind.wrap Go.IntKind.u64 (Int.tdiv (Go.IntKind.wrap Go.IntKind.u64 (Int.tdiv (Go.IntKind.wrap Go.IntKind.u64 (Int.tdiv (Go.IntKind.wrap Go.IntKind.u64 (Int.tdiv (Go.IntKind.wrap Go.IntKind.u64 (Int.tdiv (Go.IntKind.wrap Go.IntKind.u64 (Int.tdiv n 256)) 256)) 256)) 256)) 256)) 256)) 256)), Go.Value.int Go.IntKind.u8 (Go.IntKind.wrap Go.IntKind.u8 (Int.tmod (Go.IntKind.wrap Go.IntKind.u64 (Int.tdiv (Go.IntKind.wrap Go.IntKind.u64 (Int.tdiv (Go.IntKind.wrap Go.IntKind.u64 (Int.tdiv (Go.IntKind.wrap Go.IntKind.u64 (Int.tdiv (Go.IntKind.wrap Go.IntKind.u64 (Int.tdiv n 256)) 256)) 256)) 256)) 256)) 256)), Go.Value.int Go.IntKind.u8 (Go.IntKind.wrap Go.IntKind.u8 (Int.tmod (Go.IntKind.wrap Go.IntKind.u64 (Int.tdiv (Go.IntKind.wrap Go.IntKind.u64 (Int.tdiv (Go.IntKind.wrap Go.IntKind.u64 (Int.tdiv (Go.IntKind.wrap Go.IntKind.u64 (Int.tdiv n 256)) 256)) 256)) 256)) 256)), Go.Value.int Go.IntKind.u8 (Go.IntKind.wrap Go.IntKind.u8 (Int.tmod (Go.IntKind.wrap Go.IntKind.u64 (Int.tdiv (Go.IntKind.wrap Go.IntKind.u64 (Int.tdiv (Go.IntKind.wrap Go.IntKind.u64 (Int.tdiv n 256)) 256)) 256)) 256)), Go.Value.int Go.IntKind.u8 (Go.IntKind.wrap Go.IntKind.u8 (Int.tmod (Go.IntKind.wrap Go.IntKind.u64 (Int.tdiv (Go.IntKind.wrap Go.IntKind.u64 (Int.tdiv n 256)) 256)) 256)), Go.Value.int Go.IntKind.u8 (Go.IntKind.wrap Go.IntKind.u8 (Int.tmod (Go.IntKind.wrap Go.IntKind.u64 (Int.tdiv n 256)) 256)), Go.Value.int Go.IntKind.u8 (Go.IntKind.wrap Go.IntKind.u8 (Int.tmod n 256))])) = codeVC (⟨TT.plain _, (fun f => false), noFar, true, noInv, noInv, noPV, noCV w⟩ : Cfg Try.prog) w 200 (Try.f72.body.getD .skip) ⟨⟨w, []⟩, mkT Try.f72.ntmps [.int .u64 n, .int .i64 8] [], []⟩ (retK Try.prog Try.f72 fun b v s h => newK h (rowE 5 h v s 8 fun x => Done (Q x))) := by
  kernel_rfl

theorem num8_calls (n : Int) (w : World) : Calls Try.prog 72 ([.int .u64 n, .int .i64 8] : List Value).toArray w fun en w' => ∃ v, en = .returned v ∧ NewRow w.heap.size w' 5 v 8 (numR n 8) ∧ Below w.heap.size w w' := by
  refine calls_newP (G := (⟨TT.plain _, (fun f => false), noFar, true, noInv, noInv, noPV, noCV w⟩ : Cfg Try.prog)) (noCV_ok' Try.prog w) (noPV_ok Try.prog) 200 Try.func72 rfl ?_
  refine (walk_num8 n w (fun x => x = numR n 8)).mp ?_
  repeat' (first | intro _ | apply And.intro | apply br_intro)
  all_goals try first | rfl | exact True.intro | assumption
  all_goals first | (refine Done.mk ?_; rfl) | (intros; first | rfl | assumption | trivial | omega | (show (_ : Int) ≤ _; first | decide | omega) | (show (_ : Int) < _; first | decide | omega) | (simp only [cond, beq_iff_eq, bne_iff_ne, beq_eq_false_iff_ne, bne_eq_false_iff_eq, Bool.or_eq_true, Bool.and_eq_true, Bool.or_eq_false_iff, Bool.and_eq_false_imp, decide_eq_true_eq, decide_eq_false_iff_not, Bool.not_eq_true', Bool.not_eq_false', Bool.not_eq_eq_eq_not, Bool.not_true, Bool.not_false, ne_eq, Int.not_lt, Int.not_le, ge_iff_le, gt_iff_lt] at *; first | rfl | assumption | omega | (simp_all; done)))

def numPat : List Value → Option (Nat × List Value)
  | [.int .u64 n, .int .i64 (.ofNat k)] => bif Nat.beq k 8 then some (8, numR n 8) else bif Nat.beq k 4 then some (4, numR n 4) else bif Nat.beq k 1 then some (1, numR n 1) else none
  | _ => none
def spnum (w : World) : CV := addNewP 72 5 numPat (noCV w)
theorem spnum_ok (P : Program) (w : World) (hP : P = Try.prog) : CVok P w (spnum w) := by
  subst hP
  refine addNewP_ok (fun args n l w h => ?_) (noCV_ok' _ _)
  unfold numPat at h
  split at h
  · rename_i m k
    simp only [cond_eq_ite] at h
    split at h
    · rename_i hk; obtain rfl := Nat.eq_of_beq_eq_true hk; cases h; exact num8_calls m w
    · split at h
      · rename_i hk; obtain rfl := Nat.eq_of_beq_eq_true hk; cases h; exact num4_calls m w
      · split at h
        · rename_i hk; obtain rfl := Nat.eq_of_beq_eq_true hk; cases h; exact num1_calls m w
        · cases h
  · cases h

end Go.VX
