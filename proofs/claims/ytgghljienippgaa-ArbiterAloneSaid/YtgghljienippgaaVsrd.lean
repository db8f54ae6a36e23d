/- The reader's contract, in one. -/
import Derived.Test.YtgghljienippgaaVnumber1
import Derived.Test.YtgghljienippgaaVnumber4
import Derived.Test.YtgghljienippgaaVnumber8
import Derived.Test.YtgghljienippgaaVnumberT
namespace Go.VX
open Go.Proofs
open Go.RowKit (Below)
open Go.VX.M17
set_option linter.unusedVariables false
def szB (k : Nat) : Bool := Nat.beq k 8 || Nat.beq k 4 || Nat.beq k 1
def valN (k : Nat) (ns : List Int) : Int := bif Nat.beq k 8 then o8 ns 0 else bif Nat.beq k 4 then o4 ns 0 else nth ns 0
theorem szB_out {k : Nat} (h : szB k = true) : k = 8 ∨ k = 4 ∨ k = 1 := by
  unfold szB at h
  simp only [Bool.or_eq_true] at h
  rcases h with (h | h) | h
  · exact .inl (Nat.eq_of_beq_eq_true h)
  · exact .inr (.inl (Nat.eq_of_beq_eq_true h))
  · exact .inr (.inr (Nat.eq_of_beq_eq_true h))
def sprd (w : World) : CV := addNum 67 119 5 szB valN Bs (noCV w)
theorem sprd_ok (P : Program) (w : World) (hP : P = Try.prog) : CVok P w (sprd w) := by
  subst hP
  refine addNum_ok (fun size g r off m c cs w hs hmc hne hg hr => numberT_calls g r off m c size cs w hg hr hne) (fun size g r off m c cs w hs hlt hmc hne hg hr => ?_)
    (fun size g r off m c cs ns w hs hle hmc hne h1 h2 h3 hg hr => ?_) (noCV_ok' _ _)
  · rcases szB_out hs with rfl | rfl | rfl
    · exact (number8_calls g r off m c cs w hg hr hne hmc [] (fun h => absurd h (by omega))).mono fun e w' h => h.1 hlt
    · exact (number4_calls g r off m c cs w hg hr hne hmc [] (fun h => absurd h (by omega))).mono fun e w' h => h.1 hlt
    · exact (number1_calls g r off m c cs w hg hr hne hmc [] (fun h => absurd h (by omega))).mono fun e w' h => h.1 hlt
  · rcases szB_out hs with rfl | rfl | rfl
    · exact (number8_calls g r off m c cs w hg hr hne hmc ns (fun _ => ⟨h1, h2, h3⟩)).mono fun e w' h => h.2 hle
    · exact (number4_calls g r off m c cs w hg hr hne hmc ns (fun _ => ⟨h1, h2, h3⟩)).mono fun e w' h => h.2 hle
    · exact (number1_calls g r off m c cs w hg hr hne hmc ns (fun _ => ⟨h1, h2, h3⟩)).mono fun e w' h => h.2 hle
end Go.VX
