-- printed by a program of this work (wip/tools/pr.py over the kit's print; laid by lift04.py): the machine's side of EntryRows
import Derived.Test.YtahldljkhjebgaaQRwPAx0
import Derived.Test.YtahldljkhjebgaaQRwPAx20
import Derived.Test.YtahldljkhjebgaaQRwPAx21
import Derived.Test.YtahldljkhjebgaaQRwPAx24
import Derived.Test.YtahldljkhjebgaaQRwPAx25
import Derived.Test.YtahldljkhjebgaaQRwPAx26
import Derived.Test.YtahldljkhjebgaaQRwPAx27
import Derived.Test.YtahldljkhjebgaaQRwPAx28
namespace Go.Proofs.Ytahldljkhjebgaa.PA
open Go.RowKit Go.Proofs.YtahldljkhjebgaaW.PrintWords Go.Proofs.YtahldljkhjebgaaW.PrintLast Go.Proofs.YtahldljkhjebgaaW.PrintMore
attribute [local go_sem] max2_int min2_int max_two min_two max_three min_three max_four min_four   -- for this text's walks alone
set_option linter.unusedVariables false
set_option linter.unusedSimpArgs false
set_option maxHeartbeats 8000000 in
set_option maxRecDepth 100000 in
theorem drayageref04_fields.calls (k : Nat) (a0_0 : Int) (a0_1 : Int) (a0_2 : Int) (a0_3 : Int) (a0_4 : Int) (a0_5 : Bool) (a0_6 : Int) (a0_7 : Int) (a0_8 : Int) (P0_9_ : Nat → Prop) (A0_9 : Option Addr) (c0_9 : Nat) (l0_9 : List Int) (P0_10_ : Nat → Prop) (A0_10 : Option Addr) (c0_10 : Nat) (l0_10 : List Int) (r1 : List (S86)) (r2 : Bool) (w : World) (hs0_9 : Kd.V (Kd.int .u8) 5 w w.heap.size (fun k_ => P0_9_ k_) (.slice A0_9 l0_9.length c0_9) l0_9) (hs0_10 : Kd.V (Kd.int .u8) 5 w w.heap.size (fun k_ => P0_10_ k_) (.slice A0_10 l0_10.length c0_10) l0_10) (h : drayageref04_fields.f k a0_0 a0_1 a0_2 a0_3 a0_4 a0_5 a0_6 a0_7 a0_8 l0_9 l0_10 = some (r1, r2)) :
    Calls Try.prog 38 #[.agg #[.int .i64 a0_0, .int .u64 a0_1, .int .u32 a0_2, .int .u32 a0_3, .int .i64 a0_4, .bool a0_5, .int .i64 a0_6, .int .i64 a0_7, .int .u64 a0_8, .slice A0_9 l0_9.length c0_9, .slice A0_10 l0_10.length c0_10]] w fun e w' => ∃ v0_ : Value, e = .returned (.tuple #[v0_, .bool r2]) ∧ Kd.N k86 86 w' w.heap.size (fun k_ => ((P0_9_ k_ ∨ P0_10_ k_) ∨ w.heap.size ≤ k_)) v0_ r1 ∧ Below w.heap.size w w' := by
  by_cases h1 : a0_0 = 1 ∨ a0_0 = 2
  · exact drayageref04_fields.calls_0 k a0_0 a0_1 a0_2 a0_3 a0_4 a0_5 a0_6 a0_7 a0_8 P0_9_ A0_9 c0_9 l0_9 P0_10_ A0_10 c0_10 l0_10 r1 r2 w hs0_9 hs0_10 ⟨h1⟩ h
  by_cases h3 : a0_0 = 3
  · exact drayageref04_fields.calls_1 k a0_0 a0_1 a0_2 a0_3 a0_4 a0_5 a0_6 a0_7 a0_8 P0_9_ A0_9 c0_9 l0_9 P0_10_ A0_10 c0_10 l0_10 r1 r2 w hs0_9 hs0_10 ⟨h3⟩ h
  by_cases h4 : a0_0 = 4
  · exact drayageref04_fields.calls_2 k a0_0 a0_1 a0_2 a0_3 a0_4 a0_5 a0_6 a0_7 a0_8 P0_9_ A0_9 c0_9 l0_9 P0_10_ A0_10 c0_10 l0_10 r1 r2 w hs0_9 hs0_10 ⟨h4⟩ h
  by_cases h5 : a0_0 = 5
  · exact drayageref04_fields.calls_3 k a0_0 a0_1 a0_2 a0_3 a0_4 a0_5 a0_6 a0_7 a0_8 P0_9_ A0_9 c0_9 l0_9 P0_10_ A0_10 c0_10 l0_10 r1 r2 w hs0_9 hs0_10 ⟨h5⟩ h
  exact drayageref04_fields.calls_4 k a0_0 a0_1 a0_2 a0_3 a0_4 a0_5 a0_6 a0_7 a0_8 P0_9_ A0_9 c0_9 l0_9 P0_10_ A0_10 c0_10 l0_10 r1 r2 w hs0_9 hs0_10 ⟨by omega⟩ h
end Go.Proofs.Ytahldljkhjebgaa.PA
