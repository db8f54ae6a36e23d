-- printed by a program of this work (wip/tools/pr.py over the kit's print): the machine's side of SagaTries, SagaMoves, SagaStays, SagaOrder, SagaEnds, SagaTicks
import Derived.Test.YteefdhgfcnjpoaaQCaPAx0
import Derived.Test.YteefdhgfcnjpoaaQCaPAx11
namespace Go.Proofs.Yteefdhgfcnjpoaa.PA
open Go.RowKit Go.Proofs.YteefdhgfcnjpoaaW.PrintWords Go.Proofs.YteefdhgfcnjpoaaW.PrintLast Go.Proofs.YteefdhgfcnjpoaaW.PrintMore
attribute [local go_sem] max2_int min2_int max_two min_two max_three min_three max_four min_four   -- for this text's walks alone
set_option linter.unusedVariables false
set_option linter.unusedSimpArgs false

/-! ### drayageref14_Ask: function 18 -/
def drayageref14_Ask.f (k : Nat) (l0 : List (S38)) (a1_0 : Int) (a1_1 : Int) (a1_2 : Int) (a1_3 : Bool) (a1_4 : Int) (a1_5 : Bool) (a1_6 : Int) : Option (Int × Int × Int × Bool × Int × Bool × Int × Int) := (drayageref14_Check.f k l0 a1_0 a1_1 a1_2 a1_3 a1_4 a1_5 a1_6).bind fun t382 => (if t382 = 0 then (if a1_0 = 3 then (some (0, 0, 0, false, 0, false, 0, 2)) else (if a1_3 = true then (some (0, 0, 0, false, 0, false, 0, 2)) else (if 0 ≤ a1_1 then (if a1_1 < (l0.length : Int) then (some (a1_0, a1_1, wrap64 (a1_2 + 1), true, (rd_T38 l0 a1_1).f2, a1_5, a1_6, 0)) else (none)) else (none)))) else (some (0, 0, 0, false, 0, false, 0, t382)))

attribute [local go_sem] cell_alloc_lt2 cell_set_ne2

/-! ### drayageref14_back: function 33 -/
def drayageref14_back.l0 : Nat → List (S38) → Int → Int → Int → Option (Int × Int × Int × Bool × Int × Bool × Int)
  | 0, _, _, _, _ => none
  | k + 1, x0, x1, x5, x6 => if x6 < (x0.length : Int) then (if x6 ≤ x1 then (if 0 ≤ x6 then (if (rd_T38 x0 x6).f3 = true then (drayageref14_back.l0 k x0 x1 x6 (wrap64 (x6 + 1))) else (drayageref14_back.l0 k x0 x1 x5 (wrap64 (x6 + 1)))) else (none)) else (drayageref14_back.l0 k x0 x1 x5 (wrap64 (x6 + 1)))) else (if x5 < 0 then (some (3, 0, 0, false, 0, false, 2)) else (some (2, x5, 0, false, 0, false, 0)))
def drayageref14_back.f (k : Nat) (l0 : List (S38)) (a1 : Int) : Option (Int × Int × Int × Bool × Int × Bool × Int) := drayageref14_back.l0 k l0 a1 (-1) 0

attribute [local go_sem] cell_alloc_lt2 cell_set_ne2

end Go.Proofs.Yteefdhgfcnjpoaa.PA
