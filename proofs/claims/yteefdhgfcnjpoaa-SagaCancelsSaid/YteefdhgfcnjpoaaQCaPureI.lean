/- Plain laws on the mirror of chapter 14's functions, part I: the law SagaStays. -/
import Derived.Test.YteefdhgfcnjpoaaQCaPAx0
import Derived.Test.YteefdhgfcnjpoaaQCaPAx1
import Derived.Test.YteefdhgfcnjpoaaQCaPAx3
import Derived.Test.YteefdhgfcnjpoaaQCaPAx5
import Derived.Test.YteefdhgfcnjpoaaQCaPAx7
import Derived.Test.YteefdhgfcnjpoaaQCaPAx9
import Derived.Test.YteefdhgfcnjpoaaQCaPAx16
import Derived.Test.YteefdhgfcnjpoaaQCaPureH
namespace Go.Proofs.Yteefdhgfcnjpoaa.Pure
open Go.RowKit Go.Proofs.Yteefdhgfcnjpoaa.PA Go.Proofs.YteefdhgfcnjpoaaW.PrintWords Go.Proofs.YteefdhgfcnjpoaaW.PrintLast
set_option linter.unusedVariables false
set_option linter.unusedSimpArgs false

theorem back_ph (l : List S38) (i : Int) : 2 ≤ (backS l i).ph ∧ (backS l i).ph ≤ 3 := by
  unfold backS
  cases lastB l (i + 1).toNat <;> simp [backO]

theorem val_start {l : List S38} (h : planB l = true) : Val l ⟨1, 0, 0, false, 0, false, 0⟩ := by
  have := plan_len h
  exact val_fresh h 0 (by omega) (by omega)

end Go.Proofs.Yteefdhgfcnjpoaa.Pure
