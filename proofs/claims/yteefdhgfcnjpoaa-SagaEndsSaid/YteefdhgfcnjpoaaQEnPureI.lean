/- Plain laws on the mirror of chapter 14's functions, part I: the law SagaStays. -/
import Derived.Test.YteefdhgfcnjpoaaQEnPAx0
import Derived.Test.YteefdhgfcnjpoaaQEnPAx1
import Derived.Test.YteefdhgfcnjpoaaQEnPAx3
import Derived.Test.YteefdhgfcnjpoaaQEnPAx5
import Derived.Test.YteefdhgfcnjpoaaQEnPAx7
import Derived.Test.YteefdhgfcnjpoaaQEnPAx9
import Derived.Test.YteefdhgfcnjpoaaQEnPAx16
import Derived.Test.YteefdhgfcnjpoaaQEnPureH
namespace Go.Proofs.Yteefdhgfcnjpoaa.Pure
open Go.RowKit Go.Proofs.Yteefdhgfcnjpoaa.PA Go.Proofs.YteefdhgfcnjpoaaW.PrintWords Go.Proofs.YteefdhgfcnjpoaaW.PrintLast
set_option linter.unusedVariables false
set_option linter.unusedSimpArgs false

theorem val_start {l : List S38} (h : planB l = true) : Val l ⟨1, 0, 0, false, 0, false, 0⟩ := by
  have := plan_len h
  exact val_fresh h 0 (by omega) (by omega)

end Go.Proofs.Yteefdhgfcnjpoaa.Pure
