/- Plain laws on the mirror of chapter 14's functions, part I: the law SagaStays. -/
import Derived.Test.YteefdhgfcnjpoaaQTiPAx0
import Derived.Test.YteefdhgfcnjpoaaQTiPAx1
import Derived.Test.YteefdhgfcnjpoaaQTiPAx3
import Derived.Test.YteefdhgfcnjpoaaQTiPAx5
import Derived.Test.YteefdhgfcnjpoaaQTiPAx7
import Derived.Test.YteefdhgfcnjpoaaQTiPAx9
import Derived.Test.YteefdhgfcnjpoaaQTiPAx16
import Derived.Test.YteefdhgfcnjpoaaQTiPureH
namespace Go.Proofs.Yteefdhgfcnjpoaa.Pure
open Go.RowKit Go.Proofs.Yteefdhgfcnjpoaa.PA Go.Proofs.YteefdhgfcnjpoaaW.PrintWords Go.Proofs.YteefdhgfcnjpoaaW.PrintLast
set_option linter.unusedVariables false
set_option linter.unusedSimpArgs false

theorem val_start {l : List S38} (h : planB l = true) : Val l ⟨1, 0, 0, false, 0, false, 0⟩ := by
  have := plan_len h
  exact val_fresh h 0 (by omega) (by omega)

end Go.Proofs.Yteefdhgfcnjpoaa.Pure
