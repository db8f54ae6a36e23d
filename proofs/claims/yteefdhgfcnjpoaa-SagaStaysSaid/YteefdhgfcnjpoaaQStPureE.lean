/- Plain laws on the mirror of chapter 14's functions, part E: the document's answers. -/
import Derived.Test.YteefdhgfcnjpoaaQStPAx13
import Derived.Test.YteefdhgfcnjpoaaQStPAx14
import Derived.Test.YteefdhgfcnjpoaaQStPureD
namespace Go.Proofs.Yteefdhgfcnjpoaa.Pure
open Go.RowKit Go.Proofs.Yteefdhgfcnjpoaa.PA Go.Proofs.YteefdhgfcnjpoaaW.PrintWords Go.Proofs.YteefdhgfcnjpoaaW.PrintLast
set_option linter.unusedVariables false
set_option linter.unusedSimpArgs false

end Go.Proofs.Yteefdhgfcnjpoaa.Pure
