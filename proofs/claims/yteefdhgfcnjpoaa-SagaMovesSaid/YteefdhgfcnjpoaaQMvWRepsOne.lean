-- cut by a program of this work (wip/tools/shake.py) from what print.sh wrote for this seat: theorems that this claim does not need are left out
import Derived.Test.YteefdhgfcnjpoaaQMvWWords
/-! ### 55. Reps told from the front, no append: for rows of one-cell elements and of wider ones -/
namespace Go.Proofs.YteefdhgfcnjpoaaW.PrintWords

end Go.Proofs.YteefdhgfcnjpoaaW.PrintWords
