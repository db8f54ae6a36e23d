-- cut by a program of this work (wip/tools/shake.py) from what print.sh wrote for this seat: theorems that this claim does not need are left out
import Derived.Test.YteefdhgfcnjpoaaQStWInv
import Derived.Test.YteefdhgfcnjpoaaQStWFootNe
namespace Go.Proofs.YteefdhgfcnjpoaaW.PrintWords
open Go.RowKit

end Go.Proofs.YteefdhgfcnjpoaaW.PrintWords
namespace Go.Proofs.YteefdhgfcnjpoaaW.PrintLast
section
variable {ops : Array Oper} {a : Act} {o og : Oper} {g : Nat} {t : Tmp} {u : Bool}

end
end Go.Proofs.YteefdhgfcnjpoaaW.PrintLast
