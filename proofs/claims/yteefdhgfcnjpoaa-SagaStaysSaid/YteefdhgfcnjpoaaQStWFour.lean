-- cut by a program of this work (wip/tools/shake.py) from what print.sh wrote for this seat: theorems that this claim does not need are left out
import Derived.Test.YteefdhgfcnjpoaaQStWTab
/-! ### 56. Four, five, six operations that may come up next, in any order -/
namespace Go.Proofs.YteefdhgfcnjpoaaW.PrintLast
section
variable {P : Program} {ops : Array Oper} {Q : Exit → Act → World → Prop} {md : Region.Mode} {S : World → Prop} {ds : List Nat} {T : Bool × List (List Nat × List Nat)}

end
end Go.Proofs.YteefdhgfcnjpoaaW.PrintLast
