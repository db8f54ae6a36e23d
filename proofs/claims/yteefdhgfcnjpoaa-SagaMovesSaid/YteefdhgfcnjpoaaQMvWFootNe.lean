-- cut by a program of this work (wip/tools/shake.py) from what print.sh wrote for this seat: theorems that this claim does not need are left out
import Derived.Test.YteefdhgfcnjpoaaQMvWN
/-! ### 52. A row that stays read whatever happens to a block (a set of blocks) doesn't lie there -/
namespace Go.Proofs.YteefdhgfcnjpoaaW.PrintWords
open Go.RowKit
namespace Kd

section
variable {α : Type} {d : Kd α} {W : World} {g n : Nat} {S ok : Nat → Prop} {A : Option Addr} {ad : Addr} {xs : List α}

end
end Kd
end Go.Proofs.YteefdhgfcnjpoaaW.PrintWords
