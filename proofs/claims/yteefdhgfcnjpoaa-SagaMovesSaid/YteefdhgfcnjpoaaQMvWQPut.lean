-- cut by a program of this work (wip/tools/shake.py) from what print.sh wrote for this seat: theorems that this claim does not need are left out
import Derived.Test.YteefdhgfcnjpoaaQMvWWords
import Derived.Test.YteefdhgfcnjpoaaQMvWLast
/-! ### 39. Stores into a row that may begin inside its block (Q): Q_form, Q_elem, Q_seg; scalars: Q_cell, Q_putg -/
namespace Go.Proofs.YteefdhgfcnjpoaaW.PrintWords
open Go.RowKit
namespace Kd
section
variable {α : Type} {d : Kd α} {e base g o n cap : Nat} {ok okp : Nat → Prop} {w W : World} {v : Value} {xs : List α}

end
section
variable {α : Type} {enc : α → Value} {h1 : ∀ x, (enc x).oneCell' = true} {e base g o n cap : Nat} {ok : Nat → Prop} {W : World} {xs : List α}

end
end Kd
end Go.Proofs.YteefdhgfcnjpoaaW.PrintWords
