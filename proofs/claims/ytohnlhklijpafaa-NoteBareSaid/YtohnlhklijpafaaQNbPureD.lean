/- Plain laws on the mirror of chapter 5's functions, part D: the laws NoteSizes and NoteApart. -/
import Derived.Test.YtohnlhklijpafaaQNbPAx1
import Derived.Test.YtohnlhklijpafaaQNbPAx4
import Derived.Test.YtohnlhklijpafaaQNbPAx0
import Derived.Test.YtohnlhklijpafaaQNbPAx3
import Derived.Test.YtohnlhklijpafaaQNbPureC
namespace Go.Proofs.Ytohnlhklijpafaa.Pure
open Go.RowKit Go.Proofs.Ytohnlhklijpafaa.PA Go.Proofs.YtohnlhklijpafaaW.PrintWords Go.Proofs.YtohnlhklijpafaaW.PrintLast Go.Proofs.YtohnlhklijpafaaW.PrintMore
set_option linter.unusedVariables false
set_option linter.unusedSimpArgs false

theorem names_ge (k : Int) {n : Nat} (hn : 9 ≤ n) : note_Names.f n k = some (nameStr k) := at_rounds (fun j => note_Names.mono k j) hn (names_str k)

end Go.Proofs.Ytohnlhklijpafaa.Pure
