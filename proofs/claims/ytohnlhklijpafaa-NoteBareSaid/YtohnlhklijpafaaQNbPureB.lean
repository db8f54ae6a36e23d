/- Plain laws on the mirror of chapter 5's functions, part B: a note's bytes are got as it was; bytes that are got are put as they were. -/
import Derived.Test.YtohnlhklijpafaaQNbPAx2
import Derived.Test.YtohnlhklijpafaaQNbPAx3
import Derived.Test.YtohnlhklijpafaaQNbPureA
namespace Go.Proofs.Ytohnlhklijpafaa.Pure
open Go.RowKit Go.Proofs.Ytohnlhklijpafaa.PA Go.Proofs.YtohnlhklijpafaaW.PrintWords Go.Proofs.YtohnlhklijpafaaW.PrintLast Go.Proofs.YtohnlhklijpafaaW.PrintMore
set_option linter.unusedVariables false
set_option linter.unusedSimpArgs false

theorem check_is (k ep ol ls ti o st : Int) (un : Bool) (co : Int) (l9 l10 : List Int) : note_Check.f k ep ol ls ti o st un co l9 l10 = some (if noteBad k ep ol ls ti o st un co l9.length l10.length then 50 else 0) := rfl

end Go.Proofs.Ytohnlhklijpafaa.Pure
