/- Plain laws on the mirror of chapter 5's functions, part A: what the chapter's examples fix, numbers and their bytes. -/
import Derived.Laws.BitsLemmas
import Derived.Test.YtohnlhklijpafaaQNbPAx4
namespace Go.Proofs.Ytohnlhklijpafaa.Pure
open Go.RowKit Go.Proofs.Ytohnlhklijpafaa.PA Go.Proofs.YtohnlhklijpafaaW.PrintWords Go.Proofs.YtohnlhklijpafaaW.PrintLast Go.Proofs.YtohnlhklijpafaaW.PrintMore
set_option linter.unusedVariables false
set_option linter.unusedSimpArgs false

theorem known_ev : Ev (fun k => drayagelaw05_known.f k) true :=
  Ev.of (fun k => drayagelaw05_known.mono k) (k := 20) (by decide +kernel)

def val (l : List Int) : Int := l.foldl (fun n c => n * 256 + c) 0

/-! reading what was written -/

/-! reading back -/

end Go.Proofs.Ytohnlhklijpafaa.Pure
