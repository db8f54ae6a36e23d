/- Plain laws on the mirror of chapter 5's functions, part C: what is put is got, over all kinds; the law NoteBack. -/
import Derived.Test.YtohnlhklijpafaaQNbPAx1
import Derived.Test.YtohnlhklijpafaaQNbPAx2
import Derived.Test.YtohnlhklijpafaaQNbPAx4
import Derived.Test.YtohnlhklijpafaaQNbPAx0
import Derived.Test.YtohnlhklijpafaaQNbPAx3
import Derived.Test.YtohnlhklijpafaaQNbPureB
namespace Go.Proofs.Ytohnlhklijpafaa.Pure
open Go.RowKit Go.Proofs.Ytohnlhklijpafaa.PA Go.Proofs.YtohnlhklijpafaaW.PrintWords Go.Proofs.YtohnlhklijpafaaW.PrintLast Go.Proofs.YtohnlhklijpafaaW.PrintMore
set_option linter.unusedVariables false
set_option linter.unusedSimpArgs false

theorem kinds {k : Int} (h : 1 ≤ k ∧ k ≤ 13) : k = 1 ∨ k = 2 ∨ k = 3 ∨ k = 4 ∨ k = 5 ∨ k = 6 ∨ k = 7 ∨ k = 8 ∨ k = 9 ∨ k = 10 ∨ k = 11 ∨ k = 12 ∨ k = 13 := by omega

theorem long_some (k ep ol ls ti o st : Int) (un : Bool) (co : Int) (l9 l10 : List Int) : ∃ b, drayagelaw05_long.f k ep ol ls ti o st un co l9 l10 = some b := by
  unfold drayagelaw05_long.f
  repeat' split
  all_goals exact ⟨_, rfl⟩

end Go.Proofs.Ytohnlhklijpafaa.Pure
