/- What can be read as data is a value of a kind: for each kind of parameter one lemma; over any program. -/
import Derived.Test.YtgghljienippgaaQGaWWords
import Derived.WalkKit
import Derived.ProofKit
import Derived.OpenShut
import Derived.ShutString
import Derived.ChangeOld
import Derived.ChangeArms
import Derived.ChangeSlices
import Derived.DataReads
import Derived.Below
import Derived.SizedLaws
namespace Go.Proofs.Ytgghljienippgaa.Opens
open Go.RowKit Go.Proofs.YtgghljienippgaaW.PrintWords
variable {P : Program} {w : World}

/-- Cells that can be read as data of type t are those of a value of the kind d, of which Q holds. -/
def Opens {α : Type} (P : Program) (w : World) (t : TypeId) (d : Kd α) (Q : α → Prop) : Prop :=
  ∀ (H : Type) (enc : TypeId × Value → H) (spare : Nat → Bool) (held : Bool) (fuel : Nat) (cs : List Value) (x : DataW H × List MemPlace),
    DataW.trod enc P w 0 spare held fuel t cs = some x → ∃ a, d.K w a cs ∧ Q a

/-- A struct's fields from offset o on. -/
def OpensF {α : Type} (P : Program) (w : World) (fs : List Field) (o : Nat) (d : Kd α) (Q : α → Prop) : Prop :=
  ∀ (H : Type) (enc : TypeId × Value → H) (spare : Nat → Bool) (held : Bool) (fuel : Nat) (cs : List Value),
    cs.length = o + d.sz → (∀ f ∈ fs, ∃ y, DataW.trod enc P w 0 spare held fuel f.type ((cs.drop f.offset).take (P.cellsOf f.type)) = some y) → ∃ a, d.K w a (cs.drop o) ∧ Q a

end Go.Proofs.Ytgghljienippgaa.Opens
