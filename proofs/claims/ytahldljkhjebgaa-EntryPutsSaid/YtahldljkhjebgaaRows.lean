/-
  No cell of these rows narrows 'for every input' (looked for: loops, veiled, ifaces, maps, wideKeys, modest, calm, conditions, laid).
  DERIVED. THE GIVEN ROWS OF THIS SEAT. 8 by the template 'for every input the law returns true; each argument reads behind the call as it read before'; 0 by the template 'total and deterministic' (their statements: YtahldljkhjebgaaTotals.lean).
  GIVEN WITH THE SEED: the statements are not yours to turn. If you find one false, say at which input.
  Laid BY PROGRAM, IN A SANDBOX (cutbox-rows.mjs): the forced cells as the released guide's own fill.sh prints them over the translation 31ad77e30e9add0b… (all of the seat's roots in one cut). By AI agents, Wed Nov 11 2026. No macro, syntax, notation, axiom, sorry.
-/
import Derived.Test.YtahldljkhjebgaaChecked
import GoSem.Claim
import GoSem.ClaimJoined
import GoSem.ClaimMapViews
import Derived.JoinedTies
import Derived.KernelRfl
namespace Go.Proofs.Ytahldljkhjebgaa
/- THE CELL 'sum', in the pinned program and in every row, IS THE sha256 OF THE DUMP (.gsa) THAT YtahldljkhjebgaaProg.lean LOADS. Nothing in Lean hashes anything: it is a label: what it is worth is what the hold of that sum in a sandbox is worth. -/
noncomputable def Try.pinned : Pinned := { name := "ytahldljkhjebgaa", sum := "31ad77e30e9add0bca9a4139b1843f8cbf0c034e878eddfeffe1592283ae3aac", checked := Try.checked }
namespace Rows
def none {H : Type} : Left H := { results := [], args := [] }

/-- 'drayagelaw04.EntryPuts': WHATEVER THE INPUT: true; the input reads as it did. -/
def entryPutsSpec : ChangeSpec := { name := "entryPuts", fn := fun _ => fun
  | [d] => { results := [.lit (.bool true)], args := [d] }
  | _ => none }
def entryPutsRow : OpenClaim := { program := "ytahldljkhjebgaa", sum := "31ad77e30e9add0bca9a4139b1843f8cbf0c034e878eddfeffe1592283ae3aac", func := "drayage/drayagelaw04.EntryPuts", spec := "entryPuts", apart := false }
def EntryPutsSaid : Prop := entryPutsRow.holds Try.pinned (OpenSpec.ofChange entryPutsSpec)

/-- ITS FALSE NEIGHBOUR: 'it returns false'. Refute it at one input. -/
def entryPutsWrong : ChangeSpec := { name := "entryPuts", fn := fun _ => fun
  | [d] => { results := [.lit (.bool false)], args := [d] }
  | _ => none }
def EntryPutsWrongFalsely : Prop := entryPutsRow.holds Try.pinned (OpenSpec.ofChange entryPutsWrong)

/-- 'drayagelaw04.EntryGets': WHATEVER THE INPUT: true; the input reads as it did. -/
def entryGetsSpec : ChangeSpec := { name := "entryGets", fn := fun _ => fun
  | [d] => { results := [.lit (.bool true)], args := [d] }
  | _ => none }
def entryGetsRow : OpenClaim := { program := "ytahldljkhjebgaa", sum := "31ad77e30e9add0bca9a4139b1843f8cbf0c034e878eddfeffe1592283ae3aac", func := "drayage/drayagelaw04.EntryGets", spec := "entryGets", apart := false }
def EntryGetsSaid : Prop := entryGetsRow.holds Try.pinned (OpenSpec.ofChange entryGetsSpec)

/-- ITS FALSE NEIGHBOUR: 'it returns false'. Refute it at one input. -/
def entryGetsWrong : ChangeSpec := { name := "entryGets", fn := fun _ => fun
  | [d] => { results := [.lit (.bool false)], args := [d] }
  | _ => none }
def EntryGetsWrongFalsely : Prop := entryGetsRow.holds Try.pinned (OpenSpec.ofChange entryGetsWrong)

/-- 'drayagelaw04.EntryBack': WHATEVER THE INPUT: true; the input reads as it did. -/
def entryBackSpec : ChangeSpec := { name := "entryBack", fn := fun _ => fun
  | [d1, d2, d3] => { results := [.lit (.bool true)], args := [d1, d2, d3] }
  | _ => none }
def entryBackRow : OpenClaim := { program := "ytahldljkhjebgaa", sum := "31ad77e30e9add0bca9a4139b1843f8cbf0c034e878eddfeffe1592283ae3aac", func := "drayage/drayagelaw04.EntryBack", spec := "entryBack", apart := false }
def EntryBackSaid : Prop := entryBackRow.holds Try.pinned (OpenSpec.ofChange entryBackSpec)

/-- ITS FALSE NEIGHBOUR: 'it returns false'. Refute it at one input. -/
def entryBackWrong : ChangeSpec := { name := "entryBack", fn := fun _ => fun
  | [d1, d2, d3] => { results := [.lit (.bool false)], args := [d1, d2, d3] }
  | _ => none }
def EntryBackWrongFalsely : Prop := entryBackRow.holds Try.pinned (OpenSpec.ofChange entryBackWrong)

/-- 'drayagelaw04.EntryBare': WHATEVER THE INPUT: true; the input reads as it did. -/
def entryBareSpec : ChangeSpec := { name := "entryBare", fn := fun _ => fun
  | [d1, d2] => { results := [.lit (.bool true)], args := [d1, d2] }
  | _ => none }
def entryBareRow : OpenClaim := { program := "ytahldljkhjebgaa", sum := "31ad77e30e9add0bca9a4139b1843f8cbf0c034e878eddfeffe1592283ae3aac", func := "drayage/drayagelaw04.EntryBare", spec := "entryBare", apart := false }
def EntryBareSaid : Prop := entryBareRow.holds Try.pinned (OpenSpec.ofChange entryBareSpec)

/-- ITS FALSE NEIGHBOUR: 'it returns false'. Refute it at one input. -/
def entryBareWrong : ChangeSpec := { name := "entryBare", fn := fun _ => fun
  | [d1, d2] => { results := [.lit (.bool false)], args := [d1, d2] }
  | _ => none }
def EntryBareWrongFalsely : Prop := entryBareRow.holds Try.pinned (OpenSpec.ofChange entryBareWrong)

/-- 'drayagelaw04.EntryRows': WHATEVER THE INPUT: true; the input reads as it did. -/
def entryRowsSpec : ChangeSpec := { name := "entryRows", fn := fun _ => fun
  | [d] => { results := [.lit (.bool true)], args := [d] }
  | _ => none }
def entryRowsRow : OpenClaim := { program := "ytahldljkhjebgaa", sum := "31ad77e30e9add0bca9a4139b1843f8cbf0c034e878eddfeffe1592283ae3aac", func := "drayage/drayagelaw04.EntryRows", spec := "entryRows", apart := false }
def EntryRowsSaid : Prop := entryRowsRow.holds Try.pinned (OpenSpec.ofChange entryRowsSpec)

/-- ITS FALSE NEIGHBOUR: 'it returns false'. Refute it at one input. -/
def entryRowsWrong : ChangeSpec := { name := "entryRows", fn := fun _ => fun
  | [d] => { results := [.lit (.bool false)], args := [d] }
  | _ => none }
def EntryRowsWrongFalsely : Prop := entryRowsRow.holds Try.pinned (OpenSpec.ofChange entryRowsWrong)

/-- 'drayagelaw04.EntryBegins': WHATEVER THE INPUT: true; the input reads as it did. -/
def entryBeginsSpec : ChangeSpec := { name := "entryBegins", fn := fun _ => fun
  | [d1, d2] => { results := [.lit (.bool true)], args := [d1, d2] }
  | _ => none }
def entryBeginsRow : OpenClaim := { program := "ytahldljkhjebgaa", sum := "31ad77e30e9add0bca9a4139b1843f8cbf0c034e878eddfeffe1592283ae3aac", func := "drayage/drayagelaw04.EntryBegins", spec := "entryBegins", apart := false }
def EntryBeginsSaid : Prop := entryBeginsRow.holds Try.pinned (OpenSpec.ofChange entryBeginsSpec)

/-- ITS FALSE NEIGHBOUR: 'it returns false'. Refute it at one input. -/
def entryBeginsWrong : ChangeSpec := { name := "entryBegins", fn := fun _ => fun
  | [d1, d2] => { results := [.lit (.bool false)], args := [d1, d2] }
  | _ => none }
def EntryBeginsWrongFalsely : Prop := entryBeginsRow.holds Try.pinned (OpenSpec.ofChange entryBeginsWrong)

/-- 'drayagelaw04.EntrySizes': WHATEVER THE INPUT: true; the input reads as it did. -/
def entrySizesSpec : ChangeSpec := { name := "entrySizes", fn := fun _ => fun
  | [d] => { results := [.lit (.bool true)], args := [d] }
  | _ => none }
def entrySizesRow : OpenClaim := { program := "ytahldljkhjebgaa", sum := "31ad77e30e9add0bca9a4139b1843f8cbf0c034e878eddfeffe1592283ae3aac", func := "drayage/drayagelaw04.EntrySizes", spec := "entrySizes", apart := false }
def EntrySizesSaid : Prop := entrySizesRow.holds Try.pinned (OpenSpec.ofChange entrySizesSpec)

/-- ITS FALSE NEIGHBOUR: 'it returns false'. Refute it at one input. -/
def entrySizesWrong : ChangeSpec := { name := "entrySizes", fn := fun _ => fun
  | [d] => { results := [.lit (.bool false)], args := [d] }
  | _ => none }
def EntrySizesWrongFalsely : Prop := entrySizesRow.holds Try.pinned (OpenSpec.ofChange entrySizesWrong)

/-- 'drayagelaw04.EntryEpochs': WHATEVER THE INPUT: true; the input reads as it did. -/
def entryEpochsSpec : ChangeSpec := { name := "entryEpochs", fn := fun _ => fun
  | [d] => { results := [.lit (.bool true)], args := [d] }
  | _ => none }
def entryEpochsRow : OpenClaim := { program := "ytahldljkhjebgaa", sum := "31ad77e30e9add0bca9a4139b1843f8cbf0c034e878eddfeffe1592283ae3aac", func := "drayage/drayagelaw04.EntryEpochs", spec := "entryEpochs", apart := false }
def EntryEpochsSaid : Prop := entryEpochsRow.holds Try.pinned (OpenSpec.ofChange entryEpochsSpec)

/-- ITS FALSE NEIGHBOUR: 'it returns false'. Refute it at one input. -/
def entryEpochsWrong : ChangeSpec := { name := "entryEpochs", fn := fun _ => fun
  | [d] => { results := [.lit (.bool false)], args := [d] }
  | _ => none }
def EntryEpochsWrongFalsely : Prop := entryEpochsRow.holds Try.pinned (OpenSpec.ofChange entryEpochsWrong)

/- THE SECOND FORM. 'bulk': how many values and letters a reading holds, each counted each time it is reached (what is shared counts as often as it is met; a slice's spare places count too). A statement '..UptoSaid' is the law's where the arguments, and the package variables that the reading takes, are together of bulk at most 1048576: NARROWER than '..Said'. Prove '..Said' where nothing that the law and all that it calls make is longer than what came in: it says more and counts as full. Else prove '..UptoSaid'. A law counts once. -/
mutual
def uptoBulk {H : Type} : DataW H → Nat
  | .lit (.string bytes) => bytes.length + 1
  | .lit _ => 1
  | .nil => 1
  | .ptr d => uptoBulk d + 1
  | .slice elems spare => uptoBulkAll elems + uptoBulkAll spare + 1
  | .agg parts => uptoBulkAll parts + 1
  | .iface _ d => uptoBulk d + 1
  | .map entries => uptoBulkEntries entries + 1
  | .held _ => 1
def uptoBulkAll {H : Type} : List (DataW H) → Nat
  | [] => 0
  | d :: r => uptoBulk d + uptoBulkAll r
def uptoBulkEntries {H : Type} : List (Lit × DataW H) → Nat
  | [] => 0
  | x :: r => uptoBulkEntry x + uptoBulkEntries r
def uptoBulkEntry {H : Type} : Lit × DataW H → Nat
  | (.string bytes, d) => bytes.length + uptoBulk d + 1
  | (_, d) => uptoBulk d + 1
 end
def uptoSmall : (H : Type) → List (DataW H) → Bool := fun _ ds => decide (uptoBulkAll ds ≤ 1048576)
def OpenSpec.upto (s : _root_.Go.ChangeSpec) : _root_.Go.OpenSpec := { _root_.Go.OpenSpec.ofChange s with cond := some uptoSmall }

/-- 'drayagelaw04.EntryPuts', WHERE WHAT IT READS IS OF BULK AT MOST 1048576: true; the input reads as it did. -/
def entryPutsUptoRow : OpenClaim := { program := "ytahldljkhjebgaa", sum := "31ad77e30e9add0bca9a4139b1843f8cbf0c034e878eddfeffe1592283ae3aac", func := "drayage/drayagelaw04.EntryPuts", spec := "entryPuts", apart := false, narrowed := true }
def EntryPutsUptoSaid : Prop := entryPutsUptoRow.holds Try.pinned (OpenSpec.upto entryPutsSpec)

/-- 'drayagelaw04.EntryGets', WHERE WHAT IT READS IS OF BULK AT MOST 1048576: true; the input reads as it did. -/
def entryGetsUptoRow : OpenClaim := { program := "ytahldljkhjebgaa", sum := "31ad77e30e9add0bca9a4139b1843f8cbf0c034e878eddfeffe1592283ae3aac", func := "drayage/drayagelaw04.EntryGets", spec := "entryGets", apart := false, narrowed := true }
def EntryGetsUptoSaid : Prop := entryGetsUptoRow.holds Try.pinned (OpenSpec.upto entryGetsSpec)

/-- 'drayagelaw04.EntryBack', WHERE WHAT IT READS IS OF BULK AT MOST 1048576: true; the input reads as it did. -/
def entryBackUptoRow : OpenClaim := { program := "ytahldljkhjebgaa", sum := "31ad77e30e9add0bca9a4139b1843f8cbf0c034e878eddfeffe1592283ae3aac", func := "drayage/drayagelaw04.EntryBack", spec := "entryBack", apart := false, narrowed := true }
def EntryBackUptoSaid : Prop := entryBackUptoRow.holds Try.pinned (OpenSpec.upto entryBackSpec)

/-- 'drayagelaw04.EntryBare', WHERE WHAT IT READS IS OF BULK AT MOST 1048576: true; the input reads as it did. -/
def entryBareUptoRow : OpenClaim := { program := "ytahldljkhjebgaa", sum := "31ad77e30e9add0bca9a4139b1843f8cbf0c034e878eddfeffe1592283ae3aac", func := "drayage/drayagelaw04.EntryBare", spec := "entryBare", apart := false, narrowed := true }
def EntryBareUptoSaid : Prop := entryBareUptoRow.holds Try.pinned (OpenSpec.upto entryBareSpec)

/-- 'drayagelaw04.EntryRows', WHERE WHAT IT READS IS OF BULK AT MOST 1048576: true; the input reads as it did. -/
def entryRowsUptoRow : OpenClaim := { program := "ytahldljkhjebgaa", sum := "31ad77e30e9add0bca9a4139b1843f8cbf0c034e878eddfeffe1592283ae3aac", func := "drayage/drayagelaw04.EntryRows", spec := "entryRows", apart := false, narrowed := true }
def EntryRowsUptoSaid : Prop := entryRowsUptoRow.holds Try.pinned (OpenSpec.upto entryRowsSpec)

/-- 'drayagelaw04.EntryBegins', WHERE WHAT IT READS IS OF BULK AT MOST 1048576: true; the input reads as it did. -/
def entryBeginsUptoRow : OpenClaim := { program := "ytahldljkhjebgaa", sum := "31ad77e30e9add0bca9a4139b1843f8cbf0c034e878eddfeffe1592283ae3aac", func := "drayage/drayagelaw04.EntryBegins", spec := "entryBegins", apart := false, narrowed := true }
def EntryBeginsUptoSaid : Prop := entryBeginsUptoRow.holds Try.pinned (OpenSpec.upto entryBeginsSpec)

/-- 'drayagelaw04.EntrySizes', WHERE WHAT IT READS IS OF BULK AT MOST 1048576: true; the input reads as it did. -/
def entrySizesUptoRow : OpenClaim := { program := "ytahldljkhjebgaa", sum := "31ad77e30e9add0bca9a4139b1843f8cbf0c034e878eddfeffe1592283ae3aac", func := "drayage/drayagelaw04.EntrySizes", spec := "entrySizes", apart := false, narrowed := true }
def EntrySizesUptoSaid : Prop := entrySizesUptoRow.holds Try.pinned (OpenSpec.upto entrySizesSpec)

/-- 'drayagelaw04.EntryEpochs', WHERE WHAT IT READS IS OF BULK AT MOST 1048576: true; the input reads as it did. -/
def entryEpochsUptoRow : OpenClaim := { program := "ytahldljkhjebgaa", sum := "31ad77e30e9add0bca9a4139b1843f8cbf0c034e878eddfeffe1592283ae3aac", func := "drayage/drayagelaw04.EntryEpochs", spec := "entryEpochs", apart := false, narrowed := true }
def EntryEpochsUptoSaid : Prop := entryEpochsUptoRow.holds Try.pinned (OpenSpec.upto entryEpochsSpec)

end Rows
end Go.Proofs.Ytahldljkhjebgaa
