/-
  No cell of these rows narrows 'for every input' (looked for: loops, veiled, ifaces, maps, wideKeys, modest, calm, conditions, laid).
  DERIVED. THE GIVEN ROWS OF THIS SEAT. 7 by the template 'for every input the law returns true; each argument reads behind the call as it read before'; 0 by the template 'total and deterministic' (their statements: YtohnlhklijpafaaTotals.lean).
  GIVEN WITH THE SEED: the statements are not yours to turn. If you find one false, say at which input.
  Laid BY PROGRAM, IN A SANDBOX (cutbox-rows.mjs): the forced cells as the released guide's own fill.sh prints them over the translation 618452906b0accad… (all of the seat's roots in one cut). By AI agents, Wed Nov 11 2026. No macro, syntax, notation, axiom, sorry.
-/
import Derived.Test.YtohnlhklijpafaaChecked
import GoSem.Claim
import GoSem.ClaimJoined
import GoSem.ClaimMapViews
import Derived.JoinedTies
import Derived.KernelRfl
namespace Go.Proofs.Ytohnlhklijpafaa
/- THE CELL 'sum', in the pinned program and in every row, IS THE sha256 OF THE DUMP (.gsa) THAT YtohnlhklijpafaaProg.lean LOADS. Nothing in Lean hashes anything: it is a label: what it is worth is what the hold of that sum in a sandbox is worth. -/
noncomputable def Try.pinned : Pinned := { name := "ytohnlhklijpafaa", sum := "618452906b0accade3de5984e7cb7b45ceff58f01561b42b846a9be340d6da0c", checked := Try.checked }
namespace Rows
def none {H : Type} : Left H := { results := [], args := [] }

/-- 'drayagelaw05.NotePuts': WHATEVER THE INPUT: true; the input reads as it did. -/
def notePutsSpec : ChangeSpec := { name := "notePuts", fn := fun _ => fun
  | [d] => { results := [.lit (.bool true)], args := [d] }
  | _ => none }
def notePutsRow : OpenClaim := { program := "ytohnlhklijpafaa", sum := "618452906b0accade3de5984e7cb7b45ceff58f01561b42b846a9be340d6da0c", func := "drayage/drayagelaw05.NotePuts", spec := "notePuts", apart := false }
def NotePutsSaid : Prop := notePutsRow.holds Try.pinned (OpenSpec.ofChange notePutsSpec)

/-- ITS FALSE NEIGHBOUR: 'it returns false'. Refute it at one input. -/
def notePutsWrong : ChangeSpec := { name := "notePuts", fn := fun _ => fun
  | [d] => { results := [.lit (.bool false)], args := [d] }
  | _ => none }
def NotePutsWrongFalsely : Prop := notePutsRow.holds Try.pinned (OpenSpec.ofChange notePutsWrong)

/-- 'drayagelaw05.NoteGets': WHATEVER THE INPUT: true; the input reads as it did. -/
def noteGetsSpec : ChangeSpec := { name := "noteGets", fn := fun _ => fun
  | [d] => { results := [.lit (.bool true)], args := [d] }
  | _ => none }
def noteGetsRow : OpenClaim := { program := "ytohnlhklijpafaa", sum := "618452906b0accade3de5984e7cb7b45ceff58f01561b42b846a9be340d6da0c", func := "drayage/drayagelaw05.NoteGets", spec := "noteGets", apart := false }
def NoteGetsSaid : Prop := noteGetsRow.holds Try.pinned (OpenSpec.ofChange noteGetsSpec)

/-- ITS FALSE NEIGHBOUR: 'it returns false'. Refute it at one input. -/
def noteGetsWrong : ChangeSpec := { name := "noteGets", fn := fun _ => fun
  | [d] => { results := [.lit (.bool false)], args := [d] }
  | _ => none }
def NoteGetsWrongFalsely : Prop := noteGetsRow.holds Try.pinned (OpenSpec.ofChange noteGetsWrong)

/-- 'drayagelaw05.NoteBack': WHATEVER THE INPUT: true; the input reads as it did. -/
def noteBackSpec : ChangeSpec := { name := "noteBack", fn := fun _ => fun
  | [d1, d2, d3] => { results := [.lit (.bool true)], args := [d1, d2, d3] }
  | _ => none }
def noteBackRow : OpenClaim := { program := "ytohnlhklijpafaa", sum := "618452906b0accade3de5984e7cb7b45ceff58f01561b42b846a9be340d6da0c", func := "drayage/drayagelaw05.NoteBack", spec := "noteBack", apart := false }
def NoteBackSaid : Prop := noteBackRow.holds Try.pinned (OpenSpec.ofChange noteBackSpec)

/-- ITS FALSE NEIGHBOUR: 'it returns false'. Refute it at one input. -/
def noteBackWrong : ChangeSpec := { name := "noteBack", fn := fun _ => fun
  | [d1, d2, d3] => { results := [.lit (.bool false)], args := [d1, d2, d3] }
  | _ => none }
def NoteBackWrongFalsely : Prop := noteBackRow.holds Try.pinned (OpenSpec.ofChange noteBackWrong)

/-- 'drayagelaw05.NoteSizes': WHATEVER THE INPUT: true; the input reads as it did. -/
def noteSizesSpec : ChangeSpec := { name := "noteSizes", fn := fun _ => fun
  | [d] => { results := [.lit (.bool true)], args := [d] }
  | _ => none }
def noteSizesRow : OpenClaim := { program := "ytohnlhklijpafaa", sum := "618452906b0accade3de5984e7cb7b45ceff58f01561b42b846a9be340d6da0c", func := "drayage/drayagelaw05.NoteSizes", spec := "noteSizes", apart := false }
def NoteSizesSaid : Prop := noteSizesRow.holds Try.pinned (OpenSpec.ofChange noteSizesSpec)

/-- ITS FALSE NEIGHBOUR: 'it returns false'. Refute it at one input. -/
def noteSizesWrong : ChangeSpec := { name := "noteSizes", fn := fun _ => fun
  | [d] => { results := [.lit (.bool false)], args := [d] }
  | _ => none }
def NoteSizesWrongFalsely : Prop := noteSizesRow.holds Try.pinned (OpenSpec.ofChange noteSizesWrong)

/-- 'drayagelaw05.NoteBare': WHATEVER THE INPUT: true; the input reads as it did. -/
def noteBareSpec : ChangeSpec := { name := "noteBare", fn := fun _ => fun
  | [d1, d2] => { results := [.lit (.bool true)], args := [d1, d2] }
  | _ => none }
def noteBareRow : OpenClaim := { program := "ytohnlhklijpafaa", sum := "618452906b0accade3de5984e7cb7b45ceff58f01561b42b846a9be340d6da0c", func := "drayage/drayagelaw05.NoteBare", spec := "noteBare", apart := false }
def NoteBareSaid : Prop := noteBareRow.holds Try.pinned (OpenSpec.ofChange noteBareSpec)

/-- ITS FALSE NEIGHBOUR: 'it returns false'. Refute it at one input. -/
def noteBareWrong : ChangeSpec := { name := "noteBare", fn := fun _ => fun
  | [d1, d2] => { results := [.lit (.bool false)], args := [d1, d2] }
  | _ => none }
def NoteBareWrongFalsely : Prop := noteBareRow.holds Try.pinned (OpenSpec.ofChange noteBareWrong)

/-- 'drayagelaw05.NoteApart': WHATEVER THE INPUT: true; the input reads as it did. -/
def noteApartSpec : ChangeSpec := { name := "noteApart", fn := fun _ => fun
  | [d1, d2] => { results := [.lit (.bool true)], args := [d1, d2] }
  | _ => none }
def noteApartRow : OpenClaim := { program := "ytohnlhklijpafaa", sum := "618452906b0accade3de5984e7cb7b45ceff58f01561b42b846a9be340d6da0c", func := "drayage/drayagelaw05.NoteApart", spec := "noteApart", apart := false }
def NoteApartSaid : Prop := noteApartRow.holds Try.pinned (OpenSpec.ofChange noteApartSpec)

/-- ITS FALSE NEIGHBOUR: 'it returns false'. Refute it at one input. -/
def noteApartWrong : ChangeSpec := { name := "noteApart", fn := fun _ => fun
  | [d1, d2] => { results := [.lit (.bool false)], args := [d1, d2] }
  | _ => none }
def NoteApartWrongFalsely : Prop := noteApartRow.holds Try.pinned (OpenSpec.ofChange noteApartWrong)

/-- 'drayagelaw05.NoteNames': WHATEVER THE INPUT: true; the input reads as it did. -/
def noteNamesSpec : ChangeSpec := { name := "noteNames", fn := fun _ => fun
  | [d1, d2, d3, d4, d5] => { results := [.lit (.bool true)], args := [d1, d2, d3, d4, d5] }
  | _ => none }
def noteNamesRow : OpenClaim := { program := "ytohnlhklijpafaa", sum := "618452906b0accade3de5984e7cb7b45ceff58f01561b42b846a9be340d6da0c", func := "drayage/drayagelaw05.NoteNames", spec := "noteNames", apart := false }
def NoteNamesSaid : Prop := noteNamesRow.holds Try.pinned (OpenSpec.ofChange noteNamesSpec)

/-- ITS FALSE NEIGHBOUR: 'it returns false'. Refute it at one input. -/
def noteNamesWrong : ChangeSpec := { name := "noteNames", fn := fun _ => fun
  | [d1, d2, d3, d4, d5] => { results := [.lit (.bool false)], args := [d1, d2, d3, d4, d5] }
  | _ => none }
def NoteNamesWrongFalsely : Prop := noteNamesRow.holds Try.pinned (OpenSpec.ofChange noteNamesWrong)

/- THE SECOND FORM. 'bulk': how many values and letters a reading holds, each counted each time it is reached (what is shared counts as often as it is met; a slice's spare places count too). A statement '..UptoSaid' is the law's where the arguments, and the package variables that the reading takes, are together of bulk at most 1048576: NARROWER than '..Said'. Prove '..Said' where nothing that the law and all that it calls make is longer than what came in: it says more and counts as full. Else prove '..UptoSaid'. A law counts once. -/
mutual
def uptoBulk {H : Type} : DataW H → Nat
  | .lit (.string bytes) => bytes.length + 1
  | .lit _ => 1
  | .nil => 1
  | .ptr d => uptoBulk d + 1
  | .slice elems spare => uptoBulkAll elems + uptoBulkAll spare + 1
  | .agg parts => uptoBulkAll parts + 1
  | .iface _ d => uptoBulk d + 1
  | .map entries => uptoBulkEntries entries + 1
  | .held _ => 1
def uptoBulkAll {H : Type} : List (DataW H) → Nat
  | [] => 0
  | d :: r => uptoBulk d + uptoBulkAll r
def uptoBulkEntries {H : Type} : List (Lit × DataW H) → Nat
  | [] => 0
  | x :: r => uptoBulkEntry x + uptoBulkEntries r
def uptoBulkEntry {H : Type} : Lit × DataW H → Nat
  | (.string bytes, d) => bytes.length + uptoBulk d + 1
  | (_, d) => uptoBulk d + 1
 end
def uptoSmall : (H : Type) → List (DataW H) → Bool := fun _ ds => decide (uptoBulkAll ds ≤ 1048576)
def OpenSpec.upto (s : _root_.Go.ChangeSpec) : _root_.Go.OpenSpec := { _root_.Go.OpenSpec.ofChange s with cond := some uptoSmall }

/-- 'drayagelaw05.NotePuts', WHERE WHAT IT READS IS OF BULK AT MOST 1048576: true; the input reads as it did. -/
def notePutsUptoRow : OpenClaim := { program := "ytohnlhklijpafaa", sum := "618452906b0accade3de5984e7cb7b45ceff58f01561b42b846a9be340d6da0c", func := "drayage/drayagelaw05.NotePuts", spec := "notePuts", apart := false, narrowed := true }
def NotePutsUptoSaid : Prop := notePutsUptoRow.holds Try.pinned (OpenSpec.upto notePutsSpec)

/-- 'drayagelaw05.NoteGets', WHERE WHAT IT READS IS OF BULK AT MOST 1048576: true; the input reads as it did. -/
def noteGetsUptoRow : OpenClaim := { program := "ytohnlhklijpafaa", sum := "618452906b0accade3de5984e7cb7b45ceff58f01561b42b846a9be340d6da0c", func := "drayage/drayagelaw05.NoteGets", spec := "noteGets", apart := false, narrowed := true }
def NoteGetsUptoSaid : Prop := noteGetsUptoRow.holds Try.pinned (OpenSpec.upto noteGetsSpec)

/-- 'drayagelaw05.NoteBack', WHERE WHAT IT READS IS OF BULK AT MOST 1048576: true; the input reads as it did. -/
def noteBackUptoRow : OpenClaim := { program := "ytohnlhklijpafaa", sum := "618452906b0accade3de5984e7cb7b45ceff58f01561b42b846a9be340d6da0c", func := "drayage/drayagelaw05.NoteBack", spec := "noteBack", apart := false, narrowed := true }
def NoteBackUptoSaid : Prop := noteBackUptoRow.holds Try.pinned (OpenSpec.upto noteBackSpec)

/-- 'drayagelaw05.NoteSizes', WHERE WHAT IT READS IS OF BULK AT MOST 1048576: true; the input reads as it did. -/
def noteSizesUptoRow : OpenClaim := { program := "ytohnlhklijpafaa", sum := "618452906b0accade3de5984e7cb7b45ceff58f01561b42b846a9be340d6da0c", func := "drayage/drayagelaw05.NoteSizes", spec := "noteSizes", apart := false, narrowed := true }
def NoteSizesUptoSaid : Prop := noteSizesUptoRow.holds Try.pinned (OpenSpec.upto noteSizesSpec)

/-- 'drayagelaw05.NoteBare', WHERE WHAT IT READS IS OF BULK AT MOST 1048576: true; the input reads as it did. -/
def noteBareUptoRow : OpenClaim := { program := "ytohnlhklijpafaa", sum := "618452906b0accade3de5984e7cb7b45ceff58f01561b42b846a9be340d6da0c", func := "drayage/drayagelaw05.NoteBare", spec := "noteBare", apart := false, narrowed := true }
def NoteBareUptoSaid : Prop := noteBareUptoRow.holds Try.pinned (OpenSpec.upto noteBareSpec)

/-- 'drayagelaw05.NoteApart', WHERE WHAT IT READS IS OF BULK AT MOST 1048576: true; the input reads as it did. -/
def noteApartUptoRow : OpenClaim := { program := "ytohnlhklijpafaa", sum := "618452906b0accade3de5984e7cb7b45ceff58f01561b42b846a9be340d6da0c", func := "drayage/drayagelaw05.NoteApart", spec := "noteApart", apart := false, narrowed := true }
def NoteApartUptoSaid : Prop := noteApartUptoRow.holds Try.pinned (OpenSpec.upto noteApartSpec)

/-- 'drayagelaw05.NoteNames', WHERE WHAT IT READS IS OF BULK AT MOST 1048576: true; the input reads as it did. -/
def noteNamesUptoRow : OpenClaim := { program := "ytohnlhklijpafaa", sum := "618452906b0accade3de5984e7cb7b45ceff58f01561b42b846a9be340d6da0c", func := "drayage/drayagelaw05.NoteNames", spec := "noteNames", apart := false, narrowed := true }
def NoteNamesUptoSaid : Prop := noteNamesUptoRow.holds Try.pinned (OpenSpec.upto noteNamesSpec)

end Rows
end Go.Proofs.Ytohnlhklijpafaa
