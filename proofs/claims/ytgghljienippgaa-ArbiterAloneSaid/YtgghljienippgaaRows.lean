/-
  No cell of these rows narrows 'for every input' (looked for: loops, veiled, ifaces, maps, wideKeys, modest, calm, conditions, laid).
  DERIVED. THE GIVEN ROWS OF THIS SEAT. 7 by the template 'for every input the law returns true; each argument reads behind the call as it read before'; 0 by the template 'total and deterministic' (their statements: YtgghljienippgaaTotals.lean).
  GIVEN WITH THE SEED: the statements are not yours to turn. If you find one false, say at which input.
  Laid BY PROGRAM, IN A SANDBOX (cutbox-rows.mjs): the forced cells as the released guide's own fill.sh prints them over the translation 1193b4ac8eb372da… (all of the seat's roots in one cut). By AI agents, Wed Nov 11 2026. No macro, syntax, notation, axiom, sorry.
-/
import Derived.Test.YtgghljienippgaaChecked
import GoSem.Claim
import GoSem.ClaimJoined
import GoSem.ClaimMapViews
import Derived.JoinedTies
import Derived.KernelRfl
namespace Go.Proofs.Ytgghljienippgaa
/- THE CELL 'sum', in the pinned program and in every row, IS THE sha256 OF THE DUMP (.gsa) THAT YtgghljienippgaaProg.lean LOADS. Nothing in Lean hashes anything: it is a label: what it is worth is what the hold of that sum in a sandbox is worth. -/
noncomputable def Try.pinned : Pinned := { name := "ytgghljienippgaa", sum := "1193b4ac8eb372dadd2af9e61097421c90276f2b4e0376d6bd1d9aa07992b0d8", checked := Try.checked }
namespace Rows
def none {H : Type} : Left H := { results := [], args := [] }

/-- 'drayagelaw17.ArbiterGap': WHATEVER THE INPUT: true; the input reads as it did. -/
def arbiterGapSpec : ChangeSpec := { name := "arbiterGap", fn := fun _ => fun
  | [d1, d2, d3, d4, d5] => { results := [.lit (.bool true)], args := [d1, d2, d3, d4, d5] }
  | _ => none }
def arbiterGapRow : OpenClaim := { program := "ytgghljienippgaa", sum := "1193b4ac8eb372dadd2af9e61097421c90276f2b4e0376d6bd1d9aa07992b0d8", func := "drayage/drayagelaw17.ArbiterGap", spec := "arbiterGap", apart := false }
def ArbiterGapSaid : Prop := arbiterGapRow.holds Try.pinned (OpenSpec.ofChange arbiterGapSpec)

/-- ITS FALSE NEIGHBOUR: 'it returns false'. Refute it at one input. -/
def arbiterGapWrong : ChangeSpec := { name := "arbiterGap", fn := fun _ => fun
  | [d1, d2, d3, d4, d5] => { results := [.lit (.bool false)], args := [d1, d2, d3, d4, d5] }
  | _ => none }
def ArbiterGapWrongFalsely : Prop := arbiterGapRow.holds Try.pinned (OpenSpec.ofChange arbiterGapWrong)

/-- 'drayagelaw17.ArbiterHolds': WHATEVER THE INPUT: true; the input reads as it did. -/
def arbiterHoldsSpec : ChangeSpec := { name := "arbiterHolds", fn := fun _ => fun
  | [d1, d2] => { results := [.lit (.bool true)], args := [d1, d2] }
  | _ => none }
def arbiterHoldsRow : OpenClaim := { program := "ytgghljienippgaa", sum := "1193b4ac8eb372dadd2af9e61097421c90276f2b4e0376d6bd1d9aa07992b0d8", func := "drayage/drayagelaw17.ArbiterHolds", spec := "arbiterHolds", apart := false }
def ArbiterHoldsSaid : Prop := arbiterHoldsRow.holds Try.pinned (OpenSpec.ofChange arbiterHoldsSpec)

/-- ITS FALSE NEIGHBOUR: 'it returns false'. Refute it at one input. -/
def arbiterHoldsWrong : ChangeSpec := { name := "arbiterHolds", fn := fun _ => fun
  | [d1, d2] => { results := [.lit (.bool false)], args := [d1, d2] }
  | _ => none }
def ArbiterHoldsWrongFalsely : Prop := arbiterHoldsRow.holds Try.pinned (OpenSpec.ofChange arbiterHoldsWrong)

/-- 'drayagelaw17.ArbiterSolo': WHATEVER THE INPUT: true; the input reads as it did. -/
def arbiterSoloSpec : ChangeSpec := { name := "arbiterSolo", fn := fun _ => fun
  | [d1, d2, d3] => { results := [.lit (.bool true)], args := [d1, d2, d3] }
  | _ => none }
def arbiterSoloRow : OpenClaim := { program := "ytgghljienippgaa", sum := "1193b4ac8eb372dadd2af9e61097421c90276f2b4e0376d6bd1d9aa07992b0d8", func := "drayage/drayagelaw17.ArbiterSolo", spec := "arbiterSolo", apart := false }
def ArbiterSoloSaid : Prop := arbiterSoloRow.holds Try.pinned (OpenSpec.ofChange arbiterSoloSpec)

/-- ITS FALSE NEIGHBOUR: 'it returns false'. Refute it at one input. -/
def arbiterSoloWrong : ChangeSpec := { name := "arbiterSolo", fn := fun _ => fun
  | [d1, d2, d3] => { results := [.lit (.bool false)], args := [d1, d2, d3] }
  | _ => none }
def ArbiterSoloWrongFalsely : Prop := arbiterSoloRow.holds Try.pinned (OpenSpec.ofChange arbiterSoloWrong)

/-- 'drayagelaw17.ArbiterServes': WHATEVER THE INPUT: true; the input reads as it did. -/
def arbiterServesSpec : ChangeSpec := { name := "arbiterServes", fn := fun _ => fun
  | [d1, d2, d3] => { results := [.lit (.bool true)], args := [d1, d2, d3] }
  | _ => none }
def arbiterServesRow : OpenClaim := { program := "ytgghljienippgaa", sum := "1193b4ac8eb372dadd2af9e61097421c90276f2b4e0376d6bd1d9aa07992b0d8", func := "drayage/drayagelaw17.ArbiterServes", spec := "arbiterServes", apart := false }
def ArbiterServesSaid : Prop := arbiterServesRow.holds Try.pinned (OpenSpec.ofChange arbiterServesSpec)

/-- ITS FALSE NEIGHBOUR: 'it returns false'. Refute it at one input. -/
def arbiterServesWrong : ChangeSpec := { name := "arbiterServes", fn := fun _ => fun
  | [d1, d2, d3] => { results := [.lit (.bool false)], args := [d1, d2, d3] }
  | _ => none }
def ArbiterServesWrongFalsely : Prop := arbiterServesRow.holds Try.pinned (OpenSpec.ofChange arbiterServesWrong)

/-- 'drayagelaw17.ArbiterEpochs': WHATEVER THE INPUT: true; the input reads as it did. -/
def arbiterEpochsSpec : ChangeSpec := { name := "arbiterEpochs", fn := fun _ => fun
  | [d] => { results := [.lit (.bool true)], args := [d] }
  | _ => none }
def arbiterEpochsRow : OpenClaim := { program := "ytgghljienippgaa", sum := "1193b4ac8eb372dadd2af9e61097421c90276f2b4e0376d6bd1d9aa07992b0d8", func := "drayage/drayagelaw17.ArbiterEpochs", spec := "arbiterEpochs", apart := false }
def ArbiterEpochsSaid : Prop := arbiterEpochsRow.holds Try.pinned (OpenSpec.ofChange arbiterEpochsSpec)

/-- ITS FALSE NEIGHBOUR: 'it returns false'. Refute it at one input. -/
def arbiterEpochsWrong : ChangeSpec := { name := "arbiterEpochs", fn := fun _ => fun
  | [d] => { results := [.lit (.bool false)], args := [d] }
  | _ => none }
def ArbiterEpochsWrongFalsely : Prop := arbiterEpochsRow.holds Try.pinned (OpenSpec.ofChange arbiterEpochsWrong)

/-- 'drayagelaw17.ArbiterLoads': WHATEVER THE INPUT: true; the input reads as it did. -/
def arbiterLoadsSpec : ChangeSpec := { name := "arbiterLoads", fn := fun _ => fun
  | [d1, d2, d3, d4, d5] => { results := [.lit (.bool true)], args := [d1, d2, d3, d4, d5] }
  | _ => none }
def arbiterLoadsRow : OpenClaim := { program := "ytgghljienippgaa", sum := "1193b4ac8eb372dadd2af9e61097421c90276f2b4e0376d6bd1d9aa07992b0d8", func := "drayage/drayagelaw17.ArbiterLoads", spec := "arbiterLoads", apart := false }
def ArbiterLoadsSaid : Prop := arbiterLoadsRow.holds Try.pinned (OpenSpec.ofChange arbiterLoadsSpec)

/-- ITS FALSE NEIGHBOUR: 'it returns false'. Refute it at one input. -/
def arbiterLoadsWrong : ChangeSpec := { name := "arbiterLoads", fn := fun _ => fun
  | [d1, d2, d3, d4, d5] => { results := [.lit (.bool false)], args := [d1, d2, d3, d4, d5] }
  | _ => none }
def ArbiterLoadsWrongFalsely : Prop := arbiterLoadsRow.holds Try.pinned (OpenSpec.ofChange arbiterLoadsWrong)

/-- 'drayagelaw17.ArbiterAlone': WHATEVER THE INPUT: true; the input reads as it did. -/
def arbiterAloneSpec : ChangeSpec := { name := "arbiterAlone", fn := fun _ => fun
  | [d1, d2, d3] => { results := [.lit (.bool true)], args := [d1, d2, d3] }
  | _ => none }
def arbiterAloneRow : OpenClaim := { program := "ytgghljienippgaa", sum := "1193b4ac8eb372dadd2af9e61097421c90276f2b4e0376d6bd1d9aa07992b0d8", func := "drayage/drayagelaw17.ArbiterAlone", spec := "arbiterAlone", apart := false }
def ArbiterAloneSaid : Prop := arbiterAloneRow.holds Try.pinned (OpenSpec.ofChange arbiterAloneSpec)

/-- ITS FALSE NEIGHBOUR: 'it returns false'. Refute it at one input. -/
def arbiterAloneWrong : ChangeSpec := { name := "arbiterAlone", fn := fun _ => fun
  | [d1, d2, d3] => { results := [.lit (.bool false)], args := [d1, d2, d3] }
  | _ => none }
def ArbiterAloneWrongFalsely : Prop := arbiterAloneRow.holds Try.pinned (OpenSpec.ofChange arbiterAloneWrong)

/- THE SECOND FORM. 'bulk': how many values and letters a reading holds, each counted each time it is reached (what is shared counts as often as it is met; a slice's spare places count too). A statement '..UptoSaid' is the law's where the arguments, and the package variables that the reading takes, are together of bulk at most 1048576: NARROWER than '..Said'. Prove '..Said' where nothing that the law and all that it calls make is longer than what came in: it says more and counts as full. Else prove '..UptoSaid'. A law counts once. -/
mutual
def uptoBulk {H : Type} : DataW H → Nat
  | .lit (.string bytes) => bytes.length + 1
  | .lit _ => 1
  | .nil => 1
  | .ptr d => uptoBulk d + 1
  | .slice elems spare => uptoBulkAll elems + uptoBulkAll spare + 1
  | .agg parts => uptoBulkAll parts + 1
  | .iface _ d => uptoBulk d + 1
  | .map entries => uptoBulkEntries entries + 1
  | .held _ => 1
def uptoBulkAll {H : Type} : List (DataW H) → Nat
  | [] => 0
  | d :: r => uptoBulk d + uptoBulkAll r
def uptoBulkEntries {H : Type} : List (Lit × DataW H) → Nat
  | [] => 0
  | x :: r => uptoBulkEntry x + uptoBulkEntries r
def uptoBulkEntry {H : Type} : Lit × DataW H → Nat
  | (.string bytes, d) => bytes.length + uptoBulk d + 1
  | (_, d) => uptoBulk d + 1
 end
def uptoSmall : (H : Type) → List (DataW H) → Bool := fun _ ds => decide (uptoBulkAll ds ≤ 1048576)
def OpenSpec.upto (s : _root_.Go.ChangeSpec) : _root_.Go.OpenSpec := { _root_.Go.OpenSpec.ofChange s with cond := some uptoSmall }

/-- 'drayagelaw17.ArbiterGap', WHERE WHAT IT READS IS OF BULK AT MOST 1048576: true; the input reads as it did. -/
def arbiterGapUptoRow : OpenClaim := { program := "ytgghljienippgaa", sum := "1193b4ac8eb372dadd2af9e61097421c90276f2b4e0376d6bd1d9aa07992b0d8", func := "drayage/drayagelaw17.ArbiterGap", spec := "arbiterGap", apart := false, narrowed := true }
def ArbiterGapUptoSaid : Prop := arbiterGapUptoRow.holds Try.pinned (OpenSpec.upto arbiterGapSpec)

/-- 'drayagelaw17.ArbiterHolds', WHERE WHAT IT READS IS OF BULK AT MOST 1048576: true; the input reads as it did. -/
def arbiterHoldsUptoRow : OpenClaim := { program := "ytgghljienippgaa", sum := "1193b4ac8eb372dadd2af9e61097421c90276f2b4e0376d6bd1d9aa07992b0d8", func := "drayage/drayagelaw17.ArbiterHolds", spec := "arbiterHolds", apart := false, narrowed := true }
def ArbiterHoldsUptoSaid : Prop := arbiterHoldsUptoRow.holds Try.pinned (OpenSpec.upto arbiterHoldsSpec)

/-- 'drayagelaw17.ArbiterSolo', WHERE WHAT IT READS IS OF BULK AT MOST 1048576: true; the input reads as it did. -/
def arbiterSoloUptoRow : OpenClaim := { program := "ytgghljienippgaa", sum := "1193b4ac8eb372dadd2af9e61097421c90276f2b4e0376d6bd1d9aa07992b0d8", func := "drayage/drayagelaw17.ArbiterSolo", spec := "arbiterSolo", apart := false, narrowed := true }
def ArbiterSoloUptoSaid : Prop := arbiterSoloUptoRow.holds Try.pinned (OpenSpec.upto arbiterSoloSpec)

/-- 'drayagelaw17.ArbiterServes', WHERE WHAT IT READS IS OF BULK AT MOST 1048576: true; the input reads as it did. -/
def arbiterServesUptoRow : OpenClaim := { program := "ytgghljienippgaa", sum := "1193b4ac8eb372dadd2af9e61097421c90276f2b4e0376d6bd1d9aa07992b0d8", func := "drayage/drayagelaw17.ArbiterServes", spec := "arbiterServes", apart := false, narrowed := true }
def ArbiterServesUptoSaid : Prop := arbiterServesUptoRow.holds Try.pinned (OpenSpec.upto arbiterServesSpec)

/-- 'drayagelaw17.ArbiterEpochs', WHERE WHAT IT READS IS OF BULK AT MOST 1048576: true; the input reads as it did. -/
def arbiterEpochsUptoRow : OpenClaim := { program := "ytgghljienippgaa", sum := "1193b4ac8eb372dadd2af9e61097421c90276f2b4e0376d6bd1d9aa07992b0d8", func := "drayage/drayagelaw17.ArbiterEpochs", spec := "arbiterEpochs", apart := false, narrowed := true }
def ArbiterEpochsUptoSaid : Prop := arbiterEpochsUptoRow.holds Try.pinned (OpenSpec.upto arbiterEpochsSpec)

/-- 'drayagelaw17.ArbiterLoads', WHERE WHAT IT READS IS OF BULK AT MOST 1048576: true; the input reads as it did. -/
def arbiterLoadsUptoRow : OpenClaim := { program := "ytgghljienippgaa", sum := "1193b4ac8eb372dadd2af9e61097421c90276f2b4e0376d6bd1d9aa07992b0d8", func := "drayage/drayagelaw17.ArbiterLoads", spec := "arbiterLoads", apart := false, narrowed := true }
def ArbiterLoadsUptoSaid : Prop := arbiterLoadsUptoRow.holds Try.pinned (OpenSpec.upto arbiterLoadsSpec)

/-- 'drayagelaw17.ArbiterAlone', WHERE WHAT IT READS IS OF BULK AT MOST 1048576: true; the input reads as it did. -/
def arbiterAloneUptoRow : OpenClaim := { program := "ytgghljienippgaa", sum := "1193b4ac8eb372dadd2af9e61097421c90276f2b4e0376d6bd1d9aa07992b0d8", func := "drayage/drayagelaw17.ArbiterAlone", spec := "arbiterAlone", apart := false, narrowed := true }
def ArbiterAloneUptoSaid : Prop := arbiterAloneUptoRow.holds Try.pinned (OpenSpec.upto arbiterAloneSpec)

end Rows
end Go.Proofs.Ytgghljienippgaa
