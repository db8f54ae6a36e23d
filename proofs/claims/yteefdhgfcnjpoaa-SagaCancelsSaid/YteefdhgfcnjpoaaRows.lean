/-
  No cell of these rows narrows 'for every input' (looked for: loops, veiled, ifaces, maps, wideKeys, modest, calm, conditions, laid).
  DERIVED. THE GIVEN ROWS OF THIS SEAT. 7 by the template 'for every input the law returns true; each argument reads behind the call as it read before'; 0 by the template 'total and deterministic' (their statements: YteefdhgfcnjpoaaTotals.lean).
  GIVEN WITH THE SEED: the statements are not yours to turn. If you find one false, say at which input.
  Laid BY PROGRAM, IN A SANDBOX (cutbox-rows.mjs): the forced cells as the released guide's own fill.sh prints them over the translation d52523505d49c95a… (all of the seat's roots in one cut). By AI agents, Wed Nov 11 2026. No macro, syntax, notation, axiom, sorry.
-/
import Derived.Test.YteefdhgfcnjpoaaChecked
import GoSem.Claim
import GoSem.ClaimJoined
import GoSem.ClaimMapViews
import Derived.JoinedTies
import Derived.KernelRfl
namespace Go.Proofs.Yteefdhgfcnjpoaa
/- THE CELL 'sum', in the pinned program and in every row, IS THE sha256 OF THE DUMP (.gsa) THAT YteefdhgfcnjpoaaProg.lean LOADS. Nothing in Lean hashes anything: it is a label: what it is worth is what the hold of that sum in a sandbox is worth. -/
noncomputable def Try.pinned : Pinned := { name := "yteefdhgfcnjpoaa", sum := "d52523505d49c95a6a3d5d9b67cb5d93b6776ac9caf080bd7e4b7e094202833e", checked := Try.checked }
namespace Rows
def none {H : Type} : Left H := { results := [], args := [] }

/-- 'drayagelaw14.SagaTries': WHATEVER THE INPUT: true; the input reads as it did. -/
def sagaTriesSpec : ChangeSpec := { name := "sagaTries", fn := fun _ => fun
  | [d1, d2] => { results := [.lit (.bool true)], args := [d1, d2] }
  | _ => none }
def sagaTriesRow : OpenClaim := { program := "yteefdhgfcnjpoaa", sum := "d52523505d49c95a6a3d5d9b67cb5d93b6776ac9caf080bd7e4b7e094202833e", func := "drayage/drayagelaw14.SagaTries", spec := "sagaTries", apart := false }
def SagaTriesSaid : Prop := sagaTriesRow.holds Try.pinned (OpenSpec.ofChange sagaTriesSpec)

/-- ITS FALSE NEIGHBOUR: 'it returns false'. Refute it at one input. -/
def sagaTriesWrong : ChangeSpec := { name := "sagaTries", fn := fun _ => fun
  | [d1, d2] => { results := [.lit (.bool false)], args := [d1, d2] }
  | _ => none }
def SagaTriesWrongFalsely : Prop := sagaTriesRow.holds Try.pinned (OpenSpec.ofChange sagaTriesWrong)

/-- 'drayagelaw14.SagaMoves': WHATEVER THE INPUT: true; the input reads as it did. -/
def sagaMovesSpec : ChangeSpec := { name := "sagaMoves", fn := fun _ => fun
  | [d1, d2, d3, d4, d5] => { results := [.lit (.bool true)], args := [d1, d2, d3, d4, d5] }
  | _ => none }
def sagaMovesRow : OpenClaim := { program := "yteefdhgfcnjpoaa", sum := "d52523505d49c95a6a3d5d9b67cb5d93b6776ac9caf080bd7e4b7e094202833e", func := "drayage/drayagelaw14.SagaMoves", spec := "sagaMoves", apart := false }
def SagaMovesSaid : Prop := sagaMovesRow.holds Try.pinned (OpenSpec.ofChange sagaMovesSpec)

/-- ITS FALSE NEIGHBOUR: 'it returns false'. Refute it at one input. -/
def sagaMovesWrong : ChangeSpec := { name := "sagaMoves", fn := fun _ => fun
  | [d1, d2, d3, d4, d5] => { results := [.lit (.bool false)], args := [d1, d2, d3, d4, d5] }
  | _ => none }
def SagaMovesWrongFalsely : Prop := sagaMovesRow.holds Try.pinned (OpenSpec.ofChange sagaMovesWrong)

/-- 'drayagelaw14.SagaStays': WHATEVER THE INPUT: true; the input reads as it did. -/
def sagaStaysSpec : ChangeSpec := { name := "sagaStays", fn := fun _ => fun
  | [d1, d2] => { results := [.lit (.bool true)], args := [d1, d2] }
  | _ => none }
def sagaStaysRow : OpenClaim := { program := "yteefdhgfcnjpoaa", sum := "d52523505d49c95a6a3d5d9b67cb5d93b6776ac9caf080bd7e4b7e094202833e", func := "drayage/drayagelaw14.SagaStays", spec := "sagaStays", apart := false }
def SagaStaysSaid : Prop := sagaStaysRow.holds Try.pinned (OpenSpec.ofChange sagaStaysSpec)

/-- ITS FALSE NEIGHBOUR: 'it returns false'. Refute it at one input. -/
def sagaStaysWrong : ChangeSpec := { name := "sagaStays", fn := fun _ => fun
  | [d1, d2] => { results := [.lit (.bool false)], args := [d1, d2] }
  | _ => none }
def SagaStaysWrongFalsely : Prop := sagaStaysRow.holds Try.pinned (OpenSpec.ofChange sagaStaysWrong)

/-- 'drayagelaw14.SagaOrder': WHATEVER THE INPUT: true; the input reads as it did. -/
def sagaOrderSpec : ChangeSpec := { name := "sagaOrder", fn := fun _ => fun
  | [d1, d2] => { results := [.lit (.bool true)], args := [d1, d2] }
  | _ => none }
def sagaOrderRow : OpenClaim := { program := "yteefdhgfcnjpoaa", sum := "d52523505d49c95a6a3d5d9b67cb5d93b6776ac9caf080bd7e4b7e094202833e", func := "drayage/drayagelaw14.SagaOrder", spec := "sagaOrder", apart := false }
def SagaOrderSaid : Prop := sagaOrderRow.holds Try.pinned (OpenSpec.ofChange sagaOrderSpec)

/-- ITS FALSE NEIGHBOUR: 'it returns false'. Refute it at one input. -/
def sagaOrderWrong : ChangeSpec := { name := "sagaOrder", fn := fun _ => fun
  | [d1, d2] => { results := [.lit (.bool false)], args := [d1, d2] }
  | _ => none }
def SagaOrderWrongFalsely : Prop := sagaOrderRow.holds Try.pinned (OpenSpec.ofChange sagaOrderWrong)

/-- 'drayagelaw14.SagaEnds': WHATEVER THE INPUT: true; the input reads as it did. -/
def sagaEndsSpec : ChangeSpec := { name := "sagaEnds", fn := fun _ => fun
  | [d1, d2, d3] => { results := [.lit (.bool true)], args := [d1, d2, d3] }
  | _ => none }
def sagaEndsRow : OpenClaim := { program := "yteefdhgfcnjpoaa", sum := "d52523505d49c95a6a3d5d9b67cb5d93b6776ac9caf080bd7e4b7e094202833e", func := "drayage/drayagelaw14.SagaEnds", spec := "sagaEnds", apart := false }
def SagaEndsSaid : Prop := sagaEndsRow.holds Try.pinned (OpenSpec.ofChange sagaEndsSpec)

/-- ITS FALSE NEIGHBOUR: 'it returns false'. Refute it at one input. -/
def sagaEndsWrong : ChangeSpec := { name := "sagaEnds", fn := fun _ => fun
  | [d1, d2, d3] => { results := [.lit (.bool false)], args := [d1, d2, d3] }
  | _ => none }
def SagaEndsWrongFalsely : Prop := sagaEndsRow.holds Try.pinned (OpenSpec.ofChange sagaEndsWrong)

/-- 'drayagelaw14.SagaTicks': WHATEVER THE INPUT: true; the input reads as it did. -/
def sagaTicksSpec : ChangeSpec := { name := "sagaTicks", fn := fun _ => fun
  | [d1, d2, d3] => { results := [.lit (.bool true)], args := [d1, d2, d3] }
  | _ => none }
def sagaTicksRow : OpenClaim := { program := "yteefdhgfcnjpoaa", sum := "d52523505d49c95a6a3d5d9b67cb5d93b6776ac9caf080bd7e4b7e094202833e", func := "drayage/drayagelaw14.SagaTicks", spec := "sagaTicks", apart := false }
def SagaTicksSaid : Prop := sagaTicksRow.holds Try.pinned (OpenSpec.ofChange sagaTicksSpec)

/-- ITS FALSE NEIGHBOUR: 'it returns false'. Refute it at one input. -/
def sagaTicksWrong : ChangeSpec := { name := "sagaTicks", fn := fun _ => fun
  | [d1, d2, d3] => { results := [.lit (.bool false)], args := [d1, d2, d3] }
  | _ => none }
def SagaTicksWrongFalsely : Prop := sagaTicksRow.holds Try.pinned (OpenSpec.ofChange sagaTicksWrong)

/-- 'drayagelaw14.SagaCancels': WHATEVER THE INPUT: true; the input reads as it did. -/
def sagaCancelsSpec : ChangeSpec := { name := "sagaCancels", fn := fun _ => fun
  | [d1, d2, d3] => { results := [.lit (.bool true)], args := [d1, d2, d3] }
  | _ => none }
def sagaCancelsRow : OpenClaim := { program := "yteefdhgfcnjpoaa", sum := "d52523505d49c95a6a3d5d9b67cb5d93b6776ac9caf080bd7e4b7e094202833e", func := "drayage/drayagelaw14.SagaCancels", spec := "sagaCancels", apart := false }
def SagaCancelsSaid : Prop := sagaCancelsRow.holds Try.pinned (OpenSpec.ofChange sagaCancelsSpec)

/-- ITS FALSE NEIGHBOUR: 'it returns false'. Refute it at one input. -/
def sagaCancelsWrong : ChangeSpec := { name := "sagaCancels", fn := fun _ => fun
  | [d1, d2, d3] => { results := [.lit (.bool false)], args := [d1, d2, d3] }
  | _ => none }
def SagaCancelsWrongFalsely : Prop := sagaCancelsRow.holds Try.pinned (OpenSpec.ofChange sagaCancelsWrong)

/- THE SECOND FORM. 'bulk': how many values and letters a reading holds, each counted each time it is reached (what is shared counts as often as it is met; a slice's spare places count too). A statement '..UptoSaid' is the law's where the arguments, and the package variables that the reading takes, are together of bulk at most 1048576: NARROWER than '..Said'. Prove '..Said' where nothing that the law and all that it calls make is longer than what came in: it says more and counts as full. Else prove '..UptoSaid'. A law counts once. -/
mutual
def uptoBulk {H : Type} : DataW H → Nat
  | .lit (.string bytes) => bytes.length + 1
  | .lit _ => 1
  | .nil => 1
  | .ptr d => uptoBulk d + 1
  | .slice elems spare => uptoBulkAll elems + uptoBulkAll spare + 1
  | .agg parts => uptoBulkAll parts + 1
  | .iface _ d => uptoBulk d + 1
  | .map entries => uptoBulkEntries entries + 1
  | .held _ => 1
def uptoBulkAll {H : Type} : List (DataW H) → Nat
  | [] => 0
  | d :: r => uptoBulk d + uptoBulkAll r
def uptoBulkEntries {H : Type} : List (Lit × DataW H) → Nat
  | [] => 0
  | x :: r => uptoBulkEntry x + uptoBulkEntries r
def uptoBulkEntry {H : Type} : Lit × DataW H → Nat
  | (.string bytes, d) => bytes.length + uptoBulk d + 1
  | (_, d) => uptoBulk d + 1
 end
def uptoSmall : (H : Type) → List (DataW H) → Bool := fun _ ds => decide (uptoBulkAll ds ≤ 1048576)
def OpenSpec.upto (s : _root_.Go.ChangeSpec) : _root_.Go.OpenSpec := { _root_.Go.OpenSpec.ofChange s with cond := some uptoSmall }

/-- 'drayagelaw14.SagaTries', WHERE WHAT IT READS IS OF BULK AT MOST 1048576: true; the input reads as it did. -/
def sagaTriesUptoRow : OpenClaim := { program := "yteefdhgfcnjpoaa", sum := "d52523505d49c95a6a3d5d9b67cb5d93b6776ac9caf080bd7e4b7e094202833e", func := "drayage/drayagelaw14.SagaTries", spec := "sagaTries", apart := false, narrowed := true }
def SagaTriesUptoSaid : Prop := sagaTriesUptoRow.holds Try.pinned (OpenSpec.upto sagaTriesSpec)

/-- 'drayagelaw14.SagaMoves', WHERE WHAT IT READS IS OF BULK AT MOST 1048576: true; the input reads as it did. -/
def sagaMovesUptoRow : OpenClaim := { program := "yteefdhgfcnjpoaa", sum := "d52523505d49c95a6a3d5d9b67cb5d93b6776ac9caf080bd7e4b7e094202833e", func := "drayage/drayagelaw14.SagaMoves", spec := "sagaMoves", apart := false, narrowed := true }
def SagaMovesUptoSaid : Prop := sagaMovesUptoRow.holds Try.pinned (OpenSpec.upto sagaMovesSpec)

/-- 'drayagelaw14.SagaStays', WHERE WHAT IT READS IS OF BULK AT MOST 1048576: true; the input reads as it did. -/
def sagaStaysUptoRow : OpenClaim := { program := "yteefdhgfcnjpoaa", sum := "d52523505d49c95a6a3d5d9b67cb5d93b6776ac9caf080bd7e4b7e094202833e", func := "drayage/drayagelaw14.SagaStays", spec := "sagaStays", apart := false, narrowed := true }
def SagaStaysUptoSaid : Prop := sagaStaysUptoRow.holds Try.pinned (OpenSpec.upto sagaStaysSpec)

/-- 'drayagelaw14.SagaOrder', WHERE WHAT IT READS IS OF BULK AT MOST 1048576: true; the input reads as it did. -/
def sagaOrderUptoRow : OpenClaim := { program := "yteefdhgfcnjpoaa", sum := "d52523505d49c95a6a3d5d9b67cb5d93b6776ac9caf080bd7e4b7e094202833e", func := "drayage/drayagelaw14.SagaOrder", spec := "sagaOrder", apart := false, narrowed := true }
def SagaOrderUptoSaid : Prop := sagaOrderUptoRow.holds Try.pinned (OpenSpec.upto sagaOrderSpec)

/-- 'drayagelaw14.SagaEnds', WHERE WHAT IT READS IS OF BULK AT MOST 1048576: true; the input reads as it did. -/
def sagaEndsUptoRow : OpenClaim := { program := "yteefdhgfcnjpoaa", sum := "d52523505d49c95a6a3d5d9b67cb5d93b6776ac9caf080bd7e4b7e094202833e", func := "drayage/drayagelaw14.SagaEnds", spec := "sagaEnds", apart := false, narrowed := true }
def SagaEndsUptoSaid : Prop := sagaEndsUptoRow.holds Try.pinned (OpenSpec.upto sagaEndsSpec)

/-- 'drayagelaw14.SagaTicks', WHERE WHAT IT READS IS OF BULK AT MOST 1048576: true; the input reads as it did. -/
def sagaTicksUptoRow : OpenClaim := { program := "yteefdhgfcnjpoaa", sum := "d52523505d49c95a6a3d5d9b67cb5d93b6776ac9caf080bd7e4b7e094202833e", func := "drayage/drayagelaw14.SagaTicks", spec := "sagaTicks", apart := false, narrowed := true }
def SagaTicksUptoSaid : Prop := sagaTicksUptoRow.holds Try.pinned (OpenSpec.upto sagaTicksSpec)

/-- 'drayagelaw14.SagaCancels', WHERE WHAT IT READS IS OF BULK AT MOST 1048576: true; the input reads as it did. -/
def sagaCancelsUptoRow : OpenClaim := { program := "yteefdhgfcnjpoaa", sum := "d52523505d49c95a6a3d5d9b67cb5d93b6776ac9caf080bd7e4b7e094202833e", func := "drayage/drayagelaw14.SagaCancels", spec := "sagaCancels", apart := false, narrowed := true }
def SagaCancelsUptoSaid : Prop := sagaCancelsUptoRow.holds Try.pinned (OpenSpec.upto sagaCancelsSpec)

end Rows
end Go.Proofs.Yteefdhgfcnjpoaa
