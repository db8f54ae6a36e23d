-- printed by a program of this work (wip/tools/pr.py over the kit's print): the machine's side of ArbiterGap, ArbiterHolds
import Derived.Test.YtgghljienippgaaProg
import Derived.Below
import Derived.Deep.Draws
import Derived.Deep.AppendLies
import Derived.Maps.AppendAt
import Derived.OwnWalk
import Derived.Laws.BytesArg
import Derived.Laws.MakeOwn
import Derived.Laws.OwnMore
import Derived.Deep.OwnRows
import Derived.Tactics
import Derived.Lib.ConvBytes
import Derived.Laws.Slices
import Derived.WalkKit
import Derived.KernelRfl
import Derived.RowKit3
import Derived.Deep.LoopGhost
import Derived.Deep.QuietTactic
import Derived.BigQuiet
import Derived.WideLaws
import Derived.Deep.DeepCutAuto
import Derived.Deep.CutBlock
import Derived.Deep.RegionHeld3
import Derived.Laws.Rows
import Derived.Lib.AppendStr
import Derived.ArgAppend
import Derived.Laws.IdiomCopy
import Derived.OrdersHeld
import Derived.Laws.BitsLemmas
import Derived.RowKit
import Derived.Laws.RangeAny
import Derived.WalkMore
import Derived.RegionTactic
import Derived.ChangeAlike
import Derived.Lib.SlBytesConst
import Derived.MapKept
import Derived.StillTailTactics
import Derived.Test.YtgghljienippgaaQGaWWords
import Derived.Test.YtgghljienippgaaQGaWLast
import Derived.Test.YtgghljienippgaaQGaWTab
import Derived.Test.YtgghljienippgaaQGaWApart
import Derived.Test.YtgghljienippgaaQGaWFoot
import Derived.Test.YtgghljienippgaaQGaWShare
import Derived.Test.YtgghljienippgaaQGaWN
import Derived.Laws.StructEq
import Derived.Test.YtgghljienippgaaQGaWMore
namespace Go.Proofs.Ytgghljienippgaa.PA
open Go.RowKit Go.Proofs.YtgghljienippgaaW.PrintWords Go.Proofs.YtgghljienippgaaW.PrintLast Go.Proofs.YtgghljienippgaaW.PrintMore
attribute [local go_sem] max2_int min2_int max_two min_two max_three min_three max_four min_four   -- for this text's walks alone
set_option linter.unusedVariables false
set_option linter.unusedSimpArgs false

def errW : Option Int → Value
  | none => .nilIface
  | some c => .iface 0 (.int .i64 c)
theorem errW_none : errW none = .nilIface := rfl
theorem errW_some (c : Int) : errW (some c) = .iface 0 (.int .i64 c) := rfl

/-- a box: its cells, and that it lies in the heap -/
def BX (w : World) (g : Nat) (l : List Value) : Prop := (∀ i u, l[i]? = some u → w.cell? ⟨g, i, none⟩ = some u ∧ w.frozen? ⟨g, i, none⟩ = false) ∧ g < w.heap.size

/-- elements and their cells, one by one -/
def RowsK {α : Type} (d : Kd α) (w : World) : List α → List (List Value) → Prop
  | [], [] => True
  | x :: xs, c :: cs => d.K w x c ∧ RowsK d w xs cs
  | _, _ => False

theorem bd1 {w : World} {g : Nat} {o : Obj} (n : Nat) (h : w.heap[g]? = some o) : (w.drewN n).heap[g]? = some o := blk_drewN h n
theorem bd2 {w : World} {g : Nat} {o : Obj} (h : w.heap[g]? = some o) : w.drew.heap[g]? = some o := blk_drew h
theorem bd3 {w : World} {g : Nat} {o : Obj} (x : Obj) (h : w.heap[g]? = some o) : (w.alloc x).heap[g]? = some o := blk_alloc h x
theorem blk_all4 {w : World} {g : Nat} {a0 a1 a2 a3 : Value} {t : TypeId} (h : w.heap[g]? = some (.cells #[a0, a1, a2, a3] t (0, 0))) : w.cell? ⟨g, 0, none⟩ = some a0 ∧ w.cell? ⟨g, 1, none⟩ = some a1 ∧ w.cell? ⟨g, 2, none⟩ = some a2 ∧ w.cell? ⟨g, 3, none⟩ = some a3 ∧ w.frozen? ⟨g, 0, none⟩ = false ∧ w.frozen? ⟨g, 1, none⟩ = false ∧ w.frozen? ⟨g, 2, none⟩ = false ∧ w.frozen? ⟨g, 3, none⟩ = false := ⟨(blk_cell h 0).trans rfl, (blk_cell h 1).trans rfl, (blk_cell h 2).trans rfl, (blk_cell h 3).trans rfl, blk_frozen h 0, blk_frozen h 1, blk_frozen h 2, blk_frozen h 3⟩
theorem blk_all11 {w : World} {g : Nat} {a0 a1 a2 a3 a4 a5 a6 a7 a8 a9 a10 : Value} {t : TypeId} (h : w.heap[g]? = some (.cells #[a0, a1, a2, a3, a4, a5, a6, a7, a8, a9, a10] t (0, 0))) : w.cell? ⟨g, 0, none⟩ = some a0 ∧ w.cell? ⟨g, 1, none⟩ = some a1 ∧ w.cell? ⟨g, 2, none⟩ = some a2 ∧ w.cell? ⟨g, 3, none⟩ = some a3 ∧ w.cell? ⟨g, 4, none⟩ = some a4 ∧ w.cell? ⟨g, 5, none⟩ = some a5 ∧ w.cell? ⟨g, 6, none⟩ = some a6 ∧ w.cell? ⟨g, 7, none⟩ = some a7 ∧ w.cell? ⟨g, 8, none⟩ = some a8 ∧ w.cell? ⟨g, 9, none⟩ = some a9 ∧ w.cell? ⟨g, 10, none⟩ = some a10 ∧ w.frozen? ⟨g, 0, none⟩ = false ∧ w.frozen? ⟨g, 1, none⟩ = false ∧ w.frozen? ⟨g, 2, none⟩ = false ∧ w.frozen? ⟨g, 3, none⟩ = false ∧ w.frozen? ⟨g, 4, none⟩ = false ∧ w.frozen? ⟨g, 5, none⟩ = false ∧ w.frozen? ⟨g, 6, none⟩ = false ∧ w.frozen? ⟨g, 7, none⟩ = false ∧ w.frozen? ⟨g, 8, none⟩ = false ∧ w.frozen? ⟨g, 9, none⟩ = false ∧ w.frozen? ⟨g, 10, none⟩ = false := ⟨(blk_cell h 0).trans rfl, (blk_cell h 1).trans rfl, (blk_cell h 2).trans rfl, (blk_cell h 3).trans rfl, (blk_cell h 4).trans rfl, (blk_cell h 5).trans rfl, (blk_cell h 6).trans rfl, (blk_cell h 7).trans rfl, (blk_cell h 8).trans rfl, (blk_cell h 9).trans rfl, (blk_cell h 10).trans rfl, blk_frozen h 0, blk_frozen h 1, blk_frozen h 2, blk_frozen h 3, blk_frozen h 4, blk_frozen h 5, blk_frozen h 6, blk_frozen h 7, blk_frozen h 8, blk_frozen h 9, blk_frozen h 10⟩
-- the values' own types

end Go.Proofs.Ytgghljienippgaa.PA
