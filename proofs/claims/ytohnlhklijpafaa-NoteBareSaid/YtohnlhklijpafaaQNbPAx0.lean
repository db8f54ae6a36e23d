-- printed by a program of this work (wip/tools/pr.py over the kit's print): the machine's side of NoteBack, NoteSizes, NoteApart, NoteNames
import Derived.Test.YtohnlhklijpafaaProg
import Derived.Below
import Derived.Deep.Draws
import Derived.Deep.AppendLies
import Derived.Maps.AppendAt
import Derived.OwnWalk
import Derived.Laws.BytesArg
import Derived.Laws.MakeOwn
import Derived.Laws.OwnMore
import Derived.Deep.OwnRows
import Derived.Tactics
import Derived.Lib.ConvBytes
import Derived.Laws.Slices
import Derived.WalkKit
import Derived.KernelRfl
import Derived.RowKit3
import Derived.Deep.LoopGhost
import Derived.Deep.QuietTactic
import Derived.BigQuiet
import Derived.WideLaws
import Derived.Deep.DeepCutAuto
import Derived.Deep.CutBlock
import Derived.Deep.RegionHeld3
import Derived.Laws.Rows
import Derived.Lib.AppendStr
import Derived.ArgAppend
import Derived.Laws.IdiomCopy
import Derived.OrdersHeld
import Derived.Laws.BitsLemmas
import Derived.RowKit
import Derived.Laws.RangeAny
import Derived.WalkMore
import Derived.RegionTactic
import Derived.ChangeAlike
import Derived.Lib.SlBytesConst
import Derived.MapKept
import Derived.StillTailTactics
import Derived.Test.YtohnlhklijpafaaQNbWWords
import Derived.Test.YtohnlhklijpafaaQNbWLast
import Derived.Test.YtohnlhklijpafaaQNbWTab
import Derived.Test.YtohnlhklijpafaaQNbWApart
import Derived.Test.YtohnlhklijpafaaQNbWFoot
import Derived.Test.YtohnlhklijpafaaQNbWShare
import Derived.Test.YtohnlhklijpafaaQNbWN
import Derived.Laws.StructEq
import Derived.Test.YtohnlhklijpafaaQNbWGuard
import Derived.Test.YtohnlhklijpafaaQNbWMore
namespace Go.Proofs.Ytohnlhklijpafaa.PA
open Go.RowKit Go.Proofs.YtohnlhklijpafaaW.PrintWords Go.Proofs.YtohnlhklijpafaaW.PrintLast Go.Proofs.YtohnlhklijpafaaW.PrintMore
attribute [local go_sem] max2_int min2_int max_two min_two max_three min_three max_four min_four   -- for this text's walks alone
set_option linter.unusedVariables false
set_option linter.unusedSimpArgs false

def errW : Option Int → Value
  | none => .nilIface
  | some c => .iface 0 (.int .i64 c)
theorem errW_none : errW none = .nilIface := rfl
theorem errW_some (c : Int) : errW (some c) = .iface 0 (.int .i64 c) := rfl

theorem rows_read {α : Type} {d : Kd α} {w : World} {v : Value} {xs : List α} (h : ∃ A c, v = .slice A xs.length c ∧ xs.length ≤ c ∧ d.C w A xs.length xs) : ∃ A c, v = .slice A xs.length c ∧ xs.length ≤ c ∧ d.C w A xs.length xs := h
/-- a box: its cells, and that it lies in the heap -/
def BX (w : World) (g : Nat) (l : List Value) : Prop := (∀ i u, l[i]? = some u → w.cell? ⟨g, i, none⟩ = some u ∧ w.frozen? ⟨g, i, none⟩ = false) ∧ g < w.heap.size

theorem blk_cell2 {w : World} {g t : Nat} {cs : Array Value} {fr : Nat × Nat} (h : w.heap[g]? = some (.cells cs t fr)) (n : Nat) : w.cell? ⟨g, n, none⟩ = cs[n]? := by simp [World.cell?, h]
/-- elements and their cells, one by one -/
def RowsK {α : Type} (d : Kd α) (w : World) : List α → List (List Value) → Prop
  | [], [] => True
  | x :: xs, c :: cs => d.K w x c ∧ RowsK d w xs cs
  | _, _ => False
theorem row_lit {α : Type} {d : Kd α} {w : World} {g t : Nat} {cells : Array Value} {fr : Nat × Nat} (hb : w.heap[g]? = some (.cells cells t fr)) :
    ∀ (xs : List α) (css : List (List Value)) (pre : List Value), RowsK d w xs css → cells.toList = pre ++ css.flatten →
      ∀ j p, xs[j]? = some p → ∃ c, c.length = d.sz ∧ d.K w p c ∧ ∀ i u, c[i]? = some u → w.cell? ⟨g, pre.length + (j * d.sz + i), none⟩ = some u := by
  intro xs
  induction xs with
  | nil => intro css pre _ _ j p hj; simp at hj
  | cons x xs ih =>
    intro css pre hr hc j p hj
    match css, hr with
    | c :: css, hr =>
      obtain ⟨hK, hr⟩ := hr
      have hl := d.K_len hK
      cases j with
      | zero =>
        obtain rfl : x = p := by simpa using hj
        refine ⟨c, hl, hK, fun i u hu => ?_⟩
        have hi : i < c.length := (List.getElem?_eq_some_iff.1 hu).1
        rw [(blk_cell2 hb (pre.length + (0 * d.sz + i))).trans (by rw [← Array.getElem?_toList, hc]), List.getElem?_append_right (by omega), List.flatten_cons, List.getElem?_append_left (by omega)]
        simpa using hu
      | succ j =>
        have := ih css (pre ++ c) hr (by rw [hc, List.flatten_cons, List.append_assoc]) j p (by simpa using hj)
        obtain ⟨c', h1, h2, h3⟩ := this
        refine ⟨c', h1, h2, fun i u hu => ?_⟩
        have := h3 i u hu
        rw [List.length_append, hl] at this
        rw [show pre.length + ((j + 1) * d.sz + i) = pre.length + d.sz + (j * d.sz + i) by rw [Nat.add_mul]; omega]
        exact this
theorem C_lit {α : Type} {d : Kd α} {w : World} {g t : Nat} {cells : Array Value} {fr : Nat × Nat} (hb : w.heap[g]? = some (.cells cells t fr)) (xs : List α) (css : List (List Value)) (hr : RowsK d w xs css) (hc : cells.toList = css.flatten) (hl : xs.length ≤ 9223372036854775807) :
    d.C w (some ⟨g, 0, none⟩) xs.length xs :=
  ⟨rfl, hl, fun _ => ⟨_, rfl, fun j p hj => by
    obtain ⟨c, h1, h2, h3⟩ := row_lit hb xs css [] hr (by simpa using hc) j p hj
    refine ⟨c, h1, h2, fun i u hu => ?_⟩
    have := h3 i u hu
    rw [List.length_nil, Nat.zero_add] at this
    rw [add_plain]
    exact this⟩⟩

theorem bd1 {w : World} {g : Nat} {o : Obj} (n : Nat) (h : w.heap[g]? = some o) : (w.drewN n).heap[g]? = some o := blk_drewN h n
theorem bd2 {w : World} {g : Nat} {o : Obj} (h : w.heap[g]? = some o) : w.drew.heap[g]? = some o := blk_drew h
theorem bd3 {w : World} {g : Nat} {o : Obj} (x : Obj) (h : w.heap[g]? = some o) : (w.alloc x).heap[g]? = some o := blk_alloc h x
theorem blk_all11 {w : World} {g : Nat} {a0 a1 a2 a3 a4 a5 a6 a7 a8 a9 a10 : Value} {t : TypeId} (h : w.heap[g]? = some (.cells #[a0, a1, a2, a3, a4, a5, a6, a7, a8, a9, a10] t (0, 0))) : w.cell? ⟨g, 0, none⟩ = some a0 ∧ w.cell? ⟨g, 1, none⟩ = some a1 ∧ w.cell? ⟨g, 2, none⟩ = some a2 ∧ w.cell? ⟨g, 3, none⟩ = some a3 ∧ w.cell? ⟨g, 4, none⟩ = some a4 ∧ w.cell? ⟨g, 5, none⟩ = some a5 ∧ w.cell? ⟨g, 6, none⟩ = some a6 ∧ w.cell? ⟨g, 7, none⟩ = some a7 ∧ w.cell? ⟨g, 8, none⟩ = some a8 ∧ w.cell? ⟨g, 9, none⟩ = some a9 ∧ w.cell? ⟨g, 10, none⟩ = some a10 ∧ w.frozen? ⟨g, 0, none⟩ = false ∧ w.frozen? ⟨g, 1, none⟩ = false ∧ w.frozen? ⟨g, 2, none⟩ = false ∧ w.frozen? ⟨g, 3, none⟩ = false ∧ w.frozen? ⟨g, 4, none⟩ = false ∧ w.frozen? ⟨g, 5, none⟩ = false ∧ w.frozen? ⟨g, 6, none⟩ = false ∧ w.frozen? ⟨g, 7, none⟩ = false ∧ w.frozen? ⟨g, 8, none⟩ = false ∧ w.frozen? ⟨g, 9, none⟩ = false ∧ w.frozen? ⟨g, 10, none⟩ = false := ⟨(blk_cell h 0).trans rfl, (blk_cell h 1).trans rfl, (blk_cell h 2).trans rfl, (blk_cell h 3).trans rfl, (blk_cell h 4).trans rfl, (blk_cell h 5).trans rfl, (blk_cell h 6).trans rfl, (blk_cell h 7).trans rfl, (blk_cell h 8).trans rfl, (blk_cell h 9).trans rfl, (blk_cell h 10).trans rfl, blk_frozen h 0, blk_frozen h 1, blk_frozen h 2, blk_frozen h 3, blk_frozen h 4, blk_frozen h 5, blk_frozen h 6, blk_frozen h 7, blk_frozen h 8, blk_frozen h 9, blk_frozen h 10⟩

-- the values' own types

end Go.Proofs.Ytohnlhklijpafaa.PA
