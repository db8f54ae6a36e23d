/- The walk of function 53 (of4), told by the verified walk VX, and its contract. -/
import Derived.Test.YtgghljienippgaaVX
import Derived.Test.YtgghljienippgaaProg
import Derived.Test.YtgghljienippgaaVM
import Derived.Test.YtgghljienippgaaVS
import Derived.Test.YtgghljienippgaaVLd
namespace Go.VX
open Go.Proofs
open Go.RowKit (Below)
set_option linter.unusedVariables false
set_option linter.unusedSimpArgs false
set_option maxRecDepth 100000
set_option maxHeartbeats 4000000
open Go.VX.M17

theorem walk_of4 (A : Option Addr) (c : Nat) (w : World) (Q : Value → Prop) : (∃ (v0 : Go.Addr), (A = Option.some v0 ∧ Int.le 0 0 ∧ Int.lt 0 4) ∧ ∃ (v1 : Int), (((Go.Addr.add v0 0).block < Array.size w.heap ∧ True) ∧ Go.World.cell? w (Go.Addr.add v0 0) = Option.some (Go.Value.int Go.IntKind.u8 v1)) ∧ ∃ (v2 : Go.Addr), (A = Option.some v2 ∧ Int.le 0 1 ∧ Int.lt 1 4) ∧ ∃ (v3 : Int), (((Go.Addr.add v2 1).block < Array.size w.heap ∧ True) ∧ Go.World.cell? w (Go.Addr.add v2 1) = Option.some (Go.Value.int Go.IntKind.u8 v3)) ∧ ∃ (v4 : Go.Addr), (A = Option.some v4 ∧ Int.le 0 2 ∧ Int.lt 2 4) ∧ ∃ (v5 : Int), (((Go.Addr.add v4 2).block < Array.size w.heap ∧ True) ∧ Go.World.cell? w (Go.Addr.add v4 2) = Option.some (Go.Value.int Go.IntKind.u8 v5)) ∧ ∃ (v6 : Go.Addr), (A = Option.some v6 ∧ Int.le 0 3 ∧ Int.lt 3 4) ∧ ∃ (v7 : Int), (((Go.Addr.add v6 3).block < Array.size w.heap ∧ True) ∧ Go.World.cell? w (Go.Addr.add v6 3) = Option.some (Go.Value.int Go.IntKind.u8 v7)) ∧ Go.VX.Done (Q (Go.Value.int Go.IntKind.u64 (Go.IntKind.wrap Go.IntKind.u64 (Go.IntKind.wrap Go.IntKind.u64 (Go.IntKind.wrap Go.IntKind.u64 (Go.IntKind.wrap Go.IntKind.u64 (Go.IntKind.wrap Go.IntKind.u64 (Go.IntKind.wrap Go.IntKind.u64 (Go.IntKind.wrap Go.IntKind.u64 (0 + Go.IntKind.wrap Go.IntKind.u64 v1) * 256) + Go.IntKind.wrap Go.IntKind.u64 v3) * 256) + Go.IntKind.wrap Go.IntKind.u64 v5) * 256) + Go.IntKind.wrap Go.IntKind.u64 v7))))) = codeVC (⟨TT.plain _, (fun f => false), noFar, true, noInv, noInv, noPV, noCV w⟩ : Cfg Try.prog) w 200 (Try.f53.body.getD .skip) ⟨⟨w, []⟩, mkT Try.f53.ntmps [.slice A 4 c] [[[some 1001]]], []⟩ (retK Try.prog Try.f53 fun b v s h => newK h (Done (Q v))) := by
  kernel_rfl

theorem of4_calls (x : Value) (ns : List Int) (w : World) (B0 : BytesAt w x 4 ns) (hb : Bs ns) : Calls Try.prog 53 [x].toArray w fun e w' => e = .returned (.int .u64 (o4 ns 0)) ∧ Below w.heap.size w w' := by
  obtain ⟨A, c, rfl, hl, hA, hc⟩ := B0
  cases A with
  | none => exact absurd rfl (hA (by decide))
  | some a =>
    have hcell : ∀ i, i < 4 → w.cell? (a.add i) = some (.int .u8 (nth ns i)) := by
      intro i hi
      refine hc a rfl i _ ?_
      unfold nth
      rw [List.getD_eq_getElem?_getD, List.getElem?_eq_getElem (by omega)]
      rfl
    have hblk : ∀ i, (a.add i).block < w.heap.size := fun i => by
      have := cell_lt (hcell 0 (by decide))
      rw [blk_add] at this ⊢; exact this
    refine calls_eq ((calls (G := (⟨TT.plain _, (fun f => false), noFar, true, noInv, noInv, noPV, noCV w⟩ : Cfg Try.prog)) (noCV_ok' Try.prog w) (noPV_ok Try.prog) 200 Try.func53 rfl [[[some 1001]]] (HC.start w) ((walk_of4 (some a) c w (fun v => v = .int .u64 (o4 ns 0))).mp ?_)).mono fun e w' ⟨v, s, b', h', he, H, hk⟩ => ⟨v, he, (newK_out hk).2.out, H.below (newK_out hk).1⟩)
    refine ⟨a, ⟨rfl, (show (_ : Int) ≤ _ by decide), (show (_ : Int) < _ by decide)⟩, nth ns 0, ⟨⟨hblk 0, trivial⟩, hcell 0 (by decide)⟩, a, ⟨rfl, (show (_ : Int) ≤ _ by decide), (show (_ : Int) < _ by decide)⟩, nth ns 1, ⟨⟨hblk 1, trivial⟩, hcell 1 (by decide)⟩, a, ⟨rfl, (show (_ : Int) ≤ _ by decide), (show (_ : Int) < _ by decide)⟩, nth ns 2, ⟨⟨hblk 2, trivial⟩, hcell 2 (by decide)⟩, a, ⟨rfl, (show (_ : Int) ≤ _ by decide), (show (_ : Int) < _ by decide)⟩, nth ns 3, ⟨⟨hblk 3, trivial⟩, hcell 3 (by decide)⟩, ⟨?_⟩⟩
    show Value.int .u64 (sw (sw (sw (sw 0 (nth ns 0)) (nth ns 1)) (nth ns 2)) (nth ns 3)) = _
    rw [sw4 hb]

end Go.VX
