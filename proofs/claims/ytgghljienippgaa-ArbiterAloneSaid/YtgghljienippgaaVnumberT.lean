/- The walk of function 67 (numberT), told by the verified walk VX, and its contract. -/
import Derived.Test.YtgghljienippgaaVX
import Derived.Test.YtgghljienippgaaProg
import Derived.Test.YtgghljienippgaaVM
import Derived.Test.YtgghljienippgaaVS
import Derived.Test.YtgghljienippgaaVLd
namespace Go.VX
open Go.Proofs
open Go.RowKit (Below)
set_option linter.unusedVariables false
set_option linter.unusedSimpArgs false
set_option maxRecDepth 100000
set_option maxHeartbeats 4000000
open Go.VX.M17

theorem walk_numberT (g rg off m c size : Nat) (cs : List Value) (w : World) (Q : Value → List Value → Prop) : (g = g ∧ g = g ∧ g = g ∧ g = g ∧ (g = g ∧ 119 = 119 ∧ rg = rg ∧ cs = cs ∧ 5 = 5) ∧ Go.VX.Done (Q (Go.Value.int Go.IntKind.u64 0) [Go.Value.slice (Option.some (Go.Addr.mk rg off Option.none)) m c, Go.Value.bool Bool.true])) = codeVC (⟨TT.plain _, (fun f => Nat.beq f 73), noFar, true, noInv, noInv, noPV, noCV w⟩ : Cfg Try.prog) w 200 (Try.f67.body.getD .skip) ⟨⟨w, []⟩, mkT Try.f67.ntmps [.pointer (some ⟨g, 0, none⟩), .int .i64 (.ofNat size)] [[[some 0]]], [⟨g, [.slice (some ⟨rg, off, none⟩) m c, .bool true], 119, [some 1], none, false, .lit⟩, ⟨rg, cs, 5, [], none, false, .sym⟩]⟩ (retK Try.prog Try.f67 fun b v s h => keep2K g 119 rg cs 5 h fun l => Done (Q v l)) := by
  kernel_rfl

theorem numberT_calls (g rg off m c size : Nat) (cs : List Value) (w : World) (hg : w.heap[g]? = some (.cells [Value.slice (some ⟨rg, off, none⟩) m c, .bool true].toArray 119 (0, 0))) (hr : w.heap[rg]? = some (.cells cs.toArray 5 (0, 0)))
    (hne : g ≠ rg) : Calls Try.prog 67 [Value.pointer (some ⟨g, 0, none⟩), .int .i64 (.ofNat size)].toArray w fun e w' => e = .returned (.int .u64 0) ∧ Keep g [.slice (some ⟨rg, off, none⟩) m c, .bool true] 119 w w' := by
  have hform := (walk_numberT g rg off m c size cs w (fun v l => v = .int .u64 0 ∧ l = [.slice (some ⟨rg, off, none⟩) m c, .bool true])).mp (by
    repeat' (first | rfl | apply And.intro | exact ⟨⟨rfl, rfl⟩⟩))
  refine (calls (G := (⟨TT.plain _, (fun f => Nat.beq f 73), noFar, true, noInv, noInv, noPV, noCV w⟩ : Cfg Try.prog)) (noCV_ok' Try.prog w) (noPV_ok Try.prog) 200 Try.func67 rfl [[[some 0]]] (HC.start2 hg hr hne [some 1]) hform).mono fun e w' ⟨v, s, b', h', he, H, hk⟩ => ?_
  obtain ⟨l, hK, hd⟩ := keep2K_out hr H hk
  obtain ⟨rfl, rfl⟩ := hd.out
  exact ⟨he, hK⟩

end Go.VX
