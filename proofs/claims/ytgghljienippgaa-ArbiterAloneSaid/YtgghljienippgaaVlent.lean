/- The walk of function 26 (lent), told by the verified walk VX, and its contract. -/
import Derived.Test.YtgghljienippgaaVX
import Derived.Test.YtgghljienippgaaProg
import Derived.Test.YtgghljienippgaaVM
import Derived.Test.YtgghljienippgaaVS
import Derived.Test.YtgghljienippgaaVLd
namespace Go.VX
open Go.Proofs
open Go.RowKit (Below)
set_option linter.unusedVariables false
set_option linter.unusedSimpArgs false
set_option maxRecDepth 100000
set_option maxHeartbeats 4000000
open Go.VX.M17

theorem walk_lent (A : Option Addr) (m c : Nat) (w : World) (Q : List Value → Prop) : (∃ (v0 : List Go.Value), (List.length v0 = m * 1 ∧ List.all v0 Go.VX.flat = Bool.true ∧ (0 < m → ∃ (v2 : Go.Addr), A = Option.some v2 ∧ (v2.block < Array.size w.heap ∧ True) ∧ Go.VX.cellsAt w v2 0 v0)) ∧ Go.VX.br (Nat.beq m 0) (∀ (g3 : Nat), Array.size w.heap ≤ g3 → g3 = g3 ∧ True ∧ ∀ (g5 g6 : Nat) (x7 : List Go.Value), Array.size w.heap ≤ g5 → 2 ≤ g6 → (0 ≤ (↑m : Int) ∧ (↑m : Int) ≤ (↑g6 : Int) ∧ (↑g6 : Int) ≤ (↑g6 : Int)) ∧ g6 = g6 ∧ (g5 = g5 ∧ m = m ∧ m + 2 ≤ g6) ∧ Go.VX.Done (Q (Go.Value.int Go.IntKind.u8 91 :: Go.Value.int Go.IntKind.u8 92 :: x7))) (Go.VX.br (Nat.ble (m * 1) 140737488355328) True (Nat.le (m * 1) 140737488355328) ∧ ∀ (g10 g11 : Nat) (x12 : List Go.Value), Array.size w.heap ≤ g10 → m ≤ g11 → ∀ (g15 : Nat), Array.size w.heap ≤ g15 → g15 = g15 ∧ g11 = g11 ∧ (g10 = g10 ∧ m ≤ g11 ∧ Go.VX.br (Nat.ble ((m + 2) * 1) 140737488355328) True (Nat.le ((m + 2) * 1) 140737488355328)) ∧ ∀ (x17 : List Go.Value), x17 = List.take (m * Go.Proofs.Try.prog.types[5].size) (v0 ++ x12) → ∀ (g19 g20 : Nat) (x21 : List Go.Value), g19 = g10 ∨ Array.size w.heap ≤ g19 → m + 2 ≤ g20 → (0 ≤ (↑m : Int) ∧ (↑m : Int) ≤ (↑g20 : Int) ∧ (↑g20 : Int) ≤ (↑g20 : Int)) ∧ g20 = g20 ∧ (g19 = g19 ∧ m = m ∧ m + 2 ≤ g20) ∧ Go.VX.Done (Q (x17 ++ [Go.Value.int Go.IntKind.u8 91, Go.Value.int Go.IntKind.u8 92] ++ x21)))) = codeVC (⟨TT.plain _, (fun f => Nat.beq f 46), noFar, true, noInv, noInv, noPV, noCV w⟩ : Cfg Try.prog) w 200 (Try.f26.body.getD .skip) ⟨⟨w, []⟩, mkT Try.f26.ntmps [.slice A m c] [[[some 1001]]], []⟩ (retK Try.prog Try.f26 fun b v s h => newK h (lentE 5 h v s m fun l => Done (Q l))) := by
  kernel_rfl

theorem lent_calls (x : Value) (m : Nat) (ns : List Int) (w : World) (B0 : BytesAt w x m ns) (hm : m ≤ 140737488355000) :
    Calls Try.prog 26 [x].toArray w fun e w' => Below w.heap.size w w' ∧ ∃ g cap r, e = .returned (.slice (some ⟨g, 0, none⟩) m cap) ∧ w.heap.size ≤ g ∧ m + 2 ≤ cap ∧ cap ≤ maxLen ∧
      (ns.map (Value.int .u8) ++ (Value.int .u8 91 :: Value.int .u8 92 :: r)).length = cap ∧ w'.heap[g]? = some (.cells (ns.map (Value.int .u8) ++ (Value.int .u8 91 :: Value.int .u8 92 :: r)).toArray 5 (0, 0)) := by
  obtain ⟨A, c, rfl, hl, hA, hc⟩ := id B0
  have hs : Try.prog.types[5].size = 1 := by kernel_rfl
  refine (calls (G := (⟨TT.plain _, (fun f => Nat.beq f 46), noFar, true, noInv, noInv, noPV, noCV w⟩ : Cfg Try.prog)) (noCV_ok' Try.prog w) (noPV_ok Try.prog) 200 Try.func26 rfl [[[some 1001]]] (HC.start w) ((walk_lent A m c w (fun l => ∃ r, l = ns.map (Value.int .u8) ++ (Value.int .u8 91 :: Value.int .u8 92 :: r))).mp ?_)).mono fun e w' ⟨v, s, b', h', he, H, hk⟩ => ?_
  · refine ⟨ns.map (Value.int .u8), B0.far (h := []) rfl, br_intro (fun h => ?_) (fun h => ?_)⟩
    · obtain rfl := Nat.eq_of_beq_eq_true h
      obtain rfl := List.eq_nil_of_length_eq_zero hl
      intro g3 hg3
      refine ⟨rfl, trivial, ?_⟩
      intro g5 g6 x7 hg5 h6
      exact ⟨⟨by omega, by omega, by omega⟩, rfl, ⟨rfl, rfl, by omega⟩, ⟨⟨x7, rfl⟩⟩⟩
    · refine ⟨br_intro (fun _ => trivial) (fun _ => by show (_ : Nat) ≤ _; omega), ?_⟩
      intro g10 g11 x12 hg10 h11 g15 hg15
      refine ⟨rfl, rfl, ⟨rfl, h11, br_intro (fun _ => trivial) (fun _ => by show (_ : Nat) ≤ _; omega)⟩, ?_⟩
      intro x17 hx17 g19 g20 x21 hg19 h20
      refine ⟨⟨by omega, by omega, by omega⟩, rfl, ⟨rfl, rfl, h20⟩, ⟨⟨x21, ?_⟩⟩⟩
      have : x17 = ns.map (Value.int .u8) := by
        rw [hx17, hs, Nat.mul_one, List.take_append_of_le_length (by rw [List.length_map]; omega), List.take_of_length_le (by rw [List.length_map]; omega)]
      rw [this, List.append_assoc]; rfl
  · obtain ⟨hn, hk⟩ := newK_out hk
    obtain ⟨g, cap, cc, rfl, hg, h1, h2, h3, hat, hd⟩ := lentE_out H hk
    obtain ⟨r, rfl⟩ := hd.out
    exact ⟨H.below hn, g, cap, r, he, hg, h1, h2, h3, hat⟩

end Go.VX
