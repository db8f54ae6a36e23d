/- The walk of function 67 (number4), told by the verified walk VX, and its contract. -/
import Derived.Test.YtgghljienippgaaVX
import Derived.Test.YtgghljienippgaaProg
import Derived.Test.YtgghljienippgaaVM
import Derived.Test.YtgghljienippgaaVS
import Derived.Test.YtgghljienippgaaVLd
namespace Go.VX
open Go.Proofs
open Go.RowKit (Below)
set_option linter.unusedVariables false
set_option linter.unusedSimpArgs false
set_option maxRecDepth 100000
set_option maxHeartbeats 4000000
open Go.VX.M17

theorem walk_number4 (g rg off m c : Nat) (cs : List Value) (w : World) (Q : Value → List Value → Prop) : (g = g ∧ g = g ∧ g = g ∧ g = g ∧ Go.VX.br (Bool.false || Decidable.decide ((↑m : Int) < 4)) ((g = g ∧ 119 = 119 ∧ rg = rg ∧ cs = cs ∧ 5 = 5) ∧ Go.VX.Done (Q (Go.Value.int Go.IntKind.u64 0) [Go.Value.slice (Option.some (Go.Addr.mk rg off Option.none)) m c, Go.Value.bool (Bool.false || Decidable.decide ((↑m : Int) < 4))])) (g = g ∧ (Int.le 0 4 ∧ 4 ≤ (↑c : Int) ∧ (↑c : Int) ≤ (↑c : Int)) ∧ g = g ∧ (Int.le 0 4 ∧ 4 ≤ (↑m : Int) ∧ (↑m : Int) ≤ (↑c : Int) ∧ (↑c : Int) ≤ (↑c : Int)) ∧ g = g ∧ (Int.le 0 0 ∧ Int.lt 0 4) ∧ ∃ (v0 : Int), (rg = rg ∧ cs[off + Int.toNat 0 * 1]? = Option.some (Go.Value.int Go.IntKind.u8 v0)) ∧ (Int.le 0 1 ∧ Int.lt 1 4) ∧ ∃ (v1 : Int), (rg = rg ∧ cs[off + Int.toNat (Go.IntKind.wrap Go.IntKind.i64 (0 + 1)) * 1]? = Option.some (Go.Value.int Go.IntKind.u8 v1)) ∧ (Int.le 0 2 ∧ Int.lt 2 4) ∧ ∃ (v2 : Int), (rg = rg ∧ cs[off + Int.toNat (Go.IntKind.wrap Go.IntKind.i64 (Go.IntKind.wrap Go.IntKind.i64 (0 + 1) + 1)) * 1]? = Option.some (Go.Value.int Go.IntKind.u8 v2)) ∧ (Int.le 0 3 ∧ Int.lt 3 4) ∧ ∃ (v3 : Int), (rg = rg ∧ cs[off + Int.toNat (Go.IntKind.wrap Go.IntKind.i64 (Go.IntKind.wrap Go.IntKind.i64 (Go.IntKind.wrap Go.IntKind.i64 (0 + 1) + 1) + 1)) * 1]? = Option.some (Go.Value.int Go.IntKind.u8 v3)) ∧ (g = g ∧ 119 = 119 ∧ rg = rg ∧ cs = cs ∧ 5 = 5) ∧ Go.VX.Done (Q (Go.Value.int Go.IntKind.u64 (Go.IntKind.wrap Go.IntKind.u64 (↑(BitVec.toNat (BitVec.ofInt (Go.IntKind.bits Go.IntKind.u64) (Go.IntKind.wrap Go.IntKind.u64 (Go.IntKind.wrap Go.IntKind.u64 (↑(BitVec.toNat (BitVec.ofInt (Go.IntKind.bits Go.IntKind.u64) (Go.IntKind.wrap Go.IntKind.u64 (Go.IntKind.wrap Go.IntKind.u64 (↑(BitVec.toNat (BitVec.ofInt (Go.IntKind.bits Go.IntKind.u64) (Go.IntKind.wrap Go.IntKind.u64 (Go.IntKind.wrap Go.IntKind.u64 (↑(BitVec.toNat (BitVec.ofInt (Go.IntKind.bits Go.IntKind.u64) (Go.IntKind.wrap Go.IntKind.u64 (0 * 2 ^ Min.min (Int.toNat 8) (Go.IntKind.bits Go.IntKind.u64))) ||| BitVec.ofInt (Go.IntKind.bits Go.IntKind.u64) (Go.IntKind.wrap Go.IntKind.u64 v0))) : Int) * 2 ^ Min.min (Int.toNat 8) (Go.IntKind.bits Go.IntKind.u64))) ||| BitVec.ofInt (Go.IntKind.bits Go.IntKind.u64) (Go.IntKind.wrap Go.IntKind.u64 v1))) : Int) * 2 ^ Min.min (Int.toNat 8) (Go.IntKind.bits Go.IntKind.u64))) ||| BitVec.ofInt (Go.IntKind.bits Go.IntKind.u64) (Go.IntKind.wrap Go.IntKind.u64 v2))) : Int) * 2 ^ Min.min (Int.toNat 8) (Go.IntKind.bits Go.IntKind.u64))) ||| BitVec.ofInt (Go.IntKind.bits Go.IntKind.u64) (Go.IntKind.wrap Go.IntKind.u64 v3))) : Int))) [Go.Value.slice (Option.some (Go.Addr.mk rg (bif Nat.beq c 4 then off else off + 4) Option.none)) (m - 4) (c - 4), Go.Value.bool (Bool.false || Decidable.decide ((↑m : Int) < 4))]))) = codeVC (⟨TT.plain _, (fun f => Nat.beq f 73), noFar, true, noInv, noInv, noPV, noCV w⟩ : Cfg Try.prog) w 200 (Try.f67.body.getD .skip) ⟨⟨w, []⟩, mkT Try.f67.ntmps [.pointer (some ⟨g, 0, none⟩), .int .i64 4] [[[some 0]]], [⟨g, [.slice (some ⟨rg, off, none⟩) m c, .bool false], 119, [some 1], none, false, .lit⟩, ⟨rg, cs, 5, [], none, false, .sym⟩]⟩ (retK Try.prog Try.f67 fun b v s h => keep2K g 119 rg cs 5 h fun l => Done (Q v l)) := by
  kernel_rfl

theorem number4_calls (g rg off m c : Nat) (cs : List Value) (w : World) (hg : w.heap[g]? = some (.cells [Value.slice (some ⟨rg, off, none⟩) m c, .bool false].toArray 119 (0, 0))) (hr : w.heap[rg]? = some (.cells cs.toArray 5 (0, 0)))
    (hne : g ≠ rg) (hmc : m ≤ c) (ns : List Int) (hns : 4 ≤ m → (cs.drop off).take 4 = ns.map (Value.int .u8) ∧ ns.length = 4 ∧ Bs ns) :
    Calls Try.prog 67 [Value.pointer (some ⟨g, 0, none⟩), .int .i64 4].toArray w fun e w' => (m < 4 → e = .returned (.int .u64 0) ∧ Keep g [.slice (some ⟨rg, off, none⟩) m c, .bool true] 119 w w') ∧
      (4 ≤ m → e = .returned (.int .u64 (o4 ns 0)) ∧ Keep g [.slice (some ⟨rg, (bif Nat.beq c 4 then off else off + 4), none⟩) (m - 4) (c - 4), .bool false] 119 w w') := by
  have hform := (walk_number4 g rg off m c cs w (fun v l => (m < 4 ∧ v = .int .u64 0 ∧ l = [.slice (some ⟨rg, off, none⟩) m c, .bool true]) ∨ (4 ≤ m ∧ v = .int .u64 (o4 ns 0) ∧ l = [.slice (some ⟨rg, (bif Nat.beq c 4 then off else off + 4), none⟩) (m - 4) (c - 4), .bool false]))).mp (by
    refine ⟨rfl, rfl, rfl, rfl, br_intro (fun h => ?_) (fun h => ?_)⟩
    · refine ⟨⟨rfl, rfl, rfl, rfl, rfl⟩, ⟨.inl ⟨?_, rfl, ?_⟩⟩⟩
      · simp at h; omega
      · rw [h]
    · have hm : 4 ≤ m := by simp at h; omega
      obtain ⟨h1, hl, hB⟩ := hns hm
      have at_ : ∀ (k : Nat), k < 4 → cs[off + k * 1]? = some (.int .u8 (nth ns k)) := by
        intro k hk
        have h2 := congrArg (fun l => l[k]?) h1
        simp only [List.getElem?_map] at h2
        rw [List.getElem?_take, if_pos hk, List.getElem?_drop] at h2
        rw [Nat.mul_one, h2]
        unfold nth
        rw [List.getD_eq_getElem?_getD, List.getElem?_eq_getElem (by omega)]
        rfl
      refine ⟨rfl, ⟨(show (_ : Int) ≤ _ by decide), by omega, by omega⟩, rfl, ⟨(show (_ : Int) ≤ _ by decide), by omega, by omega, by omega⟩, rfl, ⟨(show (_ : Int) ≤ _ by decide), (show (_ : Int) < _ by decide)⟩, nth ns 0, ⟨rfl, at_ 0 (by decide)⟩, ⟨(show (_ : Int) ≤ _ by decide), (show (_ : Int) < _ by decide)⟩, nth ns 1, ⟨rfl, at_ 1 (by decide)⟩, ⟨(show (_ : Int) ≤ _ by decide), (show (_ : Int) < _ by decide)⟩, nth ns 2, ⟨rfl, at_ 2 (by decide)⟩, ⟨(show (_ : Int) ≤ _ by decide), (show (_ : Int) < _ by decide)⟩, nth ns 3, ⟨rfl, at_ 3 (by decide)⟩, ⟨rfl, rfl, rfl, rfl, rfl⟩, ⟨.inr ⟨hm, ?_, ?_⟩⟩⟩
      · show Value.int .u64 (so (so (so (so 0 (nth ns 0)) (nth ns 1)) (nth ns 2)) (nth ns 3)) = _
        rw [so4 hB]
      · rw [h])
  refine (calls (G := (⟨TT.plain _, (fun f => Nat.beq f 73), noFar, true, noInv, noInv, noPV, noCV w⟩ : Cfg Try.prog)) (noCV_ok' Try.prog w) (noPV_ok Try.prog) 200 Try.func67 rfl [[[some 0]]] (HC.start2 hg hr hne [some 1]) hform).mono fun e w' ⟨v, s, b', h', he, H, hk⟩ => ?_
  obtain ⟨l, hK, hd⟩ := keep2K_out hr H hk
  rcases hd.out with ⟨h1, rfl, rfl⟩ | ⟨h1, rfl, rfl⟩
  · exact ⟨fun _ => ⟨he, hK⟩, fun h => absurd h (by omega)⟩
  · exact ⟨fun h => absurd h (by omega), fun _ => ⟨he, hK⟩⟩

end Go.VX
