/- The walk of function 29 (whole), told by the verified walk VX, and its contract. -/
import Derived.Test.YtgghljienippgaaVX
import Derived.Test.YtgghljienippgaaProg
import Derived.Test.YtgghljienippgaaVM
import Derived.Test.YtgghljienippgaaVS
import Derived.Test.YtgghljienippgaaVLd
namespace Go.VX
open Go.Proofs
open Go.RowKit (Below)
set_option linter.unusedVariables false
set_option linter.unusedSimpArgs false
set_option maxRecDepth 100000
set_option maxHeartbeats 4000000
open Go.VX.M17

theorem walk_whole (X B : Option Addr) (m cap c : Nat) (w : World) (Q : Value → Prop) : (Go.VX.br ((↑m : Int) != (↑m : Int)) (Go.VX.Done (Q (Go.Value.bool Bool.false))) ((0 ≤ Go.IntKind.wrap Go.IntKind.i64 ((↑m : Int) + 2) ∧ Go.IntKind.wrap Go.IntKind.i64 ((↑m : Int) + 2) ≤ (↑cap : Int) ∧ (↑cap : Int) ≤ (↑cap : Int)) ∧ ∃ (v0 : Go.Addr), (X = Option.some v0 ∧ 0 ≤ (↑m : Int) ∧ (↑m : Int) < (↑(Int.toNat (Go.IntKind.wrap Go.IntKind.i64 ((↑m : Int) + 2))) : Int)) ∧ ∃ (v1 : Int), (((Go.Addr.add v0 (m * 1)).block < Array.size w.heap ∧ True) ∧ Go.World.cell? w (Go.Addr.add v0 (m * 1)) = Option.some (Go.Value.int Go.IntKind.u8 v1)) ∧ ∃ (v2 : Go.Addr), ((v1 == 91) = Bool.true → X = Option.some v2 ∧ 0 ≤ Go.IntKind.wrap Go.IntKind.i64 ((↑m : Int) + 1) ∧ Go.IntKind.wrap Go.IntKind.i64 ((↑m : Int) + 1) < (↑(Int.toNat (Go.IntKind.wrap Go.IntKind.i64 ((↑m : Int) + 2))) : Int)) ∧ ∃ (v4 : Int), ((v1 == 91) = Bool.true → ((Go.Addr.add v2 (Int.toNat (Go.IntKind.wrap Go.IntKind.i64 ((↑m : Int) + 1)) * 1)).block < Array.size w.heap ∧ True) ∧ Go.World.cell? w (Go.Addr.add v2 (Int.toNat (Go.IntKind.wrap Go.IntKind.i64 ((↑m : Int) + 1)) * 1)) = Option.some (Go.Value.int Go.IntKind.u8 v4)) ∧ Go.VX.br (v1 == 91 && v4 == 92) ((v1 == 91 && v4 == 92) = Bool.true ∧ ∃ (v6 : List Go.Value), (List.length v6 = m * 1 ∧ List.all v6 Go.VX.flat = Bool.true ∧ (0 < m → ∃ (v8 : Go.Addr), X = Option.some v8 ∧ (v8.block < Array.size w.heap ∧ True) ∧ Go.VX.cellsAt w v8 0 v6)) ∧ ∃ (v9 : List Int), v6 = List.map (Go.Value.int Go.IntKind.u8) v9 ∧ ∃ (v10 : List Go.Value), (List.length v10 = m * 1 ∧ List.all v10 Go.VX.flat = Bool.true ∧ (0 < m → ∃ (v12 : Go.Addr), B = Option.some v12 ∧ (v12.block < Array.size w.heap ∧ True) ∧ Go.VX.cellsAt w v12 0 v10)) ∧ ∃ (v13 : List Int), v10 = List.map (Go.Value.int Go.IntKind.u8) v13 ∧ Go.VX.Done (Q (Go.Value.bool (Bool.true && ByteArray.toList (Go.strOfNums v9) == ByteArray.toList (Go.strOfNums v13))))) (Go.VX.Done (Q (Go.Value.bool Bool.false))))) = codeVC (⟨TT.plain _, (fun f => false), noFar, true, noInv, noInv, noPV, noCV w⟩ : Cfg Try.prog) w 200 (Try.f29.body.getD .skip) ⟨⟨w, []⟩, mkT Try.f29.ntmps [.slice X m cap, .slice B m c] [[[some 1001]], [[some 1001]]], []⟩ (retK Try.prog Try.f29 fun b v s h => newK h (Done (Q v))) := by
  kernel_rfl

theorem cell_block {w : World} {g : Nat} {c : List Value} {e : TypeId} {j : Nat} {v : Value} (h : w.heap[g]? = some (.cells c.toArray e (0, 0))) (hv : c[j]? = some v) : w.cell? ((⟨g, 0, none⟩ : Addr).add j) = some v := by
  rw [addr_add rfl]
  exact cell_of (d := ⟨g, c, e, [], none, false, .sym⟩) h rfl (by unfold cellAt; simpa using hv)

theorem whole_calls (g cap : Nat) (y : Value) (m : Nat) (ns : List Int) (r : List Value) (e : TypeId) (w : World) (B0 : BytesAt w y m ns) (hcap : m + 2 ≤ cap) (hm : m ≤ 140737488355000)
    (hg : w.heap[g]? = some (.cells (ns.map (Value.int .u8) ++ (Value.int .u8 91 :: Value.int .u8 92 :: r)).toArray e (0, 0))) :
    Calls Try.prog 29 [Value.slice (some ⟨g, 0, none⟩) m cap, y].toArray w fun en w' => en = .returned (.bool true) ∧ Below w.heap.size w w' := by
  obtain ⟨A, c, rfl, hl, hA, hc⟩ := id B0
  have hlen : (ns.map (Value.int .u8)).length = m := by simpa using hl
  have BX : BytesAt w (.slice (some ⟨g, 0, none⟩) m cap) m ns := ⟨_, _, rfl, hl, fun _ => by simp, fun a ha j n hn => by
    cases ha
    refine cell_block hg ?_
    have hj := (List.getElem?_eq_some_iff.1 hn).1
    rw [List.getElem?_append_left (by omega), List.getElem?_map, hn]; rfl⟩
  have c91 : w.cell? ((⟨g, 0, none⟩ : Addr).add m) = some (.int .u8 91) := cell_block hg (by rw [List.getElem?_append_right (by omega), hlen, Nat.sub_self]; rfl)
  have c92 : w.cell? ((⟨g, 0, none⟩ : Addr).add (m + 1)) = some (.int .u8 92) := cell_block hg (by rw [List.getElem?_append_right (by omega), hlen, show m + 1 - m = 1 by omega]; rfl)
  have hlt : ∀ j, ((⟨g, 0, none⟩ : Addr).add j).block < w.heap.size := fun j => by
    rw [blk_add]
    have := cell_lt c91
    rwa [blk_add] at this
  have w1 : IntKind.i64.wrap ((m : Int) + 1) = m + 1 := by
    simp [IntKind.wrap, IntKind.signed, IntKind.bits]; omega
  have w2 : IntKind.i64.wrap ((m : Int) + 2) = m + 2 := by
    simp [IntKind.wrap, IntKind.signed, IntKind.bits]; omega
  refine calls_eq ((calls (G := (⟨TT.plain _, (fun f => false), noFar, true, noInv, noInv, noPV, noCV w⟩ : Cfg Try.prog)) (noCV_ok' Try.prog w) (noPV_ok Try.prog) 200 Try.func29 rfl [[[some 1001]], [[some 1001]]] (HC.start w) ((walk_whole (some ⟨g, 0, none⟩) A m cap c w (fun v => v = .bool true)).mp ?_)).mono fun e w' ⟨v, s, b', h', he, H, hk⟩ => ⟨v, he, (newK_out hk).2.out, H.below (newK_out hk).1⟩)
  rw [w1, w2]
  refine br_intro (fun h => by simp at h) (fun _ => ?_)
  refine ⟨⟨by omega, by omega, by omega⟩, ⟨g, 0, none⟩, ⟨rfl, by omega, by omega⟩, 91, ⟨⟨hlt _, trivial⟩, by rw [Nat.mul_one]; exact c91⟩, ⟨g, 0, none⟩, fun _ => ⟨rfl, by omega, by omega⟩, 92,
    fun _ => ⟨⟨hlt _, trivial⟩, by rw [show ((m : Int) + 1).toNat * 1 = m + 1 by omega]; exact c92⟩, ?_⟩
  refine br_intro (fun _ => ?_) (fun h => by simp at h)
  refine ⟨rfl, ns.map (Value.int .u8), BX.far (h := []) rfl, ns, rfl, ns.map (Value.int .u8), B0.far (h := []) rfl, ns, rfl, ⟨?_⟩⟩
  show Value.bool _ = _
  simp

end Go.VX
