/- The walk of function 53 (of8), told by the verified walk VX, and its contract. -/
import Derived.Test.YtgghljienippgaaVX
import Derived.Test.YtgghljienippgaaProg
import Derived.Test.YtgghljienippgaaVM
import Derived.Test.YtgghljienippgaaVS
import Derived.Test.YtgghljienippgaaVLd
import Derived.Test.YtgghljienippgaaVof4
namespace Go.VX
open Go.Proofs
open Go.RowKit (Below)
set_option linter.unusedVariables false
set_option linter.unusedSimpArgs false
set_option maxRecDepth 100000
set_option maxHeartbeats 4000000
open Go.VX.M17

theorem walk_of8 (A : Option Addr) (c : Nat) (w : World) (Q : Value → Prop) : (∃ (v0 : Go.Addr), (A = Option.some v0 ∧ Int.le 0 0 ∧ Int.lt 0 8) ∧ ∃ (v1 : Int), (((Go.Addr.add v0 0).block < Array.size w.heap ∧ True) ∧ Go.World.cell? w (Go.Addr.add v0 0) = Option.some (Go.Value.int Go.IntKind.u8 v1)) ∧ ∃ (v2 : Go.Addr), (A = Option.some v2 ∧ Int.le 0 1 ∧ Int.lt 1 8) ∧ ∃ (v3 : Int), (((Go.Addr.add v2 1).block < Array.size w.heap ∧ True) ∧ Go.World.cell? w (Go.Addr.add v2 1) = Option.some (Go.Value.int Go.IntKind.u8 v3)) ∧ ∃ (v4 : Go.Addr), (A = Option.some v4 ∧ Int.le 0 2 ∧ Int.lt 2 8) ∧ ∃ (v5 : Int), (((Go.Addr.add v4 2).block < Array.size w.heap ∧ True) ∧ Go.World.cell? w (Go.Addr.add v4 2) = Option.some (Go.Value.int Go.IntKind.u8 v5)) ∧ ∃ (v6 : Go.Addr), (A = Option.some v6 ∧ Int.le 0 3 ∧ Int.lt 3 8) ∧ ∃ (v7 : Int), (((Go.Addr.add v6 3).block < Array.size w.heap ∧ True) ∧ Go.World.cell? w (Go.Addr.add v6 3) = Option.some (Go.Value.int Go.IntKind.u8 v7)) ∧ ∃ (v8 : Go.Addr), (A = Option.some v8 ∧ Int.le 0 4 ∧ Int.lt 4 8) ∧ ∃ (v9 : Int), (((Go.Addr.add v8 4).block < Array.size w.heap ∧ True) ∧ Go.World.cell? w (Go.Addr.add v8 4) = Option.some (Go.Value.int Go.IntKind.u8 v9)) ∧ ∃ (v10 : Go.Addr), (A = Option.some v10 ∧ Int.le 0 5 ∧ Int.lt 5 8) ∧ ∃ (v11 : Int), (((Go.Addr.add v10 5).block < Array.size w.heap ∧ True) ∧ Go.World.cell? w (Go.Addr.add v10 5) = Option.some (Go.Value.int Go.IntKind.u8 v11)) ∧ ∃ (v12 : Go.Addr), (A = Option.some v12 ∧ Int.le 0 6 ∧ Int.lt 6 8) ∧ ∃ (v13 : Int), (((Go.Addr.add v12 6).block < Array.size w.heap ∧ True) ∧ Go.World.cell? w (Go.Addr.add v12 6) = Option.some (Go.Value.int Go.IntKind.u8 v13)) ∧ ∃ (v14 : Go.Addr), (A = Option.some v14 ∧ Int.le 0 7 ∧ Int.lt 7 8) ∧ ∃ (v15 : Int), (((Go.Addr.add v14 7).block < Array.size w.heap ∧ True) ∧ Go.World.cell? w (Go.Addr.add v14 7) = Option.some (Go.Value.int Go.IntKind.u8 v15)) ∧ Go.VX.Done (Q (Go.Value.int Go.IntKind.u64 (Go.IntKind.wrap Go.IntKind.u64 (Go.IntKind.wrap Go.IntKind.u64 (Go.IntKind.wrap Go.IntKind.u64 (Go.IntKind.wrap Go.IntKind.u64 (Go.IntKind.wrap Go.IntKind.u64 (Go.IntKind.wrap Go.IntKind.u64 (Go.IntKind.wrap Go.IntKind.u64 (Go.IntKind.wrap Go.IntKind.u64 (Go.IntKind.wrap Go.IntKind.u64 (Go.IntKind.wrap Go.IntKind.u64 (Go.IntKind.wrap Go.IntKind.u64 (Go.IntKind.wrap Go.IntKind.u64 (Go.IntKind.wrap Go.IntKind.u64 (Go.IntKind.wrap Go.IntKind.u64 (Go.IntKind.wrap Go.IntKind.u64 (0 + Go.IntKind.wrap Go.IntKind.u64 v1) * 256) + Go.IntKind.wrap Go.IntKind.u64 v3) * 256) + Go.IntKind.wrap Go.IntKind.u64 v5) * 256) + Go.IntKind.wrap Go.IntKind.u64 v7) * 256) + Go.IntKind.wrap Go.IntKind.u64 v9) * 256) + Go.IntKind.wrap Go.IntKind.u64 v11) * 256) + Go.IntKind.wrap Go.IntKind.u64 v13) * 256) + Go.IntKind.wrap Go.IntKind.u64 v15))))) = codeVC (⟨TT.plain _, (fun f => false), noFar, true, noInv, noInv, noPV, noCV w⟩ : Cfg Try.prog) w 200 (Try.f53.body.getD .skip) ⟨⟨w, []⟩, mkT Try.f53.ntmps [.slice A 8 c] [[[some 1001]]], []⟩ (retK Try.prog Try.f53 fun b v s h => newK h (Done (Q v))) := by
  kernel_rfl

theorem of8_calls (x : Value) (ns : List Int) (w : World) (B0 : BytesAt w x 8 ns) (hb : Bs ns) : Calls Try.prog 53 [x].toArray w fun e w' => e = .returned (.int .u64 (o8 ns 0)) ∧ Below w.heap.size w w' := by
  obtain ⟨A, c, rfl, hl, hA, hc⟩ := B0
  cases A with
  | none => exact absurd rfl (hA (by decide))
  | some a =>
    have hcell : ∀ i, i < 8 → w.cell? (a.add i) = some (.int .u8 (nth ns i)) := by
      intro i hi
      refine hc a rfl i _ ?_
      unfold nth
      rw [List.getD_eq_getElem?_getD, List.getElem?_eq_getElem (by omega)]
      rfl
    have hblk : ∀ i, (a.add i).block < w.heap.size := fun i => by
      have := cell_lt (hcell 0 (by decide))
      rw [blk_add] at this ⊢; exact this
    refine calls_eq ((calls (G := (⟨TT.plain _, (fun f => false), noFar, true, noInv, noInv, noPV, noCV w⟩ : Cfg Try.prog)) (noCV_ok' Try.prog w) (noPV_ok Try.prog) 200 Try.func53 rfl [[[some 1001]]] (HC.start w) ((walk_of8 (some a) c w (fun v => v = .int .u64 (o8 ns 0))).mp ?_)).mono fun e w' ⟨v, s, b', h', he, H, hk⟩ => ⟨v, he, (newK_out hk).2.out, H.below (newK_out hk).1⟩)
    refine ⟨a, ⟨rfl, (show (_ : Int) ≤ _ by decide), (show (_ : Int) < _ by decide)⟩, nth ns 0, ⟨⟨hblk 0, trivial⟩, hcell 0 (by decide)⟩, a, ⟨rfl, (show (_ : Int) ≤ _ by decide), (show (_ : Int) < _ by decide)⟩, nth ns 1, ⟨⟨hblk 1, trivial⟩, hcell 1 (by decide)⟩, a, ⟨rfl, (show (_ : Int) ≤ _ by decide), (show (_ : Int) < _ by decide)⟩, nth ns 2, ⟨⟨hblk 2, trivial⟩, hcell 2 (by decide)⟩, a, ⟨rfl, (show (_ : Int) ≤ _ by decide), (show (_ : Int) < _ by decide)⟩, nth ns 3, ⟨⟨hblk 3, trivial⟩, hcell 3 (by decide)⟩, a, ⟨rfl, (show (_ : Int) ≤ _ by decide), (show (_ : Int) < _ by decide)⟩, nth ns 4, ⟨⟨hblk 4, trivial⟩, hcell 4 (by decide)⟩, a, ⟨rfl, (show (_ : Int) ≤ _ by decide), (show (_ : Int) < _ by decide)⟩, nth ns 5, ⟨⟨hblk 5, trivial⟩, hcell 5 (by decide)⟩, a, ⟨rfl, (show (_ : Int) ≤ _ by decide), (show (_ : Int) < _ by decide)⟩, nth ns 6, ⟨⟨hblk 6, trivial⟩, hcell 6 (by decide)⟩, a, ⟨rfl, (show (_ : Int) ≤ _ by decide), (show (_ : Int) < _ by decide)⟩, nth ns 7, ⟨⟨hblk 7, trivial⟩, hcell 7 (by decide)⟩, ⟨?_⟩⟩
    show Value.int .u64 (sw (sw (sw (sw (sw (sw (sw (sw 0 (nth ns 0)) (nth ns 1)) (nth ns 2)) (nth ns 3)) (nth ns 4)) (nth ns 5)) (nth ns 6)) (nth ns 7)) = _
    rw [sw8 hb]

def szO (k : Nat) : Bool := Nat.beq k 8 || Nat.beq k 4
def valO (k : Nat) (ns : List Int) : Int := bif Nat.beq k 8 then o8 ns 0 else o4 ns 0
def spof (w : World) : CV := addBV w 53 szO valO Bs (noCV w)
theorem spof_ok (P : Program) (w : World) (hP : P = Try.prog) : CVok P w (spof w) := by
  subst hP
  refine addBV_ok (fun x m ns w hs B hb => ?_) (noCV_ok' _ _)
  unfold szO at hs
  simp only [Bool.or_eq_true] at hs
  rcases hs with hs | hs
  · obtain rfl := Nat.eq_of_beq_eq_true hs; exact of8_calls x ns w B hb
  · obtain rfl := Nat.eq_of_beq_eq_true hs; exact of4_calls x ns w B hb
theorem BytesAt.sub {w : World} {A A' : Option Addr} {m c o k c' : Nat} {ns : List Int} (B : BytesAt w (.slice A m c) m ns) (hk : 0 < k) (ho : o + k ≤ m) (hc : m ≤ c)
    (hA : A' = if (c : Int).toNat = (o : Int).toNat then A else A.map (fun x => x.add ((o : Int).toNat * 1))) : BytesAt w (.slice A' k c') k ((ns.drop o).take k) := by
  obtain ⟨A0, c0, e, hl, hA0, hcell⟩ := B
  injection e with e1 e2 e3
  subst e1
  rw [if_neg (by omega)] at hA
  subst hA
  cases A with
  | none => exact absurd rfl (hA0 (by omega))
  | some a =>
    refine ⟨_, _, rfl, by rw [List.length_take, List.length_drop]; omega, fun _ => by simp, fun b hb j n hn => ?_⟩
    obtain rfl : a.add o = b := by simpa using hb
    have hj : j < k := by
      have := (List.getElem?_eq_some_iff.1 hn).1
      rw [List.length_take] at this; omega
    rw [List.getElem?_take, if_pos hj, List.getElem?_drop] at hn
    rw [add_add]
    exact hcell a rfl _ n hn

end Go.VX
