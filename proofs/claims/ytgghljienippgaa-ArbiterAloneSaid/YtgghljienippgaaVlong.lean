/- The walk of function 15 (long), told by the verified walk VX, and its contract. -/
import Derived.Test.YtgghljienippgaaVX
import Derived.Test.YtgghljienippgaaProg
import Derived.Test.YtgghljienippgaaVM
import Derived.Test.YtgghljienippgaaVL
import Derived.Test.YtgghljienippgaaVnow
namespace Go.VX
open Go.Proofs
open Go.RowKit (Below)
set_option linter.unusedVariables false
set_option linter.unusedSimpArgs false
set_option maxRecDepth 100000
set_option maxHeartbeats 4000000
open Go.VX.M17

theorem walk_long (A : Option Addr) (n cap : Nat) (w : World) (Q : Value → Prop) : ((∃ (v0 : Int), Go.Value.slice A n cap = Go.Value.slice A n cap ∧ Go.Value.int Go.IntKind.i64 0 = Go.Value.int Go.IntKind.i64 v0 ∧ Go.VX.Done ((0 ≤ v0 ∧ v0 ≤ (↑n : Int)) ∧ True)) ∧ ∀ (x1 : Int) (x2 : Nat → Go.Value), 0 ≤ x1 ∧ x1 ≤ (↑n : Int) → Go.VX.br (Decidable.decide (x1 < (↑n : Int)) && Decidable.decide (x1 < 200)) (∃ (v4 : Go.Addr), (A = Option.some v4 ∧ 0 ≤ x1 ∧ x1 < (↑n : Int)) ∧ ∃ (v5 : Option Go.Addr), ∃ (v6 : Nat), ∃ (v7 : Nat), (((Go.Addr.add (Go.Addr.add (Go.Addr.add v4 (Int.toNat x1 * 14)) 3) 9).block < Array.size w.heap ∧ True) ∧ Go.World.cell? w (Go.Addr.add (Go.Addr.add (Go.Addr.add v4 (Int.toNat x1 * 14)) 3) 9) = Option.some (Go.Value.slice v5 v6 v7)) ∧ ∃ (v8 : Go.Addr), ((!Decidable.decide ((↑v6 : Int) > 500)) = Bool.true → A = Option.some v8 ∧ 0 ≤ x1 ∧ x1 < (↑n : Int)) ∧ ∃ (v10 : Option Go.Addr), ∃ (v11 : Nat), ∃ (v12 : Nat), ((!Decidable.decide ((↑v6 : Int) > 500)) = Bool.true → ((Go.Addr.add (Go.Addr.add (Go.Addr.add v8 (Int.toNat x1 * 14)) 3) 10).block < Array.size w.heap ∧ True) ∧ Go.World.cell? w (Go.Addr.add (Go.Addr.add (Go.Addr.add v8 (Int.toNat x1 * 14)) 3) 10) = Option.some (Go.Value.slice v10 v11 v12)) ∧ Go.VX.br (Decidable.decide ((↑v6 : Int) > 500) || Decidable.decide ((↑v11 : Int) > 500)) (Go.VX.Done (Q (Go.Value.bool Bool.true))) (Bool.true = Bool.true ∧ w = w ∧ ∃ (v14 : Int), Go.Value.slice A n cap = Go.Value.slice A n cap ∧ Go.Value.int Go.IntKind.i64 (Go.IntKind.wrap Go.IntKind.i64 (x1 + 1)) = Go.Value.int Go.IntKind.i64 v14 ∧ Go.VX.Done ((0 ≤ v14 ∧ v14 ≤ (↑n : Int)) ∧ n - Int.toNat v14 < n - Int.toNat x1))) (Go.VX.Done (Q (Go.Value.bool Bool.false)))) = codeVC (⟨TT.plain _, (fun f => false), noFar, true, (invL A n cap), noInv, noPV, noCV w⟩ : Cfg Try.prog) w 200 (Try.f15.body.getD .skip) ⟨⟨w, []⟩, mkT Try.f15.ntmps [.slice A n cap] [], []⟩ (retK Try.prog Try.f15 fun b v s h => newK h (Done (Q v))) := by
  kernel_rfl

theorem long_calls (A : Option Addr) (n cap : Nat) (w : World) (hA : ActsAt w A n) : Calls Try.prog 15 ([.slice A n cap] : List Value).toArray w fun e w' => ∃ b : Bool, e = .returned (.bool b) ∧ Below w.heap.size w w' := by
  refine (calls_pure (G := (⟨TT.plain _, (fun f => false), noFar, true, (invL A n cap), noInv, noPV, noCV w⟩ : Cfg Try.prog)) (noCV_ok' Try.prog w) (noPV_ok Try.prog) 200 Try.func15 rfl (Q := fun v => ∃ b : Bool, v = .bool b) ((walk_long A n cap w (fun v => ∃ b : Bool, v = .bool b)).mp ?_)).mono
    (fun e w' ⟨v, he, ⟨b, hb⟩, B⟩ => ⟨b, by rw [he, hb], B⟩)
  refine ⟨⟨0, rfl, rfl, ⟨⟨Int.le_refl 0, by omega⟩, trivial⟩⟩, ?_⟩
  intro i gs ⟨h0, h1⟩
  refine br_intro (fun c1 => ?_) (fun _ => ⟨⟨_, rfl⟩⟩)
  simp only [Bool.and_eq_true, decide_eq_true_eq] at c1
  have hm := hA.max
  obtain ⟨a, f0, f1, f2, g0, g1, g2, g3, g4, g5, g6, g7, g8, A9, n9, c9, A10, n10, c10, hA, x⟩ := hA.at_ i h0 c1.1
  have k9 := cellsAt_out x.note 9 _ rfl
  have k10 := cellsAt_out x.note 10 _ rfl
  have hb := x.blk
  simp only [blk_add] at hb
  refine ⟨a, ⟨hA, h0, c1.1⟩, A9, n9, c9, ⟨⟨(by simp only [blk_add]; exact hb), trivial⟩, k9⟩, a, fun _ => ⟨hA, h0, c1.1⟩, A10, n10, c10, fun _ => ⟨⟨(by simp only [blk_add]; exact hb), trivial⟩, k10⟩, ?_⟩
  refine br_intro (fun _ => ⟨⟨_, rfl⟩⟩) (fun _ => ?_)
  have hw : IntKind.i64.wrap (i + 1) = i + 1 := by
    simp [IntKind.wrap, IntKind.signed, IntKind.bits]
    omega
  exact ⟨rfl, rfl, i + 1, rfl, by rw [hw], ⟨⟨⟨by omega, by omega⟩, by omega⟩⟩⟩

end Go.VX
