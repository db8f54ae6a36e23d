/- The walk of function 28 (rload), told by the verified walk VX, and its contract. -/
import Derived.Test.YtgghljienippgaaVX
import Derived.Test.YtgghljienippgaaProg
import Derived.Test.YtgghljienippgaaVM
import Derived.Test.YtgghljienippgaaVS
import Derived.Test.YtgghljienippgaaVLd
import Derived.Test.YtgghljienippgaaVrcheck
import Derived.Test.YtgghljienippgaaVof8
namespace Go.VX
open Go.Proofs
open Go.RowKit (Below)
set_option linter.unusedVariables false
set_option linter.unusedSimpArgs false
set_option maxRecDepth 100000
set_option maxHeartbeats 4000000
open Go.VX.M17

theorem walk_rload (A : Option Addr) (m c : Nat) (w : World) (Q : Option (List Value) → Prop) : (Go.VX.br ((↑m : Int) != 39) (Int.ofNat 170 = Int.ofNat 170 ∧ Go.VX.Done (Q Option.none)) (Bool.true = Bool.true ∧ (Int.le 0 8 ∧ 8 ≤ (↑c : Int) ∧ (↑c : Int) ≤ (↑c : Int)) ∧ (Int.le 0 8 ∧ Int.le 8 16 ∧ 16 ≤ (↑c : Int) ∧ (↑c : Int) ≤ (↑c : Int)) ∧ ∀ (x0 : Option Go.Addr), (x0 = if Int.toNat (↑c : Int) = Int.toNat 8 then A else Option.map (fun (x : Go.Addr) ↦ Go.Addr.add x (Int.toNat 8 * 1)) A) → (Int.le 0 16 ∧ Int.le 16 24 ∧ 24 ≤ (↑c : Int) ∧ (↑c : Int) ≤ (↑c : Int)) ∧ ∀ (x2 : Option Go.Addr), (x2 = if Int.toNat (↑c : Int) = Int.toNat 16 then A else Option.map (fun (x : Go.Addr) ↦ Go.Addr.add x (Int.toNat 16 * 1)) A) → ∃ (v4 : List Go.Value), (List.length v4 = 8 ∧ List.all v4 Go.VX.flat = Bool.true ∧ (0 < 8 → ∃ (v6 : Go.Addr), A = Option.some v6 ∧ (v6.block < Array.size w.heap ∧ True) ∧ Go.VX.cellsAt w v6 0 v4)) ∧ ∃ (v7 : List Int), v4 = List.map (Go.Value.int Go.IntKind.u8) v7 ∧ (∀ (x8 : Int), List.Mem x8 v7 → 0 ≤ x8 ∧ x8 ≤ 255) ∧ ∃ (v10 : List Go.Value), (List.length v10 = 8 ∧ List.all v10 Go.VX.flat = Bool.true ∧ (0 < 8 → ∃ (v12 : Go.Addr), x0 = Option.some v12 ∧ (v12.block < Array.size w.heap ∧ True) ∧ Go.VX.cellsAt w v12 0 v10)) ∧ ∃ (v13 : List Int), v10 = List.map (Go.Value.int Go.IntKind.u8) v13 ∧ (∀ (x14 : Int), List.Mem x14 v13 → 0 ≤ x14 ∧ x14 ≤ 255) ∧ ∃ (v16 : List Go.Value), (List.length v16 = 8 ∧ List.all v16 Go.VX.flat = Bool.true ∧ (0 < 8 → ∃ (v18 : Go.Addr), x2 = Option.some v18 ∧ (v18.block < Array.size w.heap ∧ True) ∧ Go.VX.cellsAt w v18 0 v16)) ∧ ∃ (v19 : List Int), v16 = List.map (Go.Value.int Go.IntKind.u8) v19 ∧ (∀ (x20 : Int), List.Mem x20 v19 → 0 ≤ x20 ∧ x20 ≤ 255) ∧ ∀ (g22 : Nat), Array.size w.heap ≤ g22 → (Int.le 0 24 ∧ Int.le 24 28 ∧ 28 ≤ (↑c : Int) ∧ (↑c : Int) ≤ (↑c : Int)) ∧ ∀ (x24 : Option Go.Addr), (x24 = if Int.toNat (↑c : Int) = Int.toNat 24 then A else Option.map (fun (x : Go.Addr) ↦ Go.Addr.add x (Int.toNat 24 * 1)) A) → ∃ (v26 : List Go.Value), (List.length v26 = 4 ∧ List.all v26 Go.VX.flat = Bool.true ∧ (0 < 4 → ∃ (v28 : Go.Addr), x24 = Option.some v28 ∧ (v28.block < Array.size w.heap ∧ True) ∧ Go.VX.cellsAt w v28 0 v26)) ∧ ∃ (v29 : List Int), v26 = List.map (Go.Value.int Go.IntKind.u8) v29 ∧ (∀ (x30 : Int), List.Mem x30 v29 → 0 ≤ x30 ∧ x30 ≤ 255) ∧ g22 = g22 ∧ ∃ (v32 : Go.Addr), (A = Option.some v32 ∧ Int.le 0 28 ∧ 28 < (↑m : Int)) ∧ ∃ (v33 : Int), (((Go.Addr.add v32 28).block < Array.size w.heap ∧ True) ∧ Go.World.cell? w (Go.Addr.add v32 28) = Option.some (Go.Value.int Go.IntKind.u8 v33)) ∧ g22 = g22 ∧ (Int.le 0 29 ∧ Int.le 29 37 ∧ 37 ≤ (↑c : Int) ∧ (↑c : Int) ≤ (↑c : Int)) ∧ ∀ (x34 : Option Go.Addr), (x34 = if Int.toNat (↑c : Int) = Int.toNat 29 then A else Option.map (fun (x : Go.Addr) ↦ Go.Addr.add x (Int.toNat 29 * 1)) A) → ∃ (v36 : List Go.Value), (List.length v36 = 8 ∧ List.all v36 Go.VX.flat = Bool.true ∧ (0 < 8 → ∃ (v38 : Go.Addr), x34 = Option.some v38 ∧ (v38.block < Array.size w.heap ∧ True) ∧ Go.VX.cellsAt w v38 0 v36)) ∧ ∃ (v39 : List Int), v36 = List.map (Go.Value.int Go.IntKind.u8) v39 ∧ (∀ (x40 : Int), List.Mem x40 v39 → 0 ≤ x40 ∧ x40 ≤ 255) ∧ g22 = g22 ∧ ∃ (v42 : Go.Addr), (A = Option.some v42 ∧ Int.le 0 37 ∧ 37 < (↑m : Int)) ∧ ∃ (v43 : Int), (((Go.Addr.add v42 37).block < Array.size w.heap ∧ True) ∧ Go.World.cell? w (Go.Addr.add v42 37) = Option.some (Go.Value.int Go.IntKind.u8 v43)) ∧ g22 = g22 ∧ g22 = g22 ∧ (0 ≤ Go.IntKind.wrap Go.IntKind.u32 (Go.VX.valO 4 v29) ∧ 0 ≤ Go.VX.valO 8 v39) ∧ Bool.true = Bool.true ∧ g22 = g22 ∧ g22 = g22 ∧ g22 = g22 ∧ g22 = g22 ∧ ∃ (v44 : Go.Addr), ((!(Decidable.decide (Go.VX.valO (Int.toNat 8) v7 < 1) || Decidable.decide (Go.VX.valO (Int.toNat 8) v7 > 10000) || Decidable.decide (Go.VX.valO (Int.toNat 16 - Int.toNat 8) v13 > 10000) || Decidable.decide (Go.VX.valO (Int.toNat 24 - Int.toNat 16) v19 > 4611686018427387904) || Go.VX.M17.mCheck (Go.IntKind.wrap Go.IntKind.u32 (Go.VX.valO 4 v29)) (Go.IntKind.wrap Go.IntKind.i64 v33) (Go.VX.valO 8 v39) (Go.IntKind.wrap Go.IntKind.i64 v43) != 0)) = Bool.true → A = Option.some v44 ∧ Int.le 0 38 ∧ 38 < (↑m : Int)) ∧ ∃ (v46 : Int), ((!(Decidable.decide (Go.VX.valO (Int.toNat 8) v7 < 1) || Decidable.decide (Go.VX.valO (Int.toNat 8) v7 > 10000) || Decidable.decide (Go.VX.valO (Int.toNat 16 - Int.toNat 8) v13 > 10000) || Decidable.decide (Go.VX.valO (Int.toNat 24 - Int.toNat 16) v19 > 4611686018427387904) || Go.VX.M17.mCheck (Go.IntKind.wrap Go.IntKind.u32 (Go.VX.valO 4 v29)) (Go.IntKind.wrap Go.IntKind.i64 v33) (Go.VX.valO 8 v39) (Go.IntKind.wrap Go.IntKind.i64 v43) != 0)) = Bool.true → ((Go.Addr.add v44 38).block < Array.size w.heap ∧ True) ∧ Go.World.cell? w (Go.Addr.add v44 38) = Option.some (Go.Value.int Go.IntKind.u8 v46)) ∧ ∃ (v48 : Go.Addr), ((!(Decidable.decide (Go.VX.valO (Int.toNat 8) v7 < 1) || Decidable.decide (Go.VX.valO (Int.toNat 8) v7 > 10000) || Decidable.decide (Go.VX.valO (Int.toNat 16 - Int.toNat 8) v13 > 10000) || Decidable.decide (Go.VX.valO (Int.toNat 24 - Int.toNat 16) v19 > 4611686018427387904) || Go.VX.M17.mCheck (Go.IntKind.wrap Go.IntKind.u32 (Go.VX.valO 4 v29)) (Go.IntKind.wrap Go.IntKind.i64 v33) (Go.VX.valO 8 v39) (Go.IntKind.wrap Go.IntKind.i64 v43) != 0)) = Bool.true → A = Option.some v48 ∧ Int.le 0 28 ∧ 28 < (↑m : Int)) ∧ ∃ (v50 : Int), ((!(Decidable.decide (Go.VX.valO (Int.toNat 8) v7 < 1) || Decidable.decide (Go.VX.valO (Int.toNat 8) v7 > 10000) || Decidable.decide (Go.VX.valO (Int.toNat 16 - Int.toNat 8) v13 > 10000) || Decidable.decide (Go.VX.valO (Int.toNat 24 - Int.toNat 16) v19 > 4611686018427387904) || Go.VX.M17.mCheck (Go.IntKind.wrap Go.IntKind.u32 (Go.VX.valO 4 v29)) (Go.IntKind.wrap Go.IntKind.i64 v33) (Go.VX.valO 8 v39) (Go.IntKind.wrap Go.IntKind.i64 v43) != 0)) = Bool.true → ((Go.Addr.add v48 28).block < Array.size w.heap ∧ True) ∧ Go.World.cell? w (Go.Addr.add v48 28) = Option.some (Go.Value.int Go.IntKind.u8 v50)) ∧ Go.VX.br (Decidable.decide (Go.VX.valO (Int.toNat 8) v7 < 1) || Decidable.decide (Go.VX.valO (Int.toNat 8) v7 > 10000) || Decidable.decide (Go.VX.valO (Int.toNat 16 - Int.toNat 8) v13 > 10000) || Decidable.decide (Go.VX.valO (Int.toNat 24 - Int.toNat 16) v19 > 4611686018427387904) || Go.VX.M17.mCheck (Go.IntKind.wrap Go.IntKind.u32 (Go.VX.valO 4 v29)) (Go.IntKind.wrap Go.IntKind.i64 v33) (Go.VX.valO 8 v39) (Go.IntKind.wrap Go.IntKind.i64 v43) != 0 || v46 != v50) (Int.ofNat 170 = Int.ofNat 170 ∧ Go.VX.Done (Q Option.none)) ((Int.ofNat 0 = Int.ofNat 0 ∧ g22 = g22 ∧ 54 = 54) ∧ Go.VX.Done (Q (Option.some [Go.Value.int Go.IntKind.u64 (Go.VX.valO 8 v7), Go.Value.int Go.IntKind.u64 (Go.VX.valO 8 v13), Go.Value.int Go.IntKind.u64 (Go.VX.valO 8 v19), Go.Value.int Go.IntKind.u32 (Go.IntKind.wrap Go.IntKind.u32 (Go.VX.valO 4 v29)), Go.Value.int Go.IntKind.i64 (Go.IntKind.wrap Go.IntKind.i64 v33), Go.Value.int Go.IntKind.u64 (Go.VX.valO 8 v39), Go.Value.int Go.IntKind.i64 (Go.IntKind.wrap Go.IntKind.i64 v43)]))))) = codeVC (⟨TT.plain _, (fun f => false), noFar, true, noInv, noInv, pvrcheck, spof w⟩ : Cfg Try.prog) w 200 (Try.f28.body.getD .skip) ⟨⟨w, []⟩, mkT Try.f28.ntmps [.slice A m c] [[[some 1001]]], []⟩ (retK Try.prog Try.f28 fun b v s h => newK h (loadE 54 170 h v s fun r => Done (Q r))) := by
  kernel_rfl

theorem rload_calls (x : Value) (m : Nat) (ns : List Int) (w : World) (B0 : BytesAt w x m ns) (hp : Bs ns ∧ ∀ A m c, x = .slice A m c → m ≤ c) :
    Calls Try.prog 28 [x].toArray w fun e w' => Below w.heap.size w w' ∧ LoadAt w 54 170 (bif ldOk ns then some (ldR ns) else none) e w' := by
  obtain ⟨hb, hcap⟩ := hp
  obtain ⟨A, c, rfl, hl, hA, hc⟩ := id B0
  have hmc := hcap A m c rfl
  refine (calls_load (G := (⟨TT.plain _, (fun f => false), noFar, true, noInv, noInv, pvrcheck, spof w⟩ : Cfg Try.prog)) (spof_ok Try.prog w rfl) (pvrcheck_ok Try.prog rfl) 200 Try.func28 rfl (Q := fun r => r = bif ldOk ns then some (ldR ns) else none) ((walk_rload A m c w (fun r => r = bif ldOk ns then some (ldR ns) else none)).mp ?_)).mono fun e w' ⟨hB, r, hr, h⟩ => ⟨hB, by rw [← hr]; exact h⟩
  refine br_intro (fun h => ?_) (fun h => ?_)
  · refine ⟨rfl, ⟨?_⟩⟩
    have hm : m ≠ 39 := by simp at h; omega
    show none = _
    rw [show ldOk ns = false from decide_eq_false (fun h' => hm (hl.symm.trans h'.1))]; rfl
  have hm : m = 39 := by simp at h; omega
  subst hm
  clear hcap h
  cases A with
  | none => exact absurd rfl (hA (by decide))
  | some a =>
  have hcell : ∀ i, i < 39 → w.cell? (a.add i) = some (.int .u8 (nth ns i)) := by
    intro i hi
    refine hc a rfl i _ ?_
    unfold nth
    rw [List.getD_eq_getElem?_getD, List.getElem?_eq_getElem (by omega)]
    rfl
  have hblk : ∀ i, (a.add i).block < w.heap.size := fun i => by
    have := cell_lt (hcell 0 (by decide))
    rw [blk_add] at this ⊢; exact this
  have hbs : ∀ o k, Bs ((ns.drop o).take k) := fun o k x hx => hb x (List.mem_of_mem_drop (List.mem_of_mem_take hx))
  have hA0 : some a = if (c : Int).toNat = ((0 : Nat) : Int).toNat then some a else (some a).map (fun x => x.add (((0 : Nat) : Int).toNat * 1)) := by
    rw [if_neg (by omega)]; simp [Addr.add]
  repeat (first | refine And.intro rfl ?_ | refine And.intro ⟨rfl, rfl⟩ ?_ | refine And.intro ⟨rfl, rfl, rfl⟩ ?_)
  refine ⟨⟨(show (_ : Int) ≤ _ by decide), by omega, by omega⟩, ⟨(show (_ : Int) ≤ _ by decide), (show (_ : Int) ≤ _ by decide), by omega, by omega⟩, fun x0 hx0 => ⟨⟨(show (_ : Int) ≤ _ by decide), (show (_ : Int) ≤ _ by decide), by omega, by omega⟩, fun x2 hx2 => ?_⟩⟩
  repeat (first | refine And.intro rfl ?_ | refine And.intro ⟨rfl, rfl⟩ ?_ | refine And.intro ⟨rfl, rfl, rfl⟩ ?_)
  refine ⟨((ns.drop 0).take 8).map (Value.int .u8), (BytesAt.sub (c' := 8) (k := 8) (o := 0) B0 (by decide) (by decide) hmc hA0).far (h := []) rfl, (ns.drop 0).take 8, rfl, hbs 0 8, ?_⟩
  repeat (first | refine And.intro rfl ?_ | refine And.intro ⟨rfl, rfl⟩ ?_ | refine And.intro ⟨rfl, rfl, rfl⟩ ?_)
  refine ⟨((ns.drop 8).take 8).map (Value.int .u8), (BytesAt.sub (c' := 8) (k := 8) (o := 8) B0 (by decide) (by decide) hmc hx0).far (h := []) rfl, (ns.drop 8).take 8, rfl, hbs 8 8, ?_⟩
  repeat (first | refine And.intro rfl ?_ | refine And.intro ⟨rfl, rfl⟩ ?_ | refine And.intro ⟨rfl, rfl, rfl⟩ ?_)
  refine ⟨((ns.drop 16).take 8).map (Value.int .u8), (BytesAt.sub (c' := 8) (k := 8) (o := 16) B0 (by decide) (by decide) hmc hx2).far (h := []) rfl, (ns.drop 16).take 8, rfl, hbs 16 8, ?_⟩
  intro g22 hg22
  repeat (first | refine And.intro rfl ?_ | refine And.intro ⟨rfl, rfl⟩ ?_ | refine And.intro ⟨rfl, rfl, rfl⟩ ?_)
  refine ⟨⟨(show (_ : Int) ≤ _ by decide), (show (_ : Int) ≤ _ by decide), by omega, by omega⟩, fun x24 hx24 => ?_⟩
  repeat (first | refine And.intro rfl ?_ | refine And.intro ⟨rfl, rfl⟩ ?_ | refine And.intro ⟨rfl, rfl, rfl⟩ ?_)
  refine ⟨((ns.drop 24).take 4).map (Value.int .u8), (BytesAt.sub (c' := 4) (k := 4) (o := 24) B0 (by decide) (by decide) hmc hx24).far (h := []) rfl, (ns.drop 24).take 4, rfl, hbs 24 4, ?_⟩
  repeat (first | refine And.intro rfl ?_ | refine And.intro ⟨rfl, rfl⟩ ?_ | refine And.intro ⟨rfl, rfl, rfl⟩ ?_)
  refine ⟨a, ⟨rfl, (show (_ : Int) ≤ _ by decide), by decide⟩, nth ns 28, ⟨⟨hblk 28, trivial⟩, hcell 28 (by decide)⟩, ?_⟩
  repeat (first | refine And.intro rfl ?_ | refine And.intro ⟨rfl, rfl⟩ ?_ | refine And.intro ⟨rfl, rfl, rfl⟩ ?_)
  refine ⟨⟨(show (_ : Int) ≤ _ by decide), (show (_ : Int) ≤ _ by decide), by omega, by omega⟩, fun x34 hx34 => ?_⟩
  repeat (first | refine And.intro rfl ?_ | refine And.intro ⟨rfl, rfl⟩ ?_ | refine And.intro ⟨rfl, rfl, rfl⟩ ?_)
  refine ⟨((ns.drop 29).take 8).map (Value.int .u8), (BytesAt.sub (c' := 8) (k := 8) (o := 29) B0 (by decide) (by decide) hmc hx34).far (h := []) rfl, (ns.drop 29).take 8, rfl, hbs 29 8, ?_⟩
  have e0 : valO 8 ((ns.drop 0).take 8) = o8 ns 0 := o8_cut ns 0
  have e1 : valO 8 ((ns.drop 8).take 8) = o8 ns 8 := o8_cut ns 8
  have e2 : valO 8 ((ns.drop 16).take 8) = o8 ns 16 := o8_cut ns 16
  have e3 : IntKind.u32.wrap (valO 4 ((ns.drop 24).take 4)) = o4 ns 24 := by
    rw [show valO 4 ((ns.drop 24).take 4) = o4 ns 24 from o4_cut ns 24, w32]
    have := o4_range hb 24; omega
  have e5 : valO 8 ((ns.drop 29).take 8) = o8 ns 29 := o8_cut ns 29
  have wn : ∀ i, IntKind.i64.wrap (nth ns i) = nth ns i := by
    intro i
    have h := hb.nth i
    simp [IntKind.wrap, IntKind.signed, IntKind.bits]
    omega
  repeat (first | refine And.intro rfl ?_ | refine And.intro ⟨rfl, rfl⟩ ?_ | refine And.intro ⟨rfl, rfl, rfl⟩ ?_)
  refine ⟨a, ⟨rfl, (show (_ : Int) ≤ _ by decide), by decide⟩, nth ns 37, ⟨⟨hblk 37, trivial⟩, hcell 37 (by decide)⟩, ?_⟩
  repeat (first | refine And.intro rfl ?_ | refine And.intro ⟨rfl, rfl⟩ ?_ | refine And.intro ⟨rfl, rfl, rfl⟩ ?_)
  refine ⟨⟨by rw [e3]; exact (o4_range hb 24).1, by rw [e5]; exact (o8_range hb 29).1⟩, ?_⟩
  repeat (first | refine And.intro rfl ?_ | refine And.intro ⟨rfl, rfl⟩ ?_ | refine And.intro ⟨rfl, rfl, rfl⟩ ?_)
  refine ⟨a, fun _ => ⟨rfl, (show (_ : Int) ≤ _ by decide), by decide⟩, nth ns 38, fun _ => ⟨⟨hblk 38, trivial⟩, hcell 38 (by decide)⟩, a, fun _ => ⟨rfl, (show (_ : Int) ≤ _ by decide), by decide⟩, nth ns 28, fun _ => ⟨⟨hblk 28, trivial⟩, hcell 28 (by decide)⟩, ?_⟩
  repeat (first | refine And.intro rfl ?_ | refine And.intro ⟨rfl, rfl⟩ ?_ | refine And.intro ⟨rfl, rfl, rfl⟩ ?_)
  show br (decide (valO 8 _ < 1) || decide (valO 8 _ > 10000) || decide (valO 8 _ > 10000) || decide (valO 8 _ > 4611686018427387904) || mCheck _ _ _ _ != 0 || _ != _) _ _
  rw [e0, e1, e2, e3, e5, wn, wn]
  refine br_intro (fun h9 => ?_) (fun h9 => ?_)
  · repeat (first | refine And.intro rfl ?_ | refine And.intro ⟨rfl, rfl⟩ ?_ | refine And.intro ⟨rfl, rfl, rfl⟩ ?_)
    refine ⟨?_⟩
    show none = _
    rw [show ldOk ns = false from decide_eq_false (fun h' => ?_)]; rfl
    obtain ⟨_, q1, q2, q3, q4, q5, q6⟩ := h'
    rw [q5, q6] at h9
    simp at h9
    omega
  · repeat (first | refine And.intro rfl ?_ | refine And.intro ⟨rfl, rfl⟩ ?_ | refine And.intro ⟨rfl, rfl, rfl⟩ ?_)
    refine ⟨?_⟩
    show some _ = _
    rw [show ldOk ns = true from decide_eq_true ?_]; rfl
    simp at h9
    exact ⟨hl, by omega, by omega, by omega, by omega, by omega, by omega⟩

end Go.VX
