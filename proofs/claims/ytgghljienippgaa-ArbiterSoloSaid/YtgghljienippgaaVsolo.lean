/- The walk of function 5 (solo), told by the verified walk VX, and its contract. -/
import Derived.Test.YtgghljienippgaaVX
import Derived.Test.YtgghljienippgaaProg
import Derived.Test.YtgghljienippgaaVM
import Derived.Test.YtgghljienippgaaVL
import Derived.Test.YtgghljienippgaaVP
import Derived.Test.YtgghljienippgaaVsr
namespace Go.VX
open Go.Proofs
open Go.RowKit (Below)
set_option linter.unusedVariables false
set_option linter.unusedSimpArgs false
set_option maxRecDepth 100000
open Go.VX.M17

theorem walk_solo (a0 a2 : Int) (A : Option Addr) (n cap : Nat) (w : World) (Q : Value → Prop) : ([Go.Value.slice A n cap] = [Go.Value.slice A n cap] ∧ ∀ (x0 : Bool), Go.VX.br x0 (Go.VX.Done (Q (Go.Value.bool Bool.true))) (Go.VX.br (!(Decidable.decide (Go.IntKind.wrap Go.IntKind.u64 (1 + Int.tmod a0 50) ≥ 1) && Decidable.decide (Go.IntKind.wrap Go.IntKind.u64 (1 + Int.tmod a0 50) ≤ 10000)) && Bool.true) (Go.VX.Done (Q (Go.Value.bool Bool.false))) (∀ (g1 : Nat), Array.size w.heap ≤ g1 → ∀ (g3 : Nat), Array.size w.heap ≤ g3 → g3 = g3 ∧ g3 = (Go.Addr.add (Go.Addr.mk g3 0 Option.none) 0).block ∧ g3 = (Go.Addr.add (Go.Addr.mk g3 0 Option.none) 1).block ∧ g3 = (Go.Addr.add (Go.Addr.mk g3 0 Option.none) 2).block ∧ g3 = (Go.Addr.add (Go.Addr.mk g3 0 Option.none) 3).block ∧ g3 = (Go.Addr.add (Go.Addr.mk g3 0 Option.none) 4).block ∧ g3 = (Go.Addr.add (Go.Addr.mk g3 0 Option.none) 5).block ∧ g3 = (Go.Addr.add (Go.Addr.mk g3 0 Option.none) 6).block ∧ g3 = (Go.Addr.add (Go.Addr.mk g3 0 Option.none) 7).block ∧ g3 = (Go.Addr.add (Go.Addr.mk g3 0 Option.none) 8).block ∧ g3 = (Go.Addr.add (Go.Addr.mk g3 0 Option.none) 9).block ∧ g3 = (Go.Addr.add (Go.Addr.mk g3 0 Option.none) 10).block ∧ (g1 = g1 ∧ 71 = 71) ∧ ∀ (x5 : Go.VX.M17.SR), Go.VX.M17.mServe (Go.IntKind.wrap Go.IntKind.u64 (1 + Int.tmod a0 50)) 3 0 0 0 0 1 0 (Go.IntKind.wrap Go.IntKind.i64 (1 + Go.IntKind.wrap Go.IntKind.i64 (Int.tmod (Go.IntKind.wrap Go.IntKind.u64 a2) 2))) 4 0 0 0 0 0 0 Bool.false 0 0 0 = x5 → ∀ (g7 : Nat), Array.size w.heap ≤ g7 → g7 = g7 ∧ g7 = g7 ∧ ∀ (g9 : Nat), Array.size w.heap ≤ g9 → g9 = g9 ∧ g9 = (Go.Addr.add (Go.Addr.mk g9 0 Option.none) 0).block ∧ g9 = (Go.Addr.add (Go.Addr.mk g9 0 Option.none) 1).block ∧ g9 = (Go.Addr.add (Go.Addr.mk g9 0 Option.none) 2).block ∧ g9 = (Go.Addr.add (Go.Addr.mk g9 0 Option.none) 3).block ∧ g9 = (Go.Addr.add (Go.Addr.mk g9 0 Option.none) 4).block ∧ g9 = (Go.Addr.add (Go.Addr.mk g9 0 Option.none) 5).block ∧ g9 = (Go.Addr.add (Go.Addr.mk g9 0 Option.none) 6).block ∧ g9 = (Go.Addr.add (Go.Addr.mk g9 0 Option.none) 7).block ∧ g9 = (Go.Addr.add (Go.Addr.mk g9 0 Option.none) 8).block ∧ g9 = (Go.Addr.add (Go.Addr.mk g9 0 Option.none) 9).block ∧ g9 = (Go.Addr.add (Go.Addr.mk g9 0 Option.none) 10).block ∧ (g1 = g1 ∧ 71 = 71) ∧ ∀ (x11 : Go.VX.M17.SR), Go.VX.M17.mServe (Go.IntKind.wrap Go.IntKind.u64 (1 + Int.tmod a0 50)) 3 0 x5.e x5.ho x5.u x5.mo x5.la (Go.IntKind.wrap Go.IntKind.i64 (1 + Go.IntKind.wrap Go.IntKind.i64 (Int.tmod (Go.IntKind.wrap Go.IntKind.u64 a2) 2))) 4 x5.ep 0 0 0 0 0 Bool.false 2 0 0 = x11 → ∀ (g13 : Nat), Array.size w.heap ≤ g13 → g13 = g13 ∧ g7 = g7 ∧ g13 = g13 ∧ g13 = g13 ∧ Go.VX.br (x5.kind != 5 || x11.kind != 5 || x11.code != 2) (Go.VX.Done (Q (Go.Value.bool Bool.false))) ((∃ (v15 : Int × Int × Int × Int), Go.Value.slice A n cap = Go.Value.slice A n cap ∧ Go.Value.pointer (Option.some (Go.Addr.mk g1 0 Option.none)) = Go.Value.pointer (Option.some (Go.Addr.mk g1 0 Option.none)) ∧ Go.Value.int Go.IntKind.i64 (Go.IntKind.wrap Go.IntKind.i64 (1 + Go.IntKind.wrap Go.IntKind.i64 (Int.tmod (Go.IntKind.wrap Go.IntKind.u64 a2) 2))) = Go.Value.int Go.IntKind.i64 (Go.IntKind.wrap Go.IntKind.i64 (1 + Go.IntKind.wrap Go.IntKind.i64 (Int.tmod (Go.IntKind.wrap Go.IntKind.u64 a2) 2))) ∧ Go.Value.int Go.IntKind.i64 0 = Go.Value.int Go.IntKind.i64 v15.fst ∧ (g1 = g1 ∧ [Go.Value.int Go.IntKind.u64 (Go.IntKind.wrap Go.IntKind.u64 (1 + Int.tmod a0 50)), Go.Value.int Go.IntKind.u64 3, Go.Value.int Go.IntKind.u64 0, Go.Value.int Go.IntKind.u32 x11.e, Go.Value.int Go.IntKind.i64 x11.ho, Go.Value.int Go.IntKind.u64 x11.u, Go.Value.int Go.IntKind.i64 x11.mo, Go.Value.int Go.IntKind.i64 x11.la] = [Go.Value.int Go.IntKind.u64 (Go.IntKind.wrap Go.IntKind.u64 (1 + Int.tmod a0 50)), Go.Value.int Go.IntKind.u64 3, Go.Value.int Go.IntKind.u64 v15.snd.fst, Go.Value.int Go.IntKind.u32 v15.snd.snd.fst, Go.Value.int Go.IntKind.i64 (Go.IntKind.wrap Go.IntKind.i64 (1 + Go.IntKind.wrap Go.IntKind.i64 (Int.tmod (Go.IntKind.wrap Go.IntKind.u64 a2) 2))), Go.Value.int Go.IntKind.u64 v15.snd.snd.snd, Go.Value.int Go.IntKind.i64 2, Go.Value.int Go.IntKind.i64 (Go.IntKind.wrap Go.IntKind.i64 (1 + Go.IntKind.wrap Go.IntKind.i64 (Int.tmod (Go.IntKind.wrap Go.IntKind.u64 a2) 2)))] ∧ 71 = 71) ∧ Array.size w.heap ≤ g3 ∧ Array.size w.heap ≤ g7 ∧ Array.size w.heap ≤ g9 ∧ Array.size w.heap ≤ g13 ∧ Go.VX.Done ((0 ≤ v15.fst ∧ v15.fst ≤ 60 ∧ v15.fst ≤ (↑n : Int) ∧ 0 ≤ v15.snd.fst ∧ v15.snd.fst ≤ 200 * v15.fst ∧ 1 ≤ v15.snd.snd.fst ∧ v15.snd.snd.fst ≤ v15.fst + 1 ∧ 0 ≤ v15.snd.snd.snd ∧ v15.snd.snd.snd ≤ v15.snd.fst + 50) ∧ True)) ∧ ∀ (x16 : Int × Int × Int × Int) (x17 : Nat → Go.Value), 0 ≤ x16.fst ∧ x16.fst ≤ 60 ∧ x16.fst ≤ (↑n : Int) ∧ 0 ≤ x16.snd.fst ∧ x16.snd.fst ≤ 200 * x16.fst ∧ 1 ≤ x16.snd.snd.fst ∧ x16.snd.snd.fst ≤ x16.fst + 1 ∧ 0 ≤ x16.snd.snd.snd ∧ x16.snd.snd.snd ≤ x16.snd.fst + 50 → Go.VX.br (Decidable.decide (x16.fst < (↑n : Int)) && Decidable.decide (x16.fst < 60)) ((g1 = g1 ∧ 71 = 71) ∧ ∀ (g19 : Nat), Array.size w.heap ≤ g19 → g19 = g19 ∧ ∃ (v21 : Go.Addr), (A = Option.some v21 ∧ 0 ≤ x16.fst ∧ x16.fst < (↑n : Int)) ∧ ∃ (v22 : Int), (((Go.Addr.add (Go.Addr.add v21 (Int.toNat x16.fst * 14)) 0).block < Array.size w.heap ∧ True) ∧ Go.World.cell? w (Go.Addr.add (Go.Addr.add v21 (Int.toNat x16.fst * 14)) 0) = Option.some (Go.Value.int Go.IntKind.i64 v22)) ∧ ∃ (v23 : Go.Addr), ((!v22 == 0) = Bool.true → A = Option.some v23 ∧ 0 ≤ x16.fst ∧ x16.fst < (↑n : Int)) ∧ ∃ (v25 : Int), ((!v22 == 0) = Bool.true → ((Go.Addr.add (Go.Addr.add v23 (Int.toNat x16.fst * 14)) 0).block < Array.size w.heap ∧ True) ∧ Go.World.cell? w (Go.Addr.add (Go.Addr.add v23 (Int.toNat x16.fst * 14)) 0) = Option.some (Go.Value.int Go.IntKind.i64 v25)) ∧ Go.VX.br (v22 == 0 || v25 == 1) (∃ (v27 : Go.Addr), (A = Option.some v27 ∧ 0 ≤ x16.fst ∧ x16.fst < (↑n : Int)) ∧ ∃ (v28 : Int), (((Go.Addr.add (Go.Addr.add v27 (Int.toNat x16.fst * 14)) 1).block < Array.size w.heap ∧ True) ∧ Go.World.cell? w (Go.Addr.add (Go.Addr.add v27 (Int.toNat x16.fst * 14)) 1) = Option.some (Go.Value.int Go.IntKind.i64 v28)) ∧ (g1 = g1 ∧ 71 = 71) ∧ Bool.true = Bool.true ∧ w = w ∧ ∃ (v29 : Int × Int × Int × Int), Go.Value.slice A n cap = Go.Value.slice A n cap ∧ Go.Value.pointer (Option.some (Go.Addr.mk g1 0 Option.none)) = Go.Value.pointer (Option.some (Go.Addr.mk g1 0 Option.none)) ∧ Go.Value.int Go.IntKind.i64 (Go.IntKind.wrap Go.IntKind.i64 (1 + Go.IntKind.wrap Go.IntKind.i64 (Int.tmod (Go.IntKind.wrap Go.IntKind.u64 a2) 2))) = Go.Value.int Go.IntKind.i64 (Go.IntKind.wrap Go.IntKind.i64 (1 + Go.IntKind.wrap Go.IntKind.i64 (Int.tmod (Go.IntKind.wrap Go.IntKind.u64 a2) 2))) ∧ Go.Value.int Go.IntKind.i64 (Go.IntKind.wrap Go.IntKind.i64 (x16.fst + 1)) = Go.Value.int Go.IntKind.i64 v29.fst ∧ (g1 = g1 ∧ [Go.Value.int Go.IntKind.u64 (Go.IntKind.wrap Go.IntKind.u64 (1 + Int.tmod a0 50)), Go.Value.int Go.IntKind.u64 3, Go.Value.int Go.IntKind.u64 (Go.VX.M17.mTick x16.snd.fst (Go.IntKind.wrap Go.IntKind.i64 (Int.tmod (Go.IntKind.wrap Go.IntKind.u64 v28) 200))), Go.Value.int Go.IntKind.u32 x16.snd.snd.fst, Go.Value.int Go.IntKind.i64 (Go.IntKind.wrap Go.IntKind.i64 (1 + Go.IntKind.wrap Go.IntKind.i64 (Int.tmod (Go.IntKind.wrap Go.IntKind.u64 a2) 2))), Go.Value.int Go.IntKind.u64 x16.snd.snd.snd, Go.Value.int Go.IntKind.i64 2, Go.Value.int Go.IntKind.i64 (Go.IntKind.wrap Go.IntKind.i64 (1 + Go.IntKind.wrap Go.IntKind.i64 (Int.tmod (Go.IntKind.wrap Go.IntKind.u64 a2) 2)))] = [Go.Value.int Go.IntKind.u64 (Go.IntKind.wrap Go.IntKind.u64 (1 + Int.tmod a0 50)), Go.Value.int Go.IntKind.u64 3, Go.Value.int Go.IntKind.u64 v29.snd.fst, Go.Value.int Go.IntKind.u32 v29.snd.snd.fst, Go.Value.int Go.IntKind.i64 (Go.IntKind.wrap Go.IntKind.i64 (1 + Go.IntKind.wrap Go.IntKind.i64 (Int.tmod (Go.IntKind.wrap Go.IntKind.u64 a2) 2))), Go.Value.int Go.IntKind.u64 v29.snd.snd.snd, Go.Value.int Go.IntKind.i64 2, Go.Value.int Go.IntKind.i64 (Go.IntKind.wrap Go.IntKind.i64 (1 + Go.IntKind.wrap Go.IntKind.i64 (Int.tmod (Go.IntKind.wrap Go.IntKind.u64 a2) 2)))] ∧ 71 = 71) ∧ Array.size w.heap ≤ g19 ∧ Go.VX.Done ((0 ≤ v29.fst ∧ v29.fst ≤ 60 ∧ v29.fst ≤ (↑n : Int) ∧ 0 ≤ v29.snd.fst ∧ v29.snd.fst ≤ 200 * v29.fst ∧ 1 ≤ v29.snd.snd.fst ∧ v29.snd.snd.fst ≤ v29.fst + 1 ∧ 0 ≤ v29.snd.snd.snd ∧ v29.snd.snd.snd ≤ v29.snd.fst + 50) ∧ 60 - Int.toNat v29.fst < 60 - Int.toNat x16.fst)) (Bool.true = Bool.true ∧ ∃ (v30 : Go.Addr), (A = Option.some v30 ∧ 0 ≤ x16.fst ∧ x16.fst < (↑n : Int)) ∧ ∃ (v31 : Int), (((Go.Addr.add (Go.Addr.add v30 (Int.toNat x16.fst * 14)) 2).block < Array.size w.heap ∧ True) ∧ Go.World.cell? w (Go.Addr.add (Go.Addr.add v30 (Int.toNat x16.fst * 14)) 2) = Option.some (Go.Value.int Go.IntKind.i64 v31)) ∧ ∃ (v32 : Go.Addr), (A = Option.some v32 ∧ 0 ≤ x16.fst ∧ x16.fst < (↑n : Int)) ∧ ∃ (v33 : Int), ∃ (v34 : Int), ∃ (v35 : Int), ∃ (v36 : Int), ∃ (v37 : Int), ∃ (v38 : Int), ∃ (v39 : Int), ∃ (v40 : Bool), ∃ (v41 : Int), ∃ (v42 : Option Go.Addr), ∃ (v43 : Nat), ∃ (v44 : Nat), ∃ (v45 : Option Go.Addr), ∃ (v46 : Nat), ∃ (v47 : Nat), (((Go.Addr.add (Go.Addr.add v32 (Int.toNat x16.fst * 14)) 3).block < Array.size w.heap ∧ True) ∧ Go.World.cell? w (Go.Addr.add (Go.Addr.add (Go.Addr.add v32 (Int.toNat x16.fst * 14)) 3) 0) = Option.some (Go.Value.int Go.IntKind.i64 v33) ∧ Go.World.cell? w (Go.Addr.add (Go.Addr.add (Go.Addr.add v32 (Int.toNat x16.fst * 14)) 3) 1) = Option.some (Go.Value.int Go.IntKind.u32 v34) ∧ Go.World.cell? w (Go.Addr.add (Go.Addr.add (Go.Addr.add v32 (Int.toNat x16.fst * 14)) 3) 2) = Option.some (Go.Value.int Go.IntKind.u32 v35) ∧ Go.World.cell? w (Go.Addr.add (Go.Addr.add (Go.Addr.add v32 (Int.toNat x16.fst * 14)) 3) 3) = Option.some (Go.Value.int Go.IntKind.u64 v36) ∧ Go.World.cell? w (Go.Addr.add (Go.Addr.add (Go.Addr.add v32 (Int.toNat x16.fst * 14)) 3) 4) = Option.some (Go.Value.int Go.IntKind.u64 v37) ∧ Go.World.cell? w (Go.Addr.add (Go.Addr.add (Go.Addr.add v32 (Int.toNat x16.fst * 14)) 3) 5) = Option.some (Go.Value.int Go.IntKind.u32 v38) ∧ Go.World.cell? w (Go.Addr.add (Go.Addr.add (Go.Addr.add v32 (Int.toNat x16.fst * 14)) 3) 6) = Option.some (Go.Value.int Go.IntKind.i64 v39) ∧ Go.World.cell? w (Go.Addr.add (Go.Addr.add (Go.Addr.add v32 (Int.toNat x16.fst * 14)) 3) 7) = Option.some (Go.Value.bool v40) ∧ Go.World.cell? w (Go.Addr.add (Go.Addr.add (Go.Addr.add v32 (Int.toNat x16.fst * 14)) 3) 8) = Option.some (Go.Value.int Go.IntKind.i64 v41) ∧ Go.World.cell? w (Go.Addr.add (Go.Addr.add (Go.Addr.add v32 (Int.toNat x16.fst * 14)) 3) 9) = Option.some (Go.Value.slice v42 v43 v44) ∧ Go.World.cell? w (Go.Addr.add (Go.Addr.add (Go.Addr.add v32 (Int.toNat x16.fst * 14)) 3) 10) = Option.some (Go.Value.slice v45 v46 v47) ∧ True) ∧ ((g1 = g1 ∧ 71 = 71) ∧ ∀ (x48 : Go.VX.M17.SR), Go.VX.M17.mServe (Go.IntKind.wrap Go.IntKind.u64 (1 + Int.tmod a0 50)) 3 x16.snd.fst x16.snd.snd.fst (Go.IntKind.wrap Go.IntKind.i64 (1 + Go.IntKind.wrap Go.IntKind.i64 (Int.tmod (Go.IntKind.wrap Go.IntKind.u64 a2) 2))) x16.snd.snd.snd 2 (Go.IntKind.wrap Go.IntKind.i64 (1 + Go.IntKind.wrap Go.IntKind.i64 (Int.tmod (Go.IntKind.wrap Go.IntKind.u64 a2) 2))) v31 v33 v34 v35 v36 v37 v38 v39 v40 v41 v43 v46 = x48 → ∀ (g50 : Nat), Array.size w.heap ≤ g50 → g50 = g50 ∧ (g1 = g1 ∧ 71 = 71) ∧ ∀ (g52 : Nat), Array.size w.heap ≤ g52 → g52 = g52 ∧ g19 = g19 ∧ g50 = g50 ∧ ∃ (v54 : Go.Addr), ((Bool.true && x48.kind == 5) = Bool.true → A = Option.some v54 ∧ 0 ≤ x16.fst ∧ x16.fst < (↑n : Int)) ∧ ∃ (v56 : Int), ((Bool.true && x48.kind == 5) = Bool.true → ((Go.Addr.add (Go.Addr.add v54 (Int.toNat x16.fst * 14)) 2).block < Array.size w.heap ∧ True) ∧ Go.World.cell? w (Go.Addr.add (Go.Addr.add v54 (Int.toNat x16.fst * 14)) 2) = Option.some (Go.Value.int Go.IntKind.i64 v56)) ∧ g52 = g52 ∧ g52 = g52 ∧ g19 = g19 ∧ ∃ (v58 : Go.Addr), ((Bool.true && (!(x48.kind == 5 && v56 != Go.IntKind.wrap Go.IntKind.i64 (1 + Go.IntKind.wrap Go.IntKind.i64 (Int.tmod (Go.IntKind.wrap Go.IntKind.u64 a2) 2)) || x48.ho != Go.IntKind.wrap Go.IntKind.i64 (1 + Go.IntKind.wrap Go.IntKind.i64 (Int.tmod (Go.IntKind.wrap Go.IntKind.u64 a2) 2))) && x48.mo != 2)) = Bool.true → A = Option.some v58 ∧ 0 ≤ x16.fst ∧ x16.fst < (↑n : Int)) ∧ ∃ (v60 : Int), ((Bool.true && (!(x48.kind == 5 && v56 != Go.IntKind.wrap Go.IntKind.i64 (1 + Go.IntKind.wrap Go.IntKind.i64 (Int.tmod (Go.IntKind.wrap Go.IntKind.u64 a2) 2)) || x48.ho != Go.IntKind.wrap Go.IntKind.i64 (1 + Go.IntKind.wrap Go.IntKind.i64 (Int.tmod (Go.IntKind.wrap Go.IntKind.u64 a2) 2))) && x48.mo != 2)) = Bool.true → ((Go.Addr.add (Go.Addr.add v58 (Int.toNat x16.fst * 14)) 2).block < Array.size w.heap ∧ True) ∧ Go.World.cell? w (Go.Addr.add (Go.Addr.add v58 (Int.toNat x16.fst * 14)) 2) = Option.some (Go.Value.int Go.IntKind.i64 v60)) ∧ Go.VX.br (Bool.true && (x48.kind == 5 && v56 != Go.IntKind.wrap Go.IntKind.i64 (1 + Go.IntKind.wrap Go.IntKind.i64 (Int.tmod (Go.IntKind.wrap Go.IntKind.u64 a2) 2)) || x48.ho != Go.IntKind.wrap Go.IntKind.i64 (1 + Go.IntKind.wrap Go.IntKind.i64 (Int.tmod (Go.IntKind.wrap Go.IntKind.u64 a2) 2)) || x48.mo != 2 && v60 != Go.IntKind.wrap Go.IntKind.i64 (1 + Go.IntKind.wrap Go.IntKind.i64 (Int.tmod (Go.IntKind.wrap Go.IntKind.u64 a2) 2)))) (Go.VX.Done (Q (Go.Value.bool Bool.false))) (g52 = g52 ∧ Go.VX.br (x48.mo == 1) (Go.VX.Done (Q (Go.Value.bool Bool.true))) (Bool.true = Bool.true ∧ w = w ∧ ∃ (v62 : Int × Int × Int × Int), Go.Value.slice A n cap = Go.Value.slice A n cap ∧ Go.Value.pointer (Option.some (Go.Addr.mk g1 0 Option.none)) = Go.Value.pointer (Option.some (Go.Addr.mk g1 0 Option.none)) ∧ Go.Value.int Go.IntKind.i64 (Go.IntKind.wrap Go.IntKind.i64 (1 + Go.IntKind.wrap Go.IntKind.i64 (Int.tmod (Go.IntKind.wrap Go.IntKind.u64 a2) 2))) = Go.Value.int Go.IntKind.i64 (Go.IntKind.wrap Go.IntKind.i64 (1 + Go.IntKind.wrap Go.IntKind.i64 (Int.tmod (Go.IntKind.wrap Go.IntKind.u64 a2) 2))) ∧ Go.Value.int Go.IntKind.i64 (Go.IntKind.wrap Go.IntKind.i64 (x16.fst + 1)) = Go.Value.int Go.IntKind.i64 v62.fst ∧ (g1 = g1 ∧ [Go.Value.int Go.IntKind.u64 (Go.IntKind.wrap Go.IntKind.u64 (1 + Int.tmod a0 50)), Go.Value.int Go.IntKind.u64 3, Go.Value.int Go.IntKind.u64 x16.snd.fst, Go.Value.int Go.IntKind.u32 x48.e, Go.Value.int Go.IntKind.i64 x48.ho, Go.Value.int Go.IntKind.u64 x48.u, Go.Value.int Go.IntKind.i64 x48.mo, Go.Value.int Go.IntKind.i64 x48.la] = [Go.Value.int Go.IntKind.u64 (Go.IntKind.wrap Go.IntKind.u64 (1 + Int.tmod a0 50)), Go.Value.int Go.IntKind.u64 3, Go.Value.int Go.IntKind.u64 v62.snd.fst, Go.Value.int Go.IntKind.u32 v62.snd.snd.fst, Go.Value.int Go.IntKind.i64 (Go.IntKind.wrap Go.IntKind.i64 (1 + Go.IntKind.wrap Go.IntKind.i64 (Int.tmod (Go.IntKind.wrap Go.IntKind.u64 a2) 2))), Go.Value.int Go.IntKind.u64 v62.snd.snd.snd, Go.Value.int Go.IntKind.i64 2, Go.Value.int Go.IntKind.i64 (Go.IntKind.wrap Go.IntKind.i64 (1 + Go.IntKind.wrap Go.IntKind.i64 (Int.tmod (Go.IntKind.wrap Go.IntKind.u64 a2) 2)))] ∧ 71 = 71) ∧ Array.size w.heap ≤ g19 ∧ Array.size w.heap ≤ g50 ∧ Array.size w.heap ≤ g52 ∧ Go.VX.Done ((0 ≤ v62.fst ∧ v62.fst ≤ 60 ∧ v62.fst ≤ (↑n : Int) ∧ 0 ≤ v62.snd.fst ∧ v62.snd.fst ≤ 200 * v62.fst ∧ 1 ≤ v62.snd.snd.fst ∧ v62.snd.snd.fst ≤ v62.fst + 1 ∧ 0 ≤ v62.snd.snd.snd ∧ v62.snd.snd.snd ≤ v62.snd.fst + 50) ∧ 60 - Int.toNat v62.fst < 60 - Int.toNat x16.fst)))) ∧ ∀ (g63 : Nat), Array.size w.heap ≤ g63 → (g1 = g1 ∧ 71 = 71) ∧ ∀ (x65 : Go.VX.M17.SR), Go.VX.M17.mServe (Go.IntKind.wrap Go.IntKind.u64 (1 + Int.tmod a0 50)) 3 x16.snd.fst x16.snd.snd.fst (Go.IntKind.wrap Go.IntKind.i64 (1 + Go.IntKind.wrap Go.IntKind.i64 (Int.tmod (Go.IntKind.wrap Go.IntKind.u64 a2) 2))) x16.snd.snd.snd 2 (Go.IntKind.wrap Go.IntKind.i64 (1 + Go.IntKind.wrap Go.IntKind.i64 (Int.tmod (Go.IntKind.wrap Go.IntKind.u64 a2) 2))) v31 v33 v34 v35 v36 v37 v38 v39 v40 v41 v43 v46 = x65 → g63 = g63 ∧ (g1 = g1 ∧ 71 = 71) ∧ ∀ (g67 : Nat), Array.size w.heap ≤ g67 → g67 = g67 ∧ g19 = g19 ∧ g63 = g63 ∧ ∃ (v69 : Go.Addr), ((Bool.true && x65.kind == 5) = Bool.true → A = Option.some v69 ∧ 0 ≤ x16.fst ∧ x16.fst < (↑n : Int)) ∧ ∃ (v71 : Int), ((Bool.true && x65.kind == 5) = Bool.true → ((Go.Addr.add (Go.Addr.add v69 (Int.toNat x16.fst * 14)) 2).block < Array.size w.heap ∧ True) ∧ Go.World.cell? w (Go.Addr.add (Go.Addr.add v69 (Int.toNat x16.fst * 14)) 2) = Option.some (Go.Value.int Go.IntKind.i64 v71)) ∧ g67 = g67 ∧ g67 = g67 ∧ g19 = g19 ∧ ∃ (v73 : Go.Addr), ((Bool.true && (!(x65.kind == 5 && v71 != Go.IntKind.wrap Go.IntKind.i64 (1 + Go.IntKind.wrap Go.IntKind.i64 (Int.tmod (Go.IntKind.wrap Go.IntKind.u64 a2) 2)) || x65.ho != Go.IntKind.wrap Go.IntKind.i64 (1 + Go.IntKind.wrap Go.IntKind.i64 (Int.tmod (Go.IntKind.wrap Go.IntKind.u64 a2) 2))) && x65.mo != 2)) = Bool.true → A = Option.some v73 ∧ 0 ≤ x16.fst ∧ x16.fst < (↑n : Int)) ∧ ∃ (v75 : Int), ((Bool.true && (!(x65.kind == 5 && v71 != Go.IntKind.wrap Go.IntKind.i64 (1 + Go.IntKind.wrap Go.IntKind.i64 (Int.tmod (Go.IntKind.wrap Go.IntKind.u64 a2) 2)) || x65.ho != Go.IntKind.wrap Go.IntKind.i64 (1 + Go.IntKind.wrap Go.IntKind.i64 (Int.tmod (Go.IntKind.wrap Go.IntKind.u64 a2) 2))) && x65.mo != 2)) = Bool.true → ((Go.Addr.add (Go.Addr.add v73 (Int.toNat x16.fst * 14)) 2).block < Array.size w.heap ∧ True) ∧ Go.World.cell? w (Go.Addr.add (Go.Addr.add v73 (Int.toNat x16.fst * 14)) 2) = Option.some (Go.Value.int Go.IntKind.i64 v75)) ∧ Go.VX.br (Bool.true && (x65.kind == 5 && v71 != Go.IntKind.wrap Go.IntKind.i64 (1 + Go.IntKind.wrap Go.IntKind.i64 (Int.tmod (Go.IntKind.wrap Go.IntKind.u64 a2) 2)) || x65.ho != Go.IntKind.wrap Go.IntKind.i64 (1 + Go.IntKind.wrap Go.IntKind.i64 (Int.tmod (Go.IntKind.wrap Go.IntKind.u64 a2) 2)) || x65.mo != 2 && v75 != Go.IntKind.wrap Go.IntKind.i64 (1 + Go.IntKind.wrap Go.IntKind.i64 (Int.tmod (Go.IntKind.wrap Go.IntKind.u64 a2) 2)))) (Go.VX.Done (Q (Go.Value.bool Bool.false))) (g67 = g67 ∧ Go.VX.br (x65.mo == 1) (Go.VX.Done (Q (Go.Value.bool Bool.true))) (Bool.true = Bool.true ∧ w = w ∧ ∃ (v77 : Int × Int × Int × Int), Go.Value.slice A n cap = Go.Value.slice A n cap ∧ Go.Value.pointer (Option.some (Go.Addr.mk g1 0 Option.none)) = Go.Value.pointer (Option.some (Go.Addr.mk g1 0 Option.none)) ∧ Go.Value.int Go.IntKind.i64 (Go.IntKind.wrap Go.IntKind.i64 (1 + Go.IntKind.wrap Go.IntKind.i64 (Int.tmod (Go.IntKind.wrap Go.IntKind.u64 a2) 2))) = Go.Value.int Go.IntKind.i64 (Go.IntKind.wrap Go.IntKind.i64 (1 + Go.IntKind.wrap Go.IntKind.i64 (Int.tmod (Go.IntKind.wrap Go.IntKind.u64 a2) 2))) ∧ Go.Value.int Go.IntKind.i64 (Go.IntKind.wrap Go.IntKind.i64 (x16.fst + 1)) = Go.Value.int Go.IntKind.i64 v77.fst ∧ (g1 = g1 ∧ [Go.Value.int Go.IntKind.u64 (Go.IntKind.wrap Go.IntKind.u64 (1 + Int.tmod a0 50)), Go.Value.int Go.IntKind.u64 3, Go.Value.int Go.IntKind.u64 x16.snd.fst, Go.Value.int Go.IntKind.u32 x65.e, Go.Value.int Go.IntKind.i64 x65.ho, Go.Value.int Go.IntKind.u64 x65.u, Go.Value.int Go.IntKind.i64 x65.mo, Go.Value.int Go.IntKind.i64 x65.la] = [Go.Value.int Go.IntKind.u64 (Go.IntKind.wrap Go.IntKind.u64 (1 + Int.tmod a0 50)), Go.Value.int Go.IntKind.u64 3, Go.Value.int Go.IntKind.u64 v77.snd.fst, Go.Value.int Go.IntKind.u32 v77.snd.snd.fst, Go.Value.int Go.IntKind.i64 (Go.IntKind.wrap Go.IntKind.i64 (1 + Go.IntKind.wrap Go.IntKind.i64 (Int.tmod (Go.IntKind.wrap Go.IntKind.u64 a2) 2))), Go.Value.int Go.IntKind.u64 v77.snd.snd.snd, Go.Value.int Go.IntKind.i64 2, Go.Value.int Go.IntKind.i64 (Go.IntKind.wrap Go.IntKind.i64 (1 + Go.IntKind.wrap Go.IntKind.i64 (Int.tmod (Go.IntKind.wrap Go.IntKind.u64 a2) 2)))] ∧ 71 = 71) ∧ Array.size w.heap ≤ g19 ∧ Array.size w.heap ≤ g63 ∧ Array.size w.heap ≤ g67 ∧ Go.VX.Done ((0 ≤ v77.fst ∧ v77.fst ≤ 60 ∧ v77.fst ≤ (↑n : Int) ∧ 0 ≤ v77.snd.fst ∧ v77.snd.fst ≤ 200 * v77.fst ∧ 1 ≤ v77.snd.snd.fst ∧ v77.snd.snd.fst ≤ v77.fst + 1 ∧ 0 ≤ v77.snd.snd.snd ∧ v77.snd.snd.snd ≤ v77.snd.fst + 50) ∧ 60 - Int.toNat v77.fst < 60 - Int.toNat x16.fst))))) ((g1 = g1 ∧ 71 = 71) ∧ ∀ (g78 : Nat), Array.size w.heap ≤ g78 → g78 = g78 ∧ g78 = (Go.Addr.add (Go.Addr.mk g78 0 Option.none) 0).block ∧ g78 = (Go.Addr.add (Go.Addr.mk g78 0 Option.none) 1).block ∧ g78 = (Go.Addr.add (Go.Addr.mk g78 0 Option.none) 2).block ∧ g78 = (Go.Addr.add (Go.Addr.mk g78 0 Option.none) 3).block ∧ g78 = (Go.Addr.add (Go.Addr.mk g78 0 Option.none) 4).block ∧ g78 = (Go.Addr.add (Go.Addr.mk g78 0 Option.none) 5).block ∧ g78 = (Go.Addr.add (Go.Addr.mk g78 0 Option.none) 6).block ∧ g78 = (Go.Addr.add (Go.Addr.mk g78 0 Option.none) 7).block ∧ g78 = (Go.Addr.add (Go.Addr.mk g78 0 Option.none) 8).block ∧ g78 = (Go.Addr.add (Go.Addr.mk g78 0 Option.none) 9).block ∧ g78 = (Go.Addr.add (Go.Addr.mk g78 0 Option.none) 10).block ∧ (g1 = g1 ∧ 71 = 71) ∧ ∀ (x80 : Go.VX.M17.SR), Go.VX.M17.mServe (Go.IntKind.wrap Go.IntKind.u64 (1 + Int.tmod a0 50)) 3 (Go.VX.M17.mTick x16.snd.fst 20000) x16.snd.snd.fst (Go.IntKind.wrap Go.IntKind.i64 (1 + Go.IntKind.wrap Go.IntKind.i64 (Int.tmod (Go.IntKind.wrap Go.IntKind.u64 a2) 2))) x16.snd.snd.snd 2 (Go.IntKind.wrap Go.IntKind.i64 (1 + Go.IntKind.wrap Go.IntKind.i64 (Int.tmod (Go.IntKind.wrap Go.IntKind.u64 a2) 2))) (Go.IntKind.wrap Go.IntKind.i64 (3 - Go.IntKind.wrap Go.IntKind.i64 (1 + Go.IntKind.wrap Go.IntKind.i64 (Int.tmod (Go.IntKind.wrap Go.IntKind.u64 a2) 2)))) 4 0 0 0 0 0 0 Bool.false 0 0 0 = x80 → ∀ (g82 : Nat), Array.size w.heap ≤ g82 → g82 = g82 ∧ ∀ (g84 : Nat), Array.size w.heap ≤ g84 → g84 = g84 ∧ g84 = (Go.Addr.add (Go.Addr.mk g84 0 Option.none) 0).block ∧ g84 = (Go.Addr.add (Go.Addr.mk g84 0 Option.none) 1).block ∧ g84 = (Go.Addr.add (Go.Addr.mk g84 0 Option.none) 2).block ∧ g84 = (Go.Addr.add (Go.Addr.mk g84 0 Option.none) 3).block ∧ g84 = (Go.Addr.add (Go.Addr.mk g84 0 Option.none) 4).block ∧ g84 = (Go.Addr.add (Go.Addr.mk g84 0 Option.none) 5).block ∧ g84 = (Go.Addr.add (Go.Addr.mk g84 0 Option.none) 6).block ∧ g84 = (Go.Addr.add (Go.Addr.mk g84 0 Option.none) 7).block ∧ g84 = (Go.Addr.add (Go.Addr.mk g84 0 Option.none) 8).block ∧ g84 = (Go.Addr.add (Go.Addr.mk g84 0 Option.none) 9).block ∧ g84 = (Go.Addr.add (Go.Addr.mk g84 0 Option.none) 10).block ∧ (g1 = g1 ∧ 71 = 71) ∧ ∀ (x86 : Go.VX.M17.SR), Go.VX.M17.mServe (Go.IntKind.wrap Go.IntKind.u64 (1 + Int.tmod a0 50)) 3 (Go.VX.M17.mTick x16.snd.fst 20000) x80.e x80.ho x80.u x80.mo x80.la (Go.IntKind.wrap Go.IntKind.i64 (1 + Go.IntKind.wrap Go.IntKind.i64 (Int.tmod (Go.IntKind.wrap Go.IntKind.u64 a2) 2))) 4 0 0 0 0 0 0 Bool.false 0 0 0 = x86 → ∀ (g88 : Nat), Array.size w.heap ≤ g88 → g88 = g88 ∧ g82 = g82 ∧ g82 = g82 ∧ g88 = g88 ∧ g88 = g88 ∧ Go.VX.Done (Q (Go.Value.bool (x80.kind == 6 && x80.code == 5 && x86.kind == 5 && x86.code == 2 && Bool.true)))))))) = codeVC (⟨TT.plain _, (fun f => Nat.beq f 10 || Nat.beq f 30 || Nat.beq f 12), (fun id => Nat.beq id 17), true, (invS A n cap), noInv, pvknown, (addLong A n cap (spR w))⟩ : Cfg Try.prog) w 300 (Try.f5.body.getD .skip) ⟨⟨w, []⟩, mkT Try.f5.ntmps [.int .u64 a0, .slice A n cap, .int .i64 a2] [], []⟩ (retK Try.prog Try.f5 fun b v s h => newK h (Done (Q v))) := by
  kernel_rfl

theorem solo_calls (a0 a2 : Int) (A : Option Addr) (n cap : Nat) (w : World) (h0 : 0 ≤ a0) (hA : ActsAt w A n) :
    Calls Try.prog 5 ([.int .u64 a0, .slice A n cap, .int .i64 a2] : List Value).toArray w fun e w' => e = .returned (.bool true) ∧ Below w.heap.size w w' := by
  refine calls_eq (calls_pure (G := (⟨TT.plain _, (fun f => Nat.beq f 10 || Nat.beq f 30 || Nat.beq f 12), (fun id => Nat.beq id 17), true, (invS A n cap), noInv, pvknown, (addLong A n cap (spR w))⟩ : Cfg Try.prog)) (spRL_ok A n cap w hA) (pvknown_ok Try.prog rfl) 300 Try.func5 rfl (Q := fun v => v = .bool true) ((walk_solo a0 a2 A n cap w (fun v => v = .bool true)).mp ?_))
  have hL : 1 ≤ IntKind.u64.wrap (1 + Int.tmod a0 50) ∧ IntKind.u64.wrap (1 + Int.tmod a0 50) ≤ 50 := by
    have h1 : Int.tmod a0 50 = a0 % 50 := Int.tmod_eq_emod_of_nonneg h0
    rw [h1, w64]; omega
  have hW : IntKind.i64.wrap (1 + IntKind.i64.wrap (Int.tmod (IntKind.u64.wrap a2) 2)) = 1 ∨ IntKind.i64.wrap (1 + IntKind.i64.wrap (Int.tmod (IntKind.u64.wrap a2) 2)) = 2 := by
    have h1 : 0 ≤ IntKind.u64.wrap a2 := by rw [w64]; omega
    have h2 : Int.tmod (IntKind.u64.wrap a2) 2 = IntKind.u64.wrap a2 % 2 := Int.tmod_eq_emod_of_nonneg h1
    rw [h2]
    rcases (by omega : IntKind.u64.wrap a2 % 2 = 0 ∨ IntKind.u64.wrap a2 % 2 = 1) with e | e <;> rw [e]
    · exact .inl rfl
    · exact .inr rfl
  have h3 : ∀ x : Int, (x = 1 ∨ x = 2) → IntKind.i64.wrap (3 - x) = 3 - x := by
    rintro x (rfl | rfl) <;> rfl
  have hi : ∀ i : Int, 0 ≤ i → i ≤ 60 → IntKind.i64.wrap (i + 1) = i + 1 := by
    intro i h0 h1
    simp [IntKind.wrap, IntKind.signed, IntKind.bits]
    omega
  have ht : ∀ x : Int, 0 ≤ IntKind.i64.wrap (Int.tmod (IntKind.u64.wrap x) 200) ∧ IntKind.i64.wrap (Int.tmod (IntKind.u64.wrap x) 200) ≤ 199 := by
    intro x
    have h1 : 0 ≤ IntKind.u64.wrap x := by rw [w64]; omega
    have h2 : Int.tmod (IntKind.u64.wrap x) 200 = IntKind.u64.wrap x % 200 := Int.tmod_eq_emod_of_nonneg h1
    rw [h2]
    simp [IntKind.wrap, IntKind.signed, IntKind.bits]
    omega
  generalize IntKind.u64.wrap (1 + Int.tmod a0 50) = L at hL ⊢
  generalize IntKind.i64.wrap (1 + IntKind.i64.wrap (Int.tmod (IntKind.u64.wrap a2) 2)) = W at hW ⊢
  rw [h3 W hW]
  have hm := hA.max
  refine ⟨rfl, fun x0 => br_intro (fun _ => ⟨rfl⟩) (fun _ => br_intro (fun h => ?_) (fun _ => ?_))⟩
  · simp at h; omega
  intro g1 hg1 g3 hg3
  repeat (first | refine And.intro rfl ?_ | refine And.intro ⟨rfl, rfl⟩ ?_)
  intro x5 hx5
  rw [solo_first hL.1 hL.2 hW] at hx5
  subst hx5
  intro g7 hg7
  repeat (first | refine And.intro rfl ?_ | refine And.intro ⟨rfl, rfl⟩ ?_)
  intro g9 hg9
  repeat (first | refine And.intro rfl ?_ | refine And.intro ⟨rfl, rfl⟩ ?_)
  intro x11 hx11
  simp only at hx11
  rw [solo_turn hL.1 hL.2 hW] at hx11
  subst hx11
  intro g13 hg13
  repeat (first | refine And.intro rfl ?_ | refine And.intro ⟨rfl, rfl⟩ ?_)
  refine br_intro (fun h => by simp at h) (fun _ => ?_)
  refine ⟨⟨(0, 0, 1, L), rfl, rfl, rfl, rfl, ⟨rfl, rfl, rfl⟩, hg3, hg7, hg9, hg13, ⟨⟨by simp only; omega, trivial⟩⟩⟩, ?_⟩
  rintro ⟨i, now, e, u⟩ gs ⟨k0, k1, k2, k3, k4, k5, k6, k7, k8⟩
  dsimp only at k0 k1 k2 k3 k4 k5 k6 k7 k8 ⊢
  refine br_intro (fun c1 => ?_) (fun _ => ?_)
  · simp only [Bool.and_eq_true, decide_eq_true_eq] at c1
    obtain ⟨c1, c2⟩ := c1
    obtain ⟨a, f0, f1, f2, n0, n1, n2, n3, n4, n5, n6, n7, n8, A9, n9, c9, A10, n10, c10, hA', x⟩ := hA.at_ i k0 c1
    have hb := x.blk
    simp only [blk_add] at hb
    have hb' : ∀ m, ((a.add (i.toNat * 14)).add m).block < w.heap.size := fun m => by simp only [blk_add]; exact hb
    have e0 : w.cell? ((a.add (i.toNat * 14)).add 0) = some (.int .i64 f0) := by rw [add_zero']; exact x.e0
    repeat (first | refine And.intro rfl ?_ | refine And.intro ⟨rfl, rfl⟩ ?_)
    intro g19 hg19
    repeat (first | refine And.intro rfl ?_ | refine And.intro ⟨rfl, rfl⟩ ?_)
    refine ⟨a, ⟨hA', k0, c1⟩, f0, ⟨⟨hb' 0, trivial⟩, e0⟩, a, fun _ => ⟨hA', k0, c1⟩, f0, fun _ => ⟨⟨hb' 0, trivial⟩, e0⟩, ?_⟩
    refine br_intro (fun _ => ?_) (fun _ => ?_)
    · refine ⟨a, ⟨hA', k0, c1⟩, f1, ⟨⟨hb' 1, trivial⟩, x.e1⟩, ?_⟩
      repeat (first | refine And.intro rfl ?_ | refine And.intro ⟨rfl, rfl⟩ ?_)
      have := ht f1
      rw [tick_bound k3 (by omega) this.1 (by omega), hi i k0 (by omega)]
      exact ⟨(i + 1, now + IntKind.i64.wrap (Int.tmod (IntKind.u64.wrap f1) 200), e, u), rfl, rfl, rfl, rfl, ⟨rfl, rfl, rfl⟩, hg19, ⟨⟨by simp only; omega, by simp only; omega⟩⟩⟩
    · repeat (first | refine And.intro rfl ?_ | refine And.intro ⟨rfl, rfl⟩ ?_)
      refine ⟨a, ⟨hA', k0, c1⟩, f2, ⟨⟨hb' 2, trivial⟩, x.e2⟩, a, ⟨hA', k0, c1⟩, n0, n1, n2, n3, n4, n5, n6, n7, n8, A9, n9, c9, A10, n10, c10, ⟨⟨hb' 3, trivial⟩, x.note⟩, ?_⟩
      have main : ∀ (r : SR) (gx gy : Nat), w.heap.size ≤ gx → w.heap.size ≤ gy → mServe L 3 now e W u 2 W f2 n0 n1 n2 n3 n4 n5 n6 n7 n8 n9 n10 = r →
          (r.ho = W ∧ r.la = W ∧ (r.mo = 1 ∨ r.mo = 2) ∧ (r.kind = 5 → f2 = W) ∧ (r.mo = 1 → f2 = W) ∧ e ≤ r.e ∧ r.e ≤ e + 1 ∧ 0 ≤ r.u ∧ r.u ≤ now + 50) :=
        fun r gx gy _ _ hr => solo_keep hL.1 hL.2 hW k3 (by omega) k5 (by omega) k7 k8 r hr
      have no : ∀ r : SR, (r.ho = W ∧ r.la = W ∧ (r.mo = 1 ∨ r.mo = 2) ∧ (r.kind = 5 → f2 = W) ∧ (r.mo = 1 → f2 = W) ∧ e ≤ r.e ∧ r.e ≤ e + 1 ∧ 0 ≤ r.u ∧ r.u ≤ now + 50) →
          (true && (r.kind == 5 && f2 != W || r.ho != W || r.mo != 2 && f2 != W)) = true → False := by
        intro r ⟨r1, r2, r3, r4, r5, _⟩ h
        simp only [Bool.true_and, Bool.or_eq_true, Bool.and_eq_true, beq_iff_eq, bne_iff_ne] at h
        rcases h with (⟨h1, h2⟩ | h1) | ⟨h1, h2⟩
        · exact h2 (r4 h1)
        · exact h1 r1
        · exact h2 (r5 (by omega))
      have b2 := hb' 2
      have e2 := x.e2
      rw [hi i k0 (by omega)]
      constructor
      · repeat (first | refine And.intro rfl ?_ | refine And.intro ⟨rfl, rfl⟩ ?_)
        intro r hr g50 hg50
        repeat (first | refine And.intro rfl ?_ | refine And.intro ⟨rfl, rfl⟩ ?_)
        intro g52 hg52
        repeat (first | refine And.intro rfl ?_ | refine And.intro ⟨rfl, rfl⟩ ?_)
        have R := main r g50 g52 hg50 hg52 hr
        refine ⟨a, fun _ => ⟨hA', k0, c1⟩, f2, fun _ => ⟨⟨b2, trivial⟩, e2⟩, ?_⟩
        repeat (first | refine And.intro rfl ?_ | refine And.intro ⟨rfl, rfl⟩ ?_)
        refine ⟨a, fun _ => ⟨hA', k0, c1⟩, f2, fun _ => ⟨⟨b2, trivial⟩, e2⟩, ?_⟩
        refine br_intro (fun h => (no r R h).elim) (fun _ => ?_)
        repeat (first | refine And.intro rfl ?_ | refine And.intro ⟨rfl, rfl⟩ ?_)
        refine br_intro (fun _ => ⟨rfl⟩) (fun h => ?_)
        have hmo : r.mo = 2 := by
          have := R.2.2.1
          simp only [beq_eq_false_iff_ne] at h
          omega
        obtain ⟨r1, r2, _, _, _, r6, r7, r8, r9⟩ := R
        repeat (first | refine And.intro rfl ?_ | refine And.intro ⟨rfl, rfl⟩ ?_)
        exact ⟨(i + 1, now, r.e, r.u), rfl, rfl, rfl, rfl, ⟨rfl, by rw [r1, r2, hmo], rfl⟩, hg19, hg50, hg52, ⟨⟨by simp only; omega, by simp only; omega⟩⟩⟩
      · intro g63 hg63
        repeat (first | refine And.intro rfl ?_ | refine And.intro ⟨rfl, rfl⟩ ?_)
        intro r hr
        repeat (first | refine And.intro rfl ?_ | refine And.intro ⟨rfl, rfl⟩ ?_)
        intro g67 hg67
        repeat (first | refine And.intro rfl ?_ | refine And.intro ⟨rfl, rfl⟩ ?_)
        have R := main r g63 g67 hg63 hg67 hr
        refine ⟨a, fun _ => ⟨hA', k0, c1⟩, f2, fun _ => ⟨⟨b2, trivial⟩, e2⟩, ?_⟩
        repeat (first | refine And.intro rfl ?_ | refine And.intro ⟨rfl, rfl⟩ ?_)
        refine ⟨a, fun _ => ⟨hA', k0, c1⟩, f2, fun _ => ⟨⟨b2, trivial⟩, e2⟩, ?_⟩
        refine br_intro (fun h => (no r R h).elim) (fun _ => ?_)
        repeat (first | refine And.intro rfl ?_ | refine And.intro ⟨rfl, rfl⟩ ?_)
        refine br_intro (fun _ => ⟨rfl⟩) (fun h => ?_)
        have hmo : r.mo = 2 := by
          have := R.2.2.1
          simp only [beq_eq_false_iff_ne] at h
          omega
        obtain ⟨r1, r2, _, _, _, r6, r7, r8, r9⟩ := R
        repeat (first | refine And.intro rfl ?_ | refine And.intro ⟨rfl, rfl⟩ ?_)
        exact ⟨(i + 1, now, r.e, r.u), rfl, rfl, rfl, rfl, ⟨rfl, by rw [r1, r2, hmo], rfl⟩, hg19, hg63, hg67, ⟨⟨by simp only; omega, by simp only; omega⟩⟩⟩
  · repeat (first | refine And.intro rfl ?_ | refine And.intro ⟨rfl, rfl⟩ ?_)
    intro g78 hg78
    repeat (first | refine And.intro rfl ?_ | refine And.intro ⟨rfl, rfl⟩ ?_)
    intro r hr
    have htk := tick_bound (now := now) (d := 20000) k3 (by omega) (by omega) (by omega)
    rw [htk, solo_no hW] at hr
    subst hr
    dsimp only [mNo]
    intro g82 hg82
    repeat (first | refine And.intro rfl ?_ | refine And.intro ⟨rfl, rfl⟩ ?_)
    intro g84 hg84
    repeat (first | refine And.intro rfl ?_ | refine And.intro ⟨rfl, rfl⟩ ?_)
    intro r hr
    have R := solo_again (L := L) (now := now + 20000) (e := e) (u := u) hL.1 hL.2 hW (by omega) (by omega) k5 (by omega) k7 (by omega)
    rw [htk] at hr
    rw [hr] at R
    intro g88 hg88
    repeat (first | refine And.intro rfl ?_ | refine And.intro ⟨rfl, rfl⟩ ?_)
    exact ⟨by rw [R.1, R.2]; rfl⟩

end Go.VX
