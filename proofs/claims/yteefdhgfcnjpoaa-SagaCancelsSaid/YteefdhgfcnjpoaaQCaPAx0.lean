-- printed by a program of this work (wip/tools/pr.py over the kit's print): the machine's side of SagaTries, SagaMoves, SagaStays, SagaOrder, SagaEnds, SagaTicks
import Derived.Test.YteefdhgfcnjpoaaProg
import Derived.Below
import Derived.Deep.Draws
import Derived.Deep.AppendLies
import Derived.Maps.AppendAt
import Derived.OwnWalk
import Derived.Laws.BytesArg
import Derived.Laws.MakeOwn
import Derived.Laws.OwnMore
import Derived.Deep.OwnRows
import Derived.Tactics
import Derived.Lib.ConvBytes
import Derived.Laws.Slices
import Derived.WalkKit
import Derived.KernelRfl
import Derived.RowKit3
import Derived.Deep.LoopGhost
import Derived.Deep.QuietTactic
import Derived.BigQuiet
import Derived.WideLaws
import Derived.Deep.DeepCutAuto
import Derived.Deep.CutBlock
import Derived.Deep.RegionHeld3
import Derived.Laws.Rows
import Derived.Lib.AppendStr
import Derived.ArgAppend
import Derived.Laws.IdiomCopy
import Derived.OrdersHeld
import Derived.Laws.BitsLemmas
import Derived.RowKit
import Derived.Laws.RangeAny
import Derived.WalkMore
import Derived.RegionTactic
import Derived.ChangeAlike
import Derived.Lib.SlBytesConst
import Derived.Test.YteefdhgfcnjpoaaQCaWWords
import Derived.Test.YteefdhgfcnjpoaaQCaWLast
import Derived.Test.YteefdhgfcnjpoaaQCaWTab
import Derived.Test.YteefdhgfcnjpoaaQCaWApart
import Derived.Test.YteefdhgfcnjpoaaQCaWFoot
import Derived.Test.YteefdhgfcnjpoaaQCaWShare
import Derived.Test.YteefdhgfcnjpoaaQCaWN
import Derived.Test.YteefdhgfcnjpoaaQCaWEqStruct
import Derived.Test.YteefdhgfcnjpoaaQCaWGuard
import Derived.Test.YteefdhgfcnjpoaaQCaWMore
namespace Go.Proofs.Yteefdhgfcnjpoaa.PA
open Go.RowKit Go.Proofs.YteefdhgfcnjpoaaW.PrintWords Go.Proofs.YteefdhgfcnjpoaaW.PrintLast Go.Proofs.YteefdhgfcnjpoaaW.PrintMore
attribute [local go_sem] max2_int min2_int max_two min_two max_three min_three max_four min_four   -- for this text's walks alone
set_option linter.unusedVariables false
set_option linter.unusedSimpArgs false

def errW : Option Int → Value
  | none => .nilIface
  | some c => .iface 0 (.int .i64 c)
theorem errW_none : errW none = .nilIface := rfl
theorem errW_some (c : Int) : errW (some c) = .iface 0 (.int .i64 c) := rfl

theorem cell_lt2 {w : World} {a : Addr} {v : Value} (h : w.cell? a = some v) : a.block < w.heap.size := by
  rcases Nat.lt_or_ge a.block w.heap.size with h1 | h1
  · exact h1
  · exfalso
    unfold World.cell? at h
    rw [Array.getElem?_eq_none h1] at h
    simp at h
theorem cell_alloc_lt2 (w : World) (o : Obj) (a : Addr) (h : a.block < w.heap.size) : (w.alloc o).cell? a = w.cell? a := World.cell?_alloc_lt w o a h
theorem cell_set_ne2 (w : World) (g i : Nat) (v : Value) (a : Addr) (h : ¬ (a.block = g)) : (w.setCell ⟨g, i, none⟩ v).cell? a = w.cell? a := World.cell?_setCell_other w _ _ v (fun e => h (by rw [← e]))
theorem C_blk {α : Type} {d : Kd α} {w : World} {ad : Addr} {n : Nat} {xs : List α} (h : d.C w (some ad) n xs) (hn : 0 < n) (hs : 0 < d.sz) : ad.block < w.heap.size := by
  obtain ⟨ad', e, hc⟩ := h.2.2 hn
  cases e
  obtain ⟨c, hl, _, hcell⟩ := hc 0 _ (List.getElem?_eq_getElem (by have := h.1; omega))
  have := cell_lt2 (hcell 0 _ (List.getElem?_eq_getElem (by omega)))
  rwa [add_block] at this
theorem rows_read {α : Type} {d : Kd α} {w : World} {v : Value} {xs : List α} (h : ∃ A c, v = .slice A xs.length c ∧ xs.length ≤ c ∧ d.C w A xs.length xs) : ∃ A c, v = .slice A xs.length c ∧ xs.length ≤ c ∧ d.C w A xs.length xs := h
/-- a box: its cells, and that it lies in the heap -/
def BX (w : World) (g : Nat) (l : List Value) : Prop := (∀ i u, l[i]? = some u → w.cell? ⟨g, i, none⟩ = some u ∧ w.frozen? ⟨g, i, none⟩ = false) ∧ g < w.heap.size

theorem BX.mk3 {w : World} {g : Nat} {a0 a1 a2 : Value} (c0 : w.cell? ⟨g, 0, none⟩ = some a0) (c1 : w.cell? ⟨g, 1, none⟩ = some a1) (c2 : w.cell? ⟨g, 2, none⟩ = some a2) (f0 : w.frozen? ⟨g, 0, none⟩ = false) (f1 : w.frozen? ⟨g, 1, none⟩ = false) (f2 : w.frozen? ⟨g, 2, none⟩ = false) (hl : g < w.heap.size) : BX w g [a0, a1, a2] := ⟨fun i u hu => by
  match i, hu with
  | 0, hu => simp at hu; subst hu; exact ⟨c0, f0⟩
  | 1, hu => simp at hu; subst hu; exact ⟨c1, f1⟩
  | 2, hu => simp at hu; subst hu; exact ⟨c2, f2⟩
  | _ + 3, hu => simp at hu, hl⟩
theorem BX.out3 {w : World} {g : Nat} {a0 a1 a2 : Value} (h : BX w g [a0, a1, a2]) : w.cell? ⟨g, 0, none⟩ = some a0 ∧ w.cell? ⟨g, 1, none⟩ = some a1 ∧ w.cell? ⟨g, 2, none⟩ = some a2 ∧ w.frozen? ⟨g, 0, none⟩ = false ∧ w.frozen? ⟨g, 1, none⟩ = false ∧ w.frozen? ⟨g, 2, none⟩ = false ∧ g < w.heap.size := ⟨(h.1 0 _ rfl).1, (h.1 1 _ rfl).1, (h.1 2 _ rfl).1, (h.1 0 _ rfl).2, (h.1 1 _ rfl).2, (h.1 2 _ rfl).2, h.2⟩

theorem BX.mk7 {w : World} {g : Nat} {a0 a1 a2 a3 a4 a5 a6 : Value} (c0 : w.cell? ⟨g, 0, none⟩ = some a0) (c1 : w.cell? ⟨g, 1, none⟩ = some a1) (c2 : w.cell? ⟨g, 2, none⟩ = some a2) (c3 : w.cell? ⟨g, 3, none⟩ = some a3) (c4 : w.cell? ⟨g, 4, none⟩ = some a4) (c5 : w.cell? ⟨g, 5, none⟩ = some a5) (c6 : w.cell? ⟨g, 6, none⟩ = some a6) (f0 : w.frozen? ⟨g, 0, none⟩ = false) (f1 : w.frozen? ⟨g, 1, none⟩ = false) (f2 : w.frozen? ⟨g, 2, none⟩ = false) (f3 : w.frozen? ⟨g, 3, none⟩ = false) (f4 : w.frozen? ⟨g, 4, none⟩ = false) (f5 : w.frozen? ⟨g, 5, none⟩ = false) (f6 : w.frozen? ⟨g, 6, none⟩ = false) (hl : g < w.heap.size) : BX w g [a0, a1, a2, a3, a4, a5, a6] := ⟨fun i u hu => by
  match i, hu with
  | 0, hu => simp at hu; subst hu; exact ⟨c0, f0⟩
  | 1, hu => simp at hu; subst hu; exact ⟨c1, f1⟩
  | 2, hu => simp at hu; subst hu; exact ⟨c2, f2⟩
  | 3, hu => simp at hu; subst hu; exact ⟨c3, f3⟩
  | 4, hu => simp at hu; subst hu; exact ⟨c4, f4⟩
  | 5, hu => simp at hu; subst hu; exact ⟨c5, f5⟩
  | 6, hu => simp at hu; subst hu; exact ⟨c6, f6⟩
  | _ + 7, hu => simp at hu, hl⟩
theorem BX.out7 {w : World} {g : Nat} {a0 a1 a2 a3 a4 a5 a6 : Value} (h : BX w g [a0, a1, a2, a3, a4, a5, a6]) : w.cell? ⟨g, 0, none⟩ = some a0 ∧ w.cell? ⟨g, 1, none⟩ = some a1 ∧ w.cell? ⟨g, 2, none⟩ = some a2 ∧ w.cell? ⟨g, 3, none⟩ = some a3 ∧ w.cell? ⟨g, 4, none⟩ = some a4 ∧ w.cell? ⟨g, 5, none⟩ = some a5 ∧ w.cell? ⟨g, 6, none⟩ = some a6 ∧ w.frozen? ⟨g, 0, none⟩ = false ∧ w.frozen? ⟨g, 1, none⟩ = false ∧ w.frozen? ⟨g, 2, none⟩ = false ∧ w.frozen? ⟨g, 3, none⟩ = false ∧ w.frozen? ⟨g, 4, none⟩ = false ∧ w.frozen? ⟨g, 5, none⟩ = false ∧ w.frozen? ⟨g, 6, none⟩ = false ∧ g < w.heap.size := ⟨(h.1 0 _ rfl).1, (h.1 1 _ rfl).1, (h.1 2 _ rfl).1, (h.1 3 _ rfl).1, (h.1 4 _ rfl).1, (h.1 5 _ rfl).1, (h.1 6 _ rfl).1, (h.1 0 _ rfl).2, (h.1 1 _ rfl).2, (h.1 2 _ rfl).2, (h.1 3 _ rfl).2, (h.1 4 _ rfl).2, (h.1 5 _ rfl).2, (h.1 6 _ rfl).2, h.2⟩

theorem blk_cell2 {w : World} {g t : Nat} {cs : Array Value} {fr : Nat × Nat} (h : w.heap[g]? = some (.cells cs t fr)) (n : Nat) : w.cell? ⟨g, n, none⟩ = cs[n]? := by simp [World.cell?, h]
/-- elements and their cells, one by one -/
def RowsK {α : Type} (d : Kd α) (w : World) : List α → List (List Value) → Prop
  | [], [] => True
  | x :: xs, c :: cs => d.K w x c ∧ RowsK d w xs cs
  | _, _ => False
theorem row_lit {α : Type} {d : Kd α} {w : World} {g t : Nat} {cells : Array Value} {fr : Nat × Nat} (hb : w.heap[g]? = some (.cells cells t fr)) :
    ∀ (xs : List α) (css : List (List Value)) (pre : List Value), RowsK d w xs css → cells.toList = pre ++ css.flatten →
      ∀ j p, xs[j]? = some p → ∃ c, c.length = d.sz ∧ d.K w p c ∧ ∀ i u, c[i]? = some u → w.cell? ⟨g, pre.length + (j * d.sz + i), none⟩ = some u := by
  intro xs
  induction xs with
  | nil => intro css pre _ _ j p hj; simp at hj
  | cons x xs ih =>
    intro css pre hr hc j p hj
    match css, hr with
    | c :: css, hr =>
      obtain ⟨hK, hr⟩ := hr
      have hl := d.K_len hK
      cases j with
      | zero =>
        obtain rfl : x = p := by simpa using hj
        refine ⟨c, hl, hK, fun i u hu => ?_⟩
        have hi : i < c.length := (List.getElem?_eq_some_iff.1 hu).1
        rw [(blk_cell2 hb (pre.length + (0 * d.sz + i))).trans (by rw [← Array.getElem?_toList, hc]), List.getElem?_append_right (by omega), List.flatten_cons, List.getElem?_append_left (by omega)]
        simpa using hu
      | succ j =>
        have := ih css (pre ++ c) hr (by rw [hc, List.flatten_cons, List.append_assoc]) j p (by simpa using hj)
        obtain ⟨c', h1, h2, h3⟩ := this
        refine ⟨c', h1, h2, fun i u hu => ?_⟩
        have := h3 i u hu
        rw [List.length_append, hl] at this
        rw [show pre.length + ((j + 1) * d.sz + i) = pre.length + d.sz + (j * d.sz + i) by rw [Nat.add_mul]; omega]
        exact this
theorem C_lit {α : Type} {d : Kd α} {w : World} {g t : Nat} {cells : Array Value} {fr : Nat × Nat} (hb : w.heap[g]? = some (.cells cells t fr)) (xs : List α) (css : List (List Value)) (hr : RowsK d w xs css) (hc : cells.toList = css.flatten) (hl : xs.length ≤ 9223372036854775807) :
    d.C w (some ⟨g, 0, none⟩) xs.length xs :=
  ⟨rfl, hl, fun _ => ⟨_, rfl, fun j p hj => by
    obtain ⟨c, h1, h2, h3⟩ := row_lit hb xs css [] hr (by simpa using hc) j p hj
    refine ⟨c, h1, h2, fun i u hu => ?_⟩
    have := h3 i u hu
    rw [List.length_nil, Nat.zero_add] at this
    rw [add_plain]
    exact this⟩⟩

theorem bd1 {w : World} {g : Nat} {o : Obj} (n : Nat) (h : w.heap[g]? = some o) : (w.drewN n).heap[g]? = some o := blk_drewN h n
theorem bd2 {w : World} {g : Nat} {o : Obj} (h : w.heap[g]? = some o) : w.drew.heap[g]? = some o := blk_drew h
theorem bd3 {w : World} {g : Nat} {o : Obj} (x : Obj) (h : w.heap[g]? = some o) : (w.alloc x).heap[g]? = some o := blk_alloc h x
theorem blk_all3 {w : World} {g : Nat} {a0 a1 a2 : Value} {t : TypeId} (h : w.heap[g]? = some (.cells #[a0, a1, a2] t (0, 0))) : w.cell? ⟨g, 0, none⟩ = some a0 ∧ w.cell? ⟨g, 1, none⟩ = some a1 ∧ w.cell? ⟨g, 2, none⟩ = some a2 ∧ w.frozen? ⟨g, 0, none⟩ = false ∧ w.frozen? ⟨g, 1, none⟩ = false ∧ w.frozen? ⟨g, 2, none⟩ = false := ⟨(blk_cell h 0).trans rfl, (blk_cell h 1).trans rfl, (blk_cell h 2).trans rfl, blk_frozen h 0, blk_frozen h 1, blk_frozen h 2⟩
theorem blk_all6 {w : World} {g : Nat} {a0 a1 a2 a3 a4 a5 : Value} {t : TypeId} (h : w.heap[g]? = some (.cells #[a0, a1, a2, a3, a4, a5] t (0, 0))) : w.cell? ⟨g, 0, none⟩ = some a0 ∧ w.cell? ⟨g, 1, none⟩ = some a1 ∧ w.cell? ⟨g, 2, none⟩ = some a2 ∧ w.cell? ⟨g, 3, none⟩ = some a3 ∧ w.cell? ⟨g, 4, none⟩ = some a4 ∧ w.cell? ⟨g, 5, none⟩ = some a5 ∧ w.frozen? ⟨g, 0, none⟩ = false ∧ w.frozen? ⟨g, 1, none⟩ = false ∧ w.frozen? ⟨g, 2, none⟩ = false ∧ w.frozen? ⟨g, 3, none⟩ = false ∧ w.frozen? ⟨g, 4, none⟩ = false ∧ w.frozen? ⟨g, 5, none⟩ = false := ⟨(blk_cell h 0).trans rfl, (blk_cell h 1).trans rfl, (blk_cell h 2).trans rfl, (blk_cell h 3).trans rfl, (blk_cell h 4).trans rfl, (blk_cell h 5).trans rfl, blk_frozen h 0, blk_frozen h 1, blk_frozen h 2, blk_frozen h 3, blk_frozen h 4, blk_frozen h 5⟩
theorem blk_all7 {w : World} {g : Nat} {a0 a1 a2 a3 a4 a5 a6 : Value} {t : TypeId} (h : w.heap[g]? = some (.cells #[a0, a1, a2, a3, a4, a5, a6] t (0, 0))) : w.cell? ⟨g, 0, none⟩ = some a0 ∧ w.cell? ⟨g, 1, none⟩ = some a1 ∧ w.cell? ⟨g, 2, none⟩ = some a2 ∧ w.cell? ⟨g, 3, none⟩ = some a3 ∧ w.cell? ⟨g, 4, none⟩ = some a4 ∧ w.cell? ⟨g, 5, none⟩ = some a5 ∧ w.cell? ⟨g, 6, none⟩ = some a6 ∧ w.frozen? ⟨g, 0, none⟩ = false ∧ w.frozen? ⟨g, 1, none⟩ = false ∧ w.frozen? ⟨g, 2, none⟩ = false ∧ w.frozen? ⟨g, 3, none⟩ = false ∧ w.frozen? ⟨g, 4, none⟩ = false ∧ w.frozen? ⟨g, 5, none⟩ = false ∧ w.frozen? ⟨g, 6, none⟩ = false := ⟨(blk_cell h 0).trans rfl, (blk_cell h 1).trans rfl, (blk_cell h 2).trans rfl, (blk_cell h 3).trans rfl, (blk_cell h 4).trans rfl, (blk_cell h 5).trans rfl, (blk_cell h 6).trans rfl, blk_frozen h 0, blk_frozen h 1, blk_frozen h 2, blk_frozen h 3, blk_frozen h 4, blk_frozen h 5, blk_frozen h 6⟩
-- the values' own types
def rd_L2 (xs : List (List Int)) (i : Int) : (List Int) := xs.getD i.toNat ([] : List Int)

/-! #### struct type 36 -/
structure S36 where
  f0 : Int
  f1 : Int
  f2 : (List Int)
def z36 : S36 := ⟨(0 : Int), (0 : Int), ([] : List Int)⟩
def k36 : Kd S36 := Kd.iso (Kd.pair (Kd.int .i64) (Kd.pair (Kd.int .i64) (Kd.slice 5 (Kd.int .u8)))) (fun x : S36 => (x.f0, x.f1, x.f2))
theorem k36_open {w : World} {x : S36} {cs : List Value} (h : k36.K w x cs) : ∃ A2 c2, cs = [.int .i64 x.f0, .int .i64 x.f1, .slice A2 x.f2.length c2] ∧ x.f2.length ≤ c2 ∧ (Kd.int .u8).C w A2 x.f2.length x.f2 := by
  obtain ⟨_, _, rfl, rfl, ⟨_, _, rfl, rfl, ⟨A2, c2, rfl, l2, g2⟩⟩⟩ := h
  exact ⟨A2, c2, rfl, l2, g2⟩

theorem k36_mk (w : World) (x : S36) {A2 : Option Addr} {c2 : Nat} (l2 : x.f2.length ≤ c2) (g2 : (Kd.int .u8).C w A2 x.f2.length x.f2) : k36.K w x [.int .i64 x.f0, .int .i64 x.f1, .slice A2 x.f2.length c2] := ⟨[.int .i64 x.f0], [.int .i64 x.f1, .slice A2 x.f2.length c2], rfl, rfl, ⟨[.int .i64 x.f1], [.slice A2 x.f2.length c2], rfl, rfl, ⟨A2, c2, rfl, l2, g2⟩⟩⟩

def rd_T36 (xs : List S36) (i : Int) : S36 := xs.getD i.toNat z36

/-! #### struct type 38 -/
structure S38 where
  f0 : S36
  f1 : Int
  f2 : Int
  f3 : Bool
def z38 : S38 := ⟨z36, (0 : Int), (0 : Int), false⟩
def k38 : Kd S38 := Kd.iso (Kd.pair k36 (Kd.pair (Kd.int .i64) (Kd.pair (Kd.int .i64) Kd.bool))) (fun x : S38 => (x.f0, x.f1, x.f2, x.f3))
theorem k38_open {w : World} {x : S38} {cs : List Value} (h : k38.K w x cs) : ∃ A2 c2, cs = [.int .i64 x.f0.f0, .int .i64 x.f0.f1, .slice A2 x.f0.f2.length c2, .int .i64 x.f1, .int .i64 x.f2, .bool x.f3] ∧ x.f0.f2.length ≤ c2 ∧ (Kd.int .u8).C w A2 x.f0.f2.length x.f0.f2 := by
  obtain ⟨_, _, rfl, s0, ⟨_, _, rfl, rfl, ⟨_, _, rfl, rfl, rfl⟩⟩⟩ := h
  obtain ⟨A2, c2, rfl, l2, g2⟩ := k36_open s0
  exact ⟨A2, c2, rfl, l2, g2⟩

theorem k38_mk (w : World) (x : S38) {A2 : Option Addr} {c2 : Nat} (l2 : x.f0.f2.length ≤ c2) (g2 : (Kd.int .u8).C w A2 x.f0.f2.length x.f0.f2) : k38.K w x [.int .i64 x.f0.f0, .int .i64 x.f0.f1, .slice A2 x.f0.f2.length c2, .int .i64 x.f1, .int .i64 x.f2, .bool x.f3] := ⟨[.int .i64 x.f0.f0, .int .i64 x.f0.f1, .slice A2 x.f0.f2.length c2], [.int .i64 x.f1, .int .i64 x.f2, .bool x.f3], rfl, (k36_mk w x.f0 l2 g2), ⟨[.int .i64 x.f1], [.int .i64 x.f2, .bool x.f3], rfl, rfl, ⟨[.int .i64 x.f2], [.bool x.f3], rfl, rfl, rfl⟩⟩⟩

def rd_T38 (xs : List S38) (i : Int) : S38 := xs.getD i.toNat z38
theorem at_T38 {w : World} {A : Option Addr} {n : Nat} {xs : List S38} (h : Kd.C k38 w A n xs) (i : Int) (h0 : 0 ≤ i) (h1 : i < n) : ∃ ad A2 c2, A = some ad ∧ w.cell? (ad.add (i.toNat * 6)) = some (.int .i64 (rd_T38 xs i).f0.f0) ∧ w.cell? ⟨(ad.add (i.toNat * 6)).block, (ad.add (i.toNat * 6)).off + 1, none⟩ = some (.int .i64 (rd_T38 xs i).f0.f1) ∧ w.cell? ⟨(ad.add (i.toNat * 6)).block, (ad.add (i.toNat * 6)).off + 2, none⟩ = some (.slice A2 (rd_T38 xs i).f0.f2.length c2) ∧ w.cell? ⟨(ad.add (i.toNat * 6)).block, (ad.add (i.toNat * 6)).off + 3, none⟩ = some (.int .i64 (rd_T38 xs i).f1) ∧ w.cell? ⟨(ad.add (i.toNat * 6)).block, (ad.add (i.toNat * 6)).off + 4, none⟩ = some (.int .i64 (rd_T38 xs i).f2) ∧ w.cell? ⟨(ad.add (i.toNat * 6)).block, (ad.add (i.toNat * 6)).off + 5, none⟩ = some (.bool (rd_T38 xs i).f3) ∧ (rd_T38 xs i).f0.f2.length ≤ c2 ∧ (Kd.int .u8).C w A2 (rd_T38 xs i).f0.f2.length (rd_T38 xs i).f0.f2 := by
  obtain ⟨ad, c, e, _, hK, hc0⟩ := Kd.C_get h z38 i h0 h1
  have hc : ∀ j u, c[j]? = some u → w.cell? (ad.add (i.toNat * 6 + j)) = some u := hc0
  obtain ⟨A2, c2, rfl, l2, g2⟩ := k38_open hK
  exact ⟨ad, A2, c2, e, hc 0 _ rfl, by rw [← add_field _ _ 1 (by omega)]; exact hc 1 _ rfl, by rw [← add_field _ _ 2 (by omega)]; exact hc 2 _ rfl, by rw [← add_field _ _ 3 (by omega)]; exact hc 3 _ rfl, by rw [← add_field _ _ 4 (by omega)]; exact hc 4 _ rfl, by rw [← add_field _ _ 5 (by omega)]; exact hc 5 _ rfl, l2, g2⟩

/-! #### struct type 54 -/
structure S54 where
  f0 : Int
  f1 : Int
  f2 : Int
def z54 : S54 := ⟨(0 : Int), (0 : Int), (0 : Int)⟩
def k54 : Kd S54 := Kd.iso (Kd.pair (Kd.int .i64) (Kd.pair (Kd.int .i64) (Kd.int .i64))) (fun x : S54 => (x.f0, x.f1, x.f2))
theorem k54_open {w : World} {x : S54} {cs : List Value} (h : k54.K w x cs) : cs = [.int .i64 x.f0, .int .i64 x.f1, .int .i64 x.f2] := by
  obtain ⟨_, _, rfl, rfl, ⟨_, _, rfl, rfl, rfl⟩⟩ := h
  exact rfl

def rd_T54 (xs : List S54) (i : Int) : S54 := xs.getD i.toNat z54
theorem at_T54 {w : World} {A : Option Addr} {n : Nat} {xs : List S54} (h : Kd.C k54 w A n xs) (i : Int) (h0 : 0 ≤ i) (h1 : i < n) : ∃ ad , A = some ad ∧ w.cell? (ad.add (i.toNat * 3)) = some (.int .i64 (rd_T54 xs i).f0) ∧ w.cell? ⟨(ad.add (i.toNat * 3)).block, (ad.add (i.toNat * 3)).off + 1, none⟩ = some (.int .i64 (rd_T54 xs i).f1) ∧ w.cell? ⟨(ad.add (i.toNat * 3)).block, (ad.add (i.toNat * 3)).off + 2, none⟩ = some (.int .i64 (rd_T54 xs i).f2) := by
  obtain ⟨ad, c, e, _, hK, hc0⟩ := Kd.C_get h z54 i h0 h1
  have hc : ∀ j u, c[j]? = some u → w.cell? (ad.add (i.toNat * 3 + j)) = some u := hc0
  obtain rfl := k54_open hK
  exact ⟨ad, e, hc 0 _ rfl, by rw [← add_field _ _ 1 (by omega)]; exact hc 1 _ rfl, by rw [← add_field _ _ 2 (by omega)]; exact hc 2 _ rfl⟩

end Go.Proofs.Yteefdhgfcnjpoaa.PA
