/- Texts of this claim, one behind the other (2). -/
import Derived.RegionTactic
import Derived.Below
import Derived.Scope
import Derived.LoopN
import Derived.StillTail
import Derived.OrdersHeld
import Derived.Maps.AppendAt
import Derived.Laws.StructEq
import Derived.Laws.BytesArg
/- The verified walk VX: a walk through code, as a proposition that the kernel reckons; its soundness. -/
namespace Go.VX
set_option linter.unusedVariables false
set_option linter.unusedSimpArgs false
open Go
open Go.RowKit (Below)

abbrev Sh := List (List (Option Nat))

/-- how a block's cells are told: a literal list; some list; a row of so many places of a size, the first of which are literal, or not -/
inductive RK where
  | lit
  | sym
  | row (cap size : Nat)
  | srow (cap size : Nat)

def RK.isLit : RK → Bool
  | .lit => true
  | .row _ _ => true
  | _ => false

/-- a block that is known: where it lies, its cells; beside it, of which block each cell tells (a hint alone); n: it is new (no block of the entry's world); y: how its cells are told -/
structure Blk where
  g : Nat
  c : List Value
  e : TypeId
  s : List (Option Nat)
  x : Option Obj
  n : Bool
  y : RK

/-- what lies there -/
def Blk.den (b : Blk) : Obj := match b.x with
  | none => .cells b.c.toArray b.e (0, 0)
  | some o => o

/-- guards: which (a number), and how each is to be -/
abbrev Gs := List (Nat × Bool)

/-- a value, and the blocks of which it tells (hints); c: it is so if these guards are met (undefined if not); k: it was asked; p: its number as a guard -/
structure AV where
  v : Value
  s : Sh
  c : Gs
  k : Bool
  p : Option Nat

abbrev pl (v : Value) (s : Sh) : AV := ⟨v, s, [], false, none⟩

def condV (c : Bool) (v : Value) : Value := match c with
  | true => v
  | false => undef

def lit (want y : Bool) : Bool := match want with
  | true => y
  | false => !y

theorem lit_eq {want y : Bool} : lit want y = true ↔ y = want := by cases want <;> cases y <;> simp [lit]

def nthB : List Bool → Nat → Bool
  | [], _ => false
  | b :: _, 0 => b
  | _ :: r, n + 1 => nthB r n

/-- guards are met -/
def conjG (g : List Bool) : Gs → Bool
  | [] => true
  | [(i, w)] => lit w (nthB g i)
  | (i, w) :: x :: r => lit w (nthB g i) && conjG g (x :: r)

theorem conjG_iff {g : List Bool} : ∀ {l : Gs}, conjG g l = true ↔ ∀ i w, (i, w) ∈ l → nthB g i = w
  | [] => by simp [conjG]
  | [(i, w)] => by
    simp only [conjG, lit_eq, List.mem_singleton, Prod.mk.injEq]
    exact ⟨fun h j v e => by rw [e.1, e.2]; exact h, fun h => h i w ⟨rfl, rfl⟩⟩
  | (i, w) :: x :: r => by
    simp only [conjG, Bool.and_eq_true, lit_eq, conjG_iff (l := x :: r)]
    constructor
    · rintro ⟨h1, h2⟩ j v hm
      rcases List.mem_cons.1 hm with e | hm
      · cases e; exact h1
      · exact h2 j v hm
    · intro h
      exact ⟨h i w List.mem_cons_self, fun j v hm => h j v (List.mem_cons_of_mem _ hm)⟩

theorem nthB_app : ∀ {g : List Bool} {i : Nat} (y : Bool), i < g.length → nthB (g ++ [y]) i = nthB g i
  | [], _, _, h => absurd h (Nat.not_lt_zero _)
  | b :: r, 0, y, _ => rfl
  | b :: r, i + 1, y, h => nthB_app (g := r) y (Nat.lt_of_succ_lt_succ h)

theorem nthB_last : ∀ (g : List Bool) (y : Bool), nthB (g ++ [y]) g.length = y
  | [], _ => rfl
  | b :: r, y => nthB_last r y

theorem bool_eq_of {a b : Bool} (h : a = true ↔ b = true) : a = b := by cases a <;> cases b <;> simp_all

theorem conjG_app {g : List Bool} {l : Gs} (y : Bool) (h : ∀ i w, (i, w) ∈ l → i < g.length) : conjG (g ++ [y]) l = conjG g l := by
  apply bool_eq_of
  rw [conjG_iff, conjG_iff]
  constructor
  · intro k i w hm; rw [← k i w hm]; exact (nthB_app y (h i w hm)).symm
  · intro k i w hm; rw [← k i w hm]; exact nthB_app y (h i w hm)

theorem conjG_snoc {g : List Bool} {l : Gs} {i : Nat} {w : Bool} : conjG g (l ++ [(i, w)]) = true ↔ conjG g l = true ∧ nthB g i = w := by
  rw [conjG_iff, conjG_iff]
  constructor
  · intro k; exact ⟨fun j v hm => k j v (List.mem_append_left _ hm), k i w (by simp)⟩
  · rintro ⟨k1, k2⟩ j v hm
    rcases List.mem_append.1 hm with hm | hm
    · exact k1 j v hm
    · obtain ⟨rfl, rfl⟩ := Prod.mk.inj (List.mem_singleton.1 hm); exact k2

def AV.den (g : List Bool) (x : AV) : Value := match x.c with
  | [] => x.v
  | l => condV (conjG g l) x.v

theorem AV.den_eq (g : List Bool) (x : AV) : x.den g = condV (conjG g x.c) x.v := by
  unfold AV.den
  split
  · rename_i h; rw [h]; rfl
  · rfl

def bEq : Bool → Bool → Bool
  | true, true => true
  | false, false => true
  | _, _ => false

theorem bEq_eq : ∀ {a b : Bool}, bEq a b = true → a = b := by
  intro a b h; cases a <;> cases b <;> first | rfl | cases h

def memG (i : Nat) (w : Bool) : Gs → Bool
  | [] => false
  | (j, v) :: r => match Nat.beq i j && bEq w v with
    | true => true
    | false => memG i w r

theorem memG_out {i : Nat} {w : Bool} : ∀ {l : Gs}, memG i w l = true → (i, w) ∈ l
  | (j, v) :: r, h => by
    unfold memG at h
    split at h
    · rename_i hb
      simp only [Bool.and_eq_true] at hb
      obtain rfl := Nat.eq_of_beq_eq_true hb.1
      obtain rfl := bEq_eq hb.2
      exact List.mem_cons_self
    · exact List.mem_cons_of_mem _ (memG_out h)

/-- all guards of the first are among the second -/
def subB : Gs → Gs → Bool
  | [], _ => true
  | (i, w) :: r, q => match memG i w q with
    | true => subB r q
    | false => false

theorem subB_out {g : List Bool} : ∀ {l q : Gs}, subB l q = true → conjG g q = true → conjG g l = true := by
  intro l q h hq
  rw [conjG_iff] at hq ⊢
  intro i w hm
  refine hq i w ?_
  induction l with
  | nil => cases hm
  | cons x r ih =>
    obtain ⟨j, v⟩ := x
    unfold subB at h
    split at h
    · rename_i hb
      rcases List.mem_cons.1 hm with e | hm
      · cases e; exact memG_out hb
      · exact ih h hm
    · cases h

/-- the temporaries: how many, what was put into them (the last one first), what else stands there, and the guards that were asked -/
structure TM where
  n : Nat
  l : List (Nat × AV)
  d : Nat → Value
  g : List Bool

/-- the memory that a walk does not know: a world, and blocks that may have changed since -/
structure Base where
  w : World
  j : List Nat

structure St where
  b : Base
  t : TM
  h : List Blk

/-- a row has all its places -/
def rowOk (d : Blk) : Prop := match d.y with
  | .row cap size => cap ≤ maxLen ∧ d.c.length = cap * size ∧ d.x = none
  | .srow cap size => cap ≤ maxLen ∧ d.c.length = cap * size ∧ d.x = none
  | _ => True

/-- blocks that were made, of which the walk does not tell yet: they stay as they are -/
abbrev Gh := List (Nat × Obj)

variable {gh : Gh}

/-- a world in which the blocks lie as they are known; all else is as in the base; and what was there at the entry is as it was -/
structure HC (gh : Gh) (wE : World) (b : Base) (h : List Blk) (w : World) : Prop where
  os : w.os = wE.os
  tape : w.tape = wE.tape
  output : w.output = wE.output
  ns : wE.heap.size ≤ b.w.heap.size
  size : b.w.heap.size ≤ w.heap.size
  bl : ∀ d ∈ h, w.heap[d.g]? = some d.den
  nd : h.Pairwise (fun b c => b.g ≠ c.g)
  nw : ∀ d ∈ h, d.n = true → wE.heap.size ≤ d.g
  rw : ∀ d ∈ h, rowOk d
  fr : ∀ i, i < b.w.heap.size → (∀ d ∈ h, d.g ≠ i) → i ∉ b.j → w.heap[i]? = b.w.heap[i]?
  en : ∀ i, i < wE.heap.size → (∀ d ∈ h, d.n = false → d.g ≠ i) → w.heap[i]? = wE.heap[i]?
  gp : ∀ p ∈ gh, wE.heap.size ≤ p.1 ∧ (∀ d ∈ h, d.g ≠ p.1) ∧ w.heap[p.1]? = some p.2

theorem HC.le {wE w : World} {b : Base} {h : List Blk} (H : HC gh wE b h w) : wE.heap.size ≤ w.heap.size := Nat.le_trans H.ns H.size

/-- r is not the number of a known block of the entry's world -/
def oldNe : List Blk → Nat → Prop
  | [], _ => True
  | d :: l, r => match d.n with
    | true => oldNe l r
    | false => d.g ≠ r ∧ oldNe l r

def allNe : List Blk → Nat → Prop
  | [], _ => True
  | d :: l, r => d.g ≠ r ∧ allNe l r

def notJ : List Nat → Nat → Prop
  | [], _ => True
  | d :: l, r => d ≠ r ∧ notJ l r

theorem oldNe_out : ∀ {h : List Blk} {r : Nat}, oldNe h r → ∀ d ∈ h, d.n = false → d.g ≠ r
  | d :: l, r, h, b, hb, hn => by
    unfold oldNe at h
    rcases List.mem_cons.1 hb with rfl | hb
    · rw [hn] at h; exact h.1
    · split at h
      · exact oldNe_out h b hb hn
      · exact oldNe_out h.2 b hb hn

theorem allNe_out : ∀ {h : List Blk} {r : Nat}, allNe h r → ∀ d ∈ h, d.g ≠ r
  | d :: l, r, h, b, hb => by
    rcases List.mem_cons.1 hb with rfl | hb
    · exact h.1
    · exact allNe_out h.2 b hb

theorem notJ_out : ∀ {h : List Nat} {r : Nat}, notJ h r → r ∉ h
  | [], r, h => by simp
  | d :: l, r, h => by
    intro hb
    rcases List.mem_cons.1 hb with rfl | hb
    · exact h.1 rfl
    · exact notJ_out h.2 hb

/-- r is a block of the entry's world that is not known -/
def FarE (wE : World) (h : List Blk) (r : Nat) : Prop := r < wE.heap.size ∧ oldNe h r
/-- r is a block of the base that is not known -/
def FarB (b : Base) (h : List Blk) (r : Nat) : Prop := r < b.w.heap.size ∧ allNe h r ∧ notJ b.j r

theorem HC.farE {wE w : World} {b : Base} {h : List Blk} {r : Nat} (H : HC gh wE b h w) (f : FarE wE h r) : w.heap[r]? = wE.heap[r]? := H.en r f.1 (oldNe_out f.2)
theorem HC.farB {wE w : World} {b : Base} {h : List Blk} {r : Nat} (H : HC gh wE b h w) (f : FarB b h r) : w.heap[r]? = b.w.heap[r]? := H.fr r f.1 (allNe_out f.2.1) (notJ_out f.2.2)

def cellAt (b : Blk) (a : Addr) : Option Value :=
  match b.x, a.spot with
  | none, none => b.c[a.off]?
  | _, _ => none

theorem cellAt_some {b : Blk} {a : Addr} {v : Value} (h : cellAt b a = some v) : b.x = none ∧ a.spot = none ∧ b.c[a.off]? = some v := by
  unfold cellAt at h
  split at h
  · rename_i h1 h2; exact ⟨h1, h2, h⟩
  · cases h

theorem den_none {b : Blk} (h : b.x = none) : b.den = .cells b.c.toArray b.e (0, 0) := by unfold Blk.den; rw [h]

theorem Blk.den_eq {b c : Blk} (h : b.c = c.c ∧ b.e = c.e ∧ b.x = c.x) : b.den = c.den := by
  unfold Blk.den; rw [h.1, h.2.1, h.2.2]

def isCells : Obj → Bool
  | .cells _ _ _ => true
  | _ => false

def flat : Value → Bool
  | .agg _ => false
  | .tuple _ => false
  | _ => true

/-! words that bring what they are given to its form (so that a walk's state stays small), then go on -/
def forceV (v : Value) (k : Value → Prop) : Prop := match v with
  | .bool b => k (.bool b)
  | .int a n => k (.int a n)
  | .string s => k (.string s)
  | .pointer a => k (.pointer a)
  | .slice a n m => k (.slice a n m)
  | .tuple c => k (.tuple c)
  | .agg c => k (.agg c)
  | .map a => k (.map a)
  | .func a b c => k (.func a b c)
  | .nilFunc => k .nilFunc
  | .iface a b => k (.iface a b)
  | .nilIface => k .nilIface
  | .float a b => k (.float a b)
  | .complex a b c => k (.complex a b c)
  | .chan a => k (.chan a)

theorem forceV_eq (v : Value) (k : Value → Prop) : forceV v k = k v := by unfold forceV; split <;> rfl

def forceL : List Value → (List Value → Prop) → Prop
  | [], k => k []
  | v :: r, k => forceV v fun v => forceL r fun r => k (v :: r)

theorem forceL_eq : ∀ (l : List Value) (k : List Value → Prop), forceL l k = k l
  | [], _ => rfl
  | v :: r, k => by simp only [forceL, forceV_eq, forceL_eq r]

/-- a value with its cells -/
def forceW (v : Value) (k : Value → Prop) : Prop := match v with
  | .agg c => forceL c.toList fun l => k (.agg l.toArray)
  | .tuple c => forceL c.toList fun l => k (.tuple l.toArray)
  | v => forceV v k

theorem forceW_eq (v : Value) (k : Value → Prop) : forceW v k = k v := by
  unfold forceW; split <;> simp only [forceL_eq, forceV_eq, Array.toArray_toList]

def forceO : List (Option Nat) → (List (Option Nat) → Prop) → Prop
  | [], k => k []
  | none :: r, k => forceO r fun r => k (none :: r)
  | some n :: r, k => forceO r fun r => k (some n :: r)

theorem forceO_eq : ∀ (l : List (Option Nat)) (k : List (Option Nat) → Prop), forceO l k = k l
  | [], _ => rfl
  | none :: r, k => by simp only [forceO, forceO_eq r]
  | some n :: r, k => by simp only [forceO, forceO_eq r]

def forceS : Sh → (Sh → Prop) → Prop
  | [], k => k []
  | x :: r, k => forceO x fun x => forceS r fun r => k (x :: r)

theorem forceS_eq : ∀ (l : Sh) (k : Sh → Prop), forceS l k = k l
  | [], _ => rfl
  | x :: r, k => by simp only [forceS, forceO_eq, forceS_eq r]

def setK {α : Type} : List α → Nat → α → (List α → Prop) → Prop
  | [], _, _, k => k []
  | _ :: r, 0, x, k => k (x :: r)
  | a :: r, n + 1, x, k => setK r n x fun r => k (a :: r)

theorem setK_eq {α : Type} : ∀ (l : List α) (n : Nat) (x : α) (k : List α → Prop), setK l n x k = k (l.set n x)
  | [], n, _, _ => by cases n <;> rfl
  | _ :: r, 0, _, _ => rfl
  | a :: r, n + 1, x, k => by simp only [setK, setK_eq r, List.set_cons_succ]

/-- one way or the other -/
def br (y : Bool) (A B : Prop) : Prop := match y with
  | true => A
  | false => B

theorem br_intro {y : Bool} {A B : Prop} (ha : y = true → A) (hb : y = false → B) : br y A B := by
  cases y
  · exact hb rfl
  · exact ha rfl

theorem br_true {y : Bool} {A B : Prop} (h : br y A B) (hy : y = true) : A := by subst hy; exact h
theorem br_false {y : Bool} {A B : Prop} (h : br y A B) (hy : y = false) : B := by subst hy; exact h

def snocK {α : Type} : List α → α → (List α → Prop) → Prop
  | [], x, k => k [x]
  | a :: r, x, k => snocK r x fun r => k (a :: r)

theorem snocK_eq {α : Type} : ∀ (l : List α) (x : α) (k : List α → Prop), snocK l x k = k (l ++ [x])
  | [], _, _ => rfl
  | a :: r, x, k => by simp only [snocK, snocK_eq r, List.cons_append]

def forceH : List Blk → (List Blk → Prop) → Prop
  | [], k => k []
  | ⟨g, c, e, s, x, n, y⟩ :: r, k => forceO s fun s => forceH r fun r => k (⟨g, c, e, s, x, n, y⟩ :: r)

theorem forceH_eq : ∀ (l : List Blk) (k : List Blk → Prop), forceH l k = k l
  | [], _ => rfl
  | ⟨g, c, e, s, x, n, y⟩ :: r, k => by simp only [forceH, forceO_eq, forceH_eq r]

/-- of which form a cell of memory is that the walk does not know -/
inductive LK where
  | int (k : IntKind)
  | bool
  | slice
  | str
  | ptr
  | map
  | any

def LK.ex : LK → (Value → Prop) → Prop
  | .int k, p => ∃ x, p (.int k x)
  | .bool, p => ∃ x, p (.bool x)
  | .slice, p => ∃ a n c, p (.slice a n c)
  | .str, p => ∃ x, p (.string x)
  | .ptr, p => ∃ a, p (.pointer a)
  | .map, p => ∃ a, p (.map a)
  | .any, p => ∃ v, p v

theorem LK.ex_any : ∀ (k : LK) {p : Value → Prop}, k.ex p → ∃ v, p v
  | .int _, _, ⟨x, h⟩ => ⟨_, h⟩
  | .bool, _, ⟨x, h⟩ => ⟨_, h⟩
  | .slice, _, ⟨_, _, _, h⟩ => ⟨_, h⟩
  | .str, _, ⟨x, h⟩ => ⟨_, h⟩
  | .ptr, _, ⟨x, h⟩ => ⟨_, h⟩
  | .map, _, ⟨x, h⟩ => ⟨_, h⟩
  | .any, _, ⟨v, h⟩ => ⟨v, h⟩

def exL : List LK → (List Value → Prop) → Prop
  | [], p => p []
  | k :: r, p => k.ex fun v => exL r fun l => p (v :: l)

theorem exL_any : ∀ (l : List LK) {p : List Value → Prop}, exL l p → ∃ vs, p vs
  | [], _, h => ⟨[], h⟩
  | k :: r, p, h => by
    obtain ⟨v, h⟩ := LK.ex_any k h
    obtain ⟨l, h⟩ := exL_any r h
    exact ⟨_, h⟩

/-- the types, as a table -/
structure TT (P : Program) where
  u : TypeId → Option TypeDesc
  z : TypeId → Option Nat
  r : TypeId → Option (Nat × Nat)
  hu : ∀ t d, u t = some d → P.underlying t = some d
  hr : ∀ t n b, r t = some (n, b) → ∃ i z, P.info? t = some i ∧ i.zero = some z ∧ i.size = n ∧ i.bytes = b ∧ z.cells.size = n ∧ 0 < n ∧ 0 < b
  hz : ∀ t n, z t = some n → ∃ inf, P.info? t = some inf ∧ inf.size = n
  ap : Bool

def rowInfo (P : Program) (t : TypeId) : Option (Nat × Nat) := match P.info? t with
  | some i => match i.zero with
    | some z => match Nat.beq z.cells.size i.size && Nat.blt 0 i.size && Nat.blt 0 i.bytes with
      | true => some (i.size, i.bytes)
      | false => none
    | none => none
  | none => none

theorem rowInfo_out {P : Program} {t n b : Nat} (h : rowInfo P t = some (n, b)) : ∃ i z, P.info? t = some i ∧ i.zero = some z ∧ i.size = n ∧ i.bytes = b ∧ z.cells.size = n ∧ 0 < n ∧ 0 < b := by
  unfold rowInfo at h
  split at h
  · rename_i i hi
    split at h
    · rename_i z hz
      split at h
      · rename_i hb
        cases h
        simp only [Bool.and_eq_true] at hb
        exact ⟨i, z, hi, hz, rfl, rfl, Nat.eq_of_beq_eq_true hb.1.1, Nat.le_of_ble_eq_true hb.1.2, Nat.le_of_ble_eq_true hb.2⟩
      · cases h
    · cases h
  · cases h

def TT.plain (P : Program) : TT P := ⟨P.underlying, fun t => (P.info? t).map (·.size), rowInfo P, fun _ _ h => h, fun _ _ _ h => rowInfo_out h, fun t n h => by
  cases hi : P.info? t with
  | none => rw [hi] at h; cases h
  | some inf => rw [hi] at h; cases h; exact ⟨inf, rfl, rfl⟩, false⟩

/-- the same; what is appended to a row that is not literal parts the walk: there is room, or there is not -/
def TT.parted (P : Program) : TT P := { TT.plain P with ap := true }

theorem TT.run_u {P : Program} (T : TT P) {t : TypeId} {d : TypeDesc} (h : T.u t = some d) (w : World) : (underlying t).run P w = .ok d w := by
  simp [underlying, go_sem, T.hu t d h]
theorem TT.run_z {P : Program} (T : TT P) {t : TypeId} {n : Nat} (h : T.z t = some n) (w : World) : (sizeOf t).run P w = .ok n w := by
  obtain ⟨inf, hi, rfl⟩ := T.hz t n h
  simp [sizeOf, go_sem, typeInfo, hi]

/-! what holds under a guard -/
def under (q : Option Bool) (p : Prop) : Prop := match q with
  | none => p
  | some c => c = true → p

def qOn (q : Option Bool) : Prop := match q with
  | none => True
  | some c => c = true

theorem under_out {q : Option Bool} {p : Prop} (h : under q p) (hq : qOn q) : p := by
  cases q with
  | none => exact h
  | some c => exact h hq

/-- guards as one condition -/
def gB (g : List Bool) : Gs → Option Bool
  | [] => none
  | l => some (conjG g l)

theorem qOn_gB {g : List Bool} {l : Gs} : qOn (gB g l) ↔ conjG g l = true := by
  cases l with
  | nil => simp [gB, qOn, conjG]
  | cons x r => simp [gB, qOn]

/-! ### hints -/
inductive Hint where
  | id (n : Nat)
  | base
  | entry

def semVC (P : Program) (wE : World) (b : Base) {α : Type} : Option Nat → Sem α → List Blk → (α → List Blk → Prop) → Prop
  | _, .pure a, h, K => K a h
  | hint, .load _ a k, h, K =>
    match hint with
    | some i => match h[i]? with
      | some d => d.g = a.block ∧ (match cellAt d a with
        | some v => semVC P wE b hint (k v) h K
        | none => False)
      | none => False
    | none => False
  | hint, .store _ a v k, h, K =>
    match hint with
    | some i => match h[i]? with
      | some d => d.g = a.block ∧ (match cellAt d a, flat v with
        | some _, true => (match d with
          | ⟨bg, bc, be, bs, _, bn, by_⟩ => forceV v fun v => setK bc a.off v fun c => setK h i ⟨bg, c, be, bs, none, bn, by_⟩ fun h => semVC P wE b hint k h K)
        | _, _ => False)
      | none => False
    | none => False
  | hint, .new o k, h, K =>
    match o with
    | .cells c e (0, 0) => ∀ g, b.w.heap.size ≤ g → forceL c.toList fun c => snocK h ⟨g, c, e, [], none, true, .lit⟩ fun h => semVC P wE b hint (k g) h K
    | .stringIter s n => ∀ g, b.w.heap.size ≤ g → snocK h ⟨g, [], 0, [], some (.stringIter s n), true, .lit⟩ fun h => semVC P wE b hint (k g) h K
    | _ => False
  | hint, .shape r k, h, K =>
    match hint with
    | some i => match h[i]? with
      | some d => match d.x with
        | none => d.g = r ∧ semVC P wE b hint (k (some (d.e, d.c.length))) h K
        | some _ => False
      | none => False
    | none => False
  | hint, .frozen a k, h, K =>
    match hint with
    | some i => match h[i]? with
      | some d => match d.x with
        | none => d.g = a.block ∧ semVC P wE b hint (k false) h K
        | some _ => False
      | none => False
    | none => False
  | hint, .getObj r k, h, K =>
    match hint with
    | some i => match h[i]? with
      | some d => match d.x with
        | some o => match isCells o with
          | false => d.g = r ∧ semVC P wE b hint (k o) h K
          | true => False
        | none => False
      | none => False
    | none => False
  | hint, .setObj r o k, h, K =>
    match hint with
    | some i => match h[i]? with
      | some d => match d.x with
        | some o' => match isCells o' with
          | false => d.g = r ∧ (match d with
            | ⟨bg, bc, be, bs, _, bn, by_⟩ => setK h i ⟨bg, bc, be, bs, some o, bn, by_⟩ fun h => semVC P wE b hint k h K)
          | true => False
        | none => False
      | none => False
    | none => False
  | hint, .choose q k, h, K =>
    match q.forced with
    | true => semVC P wE b hint (k 0) h K
    | false => ∀ n, (∃ t, n = q.cut t) → semVC P wE b hint (k n) h K
  | hint, .program k, h, K => semVC P wE b hint (k P) h K
  | hint, .mark _ k, h, K => semVC P wE b hint k h K
  | _, _, _, _ => False

section
variable {wE w : World} {bs : Base} {h : List Blk}

theorem HC.cell {d : Blk} {a : Addr} {v : Value} (H : HC gh wE bs h w) (hb : d ∈ h) (hg : d.g = a.block) (hc : cellAt d a = some v) : w.cell? a = some v := by
  have h1 := H.bl d hb
  obtain ⟨hx, hs, hc⟩ := cellAt_some hc
  rw [den_none hx] at h1
  unfold World.cell?
  rw [← hg, h1]
  simpa [hs] using hc

theorem HC.frozen {d : Blk} {a : Addr} (H : HC gh wE bs h w) (hb : d ∈ h) (hx : d.x = none) (hg : d.g = a.block) : w.frozen? a = false := by
  have h1 := H.bl d hb
  rw [den_none hx] at h1
  unfold World.frozen?
  rw [← hg, h1]
  simp

theorem HC.lt {d : Blk} (H : HC gh wE bs h w) (hb : d ∈ h) : d.g < w.heap.size := (Array.getElem?_eq_some_iff.1 (H.bl d hb)).1

theorem pairwise_set {i : Nat} {b b' : Blk} (hi : h[i]? = some b) (hg : b'.g = b.g) (nd : h.Pairwise (fun b c => b.g ≠ c.g)) :
    (h.set i b').Pairwise (fun b c => b.g ≠ c.g) := by
  have : (h.set i b').map (·.g) = h.map (·.g) := by
    rw [List.map_set, hg]
    apply List.ext_getElem?
    intro n
    rw [List.getElem?_set]
    split
    · rename_i e; subst e
      have hlt := (List.getElem?_eq_some_iff.1 hi).1
      simp [hlt]
      have := (List.getElem?_eq_some_iff.1 hi).2
      simp [this]
    · rfl
  have h2 : (h.map (·.g)).Pairwise (· ≠ ·) := List.pairwise_map.2 nd
  rw [← this] at h2
  exact List.pairwise_map.1 h2

/-- of a list with another member: the other one, or an old one elsewhere -/
theorem mem_set_cases {i : Nat} {b' c : Blk} (hc : c ∈ h.set i b') : c = b' ∨ ∃ n, n ≠ i ∧ h[n]? = some c := by
  obtain ⟨n, hn⟩ := List.mem_iff_getElem?.1 hc
  rw [List.getElem?_set] at hn
  split at hn
  · split at hn
    · cases hn; exact .inl rfl
    · cases hn
  · rename_i e; exact .inr ⟨n, fun h => e h.symm, hn⟩

theorem nd_ne {i n : Nat} {b c : Blk} (nd : h.Pairwise (fun b c => b.g ≠ c.g)) (hi : h[i]? = some b) (hn : h[n]? = some c) (e : n ≠ i) : c.g ≠ b.g := by
  intro he
  rw [List.pairwise_iff_getElem] at nd
  obtain ⟨h1, e1⟩ := List.getElem?_eq_some_iff.1 hn
  obtain ⟨h2, e2⟩ := List.getElem?_eq_some_iff.1 hi
  rcases Nat.lt_or_gt_of_ne e with hlt | hlt
  · exact nd n i h1 h2 hlt (by rw [e1, e2]; exact he)
  · exact nd i n h2 h1 hlt (by rw [e1, e2]; exact he.symm)

theorem mem_of_set {i : Nat} {b b' c : Blk} (hi : h[i]? = some b) (hc : c ∈ h) : c = b ∨ c ∈ h.set i b' := by
  obtain ⟨n, hn⟩ := List.mem_iff_getElem?.1 hc
  by_cases e : i = n
  · subst e; rw [hi] at hn; cases hn; exact .inl rfl
  · exact .inr (List.mem_of_getElem? (i := n) (by rw [List.getElem?_set]; simp [e, hn]))

theorem mem_set_self {i : Nat} {b b' : Blk} (hi : h[i]? = some b) : b' ∈ h.set i b' :=
  List.mem_of_getElem? (i := i) (by rw [List.getElem?_set]; simp [(List.getElem?_eq_some_iff.1 hi).1])

/-- one block is another one now -/
theorem HC.chg {i : Nat} {b b' : Blk} {w' : World} (H : HC gh wE bs h w) (hi : h[i]? = some b) (hg : b'.g = b.g) (hn : b'.n = b.n) (hrow : rowOk b → rowOk b')
    (ho : w'.os = w.os) (ht : w'.tape = w.tape) (hp : w'.output = w.output) (hs : w.heap.size ≤ w'.heap.size)
    (hh : ∀ r, r < w.heap.size → w'.heap[r]? = if r = b.g then some b'.den else w.heap[r]?) :
    HC gh wE bs (h.set i b') w' := by
  have hbm : b ∈ h := List.mem_of_getElem? hi
  have hlt := H.lt hbm
  refine ⟨ho.trans H.os, ht.trans H.tape, hp.trans H.output, H.ns, Nat.le_trans H.size hs, ?_, pairwise_set hi hg H.nd, ?_, ?_, ?_, ?_, fun p hpm => ?_⟩
  rotate_left 5
  · obtain ⟨p1, p2, p3⟩ := H.gp p hpm
    refine ⟨p1, fun c hcm => ?_, ?_⟩
    · rcases mem_set_cases hcm with rfl | ⟨n, hne, hn'⟩
      · rw [hg]; exact p2 b hbm
      · exact p2 c (List.mem_of_getElem? hn')
    · rw [hh _ (Array.getElem?_eq_some_iff.1 p3).1, if_neg (Ne.symm (p2 b hbm))]; exact p3
  · intro c hcm
    rcases mem_set_cases hcm with rfl | ⟨n, hne, hn'⟩
    · rw [hg, hh _ hlt, if_pos rfl]
    · have hcm' : c ∈ h := List.mem_of_getElem? hn'
      rw [hh _ (H.lt hcm'), if_neg (nd_ne H.nd hi hn' hne)]
      exact H.bl c hcm'
  · intro c hcm hc
    rcases mem_set_cases hcm with rfl | ⟨n, hne, hn'⟩
    · rw [hg]; exact H.nw b hbm (hn ▸ hc)
    · exact H.nw c (List.mem_of_getElem? hn') hc
  · intro c hcm
    rcases mem_set_cases hcm with rfl | ⟨n, hne, hn'⟩
    · exact hrow (H.rw b hbm)
    · exact H.rw c (List.mem_of_getElem? hn')
  · intro r hr hf hj
    have hbr : b.g ≠ r := by rw [← hg]; exact hf b' (mem_set_self hi)
    rw [hh r (Nat.lt_of_lt_of_le hr H.size), if_neg (fun e => hbr e.symm)]
    refine H.fr r hr (fun c hcm => ?_) hj
    rcases mem_of_set (b' := b') hi hcm with rfl | hc
    · exact hbr
    · exact hf c hc
  · intro r hr hf
    have hbr : b.g ≠ r := by
      cases hbn : b.n with
      | true => have := H.nw b hbm hbn; omega
      | false => rw [← hg]; exact hf b' (mem_set_self hi) (hn.trans hbn)
    rw [hh r (Nat.lt_of_lt_of_le hr H.le), if_neg (fun e => hbr e.symm)]
    refine H.en r hr fun c hcm hcn => ?_
    rcases mem_of_set (b' := b') hi hcm with rfl | hc
    · exact hbr
    · exact hf c hc hcn

theorem HC.set {i : Nat} {d : Blk} {a : Addr} {v v0 : Value} (H : HC gh wE bs h w) (hi : h[i]? = some d) (hg : d.g = a.block) (hc : cellAt d a = some v0) :
    HC gh wE bs (h.set i ⟨d.g, d.c.set a.off v, d.e, d.s, none, d.n, d.y⟩) (w.setCell a v) := by
  have hb : d ∈ h := List.mem_of_getElem? hi
  obtain ⟨hx, hsp, _⟩ := cellAt_some hc
  refine H.chg hi rfl rfl (fun hr => by unfold rowOk at hr ⊢; simp only [List.length_set]; split <;> simp_all) rfl rfl rfl (by simp [World.setCell]) fun r _ => ?_
  unfold World.setCell
  simp only [Array.getElem?_modify]
  by_cases hr : r = d.g
  · subst hr
    have h1 := H.bl d hb
    rw [den_none hx] at h1
    rw [if_pos hg.symm, h1]
    simp [hsp, Blk.den]
  · rw [if_neg (by rw [← hg]; exact fun e => hr e.symm), if_neg hr]

theorem HC.setO {i : Nat} {b : Blk} {o o' : Obj} (H : HC gh wE bs h w) (hi : h[i]? = some b) (hx : b.x = some o') :
    HC gh wE bs (h.set i ⟨b.g, b.c, b.e, b.s, some o, b.n, b.y⟩) { w with heap := w.heap.setIfInBounds b.g o } := by
  have hb : b ∈ h := List.mem_of_getElem? hi
  have hlt := H.lt hb
  refine H.chg hi rfl rfl (fun hr => by unfold rowOk at hr ⊢; split <;> simp_all) rfl rfl rfl (by simp) fun r _ => ?_
  simp only [Array.getElem?_setIfInBounds]
  by_cases hr : r = b.g
  · subst hr; simp [hlt, Blk.den]
  · rw [if_neg (fun e => hr e.symm), if_neg hr]

theorem HC.push {b : Blk} (H : HC gh wE bs h w) (hg : b.g = w.heap.size) (hn : b.n = true) (hrow : rowOk b) :
    HC gh wE bs (h ++ [b]) { w with heap := w.heap.push b.den } := by
  have hlt : ∀ b ∈ h, b.g < w.heap.size := fun b hb => H.lt hb
  refine ⟨H.os, H.tape, H.output, H.ns, ?_, ?_, ?_, ?_, ?_, ?_, ?_, fun p hpm => ?_⟩
  rotate_left 7
  · obtain ⟨p1, p2, p3⟩ := H.gp p hpm
    have hps := (Array.getElem?_eq_some_iff.1 p3).1
    refine ⟨p1, fun c hcm => ?_, ?_⟩
    · rcases List.mem_append.1 hcm with hc | hc
      · exact p2 c hc
      · obtain rfl := List.mem_singleton.1 hc; rw [hg]; exact Nat.ne_of_gt hps
    · rw [Array.getElem?_push, if_neg (Nat.ne_of_lt hps)]; exact p3
  · simp only [Array.size_push]; exact Nat.le_succ_of_le H.size
  · intro c hc
    rcases List.mem_append.1 hc with hc | hc
    · have := hlt c hc
      rw [Array.getElem?_push, if_neg (Nat.ne_of_lt this)]
      exact H.bl c hc
    · obtain rfl := List.mem_singleton.1 hc
      rw [Array.getElem?_push]
      simp [hg]
  · rw [List.pairwise_append]
    refine ⟨H.nd, by simp, fun b' hb' c hc => ?_⟩
    obtain rfl := List.mem_singleton.1 hc
    rw [hg]
    exact Nat.ne_of_lt (hlt b' hb')
  · intro c hc hcn
    rcases List.mem_append.1 hc with hc | hc
    · exact H.nw c hc hcn
    · obtain rfl := List.mem_singleton.1 hc
      rw [hg]; exact H.le
  · intro c hc
    rcases List.mem_append.1 hc with hc | hc
    · exact H.rw c hc
    · obtain rfl := List.mem_singleton.1 hc
      exact hrow
  · intro r hr hf hj
    have : r ≠ w.heap.size := Nat.ne_of_lt (Nat.lt_of_lt_of_le hr H.size)
    rw [Array.getElem?_push, if_neg this]
    exact H.fr r hr (fun b hb => hf b (List.mem_append_left _ hb)) hj
  · intro r hr hf
    have : r ≠ w.heap.size := Nat.ne_of_lt (Nat.lt_of_lt_of_le hr H.le)
    rw [Array.getElem?_push, if_neg this]
    exact H.en r hr (fun b hb => hf b (List.mem_append_left _ hb))

theorem HC.drawn (n : Nat) (H : HC gh wE bs h w) : HC gh wE bs h { w with drawn := n } :=
  ⟨H.os, H.tape, H.output, H.ns, H.size, H.bl, H.nd, H.nw, H.rw, H.fr, H.en, H.gp⟩

/-- the base anew: the world as it is -/
theorem HC.rebase (H : HC gh wE bs h w) : HC gh wE ⟨w, []⟩ h w :=
  ⟨H.os, H.tape, H.output, H.le, Nat.le_refl _, H.bl, H.nd, H.nw, H.rw, fun _ _ _ _ => rfl, H.en, H.gp⟩

theorem HC.drop (H : HC gh wE bs h w) : HC [] wE bs h w :=
  ⟨H.os, H.tape, H.output, H.ns, H.size, H.bl, H.nd, H.nw, H.rw, H.fr, H.en, fun _ h => by cases h⟩

theorem HC.step {w' : World} (H : HC gh wE bs h w) (B : Below w.heap.size w w') : HC gh wE bs h w' :=
  ⟨B.os.trans H.os, B.tape.trans H.tape, B.output.trans H.output, H.ns, Nat.le_trans H.size B.size,
    fun b hb => (B.block _ (H.lt hb)).trans (H.bl b hb), H.nd, H.nw, H.rw,
    fun i hi hf hj => (B.block i (Nat.lt_of_lt_of_le hi H.size)).trans (H.fr i hi hf hj),
    fun i hi hf => (B.block i (Nat.lt_of_lt_of_le hi H.le)).trans (H.en i hi hf),
    fun p hp => ⟨(H.gp p hp).1, (H.gp p hp).2.1, (B.block _ (Array.getElem?_eq_some_iff.1 (H.gp p hp).2.2).1).trans (H.gp p hp).2.2⟩⟩

theorem HC.start (w : World) : HC [] w ⟨w, []⟩ [] w :=
  ⟨rfl, rfl, rfl, Nat.le_refl _, Nat.le_refl _, (fun _ h => by cases h), List.Pairwise.nil, (fun _ h => by cases h), (fun _ h => by cases h), (fun _ _ _ _ => rfl), (fun _ _ _ => rfl), fun _ h => by cases h⟩
end

theorem semVC_sound {P : Program} {wE : World} {b : Base} {α : Type} (s : Sem α) :
    ∀ (hint : Option Nat) (h : List Blk) (K : α → List Blk → Prop) (w : World), HC gh wE b h w → semVC P wE b hint s h K →
      ∃ r h' w', s.run P w = .ok r w' ∧ HC gh wE b h' w' ∧ K r h' := by
  induction s with
  | pure a => intro hint h K w H hk; exact ⟨a, h, w, rfl, H, hk⟩
  | load m a k ih =>
    intro hint h K w H hk
    simp only [Sem.run]
    cases hint with
    | none => simp only [semVC] at hk
    | some i =>
      simp only [semVC] at hk
      split at hk
      · rename_i d hb
        obtain ⟨hg, hk⟩ := hk
        split at hk
        · rename_i v hv
          rw [H.cell (List.mem_of_getElem? hb) hg hv]
          exact ih v _ h K w H hk
        · exact hk.elim
      · exact hk.elim
  | store m a v k ih =>
    intro hint h K w H hk
    cases hint with
    | none => simp only [semVC] at hk
    | some i =>
      simp only [semVC] at hk
      split at hk
      · rename_i d hb
        obtain ⟨hg, hk⟩ := hk
        split at hk
        · rename_i v0 hv hfl
          have hrun : (Sem.store m a v k).run P w = k.run P (w.setCell a v) := by
            cases v <;> first | (simp [flat] at hfl; done) | simp [Sem.run, H.cell (List.mem_of_getElem? hb) hg hv, H.frozen (List.mem_of_getElem? hb) (cellAt_some hv).1 hg]
          rw [hrun]
          have hk : semVC P wE b (some i) k (h.set i ⟨d.g, d.c.set a.off v, d.e, d.s, none, d.n, d.y⟩) K := by
            obtain ⟨bg, bc, be, bs, bx, bn, by_⟩ := d
            simpa only [forceV_eq, setK_eq] using hk
          exact ih _ _ K _ (H.set hb hg hv) hk
        · exact hk.elim
      · exact hk.elim
  | new o k ih =>
    intro hint h K w H hk
    unfold semVC at hk
    simp only [Sem.run]
    split at hk
    · rename_i c e
      have hk := hk _ H.size
      simp only [forceL_eq, snocK_eq] at hk
      exact ih _ _ _ K _ (H.push (b := ⟨w.heap.size, c.toList, e, [], none, true, .lit⟩) rfl rfl trivial) hk
    · rename_i s n
      have hk := hk _ H.size
      simp only [snocK_eq] at hk
      exact ih _ _ _ K _ (H.push (b := ⟨w.heap.size, [], 0, [], some (.stringIter s n), true, .lit⟩) rfl rfl trivial) hk
    · exact hk.elim
  | shape r k ih =>
    intro hint h K w H hk
    simp only [Sem.run]
    cases hint with
    | none => simp only [semVC] at hk
    | some i =>
      simp only [semVC] at hk
      split at hk
      · rename_i d hb
        split at hk
        · rename_i hx
          have : w.shape? r = some (d.e, d.c.length) := by
            unfold World.shape?; rw [← hk.1, H.bl d (List.mem_of_getElem? hb), den_none hx]; simp
          rw [this]; exact ih _ _ h K w H hk.2
        · exact hk.elim
      · exact hk.elim
  | freeze a n k ih => intro hint h K w H hk; simp [semVC] at hk
  | frozen a k ih =>
    intro hint h K w H hk
    simp only [Sem.run]
    cases hint with
    | none => simp only [semVC] at hk
    | some i =>
      simp only [semVC] at hk
      split at hk
      · rename_i d hb
        split at hk
        · rename_i hx
          rw [H.frozen (List.mem_of_getElem? hb) hx hk.1]; exact ih _ _ h K w H hk.2
        · exact hk.elim
      · exact hk.elim
  | getObj r k ih =>
    intro hint h K w H hk
    cases hint with
    | none => simp only [semVC] at hk
    | some i =>
      simp only [semVC] at hk
      split at hk
      · rename_i d hb
        split at hk
        · rename_i o hx
          split at hk
          · rename_i hc
            have h1 := H.bl d (List.mem_of_getElem? hb)
            rw [hk.1] at h1
            have h2 : d.den = o := by unfold Blk.den; rw [hx]
            rw [h2] at h1
            have hrun : (Sem.getObj r k).run P w = (k o).run P w := by
              simp only [Sem.run, h1]
              cases o <;> first | (simp [isCells] at hc; done) | rfl
            rw [hrun]; exact ih o _ h K w H hk.2
          · exact hk.elim
        · exact hk.elim
      · exact hk.elim
  | setObj r o k ih =>
    intro hint h K w H hk
    cases hint with
    | none => simp only [semVC] at hk
    | some i =>
      simp only [semVC] at hk
      split at hk
      · rename_i d hb
        split at hk
        · rename_i o' hx
          split at hk
          · rename_i hc
            obtain ⟨hg, hk⟩ := hk
            have hk : semVC P wE b (some i) k (h.set i ⟨d.g, d.c, d.e, d.s, some o, d.n, d.y⟩) K := by
              obtain ⟨bg, bc, be, bs, bx, bn, by_⟩ := d
              simpa only [setK_eq] using hk
            have h1 := H.bl d (List.mem_of_getElem? hb)
            rw [hg] at h1
            have h2 : d.den = o' := by unfold Blk.den; rw [hx]
            rw [h2] at h1
            have hrun : (Sem.setObj r o k).run P w = k.run P { w with heap := w.heap.setIfInBounds d.g o } := by
              simp only [Sem.run, h1, hg]
              cases o' <;> first | (simp [isCells] at hc; done) | rfl
            rw [hrun]; exact ih _ _ K _ (H.setO hb hx) hk
          · exact hk.elim
        · exact hk.elim
      · exact hk.elim
  | choose q k ih =>
    intro hint h K w H hk
    unfold semVC at hk
    simp only [Sem.run]
    cases hq : q.forced with
    | true => rw [hq] at hk; simp only [if_true]; exact ih _ _ h K w H hk
    | false => rw [hq] at hk; simp only [Bool.false_eq_true, if_false]; exact ih _ _ h K _ (H.drawn _) (hk _ ⟨_, rfl⟩)
  | sys c k ih => intro hint h K w H hk; simp [semVC] at hk
  | program k ih => intro hint h K w H hk; simp only [semVC] at hk; simp only [Sem.run]; exact ih _ _ h K w H hk
  | mark m k ih => intro hint h K w H hk; simp only [semVC] at hk; simp only [Sem.run]; exact ih _ h K w H hk
  | halt x => intro hint h K w H hk; simp [semVC] at hk

/-! ### the state of a walk -/
abbrev noAV : AV := pl undef []

def lookR : List (Nat × AV) → (Nat → Value) → Nat → AV
  | [], d, i => pl (d i) []
  | (q, x) :: r, d, i => match Nat.beq q i with
    | true => x
    | false => lookR r d i

theorem lookR_cons (p : Nat × AV) (l : List (Nat × AV)) (d : Nat → Value) (i : Nat) : lookR (p :: l) d i = if p.1 = i then p.2 else lookR l d i := by
  obtain ⟨q, x⟩ := p
  simp only [lookR]
  show (match Nat.beq q i with
    | true => x
    | false => lookR l d i) = _
  by_cases h : q = i
  · rw [if_pos h, h, show Nat.beq i i = true from Nat.beq_refl i]
  · rw [if_neg h]
    have : Nat.beq q i = false := by
      cases hb : Nat.beq q i
      · rfl
      · exact absurd (Nat.eq_of_beq_eq_true hb) h
    rw [this]

def getT : TM → Nat → AV
  | ⟨n, l, d, _⟩, i => match Nat.blt i n with
    | true => lookR l d i
    | false => noAV

theorem blt_eq (i n : Nat) : Nat.blt i n = decide (i < n) := by
  by_cases h : i < n
  · rw [decide_eq_true h]; exact Nat.ble_eq_true_of_le h
  · rw [decide_eq_false h]
    cases hb : Nat.blt i n
    · rfl
    · exact absurd (Nat.le_of_ble_eq_true hb) h

theorem getT_eq (t : TM) (i : Nat) : getT t i = if i < t.n then lookR t.l t.d i else noAV := by
  obtain ⟨n, l, d, g⟩ := t
  simp only [getT, blt_eq]
  by_cases h : i < n <;> simp [h]

def setT : TM → Nat → AV → TM
  | ⟨n, l, d, g⟩, i, x => ⟨n, (i, x) :: l, d, g⟩

theorem getT_set (t : TM) (j : Nat) (x : AV) (i : Nat) : getT (setT t j x) i = if j = i ∧ i < t.n then x else getT t i := by
  obtain ⟨n, l, d, g⟩ := t
  rw [getT_eq, getT_eq]
  simp only [setT, lookR_cons]
  by_cases h1 : j = i <;> by_cases h2 : i < n <;> simp [h1, h2]

theorem setT_n (t : TM) (j : Nat) (x : AV) : (setT t j x).n = t.n := rfl
theorem setT_g (t : TM) (j : Nat) (x : AV) : (setT t j x).g = t.g := rfl

/-- a value's guards were asked, and its own number tells of it -/
def AVok (g : List Bool) (x : AV) : Prop := (∀ i w, (i, w) ∈ x.c → i < g.length) ∧ ∀ s, x.p = some s → s < g.length ∧ x.v = .bool (nthB g s)

theorem AVok_pl (g : List Bool) (v : Value) (s : Sh) : AVok g (pl v s) := ⟨fun _ _ h => (by cases h), fun _ h => (by cases h)⟩
theorem AVok_k (g : List Bool) (v : Value) (s : Sh) (k : Bool) : AVok g ⟨v, s, [], k, none⟩ := ⟨fun _ _ h => (by cases h), fun _ h => (by cases h)⟩

def WF (t : TM) : Prop := ∀ i, AVok t.g (getT t i)

theorem WF.set {t : TM} (h : WF t) (d : Nat) {x : AV} (hx : AVok t.g x) : WF (setT t d x) := by
  intro i
  rw [setT_g, getT_set]
  split
  · exact hx
  · exact h i

def evT (t : TM) : Operand → Value
  | .tmp i => (getT t i).den t.g
  | .const v => v
  | .global g => .pointer (some ⟨g, 0, none⟩)
  | .func f => .func (.func f) #[] #[]

structure Conc (gh : Gh) (wE : World) (st : St) (a : Act) (w : World) : Prop where
  sz : st.t.n = a.tmps.size
  tm : ∀ i, a.tmps.getD i undef = (getT st.t i).den st.t.g
  wf : WF st.t
  df : a.defers = []
  hc : HC gh wE st.b st.h w

theorem Conc.eval {wE : World} {st : St} {a : Act} {w : World} (C : Conc gh wE st a w) : a.eval = evT st.t := by
  funext x
  cases x with
  | tmp i => exact C.tm i
  | _ => rfl

def putK (t : TM) (d : Option Nat) (x : AV) (k : TM → Prop) : Prop :=
  match d with
  | some d => k (setT t d x)
  | none => k t

def putT (t : TM) (d : Option Nat) (x : AV) : TM :=
  match d with
  | some d => setT t d x
  | none => t

theorem putK_eq (t : TM) (d : Option Nat) (x : AV) (k : TM → Prop) : putK t d x k = k (putT t d x) := by
  cases d <;> rfl

theorem Conc.put {wE : World} {st : St} {a : Act} {w w' : World} {b' : Base} {h' : List Blk} (C : Conc gh wE st a w) (d : Option Nat) (x : AV) (hok : AVok st.t.g x) {v : Value} (hv : v = x.den st.t.g) (H : HC gh wE b' h' w') :
    Conc gh wE ⟨b', putT st.t d x, h'⟩ (a.put d v) w' := by
  subst hv
  cases d with
  | none => exact ⟨C.sz, C.tm, C.wf, C.df, H⟩
  | some d =>
    refine ⟨?_, fun i => ?_, C.wf.set d hok, C.df, H⟩
    · simp only [putT, setT_n, Act.put, Array.size_setIfInBounds]; exact C.sz
    · simp only [putT, Act.put, setT_g]
      rw [getT_set]
      have h1 := C.tm i
      have h2 := C.sz
      simp only [Array.getD_eq_getD_getElem?, Array.getElem?_setIfInBounds] at h1 ⊢
      by_cases h : d = i
      · subst h
        by_cases hlt : d < a.tmps.size
        · simp [hlt, h2]
        · simp only [hlt, if_false, if_true, h2, and_false]
          rw [← h1]
          simp [hlt]
      · simp only [h, if_false, false_and]
        exact h1

/-- the same values -/
def Same (t' t : TM) : Prop := t'.n = t.n ∧ (∀ i, (getT t' i).den t'.g = (getT t i).den t.g) ∧ (WF t → WF t')

theorem Same.refl (t : TM) : Same t t := ⟨rfl, fun _ => rfl, id⟩
theorem Same.trans {a b c : TM} (h : Same a b) (k : Same b c) : Same a c := ⟨h.1.trans k.1, fun i => (h.2.1 i).trans (k.2.1 i), fun w => h.2.2 (k.2.2 w)⟩

theorem Same.set {t : TM} {d : Nat} {x : AV} (hx : WF t → AVok t.g x) (h : x.den t.g = (getT t d).den t.g) : Same (setT t d x) t := by
  refine ⟨rfl, fun i => ?_, fun w => w.set d (hx w)⟩
  rw [getT_set, setT_g]
  split
  · rename_i e; rw [← e.1, h]
  · rfl

theorem Conc.same {wE : World} {b : Base} {t t' : TM} {h : List Blk} {a : Act} {w : World} (C : Conc gh wE ⟨b, t, h⟩ a w) (e : Same t' t) : Conc gh wE ⟨b, t', h⟩ a w :=
  ⟨e.1.trans C.sz, fun i => (C.tm i).trans (e.2.1 i).symm, e.2.2 C.wf, C.df, C.hc⟩

/-- a guard's number: it has one, or is given one -/
def regT (t : TM) (d : Nat) : AV → TM × Nat
  | ⟨v, s, c, k, some p⟩ => (t, p)
  | ⟨.bool y, s, c, k, none⟩ => (⟨t.n, (d, ⟨.bool y, s, c, k, some t.g.length⟩) :: t.l, t.d, t.g ++ [y]⟩, t.g.length)
  | _ => (t, 0)

theorem AVok.app {g : List Bool} {x : AV} (y : Bool) (h : AVok g x) : AVok (g ++ [y]) x := by
  refine ⟨fun i w hm => ?_, fun s hs => ?_⟩
  · have := h.1 i w hm; simp only [List.length_append, List.length_cons, List.length_nil]; omega
  · obtain ⟨h1, h2⟩ := h.2 s hs
    refine ⟨by simp only [List.length_append, List.length_cons, List.length_nil]; omega, ?_⟩
    rw [nthB_app y h1]; exact h2

theorem regT_out {t : TM} {d : Nat} {y : Bool} {s : Sh} {c : Gs} {k : Bool} {p : Option Nat} (hw : WF t) (ht : getT t d = ⟨.bool y, s, c, k, p⟩) {t' : TM} {n : Nat} (h : regT t d ⟨.bool y, s, c, k, p⟩ = (t', n)) :
    Same t' t ∧ n < t'.g.length ∧ nthB t'.g n = y ∧ (∀ i w, (i, w) ∈ c → i < t'.g.length) ∧ conjG t'.g c = conjG t.g c ∧ ∃ p', getT t' d = ⟨.bool y, s, c, k, p'⟩ := by
  have h0 := hw d
  rw [ht] at h0
  cases p with
  | some p =>
    simp only [regT, Prod.mk.injEq] at h
    obtain ⟨rfl, rfl⟩ := h
    obtain ⟨h1, h2⟩ := h0.2 p rfl
    injection h2 with h2
    exact ⟨Same.refl _, h1, h2.symm, h0.1, rfl, _, ht⟩
  | none =>
    simp only [regT, Prod.mk.injEq] at h
    obtain ⟨rfl, rfl⟩ := h
    have hget : ∀ i, getT ⟨t.n, (d, ⟨.bool y, s, c, k, some t.g.length⟩) :: t.l, t.d, t.g ++ [y]⟩ i = if d = i ∧ i < t.n then ⟨.bool y, s, c, k, some t.g.length⟩ else getT t i := by
      intro i
      have := getT_set t d ⟨.bool y, s, c, k, some t.g.length⟩ i
      rw [← this, getT_eq, getT_eq]; rfl
    have hc := conjG_app (g := t.g) y h0.1
    have hin : d < t.n := by
      rcases Nat.lt_or_ge d t.n with h | h
      · exact h
      · rw [getT_eq, if_neg (by omega)] at ht; cases ht
    refine ⟨⟨rfl, fun i => ?_, fun w i => ?_⟩, by simp, nthB_last _ _, fun i w hm => ?_, hc, some t.g.length, ?_⟩
    · rw [hget]
      split
      · rename_i e
        rw [← e.1, ht, AV.den_eq, AV.den_eq, hc]
      · rw [AV.den_eq, AV.den_eq, conjG_app y (hw i).1]
    · rw [hget]
      split
      · refine ⟨fun j w hm => ?_, fun s' hs' => ?_⟩
        · have := h0.1 j w hm; simp only [List.length_append, List.length_cons, List.length_nil]; omega
        · cases hs'
          exact ⟨by simp, by rw [nthB_last]⟩
      · exact (w i).app y
    · have := h0.1 i w hm; simp only [List.length_append, List.length_cons, List.length_nil]; omega
    · rw [hget, if_pos ⟨rfl, hin⟩]

/-- operands that are so under guards: met by the guards at hand (q), or asked for -/
def resO (q : Gs) : List Operand → TM → (TM → Prop) → Prop
  | [], t, k => k t
  | .tmp i :: r, t, k => match getT t i with
    | ⟨_, _, [], _, _⟩ => resO q r t k
    | ⟨v, s, c, _, p⟩ => match subB c q with
      | true => resO q r (setT t i ⟨v, s, [], false, p⟩) k
      | false => under (gB t.g q) (conjG t.g c = true) ∧ resO q r (setT t i ⟨v, s, [], false, p⟩) k
  | _ :: r, t, k => resO q r t k

theorem resO_out {q : Gs} : ∀ {l : List Operand} {t : TM} {k : TM → Prop}, resO q l t k → ∃ t', t'.g = t.g ∧ (conjG t.g q = true → Same t' t) ∧ k t'
  | [], t, k, h => ⟨t, rfl, fun _ => Same.refl t, h⟩
  | .const v :: r, t, k, h => resO_out (l := r) (by unfold resO at h; exact h)
  | .global v :: r, t, k, h => resO_out (l := r) (by unfold resO at h; exact h)
  | .func v :: r, t, k, h => resO_out (l := r) (by unfold resO at h; exact h)
  | .tmp i :: r, t, k, h => by
    have key : ∀ {v s c kk p}, getT t i = ⟨v, s, c, kk, p⟩ → (conjG t.g q = true → conjG t.g c = true) → resO q r (setT t i ⟨v, s, [], false, p⟩) k → ∃ t', t'.g = t.g ∧ (conjG t.g q = true → Same t' t) ∧ k t' := by
      intro v s c kk p hx hc h
      obtain ⟨t', hg, hs, hk⟩ := resO_out h
      refine ⟨t', hg, fun hq => (hs hq).trans (Same.set (fun w => ?_) ?_), hk⟩
      · have := w i; rw [hx] at this; exact ⟨fun _ _ h => (by cases h), this.2⟩
      · rw [hx, AV.den_eq, AV.den_eq, hc hq]; rfl
    unfold resO at h
    split at h
    · exact resO_out (l := r) h
    · rename_i v s c kk p hne hx
      split at h
      · rename_i hb; exact key hx (fun hq => subB_out hb hq) h
      · exact key hx (fun hq => under_out h.1 (qOn_gB.2 hq)) h.2

/-! hints -/
def shOf (t : TM) : Operand → Sh
  | .tmp i => (getT t i).s
  | _ => []

def hd1 : Sh → Option Nat
  | (some n :: _) :: _ => some n
  | _ => none

def fl1 (s : Sh) : List (Option Nat) := match s with
  | x :: _ => x
  | [] => []

def leaves (P : Program) (T : TT P) : Nat → TypeId → List LK
  | 0, _ => []
  | n + 1, ty => match T.u ty with
    | some (.int k) => [.int k]
    | some .bool => [.bool]
    | some .string => [.str]
    | some (.slice _) => [.slice]
    | some (.pointer _) => [.ptr]
    | some (.map _ _) => [.map]
    | some (.struct fs) => fs.toList.flatMap fun f => leaves P T n f.type
    | _ => [.any]

def toHint : Option Nat → Hint
  | some n => match Nat.blt n 1000 with
    | true => .id n
    | false => match Nat.beq n 1001 with
      | true => .entry
      | false => .base
  | none => .entry

def hintOf (o : Oper) (t : TM) : Option Nat :=
  match o.op with
  | .store _ a _ => hd1 (shOf t a)
  | .slice _ x _ _ _ => hd1 (shOf t x)
  | .convert _ _ x => hd1 (shOf t x)
  | .next x _ => hd1 (shOf t x)
  | .call c => match c.args.toList with
    | x :: _ => hd1 (shOf t x)
    | [] => none
  | _ => none

def pad (n : Nat) (l : List (Option Nat)) : List (Option Nat) := l ++ List.replicate (n - l.length) none

def offOf : Value → Nat
  | .pointer (some a) => a.off
  | _ => 0

def shRes (P : Program) (T : TT P) (o : Oper) (t : TM) (h : List Blk) (v : Value) : Sh :=
  match o.op with
  | .move x => shOf t x
  | .assign x => shOf t x
  | .pick _ a b => match shOf t a with
    | [] => shOf t b
    | s => s
  | .alloc _ => [[some h.length]]
  | .range _ _ => [[some h.length]]
  | .box _ _ => [[some h.length]]
  | .buildSlice _ _ _ => [[some h.length]]
  | .makeSlice _ _ _ => [[some h.length]]
  | .nilCheck x => shOf t x
  | .fieldAddr _ x _ => shOf t x
  | .indexAddr _ x _ => shOf t x
  | .slice _ x _ _ _ => shOf t x
  | .field ty x f => match fl1 (shOf t x) with
    | [] => []
    | s => match T.u ty with
      | some (.struct fs) => match fs[f]? with
        | some f => [(s.drop f.offset).take v.cells.size]
        | none => []
      | _ => []
  | .build ty parts => match parts.toList.all (fun p => (fl1 (shOf t p.2)).isEmpty) with
    | true => []
    | false => match T.u ty with
      | some (.struct fs) => [parts.toList.foldl (fun (acc : List (Option Nat)) p => match fs[p.1]? with
          | some f => let l := pad (evT t p.2).cells.size (fl1 (shOf t p.2)); acc.take f.offset ++ l ++ acc.drop (f.offset + l.length)
          | none => acc) (List.replicate v.cells.size none)]
      | _ => []
  | .extract x i => match (shOf t x)[i]? with
    | some s => [s]
    | none => []
  | _ => []

def blkS (f : List (Option Nat) → List (Option Nat)) : Blk → Blk
  | ⟨g, c, e, s, x, n, y⟩ => ⟨g, c, e, f s, x, n, y⟩

theorem HC.modS {wE w : World} {b : Base} {h : List Blk} (i : Nat) (f : List (Option Nat) → List (Option Nat)) (H : HC gh wE b h w) : HC gh wE b (h.modify i (blkS f)) w := by
  have key : ∀ b ∈ h.modify i (blkS f), ∃ c ∈ h, c.g = b.g ∧ c.den = b.den ∧ c.n = b.n ∧ (rowOk c → rowOk b) := by
    intro b hb
    obtain ⟨n, hn⟩ := List.mem_iff_getElem?.1 hb
    rw [List.getElem?_modify] at hn
    cases hh : h[n]? with
    | none => rw [hh] at hn; simp at hn
    | some c =>
      rw [hh] at hn
      refine ⟨c, List.mem_of_getElem? hh, ?_⟩
      have hn' : (if i = n then blkS f c else c) = b := by simpa using hn
      subst hn'
      split <;> exact ⟨rfl, rfl, rfl, id⟩
  have key2 : ∀ c ∈ h, ∃ b ∈ h.modify i (blkS f), c.g = b.g ∧ c.n = b.n := by
    intro c hc
    obtain ⟨n, hn⟩ := List.mem_iff_getElem?.1 hc
    refine ⟨if i = n then blkS f c else c, List.mem_of_getElem? (i := n) (by rw [List.getElem?_modify, hn]; split <;> simp_all), ?_⟩
    split <;> exact ⟨rfl, rfl⟩
  refine ⟨H.os, H.tape, H.output, H.ns, H.size, ?_, ?_, ?_, ?_, ?_, ?_, fun p hp => ⟨(H.gp p hp).1, fun b hb => by
    obtain ⟨c, hc, h1, _⟩ := key b hb
    rw [← h1]; exact (H.gp p hp).2.1 c hc, (H.gp p hp).2.2⟩⟩
  · intro b hb
    obtain ⟨c, hc, h1, h2, _⟩ := key b hb
    rw [← h1, ← h2]; exact H.bl c hc
  · have h1 : (h.modify i (blkS f)).map (·.g) = h.map (·.g) := by
      apply List.ext_getElem?
      intro n
      simp only [List.getElem?_map, List.getElem?_modify]
      cases h[n]? with
      | none => rfl
      | some c =>
        show some (if i = n then blkS f c else c).g = some c.g
        split <;> rfl
    have h2 : (h.map (·.g)).Pairwise (· ≠ ·) := List.pairwise_map.2 H.nd
    rw [← h1] at h2
    exact List.pairwise_map.1 h2
  · intro b hb hbn
    obtain ⟨c, hc, h1, _, h3, _⟩ := key b hb
    rw [← h1]; exact H.nw c hc (h3.trans hbn)
  · intro b hb
    obtain ⟨c, hc, _, _, _, h4⟩ := key b hb
    exact h4 (H.rw c hc)
  · intro r hr hf hj
    refine H.fr r hr (fun c hc => ?_) hj
    obtain ⟨b, hb, e, _⟩ := key2 c hc
    rw [e]; exact hf b hb
  · intro r hr hf
    refine H.en r hr fun c hc hcn => ?_
    obtain ⟨b, hb, e, e2⟩ := key2 c hc
    rw [e]; exact hf b hb (e2 ▸ hcn)

def fixH (o : Oper) (t : TM) (h : List Blk) : List Blk :=
  match o.op with
  | .store _ a x => match hd1 (shOf t a) with
    | some i => match fl1 (shOf t x) with
      | [] => h.modify i (blkS fun s => match s with
        | [] => []
        | s => s.take (offOf (evT t a)) ++ List.replicate (evT t x).cells.size none ++ s.drop (offOf (evT t a) + (evT t x).cells.size))
      | l => h.modify i (blkS fun s => let s := pad (offOf (evT t a) + (evT t x).cells.size) s; s.take (offOf (evT t a)) ++ pad (evT t x).cells.size l ++ s.drop (offOf (evT t a) + (evT t x).cells.size))
    | none => h
  | .box _ x => match fl1 (shOf t x) with
    | [] => h
    | l => h.modify (h.length - 1) (blkS fun _ => l)
  | .buildSlice _ _ parts => match parts.toList.all (fun p => (fl1 (shOf t p.2)).isEmpty) with
    | true => h
    | false => h.modify (h.length - 1) (blkS fun _ => parts.toList.foldl (fun (acc : List (Option Nat)) p => let l := pad (evT t p.2).cells.size (fl1 (shOf t p.2)); let o := p.1 * l.length; (pad o acc).take o ++ l ++ acc.drop (o + l.length)) [])
  | _ => h

theorem fixH_sound {wE w : World} {b : Base} {h : List Blk} (o : Oper) (t : TM) (H : HC gh wE b h w) : HC gh wE b (fixH o t h) w := by
  unfold fixH
  split
  · split
    · split <;> exact H.modS _ _
    · exact H
  · split
    · exact H
    · exact H.modS _ _
  · split
    · exact H
    · exact H.modS _ _
  · exact H

def fixK (o : Oper) (t : TM) (h : List Blk) (k : List Blk → Prop) : Prop :=
  match o.op with
  | .store _ _ _ => forceH (fixH o t h) k
  | .box _ _ => forceH (fixH o t h) k
  | .buildSlice _ _ _ => forceH (fixH o t h) k
  | _ => k h

theorem fixK_sound {wE w : World} {b : Base} {h : List Blk} (o : Oper) (t : TM) (k : List Blk → Prop) (H : HC gh wE b h w) (hk : fixK o t h k) : ∃ h', HC gh wE b h' w ∧ k h' := by
  unfold fixK at hk
  split at hk
  · rw [forceH_eq] at hk; exact ⟨_, fixH_sound o t H, hk⟩
  · rw [forceH_eq] at hk; exact ⟨_, fixH_sound o t H, hk⟩
  · rw [forceH_eq] at hk; exact ⟨_, fixH_sound o t H, hk⟩
  · exact ⟨_, H, hk⟩

/-! ### operations that leave the world as it is -/
def semP (P : Program) {α : Type} : Sem α → Option α
  | .pure a => some a
  | .program k => semP P (k P)
  | .mark _ k => semP P k
  | _ => none

theorem semP_sound {P : Program} {α : Type} (s : Sem α) : ∀ (v : α) (w : World), semP P s = some v → s.run P w = .ok v w := by
  induction s with
  | pure a => intro v w h; simp only [semP, Option.some.injEq] at h; subst h; rfl
  | program k ih => intro v w h; simp only [semP] at h; simp only [Sem.run]; exact ih _ v w h
  | mark m k ih => intro v w h; simp only [semP] at h; simp only [Sem.run]; exact ih v w h
  | _ => intro v w h; simp [semP] at h

/-- which memory may be read: what is known, and more; of the entry's world alone; one known block; none -/
inductive RM where
  | all
  | far
  | blk (i : Nat)
  | no

/-- the entry's world is as it was -/
def OldS (wE : World) (w : World) : Prop := ∀ r, r < wE.heap.size → w.heap[r]? = wE.heap[r]?

def RS (gh : Gh) (m : RM) (wE : World) (b : Base) (h : List Blk) (w : World) : Prop := match m with
  | .all => HC gh wE b h w
  | .far => OldS wE w
  | .blk i => ∀ d, h[i]? = some d → w.heap[d.g]? = some d.den
  | .no => True

def allNewB : List Blk → Bool
  | [] => true
  | d :: l => match d.n with
    | true => allNewB l
    | false => false

theorem allNewB_out : ∀ {h : List Blk}, allNewB h = true → ∀ d ∈ h, d.n = true
  | d :: l, h, b, hb => by
    unfold allNewB at h
    split at h
    · rename_i hn
      rcases List.mem_cons.1 hb with rfl | hb
      · exact hn
      · exact allNewB_out h b hb
    · cases h

theorem HC.old {wE w : World} {b : Base} {h : List Blk} (H : HC gh wE b h w) (hn : allNewB h = true) : OldS wE w :=
  fun r hr => H.en r hr fun d hd e => by rw [allNewB_out hn d hd] at e; cases e

def takeN : Nat → List Value → (List Value → Prop) → Prop
  | 0, _, k => k []
  | n + 1, c, k => match c with
    | [] => False
    | v :: r => takeN n r fun l => k (v :: l)

def takeK (c : List Value) (n : Nat) (k : List Value → Prop) : Prop := takeN n c k

theorem takeK_out : ∀ {c : List Value} {n : Nat} {k : List Value → Prop}, takeK c n k → n ≤ c.length ∧ k (c.take n)
  | _, 0, _, h => ⟨Nat.zero_le _, by simpa [takeK, takeN] using h⟩
  | [], _ + 1, _, h => h.elim
  | v :: r, n + 1, k, h => by
    have := takeK_out (c := r) (n := n) h
    exact ⟨Nat.succ_le_succ this.1, by simpa using this.2⟩

def isAggT : TypeDesc → Bool
  | .struct _ => true
  | .array _ _ => true
  | _ => false

theorem addr_add {a : Addr} (hs : a.spot = none) (j : Nat) : a.add j = ⟨a.block, a.off + j, none⟩ := by
  obtain ⟨b, o, s⟩ := a
  simp only at hs
  subst hs
  unfold Addr.add
  split
  · rename_i h; subst h; rfl
  · rfl

theorem blk_add (a : Addr) (m : Nat) : (a.add m).block = a.block := by
  unfold Addr.add; split <;> rfl

theorem loadCells_run {P : Program} {w : World} {a : Addr} : ∀ (n i : Nat) (acc : Array Value) (l : List Value), l.length = n → (∀ j v, l[j]? = some v → w.cell? (a.add (i + j)) = some v) →
    (loadCellsFrom a i n acc).run P w = .ok (acc ++ l.toArray) w
  | 0, i, acc, l, hl, _ => by
    obtain rfl := List.length_eq_zero_iff.1 hl
    simp [loadCellsFrom, Sem.run, pure]
  | n + 1, i, acc, l, hl, h => by
    cases l with
    | nil => cases hl
    | cons v r =>
      have h0 := h 0 v rfl
      have ih := loadCells_run (P := P) n (i + 1) (acc.push v) r (by simpa using hl) (fun j u hu => by
        have := h (j + 1) u (by simpa using hu)
        rwa [show i + 1 + j = i + (j + 1) by omega])
      simp only [loadCellsFrom, Sem.run_bind]
      simp only [load, Sem.run, Nat.add_zero] at h0 ⊢
      rw [h0]
      simp only [Result.andThen]
      rw [ih]
      simp

theorem loadVar_agg {P : Program} (T : TT P) {w : World} {ty n : Nat} {d : TypeDesc} {a : Addr} {l : List Value} (hd : T.u ty = some d) (hz : T.z ty = some n) (hagg : isAggT d = true) (hl : l.length = n)
    (hc : ∀ j v, l[j]? = some v → w.cell? (a.add j) = some v) : (loadVar ty a).run P w = .ok (.agg l.toArray) w := by
  have hisagg : (isAgg ty).run P w = .ok true w := by
    have := T.hu _ _ hd
    cases d <;> first | (simp [isAggT] at hagg; done) | simp [isAgg, go_sem, underlying, this]
  unfold loadVar
  simp only [Sem.run_bind, hisagg, Result.andThen, if_true, T.run_z hz]
  unfold loadCells
  rw [loadCells_run n 0 #[] l hl (fun j v hv => by rw [Nat.zero_add]; exact hc j v hv)]
  simp [Result.andThen, Sem.run, pure]

theorem loadVar_flat {P : Program} (T : TT P) {w : World} {ty : Nat} {d : TypeDesc} {a : Addr} {v : Value} (hd : T.u ty = some d) (hagg : isAggT d = false)
    (hc : w.cell? a = some v) : (loadVar ty a).run P w = .ok v w := by
  have hisagg : (isAgg ty).run P w = .ok false w := by
    have := T.hu _ _ hd
    cases d <;> first | (simp [isAggT] at hagg; done) | simp [isAgg, go_sem, underlying, this]
  unfold loadVar
  simp only [Sem.run_bind, hisagg, Result.andThen, Bool.false_eq_true, if_false]
  simp only [load, Sem.run, hc]

/-- a load out of a block that is known: what it yields -/
def loadR (P : Program) (T : TT P) (q : Option Bool) (ty : TypeId) (p : Value) (i : Nat) (h : List Blk) (k : Value → Sh → Prop) : Prop :=
  match p with
  | .pointer (some ⟨g, off, none⟩) => match h[i]? with
    | some ⟨bg, bc, _, bs, none, _, by_⟩ => match by_.isLit with
      | true => bg = g ∧ (match T.u ty, T.z ty with
        | some d, some n => match isAggT d with
          | true => takeK (bc.drop off) n fun l => forceO ((bs.drop off).take n) fun s => k (.agg l.toArray) [s]
          | false => match bc[off]? with
            | some v => forceO ((bs.drop off).take 1) fun s => k v [s]
            | none => False
        | _, _ => False)
      | false => match T.u ty, T.z ty with
        | some d, some n => match isAggT d with
          | true => exL (leaves P T 8 ty) fun l => under q (bg = g ∧ l.length = n ∧ (bc.drop off).take n = l) ∧ k (.agg l.toArray) [List.replicate n (some 1000)]
          | false => exL ((leaves P T 8 ty).take 1) fun l => match l with
            | [v] => under q (bg = g ∧ bc[off]? = some v) ∧ k v [[some 1000]]
            | _ => False
        | _, _ => False
    | _ => False
  | _ => False

theorem cell_of {w : World} {d : Blk} {a : Addr} {v : Value} (h1 : w.heap[d.g]? = some d.den) (hg : d.g = a.block) (hc : cellAt d a = some v) : w.cell? a = some v := by
  obtain ⟨hx, hs, hc⟩ := cellAt_some hc
  rw [den_none hx] at h1
  unfold World.cell?
  rw [← hg, h1]
  simpa [hs] using hc

theorem loadR_run {P : Program} {T : TT P} {q : Option Bool} {ty : TypeId} {p : Value} {i : Nat} {hp : List Blk} {k : Value → Sh → Prop} (h : loadR P T q ty p i hp k) :
    ∃ v s, (qOn q → ∀ w, (∀ d, hp[i]? = some d → w.heap[d.g]? = some d.den) → (Instr.loadAt ty p).run P w = .ok v w) ∧ k v s := by
  unfold loadR at h
  split at h
  · rename_i g off
    split at h
    · rename_i bg bc be bs bn by_ hi
      split at h
      · obtain ⟨rfl, h⟩ := h
        have hb := List.mem_of_getElem? hi
        have hcell : ∀ w : World, (∀ d, hp[i]? = some d → w.heap[d.g]? = some d.den) → ∀ (k : Nat) (v : Value), bc[off + k]? = some v → w.cell? (({ block := bg, off := off, spot := none } : Addr).add k) = some v := by
          intro w H k v hv
          rw [addr_add rfl]
          exact cell_of (d := ⟨bg, bc, be, bs, none, bn, by_⟩) (H _ hi) rfl hv
        split at h
        · rename_i d n hd hz
          split at h
          · rename_i hagg
            obtain ⟨hle, h⟩ := takeK_out h
            simp only [forceO_eq] at h
            refine ⟨_, _, fun _ w H => ?_, h⟩
            exact loadVar_agg T hd hz hagg (by rw [List.length_take]; omega) fun j v hv => by
              refine hcell w H j v ?_
              rw [List.getElem?_take] at hv
              split at hv
              · rwa [List.getElem?_drop] at hv
              · cases hv
          · rename_i hagg
            split at h
            · rename_i v hv
              simp only [forceO_eq] at h
              refine ⟨_, _, fun _ w H => ?_, h⟩
              have := hcell w H 0 v (by simpa using hv)
              exact loadVar_flat T hd hagg this
            · exact h.elim
        · exact h.elim
      · have hb := List.mem_of_getElem? hi
        have hcell : ∀ w : World, (∀ d, hp[i]? = some d → w.heap[d.g]? = some d.den) → ∀ (k : Nat) (v : Value), bc[off + k]? = some v → w.cell? (({ block := bg, off := off, spot := none } : Addr).add k) = some v := by
          intro w H k v hv
          rw [addr_add rfl]
          exact cell_of (d := ⟨bg, bc, be, bs, none, bn, by_⟩) (H _ hi) rfl hv
        split at h
        · rename_i d n hd hz
          split at h
          · rename_i hagg
            obtain ⟨l, h1, h2⟩ := exL_any _ h
            refine ⟨_, _, fun hq w H => ?_, h2⟩
            obtain ⟨rfl, hl, e⟩ := under_out h1 hq
            exact loadVar_agg T hd hz hagg hl fun j v hv => by
              refine hcell w H j v ?_
              rw [← e, List.getElem?_take] at hv
              split at hv
              · rwa [List.getElem?_drop] at hv
              · cases hv
          · rename_i hagg
            obtain ⟨l, h⟩ := exL_any _ h
            split at h
            · rename_i v
              refine ⟨_, _, fun hq w H => ?_, h.2⟩
              obtain ⟨rfl, e⟩ := under_out h.1 hq
              have := hcell w H 0 v (by simpa using e)
              exact loadVar_flat T hd hagg this
            · exact h.elim
        · exact h.elim
    · exact h.elim
  · exact h.elim

def cellsAt (w : World) (a : Addr) : Nat → List Value → Prop
  | _, [] => True
  | i, v :: r => w.cell? (a.add i) = some v ∧ cellsAt w a (i + 1) r

theorem cellsAt_out {w : World} {a : Addr} : ∀ {i : Nat} {l : List Value}, cellsAt w a i l → ∀ j v, l[j]? = some v → w.cell? (a.add (i + j)) = some v
  | i, v :: r, h, j, u, hu => by
    cases j with
    | zero => cases hu; exact h.1
    | succ j =>
      have := cellsAt_out h.2 j u (by simpa using hu)
      rwa [show i + 1 + j = i + (j + 1) by omega] at this

/-- a load out of memory that the walk does not know -/
def loadF (P : Program) (T : TT P) (w : World) (side : Nat → Prop) (q : Option Bool) (ty : TypeId) (p : Value) (k : Value → Prop) : Prop :=
  match p, T.u ty, T.z ty with
  | .pointer (some a), some d, some n => match isAggT d with
    | true => exL (leaves P T 8 ty) fun l => match Nat.beq l.length n with
      | true => under q (side a.block ∧ cellsAt w a 0 l) ∧ k (.agg l.toArray)
      | false => False
    | false => exL ((leaves P T 8 ty).take 1) fun l => match l with
      | [v] => under q (side a.block ∧ w.cell? a = some v) ∧ k v
      | _ => False
  | _, _, _ => False

theorem loadF_run {P : Program} {T : TT P} {w : World} {side : Nat → Prop} {S : World → Prop} (hS : ∀ r w', side r → S w' → w'.heap[r]? = w.heap[r]?) {q : Option Bool} {ty : TypeId} {p : Value} {k : Value → Prop}
    (h : loadF P T w side q ty p k) : ∃ v, (qOn q → ∀ w', S w' → (Instr.loadAt ty p).run P w' = .ok v w') ∧ k v := by
  have hcell : ∀ w' a v, side a.block → S w' → w.cell? a = some v → w'.cell? a = some v := by
    intro w' a v hs hw hv
    rw [← hv]; unfold World.cell?; rw [hS _ _ hs hw]
  unfold loadF at h
  split at h
  · rename_i a d n hd hz
    split at h
    · rename_i hagg
      obtain ⟨l, h⟩ := exL_any _ h
      split at h
      · rename_i hl
        refine ⟨_, fun hq w' hw => ?_, h.2⟩
        obtain ⟨hs, hc⟩ := under_out h.1 hq
        exact loadVar_agg T hd hz hagg (Nat.eq_of_beq_eq_true hl) fun j v hv => hcell w' _ v (by rw [blk_add]; exact hs) hw (by have := cellsAt_out hc j v hv; rwa [Nat.zero_add] at this)
      · exact h.elim
    · rename_i hagg
      obtain ⟨l, h⟩ := exL_any _ h
      split at h
      · rename_i v
        refine ⟨_, fun hq w' hw => ?_, h.2⟩
        obtain ⟨hs, hc⟩ := under_out h.1 hq
        exact loadVar_flat T hd hagg (hcell w' _ v hs hw hc)
      · exact h.elim
  · exact h.elim

def avO (t : TM) : Operand → AV
  | .tmp i => getT t i
  | x => pl (evT t x) []

theorem avO_den (t : TM) (x : Operand) : (avO t x).den t.g = evT t x := by cases x <;> rfl

/-- what is asked of a choice's part that is so under guards -/
def pickS (g : List Bool) (q : Gs) (y : Bool) (p : Option Nat) (want : Bool) : Gs → Prop → Prop
  | [], P => P
  | c, P => match subB c (match p with
      | some s => q ++ [(s, want)]
      | none => q) with
    | true => P
    | false => under (gB g q) (y = want → conjG g c = true) ∧ P

theorem pickS_out {g : List Bool} {q : Gs} {y : Bool} {p : Option Nat} {want : Bool} (hp : conjG g q = true → ∀ s, p = some s → nthB g s = y) {c : Gs} {P : Prop} (h : pickS g q y p want c P) :
    (conjG g q = true → y = want → conjG g c = true) ∧ P := by
  unfold pickS at h
  split at h
  · exact ⟨fun _ _ => rfl, h⟩
  · split at h
    · rename_i hb
      refine ⟨fun hq hy => subB_out hb ?_, h⟩
      cases p with
      | none => exact hq
      | some s => exact conjG_snoc.2 ⟨hq, (hp hq s rfl).trans hy⟩
    · exact ⟨fun hq hy => under_out h.1 (qOn_gB.2 hq) hy, h.2⟩

theorem AV.den_of {g : List Bool} {x : AV} (h : conjG g x.c = true) : x.den g = x.v := by
  rw [AV.den_eq, h]; rfl

def kEq : IntKind → IntKind → Bool
  | .i8, .i8 => true
  | .i16, .i16 => true
  | .i32, .i32 => true
  | .i64, .i64 => true
  | .u8, .u8 => true
  | .u16, .u16 => true
  | .u32, .u32 => true
  | .u64, .u64 => true
  | _, _ => false

theorem kEq_eq : ∀ {a b : IntKind}, kEq a b = true → a = b := by
  intro a b h; cases a <;> cases b <;> first | rfl | cases h

def pickC (q : Gs) (t : TM) (c a b : Operand) (K : Value → Sh → Prop) : Prop :=
  resO q [c] t fun t => match evT t c with
    | .bool y => match avO t a, avO t b with
      | ⟨.bool p, _, ca, _, _⟩, ⟨.bool r, _, cb, _, _⟩ => pickS t.g q y (avO t c).p true ca (pickS t.g q y (avO t c).p false cb (K (.bool (bif y then p else r)) []))
      | ⟨.int k p, _, ca, _, _⟩, ⟨.int k' r, _, cb, _, _⟩ => match kEq k k' with
        | true => pickS t.g q y (avO t c).p true ca (pickS t.g q y (avO t c).p false cb (K (.int k (bif y then p else r)) []))
        | false => False
      | _, _ => br y (resO q [a] t fun t => forceW (evT t a) fun v => K v (shOf t a)) (resO q [b] t fun t => forceW (evT t b) fun v => K v (shOf t b))
    | _ => False

theorem Same.ev {t' t : TM} (h : Same t' t) : evT t' = evT t := by
  funext x
  cases x with
  | tmp i => exact h.2.1 i
  | _ => rfl

theorem avO_p {t : TM} (hw : WF t) {c : Operand} {y : Bool} (hy : evT t c = .bool y) {s : Nat} (hp : (avO t c).p = some s) : (avO t c).v = .bool (nthB t.g s) := by
  cases c with
  | tmp i => exact ((hw i).2 s hp).2
  | _ => cases hp

theorem pickC_run {P : Program} {q : Gs} {t : TM} (hw : WF t) {o : Oper} {c a b : Operand} (ho : o.op = .pick c a b) {K : Value → Sh → Prop} (h : pickC q t c a b K) :
    ∃ v s, (conjG t.g q = true → ∀ w, (execOp (evT t) o).run P w = .ok (.value v) w) ∧ K v s := by
  unfold pickC at h
  obtain ⟨t1, hg, hs, h⟩ := resO_out h
  have hev : conjG t.g q = true → evT t1 = evT t := fun hq => (hs hq).ev
  have hrun : ∀ (y : Bool) (v : Value), evT t1 c = .bool y → (conjG t.g q = true → (if y then evT t a else evT t b) = v) → conjG t.g q = true → ∀ w, (execOp (evT t) o).run P w = .ok (.value v) w := by
    intro y v hy hv hq w
    rw [hev hq] at hy
    unfold execOp
    rw [ho]
    simp only [hy]
    have := hv hq
    cases y <;> simp only [if_true, Bool.false_eq_true, if_false] at this <;> rw [← this] <;> rfl
  have hp : ∀ {y}, evT t1 c = .bool y → conjG t1.g q = true → ∀ s, (avO t1 c).p = some s → nthB t1.g s = y := by
    intro y hy hq s hps
    rw [hg] at hq
    have h1 := avO_p ((hs hq).2.2 hw) hy hps
    have h2 := avO_den t1 c
    rw [hy] at h2
    have : (avO t1 c).den t1.g = (avO t1 c).v ∨ (avO t1 c).den t1.g = undef := by
      rw [AV.den_eq]
      cases conjG t1.g (avO t1 c).c
      · exact .inr rfl
      · exact .inl rfl
    rcases this with h3 | h3
    · rw [h3, h1] at h2; injection h2
    · rw [h3] at h2; cases h2
  split at h
  · rename_i y hy
    split at h
    · rename_i p s1 ca k1 p1 r s2 cb k2 p2 ha hb
      obtain ⟨h1, h⟩ := pickS_out (hp hy) h
      obtain ⟨h2, h⟩ := pickS_out (hp hy) h
      rw [hg] at h1 h2
      refine ⟨_, _, hrun y _ hy fun hq => ?_, h⟩
      have e := hev hq
      cases y
      · have : evT t1 b = .bool r := by
          rw [← avO_den, AV.den_of (by rw [hb, hg]; exact h2 hq rfl), hb]
        simp only [Bool.false_eq_true, if_false, cond]; rw [← e]; exact this
      · have : evT t1 a = .bool p := by
          rw [← avO_den, AV.den_of (by rw [ha, hg]; exact h1 hq rfl), ha]
        simp only [if_true, cond]; rw [← e]; exact this
    · rename_i k p s1 ca k1 p1 k' r s2 cb k2 p2 ha hb
      split at h
      · rename_i hk
        obtain rfl := kEq_eq hk
        obtain ⟨h1, h⟩ := pickS_out (hp hy) h
        obtain ⟨h2, h⟩ := pickS_out (hp hy) h
        rw [hg] at h1 h2
        refine ⟨_, _, hrun y _ hy fun hq => ?_, h⟩
        have e := hev hq
        cases y
        · have : evT t1 b = .int k r := by
            rw [← avO_den, AV.den_of (by rw [hb, hg]; exact h2 hq rfl), hb]
          simp only [Bool.false_eq_true, if_false, cond]; rw [← e]; exact this
        · have : evT t1 a = .int k p := by
            rw [← avO_den, AV.den_of (by rw [ha, hg]; exact h1 hq rfl), ha]
          simp only [if_true, cond]; rw [← e]; exact this
      · exact h.elim
    · cases y with
      | true =>
        obtain ⟨t2, hg2, hs2, h⟩ := resO_out (br_true h rfl)
        rw [forceW_eq] at h
        refine ⟨_, _, hrun true _ hy fun hq => ?_, h⟩
        rw [← hev hq, ← (hs2 (by rw [hg]; exact hq)).ev]; rfl
      | false =>
        obtain ⟨t2, hg2, hs2, h⟩ := resO_out (br_false h rfl)
        rw [forceW_eq] at h
        refine ⟨_, _, hrun false _ hy fun hq => ?_, h⟩
        rw [← hev hq, ← (hs2 (by rw [hg]; exact hq)).ev]; rfl
  · exact h.elim

def hiOk : Option Operand → Option Operand → Bool
  | none, some _ => false
  | _, _ => true

/-- a bound of a slice -/
def bndK (d : Option Int) : Option Value → Option Int
  | none => d
  | some (.int _ i) => some i
  | _ => none

/-- structs of numbers and Booleans are the same -/
def eqFs {P : Program} (T : TT P) : List Field → List Value → List Value → Option Bool
  | [], _, _ => some true
  | f :: r, xs, ys => match f.name == "_" with
    | true => none
    | false => match T.u f.type, xs[f.offset]?, ys[f.offset]? with
      | some (.int _), some (.int k a), some (.int k' b) => match kEq k k', eqFs T r xs ys with
        | true, some s => some ((a == b) && s)
        | _, _ => none
      | some .bool, some (.bool a), some (.bool b) => match eqFs T r xs ys with
        | some s => some ((a == b) && s)
        | none => none
      | _, _, _ => none

theorem eqFs_run {P : Program} {T : TT P} {d : Nat} {xs ys : Array Value} (w : World) : ∀ {fs : List Field} {s : Bool}, eqFs T fs xs.toList ys.toList = some s → (Op.eqFields (d + 1) xs ys fs).run P w = .ok s w
  | [], s, h => by cases h; simp [Op.eqFields]
  | f :: r, s, h => by
    unfold eqFs at h
    split at h
    · cases h
    · rename_i hn
      have hn' : f.name ≠ "_" := by simpa using hn
      have hpart : ∀ (zs : Array Value) v dd, T.u f.type = some dd → isAggT dd = false → zs.toList[f.offset]? = some v → (part f.type zs f.offset).run P w = .ok v w := by
        intro zs v dd hd hagg hz
        have hisagg : (isAgg f.type).run P w = .ok false w := by
          have := T.hu _ _ hd
          cases dd <;> first | (simp [isAggT] at hagg; done) | simp [isAgg, go_sem, underlying, this]
        unfold part
        rw [Sem.run_bind, hisagg]
        simp only [Result.andThen, Bool.false_eq_true, if_false]
        rw [Array.getElem?_toList] at hz
        rw [hz]; rfl
      split at h
      · rename_i k0 k a k' b hu hx hy
        split at h
        · rename_i s' hk hs
          cases h
          obtain rfl := kEq_eq hk
          rw [Op.eqFields]
          simp only [if_pos hn', Sem.run_bind, hpart xs _ _ hu rfl hx, hpart ys _ _ hu rfl hy, Result.andThen_ok, run_equalIn_int w d f.type k k0 a b (T.hu _ _ hu)]
          cases a == b
          · simp
          · simpa using eqFs_run w hs
        · cases h
      · rename_i a b hu hx hy
        split at h
        · rename_i s' hs
          cases h
          rw [Op.eqFields]
          simp only [if_pos hn', Sem.run_bind, hpart xs _ _ hu rfl hx, hpart ys _ _ hu rfl hy, Result.andThen_ok, run_equalIn_bool' w d f.type a b (T.hu _ _ hu)]
          cases a == b
          · simp
          · simpa using eqFs_run w hs
        · cases h
      · cases h

theorem execOp_eqS {P : Program} {T : TT P} {ρ : Operand → Value} {o : Oper} {op : BinOp} {ty yt : TypeId} {x y : Operand} {fs : Array Field} {xs ys : Array Value} {r : Bool} (ho : o.op = .binOp op ty x y yt)
    (hu : T.u ty = some (.struct fs)) (hx : ρ x = .agg xs) (hy : ρ y = .agg ys) (hg : P.eqGuardType P.depth ty = false) (hp : P.stoodInHeld ty = false) (he : eqFs T fs.toList xs.toList ys.toList = some r) (w : World) :
    (op = .eql → (execOp ρ o).run P w = .ok (.value (.bool r)) w) ∧ (op = .neq → (execOp ρ o).run P w = .ok (.value (.bool (!r))) w) := by
  have hu' := T.hu _ _ hu
  have hfs : P.fieldsOf ty = fs := by unfold Program.fieldsOf; rw [hu']
  have heq : (Op.equalIn 10000 ty (.agg xs) (.agg ys)).run P w = .ok r w := by
    rw [run_equalIn_struct w 9999 ty xs ys (by rw [hfs]; exact hu') hp, hfs]
    exact eqFs_run w he
  have hrun : ∀ v, (binOp op ty (.agg xs) (.agg ys)).run P w = .ok v w → (execOp ρ o).run P w = .ok (.value v) w := by
    intro v hv
    unfold execOp
    rw [ho]
    simp only [hx, hy]
    show (((do eqGuard op ty x y (.agg xs) (.agg ys); binOp op ty (.agg xs) (.agg ys)) : Sem Value) >>= fun v => pure (Next.value v)).run P w = _
    rw [Sem.run_bind, Sem.run_bind, run_eqGuard_agg w op ty x y xs ys hg]
    simp only [Result.andThen]
    rw [hv]
    rfl
  constructor
  · rintro rfl
    exact hrun _ (by rw [run_eql_struct, heq]; rfl)
  · rintro rfl
    exact hrun _ (by rw [run_neq_struct, heq]; rfl)

/-- an operation that reads no memory, as its own law tells it -/
def dfltC (P : Program) (T : TT P) (h : List Blk) (q : Gs) (o : Oper) (t : TM) (K : Value → Sh → Prop) (F : Prop) : Prop :=
  resO q o.op.operands.toList t fun t => match semP P (execOp (evT t) o) with
    | some (.value v) => forceW v fun v => forceS (shRes P T o t h v) fun s => K v s
    | _ => F

theorem dfltC_run {P : Program} {T : TT P} {h : List Blk} {q : Gs} {o : Oper} {t : TM} {K : Value → Sh → Prop} {F : Prop} (hk : dfltC P T h q o t K F) :
    (∃ v s, (conjG t.g q = true → ∀ w, (execOp (evT t) o).run P w = .ok (.value v) w) ∧ K v s) ∨ F := by
  unfold dfltC at hk
  obtain ⟨t', hg, hs, hk⟩ := resO_out hk
  split at hk
  · rename_i v hv
    simp only [forceW_eq, forceS_eq] at hk
    exact .inl ⟨v, _, fun hq w => by rw [← (hs hq).ev]; exact semP_sound _ _ w hv, hk⟩
  · exact .inr hk

/-- an operation that reads: what it yields, under a condition -/
def readC (P : Program) (T : TT P) (m : RM) (wE : World) (b : Base) (h : List Blk) (q : Gs) (o : Oper) (t : TM) (K : Value → Sh → Prop) (F : Prop) : Prop :=
  match o.op with
  | .pick c x y => pickC q t c x y K
  | .load ty x => resO q [x] t fun t => match m, toHint (hd1 (shOf t x)) with
    | .all, .id i => loadR P T (gB t.g q) ty (evT t x) i h fun v s => forceV v fun v => K v s
    | .all, .base => loadF P T b.w (FarB b h) (gB t.g q) ty (evT t x) fun v => K v [List.replicate v.cells.size (some 1000)]
    | .all, .entry => loadF P T wE (FarE wE h) (gB t.g q) ty (evT t x) fun v => K v [List.replicate v.cells.size (some 1001)]
    | .far, .entry => loadF P T wE (FarE wE []) (gB t.g q) ty (evT t x) fun v => K v [List.replicate v.cells.size (some 1001)]
    | .blk j, .id i => match Nat.beq j i with
      | true => loadR P T (gB t.g q) ty (evT t x) i h fun v s => forceV v fun v => K v s
      | false => False
    | _, _ => False
  | .indexAddr ty x ix => resO q [x, ix] t fun t => match evT t ix, T.u ty with
    | .int _ i, some (.slice e) => match T.z e with
      | some n => match toHint (hd1 (shOf t x)) with
        | .id _ => match evT t x with
          | .slice (some ⟨g, off, none⟩) len _ => under (gB t.g q) (0 ≤ i ∧ i < (len : Int)) ∧ K (.pointer (some ⟨g, off + i.toNat * n, none⟩)) (shOf t x)
          | _ => False
        | _ => match evT t x with
          | .slice A len _ => ∃ a, under (gB t.g q) (A = some a ∧ 0 ≤ i ∧ i < (len : Int)) ∧ K (.pointer (some (a.add (i.toNat * n)))) (shOf t x)
          | _ => False
      | none => False
    | .int _ i, some (.array len e) => match T.z e, evT t x with
      | some n, .pointer (some ⟨g, off, none⟩) => under (gB t.g q) (0 ≤ i ∧ i < (len : Int)) ∧ K (.pointer (some ⟨g, off + i.toNat * n, none⟩)) (shOf t x)
      | _, _ => False
    | _, _ => False
  | .fieldAddr ty x f => resO q [x] t fun t => match T.u ty with
    | some (.struct fs) => match fs[f]? with
      | some fd => match T.z fd.type with
        | some n => match Nat.beq n 0 with
          | false => match toHint (hd1 (shOf t x)) with
            | .id _ => match evT t x with
              | .pointer (some ⟨g, off, none⟩) => K (.pointer (some ⟨g, off + fd.offset, none⟩)) (shOf t x)
              | _ => False
            | _ => match evT t x with
              | .pointer (some a) => K (.pointer (some (a.add fd.offset))) (shOf t x)
              | _ => False
          | true => False
        | none => False
      | none => False
    | _ => False
  | .slice ty x lo hi mx => match T.u ty with
    | some (.slice e) => resO q o.op.operands.toList t fun t => match (match hiOk hi mx with
        | true => T.z e
        | false => none), evT t x, bndK (some 0) (lo.map (evT t)) with
      | some size, .slice A len cap, some l => match bndK (some (len : Int)) (hi.map (evT t)), bndK (some (cap : Int)) (mx.map (evT t)) with
        | some hh, some m => match toHint (hd1 (shOf t x)) with
          | .id _ => match A with
            | some ⟨g, off, none⟩ => match lo with
              | none => under (gB t.g q) (0 ≤ hh ∧ hh ≤ m ∧ m ≤ cap) ∧ K (.slice (some ⟨g, off, none⟩) hh.toNat m.toNat) (shOf t x)
              | some _ => under (gB t.g q) (0 ≤ l ∧ l ≤ hh ∧ hh ≤ m ∧ m ≤ cap) ∧ K (.slice (some ⟨g, (bif Nat.blt l.toNat hh.toNat then off + l.toNat * size else bif Nat.beq m.toNat l.toNat then off else off + l.toNat * size), none⟩) (hh.toNat - l.toNat) (m.toNat - l.toNat)) (shOf t x)
            | _ => False
          | _ => match lo with
            | none => under (gB t.g q) (0 ≤ hh ∧ hh ≤ m ∧ m ≤ cap) ∧ K (.slice A hh.toNat m.toNat) (shOf t x)
            | some _ => under (gB t.g q) (0 ≤ l ∧ l ≤ hh ∧ hh ≤ m ∧ m ≤ cap) ∧ ∀ A' : Option Addr, (A' = if m.toNat = l.toNat then A else A.map (·.add (l.toNat * size))) → K (.slice A' (hh.toNat - l.toNat) (m.toNat - l.toNat)) (shOf t x)
        | _, _ => False
      | _, _, _ => False
    | _ => F
  | .binOp op ty x y _ => match T.u ty with
    | some (.struct fs) => resO q [x, y] t fun t => match evT t x, evT t y with
      | .agg xs, .agg ys => match P.eqGuardType P.depth ty, P.stoodInHeld ty, eqFs T fs.toList xs.toList ys.toList with
        | false, false, some r => match op with
          | .eql => K (.bool r) []
          | .neq => K (.bool (!r)) []
          | _ => False
        | _, _, _ => False
      | _, _ => False
    | _ => dfltC P T h q o t K F
  | _ => dfltC P T h q o t K F

theorem sliceBound_run {P : Program} (k : IntKind) (i : Int) (y : Nat) (code : BoundsCode) (h0 : 0 ≤ i) (h1 : i ≤ (y : Int)) (w : World) : (Instr.sliceBound (.int k i) y code).run P w = .ok i.toNat w := by
  unfold Instr.sliceBound
  simp [go_sem, asIntOf, h0, h1]

theorem sliceAt_run {P : Program} {T : TT P} {ty e size : Nat} (hu : T.u ty = some (.slice e)) (hz : T.z e = some size) {A : Option Addr} {len cap : Nat} {lo hi mx : Option Value} {l h m : Int}
    (hl : bndK (some 0) lo = some l) (hh : bndK (some (len : Int)) hi = some h) (hm : bndK (some (cap : Int)) mx = some m) (h0 : 0 ≤ l) (h1 : l ≤ h) (h2 : h ≤ m) (h3 : m ≤ (cap : Int)) (hx : mx.isSome → hi.isSome) (w : World) :
    (Instr.sliceAt ty (.slice A len cap) lo hi mx).run P w = .ok (.slice (if m.toNat = l.toNat then A else A.map (·.add (l.toNat * size))) (h.toNat - l.toNat) (m.toNat - l.toNat)) w := by
  have hb : (Instr.sliceBounds true len cap lo hi mx).run P w = .ok (l.toNat, h.toNat, m.toNat) w := by
    unfold bndK at hl hh hm
    unfold Instr.sliceBounds
    cases mx with
    | none =>
      simp only [Option.some.injEq] at hm
      subst hm
      cases hi with
      | none =>
        simp only [Option.some.injEq] at hh
        subst hh
        cases lo with
        | none => simp only [Option.some.injEq] at hl; subst hl; simp [go_sem]
        | some v =>
          cases v <;> simp only [reduceCtorEq, Option.some.injEq] at hl
          subst hl
          simp only [pure_bind, Sem.run_bind]
          rw [sliceBound_run _ _ _ _ h0 (by omega)]
          simp [Result.andThen, Sem.run, pure]
      | some v =>
        cases v <;> simp only [reduceCtorEq, Option.some.injEq] at hh
        subst hh
        simp only [pure_bind, Sem.run_bind]
        rw [sliceBound_run _ _ _ _ (by omega) (by omega)]
        simp only [Result.andThen]
        cases lo with
        | none => simp only [Option.some.injEq] at hl; subst hl; simp [Sem.run, pure]
        | some v =>
          cases v <;> simp only [reduceCtorEq, Option.some.injEq] at hl
          subst hl
          simp only [Sem.run_bind]
          rw [sliceBound_run _ _ _ _ h0 (by omega)]
          simp [Result.andThen, Sem.run, pure]
    | some v =>
      cases v <;> simp only [reduceCtorEq, Option.some.injEq] at hm
      subst hm
      cases hi with
      | none => exact absurd (hx rfl) (by simp)
      | some v =>
        cases v <;> simp only [reduceCtorEq, Option.some.injEq] at hh
        subst hh
        simp only [Sem.run_bind]
        rw [sliceBound_run _ _ _ _ (by omega) (by omega)]
        simp only [Result.andThen, Sem.run_bind]
        rw [sliceBound_run _ _ _ _ (by omega) (by omega)]
        simp only [Result.andThen]
        cases lo with
        | none => simp only [Option.some.injEq] at hl; subst hl; simp [Sem.run, pure]
        | some v =>
          cases v <;> simp only [reduceCtorEq, Option.some.injEq] at hl
          subst hl
          simp only [Sem.run_bind]
          rw [sliceBound_run _ _ _ _ h0 (by omega)]
          simp [Result.andThen, Sem.run, pure]
  unfold Instr.sliceAt
  rw [Sem.run_bind, T.run_u hu]
  simp only [Result.andThen]
  unfold Instr.slice
  rw [Sem.run_bind, T.run_u hu]
  simp only [Result.andThen]
  rw [Sem.run_bind, hb]
  simp only [Result.andThen]
  rw [Sem.run_bind, T.run_z hz]
  simp only [Result.andThen]
  rfl

theorem execOp_slice {P : Program} {ρ : Operand → Value} {o : Oper} {ty : TypeId} {x : Operand} {lo hi mx : Option Operand} (ho : o.op = .slice ty x lo hi mx) {v : Value} {w : World}
    (hr : (Instr.sliceAt ty (ρ x) (lo.map ρ) (hi.map ρ) (mx.map ρ)).run P w = .ok v w) : (execOp ρ o).run P w = .ok (.value v) w := by
  unfold execOp
  rw [ho]
  show ((Instr.sliceAt ty (ρ x) (lo.map ρ) (hi.map ρ) (mx.map ρ)) >>= fun v => pure (Next.value v)).run P w = _
  rw [Sem.run_bind, hr]
  rfl

theorem execOp_load {P : Program} {ρ : Operand → Value} {o : Oper} {ty : TypeId} {x : Operand} {v : Value} {w : World} (ho : o.op = .load ty x) (hr : (Instr.loadAt ty (ρ x)).run P w = .ok v w) :
    (execOp ρ o).run P w = .ok (.value v) w := by
  unfold execOp
  rw [ho]
  show ((Instr.loadAt ty (ρ x)) >>= fun v => pure (Next.value v)).run P w = _
  rw [Sem.run_bind, hr]
  rfl

theorem indexAt_run {P : Program} {T : TT P} {ty e n : Nat} {i : Int} {k : IntKind} {a : Addr} {len cap : Nat} (hu : T.u ty = some (.slice e)) (hz : T.z e = some n) (h0 : 0 ≤ i) (h1 : i < (len : Int)) {ρ : Operand → Value} {o : Oper} {x ix : Operand}
    (ho : o.op = .indexAddr ty x ix) (hx : ρ x = .slice (some a) len cap) (hi : ρ ix = .int k i) (w : World) :
    (execOp ρ o).run P w = .ok (.value (.pointer (some (a.add (i.toNat * n))))) w := by
  obtain ⟨inf, hinf, rfl⟩ := T.hz _ _ hz
  unfold execOp
  rw [ho]
  simp only [hx, hi, Instr.indexAt]
  simp [go_sem, T.hu _ _ hu, h0, h1, underlying, sizeOf, typeInfo, hinf]

theorem indexArr_run {P : Program} {T : TT P} {ty e n len : Nat} {i : Int} {k : IntKind} {a : Addr} (ha : T.u ty = some (.array len e)) (hz : T.z e = some n) (h0 : 0 ≤ i) (h1 : i < (len : Int)) {ρ : Operand → Value} {o : Oper} {x ix : Operand}
    (ho : o.op = .indexAddr ty x ix) (hx : ρ x = .pointer (some a)) (hi : ρ ix = .int k i) (w : World) :
    (execOp ρ o).run P w = .ok (.value (.pointer (some (a.add (i.toNat * n))))) w := by
  obtain ⟨inf, hinf, rfl⟩ := T.hz _ _ hz
  unfold execOp
  rw [ho]
  simp only [hx, hi, Instr.indexAt]
  simp [go_sem, T.hu _ _ ha, h0, h1, underlying, sizeOf, typeInfo, hinf, Instr.sureAddr]

theorem fieldAt_run {P : Program} {T : TT P} {ty n f : Nat} {fs : Array Field} {fd : Field} {a : Addr} (hu : T.u ty = some (.struct fs)) (hf : fs[f]? = some fd) (hz : T.z fd.type = some n) (hn : n ≠ 0) {ρ : Operand → Value} {o : Oper} {x : Operand}
    (ho : o.op = .fieldAddr ty x f) (hx : ρ x = .pointer (some a)) (w : World) :
    (execOp ρ o).run P w = .ok (.value (.pointer (some (a.add fd.offset)))) w := by
  have hr : (Instr.fieldAt ty (.pointer (some a)) f).run P w = .ok (.pointer (some (a.add fd.offset))) w := by
    have hpl : (fieldPlace a fd).run P w = .ok (a.add fd.offset) w := by
      unfold fieldPlace
      rw [Sem.run_bind, T.run_z hz]
      simp only [Result.andThen, if_neg hn]
      rfl
    unfold Instr.fieldAt
    rw [Sem.run_bind, T.run_u hu]
    simp only [Result.andThen, hf]
    show ((fieldPlace a fd) >>= fun p => pure (Value.pointer (some p))).run P w = _
    rw [Sem.run_bind, hpl]
    rfl
  unfold execOp
  rw [ho]
  simp only [hx]
  show ((Instr.fieldAt ty (.pointer (some a)) f) >>= fun v => pure (Next.value v)).run P w = _
  rw [Sem.run_bind, hr]
  rfl

theorem readC_run {P : Program} {T : TT P} {m : RM} {wE : World} {b : Base} {h : List Blk} {q : Gs} {o : Oper} {t : TM} (hw : WF t) {K : Value → Sh → Prop} {F : Prop} (hk : readC P T m wE b h q o t K F) :
    (∃ v s, (conjG t.g q = true → ∀ w, RS gh m wE b h w → (execOp (evT t) o).run P w = .ok (.value v) w) ∧ K v s) ∨ F := by
  unfold readC at hk
  split at hk
  · rename_i c x y ho
    obtain ⟨v, s, hr, hk⟩ := pickC_run (P := P) hw ho hk
    exact .inl ⟨v, s, fun hq w _ => hr hq w, hk⟩
  · rename_i ty x ho
    obtain ⟨t', hg, hs, hk⟩ := resO_out hk
    have hgq : conjG t.g q = true → qOn (gB t'.g q) := fun hq => qOn_gB.2 (by rw [hg]; exact hq)
    split at hk
    · obtain ⟨v, s, hr, hk⟩ := loadR_run hk
      rw [forceV_eq] at hk
      exact .inl ⟨v, s, fun hq w H => execOp_load ho (by rw [← (hs hq).ev]; exact hr (hgq hq) w (fun d hd => H.bl d (List.mem_of_getElem? hd))), hk⟩
    · obtain ⟨v, hr, hk⟩ := loadF_run (S := HC gh wE b h) (fun r w' f H => H.farB f) hk
      exact .inl ⟨v, _, fun hq w H => execOp_load ho (by rw [← (hs hq).ev]; exact hr (hgq hq) w H), hk⟩
    · obtain ⟨v, hr, hk⟩ := loadF_run (S := HC gh wE b h) (fun r w' f H => H.farE f) hk
      exact .inl ⟨v, _, fun hq w H => execOp_load ho (by rw [← (hs hq).ev]; exact hr (hgq hq) w H), hk⟩
    · obtain ⟨v, hr, hk⟩ := loadF_run (S := OldS wE) (fun r w' f H => H r f.1) hk
      exact .inl ⟨v, _, fun hq w H => execOp_load ho (by rw [← (hs hq).ev]; exact hr (hgq hq) w H), hk⟩
    · split at hk
      · rename_i hb
        obtain rfl := Nat.eq_of_beq_eq_true hb
        obtain ⟨v, s, hr, hk⟩ := loadR_run hk
        rw [forceV_eq] at hk
        exact .inl ⟨v, s, fun hq w H => execOp_load ho (by rw [← (hs hq).ev]; exact hr (hgq hq) w H), hk⟩
      · exact hk.elim
    · exact hk.elim
  · rename_i ty x ix ho
    obtain ⟨t', hg, hs, hk⟩ := resO_out hk
    have hgq : conjG t.g q = true → qOn (gB t'.g q) := fun hq => qOn_gB.2 (by rw [hg]; exact hq)
    split at hk
    · rename_i k i e hi hu
      split at hk
      · rename_i n hz
        split at hk
        · split at hk
          · rename_i g off len cap hx
            refine .inl ⟨_, _, fun hq w _ => ?_, hk.2⟩
            obtain ⟨h0, h1⟩ := under_out hk.1 (hgq hq)
            rw [indexAt_run (T := T) hu hz h0 h1 ho (by rw [← (hs hq).ev]; exact hx) (by rw [← (hs hq).ev]; exact hi) w, addr_add rfl]
          · exact hk.elim
        · split at hk
          · rename_i A len cap hx
            obtain ⟨a, hk1, hk2⟩ := hk
            refine .inl ⟨_, _, fun hq w _ => ?_, hk2⟩
            obtain ⟨rfl, h0, h1⟩ := under_out hk1 (hgq hq)
            exact indexAt_run (T := T) hu hz h0 h1 ho (by rw [← (hs hq).ev]; exact hx) (by rw [← (hs hq).ev]; exact hi) w
          · exact hk.elim
      · exact hk.elim
    · rename_i k i len e hi ha
      split at hk
      · rename_i n g off hz hx
        refine .inl ⟨_, _, fun hq w _ => ?_, hk.2⟩
        obtain ⟨h0, h1⟩ := under_out hk.1 (hgq hq)
        rw [indexArr_run (T := T) ha hz h0 h1 ho (by rw [← (hs hq).ev]; exact hx) (by rw [← (hs hq).ev]; exact hi) w, addr_add rfl]
      · exact hk.elim
    · exact hk.elim
  · rename_i ty x f ho
    obtain ⟨t', hg, hs, hk⟩ := resO_out hk
    have hgq : conjG t.g q = true → qOn (gB t'.g q) := fun hq => qOn_gB.2 (by rw [hg]; exact hq)
    split at hk
    · rename_i fs hu
      split at hk
      · rename_i fd hf
        split at hk
        · rename_i n hz
          split at hk
          · rename_i hn
            have hn' : n ≠ 0 := fun e => by rw [e] at hn; cases hn
            split at hk
            · split at hk
              · rename_i g off hx
                refine .inl ⟨_, _, fun hq w _ => ?_, hk⟩
                rw [fieldAt_run (T := T) hu hf hz hn' ho (by rw [← (hs hq).ev]; exact hx) w, addr_add rfl]
              · exact hk.elim
            · split at hk
              · rename_i a hx
                exact .inl ⟨_, _, fun hq w _ => fieldAt_run (T := T) hu hf hz hn' ho (by rw [← (hs hq).ev]; exact hx) w, hk⟩
              · exact hk.elim
          · exact hk.elim
        · exact hk.elim
      · exact hk.elim
    · exact hk.elim
  · rename_i ty x lo hi mx ho
    split at hk
    · rename_i e hu
      obtain ⟨t', hg, hs, hk⟩ := resO_out hk
      have hgq : conjG t.g q = true → qOn (gB t'.g q) := fun hq => qOn_gB.2 (by rw [hg]; exact hq)
      split at hk
      · rename_i size A len cap l hz hx hl
        split at hk
        · rename_i hh m hhi hmx
          have hz : T.z e = some size := by
            split at hz
            · exact hz
            · cases hz
          have key : ∀ (v : Value), (conjG t.g q = true → 0 ≤ l ∧ l ≤ hh ∧ hh ≤ m ∧ m ≤ (cap : Int) ∧ v = .slice (if m.toNat = l.toNat then A else A.map (·.add (l.toNat * size))) (hh.toNat - l.toNat) (m.toNat - l.toNat)) →
              (mx.isSome → hi.isSome) → conjG t.g q = true → ∀ w, (execOp (evT t) o).run P w = .ok (.value v) w := by
            intro v hv hxs hq w
            obtain ⟨h0, h1, h2, h3, rfl⟩ := hv hq
            rw [← (hs hq).ev]
            exact execOp_slice ho (by rw [hx]; exact sliceAt_run (T := T) hu hz hl hhi hmx h0 h1 h2 h3 (by simpa using hxs) w)
          have hxs : mx.isSome → hi.isSome := by
            cases hi <;> cases mx <;> simp_all [hiOk]
          split at hk
          · split at hk
            · rename_i g off
              split at hk
              · have hl0 : l = 0 := by simpa [bndK] using hl.symm
                subst hl0
                refine .inl ⟨_, _, fun hq w _ => key _ (fun hq => ?_) hxs hq w, hk.2⟩
                obtain ⟨h0, h1, h2⟩ := under_out hk.1 (hgq hq)
                refine ⟨Int.le_refl _, h0, h1, h2, ?_⟩
                simp [Addr.add]
              · refine .inl ⟨_, _, fun hq w _ => key _ (fun hq => ?_) hxs hq w, hk.2⟩
                obtain ⟨h0, h1, h2, h3⟩ := under_out hk.1 (hgq hq)
                refine ⟨h0, h1, h2, h3, ?_⟩
                simp only [Option.map_some, addr_add]
                cases hlt : Nat.blt l.toNat _ with
                | true =>
                  have := Nat.le_of_ble_eq_true hlt
                  rw [if_neg (by omega)]; rfl
                | false =>
                  cases hb : Nat.beq m.toNat l.toNat with
                  | true => rw [if_pos (Nat.eq_of_beq_eq_true hb)]; rfl
                  | false => rw [if_neg (fun e => by rw [e, show Nat.beq l.toNat l.toNat = true from Nat.beq_refl _] at hb; cases hb)]; rfl
            · exact hk.elim
          · split at hk
            · have hl0 : l = 0 := by simpa [bndK] using hl.symm
              subst hl0
              refine .inl ⟨_, _, fun hq w _ => key _ (fun hq => ?_) hxs hq w, hk.2⟩
              obtain ⟨h0, h1, h2⟩ := under_out hk.1 (hgq hq)
              refine ⟨Int.le_refl _, h0, h1, h2, ?_⟩
              simp [Addr.add]
            · refine .inl ⟨_, _, fun hq w _ => key _ (fun hq => ?_) hxs hq w, hk.2 _ rfl⟩
              obtain ⟨h0, h1, h2, h3⟩ := under_out hk.1 (hgq hq)
              exact ⟨h0, h1, h2, h3, rfl⟩
        · exact hk.elim
      · exact hk.elim
    · exact .inr hk
  · rename_i op ty x y yt ho
    split at hk
    · rename_i fs hu
      obtain ⟨t', hg, hs, hk⟩ := resO_out hk
      split at hk
      · rename_i xs ys hx hy
        split at hk
        · rename_i r hgd hp he
          have key := fun (hq : conjG t.g q = true) w => execOp_eqS (T := T) (ρ := evT t) ho hu (by rw [← (hs hq).ev]; exact hx) (by rw [← (hs hq).ev]; exact hy) hgd hp he w
          split at hk
          · exact .inl ⟨_, _, fun hq w _ => (key hq w).1 rfl, hk⟩
          · exact .inl ⟨_, _, fun hq w _ => (key hq w).2 rfl, hk⟩
          · exact hk.elim
        · exact hk.elim
      · exact hk.elim
    · rcases dfltC_run hk with ⟨v, s, hr, hk⟩ | hk
      · exact .inl ⟨v, s, fun hq w _ => hr hq w, hk⟩
      · exact .inr hk
  · rcases dfltC_run hk with ⟨v, s, hr, hk⟩ | hk
    · exact .inl ⟨v, s, fun hq w _ => hr hq w, hk⟩
    · exact .inr hk

/-! ### operations -/
/-- what is asked of a call: of its function, its arguments, the hints of these, and the blocks -/
abbrev CV := FuncId → List Value → List Sh → Base → List Blk → (Base → Value → Sh → List Blk → Prop) → Prop

def CVok (P : Program) (wE : World) (cv : CV) : Prop :=
  ∀ {gh : Gh} f args sh b h K w, HC gh wE b h w → cv f args sh b h K → Calls P f args.toArray w fun e w' => ∃ v s b' h', e = .returned v ∧ HC gh wE b' h' w' ∧ K b' v s h'

def argSh (o : Oper) (t : TM) : List Sh :=
  match o.op with
  | .call c => (match c.callee with
    | .value f => match evT t f with
      | .func _ _ cap => c.args.toList.map (shOf t) ++ (match fl1 (shOf t f) with
        | [] => []
        | l => l.map fun x => [[x]])
      | _ => c.args.toList.map (shOf t)
    | _ => c.args.toList.map (shOf t))
  | _ => []

/-- an operation as its own law tells it -/
def plainVC (P : Program) (T : TT P) (wE : World) (cv : CV) (o : Oper) : St → (St → Prop) → Prop
  | ⟨b, t, h⟩, K => resO [] o.op.operands.toList t fun t =>
    semVC P wE b (hintOf o t) (execOp (evT t) o) h fun nx h' => match nx with
    | .value v => forceW v fun v => forceS (shRes P T o t h v) fun s => putK t o.dst (pl v s) fun t' => fixK o t h' fun h => K ⟨b, t', h⟩
    | .skip => putK t o.dst noAV fun t' => fixK o t h' fun h => K ⟨b, t', h⟩
    | .enter f args => forceL args.toList fun l => cv f l (argSh o t) b h' fun b' v s h'' => putK t o.dst (pl v s) fun t' => K ⟨b', t', h''⟩
    | _ => False

theorem plainVC_sound {P : Program} {T : TT P} {wE : World} {cv : CV} (hcv : CVok P wE cv) {o : Oper} {st : St} {K : St → Prop} {a : Act} {w : World} {next : Act → World → Prop} {Q : Exit → Act → World → Prop}
    (C : Conc gh wE st a w) (h : plainVC P T wE cv o st K) (hn : ∀ st' a' w', Conc gh wE st' a' w' → K st' → next a' w') : o.wp P a w next Q := by
  obtain ⟨b, t0, hp⟩ := st
  unfold plainVC at h
  obtain ⟨t, hg0, hs, h⟩ := resO_out h
  have C := C.same (hs rfl)
  obtain ⟨nx, h', w', hrun, H, hk⟩ := semVC_sound _ _ _ _ _ C.hc h
  unfold Oper.wp
  rw [C.eval, hrun]
  cases nx <;> first | (exact hk.elim) | skip
  case value v =>
    simp only [forceW_eq, forceS_eq, putK_eq] at hk
    obtain ⟨h'', H'', hk⟩ := fixK_sound _ _ _ H hk
    exact hn _ _ _ (C.put o.dst _ (AVok_pl _ _ _) rfl H'') hk
  case skip =>
    simp only [putK_eq] at hk
    obtain ⟨h'', H'', hk⟩ := fixK_sound _ _ _ H hk
    exact hn _ _ _ (C.put o.dst noAV (AVok_pl _ _ _) rfl H'') hk
  case enter f args =>
    simp only [forceL_eq, putK_eq] at hk
    refine Calls.mono (hcv f args.toList _ b h' _ w' H hk) fun e w'' he => ?_
    obtain ⟨v, s, b', h'', rfl, H'', hk''⟩ := he
    exact hn _ _ _ (C.put o.dst (pl v s) (AVok_pl _ _ _) rfl H'') hk''

def setsFrom : List Value → Nat → List Value → List Value
  | c, _, [] => c
  | c, o, v :: r => setsFrom (c.set o v) (o + 1) r

def setsK : List Value → Nat → List Value → (List Value → Prop) → Prop
  | c, _, [], k => k c
  | c, o, v :: r, k => setK c o v fun c => setsK c (o + 1) r k

theorem setsK_eq : ∀ (l : List Value) (c : List Value) (o : Nat) (k : List Value → Prop), setsK c o l k = k (setsFrom c o l)
  | [], _, _, _ => rfl
  | v :: r, c, o, k => by simp only [setsK, setK_eq, setsK_eq r, setsFrom]

theorem set_same {h : List Blk} {i : Nat} {b : Blk} (hi : h[i]? = some b) : h.set i b = h := by
  have hlt := (List.getElem?_eq_some_iff.1 hi).1
  apply List.ext_getElem?
  intro n
  rw [List.getElem?_set]
  split
  · rename_i e; subst e; simp [hlt, hi]
    exact ((List.getElem?_eq_some_iff.1 hi).2).symm
  · rfl

theorem storeCells_run {P : Program} {wE : World} {bs : Base} {a : Addr} {i : Nat} (hsp : a.spot = none) : ∀ (l : List Value) (j : Nat) (h : List Blk) (b : Blk) (w : World), HC gh wE bs h w → h[i]? = some b → b.x = none → b.g = a.block →
    a.off + j + l.length ≤ b.c.length → l.all flat = true →
    ∃ w', (storeCells a l j).run P w = .ok () w' ∧ HC gh wE bs (h.set i ⟨b.g, setsFrom b.c (a.off + j) l, b.e, b.s, none, b.n, b.y⟩) w'
  | [], j, h, b, w, H, hi, hx, hg, _, _ => by
    refine ⟨w, by simp [storeCells, Sem.run, pure], ?_⟩
    have : h.set i ⟨b.g, setsFrom b.c (a.off + j) [], b.e, b.s, none, b.n, b.y⟩ = h := by
      rw [show (⟨b.g, setsFrom b.c (a.off + j) [], b.e, b.s, none, b.n, b.y⟩ : Blk) = b by obtain ⟨_, _, _, _, _, _, _⟩ := b; simp only at hx; subst hx; rfl]
      exact set_same hi
    rw [this]; exact H
  | v :: r, j, h, b, w, H, hi, hx, hg, hle, hfl => by
    have hlt := (List.getElem?_eq_some_iff.1 hi).1
    simp only [List.all_cons, Bool.and_eq_true] at hfl
    simp only [List.length_cons] at hle
    have hin : a.off + j < b.c.length := by omega
    have hc : cellAt b (a.add j) = some (b.c[a.off + j]) := by
      unfold cellAt; rw [hx, addr_add hsp]
      exact List.getElem?_eq_getElem hin
    have hg' : b.g = (a.add j).block := by rw [addr_add hsp]; exact hg
    have hset := H.set (v := v) hi hg' hc
    have hi2 : (h.set i ⟨b.g, b.c.set (a.add j).off v, b.e, b.s, none, b.n, b.y⟩)[i]? = some ⟨b.g, b.c.set (a.add j).off v, b.e, b.s, none, b.n, b.y⟩ := by
      rw [List.getElem?_set]; simp [hlt]
    obtain ⟨w', hr, H'⟩ := storeCells_run (P := P) hsp r (j + 1) _ _ _ hset hi2 rfl hg (by simp only [List.length_set]; omega) hfl.2
    refine ⟨w', ?_, ?_⟩
    · simp only [storeCells, Sem.run_bind]
      have hrun : (store (a.add j) v).run P w = .ok () (w.setCell (a.add j) v) := by
        have h1 := H.cell (List.mem_of_getElem? hi) hg' hc
        have h2 := H.frozen (a := a.add j) (List.mem_of_getElem? hi) hx hg'
        cases v <;> first | (simp [flat] at hfl; done) | simp [store, Sem.run, h1, h2]
      rw [hrun]
      exact hr
    · rw [List.set_set] at H'
      simp only [addr_add hsp] at H'
      exact H'

/-- a list has so many members -/
def hasN : Nat → List Value → Bool
  | 0, _ => true
  | n + 1, c => match c with
    | [] => false
    | _ :: r => hasN n r

def hasK (c : List Value) (n : Nat) : Bool := hasN n c

theorem hasK_out : ∀ {c : List Value} {n : Nat}, hasK c n = true → n ≤ c.length
  | _, 0, _ => Nat.zero_le _
  | [], _ + 1, h => by cases h
  | _ :: r, n + 1, h => Nat.succ_le_succ (hasK_out (c := r) h)

/-- a store into a block that is known -/
def storeVC (P : Program) (T : TT P) (wE : World) (cv : CV) (o : Oper) (ty : TypeId) (a x : Operand) : St → (St → Prop) → Prop
  | ⟨b, t, h⟩, K => resO [] [a, x] t fun t => match hd1 (shOf t a), evT t a, T.z ty with
    | some i, .pointer (some ⟨g, off, none⟩), some n => match h[i]? with
      | some ⟨bg, bc, be, bs, none, bn, by_⟩ => match by_.isLit with
        | true => bg = g ∧ forceL (evT t x).cells.toList fun l => match Nat.beq l.length n && hasK bc (off + l.length) && l.all flat with
          | true => setsK bc off l fun c => setK h i ⟨bg, c, be, bs, none, bn, by_⟩ fun h => putK t o.dst noAV fun t' => fixK o t h fun h => K ⟨b, t', h⟩
          | false => False
        | false => forceL (evT t x).cells.toList fun l => match Nat.beq l.length n && l.all flat with
          | true => (bg = g ∧ off + l.length ≤ bc.length) ∧ ∀ c, c = setsFrom bc off l → setK h i ⟨bg, c, be, bs, none, bn, by_⟩ fun h => putK t o.dst noAV fun t' => K ⟨b, t', h⟩
          | false => False
      | _ => False
    | _, _, _ => False

theorem storeVC_sound {P : Program} {T : TT P} {wE : World} {cv : CV} {o : Oper} {ty : TypeId} {x y : Operand} (ho : o.op = .store ty x y) {st : St} {K : St → Prop} {a : Act} {w : World} {next : Act → World → Prop} {Q : Exit → Act → World → Prop}
    (C : Conc gh wE st a w) (h : storeVC P T wE cv o ty x y st K) (hn : ∀ st' a' w', Conc gh wE st' a' w' → K st' → next a' w') : o.wp P a w next Q := by
  obtain ⟨b, t0, hp⟩ := st
  unfold storeVC at h
  obtain ⟨t, hg0, hs, h⟩ := resO_out h
  have C := C.same (hs rfl)
  have key : ∀ {i g off n : Nat} {bc be bs bn by_}, evT t x = .pointer (some ⟨g, off, none⟩) → T.z ty = some n → hp[i]? = some ⟨g, bc, be, bs, none, bn, by_⟩ →
      (evT t y).cells.toList.length = n → off + (evT t y).cells.toList.length ≤ bc.length → (evT t y).cells.toList.all flat = true →
      ∃ w', (execOp (evT t) o).run P w = .ok .skip w' ∧ HC gh wE b (hp.set i ⟨g, setsFrom bc off (evT t y).cells.toList, be, bs, none, bn, by_⟩) w' := by
    intro i g off n bc be bs bn by_ hx hz hi hl hle hfl
    obtain ⟨w', hr, H'⟩ := storeCells_run (P := P) (a := ⟨g, off, none⟩) (i := i) rfl (evT t y).cells.toList 0 hp ⟨g, bc, be, bs, none, bn, by_⟩ w C.hc hi rfl rfl (by simpa using hle) hfl
    refine ⟨w', ?_, H'⟩
    unfold execOp
    rw [ho]
    have hl' : (evT t y).cells.size = n := by simpa using hl
    simp only [hx]
    have hsv : (storeVar ty ⟨g, off, none⟩ (evT t y)).run P w = .ok () w' := by
      unfold storeVar
      rw [Sem.run_bind, T.run_z hz]
      simp only [Result.andThen, hl', ne_eq, not_true_eq_false, if_false, pure_bind]
      exact hr
    show ((storeVar ty ⟨g, off, none⟩ (evT t y)) >>= fun _ => pure Next.skip).run P w = _
    rw [Sem.run_bind, hsv]
    rfl
  split at h
  · rename_i i g off n hh hx hz
    split at h
    · rename_i bg bc be bs bn by_ hi
      split at h
      · obtain ⟨rfl, h⟩ := h
        simp only [forceL_eq] at h
        split at h
        · rename_i hok
          simp only [Bool.and_eq_true] at hok
          obtain ⟨⟨hl, hle⟩, hfl⟩ := hok
          simp only [setsK_eq, setK_eq, putK_eq] at h
          obtain ⟨w', hr, H'⟩ := key hx hz hi (Nat.eq_of_beq_eq_true hl) (hasK_out hle) hfl
          obtain ⟨h'', H'', hk⟩ := fixK_sound _ _ _ H' h
          unfold Oper.wp
          rw [C.eval, hr]
          exact hn _ _ _ (C.put o.dst noAV (AVok_pl _ _ _) rfl H'') hk
        · exact h.elim
      · simp only [forceL_eq] at h
        split at h
        · rename_i hok
          simp only [Bool.and_eq_true] at hok
          obtain ⟨hl, hfl⟩ := hok
          obtain ⟨⟨rfl, hle⟩, h⟩ := h
          have h := h _ rfl
          simp only [setK_eq, putK_eq] at h
          obtain ⟨w', hr, H'⟩ := key hx hz hi (Nat.eq_of_beq_eq_true hl) hle hfl
          unfold Oper.wp
          rw [C.eval, hr]
          exact hn _ _ _ (C.put o.dst noAV (AVok_pl _ _ _) rfl H') h
        · exact h.elim
    · exact h.elim
  · exact h.elim

/-! ### append -/
theorem flat_one (v : Value) : flat v = v.oneCell' := by cases v <;> rfl

theorem own_info {P : Program} (T : TT P) {e size bytes : Nat} (h : T.r e = some (size, bytes)) : ∃ i z, P.info? e = some i ∧ i.zero = some z ∧ i.size = size ∧ i.bytes = bytes ∧ z.cells.size = size ∧ 0 < size ∧ 0 < bytes := T.hr e size bytes h

/-- append onto a row of the walk's own, or onto nil; what is appended may be nil -/
theorem append_any {P : Program} {T : TT P} {t e size bytes : Nat} (ty : TypeId) (w : World) (ht : T.u t = some (.slice e)) (hr : T.r e = some (size, bytes)) {v : Value} {n : Nat} {xs : List Value} (hown : w.ownsRow 0 e size v n xs)
    {A : Option Addr} {m : Nat} (c : Nat) {news : List Value} (hl : news.length = m * size) (hA : A = none → m = 0) (hnews : ∀ a, A = some a → ∀ j u, news[j]? = some u → w.cell? (a.add j) = some u) (hfl : news.all flat = true) (hbytes : (n + m) * bytes ≤ 140737488355328) :
    ∃ v' w', (Builtin.append_ #[t, t] ty #[v, .slice A m c]).run P w = .ok v' w' ∧ w'.ownsRow 0 e size v' (n + m) (xs ++ news) ∧ w.grownBy w' v.ownBlock ∧ (v' = .slice none 0 0 ↔ v = .slice none 0 0 ∧ m = 0) ∧ (v'.ownBlock = v.ownBlock ∨ v'.ownBlock = some w.heap.size) := by
  obtain ⟨i, z, hi, hz, hs, hb, hzs, hsz, hbp⟩ := own_info T hr
  have h63 : n + m ≤ maxLen := by
    have := Nat.le_mul_of_pos_right (n + m) hbp
    simp only [maxLen]; omega
  have h1 : ∀ u ∈ news, u.oneCell' = true := fun u hu => by rw [← flat_one]; exact List.all_eq_true.1 hfl u hu
  cases A with
  | some a => exact run_append_own_at w 0 t ty e i z size bytes (T.hu _ _ ht) hi hz hs hb hzs hsz v n xs hown a m c news hl (hnews a rfl) h1 h63 hbytes (Nat.zero_le _)
  | none =>
    obtain rfl := hA rfl
    obtain rfl : news = [] := List.eq_nil_of_length_eq_zero (by simpa using hl)
    have ht' := T.hu _ _ ht
    refine ⟨v, w, ?_, by simpa using hown, ⟨rfl, rfl, rfl, Nat.le_refl _, fun _ _ _ => rfl⟩, by simp, .inl rfl⟩
    rcases hown.2 with ⟨rfl, rfl⟩ | ⟨g, cap, cur, rfl, hbg, hg, hnc, hcm, hcs, htake⟩
    · simp [Builtin.append_, run_underlying ht', sizeOf, typeInfo, hi, Builtin.lenOf, Builtin.firstCells]
    · simp [Builtin.append_, run_underlying ht', sizeOf, typeInfo, hi, Builtin.lenOf, Builtin.firstCells, hnc, storeCells]

section
variable {wE w : World} {bs : Base} {h : List Blk}

/-- a block whose row is another one now, there or elsewhere -/
theorem HC.regrow {i : Nat} {b b' : Blk} {w' : World} (H : HC gh wE bs h w) (hi : h[i]? = some b) (hn : b.n = true) (hn' : b'.n = true) (hrow : rowOk b') (G : w.grownBy w' (some b.g)) (hat : w'.heap[b'.g]? = some b'.den) (hg : b'.g = b.g ∨ b'.g = w.heap.size) :
    HC gh wE ⟨bs.w, b.g :: bs.j⟩ (h.set i b') w' := by
  have hbm : b ∈ h := List.mem_of_getElem? hi
  have hbE := H.nw b hbm hn
  have hE' : wE.heap.size ≤ b'.g := by
    rcases hg with e | e
    · rw [e]; exact hbE
    · rw [e]; exact H.le
  have hold : ∀ r, r < w.heap.size → r ≠ b.g → w'.heap[r]? = w.heap[r]? := fun r hr hne => G.block r hr (fun e => hne (Option.some.inj e))
  have hne' : ∀ n c, n ≠ i → h[n]? = some c → b'.g ≠ c.g := fun n c hne hc => by
    rcases hg with e | e
    · rw [e]; exact Ne.symm (nd_ne H.nd hi hc hne)
    · rw [e]; exact Nat.ne_of_gt (H.lt (List.mem_of_getElem? hc))
  refine ⟨G.os.trans H.os, G.tape.trans H.tape, G.output.trans H.output, H.ns, Nat.le_trans H.size G.size, ?_, ?_, ?_, ?_, ?_, ?_, fun p hp => ?_⟩
  rotate_left 6
  · obtain ⟨p1, p2, p3⟩ := H.gp p hp
    have hps := (Array.getElem?_eq_some_iff.1 p3).1
    refine ⟨p1, fun c hcm => ?_, (hold _ hps (Ne.symm (p2 b hbm))).trans p3⟩
    rcases mem_set_cases hcm with rfl | ⟨n, hne, hc⟩
    · rcases hg with e | e
      · rw [e]; exact p2 b hbm
      · rw [e]; exact Nat.ne_of_gt hps
    · exact p2 c (List.mem_of_getElem? hc)
  · intro c hcm
    rcases mem_set_cases hcm with rfl | ⟨n, hne, hc⟩
    · exact hat
    · have hcm' := List.mem_of_getElem? hc
      rw [hold _ (H.lt hcm') (nd_ne H.nd hi hc hne)]
      exact H.bl c hcm'
  · rw [List.pairwise_iff_getElem]
    intro p q hp hq hpq
    have e1 : (h.set i b')[p]? = some (h.set i b')[p] := List.getElem?_eq_getElem hp
    have e2 : (h.set i b')[q]? = some (h.set i b')[q] := List.getElem?_eq_getElem hq
    generalize (h.set i b')[p] = x at e1 ⊢
    generalize (h.set i b')[q] = y at e2 ⊢
    rw [List.getElem?_set] at e1 e2
    have nd := H.nd
    split at e1 <;> split at e2
    · omega
    · rename_i ei ei'
      split at e1
      · cases e1; exact hne' q y (fun e => ei' e.symm) e2
      · cases e1
    · rename_i ei ei'
      split at e2
      · cases e2; exact Ne.symm (hne' p x (fun e => ei e.symm) e1)
      · cases e2
    · rw [List.pairwise_iff_getElem] at nd
      obtain ⟨h1, x1⟩ := List.getElem?_eq_some_iff.1 e1
      obtain ⟨h2, x2⟩ := List.getElem?_eq_some_iff.1 e2
      rw [← x1, ← x2]; exact nd p q h1 h2 hpq
  · intro c hcm hcn
    rcases mem_set_cases hcm with rfl | ⟨n, hne, hc⟩
    · exact hE'
    · exact H.nw c (List.mem_of_getElem? hc) hcn
  · intro c hcm
    rcases mem_set_cases hcm with rfl | ⟨n, hne, hc⟩
    · exact hrow
    · exact H.rw c (List.mem_of_getElem? hc)
  · intro r hr hf hj
    have hne : r ≠ b.g := fun e => hj (by rw [e]; exact List.mem_cons_self)
    rw [hold r (Nat.lt_of_lt_of_le hr H.size) hne]
    refine H.fr r hr (fun c hcm => ?_) (fun hm => hj (List.mem_cons_of_mem _ hm))
    rcases mem_of_set (b' := b') hi hcm with rfl | hc
    · exact Ne.symm hne
    · exact hf c hc
  · intro r hr hf
    have hne : r ≠ b.g := by omega
    rw [hold r (Nat.lt_of_lt_of_le hr H.le) hne]
    refine H.en r hr fun c hcm hcn => ?_
    rcases mem_of_set (b' := b') hi hcm with rfl | hc
    · exact Ne.symm hne
    · exact hf c hc hcn

/-- a row of the walk's own, new -/
theorem HC.newRow {b' : Blk} {w' : World} (H : HC gh wE bs h w) (hn' : b'.n = true) (hrow : rowOk b') (G : w.grownBy w' none) (hat : w'.heap[b'.g]? = some b'.den) (hg : b'.g = w.heap.size) :
    HC gh wE bs (h ++ [b']) w' := by
  have hold : ∀ r, r < w.heap.size → w'.heap[r]? = w.heap[r]? := fun r hr => G.block r hr (by simp)
  refine ⟨G.os.trans H.os, G.tape.trans H.tape, G.output.trans H.output, H.ns, Nat.le_trans H.size G.size, ?_, ?_, ?_, ?_, ?_, ?_, fun p hp => ?_⟩
  rotate_left 6
  · obtain ⟨p1, p2, p3⟩ := H.gp p hp
    have hps := (Array.getElem?_eq_some_iff.1 p3).1
    refine ⟨p1, fun c hc => ?_, (hold _ hps).trans p3⟩
    rcases List.mem_append.1 hc with hc | hc
    · exact p2 c hc
    · obtain rfl := List.mem_singleton.1 hc; rw [hg]; exact Nat.ne_of_gt hps
  · intro c hc
    rcases List.mem_append.1 hc with hc | hc
    · rw [hold _ (H.lt hc)]; exact H.bl c hc
    · obtain rfl := List.mem_singleton.1 hc; exact hat
  · rw [List.pairwise_append]
    refine ⟨H.nd, by simp, fun c hc d hd => ?_⟩
    obtain rfl := List.mem_singleton.1 hd
    rw [hg]; exact Nat.ne_of_lt (H.lt hc)
  · intro c hc hcn
    rcases List.mem_append.1 hc with hc | hc
    · exact H.nw c hc hcn
    · obtain rfl := List.mem_singleton.1 hc; rw [hg]; exact H.le
  · intro c hc
    rcases List.mem_append.1 hc with hc | hc
    · exact H.rw c hc
    · obtain rfl := List.mem_singleton.1 hc; exact hrow
  · intro r hr hf hj
    rw [hold r (Nat.lt_of_lt_of_le hr H.size)]
    exact H.fr r hr (fun c hc => hf c (List.mem_append_left _ hc)) hj
  · intro r hr hf
    rw [hold r (Nat.lt_of_lt_of_le hr H.le)]
    exact H.en r hr (fun c hc => hf c (List.mem_append_left _ hc))
end

/-- what is appended: how many, and their cells; y: whether these are literal -/
def newsK (wE : World) (b : Base) (h : List Blk) (size : Nat) (x : Value) (s : Sh) (k : Nat → List Value → Bool → Prop) : Prop :=
  match toHint (hd1 s) with
  | .id i => match x, h[i]? with
    | .slice (some ⟨g, off, none⟩) m _, some ⟨bg, bc, _, _, none, _, by_⟩ => match by_.isLit with
      | true => bg = g ∧ takeK (bc.drop off) (m * size) fun l => match l.all flat with
        | true => k m l true
        | false => False
      | false => ∀ vs, vs = (bc.drop off).take (m * size) → (bg = g ∧ off + m * size ≤ bc.length ∧ vs.all flat = true) ∧ k m vs false
    | .slice (some ⟨g, off, none⟩) m _, some ⟨bg, _, _, _, some (.cells a _ _), _, _⟩ => bg = g ∧ takeK (a.toList.drop off) (m * size) fun l => match l.all flat with
      | true => k m l true
      | false => False
    | .slice none 0 _, _ => k 0 [] true
    | _, _ => False
  | .base => match x with
    | .slice A m _ => ∃ vs : List Value, (vs.length = m * size ∧ vs.all flat = true ∧ (0 < m → ∃ a, A = some a ∧ FarB b h a.block ∧ cellsAt b.w a 0 vs)) ∧ k m vs false
    | _ => False
  | .entry => match hd1 s with
    | some _ => match x with
      | .slice A m _ => ∃ vs : List Value, (vs.length = m * size ∧ vs.all flat = true ∧ (0 < m → ∃ a, A = some a ∧ FarE wE h a.block ∧ cellsAt wE a 0 vs)) ∧ k m vs false
      | _ => False
    | none => match x with
      | .slice none 0 _ => k 0 [] true
      | .slice A m _ => ∃ vs : List Value, (vs.length = m * size ∧ vs.all flat = true ∧ (0 < m → ∃ a, A = some a ∧ FarE wE h a.block ∧ cellsAt wE a 0 vs)) ∧ k m vs false
      | _ => False

theorem newsK_out {wE w : World} {b : Base} {h : List Blk} {size : Nat} {x : Value} {s : Sh} {k : Nat → List Value → Bool → Prop} (H : HC gh wE b h w) (hk : newsK wE b h size x s k) :
    ∃ A m c vs y, x = .slice A m c ∧ vs.length = m * size ∧ vs.all flat = true ∧ (0 < m → A ≠ none) ∧ (∀ a, A = some a → ∀ j u, vs[j]? = some u → w.cell? (a.add j) = some u) ∧ k m vs y := by
  have known : ∀ {i g off : Nat} {bc : List Value} {be bs bn by_} (m : Nat), h[i]? = some ⟨g, bc, be, bs, none, bn, by_⟩ → ∀ a, some (⟨g, off, none⟩ : Addr) = some a → ∀ j u, ((bc.drop off).take (m * size))[j]? = some u → w.cell? (a.add j) = some u := by
    intro i g off bc be bs bn by_ m hi a ha j u hu
    cases ha
    rw [addr_add rfl]
    refine H.cell (List.mem_of_getElem? hi) rfl ?_
    rw [List.getElem?_take] at hu
    split at hu
    · rwa [List.getElem?_drop] at hu
    · cases hu
  unfold newsK at hk
  split at hk
  · split at hk
    · rename_i g off m cap bg bc be bs bn by_ hi
      split at hk
      · obtain ⟨rfl, hk⟩ := hk
        obtain ⟨hle, hk⟩ := takeK_out hk
        split at hk
        · rename_i hfl
          exact ⟨_, m, cap, _, _, rfl, by rw [List.length_take]; omega, hfl, (fun _ => by simp), known m hi, hk⟩
        · exact hk.elim
      · obtain ⟨⟨rfl, hle, hfl⟩, hk'⟩ := hk _ rfl
        exact ⟨some ⟨bg, off, none⟩, m, cap, (bc.drop off).take (m * size), false, rfl, by rw [List.length_take, List.length_drop]; omega, hfl, (fun _ => by simp), known m hi, hk'⟩
    · rename_i g off m cap bg bc be bs ar ae fr bn by_ hi
      obtain ⟨rfl, hk⟩ := hk
      obtain ⟨hle, hk⟩ := takeK_out hk
      split at hk
      · rename_i hfl
        refine ⟨_, m, cap, _, _, rfl, by rw [List.length_take]; omega, hfl, (fun _ => by simp), ?_, hk⟩
        intro a ha j u hu
        cases ha
        rw [addr_add rfl]
        have hb : w.heap[bg]? = some (.cells ar ae fr) := H.bl _ (List.mem_of_getElem? hi)
        rw [List.getElem?_take] at hu
        split at hu
        · rw [List.getElem?_drop] at hu
          unfold World.cell?
          simp only [hb]
          simpa using hu
        · cases hu
      · exact hk.elim
    · exact ⟨none, 0, _, [], _, rfl, by simp, rfl, (fun h => absurd h (Nat.lt_irrefl _)), (fun a h => by cases h), hk⟩
    · exact hk.elim
  · split at hk
    · rename_i A m c
      obtain ⟨vs, ⟨h1, h2, h3⟩, hk⟩ := hk
      refine ⟨A, m, c, vs, _, rfl, h1, h2, fun hm => ?_, fun a ha j u hu => ?_, hk⟩
      · obtain ⟨a, rfl, _⟩ := h3 hm; simp
      · have hm : 0 < m := by
          have := (List.getElem?_eq_some_iff.1 hu).1
          rcases Nat.eq_zero_or_pos m with e | e
          · rw [e] at h1; omega
          · exact e
        obtain ⟨a', ha', hf, hc⟩ := h3 hm
        rw [ha] at ha'; cases ha'
        have := cellsAt_out hc j u hu
        rw [Nat.zero_add] at this
        rw [← this]; unfold World.cell?; rw [H.farB (by rw [blk_add]; exact hf)]
    · exact hk.elim
  · have gen : ∀ {A : Option Addr} {m c : Nat}, (∃ vs : List Value, (vs.length = m * size ∧ vs.all flat = true ∧ (0 < m → ∃ a, A = some a ∧ FarE wE h a.block ∧ cellsAt wE a 0 vs)) ∧ k m vs false) → x = .slice A m c →
        ∃ A m c vs y, x = .slice A m c ∧ vs.length = m * size ∧ vs.all flat = true ∧ (0 < m → A ≠ none) ∧ (∀ a, A = some a → ∀ j u, vs[j]? = some u → w.cell? (a.add j) = some u) ∧ k m vs y := by
      intro A m c hk hx
      obtain ⟨vs, ⟨h1, h2, h3⟩, hk⟩ := hk
      refine ⟨A, m, c, vs, _, hx, h1, h2, fun hm => ?_, fun a ha j u hu => ?_, hk⟩
      · obtain ⟨a, rfl, _⟩ := h3 hm; simp
      · have hm : 0 < m := by
          have := (List.getElem?_eq_some_iff.1 hu).1
          rcases Nat.eq_zero_or_pos m with e | e
          · rw [e] at h1; omega
          · exact e
        obtain ⟨a', ha', hf, hc⟩ := h3 hm
        rw [ha] at ha'; cases ha'
        have := cellsAt_out hc j u hu
        rw [Nat.zero_add] at this
        rw [← this]; unfold World.cell?; rw [H.farE (by rw [blk_add]; exact hf)]
    split at hk
    · split at hk
      · exact gen hk rfl
      · exact hk.elim
    · split at hk
      · exact ⟨none, 0, _, [], _, rfl, by simp, rfl, (fun h => absurd h (Nat.lt_irrefl _)), (fun a h => by cases h), hk⟩
      · exact gen hk rfl
      · exact hk.elim

def rowKind (l : Bool) (cap size : Nat) : RK := match l with
  | true => .row cap size
  | false => .srow cap size

theorem rowOk_kind {g : Nat} {c : List Value} {e : TypeId} {s : List (Option Nat)} {n l : Bool} {cap size : Nat} (h1 : cap ≤ maxLen) (h2 : c.length = cap * size) : rowOk ⟨g, c, e, s, none, n, rowKind l cap size⟩ := by
  cases l <;> exact ⟨h1, h2, rfl⟩

/-- the places of a row that is appended to -/
def capK : RK → List Value → Nat → Nat → Prop → Prop
  | .row c s, _, cap, size, p => match Nat.beq s size with
    | true => cap = c ∧ p
    | false => False
  | .srow c s, _, cap, size, p => match Nat.beq s size with
    | true => cap = c ∧ p
    | false => False
  | .lit, l, cap, size, p => match Nat.beq l.length (cap * size) && Nat.ble cap maxLen with
    | true => p
    | false => False
  | .sym, _, _, _, _ => False

theorem capK_out {d : Blk} {cap size : Nat} {p : Prop} (hr : rowOk d) (h : capK d.y d.c cap size p) : (cap ≤ maxLen ∧ d.c.length = cap * size) ∧ p := by
  unfold rowOk at hr
  unfold capK at h
  split at h <;> rename_i hy
  · split at h
    · rename_i hb
      obtain rfl := Nat.eq_of_beq_eq_true hb
      obtain ⟨rfl, h⟩ := h
      rw [hy] at hr; exact ⟨⟨hr.1, hr.2.1⟩, h⟩
    · exact h.elim
  · split at h
    · rename_i hb
      obtain rfl := Nat.eq_of_beq_eq_true hb
      obtain ⟨rfl, h⟩ := h
      rw [hy] at hr; exact ⟨⟨hr.1, hr.2.1⟩, h⟩
    · exact h.elim
  · split at h
    · rename_i hb
      simp only [Bool.and_eq_true] at hb
      exact ⟨⟨Nat.le_of_ble_eq_true hb.2, Nat.eq_of_beq_eq_true hb.1⟩, h⟩
    · exact h.elim
  · exact h.elim

/-- what stands in a row -/
def oldK (y : RK) (c : List Value) (n : Nat) (k : List Value → Bool → Prop) : Prop := match y.isLit with
  | true => takeK c n fun l => k l true
  | false => ∀ l, l = c.take n → k l false

theorem oldK_out {y : RK} {c : List Value} {n : Nat} {k : List Value → Bool → Prop} (h : oldK y c n k) : ∃ l, k (c.take n) l := by
  unfold oldK at h
  split at h
  · exact ⟨_, (takeK_out h).2⟩
  · exact ⟨_, h _ rfl⟩

/-- the hints of what is appended -/
def newsS (h : List Blk) (size : Nat) (x : Value) (s : Sh) : List (Option Nat) := match toHint (hd1 s) with
  | .id i => match x, h[i]? with
    | .slice (some ⟨_, off, _⟩) m _, some b => match b.s, b.y.isLit with
      | [], _ => []
      | l, true => ((pad (off + m * size) l).drop off).take (m * size)
      | _, false => []
    | _, _ => []
  | _ => []
/-- the hints of a row, and of what is put behind it -/
def rowS (lo : Bool) (k : Nat) (old news : List (Option Nat)) : List (Option Nat) := match lo with
  | false => []
  | true => match old, news with
    | [], [] => []
    | old, news => (pad k old).take k ++ news

/-- append -/
def appendVC (P : Program) (T : TT P) (wE : World) (o : Oper) (t : TypeId) (s x : Operand) : St → (St → Prop) → Prop
  | ⟨b, tm, h⟩, K => resO [] [s, x] tm fun tm => match T.u t with
    | some (.slice e) => match T.r e with
      | some (size, bytes) => newsK wE b h size (evT tm x) (shOf tm x) fun m news ly => match evT tm s, hd1 (shOf tm s) with
        | .slice none 0 0, _ => br (Nat.beq m 0) (putK tm o.dst (pl (.slice none 0 0) []) fun tm => K ⟨b, tm, h⟩)
            ((match Nat.ble (m * bytes) 140737488355328 with
              | true => True
              | false => m * bytes ≤ 140737488355328) ∧ forceO (newsS h size (evT tm x) (shOf tm x)) fun ns => ∀ g cap rest, b.w.heap.size ≤ g → m ≤ cap → snocK h ⟨g, news ++ rest, e, ns, none, true, rowKind ly cap size⟩ fun h' => putK tm o.dst (pl (.slice (some ⟨g, 0, none⟩) m cap) [[some h.length]]) fun tm => K ⟨b, tm, h'⟩)
        | .slice (some ⟨g, 0, none⟩) n cap, some i => match h[i]? with
          | some ⟨bg, bc, be, bss, none, true, by_⟩ => match Nat.beq be e with
            | true => forceO (rowS (by_.isLit && ly) (n * size) bss (newsS h size (evT tm x) (shOf tm x))) fun ns => capK by_ bc cap size ((bg = g ∧ n ≤ cap ∧ (match Nat.ble ((n + m) * bytes) 140737488355328 with
              | true => True
              | false => (n + m) * bytes ≤ 140737488355328)) ∧ oldK by_ bc (n * size) fun old lo => ∀ g' cap' rest, (g' = g ∨ b.w.heap.size ≤ g') → n + m ≤ cap' →
                setK h i ⟨g', old ++ news ++ rest, e, ns, none, true, rowKind (lo && ly) cap' size⟩ fun h' => putK tm o.dst (pl (.slice (some ⟨g', 0, none⟩) (n + m) cap') [[some i]]) fun tm => K ⟨⟨b.w, bg :: b.j⟩, tm, h'⟩)
            | false => False
          | _ => False
        | _, _ => False
      | none => False
    | _ => False

theorem execOp_append {P : Program} {ρ : Operand → Value} {o : Oper} {t : TypeId} {s x : Operand} {ats : Array TypeId} (ho : o.op = .call ⟨.builtin .append, #[s, x], ats⟩) {v : Value} {w w' : World}
    (hr : (Builtin.append_ ats o.type #[ρ s, ρ x]).run P w = .ok v w') : (execOp ρ o).run P w = .ok (.value v) w' := by
  unfold execOp
  rw [ho]
  simp only [resolve, pure_bind, invoke, builtin]
  show ((Builtin.append_ ats o.type (#[s, x].map ρ)) >>= fun v => pure (Next.value v)).run P w = _
  rw [Sem.run_bind]
  have : #[s, x].map ρ = #[ρ s, ρ x] := by simp
  rw [this, hr]
  rfl

theorem ble_side {n k : Nat} (h : match Nat.ble n k with
    | true => True
    | false => n ≤ k) : n ≤ k := by
  split at h
  · rename_i hb; exact Nat.le_of_ble_eq_true hb
  · exact h

theorem appendVC_sound {P : Program} {T : TT P} {wE : World} {o : Oper} {t : TypeId} {s x : Operand} (ho : o.op = .call ⟨.builtin .append, #[s, x], #[t, t]⟩) {st : St} {K : St → Prop} {a : Act} {w : World} {next : Act → World → Prop} {Q : Exit → Act → World → Prop}
    (C : Conc gh wE st a w) (h : appendVC P T wE o t s x st K) (hn : ∀ st' a' w', Conc gh wE st' a' w' → K st' → next a' w') : o.wp P a w next Q := by
  obtain ⟨b, t0, hp⟩ := st
  unfold appendVC at h
  obtain ⟨tm, hg0, hs, h⟩ := resO_out h
  have C := C.same (hs rfl)
  split at h
  · rename_i e hu
    split at h
    · rename_i size bytes hr
      obtain ⟨A, m, c, news, ly, hx, hl, hfl, hne, hnews, h⟩ := newsK_out C.hc h
      have hA : A = none → m = 0 := fun e => by
        rcases Nat.eq_zero_or_pos m with h0 | h0
        · exact h0
        · exact absurd e (hne h0)
      split at h
      · rename_i hsv
        cases hm : Nat.beq m 0 with
        | true =>
          obtain rfl := Nat.eq_of_beq_eq_true hm
          have h := br_true h hm
          simp only [putK_eq] at h
          obtain ⟨v', w', hrun, hown, hgrow, hnil, hat⟩ := append_any (T := T) o.type w hu hr (World.ownsRow_nil w 0 e size) c hl hA hnews hfl (by simp)
          obtain rfl : v' = .slice none 0 0 := hnil.2 ⟨rfl, rfl⟩
          have hB : Below w.heap.size w w' := ⟨hgrow.os, hgrow.tape, hgrow.output, hgrow.size, fun i hi => hgrow.block i hi (by simp [Value.ownBlock])⟩
          unfold Oper.wp
          rw [C.eval, execOp_append (t := t) ho (by rw [hx, hsv]; exact hrun)]
          exact hn _ _ _ (C.put o.dst _ (AVok_pl _ _ _) rfl (C.hc.step hB)) h
        | false =>
          obtain ⟨hbt, h⟩ := br_false h hm
          rw [forceO_eq] at h
          have hbt := ble_side hbt
          have h0 : m ≠ 0 := fun e => by rw [e] at hm; cases hm
          obtain ⟨v', w', hrun, hown, hgrow, hnil, hat⟩ := append_any (T := T) o.type w hu hr (World.ownsRow_nil w 0 e size) c hl hA hnews hfl (by simpa using hbt)
          rcases hown.2 with ⟨rfl, _⟩ | ⟨g, cap, cur, rfl, _, hgh, hnc, hcm, hcs, htake⟩
          · exact absurd (hnil.1 rfl).2 h0
          · have hg : g = w.heap.size := by
              rcases hat with e | e
              · simp [Value.ownBlock] at e
              · simpa [Value.ownBlock] using e
            have hc : cur.toList = news ++ cur.toList.drop ((0 + m) * size) := by
              rw [List.nil_append] at htake
              rw [← htake, List.take_append_drop]
            have h := h g cap (cur.toList.drop ((0 + m) * size)) (by rw [hg]; exact C.hc.size) (by omega)
            simp only [snocK_eq, putK_eq, ← hc] at h
            unfold Oper.wp
            rw [C.eval, execOp_append (t := t) ho (by rw [hx, hsv]; exact hrun)]
            rw [Nat.zero_add]
            refine hn _ _ _ (C.put o.dst _ (AVok_pl _ _ _) rfl (C.hc.newRow (b' := ⟨g, cur.toList, e, _, none, true, rowKind ly cap size⟩) rfl (rowOk_kind hcm (by simpa using hcs)) (by simpa [Value.ownBlock] using hgrow) ?_ hg)) h
            show w'.heap[g]? = some (Obj.cells cur.toList.toArray e (0, 0))
            rw [Array.toArray_toList]; exact hgh
      · rename_i g n cap i hsv hhd
        split at h
        · rename_i bg bc be bss by_ hi
          split at h
          · rename_i hbe
            obtain rfl := Nat.eq_of_beq_eq_true hbe
            have hbm := List.mem_of_getElem? hi
            rw [forceO_eq] at h
            obtain ⟨⟨hcm, hcl⟩, ⟨rfl, hnc, hbt⟩, h⟩ := capK_out (d := ⟨bg, bc, be, bss, none, true, by_⟩) (C.hc.rw _ hbm) h
            have hbt := ble_side hbt
            obtain ⟨lo, h⟩ := oldK_out h
            have hgh : w.heap[bg]? = some (.cells bc.toArray be (0, 0)) := C.hc.bl _ hbm
            have hown0 : w.ownsRow 0 be size (.slice (some ⟨bg, 0, none⟩) n cap) n (bc.take (n * size)) := by
              refine ⟨?_, .inr ⟨bg, cap, bc.toArray, rfl, Nat.zero_le _, hgh, hnc, hcm, by simpa using hcl, rfl⟩⟩
              rw [List.length_take]
              have := Nat.mul_le_mul_right size hnc
              simp only at hcl
              omega
            obtain ⟨v', w', hrun, hown, hgrow, hnil, hat⟩ := append_any (T := T) o.type w hu hr hown0 c hl hA hnews hfl hbt
            rcases hown.2 with ⟨rfl, _⟩ | ⟨g', cap', cur, rfl, _, hgh', hnc', hcm', hcs', htake⟩
            · exact absurd (hnil.1 rfl).1 (by simp)
            · have hg : g' = bg ∨ g' = w.heap.size := by
                rcases hat with e | e
                · exact .inl (by simpa [Value.ownBlock] using e)
                · exact .inr (by simpa [Value.ownBlock] using e)
              have hc : cur.toList = bc.take (n * size) ++ news ++ cur.toList.drop ((n + m) * size) := by
                rw [← htake, List.take_append_drop]
              have h := h g' cap' (cur.toList.drop ((n + m) * size)) (hg.imp id fun e => by rw [e]; exact C.hc.size) hnc'
              simp only [setK_eq, putK_eq, ← hc] at h
              unfold Oper.wp
              rw [C.eval, execOp_append (t := t) ho (by rw [hx, hsv]; exact hrun)]
              refine hn _ _ _ (C.put o.dst _ (AVok_pl _ _ _) rfl (C.hc.regrow (b' := ⟨g', cur.toList, be, _, none, true, rowKind (lo && ly) cap' size⟩) hi rfl rfl (rowOk_kind hcm' (by simpa using hcs')) (by simpa [Value.ownBlock] using hgrow) ?_ hg)) h
              show w'.heap[g']? = some (Obj.cells cur.toList.toArray be (0, 0))
              rw [Array.toArray_toList]; exact hgh'
          · exact h.elim
        · exact h.elim
      · exact h.elim
    · exact h.elim
  · exact h.elim

/-- append, parted: there is room, or there is not -/
def appendPVC (P : Program) (T : TT P) (wE : World) (o : Oper) (t : TypeId) (s x : Operand) : St → (St → Prop) → Prop
  | ⟨b, tm, h⟩, K => resO [] [s, x] tm fun tm => match evT tm s, hd1 (shOf tm s) with
    | .slice (some ⟨g, 0, none⟩) n cap, some i => match h[i]? with
      | some ⟨bg, bc, be, _, none, bn, .srow c0 s0⟩ => match T.u t with
        | some (.slice e) => match T.r e with
          | some (size, bytes) => newsK wE b h size (evT tm x) (shOf tm x) fun m news _ => match Nat.beq m 0 with
            | true => False
            | false => match Nat.beq be e && Nat.beq s0 size with
              | true => (bg = g ∧ cap = c0 ∧ n ≤ cap ∧ (n + m) * bytes ≤ 140737488355328) ∧ ∀ old later : List Value, old = bc.take (n * size) → later = bc.drop ((n + m) * size) →
                br (Nat.ble (n + m) cap) (setK h i ⟨bg, old ++ news ++ later, be, [], none, bn, .srow c0 s0⟩ fun h' => putK tm o.dst (pl (.slice (some ⟨g, 0, none⟩) (n + m) cap) [[some i]]) fun tm => K ⟨b, tm, h'⟩)
                  (∀ g' cap' rest, b.w.heap.size ≤ g' → n + m ≤ cap' → snocK h ⟨g', old ++ news ++ rest, be, [], none, true, .srow cap' s0⟩ fun h' => putK tm o.dst (pl (.slice (some ⟨g', 0, none⟩) (n + m) cap') [[some h.length]]) fun tm => K ⟨b, tm, h'⟩)
              | false => False
          | none => False
        | _ => False
      | _ => appendVC P T wE o t s x ⟨b, tm, h⟩ K
    | _, _ => appendVC P T wE o t s x ⟨b, tm, h⟩ K

theorem appendPVC_sound {P : Program} {T : TT P} {wE : World} {o : Oper} {t : TypeId} {s x : Operand} (ho : o.op = .call ⟨.builtin .append, #[s, x], #[t, t]⟩) {st : St} {K : St → Prop} {a : Act} {w : World} {next : Act → World → Prop} {Q : Exit → Act → World → Prop}
    (C : Conc gh wE st a w) (h : appendPVC P T wE o t s x st K) (hn : ∀ st' a' w', Conc gh wE st' a' w' → K st' → next a' w') : o.wp P a w next Q := by
  obtain ⟨b, t0, hp⟩ := st
  unfold appendPVC at h
  obtain ⟨tm, hg0, hs, h⟩ := resO_out h
  have C := C.same (hs rfl)
  split at h
  · rename_i g n cap i hsv hhd
    split at h
    · rename_i bg bc be bss bn c0 s0 hi
      split at h
      · rename_i e hu
        split at h
        · rename_i size bytes hr
          have h' := newsK_out C.hc h
          clear h
          obtain ⟨A, m, c, news, ly, hx, hl, hfl, hne, hnews, h⟩ := h'
          split at h
          · exact h.elim
          rename_i hm
          have h0 : 0 < m := by
            rcases Nat.eq_zero_or_pos m with e | e
            · rw [e] at hm; cases hm
            · exact e
          split at h
          · rename_i hb
            rw [Bool.and_eq_true] at hb
            obtain rfl := Nat.eq_of_beq_eq_true hb.1
            obtain rfl := Nat.eq_of_beq_eq_true hb.2
            obtain ⟨⟨rfl, rfl, hnc, hbt⟩, h⟩ := h
            have h := h _ _ rfl rfl
            have hbm := List.mem_of_getElem? hi
            obtain ⟨hcm, hcl, _⟩ : cap ≤ maxLen ∧ bc.length = cap * s0 ∧ (none : Option Obj) = none := C.hc.rw _ hbm
            have hgh : w.heap[bg]? = some (.cells bc.toArray be (0, 0)) := C.hc.bl _ hbm
            obtain ⟨ii, z, hii, hz, hs, hby, hzs, hsz, hbp⟩ := own_info T hr
            subst hs
            have h63 : n + m ≤ maxLen := by
              have := Nat.le_mul_of_pos_right (n + m) hbp
              simp only [maxLen]; omega
            have h1 : ∀ u ∈ news, u.oneCell' = true := fun u hu => by rw [← flat_one]; exact List.all_eq_true.1 hfl u hu
            obtain ⟨ad, rfl⟩ : ∃ ad, A = some ad := by
              cases A with
              | none => exact absurd rfl (hne h0)
              | some ad => exact ⟨ad, rfl⟩
            have hold : (bc.take (n * ii.size)).length = n * ii.size := by
              rw [List.length_take]
              have := Nat.mul_le_mul_right ii.size hnc
              omega
            cases hroom : Nat.ble (n + m) cap with
            | true =>
              have hroom' := Nat.le_of_ble_eq_true hroom
              have h := br_true h hroom
              simp only [setK_eq, putK_eq] at h
              have hfit : n * ii.size + news.length ≤ bc.toArray.size := by
                rw [hl, ← Nat.add_mul]
                have := Nat.mul_le_mul_right ii.size hroom'
                simp only [List.size_toArray]; omega
              have hrun := run_append_room (P := P) w t o.type be ii (T.hu _ _ hu) hii bg n cap bc.toArray hgh ad m c news hl (hnews ad rfl) h1 hroom' hfit
              have hset := setRow_heap w bg bc.toArray (bc.take (n * ii.size) ++ news ++ bc.drop (n * ii.size + news.length)).toArray be (0, 0) hgh
              have hlen : n * ii.size + news.length = (n + m) * ii.size := by rw [hl, Nat.add_mul]
              unfold Oper.wp
              rw [C.eval, execOp_append (t := t) ho (by rw [hx, hsv]; exact hrun)]
              refine hn _ _ _ (C.put o.dst _ (AVok_pl _ _ _) rfl (C.hc.chg (b' := ⟨bg, bc.take (n * ii.size) ++ news ++ bc.drop ((n + m) * ii.size), be, [], none, bn, .srow cap ii.size⟩) hi rfl rfl (fun _ => ⟨hcm, ?_, rfl⟩) rfl rfl rfl ?_ fun r hr => ?_)) h
              · show (bc.take (n * ii.size) ++ news ++ bc.drop ((n + m) * ii.size)).length = _
                have := Nat.mul_le_mul_right ii.size hroom'
                rw [List.length_append, List.length_append, List.length_drop, hold, hl, ← Nat.add_mul]; omega
              · simp [World.setRow]
              · rw [← hlen]
                by_cases e : r = bg
                · subst e; rw [if_pos rfl]; exact hset
                · rw [if_neg e]; exact setRow_other w bg r _ e
            | false =>
              have hroom' : cap < n + m := by
                rcases Nat.lt_or_ge cap (n + m) with h | h
                · exact h
                · rw [Nat.ble_eq_true_of_le h] at hroom; cases hroom
              have h := br_false h hroom
              have hown0 : w.ownsRow 0 be ii.size (.slice (some ⟨bg, 0, none⟩) n cap) n (bc.take (n * ii.size)) :=
                ⟨hold, .inr ⟨bg, cap, bc.toArray, rfl, Nat.zero_le _, hgh, hnc, hcm, by simpa using hcl, rfl⟩⟩
              have hrun := run_append_grow (P := P) w t o.type be ii z (T.hu _ _ hu) hii hz ⟨bg, 0, none⟩ n cap (bc.take (n * ii.size)) hold (hown0.cells (g := bg) rfl) ad m c news hl (hnews ad rfl) hroom' (by simp only [maxLen] at h63; omega)
                (growslice_fits (by omega) (by rw [hby]; exact hbt))
              have hge := grownCap_ge w (n + m) cap be
              have h := h w.heap.size (grownCap w (n + m) cap be) (Builtin.zeroCells z.cells (grownCap w (n + m) cap be - (n + m))).toList C.hc.size hge
              simp only [snocK_eq, putK_eq] at h
              unfold Oper.wp
              rw [C.eval, execOp_append (t := t) ho (by rw [hx, hsv]; exact hrun)]
              refine hn _ _ _ (C.put o.dst _ (AVok_pl _ _ _) rfl (C.hc.newRow (b' := ⟨w.heap.size, bc.take (n * ii.size) ++ news ++ (Builtin.zeroCells z.cells (grownCap w (n + m) cap be - (n + m))).toList, be, [], none, true, .srow (grownCap w (n + m) cap be) ii.size⟩) rfl
                ⟨grownCap_le_maxLen w (n + m) cap be h63, ?_, rfl⟩ ⟨rfl, rfl, rfl, by simp, fun k hk _ => heap_alloc_old w.drew _ k hk⟩ ?_ rfl)) h
              · show (_ ++ _ ++ _ : List Value).length = _
                rw [List.length_append, List.length_append, hold, hl, Array.length_toList, size_zeroCells, hzs, ← Nat.add_mul, ← Nat.add_mul]
                congr 1; omega
              · show (w.drew.alloc _).heap[w.heap.size]? = some (Obj.cells _ be (0, 0))
                have : (w.drew.alloc (.cells ((bc.take (n * ii.size)).toArray ++ news.toArray ++ Builtin.zeroCells z.cells (grownCap w (n + m) cap be - (n + m))) be)).heap[w.drew.heap.size]? = _ := heap_alloc_new w.drew _
                rw [show w.drew.heap.size = w.heap.size from rfl] at this
                rw [this]
                congr 2
                apply Array.ext'
                simp
          · exact h.elim
        · exact h.elim
      · exact h.elim
    · exact appendVC_sound ho C h hn
  · exact appendVC_sound ho C h hn

/-! ### bytes as a string -/
def numsOf : List Value → Option (List Int)
  | [] => some []
  | .int .u8 n :: r => match numsOf r with
    | some l => some (n :: l)
    | none => none
  | _ => none

theorem numsOf_out : ∀ {l : List Value} {ns : List Int}, numsOf l = some ns → l = ns.map (Value.int .u8)
  | [], ns, h => by cases h; rfl
  | .int .u8 n :: r, ns, h => by
    unfold numsOf at h
    split at h
    · rename_i l hl
      cases h
      rw [List.map_cons, ← numsOf_out hl]
    · cases h

def bytesT {P : Program} (T : TT P) (s d : TypeId) : Bool := match T.u s, T.u d with
  | some (.slice e), some .string => match T.u e with
    | some (.int .u8) => true
    | _ => false
  | _, _ => false

def convVC (P : Program) (T : TT P) (wE : World) (o : Oper) (x : Operand) : St → (St → Prop) → Prop
  | ⟨b, tm, h⟩, K => resO [] [x] tm fun tm => newsK wE b h 1 (evT tm x) (shOf tm x) fun _ vs ly => match ly with
    | true => match numsOf vs with
      | some ns => putK tm o.dst (pl (.string (strOfNums ns)) []) fun tm => K ⟨b, tm, h⟩
      | none => False
    | false => ∃ ns : List Int, vs = ns.map (Value.int .u8) ∧ putK tm o.dst (pl (.string (strOfNums ns)) []) fun tm => K ⟨b, tm, h⟩

theorem execOp_conv {P : Program} {ρ : Operand → Value} {o : Oper} {src dst : TypeId} {x : Operand} (ho : o.op = .convert src dst x) {v : Value} {w : World}
    (hr : (convert src dst (ρ x)).run P w = .ok v w) : (execOp ρ o).run P w = .ok (.value v) w := by
  unfold execOp
  rw [ho]
  show ((convert src dst (ρ x)) >>= fun v => pure (Next.value v)).run P w = _
  rw [Sem.run_bind, hr]
  rfl

theorem conv_run {P : Program} {T : TT P} {src dst : TypeId} (hb : bytesT T src dst = true) {w : World} {A : Option Addr} {m c : Nat} {ns : List Int} (hl : ns.length = m) (hA : A = none → m = 0)
    (hc : ∀ a, A = some a → ∀ j u, (ns.map (Value.int .u8))[j]? = some u → w.cell? (a.add j) = some u) : (convert src dst (.slice A m c)).run P w = .ok (.string (strOfNums ns)) w := by
  unfold bytesT at hb
  split at hb
  · rename_i e hs hd
    split at hb
    · rename_i he
      have hs' := T.hu _ _ hs
      have he' := T.hu _ _ he
      have hd' := T.hu _ _ hd
      cases A with
      | none =>
        have := hA rfl
        subst this
        obtain rfl := List.eq_nil_of_length_eq_zero hl
        exact run_convert_bytes_nil w src e hs' he' 0 c dst hd'
      | some a =>
        cases ns with
        | nil =>
          simp only [List.length_nil] at hl
          subst hl
          obtain ⟨b, o, sp⟩ := a
          unfold convert
          simp [go_sem, underlying, hs', he', hd', Conv.bytesToString, loadCells, loadCellsFrom]
          rfl
        | cons n0 r =>
          have hsp : a.spot = none := by
            have h0 := hc a rfl 0 (.int .u8 n0) rfl
            have : a.add 0 = a := by unfold Addr.add; rw [if_pos rfl]
            rw [this] at h0
            unfold World.cell? at h0
            split at h0
            · split at h0
              · cases h0
              · rename_i hn; simpa using hn
            · cases h0
          obtain ⟨b, o, sp⟩ := a
          simp only at hsp
          subst hsp
          refine run_convert_bytes_arg w src e hs' he' b o m c (n0 :: r) hl (fun i hi => ?_) dst hd'
          have h1 := hc _ rfl i (.int .u8 ((n0 :: r).getD i 0)) (by
            rw [List.getElem?_map, List.getElem?_eq_getElem (by omega)]
            simp [List.getD_eq_getElem?_getD, List.getElem?_eq_getElem (show i < (n0 :: r).length by omega)])
          rwa [addr_add rfl] at h1
    · cases hb
  · cases hb

theorem convVC_sound {P : Program} {T : TT P} {wE : World} {o : Oper} {src dst : TypeId} {x : Operand} (ho : o.op = .convert src dst x) (hb : bytesT T src dst = true) {st : St} {K : St → Prop} {a : Act} {w : World} {next : Act → World → Prop} {Q : Exit → Act → World → Prop}
    (C : Conc gh wE st a w) (h : convVC P T wE o x st K) (hn : ∀ st' a' w', Conc gh wE st' a' w' → K st' → next a' w') : o.wp P a w next Q := by
  obtain ⟨b, t0, hp⟩ := st
  unfold convVC at h
  obtain ⟨tm, hg0, hs, h⟩ := resO_out h
  have C := C.same (hs rfl)
  obtain ⟨A, m, c, vs, ly, hx, hl, hfl, hne, hnews, h⟩ := newsK_out C.hc h
  have fin : ∀ ns : List Int, vs = ns.map (Value.int .u8) → (putK tm o.dst (pl (.string (strOfNums ns)) []) fun tm => K ⟨b, tm, hp⟩) → o.wp P a w next Q := by
    intro ns hv hk
    subst hv
    rw [putK_eq] at hk
    unfold Oper.wp
    rw [C.eval, execOp_conv ho (v := .string (strOfNums ns)) (by
      rw [hx]
      exact conv_run hb (by simpa using hl) (fun e => by
        rcases Nat.eq_zero_or_pos m with h0 | h0
        · exact h0
        · exact absurd e (hne h0)) hnews)]
    exact hn _ _ _ (C.put o.dst _ (AVok_pl _ _ _) rfl C.hc) hk
  split at h
  · split at h
    · rename_i ns hns
      exact fin ns (numsOf_out hns) h
    · exact h.elim
  · obtain ⟨ns, hv, h⟩ := h
    exact fin ns hv h

theorem run_conv_mark {P : Program} (w : World) (t e : TypeId) (C : Array Value) (n c g : Nat) (ht : P.underlying t = some (.slice e)) (he : P.underlying e = some (.int .u8)) (hg : w.heap[g]? = some (.cells C e (0, 0))) :
    ∃ w', (convert t t (.slice (some ⟨g, 0, none⟩) n c)).run P w = .ok (.slice (some ⟨g, 0, none⟩) n c) w' ∧ w'.os = w.os ∧ w'.tape = w.tape ∧ w'.output = w.output ∧ w'.heap.size = w.heap.size ∧
      w'.heap[g]? = some (.cells C e (C.size, C.size + 1)) ∧ ∀ i, i ≠ g → w'.heap[i]? = w.heap[i]? := by
  have hsh : w.shape? g = some (e, C.size) := by
    unfold World.shape?
    rw [hg]
  refine ⟨w.freeze ⟨g, C.size, none⟩ 1, ?_, ?_⟩
  · simp [convert, run_underlying ht, run_underlying he, markStringish, hsh]
  · unfold World.freeze
    rw [if_neg (by decide)]
    refine ⟨rfl, rfl, rfl, by simp, ?_, fun i hi => ?_⟩
    · simp [Array.getElem?_modify, hg]
    · simp [Array.getElem?_modify, Ne.symm hi]

/-- the bytes of a constant: their block is marked -/
def sameT {P : Program} (T : TT P) (s d : TypeId) : Option TypeId := match Nat.beq s d, T.u s with
  | true, some (.slice e) => match T.u e with
    | some (.int .u8) => some e
    | _ => none
  | _, _ => none
theorem sameT_out {P : Program} {T : TT P} {s d e : TypeId} (h : sameT T s d = some e) : s = d ∧ P.underlying s = some (.slice e) ∧ P.underlying e = some (.int .u8) := by
  unfold sameT at h
  split at h
  · rename_i e' hb hu
    split at h
    · rename_i hu2
      cases h
      exact ⟨Nat.eq_of_beq_eq_true hb, T.hu _ _ hu, T.hu _ _ hu2⟩
    · cases h
  · cases h
def markVC (e : TypeId) (o : Oper) (x : Operand) : St → (St → Prop) → Prop
  | ⟨b, tm, h⟩, K => resO [] [x] tm fun tm => match evT tm x, hd1 (shOf tm x) with
    | .slice (some ⟨g, 0, none⟩) n cap, some i => match h[i]? with
      | some ⟨bg, bc, be, _, none, true, _⟩ => (bg = g ∧ be = e) ∧ setK h i ⟨bg, bc, be, [], some (.cells bc.toArray be (bc.length, bc.length + 1)), true, .lit⟩ fun h' => putK tm o.dst (pl (.slice (some ⟨g, 0, none⟩) n cap) [[some i]]) fun tm => K ⟨b, tm, h'⟩
      | _ => False
    | _, _ => False
theorem markVC_sound {P : Program} {T : TT P} {wE : World} {o : Oper} {src dst e : TypeId} {x : Operand} (ho : o.op = .convert src dst x) (hb : sameT T src dst = some e) {st : St} {K : St → Prop} {a : Act} {w : World} {next : Act → World → Prop} {Q : Exit → Act → World → Prop}
    (C : Conc gh wE st a w) (h : markVC e o x st K) (hn : ∀ st' a' w', Conc gh wE st' a' w' → K st' → next a' w') : o.wp P a w next Q := by
  obtain ⟨b, t0, hp⟩ := st
  unfold markVC at h
  obtain ⟨tm, hg0, hs, hq⟩ := resO_out h
  clear h
  have h := hq
  clear hq
  have C := C.same (hs rfl)
  obtain ⟨rfl, hu, hu2⟩ := sameT_out hb
  split at h
  · rename_i g n cap i hx hhd
    split at h
    · rename_i bg bc be bs by_ hi
      obtain ⟨⟨rfl, rfl⟩, hk⟩ := h
      simp only [setK_eq, putK_eq] at hk
      have hgh : w.heap[bg]? = some (.cells bc.toArray be (0, 0)) := C.hc.bl _ (List.mem_of_getElem? hi)
      obtain ⟨w', hrun, e1, e2, e3, e4, e5, e6⟩ := run_conv_mark (P := P) w src be bc.toArray n cap bg hu hu2 hgh
      unfold Oper.wp
      have hex : (execOp (evT tm) o).run P w = .ok (.value (.slice (some ⟨bg, 0, none⟩) n cap)) w' := by
        unfold execOp
        rw [ho]
        show ((convert src src (evT tm x)) >>= fun v => pure (Next.value v)).run P w = _
        rw [Sem.run_bind, hx, hrun]
        rfl
      rw [C.eval, hex]
      refine hn _ _ _ (C.put o.dst _ (AVok_pl _ _ _) rfl (C.hc.chg (b' := ⟨bg, bc, be, [], some (.cells bc.toArray be (bc.length, bc.length + 1)), true, .lit⟩) hi rfl rfl (fun _ => trivial) e1 e2 e3 (Nat.le_of_eq e4.symm) fun r hr => ?_)) hk
      by_cases er : r = bg
      · subst er; rw [if_pos rfl, e5]; simp [Blk.den]
      · rw [if_neg er]; exact e6 r er
    · exact h.elim
  · exact h.elim

def numT {P : Program} (T : TT P) (s d : TypeId) : Bool := match T.u s, T.u d with
  | some (.int _), some (.int _) => true
  | _, _ => false

/-- operations that only read -/
def reads {P : Program} (T : TT P) : Op → Bool
  | .move _ | .assign _ | .pick _ _ _ | .nilCheck _ | .binOp _ _ _ _ _ | .unOp _ _ _ | .fieldAddr _ _ _ | .field _ _ _ | .indexAddr _ _ _ | .index _ _ _ | .extract _ _ | .build _ _ | .load _ _ | .makeFunc _ _ _ => true
  | .call c => match c.callee with
    | .builtin .len | .builtin .cap | .builtin .min | .builtin .max => true
    | _ => false
  | .convert a b _ => numT T a b
  | .slice ty _ _ _ _ => (match T.u ty with
    | some (.slice _) => true
    | _ => false)
  | _ => false

/-- an operation -/
def opVC (P : Program) (T : TT P) (wE : World) (cv : CV) (o : Oper) : St → (St → Prop) → Prop
  | ⟨b, t, h⟩, K => match o.op with
    | .store ty a x => storeVC P T wE cv o ty a x ⟨b, t, h⟩ K
    | .call ⟨.builtin .append, args, ats⟩ => match args.toList, ats.toList with
      | [s, x], [t1, t2] => match Nat.beq t1 t2 with
        | true => (match T.ap with
          | true => appendPVC P T wE o t1 s x ⟨b, t, h⟩ K
          | false => appendVC P T wE o t1 s x ⟨b, t, h⟩ K)
        | false => plainVC P T wE cv o ⟨b, t, h⟩ K
      | _, _ => plainVC P T wE cv o ⟨b, t, h⟩ K
    | .convert src dst x => match bytesT T src dst with
      | true => convVC P T wE o x ⟨b, t, h⟩ K
      | false => match numT T src dst with
        | true => readC P T .all wE b h [] o t (fun v s => putK t o.dst (pl v s) fun t' => K ⟨b, t', h⟩) (plainVC P T wE cv o ⟨b, t, h⟩ K)
        | false => match sameT T src dst with
          | some e => markVC e o x ⟨b, t, h⟩ K
          | none => plainVC P T wE cv o ⟨b, t, h⟩ K
    | op => match reads T op with
      | true => readC P T .all wE b h [] o t (fun v s => putK t o.dst (pl v s) fun t' => K ⟨b, t', h⟩) (plainVC P T wE cv o ⟨b, t, h⟩ K)
      | false => plainVC P T wE cv o ⟨b, t, h⟩ K

theorem opVC_sound {P : Program} {T : TT P} {wE : World} {cv : CV} (hcv : CVok P wE cv) {o : Oper} {st : St} {K : St → Prop} {a : Act} {w : World} {next : Act → World → Prop} {Q : Exit → Act → World → Prop}
    (C : Conc gh wE st a w) (h : opVC P T wE cv o st K) (hn : ∀ st' a' w', Conc gh wE st' a' w' → K st' → next a' w') : o.wp P a w next Q := by
  obtain ⟨b, t, hp⟩ := st
  simp only [opVC] at h
  split at h
  · rename_i ty x y ho; exact storeVC_sound (cv := cv) ho C h hn
  · rename_i args ats ho
    split at h
    · rename_i s x t1 t2 ha ht
      split at h
      · rename_i hb
        obtain rfl := Nat.eq_of_beq_eq_true hb
        have ha' : args = #[s, x] := by rw [← ha]
        have ht' : ats = #[t1, t1] := by rw [← ht]
        subst ha' ht'
        split at h
        · exact appendPVC_sound ho C h hn
        · exact appendVC_sound ho C h hn
      · exact plainVC_sound hcv C h hn
    · exact plainVC_sound hcv C h hn
  · rename_i src dst x ho
    split at h
    · rename_i hb; exact convVC_sound ho hb C h hn
    split at h
    · rcases readC_run C.wf h with ⟨v, s, hr, hk⟩ | hk
      · simp only [putK_eq] at hk
        unfold Oper.wp
        rw [C.eval, hr rfl w C.hc]
        exact hn _ _ _ (C.put o.dst (pl v s) (AVok_pl _ _ _) rfl C.hc) hk
      · exact plainVC_sound hcv C hk hn
    · split at h
      · rename_i he; exact markVC_sound ho he C h hn
      · exact plainVC_sound hcv C h hn
  · split at h
    · rcases readC_run C.wf h with ⟨v, s, hr, hk⟩ | hk
      · simp only [putK_eq] at hk
        unfold Oper.wp
        rw [C.eval, hr rfl w C.hc]
        exact hn _ _ _ (C.put o.dst (pl v s) (AVok_pl _ _ _) rfl C.hc) hk
      · exact plainVC_sound hcv C hk hn
    · exact plainVC_sound hcv C h hn

/-! ### guards -/
/-- that a guard lets in -/
def gq (g : List Bool) (c : Gs) (want y : Bool) : Bool := match c with
  | [] => lit want y
  | c => conjG g c && lit want y

theorem gq_iff {g : List Bool} {c : Gs} {want y : Bool} : gq g c want y = true ↔ conjG g c = true ∧ y = want := by
  unfold gq
  split
  · simp [conjG, lit_eq]
  · simp [lit_eq]

def gTmp (ops : Array Oper) (j : Nat) : Option Nat := (ops[j]?).bind (·.dst)

theorem wanted_gq {wE : World} {st : St} {a : Act} {w : World} (C : Conc gh wE st a w) {ops : Array Oper} {o : Oper} {j d : Nat} {want y : Bool} {s : Sh} {c : Gs} {k : Bool} {p : Option Nat}
    (hg : o.guard = some (j, want)) (hj : gTmp ops j = some d) (ht : getT st.t d = ⟨.bool y, s, c, k, p⟩) : Region.wanted o (yielded ops a.tmps) = gq st.t.g c want y := by
  unfold Region.wanted
  rw [hg]
  simp only
  have h1 := C.tm d
  rw [ht] at h1
  simp only [Array.getD_eq_getD_getElem?] at h1
  have hy : yielded ops a.tmps j = match (⟨.bool y, s, c, k, p⟩ : AV).den st.t.g with
      | .bool b => some b
      | _ => none := by
    unfold yielded
    unfold gTmp at hj
    rw [hj]
    cases hx : a.tmps[d]? with
    | none =>
      rw [hx] at h1
      simp only [Option.getD_none] at h1
      simp only [Option.bind_some, hx]
      rw [← h1]; rfl
    | some u =>
      rw [hx] at h1
      simp only [Option.getD_some] at h1
      subst h1
      simp only [Option.bind_some, hx]
      generalize (⟨.bool y, s, c, k, p⟩ : AV).den st.t.g = u
      cases u <;> rfl
  rw [hy, AV.den_eq]
  apply bool_eq_of
  rw [gq_iff]
  cases hc : conjG st.t.g c
  · simp [condV, undef]
  · simp [condV]

theorem wanted_no {wE : World} {st : St} {a : Act} {w : World} (C : Conc gh wE st a w) {ops : Array Oper} {o : Oper} {j : Nat} {want : Bool} (hg : o.guard = some (j, want))
    (h : ∀ d, gTmp ops j = some d → ∀ y, (getT st.t d).den st.t.g ≠ .bool y) : Region.wanted o (yielded ops a.tmps) = false := by
  unfold Region.wanted
  rw [hg]
  simp only
  have hy : yielded ops a.tmps j = none := by
    unfold yielded
    unfold gTmp at h
    cases hj : (ops[j]?).bind (·.dst) with
    | none => rfl
    | some d =>
      have h1 := C.tm d
      have h2 := h d hj
      simp only [Array.getD_eq_getD_getElem?] at h1
      cases hx : a.tmps[d]? with
      | none => simp [hx]
      | some u =>
        rw [hx] at h1
        simp only [Option.getD_some] at h1
        subst h1
        simp only [hx, Option.bind_some]
        cases hd : (getT st.t d).den st.t.g <;> first | rfl | (exact absurd hd (h2 _))
  rw [hy]; rfl

/-- both ways of a guard -/
def splitG (c : Gs) (want y : Bool) (s : Sh) (d : Nat) (t : TM) (yes no : TM → Prop) : Prop := match c with
  | [] => match want with
    | true => br y (yes (setT t d ⟨.bool true, s, [], true, none⟩)) (no (setT t d ⟨.bool false, s, [], true, none⟩))
    | false => br y (no (setT t d ⟨.bool true, s, [], true, none⟩)) (yes (setT t d ⟨.bool false, s, [], true, none⟩))
  | c => br (conjG t.g c && lit want y) (yes (setT t d ⟨.bool want, s, [], true, none⟩)) (no t)

theorem splitG_out {c : Gs} {want y : Bool} {s : Sh} {d : Nat} {t : TM} {k : Bool} {p : Option Nat} {yes no : TM → Prop} (ht : getT t d = ⟨.bool y, s, c, k, p⟩) (h : splitG c want y s d t yes no) :
    ∃ t', Same t' t ∧ ((gq t.g c want y = true ∧ yes t') ∨ (gq t.g c want y = false ∧ no t')) := by
  unfold splitG at h
  split at h
  · have hs : ∀ x, y = x → Same (setT t d ⟨.bool x, s, [], true, none⟩) t := fun x e => Same.set (fun _ => AVok_k _ _ _ _) (by rw [ht, ← e]; rfl)
    cases want <;> cases y <;> simp only [br] at h
    · exact ⟨_, hs false rfl, .inl ⟨rfl, h⟩⟩
    · exact ⟨_, hs true rfl, .inr ⟨rfl, h⟩⟩
    · exact ⟨_, hs false rfl, .inr ⟨rfl, h⟩⟩
    · exact ⟨_, hs true rfl, .inl ⟨rfl, h⟩⟩
  · have hgq : ∀ x, (conjG t.g c && lit want y) = x → gq t.g c want y = x := by
      intro x e
      rw [← e]
      apply bool_eq_of
      rw [gq_iff, Bool.and_eq_true, lit_eq]
    cases hc : (conjG t.g c && lit want y) with
    | true =>
      refine ⟨_, Same.set (x := ⟨.bool want, s, [], true, none⟩) (fun _ => AVok_k _ _ _ _) ?_, .inl ⟨hgq _ hc, br_true h hc⟩⟩
      simp only [Bool.and_eq_true] at hc
      rw [ht, AV.den_eq, AV.den_eq]
      have := lit_eq.1 hc.2
      subst this
      simp only [hc.1, condV, conjG]
    | false => exact ⟨t, Same.refl t, .inr ⟨hgq _ hc, br_false h hc⟩⟩

theorem reg_gq {t t' : TM} {d n : Nat} {want y : Bool} {s : Sh} {c : Gs} {k : Bool} {p : Option Nat} (hw : WF t) (ht : getT t d = ⟨.bool y, s, c, k, p⟩) (h : regT t d ⟨.bool y, s, c, k, p⟩ = (t', n)) :
    conjG t'.g (c ++ [(n, want)]) = gq t.g c want y := by
  obtain ⟨h1, h2, h3, h4, h5, _⟩ := regT_out hw ht h
  apply bool_eq_of
  rw [conjG_snoc, gq_iff, h5, h3]

theorem reg_ok {t t' : TM} {d n : Nat} {want y : Bool} {s s' : Sh} {c : Gs} {k : Bool} {p : Option Nat} (hw : WF t) (ht : getT t d = ⟨.bool y, s, c, k, p⟩) (h : regT t d ⟨.bool y, s, c, k, p⟩ = (t', n)) (v : Value) :
    AVok t'.g ⟨v, s', c ++ [(n, want)], false, none⟩ := by
  obtain ⟨h1, h2, h3, h4, h5, _⟩ := regT_out hw ht h
  refine ⟨fun i w hm => ?_, fun _ h => (by cases h)⟩
  rcases List.mem_append.1 hm with hm | hm
  · exact h4 i w hm
  · obtain ⟨rfl, rfl⟩ := Prod.mk.inj (List.mem_singleton.1 hm); exact h2

/-- functions that reckon: of their arguments, what is asked and what comes out -/
abbrev PV := FuncId → List Value → Option (Option Prop × Value)

def PVok (P : Program) (pv : PV) : Prop :=
  ∀ f args p v w, pv f args = some (p, v) → (∀ q, p = some q → q) → Calls P f args.toArray w fun e w' => e = .returned v ∧ Below w.heap.size w w'

def askK (q : Option Bool) (p : Option Prop) (k : Prop) : Prop := match p with
  | none => k
  | some p => under q p ∧ k

theorem askK_out {q : Option Bool} {p : Option Prop} {k : Prop} (h : askK q p k) : (qOn q → ∀ r, p = some r → r) ∧ k := by
  cases p with
  | none => exact ⟨fun _ _ e => (by cases e), h⟩
  | some p => exact ⟨fun hq r e => (by cases e; exact under_out h.1 hq), h.2⟩

/-- a call of such a function, under guards -/
def callC (P : Program) (pv : PV) (q : Gs) (o : Oper) (t : TM) (K : Value → Prop) (F : Prop) : Prop := match o.op with
  | .call _ => resO q o.op.operands.toList t fun t => match semP P (execOp (evT t) o) with
    | some (.enter f args) => forceL args.toList fun l => match pv f l with
      | some (p, v) => askK (gB t.g q) p (forceW v K)
      | none => F
    | _ => F
  | _ => F

theorem callC_out {P : Program} {pv : PV} (hpv : PVok P pv) {q : Gs} {o : Oper} {t : TM} {K : Value → Prop} {F : Prop} (h : callC P pv q o t K F) :
    (∃ f args v, (conjG t.g q = true → ∀ w, (execOp (evT t) o).run P w = .ok (.enter f args) w ∧ Calls P f args w fun e w' => e = .returned v ∧ Below w.heap.size w w') ∧ K v) ∨ F := by
  unfold callC at h
  split at h
  · obtain ⟨t', hg, hs, h⟩ := resO_out h
    split at h
    · rename_i f args hsem
      simp only [forceL_eq] at h
      split at h
      · rename_i p v hp
        obtain ⟨hp', hk⟩ := askK_out h
        rw [forceW_eq] at hk
        refine .inl ⟨f, args, v, fun hq w => ⟨?_, ?_⟩, hk⟩
        · rw [← (hs hq).ev]; exact semP_sound _ _ w hsem
        · have := hpv f args.toList p v w hp (hp' (qOn_gB.2 (by rw [hg]; exact hq)))
          simpa using this
      · exact .inr h
    · exact .inr h
  · exact .inr h

/-- one operation that is in its turn: with its guard -/
def stepVC (P : Program) (T : TT P) (wE : World) (cv : CV) (pv : PV) (sym : Bool) (ops : Array Oper) (o : Oper) : St → (St → Prop) → Prop
  | ⟨b, t, h⟩, K =>
    match o.guard with
    | none => opVC P T wE cv o ⟨b, t, h⟩ K
    | some (j, want) => match gTmp ops j with
      | some d => match getT t d with
        | ⟨.bool y, s, c, k, p⟩ => match sym && !k with
          | true => match regT t d ⟨.bool y, s, c, k, p⟩ with
            | (t', n) => match reads T o.op with
              | true => readC P T .all wE b h (c ++ [(n, want)]) o t' (fun v s' => putK t' o.dst ⟨v, s', c ++ [(n, want)], false, none⟩ fun t => K ⟨b, t, h⟩)
                (splitG c want y s d t (fun t => opVC P T wE cv o ⟨b, t, h⟩ K) (fun t => putK t o.dst noAV fun t => K ⟨b, t, h⟩))
              | false => callC P pv (c ++ [(n, want)]) o t' (fun v => putK t' o.dst ⟨v, [], c ++ [(n, want)], false, none⟩ fun t => K ⟨b, t, h⟩)
                (splitG c want y s d t (fun t => opVC P T wE cv o ⟨b, t, h⟩ K) (fun t => putK t o.dst noAV fun t => K ⟨b, t, h⟩))
          | false => splitG c want y s d t (fun t => opVC P T wE cv o ⟨b, t, h⟩ K) (fun t => putK t o.dst noAV fun t => K ⟨b, t, h⟩)
        | ⟨.tuple _, _, [], _, _⟩ => putK t o.dst noAV fun t => K ⟨b, t, h⟩
        | _ => False
      | none => False

theorem stepVC_sound {P : Program} {T : TT P} {wE : World} {cv : CV} (hcv : CVok P wE cv) {pv : PV} (hpv : PVok P pv) {sym : Bool} {ops : Array Oper} {o : Oper} {st : St} {K : St → Prop} {a : Act} {w : World} {next : Act → World → Prop} {Q : Exit → Act → World → Prop}
    (C : Conc gh wE st a w) (h : stepVC P T wE cv pv sym ops o st K) (hn : ∀ st' a' w', Conc gh wE st' a' w' → K st' → next a' w') :
    if Region.wanted o (yielded ops a.tmps) = true then o.wp P a w next Q ∨ (o.asks P a w ∧ LetsOut Q) else next (a.put o.dst undef) w := by
  obtain ⟨b, t, hp⟩ := st
  unfold stepVC at h
  cases hg : o.guard with
  | none =>
    rw [hg] at h
    have : Region.wanted o (yielded ops a.tmps) = true := by unfold Region.wanted; rw [hg]
    rw [if_pos this]
    exact .inl (opVC_sound hcv C h hn)
  | some jw =>
    obtain ⟨j, want⟩ := jw
    rw [hg] at h
    simp only at h
    split at h
    · rename_i d hj
      split at h
      · rename_i y s c k p ht
        rw [wanted_gq C hg hj ht]
        have hsplit : splitG c want y s d t (fun t => opVC P T wE cv o ⟨b, t, hp⟩ K) (fun t => putK t o.dst noAV fun t => K ⟨b, t, hp⟩) →
            if gq t.g c want y = true then o.wp P a w next Q ∨ (o.asks P a w ∧ LetsOut Q) else next (a.put o.dst undef) w := by
          intro h
          obtain ⟨t', hs, h⟩ := splitG_out ht h
          have C' := C.same hs
          rcases h with ⟨hq, h⟩ | ⟨hq, h⟩
          · rw [if_pos hq]; exact .inl (opVC_sound hcv C' h hn)
          · rw [if_neg (by rw [hq]; decide)]
            simp only [putK_eq] at h
            exact hn _ _ _ (C'.put o.dst noAV (AVok_pl _ _ _) rfl C.hc) h
        split at h
        · generalize hreg : regT t d ⟨.bool y, s, c, k, p⟩ = tn at h
          obtain ⟨t', n⟩ := tn
          simp only at h
          obtain ⟨hsame, _⟩ := regT_out C.wf ht hreg
          have hgq := reg_gq (want := want) C.wf ht hreg
          have C' := C.same hsame
          split at h
          · rcases readC_run C'.wf h with ⟨v, s', hr, hk⟩ | hk
            · simp only [putK_eq] at hk
              have hok := reg_ok (want := want) (s' := s') C.wf ht hreg v
              cases hq : gq t.g c want y with
              | true =>
                rw [if_pos rfl]
                refine .inl ?_
                unfold Oper.wp
                rw [C'.eval, hr (hgq.trans hq) w C.hc]
                exact hn _ _ _ (C'.put o.dst ⟨v, s', c ++ [(n, want)], false, none⟩ hok (by simp only [AV.den_eq, hgq, hq, condV]) C.hc) hk
              | false =>
                rw [if_neg (by decide)]
                exact hn _ _ _ (C'.put o.dst ⟨v, s', c ++ [(n, want)], false, none⟩ hok (by simp only [AV.den_eq, hgq, hq, condV]) C.hc) hk
            · exact hsplit hk
          · rcases callC_out hpv h with ⟨f, args, v, hr, hk⟩ | hk
            · simp only [putK_eq] at hk
              have hok := reg_ok (want := want) (s' := []) C.wf ht hreg v
              cases hq : gq t.g c want y with
              | true =>
                rw [if_pos rfl]
                refine .inl ?_
                obtain ⟨hrun, hcall⟩ := hr (hgq.trans hq) w
                unfold Oper.wp
                rw [C'.eval, hrun]
                refine Calls.mono hcall fun e w'' ⟨he, hb⟩ => ?_
                subst he
                exact hn _ _ _ (C'.put o.dst ⟨v, [], c ++ [(n, want)], false, none⟩ hok (by simp only [AV.den_eq, hgq, hq, condV]) (C.hc.step hb)) hk
              | false =>
                rw [if_neg (by decide)]
                exact hn _ _ _ (C'.put o.dst ⟨v, [], c ++ [(n, want)], false, none⟩ hok (by simp only [AV.den_eq, hgq, hq, condV]) C.hc) hk
            · exact hsplit hk
        · exact hsplit h
      · rename_i x s k p ht
        rw [wanted_no C hg fun d' hd' y => by
          rw [hj] at hd'; cases hd'
          simp only [ht, AV.den]; exact fun e => by cases e]
        rw [if_neg (by decide)]
        simp only [putK_eq] at h
        exact hn _ _ _ (C.put o.dst noAV (AVok_pl _ _ _) rfl C.hc) h
      · exact h.elim
    · exact h.elim

def opsVC (P : Program) (T : TT P) (wE : World) (cv : CV) (pv : PV) (sym : Bool) (ops : Array Oper) : List Oper → St → (St → Prop) → Prop
  | [], st, K => K st
  | o :: r, st, K => stepVC P T wE cv pv sym ops o st fun st' => opsVC P T wE cv pv sym ops r st' K

theorem opsVC_sound {P : Program} {T : TT P} {wE : World} {cv : CV} (hcv : CVok P wE cv) {pv : PV} (hpv : PVok P pv) {sym : Bool} {ops : Array Oper} {K : St → Prop} {Q : Exit → Act → World → Prop}
    (hn : ∀ st' a' w', Conc gh wE st' a' w' → K st' → Q .normal a' w') : ∀ (l : List Oper) (st : St) (a : Act) (w : World),
    Conc gh wE st a w → opsVC P T wE cv pv sym ops l st K → wpList P ops Q l a w
  | [], st, a, w, C, h => hn _ _ _ C h
  | o :: r, st, a, w, C, h => by
    unfold wpList
    exact stepVC_sound hcv hpv C h fun st' a' w' C' h' => opsVC_sound hcv hpv hn r st' a' w' C' h'

/-! ### operations that only read, some memory or none (m) -/
def takeC (P : Program) (T : TT P) (m : RM) (wE : World) (sym : Bool) (ops : Array Oper) (o : Oper) : St → (St → Prop) → Prop
  | ⟨b, t, h⟩, K =>
    match o.guard with
    | none => readC P T m wE b h [] o t (fun v s => putK t o.dst (pl v s) fun t => K ⟨b, t, h⟩) False
    | some (j, want) => match gTmp ops j with
      | some d => match getT t d with
        | ⟨.bool y, s, c, k, p⟩ => match sym && !k with
          | true => match regT t d ⟨.bool y, s, c, k, p⟩ with
            | (t', n) => readC P T m wE b h (c ++ [(n, want)]) o t' (fun v s' => putK t' o.dst ⟨v, s', c ++ [(n, want)], false, none⟩ fun t => K ⟨b, t, h⟩) False
          | false => splitG c want y s d t (fun t => readC P T m wE b h [] o t (fun v s => putK t o.dst (pl v s) fun t => K ⟨b, t, h⟩) False) (fun t => putK t o.dst noAV fun t => K ⟨b, t, h⟩)
        | ⟨.tuple _, _, [], _, _⟩ => putK t o.dst noAV fun t => K ⟨b, t, h⟩
        | _ => False
      | none => False

theorem takeC_out {P : Program} {T : TT P} {m : RM} {wE : World} {sym : Bool} {ops : Array Oper} {o : Oper} {st : St} {K : St → Prop} {a : Act} {w : World}
    (C : Conc gh wE st a w) (h : takeC P T m wE sym ops o st K) : ∃ v, YieldsIf P ops (RS gh m wE st.b st.h) o v a ∧ ∃ st', st'.h = st.h ∧ Conc gh wE st' (a.put o.dst v) w ∧ K st' := by
  obtain ⟨b, t, hp⟩ := st
  unfold takeC at h
  have plain : ∀ t', Conc gh wE ⟨b, t', hp⟩ a w → Region.wanted o (yielded ops a.tmps) = true → readC P T m wE b hp [] o t' (fun v s => putK t' o.dst (pl v s) fun t => K ⟨b, t, hp⟩) False →
      ∃ v, YieldsIf P ops (RS gh m wE b hp) o v a ∧ ∃ st', st'.h = hp ∧ Conc gh wE st' (a.put o.dst v) w ∧ K st' := by
    intro t' C' hw h
    rcases readC_run C'.wf h with ⟨v, s, hr, hk⟩ | hk
    · simp only [putK_eq] at hk
      exact ⟨v, .inl ⟨hw, fun w' hS => by rw [C'.eval]; exact hr rfl w' hS⟩, ⟨b, putT t' o.dst (pl v s), hp⟩, rfl, C'.put o.dst (pl v s) (AVok_pl _ _ _) rfl C'.hc, hk⟩
    · exact hk.elim
  cases hg : o.guard with
  | none =>
    rw [hg] at h
    exact plain t C (by unfold Region.wanted; rw [hg]) h
  | some jw =>
    obtain ⟨j, want⟩ := jw
    rw [hg] at h
    simp only at h
    split at h
    · rename_i d hj
      split at h
      · rename_i y s c k p ht
        have hw := wanted_gq C hg hj ht
        split at h
        · generalize hreg : regT t d ⟨.bool y, s, c, k, p⟩ = tn at h
          obtain ⟨t', n⟩ := tn
          simp only at h
          obtain ⟨hsame, _⟩ := regT_out C.wf ht hreg
          have hgq := reg_gq (want := want) C.wf ht hreg
          have C' := C.same hsame
          rcases readC_run C'.wf h with ⟨v, s', hr, hk⟩ | hk
          · simp only [putK_eq] at hk
            have hok := reg_ok (want := want) (s' := s') C.wf ht hreg v
            cases hq : gq t.g c want y with
            | true =>
              exact ⟨v, .inl ⟨hw.trans hq, fun w' hS => by rw [C'.eval]; exact hr (hgq.trans hq) w' hS⟩, ⟨b, putT t' o.dst ⟨v, s', c ++ [(n, want)], false, none⟩, hp⟩, rfl, C'.put o.dst ⟨v, s', c ++ [(n, want)], false, none⟩ hok (by simp only [AV.den_eq, hgq, hq, condV]) C.hc, hk⟩
            | false =>
              exact ⟨undef, .inr ⟨hw.trans hq, rfl⟩, ⟨b, putT t' o.dst ⟨v, s', c ++ [(n, want)], false, none⟩, hp⟩, rfl, C'.put o.dst ⟨v, s', c ++ [(n, want)], false, none⟩ hok (by simp only [AV.den_eq, hgq, hq, condV]) C.hc, hk⟩
          · exact hk.elim
        · obtain ⟨t', hs, h⟩ := splitG_out ht h
          have C' := C.same hs
          rcases h with ⟨hq, h⟩ | ⟨hq, h⟩
          · exact plain t' C' (hw.trans hq) h
          · simp only [putK_eq] at h
            exact ⟨undef, .inr ⟨hw.trans hq, rfl⟩, ⟨b, putT t' o.dst noAV, hp⟩, rfl, C'.put o.dst noAV (AVok_pl _ _ _) rfl C.hc, h⟩
      · rename_i x s k p ht
        have hw := wanted_no C hg fun d' hd' y => by
          rw [hj] at hd'; cases hd'
          simp only [ht, AV.den]; exact fun e => by cases e
        simp only [putK_eq] at h
        exact ⟨undef, .inr ⟨hw, rfl⟩, ⟨b, putT t o.dst noAV, hp⟩, rfl, C.put o.dst noAV (AVok_pl _ _ _) rfl C.hc, h⟩
      · exact h.elim
    · exact h.elim

/-! ### a region whose operations all read, in the text's order -/
def readN {P : Program} (T : TT P) : List Oper → Nat
  | [] => 0
  | o :: r => match reads T o.op with
    | true => readN T r + 1
    | false => 0

def rseqVC (P : Program) (T : TT P) (wE : World) (sym : Bool) (ops : Array Oper) : List Oper → St → (St → Prop) → Prop
  | [], st, K => K st
  | o :: r, st, K => takeC P T .all wE sym ops o st fun st' => rseqVC P T wE sym ops r st' K

theorem still_of {P : Program} {o : Oper} {a : Act} {w : World} {v : Value} {N : Act → Prop} (hr : (execOp a.eval o).run P w = .ok (.value v) w) (hn : N (a.put o.dst v)) : o.still P a w N := by
  unfold Oper.still
  rw [hr]
  exact ⟨rfl, hn⟩

theorem rseqVC_sound {P : Program} {T : TT P} {wE : World} {sym : Bool} {ops : Array Oper} {K : St → Prop} {w : World} {N : Act → Prop} (hn : ∀ st' a', Conc gh wE st' a' w → K st' → N a') :
    ∀ (l : List Oper) (st : St) (a : Act), Conc gh wE st a w → rseqVC P T wE sym ops l st K → wpStill P ops w N l a
  | [], st, a, C, h => hn _ _ C h
  | o :: r, st, a, C, h => by
    unfold wpStill
    obtain ⟨v, hy, st', _, C', hk⟩ := takeC_out C h
    have hK := rseqVC_sound hn r st' _ C' hk
    rcases hy with ⟨hw, hv⟩ | ⟨hw, rfl⟩
    · rw [if_pos hw]; exact still_of (hv w C.hc) hK
    · rw [if_neg (by rw [hw]; decide)]; exact hK

/-! ### a region whose order is open -/
def still {P : Program} (T : TT P) : Op → Bool
  | .move _ | .assign _ | .pick _ _ _ | .nilCheck _ | .binOp _ _ _ _ _ | .unOp _ _ _ | .fieldAddr _ _ _ | .indexAddr _ _ _ | .index _ _ _ | .field _ _ _ | .extract _ _ | .build _ _ | .makeFunc _ _ _ => true
  | .call c => match c.callee with
    | .builtin .len | .builtin .cap | .builtin .min | .builtin .max => true
    | _ => false
  | .convert a b _ => numT T a b
  | .slice ty _ _ _ _ => (match T.u ty with
    | some (.slice _) => true
    | _ => false)
  | _ => false

/-- what an operation's value hangs on, if it may be taken first -/
def modeOf {P : Program} (T : TT P) (ex : Bool) (t : TM) (h : List Blk) : Op → Option RM
  | .load _ a => match ex with
    | true => none
    | false => match toHint (hd1 (shOf t a)) with
      | .id i => some (.blk i)
      | .entry => match allNewB h with
        | true => some .far
        | false => none
      | .base => none
  | op => match still T op with
    | true => some .no
    | false => none

def firstFree {P : Program} (T : TT P) (ex : Bool) (ops : Array Oper) (t : TM) (h : List Blk) (listed : Array Bool) : List Nat → Option (Nat × RM)
  | [] => none
  | i :: r => match ops[i]? with
    | some o => match modeOf T ex t h o.op with
      | some m => match Region.free .any ops listed i && (Region.ready .any ops listed).contains i && Region.noSelect ops with
        | true => some (i, m)
        | false => firstFree T ex ops t h listed r
      | none => firstFree T ex ops t h listed r
    | none => firstFree T ex ops t h listed r

theorem firstFree_spec {P : Program} {T : TT P} {ex : Bool} {ops : Array Oper} {t : TM} {h : List Blk} {listed : Array Bool} {j : Nat} {m : RM} : ∀ (l : List Nat), firstFree T ex ops t h listed l = some (j, m) →
    Region.free .any ops listed j = true ∧ (Region.ready .any ops listed).contains j = true ∧ Region.noSelect ops = true ∧ (m = .no ∨ (m = .far ∧ allNewB h = true) ∨ ∃ i, m = .blk i)
  | [], h => by cases h
  | i :: r, hh => by
    unfold firstFree at hh
    split at hh
    · rename_i o ho
      split at hh
      · rename_i m' hm
        split at hh
        · rename_i hb
          cases hh
          simp only [Bool.and_eq_true] at hb
          refine ⟨hb.1.1, hb.1.2, hb.2, ?_⟩
          unfold modeOf at hm
          split at hm
          · split at hm
            · cases hm
            · split at hm
              · cases hm; exact .inr (.inr ⟨_, rfl⟩)
              · split at hm
                · rename_i hn; cases hm; exact .inr (.inl ⟨rfl, hn⟩)
                · cases hm
              · cases hm
          · split at hm
            · cases hm; exact .inl rfl
            · cases hm
        · exact firstFree_spec r hh
      · exact firstFree_spec r hh
    · exact firstFree_spec r hh

def eachVC (P : Program) (T : TT P) (wE : World) (cv : CV) (pv : PV) (sym : Bool) (ops : Array Oper) (next : Nat → St → Prop) (st : St) : List Nat → Prop
  | [] => True
  | i :: [] => (match ops[i]? with
      | some o => stepVC P T wE cv pv sym ops o st (next i)
      | none => next i st)
  | i :: r => (match ops[i]? with
      | some o => stepVC P T wE cv pv sym ops o st (next i)
      | none => next i st) ∧ eachVC P T wE cv pv sym ops next st r

theorem eachVC_spec {P : Program} {T : TT P} {wE : World} {cv : CV} {pv : PV} {sym : Bool} {ops : Array Oper} {next : Nat → St → Prop} {st : St} : ∀ (l : List Nat), eachVC P T wE cv pv sym ops next st l →
    ∀ i ∈ l, match ops[i]? with
      | some o => stepVC P T wE cv pv sym ops o st (next i)
      | none => next i st
  | [], _, i, hi => by cases hi
  | [j], h, i, hi => by
    obtain rfl := List.mem_singleton.1 hi
    exact h
  | j :: k :: r, h, i, hi => by
    rcases List.mem_cons.1 hi with rfl | hi
    · exact h.1
    · exact eachVC_spec (k :: r) h.2 i hi

/-! loads that were taken first, and what they hang on: it stays until what waits for them comes up -/
section
variable {P : Program} {ops : Array Oper} {Q : Exit → Act → World → Prop} {md : Region.Mode}

def wpAnyP (P : Program) (md : Region.Mode) (ops : Array Oper) (Q : Exit → Act → World → Prop) : Nat → List (Nat × (World → Prop)) → Array Bool → Act → World → Prop
  | 0, _, listed, a, w => Region.ready md ops listed = [] ∧ Q .normal a w
  | fuel + 1, prot, listed, a, w =>
    (Region.ready md ops listed = [] → Q .normal a w) ∧
    ∀ i ∈ Region.ready md ops listed, wpOp P ops Q i (fun a' w' => (∀ p ∈ prot, Region.waitsFor md ops i p.1 = false → p.2 w') ∧
      wpAnyP P md ops Q fuel (prot.filter fun p => !Region.waitsFor md ops i p.1) (listed.setIfInBounds i true) a' w') a w

theorem wpAnyP_weaken : ∀ (n : Nat) {pr pr' : List (Nat × (World → Prop))} (listed : Array Bool) (a : Act) (w : World), (∀ p ∈ pr', p ∈ pr ∨ p.2 = fun _ => True) → wpAnyP P md ops Q n pr listed a w → wpAnyP P md ops Q n pr' listed a w
  | 0, _, _, _, _, _, _, h => h
  | n + 1, pr, pr', _, _, _, hp, h => ⟨h.1, fun i hi => wpOp_mono (fun a' w' h' => ⟨fun p hpm hw => by
      rcases hp p hpm with h1 | h1
      · exact h'.1 p h1 hw
      · rw [h1]; trivial, wpAnyP_weaken n _ a' w' (fun p hpm => by
        rw [List.mem_filter] at hpm
        rcases hp p hpm.1 with h1 | h1
        · exact .inl (List.mem_filter.2 ⟨h1, hpm.2⟩)
        · exact .inr h1) h'.2⟩) (h.2 i hi)⟩

theorem wpAny_of_P : ∀ (n : Nat) (pr : List (Nat × (World → Prop))) (listed : Array Bool) (a : Act) (w : World), wpAnyP P md ops Q n pr listed a w → wpAny P md ops Q n listed a w
  | 0, _, _, _, _, h => h
  | n + 1, _, _, _, _, h => ⟨h.1, fun i hi => wpOp_mono (fun a' w' h' => wpAny_of_P n _ _ a' w' h'.2) (h.2 i hi)⟩

theorem wpAnyP_of_H {S : World → Prop} : ∀ (n : Nat) {pr : List (Nat × (World → Prop))} (listed : Array Bool) (a : Act) (w : World), (∀ w', S w' → ∀ p ∈ pr, p.2 w') → wpAnyH P md ops Q S n listed a w → wpAnyP P md ops Q n pr listed a w
  | 0, _, _, _, _, _, h => h
  | n + 1, pr, _, _, _, hp, h => ⟨h.1, fun i hi => wpOp_mono (fun a' w' h' => ⟨fun p hpm _ => hp w' h'.1 p hpm, wpAnyP_of_H n _ a' w' (fun w'' hs p hpm => hp w'' hs p (List.mem_filter.1 hpm).1) h'.2⟩) (h.2 i hi)⟩

theorem waits_ready {listed : Array Bool} {i j : Nat} (hj : j ∈ Region.ready md ops listed) (hi : listed.getD i true = false) : Region.waitsFor md ops j i = false := by
  cases hw : Region.waitsFor md ops j i with
  | false => rfl
  | true =>
    obtain ⟨oj, hoj, e, he, hb, hon⟩ := Region.waitsFor_spec hw
    obtain ⟨_, oj', hoj', hall⟩ := mem_ready.1 hj
    have : oj = oj' := Option.some.inj (hoj.symm.trans hoj')
    subst this
    have h1 := hall e he hb
    rw [hon, getD_both hi] at h1
    cases h1

/-- an operation that may come up now may be taken first, if its value hangs on what stays as it is until what waits for it comes up -/
theorem wpAnyP_first {i : Nat} {oi : Oper} {v : Value} {S : World → Prop} (hi : ops[i]? = some oi) (hsel : ∀ (j : Nat) (o : Oper) cs b, ops[j]? = some o → o.op ≠ .select cs b)
    (hQ : ∀ c a w, Q (.panic c) (a.put oi.dst v) w → Q (.panic c) a w) :
    ∀ (fuel : Nat) (pr : List (Nat × (World → Prop))) (listed : Array Bool) (a : Act) (w : World),
      (∀ j oj, ops[j]? = some oj → j ≠ i → listed.getD j true = false → (∀ e ∈ oj.after, Region.binds md e = true → e.on ≠ i) → oi.apart ops oj = true) →
      i ∈ Region.ready md ops listed → YieldsIf P ops S oi v a → S w → (∀ p ∈ pr, p.2 w) →
      wpAnyP P md ops Q fuel ((i, S) :: pr) (listed.setIfInBounds i true) (a.put oi.dst v) w → wpAnyP P md ops Q (fuel + 1) pr listed a w := by
  intro fuel
  induction fuel with
  | zero =>
    intro pr listed a w _ hr hy hS hP H
    refine ⟨fun h => (by rw [h] at hr; cases hr), fun j hj => ?_⟩
    by_cases hji : j = i
    · subst hji; exact hy.wpOp hi hS ⟨fun p hp _ => hP p hp, H⟩
    · have := ready_mono hj hji
      rw [H.1] at this
      cases this
  | succ fuel ih =>
    intro pr listed a w hfree hr hy hS hP H
    refine ⟨fun h => (by rw [h] at hr; cases hr), fun j hj => ?_⟩
    by_cases hji : j = i
    · subst hji
      exact hy.wpOp hi hS ⟨fun p hp _ => hP p hp, wpAnyP_weaken _ _ _ _ (fun p hp => .inl (List.mem_cons_of_mem _ (List.mem_filter.1 hp).1)) H⟩
    · have h1 := H.2 j (ready_mono hj hji)
      obtain ⟨hjun, oj, hoj, hall⟩ := mem_ready.1 hj
      have hun := (mem_ready.1 hr).1
      have hw : Region.waitsFor md ops j i = false := waits_ready hj hun
      have hnot : ∀ e ∈ oj.after, Region.binds md e = true → e.on ≠ i := fun e he hb heq => by
        have h1 := hall e he hb
        rw [heq, getD_both hun] at h1
        cases h1
      have h2 := wpOp_putIf hoj (hfree j oj hoj hji hjun hnot) (fun cs b => hsel i oi cs b hi) (fun cs b => hsel j oj cs b hoj) hQ hy h1
      have hfree' : ∀ k ok, ops[k]? = some ok → k ≠ i → (listed.setIfInBounds j true).getD k true = false →
          (∀ e ∈ ok.after, Region.binds md e = true → e.on ≠ i) → oi.apart ops ok = true := fun k ok hk hki hun hno => by
        refine hfree k ok hk hki ?_ hno
        by_cases hjk : j = k
        · subst hjk; exact hjun
        · rw [getD_set_ne true hjk] at hun; exact hun
      refine wpOp_mono (fun a' w' h3 => ⟨fun p hp hwp => h3.2.1 p (List.mem_cons_of_mem _ hp) hwp,
        ih _ (listed.setIfInBounds j true) a' w' hfree' (ready_mono hr (Ne.symm hji)) h3.1 (h3.2.1 (i, S) List.mem_cons_self hw) (fun p hp => by
          rw [List.mem_filter] at hp
          exact h3.2.1 p (List.mem_cons_of_mem _ hp.1) (by simpa using hp.2)) ?_⟩) h2
      rw [Array.setIfInBounds_comm _ _ hji]
      have := h3.2.2
      rwa [List.filter_cons_of_pos (by simp [hw])] at this

theorem wpAnyP_take {i : Nat} {oi : Oper} {v : Value} {S : World → Prop} {fuel : Nat} {pr : List (Nat × (World → Prop))} {listed : Array Bool} {a : Act} {w : World} (hi : ops[i]? = some oi)
    (hs : Region.noSelect ops = true) (hf : Region.free md ops listed i = true) (hr : (Region.ready md ops listed).contains i = true)
    (hQ : ∀ c a w, Q (.panic c) (a.put oi.dst v) w → Q (.panic c) a w) (hy : YieldsIf P ops S oi v a) (hS : S w) (hP : ∀ p ∈ pr, p.2 w)
    (h : wpAnyP P md ops Q fuel ((i, S) :: pr) (listed.setIfInBounds i true) (a.put oi.dst v) w) : wpAnyP P md ops Q (fuel + 1) pr listed a w :=
  wpAnyP_first hi (Region.noSelect_spec hs) hQ fuel pr listed a w (Region.free_spec hi hf) (by simpa using hr) hy hS hP h
end

/-- what a load that was taken first hangs on: the entry's world, a known block -/
inductive PK where
  | ent
  | blk (x : Nat) (d : Blk)

def PK.on (wE : World) : PK → World → Prop
  | .ent, w => OldS wE w
  | .blk _ d, w => w.heap[d.g]? = some d.den

def protK (ops : Array Oper) (j : Nat) (h : List Blk) : List (Nat × PK) → (List (Nat × PK) → Prop) → Prop
  | [], k => k []
  | (i, p) :: r, k => match Region.waitsFor .any ops j i with
    | true => protK ops j h r k
    | false => match p with
      | .ent => match allNewB h with
        | true => protK ops j h r fun l => k ((i, .ent) :: l)
        | false => False
      | .blk x d => match h[x]? with
        | some d' => match d'.x, d.x with
          | none, none => (d'.g = d.g ∧ d'.c = d.c ∧ d'.e = d.e) ∧ protK ops j h r fun l => k ((i, .blk x d) :: l)
          | _, _ => False
        | none => False

theorem protK_out {wE w : World} {b : Base} {ops : Array Oper} {j : Nat} {h : List Blk} (H : HC gh wE b h w) : ∀ {l : List (Nat × PK)} {k : List (Nat × PK) → Prop}, protK ops j h l k →
    (∀ p ∈ l, Region.waitsFor .any ops j p.1 = false → p.2.on wE w) ∧ k (l.filter fun p => !Region.waitsFor .any ops j p.1)
  | [], k, hk => ⟨fun _ h => (by cases h), hk⟩
  | (i, p) :: r, k, hk => by
    unfold protK at hk
    split at hk
    · rename_i hw
      obtain ⟨h1, h2⟩ := protK_out H hk
      refine ⟨fun q hq hqw => ?_, by rwa [List.filter_cons_of_neg (by simp [hw])]⟩
      rcases List.mem_cons.1 hq with rfl | hq
      · rw [hw] at hqw; cases hqw
      · exact h1 q hq hqw
    · rename_i hw
      split at hk
      · split at hk
        · rename_i hn
          obtain ⟨h1, h2⟩ := protK_out H hk
          refine ⟨fun q hq hqw => ?_, by rwa [List.filter_cons_of_pos (by simp [hw])]⟩
          rcases List.mem_cons.1 hq with rfl | hq
          · exact H.old hn
          · exact h1 q hq hqw
        · exact hk.elim
      · rename_i x d
        split at hk
        · rename_i d' hd'
          split at hk
          · rename_i hx1 hx2
            obtain ⟨⟨e1, e2, e3⟩, hk⟩ := hk
            obtain ⟨h1, h2⟩ := protK_out H hk
            refine ⟨fun q hq hqw => ?_, by rwa [List.filter_cons_of_pos (by simp [hw])]⟩
            rcases List.mem_cons.1 hq with rfl | hq
            · show w.heap[d.g]? = some d.den
              rw [← e1, H.bl d' (List.mem_of_getElem? hd'), Blk.den_eq ⟨e2, e3, hx1.trans hx2.symm⟩]
            · exact h1 q hq hqw
          · exact hk.elim
        · exact hk.elim

def addP (j : Nat) (h : List Blk) (m : RM) (l : List (Nat × PK)) : List (Nat × PK) := match m with
  | .far => (j, .ent) :: l
  | .blk i => match h[i]? with
    | some d => (j, .blk i d) :: l
    | none => l
  | _ => l

/-- all operations that have not come up yet only read -/
def restReads {P : Program} (T : TT P) (ops : Array Oper) (listed : Array Bool) : Bool :=
  (List.range ops.size).all fun i => listed.getD i true || (match ops[i]? with
    | some o => reads T o.op
    | none => true)

def firstAll (ops : Array Oper) (listed : Array Bool) : List Nat → Option Nat
  | [] => none
  | i :: r => match Region.free .any ops listed i && (Region.ready .any ops listed).contains i && Region.noSelect ops with
      | true => some i
      | false => firstAll ops listed r

theorem firstAll_spec {ops : Array Oper} {listed : Array Bool} {j : Nat} : ∀ (l : List Nat), firstAll ops listed l = some j →
    Region.free .any ops listed j = true ∧ (Region.ready .any ops listed).contains j = true ∧ Region.noSelect ops = true
  | [], h => by cases h
  | i :: r, h => by
    unfold firstAll at h
    split at h
    · rename_i hb
      cases h
      simp only [Bool.and_eq_true] at hb
      exact ⟨hb.1.1, hb.1.2, hb.2⟩
    · exact firstAll_spec r h

/-- what is left only reads: taken in one order -/
def allVC (P : Program) (T : TT P) (wE : World) (sym : Bool) (ops : Array Oper) : Nat → Array Bool → St → (St → Prop) → Prop
  | 0, listed, st, K => match Region.ready .any ops listed with
    | [] => K st
    | _ :: _ => False
  | n + 1, listed, st, K =>
    match Region.ready .any ops listed with
    | [] => K st
    | i :: r => match firstAll ops listed (i :: r) with
      | some j => match ops[j]? with
        | some o => takeC P T .all wE sym ops o st fun st' => allVC P T wE sym ops n (listed.setIfInBounds j true) st' K
        | none => False
      | none => False

theorem wpAnyH_weaken {P : Program} {ops : Array Oper} {Q : Exit → Act → World → Prop} {md : Region.Mode} {S S' : World → Prop} (hS : ∀ w, S w → S' w) :
    ∀ (n : Nat) (listed : Array Bool) (a : Act) (w : World), wpAnyH P md ops Q S n listed a w → wpAnyH P md ops Q S' n listed a w
  | 0, _, _, _, h => h
  | n + 1, _, _, _, h => ⟨h.1, fun i hi => wpOp_mono (fun a' w' h' => ⟨hS _ h'.1, wpAnyH_weaken hS n _ a' w' h'.2⟩) (h.2 i hi)⟩

theorem allVC_sound {P : Program} {T : TT P} {wE : World} {sym : Bool} {ops : Array Oper} {K : St → Prop} {Q : Exit → Act → World → Prop}
    (hn : ∀ st' a' w', Conc gh wE st' a' w' → K st' → Q .normal a' w') (hQ : ∀ c a w, ¬ Q (.panic c) a w) : ∀ (n : Nat) (listed : Array Bool) (st : St) (a : Act) (w : World),
    Conc gh wE st a w → allVC P T wE sym ops n listed st K → wpAnyH P .any ops Q (fun w' => w' = w) n listed a w
  | 0, listed, st, a, w, C, h => by
    unfold allVC at h
    split at h
    · rename_i hr; exact ⟨hr, hn _ _ _ C h⟩
    · exact h.elim
  | n + 1, listed, st, a, w, C, h => by
    unfold allVC at h
    split at h
    · rename_i hr; exact wpAnyH_done hr (hn _ _ _ C h) _
    · rename_i i r hr
      split at h
      · rename_i j hj
        obtain ⟨hf, hc, hs⟩ := firstAll_spec _ hj
        split at h
        · rename_i o ho
          obtain ⟨v, hy, st', he, C', hk⟩ := takeC_out C h
          exact wpAnyH_take ho hs hf hc (fun c a w q => absurd q (hQ _ _ _)) (hy.imp (fun ⟨h1, h2⟩ => ⟨h1, fun w' e => h2 w' (by rw [e]; exact C.hc)⟩) id) rfl (allVC_sound hn hQ n _ _ _ _ C' hk)
        · exact h.elim
      · exact h.elim

/-! an alloc beside a chain of others: it is taken last -/
def zeroC (P : Program) (ty : TypeId) : Option (List Value) := match P.info? ty with
  | some i => match i.zero with
    | some z => some z.cells.toList
    | none => none
  | none => none

theorem alloc_run {P : Program} {ρ : Operand → Value} {o : Oper} {ty : TypeId} {z : List Value} (ho : o.op = .alloc ty) (hz : zeroC P ty = some z) (w : World) :
    (execOp ρ o).run P w = .ok (.value (.pointer (some ⟨w.heap.size, 0, none⟩))) { w with heap := w.heap.push (.cells z.toArray ty (0, 0)) } := by
  unfold zeroC at hz
  split at hz
  · rename_i i hi
    split at hz
    · rename_i v hv
      cases hz
      unfold execOp
      rw [ho]
      simp [go_sem, Instr.alloc, zeroValue, newVar, newRow, newObj, typeInfo, hi, hv]
      rfl
    · cases hz
  · cases hz

theorem HC.allocG {wE w : World} {b : Base} {h : List Blk} {o : Obj} (H : HC gh wE b h w) : HC ((w.heap.size, o) :: gh) wE b h { w with heap := w.heap.push o } := by
  have hold : ∀ r, r < w.heap.size → (w.heap.push o)[r]? = w.heap[r]? := fun r hr => by rw [Array.getElem?_push, if_neg (Nat.ne_of_lt hr)]
  refine ⟨H.os, H.tape, H.output, H.ns, ?_, fun d hd => (hold _ (H.lt hd)).trans (H.bl d hd), H.nd, H.nw, H.rw, fun i hi hf hj => (hold _ (Nat.lt_of_lt_of_le hi H.size)).trans (H.fr i hi hf hj),
    fun i hi hf => (hold _ (Nat.lt_of_lt_of_le hi H.le)).trans (H.en i hi hf), fun p hp => ?_⟩
  · simp only [Array.size_push]; exact Nat.le_succ_of_le H.size
  · rcases List.mem_cons.1 hp with rfl | hp
    · exact ⟨H.le, fun d hd => Nat.ne_of_lt (H.lt hd), by simp⟩
    · obtain ⟨p1, p2, p3⟩ := H.gp p hp
      exact ⟨p1, p2, (hold _ (Array.getElem?_eq_some_iff.1 p3).1).trans p3⟩

theorem HC.reveal {wE w : World} {b : Base} {h : List Blk} {g : Nat} {z : List Value} {ty : TypeId} (H : HC ((g, .cells z.toArray ty (0, 0)) :: gh) wE b h w) (hb : b.w.heap.size ≤ g) (hg : ∀ p ∈ gh, p.1 ≠ g) :
    HC gh wE b (h ++ [⟨g, z, ty, [], none, true, .lit⟩]) w := by
  obtain ⟨p1, p2, p3⟩ := H.gp _ List.mem_cons_self
  refine ⟨H.os, H.tape, H.output, H.ns, H.size, fun c hc => ?_, ?_, fun c hc hcn => ?_, fun c hc => ?_, fun i hi hf hj => H.fr i hi (fun c hc => hf c (List.mem_append_left _ hc)) hj,
    fun i hi hf => H.en i hi fun c hc hcn => hf c (List.mem_append_left _ hc) hcn, fun p hp => ?_⟩
  · rcases List.mem_append.1 hc with hc | hc
    · exact H.bl c hc
    · obtain rfl := List.mem_singleton.1 hc; exact p3
  · rw [List.pairwise_append]
    refine ⟨H.nd, by simp, fun c hc d hd => ?_⟩
    obtain rfl := List.mem_singleton.1 hd
    exact p2 c hc
  · rcases List.mem_append.1 hc with hc | hc
    · exact H.nw c hc hcn
    · obtain rfl := List.mem_singleton.1 hc; exact p1
  · rcases List.mem_append.1 hc with hc | hc
    · exact H.rw c hc
    · obtain rfl := List.mem_singleton.1 hc; trivial
  · obtain ⟨q1, q2, q3⟩ := H.gp p (List.mem_cons_of_mem _ hp)
    refine ⟨q1, fun c hc => ?_, q3⟩
    rcases List.mem_append.1 hc with hc | hc
    · exact q2 c hc
    · obtain rfl := List.mem_singleton.1 hc; exact Ne.symm (hg p hp)

theorem PK.on_push {wE w : World} {o : Obj} (hw : wE.heap.size ≤ w.heap.size) : ∀ {p : PK}, p.on wE w → p.on wE { w with heap := w.heap.push o }
  | .ent, h => fun r hr => by
    show (w.heap.push o)[r]? = _
    rw [Array.getElem?_push, if_neg (by omega)]; exact h r hr
  | .blk _ d, h => by
    show (w.heap.push o)[d.g]? = _
    rw [Array.getElem?_push, if_neg (Nat.ne_of_lt (Array.getElem?_eq_some_iff.1 h).1)]; exact h

/-- an operation apart from another one, whose value is in its temporary already -/
theorem wpOp_of_put {P : Program} {ops : Array Oper} {Q : Exit → Act → World → Prop} {j : Nat} {oi oj : Oper} {v : Value} (hj : ops[j]? = some oj) (hap : oi.apart ops oj = true) (hsj : ∀ cs b, oj.op ≠ .select cs b)
    (hQ : ∀ c a w, ¬ Q (.panic c) a w) {K : Act → World → Prop} {a : Act} {w : World} (h : wpOp P ops Q j (fun a' w' => K (a'.put oi.dst v) w') a w) : wpOp P ops Q j K (a.put oi.dst v) w := by
  obtain ⟨h1, h2, h3⟩ := Oper.apart_spec hap
  unfold wpOp at *
  simp only [hj] at *
  rw [wanted_put oj a oi.dst v h1]
  split
  · rename_i hw
    simp only [hw, if_true] at h
    rcases h with h | ⟨hasks, hlets⟩
    case inr => exact .inr ⟨by unfold Oper.asks at *; rw [execOp_put oj hsj a oi.dst v h1]; exact hasks, hlets⟩
    refine .inl ?_
    unfold Oper.wp at *
    rw [execOp_put oj hsj a oi.dst v h1]
    generalize (execOp a.eval oj).run P w = r at *
    cases r with
    | ok n w' =>
      cases n <;> simp only [Oper.upon] at h ⊢
      case value u => rw [Act.put_comm a v u h2]; exact h
      case skip => rw [Act.put_comm a v undef h2]; exact h
      case defer d => rw [Act.put_defers, Act.put_comm _ v undef h2]; exact h
      case enter f args =>
        refine Calls.mono h fun e w'' he => ?_
        cases e with
        | returned u =>
          show K ((a.put oi.dst v).put oj.dst u) w''
          rw [Act.put_comm a v u h2]; exact he
        | panicked c => exact absurd he (hQ _ _ _)
        | outgrown => exact he
      case row row args => exact Rows.mono h fun u w'' he => by rw [Act.put_comm a v u h2]; exact he
    | halt x w' =>
      cases x <;> simp only [Oper.upon] at h ⊢
      case panic u => exact absurd h (hQ _ _ _)
  · rename_i hw
    simp only [hw] at h
    rw [Act.put_comm a v undef h2]; exact h

/-- which of the others comes up next: it may be taken first, or is alone -/
def lateStill {P : Program} (T : TT P) (ops : Array Oper) (i : Nat) (oi : Oper) (listed : Array Bool) : List Nat → Option Nat
  | [] => none
  | j :: r => match ops[j]? with
    | some o => match still T o.op && Region.free .any ops listed j && Region.free .any ops (listed.setIfInBounds i true) j && (Region.ready .any ops listed).contains j && (Region.ready .any ops (listed.setIfInBounds i true)).contains j && Region.noSelect ops && oi.apart ops o && !(Nat.beq j i) with
      | true => some j
      | false => lateStill T ops i oi listed r
    | none => lateStill T ops i oi listed r

theorem lateStill_spec {P : Program} {T : TT P} {ops : Array Oper} {i : Nat} {oi : Oper} {listed : Array Bool} {j : Nat} : ∀ (l : List Nat), lateStill T ops i oi listed l = some j →
    ∃ o, ops[j]? = some o ∧ still T o.op = true ∧ Region.free .any ops listed j = true ∧ Region.free .any ops (listed.setIfInBounds i true) j = true ∧ (Region.ready .any ops listed).contains j = true ∧
      (Region.ready .any ops (listed.setIfInBounds i true)).contains j = true ∧ Region.noSelect ops = true ∧ oi.apart ops o = true ∧ j ≠ i
  | [], h => by cases h
  | k :: r, h => by
    unfold lateStill at h
    split at h
    · rename_i o ho
      split at h
      · rename_i hb
        cases h
        simp only [Bool.and_eq_true, Bool.not_eq_true'] at hb
        obtain ⟨⟨⟨⟨⟨⟨⟨h1, h2⟩, h3⟩, h4⟩, h5⟩, h6⟩, h7⟩, h8⟩ := hb
        exact ⟨o, ho, h1, h2, h3, h4, h5, h6, h7, fun e => by rw [e, show Nat.beq i i = true from Nat.beq_refl i] at h8; cases h8⟩
      · exact lateStill_spec r h
    · exact lateStill_spec r h

def lateOne (ops : Array Oper) (i : Nat) (oi : Oper) (listed : Array Bool) : List Nat → Option Nat
  | [j] => match Region.ready .any ops (listed.setIfInBounds i true) with
    | [k] => match ops[j]? with
      | some o => match Nat.beq j k && !(Nat.beq j i) && Region.noSelect ops && oi.apart ops o with
        | true => some j
        | false => none
      | none => none
    | _ => none
  | _ => none

theorem lateOne_spec {ops : Array Oper} {i : Nat} {oi : Oper} {listed : Array Bool} {j : Nat} {l : List Nat} (h : lateOne ops i oi listed l = some j) :
    l = [j] ∧ Region.ready .any ops (listed.setIfInBounds i true) = [j] ∧ j ≠ i ∧ Region.noSelect ops = true ∧ ∃ o, ops[j]? = some o ∧ oi.apart ops o = true := by
  unfold lateOne at h
  split at h
  · rename_i j'
    split at h
    · rename_i k hk
      split at h
      · rename_i o ho
        split at h
        · rename_i hb
          cases h
          simp only [Bool.and_eq_true, Bool.not_eq_true'] at hb
          obtain ⟨⟨⟨h1, h2⟩, h3⟩, h4⟩ := hb
          obtain rfl := Nat.eq_of_beq_eq_true h1
          exact ⟨rfl, hk, (fun e => by rw [e, show Nat.beq i i = true from Nat.beq_refl i] at h2; cases h2), h3, o, ho, h4⟩
        · cases h
      · cases h
    · cases h
  · cases h

def others (ops : Array Oper) (i : Nat) (listed : Array Bool) : List Nat := (Region.ready .any ops listed).filter fun j => !Nat.beq j i

def lateOk {P : Program} (T : TT P) (ops : Array Oper) (i : Nat) (oi : Oper) : Nat → Array Bool → Bool
  | 0, _ => false
  | n + 1, listed => match others ops i listed with
    | [] => true
    | j0 :: r => match lateStill T ops i oi listed (j0 :: r) with
      | some j => lateOk T ops i oi n (listed.setIfInBounds j true)
      | none => match lateOne ops i oi listed (j0 :: r) with
        | some j => lateOk T ops i oi n (listed.setIfInBounds j true)
        | none => false

/-- an alloc that waits: which, of which type, its zero, and the base then -/
structure LI where
  i : Nat
  o : Oper
  ty : TypeId
  z : List Value
  b : World

def lateOf (P : Program) (T : TT P) (ops : Array Oper) (listed : Array Bool) (w : World) : List Nat → Option LI
  | [] => none
  | i :: r => match ops[i]? with
    | some o => match o.op with
      | .alloc ty => match zeroC P ty with
        | some z => match o.guard.isNone && (Region.ready .any ops listed).contains i && lateOk T ops i o (ops.size + 1) listed with
          | true => some ⟨i, o, ty, z, w⟩
          | false => lateOf P T ops listed w r
        | none => lateOf P T ops listed w r
      | _ => lateOf P T ops listed w r
    | none => lateOf P T ops listed w r

structure LIok (P : Program) (ops : Array Oper) (l : LI) : Prop where
  op : ops[l.i]? = some l.o
  al : l.o.op = .alloc l.ty
  z : zeroC P l.ty = some l.z
  un : l.o.guard = none

theorem lateOf_spec {P : Program} {T : TT P} {ops : Array Oper} {listed : Array Bool} {w : World} {x : LI} : ∀ (l : List Nat), lateOf P T ops listed w l = some x → LIok P ops x ∧ x.i ∈ Region.ready .any ops listed ∧ x.b = w
  | [], h => by cases h
  | i :: r, h => by
    unfold lateOf at h
    split at h
    · rename_i o ho
      split at h
      · rename_i ty hty
        split at h
        · rename_i z hz
          split at h
          · rename_i hb
            cases h
            simp only [Bool.and_eq_true] at hb
            exact ⟨⟨ho, hty, hz, by simpa using hb.1.1⟩, by simpa using hb.1.2, rfl⟩
          · exact lateOf_spec r h
        · exact lateOf_spec r h
      · exact lateOf_spec r h
    · exact lateOf_spec r h

/-- a step while an alloc waits -/
def lateStep (P : Program) (T : TT P) (wE : World) (cv : CV) (pv : PV) (sym : Bool) (ops : Array Oper) (x : LI) (more : Bool) (next : Bool → List (Nat × PK) → Array Bool → St → Prop) (pr : List (Nat × PK)) (listed : Array Bool) (st : St) : Prop :=
  (st.b.w = x.b) ∧ match others ops x.i listed with
  | [] => match st with
    | ⟨b, t, h⟩ => ∀ g, b.w.heap.size ≤ g → snocK h ⟨g, x.z, x.ty, [], none, true, .lit⟩ fun h' => putK t x.o.dst (pl (.pointer (some ⟨g, 0, none⟩)) [[some h.length]]) fun t' => protK ops x.i h' pr fun pr' => next false pr' (listed.setIfInBounds x.i true) ⟨b, t', h'⟩
  | j0 :: r => match more with
    | false => False
    | true => match lateStill T ops x.i x.o listed (j0 :: r) with
      | some j => match ops[j]? with
        | some o => takeC P T .no wE sym ops o st fun st' => next true pr (listed.setIfInBounds j true) st'
        | none => False
      | none => match lateOne ops x.i x.o listed (j0 :: r) with
        | some j => match ops[j]? with
          | some o => stepVC P T wE cv pv sym ops o st fun st' => protK ops j st'.h pr fun pr' => next true pr' (listed.setIfInBounds j true) st'
          | none => False
        | none => False

def moreB : Nat → Bool
  | 0 => false
  | _ + 1 => true

def pickLI (x : LI) : Bool → Option LI
  | true => some x
  | false => none

def anyVC (P : Program) (T : TT P) (ex : Bool) (wE : World) (cv : CV) (pv : PV) (sym : Bool) (ops : Array Oper) : Nat → Option LI → List (Nat × PK) → Array Bool → St → (St → Prop) → Prop
  | 0, some _, _, _, _, _ => False
  | 0, none, _, listed, st, K => match Region.ready .any ops listed with
    | [] => K st
    | _ :: _ => False
  | n + 1, some x, pr, listed, st, K => lateStep P T wE cv pv sym ops x (moreB n) (fun late pr' l' st' => anyVC P T ex wE cv pv sym ops n (pickLI x late) pr' l' st' K) pr listed st
  | n + 1, none, pr, listed, st, K =>
    match Region.ready .any ops listed with
    | [] => K st
    | i :: r => match firstFree T ex ops st.t st.h listed (i :: r) with
      | some (j, m) => match ops[j]? with
        | some o => takeC P T m wE sym ops o st fun st' => anyVC P T ex wE cv pv sym ops n none (addP j st.h m pr) (listed.setIfInBounds j true) st' K
        | none => False
      | none => match restReads T ops listed with
        | true => allVC P T wE sym ops (n + 1) listed st K
        | false => match (match ex with
            | true => none
            | false => lateOf P T ops listed st.b.w (i :: r)) with
          | some x => lateStep P T wE cv pv sym ops x (moreB n) (fun late pr' l' st' => anyVC P T ex wE cv pv sym ops n (pickLI x late) pr' l' st' K) pr listed st
          | none => eachVC P T wE cv pv sym ops (fun i st' => protK ops i st'.h pr fun pr' => anyVC P T ex wE cv pv sym ops n none pr' (listed.setIfInBounds i true) st' K) st (i :: r)

def onL (wE : World) (l : List (Nat × PK)) : List (Nat × (World → Prop)) := l.map fun p => (p.1, p.2.on wE)

theorem onL_filter {wE : World} {f : Nat → Bool} : ∀ (l : List (Nat × PK)), (onL wE l).filter (fun p => f p.1) = onL wE (l.filter fun p => f p.1)
  | [] => rfl
  | x :: r => by
    show List.filter (fun p => f p.1) ((x.1, x.2.on wE) :: onL wE r) = _
    cases h : f x.1
    · rw [List.filter_cons_of_neg (by simp [h]), List.filter_cons_of_neg (by simp [h]), onL_filter r]
    · rw [List.filter_cons_of_pos (by simp [h]), List.filter_cons_of_pos (by simp [h]), onL_filter r]; rfl

theorem mem_onL {wE : World} {l : List (Nat × PK)} {p : Nat × (World → Prop)} (h : p ∈ onL wE l) : ∃ q ∈ l, p = (q.1, q.2.on wE) := by
  obtain ⟨q, hq, rfl⟩ := List.mem_map.1 h
  exact ⟨q, hq, rfl⟩

theorem onL_mem {wE : World} {l : List (Nat × PK)} {q : Nat × PK} (h : q ∈ l) : (q.1, q.2.on wE) ∈ onL wE l := List.mem_map.2 ⟨q, h, rfl⟩

theorem set_comm {listed : Array Bool} {i j : Nat} : (listed.setIfInBounds i true).setIfInBounds j true = (listed.setIfInBounds j true).setIfInBounds i true := by
  by_cases h : i = j
  · subst h; rfl
  · exact Array.setIfInBounds_comm _ _ h

theorem others_mem {ops : Array Oper} {i k : Nat} {listed : Array Bool} (h : k ∈ Region.ready .any ops listed) : k = i ∨ k ∈ others ops i listed := by
  by_cases e : k = i
  · exact .inl e
  · refine .inr (List.mem_filter.2 ⟨h, ?_⟩)
    cases hb : Nat.beq k i
    · rfl
    · exact absurd (Nat.eq_of_beq_eq_true hb) e

theorem anyVC_sound {P : Program} {T : TT P} {ex : Bool} {wE : World} {cv : CV} (hcv : CVok P wE cv) {pv : PV} (hpv : PVok P pv) {sym : Bool} {ops : Array Oper} {K : St → Prop} {Q : Exit → Act → World → Prop}
    (hn : ∀ st' a' w', Conc gh wE st' a' w' → K st' → Q .normal a' w') (hQ : ∀ c a w, ¬ Q (.panic c) a w) : ∀ (n : Nat),
    (∀ (pr : List (Nat × PK)) (listed : Array Bool) (st : St) (a : Act) (w : World), Conc gh wE st a w → (∀ p ∈ pr, p.2.on wE w) → anyVC P T ex wE cv pv sym ops n none pr listed st K → wpAnyP P .any ops Q n (onL wE pr) listed a w) ∧
    (∀ (x : LI) (pr : List (Nat × PK)) (listed : Array Bool) (st : St) (a : Act) (w : World), LIok P ops x → x.i ∈ Region.ready .any ops listed → Conc gh wE st a w → (∀ p ∈ pr, p.2.on wE w) →
      anyVC P T ex wE cv pv sym ops n (some x) pr listed st K → wpAnyP P .any ops Q n (onL wE pr) listed a w) ∧
    (∀ (x : LI) (pr : List (Nat × PK)) (prc : List (Nat × (World → Prop))) (listed : Array Bool) (st : St) (a : Act) (w : World) (g m : Nat), LIok P ops x → n = m + 1 → Conc ((g, .cells x.z.toArray x.ty (0, 0)) :: gh) wE st a w →
      x.b.heap.size ≤ g → (∀ p ∈ gh, p.1 ≠ g) → (∀ p ∈ pr, p.2.on wE w) → (∀ p ∈ prc, p ∈ onL wE pr ∧ Region.waitsFor .any ops x.i p.1 = false) →
      anyVC P T ex wE cv pv sym ops n (some x) pr listed st K → wpAnyP P .any ops Q m prc (listed.setIfInBounds x.i true) (a.put x.o.dst (.pointer (some ⟨g, 0, none⟩))) w)
  | 0 => by
    refine ⟨fun pr listed st a w C _ h => ?_, fun x pr listed st a w _ _ _ _ h => h.elim, fun x pr prc listed st a w g m _ e => by cases e⟩
    unfold anyVC at h
    split at h
    · rename_i hr; exact ⟨hr, hn _ _ _ C h⟩
    · exact h.elim
  | n + 1 => by
    obtain ⟨ih0, ihA, ihB⟩ := anyVC_sound hcv hpv hn hQ n
    have stepB : ∀ (x : LI) (pr : List (Nat × PK)) (prc : List (Nat × (World → Prop))) (listed : Array Bool) (st : St) (a : Act) (w : World) (g : Nat), LIok P ops x → Conc ((g, .cells x.z.toArray x.ty (0, 0)) :: gh) wE st a w →
        x.b.heap.size ≤ g → (∀ p ∈ gh, p.1 ≠ g) → (∀ p ∈ pr, p.2.on wE w) → (∀ p ∈ prc, p ∈ onL wE pr ∧ Region.waitsFor .any ops x.i p.1 = false) →
        lateStep P T wE cv pv sym ops x (moreB n) (fun late pr' l' st' => anyVC P T ex wE cv pv sym ops n (pickLI x late) pr' l' st' K) pr listed st →
        wpAnyP P .any ops Q n prc (listed.setIfInBounds x.i true) (a.put x.o.dst (.pointer (some ⟨g, 0, none⟩))) w := by
      intro x pr prc listed st a w g hx C hg hgh hP hprc h
      unfold lateStep at h
      obtain ⟨hb, h⟩ := h
      split at h
      · obtain ⟨b, t, hp⟩ := st
        simp only at hb
        have h := h g (by rw [hb]; exact hg)
        simp only [snocK_eq, putK_eq] at h
        have H := C.hc.reveal (by rw [hb]; exact hg) hgh
        have C0 : Conc gh wE ⟨b, t, hp ++ [⟨g, x.z, x.ty, [], none, true, .lit⟩]⟩ a w := ⟨C.sz, C.tm, C.wf, C.df, H⟩
        have C' := C0.put x.o.dst (pl (.pointer (some ⟨g, 0, none⟩)) [[some hp.length]]) (AVok_pl _ _ _) rfl H
        obtain ⟨h1, h2⟩ := protK_out C'.hc h
        refine wpAnyP_weaken _ _ _ _ (fun p hp' => .inl ?_) (ih0 _ _ _ _ _ C' (fun p hp' => by
          rw [List.mem_filter] at hp'
          exact h1 p hp'.1 (by simpa using hp'.2)) h2)
        obtain ⟨e1, e2⟩ := hprc p hp'
        obtain ⟨q, hq, rfl⟩ := mem_onL e1
        exact onL_mem (List.mem_filter.2 ⟨hq, by simpa using e2⟩)
      · rename_i j0 r hoth
        split at h
        · exact h.elim
        · rename_i hmore
          obtain ⟨m, rfl⟩ : ∃ m, n = m + 1 := by
            cases n with
            | zero => cases hmore
            | succ m => exact ⟨m, rfl⟩
          split at h
          · rename_i j hj
            obtain ⟨oj, hoj, hst, hf1, hf2, hr1, hr2, hns, hap, hne⟩ := lateStill_spec _ hj
            rw [hoj] at h
            simp only at h
            obtain ⟨v, hy, st', he, C', hk⟩ := takeC_out C h
            obtain ⟨a1, a2, a3⟩ := Oper.apart_spec hap
            have hsj : ∀ cs b, oj.op ≠ .select cs b := fun cs b => Region.noSelect_spec hns j oj cs b hoj
            have hy' : YieldsIf P ops (fun _ => True) oj v (a.put x.o.dst (.pointer (some ⟨g, 0, none⟩))) := hy.of_same (execOp_put oj hsj a _ _ a1) (wanted_put oj a _ _ a1)
            have hB := ihB x pr prc (listed.setIfInBounds j true) st' _ w g m hx rfl C' hg hgh hP hprc hk
            refine wpAnyP_take hoj hns hf2 hr2 (fun c a w q => absurd q (hQ _ _ _)) hy' trivial (fun p hp => ?_) (wpAnyP_weaken (pr := prc) _ _ _ _ (fun p hp => ?_) ?_)
            · obtain ⟨e1, _⟩ := hprc p hp
              obtain ⟨q, hq, rfl⟩ := mem_onL e1
              exact hP q hq
            · rcases List.mem_cons.1 hp with rfl | hp
              · exact .inr rfl
              · exact .inl hp
            · rw [Act.put_comm a _ v a2, set_comm]; exact hB
          · split at h
            · rename_i j hj
              obtain ⟨h1, h2, hne, hns, oj, hoj, hap⟩ := lateOne_spec hj
              rw [hoj] at h
              simp only at h
              have hsj : ∀ cs b, oj.op ≠ .select cs b := fun cs b => Region.noSelect_spec hns j oj cs b hoj
              refine ⟨fun h0 => (by rw [h2] at h0; cases h0), fun k hk => ?_⟩
              rw [h2] at hk
              obtain rfl := List.mem_singleton.1 hk
              refine wpOp_of_put hoj hap hsj hQ ?_
              unfold wpOp
              rw [hoj]
              refine stepVC_sound hcv hpv C h fun st' a' w' C' h' => ?_
              obtain ⟨q1, q2⟩ := protK_out C'.hc h'
              refine ⟨fun p hp hw => ?_, ?_⟩
              · obtain ⟨e1, _⟩ := hprc p hp
                obtain ⟨q, hq, rfl⟩ := mem_onL e1
                exact q1 q hq hw
              · rw [set_comm]
                refine ihB x _ _ (listed.setIfInBounds k true) st' a' w' g m hx rfl C' hg hgh (fun p hp => ?_) (fun p hp => ?_) q2
                · rw [List.mem_filter] at hp
                  exact q1 p hp.1 (by simpa using hp.2)
                · rw [List.mem_filter] at hp
                  obtain ⟨e1, e2⟩ := hprc p hp.1
                  obtain ⟨q, hq, rfl⟩ := mem_onL e1
                  exact ⟨onL_mem (List.mem_filter.2 ⟨hq, hp.2⟩), e2⟩
            · exact h.elim
    have stepA : ∀ (x : LI) (pr : List (Nat × PK)) (listed : Array Bool) (st : St) (a : Act) (w : World), LIok P ops x → x.i ∈ Region.ready .any ops listed → Conc gh wE st a w → (∀ p ∈ pr, p.2.on wE w) →
        lateStep P T wE cv pv sym ops x (moreB n) (fun late pr' l' st' => anyVC P T ex wE cv pv sym ops n (pickLI x late) pr' l' st' K) pr listed st → wpAnyP P .any ops Q (n + 1) (onL wE pr) listed a w := by
      intro x pr listed st a w hx hi C hP h
      have h' := h
      unfold lateStep at h
      obtain ⟨hb, h⟩ := h
      have hwant : Region.wanted x.o (yielded ops a.tmps) = true := by unfold Region.wanted; rw [hx.un]
      have hal : ∀ (N : Act → World → Prop), N (a.put x.o.dst (.pointer (some ⟨w.heap.size, 0, none⟩))) { w with heap := w.heap.push (.cells x.z.toArray x.ty (0, 0)) } → wpOp P ops Q x.i N a w := by
        intro N hN
        unfold wpOp
        rw [hx.op]
        simp only [hwant, if_true]
        refine .inl ?_
        unfold Oper.wp
        rw [alloc_run hx.al hx.z]
        exact hN
      have hon : ∀ p ∈ pr, p.2.on wE { w with heap := w.heap.push (.cells x.z.toArray x.ty (0, 0)) } := fun p hp => PK.on_push C.hc.le (hP p hp)
      have early : wpOp P ops Q x.i (fun a' w' => (∀ p ∈ onL wE pr, Region.waitsFor .any ops x.i p.1 = false → p.2 w') ∧
          wpAnyP P .any ops Q n ((onL wE pr).filter fun p => !Region.waitsFor .any ops x.i p.1) (listed.setIfInBounds x.i true) a' w') a w := by
        refine hal _ ⟨fun p hp _ => ?_, ?_⟩
        · obtain ⟨q, hq, rfl⟩ := mem_onL hp
          exact hon q hq
        · refine stepB x pr _ listed st a _ w.heap.size hx ⟨C.sz, C.tm, C.wf, C.df, C.hc.allocG⟩ (by rw [← hb]; exact C.hc.size) (fun p hp => Nat.ne_of_lt (Array.getElem?_eq_some_iff.1 (C.hc.gp p hp).2.2).1) hon (fun p hp => ?_) h'
          rw [List.mem_filter] at hp
          exact ⟨hp.1, by simpa using hp.2⟩
      split at h
      · rename_i hoth
        refine ⟨fun h0 => (by rw [h0] at hi; cases hi), fun k hk => ?_⟩
        rcases others_mem (i := x.i) hk with rfl | hk
        · exact early
        · rw [hoth] at hk; cases hk
      · rename_i j0 r hoth
        split at h
        · exact h.elim
        · split at h
          · rename_i j hj
            obtain ⟨oj, hoj, hst, hf1, hf2, hr1, hr2, hns, hap, hne⟩ := lateStill_spec _ hj
            rw [hoj] at h
            simp only at h
            obtain ⟨v, hy, st', he, C', hk⟩ := takeC_out C h
            refine wpAnyP_take hoj hns hf1 hr1 (fun c a w q => absurd q (hQ _ _ _)) hy trivial (fun p hp => ?_) (wpAnyP_weaken (pr := onL wE pr) _ _ _ _ (fun p hp => ?_) (ihA x pr (listed.setIfInBounds j true) st' _ w hx (ready_mono hi (Ne.symm hne)) C' hP hk))
            · obtain ⟨q, hq, rfl⟩ := mem_onL hp
              exact hP q hq
            · rcases List.mem_cons.1 hp with rfl | hp
              · exact .inr rfl
              · exact .inl hp
          · split at h
            · rename_i j hj
              obtain ⟨h1, h2, hne, hns, oj, hoj, hap⟩ := lateOne_spec hj
              rw [hoj] at h
              simp only at h
              refine ⟨fun h0 => (by rw [h0] at hi; cases hi), fun k hk => ?_⟩
              rcases others_mem (i := x.i) hk with rfl | hk
              · exact early
              · rw [hoth, h1] at hk
                obtain rfl := List.mem_singleton.1 hk
                unfold wpOp
                rw [hoj]
                refine stepVC_sound hcv hpv C h fun st' a' w' C' h' => ?_
                obtain ⟨q1, q2⟩ := protK_out C'.hc h'
                refine ⟨fun p hp hw => ?_, ?_⟩
                · obtain ⟨q, hq, rfl⟩ := mem_onL hp
                  exact q1 q hq hw
                · rw [onL_filter (f := fun i => !Region.waitsFor .any ops k i)]
                  exact ihA x _ _ st' a' w' hx (ready_mono hi (Ne.symm hne)) C' (fun p hp => by
                    rw [List.mem_filter] at hp
                    exact q1 p hp.1 (by simpa using hp.2)) q2
            · exact h.elim
    refine ⟨fun pr listed st a w C hP h => ?_, fun x pr listed st a w hx hi C hP h => stepA x pr listed st a w hx hi C hP h, fun x pr prc listed st a w g m hx e C hg hgh hP hprc h => by
      cases e; exact stepB x pr prc listed st a w g hx C hg hgh hP hprc h⟩
    have hP' : ∀ p ∈ onL wE pr, p.2 w := fun p hp => by
      obtain ⟨q, hq, rfl⟩ := List.mem_map.1 hp
      exact hP q hq
    unfold anyVC at h
    split at h
    · rename_i hr
      exact ⟨fun _ => hn _ _ _ C h, by rw [hr]; simp⟩
    · rename_i i r hr
      split at h
      · rename_i j m hj
        obtain ⟨hf, hc, hs, hm⟩ := firstFree_spec _ hj
        split at h
        · rename_i o ho
          obtain ⟨v, hy, st', he, C', hk⟩ := takeC_out C h
          have hS : RS gh m wE st.b st.h w := by
            rcases hm with rfl | ⟨rfl, hnw⟩ | ⟨x, rfl⟩
            · trivial
            · exact C.hc.old hnw
            · exact fun d hd => C.hc.bl d (List.mem_of_getElem? hd)
          have hP2 : ∀ p ∈ addP j st.h m pr, p.2.on wE w := by
            rcases hm with rfl | ⟨rfl, hnw⟩ | ⟨x, rfl⟩
            · exact hP
            · intro p hp
              rcases List.mem_cons.1 hp with rfl | hp
              · exact C.hc.old hnw
              · exact hP p hp
            · intro p hp
              unfold addP at hp
              simp only at hp
              split at hp
              · rename_i d hd
                rcases List.mem_cons.1 hp with rfl | hp
                · exact C.hc.bl d (List.mem_of_getElem? hd)
                · exact hP p hp
              · exact hP p hp
          have H := ih0 _ _ _ _ _ C' hP2 hk
          have fin : ∀ (S : World → Prop), YieldsIf P ops S o v a → S w → (∀ p ∈ (j, S) :: onL wE pr, p ∈ onL wE (addP j st.h m pr) ∨ p.2 = fun _ => True) → wpAnyP P .any ops Q (n + 1) (onL wE pr) listed a w :=
            fun S hy hS hsub => wpAnyP_take ho hs hf hc (fun c a w q => absurd q (hQ _ _ _)) hy hS hP' (wpAnyP_weaken n _ _ _ hsub H)
          rcases hm with rfl | ⟨rfl, hnw⟩ | ⟨x, rfl⟩
          · refine fin (fun _ => True) hy trivial fun p hp => ?_
            rcases List.mem_cons.1 hp with rfl | hp
            · exact .inr rfl
            · exact .inl hp
          · exact fin (OldS wE) hy hS fun p hp => .inl hp
          · cases hd : st.h[x]? with
            | none =>
              have hS' : RS gh (.blk x) wE st.b st.h = fun _ => True := by
                funext w'
                simp [RS, hd]
              rw [hS'] at hy
              refine fin (fun _ => True) hy trivial fun p hp => ?_
              unfold addP; simp only [hd]
              rcases List.mem_cons.1 hp with rfl | hp
              · exact .inr rfl
              · exact .inl hp
            | some d =>
              have hS' : RS gh (.blk x) wE st.b st.h = fun w' => w'.heap[d.g]? = some d.den := by
                funext w'
                simp [RS, hd]
              rw [hS'] at hy
              refine fin (fun w' => w'.heap[d.g]? = some d.den) hy (C.hc.bl d (List.mem_of_getElem? hd)) fun p hp => .inl ?_
              unfold addP; simp only [hd]
              exact hp
        · exact h.elim
      · split at h
        · exact wpAnyP_of_H _ _ _ _ (fun w' e p hp => by rw [e]; exact hP' p hp) (allVC_sound hn hQ _ _ _ _ _ C h)
        split at h
        · rename_i x hx
          have hx : lateOf P T ops listed st.b.w (i :: r) = some x := by
            split at hx
            · cases hx
            · exact hx
          obtain ⟨h1, h2, _⟩ := lateOf_spec _ hx
          exact stepA x pr listed st a w h1 h2 C hP h
        refine ⟨fun h0 => (by rw [hr] at h0; cases h0), fun k hk => ?_⟩
        rw [hr] at hk
        have := eachVC_spec _ h k hk
        have step : ∀ st' a' w', Conc gh wE st' a' w' → protK ops k st'.h pr (fun pr' => anyVC P T ex wE cv pv sym ops n none pr' (listed.setIfInBounds k true) st' K) →
            (∀ p ∈ onL wE pr, Region.waitsFor .any ops k p.1 = false → p.2 w') ∧ wpAnyP P .any ops Q n ((onL wE pr).filter fun p => !Region.waitsFor .any ops k p.1) (listed.setIfInBounds k true) a' w' := by
          intro st' a' w' C' h'
          obtain ⟨h1, h2⟩ := protK_out C'.hc h'
          refine ⟨fun p hp hw => ?_, ?_⟩
          · obtain ⟨q, hq, rfl⟩ := List.mem_map.1 hp
            exact h1 q hq hw
          · rw [onL_filter (f := fun i => !Region.waitsFor .any ops k i)]
            exact ih0 _ _ _ _ _ C' (fun p hp => by
              rw [List.mem_filter] at hp
              exact h1 p hp.1 (by simpa using hp.2)) h2
        unfold wpOp
        split
        · rename_i ho
          rw [ho] at this
          exact step _ _ _ C this
        · rename_i o ho
          rw [ho] at this
          exact stepVC_sound hcv hpv C this fun st' a' w' C' h' => step _ _ _ C' h'

/-! ### a head that only reads, and what waits for it -/
def tailB (ops : Array Oper) (n : Nat) : Bool :=
  (List.range ops.size).all fun t => Nat.ble t n || (List.range t).any fun s => Nat.ble n s && Region.waitsFor .any ops t s

def headUp : Nat → Array Bool → Array Bool
  | 0, l => l
  | n + 1, l => (headUp n l).setIfInBounds n true

def headB (ops : Array Oper) : Nat → Nat → Array Bool → Bool
  | 0, _, _ => true
  | f + 1, k, listed => (Region.ready .any ops listed).contains k && Region.free .any ops listed k && headB ops f (k + 1) (listed.setIfInBounds k true)

def afterHead (ops : Array Oper) : Nat → Nat → Array Bool → Array Bool
  | 0, _, l => l
  | f + 1, k, l => afterHead ops f (k + 1) (l.setIfInBounds k true)

/-- the region's first n operations only read, the others wait for all of them -/
def headOk (ops : Array Oper) (n : Nat) : Bool :=
  Region.noSelect ops && Nat.blt n ops.size && Region.sinkB .any ops n && tailB ops n && headB ops n 0 (Array.replicate ops.size false) &&
    (Region.ready .any ops (afterHead ops n 0 (Array.replicate ops.size false))).all (fun j => Nat.ble n j)

section
variable {P : Program} {ops : Array Oper} {w : World}

theorem headB_waits {n : Nat} {listed : Array Bool} (hs : Region.sinkB .any ops n = true) (ht : tailB ops n = true) (hn : n < ops.size) (inv : HeadInv .any ops n listed) :
    ∀ (d i : Nat), n - i = d → i < n → listed.getD i true = false → ∀ t, n ≤ t → t ∉ Region.ready .any ops listed := by
  intro d
  induction d using Nat.strongRecOn with
  | _ d ih =>
    intro i hd hi hun t hnt hr
    obtain ⟨_, ot, hot, hall⟩ := mem_ready.1 hr
    have htlt : t < ops.size := (Array.getElem?_eq_some_iff.1 hot).1
    rcases Nat.eq_or_lt_of_le hnt with rfl | hlt
    · have h1 := List.all_eq_true.1 hs i (List.mem_range.2 hi)
      obtain ⟨j, hj, hj2⟩ := List.any_eq_true.1 h1
      simp only [Bool.and_eq_true, decide_eq_true_eq] at hj2
      obtain ⟨oj, hoj, e, he, hb, hon⟩ := Region.waitsFor_spec hj2.2
      have hjle : j ≤ n := by have := List.mem_range.1 hj; omega
      by_cases hjt : j = n
      · rw [hjt] at hoj
        have : oj = ot := Option.some.inj (hoj.symm.trans hot)
        subst this
        have h2 := hall e he hb
        rw [hon, getD_both hun] at h2
        cases h2
      · cases hl : listed.getD j false with
        | true =>
          have h2 := inv.closed j oj hoj hl e he hb
          rw [hon, getD_both hun] at h2
          cases h2
        | false =>
          have hjs : j < listed.size := by rw [inv.size]; omega
          exact ih (n - j) (by omega) j rfl (by omega) (getD_in hjs hl) n (Nat.le_refl _) hr
    · have h1 := List.all_eq_true.1 ht t (List.mem_range.2 htlt)
      rcases Bool.or_eq_true _ _ ▸ h1 with h1 | h1
      · exact absurd (Nat.le_of_ble_eq_true h1) (by omega)
      · obtain ⟨s, hs1, hs2⟩ := List.any_eq_true.1 h1
        simp only [Bool.and_eq_true] at hs2
        have hns := Nat.le_of_ble_eq_true hs2.1
        have hst := List.mem_range.1 hs1
        obtain ⟨o', ho', e, he, hb, hon⟩ := Region.waitsFor_spec hs2.2
        have : o' = ot := Option.some.inj (ho'.symm.trans hot)
        subst this
        have h2 := hall e he hb
        rw [hon, getD_both (inv.tail s hns (by omega))] at h2
        cases h2

theorem headB_first {n i : Nat} {oi : Oper} {v : Value} {L : Array Bool → Act → Prop} (hi : ops[i]? = some oi) (hsel : ∀ (j : Nat) (o : Oper) cs b, ops[j]? = some o → o.op ≠ .select cs b)
    (hs : Region.sinkB .any ops n = true) (ht : tailB ops n = true) (hn : n < ops.size) (hin : i < n)
    (hdone : ∀ listed a, L listed a → ∀ j ∈ Region.ready .any ops listed, n ≤ j) :
    ∀ (f : Nat) (listed : Array Bool) (a : Act), HeadInv .any ops n listed →
      (∀ j oj, ops[j]? = some oj → j ≠ i → listed.getD j true = false → (∀ e ∈ oj.after, Region.binds .any e = true → e.on ≠ i) → oi.apart ops oj = true) →
      i ∈ Region.ready .any ops listed → YieldsAt P ops w oi v a →
      wpAnyL P .any ops w n L f (listed.setIfInBounds i true) (a.put oi.dst v) → wpAnyL P .any ops w n L (f + 1) listed a := by
  intro f
  induction f with
  | zero =>
    intro listed a inv _ hr hy H
    have hun := (mem_ready.1 hr).1
    refine ⟨fun h => (by rw [h] at hr; cases hr), fun j hj => ?_⟩
    have hjn : j < n := Nat.lt_of_not_le fun h => absurd hj (headB_waits hs ht hn inv _ i rfl hin hun j h)
    refine ⟨hjn, ?_⟩
    by_cases hji : j = i
    · subst hji; exact hy.stOp hi H
    · have := hdone _ _ H j (ready_mono hj hji)
      omega
  | succ f ih =>
    intro listed a inv hfree hr hy H
    have hun := (mem_ready.1 hr).1
    refine ⟨fun h => (by rw [h] at hr; cases hr), fun j hj => ?_⟩
    have hjn : j < n := Nat.lt_of_not_le fun h => absurd hj (headB_waits hs ht hn inv _ i rfl hin hun j h)
    refine ⟨hjn, ?_⟩
    by_cases hji : j = i
    · subst hji; exact hy.stOp hi H
    · have h1 := (H.2 j (ready_mono hj hji)).2
      obtain ⟨hjun, oj, hoj, hall⟩ := mem_ready.1 hj
      have hnot : ∀ e ∈ oj.after, Region.binds .any e = true → e.on ≠ i := fun e he hb heq => by
        have h1 := hall e he hb
        rw [heq, getD_both hun] at h1
        cases h1
      have h2 := stOp_put hoj (hfree j oj hoj hji hjun hnot) (fun cs b => hsel i oi cs b hi) (fun cs b => hsel j oj cs b hoj) hy h1
      have hfree' : ∀ k ok, ops[k]? = some ok → k ≠ i → (listed.setIfInBounds j true).getD k true = false →
          (∀ e ∈ ok.after, Region.binds .any e = true → e.on ≠ i) → oi.apart ops ok = true := fun k ok hk hki hun hno => by
        refine hfree k ok hk hki ?_ hno
        by_cases hjk : j = k
        · subst hjk; exact hjun
        · rw [getD_set_ne true hjk] at hun; exact hun
      refine stOp_mono (fun a' h3 => ih (listed.setIfInBounds j true) a' (inv.set hj hjn) hfree' (ready_mono hr (Ne.symm hji)) h3.1 ?_) h2
      rw [Array.setIfInBounds_comm _ _ hji]
      exact h3.2

theorem headB_lex {n : Nat} {Lq : Act → Prop} (hsel : Region.noSelect ops = true) (hs : Region.sinkB .any ops n = true) (ht : tailB ops n = true) (hn : n < ops.size) {fin : Array Bool}
    (hfin : ∀ j ∈ Region.ready .any ops fin, n ≤ j) :
    ∀ (l : List Oper) (k : Nat) (listed : Array Bool) (a : Act), (∀ j, j < l.length → l[j]? = ops[k + j]?) → k + l.length = n → HeadInv .any ops n listed → afterHead ops l.length k listed = fin →
    headB ops l.length k listed = true → wpStill P ops w Lq l a →
    wpAnyL P .any ops w n (fun listed' a' => listed' = fin ∧ Lq a') l.length listed a
  | [], k, listed, a, _, hk, _, he, hB, h => ⟨he, h⟩
  | o :: l, k, listed, a, hl, hk, inv, he, hB, h => by
    have h0 : ops[k]? = some o := by simpa using (hl 0 (by simp)).symm
    simp only [List.length_cons, headB, Bool.and_eq_true] at hB
    obtain ⟨⟨hr, hf⟩, hB'⟩ := hB
    have hkn : k < n := by simp only [List.length_cons] at hk; omega
    have hr' : k ∈ Region.ready .any ops listed := by simpa using hr
    have hst : stOp P ops w k (wpStill P ops w Lq l) a := by unfold stOp; simp only [h0]; exact h
    obtain ⟨v, hy, hK⟩ := yieldsAt_of_stOp h0 hst
    exact headB_first h0 (Region.noSelect_spec hsel) hs ht hn hkn (fun listed' a' hL => by rw [hL.1]; exact hfin) l.length listed a inv (Region.free_spec h0 hf) hr' hy
      (headB_lex hsel hs ht hn hfin l (k + 1) _ _ (fun j hj => by have := hl (j + 1) (by simp; omega); simpa [Nat.add_assoc, Nat.add_comm 1 j] using this) (by simp only [List.length_cons] at hk; omega) (inv.set hr' hkn) he hB' hK)

theorem wp_region_head {id : Nat} {Q : Exit → Act → World → Prop} {a : Act} (n : Nat) (hm : P.follows .mixedOrders = true) (hB : headOk ops n = true)
    (h : wpStill P ops { w with drawn := w.drawn + 1 } (fun a' => wpAny P .any ops Q (ops.size - n) (afterHead ops n 0 (Array.replicate ops.size false)) a' { w with drawn := w.drawn + 1 }) (ops.toList.take n) a) :
    (Code.region id ops true).wp P Q a w := by
  simp only [headOk, Bool.and_eq_true] at hB
  obtain ⟨⟨⟨⟨⟨hsel, hn⟩, hs⟩, ht⟩, hh⟩, hfin⟩ := hB
  have hn : n < ops.size := by
    have h := hn
    simp [Nat.blt, Nat.ble_eq] at h
    omega
  have hlen : (ops.toList.take n).length = n := by simp; omega
  have inv0 : HeadInv .any ops n (Array.replicate ops.size false) :=
    ⟨by simp, fun j oj _ hl => (by rw [getD_replicate_false] at hl; cases hl), fun t _ ht => getD_in (by simpa using ht) (getD_replicate_false _ _)⟩
  have H := headB_lex (P := P) (w := { w with drawn := w.drawn + 1 }) hsel hs ht hn (fin := afterHead ops n 0 (Array.replicate ops.size false))
    (fun j hj => Nat.le_of_ble_eq_true (List.all_eq_true.1 hfin j hj)) (ops.toList.take n) 0 _ a (fun j hj => by
      have hj' : j < n := by rw [hlen] at hj; exact hj
      rw [List.getElem?_take, if_pos hj', Nat.zero_add, Array.getElem?_toList]) (by simpa using hlen) inv0 (by rw [hlen]) (by rw [hlen]; exact hh) h
  refine wp_region_any hm ?_
  have := wpAny_of_head (g := ops.size - n) (fun listed a' hL => by rw [hL.1]; exact hL.2) _ _ _ H
  rw [hlen, show n + (ops.size - n) = ops.size by omega] at this
  exact this
end

/-! ### code -/
def mkArgs : Nat → List Value → List Sh → List (Nat × AV)
  | _, [], _ => []
  | i, v :: r, [] => (i, pl v []) :: mkArgs (i + 1) r []
  | i, v :: r, s :: q => (i, pl v s) :: mkArgs (i + 1) r q

theorem mkArgs_look : ∀ (l : List Value) (k : Nat) (s : List Sh) (j : Nat), (lookR (mkArgs k l s) (fun _ => undef) (k + j)).den [] = (l[j]?).getD undef
  | [], k, s, j => by cases s <;> rfl
  | v :: r, k, s, j => by
    have key : ∀ x q, x.den [] = v → (lookR ((k, x) :: mkArgs (k + 1) r q) (fun _ => undef) (k + j)).den [] = ((v :: r)[j]?).getD undef := by
      intro x q hx
      rw [lookR_cons]
      cases j with
      | zero => simp [hx]
      | succ j =>
        rw [if_neg (by simp)]
        have := mkArgs_look r (k + 1) q j
        rw [show k + 1 + j = k + (j + 1) by omega] at this
        rw [this]
        simp
    cases s with
    | nil => exact key _ _ rfl
    | cons s q => exact key _ _ rfl

def mkT (n : Nat) (args : List Value) (sh : List Sh) : TM :=
  ⟨args.length + (n - args.length), mkArgs 0 args sh, fun _ => undef, []⟩

/-- what only reads known blocks -/
def semR (P : Program) {α : Type} : Option Nat → Sem α → List Blk → (α → Prop) → Prop
  | _, .pure a, _, K => K a
  | hint, .load _ a k, h, K => match hint with
    | some i => match h[i]? with
      | some b => b.g = a.block ∧ (match cellAt b a with
        | some v => semR P hint (k v) h K
        | none => False)
      | none => False
    | none => False
  | hint, .program k, h, K => semR P hint (k P) h K
  | hint, .mark _ k, h, K => semR P hint k h K
  | _, _, _, _ => False

theorem semR_sound {P : Program} {wE : World} {b : Base} {α : Type} (s : Sem α) : ∀ (hint : Option Nat) (h : List Blk) (K : α → Prop) (w : World), HC gh wE b h w → semR P hint s h K →
    ∃ r, s.run P w = .ok r w ∧ K r := by
  induction s with
  | pure a => intro hint h K w H hk; exact ⟨a, rfl, hk⟩
  | load m a k ih =>
    intro hint h K w H hk
    cases hint with
    | none => simp only [semR] at hk
    | some i =>
      simp only [semR] at hk
      split at hk
      · rename_i b hb
        obtain ⟨hg, hk⟩ := hk
        split at hk
        · rename_i v hv
          simp only [Sem.run, H.cell (List.mem_of_getElem? hb) hg hv]
          exact ih v _ h K w H hk
        · exact hk.elim
      · exact hk.elim
  | program k ih => intro hint h K w H hk; simp only [semR] at hk; simp only [Sem.run]; exact ih _ _ h K w H hk
  | mark m k ih => intro hint h K w H hk; simp only [semR] at hk; simp only [Sem.run]; exact ih _ h K w H hk
  | _ => intro hint h K w H hk; simp [semR] at hk

def cellS (h : List Blk) (x : AV) (v : Value) : Sh :=
  match hd1 x.s with
  | some i => match h[i]? with
    | some b => [(b.s.drop (offOf x.v)).take v.cells.size]
    | none => []
  | none => []

/-- the results -/
def resK (P : Program) : List ResultVar → TM → List Blk → (List (Value × Sh) → Prop) → Prop
  | [], _, _, k => k []
  | .tmp i :: r, t, h, k => match getT t i with
    | ⟨v, s, [], _, _⟩ => resK P r t h fun l => k ((v, s) :: l)
    | _ => False
  | .cell a ty :: r, t, h, k => semR P (hd1 (getT t a).s) (asAddr ((getT t a).den t.g) >>= fun ad => loadVar ty ad) h fun v =>
      forceW v fun v => forceS (cellS h (getT t a) v) fun s => resK P r t h fun l => k ((v, s) :: l)

def finK (l : List (Value × Sh)) (K : Value → Sh → Prop) : Prop := match l with
  | [(v, s)] => K v s
  | l => K (.tuple (l.map (·.1)).toArray) (l.map fun x => fl1 x.2)

theorem resK_run {P : Program} {wE : World} {st : St} {a : Act} {w : World} (C : Conc gh wE st a w) (F : ResultVar → Sem Value) (hF : ∀ i, F (.tmp i) = pure (a.tmps.getD i undef))
    (hG : ∀ b t, F (.cell b t) = asAddr (a.tmps.getD b undef) >>= fun ad => loadVar t ad) : ∀ (rs : List ResultVar) (k : List (Value × Sh) → Prop), resK P rs st.t st.h k →
    ∃ l, (rs.mapM F).run P w = .ok (l.map (·.1)) w ∧ k l
  | [], k, h => ⟨[], rfl, h⟩
  | .tmp i :: r, k, h => by
    unfold resK at h
    split at h
    · rename_i v s kk pp ht
      obtain ⟨l, hl, hk⟩ := resK_run C F hF hG r _ h
      refine ⟨(v, s) :: l, ?_, hk⟩
      rw [List.mapM_cons, hF]
      simp only [pure_bind, Sem.run_bind, hl, Result.andThen]
      rw [C.tm i, ht]; rfl
    · exact h.elim
  | .cell b ty :: r, k, h => by
    obtain ⟨v, hv, h⟩ := semR_sound _ _ _ _ w C.hc h
    simp only [forceW_eq, forceS_eq] at h
    obtain ⟨l, hl, hk⟩ := resK_run C F hF hG r _ h
    refine ⟨(v, cellS st.h (getT st.t b) v) :: l, ?_, hk⟩
    rw [List.mapM_cons, hG, C.tm b]
    rw [Sem.run_bind, hv]
    simp only [Result.andThen, Sem.run_bind, hl]
    rfl

theorem resK_results {P : Program} {wE : World} {fn : Func} {st : St} {a : Act} {w : World} {K : Value → Sh → Prop} (C : Conc gh wE st a w)
    (h : resK P fn.results.toList st.t st.h fun l => finK l K) : ∃ v s, (results fn a.tmps).run P w = .ok v w ∧ K v s := by
  have hm := fun F hF hG => resK_run (P := P) C F hF hG fn.results.toList _ h
  have key : ∃ l : List (Value × Sh), (results fn a.tmps).run P w = .ok (if h : l.length = 1 then (l[0]'(by omega)).1 else .tuple (l.map (·.1)).toArray) w ∧ finK l K := by
    unfold results
    rw [Array.mapM_eq_mapM_toList]
    obtain ⟨l, hl, hk⟩ := hm (fun | .tmp t => pure (a.tmps.getD t undef) | .cell b t => do loadVar t (← asAddr (a.tmps.getD b undef))) (fun i => rfl) (fun b t => rfl)
    refine ⟨l, ?_, hk⟩
    simp only [map_eq_pure_bind, Sem.run_bind, bind_assoc, pure_bind]
    refine (congrArg (fun r => Result.andThen r _) hl).trans ?_
    simp only [Result.andThen, List.size_toArray, List.length_map]
    split <;> simp [pure, Sem.run]
  obtain ⟨l, hr, hk⟩ := key
  unfold finK at hk
  split at hk
  · rename_i v s; exact ⟨v, s, hr, hk⟩
  · rename_i hne
    refine ⟨_, _, ?_, hk⟩
    rw [hr]
    have : l.length ≠ 1 := by
      intro e
      obtain ⟨y, rfl⟩ := List.length_eq_one_iff.1 e
      exact hne y.1 y.2 rfl
    rw [dif_neg this]

/-- what a walk up to here has to show of what follows -/
def Post (gh : Gh) (wE : World) (K : Exit → St → Prop) : Exit → Act → World → Prop
  | .panic _, _, _ => False
  | e, a, w => ∃ st, Conc gh wE st a w ∧ K e st

/-- what is left behind a walk -/
structure Done (p : Prop) : Prop where
  out : p

/-- what a loop keeps, or a cut (mv: the block of which a temporary tells is brought to a place): which temporaries are read on (and what stands in them), the blocks, and a measure; all of a number of a kind of its own; reb: the base is the world there anew -/
structure Inv where
  ι : Type
  reb : Bool
  dom : World → ι → Prop
  live : World → ι → List (Nat × Value × Sh)
  blk : World → ι → List Blk
  μ : ι → Nat
  mv : List (Nat × Nat) := []

def firstId : Code → Nat
  | .region id _ _ => id
  | .seq a _ => firstId a
  | .block _ a => firstId a
  | .loop a => firstId a
  | .scope a => firstId a
  | .cond _ a _ => firstId a
  | _ => 100000

/-- what stands in the temporaries is what a loop keeps -/
def liveK (t : TM) : List (Nat × Value × Sh) → Prop → Prop
  | [], q => q
  | (p, x, _) :: r, q => match getT t p with
    | ⟨v, _, [], _, _⟩ => v = x ∧ liveK t r q
    | _ => False

theorem liveK_out {t : TM} : ∀ {l : List (Nat × Value × Sh)} {q : Prop}, liveK t l q → (∀ p x s, (p, x, s) ∈ l → (getT t p).den t.g = x) ∧ q
  | [], _, h => ⟨fun _ _ _ h => (by cases h), h⟩
  | (p, x, s) :: r, q, h => by
    unfold liveK at h
    split at h
    · rename_i v s' k pp ht
      obtain ⟨h1, h2⟩ := h
      obtain ⟨h3, h4⟩ := liveK_out h2
      refine ⟨fun p' x' s' hm => ?_, h4⟩
      rcases List.mem_cons.1 hm with e | hm
      · cases e; rw [ht]; exact h1
      · exact h3 p' x' s' hm
    · exact h.elim

def liveT : List (Nat × Value × Sh) → List (Nat × AV)
  | [] => []
  | (p, x, s) :: r => (p, pl x s) :: liveT r

/-- all these blocks are new ones -/
def AllGe (n : Nat) : List Blk → Prop
  | [] => True
  | b :: r => n ≤ b.g ∧ AllGe n r

theorem AllGe.all {n : Nat} : ∀ {h : List Blk}, AllGe n h → ∀ b ∈ h, n ≤ b.g
  | _ :: _, h, b, hb => by
    rcases List.mem_cons.1 hb with rfl | hb
    · exact h.1
    · exact AllGe.all h.2 b hb

def geK (n : Nat) : List Blk → Prop → Prop
  | [], p => p
  | b :: r, p => match b.n with
    | true => n ≤ b.g ∧ geK n r p
    | false => False

theorem geK_out {n : Nat} : ∀ {h : List Blk} {p : Prop}, geK n h p → (AllGe n h ∧ ∀ b ∈ h, b.n = true) ∧ p
  | [], _, h => ⟨⟨trivial, (fun _ h => (by cases h))⟩, h⟩
  | b :: _, _, h => by
    unfold geK at h
    split at h
    · rename_i hn
      obtain ⟨⟨h1, h2⟩, h3⟩ := geK_out h.2
      refine ⟨⟨⟨h.1, h1⟩, fun c hc => ?_⟩, h3⟩
      rcases List.mem_cons.1 hc with rfl | hc
      · exact hn
      · exact h2 c hc
    · exact h.elim

def geJ (n : Nat) : List Nat → Prop → Prop
  | [], p => p
  | b :: r, p => n ≤ b ∧ geJ n r p

theorem geJ_out {n : Nat} : ∀ {h : List Nat} {p : Prop}, geJ n h p → (∀ b ∈ h, n ≤ b) ∧ p
  | [], _, h => ⟨(fun _ h => (by cases h)), h⟩
  | b :: _, _, h => by
    obtain ⟨h1, h2⟩ := geJ_out h.2
    refine ⟨fun c hc => ?_, h2⟩
    rcases List.mem_cons.1 hc with rfl | hc
    · exact h.1
    · exact h1 c hc

/-- a row stays one, of as many places -/
def yK : RK → RK → Prop → Prop
  | _, .lit, p => p
  | _, .sym, p => p
  | .row a b, .row c d, p => (a = c ∧ b = d) ∧ p
  | .row a b, .srow c d, p => (a = c ∧ b = d) ∧ p
  | .srow a b, .row c d, p => (a = c ∧ b = d) ∧ p
  | .srow a b, .srow c d, p => (a = c ∧ b = d) ∧ p
  | _, _, _ => False

theorem yK_out {b c : Blk} {p : Prop} (h : yK b.y c.y p) (hc : b.c = c.c) (hx : b.x = c.x) : (rowOk b → rowOk c) ∧ p := by
  unfold rowOk
  rw [← hc, ← hx]
  unfold yK at h
  split at h <;> rename_i h1 h2 <;> first
    | exact ⟨fun _ => by rw [h2]; trivial, h⟩
    | (obtain ⟨⟨rfl, rfl⟩, h⟩ := h; exact ⟨fun k => by rw [h1] at k; rw [h2]; exact k, h⟩)
    | exact ⟨fun _ => by simp only [*], h⟩
    | exact h.elim

/-- the blocks are those that a loop keeps, and new ones behind them -/
def blkK (n : Nat) : List Blk → List Blk → Prop → Prop
  | h, [], q => geK n h q
  | b :: r, c :: s, q => match bEq b.n c.n, b.x, c.x with
    | true, none, none => (b.g = c.g ∧ b.c = c.c ∧ b.e = c.e) ∧ yK b.y c.y (blkK n r s q)
    | _, _, _ => False
  | [], _ :: _, _ => False

theorem lookR_in {g : List Bool} {l : List (Nat × Value × Sh)} {gs : Nat → Value} {p : Nat} : (∃ x s, (p, x, s) ∈ l ∧ (lookR (liveT l) gs p).den g = x) ∨ (lookR (liveT l) gs p).den g = gs p := by
  induction l with
  | nil => exact .inr rfl
  | cons q r ih =>
    obtain ⟨n, x, s⟩ := q
    simp only [liveT, lookR_cons]
    by_cases h : n = p
    · rw [if_pos h]
      exact .inl ⟨x, s, by rw [← h]; exact List.mem_cons_self, rfl⟩
    · rw [if_neg h]
      rcases ih with ⟨x, s, hx, e⟩ | e
      · exact .inl ⟨x, s, List.mem_cons_of_mem _ hx, e⟩
      · exact .inr e

theorem WF_live (n : Nat) (l : List (Nat × Value × Sh)) (gs : Nat → Value) : WF ⟨n, liveT l, gs, []⟩ := by
  intro i
  rw [getT_eq]
  split
  · rename_i hlt
    clear hlt
    show AVok [] (lookR (liveT l) gs i)
    induction l with
    | nil => exact AVok_pl _ _ _
    | cons q r ih =>
      obtain ⟨p, x, s⟩ := q
      simp only [liveT, lookR_cons]
      split
      · exact AVok_pl _ _ _
      · exact ih
  · exact AVok_pl _ _ _


theorem blkK_out {n : Nat} : ∀ {h s : List Blk} {q : Prop}, blkK n h s q → (∃ r, ∃ h1, h = h1 ++ r ∧ h1.map (·.g) = s.map (·.g) ∧ h1.map (·.den) = s.map (·.den) ∧ h1.map (·.n) = s.map (·.n) ∧ ((∀ b ∈ h1, rowOk b) → ∀ b ∈ s, rowOk b) ∧ AllGe n r ∧ ∀ b ∈ r, b.n = true) ∧ q
  | h, [], q, hk => by
    unfold blkK at hk
    obtain ⟨⟨h1, h2⟩, h3⟩ := geK_out hk
    exact ⟨⟨h, [], rfl, rfl, rfl, rfl, (fun _ _ h => by cases h), h1, h2⟩, h3⟩
  | b :: r, c :: s, q, hk => by
    unfold blkK at hk
    split at hk
    · rename_i hb hbx hcx
      obtain ⟨h0, hk⟩ := hk
      obtain ⟨hy, hk⟩ := yK_out hk h0.2.1 (hbx.trans hcx.symm)
      obtain ⟨⟨r', h1, e, e1, e2, e3, er, e4⟩, hq⟩ := blkK_out hk
      refine ⟨⟨r', b :: h1, by rw [e]; rfl, ?_, ?_, ?_, (fun k d hd => by
        rcases List.mem_cons.1 hd with rfl | hd
        · exact hy (k b List.mem_cons_self)
        · exact er (fun d hd => k d (List.mem_cons_of_mem _ hd)) d hd), e4⟩, hq⟩
      · simp only [List.map_cons, h0.1, e1]
      · simp only [List.map_cons, Blk.den_eq ⟨h0.2.1, h0.2.2, hbx.trans hcx.symm⟩, e2]
      · simp only [List.map_cons, bEq_eq hb, e3]
    · exact hk.elim
  | [], _ :: _, _, hk => hk.elim

theorem HC.cut {wE w : World} {b : Base} {h1 r s : List Blk} (H : HC gh wE b (h1 ++ r) w) (hg : h1.map (·.g) = s.map (·.g)) (hd : h1.map (·.den) = s.map (·.den)) (hn : h1.map (·.n) = s.map (·.n)) (her : (∀ b ∈ h1, rowOk b) → ∀ b ∈ s, rowOk b)
    (hr : AllGe b.w.heap.size r) (hrn : ∀ b ∈ r, b.n = true) (hj : ∀ i ∈ b.j, b.w.heap.size ≤ i) : HC gh wE ⟨b.w, []⟩ s w := by
  have get : ∀ c ∈ s, ∃ d ∈ h1, d.g = c.g ∧ d.den = c.den ∧ d.n = c.n := by
    intro c hc
    obtain ⟨n, hn'⟩ := List.mem_iff_getElem?.1 hc
    have h2 : (s.map (·.g))[n]? = some c.g := by rw [List.getElem?_map, hn']; rfl
    have h3 : (s.map (·.den))[n]? = some c.den := by rw [List.getElem?_map, hn']; rfl
    have h4 : (s.map (·.n))[n]? = some c.n := by rw [List.getElem?_map, hn']; rfl
    rw [← hg, List.getElem?_map] at h2
    rw [← hd, List.getElem?_map] at h3
    rw [← hn, List.getElem?_map] at h4
    cases hd1 : h1[n]? with
    | none => rw [hd1] at h2; cases h2
    | some d =>
      rw [hd1] at h2 h3 h4
      exact ⟨d, List.mem_of_getElem? hd1, by simpa using h2, by simpa using h3, by simpa using h4⟩
  have get2 : ∀ d ∈ h1, ∃ c ∈ s, c.g = d.g ∧ c.n = d.n := by
    intro d hdm
    obtain ⟨n, hn'⟩ := List.mem_iff_getElem?.1 hdm
    have h2 : (h1.map (·.g))[n]? = some d.g := by rw [List.getElem?_map, hn']; rfl
    have h4 : (h1.map (·.n))[n]? = some d.n := by rw [List.getElem?_map, hn']; rfl
    rw [hg, List.getElem?_map] at h2
    rw [hn, List.getElem?_map] at h4
    cases hc1 : s[n]? with
    | none => rw [hc1] at h2; cases h2
    | some c =>
      rw [hc1] at h2 h4
      exact ⟨c, List.mem_of_getElem? hc1, by simpa using h2, by simpa using h4⟩
  refine ⟨H.os, H.tape, H.output, H.ns, H.size, ?_, ?_, ?_, her fun b hb => H.rw b (List.mem_append_left _ hb), ?_, ?_, fun p hp => ⟨(H.gp p hp).1, fun c hc => by
    obtain ⟨d, hdm, e1, _⟩ := get c hc
    rw [← e1]; exact (H.gp p hp).2.1 d (List.mem_append_left _ hdm), (H.gp p hp).2.2⟩⟩
  · intro c hc
    obtain ⟨d, hdm, e1, e2, _⟩ := get c hc
    rw [← e1, ← e2]; exact H.bl d (List.mem_append_left _ hdm)
  · have h2 := (List.pairwise_append.1 H.nd).1
    have h3 : (h1.map (·.g)).Pairwise (· ≠ ·) := List.pairwise_map.2 h2
    rw [hg] at h3
    exact List.pairwise_map.1 h3
  · intro c hc hcn
    obtain ⟨d, hdm, e1, _, e3⟩ := get c hc
    rw [← e1]; exact H.nw d (List.mem_append_left _ hdm) (e3.trans hcn)
  · intro i hi hf _
    refine H.fr i hi (fun d hdm => ?_) (fun hm => absurd (hj i hm) (Nat.not_le.2 hi))
    rcases List.mem_append.1 hdm with hdm | hdm
    · obtain ⟨c, hc, e, _⟩ := get2 d hdm
      rw [← e]; exact hf c hc
    · exact Nat.ne_of_gt (Nat.lt_of_lt_of_le hi (hr.all d hdm))
  · intro i hi hf
    refine H.en i hi fun d hdm hdn => ?_
    rcases List.mem_append.1 hdm with hdm | hdm
    · obtain ⟨c, hc, e, e2⟩ := get2 d hdm
      rw [← e]; exact hf c hc (e2.trans hdn)
    · rw [hrn d hdm] at hdn; cases hdn

/-- the state meets what a loop keeps -/
def meetK (wE : World) (F : Inv) (st : St) (extra : F.ι → Prop) : Prop := match F.reb with
  | false => ∃ i, liveK st.t (F.live st.b.w i) (blkK st.b.w.heap.size st.h (F.blk st.b.w i) (geJ st.b.w.heap.size st.b.j (Done (F.dom st.b.w i ∧ extra i))))
  | true => ∀ (gh : Gh) w1, HC gh wE st.b st.h w1 → ∃ i, liveK st.t (F.live w1 i) (Done (HC gh wE ⟨w1, []⟩ (F.blk w1 i) w1 ∧ F.dom w1 i ∧ extra i))

/-- the states that a loop keeps -/
def enterK (F : Inv) (b : Base) (n : Nat) (k : F.ι → St → Prop) : Prop := match F.reb with
  | false => ∀ (i : F.ι) (gs : Nat → Value), F.dom b.w i → k i ⟨⟨b.w, []⟩, ⟨n, liveT (F.live b.w i), gs, []⟩, F.blk b.w i⟩
  | true => ∀ (w1 : World) (i : F.ι) (gs : Nat → Value), F.dom w1 i → k i ⟨⟨w1, []⟩, ⟨n, liveT (F.live w1 i), gs, []⟩, F.blk w1 i⟩

theorem Conc.lives {wE w : World} {st : St} {a : Act} {l : List (Nat × Value × Sh)} {b' : Base} {s : List Blk} (C : Conc gh wE st a w) (h1 : ∀ p x s, (p, x, s) ∈ l → (getT st.t p).den st.t.g = x) (H : HC gh wE b' s w) :
    ∃ gs, Conc gh wE ⟨b', ⟨st.t.n, liveT l, gs, []⟩, s⟩ a w := by
  refine ⟨fun p => (getT st.t p).den st.t.g, C.sz, fun i => ?_, WF_live _ _ _, C.df, H⟩
  rw [C.tm i]
  rw [getT_eq ⟨st.t.n, liveT l, _, _⟩ i]
  by_cases hn : i < st.t.n
  · rw [if_pos hn]
    rcases lookR_in (g := []) (l := l) (gs := fun p => (getT st.t p).den st.t.g) (p := i) with ⟨x, s', hx, e⟩ | e
    · show _ = (lookR (liveT l) _ i).den []
      rw [e]; exact h1 i x s' hx
    · show _ = (lookR (liveT l) _ i).den []
      rw [e]
  · rw [if_neg hn, getT_eq, if_neg hn]; rfl

theorem meetK_out {wE w : World} {F : Inv} {st : St} {a : Act} {extra : F.ι → Prop} (C : Conc gh wE st a w) (h : meetK wE F st extra) :
    ∃ w1 i gs, (F.reb = false → w1 = st.b.w) ∧ Conc gh wE ⟨⟨w1, []⟩, ⟨st.t.n, liveT (F.live w1 i), gs, []⟩, F.blk w1 i⟩ a w ∧ F.dom w1 i ∧ extra i := by
  unfold meetK at h
  split at h
  · rename_i hr
    obtain ⟨i, h⟩ := h
    obtain ⟨h1, h⟩ := liveK_out h
    obtain ⟨⟨r, hp, e, e1, e2, e3, er, e4, e5⟩, h⟩ := blkK_out h
    obtain ⟨h2, ⟨hd, hx⟩⟩ := geJ_out h
    have H := C.hc
    rw [e] at H
    obtain ⟨gs, C'⟩ := C.lives h1 (H.cut e1 e2 e3 er e4 e5 h2)
    exact ⟨_, i, gs, fun _ => rfl, C', hd, hx⟩
  · rename_i hr
    obtain ⟨i, h⟩ := h _ w C.hc
    obtain ⟨h1, ⟨H, hd, hx⟩⟩ := liveK_out h
    obtain ⟨gs, C'⟩ := C.lives h1 H
    exact ⟨w, i, gs, (fun e => (by rw [hr] at e; cases e)), C', hd, hx⟩

theorem enterK_out {F : Inv} {b : Base} {n : Nat} {k : F.ι → St → Prop} (h : enterK F b n k) {w1 : World} (hw : F.reb = false → w1 = b.w) (i : F.ι) (gs : Nat → Value) (hd : F.dom w1 i) :
    k i ⟨⟨w1, []⟩, ⟨n, liveT (F.live w1 i), gs, []⟩, F.blk w1 i⟩ := by
  unfold enterK at h
  split at h
  · rename_i hr; obtain rfl := hw hr; exact h i gs hd
  · exact h w1 i gs hd

def ltO (m : Option Nat) (n : Nat) : Prop := match m with
  | none => True
  | some m => n < m

/-- a block, put at a place -/
def putIn : Nat → Blk → List Blk → List Blk
  | 0, d, h => d :: h
  | _ + 1, d, [] => [d]
  | n + 1, d, b :: r => b :: putIn n d r
theorem putIn_perm : ∀ (n : Nat) (d : Blk) (h : List Blk), (putIn n d h).Perm (d :: h)
  | 0, d, h => List.Perm.refl _
  | _ + 1, d, [] => List.Perm.refl _
  | n + 1, d, b :: r => ((putIn_perm n d r).cons b).trans (List.Perm.swap d b r)
/-- a block, taken out -/
def takeOut : Nat → List Blk → Option (Blk × List Blk)
  | _, [] => none
  | 0, b :: r => some (b, r)
  | n + 1, b :: r => match takeOut n r with
    | some (d, q) => some (d, b :: q)
    | none => none
theorem takeOut_perm : ∀ {n : Nat} {h : List Blk} {d : Blk} {q : List Blk}, takeOut n h = some (d, q) → h.Perm (d :: q)
  | 0, b :: r, d, q, e => by cases e; exact List.Perm.refl _
  | n + 1, b :: r, d, q, e => by
    unfold takeOut at e
    split at e
    · rename_i d' q' h
      cases e
      exact ((takeOut_perm h).cons b).trans (List.Perm.swap d b q')
    · cases e
def mvOne (i j : Nat) (h : List Blk) : List Blk := match takeOut j h with
  | some (d, q) => putIn i d q
  | none => h
theorem mvOne_perm (i j : Nat) (h : List Blk) : (mvOne i j h).Perm h := by
  unfold mvOne
  split
  · rename_i d q e; exact (putIn_perm i d q).trans (takeOut_perm e).symm
  · exact List.Perm.refl _
/-- where a block is that was at place k, when the one at j was brought to i -/
def mvIx (i j k : Nat) : Nat := match Nat.beq k j with
  | true => i
  | false => match Nat.blt k j, Nat.ble i k with
    | true, true => k + 1
    | false, false => k - 1
    | false, true => match Nat.ble i (k - 1) with
      | true => k
      | false => k - 1
    | true, false => k
/-- the blocks of which these temporaries tell are brought to these places; ix: where a block is now that was at a place -/
def mvK (t : TM) : List (Nat × Nat) → (Nat → Nat) → List Blk → List Blk
  | [], _, h => h
  | (p, i) :: r, ix, h => match hd1 (getT t p).s with
    | some k => mvK t r (fun x => mvIx i (ix k) (ix x)) (mvOne i (ix k) h)
    | none => mvK t r ix h
theorem mvK_perm (t : TM) : ∀ (l : List (Nat × Nat)) (ix : Nat → Nat) (h : List Blk), (mvK t l ix h).Perm h
  | [], _, h => List.Perm.refl _
  | (p, i) :: r, ix, h => by
    unfold mvK
    split
    · exact (mvK_perm t r _ _).trans (mvOne_perm _ _ _)
    · exact mvK_perm t r ix h
theorem HC.perm {wE w : World} {b : Base} {h h' : List Blk} (H : HC gh wE b h w) (e : h'.Perm h) : HC gh wE b h' w := by
  refine ⟨H.os, H.tape, H.output, H.ns, H.size, fun d hd => H.bl d (e.mem_iff.1 hd), ?_, fun d hd => H.nw d (e.mem_iff.1 hd), fun d hd => H.rw d (e.mem_iff.1 hd), fun i hi hf hj => H.fr i hi (fun d hd => hf d (e.mem_iff.2 hd)) hj, fun i hi hf => H.en i hi fun d hd => hf d (e.mem_iff.2 hd), fun p hp => ⟨(H.gp p hp).1, fun d hd => (H.gp p hp).2.1 d (e.mem_iff.1 hd), (H.gp p hp).2.2⟩⟩
  exact (List.Perm.pairwise_iff (fun {a b} hab => Ne.symm hab) e).2 H.nd
theorem Conc.mv {wE w : World} {b : Base} {t : TM} {h h' : List Blk} {a : Act} (C : Conc gh wE ⟨b, t, h⟩ a w) (e : h'.Perm h) : Conc gh wE ⟨b, t, h'⟩ a w := ⟨C.sz, C.tm, C.wf, C.df, C.hc.perm e⟩

/-- the state meets one of those that may be kept; m: below this measure -/
def joinK (wE : World) (n0 : Nat) (w0 : World) (m : Option Nat) (F : Inv) (st : St) : Prop := Nat.beq st.t.n n0 = true ∧ (match bEq F.reb true with
  | true => True
  | false => st.b.w = w0) ∧ (match st with
    | ⟨b, t, h⟩ => meetK wE F ⟨b, t, mvK t F.mv (fun x => x) h⟩ fun j => ltO m (F.μ j))

theorem joinK_out {wE w : World} {n0 : Nat} {w0 : World} {m : Option Nat} {F : Inv} {st : St} {a : Act} (C : Conc gh wE st a w) (h : joinK wE n0 w0 m F st) :
    ∃ w1 i gs, (F.reb = false → w1 = w0) ∧ Conc gh wE ⟨⟨w1, []⟩, ⟨n0, liveT (F.live w1 i), gs, []⟩, F.blk w1 i⟩ a w ∧ F.dom w1 i ∧ ltO m (F.μ i) := by
  obtain ⟨b, t, h'⟩ := st
  obtain ⟨hl, hr, hm⟩ := h
  obtain ⟨w1, i, gs, e1, C', hd, hx⟩ := meetK_out (C.mv (mvK_perm t F.mv (fun x => x) h')) hm
  have hl := Nat.eq_of_beq_eq_true hl
  simp only at hl
  subst hl
  refine ⟨w1, i, gs, fun e => (e1 e).trans ?_, C', hd, hx⟩
  rw [e] at hr
  exact hr

def joinL (wE : World) (n0 : Nat) (w0 : World) (m : Option Nat) (st : St) : List Inv → Prop
  | [] => False
  | [F] => joinK wE n0 w0 m F st
  | F :: G :: r => joinK wE n0 w0 m F st ∨ joinL wE n0 w0 m st (G :: r)

def enterL (b : Base) (n : Nat) (k : (F : Inv) → F.ι → St → Prop) : List Inv → Prop
  | [] => True
  | [F] => enterK F b n (k F)
  | F :: G :: r => enterK F b n (k F) ∧ enterL b n k (G :: r)

theorem joinL_out {wE : World} {n0 : Nat} {w0 : World} {m : Option Nat} {st : St} : ∀ {l : List Inv}, joinL wE n0 w0 m st l → ∃ F ∈ l, joinK wE n0 w0 m F st
  | [], h => h.elim
  | [F], h => ⟨F, List.mem_cons_self, h⟩
  | F :: G :: r, h => by
    rcases h with h | h
    · exact ⟨F, List.mem_cons_self, h⟩
    · obtain ⟨F', hm, h⟩ := joinL_out h
      exact ⟨F', List.mem_cons_of_mem _ hm, h⟩

theorem enterL_out {b : Base} {n : Nat} {k : (F : Inv) → F.ι → St → Prop} : ∀ {l : List Inv}, enterL b n k l → ∀ F ∈ l, enterK F b n (k F)
  | [F], h, F', hm => by obtain rfl := List.mem_singleton.1 hm; exact h
  | F :: G :: r, h, F', hm => by
    rcases List.mem_cons.1 hm with rfl | hm
    · exact h.1
    · exact enterL_out h.2 F' hm

theorem wp_loop_ix {P : Program} {Q : Exit → Act → World → Prop} {c : Code} {ι : Type _} (I : ι → Act → World → Prop) (μ : ι → Nat)
    (round : ∀ i a w, I i a w → c.wp P (Exit.then (fun a' w' => ∃ j, I j a' w' ∧ μ j < μ i) Q) a w) : ∀ i a w, I i a w → (Code.loop c).wp P Q a w := by
  have key : ∀ n i a w, μ i < n → I i a w → Code.rounds P c Q n a w := by
    intro n
    induction n with
    | zero => intro i a w hlt _; omega
    | succ n ih =>
      intro i a w hlt hI
      rw [rounds_succ]
      refine wp_mono (round i a w hI) fun e a' w' h => ?_
      cases e with
      | normal => obtain ⟨j, hj, hm⟩ := h; exact ih j a' w' (by omega) hj
      | _ => exact h
  exact fun i a w hI => wp_loop_rounds (μ i + 1) (key _ i a w (Nat.lt_succ_self _) hI)

/-- how a walk goes: the types, which functions are walked in place, which regions have their loads in all orders, whether guards are told by their values, what loops and cuts keep, the contracts -/
structure Cfg (P : Program) where
  T : TT P
  inl : FuncId → Bool
  ex : Nat → Bool
  sym : Bool
  inv : Nat → Option (St → List Inv)
  cut : Nat → Option (St → List Inv)
  pv : PV
  spec : CV

def blockK (id : Nat) (K : Exit → St → Prop) : Exit → St → Prop
  | .exit id', st => match Nat.beq id' id with
    | true => K .normal st
    | false => K (.exit id') st
  | e, st => K e st

def thenK (next : St → Prop) (K : Exit → St → Prop) : Exit → St → Prop
  | .normal, st => next st
  | e, st => K e st

def noGotoK (K : Exit → St → Prop) : Exit → St → Prop
  | .goto _, _ => False
  | e, st => K e st

def retK (P : Program) (fn : Func) (K : Base → Value → Sh → List Blk → Prop) : Exit → St → Prop
  | .normal, st => resK P fn.results.toList st.t st.h fun l => finK l fun v s => K st.b v s st.h
  | .ret, st => resK P fn.results.toList st.t st.h fun l => finK l fun v s => K st.b v s st.h
  | _, _ => False

def codeVC {P : Program} (G : Cfg P) (wE : World) : Nat → Code → St → (Exit → St → Prop) → Prop
  | 0, _, _, _ => False
  | n + 1, c, st, K =>
    let cv : CV := fun f args sh b h K => match G.inl f with
      | true => match P.funcs[f]? with
        | some fn => match fn.body with
          | some c => codeVC G wE n c ⟨b, mkT fn.ntmps args sh, h⟩ (retK P fn K)
          | none => False
        | none => False
      | false => match G.pv f args with
        | some (p, v) => askK none p (forceW v fun v => K b v [] h)
        | none => G.spec f args sh b h K
    match c with
    | .skip => K .normal st
    | .label _ => K .normal st
    | .region _ ops false => opsVC P G.T wE cv G.pv G.sym ops ops.toList st (K .normal)
    | .region id ops true => P.follows .mixedOrders = true ∧ (match Nat.beq (readN G.T ops.toList) ops.size && Region.lexB .any ops with
      | true => rseqVC P G.T wE G.sym ops ops.toList st (K .normal)
      | false => match Region.lexTailB .any ops (readN G.T ops.toList) with
        | true => rseqVC P G.T wE G.sym ops (ops.toList.take (readN G.T ops.toList)) st fun st' => opsVC P G.T wE cv G.pv G.sym ops (ops.toList.drop (readN G.T ops.toList)) st' (K .normal)
        | false => match headOk ops (readN G.T ops.toList) with
          | true => rseqVC P G.T wE G.sym ops (ops.toList.take (readN G.T ops.toList)) st fun st' => anyVC P G.T (G.ex id) wE cv G.pv G.sym ops (ops.size - readN G.T ops.toList) none [] (afterHead ops (readN G.T ops.toList) 0 (Array.replicate ops.size false)) st' (K .normal)
          | false => anyVC P G.T (G.ex id) wE cv G.pv G.sym ops ops.size none [] (Array.replicate ops.size false) st (K .normal))
    | .seq a b => match G.cut (firstId b) with
      | none => codeVC G wE n a st (thenK (fun st' => codeVC G wE n b st' K) K)
      | some F => codeVC G wE n a st (thenK (fun st' => joinL wE st.t.n st.b.w none st' (F st)) K) ∧ enterL st.b st.t.n (fun _ _ st' => codeVC G wE n b st' K) (F st)
    | .cond x a b => resO [] [x] st.t fun t => match evT t x with
      | .bool y => match x with
        | .tmp d => br y (codeVC G wE n a ⟨st.b, setT t d ⟨.bool true, [], [], true, none⟩, st.h⟩ K) (codeVC G wE n b ⟨st.b, setT t d ⟨.bool false, [], [], true, none⟩, st.h⟩ K)
        | _ => br y (codeVC G wE n a ⟨st.b, t, st.h⟩ K) (codeVC G wE n b ⟨st.b, t, st.h⟩ K)
      | _ => False
    | .block id a => codeVC G wE n a st (blockK id K)
    | .exit id => K (.exit id) st
    | .ret => K .ret st
    | .scope a => codeVC G wE n a st (noGotoK K)
    | .loop a => match G.inv (firstId a) with
      | none => codeVC G wE n a st (thenK (fun st' => codeVC G wE n (.loop a) st' K) K)
      | some F => joinL wE st.t.n st.b.w none st (F st) ∧
          enterL st.b st.t.n (fun I i st1 => codeVC G wE n a st1 (thenK (fun st' => joinL wE st.t.n st.b.w (some (I.μ i)) st' (F st)) K)) (F st)
    | _ => False

theorem Post.mk {wE : World} {K : Exit → St → Prop} {e : Exit} {a : Act} {w : World} {st : St} (hp : ∀ c, e ≠ .panic c) (C : Conc gh wE st a w) (h : K e st) : Post gh wE K e a w := by
  cases e <;> first | exact ⟨st, C, h⟩ | exact absurd rfl (hp _)

theorem Post.then {wE : World} {K : Exit → St → Prop} {n : St → Prop} {N : Act → World → Prop} (hn : ∀ st a w, Conc gh wE st a w → n st → N a w) (e : Exit) (a : Act) (w : World)
    (h : Post gh wE (thenK n K) e a w) : Exit.then N (Post gh wE K) e a w := by
  cases e <;> first
    | exact h.elim
    | (obtain ⟨st, C, h⟩ := h; first | exact hn st a w C h | exact ⟨st, C, h⟩)

theorem Post.block {wE : World} {K : Exit → St → Prop} {id : Nat} (e : Exit) (a : Act) (w : World)
    (h : Post gh wE (blockK id K) e a w) : Exit.inBlock id (Post gh wE K) e a w := by
  cases e with
  | exit id' =>
    obtain ⟨st, C, h⟩ := h
    simp only [Exit.inBlock]
    simp only [blockK] at h
    split
    · rename_i he; subst he; rw [show Nat.beq id' id' = true from Nat.beq_refl id'] at h; exact ⟨st, C, h⟩
    · rename_i he
      have : Nat.beq id' id = false := by
        cases hb : Nat.beq id' id
        · rfl
        · exact absurd (Nat.eq_of_beq_eq_true hb) he
      rw [this] at h; exact ⟨st, C, h⟩
  | panic c => exact h.elim
  | _ => exact h

theorem Post.noGoto {wE : World} {K : Exit → St → Prop} (e : Exit) (a : Act) (w : World)
    (h : Post gh wE (noGotoK K) e a w) : Exit.noGoto (Post gh wE K) e a w := by
  cases e with
  | goto l => obtain ⟨st, C, h⟩ := h; exact h.elim
  | panic c => exact h.elim
  | _ => exact h

theorem Post.ret {P : Program} {wE : World} {fn : Func} {K : Base → Value → Sh → List Blk → Prop} (e : Exit) (a : Act) (w : World) (h : Post gh wE (retK P fn K) e a w) :
    bodyPost P fn (fun e w' => ∃ v s b' h', e = .returned v ∧ HC gh wE b' h' w' ∧ K b' v s h') e a w := by
  have key : ∀ st, Conc gh wE st a w → (resK P fn.results.toList st.t st.h fun l => finK l fun v s => K st.b v s st.h) → a.defers = [] ∧ ∃ v, (results fn a.tmps).run P w = .ok v w ∧ (∃ v' s b' h', Ending.returned v = .returned v' ∧ HC gh wE b' h' w ∧ K b' v' s h') := by
    intro st C h
    obtain ⟨v, s, hx, hk⟩ := resK_results C h
    exact ⟨C.df, v, hx, v, s, st.b, st.h, rfl, C.hc, hk⟩
  cases e with
  | normal => obtain ⟨st, C, h⟩ := h; exact key st C h
  | ret => obtain ⟨st, C, h⟩ := h; exact key st C h
  | panic c => exact h.elim
  | _ => obtain ⟨st, C, h⟩ := h; exact h.elim

theorem mkT_conc {wE w : World} {b : Base} {h : List Blk} (n : Nat) (args : List Value) (sh : List Sh) (H : HC gh wE b h w) :
    Conc gh wE ⟨b, mkT n args sh, h⟩ { tmps := args.toArray ++ Array.replicate (n - args.toArray.size) undef, defers := [] } w := by
  have hg : ∀ i, getT (mkT n args sh) i = if i < args.length + (n - args.length) then lookR (mkArgs 0 args sh) (fun _ => undef) i else noAV := fun i => getT_eq _ _
  refine ⟨by simp [mkT], fun i => ?_, fun i => ?_, rfl, H⟩
  · show _ = (getT (mkT n args sh) i).den []
    rw [hg]
    have h1 := mkArgs_look args 0 sh i
    rw [Nat.zero_add] at h1
    by_cases hi : i < args.length + (n - args.length)
    · rw [if_pos hi, h1]
      simp only [Array.getD_eq_getD_getElem?, List.size_toArray]
      by_cases hl : i < args.length
      · simp [Array.getElem?_append, hl]
      · simp only [Array.getElem?_append, List.size_toArray, hl, if_false]
        rw [List.getElem?_eq_none_iff.2 (by omega)]
        rw [Array.getElem?_replicate]
        split <;> rfl
    · rw [if_neg hi]
      simp only [Array.getD_eq_getD_getElem?]
      rw [Array.getElem?_eq_none (by simp; omega)]
      rfl
  · rw [hg]
    split
    · have : ∀ (l : List Value) (k : Nat) (s : List Sh), AVok [] (lookR (mkArgs k l s) (fun _ => undef) i) := by
        intro l
        induction l with
        | nil => intro k s; cases s <;> exact AVok_pl _ _ _
        | cons v r ih =>
          intro k s
          cases s with
          | nil => simp only [mkArgs, lookR_cons]; split
                   · exact AVok_pl _ _ _
                   · exact ih _ _
          | cons x q => simp only [mkArgs, lookR_cons]; split
                        · exact AVok_pl _ _ _
                        · exact ih _ _
      exact this args 0 sh
    · exact AVok_pl _ _ _

theorem reb_side {F : Inv} {b : Base} {st : St} (h : match bEq F.reb true with
    | true => True
    | false => st.b.w = b.w) : F.reb = false → st.b.w = b.w := by
  intro hr
  rw [hr] at h
  exact h

/-- the code, and a loop's rounds -/
theorem codeVC_both {P : Program} {G : Cfg P} {wE : World} (hs : CVok P wE G.spec) (hpv : PVok P G.pv) : ∀ (n : Nat),
    (∀ {gh : Gh} (c : Code) (st : St) (K : Exit → St → Prop) (a : Act) (w : World), Conc gh wE st a w → codeVC G wE n c st K → c.wp P (Post gh wE K) a w) ∧
    (∀ {gh : Gh} (c : Code), G.inv (firstId c) = none → ∀ (st : St) (K : Exit → St → Prop) (a : Act) (w : World), Conc gh wE st a w → codeVC G wE n (.loop c) st K → Code.rounds P c (Post gh wE K) n a w)
  | 0 => ⟨fun _ _ _ _ _ _ h => h.elim, fun _ _ _ _ _ _ _ h => h.elim⟩
  | n + 1 => by
    obtain ⟨ih, ihl⟩ := codeVC_both hs hpv n
    have hcv : CVok P wE (fun f args sh b h K => match G.inl f with
      | true => match P.funcs[f]? with
        | some fn => match fn.body with
          | some c => codeVC G wE n c ⟨b, mkT fn.ntmps args sh, h⟩ (retK P fn K)
          | none => False
        | none => False
      | false => match G.pv f args with
        | some (p, v) => askK none p (forceW v fun v => K b v [] h)
        | none => G.spec f args sh b h K) := by
      intro gh f args sh b h K w H hk
      split at hk
      · split at hk
        · rename_i fn hf
          split at hk
          · rename_i c hb
            refine calls_of_wp hf hb ?_
            exact wp_mono (ih _ _ _ _ _ (mkT_conc _ args sh H) hk) fun e a w => Post.ret e a w
          · exact hk.elim
        · exact hk.elim
      · split at hk
        · rename_i p v hp
          obtain ⟨h1, h2⟩ := askK_out hk
          rw [forceW_eq] at h2
          exact (hpv f args p v w hp (h1 trivial)).mono fun e w' ⟨he, hb⟩ => ⟨v, [], b, h, he, H.step hb, h2⟩
        · exact hs f args sh b h K w H hk
    have hrounds : ∀ (gh : Gh) (c : Code), G.inv (firstId c) = none → ∀ (st : St) (K : Exit → St → Prop) (a : Act) (w : World), Conc gh wE st a w → codeVC G wE (n + 1) (.loop c) st K → Code.rounds P c (Post gh wE K) (n + 1) a w := by
      intro gh c hu st K a w C h
      simp only [codeVC, hu] at h
      rw [rounds_succ]
      exact wp_mono (ih c st _ a w C h) fun e a w => Post.then (fun st a w C h => ihl c hu st K a w C h) e a w
    refine ⟨fun {gh} c st K a w C h => ?_, fun {gh} => hrounds gh⟩
    cases c with
    | skip => exact wp_skip (Post.mk (by simp) C h)
    | label l => exact wp_label (Post.mk (by simp) C h)
    | region id ops draw =>
      cases draw with
      | false => exact wp_region_list (opsVC_sound hcv hpv (fun st' a' w' C' h' => Post.mk (by simp) C' h') _ _ _ _ C h)
      | true =>
        obtain ⟨hm, h⟩ := h
        have C1 : Conc gh wE st a { w with drawn := w.drawn + 1 } := ⟨C.sz, C.tm, C.wf, C.df, C.hc.drawn _⟩
        split at h
        · rename_i hb
          simp only [Bool.and_eq_true] at hb
          exact wp_region_still hm hb.2 (rseqVC_sound (fun st' a' C' h' => Post.mk (by simp) C' h') _ _ _ C1 h)
        split at h
        · rename_i hb
          have := wp_region_still_tail (P := P) (id := id) (Q := Post gh wE K) (a := a) (w := w) (l := ops.toList) (readN G.T ops.toList) hm (by simpa using hb)
            (rseqVC_sound (fun st' a' C' h' => opsVC_sound hcv hpv (fun st' a' w' C' h' => Post.mk (by simp) C' h') _ _ _ _ C' h') _ _ _ C1 h)
          simpa using this
        split at h
        · rename_i hb
          exact wp_region_head (readN G.T ops.toList) hm hb (rseqVC_sound (fun st' a' C' h' => wpAny_of_P _ _ _ _ _ ((anyVC_sound hcv hpv (fun st' a' w' C' h' => Post.mk (by simp) C' h') (fun c a w q => q.elim) _).1 _ _ _ _ _ C' (fun _ h => (by cases h)) h')) _ _ _ C1 h)
        exact wp_region_any hm (wpAny_of_P _ _ _ _ _ ((anyVC_sound hcv hpv (fun st' a' w' C' h' => Post.mk (by simp) C' h') (fun c a w q => q.elim) _).1 _ _ _ _ _ C1 (fun _ h => (by cases h)) h))
    | seq x y =>
      unfold codeVC at h
      simp only at h
      split at h
      · exact wp_seq (wp_mono (ih x st _ a w C h) fun e a w => Post.then (fun st a w C h => ih y st K a w C h) e a w)
      · rename_i F hF
        generalize F st = L at h
        obtain ⟨h1, h2⟩ := h
        refine wp_seq (wp_mono (ih x st _ a w C h1) fun e a w => Post.then (fun st' a w C' h' => ?_) e a w)
        obtain ⟨I, hI, hm⟩ := joinL_out h'
        obtain ⟨w1, i, gs, e1, C'', hd, _⟩ := joinK_out C' hm
        exact ih y _ K a w C'' (enterK_out (enterL_out h2 I hI) e1 i gs hd)
    | cond x p q =>
      unfold codeVC at h
      simp only at h
      obtain ⟨t, hg0, hs, h⟩ := resO_out h
      have C := C.same (hs rfl)
      split at h
      · rename_i y hy
        have hy' : a.eval x = .bool y := by rw [C.eval]; exact hy
        cases x with
        | tmp d =>
          have hs : ∀ (c : Bool), y = c → Same (setT t d ⟨.bool c, [], [], true, none⟩) t := fun c e => Same.set (fun _ => AVok_k _ _ _ _) (by rw [← e]; exact hy.symm)
          cases y with
          | true => exact wp_cond hy' (ih p _ K a w (C.same (hs true rfl)) h)
          | false => exact wp_cond hy' (ih q _ K a w (C.same (hs false rfl)) h)
        | _ => exact wp_cond_split hy' (fun e => ih p _ K a w C (br_true h e)) (fun e => ih q _ K a w C (br_false h e))
      · exact h.elim
    | block id x => exact wp_block (wp_mono (ih x st _ a w C h) fun e a w => Post.block e a w)
    | exit id => exact wp_exit (Post.mk (by simp) C h)
    | ret => exact wp_ret (Post.mk (by simp) C h)
    | scope x => exact wp_scope_straight (wp_mono (ih x st _ a w C h) fun e a w => Post.noGoto e a w)
    | loop x =>
      cases hi : G.inv (firstId x) with
      | none => exact wp_loop_rounds _ (hrounds gh x hi st K a w C h)
      | some F =>
        simp only [codeVC, hi] at h
        generalize F st = L at h
        obtain ⟨h0, h⟩ := h
        obtain ⟨I0, hI0, h0⟩ := joinL_out h0
        obtain ⟨w1, i0, gs0, e1, C0, hd0, _⟩ := joinK_out C h0
        refine wp_loop_ix (ι := (I : Inv) × I.ι) (μ := fun (p : (I : Inv) × I.ι) => p.1.μ p.2) (fun (p : (I : Inv) × I.ι) a w => p.1 ∈ L ∧ ∃ w1 gs, (p.1.reb = false → w1 = st.b.w) ∧ Conc gh wE ⟨⟨w1, []⟩, ⟨st.t.n, liveT (p.1.live w1 p.2), gs, []⟩, p.1.blk w1 p.2⟩ a w ∧ p.1.dom w1 p.2) ?_ (⟨I0, i0⟩ : (I : Inv) × I.ι) a w
          ⟨hI0, w1, gs0, e1, C0, hd0⟩
        intro ⟨I, i⟩ a w ⟨hI, w1, gs, e1, Ci, hd⟩
        have hk := enterK_out (enterL_out h I hI) e1 i gs hd
        refine wp_mono (ih x _ _ a w Ci hk) fun e a w => Post.then (fun st' a' w' C' h' => ?_) e a w
        obtain ⟨J, hJ, hm⟩ := joinL_out h'
        obtain ⟨w2, j, gs', e2, C'', hd', hlt⟩ := joinK_out C' hm
        exact ⟨⟨J, j⟩, ⟨hJ, w2, gs', e2, C'', hd'⟩, hlt⟩
    | _ => exact h.elim

theorem calls {P : Program} {G : Cfg P} {wE w : World} (hs : CVok P wE G.spec) (hpv : PVok P G.pv) (n : Nat) {f : FuncId} {fn : Func} {c : Code} (hf : P.funcs[f]? = some fn) (hb : fn.body = some c)
    {args : List Value} (sh : List Sh) {b : Base} {h : List Blk} {K : Base → Value → Sh → List Blk → Prop} (H : HC gh wE b h w)
    (hv : codeVC G wE n c ⟨b, mkT fn.ntmps args sh, h⟩ (retK P fn K)) :
    Calls P f args.toArray w fun e w' => ∃ v s b' h', e = .returned v ∧ HC gh wE b' h' w' ∧ K b' v s h' :=
  calls_of_wp hf hb (wp_mono ((codeVC_both hs hpv n).1 _ _ _ _ _ (mkT_conc _ args sh H) hv) fun e a w => Post.ret e a w)

/-! ### contracts -/
theorem noCV_ok (P : Program) (wE : World) : CVok P wE (fun _ _ _ _ _ _ => False) := fun _ _ _ _ _ _ _ _ h => h.elim
def noCV (_ : World) : CV := fun _ _ _ _ _ _ => False
theorem noCV_ok' (P : Program) (wE : World) : CVok P wE (noCV wE) := fun _ _ _ _ _ _ _ _ h => h.elim
def noPV : PV := fun _ _ => none
theorem noPV_ok (P : Program) : PVok P noPV := fun _ _ _ _ _ h => (by cases h)

/-- a function more that reckons -/
def addPV (f0 : Nat) (pat : List Value → Option (Option Prop × Value)) (rest : PV) : PV := fun f args => match Nat.beq f f0 with
  | true => pat args
  | false => rest f args

theorem addPV_ok {P : Program} {f0 : Nat} {pat : List Value → Option (Option Prop × Value)} {rest : PV}
    (hc : ∀ args p v w, pat args = some (p, v) → (∀ q, p = some q → q) → Calls P f0 args.toArray w fun e w' => e = .returned v ∧ Below w.heap.size w w') (hr : PVok P rest) : PVok P (addPV f0 pat rest) := by
  intro f args p v w h hp
  unfold addPV at h
  split at h
  · rename_i hf
    obtain rfl := Nat.eq_of_beq_eq_true hf
    exact hc args p v w h hp
  · exact hr f args p v w h hp

def noFar : Nat → Bool := fun _ => false
def noInv : Nat → Option (St → List Inv) := fun _ => none

def newK (h : List Blk) (p : Prop) : Prop := match allNewB h with
  | true => p
  | false => False

theorem newK_out {h : List Blk} {p : Prop} (k : newK h p) : allNewB h = true ∧ p := by
  unfold newK at k
  split at k
  · rename_i hn; exact ⟨hn, k⟩
  · exact k.elim

theorem HC.below {wE w : World} {b : Base} {h : List Blk} (H : HC gh wE b h w) (hn : allNewB h = true) : Below wE.heap.size wE w :=
  ⟨H.os, H.tape, H.output, H.le, fun i hi => H.old hn i hi⟩

/-- a call that changes nothing but its receiver's block -/
structure Keep (g : Nat) (c : List Value) (ty : TypeId) (w w' : World) : Prop where
  os : w'.os = w.os
  tape : w'.tape = w.tape
  output : w'.output = w.output
  size : w.heap.size ≤ w'.heap.size
  at_ : w'.heap[g]? = some (.cells c.toArray ty (0, 0))
  block : ∀ i, i < w.heap.size → i ≠ g → w'.heap[i]? = w.heap[i]?

theorem HC.start1 {w : World} {g : Nat} {c : List Value} {ty : TypeId} (hg : w.heap[g]? = some (.cells c.toArray ty (0, 0))) (s : List (Option Nat)) : HC [] w ⟨w, []⟩ [⟨g, c, ty, s, none, false, .lit⟩] w :=
  ⟨rfl, rfl, rfl, Nat.le_refl _, Nat.le_refl _, fun b hb => by obtain rfl := List.mem_singleton.1 hb; exact hg, List.pairwise_singleton _ _, (fun b hb hn => by obtain rfl := List.mem_singleton.1 hb; cases hn), (fun b hb => by obtain rfl := List.mem_singleton.1 hb; trivial), (fun _ _ _ _ => rfl), (fun _ _ _ => rfl), fun _ h => by cases h⟩

def stK (g : Nat) (ty : TypeId) (h : List Blk) (p : List Value → Prop) : Prop := match h with
  | ⟨g', c, ty', _, none, false, _⟩ :: r => (g' = g ∧ ty' = ty) ∧ newK r (p c)
  | _ => False

theorem stK_out {w w' : World} {b : Base} {g : Nat} {ty : TypeId} {h : List Blk} {p : List Value → Prop} (H : HC gh w b h w') (k : stK g ty h p) : ∃ c, Keep g c ty w w' ∧ p c := by
  unfold stK at k
  split at k
  · rename_i g' c ty' s y r
    obtain ⟨⟨rfl, rfl⟩, k⟩ := k
    obtain ⟨hn, k⟩ := newK_out k
    refine ⟨c, ⟨H.os, H.tape, H.output, H.le, H.bl _ List.mem_cons_self, fun i hi hne => H.en i hi fun d hd hdn => ?_⟩, k⟩
    rcases List.mem_cons.1 hd with rfl | hd
    · exact Ne.symm hne
    · rw [allNewB_out hn d hd] at hdn; cases hdn
  · exact k.elim

theorem HC.kept {wE w w' : World} {b : Base} {h : List Blk} {i g : Nat} {c c' : List Value} {ty : TypeId} {s : List (Option Nat)} {n : Bool} (H : HC gh wE b h w) (hi : h[i]? = some ⟨g, c, ty, s, none, n, .lit⟩) (k : Keep g c' ty w w') :
    HC gh wE b (h.set i ⟨g, c', ty, s, none, n, .lit⟩) w' :=
  H.chg hi rfl rfl (fun _ => trivial) k.os k.tape k.output k.size fun r hr => by
    by_cases e : r = g
    · subst e; rw [if_pos rfl]; exact k.at_
    · rw [if_neg e]; exact k.block r hr e

/-- a function that reckons, and leaves what it was given -/
def addPure (f0 : Nat) (pat : List Value → Option Value) (rest : CV) : CV := fun f args sh b h K => match Nat.beq f f0 with
  | true => match pat args with
    | some v => forceW v fun v => K b v [] h
    | none => False
  | false => rest f args sh b h K

theorem addPure_ok {P : Program} {wE : World} {f0 : Nat} {pat : List Value → Option Value} {rest : CV}
    (hc : ∀ args v w, pat args = some v → Calls P f0 args.toArray w fun e w' => e = .returned v ∧ Below w.heap.size w w') (hr : CVok P wE rest) :
    CVok P wE (addPure f0 pat rest) := by
  intro gh f args sh b h K w H hk
  unfold addPure at hk
  split at hk
  · rename_i hf
    obtain rfl := Nat.eq_of_beq_eq_true hf
    split at hk
    · rename_i v hv
      rw [forceW_eq] at hk
      exact (hc args v w hv).mono fun e w' ⟨he, hb⟩ => ⟨v, [], b, h, he, H.step hb, hk⟩
    · exact hk.elim
  · exact hr f args sh b h K w H hk

/-- the same, under a condition -/
def addCond (f0 : Nat) (pat : List Value → Option (Prop × Value)) (rest : CV) : CV := fun f args sh b h K => match Nat.beq f f0 with
  | true => match pat args with
    | some (p, v) => p ∧ forceW v fun v => K b v [] h
    | none => False
  | false => rest f args sh b h K

theorem addCond_ok {P : Program} {wE : World} {f0 : Nat} {pat : List Value → Option (Prop × Value)} {rest : CV}
    (hc : ∀ args p v w, pat args = some (p, v) → p → Calls P f0 args.toArray w fun e w' => e = .returned v ∧ Below w.heap.size w w') (hr : CVok P wE rest) :
    CVok P wE (addCond f0 pat rest) := by
  intro gh f args sh b h K w H hk
  unfold addCond at hk
  split at hk
  · rename_i hf
    obtain rfl := Nat.eq_of_beq_eq_true hf
    split at hk
    · rename_i p v hv
      obtain ⟨hp, hk⟩ := hk
      rw [forceW_eq] at hk
      exact (hc args p v w hv hp).mono fun e w' ⟨he, hb⟩ => ⟨v, [], b, h, he, H.step hb, hk⟩
    · exact hk.elim
  · exact hr f args sh b h K w H hk

/-- a function that makes something, of which a relation tells; the base is the world behind it -/
def addRel {σ ρ : Type} (wE : World) (f0 : Nat) (pat : List Value → Option σ) (pre : World → σ → Prop) (R : World → σ → World → ρ → Prop) (val : σ → ρ → Value) (rs : Sh) (rest : CV) : CV := fun f args sh b h K => match Nat.beq f f0 with
  | true => match pat args with
    | some a => ∀ w, HC [] wE b h w → pre w a ∧ ∀ w' x, Below w.heap.size w w' → R w a w' x → forceW (val a x) fun v => K ⟨w', []⟩ v rs h
    | none => False
  | false => rest f args sh b h K

theorem addRel_ok {σ ρ : Type} {P : Program} {wE : World} {f0 : Nat} {pat : List Value → Option σ} {pre : World → σ → Prop} {R : World → σ → World → ρ → Prop} {val : σ → ρ → Value} {rs : Sh} {rest : CV}
    (hc : ∀ args a w, pat args = some a → pre w a → Calls P f0 args.toArray w fun e w' => ∃ x, e = .returned (val a x) ∧ Below w.heap.size w w' ∧ R w a w' x) (hr : CVok P wE rest) :
    CVok P wE (addRel wE f0 pat pre R val rs rest) := by
  intro gh f args sh b h K w H hk
  unfold addRel at hk
  split at hk
  · rename_i hf
    obtain rfl := Nat.eq_of_beq_eq_true hf
    split at hk
    · rename_i a ha
      obtain ⟨hp, hk⟩ := hk w H.drop
      refine (hc args a w ha hp).mono fun e w' ⟨x, he, hb, hR⟩ => ?_
      have hk := hk w' x hb hR
      rw [forceW_eq] at hk
      exact ⟨_, rs, _, h, he, (H.step hb).rebase, hk⟩
    · exact hk.elim
  · exact hr f args sh b h K w H hk

/-- a method: its receiver's block is another one behind it -/
def addSt (f0 : Nat) (ty : TypeId) (pat : List Value → List Value → Option (Value × List Value)) (rest : CV) : CV := fun f args sh b h K => match Nat.beq f f0 with
  | true => match args, hd1 (match sh with
      | s :: _ => s
      | [] => []) with
    | .pointer (some ⟨g, 0, none⟩) :: r, some i => match h[i]? with
      | some ⟨g', c, e, s, none, n, .lit⟩ => (g' = g ∧ e = ty) ∧ match pat r c with
        | some (v, c') => forceW v fun v => forceL c' fun c' => setK h i ⟨g', c', e, s, none, n, .lit⟩ fun h => K b v [] h
        | none => False
      | _ => False
    | _, _ => False
  | false => rest f args sh b h K

theorem addSt_ok {P : Program} {wE : World} {f0 : Nat} {ty : TypeId} {pat : List Value → List Value → Option (Value × List Value)} {rest : CV}
    (hc : ∀ r g c v c' w, pat r c = some (v, c') → w.heap[g]? = some (.cells c.toArray ty (0, 0)) → Calls P f0 (.pointer (some ⟨g, 0, none⟩) :: r).toArray w fun e w' => e = .returned v ∧ Keep g c' ty w w') (hr : CVok P wE rest) :
    CVok P wE (addSt f0 ty pat rest) := by
  intro gh f args sh b h K w H hk
  unfold addSt at hk
  split at hk
  · rename_i hf
    obtain rfl := Nat.eq_of_beq_eq_true hf
    split at hk
    · rename_i g r i hi0
      split at hk
      · rename_i g' c e s n hi
        obtain ⟨⟨rfl, rfl⟩, hk⟩ := hk
        split at hk
        · rename_i v c' hp
          simp only [forceW_eq, forceL_eq, setK_eq] at hk
          have hg : w.heap[g']? = some (.cells c.toArray e (0, 0)) := H.bl _ (List.mem_of_getElem? hi)
          exact (hc r g' c v c' w hp hg).mono fun e w' ⟨he, hb⟩ => ⟨v, [], b, _, he, H.kept hi hb, hk⟩
        · exact hk.elim
      · exact hk.elim
    · exact hk.elim
  · exact hr f args sh b h K w H hk

/-- a method whose answer is told by a name of its own: the walk goes on with the name, not with what it stands for -/
def addStR {ρ : Type} (f0 : Nat) (ty : TypeId) (pat : List Value → List Value → Option (ρ × (ρ → Value × List Value))) (rest : CV) : CV := fun f args sh b h K => match Nat.beq f f0 with
  | true => match args, hd1 (match sh with
      | s :: _ => s
      | [] => []) with
    | .pointer (some ⟨g, 0, none⟩) :: r, some i => match h[i]? with
      | some ⟨g', c, e, s, none, n, .lit⟩ => (g' = g ∧ e = ty) ∧ match pat r c with
        | some (x, F) => ∀ y' : ρ, x = y' → (match F y' with
          | (v, c') => forceW v fun v => forceL c' fun c' => setK h i ⟨g', c', e, s, none, n, .lit⟩ fun h => K b v [] h)
        | none => False
      | _ => False
    | _, _ => False
  | false => rest f args sh b h K

theorem addStR_ok {ρ : Type} {P : Program} {wE : World} {f0 : Nat} {ty : TypeId} {pat : List Value → List Value → Option (ρ × (ρ → Value × List Value))} {rest : CV}
    (hc : ∀ r g c x F w, pat r c = some (x, F) → w.heap[g]? = some (.cells c.toArray ty (0, 0)) → Calls P f0 (.pointer (some ⟨g, 0, none⟩) :: r).toArray w fun e w' => e = .returned (F x).1 ∧ Keep g (F x).2 ty w w') (hr : CVok P wE rest) :
    CVok P wE (addStR f0 ty pat rest) := by
  intro gh f args sh b h K w H hk
  unfold addStR at hk
  split at hk
  · rename_i hf
    obtain rfl := Nat.eq_of_beq_eq_true hf
    split at hk
    · rename_i g r i hi0
      split at hk
      · rename_i g' c e s n hi
        obtain ⟨⟨rfl, rfl⟩, hk⟩ := hk
        split at hk
        · rename_i x F hp
          have hk := hk x rfl
          simp only [forceW_eq, forceL_eq, setK_eq] at hk
          have hg : w.heap[g']? = some (.cells c.toArray e (0, 0)) := H.bl _ (List.mem_of_getElem? hi)
          exact (hc r g' c x F w hp hg).mono fun e w' ⟨he, hb⟩ => ⟨(F x).1, [], b, _, he, H.kept hi hb, hk⟩
        · exact hk.elim
      · exact hk.elim
    · exact hk.elim
  · exact hr f args sh b h K w H hk

/-- a function's walk, told as a contract -/
theorem calls_pure {P : Program} {w : World} {G : Cfg P} (hs : CVok P w G.spec) (hpv : PVok P G.pv) (n : Nat) {f : FuncId} {fn : Func} {c : Code} (hf : P.funcs[f]? = some fn) (hb : fn.body = some c)
    {args : List Value} {Q : Value → Prop} (hv : codeVC G w n c ⟨⟨w, []⟩, mkT fn.ntmps args [], []⟩ (retK P fn fun b v s h => newK h (Done (Q v)))) :
    Calls P f args.toArray w fun e w' => ∃ v, e = .returned v ∧ Q v ∧ Below w.heap.size w w' :=
  (calls hs hpv n hf hb [] (HC.start w) hv).mono fun e w' ⟨v, s, b', h', he, H, hk⟩ => ⟨v, he, (newK_out hk).2.out, H.below (newK_out hk).1⟩

theorem calls_eq {P : Program} {w : World} {f : FuncId} {args : List Value} {r : Value} (h : Calls P f args.toArray w fun e w' => ∃ v, e = .returned v ∧ v = r ∧ Below w.heap.size w w') :
    Calls P f args.toArray w fun e w' => e = .returned r ∧ Below w.heap.size w w' :=
  h.mono fun e w' ⟨v, he, hv, hb⟩ => ⟨by rw [he, hv], hb⟩

theorem calls_st {P : Program} {w : World} {G : Cfg P} (hs : CVok P w G.spec) (hpv : PVok P G.pv) (n : Nat) {f : FuncId} {fn : Func} {c : Code} (hf : P.funcs[f]? = some fn) (hb : fn.body = some c)
    {r : List Value} {g : Nat} {cs cs' : List Value} {ty : TypeId} {v : Value} (hg : w.heap[g]? = some (.cells cs.toArray ty (0, 0)))
    (hv : codeVC G w n c ⟨⟨w, []⟩, mkT fn.ntmps (.pointer (some ⟨g, 0, none⟩) :: r) [[[some 0]]], [⟨g, cs, ty, [], none, false, .lit⟩]⟩ (retK P fn fun b x s h => stK g ty h fun c => Done (x = v ∧ c = cs'))) :
    Calls P f (.pointer (some ⟨g, 0, none⟩) :: r).toArray w fun e w' => e = .returned v ∧ Keep g cs' ty w w' :=
  (calls hs hpv n hf hb _ (HC.start1 hg []) hv).mono fun e w' ⟨x, s, b', h', he, H, hk⟩ => by
    obtain ⟨c, k, hk⟩ := stK_out H hk
    obtain ⟨h1, h2⟩ := hk.out
    subst h1 h2
    exact ⟨he, k⟩

/-- a slice that came out, of the walk's own: its cells -/
def rowR (h : List Blk) (v : Value) (s : Sh) (p : List Value → Prop) : Prop := match v, hd1 s with
  | .slice none 0 0, _ => p []
  | .slice (some ⟨g, 0, none⟩) n _, some i => match h[i]? with
    | some ⟨bg, bc, _, _, none, true, _⟩ => bg = g ∧ takeK bc n p
    | _ => False
  | _, _ => False

/-- in memory there are these cells, from A on; all of it new since a world of so many blocks -/
def NewAt (n : Nat) (w : World) (A : Option Addr) (l : List Value) : Prop :=
  ∀ j u, l[j]? = some u → ∃ a, A = some a ∧ n ≤ a.block ∧ w.cell? (a.add j) = some u

theorem rowR_out {wE w : World} {b : Base} {h : List Blk} {v : Value} {s : Sh} {p : List Value → Prop} (H : HC gh wE b h w) (k : rowR h v s p) :
    ∃ A cap l, v = .slice A l.length cap ∧ NewAt wE.heap.size w A l ∧ p l := by
  unfold rowR at k
  split at k
  · exact ⟨none, 0, [], rfl, (fun j u h => by simp at h), k⟩
  · rename_i g n cap i hh
    split at k
    · rename_i bg bc be bss y hi
      obtain ⟨rfl, k⟩ := k
      obtain ⟨hle, k⟩ := takeK_out k
      have hm := List.mem_of_getElem? hi
      refine ⟨some ⟨bg, 0, none⟩, cap, bc.take n, by rw [List.length_take, Nat.min_eq_left hle], fun j u hu => ⟨_, rfl, H.nw _ hm rfl, ?_⟩, k⟩
      rw [addr_add rfl, Nat.zero_add]
      refine H.cell hm rfl ?_
      show bc[j]? = some u
      rw [List.getElem?_take] at hu
      split at hu
      · exact hu
      · cases hu
    · exact k.elim
  · exact k.elim

/-! ### rows of their own that come out; rows that are written over -/
/-- a slice of n places of a byte each, new since a world of so many blocks -/
structure NewRow (m : Nat) (w' : World) (ety : TypeId) (v : Value) (n : Nat) (l : List Value) : Prop where
  out : ∃ g cap rest, v = .slice (some ⟨g, 0, none⟩) n cap ∧ m ≤ g ∧ cap ≤ maxLen ∧ n ≤ cap ∧ (l ++ rest).length = cap ∧ l.length = n ∧ w'.heap[g]? = some (.cells (l ++ rest).toArray ety (0, 0))

theorem HC.addNew {wE w w' : World} {b : Base} {h : List Blk} {d : Blk} (H : HC gh wE b h w) (B : Below w.heap.size w w') (hg : w.heap.size ≤ d.g) (hn : d.n = true) (hrow : rowOk d) (hat : w'.heap[d.g]? = some d.den) :
    HC gh wE b (h ++ [d]) w' := by
  have S := H.step B
  refine ⟨S.os, S.tape, S.output, S.ns, S.size, ?_, ?_, ?_, ?_, ?_, ?_, fun p hp => ⟨(S.gp p hp).1, fun c hc => by
    rcases List.mem_append.1 hc with hc | hc
    · exact (S.gp p hp).2.1 c hc
    · obtain rfl := List.mem_singleton.1 hc
      exact Nat.ne_of_gt (Nat.lt_of_lt_of_le (Array.getElem?_eq_some_iff.1 (H.gp p hp).2.2).1 hg), (S.gp p hp).2.2⟩⟩
  · intro c hc
    rcases List.mem_append.1 hc with hc | hc
    · exact S.bl c hc
    · obtain rfl := List.mem_singleton.1 hc; exact hat
  · rw [List.pairwise_append]
    refine ⟨S.nd, by simp, fun c hc e he => ?_⟩
    obtain rfl := List.mem_singleton.1 he
    exact Nat.ne_of_lt (Nat.lt_of_lt_of_le (H.lt hc) hg)
  · intro c hc hcn
    rcases List.mem_append.1 hc with hc | hc
    · exact S.nw c hc hcn
    · obtain rfl := List.mem_singleton.1 hc; exact Nat.le_trans H.le hg
  · intro c hc
    rcases List.mem_append.1 hc with hc | hc
    · exact S.rw c hc
    · obtain rfl := List.mem_singleton.1 hc; exact hrow
  · exact fun i hi hne hj => S.fr i hi (fun c hc => hne c (List.mem_append_left _ hc)) hj
  · exact fun i hi hne => S.en i hi fun c hc hcn => hne c (List.mem_append_left _ hc) hcn

/-- what goes on behind a row that came out new -/
def rowCV (ety : TypeId) (b : Base) (h : List Blk) (n : Nat) (l : List Value) (k : Value → Sh → List Blk → Prop) : Prop :=
  forceL l fun l => ∀ g cap rest, b.w.heap.size ≤ g → n ≤ cap → snocK h ⟨g, l ++ rest, ety, [], none, true, .row cap 1⟩ fun h' => k (.slice (some ⟨g, 0, none⟩) n cap) [[some h.length]] h'

theorem rowCV_out {wE w w' : World} {b : Base} {h : List Blk} {ety : TypeId} {n : Nat} {l : List Value} {k : Value → Sh → List Blk → Prop} {v : Value} (H : HC gh wE b h w) (B : Below w.heap.size w w')
    (N : NewRow w.heap.size w' ety v n l) (hk : rowCV ety b h n l k) : ∃ s h', HC gh wE b h' w' ∧ k v s h' := by
  obtain ⟨g, cap, rest, rfl, hg, hm, hc, hl, hn, hat⟩ := N.out
  unfold rowCV at hk
  rw [forceL_eq] at hk
  have hk := hk g cap rest (Nat.le_trans H.size hg) hc
  rw [snocK_eq] at hk
  exact ⟨_, _, H.addNew (d := ⟨g, l ++ rest, ety, [], none, true, .row cap 1⟩) B hg rfl ⟨hm, by rw [hl, Nat.mul_one], rfl⟩ hat, hk⟩

/-- a function that answers a row of its own -/
def addNewP (f0 : Nat) (ety : TypeId) (pat : List Value → Option (Nat × List Value)) (rest : CV) : CV := fun f args sh b h K => match Nat.beq f f0 with
  | true => match pat args with
    | some (n, l) => rowCV ety b h n l fun v s h => K b v s h
    | none => False
  | false => rest f args sh b h K

theorem addNewP_ok {P : Program} {wE : World} {f0 : Nat} {ety : TypeId} {pat : List Value → Option (Nat × List Value)} {rest : CV}
    (hc : ∀ args n l w, pat args = some (n, l) → Calls P f0 args.toArray w fun e w' => ∃ v, e = .returned v ∧ NewRow w.heap.size w' ety v n l ∧ Below w.heap.size w w') (hr : CVok P wE rest) :
    CVok P wE (addNewP f0 ety pat rest) := by
  intro gh f args sh b h K w H hk
  unfold addNewP at hk
  split at hk
  · rename_i hf
    obtain rfl := Nat.eq_of_beq_eq_true hf
    split at hk
    · rename_i n l hp
      refine (hc args n l w hp).mono fun e w' ⟨v, he, N, B⟩ => ?_
      obtain ⟨s, h', H', hk⟩ := rowCV_out H B N hk
      exact ⟨v, s, b, h', he, H', hk⟩
    · exact hk.elim
  · exact hr f args sh b h K w H hk

/-- a method that answers a row of its own; its receiver stays -/
def addNewM (f0 : Nat) (ty ety : TypeId) (pat : List Value → List Value → Option (Nat × List Value)) (rest : CV) : CV := fun f args sh b h K => match Nat.beq f f0 with
  | true => match args, hd1 (match sh with
      | s :: _ => s
      | [] => []) with
    | .pointer (some ⟨g, 0, none⟩) :: r, some i => match h[i]? with
      | some ⟨g', c, e, _, none, _, .lit⟩ => (g' = g ∧ e = ty) ∧ match pat r c with
        | some (n, l) => rowCV ety b h n l fun v s h => K b v s h
        | none => False
      | _ => False
    | _, _ => False
  | false => rest f args sh b h K

theorem addNewM_ok {P : Program} {wE : World} {f0 : Nat} {ty ety : TypeId} {pat : List Value → List Value → Option (Nat × List Value)} {rest : CV}
    (hc : ∀ r g c n l w, pat r c = some (n, l) → w.heap[g]? = some (.cells c.toArray ty (0, 0)) → Calls P f0 (.pointer (some ⟨g, 0, none⟩) :: r).toArray w fun e w' => ∃ v, e = .returned v ∧ NewRow w.heap.size w' ety v n l ∧ Below w.heap.size w w') (hr : CVok P wE rest) :
    CVok P wE (addNewM f0 ty ety pat rest) := by
  intro gh f args sh b h K w H hk
  unfold addNewM at hk
  split at hk
  · rename_i hf
    obtain rfl := Nat.eq_of_beq_eq_true hf
    split at hk
    · rename_i g r i hi0
      split at hk
      · rename_i g' c e s n hi
        obtain ⟨⟨rfl, rfl⟩, hk⟩ := hk
        split at hk
        · rename_i n l hp
          have hg : w.heap[g']? = some (.cells c.toArray e (0, 0)) := H.bl _ (List.mem_of_getElem? hi)
          refine (hc r g' c n l w hp hg).mono fun e w' ⟨v, he, N, B⟩ => ?_
          obtain ⟨s, h', H', hk⟩ := rowCV_out H B N hk
          exact ⟨v, s, b, h', he, H', hk⟩
        · exact hk.elim
      · exact hk.elim
    · exact hk.elim
  · exact hr f args sh b h K w H hk

/-- a row of the walk's own that comes out, whole -/
def rowE (ety : TypeId) (h : List Blk) (v : Value) (s : Sh) (n : Nat) (p : List Value → Prop) : Prop := match v, hd1 s with
  | .slice (some ⟨g, 0, none⟩) m cap, some i => match h[i]? with
    | some ⟨bg, bc, be, _, none, true, y⟩ => match Nat.beq m n && Nat.beq be ety with
      | true => capK y bc cap 1 (bg = g ∧ n ≤ cap ∧ takeK bc n p)
      | false => False
    | _ => False
  | _, _ => False

theorem rowE_out {wE w : World} {b : Base} {h : List Blk} {ety : TypeId} {v : Value} {s : Sh} {n : Nat} {p : List Value → Prop} (H : HC gh wE b h w) (k : rowE ety h v s n p) :
    ∃ l, NewRow wE.heap.size w ety v n l ∧ p l := by
  unfold rowE at k
  split at k
  · rename_i g m cap i hh
    split at k
    · rename_i bg bc be bss y hi
      split at k
      · rename_i hb
        rw [Bool.and_eq_true] at hb
        obtain rfl := Nat.eq_of_beq_eq_true hb.1
        obtain rfl := Nat.eq_of_beq_eq_true hb.2
        have hm := List.mem_of_getElem? hi
        obtain ⟨⟨h1, h2⟩, rfl, h3, k⟩ := capK_out (H.rw _ hm) k
        obtain ⟨hle, k⟩ := takeK_out k
        refine ⟨bc.take m, ⟨bg, cap, bc.drop m, rfl, H.nw _ hm rfl, h1, h3, ?_, ?_, ?_⟩, k⟩
        · rw [List.take_append_drop]; simpa using h2
        · rw [List.length_take, Nat.min_eq_left hle]
        · rw [List.take_append_drop]; exact H.bl _ hm
      · exact k.elim
    · exact k.elim
  · exact k.elim

theorem calls_newP {P : Program} {w : World} {G : Cfg P} (hs : CVok P w G.spec) (hpv : PVok P G.pv) (m : Nat) {f : FuncId} {fn : Func} {c : Code} (hf : P.funcs[f]? = some fn) (hb : fn.body = some c)
    {args : List Value} {ety : TypeId} {n : Nat} {l : List Value} (hv : codeVC G w m c ⟨⟨w, []⟩, mkT fn.ntmps args [], []⟩ (retK P fn fun b v s h => newK h (rowE ety h v s n fun x => Done (x = l)))) :
    Calls P f args.toArray w fun e w' => ∃ v, e = .returned v ∧ NewRow w.heap.size w' ety v n l ∧ Below w.heap.size w w' :=
  (calls hs hpv m hf hb [] (HC.start w) hv).mono fun e w' ⟨v, s, b', h', he, H, hk⟩ => by
    obtain ⟨hn, hk⟩ := newK_out hk
    obtain ⟨l', N, hd⟩ := rowE_out H hk
    obtain rfl := hd.out
    exact ⟨v, he, N, H.below hn⟩

theorem Keep.below {g : Nat} {c : List Value} {ty : TypeId} {w w' : World} (k : Keep g c ty w w') (hg : w.heap[g]? = some (.cells c.toArray ty (0, 0))) : Below w.heap.size w w' :=
  ⟨k.os, k.tape, k.output, k.size, fun i hi => by
    by_cases e : i = g
    · subst e; rw [hg]; exact k.at_
    · exact k.block i hi e⟩

theorem calls_newM {P : Program} {w : World} {G : Cfg P} (hs : CVok P w G.spec) (hpv : PVok P G.pv) (m : Nat) {f : FuncId} {fn : Func} {c : Code} (hf : P.funcs[f]? = some fn) (hb : fn.body = some c)
    {r : List Value} {g : Nat} {cs : List Value} {ty ety : TypeId} {n : Nat} {l : List Value} (hg : w.heap[g]? = some (.cells cs.toArray ty (0, 0)))
    (hv : codeVC G w m c ⟨⟨w, []⟩, mkT fn.ntmps (.pointer (some ⟨g, 0, none⟩) :: r) [[[some 0]]], [⟨g, cs, ty, [], none, false, .lit⟩]⟩ (retK P fn fun b v s h => stK g ty h fun c => rowE ety h v s n fun x => Done (c = cs ∧ x = l))) :
    Calls P f (.pointer (some ⟨g, 0, none⟩) :: r).toArray w fun e w' => ∃ v, e = .returned v ∧ NewRow w.heap.size w' ety v n l ∧ Below w.heap.size w w' :=
  (calls hs hpv m hf hb _ (HC.start1 hg []) hv).mono fun e w' ⟨v, s, b', h', he, H, hk⟩ => by
    obtain ⟨c, k, hk⟩ := stK_out H hk
    obtain ⟨l', N, hd⟩ := rowE_out H hk
    obtain ⟨h1, h2⟩ := hd.out
    subst h1 h2
    exact ⟨v, he, N, k.below hg⟩

/-- a function that writes over a row of bytes that it was given -/
def allK (q : Value → Bool) : List Value → Prop → Prop
  | [], p => p
  | v :: r, p => match q v with
    | true => allK q r p
    | false => False

def addMut (f0 : Nat) (q : List Value → Prop) (rest : CV) : CV := fun f args sh b h K => match Nat.beq f f0 with
  | true => match args, hd1 (match sh with
      | s :: _ => s
      | [] => []) with
    | [.slice (some ⟨g, 0, none⟩) n cap], some i => match h[i]? with
      | some ⟨g', c, e, _, none, bn, _⟩ => (g' = g ∧ n ≤ c.length ∧ n ≤ maxLen ∧ q (c.take n)) ∧ ∀ c' : List Value, c'.length = c.length → setK h i ⟨g', c', e, [], none, bn, .sym⟩ fun h => K b (.tuple #[]) [] h
      | _ => False
    | _, _ => False
  | false => rest f args sh b h K

theorem addMut_ok {P : Program} {wE : World} {f0 : Nat} {q : List Value → Prop} {rest : CV}
    (hc : ∀ (g n cap : Nat) (c : List Value) (e : TypeId) (w : World), w.heap[g]? = some (.cells c.toArray e (0, 0)) → n ≤ c.length → n ≤ maxLen → q (c.take n) → Calls P f0 [Value.slice (some ⟨g, 0, none⟩) n cap].toArray w fun en w' => en = .returned (.tuple #[]) ∧ ∃ c' : List Value, c'.length = c.length ∧ Keep g c' e w w') (hr : CVok P wE rest) :
    CVok P wE (addMut f0 q rest) := by
  intro gh f args sh b h K w H hk
  unfold addMut at hk
  split at hk
  · rename_i hf
    obtain rfl := Nat.eq_of_beq_eq_true hf
    split at hk
    · rename_i g n cap i hi0
      split at hk
      · rename_i g' c e s bn y hi
        obtain ⟨⟨rfl, h1, h2, h3⟩, hk⟩ := hk
        have hg : w.heap[g']? = some (.cells c.toArray e (0, 0)) := H.bl _ (List.mem_of_getElem? hi)
        refine (hc g' n cap c e w hg h1 h2 h3).mono fun en w' ⟨he, c', hl, k⟩ => ?_
        have hk := hk c' hl
        rw [setK_eq] at hk
        refine ⟨_, _, b, _, he, ?_, hk⟩
        exact H.chg (b' := ⟨g', c', e, [], none, bn, .sym⟩) hi rfl rfl (fun _ => trivial) k.os k.tape k.output k.size fun r hr => by
          by_cases e : r = g'
          · subst e; rw [if_pos rfl]; exact k.at_
          · rw [if_neg e]; exact k.block r hr e
      · exact hk.elim
    · exact hk.elim
  · exact hr f args sh b h K w H hk

theorem arr_of {c : Array Value} {l : List Value} (h : c.toList = l) : c = l.toArray := by rw [← h]
end Go.VX

