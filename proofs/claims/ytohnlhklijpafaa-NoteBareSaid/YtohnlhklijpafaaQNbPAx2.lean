-- printed by a program of this work (wip/tools/pr.py over the kit's print): the machine's side of NoteBack, NoteSizes, NoteApart, NoteNames
import Derived.Test.YtohnlhklijpafaaQNbPAx0
import Derived.Test.YtohnlhklijpafaaQNbPAx1
namespace Go.Proofs.Ytohnlhklijpafaa.PA
open Go.RowKit Go.Proofs.YtohnlhklijpafaaW.PrintWords Go.Proofs.YtohnlhklijpafaaW.PrintLast Go.Proofs.YtohnlhklijpafaaW.PrintMore
attribute [local go_sem] max2_int min2_int max_two min_two max_three min_three max_four min_four   -- for this text's walks alone
set_option linter.unusedVariables false
set_option linter.unusedSimpArgs false

/-! ### note_Check: function 14 -/
theorem heap_last (w : World) (o : Obj) : (w.alloc o).heap[w.heap.size]? = some o := (MapKept.heap_alloc w o).1
theorem heap_last' {w : World} {n : Nat} (hn : n = w.heap.size) (o : Obj) : (w.alloc o).heap[n]? = some o := by subst hn; exact heap_last w o
theorem iterPos_of {W : World} {g : Nat} {s : ByteArray} {p : Nat} (h : W.heap[g]? = some (.stringIter s p)) : W.iterPos g = p := by simp [World.iterPos, h]
theorem below_iter {w W : World} {g : Nat} {o : Obj} (h : Below w.heap.size w W) (hg : w.heap.size ≤ g) : Below w.heap.size w { W with heap := W.heap.setIfInBounds g o } :=
  ⟨h.os, h.tape, h.output, by simpa using h.size, fun k hk => by have := h.block k hk; simp only [Array.getElem?_setIfInBounds, show g ≠ k by omega, if_false]; exact this⟩
theorem next_more {P : Program} {W : World} {g : Nat} {s : ByteArray} {pos : Nat} (ty : TypeId) (hg : W.heap[g]? = some (.stringIter s pos)) (h : pos < s.size) (ha : (s[pos]'h).toNat < 128) :
    (Instr.next (.pointer (some ⟨g, 0, none⟩)) true ty).run P W = .ok (.tuple #[.bool true, .int .i64 pos, .int .i32 (s[pos]'h).toNat]) { W with heap := W.heap.setIfInBounds g (.stringIter s (pos + 1)) } := by
  simp only [Instr.next, getObj, setObj, Sem.run_bind, Sem.run, hg, Result.andThen, h, if_true, decode_ascii s pos h ha]
  simp [goInt, Sem.run, hg]
theorem next_none {P : Program} {W : World} {g : Nat} {s : ByteArray} {pos : Nat} (ty : TypeId) (hg : W.heap[g]? = some (.stringIter s pos)) (h : ¬ pos < s.size) :
    (Instr.next (.pointer (some ⟨g, 0, none⟩)) true ty).run P W = .ok (.tuple #[.bool false]) W := by
  simp [Instr.next, getObj, Sem.run, hg, h]
/-- the world behind a turn of a string's range -/
theorem put_iter {W : World} {g : Nat} {s : ByteArray} {p q : Nat} (hg : W.heap[g]? = some (.stringIter s p)) : ∃ W1 : World, W1 = { W with heap := W.heap.setIfInBounds g (.stringIter s q) } ∧ W1.heap[g]? = some (.stringIter s q) ∧ W1.heap.size = W.heap.size ∧ (∀ r, r ≠ g → W1.heap[r]? = W.heap[r]?) := by
  refine ⟨_, rfl, (MapKept.heap_set hg).1, by simp, (MapKept.heap_set hg).2⟩

/-- all cells of a note are written -/
theorem note_put {w : World} {g : Nat} {b0 b1 b2 b3 b4 b5 b6 b7 b8 b9 b10 : Value} (v0 v1 v2 v3 v4 v5 v6 v7 v8 v9 v10 : Value) (h : w.heap[g]? = some (.cells #[b0, b1, b2, b3, b4, b5, b6, b7, b8, b9, b10] 26 (0, 0))) :
    (((((((((((w.setCell ⟨g, 0, none⟩ v0).setCell ⟨g, 1, none⟩ v1).setCell ⟨g, 2, none⟩ v2).setCell ⟨g, 3, none⟩ v3).setCell ⟨g, 4, none⟩ v4).setCell ⟨g, 5, none⟩ v5).setCell ⟨g, 6, none⟩ v6).setCell ⟨g, 7, none⟩ v7).setCell ⟨g, 8, none⟩ v8).setCell ⟨g, 9, none⟩ v9).setCell ⟨g, 10, none⟩ v10).heap[g]? = some (.cells #[v0, v1, v2, v3, v4, v5, v6, v7, v8, v9, v10] 26 (0, 0)) ∧ (∀ r, r ≠ g → (((((((((((w.setCell ⟨g, 0, none⟩ v0).setCell ⟨g, 1, none⟩ v1).setCell ⟨g, 2, none⟩ v2).setCell ⟨g, 3, none⟩ v3).setCell ⟨g, 4, none⟩ v4).setCell ⟨g, 5, none⟩ v5).setCell ⟨g, 6, none⟩ v6).setCell ⟨g, 7, none⟩ v7).setCell ⟨g, 8, none⟩ v8).setCell ⟨g, 9, none⟩ v9).setCell ⟨g, 10, none⟩ v10).heap[r]? = w.heap[r]?) := by
  refine ⟨?_, fun r hr => ?_⟩
  · have h0 := blk_put (cs' := #[v0, b1, b2, b3, b4, b5, b6, b7, b8, b9, b10]) h 0 v0 rfl
    have h1 := blk_put (cs' := #[v0, v1, b2, b3, b4, b5, b6, b7, b8, b9, b10]) h0 1 v1 rfl
    have h2 := blk_put (cs' := #[v0, v1, v2, b3, b4, b5, b6, b7, b8, b9, b10]) h1 2 v2 rfl
    have h3 := blk_put (cs' := #[v0, v1, v2, v3, b4, b5, b6, b7, b8, b9, b10]) h2 3 v3 rfl
    have h4 := blk_put (cs' := #[v0, v1, v2, v3, v4, b5, b6, b7, b8, b9, b10]) h3 4 v4 rfl
    have h5 := blk_put (cs' := #[v0, v1, v2, v3, v4, v5, b6, b7, b8, b9, b10]) h4 5 v5 rfl
    have h6 := blk_put (cs' := #[v0, v1, v2, v3, v4, v5, v6, b7, b8, b9, b10]) h5 6 v6 rfl
    have h7 := blk_put (cs' := #[v0, v1, v2, v3, v4, v5, v6, v7, b8, b9, b10]) h6 7 v7 rfl
    have h8 := blk_put (cs' := #[v0, v1, v2, v3, v4, v5, v6, v7, v8, b9, b10]) h7 8 v8 rfl
    have h9 := blk_put (cs' := #[v0, v1, v2, v3, v4, v5, v6, v7, v8, v9, b10]) h8 9 v9 rfl
    have h10 := blk_put (cs' := #[v0, v1, v2, v3, v4, v5, v6, v7, v8, v9, v10]) h9 10 v10 rfl
    exact h10
  · iterate 11 refine (Below.heap_setCell _ _ _ r hr).trans ?_
    rfl

/-- the parts that a kind names -/
def nameStr (k : Int) : ByteArray := if k = 1 then ⟨#[69, 80, 76, 68]⟩ else if k = 2 then ⟨#[69, 76]⟩ else if k = 3 then ⟨#[69, 76]⟩ else if k = 4 then ⟨#[69, 67]⟩ else if k = 6 then ⟨#[69, 67]⟩ else if k = 5 then ⟨#[69, 84, 67]⟩ else if k = 7 then ⟨#[69, 79, 83, 85, 68]⟩ else if k = 8 then ⟨#[69, 79, 83, 85, 67, 68]⟩ else if k = 9 then ⟨#[69, 79, 83, 85]⟩ else if k = 10 then ⟨#[75, 68]⟩ else if k = 11 then ⟨#[75]⟩ else if k = 12 then ⟨#[75]⟩ else if k = 13 then ⟨#[79, 67, 75, 68]⟩ else ⟨#[]⟩
theorem names_str (k : Int) : note_Names.f 9 k = some (nameStr k) := by
  unfold note_Names.f nameStr
  by_cases h1 : k = 1
  · rw [if_pos h1, if_pos h1]
  by_cases h2 : k = 2
  · subst h2; rfl
  by_cases h3 : k = 3
  · subst h3; rfl
  rw [if_neg h1, if_neg h2, if_neg h1, if_neg h2, if_neg h3, beq_eq_false_iff_ne.mpr h3, note_Names.j0, if_neg (by decide)]
  by_cases h4 : k = 4
  · subst h4; rfl
  by_cases h6 : k = 6
  · subst h6; rfl
  rw [if_neg h4, if_neg h4, if_neg h6, beq_eq_false_iff_ne.mpr h6, note_Names.j1, if_neg (by decide)]
  by_cases h5 : k = 5
  · rw [if_pos h5, if_pos h5]
  by_cases h7 : k = 7
  · rw [if_neg h5, if_neg h5, if_pos h7, if_pos h7]
  by_cases h8 : k = 8
  · rw [if_neg h5, if_neg h5, if_neg h7, if_neg h7, if_pos h8, if_pos h8]
  by_cases h9 : k = 9
  · rw [if_neg h5, if_neg h5, if_neg h7, if_neg h7, if_neg h8, if_neg h8, if_pos h9, if_pos h9]
  by_cases h10 : k = 10
  · rw [if_neg h5, if_neg h5, if_neg h7, if_neg h7, if_neg h8, if_neg h8, if_neg h9, if_neg h9, if_pos h10, if_pos h10]
  rw [if_neg h5, if_neg h5, if_neg h7, if_neg h7, if_neg h8, if_neg h8, if_neg h9, if_neg h9, if_neg h10, if_neg h10]
  by_cases h11 : k = 11
  · subst h11; rfl
  by_cases h12 : k = 12
  · subst h12; rfl
  rw [if_neg h11, if_neg h11, if_neg h12, beq_eq_false_iff_ne.mpr h12, note_Names.j2, if_neg (by decide)]
  by_cases h13 : k = 13
  · rw [if_pos h13, if_pos h13]
  · rw [if_neg h13, if_neg h13]
def asciiB (s : ByteArray) : Bool := s.data.toList.all fun b => decide (b.toNat < 128)
theorem names_ascii (k : Int) (i : Nat) (h : i < (nameStr k).size) : ((nameStr k)[i]'h).toNat < 128 := by
  have H : asciiB (nameStr k) = true := by
    unfold nameStr
    by_cases h1 : k = 1
    · rw [if_pos h1]; decide
    rw [if_neg h1]
    by_cases h2 : k = 2
    · rw [if_pos h2]; decide
    rw [if_neg h2]
    by_cases h3 : k = 3
    · rw [if_pos h3]; decide
    rw [if_neg h3]
    by_cases h4 : k = 4
    · rw [if_pos h4]; decide
    rw [if_neg h4]
    by_cases h6 : k = 6
    · rw [if_pos h6]; decide
    rw [if_neg h6]
    by_cases h5 : k = 5
    · rw [if_pos h5]; decide
    rw [if_neg h5]
    by_cases h7 : k = 7
    · rw [if_pos h7]; decide
    rw [if_neg h7]
    by_cases h8 : k = 8
    · rw [if_pos h8]; decide
    rw [if_neg h8]
    by_cases h9 : k = 9
    · rw [if_pos h9]; decide
    rw [if_neg h9]
    by_cases h10 : k = 10
    · rw [if_pos h10]; decide
    rw [if_neg h10]
    by_cases h11 : k = 11
    · rw [if_pos h11]; decide
    rw [if_neg h11]
    by_cases h12 : k = 12
    · rw [if_pos h12]; decide
    rw [if_neg h12]
    by_cases h13 : k = 13
    · rw [if_pos h13]; decide
    rw [if_neg h13]
    decide
  have h2 : i < (nameStr k).data.size := h
  have h3 : (nameStr k)[i]'h ∈ (nameStr k).data.toList := by
    have : (nameStr k)[i]'h = (nameStr k).data[i]'h2 := rfl
    rw [this, Array.mem_toList_iff]
    exact Array.getElem_mem h2
  exact of_decide_eq_true (List.all_eq_true.mp H _ h3)
/-- is a letter among the first ones? -/
def hasN (s : ByteArray) (c : Nat) : Nat → Bool
  | 0 => false
  | n + 1 => hasN s c n || decide (((s.data[n]?).map UInt8.toNat) = some c)
theorem hasN_step (s : ByteArray) (c n : Nat) (h : n < s.size) : hasN s c (n + 1) = (hasN s c n || decide ((s[n]'h).toNat = c)) := by
  have h2 : n < s.data.size := h
  have e : s.data[n]? = some (s[n]'h) := by rw [Array.getElem?_eq_getElem h2]; rfl
  simp [hasN, e]
def has (k : Int) (c : Nat) : Bool := hasN (nameStr k) c (nameStr k).size
/-- a note that may not be -/
def moreB (e1 e2 e3 e4 e5 e6 : Int) (e7 : Bool) (e8 : Int) (n9 n10 : Nat) : Bool := decide (0 < e1) || decide (0 < e2) || decide (0 < e3) || decide (0 < e4) || decide (0 < e5) || (e6 != 0) || e7 || (e8 != 0) || decide (0 < (n9 : Int)) || decide (0 < (n10 : Int))
def farB (a6 a8 : Int) (n9 n10 : Nat) : Bool := decide (a6 < 0) || decide (16 ≤ a6) || decide (a8 < 0) || decide (255 < a8) || decide (32 < (n9 : Int)) || decide (255 < (n10 : Int))
def noteBad (a0_0 a0_1 a0_2 a0_3 a0_4 a0_5 a0_6 : Int) (a0_7 : Bool) (a0_8 : Int) (n9 n10 : Nat) : Bool :=
  decide ((nameStr a0_0).size = 0) || moreB (if has a0_0 69 then 0 else a0_1) (if has a0_0 80 then 0 else a0_2) (if has a0_0 76 then 0 else a0_3) (if has a0_0 84 then 0 else a0_4) (if has a0_0 79 then 0 else a0_5) (if has a0_0 83 then 0 else a0_6) (if has a0_0 85 then false else a0_7) (if has a0_0 67 then 0 else a0_8) (if has a0_0 75 then 0 else n9) (if has a0_0 68 then 0 else n10) ||
  farB a0_6 a0_8 n9 n10 || (decide (10 ≤ a0_0) && decide (a0_0 ≤ 12) && decide ((n9 : Int) = 0))
def note_Check.f (a0_0 : Int) (a0_1 : Int) (a0_2 : Int) (a0_3 : Int) (a0_4 : Int) (a0_5 : Int) (a0_6 : Int) (a0_7 : Bool) (a0_8 : Int) (l0_9 : List Int) (l0_10 : List Int) : Option (Int) := some (if noteBad a0_0 a0_1 a0_2 a0_3 a0_4 a0_5 a0_6 a0_7 a0_8 l0_9.length l0_10.length then 50 else 0)
theorem note_all {w : World} {g : Nat} {b0 b1 b2 b3 b4 b5 b6 b7 b8 b9 b10 : Value} (h : w.heap[g]? = some (.cells #[b0, b1, b2, b3, b4, b5, b6, b7, b8, b9, b10] 26 (0, 0))) :
    w.cell? ⟨g, 0, none⟩ = some b0 ∧ w.cell? ⟨g, 1, none⟩ = some b1 ∧ w.cell? ⟨g, 2, none⟩ = some b2 ∧ w.cell? ⟨g, 3, none⟩ = some b3 ∧ w.cell? ⟨g, 4, none⟩ = some b4 ∧ w.cell? ⟨g, 5, none⟩ = some b5 ∧ w.cell? ⟨g, 6, none⟩ = some b6 ∧ w.cell? ⟨g, 7, none⟩ = some b7 ∧ w.cell? ⟨g, 8, none⟩ = some b8 ∧ w.cell? ⟨g, 9, none⟩ = some b9 ∧ w.cell? ⟨g, 10, none⟩ = some b10 ∧ (∀ i, w.frozen? ⟨g, i, none⟩ = false) ∧ g < w.heap.size :=
  ⟨(blk_cell h 0).trans rfl, (blk_cell h 1).trans rfl, (blk_cell h 2).trans rfl, (blk_cell h 3).trans rfl, (blk_cell h 4).trans rfl, (blk_cell h 5).trans rfl, (blk_cell h 6).trans rfl, (blk_cell h 7).trans rfl, (blk_cell h 8).trans rfl, (blk_cell h 9).trans rfl, (blk_cell h 10).trans rfl, fun i => blk_frozen h i, blk_lt h⟩
/-- what is left of a note when so many parts are taken off it -/
def Rest (s : ByteArray) (pos : Nat) (a0_1 a0_2 a0_3 a0_4 a0_5 a0_6 : Int) (a0_7 : Bool) (a0_8 : Int) (m9 m10 : Nat) (e1 e2 e3 e4 e5 e6 : Int) (e7 : Bool) (e8 : Int) (n9 n10 : Nat) : Prop := e1 = (if hasN s 69 pos then 0 else a0_1) ∧ e2 = (if hasN s 80 pos then 0 else a0_2) ∧ e3 = (if hasN s 76 pos then 0 else a0_3) ∧ e4 = (if hasN s 84 pos then 0 else a0_4) ∧ e5 = (if hasN s 79 pos then 0 else a0_5) ∧ e6 = (if hasN s 83 pos then 0 else a0_6) ∧ e7 = (if hasN s 85 pos then false else a0_7) ∧ e8 = (if hasN s 67 pos then 0 else a0_8) ∧ n9 = (if hasN s 75 pos then 0 else m9) ∧ n10 = (if hasN s 68 pos then 0 else m10)
theorem Rest.start (s : ByteArray) (a0_1 a0_2 a0_3 a0_4 a0_5 a0_6 : Int) (a0_7 : Bool) (a0_8 : Int) (m9 m10 : Nat) : Rest s 0 a0_1 a0_2 a0_3 a0_4 a0_5 a0_6 a0_7 a0_8 m9 m10 a0_1 a0_2 a0_3 a0_4 a0_5 a0_6 a0_7 a0_8 m9 m10 := by simp [Rest, hasN]
theorem Rest.step {s : ByteArray} {pos : Nat} {a0_1 a0_2 a0_3 a0_4 a0_5 a0_6 : Int} {a0_7 : Bool} {a0_8 : Int} {m9 m10 : Nat} {e1 e2 e3 e4 e5 e6 : Int} {e7 : Bool} {e8 : Int} {n9 n10 : Nat} (R : Rest s pos a0_1 a0_2 a0_3 a0_4 a0_5 a0_6 a0_7 a0_8 m9 m10 e1 e2 e3 e4 e5 e6 e7 e8 n9 n10) (h : pos < s.size) (p : Int) (hp : p = ((s[pos]'h).toNat : Int)) :
    Rest s (pos + 1) a0_1 a0_2 a0_3 a0_4 a0_5 a0_6 a0_7 a0_8 m9 m10 (if p = 69 then 0 else e1) (if p = 80 then 0 else e2) (if p = 76 then 0 else e3) (if p = 84 then 0 else e4) (if p = 79 then 0 else e5) (if p = 83 then 0 else e6) (if p = 85 then false else e7) (if p = 67 then 0 else e8) (if p = 75 then 0 else n9) (if p = 68 then 0 else n10) := by
  obtain ⟨r1, r2, r3, r4, r5, r6, r7, r8, r9, r10⟩ := R
  have hq : ∀ c : Nat, decide ((s[pos]'h).toNat = c) = decide (p = (c : Int)) := fun c => by rw [hp]; exact decide_eq_decide.mpr ⟨fun e => by rw [e], fun e => Int.ofNat.inj e⟩
  refine ⟨?_, ?_, ?_, ?_, ?_, ?_, ?_, ?_, ?_, ?_⟩ <;> rw [hasN_step s _ pos h, hq]
  · rw [r1]; by_cases q : p = 69 <;> simp [q]
  · rw [r2]; by_cases q : p = 80 <;> simp [q]
  · rw [r3]; by_cases q : p = 76 <;> simp [q]
  · rw [r4]; by_cases q : p = 84 <;> simp [q]
  · rw [r5]; by_cases q : p = 79 <;> simp [q]
  · rw [r6]; by_cases q : p = 83 <;> simp [q]
  · rw [r7]; by_cases q : p = 85 <;> simp [q]
  · rw [r8]; by_cases q : p = 67 <;> simp [q]
  · rw [r9]; by_cases q : p = 75 <;> simp [q]
  · rw [r10]; by_cases q : p = 68 <;> simp [q]
theorem size_nil (s : ByteArray) : s.size = 0 ↔ s.toList = [] := by
  rw [ByteArray.toList_eq]
  constructor
  · intro h
    have : s.data.toList.length = 0 := by rw [Array.length_toList]; exact h
    exact List.eq_nil_of_length_eq_zero this
  · intro h
    have : s.data.toList.length = 0 := by rw [h]; rfl
    rw [Array.length_toList] at this; exact this
set_option maxHeartbeats 8000000 in
theorem without_ex (p : Int) (e0 e1 e2 e3 e4 e5 e6 : Int) (e7 : Bool) (e8 : Int) (A9 : Option Addr) (n9 c9 : Nat) (A10 : Option Addr) (n10 c10 : Nat) (w : World) : Calls Try.prog 34 #[.agg #[.int .i64 e0, .int .u32 e1, .int .u32 e2, .int .u64 e3, .int .u64 e4, .int .u32 e5, .int .i64 e6, .bool e7, .int .i64 e8, .slice A9 n9 c9, .slice A10 n10 c10], .int .i32 p] w fun e w' => ∃ (f1 f2 f3 f4 f5 f6 : Int) (f7 : Bool) (f8 : Int) (B9 : Option Addr) (m9 d9 : Nat) (B10 : Option Addr) (m10 d10 : Nat), e = .returned (.agg #[.int .i64 e0, .int .u32 f1, .int .u32 f2, .int .u64 f3, .int .u64 f4, .int .u32 f5, .int .i64 f6, .bool f7, .int .i64 f8, .slice B9 m9 d9, .slice B10 m10 d10]) ∧ (f1 = (if p = 69 then 0 else e1) ∧ f2 = (if p = 80 then 0 else e2) ∧ f3 = (if p = 76 then 0 else e3) ∧ f4 = (if p = 84 then 0 else e4) ∧ f5 = (if p = 79 then 0 else e5) ∧ f6 = (if p = 83 then 0 else e6) ∧ f7 = (if p = 85 then false else e7) ∧ f8 = (if p = 67 then 0 else e8) ∧ m9 = (if p = 75 then 0 else n9) ∧ m10 = (if p = 68 then 0 else n10)) ∧ Below w.heap.size w w' := by
  refine (without_any p e0 e1 e2 e3 e4 e5 e6 e7 e8 A9 n9 c9 A10 n10 c10 w).mono ?_
  rintro e w' ⟨rfl, hb⟩
  have hv9 : (if p = 75 then Value.slice none 0 0 else .slice A9 n9 c9) = .slice (if p = 75 then none else A9) (if p = 75 then 0 else n9) (if p = 75 then 0 else c9) := by split <;> rfl
  have hv10 : (if p = 68 then Value.slice none 0 0 else .slice A10 n10 c10) = .slice (if p = 68 then none else A10) (if p = 68 then 0 else n10) (if p = 68 then 0 else c10) := by split <;> rfl
  rw [hv9, hv10]
  exact ⟨_, _, _, _, _, _, _, _, _, _, _, _, _, _, rfl, ⟨rfl, rfl, rfl, rfl, rfl, rfl, rfl, rfl, rfl, rfl⟩, hb⟩
set_option maxHeartbeats 60000000 in
set_option maxRecDepth 100000 in
theorem note_Check.calls (a0_0 : Int) (a0_1 : Int) (a0_2 : Int) (a0_3 : Int) (a0_4 : Int) (a0_5 : Int) (a0_6 : Int) (a0_7 : Bool) (a0_8 : Int) (A0_9 : Option Addr) (c0_9 : Nat) (l0_9 : List Int) (A0_10 : Option Addr) (c0_10 : Nat) (l0_10 : List Int) (r : Int) (w : World) (_hr0_9 : Kd.C (Kd.int .u8) w A0_9 l0_9.length l0_9) (_hc0_9 : l0_9.length ≤ c0_9) (_hr0_10 : Kd.C (Kd.int .u8) w A0_10 l0_10.length l0_10) (_hc0_10 : l0_10.length ≤ c0_10) (h : note_Check.f a0_0 a0_1 a0_2 a0_3 a0_4 a0_5 a0_6 a0_7 a0_8 l0_9 l0_10 = some r) :
    Calls Try.prog 14 #[.agg #[.int .i64 a0_0, .int .u32 a0_1, .int .u32 a0_2, .int .u64 a0_3, .int .u64 a0_4, .int .u32 a0_5, .int .i64 a0_6, .bool a0_7, .int .i64 a0_8, .slice A0_9 l0_9.length c0_9, .slice A0_10 l0_10.length c0_10]] w fun e w' => e = .returned (.int .i64 r) ∧ Below w.heap.size w w' := by
  clear _hr0_9 _hc0_9 _hr0_10 _hc0_10
  have H := Aside0.mk (Option.some.inj h)
  clear h
  have HN := Aside0.mk (names_str a0_0)
  go_enter Try.func14, Try.ntmps14
  go_wp2_with (first | (go_at_call 18; (with_reducible refine (note_Names.calls 9 a0_0 _ _ HN.out).mono ?_); rintro e w' ⟨rfl, ⟨nd, rfl⟩⟩))
  go_loopw [6] (fun v w' => ∃ (pos : Nat) (e1 e2 e3 e4 e5 e6 : Int) (e7 : Bool) (e8 : Int) (A9 : Option Addr) (n9 c9 : Nat) (A10 : Option Addr) (n10 c10 : Nat), Aside0 (pos ≤ (nameStr a0_0).size) ∧ Aside0 (Rest (nameStr a0_0) pos a0_1 a0_2 a0_3 a0_4 a0_5 a0_6 a0_7 a0_8 l0_9.length l0_10.length e1 e2 e3 e4 e5 e6 e7 e8 n9 n10) ∧ Aside0 (w'.heap[w.heap.size]? = some (.cells #[.int .i64 a0_0, .int .u32 a0_1, .int .u32 a0_2, .int .u64 a0_3, .int .u64 a0_4, .int .u32 a0_5, .int .i64 a0_6, .bool a0_7, .int .i64 a0_8, .slice A0_9 l0_9.length c0_9, .slice A0_10 l0_10.length c0_10] 26 (0, 0))) ∧ Aside0 (w'.heap[w.heap.size + 1]? = some (.cells #[.int .i64 a0_0, .int .u32 e1, .int .u32 e2, .int .u64 e3, .int .u64 e4, .int .u32 e5, .int .i64 e6, .bool e7, .int .i64 e8, .slice A9 n9 c9, .slice A10 n10 c10] 26 (0, 0))) ∧ Aside0 (w'.heap[w.heap.size + 2]? = some (.stringIter (nameStr a0_0) pos)) ∧ Aside0 (Below w.heap.size w w')) (fun _ w' => (nameStr a0_0).size - w'.iterPos (w.heap.size + 2))
  case atStart =>
    refine ⟨0, a0_1, a0_2, a0_3, a0_4, a0_5, a0_6, a0_7, a0_8, A0_9, l0_9.length, c0_9, A0_10, l0_10.length, c0_10, ⟨Nat.zero_le _⟩, ⟨Rest.start _ _ _ _ _ _ _ _ _ _ _⟩, ⟨bd3 _ (bd3 _ (bd1 nd (heap_last w _)))⟩, ⟨bd3 _ ?_⟩, ⟨?_⟩, ⟨?_⟩⟩
    · exact heap_last' (by simp) _
    · exact heap_last' (by simp) _
    · exact below_alloc (below_alloc (pw_below_drewN (below_alloc (Below.refl _ _) _) nd) _) _
  case round =>
    obtain ⟨pos, e1, e2, e3, e4, e5, e6, e7, e8, A9, n9, c9, A10, n10, c10, HP, HS, HN_, HR, HI, HB⟩ := hrel
    rename World => w1
    have hpos := iterPos_of HI.out
    by_cases hp : pos < (nameStr a0_0).size
    · obtain ⟨W1, e1_, hi1, hs1, hk1⟩ := put_iter (q := pos + 1) HI.out
      have ha := names_ascii a0_0 pos hp
      have HS1 := Aside0.mk (HS.out.step hp ((((nameStr a0_0)[pos]'hp).toNat : Nat) : Int) rfl)
      have hnx : ∀ ty, (Instr.next (.pointer (some ⟨w.heap.size + 2, 0, none⟩)) true ty).run Try.prog w1 = .ok (.tuple #[.bool true, .int .i64 pos, .int .i32 ((nameStr a0_0)[pos]'hp).toNat]) W1 := fun ty => e1_ ▸ next_more ty HI.out hp ha
      generalize hq : ((((nameStr a0_0)[pos]'hp).toNat : Nat) : Int) = q at HS1 hnx
      clear hq ha
      have HB1 : Aside0 (Below w.heap.size w W1) := ⟨e1_ ▸ below_iter HB.out (by omega)⟩
      clear e1_
      have HN1 := Aside0.mk ((hk1 w.heap.size (by omega)).trans HN_.out)
      have HR1 := Aside0.mk ((hk1 (w.heap.size + 1) (by omega)).trans HR.out)
      have HI1 := Aside0.mk hi1
      obtain ⟨q0, q1, q2, q3, q4, q5, q6, q7, q8, q9, q10, qf, ql⟩ := note_all HR1.out
      clear hi1 hs1 hk1 HS HN_ HR HI HB
      go_wp2_with (first | (go_at_call 34; (with_reducible refine (without_ex q a0_0 e1 e2 e3 e4 e5 e6 e7 e8 A9 n9 c9 A10 n10 c10 _).mono ?_); rintro e w2 ⟨f1, f2, f3, f4, f5, f6, f7, f8, B9, m9, d9, B10, m10, d10, rfl, hE, hb⟩; have HS2 : Aside0 (Rest (nameStr a0_0) (pos + 1) a0_1 a0_2 a0_3 a0_4 a0_5 a0_6 a0_7 a0_8 l0_9.length l0_10.length f1 f2 f3 f4 f5 f6 f7 f8 m9 m10) := ⟨by obtain ⟨rfl, rfl, rfl, rfl, rfl, rfl, rfl, rfl, rfl, rfl⟩ := hE; exact HS1.out⟩; clear hE HS1; have HN2 := Aside0.mk (blk_below HN1.out hb); have HR2 := Aside0.mk (blk_below HR1.out hb); have HI2 := Aside0.mk (blk_below HI1.out hb); have HB2 := Aside0.mk (below_step HB1.out hb); clear hb HN1 HR1 HI1 HB1 q0 q1 q2 q3 q4 q5 q6 q7 q8 q9 q10 qf ql; obtain ⟨q0, q1, q2, q3, q4, q5, q6, q7, q8, q9, q10, qf, ql⟩ := note_all HR2.out))
      go_roundw
      case rel =>
        have hp2 := note_put (.int .i64 a0_0) (.int .u32 f1) (.int .u32 f2) (.int .u64 f3) (.int .u64 f4) (.int .u32 f5) (.int .i64 f6) (.bool f7) (.int .i64 f8) (.slice B9 m9 d9) (.slice B10 m10 d10) HR2.out
        refine ⟨pos + 1, f1, f2, f3, f4, f5, f6, f7, f8, B9, m9, d9, B10, m10, d10, ⟨by omega⟩, HS2, ⟨(hp2.2 _ (by omega)).trans HN2.out⟩, ⟨hp2.1⟩, ⟨(hp2.2 _ (by omega)).trans HI2.out⟩, ⟨?_⟩⟩
        iterate 11 refine below_set ?_ (by omega)
        exact HB2.out
      case measure =>
        have hp2 := note_put (.int .i64 a0_0) (.int .u32 f1) (.int .u32 f2) (.int .u64 f3) (.int .u64 f4) (.int .u32 f5) (.int .i64 f6) (.bool f7) (.int .i64 f8) (.slice B9 m9 d9) (.slice B10 m10 d10) HR2.out
        have a1 := iterPos_of ((hp2.2 _ (show w.heap.size + 2 ≠ w.heap.size + 1 by omega)).trans HI2.out)
        omega
    · have hnx : ∀ ty, (Instr.next (.pointer (some ⟨w.heap.size + 2, 0, none⟩)) true ty).run Try.prog w1 = .ok (.tuple #[.bool false]) w1 := fun ty => next_none ty HI.out hp
      have hp3 : pos = (nameStr a0_0).size := by have := HP.out; omega
      clear hpos
      subst hp3
      obtain ⟨q0, q1, q2, q3, q4, q5, q6, q7, q8, q9, q10, qf, ql⟩ := note_all HR.out
      obtain ⟨z0, z1, z2, z3, z4, z5, z6, z7, z8, z9, z10, zf, zl⟩ := note_all HN_.out
      go_upto_region 7 with (fail)
      go_cut [7] (fun v7 wc => v7 = .bool (moreB e1 e2 e3 e4 e5 e6 e7 e8 n9 n10) ∧ w1 = wc)
      case first =>
        by_cases h0 : 0 < e1
        · have x0_0 : decide (0 < e1) = true := decide_eq_true h0
          clear h0
          go_wp2
          go_meet
          case rel => exact ⟨by simp [moreB, *], rfl⟩
        have y0_0 : decide (0 < e1) = false := decide_eq_false h0
        clear h0
        by_cases h1 : 0 < e2
        · have x1_0 : decide (0 < e2) = true := decide_eq_true h1
          clear h1
          go_wp2
          go_meet
          case rel => exact ⟨by simp [moreB, *], rfl⟩
        have y1_0 : decide (0 < e2) = false := decide_eq_false h1
        clear h1
        by_cases h2 : 0 < e3
        · have x2_0 : decide (0 < e3) = true := decide_eq_true h2
          clear h2
          go_wp2
          go_meet
          case rel => exact ⟨by simp [moreB, *], rfl⟩
        have y2_0 : decide (0 < e3) = false := decide_eq_false h2
        clear h2
        by_cases h3 : 0 < e4
        · have x3_0 : decide (0 < e4) = true := decide_eq_true h3
          clear h3
          go_wp2
          go_meet
          case rel => exact ⟨by simp [moreB, *], rfl⟩
        have y3_0 : decide (0 < e4) = false := decide_eq_false h3
        clear h3
        by_cases h4 : 0 < e5
        · have x4_0 : decide (0 < e5) = true := decide_eq_true h4
          clear h4
          go_wp2
          go_meet
          case rel => exact ⟨by simp [moreB, *], rfl⟩
        have y4_0 : decide (0 < e5) = false := decide_eq_false h4
        clear h4
        by_cases h5 : ¬ e6 = 0
        · have x5_0 : (e6 == 0) = false := beq_eq_false_iff_ne.mpr h5; have x5_1 : (e6 != 0) = true := bne_iff_ne.mpr h5
          clear h5
          go_wp2
          go_meet
          case rel => exact ⟨by simp [moreB, *], rfl⟩
        replace h5 := Decidable.not_not.mp h5
        have y5_0 : (e6 == 0) = true := beq_iff_eq.mpr h5
        have y5_1 : (e6 != 0) = false := bne_eq_false_iff_eq.mpr h5
        clear h5
        cases e7 with
        | true =>
          go_wp2
          go_meet
          case rel => exact ⟨by simp [moreB, *], rfl⟩
        | false =>
          by_cases h7 : ¬ e8 = 0
          · have x7_0 : (e8 == 0) = false := beq_eq_false_iff_ne.mpr h7; have x7_1 : (e8 != 0) = true := bne_iff_ne.mpr h7
            clear h7
            go_wp2
            go_meet
            case rel => exact ⟨by simp [moreB, *], rfl⟩
          replace h7 := Decidable.not_not.mp h7
          have y7_0 : (e8 == 0) = true := beq_iff_eq.mpr h7
          have y7_1 : (e8 != 0) = false := bne_eq_false_iff_eq.mpr h7
          clear h7
          by_cases h8 : 0 < (n9 : Int)
          · have x8_0 : decide (0 < (n9 : Int)) = true := decide_eq_true h8; have x8_1 : decide (0 < n9) = true := decide_eq_true (by omega)
            clear h8
            go_wp2
            go_meet
            case rel => exact ⟨by simp [moreB, *], rfl⟩
          have y8_0 : decide (0 < (n9 : Int)) = false := decide_eq_false h8
          have y8_1 : decide (0 < n9) = false := decide_eq_false (by omega)
          clear h8
          go_wp2
          go_meet
          case rel => exact ⟨by simp [moreB, *], rfl⟩
      case rest =>
        obtain ⟨rfl, rfl⟩ := hcut
        go_upto_region 8 with (fail)
        go_cut [8] (fun v8 wc => v8 = .bool (farB a0_6 a0_8 l0_9.length l0_10.length) ∧ w1 = wc)
        case first =>
          by_cases h0 : a0_6 < 0
          · have x0_0 : decide (a0_6 < 0) = true := decide_eq_true h0
            clear h0
            go_wp2
            go_meet
            case rel => exact ⟨by simp [farB, *], rfl⟩
          have y0_0 : decide (a0_6 < 0) = false := decide_eq_false h0
          clear h0
          by_cases h1 : 16 ≤ a0_6
          · have x1_0 : decide (16 ≤ a0_6) = true := decide_eq_true h1
            clear h1
            go_wp2
            go_meet
            case rel => exact ⟨by simp [farB, *], rfl⟩
          have y1_0 : decide (16 ≤ a0_6) = false := decide_eq_false h1
          clear h1
          by_cases h2 : a0_8 < 0
          · have x2_0 : decide (a0_8 < 0) = true := decide_eq_true h2
            clear h2
            go_wp2
            go_meet
            case rel => exact ⟨by simp [farB, *], rfl⟩
          have y2_0 : decide (a0_8 < 0) = false := decide_eq_false h2
          clear h2
          by_cases h3 : 255 < a0_8
          · have x3_0 : decide (255 < a0_8) = true := decide_eq_true h3
            clear h3
            go_wp2
            go_meet
            case rel => exact ⟨by simp [farB, *], rfl⟩
          have y3_0 : decide (255 < a0_8) = false := decide_eq_false h3
          clear h3
          by_cases h4 : 32 < (l0_9.length : Int)
          · have x4_0 : decide (32 < (l0_9.length : Int)) = true := decide_eq_true h4
            clear h4
            go_wp2
            go_meet
            case rel => exact ⟨by simp [farB, *], rfl⟩
          have y4_0 : decide (32 < (l0_9.length : Int)) = false := decide_eq_false h4
          clear h4
          go_wp2
          go_meet
          case rel => exact ⟨by simp [farB, *], rfl⟩
        case rest =>
          obtain ⟨rfl, rfl⟩ := hcut
          have H2 := H.out
          have hm : moreB e1 e2 e3 e4 e5 e6 e7 e8 n9 n10 = moreB (if has a0_0 69 then 0 else a0_1) (if has a0_0 80 then 0 else a0_2) (if has a0_0 76 then 0 else a0_3) (if has a0_0 84 then 0 else a0_4) (if has a0_0 79 then 0 else a0_5) (if has a0_0 83 then 0 else a0_6) (if has a0_0 85 then false else a0_7) (if has a0_0 67 then 0 else a0_8) (if has a0_0 75 then 0 else l0_9.length) (if has a0_0 68 then 0 else l0_10.length) := by
            obtain ⟨rfl, rfl, rfl, rfl, rfl, rfl, rfl, rfl, rfl, rfl⟩ := HS.out
            rfl
          unfold noteBad at H2
          rw [← hm] at H2
          generalize moreB e1 e2 e3 e4 e5 e6 e7 e8 n9 n10 = mB at H2 ⊢
          generalize farB a0_6 a0_8 l0_9.length l0_10.length = fB at H2 ⊢
          have HH := Aside0.mk H2
          clear H H2 hm HS HR HI HP q0 q1 q2 q3 q4 q5 q6 q7 q8 q9 q10 qf ql hnx
          have hnil := size_nil (nameStr a0_0)
          by_cases s0 : (nameStr a0_0).size = 0
          · have t0 := hnil.mp s0
            have t1 : ((nameStr a0_0).toList == ([] : List UInt8)) = true := beq_iff_eq.mpr t0
            have t2 : ((nameStr a0_0).toList != ([] : List UInt8)) = false := bne_eq_false_iff_eq.mpr t0
            clear hnil
            have H5 := HH.out
            simp [*] at H5
            subst H5
            go_wp2
            refine bodyPost_ret ?_ rfl ⟨rfl, HB.out⟩
            simp [results, Try.results14, go_sem, *]
          have t0 := fun h => s0 (hnil.mpr h)
          have t1 : ((nameStr a0_0).toList == ([] : List UInt8)) = false := beq_eq_false_iff_ne.mpr t0
          have t2 : ((nameStr a0_0).toList != ([] : List UInt8)) = true := bne_iff_ne.mpr t0
          clear hnil
          cases mB with
          | true =>
            have H5 := HH.out
            simp [*] at H5
            subst H5
            go_wp2
            refine bodyPost_ret ?_ rfl ⟨rfl, HB.out⟩
            simp [results, Try.results14, go_sem, *]
          | false =>
            cases fB with
            | true =>
              have H5 := HH.out
              simp [*] at H5
              subst H5
              go_wp2
              refine bodyPost_ret ?_ rfl ⟨rfl, HB.out⟩
              simp [results, Try.results14, go_sem, *]
            | false =>
              by_cases g0 : ¬ 10 ≤ a0_0
              · have x0 : decide (10 ≤ a0_0) = false := decide_eq_false g0
                clear g0
                have H5 := HH.out
                simp [*] at H5
                subst H5
                go_wp2
                refine bodyPost_ret ?_ rfl ⟨rfl, HB.out⟩
                simp [results, Try.results14, go_sem, *]
              replace g0 := Decidable.not_not.mp g0
              have x0 : decide (10 ≤ a0_0) = true := decide_eq_true g0
              clear g0
              by_cases g1 : ¬ a0_0 ≤ 12
              · have x1 : decide (a0_0 ≤ 12) = false := decide_eq_false g1
                clear g1
                have H5 := HH.out
                simp [*] at H5
                subst H5
                go_wp2
                refine bodyPost_ret ?_ rfl ⟨rfl, HB.out⟩
                simp [results, Try.results14, go_sem, *]
              replace g1 := Decidable.not_not.mp g1
              have x1 : decide (a0_0 ≤ 12) = true := decide_eq_true g1
              clear g1
              by_cases g2 : (l0_9.length : Int) = 0
              · have x2 : ((l0_9.length : Int) == 0) = true := beq_iff_eq.mpr g2
                have H5 := HH.out
                simp [*] at H5
                subst H5
                go_wp2
                refine bodyPost_ret ?_ rfl ⟨rfl, HB.out⟩
                simp [results, Try.results14, go_sem, *]
              have x2 : ((l0_9.length : Int) == 0) = false := beq_eq_false_iff_ne.mpr g2
              have g3 : ¬ l0_9 = [] := fun e_ => g2 (by rw [e_]; rfl)
              have H5 := HH.out
              simp [*] at H5
              subst H5
              go_wp2
              refine bodyPost_ret ?_ rfl ⟨rfl, HB.out⟩
              simp [results, Try.results14, go_sem, *]

/-- A state of type 81 at block g of W; what its slices lead to came in by w0. -/
def IsS81 (w0 W : World) (g : Nat) (f0 : List Int) (f1 : Bool) : Prop := ∃ A0 c0, W.heap[g]? = some (.cells #[.slice A0 f0.length c0, .bool f1] 81 (0, 0)) ∧ w0.heap.size ≤ g ∧ Kd.C (Kd.int .u8) w0 A0 f0.length f0

/-! ### field_NewWriter: function 27 -/
def field_NewWriter.f  : Option (List Int × Bool) := some (([] : List Int), false)

-- NOT PRINTED: function 46 (field_Writer_put)

-- NOT PRINTED: function 28 (field_Writer_U8)

-- NOT PRINTED: function 29 (field_Writer_U32)

-- NOT PRINTED: function 30 (field_Writer_U64)

/-! ### note_bit: function 31 -/
def note_bit.f (a0 : Bool) : Option (Int) := if a0 = true then (some 1) else (some 0)

-- NOT PRINTED: function 32 (field_Writer_Text)

-- NOT PRINTED: function 33 (field_Writer_Done)

end Go.Proofs.Ytohnlhklijpafaa.PA
