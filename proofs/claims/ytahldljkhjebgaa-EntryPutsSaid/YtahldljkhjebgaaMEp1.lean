/- Texts of this claim, one behind the other (1). -/
import Derived.WalkKit
import Derived.ProofKit
import Derived.OpenShut
import Derived.ShutString
import Derived.ChangeOld
import Derived.ChangeArms
import Derived.ChangeSlices
import Derived.DataReads
import Derived.Below
import Derived.SizedLaws
import Derived.Carry
/- What can be read as data is a value of a kind: for each kind of parameter one lemma; over any program. -/
namespace Go.VO
open Go.RowKit
set_option linter.unusedVariables false

/-- a kind of value: how many cells it has, and which ones, in a world; worlds that have the same below are alike -/
structure Kn (α : Type) where
  sz : Nat
  K : World → α → List Value → Prop
  len : ∀ w x c, K w x c → c.length = sz
  mono : ∀ w w' x c, Below w.heap.size w w' → K w x c → K w' x c

def Kn.int (k : IntKind) : Kn Int := ⟨1, fun _ n c => c = [.int k n], fun _ _ _ h => by subst h; rfl, fun _ _ _ _ _ h => h⟩
def Kn.bool : Kn Bool := ⟨1, fun _ n c => c = [.bool n], fun _ _ _ h => by subst h; rfl, fun _ _ _ _ _ h => h⟩
def Kn.string : Kn ByteArray := ⟨1, fun _ n c => c = [.string n], fun _ _ _ h => by subst h; rfl, fun _ _ _ _ _ h => h⟩
def Kn.pair {α β : Type} (d : Kn α) (e : Kn β) : Kn (α × β) := ⟨d.sz + e.sz, fun w x c => ∃ c1 c2, c = c1 ++ c2 ∧ d.K w x.1 c1 ∧ e.K w x.2 c2,
  fun w x c ⟨c1, c2, h, h1, h2⟩ => by rw [h, List.length_append, d.len _ _ _ h1, e.len _ _ _ h2],
  fun w w' x c B ⟨c1, c2, h, h1, h2⟩ => ⟨c1, c2, h, d.mono w w' _ _ B h1, e.mono w w' _ _ B h2⟩⟩

/-- from A on there are these values, one behind the other -/
def RowAt {α : Type} (w : World) (d : Kn α) (A : Option Addr) (xs : List α) : Prop :=
  ∀ i x, xs[i]? = some x → ∃ a c, A = some a ∧ a.block < w.heap.size ∧ d.K w x c ∧ ∀ j u, c[j]? = some u → w.cell? (a.add (i * d.sz + j)) = some u

theorem blk_add (a : Addr) (m : Nat) : (a.add m).block = a.block := by
  unfold Addr.add; split <;> rfl
theorem add_add (a : Addr) (m k : Nat) : (a.add m).add k = a.add (m + k) := by
  obtain ⟨b, o, s⟩ := a
  unfold Addr.add
  by_cases hm : m = 0
  · subst hm
    rw [if_pos rfl, Nat.zero_add]
  · rw [if_neg hm]
    by_cases hk : k = 0
    · subst hk; rw [if_pos rfl, Nat.add_zero, if_neg hm]
    · rw [if_neg hk, if_neg (by omega), Nat.add_assoc]
theorem add_zero (a : Addr) : a.add 0 = a := by unfold Addr.add; rw [if_pos rfl]
theorem cell_below {w w' : World} {a : Addr} {v : Value} (B : Below w.heap.size w w') (hb : a.block < w.heap.size) (h : w.cell? a = some v) : w'.cell? a = some v := by
  rw [← h]; unfold World.cell?; rw [B.block _ hb]

theorem RowAt.below {α : Type} {w w' : World} {d : Kn α} {A : Option Addr} {xs : List α} (h : RowAt w d A xs) (B : Below w.heap.size w w') : RowAt w' d A xs := by
  intro i x hx
  obtain ⟨a, c, hA, hb, hK, hc⟩ := h i x hx
  exact ⟨a, c, hA, Nat.lt_of_lt_of_le hb B.size, d.mono w w' _ _ B hK, fun j u hu => cell_below B (by rw [blk_add]; exact hb) (hc j u hu)⟩

def Kn.slice {α : Type} (d : Kn α) : Kn (List α) := ⟨1, fun w xs c => ∃ A cap, c = [.slice A xs.length cap] ∧ xs.length ≤ cap ∧ RowAt w d A xs,
  fun w x c ⟨A, cap, h, _⟩ => by rw [h]; rfl,
  fun w w' x c B ⟨A, cap, h, h1, h2⟩ => ⟨A, cap, h, h1, h2.below B⟩⟩

variable {P : Program} {w : World}

/-- Cells that can be read as data of type t are those of a value of the kind d, of which Q holds. -/
def Opens {α : Type} (P : Program) (w : World) (t : TypeId) (d : Kn α) (Q : α → Prop) : Prop :=
  ∀ (H : Type) (enc : TypeId × Value → H) (spare : Nat → Bool) (held : Bool) (fuel : Nat) (cs : List Value) (x : DataW H × List MemPlace),
    DataW.trod enc P w 0 spare held fuel t cs = some x → ∃ a, d.K w a cs ∧ Q a

theorem opens_int {t : TypeId} (k : IntKind) (ht : P.underlying t = some (.int k)) : Opens P w t (Kn.int k) (fun n => (Lit.int k n).wf = true) := by
  intro H enc spare held fuel cs x h
  obtain ⟨n, rfl, _, hw⟩ := DataW.trod_int ht h
  exact ⟨n, rfl, hw⟩
theorem opens_bool {t : TypeId} (ht : P.underlying t = some .bool) : Opens P w t Kn.bool (fun _ => True) := by
  intro H enc spare held fuel cs x h
  obtain ⟨b, rfl, _⟩ := DataW.trod_bool ht h
  exact ⟨b, rfl, trivial⟩
theorem opens_string {t : TypeId} (ht : P.underlying t = some .string) : Opens P w t Kn.string (fun s => s.size ≤ maxLen) := by
  intro H enc spare held fuel cs x h
  obtain ⟨s, rfl, _, hs⟩ := DataW.trod_string ht h
  exact ⟨s, rfl, hs⟩

/-- The elements of a row, one by one. -/
theorem row_of {α : Type} {d : Kn α} {Q : α → Prop} {ad : Addr} : ∀ (n : Nat) (_ : ∀ i, i < n → ∃ a c, d.K w a c ∧ Q a ∧ ∀ j u, c[j]? = some u → w.cell? (ad.add (i * d.sz + j)) = some u),
    ∃ xs : List α, xs.length = n ∧ (∀ x ∈ xs, Q x) ∧ ∀ j p, xs[j]? = some p → ∃ c, d.K w p c ∧ ∀ i u, c[i]? = some u → w.cell? (ad.add (j * d.sz + i)) = some u := by
  intro n
  induction n with
  | zero => intro _; exact ⟨[], rfl, by simp, by simp⟩
  | succ n ih =>
    intro h
    obtain ⟨xs, hl, hq, hx⟩ := ih (fun i hi => h i (by omega))
    obtain ⟨a, c, hK, hQ, hcell⟩ := h n (by omega)
    refine ⟨xs ++ [a], by simp [hl], ?_, ?_⟩
    · intro x hm
      rcases List.mem_append.1 hm with hm | hm
      · exact hq x hm
      · rw [List.mem_singleton.1 hm]; exact hQ
    · intro j p hj
      by_cases hjn : j < n
      · rw [List.getElem?_append_left (by omega)] at hj
        exact hx j p hj
      · have hjl := (List.getElem?_eq_some_iff.1 hj).1
        have : j = n := by simp [hl] at hjl; omega
        subst this
        rw [List.getElem?_append_right (by omega), hl, Nat.sub_self] at hj
        obtain rfl : a = p := by simpa using hj
        exact ⟨c, hK, hcell⟩

theorem opens_slice {α : Type} {t e : TypeId} {d : Kn α} {Q : α → Prop} (ht : P.underlying t = some (.slice e)) (hsz : P.cellsOf e = d.sz) (hp : 0 < d.sz) (hd : Opens P w e d Q) :
    Opens P w t (Kn.slice d) (fun xs => xs.length ≤ maxLen ∧ ∀ x ∈ xs, Q x) := by
  intro H enc spare held fuel cs x h
  rcases DataW.trod_slice ht h with ⟨rfl, _⟩ | ⟨a, len, cap, elems, rest, n, _, rfl, rfl, hb, hl, hm, hlen, hel, _, _⟩
  · exact ⟨[], ⟨none, 0, rfl, Nat.le_refl _, fun i x hx => by simp at hx⟩, Nat.zero_le _, by simp⟩
  · obtain ⟨xs, hxl, hxq, hxs⟩ := row_of (w := w) (d := d) (Q := Q) (ad := a) len (fun i hi => by
      have hi' := hel i hi
      rw [List.getElem?_eq_getElem (by omega), Option.bind_eq_some_iff] at hi'
      obtain ⟨c, hc, hy⟩ := hi'
      obtain ⟨z, hK, hQ⟩ := hd H enc spare held n c _ hy
      obtain ⟨_, hcl, hat⟩ := World.cells?_some hc
      refine ⟨z, c, hK, hQ, fun j u hu => ?_⟩
      have hj : j < P.cellsOf e := by have := (List.getElem?_eq_some_iff.1 hu).1; omega
      have := hat j hj
      rw [hu, hsz] at this
      rw [← add_add, this])
    refine ⟨xs, ⟨some a, cap, by rw [hxl], by omega, fun i x hx => ?_⟩, by omega, hxq⟩
    obtain ⟨c, hK, hc⟩ := hxs i x hx
    refine ⟨a, c, rfl, ?_, hK, hc⟩
    have hlen := d.len _ _ _ hK
    have h0 : ∃ u, c[0]? = some u := ⟨c[0]'(by omega), List.getElem?_eq_getElem _⟩
    obtain ⟨u, hu⟩ := h0
    have := World.block_lt_of_cell? w _ (hc 0 u hu)
    rwa [blk_add] at this

/-- A struct's fields from offset o on. -/
def OpensF {α : Type} (P : Program) (w : World) (fs : List Field) (o : Nat) (d : Kn α) (Q : α → Prop) : Prop :=
  ∀ (H : Type) (enc : TypeId × Value → H) (spare : Nat → Bool) (held : Bool) (fuel : Nat) (cs : List Value),
    cs.length = o + d.sz → (∀ f ∈ fs, ∃ y, DataW.trod enc P w 0 spare held fuel f.type ((cs.drop f.offset).take (P.cellsOf f.type)) = some y) → ∃ a, d.K w a (cs.drop o) ∧ Q a

theorem opensF_one {α : Type} {f : Field} {o : Nat} {d : Kn α} {Q : α → Prop} (ho : f.offset = o) (hsz : P.cellsOf f.type = d.sz) (hd : Opens P w f.type d Q) : OpensF P w [f] o d Q := by
  intro H enc spare held fuel cs hl hf
  obtain ⟨y, hy⟩ := hf f List.mem_cons_self
  obtain ⟨a, hK, hQ⟩ := hd H enc spare held fuel _ _ hy
  rw [ho, hsz, List.take_of_length_le (by rw [List.length_drop]; omega)] at hK
  exact ⟨a, hK, hQ⟩
theorem opensF_cons {α β : Type} {f : Field} {fs : List Field} {o : Nat} {d : Kn α} {e : Kn β} {Q : α → Prop} {R : β → Prop} (ho : f.offset = o) (hsz : P.cellsOf f.type = d.sz)
    (hd : Opens P w f.type d Q) (he : OpensF P w fs (o + d.sz) e R) : OpensF P w (f :: fs) o (Kn.pair d e) (fun x => Q x.1 ∧ R x.2) := by
  intro H enc spare held fuel cs hl hf
  have hl' : cs.length = o + (d.sz + e.sz) := hl
  obtain ⟨y, hy⟩ := hf f List.mem_cons_self
  obtain ⟨a, hK, hQ⟩ := hd H enc spare held fuel _ _ hy
  obtain ⟨b, hK2, hR⟩ := he H enc spare held fuel cs (by omega) (fun g hg => hf g (List.mem_cons_of_mem _ hg))
  rw [ho, hsz] at hK
  refine ⟨(a, b), ⟨_, _, ?_, hK, hK2⟩, hQ, hR⟩
  rw [← List.drop_drop]
  exact (List.take_append_drop _ _).symm
theorem opens_struct {α : Type} {t : TypeId} {fs : Array Field} {d : Kn α} {Q : α → Prop} (ht : P.underlying t = some (.struct fs)) (hsz : P.cellsOf t = d.sz) (hd : OpensF P w fs.toList 0 d Q) : Opens P w t d Q := by
  intro H enc spare held fuel cs x h
  obtain ⟨xs, n, _, _, hl, hxl, hf⟩ := DataW.trod_struct ht h
  obtain ⟨a, hK, hQ⟩ := hd H enc spare held n cs (by omega) (fun f hm => by
    obtain ⟨i, hi, rfl⟩ := List.mem_iff_getElem.1 hm
    have hi' : i < fs.size := by simpa using hi
    have := hf i fs[i] (by simp [hi'])
    rw [List.getElem?_eq_getElem (by omega)] at this
    exact ⟨_, by simpa using this⟩)
  exact ⟨a, by simpa using hK, hQ⟩
theorem opens_mono {α : Type} {t : TypeId} {d : Kn α} {Q R : α → Prop} (h : Opens P w t d Q) (hq : ∀ a, Q a → R a) : Opens P w t d R := by
  intro H enc spare held fuel cs x hx
  obtain ⟨a, hK, hQ⟩ := h H enc spare held fuel cs x hx
  exact ⟨a, hK, hq a hQ⟩
theorem wf_int {k : IntKind} {n : Int} (h : (Lit.int k n).wf = true) : k.min ≤ n ∧ n ≤ k.max := by
  simpa [Lit.wf] using h
theorem wf_u64 {n : Int} (h : (Lit.int .u64 n).wf = true) : 0 ≤ n ∧ n ≤ 18446744073709551615 := wf_int h
theorem wf_u32 {n : Int} (h : (Lit.int .u32 n).wf = true) : 0 ≤ n ∧ n ≤ 4294967295 := wf_int h
theorem wf_u8 {n : Int} (h : (Lit.int .u8 n).wf = true) : 0 ≤ n ∧ n ≤ 255 := wf_int h
theorem wf_i64 {n : Int} (h : (Lit.int .i64 n).wf = true) : -9223372036854775808 ≤ n ∧ n ≤ 9223372036854775807 := wf_int h
end Go.VO

