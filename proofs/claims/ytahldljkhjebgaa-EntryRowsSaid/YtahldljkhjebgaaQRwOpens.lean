/- What can be read as data is a value of a kind: for each kind of parameter one lemma; over any program. -/
import Derived.Test.YtahldljkhjebgaaQRwWWords
import Derived.WalkKit
import Derived.ProofKit
import Derived.OpenShut
import Derived.ShutString
import Derived.ChangeOld
import Derived.ChangeArms
import Derived.ChangeSlices
import Derived.DataReads
import Derived.Below
import Derived.SizedLaws
namespace Go.Proofs.Ytahldljkhjebgaa.Opens
open Go.RowKit Go.Proofs.YtahldljkhjebgaaW.PrintWords
variable {P : Program} {w : World}

/-- Cells that can be read as data of type t are those of a value of the kind d, of which Q holds. -/
def Opens {α : Type} (P : Program) (w : World) (t : TypeId) (d : Kd α) (Q : α → Prop) : Prop :=
  ∀ (H : Type) (enc : TypeId × Value → H) (spare : Nat → Bool) (held : Bool) (fuel : Nat) (cs : List Value) (x : DataW H × List MemPlace),
    DataW.trod enc P w 0 spare held fuel t cs = some x → ∃ a, d.K w a cs ∧ Q a

theorem opens_int {t : TypeId} (k : IntKind) (ht : P.underlying t = some (.int k)) : Opens P w t (Kd.int k) (fun n => (Lit.int k n).wf = true) := by
  intro H enc spare held fuel cs x h
  obtain ⟨n, rfl, _, hw⟩ := DataW.trod_int ht h
  exact ⟨n, rfl, hw⟩
theorem opens_bool {t : TypeId} (ht : P.underlying t = some .bool) : Opens P w t Kd.bool (fun _ => True) := by
  intro H enc spare held fuel cs x h
  obtain ⟨b, rfl, _⟩ := DataW.trod_bool ht h
  exact ⟨b, rfl, trivial⟩

/-- The elements of a row, one by one. -/
theorem row_of {α : Type} {d : Kd α} {Q : α → Prop} {ad : Addr} : ∀ (n : Nat) (_ : ∀ i, i < n → ∃ a c, c.length = d.sz ∧ d.K w a c ∧ Q a ∧ ∀ j u, c[j]? = some u → w.cell? (ad.add (i * d.sz + j)) = some u),
    ∃ xs : List α, xs.length = n ∧ (∀ x ∈ xs, Q x) ∧ ∀ j p, xs[j]? = some p → ∃ c, c.length = d.sz ∧ d.K w p c ∧ ∀ i u, c[i]? = some u → w.cell? (ad.add (j * d.sz + i)) = some u := by
  intro n
  induction n with
  | zero => intro _; exact ⟨[], rfl, by simp, by simp⟩
  | succ n ih =>
    intro h
    obtain ⟨xs, hl, hq, hx⟩ := ih (fun i hi => h i (by omega))
    obtain ⟨a, c, hc, hK, hQ, hcell⟩ := h n (by omega)
    refine ⟨xs ++ [a], by simp [hl], ?_, ?_⟩
    · intro x hm
      rcases List.mem_append.1 hm with hm | hm
      · exact hq x hm
      · rw [List.mem_singleton.1 hm]; exact hQ
    · intro j p hj
      by_cases hjn : j < n
      · rw [List.getElem?_append_left (by omega)] at hj
        exact hx j p hj
      · have hjl := (List.getElem?_eq_some_iff.1 hj).1
        have : j = n := by simp [hl] at hjl; omega
        subst this
        rw [List.getElem?_append_right (by omega), hl, Nat.sub_self] at hj
        obtain rfl : a = p := by simpa using hj
        exact ⟨c, hc, hK, hcell⟩

theorem opens_slice {α : Type} {t e : TypeId} {d : Kd α} {Q : α → Prop} (ht : P.underlying t = some (.slice e)) (hsz : P.cellsOf e = d.sz) (hd : Opens P w e d Q) :
    Opens P w t (Kd.slice e d) (fun xs => xs.length ≤ maxLen ∧ ∀ x ∈ xs, Q x) := by
  intro H enc spare held fuel cs x h
  rcases DataW.trod_slice ht h with ⟨rfl, _⟩ | ⟨a, len, cap, elems, rest, n, _, rfl, rfl, hb, hl, hm, hlen, hel, _, _⟩
  · exact ⟨[], ⟨none, 0, rfl, Nat.le_refl _, rfl, by simp, fun h => absurd h (by simp)⟩, Nat.zero_le _, by simp⟩
  · obtain ⟨xs, hxl, hxq, hxs⟩ := row_of (w := w) (d := d) (Q := Q) (ad := a) len (fun i hi => by
      have hi' := hel i hi
      rw [List.getElem?_eq_getElem (by omega), Option.bind_eq_some_iff] at hi'
      obtain ⟨c, hc, hy⟩ := hi'
      obtain ⟨z, hK, hQ⟩ := hd H enc spare held n c _ hy
      obtain ⟨_, hcl, hat⟩ := World.cells?_some hc
      refine ⟨z, c, by omega, hK, hQ, fun j u hu => ?_⟩
      have hj : j < P.cellsOf e := by have := (List.getElem?_eq_some_iff.1 hu).1; omega
      have := hat j hj
      rw [hu, hsz] at this
      rw [← add_add, this])
    refine ⟨xs, ⟨some a, cap, by rw [hxl], by omega, hxl ▸ rfl, by unfold maxLen at hm; omega, fun _ => ⟨a, rfl, hxs⟩⟩, by omega, hxq⟩

/-- A struct's fields from offset o on. -/
def OpensF {α : Type} (P : Program) (w : World) (fs : List Field) (o : Nat) (d : Kd α) (Q : α → Prop) : Prop :=
  ∀ (H : Type) (enc : TypeId × Value → H) (spare : Nat → Bool) (held : Bool) (fuel : Nat) (cs : List Value),
    cs.length = o + d.sz → (∀ f ∈ fs, ∃ y, DataW.trod enc P w 0 spare held fuel f.type ((cs.drop f.offset).take (P.cellsOf f.type)) = some y) → ∃ a, d.K w a (cs.drop o) ∧ Q a

theorem opensF_one {α : Type} {f : Field} {o : Nat} {d : Kd α} {Q : α → Prop} (ho : f.offset = o) (hsz : P.cellsOf f.type = d.sz) (hd : Opens P w f.type d Q) : OpensF P w [f] o d Q := by
  intro H enc spare held fuel cs hl hf
  obtain ⟨y, hy⟩ := hf f List.mem_cons_self
  obtain ⟨a, hK, hQ⟩ := hd H enc spare held fuel _ _ hy
  rw [ho, hsz, List.take_of_length_le (by rw [List.length_drop]; omega)] at hK
  exact ⟨a, hK, hQ⟩
theorem opensF_cons {α β : Type} {f : Field} {fs : List Field} {o : Nat} {d : Kd α} {e : Kd β} {Q : α → Prop} {R : β → Prop} (ho : f.offset = o) (hsz : P.cellsOf f.type = d.sz)
    (hd : Opens P w f.type d Q) (he : OpensF P w fs (o + d.sz) e R) : OpensF P w (f :: fs) o (Kd.pair d e) (fun x => Q x.1 ∧ R x.2) := by
  intro H enc spare held fuel cs hl hf
  have hl' : cs.length = o + (d.sz + e.sz) := hl
  obtain ⟨y, hy⟩ := hf f List.mem_cons_self
  obtain ⟨a, hK, hQ⟩ := hd H enc spare held fuel _ _ hy
  obtain ⟨b, hK2, hR⟩ := he H enc spare held fuel cs (by omega) (fun g hg => hf g (List.mem_cons_of_mem _ hg))
  rw [ho, hsz] at hK
  refine ⟨(a, b), ⟨_, _, ?_, hK, hK2⟩, hQ, hR⟩
  rw [← List.drop_drop]
  exact (List.take_append_drop _ _).symm
theorem opens_struct {α : Type} {t : TypeId} {fs : Array Field} {d : Kd α} {Q : α → Prop} (ht : P.underlying t = some (.struct fs)) (hsz : P.cellsOf t = d.sz) (hd : OpensF P w fs.toList 0 d Q) : Opens P w t d Q := by
  intro H enc spare held fuel cs x h
  obtain ⟨xs, n, _, _, hl, hxl, hf⟩ := DataW.trod_struct ht h
  obtain ⟨a, hK, hQ⟩ := hd H enc spare held n cs (by omega) (fun f hm => by
    obtain ⟨i, hi, rfl⟩ := List.mem_iff_getElem.1 hm
    have hi' : i < fs.size := by simpa using hi
    have := hf i fs[i] (by simp [hi'])
    rw [List.getElem?_eq_getElem (by omega)] at this
    exact ⟨_, by simpa using this⟩)
  exact ⟨a, by simpa using hK, hQ⟩
theorem opens_iso {α β : Type} {t : TypeId} {d : Kd α} {Q : α → Prop} (f : β → α) (g : α → β) (hfg : ∀ a, f (g a) = a) (h : Opens P w t d Q) : Opens P w t (Kd.iso d f) (fun b => Q (f b)) := by
  intro H enc spare held fuel cs x hx
  obtain ⟨a, hK, hQ⟩ := h H enc spare held fuel cs x hx
  exact ⟨g a, by show d.K w (f (g a)) cs; rw [hfg]; exact hK, by show Q (f (g a)); rw [hfg]; exact hQ⟩
theorem opens_mono {α : Type} {t : TypeId} {d : Kd α} {Q R : α → Prop} (h : Opens P w t d Q) (hq : ∀ a, Q a → R a) : Opens P w t d R := by
  intro H enc spare held fuel cs x hx
  obtain ⟨a, hK, hQ⟩ := h H enc spare held fuel cs x hx
  exact ⟨a, hK, hq a hQ⟩
end Go.Proofs.Ytahldljkhjebgaa.Opens
