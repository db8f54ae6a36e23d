/- The verified walk VX: more kinds of contracts. -/
import Derived.Test.YtgghljienippgaaVX
namespace Go.VX
set_option linter.unusedVariables false
open Go.RowKit (Below)
variable {gh : Gh}

/-- a method whose answer is told by a name of its own, under a condition -/
def addStC {ρ : Type} (f0 : Nat) (ty : TypeId) (pat : List Value → List Value → Option (Prop × ρ × (ρ → Value × List Value))) (rest : CV) : CV := fun f args sh b h K => match Nat.beq f f0 with
  | true => match args, hd1 (match sh with
      | s :: _ => s
      | [] => []) with
    | .pointer (some ⟨g, 0, none⟩) :: r, some i => match h[i]? with
      | some ⟨g', c, e, s, none, n, .lit⟩ => (g' = g ∧ e = ty) ∧ match pat r c with
        | some (p, x, F) => p ∧ ∀ y' : ρ, x = y' → (match F y' with
          | (v, c') => forceW v fun v => forceL c' fun c' => setK h i ⟨g', c', e, s, none, n, .lit⟩ fun h => K b v [] h)
        | none => False
      | _ => False
    | _, _ => False
  | false => rest f args sh b h K

theorem addStC_ok {ρ : Type} {P : Program} {wE : World} {f0 : Nat} {ty : TypeId} {pat : List Value → List Value → Option (Prop × ρ × (ρ → Value × List Value))} {rest : CV}
    (hc : ∀ r g c p x F w, pat r c = some (p, x, F) → p → w.heap[g]? = some (.cells c.toArray ty (0, 0)) → Calls P f0 (.pointer (some ⟨g, 0, none⟩) :: r).toArray w fun e w' => e = .returned (F x).1 ∧ Keep g (F x).2 ty w w') (hr : CVok P wE rest) :
    CVok P wE (addStC f0 ty pat rest) := by
  intro gh f args sh b h K w H hk
  unfold addStC at hk
  split at hk
  · rename_i hf
    obtain rfl := Nat.eq_of_beq_eq_true hf
    split at hk
    · rename_i g r i hi0
      split at hk
      · rename_i g' c e s n hi
        obtain ⟨⟨rfl, rfl⟩, hk⟩ := hk
        split at hk
        · rename_i p x F hp
          obtain ⟨hcond, hk⟩ := hk
          have hk := hk x rfl
          simp only [forceW_eq, forceL_eq, setK_eq] at hk
          have hg : w.heap[g']? = some (.cells c.toArray e (0, 0)) := H.bl _ (List.mem_of_getElem? hi)
          exact (hc r g' c p x F w hp hcond hg).mono fun e w' ⟨he, hb⟩ => ⟨(F x).1, [], b, _, he, H.kept hi hb, hk⟩
        · exact hk.elim
      · exact hk.elim
    · exact hk.elim
  · exact hr f args sh b h K w H hk

/-- a method that answers a row of its own; its receiver stays; under a condition -/
def addNewMC (f0 : Nat) (ty ety : TypeId) (pat : List Value → List Value → Option (Prop × Nat × List Value)) (rest : CV) : CV := fun f args sh b h K => match Nat.beq f f0 with
  | true => match args, hd1 (match sh with
      | s :: _ => s
      | [] => []) with
    | .pointer (some ⟨g, 0, none⟩) :: r, some i => match h[i]? with
      | some ⟨g', c, e, _, none, _, .lit⟩ => (g' = g ∧ e = ty) ∧ match pat r c with
        | some (p, n, l) => p ∧ rowCV ety b h n l fun v s h => K b v s h
        | none => False
      | _ => False
    | _, _ => False
  | false => rest f args sh b h K

theorem addNewMC_ok {P : Program} {wE : World} {f0 : Nat} {ty ety : TypeId} {pat : List Value → List Value → Option (Prop × Nat × List Value)} {rest : CV}
    (hc : ∀ r g c p n l w, pat r c = some (p, n, l) → p → w.heap[g]? = some (.cells c.toArray ty (0, 0)) → Calls P f0 (.pointer (some ⟨g, 0, none⟩) :: r).toArray w fun e w' => ∃ v, e = .returned v ∧ NewRow w.heap.size w' ety v n l ∧ Below w.heap.size w w') (hr : CVok P wE rest) :
    CVok P wE (addNewMC f0 ty ety pat rest) := by
  intro gh f args sh b h K w H hk
  unfold addNewMC at hk
  split at hk
  · rename_i hf
    obtain rfl := Nat.eq_of_beq_eq_true hf
    split at hk
    · rename_i g r i hi0
      split at hk
      · rename_i g' c e s n hi
        obtain ⟨⟨rfl, rfl⟩, hk⟩ := hk
        split at hk
        · rename_i p n l hp
          obtain ⟨hcond, hk⟩ := hk
          have hg : w.heap[g']? = some (.cells c.toArray e (0, 0)) := H.bl _ (List.mem_of_getElem? hi)
          refine (hc r g' c p n l w hp hcond hg).mono fun e w' ⟨v, he, N, B⟩ => ?_
          obtain ⟨s, h', H', hk⟩ := rowCV_out H B N hk
          exact ⟨v, s, b, h', he, H', hk⟩
        · exact hk.elim
      · exact hk.elim
    · exact hk.elim
  · exact hr f args sh b h K w H hk

theorem HC.startS {w : World} {g : Nat} {c : List Value} {ty : TypeId} (hg : w.heap[g]? = some (.cells c.toArray ty (0, 0))) : HC [] w ⟨w, []⟩ [⟨g, c, ty, [], none, false, .sym⟩] w :=
  ⟨rfl, rfl, rfl, Nat.le_refl _, Nat.le_refl _, fun b hb => by obtain rfl := List.mem_singleton.1 hb; exact hg, List.pairwise_singleton _ _, (fun b hb hn => by obtain rfl := List.mem_singleton.1 hb; cases hn), (fun b hb => by obtain rfl := List.mem_singleton.1 hb; trivial), (fun _ _ _ _ => rfl), (fun _ _ _ => rfl), fun _ h => by cases h⟩

/-- a function that writes over a row of bytes that it was given -/
def addMutE (f0 : Nat) (ety : TypeId) (q : List Value → Prop) (rest : CV) : CV := fun f args sh b h K => match Nat.beq f f0 with
  | true => match args, hd1 (match sh with
      | s :: _ => s
      | [] => []) with
    | [.slice (some ⟨g, 0, none⟩) n cap], some i => match h[i]? with
      | some ⟨g', c, e, _, none, bn, _⟩ => (g' = g ∧ e = ety ∧ n ≤ c.length ∧ n ≤ maxLen ∧ q (c.take n)) ∧ ∀ c' : List Value, c'.length = c.length → setK h i ⟨g', c', e, [], none, bn, .sym⟩ fun h => K b (.tuple #[]) [] h
      | _ => False
    | _, _ => False
  | false => rest f args sh b h K

theorem addMutE_ok {P : Program} {wE : World} {f0 : Nat} {ety : TypeId} {q : List Value → Prop} {rest : CV}
    (hc : ∀ (g n cap : Nat) (c : List Value) (w : World), w.heap[g]? = some (.cells c.toArray ety (0, 0)) → n ≤ c.length → n ≤ maxLen → q (c.take n) → Calls P f0 [Value.slice (some ⟨g, 0, none⟩) n cap].toArray w fun en w' => en = .returned (.tuple #[]) ∧ ∃ c' : List Value, c'.length = c.length ∧ Keep g c' ety w w') (hr : CVok P wE rest) :
    CVok P wE (addMutE f0 ety q rest) := by
  intro gh f args sh b h K w H hk
  unfold addMutE at hk
  split at hk
  · rename_i hf
    obtain rfl := Nat.eq_of_beq_eq_true hf
    split at hk
    · rename_i g n cap i hi0
      split at hk
      · rename_i g' c e s bn y hi
        obtain ⟨⟨rfl, rfl, h1, h2, h3⟩, hk⟩ := hk
        have hg : w.heap[g']? = some (.cells c.toArray e (0, 0)) := H.bl _ (List.mem_of_getElem? hi)
        refine (hc g' n cap c w hg h1 h2 h3).mono fun en w' ⟨he, c', hl, k⟩ => ?_
        have hk := hk c' hl
        rw [setK_eq] at hk
        refine ⟨_, _, b, _, he, ?_, hk⟩
        exact H.chg (b' := ⟨g', c', e, [], none, bn, .sym⟩) hi rfl rfl (fun _ => trivial) k.os k.tape k.output k.size fun r hr => by
          by_cases e : r = g'
          · subst e; rw [if_pos rfl]; exact k.at_
          · rw [if_neg e]; exact k.block r hr e
      · exact hk.elim
    · exact hk.elim
  · exact hr f args sh b h K w H hk

theorem setsFrom_one {c : List Value} {o : Nat} {v : Value} : setsFrom c o [v] = c.set o v := rfl
end Go.VX
