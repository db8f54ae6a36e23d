/- Texts of this claim, one behind the other (3). -/
import Derived.Test.YtohnlhklijpafaaMNp2
import Derived.Test.YtohnlhklijpafaaProg
/- The verified walk VX: more kinds of contracts. -/
namespace Go.VX
set_option linter.unusedVariables false
open Go.RowKit (Below)
variable {gh : Gh}

/-- a method whose answer is told by a name of its own, under a condition -/
def addStC {ρ : Type} (f0 : Nat) (ty : TypeId) (pat : List Value → List Value → Option (Prop × ρ × (ρ → Value × List Value))) (rest : CV) : CV := fun f args sh b h K => match Nat.beq f f0 with
  | true => match args, hd1 (match sh with
      | s :: _ => s
      | [] => []) with
    | .pointer (some ⟨g, 0, none⟩) :: r, some i => match h[i]? with
      | some ⟨g', c, e, s, none, n, .lit⟩ => (g' = g ∧ e = ty) ∧ match pat r c with
        | some (p, x, F) => p ∧ ∀ y' : ρ, x = y' → (match F y' with
          | (v, c') => forceW v fun v => forceL c' fun c' => setK h i ⟨g', c', e, s, none, n, .lit⟩ fun h => K b v [] h)
        | none => False
      | _ => False
    | _, _ => False
  | false => rest f args sh b h K

theorem addStC_ok {ρ : Type} {P : Program} {wE : World} {f0 : Nat} {ty : TypeId} {pat : List Value → List Value → Option (Prop × ρ × (ρ → Value × List Value))} {rest : CV}
    (hc : ∀ r g c p x F w, pat r c = some (p, x, F) → p → w.heap[g]? = some (.cells c.toArray ty (0, 0)) → Calls P f0 (.pointer (some ⟨g, 0, none⟩) :: r).toArray w fun e w' => e = .returned (F x).1 ∧ Keep g (F x).2 ty w w') (hr : CVok P wE rest) :
    CVok P wE (addStC f0 ty pat rest) := by
  intro gh f args sh b h K w H hk
  unfold addStC at hk
  split at hk
  · rename_i hf
    obtain rfl := Nat.eq_of_beq_eq_true hf
    split at hk
    · rename_i g r i hi0
      split at hk
      · rename_i g' c e s n hi
        obtain ⟨⟨rfl, rfl⟩, hk⟩ := hk
        split at hk
        · rename_i p x F hp
          obtain ⟨hcond, hk⟩ := hk
          have hk := hk x rfl
          simp only [forceW_eq, forceL_eq, setK_eq] at hk
          have hg : w.heap[g']? = some (.cells c.toArray e (0, 0)) := H.bl _ (List.mem_of_getElem? hi)
          exact (hc r g' c p x F w hp hcond hg).mono fun e w' ⟨he, hb⟩ => ⟨(F x).1, [], b, _, he, H.kept hi hb, hk⟩
        · exact hk.elim
      · exact hk.elim
    · exact hk.elim
  · exact hr f args sh b h K w H hk

/-- a method that answers a row of its own; its receiver stays; under a condition -/
def addNewMC (f0 : Nat) (ty ety : TypeId) (pat : List Value → List Value → Option (Prop × Nat × List Value)) (rest : CV) : CV := fun f args sh b h K => match Nat.beq f f0 with
  | true => match args, hd1 (match sh with
      | s :: _ => s
      | [] => []) with
    | .pointer (some ⟨g, 0, none⟩) :: r, some i => match h[i]? with
      | some ⟨g', c, e, _, none, _, .lit⟩ => (g' = g ∧ e = ty) ∧ match pat r c with
        | some (p, n, l) => p ∧ rowCV ety b h n l fun v s h => K b v s h
        | none => False
      | _ => False
    | _, _ => False
  | false => rest f args sh b h K

theorem addNewMC_ok {P : Program} {wE : World} {f0 : Nat} {ty ety : TypeId} {pat : List Value → List Value → Option (Prop × Nat × List Value)} {rest : CV}
    (hc : ∀ r g c p n l w, pat r c = some (p, n, l) → p → w.heap[g]? = some (.cells c.toArray ty (0, 0)) → Calls P f0 (.pointer (some ⟨g, 0, none⟩) :: r).toArray w fun e w' => ∃ v, e = .returned v ∧ NewRow w.heap.size w' ety v n l ∧ Below w.heap.size w w') (hr : CVok P wE rest) :
    CVok P wE (addNewMC f0 ty ety pat rest) := by
  intro gh f args sh b h K w H hk
  unfold addNewMC at hk
  split at hk
  · rename_i hf
    obtain rfl := Nat.eq_of_beq_eq_true hf
    split at hk
    · rename_i g r i hi0
      split at hk
      · rename_i g' c e s n hi
        obtain ⟨⟨rfl, rfl⟩, hk⟩ := hk
        split at hk
        · rename_i p n l hp
          obtain ⟨hcond, hk⟩ := hk
          have hg : w.heap[g']? = some (.cells c.toArray e (0, 0)) := H.bl _ (List.mem_of_getElem? hi)
          refine (hc r g' c p n l w hp hcond hg).mono fun e w' ⟨v, he, N, B⟩ => ?_
          obtain ⟨s, h', H', hk⟩ := rowCV_out H B N hk
          exact ⟨v, s, b, h', he, H', hk⟩
        · exact hk.elim
      · exact hk.elim
    · exact hk.elim
  · exact hr f args sh b h K w H hk

theorem HC.startS {w : World} {g : Nat} {c : List Value} {ty : TypeId} (hg : w.heap[g]? = some (.cells c.toArray ty (0, 0))) : HC [] w ⟨w, []⟩ [⟨g, c, ty, [], none, false, .sym⟩] w :=
  ⟨rfl, rfl, rfl, Nat.le_refl _, Nat.le_refl _, fun b hb => by obtain rfl := List.mem_singleton.1 hb; exact hg, List.pairwise_singleton _ _, (fun b hb hn => by obtain rfl := List.mem_singleton.1 hb; cases hn), (fun b hb => by obtain rfl := List.mem_singleton.1 hb; trivial), (fun _ _ _ _ => rfl), (fun _ _ _ => rfl), fun _ h => by cases h⟩

/-- a function that writes over a row of bytes that it was given -/
def addMutE (f0 : Nat) (ety : TypeId) (q : List Value → Prop) (rest : CV) : CV := fun f args sh b h K => match Nat.beq f f0 with
  | true => match args, hd1 (match sh with
      | s :: _ => s
      | [] => []) with
    | [.slice (some ⟨g, 0, none⟩) n cap], some i => match h[i]? with
      | some ⟨g', c, e, _, none, bn, _⟩ => (g' = g ∧ e = ety ∧ n ≤ c.length ∧ n ≤ maxLen ∧ q (c.take n)) ∧ ∀ c' : List Value, c'.length = c.length → setK h i ⟨g', c', e, [], none, bn, .sym⟩ fun h => K b (.tuple #[]) [] h
      | _ => False
    | _, _ => False
  | false => rest f args sh b h K

theorem addMutE_ok {P : Program} {wE : World} {f0 : Nat} {ety : TypeId} {q : List Value → Prop} {rest : CV}
    (hc : ∀ (g n cap : Nat) (c : List Value) (w : World), w.heap[g]? = some (.cells c.toArray ety (0, 0)) → n ≤ c.length → n ≤ maxLen → q (c.take n) → Calls P f0 [Value.slice (some ⟨g, 0, none⟩) n cap].toArray w fun en w' => en = .returned (.tuple #[]) ∧ ∃ c' : List Value, c'.length = c.length ∧ Keep g c' ety w w') (hr : CVok P wE rest) :
    CVok P wE (addMutE f0 ety q rest) := by
  intro gh f args sh b h K w H hk
  unfold addMutE at hk
  split at hk
  · rename_i hf
    obtain rfl := Nat.eq_of_beq_eq_true hf
    split at hk
    · rename_i g n cap i hi0
      split at hk
      · rename_i g' c e s bn y hi
        obtain ⟨⟨rfl, rfl, h1, h2, h3⟩, hk⟩ := hk
        have hg : w.heap[g']? = some (.cells c.toArray e (0, 0)) := H.bl _ (List.mem_of_getElem? hi)
        refine (hc g' n cap c w hg h1 h2 h3).mono fun en w' ⟨he, c', hl, k⟩ => ?_
        have hk := hk c' hl
        rw [setK_eq] at hk
        refine ⟨_, _, b, _, he, ?_, hk⟩
        exact H.chg (b' := ⟨g', c', e, [], none, bn, .sym⟩) hi rfl rfl (fun _ => trivial) k.os k.tape k.output k.size fun r hr => by
          by_cases e : r = g'
          · subst e; rw [if_pos rfl]; exact k.at_
          · rw [if_neg e]; exact k.block r hr e
      · exact hk.elim
    · exact hk.elim
  · exact hr f args sh b h K w H hk

theorem setsFrom_one {c : List Value} {o : Nat} {v : Value} : setsFrom c o [v] = c.set o v := rfl
end Go.VX

/- The verified walk VX: contracts about bytes that a function is given, and pointers that come out. -/
namespace Go.VX
set_option linter.unusedVariables false
open Go.RowKit (Below)
variable {gh : Gh}

/-- bytes that a function is given: how many, which, and whether these are literal -/
def bytesK (wE : World) (b : Base) (h : List Blk) (x : Value) (s : Sh) (k : Nat → List Int → Bool → Prop) : Prop :=
  newsK wE b h 1 x s fun m vs ly => match ly with
    | true => match numsOf vs with
      | some ns => k m ns true
      | none => False
    | false => ∃ ns : List Int, vs = ns.map (Value.int .u8) ∧ k m ns false

/-- a slice of bytes, and which these are -/
def BytesAt (w : World) (v : Value) (m : Nat) (ns : List Int) : Prop :=
  ∃ A c, v = .slice A m c ∧ ns.length = m ∧ (0 < m → A ≠ none) ∧ ∀ a, A = some a → ∀ j n, ns[j]? = some n → w.cell? (a.add j) = some (.int .u8 n)

theorem bytesK_out {wE w : World} {b : Base} {h : List Blk} {x : Value} {s : Sh} {k : Nat → List Int → Bool → Prop} (H : HC gh wE b h w) (hk : bytesK wE b h x s k) : ∃ m ns y, BytesAt w x m ns ∧ k m ns y := by
  obtain ⟨A, m, c, vs, y, hx, hl, hfl, hA, hc, hk⟩ := newsK_out H hk
  have fin : ∀ ns : List Int, vs = ns.map (Value.int .u8) → BytesAt w x m ns := by
    rintro ns rfl
    refine ⟨A, c, hx, by simpa using hl, hA, fun a ha j n hn => hc a ha j _ ?_⟩
    rw [List.getElem?_map, hn]; rfl
  split at hk
  · split at hk
    · rename_i ns hns
      exact ⟨m, ns, _, fin ns (numsOf_out hns), hk⟩
    · exact hk.elim
  · obtain ⟨ns, hv, hk⟩ := hk
    exact ⟨m, ns, _, fin ns hv, hk⟩

theorem cell_lt {w : World} {a : Addr} {v : Value} (h : w.cell? a = some v) : a.block < w.heap.size := by
  unfold World.cell? at h
  split at h
  · rename_i hg; exact (Array.getElem?_eq_some_iff.1 hg).1
  · cases h

/-- what is asked of bytes of the entry's world -/
theorem BytesAt.far {w : World} {A : Option Addr} {m c : Nat} {ns : List Int} {h : List Blk} (B : BytesAt w (.slice A m c) m ns) (hn : allNewB h = true) :
    (ns.map (Value.int .u8)).length = m * 1 ∧ (ns.map (Value.int .u8)).all flat = true ∧ (0 < m → ∃ a, A = some a ∧ FarE w h a.block ∧ cellsAt w a 0 (ns.map (Value.int .u8))) := by
  obtain ⟨A', c', e, hl, hA, hc⟩ := B
  injection e with e1 e2 e3
  subst e1
  refine ⟨by simpa using hl, by simp [flat], fun hm => ?_⟩
  cases A with
  | none => exact absurd rfl (hA hm)
  | some a =>
    have key : ∀ (l : List Int) (i : Nat), (∀ j n, l[j]? = some n → w.cell? (a.add (i + j)) = some (.int .u8 n)) → cellsAt w a i (l.map (Value.int .u8)) := by
      intro l
      induction l with
      | nil => intro i _; trivial
      | cons x r ih =>
        intro i hl
        refine ⟨hl 0 x rfl, ih (i + 1) fun j n hj => ?_⟩
        have := hl (j + 1) n (by simpa using hj)
        rwa [show i + 1 + j = i + (j + 1) by omega]
    refine ⟨a, rfl, ⟨?_, ?_⟩, key ns 0 fun j n hj => by rw [Nat.zero_add]; exact hc a rfl j n hj⟩
    · obtain ⟨x, hx⟩ : ∃ x, ns[0]? = some x := by
        cases ns with
        | nil => simp at hl; omega
        | cons x r => exact ⟨x, rfl⟩
      have := cell_lt (hc a rfl 0 x hx)
      rwa [blk_add] at this
    · clear hc hA hl key
      induction h with
      | nil => trivial
      | cons d r ih =>
        unfold allNewB at hn
        split at hn
        · rename_i hd
          unfold oldNe
          rw [hd]; exact ih hn
        · cases hn

theorem BytesAt.below {w w' : World} {v : Value} {m : Nat} {ns : List Int} (B : BytesAt w v m ns) (h : Below w.heap.size w w') : BytesAt w' v m ns := by
  obtain ⟨A, c, e, hl, hA, hc⟩ := B
  refine ⟨A, c, e, hl, hA, fun a ha j n hn => ?_⟩
  have hcell := hc a ha j n hn
  have := cell_lt hcell
  rw [← hcell]; unfold World.cell?; rw [h.block _ this]

def sh0 : List Sh → Sh
  | s :: _ => s
  | [] => []
def sh1 : List Sh → Sh
  | _ :: s :: _ => s
  | _ => []

/-- a copy with two of room behind it, marked -/
def addLent (wE : World) (f0 : Nat) (ety : TypeId) (rest : CV) : CV := fun f args sh b h K => match Nat.beq f f0 with
  | true => match args with
    | [x] => bytesK wE b h x (sh0 sh) fun m ns ly => m ≤ 140737488355000 ∧ ∀ g cap r, b.w.heap.size ≤ g → m + 2 ≤ cap →
        snocK h ⟨g, ns.map (Value.int .u8) ++ (Value.int .u8 91 :: Value.int .u8 92 :: r), ety, [], none, true, rowKind ly cap 1⟩ fun h' => K b (.slice (some ⟨g, 0, none⟩) m cap) [[some h.length]] h'
    | _ => False
  | false => rest f args sh b h K

theorem addLent_ok {P : Program} {wE : World} {f0 : Nat} {ety : TypeId} {rest : CV}
    (hc : ∀ x m ns w, BytesAt w x m ns → m ≤ 140737488355000 → Calls P f0 [x].toArray w fun e w' => Below w.heap.size w w' ∧ ∃ g cap r, e = .returned (.slice (some ⟨g, 0, none⟩) m cap) ∧ w.heap.size ≤ g ∧ m + 2 ≤ cap ∧ cap ≤ maxLen ∧
      (ns.map (Value.int .u8) ++ (Value.int .u8 91 :: Value.int .u8 92 :: r)).length = cap ∧ w'.heap[g]? = some (.cells (ns.map (Value.int .u8) ++ (Value.int .u8 91 :: Value.int .u8 92 :: r)).toArray ety (0, 0))) (hr : CVok P wE rest) :
    CVok P wE (addLent wE f0 ety rest) := by
  intro gh f args sh b h K w H hk
  unfold addLent at hk
  split at hk
  · rename_i hf
    obtain rfl := Nat.eq_of_beq_eq_true hf
    split at hk
    · rename_i x
      obtain ⟨m, ns, y, B, hm, hk⟩ := bytesK_out H hk
      refine (hc x m ns w B hm).mono fun e w' ⟨hb, g, cap, r, he, hg, h1, h2, h3, hat⟩ => ?_
      have hk := hk g cap r (Nat.le_trans H.size hg) h1
      rw [snocK_eq] at hk
      exact ⟨_, _, b, _, he, H.addNew (d := ⟨g, ns.map (Value.int .u8) ++ (Value.int .u8 91 :: Value.int .u8 92 :: r), ety, [], none, true, rowKind y cap 1⟩) hb hg rfl (rowOk_kind h2 (by rw [h3, Nat.mul_one])) hat, hk⟩
    · exact hk.elim
  · exact hr f args sh b h K w H hk

/-- a row of the walk's own, and its room -/
def lentE (ety : TypeId) (h : List Blk) (v : Value) (s : Sh) (m : Nat) (p : List Value → Prop) : Prop := match v, hd1 s with
  | .slice (some ⟨g, 0, none⟩) n cap, some i => match h[i]? with
    | some ⟨bg, bc, be, _, none, true, y⟩ => match Nat.beq be ety with
      | true => capK y bc cap 1 ((bg = g ∧ n = m ∧ m + 2 ≤ cap) ∧ p bc)
      | false => False
    | _ => False
  | _, _ => False

theorem lentE_out {wE w : World} {b : Base} {h : List Blk} {ety : TypeId} {v : Value} {s : Sh} {m : Nat} {p : List Value → Prop} (H : HC gh wE b h w) (k : lentE ety h v s m p) :
    ∃ g cap c, v = .slice (some ⟨g, 0, none⟩) m cap ∧ wE.heap.size ≤ g ∧ m + 2 ≤ cap ∧ cap ≤ maxLen ∧ c.length = cap ∧ w.heap[g]? = some (.cells c.toArray ety (0, 0)) ∧ p c := by
  unfold lentE at k
  split at k
  · rename_i g n cap i hh
    split at k
    · rename_i bg bc be bss y hi
      split at k
      · rename_i hb
        obtain rfl := Nat.eq_of_beq_eq_true hb
        have hm := List.mem_of_getElem? hi
        obtain ⟨⟨h1, h2⟩, ⟨rfl, rfl, h3⟩, k2⟩ := capK_out (H.rw _ hm) k
        exact ⟨bg, cap, bc, rfl, H.nw _ hm rfl, h3, h1, by simpa using h2, H.bl _ hm, k2⟩
      · exact k.elim
    · exact k.elim
  · exact k.elim

/-- what was lent is whole -/
def addWhole (wE : World) (f0 : Nat) (rest : CV) : CV := fun f args sh b h K => match Nat.beq f f0 with
  | true => match args with
    | [.slice (some ⟨g, 0, none⟩) n cap, y] => match hd1 (sh0 sh) with
      | some i => match h[i]? with
        | some ⟨bg, bc, _, _, none, _, _⟩ => bytesK wE b h y (sh1 sh) fun m ns _ => (bg = g ∧ n = m ∧ m + 2 ≤ cap ∧ m ≤ 140737488355000 ∧ ∃ r, bc = ns.map (Value.int .u8) ++ (Value.int .u8 91 :: Value.int .u8 92 :: r)) ∧ K b (.bool true) [] h
        | _ => False
      | none => False
    | _ => False
  | false => rest f args sh b h K

theorem addWhole_ok {P : Program} {wE : World} {f0 : Nat} {rest : CV}
    (hc : ∀ g cap y m ns r e w, BytesAt w y m ns → m + 2 ≤ cap → m ≤ 140737488355000 → w.heap[g]? = some (.cells (ns.map (Value.int .u8) ++ (Value.int .u8 91 :: Value.int .u8 92 :: r)).toArray e (0, 0)) →
      Calls P f0 [Value.slice (some ⟨g, 0, none⟩) m cap, y].toArray w fun e w' => e = .returned (.bool true) ∧ Below w.heap.size w w') (hr : CVok P wE rest) :
    CVok P wE (addWhole wE f0 rest) := by
  intro gh f args sh b h K w H hk
  unfold addWhole at hk
  split at hk
  · rename_i hf
    obtain rfl := Nat.eq_of_beq_eq_true hf
    split at hk
    · rename_i g n cap y
      split at hk
      · rename_i i hi0
        split at hk
        · rename_i bg bc be bs bn by_ hi
          obtain ⟨m, ns, l, B, ⟨rfl, rfl, hcap, hm, r, rfl⟩, hk2⟩ := bytesK_out H hk
          exact (hc bg cap y n ns r be w B hcap hm (H.bl _ (List.mem_of_getElem? hi))).mono fun e w' ⟨he, hb⟩ => ⟨_, _, b, h, he, H.step hb, hk2⟩
        · exact hk.elim
      · exact hk.elim
    · exact hk.elim
  · exact hr f args sh b h K w H hk

/-- a number of bytes that a function is given -/
def addBV (wE : World) (f0 : Nat) (sz : Nat → Bool) (val : Nat → List Int → Int) (ok : List Int → Prop) (rest : CV) : CV := fun f args sh b h K => match Nat.beq f f0 with
  | true => match args with
    | [x] => bytesK wE b h x (sh0 sh) fun m ns _ => match sz m with
      | true => ok ns ∧ K b (.int .u64 (val m ns)) [] h
      | false => False
    | _ => False
  | false => rest f args sh b h K

theorem addBV_ok {P : Program} {wE : World} {f0 : Nat} {sz : Nat → Bool} {val : Nat → List Int → Int} {ok : List Int → Prop} {rest : CV}
    (hc : ∀ x m ns w, sz m = true → BytesAt w x m ns → ok ns → Calls P f0 [x].toArray w fun e w' => e = .returned (.int .u64 (val m ns)) ∧ Below w.heap.size w w') (hr : CVok P wE rest) :
    CVok P wE (addBV wE f0 sz val ok rest) := by
  intro gh f args sh b h K w H hk
  unfold addBV at hk
  split at hk
  · rename_i hf
    obtain rfl := Nat.eq_of_beq_eq_true hf
    split at hk
    · rename_i x
      obtain ⟨m, ns, y, B, hk⟩ := bytesK_out H hk
      split at hk
      · rename_i hs
        exact (hc x m ns w hs B hk.1).mono fun e w' ⟨he, hb⟩ => ⟨_, _, b, h, he, H.step hb, hk.2⟩
      · exact hk.elim
    · exact hk.elim
  · exact hr f args sh b h K w H hk

/-- a pointer to something new that is read out of bytes, or nil and an error -/
def addLoad (wE : World) (f0 : Nat) (ty : TypeId) (err : Int) (pre : Value → Nat → List Int → Prop) (ok : List Int → Bool) (cs : List Int → List Value) (rest : CV) : CV := fun f args sh b h K => match Nat.beq f f0 with
  | true => match args with
    | [x] => bytesK wE b h x (sh0 sh) fun m ns _ => pre x m ns ∧ br (ok ns) (∀ g, b.w.heap.size ≤ g → forceL (cs ns) fun c => snocK h ⟨g, c, ty, [], none, true, .lit⟩ fun h' => K b (.tuple #[.pointer (some ⟨g, 0, none⟩), .int .i64 0]) [[some h.length], []] h')
        (K b (.tuple #[.pointer none, .int .i64 err]) [] h)
    | _ => False
  | false => rest f args sh b h K

def LoadAt (w : World) (ty : TypeId) (err : Int) (r : Option (List Value)) (e : Ending) (w' : World) : Prop := match r with
  | none => e = .returned (.tuple #[.pointer none, .int .i64 err])
  | some c => ∃ g, w.heap.size ≤ g ∧ e = .returned (.tuple #[.pointer (some ⟨g, 0, none⟩), .int .i64 0]) ∧ w'.heap[g]? = some (.cells c.toArray ty (0, 0))

theorem addLoad_ok {P : Program} {wE : World} {f0 : Nat} {ty : TypeId} {err : Int} {pre : Value → Nat → List Int → Prop} {ok : List Int → Bool} {cs : List Int → List Value} {rest : CV}
    (hc : ∀ x m ns w, BytesAt w x m ns → pre x m ns → Calls P f0 [x].toArray w fun e w' => Below w.heap.size w w' ∧ LoadAt w ty err (bif ok ns then some (cs ns) else none) e w') (hr : CVok P wE rest) :
    CVok P wE (addLoad wE f0 ty err pre ok cs rest) := by
  intro gh f args sh b h K w H hk
  unfold addLoad at hk
  split at hk
  · rename_i hf
    obtain rfl := Nat.eq_of_beq_eq_true hf
    split at hk
    · rename_i x
      obtain ⟨m, ns, y, B, hp, hk⟩ := bytesK_out H hk
      refine (hc x m ns w B hp).mono fun e w' ⟨hb, hl⟩ => ?_
      cases ho : ok ns with
      | true =>
        rw [ho] at hl
        obtain ⟨g, hg, he, hat⟩ := hl
        have hk := br_true hk ho g (Nat.le_trans H.size hg)
        simp only [forceL_eq, snocK_eq] at hk
        exact ⟨_, _, b, _, he, H.addNew (d := ⟨g, cs ns, ty, [], none, true, .lit⟩) hb hg rfl trivial hat, hk⟩
      | false =>
        rw [ho] at hl
        exact ⟨_, _, b, h, hl, H.step hb, br_false hk ho⟩
    · exact hk.elim
  · exact hr f args sh b h K w H hk

/-- a pointer and an error that come out -/
def loadE (ty : TypeId) (err : Int) (h : List Blk) (v : Value) (s : Sh) (p : Option (List Value) → Prop) : Prop := match v with
  | .tuple c => match c.toList with
    | [.pointer none, .int .i64 e] => e = err ∧ p none
    | [.pointer (some ⟨g, 0, none⟩), .int .i64 e] => match hd1 s with
      | some i => match h[i]? with
        | some ⟨bg, bc, be, _, none, true, _⟩ => (e = 0 ∧ bg = g ∧ be = ty) ∧ p (some bc)
        | _ => False
      | none => False
    | _ => False
  | _ => False

theorem loadE_out {wE w : World} {b : Base} {h : List Blk} {ty : TypeId} {err : Int} {v : Value} {s : Sh} {p : Option (List Value) → Prop} (H : HC gh wE b h w) (k : loadE ty err h v s p) : ∃ r, LoadAt wE ty err r (.returned v) w ∧ p r := by
  unfold loadE at k
  split at k
  · rename_i c
    split at k
    · rename_i e hc
      obtain ⟨rfl, k⟩ := k
      exact ⟨none, by unfold LoadAt; rw [show c = #[.pointer none, .int .i64 e] by rw [← hc]], k⟩
    · rename_i g e hc
      split at k
      · rename_i i hi0
        split at k
        · rename_i bg bc be bs y hi
          obtain ⟨⟨rfl, rfl, rfl⟩, k⟩ := k
          have hm := List.mem_of_getElem? hi
          exact ⟨some bc, ⟨bg, H.nw _ hm rfl, by rw [show c = #[.pointer (some ⟨bg, 0, none⟩), .int .i64 0] by rw [← hc]], H.bl _ hm⟩, k⟩
        · exact k.elim
      · exact k.elim
    · exact k.elim
  · exact k.elim

theorem calls_load {P : Program} {w : World} {G : Cfg P} (hs : CVok P w G.spec) (hpv : PVok P G.pv) (m : Nat) {f : FuncId} {fn : Func} {c : Code} (hf : P.funcs[f]? = some fn) (hb : fn.body = some c)
    {args : List Value} {sh : List Sh} {ty : TypeId} {err : Int} {Q : Option (List Value) → Prop} (hv : codeVC G w m c ⟨⟨w, []⟩, mkT fn.ntmps args sh, []⟩ (retK P fn fun b v s h => newK h (loadE ty err h v s fun r => Done (Q r)))) :
    Calls P f args.toArray w fun e w' => Below w.heap.size w w' ∧ ∃ r, Q r ∧ LoadAt w ty err r e w' :=
  (calls hs hpv m hf hb sh (HC.start w) hv).mono fun e w' ⟨v, s, b', h', he, H, hk⟩ => by
    obtain ⟨hn, hk⟩ := newK_out hk
    obtain ⟨r, hl, hd⟩ := loadE_out H hk
    exact ⟨H.below hn, r, hd.out, by rw [he]; exact hl⟩

theorem HC.start2 {w : World} {g r : Nat} {c d : List Value} {ty e : TypeId} (hg : w.heap[g]? = some (.cells c.toArray ty (0, 0))) (hr : w.heap[r]? = some (.cells d.toArray e (0, 0))) (hne : g ≠ r) (s : List (Option Nat)) :
    HC [] w ⟨w, []⟩ [⟨g, c, ty, s, none, false, .lit⟩, ⟨r, d, e, [], none, false, .sym⟩] w :=
  ⟨rfl, rfl, rfl, Nat.le_refl _, Nat.le_refl _, (fun b hb => by
    rcases List.mem_cons.1 hb with rfl | hb
    · exact hg
    · obtain rfl := List.mem_singleton.1 hb; exact hr), (by simpa using hne), (fun b hb hn => by
    rcases List.mem_cons.1 hb with rfl | hb
    · cases hn
    · obtain rfl := List.mem_singleton.1 hb; cases hn), (fun b hb => by
    rcases List.mem_cons.1 hb with rfl | hb
    · trivial
    · obtain rfl := List.mem_singleton.1 hb; trivial), (fun _ _ _ _ => rfl), (fun _ _ _ => rfl), fun _ h => by cases h⟩

/-- the first block is another one now, the second one is as it was -/
def keep2K (g ty r : Nat) (cs : List Value) (ety : TypeId) (h : List Blk) (p : List Value → Prop) : Prop := match h with
  | ⟨g', c', ty', _, none, false, _⟩ :: ⟨r', cs', e', _, none, false, _⟩ :: t => (g' = g ∧ ty' = ty ∧ r' = r ∧ cs' = cs ∧ e' = ety) ∧ newK t (p c')
  | _ => False

theorem keep2K_out {w w' : World} {b : Base} {g ty r : Nat} {cs : List Value} {ety : TypeId} {h : List Blk} {p : List Value → Prop} (hr : w.heap[r]? = some (.cells cs.toArray ety (0, 0))) (H : HC gh w b h w') (k : keep2K g ty r cs ety h p) : ∃ c, Keep g c ty w w' ∧ p c := by
  unfold keep2K at k
  split at k
  · rename_i g' c' ty' s1 y1 r' cs' e' s2 y2 t
    obtain ⟨⟨rfl, rfl, rfl, rfl, rfl⟩, k⟩ := k
    obtain ⟨hn, k⟩ := newK_out k
    refine ⟨c', ⟨H.os, H.tape, H.output, H.le, H.bl _ List.mem_cons_self, fun i hi hne => ?_⟩, k⟩
    by_cases e : i = r'
    · subst e
      have := H.bl _ (List.mem_cons_of_mem _ List.mem_cons_self)
      rw [hr]; exact this
    · refine H.en i hi fun d hd hdn => ?_
      rcases List.mem_cons.1 hd with rfl | hd
      · exact Ne.symm hne
      · rcases List.mem_cons.1 hd with rfl | hd
        · exact fun h => e h.symm
        · rw [allNewB_out hn d hd] at hdn; cases hdn
  · exact k.elim

/-- a reader reads a number of so many bytes -/
def addNum (f0 : Nat) (ty ety : TypeId) (sz : Nat → Bool) (val : Nat → List Int → Int) (ok : List Int → Prop) (rest : CV) : CV := fun f args sh b h K => match Nat.beq f f0 with
  | true => match args with
    | [.pointer (some ⟨g, 0, none⟩), .int .i64 (.ofNat size)] => match sz size, hd1 (sh0 sh) with
      | true, some i => match h[i]? with
        | some ⟨g', [.slice (some ⟨rg, off, none⟩) m c, .bool s], e, hs, none, n, .lit⟩ => match hs with
          | some j :: _ => match h[j]? with
            | some ⟨bg, bc, be, _, none, _, _⟩ => match Nat.beq j i with
             | true => False
             | false => (g' = g ∧ e = ty ∧ bg = rg ∧ be = ety ∧ m ≤ c) ∧ (match s with
              | true => K b (.int .u64 0) [] h
              | false => br (Nat.blt m size) (setK h i ⟨g', [.slice (some ⟨rg, off, none⟩) m c, .bool true], e, hs, none, n, .lit⟩ fun h => K b (.int .u64 0) [] h)
                (∃ ns : List Int, ((bc.drop off).take size = ns.map (Value.int .u8) ∧ ns.length = size ∧ ok ns) ∧
                    ∀ o, o = (bif Nat.beq c size then off else off + size) → setK h i ⟨g', [.slice (some ⟨rg, o, none⟩) (m - size) (c - size), .bool false], e, hs, none, n, .lit⟩ fun h => K b (.int .u64 (val size ns)) [] h))
            | _ => False
          | _ => False
        | _ => False
      | _, _ => False
    | _ => False
  | false => rest f args sh b h K

theorem addNum_ok {P : Program} {wE : World} {f0 : Nat} {ty ety : TypeId} {sz : Nat → Bool} {val : Nat → List Int → Int} {ok : List Int → Prop} {rest : CV}
    (hc1 : ∀ (size g r off m c : Nat) (cs : List Value) (w : World), sz size = true → m ≤ c → g ≠ r → w.heap[g]? = some (.cells [Value.slice (some ⟨r, off, none⟩) m c, .bool true].toArray ty (0, 0)) → w.heap[r]? = some (.cells cs.toArray ety (0, 0)) →
      Calls P f0 [Value.pointer (some ⟨g, 0, none⟩), .int .i64 (.ofNat size)].toArray w fun e w' => e = .returned (.int .u64 0) ∧ Keep g [.slice (some ⟨r, off, none⟩) m c, .bool true] ty w w')
    (hc2 : ∀ (size g r off m c : Nat) (cs : List Value) (w : World), sz size = true → m < size → m ≤ c → g ≠ r → w.heap[g]? = some (.cells [Value.slice (some ⟨r, off, none⟩) m c, .bool false].toArray ty (0, 0)) → w.heap[r]? = some (.cells cs.toArray ety (0, 0)) →
      Calls P f0 [Value.pointer (some ⟨g, 0, none⟩), .int .i64 (.ofNat size)].toArray w fun e w' => e = .returned (.int .u64 0) ∧ Keep g [.slice (some ⟨r, off, none⟩) m c, .bool true] ty w w')
    (hc3 : ∀ (size g r off m c : Nat) (cs : List Value) (ns : List Int) (w : World), sz size = true → size ≤ m → m ≤ c → g ≠ r → (cs.drop off).take size = ns.map (Value.int .u8) → ns.length = size → ok ns → w.heap[g]? = some (.cells [Value.slice (some ⟨r, off, none⟩) m c, .bool false].toArray ty (0, 0)) →
      w.heap[r]? = some (.cells cs.toArray ety (0, 0)) →
      Calls P f0 [Value.pointer (some ⟨g, 0, none⟩), .int .i64 (.ofNat size)].toArray w fun e w' => e = .returned (.int .u64 (val size ns)) ∧ Keep g [.slice (some ⟨r, (bif Nat.beq c size then off else off + size), none⟩) (m - size) (c - size), .bool false] ty w w')
    (hr : CVok P wE rest) : CVok P wE (addNum f0 ty ety sz val ok rest) := by
  intro gh f args sh b h K w H hk
  unfold addNum at hk
  split at hk
  · rename_i hf
    obtain rfl := Nat.eq_of_beq_eq_true hf
    split at hk
    · rename_i g size
      split at hk
      · rename_i i hsz hi0
        split at hk
        · rename_i g' r off m c s e hs n hi
          split at hk
          · rename_i j hs'
            split at hk
            · rename_i bg bc be bs bn by_ hj
              split at hk
              · exact hk.elim
              rename_i hij
              obtain ⟨⟨rfl, rfl, rfl, rfl, hmc⟩, hk⟩ := hk
              have hne : g' ≠ bg := Ne.symm (nd_ne H.nd hi hj (fun e => by rw [e, show Nat.beq i i = true from Nat.beq_refl i] at hij; cases hij))
              have hg : w.heap[g']? = some (.cells _ e (0, 0)) := H.bl _ (List.mem_of_getElem? hi)
              have hrow : w.heap[bg]? = some (.cells bc.toArray be (0, 0)) := H.bl _ (List.mem_of_getElem? hj)
              cases s with
              | true => exact (hc1 size g' bg off m c bc w hsz hmc hne hg hrow).mono fun en w' ⟨he, hb⟩ => ⟨_, _, b, h, he, by
                  have := H.kept hi hb
                  rwa [set_same hi] at this, hk⟩
              | false =>
                cases hlt : Nat.blt m size with
                | true =>
                  have hk := br_true hk hlt
                  rw [setK_eq] at hk
                  exact (hc2 size g' bg off m c bc w hsz (Nat.le_of_ble_eq_true hlt) hmc hne hg hrow).mono fun en w' ⟨he, hb⟩ => ⟨_, _, b, _, he, H.kept hi hb, hk⟩
                | false =>
                  have hk := br_false hk hlt
                  have hle : size ≤ m := by
                    rcases Nat.lt_or_ge m size with h | h
                    · rw [show Nat.blt m size = true from Nat.ble_eq_true_of_le h] at hlt; cases hlt
                    · exact h
                  obtain ⟨ns, ⟨h1, h2, h3⟩, hk⟩ := hk
                  have hk := hk _ rfl
                  rw [setK_eq] at hk
                  exact (hc3 size g' bg off m c bc ns w hsz hle hmc hne h1 h2 h3 hg hrow).mono fun en w' ⟨he, hb⟩ => ⟨_, _, b, _, he, H.kept hi hb, hk⟩
            · exact hk.elim
          · exact hk.elim
        · exact hk.elim
      · exact hk.elim
    · exact hk.elim
  · exact hr f args sh b h K w H hk
end Go.VX

/- What the loops of the reference's Own keep, and the end of its walk. -/
namespace Go.VX
open Go.RowKit (Below)
set_option linter.unusedVariables false
namespace MO
/-- the bytes that Own lays into a list, and behind it -/
def pat (i k : Int) : Int := IntKind.u8.wrap (IntKind.i64.wrap (IntKind.i64.wrap (i * 31) + Int.tmod k 7))
def mark (i k : Int) : Int := IntKind.u8.wrap (IntKind.i64.wrap (IntKind.i64.wrap (200 + IntKind.i64.wrap (i * 5)) + k))
def Pat (i : Int) (n : Nat) (c : List Value) : Prop := ∀ j : Nat, j < n → c[j]? = some (.int .u8 (pat i j))
def Mark (i : Int) (n k : Nat) (c : List Value) : Prop := ∀ j : Nat, j < k → c[n + j]? = some (.int .u8 (mark i j))
def setC (x : Nat) (c : List Value) : List Blk → List Blk
  | [] => []
  | ⟨g, c0, e, s, o, n, y⟩ :: r => match x with
    | 0 => ⟨g, c, e, s, o, n, y⟩ :: r
    | x + 1 => ⟨g, c0, e, s, o, n, y⟩ :: setC x c r
def badInv : Inv := { ι := Nat, reb := false, dom := fun _ _ => False, live := fun _ _ => [], blk := fun _ _ => [], μ := fun _ => 0 }
/-- its first loop: a list is written over -/
def fill (l : Value) (i : Int) (x n len : Nat) (st : St) : Inv :=
  { ι := Nat × List Value
    reb := false
    dom := fun _ p => p.1 ≤ n ∧ p.2.length = len ∧ Pat i p.1 p.2
    live := fun _ p => [(0, l, [[some 0]]), (3, .slice none 0 0, []), (4, .int .i64 i, []), (5, .int .i64 (.ofNat p.1), [])]
    blk := fun _ p => setC x p.2 st.h
    μ := fun p => n - p.1 }
/-- of nil -/
def fillN (l : Value) (i : Int) (st : St) : Inv :=
  { ι := Nat
    reb := false
    dom := fun _ i => i = 0
    live := fun _ _ => [(0, l, [[some 0]]), (3, .slice none 0 0, []), (4, .int .i64 i, []), (5, .int .i64 0, [])]
    blk := fun _ _ => st.h
    μ := fun _ => 0 }
/-- its second loop: four more are put behind it; there is room -/
def room (l : Value) (i : Int) (x g n cap len : Nat) (st : St) : Inv :=
  { ι := Nat × List Value
    reb := false
    dom := fun _ p => p.1 ≤ 4 ∧ n + p.1 ≤ cap ∧ p.2.length = len ∧ Pat i n p.2 ∧ Mark i n p.1 p.2
    live := fun _ p => [(0, l, [[some 0]]), (3, evT st.t (.tmp 3), shOf st.t (.tmp 3)), (6, .int .i64 i, []), (7, .slice (some ⟨g, 0, none⟩) (n + p.1) cap, [[some x]]), (8, .int .i64 (.ofNat p.1), [])]
    blk := fun _ p => setC x p.2 st.h
    μ := fun p => 4 - p.1 }
/-- it was moved -/
structure MvI where
  k : Nat
  g : Nat
  cap : Nat
  c : List Value
  d : List Value
def moved (l : Value) (i : Int) (x n len : Nat) (st : St) : Inv :=
  { ι := MvI
    reb := false
    dom := fun w p => p.k ≤ 4 ∧ w.heap.size ≤ p.g ∧ n + p.k ≤ p.cap ∧ p.c.length = len ∧ Pat i n p.c ∧ Mark i n p.k p.d ∧ n + p.k ≤ p.d.length
    live := fun _ p => [(0, l, [[some 0]]), (3, evT st.t (.tmp 3), shOf st.t (.tmp 3)), (6, .int .i64 i, []), (7, .slice (some ⟨p.g, 0, none⟩) (n + p.k) p.cap, [[some st.h.length]]), (8, .int .i64 (.ofNat p.k), [])]
    blk := fun _ p => setC x p.c st.h ++ [⟨p.g, p.d, 5, [], none, true, .srow p.cap 1⟩]
    μ := fun p => 4 - p.k
    mv := [(7, st.h.length)] }
/-- out of nil -/
def movedN (l : Value) (i : Int) (st : St) : Inv :=
  { ι := MvI
    reb := false
    dom := fun w p => p.k ≤ 4 ∧ w.heap.size ≤ p.g ∧ p.k ≤ p.cap ∧ Mark i 0 p.k p.d ∧ p.k ≤ p.d.length
    live := fun _ p => [(0, l, [[some 0]]), (3, evT st.t (.tmp 3), shOf st.t (.tmp 3)), (6, .int .i64 i, []), (7, .slice (some ⟨p.g, 0, none⟩) p.k p.cap, [[some st.h.length]]), (8, .int .i64 (.ofNat p.k), [])]
    blk := fun _ p => st.h ++ [⟨p.g, p.d, 5, [], none, true, .srow p.cap 1⟩]
    μ := fun p => 4 - p.k
    mv := [(7, st.h.length)] }
def startN (l : Value) (i : Int) (st : St) : Inv :=
  { ι := Nat
    reb := false
    dom := fun _ i => i = 0
    live := fun _ _ => [(0, l, [[some 0]]), (3, evT st.t (.tmp 3), shOf st.t (.tmp 3)), (6, .int .i64 i, []), (7, .slice none 0 0, []), (8, .int .i64 0, [])]
    blk := fun _ _ => st.h
    μ := fun _ => 5 }
/-- its third loop: it is looked at -/
def look (l : Value) (i : Int) (n : Nat) (st : St) : Inv :=
  { ι := Nat
    reb := false
    dom := fun _ p => p ≤ n
    live := fun _ p => [(0, l, [[some 0]]), (3, evT st.t (.tmp 3), shOf st.t (.tmp 3)), (9, .int .i64 i, []), (10, .int .i64 (.ofNat n), []), (11, .int .i64 (.ofNat p), [])]
    blk := fun _ p => st.h
    μ := fun p => n - p }
def lookN (l : Value) (i : Int) (st : St) : Inv :=
  { ι := Nat
    reb := false
    dom := fun _ i => i = 0
    live := fun _ _ => [(0, l, [[some 0]]), (3, evT st.t (.tmp 3), shOf st.t (.tmp 3)), (9, .int .i64 i, []), (10, .int .i64 0, []), (11, .int .i64 0, [])]
    blk := fun _ _ => st.h
    μ := fun _ => 0 }
/-- a list: its block's place, its number, how many, how many there is room for, how many cells -/
structure RI where
  x : Nat
  g : Nat
  n : Nat
  cap : Nat
  len : Nat
def forI (i : Value) (r0 r1 : Option RI) (k : Int → Option RI → List Inv) : List Inv := match i with
  | .int _ (.ofNat 0) => k 0 r0
  | .int _ (.ofNat _) => k 1 r1
  | _ => [badInv]
def invOw (l : Value) (r0 r1 : Option RI) : Nat → Option (St → List Inv)
  | 6 => some fun st => forI (evT st.t (.tmp 4)) r0 r1 fun i r => match r with
    | some r => [fill l i r.x r.n r.len st]
    | none => [fillN l i st]
  | 14 => some fun st => forI (evT st.t (.tmp 6)) r0 r1 fun i r => match r with
    | some r => [room l i r.x r.g r.n r.cap r.len st, moved l i r.x r.n r.len st]
    | none => [startN l i st, movedN l i st]
  | 23 => some fun st => forI (evT st.t (.tmp 9)) r0 r1 fun i r => match r with
    | some r => [look l i r.n st]
    | none => [lookN l i st]
  | _ => none
theorem Pat.fill {i : Int} {k : Nat} {c : List Value} (h : Pat i k c) (hk : k < c.length) {v : Int} (hv : v = pat i k) : Pat i (k + 1) (c.set k (.int .u8 v)) := by
  intro j hj
  rw [List.getElem?_set]
  by_cases e : k = j
  · subst e; rw [if_pos rfl, if_pos hk, hv]
  · rw [if_neg e]; exact h j (by omega)
theorem Pat.keep {i : Int} {n m : Nat} {c : List Value} (h : Pat i n c) (hm : n ≤ m) (hl : m ≤ c.length) (r s : List Value) : Pat i n (c.take m ++ r ++ s) := by
  intro j hj
  rw [List.append_assoc, List.getElem?_append_left (by rw [List.length_take]; omega), List.getElem?_take, if_pos (by omega)]
  exact h j hj
theorem Mark.step {i : Int} {n k : Nat} {c : List Value} (h : Mark i n k c) (hl : n + k ≤ c.length) {v : Int} (hv : v = mark i k) (r : List Value) : Mark i n (k + 1) (c.take (n + k) ++ [.int .u8 v] ++ r) := by
  intro j hj
  rw [List.append_assoc]
  by_cases e : j = k
  · subst e
    rw [List.getElem?_append_right (by rw [List.length_take]; omega), List.length_take, Nat.min_eq_left hl, Nat.sub_self, hv]
    rfl
  · rw [List.getElem?_append_left (by rw [List.length_take]; omega), List.getElem?_take, if_pos (by omega)]
    exact h j (by omega)
theorem len3 {m : Nat} {c : List Value} (hl : m ≤ c.length) (v : Value) (r : List Value) : m + 1 ≤ (c.take m ++ [v] ++ r).length := by
  rw [List.length_append, List.length_append, List.length_take, List.length_singleton]; omega
theorem len4 {m : Nat} {c : List Value} (hl : m + 1 ≤ c.length) (v : Value) : (c.take m ++ [v] ++ c.drop (m + 1)).length = c.length := by
  rw [List.length_append, List.length_append, List.length_take, List.length_singleton, List.length_drop]; omega
theorem wrapn {n : Nat} (j : Nat) (h : n + j ≤ 4611686018427387904) : IntKind.i64.wrap (Int.ofNat n + (j : Int)) = ((n + j : Nat) : Int) := by
  simp [IntKind.wrap, IntKind.signed, IntKind.bits]
  omega
theorem idx {n : Nat} (j : Nat) (h : n + j ≤ 4611686018427387904) : 0 + Int.toNat (IntKind.i64.wrap (Int.ofNat n + (j : Int))) * 1 = n + j := by
  rw [wrapn j h]; omega
theorem ne_no {a b : Int} (e : a = b) (h : (a != b) = true) : False := by subst e; simp at h
theorem lt_of {k n : Nat} (h : decide (Int.ofNat k < (n : Int)) = true) : k < n := by
  have := of_decide_eq_true h
  simp only [Int.ofNat_eq_natCast] at this; omega
theorem ge_of {k n : Nat} (h : decide (Int.ofNat k < (n : Int)) = false) : n ≤ k := by
  have := of_decide_eq_false h
  simp only [Int.ofNat_eq_natCast] at this; omega
theorem lt4 {k : Nat} (h : decide (Int.ofNat k < 4) = true) : k < 4 := by
  have := of_decide_eq_true h
  simp only [Int.ofNat_eq_natCast] at this; omega
theorem ge4 {k : Nat} (h : decide (Int.ofNat k < 4) = false) : 4 ≤ k := by
  have := of_decide_eq_false h
  simp only [Int.ofNat_eq_natCast] at this; omega
end MO
/-- of the blocks that were there, these alone may have changed -/
def oldsK : List Nat → List Blk → Prop → Prop
  | _, [], p => p
  | gs, d :: r, p => match d.n with
    | true => oldsK gs r p
    | false => match gs with
      | g :: gs => d.g = g ∧ oldsK gs r p
      | [] => False
theorem oldsK_out : ∀ {gs : List Nat} {h : List Blk} {p : Prop}, oldsK gs h p → (∀ d ∈ h, d.n = false → d.g ∈ gs) ∧ p
  | _, [], _, h => ⟨fun _ h => (by cases h), h⟩
  | gs, d :: r, p, h => by
    unfold oldsK at h
    split at h
    · rename_i hn
      obtain ⟨h1, h2⟩ := oldsK_out h
      refine ⟨fun c hc hcn => ?_, h2⟩
      rcases List.mem_cons.1 hc with rfl | hc
      · rw [hn] at hcn; cases hcn
      · exact h1 c hc hcn
    · split at h
      · rename_i g gs
        obtain ⟨h1, h2⟩ := oldsK_out h.2
        refine ⟨fun c hc hcn => ?_, h2⟩
        rcases List.mem_cons.1 hc with rfl | hc
        · rw [h.1]; exact List.mem_cons_self
        · exact List.mem_cons_of_mem _ (h1 c hc hcn)
      · exact h.elim

/-- behind Own: these blocks alone may have changed -/
structure OwnPost (w : World) (gs : List Nat) (e : Ending) (w' : World) : Prop where
  ret : e = .returned (.bool true)
  os : w'.os = w.os
  tape : w'.tape = w.tape
  output : w'.output = w.output
  size : w.heap.size ≤ w'.heap.size
  block : ∀ i, i < w.heap.size → i ∉ gs → w'.heap[i]? = w.heap[i]?
theorem OwnPost.of {gh : Gh} {w w' : World} {b : Base} {h : List Blk} {gs : List Nat} {v : Value} {e : Ending} (he : e = .returned v) (H : HC gh w b h w') (hk : oldsK gs h (Done (v = .bool true))) : OwnPost w gs e w' := by
  obtain ⟨h1, h2⟩ := oldsK_out hk
  exact ⟨by rw [he, h2.out], H.os, H.tape, H.output, H.le, fun i hi hn => H.en i hi fun d hd hdn e => hn (e ▸ h1 d hd hdn)⟩
theorem HC.startL {w : World} {h : List Blk} (hb : ∀ d ∈ h, w.heap[d.g]? = some d.den ∧ d.n = false ∧ rowOk d) (nd : h.Pairwise (fun b c => b.g ≠ c.g)) : HC [] w ⟨w, []⟩ h w :=
  ⟨rfl, rfl, rfl, Nat.le_refl _, Nat.le_refl _, fun d hd => (hb d hd).1, nd, (fun d hd hn => by rw [(hb d hd).2.1] at hn; cases hn), fun d hd => (hb d hd).2.2, (fun _ _ _ _ => rfl), (fun _ _ _ => rfl), fun _ h => by cases h⟩
end Go.VX

/- More models: the reference's note. -/
namespace Go.VX.M17
/-- drayageref05.Names -/
def mNames (k : Int) : ByteArray :=
  if k = 1 then ⟨#[69, 80, 76, 68]⟩ else if k = 2 then ⟨#[69, 76]⟩ else if k = 3 then ⟨#[69, 76]⟩ else if k = 4 then ⟨#[69, 67]⟩ else if k = 5 then ⟨#[69, 84, 67]⟩ else if k = 6 then ⟨#[69, 67]⟩
  else if k = 7 then ⟨#[69, 79, 83, 85, 68]⟩ else if k = 8 then ⟨#[69, 79, 83, 85, 67, 68]⟩ else if k = 9 then ⟨#[69, 79, 83, 85]⟩ else if k = 10 then ⟨#[75, 68]⟩ else if k = 11 then ⟨#[75]⟩ else if k = 12 then ⟨#[75]⟩
  else if k = 13 then ⟨#[79, 67, 75, 68]⟩ else ⟨#[]⟩
/-- drayageref05.has -/
def hasL : List UInt8 → Int → Bool
  | [], _ => false
  | b :: r, p => ((b.toNat : Int) == p) || hasL r p
def mHas (k p : Int) : Bool := hasL (mNames k).data.toList p
/-- drayageref05.Check: what is left when Undo was looked at -/
def mRChk2 (k co : Int) (kl dl : Nat) : Int :=
  bif (!co == 0 && !mHas k 67) then 50 else bif (!(kl : Int) == 0 && !mHas k 75) then 50 else bif (!(dl : Int) == 0 && !mHas k 68) then 50
  else bif ((kl : Int) == 0 && (k == 10 || k == 11 || k == 12)) then 50 else 0
/-- drayageref05.Check -/
def mRChk (k e old lsn tick ord st : Int) (un : Bool) (co : Int) (kl dl : Nat) : Int :=
  bif (ByteArray.toList (mNames k) == ByteArray.toList ⟨#[]⟩ || decide (st < 0) || decide (st > 15) || decide (co < 0) || decide (co > 255) || decide ((kl : Int) > 32) || decide ((dl : Int) > 255)) then 50
  else bif (!e == 0 && !mHas k 69) then 50 else bif (!old == 0 && !mHas k 80) then 50 else bif (!lsn == 0 && !mHas k 76) then 50 else bif (!tick == 0 && !mHas k 84) then 50
  else bif (!ord == 0 && !mHas k 79) then 50 else bif (!st == 0 && !mHas k 83) then 50 else bif un then (bif (true && !mHas k 85) then 50 else mRChk2 k co kl dl) else mRChk2 k co kl dl
end Go.VX.M17

/- Plain: a number's bytes, as the references make them. -/
namespace Go.VX.M17
set_option linter.unusedVariables false
set_option linter.unusedSimpArgs false
theorem w64 (x : Int) : IntKind.u64.wrap x = x % 18446744073709551616 := rfl
theorem w32 (x : Int) : IntKind.u32.wrap x = x % 4294967296 := rfl
/-- the reference's bytes of a number -/
def tdivs : Nat → Int → Int
  | 0, n => n
  | k + 1, n => IntKind.u64.wrap (Int.tdiv (tdivs k n) 256)
def rb (k : Nat) (n : Int) : Int := IntKind.u8.wrap (Int.tmod (tdivs k n) 256)
theorem w8 (x : Int) : IntKind.u8.wrap x = x % 256 := rfl
theorem tdivs_eq {n : Int} (h : 0 ≤ n) (h2 : n ≤ 18446744073709551615) : ∀ k, tdivs k n = n / (256 ^ k : Nat) ∧ 0 ≤ tdivs k n ∧ tdivs k n ≤ 18446744073709551615
  | 0 => by simp [tdivs]; exact ⟨h, h2⟩
  | k + 1 => by
    obtain ⟨hk, h0, h1⟩ := tdivs_eq h h2 k
    have e : tdivs (k + 1) n = tdivs k n / 256 := by
      show IntKind.u64.wrap (Int.tdiv (tdivs k n) 256) = _
      rw [w64, Int.tdiv_eq_ediv_of_nonneg h0]; omega
    refine ⟨?_, by rw [e]; omega, by rw [e]; omega⟩
    rw [e, hk, Int.ediv_ediv_of_nonneg (Int.natCast_nonneg _)]
    congr 1
theorem rb_eq {n : Int} (h : 0 ≤ n) (h2 : n ≤ 18446744073709551615) (k : Nat) : rb k n = n / (256 ^ k : Nat) % 256 := by
  obtain ⟨hk, h0, h1⟩ := tdivs_eq h h2 k
  unfold rb
  rw [w8, Int.tmod_eq_emod_of_nonneg h0, hk]
  exact Int.emod_emod_of_dvd _ (Int.dvd_refl _)
/-- a number's bytes, the great ones first -/
def be1 (n : Int) : List Value := [.int .u8 (n % 256)]
def be4 (n : Int) : List Value := [.int .u8 (n / 16777216 % 256), .int .u8 (n / 65536 % 256), .int .u8 (n / 256 % 256), .int .u8 (n % 256)]
def be8 (n : Int) : List Value := [.int .u8 (n / 72057594037927936 % 256), .int .u8 (n / 281474976710656 % 256), .int .u8 (n / 1099511627776 % 256), .int .u8 (n / 4294967296 % 256), .int .u8 (n / 16777216 % 256), .int .u8 (n / 65536 % 256), .int .u8 (n / 256 % 256), .int .u8 (n % 256)]
/-- the reference's Num -/
def numR (n : Int) : Nat → List Value
  | 0 => []
  | k + 1 => .int .u8 (rb k n) :: numR n k
theorem numR1 {n : Int} (h : 0 ≤ n) (h2 : n ≤ 18446744073709551615) : numR n 1 = be1 n := by simp [numR, be1, rb_eq h h2]
theorem numR4 {n : Int} (h : 0 ≤ n) (h2 : n ≤ 18446744073709551615) : numR n 4 = be4 n := by simp [numR, be4, rb_eq h h2]
theorem numR8 {n : Int} (h : 0 ≤ n) (h2 : n ≤ 18446744073709551615) : numR n 8 = be8 n := by simp [numR, be8, rb_eq h h2]

theorem names_empty (k : Int) : (ByteArray.toList (mNames k) == ByteArray.toList ⟨#[]⟩) = decide (k < 1 ∨ 13 < k) := by
  rw [ByteArray.toList_eq, ByteArray.toList_eq]
  by_cases hk : 1 ≤ k ∧ k ≤ 13
  · rw [show decide (k < 1 ∨ 13 < k) = false from decide_eq_false (by omega)]
    rcases (by omega : k = 1 ∨ k = 2 ∨ k = 3 ∨ k = 4 ∨ k = 5 ∨ k = 6 ∨ k = 7 ∨ k = 8 ∨ k = 9 ∨ k = 10 ∨ k = 11 ∨ k = 12 ∨ k = 13) with rfl | rfl | rfl | rfl | rfl | rfl | rfl | rfl | rfl | rfl | rfl | rfl | rfl <;> rfl
  · have : mNames k = ⟨#[]⟩ := by
      unfold mNames
      repeat rw [if_neg (by omega)]
    rw [this, show decide (k < 1 ∨ 13 < k) = true from decide_eq_true (by omega)]; rfl

theorem wu64 (x : Int) : IntKind.u64.wrap x = x % 18446744073709551616 := rfl
theorem pb0 (x : Int) : IntKind.u8.wrap (Int.fdiv x 1) = x % 256 := by rw [Int.fdiv_eq_ediv_of_nonneg x (show (0 : Int) ≤ 1 by decide), w8]; omega
theorem qb0 (x : Int) : IntKind.u8.wrap (Int.fdiv (IntKind.u64.wrap x) 1) = x % 256 := by rw [Int.fdiv_eq_ediv_of_nonneg _ (show (0 : Int) ≤ 1 by decide), w8, wu64]; omega
theorem pb1 (x : Int) : IntKind.u8.wrap (Int.fdiv x 256) = x / 256 % 256 := by rw [Int.fdiv_eq_ediv_of_nonneg x (show (0 : Int) ≤ 256 by decide), w8]
theorem qb1 (x : Int) : IntKind.u8.wrap (Int.fdiv (IntKind.u64.wrap x) 256) = x / 256 % 256 := by rw [Int.fdiv_eq_ediv_of_nonneg _ (show (0 : Int) ≤ 256 by decide), w8, wu64]; omega
theorem pb2 (x : Int) : IntKind.u8.wrap (Int.fdiv x 65536) = x / 65536 % 256 := by rw [Int.fdiv_eq_ediv_of_nonneg x (show (0 : Int) ≤ 65536 by decide), w8]
theorem qb2 (x : Int) : IntKind.u8.wrap (Int.fdiv (IntKind.u64.wrap x) 65536) = x / 65536 % 256 := by rw [Int.fdiv_eq_ediv_of_nonneg _ (show (0 : Int) ≤ 65536 by decide), w8, wu64]; omega
theorem pb3 (x : Int) : IntKind.u8.wrap (Int.fdiv x 16777216) = x / 16777216 % 256 := by rw [Int.fdiv_eq_ediv_of_nonneg x (show (0 : Int) ≤ 16777216 by decide), w8]
theorem qb3 (x : Int) : IntKind.u8.wrap (Int.fdiv (IntKind.u64.wrap x) 16777216) = x / 16777216 % 256 := by rw [Int.fdiv_eq_ediv_of_nonneg _ (show (0 : Int) ≤ 16777216 by decide), w8, wu64]; omega
theorem pb4 (x : Int) : IntKind.u8.wrap (Int.fdiv x 4294967296) = x / 4294967296 % 256 := by rw [Int.fdiv_eq_ediv_of_nonneg x (show (0 : Int) ≤ 4294967296 by decide), w8]
theorem qb4 (x : Int) : IntKind.u8.wrap (Int.fdiv (IntKind.u64.wrap x) 4294967296) = x / 4294967296 % 256 := by rw [Int.fdiv_eq_ediv_of_nonneg _ (show (0 : Int) ≤ 4294967296 by decide), w8, wu64]; omega
theorem pb5 (x : Int) : IntKind.u8.wrap (Int.fdiv x 1099511627776) = x / 1099511627776 % 256 := by rw [Int.fdiv_eq_ediv_of_nonneg x (show (0 : Int) ≤ 1099511627776 by decide), w8]
theorem qb5 (x : Int) : IntKind.u8.wrap (Int.fdiv (IntKind.u64.wrap x) 1099511627776) = x / 1099511627776 % 256 := by rw [Int.fdiv_eq_ediv_of_nonneg _ (show (0 : Int) ≤ 1099511627776 by decide), w8, wu64]; omega
theorem pb6 (x : Int) : IntKind.u8.wrap (Int.fdiv x 281474976710656) = x / 281474976710656 % 256 := by rw [Int.fdiv_eq_ediv_of_nonneg x (show (0 : Int) ≤ 281474976710656 by decide), w8]
theorem qb6 (x : Int) : IntKind.u8.wrap (Int.fdiv (IntKind.u64.wrap x) 281474976710656) = x / 281474976710656 % 256 := by rw [Int.fdiv_eq_ediv_of_nonneg _ (show (0 : Int) ≤ 281474976710656 by decide), w8, wu64]; omega
theorem pb7 (x : Int) : IntKind.u8.wrap (Int.fdiv x 72057594037927936) = x / 72057594037927936 % 256 := by rw [Int.fdiv_eq_ediv_of_nonneg x (show (0 : Int) ≤ 72057594037927936 by decide), w8]
theorem qb7 (x : Int) : IntKind.u8.wrap (Int.fdiv (IntKind.u64.wrap x) 72057594037927936) = x / 72057594037927936 % 256 := by rw [Int.fdiv_eq_ediv_of_nonneg _ (show (0 : Int) ≤ 72057594037927936 by decide), w8, wu64]; omega
theorem ub0 (x : Int) : IntKind.u8.wrap x % 256 = x % 256 := by rw [w8]; omega
theorem vb0 (x : Int) : IntKind.u64.wrap x % 256 = x % 256 := by rw [wu64]; omega
theorem vb1 (x : Int) : IntKind.u64.wrap x / 256 % 256 = x / 256 % 256 := by rw [wu64]; omega
theorem vb2 (x : Int) : IntKind.u64.wrap x / 65536 % 256 = x / 65536 % 256 := by rw [wu64]; omega
theorem vb3 (x : Int) : IntKind.u64.wrap x / 16777216 % 256 = x / 16777216 % 256 := by rw [wu64]; omega
theorem shl1 : IntKind.u64.wrap (1 * 2 ^ Min.min (Int.toNat (IntKind.u64.wrap (IntKind.i64.wrap (8 * 1)))) IntKind.u64.bits) = 256 := by decide
theorem shl4 : IntKind.u64.wrap (1 * 2 ^ Min.min (Int.toNat (IntKind.u64.wrap (IntKind.i64.wrap (8 * 4)))) IntKind.u64.bits) = 4294967296 := by decide
end Go.VX.M17

/- The verified walk VX: contracts of functions that answer bytes of their own; of Same, Own. -/
namespace Go.VX
set_option linter.unusedVariables false
open Go.RowKit (Below)
variable {gh : Gh}

theorem add_zero' (a : Addr) : a.add 0 = a := by unfold Addr.add; rw [if_pos rfl]
/-- drayageref00.Spoil -/
def invSp (g n cap : Nat) (c : List Value) : Nat → Option (St → List Inv)
  | 1 => some fun _ => [{
      ι := Int × List Value
      reb := false
      dom := fun _ i => 0 ≤ i.1 ∧ i.1 ≤ n ∧ i.2.length = c.length ∧ (∀ v ∈ i.2.take n, ∃ x, v = .int .u8 x)
      live := fun _ i => [(0, .slice (some ⟨g, 0, none⟩) n cap, [[some 0]]), (2, .int .i64 i.1, [])]
      blk := fun _ i => [⟨g, i.2, 5, [], none, false, .sym⟩]
      μ := fun i => n - i.1.toNat }]
  | _ => none
abbrev u8s (l : List Int) : List Value := l.map (Value.int .u8)
/-- bytes of one's own: nil, or a row (z: which) -/
def OBy (ety : TypeId) (m : Nat) (w : World) (v : Value) (l : List Int) (z : Bool) : Prop :=
  (z = true ∧ v = .slice none 0 0 ∧ l = []) ∨ ∃ g cap rest, z = false ∧ v = .slice (some ⟨g, 0, none⟩) l.length cap ∧ m ≤ g ∧ cap ≤ maxLen ∧ l.length ≤ cap ∧ (u8s l ++ rest).length = cap ∧ w.heap[g]? = some (.cells (u8s l ++ rest).toArray ety (0, 0))

theorem HC.addNews {wE w w' : World} {b : Base} {h ds : List Blk} (H : HC gh wE b h w) (B : Below w.heap.size w w') (hd : ∀ d ∈ ds, w.heap.size ≤ d.g ∧ d.n = true ∧ rowOk d ∧ w'.heap[d.g]? = some d.den) (nd : ds.Pairwise (fun b c => b.g ≠ c.g)) :
    HC gh wE b (h ++ ds) w' := by
  have S := H.step B
  have at_ : ∀ c ∈ h ++ ds, c ∈ h ∨ c ∈ ds := fun c hc => List.mem_append.1 hc
  refine ⟨S.os, S.tape, S.output, S.ns, S.size, ?_, ?_, ?_, ?_, ?_, ?_, fun p hp => ⟨(S.gp p hp).1, fun c hc => ?_, (S.gp p hp).2.2⟩⟩
  · intro c hc
    rcases at_ c hc with hc | hc
    · exact S.bl c hc
    · exact (hd c hc).2.2.2
  · rw [List.pairwise_append]
    refine ⟨S.nd, nd, fun c hc e he => ?_⟩
    exact Nat.ne_of_lt (Nat.lt_of_lt_of_le (H.lt hc) (hd e he).1)
  · intro c hc hcn
    rcases at_ c hc with hc | hc
    · exact S.nw c hc hcn
    · exact Nat.le_trans H.le (hd c hc).1
  · intro c hc
    rcases at_ c hc with hc | hc
    · exact S.rw c hc
    · exact (hd c hc).2.2.1
  · exact fun i hi hne hj => S.fr i hi (fun c hc => hne c (List.mem_append_left _ hc)) hj
  · exact fun i hi hne => S.en i hi fun c hc hcn => hne c (List.mem_append_left _ hc) hcn
  · rcases at_ c hc with hc | hc
    · exact (S.gp p hp).2.1 c hc
    · exact Nat.ne_of_gt (Nat.lt_of_lt_of_le (Array.getElem?_eq_some_iff.1 (H.gp p hp).2.2).1 (hd c hc).1)

/-- what goes on behind bytes that came out: nil, or a row -/
def byK (ety : TypeId) (m : Nat) (h : List Blk) (l : List Int) (z : Bool) (K : Value → Option Nat → List Blk → Prop) : Prop :=
  (z = true → l = [] → K (.slice none 0 0) none h) ∧ ∀ g cap rest, z = false → m ≤ g → l.length ≤ cap → (u8s l ++ rest).length = cap → snocK h ⟨g, u8s l ++ rest, ety, [], none, true, .srow cap 1⟩ fun h' => K (.slice (some ⟨g, 0, none⟩) l.length cap) (some h.length) h'

/-- the blocks of such bytes -/
def byB (ety : TypeId) (m : Nat) (w' : World) (v : Value) (l : List Int) (ds : List Blk) : Prop :=
  (v = .slice none 0 0 ∧ ds = []) ∨ ∃ g cap rest, v = .slice (some ⟨g, 0, none⟩) l.length cap ∧ ds = [⟨g, u8s l ++ rest, ety, [], none, true, .srow cap 1⟩] ∧ m ≤ g ∧ rowOk ⟨g, u8s l ++ rest, ety, [], none, true, .srow cap 1⟩ ∧ w'.heap[g]? = some (.cells (u8s l ++ rest).toArray ety (0, 0))

theorem byK_out {ety : TypeId} {m m' : Nat} (hm : m ≤ m') {w' : World} {h : List Blk} {l : List Int} {K : Value → Option Nat → List Blk → Prop} {v : Value} {z : Bool} (O : OBy ety m' w' v l z) (hk : byK ety m h l z K) :
    ∃ x ds, byB ety m' w' v l ds ∧ K v x (h ++ ds) := by
  obtain ⟨h1, h2⟩ := hk
  rcases O with ⟨hz, rfl, rfl⟩ | ⟨g, cap, rest, hz, rfl, hg, hc, hl, hle, hat⟩
  · exact ⟨none, [], .inl ⟨rfl, rfl⟩, by rw [List.append_nil]; exact h1 hz rfl⟩
  · have h2 := h2 g cap rest hz (Nat.le_trans hm hg) hl hle
    rw [snocK_eq] at h2
    exact ⟨_, _, .inr ⟨g, cap, rest, rfl, rfl, hg, ⟨hc, by rw [hle, Nat.mul_one], rfl⟩, hat⟩, h2⟩

theorem byB_blk {ety : TypeId} {m : Nat} {w' : World} {v : Value} {l : List Int} {ds : List Blk} (h : byB ety m w' v l ds) : (∀ d ∈ ds, m ≤ d.g ∧ d.n = true ∧ rowOk d ∧ w'.heap[d.g]? = some d.den) ∧ ds.Pairwise (fun b c => b.g ≠ c.g) := by
  rcases h with ⟨rfl, rfl⟩ | ⟨g, cap, rest, rfl, rfl, hg, hr, hat⟩
  · exact ⟨fun _ h => (by cases h), List.Pairwise.nil⟩
  · refine ⟨fun d hd => ?_, List.pairwise_singleton _ _⟩
    obtain rfl := List.mem_singleton.1 hd
    exact ⟨hg, rfl, hr, hat⟩

def nthS : List (Option Nat) → Nat → Option Nat
  | [], _ => none
  | x :: _, 0 => x
  | _ :: r, n + 1 => nthS r n

/-- a function of a note (eleven cells) that answers bytes and a code -/
abbrev NF (α : Type) := Int → Int → Int → Int → Int → Int → Int → Bool → Int → List Int → List Int → α
def addPut (wE : World) (f0 : Nat) (ety : TypeId) (pre : NF Prop) (F : NF (List Int × Int)) (rest : CV) : CV := fun f args sh b h K => match Nat.beq f f0 with
  | true => match args with
    | [.agg a] => match a.toList with
      | [.int .i64 k, .int .u32 e, .int .u32 old, .int .u64 lsn, .int .u64 tick, .int .u32 ord, .int .i64 st, .bool un, .int .i64 co, .slice A m c, .slice B n d] =>
        bytesK wE b h (.slice A m c) [[nthS (fl1 (sh0 sh)) 9]] fun _ ks _ => bytesK wE b h (.slice B n d) [[nthS (fl1 (sh0 sh)) 10]] fun _ ds _ =>
          (m ≤ c ∧ n ≤ d ∧ pre k e old lsn tick ord st un co ks ds) ∧ ∀ l code, F k e old lsn tick ord st un co ks ds = (l, code) → byK ety b.w.heap.size h l (!(code == 0)) fun v x h' => K b (.tuple #[v, .int .i64 code]) [[x], [none]] h'
      | _ => False
    | _ => False
  | false => rest f args sh b h K

theorem addPut_ok {P : Program} {wE : World} {f0 : Nat} {ety : TypeId} {pre : NF Prop} {F : NF (List Int × Int)} {rest : CV}
    (hc : ∀ k e old lsn tick ord st un co A m c B n d ks ds w, BytesAt w (.slice A m c) m ks → BytesAt w (.slice B n d) n ds → m ≤ c → n ≤ d → pre k e old lsn tick ord st un co ks ds →
      Calls P f0 [Value.agg #[.int .i64 k, .int .u32 e, .int .u32 old, .int .u64 lsn, .int .u64 tick, .int .u32 ord, .int .i64 st, .bool un, .int .i64 co, .slice A m c, .slice B n d]].toArray w fun en w' =>
        ∃ v, en = .returned (.tuple #[v, .int .i64 (F k e old lsn tick ord st un co ks ds).2]) ∧ OBy ety w.heap.size w' v (F k e old lsn tick ord st un co ks ds).1 (!((F k e old lsn tick ord st un co ks ds).2 == 0)) ∧ Below w.heap.size w w') (hr : CVok P wE rest) :
    CVok P wE (addPut wE f0 ety pre F rest) := by
  intro gh f args sh b h K w H hk
  unfold addPut at hk
  split at hk
  · rename_i hf
    obtain rfl := Nat.eq_of_beq_eq_true hf
    split at hk
    · rename_i a
      split at hk
      · rename_i k e old lsn tick ord st un co A m c B n d ha
        obtain ⟨m', ks, y, B1, hk⟩ := bytesK_out H hk
        obtain ⟨n', ds, y', B2, ⟨h1, h2, h3⟩, hk⟩ := bytesK_out H hk
        obtain rfl : m = m' := by obtain ⟨_, _, e, _⟩ := B1; injection e
        obtain rfl : n = n' := by obtain ⟨_, _, e, _⟩ := B2; injection e
        have e : a = #[.int .i64 k, .int .u32 e, .int .u32 old, .int .u64 lsn, .int .u64 tick, .int .u32 ord, .int .i64 st, .bool un, .int .i64 co, .slice A m c, .slice B n d] := by rw [← Array.toArray_toList (xs := a), ha]
        subst e
        refine (hc _ _ _ _ _ _ _ _ _ _ _ _ _ _ _ ks ds w B1 B2 h1 h2 h3).mono fun en w' ⟨v, he, O, hb⟩ => ?_
        obtain ⟨x, bs, hB, hk⟩ := byK_out H.size O (hk _ _ rfl)
        obtain ⟨q1, q2⟩ := byB_blk hB
        exact ⟨_, _, b, _, he, H.addNews hb q1 q2, hk⟩
      · exact hk.elim
    · exact hk.elim
  · exact hr f args sh b h K w H hk

/-- are these the same bytes? -/
def addSame (wE : World) (f0 : Nat) (rest : CV) : CV := fun f args sh b h K => match Nat.beq f f0 with
  | true => match args with
    | [x, y] => bytesK wE b h x (sh0 sh) fun _ xs _ => bytesK wE b h y (sh1 sh) fun _ ys _ => ∀ c : Bool, (xs = ys → c = true) → K b (.bool c) [] h
    | _ => False
  | false => rest f args sh b h K
theorem addSame_ok {P : Program} {wE : World} {f0 : Nat} {rest : CV}
    (hc : ∀ x y m n xs ys w, BytesAt w x m xs → BytesAt w y n ys → Calls P f0 [x, y].toArray w fun e w' => ∃ c : Bool, e = .returned (.bool c) ∧ (xs = ys → c = true) ∧ Below w.heap.size w w') (hr : CVok P wE rest) :
    CVok P wE (addSame wE f0 rest) := by
  intro gh f args sh b h K w H hk
  unfold addSame at hk
  split at hk
  · rename_i hf
    obtain rfl := Nat.eq_of_beq_eq_true hf
    split at hk
    · rename_i x y
      obtain ⟨m, xs, y1, B1, hk⟩ := bytesK_out H hk
      obtain ⟨n, ys, y2, B2, hk⟩ := bytesK_out H hk
      exact (hc x y m n xs ys w B1 B2).mono fun e w' ⟨c, he, hcc, hb⟩ => ⟨_, _, b, h, he, H.step hb, hk c hcc⟩
    · exact hk.elim
  · exact hr f args sh b h K w H hk

/-- a list that Own is given: nil, or a row of the walk's own -/
def ownRow (h : List Blk) (x : Value) (s : Option Nat) (k : Option Nat → Prop) : Prop := match x with
  | .slice none 0 0 => k none
  | .slice (some ⟨g, 0, none⟩) n cap => match s with
    | some j => match h[j]? with
      | some ⟨bg, bc, be, _, none, true, .srow k0 s0⟩ => (bg = g ∧ be = 5 ∧ cap = k0 ∧ s0 = 1 ∧ n ≤ cap ∧ n ≤ 140737488355000) ∧ k (some j)
      | _ => False
    | none => False
  | _ => False

/-- such a list in memory -/
inductive OwnL (w : World) : Value → List Nat → Prop where
  | none : OwnL w (.slice none 0 0) []
  | row (g n k : Nat) (c : List Value) : w.heap[g]? = some (.cells c.toArray 5 (0, 0)) → c.length = k → k ≤ maxLen → n ≤ k → n ≤ 140737488355000 → OwnL w (.slice (some ⟨g, 0, none⟩) n k) [g]

theorem ownRow_out {wE w : World} {b : Base} {h : List Blk} {x : Value} {s : Option Nat} {k : Option Nat → Prop} (H : HC gh wE b h w) (hk : ownRow h x s k) :
    ∃ gs j, OwnL w x gs ∧ k j ∧ ((gs = [] ∧ j = none) ∨ ∃ g i d, gs = [g] ∧ j = some i ∧ h[i]? = some d ∧ d.g = g) := by
  unfold ownRow at hk
  split at hk
  · exact ⟨[], none, .none, hk, .inl ⟨rfl, rfl⟩⟩
  · rename_i g n cap
    split at hk
    · rename_i j
      split at hk
      · rename_i bg bc be bs k0 s0 hi
        obtain ⟨⟨rfl, rfl, rfl, rfl, h1, h2⟩, hk⟩ := hk
        have hm := List.mem_of_getElem? hi
        obtain ⟨h3, h4, _⟩ : cap ≤ maxLen ∧ bc.length = cap * 1 ∧ (none : Option Obj) = none := H.rw _ hm
        exact ⟨[bg], some j, .row bg n cap bc (H.bl _ hm) (by simpa using h4) h3 h1 h2, hk, .inr ⟨bg, j, _, rfl, rfl, hi, rfl⟩⟩
      · exact hk.elim
    · exact hk.elim
  · exact hk.elim

def neO : Option Nat → Option Nat → Bool
  | some i, some j => !Nat.beq i j
  | _, _ => true

def sameN : Option Nat → Option Nat → Bool
  | some _, some _ => true
  | none, none => true
  | _, _ => false

/-- drayageref00.Own of two lists; all: of which one may be nil, the other not -/
def addOwn (all : Bool) (wE : World) (f0 : Nat) (rest : CV) : CV := fun f args sh b h K => match Nat.beq f f0 with
  | true => match args, hd1 (sh0 sh) with
    | [.slice (some ⟨g, 0, none⟩) 2 cap], some i => match h[i]? with
      | some ⟨bg, [x, y], be, hs, none, true, _⟩ => (bg = g ∧ be = 24) ∧ ownRow h x (nthS hs 0) fun p => ownRow h y (nthS hs 1) fun q => match (all || sameN p q) && (neO (some i) p && neO (some i) q && neO p q) with
        | true => newK h (∀ w', K ⟨w', []⟩ (.bool true) [] [])
        | false => False
      | some ⟨bg, x :: y :: z :: r, be, hs, none, true, _⟩ => False
      | _ => False
    | _, _ => False
  | false => rest f args sh b h K

theorem addOwn_ok {P : Program} {all : Bool} {wE : World} {f0 : Nat} {rest : CV}
    (hc : ∀ g cap x y gs1 gs2 w, w.heap[g]? = some (.cells #[x, y] 24 (0, 0)) → OwnL w x gs1 → OwnL w y gs2 → (g :: (gs1 ++ gs2)).Nodup → (all = true ∨ gs1.length = gs2.length) → Calls P f0 [Value.slice (some ⟨g, 0, none⟩) 2 cap].toArray w (OwnPost w (g :: (gs1 ++ gs2)))) (hr : CVok P wE rest) :
    CVok P wE (addOwn all wE f0 rest) := by
  intro gh f args sh b h K w H hk
  unfold addOwn at hk
  split at hk
  · rename_i hf
    obtain rfl := Nat.eq_of_beq_eq_true hf
    split at hk
    · rename_i g cap i hhd
      split at hk
      · rename_i bg x y be hs by_ hi
        obtain ⟨⟨rfl, rfl⟩, hk⟩ := hk
        obtain ⟨gs1, p, O1, hk, E1⟩ := ownRow_out H hk
        obtain ⟨gs2, q, O2, hk, E2⟩ := ownRow_out H hk
        split at hk
        · rename_i hne
          obtain ⟨hn, hk⟩ := newK_out hk
          have ne : ∀ {a c : Nat} {d e : Blk}, h[a]? = some d → h[c]? = some e → neO (some a) (some c) = true → d.g ≠ e.g := fun ha hcc hne => nd_ne H.nd hcc ha (fun e => by
            subst e; simp [neO] at hne)
          simp only [Bool.and_eq_true] at hne
          obtain ⟨n0, ⟨n1, n2⟩, n3⟩ := hne
          have hsame : all = true ∨ gs1.length = gs2.length := by
            rcases Bool.or_eq_true _ _ ▸ n0 with h | h
            · exact .inl h
            · rcases E1 with ⟨rfl, rfl⟩ | ⟨g1, i1, d1, rfl, rfl, hi1, rfl⟩ <;> rcases E2 with ⟨rfl, rfl⟩ | ⟨g2, i2, d2, rfl, rfl, hi2, rfl⟩ <;> first | exact .inr rfl | (simp [sameN] at h)
          have hnd : (bg :: (gs1 ++ gs2)).Nodup := by
            rcases E1 with ⟨rfl, rfl⟩ | ⟨g1, i1, d1, rfl, rfl, hi1, rfl⟩ <;> rcases E2 with ⟨rfl, rfl⟩ | ⟨g2, i2, d2, rfl, rfl, hi2, rfl⟩
            · simp
            · simpa using ne hi hi2 n2
            · simpa using ne hi hi1 n1
            · simpa using ⟨⟨ne hi hi1 n1, ne hi hi2 n2⟩, ne hi1 hi2 n3⟩
          have hin : ∀ r ∈ bg :: (gs1 ++ gs2), ∃ d ∈ h, d.g = r := by
            intro r hr
            rcases List.mem_cons.1 hr with rfl | hr
            · exact ⟨_, List.mem_of_getElem? hi, rfl⟩
            rcases List.mem_append.1 hr with hr | hr
            · rcases E1 with ⟨rfl, rfl⟩ | ⟨g1, i1, d1, rfl, rfl, hi1, rfl⟩
              · cases hr
              · rw [List.mem_singleton.1 hr]; exact ⟨_, List.mem_of_getElem? hi1, rfl⟩
            · rcases E2 with ⟨rfl, rfl⟩ | ⟨g2, i2, d2, rfl, rfl, hi2, rfl⟩
              · cases hr
              · rw [List.mem_singleton.1 hr]; exact ⟨_, List.mem_of_getElem? hi2, rfl⟩
          have hat : w.heap[bg]? = some (.cells #[x, y] 24 (0, 0)) := H.bl _ (List.mem_of_getElem? hi)
          refine (hc bg cap x y gs1 gs2 w hat O1 O2 hnd hsame).mono fun e w' R => ⟨_, _, ⟨w', []⟩, [], R.ret, ?_, hk w'⟩
          refine ⟨R.os.trans H.os, R.tape.trans H.tape, R.output.trans H.output, Nat.le_trans H.le R.size, Nat.le_refl _, fun d hd => (by cases hd), List.Pairwise.nil, fun d hd => (by cases hd), fun d hd => (by cases hd), fun _ _ _ _ => rfl, fun r hr _ => ?_, fun z hz => ?_⟩
          · rw [R.block r (Nat.lt_of_lt_of_le hr H.le) fun hm => ?_]
            · exact H.old hn r hr
            · obtain ⟨d, hd, rfl⟩ := hin r hm
              exact absurd (H.nw d hd (allNewB_out hn d hd)) (Nat.not_le.2 hr)
          · obtain ⟨a1, a2, a3⟩ := H.gp z hz
            refine ⟨a1, fun d hd => (by cases hd), ?_⟩
            rw [R.block z.1 (Array.getElem?_eq_some_iff.1 a3).1 fun hm => ?_]
            · exact a3
            · obtain ⟨d, hd, e⟩ := hin z.1 hm
              exact a2 d hd e
        · exact hk.elim
      · exact hk.elim
      · exact hk.elim
    · exact hk.elim
  · exact hr f args sh b h K w H hk
end Go.VX

/- The end of a walk that answers bytes and a code; the reference's bytes of a note. -/
namespace Go.VX
set_option linter.unusedVariables false
open Go.RowKit (Below)
variable {gh : Gh}
/-- the same, the cells told as values -/
def OByV (ety : TypeId) (m : Nat) (w : World) (v : Value) (l : List Value) (z : Bool) : Prop :=
  (z = true ∧ v = .slice none 0 0 ∧ l = []) ∨ ∃ g cap rest, z = false ∧ v = .slice (some ⟨g, 0, none⟩) l.length cap ∧ m ≤ g ∧ cap ≤ maxLen ∧ l.length ≤ cap ∧ (l ++ rest).length = cap ∧ w.heap[g]? = some (.cells (l ++ rest).toArray ety (0, 0))
theorem OByV.by_ {ety : TypeId} {m : Nat} {w : World} {v : Value} {l : List Int} {z : Bool} (h : OByV ety m w v (u8s l) z) : OBy ety m w v l z := by
  rcases h with ⟨hz, rfl, h⟩ | ⟨g, cap, rest, hz, rfl, h1, h2, h3, h4, h5⟩
  · exact .inl ⟨hz, rfl, by simpa using h⟩
  · rw [List.length_map] at h3 ⊢
    exact .inr ⟨g, cap, rest, hz, rfl, h1, h2, h3, h4, h5⟩
def rowV (ety : TypeId) (h : List Blk) (x : Value) (s : Option Nat) (p : Bool → List Value → Prop) : Prop := match x with
  | .slice none 0 0 => p true []
  | .slice (some ⟨g, 0, none⟩) n cap => match s with
    | some i => match h[i]? with
      | some ⟨bg, bc, be, _, none, true, y⟩ => match Nat.beq be ety with
        | true => capK y bc cap 1 ((bg = g ∧ n ≤ cap) ∧ (match y.isLit with
          | true => takeK bc n (p false)
          | false => ∀ l, l = bc.take n → p false l))
        | false => False
      | _ => False
    | none => False
  | _ => False
theorem rowV_out {wE w : World} {b : Base} {h : List Blk} {ety : TypeId} {x : Value} {s : Option Nat} {p : Bool → List Value → Prop} (H : HC gh wE b h w) (k : rowV ety h x s p) : ∃ l z, OByV ety wE.heap.size w x l z ∧ p z l := by
  unfold rowV at k
  split at k
  · exact ⟨[], true, .inl ⟨rfl, rfl, rfl⟩, k⟩
  · rename_i g n cap
    split at k
    · rename_i i
      split at k
      · rename_i bg bc be bs y hi
        split at k
        · rename_i hb
          obtain rfl := Nat.eq_of_beq_eq_true hb
          have hm := List.mem_of_getElem? hi
          obtain ⟨⟨h1, h2⟩, ⟨rfl, h3⟩, k2⟩ := capK_out (H.rw _ hm) k
          have hle : n ≤ bc.length := by simp only [Nat.mul_one] at h2; omega
          have hl : (bc.take n).length = n := by rw [List.length_take, Nat.min_eq_left hle]
          have k3 : p false (bc.take n) := by
            split at k2
            · exact (takeK_out k2).2
            · exact k2 _ rfl
          refine ⟨bc.take n, false, .inr ⟨bg, cap, bc.drop n, rfl, by rw [hl], H.nw _ hm rfl, h1, by rw [hl]; exact h3, ?_, ?_⟩, k3⟩
          · rw [List.take_append_drop]; simpa using h2
          · rw [List.take_append_drop]; exact H.bl _ hm
        · exact k.elim
      · exact k.elim
    · exact k.elim
  · exact k.elim
/-- bytes of the walk's own, and a code -/
def putE (ety : TypeId) (h : List Blk) (v : Value) (s : Sh) (p : Bool → List Value → Int → Prop) : Prop := match v with
  | .tuple a => match a.toList with
    | [x, .int .i64 c] => rowV ety h x (hd1 s) fun z l => p z l c
    | _ => False
  | _ => False
theorem putE_out {wE w : World} {b : Base} {h : List Blk} {ety : TypeId} {v : Value} {s : Sh} {p : Bool → List Value → Int → Prop} (H : HC gh wE b h w) (k : putE ety h v s p) :
    ∃ x z l c, v = .tuple #[x, .int .i64 c] ∧ OByV ety wE.heap.size w x l z ∧ p z l c := by
  unfold putE at k
  split at k
  · rename_i a
    split at k
    · rename_i x c ha
      obtain ⟨l, z, h1, h2⟩ := rowV_out H k
      exact ⟨x, z, l, c, by rw [← Array.toArray_toList (xs := a), ha], h1, h2⟩
    · exact k.elim
  · exact k.elim
theorem BytesAt.max {w : World} {A : Option Addr} {m c : Nat} {ns : List Int} (B : BytesAt w (.slice A m c) m ns) : ns.length = m := by
  obtain ⟨_, _, _, h, _⟩ := B; exact h
/-- a function's walk, told as a contract; the hints of its arguments given -/
theorem calls_pure2 {P : Program} {w : World} {G : Cfg P} (hs : CVok P w G.spec) (hpv : PVok P G.pv) (n : Nat) {f : FuncId} {fn : Func} {c : Code} (hf : P.funcs[f]? = some fn) (hb : fn.body = some c) (sh : List Sh)
    {args : List Value} {Q : Value → Prop} (hv : codeVC G w n c ⟨⟨w, []⟩, mkT fn.ntmps args sh, []⟩ (retK P fn fun b v s h => newK h (Done (Q v)))) :
    Calls P f args.toArray w fun e w' => ∃ v, e = .returned v ∧ Q v ∧ Below w.heap.size w w' :=
  (calls hs hpv n hf hb sh (HC.start w) hv).mono fun e w' ⟨v, s, b', h', he, H, hk⟩ => ⟨v, he, (newK_out hk).2.out, H.below (newK_out hk).1⟩
open Go.Proofs in
theorem sz5 : Try.prog.types[5].size = 1 := by kernel_rfl
theorem tkI {n sz : Nat} {p r : List Value} {R : List Value → Prop} (hs : sz = 1) (hp : p.length = n) (hR : R p) : ∀ x, x = List.take (n * sz) (p ++ r) → R x := by
  intro x h
  subst hs hp
  rw [Nat.mul_one, List.take_left] at h
  rw [h]; exact hR
theorem tkD {n sz : Nat} {p r : List Value} {R : List Value → Prop} (hs : sz = 1) (hp : p.length = n) (hR : R p) : ∀ x, x = List.take (n * sz) (List.drop 0 (p ++ r)) → R x := tkI hs hp hR
theorem tkL {n : Nat} {p r : List Value} {R : List Value → Prop} (hp : p.length = n) (hR : R p) : ∀ x, x = List.take n (p ++ r) → R x := by
  intro x h
  subst hp
  rw [List.take_left] at h
  rw [h]; exact hR
theorem all_flat (l : List Int) : (u8s l).all flat = true := by simp [u8s, flat]
namespace M17
def be1n (n : Int) : List Int := [n % 256]
def be4n (n : Int) : List Int := [n / 16777216 % 256, n / 65536 % 256, n / 256 % 256, n % 256]
def be8n (n : Int) : List Int := [n / 72057594037927936 % 256, n / 281474976710656 % 256, n / 1099511627776 % 256, n / 4294967296 % 256, n / 16777216 % 256, n / 65536 % 256, n / 256 % 256, n % 256]
/-- a part's bytes -/
def prt (e old lsn tick ord st : Int) (un : Bool) (co : Int) (ks ds : List Int) (q : UInt8) : List Int :=
  if q = 69 then be4n e else if q = 80 then be4n old else if q = 76 then be8n lsn else if q = 84 then be8n tick else if q = 79 then be4n ord else if q = 83 then be1n st else if q = 85 then (bif un then [1] else [0])
  else if q = 67 then be1n co else if q = 75 then (ks.length : Int) :: ks else (ds.length : Int) :: ds
def prts (e old lsn tick ord st : Int) (un : Bool) (co : Int) (ks ds : List Int) : List UInt8 → List Int
  | [] => []
  | q :: r => prt e old lsn tick ord st un co ks ds q ++ prts e old lsn tick ord st un co ks ds r
/-- drayageref05.Put -/
def mRPut (k e old lsn tick ord st : Int) (un : Bool) (co : Int) (ks ds : List Int) : List Int × Int :=
  bif mRChk k e old lsn tick ord st un co ks.length ds.length == 0 then (be1n k ++ prts e old lsn tick ord st un co ks ds (mNames k).data.toList, 0) else ([], 50)
theorem rchk_01 (k e old lsn tick ord st : Int) (un : Bool) (co : Int) (kl dl : Nat) : mRChk k e old lsn tick ord st un co kl dl = 50 ∨ mRChk k e old lsn tick ord st un co kl dl = 0 := by
  have st : ∀ (c : Bool) (x : Int), (x = 50 ∨ x = 0) → ((bif c then 50 else x) = 50 ∨ (bif c then 50 else x) = 0) := by
    intro c x h
    cases c
    · exact h
    · exact .inl rfl
  have h2 : mRChk2 k co kl dl = 50 ∨ mRChk2 k co kl dl = 0 := by
    unfold mRChk2
    exact st _ _ (st _ _ (st _ _ (st _ _ (.inr rfl))))
  unfold mRChk
  refine st _ _ (st _ _ (st _ _ (st _ _ (st _ _ (st _ _ (st _ _ ?_))))))
  cases un
  · exact h2
  · exact st _ _ h2
theorem rchk_rg {k e old lsn tick ord st : Int} {un : Bool} {co : Int} {kl dl : Nat} (h : mRChk k e old lsn tick ord st un co kl dl = 0) : (1 ≤ k ∧ k ≤ 13) ∧ 0 ≤ st ∧ st ≤ 15 ∧ 0 ≤ co ∧ co ≤ 255 ∧ kl ≤ 32 ∧ dl ≤ 255 := by
  unfold mRChk at h
  simp only [cond_eq_ite] at h
  split at h
  · exact absurd h (by decide)
  · rename_i g
    simp only [Bool.or_eq_true, decide_eq_true_eq, not_or, names_empty, Int.not_lt] at g
    omega
end M17
end Go.VX

/- The walk of function 19 (names), told by the verified walk VX, and its contract. -/
namespace Go.VX
open Go.Proofs
open Go.RowKit (Below)
set_option linter.unusedVariables false
set_option linter.unusedSimpArgs false
set_option maxRecDepth 100000
set_option maxHeartbeats 4000000
open Go.VX.M17

theorem walk_names_0 (n : Nat)  (w : World) (Q : Value → Prop) : (∀ (g0 : Nat), Array.size w.heap ≤ g0 → br (decide (Int.negSucc n < 1) && Bool.true) (Done (Q (Value.string (ByteArray.mk #[])))) ((0 ≤ Int.negSucc n ∧ Int.negSucc n < 14) ∧ g0 = g0 ∧ Done (Q (Value.string (ByteArray.mk #[]))))) = codeVC (⟨TT.plain _, (fun f => false), noFar, true, noInv, noInv, noPV, noCV w⟩ : Cfg Try.prog) w 200 (Try.f19.body.getD .skip) ⟨⟨w, []⟩, mkT Try.f19.ntmps [.int .i64 (Int.negSucc n)] [], []⟩ (retK Try.prog Try.f19 fun b v s h => newK h (Done (Q v))) := by
  kernel_rfl

theorem walk_names_1  (w : World) (Q : Value → Prop) : (∀ (g0 : Nat), Array.size w.heap ≤ g0 → Done (Q (Value.string (ByteArray.mk #[])))) = codeVC (⟨TT.plain _, (fun f => false), noFar, true, noInv, noInv, noPV, noCV w⟩ : Cfg Try.prog) w 200 (Try.f19.body.getD .skip) ⟨⟨w, []⟩, mkT Try.f19.ntmps [.int .i64 0] [], []⟩ (retK Try.prog Try.f19 fun b v s h => newK h (Done (Q v))) := by
  kernel_rfl

theorem walk_names_2  (w : World) (Q : Value → Prop) : (∀ (g0 : Nat), Array.size w.heap ≤ g0 → (Int.le 0 1 ∧ Int.lt 1 14) ∧ g0 = g0 ∧ Done (Q (Value.string (ByteArray.mk #[69, 80, 76, 68])))) = codeVC (⟨TT.plain _, (fun f => false), noFar, true, noInv, noInv, noPV, noCV w⟩ : Cfg Try.prog) w 200 (Try.f19.body.getD .skip) ⟨⟨w, []⟩, mkT Try.f19.ntmps [.int .i64 1] [], []⟩ (retK Try.prog Try.f19 fun b v s h => newK h (Done (Q v))) := by
  kernel_rfl

theorem walk_names_3  (w : World) (Q : Value → Prop) : (∀ (g0 : Nat), Array.size w.heap ≤ g0 → (Int.le 0 2 ∧ Int.lt 2 14) ∧ g0 = g0 ∧ Done (Q (Value.string (ByteArray.mk #[69, 76])))) = codeVC (⟨TT.plain _, (fun f => false), noFar, true, noInv, noInv, noPV, noCV w⟩ : Cfg Try.prog) w 200 (Try.f19.body.getD .skip) ⟨⟨w, []⟩, mkT Try.f19.ntmps [.int .i64 2] [], []⟩ (retK Try.prog Try.f19 fun b v s h => newK h (Done (Q v))) := by
  kernel_rfl

theorem walk_names_4  (w : World) (Q : Value → Prop) : (∀ (g0 : Nat), Array.size w.heap ≤ g0 → (Int.le 0 3 ∧ Int.lt 3 14) ∧ g0 = g0 ∧ Done (Q (Value.string (ByteArray.mk #[69, 76])))) = codeVC (⟨TT.plain _, (fun f => false), noFar, true, noInv, noInv, noPV, noCV w⟩ : Cfg Try.prog) w 200 (Try.f19.body.getD .skip) ⟨⟨w, []⟩, mkT Try.f19.ntmps [.int .i64 3] [], []⟩ (retK Try.prog Try.f19 fun b v s h => newK h (Done (Q v))) := by
  kernel_rfl

theorem walk_names_5  (w : World) (Q : Value → Prop) : (∀ (g0 : Nat), Array.size w.heap ≤ g0 → (Int.le 0 4 ∧ Int.lt 4 14) ∧ g0 = g0 ∧ Done (Q (Value.string (ByteArray.mk #[69, 67])))) = codeVC (⟨TT.plain _, (fun f => false), noFar, true, noInv, noInv, noPV, noCV w⟩ : Cfg Try.prog) w 200 (Try.f19.body.getD .skip) ⟨⟨w, []⟩, mkT Try.f19.ntmps [.int .i64 4] [], []⟩ (retK Try.prog Try.f19 fun b v s h => newK h (Done (Q v))) := by
  kernel_rfl

theorem walk_names_6  (w : World) (Q : Value → Prop) : (∀ (g0 : Nat), Array.size w.heap ≤ g0 → (Int.le 0 5 ∧ Int.lt 5 14) ∧ g0 = g0 ∧ Done (Q (Value.string (ByteArray.mk #[69, 84, 67])))) = codeVC (⟨TT.plain _, (fun f => false), noFar, true, noInv, noInv, noPV, noCV w⟩ : Cfg Try.prog) w 200 (Try.f19.body.getD .skip) ⟨⟨w, []⟩, mkT Try.f19.ntmps [.int .i64 5] [], []⟩ (retK Try.prog Try.f19 fun b v s h => newK h (Done (Q v))) := by
  kernel_rfl

theorem walk_names_7  (w : World) (Q : Value → Prop) : (∀ (g0 : Nat), Array.size w.heap ≤ g0 → (Int.le 0 6 ∧ Int.lt 6 14) ∧ g0 = g0 ∧ Done (Q (Value.string (ByteArray.mk #[69, 67])))) = codeVC (⟨TT.plain _, (fun f => false), noFar, true, noInv, noInv, noPV, noCV w⟩ : Cfg Try.prog) w 200 (Try.f19.body.getD .skip) ⟨⟨w, []⟩, mkT Try.f19.ntmps [.int .i64 6] [], []⟩ (retK Try.prog Try.f19 fun b v s h => newK h (Done (Q v))) := by
  kernel_rfl

theorem walk_names_8  (w : World) (Q : Value → Prop) : (∀ (g0 : Nat), Array.size w.heap ≤ g0 → (Int.le 0 7 ∧ Int.lt 7 14) ∧ g0 = g0 ∧ Done (Q (Value.string (ByteArray.mk #[69, 79, 83, 85, 68])))) = codeVC (⟨TT.plain _, (fun f => false), noFar, true, noInv, noInv, noPV, noCV w⟩ : Cfg Try.prog) w 200 (Try.f19.body.getD .skip) ⟨⟨w, []⟩, mkT Try.f19.ntmps [.int .i64 7] [], []⟩ (retK Try.prog Try.f19 fun b v s h => newK h (Done (Q v))) := by
  kernel_rfl

theorem walk_names_9  (w : World) (Q : Value → Prop) : (∀ (g0 : Nat), Array.size w.heap ≤ g0 → (Int.le 0 8 ∧ Int.lt 8 14) ∧ g0 = g0 ∧ Done (Q (Value.string (ByteArray.mk #[69, 79, 83, 85, 67, 68])))) = codeVC (⟨TT.plain _, (fun f => false), noFar, true, noInv, noInv, noPV, noCV w⟩ : Cfg Try.prog) w 200 (Try.f19.body.getD .skip) ⟨⟨w, []⟩, mkT Try.f19.ntmps [.int .i64 8] [], []⟩ (retK Try.prog Try.f19 fun b v s h => newK h (Done (Q v))) := by
  kernel_rfl

theorem walk_names_10  (w : World) (Q : Value → Prop) : (∀ (g0 : Nat), Array.size w.heap ≤ g0 → (Int.le 0 9 ∧ Int.lt 9 14) ∧ g0 = g0 ∧ Done (Q (Value.string (ByteArray.mk #[69, 79, 83, 85])))) = codeVC (⟨TT.plain _, (fun f => false), noFar, true, noInv, noInv, noPV, noCV w⟩ : Cfg Try.prog) w 200 (Try.f19.body.getD .skip) ⟨⟨w, []⟩, mkT Try.f19.ntmps [.int .i64 9] [], []⟩ (retK Try.prog Try.f19 fun b v s h => newK h (Done (Q v))) := by
  kernel_rfl

theorem walk_names_11  (w : World) (Q : Value → Prop) : (∀ (g0 : Nat), Array.size w.heap ≤ g0 → (Int.le 0 10 ∧ Int.lt 10 14) ∧ g0 = g0 ∧ Done (Q (Value.string (ByteArray.mk #[75, 68])))) = codeVC (⟨TT.plain _, (fun f => false), noFar, true, noInv, noInv, noPV, noCV w⟩ : Cfg Try.prog) w 200 (Try.f19.body.getD .skip) ⟨⟨w, []⟩, mkT Try.f19.ntmps [.int .i64 10] [], []⟩ (retK Try.prog Try.f19 fun b v s h => newK h (Done (Q v))) := by
  kernel_rfl

theorem walk_names_12  (w : World) (Q : Value → Prop) : (∀ (g0 : Nat), Array.size w.heap ≤ g0 → (Int.le 0 11 ∧ Int.lt 11 14) ∧ g0 = g0 ∧ Done (Q (Value.string (ByteArray.mk #[75])))) = codeVC (⟨TT.plain _, (fun f => false), noFar, true, noInv, noInv, noPV, noCV w⟩ : Cfg Try.prog) w 200 (Try.f19.body.getD .skip) ⟨⟨w, []⟩, mkT Try.f19.ntmps [.int .i64 11] [], []⟩ (retK Try.prog Try.f19 fun b v s h => newK h (Done (Q v))) := by
  kernel_rfl

theorem walk_names_13  (w : World) (Q : Value → Prop) : (∀ (g0 : Nat), Array.size w.heap ≤ g0 → (Int.le 0 12 ∧ Int.lt 12 14) ∧ g0 = g0 ∧ Done (Q (Value.string (ByteArray.mk #[75])))) = codeVC (⟨TT.plain _, (fun f => false), noFar, true, noInv, noInv, noPV, noCV w⟩ : Cfg Try.prog) w 200 (Try.f19.body.getD .skip) ⟨⟨w, []⟩, mkT Try.f19.ntmps [.int .i64 12] [], []⟩ (retK Try.prog Try.f19 fun b v s h => newK h (Done (Q v))) := by
  kernel_rfl

theorem walk_names_14  (w : World) (Q : Value → Prop) : (∀ (g0 : Nat), Array.size w.heap ≤ g0 → (Int.le 0 13 ∧ Int.lt 13 14) ∧ g0 = g0 ∧ Done (Q (Value.string (ByteArray.mk #[79, 67, 75, 68])))) = codeVC (⟨TT.plain _, (fun f => false), noFar, true, noInv, noInv, noPV, noCV w⟩ : Cfg Try.prog) w 200 (Try.f19.body.getD .skip) ⟨⟨w, []⟩, mkT Try.f19.ntmps [.int .i64 13] [], []⟩ (retK Try.prog Try.f19 fun b v s h => newK h (Done (Q v))) := by
  kernel_rfl

theorem walk_names_15 (n : Nat)  (w : World) (Q : Value → Prop) : (∀ (g0 : Nat), Array.size w.heap ≤ g0 → br (Bool.false || decide (Int.ofNat (n + 14) > 13)) (Done (Q (Value.string (ByteArray.mk #[])))) ((0 ≤ Int.ofNat (n + 14) ∧ Int.ofNat (n + 14) < 14) ∧ g0 = g0 ∧ False)) = codeVC (⟨TT.plain _, (fun f => false), noFar, true, noInv, noInv, noPV, noCV w⟩ : Cfg Try.prog) w 200 (Try.f19.body.getD .skip) ⟨⟨w, []⟩, mkT Try.f19.ntmps [.int .i64 (Int.ofNat (n + 14))] [], []⟩ (retK Try.prog Try.f19 fun b v s h => newK h (Done (Q v))) := by
  kernel_rfl

theorem names_calls (k : Int)  (w : World) : Calls Try.prog 19 ([.int .i64 k] : List Value).toArray w fun en w' => en = .returned (.string (mNames k)) ∧ Below w.heap.size w w' := by
  by_cases hk : 1 ≤ k ∧ k ≤ 13
  · rcases (by omega : k = 1 ∨ k = 2 ∨ k = 3 ∨ k = 4 ∨ k = 5 ∨ k = 6 ∨ k = 7 ∨ k = 8 ∨ k = 9 ∨ k = 10 ∨ k = 11 ∨ k = 12 ∨ k = 13) with rfl | rfl | rfl | rfl | rfl | rfl | rfl | rfl | rfl | rfl | rfl | rfl | rfl
    · refine calls_eq (calls_pure (G := (⟨TT.plain _, (fun f => false), noFar, true, noInv, noInv, noPV, noCV w⟩ : Cfg Try.prog)) (noCV_ok' Try.prog w) (noPV_ok Try.prog) 200 Try.func19 rfl (Q := fun v => v = .string (mNames 1)) ((walk_names_2  w (fun v => v = .string (mNames 1))).mp ?_))
      (repeat' (first | intro _ | apply And.intro | apply br_intro)) <;> all_goals first | rfl | decide | (show (_ : Int) ≤ _; decide) | (show (_ : Int) < _; decide) | assumption | exact True.intro | (refine Done.mk ?_; rfl) | (exfalso; simp only [Bool.and_true, Bool.true_and, Bool.false_or, Bool.or_false, decide_eq_false_iff_not, decide_eq_true_eq, Int.not_lt, Int.not_le, gt_iff_lt, Int.ofNat_eq_natCast] at *; omega)
    · refine calls_eq (calls_pure (G := (⟨TT.plain _, (fun f => false), noFar, true, noInv, noInv, noPV, noCV w⟩ : Cfg Try.prog)) (noCV_ok' Try.prog w) (noPV_ok Try.prog) 200 Try.func19 rfl (Q := fun v => v = .string (mNames 2)) ((walk_names_3  w (fun v => v = .string (mNames 2))).mp ?_))
      (repeat' (first | intro _ | apply And.intro | apply br_intro)) <;> all_goals first | rfl | decide | (show (_ : Int) ≤ _; decide) | (show (_ : Int) < _; decide) | assumption | exact True.intro | (refine Done.mk ?_; rfl) | (exfalso; simp only [Bool.and_true, Bool.true_and, Bool.false_or, Bool.or_false, decide_eq_false_iff_not, decide_eq_true_eq, Int.not_lt, Int.not_le, gt_iff_lt, Int.ofNat_eq_natCast] at *; omega)
    · refine calls_eq (calls_pure (G := (⟨TT.plain _, (fun f => false), noFar, true, noInv, noInv, noPV, noCV w⟩ : Cfg Try.prog)) (noCV_ok' Try.prog w) (noPV_ok Try.prog) 200 Try.func19 rfl (Q := fun v => v = .string (mNames 3)) ((walk_names_4  w (fun v => v = .string (mNames 3))).mp ?_))
      (repeat' (first | intro _ | apply And.intro | apply br_intro)) <;> all_goals first | rfl | decide | (show (_ : Int) ≤ _; decide) | (show (_ : Int) < _; decide) | assumption | exact True.intro | (refine Done.mk ?_; rfl) | (exfalso; simp only [Bool.and_true, Bool.true_and, Bool.false_or, Bool.or_false, decide_eq_false_iff_not, decide_eq_true_eq, Int.not_lt, Int.not_le, gt_iff_lt, Int.ofNat_eq_natCast] at *; omega)
    · refine calls_eq (calls_pure (G := (⟨TT.plain _, (fun f => false), noFar, true, noInv, noInv, noPV, noCV w⟩ : Cfg Try.prog)) (noCV_ok' Try.prog w) (noPV_ok Try.prog) 200 Try.func19 rfl (Q := fun v => v = .string (mNames 4)) ((walk_names_5  w (fun v => v = .string (mNames 4))).mp ?_))
      (repeat' (first | intro _ | apply And.intro | apply br_intro)) <;> all_goals first | rfl | decide | (show (_ : Int) ≤ _; decide) | (show (_ : Int) < _; decide) | assumption | exact True.intro | (refine Done.mk ?_; rfl) | (exfalso; simp only [Bool.and_true, Bool.true_and, Bool.false_or, Bool.or_false, decide_eq_false_iff_not, decide_eq_true_eq, Int.not_lt, Int.not_le, gt_iff_lt, Int.ofNat_eq_natCast] at *; omega)
    · refine calls_eq (calls_pure (G := (⟨TT.plain _, (fun f => false), noFar, true, noInv, noInv, noPV, noCV w⟩ : Cfg Try.prog)) (noCV_ok' Try.prog w) (noPV_ok Try.prog) 200 Try.func19 rfl (Q := fun v => v = .string (mNames 5)) ((walk_names_6  w (fun v => v = .string (mNames 5))).mp ?_))
      (repeat' (first | intro _ | apply And.intro | apply br_intro)) <;> all_goals first | rfl | decide | (show (_ : Int) ≤ _; decide) | (show (_ : Int) < _; decide) | assumption | exact True.intro | (refine Done.mk ?_; rfl) | (exfalso; simp only [Bool.and_true, Bool.true_and, Bool.false_or, Bool.or_false, decide_eq_false_iff_not, decide_eq_true_eq, Int.not_lt, Int.not_le, gt_iff_lt, Int.ofNat_eq_natCast] at *; omega)
    · refine calls_eq (calls_pure (G := (⟨TT.plain _, (fun f => false), noFar, true, noInv, noInv, noPV, noCV w⟩ : Cfg Try.prog)) (noCV_ok' Try.prog w) (noPV_ok Try.prog) 200 Try.func19 rfl (Q := fun v => v = .string (mNames 6)) ((walk_names_7  w (fun v => v = .string (mNames 6))).mp ?_))
      (repeat' (first | intro _ | apply And.intro | apply br_intro)) <;> all_goals first | rfl | decide | (show (_ : Int) ≤ _; decide) | (show (_ : Int) < _; decide) | assumption | exact True.intro | (refine Done.mk ?_; rfl) | (exfalso; simp only [Bool.and_true, Bool.true_and, Bool.false_or, Bool.or_false, decide_eq_false_iff_not, decide_eq_true_eq, Int.not_lt, Int.not_le, gt_iff_lt, Int.ofNat_eq_natCast] at *; omega)
    · refine calls_eq (calls_pure (G := (⟨TT.plain _, (fun f => false), noFar, true, noInv, noInv, noPV, noCV w⟩ : Cfg Try.prog)) (noCV_ok' Try.prog w) (noPV_ok Try.prog) 200 Try.func19 rfl (Q := fun v => v = .string (mNames 7)) ((walk_names_8  w (fun v => v = .string (mNames 7))).mp ?_))
      (repeat' (first | intro _ | apply And.intro | apply br_intro)) <;> all_goals first | rfl | decide | (show (_ : Int) ≤ _; decide) | (show (_ : Int) < _; decide) | assumption | exact True.intro | (refine Done.mk ?_; rfl) | (exfalso; simp only [Bool.and_true, Bool.true_and, Bool.false_or, Bool.or_false, decide_eq_false_iff_not, decide_eq_true_eq, Int.not_lt, Int.not_le, gt_iff_lt, Int.ofNat_eq_natCast] at *; omega)
    · refine calls_eq (calls_pure (G := (⟨TT.plain _, (fun f => false), noFar, true, noInv, noInv, noPV, noCV w⟩ : Cfg Try.prog)) (noCV_ok' Try.prog w) (noPV_ok Try.prog) 200 Try.func19 rfl (Q := fun v => v = .string (mNames 8)) ((walk_names_9  w (fun v => v = .string (mNames 8))).mp ?_))
      (repeat' (first | intro _ | apply And.intro | apply br_intro)) <;> all_goals first | rfl | decide | (show (_ : Int) ≤ _; decide) | (show (_ : Int) < _; decide) | assumption | exact True.intro | (refine Done.mk ?_; rfl) | (exfalso; simp only [Bool.and_true, Bool.true_and, Bool.false_or, Bool.or_false, decide_eq_false_iff_not, decide_eq_true_eq, Int.not_lt, Int.not_le, gt_iff_lt, Int.ofNat_eq_natCast] at *; omega)
    · refine calls_eq (calls_pure (G := (⟨TT.plain _, (fun f => false), noFar, true, noInv, noInv, noPV, noCV w⟩ : Cfg Try.prog)) (noCV_ok' Try.prog w) (noPV_ok Try.prog) 200 Try.func19 rfl (Q := fun v => v = .string (mNames 9)) ((walk_names_10  w (fun v => v = .string (mNames 9))).mp ?_))
      (repeat' (first | intro _ | apply And.intro | apply br_intro)) <;> all_goals first | rfl | decide | (show (_ : Int) ≤ _; decide) | (show (_ : Int) < _; decide) | assumption | exact True.intro | (refine Done.mk ?_; rfl) | (exfalso; simp only [Bool.and_true, Bool.true_and, Bool.false_or, Bool.or_false, decide_eq_false_iff_not, decide_eq_true_eq, Int.not_lt, Int.not_le, gt_iff_lt, Int.ofNat_eq_natCast] at *; omega)
    · refine calls_eq (calls_pure (G := (⟨TT.plain _, (fun f => false), noFar, true, noInv, noInv, noPV, noCV w⟩ : Cfg Try.prog)) (noCV_ok' Try.prog w) (noPV_ok Try.prog) 200 Try.func19 rfl (Q := fun v => v = .string (mNames 10)) ((walk_names_11  w (fun v => v = .string (mNames 10))).mp ?_))
      (repeat' (first | intro _ | apply And.intro | apply br_intro)) <;> all_goals first | rfl | decide | (show (_ : Int) ≤ _; decide) | (show (_ : Int) < _; decide) | assumption | exact True.intro | (refine Done.mk ?_; rfl) | (exfalso; simp only [Bool.and_true, Bool.true_and, Bool.false_or, Bool.or_false, decide_eq_false_iff_not, decide_eq_true_eq, Int.not_lt, Int.not_le, gt_iff_lt, Int.ofNat_eq_natCast] at *; omega)
    · refine calls_eq (calls_pure (G := (⟨TT.plain _, (fun f => false), noFar, true, noInv, noInv, noPV, noCV w⟩ : Cfg Try.prog)) (noCV_ok' Try.prog w) (noPV_ok Try.prog) 200 Try.func19 rfl (Q := fun v => v = .string (mNames 11)) ((walk_names_12  w (fun v => v = .string (mNames 11))).mp ?_))
      (repeat' (first | intro _ | apply And.intro | apply br_intro)) <;> all_goals first | rfl | decide | (show (_ : Int) ≤ _; decide) | (show (_ : Int) < _; decide) | assumption | exact True.intro | (refine Done.mk ?_; rfl) | (exfalso; simp only [Bool.and_true, Bool.true_and, Bool.false_or, Bool.or_false, decide_eq_false_iff_not, decide_eq_true_eq, Int.not_lt, Int.not_le, gt_iff_lt, Int.ofNat_eq_natCast] at *; omega)
    · refine calls_eq (calls_pure (G := (⟨TT.plain _, (fun f => false), noFar, true, noInv, noInv, noPV, noCV w⟩ : Cfg Try.prog)) (noCV_ok' Try.prog w) (noPV_ok Try.prog) 200 Try.func19 rfl (Q := fun v => v = .string (mNames 12)) ((walk_names_13  w (fun v => v = .string (mNames 12))).mp ?_))
      (repeat' (first | intro _ | apply And.intro | apply br_intro)) <;> all_goals first | rfl | decide | (show (_ : Int) ≤ _; decide) | (show (_ : Int) < _; decide) | assumption | exact True.intro | (refine Done.mk ?_; rfl) | (exfalso; simp only [Bool.and_true, Bool.true_and, Bool.false_or, Bool.or_false, decide_eq_false_iff_not, decide_eq_true_eq, Int.not_lt, Int.not_le, gt_iff_lt, Int.ofNat_eq_natCast] at *; omega)
    · refine calls_eq (calls_pure (G := (⟨TT.plain _, (fun f => false), noFar, true, noInv, noInv, noPV, noCV w⟩ : Cfg Try.prog)) (noCV_ok' Try.prog w) (noPV_ok Try.prog) 200 Try.func19 rfl (Q := fun v => v = .string (mNames 13)) ((walk_names_14  w (fun v => v = .string (mNames 13))).mp ?_))
      (repeat' (first | intro _ | apply And.intro | apply br_intro)) <;> all_goals first | rfl | decide | (show (_ : Int) ≤ _; decide) | (show (_ : Int) < _; decide) | assumption | exact True.intro | (refine Done.mk ?_; rfl) | (exfalso; simp only [Bool.and_true, Bool.true_and, Bool.false_or, Bool.or_false, decide_eq_false_iff_not, decide_eq_true_eq, Int.not_lt, Int.not_le, gt_iff_lt, Int.ofNat_eq_natCast] at *; omega)
  · cases k with
    | negSucc n =>
      refine calls_eq (calls_pure (G := (⟨TT.plain _, (fun f => false), noFar, true, noInv, noInv, noPV, noCV w⟩ : Cfg Try.prog)) (noCV_ok' Try.prog w) (noPV_ok Try.prog) 200 Try.func19 rfl (Q := fun v => v = .string (mNames (Int.negSucc n))) ((walk_names_0 n  w (fun v => v = .string (mNames (Int.negSucc n)))).mp ?_))
      (repeat' (first | intro _ | apply And.intro | apply br_intro)) <;> all_goals first | rfl | decide | (show (_ : Int) ≤ _; decide) | (show (_ : Int) < _; decide) | assumption | exact True.intro | (refine Done.mk ?_; rfl) | (exfalso; simp only [Bool.and_true, Bool.true_and, Bool.false_or, Bool.or_false, decide_eq_false_iff_not, decide_eq_true_eq, Int.not_lt, Int.not_le, gt_iff_lt, Int.ofNat_eq_natCast] at *; omega)
    | ofNat m =>
      by_cases h0 : m = 0
      · subst h0
        refine calls_eq (calls_pure (G := (⟨TT.plain _, (fun f => false), noFar, true, noInv, noInv, noPV, noCV w⟩ : Cfg Try.prog)) (noCV_ok' Try.prog w) (noPV_ok Try.prog) 200 Try.func19 rfl (Q := fun v => v = .string (mNames 0)) ((walk_names_1  w (fun v => v = .string (mNames 0))).mp ?_))
        (repeat' (first | intro _ | apply And.intro | apply br_intro)) <;> all_goals first | rfl | decide | (show (_ : Int) ≤ _; decide) | (show (_ : Int) < _; decide) | assumption | exact True.intro | (refine Done.mk ?_; rfl) | (exfalso; simp only [Bool.and_true, Bool.true_and, Bool.false_or, Bool.or_false, decide_eq_false_iff_not, decide_eq_true_eq, Int.not_lt, Int.not_le, gt_iff_lt, Int.ofNat_eq_natCast] at *; omega)
      · obtain ⟨n, rfl⟩ : ∃ n, m = n + 14 := ⟨m - 14, by simp only [Int.ofNat_eq_natCast] at hk; omega⟩
        refine calls_eq (calls_pure (G := (⟨TT.plain _, (fun f => false), noFar, true, noInv, noInv, noPV, noCV w⟩ : Cfg Try.prog)) (noCV_ok' Try.prog w) (noPV_ok Try.prog) 200 Try.func19 rfl (Q := fun v => v = .string (mNames (Int.ofNat (n + 14)))) ((walk_names_15 n  w (fun v => v = .string (mNames (Int.ofNat (n + 14))))).mp ?_))
        (repeat' (first | intro _ | apply And.intro | apply br_intro)) <;> all_goals first | rfl | decide | (show (_ : Int) ≤ _; decide) | (show (_ : Int) < _; decide) | assumption | exact True.intro | (refine Done.mk ?_; rfl) | (exfalso; simp only [Bool.and_true, Bool.true_and, Bool.false_or, Bool.or_false, decide_eq_false_iff_not, decide_eq_true_eq, Int.not_lt, Int.not_le, gt_iff_lt, Int.ofNat_eq_natCast] at *; omega)

def pvnames : PV := addPV 19 (fun | [.int .i64 k] => some (none, .string (mNames k)) | _ => none) noPV
theorem pvnames_ok (P : Program) (hP : P = Try.prog) : PVok P pvnames := by
  subst hP
  refine addPV_ok (fun args p v w h hp => ?_) (noPV_ok _)
  split at h
  · cases h; exact names_calls _ w
  · cases h

end Go.VX

/- The walk of function 47 (has), told by the verified walk VX, and its contract. -/
namespace Go.VX
open Go.Proofs
open Go.RowKit (Below)
set_option linter.unusedVariables false
set_option linter.unusedSimpArgs false
set_option maxRecDepth 100000
set_option maxHeartbeats 4000000
open Go.VX.M17

theorem walk_has_0 (n : Nat) (p : Int) (w : World) (Q : Value → Prop) : (Done (Q (Value.bool Bool.false))) = codeVC (⟨TT.plain _, (fun f => false), noFar, true, noInv, noInv, pvnames, noCV w⟩ : Cfg Try.prog) w 200 (Try.f47.body.getD .skip) ⟨⟨w, []⟩, mkT Try.f47.ntmps [.int .i64 (Int.negSucc n), .int .u8 p] [], []⟩ (retK Try.prog Try.f47 fun b v s h => newK h (Done (Q v))) := by
  kernel_rfl

theorem walk_has_1 (p : Int) (w : World) (Q : Value → Prop) : (Done (Q (Value.bool Bool.false))) = codeVC (⟨TT.plain _, (fun f => false), noFar, true, noInv, noInv, pvnames, noCV w⟩ : Cfg Try.prog) w 200 (Try.f47.body.getD .skip) ⟨⟨w, []⟩, mkT Try.f47.ntmps [.int .i64 0, .int .u8 p] [], []⟩ (retK Try.prog Try.f47 fun b v s h => newK h (Done (Q v))) := by
  kernel_rfl

theorem walk_has_2 (p : Int) (w : World) (Q : Value → Prop) : (br (69 == p) (Done (Q (Value.bool Bool.true))) (br (80 == p) (Done (Q (Value.bool Bool.true))) (br (76 == p) (Done (Q (Value.bool Bool.true))) (br (68 == p) (Done (Q (Value.bool Bool.true))) (Done (Q (Value.bool Bool.false))))))) = codeVC (⟨TT.plain _, (fun f => false), noFar, true, noInv, noInv, pvnames, noCV w⟩ : Cfg Try.prog) w 200 (Try.f47.body.getD .skip) ⟨⟨w, []⟩, mkT Try.f47.ntmps [.int .i64 1, .int .u8 p] [], []⟩ (retK Try.prog Try.f47 fun b v s h => newK h (Done (Q v))) := by
  kernel_rfl

theorem walk_has_3 (p : Int) (w : World) (Q : Value → Prop) : (br (69 == p) (Done (Q (Value.bool Bool.true))) (br (76 == p) (Done (Q (Value.bool Bool.true))) (Done (Q (Value.bool Bool.false))))) = codeVC (⟨TT.plain _, (fun f => false), noFar, true, noInv, noInv, pvnames, noCV w⟩ : Cfg Try.prog) w 200 (Try.f47.body.getD .skip) ⟨⟨w, []⟩, mkT Try.f47.ntmps [.int .i64 2, .int .u8 p] [], []⟩ (retK Try.prog Try.f47 fun b v s h => newK h (Done (Q v))) := by
  kernel_rfl

theorem walk_has_4 (p : Int) (w : World) (Q : Value → Prop) : (br (69 == p) (Done (Q (Value.bool Bool.true))) (br (76 == p) (Done (Q (Value.bool Bool.true))) (Done (Q (Value.bool Bool.false))))) = codeVC (⟨TT.plain _, (fun f => false), noFar, true, noInv, noInv, pvnames, noCV w⟩ : Cfg Try.prog) w 200 (Try.f47.body.getD .skip) ⟨⟨w, []⟩, mkT Try.f47.ntmps [.int .i64 3, .int .u8 p] [], []⟩ (retK Try.prog Try.f47 fun b v s h => newK h (Done (Q v))) := by
  kernel_rfl

theorem walk_has_5 (p : Int) (w : World) (Q : Value → Prop) : (br (69 == p) (Done (Q (Value.bool Bool.true))) (br (67 == p) (Done (Q (Value.bool Bool.true))) (Done (Q (Value.bool Bool.false))))) = codeVC (⟨TT.plain _, (fun f => false), noFar, true, noInv, noInv, pvnames, noCV w⟩ : Cfg Try.prog) w 200 (Try.f47.body.getD .skip) ⟨⟨w, []⟩, mkT Try.f47.ntmps [.int .i64 4, .int .u8 p] [], []⟩ (retK Try.prog Try.f47 fun b v s h => newK h (Done (Q v))) := by
  kernel_rfl

theorem walk_has_6 (p : Int) (w : World) (Q : Value → Prop) : (br (69 == p) (Done (Q (Value.bool Bool.true))) (br (84 == p) (Done (Q (Value.bool Bool.true))) (br (67 == p) (Done (Q (Value.bool Bool.true))) (Done (Q (Value.bool Bool.false)))))) = codeVC (⟨TT.plain _, (fun f => false), noFar, true, noInv, noInv, pvnames, noCV w⟩ : Cfg Try.prog) w 200 (Try.f47.body.getD .skip) ⟨⟨w, []⟩, mkT Try.f47.ntmps [.int .i64 5, .int .u8 p] [], []⟩ (retK Try.prog Try.f47 fun b v s h => newK h (Done (Q v))) := by
  kernel_rfl

theorem walk_has_7 (p : Int) (w : World) (Q : Value → Prop) : (br (69 == p) (Done (Q (Value.bool Bool.true))) (br (67 == p) (Done (Q (Value.bool Bool.true))) (Done (Q (Value.bool Bool.false))))) = codeVC (⟨TT.plain _, (fun f => false), noFar, true, noInv, noInv, pvnames, noCV w⟩ : Cfg Try.prog) w 200 (Try.f47.body.getD .skip) ⟨⟨w, []⟩, mkT Try.f47.ntmps [.int .i64 6, .int .u8 p] [], []⟩ (retK Try.prog Try.f47 fun b v s h => newK h (Done (Q v))) := by
  kernel_rfl

theorem walk_has_8 (p : Int) (w : World) (Q : Value → Prop) : (br (69 == p) (Done (Q (Value.bool Bool.true))) (br (79 == p) (Done (Q (Value.bool Bool.true))) (br (83 == p) (Done (Q (Value.bool Bool.true))) (br (85 == p) (Done (Q (Value.bool Bool.true))) (br (68 == p) (Done (Q (Value.bool Bool.true))) (Done (Q (Value.bool Bool.false)))))))) = codeVC (⟨TT.plain _, (fun f => false), noFar, true, noInv, noInv, pvnames, noCV w⟩ : Cfg Try.prog) w 200 (Try.f47.body.getD .skip) ⟨⟨w, []⟩, mkT Try.f47.ntmps [.int .i64 7, .int .u8 p] [], []⟩ (retK Try.prog Try.f47 fun b v s h => newK h (Done (Q v))) := by
  kernel_rfl

theorem walk_has_9 (p : Int) (w : World) (Q : Value → Prop) : (br (69 == p) (Done (Q (Value.bool Bool.true))) (br (79 == p) (Done (Q (Value.bool Bool.true))) (br (83 == p) (Done (Q (Value.bool Bool.true))) (br (85 == p) (Done (Q (Value.bool Bool.true))) (br (67 == p) (Done (Q (Value.bool Bool.true))) (br (68 == p) (Done (Q (Value.bool Bool.true))) (Done (Q (Value.bool Bool.false))))))))) = codeVC (⟨TT.plain _, (fun f => false), noFar, true, noInv, noInv, pvnames, noCV w⟩ : Cfg Try.prog) w 200 (Try.f47.body.getD .skip) ⟨⟨w, []⟩, mkT Try.f47.ntmps [.int .i64 8, .int .u8 p] [], []⟩ (retK Try.prog Try.f47 fun b v s h => newK h (Done (Q v))) := by
  kernel_rfl

theorem walk_has_10 (p : Int) (w : World) (Q : Value → Prop) : (br (69 == p) (Done (Q (Value.bool Bool.true))) (br (79 == p) (Done (Q (Value.bool Bool.true))) (br (83 == p) (Done (Q (Value.bool Bool.true))) (br (85 == p) (Done (Q (Value.bool Bool.true))) (Done (Q (Value.bool Bool.false))))))) = codeVC (⟨TT.plain _, (fun f => false), noFar, true, noInv, noInv, pvnames, noCV w⟩ : Cfg Try.prog) w 200 (Try.f47.body.getD .skip) ⟨⟨w, []⟩, mkT Try.f47.ntmps [.int .i64 9, .int .u8 p] [], []⟩ (retK Try.prog Try.f47 fun b v s h => newK h (Done (Q v))) := by
  kernel_rfl

theorem walk_has_11 (p : Int) (w : World) (Q : Value → Prop) : (br (75 == p) (Done (Q (Value.bool Bool.true))) (br (68 == p) (Done (Q (Value.bool Bool.true))) (Done (Q (Value.bool Bool.false))))) = codeVC (⟨TT.plain _, (fun f => false), noFar, true, noInv, noInv, pvnames, noCV w⟩ : Cfg Try.prog) w 200 (Try.f47.body.getD .skip) ⟨⟨w, []⟩, mkT Try.f47.ntmps [.int .i64 10, .int .u8 p] [], []⟩ (retK Try.prog Try.f47 fun b v s h => newK h (Done (Q v))) := by
  kernel_rfl

theorem walk_has_12 (p : Int) (w : World) (Q : Value → Prop) : (br (75 == p) (Done (Q (Value.bool Bool.true))) (Done (Q (Value.bool Bool.false)))) = codeVC (⟨TT.plain _, (fun f => false), noFar, true, noInv, noInv, pvnames, noCV w⟩ : Cfg Try.prog) w 200 (Try.f47.body.getD .skip) ⟨⟨w, []⟩, mkT Try.f47.ntmps [.int .i64 11, .int .u8 p] [], []⟩ (retK Try.prog Try.f47 fun b v s h => newK h (Done (Q v))) := by
  kernel_rfl

theorem walk_has_13 (p : Int) (w : World) (Q : Value → Prop) : (br (75 == p) (Done (Q (Value.bool Bool.true))) (Done (Q (Value.bool Bool.false)))) = codeVC (⟨TT.plain _, (fun f => false), noFar, true, noInv, noInv, pvnames, noCV w⟩ : Cfg Try.prog) w 200 (Try.f47.body.getD .skip) ⟨⟨w, []⟩, mkT Try.f47.ntmps [.int .i64 12, .int .u8 p] [], []⟩ (retK Try.prog Try.f47 fun b v s h => newK h (Done (Q v))) := by
  kernel_rfl

theorem walk_has_14 (p : Int) (w : World) (Q : Value → Prop) : (br (79 == p) (Done (Q (Value.bool Bool.true))) (br (67 == p) (Done (Q (Value.bool Bool.true))) (br (75 == p) (Done (Q (Value.bool Bool.true))) (br (68 == p) (Done (Q (Value.bool Bool.true))) (Done (Q (Value.bool Bool.false))))))) = codeVC (⟨TT.plain _, (fun f => false), noFar, true, noInv, noInv, pvnames, noCV w⟩ : Cfg Try.prog) w 200 (Try.f47.body.getD .skip) ⟨⟨w, []⟩, mkT Try.f47.ntmps [.int .i64 13, .int .u8 p] [], []⟩ (retK Try.prog Try.f47 fun b v s h => newK h (Done (Q v))) := by
  kernel_rfl

theorem walk_has_15 (n : Nat) (p : Int) (w : World) (Q : Value → Prop) : (Done (Q (Value.bool Bool.false))) = codeVC (⟨TT.plain _, (fun f => false), noFar, true, noInv, noInv, pvnames, noCV w⟩ : Cfg Try.prog) w 200 (Try.f47.body.getD .skip) ⟨⟨w, []⟩, mkT Try.f47.ntmps [.int .i64 (Int.ofNat (n + 14)), .int .u8 p] [], []⟩ (retK Try.prog Try.f47 fun b v s h => newK h (Done (Q v))) := by
  kernel_rfl

theorem has_calls (k : Int) (p : Int) (w : World) : Calls Try.prog 47 ([.int .i64 k, .int .u8 p] : List Value).toArray w fun en w' => en = .returned (.bool (mHas k p)) ∧ Below w.heap.size w w' := by
  by_cases hk : 1 ≤ k ∧ k ≤ 13
  · rcases (by omega : k = 1 ∨ k = 2 ∨ k = 3 ∨ k = 4 ∨ k = 5 ∨ k = 6 ∨ k = 7 ∨ k = 8 ∨ k = 9 ∨ k = 10 ∨ k = 11 ∨ k = 12 ∨ k = 13) with rfl | rfl | rfl | rfl | rfl | rfl | rfl | rfl | rfl | rfl | rfl | rfl | rfl
    · refine calls_eq (calls_pure (G := (⟨TT.plain _, (fun f => false), noFar, true, noInv, noInv, pvnames, noCV w⟩ : Cfg Try.prog)) (noCV_ok' Try.prog w) (pvnames_ok Try.prog rfl) 200 Try.func47 rfl (Q := fun v => v = .bool (mHas 1 p)) ((walk_has_2 p w (fun v => v = .bool (mHas 1 p))).mp ?_))
      (repeat' (first | intro _ | apply And.intro | apply br_intro)) <;> all_goals first | rfl | decide | (show (_ : Int) ≤ _; decide) | (show (_ : Int) < _; decide) | assumption | exact True.intro | (refine Done.mk ?_; (first | rfl | (simp_all [mHas, mNames, hasL]; done))) | (exfalso; simp only [Bool.and_true, Bool.true_and, Bool.false_or, Bool.or_false, decide_eq_false_iff_not, decide_eq_true_eq, Int.not_lt, Int.not_le, gt_iff_lt, Int.ofNat_eq_natCast] at *; omega)
    · refine calls_eq (calls_pure (G := (⟨TT.plain _, (fun f => false), noFar, true, noInv, noInv, pvnames, noCV w⟩ : Cfg Try.prog)) (noCV_ok' Try.prog w) (pvnames_ok Try.prog rfl) 200 Try.func47 rfl (Q := fun v => v = .bool (mHas 2 p)) ((walk_has_3 p w (fun v => v = .bool (mHas 2 p))).mp ?_))
      (repeat' (first | intro _ | apply And.intro | apply br_intro)) <;> all_goals first | rfl | decide | (show (_ : Int) ≤ _; decide) | (show (_ : Int) < _; decide) | assumption | exact True.intro | (refine Done.mk ?_; (first | rfl | (simp_all [mHas, mNames, hasL]; done))) | (exfalso; simp only [Bool.and_true, Bool.true_and, Bool.false_or, Bool.or_false, decide_eq_false_iff_not, decide_eq_true_eq, Int.not_lt, Int.not_le, gt_iff_lt, Int.ofNat_eq_natCast] at *; omega)
    · refine calls_eq (calls_pure (G := (⟨TT.plain _, (fun f => false), noFar, true, noInv, noInv, pvnames, noCV w⟩ : Cfg Try.prog)) (noCV_ok' Try.prog w) (pvnames_ok Try.prog rfl) 200 Try.func47 rfl (Q := fun v => v = .bool (mHas 3 p)) ((walk_has_4 p w (fun v => v = .bool (mHas 3 p))).mp ?_))
      (repeat' (first | intro _ | apply And.intro | apply br_intro)) <;> all_goals first | rfl | decide | (show (_ : Int) ≤ _; decide) | (show (_ : Int) < _; decide) | assumption | exact True.intro | (refine Done.mk ?_; (first | rfl | (simp_all [mHas, mNames, hasL]; done))) | (exfalso; simp only [Bool.and_true, Bool.true_and, Bool.false_or, Bool.or_false, decide_eq_false_iff_not, decide_eq_true_eq, Int.not_lt, Int.not_le, gt_iff_lt, Int.ofNat_eq_natCast] at *; omega)
    · refine calls_eq (calls_pure (G := (⟨TT.plain _, (fun f => false), noFar, true, noInv, noInv, pvnames, noCV w⟩ : Cfg Try.prog)) (noCV_ok' Try.prog w) (pvnames_ok Try.prog rfl) 200 Try.func47 rfl (Q := fun v => v = .bool (mHas 4 p)) ((walk_has_5 p w (fun v => v = .bool (mHas 4 p))).mp ?_))
      (repeat' (first | intro _ | apply And.intro | apply br_intro)) <;> all_goals first | rfl | decide | (show (_ : Int) ≤ _; decide) | (show (_ : Int) < _; decide) | assumption | exact True.intro | (refine Done.mk ?_; (first | rfl | (simp_all [mHas, mNames, hasL]; done))) | (exfalso; simp only [Bool.and_true, Bool.true_and, Bool.false_or, Bool.or_false, decide_eq_false_iff_not, decide_eq_true_eq, Int.not_lt, Int.not_le, gt_iff_lt, Int.ofNat_eq_natCast] at *; omega)
    · refine calls_eq (calls_pure (G := (⟨TT.plain _, (fun f => false), noFar, true, noInv, noInv, pvnames, noCV w⟩ : Cfg Try.prog)) (noCV_ok' Try.prog w) (pvnames_ok Try.prog rfl) 200 Try.func47 rfl (Q := fun v => v = .bool (mHas 5 p)) ((walk_has_6 p w (fun v => v = .bool (mHas 5 p))).mp ?_))
      (repeat' (first | intro _ | apply And.intro | apply br_intro)) <;> all_goals first | rfl | decide | (show (_ : Int) ≤ _; decide) | (show (_ : Int) < _; decide) | assumption | exact True.intro | (refine Done.mk ?_; (first | rfl | (simp_all [mHas, mNames, hasL]; done))) | (exfalso; simp only [Bool.and_true, Bool.true_and, Bool.false_or, Bool.or_false, decide_eq_false_iff_not, decide_eq_true_eq, Int.not_lt, Int.not_le, gt_iff_lt, Int.ofNat_eq_natCast] at *; omega)
    · refine calls_eq (calls_pure (G := (⟨TT.plain _, (fun f => false), noFar, true, noInv, noInv, pvnames, noCV w⟩ : Cfg Try.prog)) (noCV_ok' Try.prog w) (pvnames_ok Try.prog rfl) 200 Try.func47 rfl (Q := fun v => v = .bool (mHas 6 p)) ((walk_has_7 p w (fun v => v = .bool (mHas 6 p))).mp ?_))
      (repeat' (first | intro _ | apply And.intro | apply br_intro)) <;> all_goals first | rfl | decide | (show (_ : Int) ≤ _; decide) | (show (_ : Int) < _; decide) | assumption | exact True.intro | (refine Done.mk ?_; (first | rfl | (simp_all [mHas, mNames, hasL]; done))) | (exfalso; simp only [Bool.and_true, Bool.true_and, Bool.false_or, Bool.or_false, decide_eq_false_iff_not, decide_eq_true_eq, Int.not_lt, Int.not_le, gt_iff_lt, Int.ofNat_eq_natCast] at *; omega)
    · refine calls_eq (calls_pure (G := (⟨TT.plain _, (fun f => false), noFar, true, noInv, noInv, pvnames, noCV w⟩ : Cfg Try.prog)) (noCV_ok' Try.prog w) (pvnames_ok Try.prog rfl) 200 Try.func47 rfl (Q := fun v => v = .bool (mHas 7 p)) ((walk_has_8 p w (fun v => v = .bool (mHas 7 p))).mp ?_))
      (repeat' (first | intro _ | apply And.intro | apply br_intro)) <;> all_goals first | rfl | decide | (show (_ : Int) ≤ _; decide) | (show (_ : Int) < _; decide) | assumption | exact True.intro | (refine Done.mk ?_; (first | rfl | (simp_all [mHas, mNames, hasL]; done))) | (exfalso; simp only [Bool.and_true, Bool.true_and, Bool.false_or, Bool.or_false, decide_eq_false_iff_not, decide_eq_true_eq, Int.not_lt, Int.not_le, gt_iff_lt, Int.ofNat_eq_natCast] at *; omega)
    · refine calls_eq (calls_pure (G := (⟨TT.plain _, (fun f => false), noFar, true, noInv, noInv, pvnames, noCV w⟩ : Cfg Try.prog)) (noCV_ok' Try.prog w) (pvnames_ok Try.prog rfl) 200 Try.func47 rfl (Q := fun v => v = .bool (mHas 8 p)) ((walk_has_9 p w (fun v => v = .bool (mHas 8 p))).mp ?_))
      (repeat' (first | intro _ | apply And.intro | apply br_intro)) <;> all_goals first | rfl | decide | (show (_ : Int) ≤ _; decide) | (show (_ : Int) < _; decide) | assumption | exact True.intro | (refine Done.mk ?_; (first | rfl | (simp_all [mHas, mNames, hasL]; done))) | (exfalso; simp only [Bool.and_true, Bool.true_and, Bool.false_or, Bool.or_false, decide_eq_false_iff_not, decide_eq_true_eq, Int.not_lt, Int.not_le, gt_iff_lt, Int.ofNat_eq_natCast] at *; omega)
    · refine calls_eq (calls_pure (G := (⟨TT.plain _, (fun f => false), noFar, true, noInv, noInv, pvnames, noCV w⟩ : Cfg Try.prog)) (noCV_ok' Try.prog w) (pvnames_ok Try.prog rfl) 200 Try.func47 rfl (Q := fun v => v = .bool (mHas 9 p)) ((walk_has_10 p w (fun v => v = .bool (mHas 9 p))).mp ?_))
      (repeat' (first | intro _ | apply And.intro | apply br_intro)) <;> all_goals first | rfl | decide | (show (_ : Int) ≤ _; decide) | (show (_ : Int) < _; decide) | assumption | exact True.intro | (refine Done.mk ?_; (first | rfl | (simp_all [mHas, mNames, hasL]; done))) | (exfalso; simp only [Bool.and_true, Bool.true_and, Bool.false_or, Bool.or_false, decide_eq_false_iff_not, decide_eq_true_eq, Int.not_lt, Int.not_le, gt_iff_lt, Int.ofNat_eq_natCast] at *; omega)
    · refine calls_eq (calls_pure (G := (⟨TT.plain _, (fun f => false), noFar, true, noInv, noInv, pvnames, noCV w⟩ : Cfg Try.prog)) (noCV_ok' Try.prog w) (pvnames_ok Try.prog rfl) 200 Try.func47 rfl (Q := fun v => v = .bool (mHas 10 p)) ((walk_has_11 p w (fun v => v = .bool (mHas 10 p))).mp ?_))
      (repeat' (first | intro _ | apply And.intro | apply br_intro)) <;> all_goals first | rfl | decide | (show (_ : Int) ≤ _; decide) | (show (_ : Int) < _; decide) | assumption | exact True.intro | (refine Done.mk ?_; (first | rfl | (simp_all [mHas, mNames, hasL]; done))) | (exfalso; simp only [Bool.and_true, Bool.true_and, Bool.false_or, Bool.or_false, decide_eq_false_iff_not, decide_eq_true_eq, Int.not_lt, Int.not_le, gt_iff_lt, Int.ofNat_eq_natCast] at *; omega)
    · refine calls_eq (calls_pure (G := (⟨TT.plain _, (fun f => false), noFar, true, noInv, noInv, pvnames, noCV w⟩ : Cfg Try.prog)) (noCV_ok' Try.prog w) (pvnames_ok Try.prog rfl) 200 Try.func47 rfl (Q := fun v => v = .bool (mHas 11 p)) ((walk_has_12 p w (fun v => v = .bool (mHas 11 p))).mp ?_))
      (repeat' (first | intro _ | apply And.intro | apply br_intro)) <;> all_goals first | rfl | decide | (show (_ : Int) ≤ _; decide) | (show (_ : Int) < _; decide) | assumption | exact True.intro | (refine Done.mk ?_; (first | rfl | (simp_all [mHas, mNames, hasL]; done))) | (exfalso; simp only [Bool.and_true, Bool.true_and, Bool.false_or, Bool.or_false, decide_eq_false_iff_not, decide_eq_true_eq, Int.not_lt, Int.not_le, gt_iff_lt, Int.ofNat_eq_natCast] at *; omega)
    · refine calls_eq (calls_pure (G := (⟨TT.plain _, (fun f => false), noFar, true, noInv, noInv, pvnames, noCV w⟩ : Cfg Try.prog)) (noCV_ok' Try.prog w) (pvnames_ok Try.prog rfl) 200 Try.func47 rfl (Q := fun v => v = .bool (mHas 12 p)) ((walk_has_13 p w (fun v => v = .bool (mHas 12 p))).mp ?_))
      (repeat' (first | intro _ | apply And.intro | apply br_intro)) <;> all_goals first | rfl | decide | (show (_ : Int) ≤ _; decide) | (show (_ : Int) < _; decide) | assumption | exact True.intro | (refine Done.mk ?_; (first | rfl | (simp_all [mHas, mNames, hasL]; done))) | (exfalso; simp only [Bool.and_true, Bool.true_and, Bool.false_or, Bool.or_false, decide_eq_false_iff_not, decide_eq_true_eq, Int.not_lt, Int.not_le, gt_iff_lt, Int.ofNat_eq_natCast] at *; omega)
    · refine calls_eq (calls_pure (G := (⟨TT.plain _, (fun f => false), noFar, true, noInv, noInv, pvnames, noCV w⟩ : Cfg Try.prog)) (noCV_ok' Try.prog w) (pvnames_ok Try.prog rfl) 200 Try.func47 rfl (Q := fun v => v = .bool (mHas 13 p)) ((walk_has_14 p w (fun v => v = .bool (mHas 13 p))).mp ?_))
      (repeat' (first | intro _ | apply And.intro | apply br_intro)) <;> all_goals first | rfl | decide | (show (_ : Int) ≤ _; decide) | (show (_ : Int) < _; decide) | assumption | exact True.intro | (refine Done.mk ?_; (first | rfl | (simp_all [mHas, mNames, hasL]; done))) | (exfalso; simp only [Bool.and_true, Bool.true_and, Bool.false_or, Bool.or_false, decide_eq_false_iff_not, decide_eq_true_eq, Int.not_lt, Int.not_le, gt_iff_lt, Int.ofNat_eq_natCast] at *; omega)
  · cases k with
    | negSucc n =>
      refine calls_eq (calls_pure (G := (⟨TT.plain _, (fun f => false), noFar, true, noInv, noInv, pvnames, noCV w⟩ : Cfg Try.prog)) (noCV_ok' Try.prog w) (pvnames_ok Try.prog rfl) 200 Try.func47 rfl (Q := fun v => v = .bool (mHas (Int.negSucc n) p)) ((walk_has_0 n p w (fun v => v = .bool (mHas (Int.negSucc n) p))).mp ?_))
      (repeat' (first | intro _ | apply And.intro | apply br_intro)) <;> all_goals first | rfl | decide | (show (_ : Int) ≤ _; decide) | (show (_ : Int) < _; decide) | assumption | exact True.intro | (refine Done.mk ?_; (first | rfl | (simp_all [mHas, mNames, hasL]; done))) | (exfalso; simp only [Bool.and_true, Bool.true_and, Bool.false_or, Bool.or_false, decide_eq_false_iff_not, decide_eq_true_eq, Int.not_lt, Int.not_le, gt_iff_lt, Int.ofNat_eq_natCast] at *; omega)
    | ofNat m =>
      by_cases h0 : m = 0
      · subst h0
        refine calls_eq (calls_pure (G := (⟨TT.plain _, (fun f => false), noFar, true, noInv, noInv, pvnames, noCV w⟩ : Cfg Try.prog)) (noCV_ok' Try.prog w) (pvnames_ok Try.prog rfl) 200 Try.func47 rfl (Q := fun v => v = .bool (mHas 0 p)) ((walk_has_1 p w (fun v => v = .bool (mHas 0 p))).mp ?_))
        (repeat' (first | intro _ | apply And.intro | apply br_intro)) <;> all_goals first | rfl | decide | (show (_ : Int) ≤ _; decide) | (show (_ : Int) < _; decide) | assumption | exact True.intro | (refine Done.mk ?_; (first | rfl | (simp_all [mHas, mNames, hasL]; done))) | (exfalso; simp only [Bool.and_true, Bool.true_and, Bool.false_or, Bool.or_false, decide_eq_false_iff_not, decide_eq_true_eq, Int.not_lt, Int.not_le, gt_iff_lt, Int.ofNat_eq_natCast] at *; omega)
      · obtain ⟨n, rfl⟩ : ∃ n, m = n + 14 := ⟨m - 14, by simp only [Int.ofNat_eq_natCast] at hk; omega⟩
        refine calls_eq (calls_pure (G := (⟨TT.plain _, (fun f => false), noFar, true, noInv, noInv, pvnames, noCV w⟩ : Cfg Try.prog)) (noCV_ok' Try.prog w) (pvnames_ok Try.prog rfl) 200 Try.func47 rfl (Q := fun v => v = .bool (mHas (Int.ofNat (n + 14)) p)) ((walk_has_15 n p w (fun v => v = .bool (mHas (Int.ofNat (n + 14)) p))).mp ?_))
        (repeat' (first | intro _ | apply And.intro | apply br_intro)) <;> all_goals first | rfl | decide | (show (_ : Int) ≤ _; decide) | (show (_ : Int) < _; decide) | assumption | exact True.intro | (refine Done.mk ?_; (first | rfl | (simp_all [mHas, mNames, hasL]; done))) | (exfalso; simp only [Bool.and_true, Bool.true_and, Bool.false_or, Bool.or_false, decide_eq_false_iff_not, decide_eq_true_eq, Int.not_lt, Int.not_le, gt_iff_lt, Int.ofNat_eq_natCast] at *; omega)

def pvhas : PV := addPV 47 (fun | [.int .i64 k, .int .u8 p] => some (none, .bool (mHas k p)) | _ => none) pvnames
theorem pvhas_ok (P : Program) (hP : P = Try.prog) : PVok P pvhas := by
  subst hP
  refine addPV_ok (fun args p v w h hp => ?_) (pvnames_ok _ rfl)
  split at h
  · cases h; exact has_calls _ _ w
  · cases h

end Go.VX

/- The walk of function 35 (rchk), told by the verified walk VX, and its contract. -/
namespace Go.VX
open Go.Proofs
open Go.RowKit (Below)
set_option linter.unusedVariables false
set_option linter.unusedSimpArgs false
set_option maxRecDepth 100000
set_option maxHeartbeats 4000000
open Go.VX.M17

theorem walk_rchk (nk ne old lsn tick ord st : Int) (un : Bool) (co : Int) (K D : Option Addr) (kl kc dl dc : Nat) (w : World) (Q : Value → Prop) : (∀ (g0 : Nat), Array.size w.heap ≤ g0 → g0 = g0 ∧ g0 = g0 ∧ g0 = g0 ∧ g0 = g0 ∧ g0 = g0 ∧ g0 = g0 ∧ g0 = g0 ∧ br (ByteArray.toList (M17.mNames nk) == ByteArray.toList (ByteArray.mk #[]) || decide (st < 0) || decide (st > 15) || decide (co < 0) || decide (co > 255) || decide ((↑kl : Int) > 32) || decide ((↑dl : Int) > 255)) (Done (Q (Value.int IntKind.i64 50))) (Bool.true = Bool.true ∧ g0 = g0 ∧ w = w ∧ ∀ (g2 : Nat), Array.size w.heap ≤ g2 → ∀ (g4 : Nat), Array.size w.heap ≤ g4 → Bool.true = Bool.true ∧ g2 = g2 ∧ g2 = g2 ∧ g4 = g4 ∧ (g2 = g2 ∧ [Value.int IntKind.i64 nk, Value.int IntKind.u32 ne, Value.int IntKind.u32 old, Value.int IntKind.u64 lsn, Value.int IntKind.u64 tick, Value.int IntKind.u32 ord, Value.int IntKind.i64 st, Value.bool un, Value.int IntKind.i64 co, Value.slice K kl kc, Value.slice D dl dc] = [Value.int IntKind.i64 nk, Value.int IntKind.u32 ne, Value.int IntKind.u32 old, Value.int IntKind.u64 lsn, Value.int IntKind.u64 tick, Value.int IntKind.u32 ord, Value.int IntKind.i64 st, Value.bool un, Value.int IntKind.i64 co, Value.slice K kl kc, Value.slice D dl dc] ∧ 26 = 26) ∧ g4 = (Addr.add (Addr.mk g4 0 Option.none) 0).block ∧ g4 = (Addr.add (Addr.mk g4 0 Option.none) 1).block ∧ g4 = (Addr.add (Addr.mk g4 0 Option.none) 2).block ∧ w = w ∧ w = w ∧ w = w ∧ w = w ∧ ∀ (g6 : Nat), Array.size w.heap ≤ g6 → g6 = g6 ∧ Bool.true = Bool.true ∧ g0 = g0 ∧ br (!ne == 0 && !M17.mHas nk 69) (Done (Q (Value.int IntKind.i64 50))) (Bool.true = Bool.true ∧ g0 = g0 ∧ w = w ∧ ∀ (g8 : Nat), Array.size w.heap ≤ g8 → ∀ (g10 : Nat), Array.size w.heap ≤ g10 → Bool.true = Bool.true ∧ g8 = g8 ∧ g8 = g8 ∧ g10 = g10 ∧ (g8 = g8 ∧ [Value.int IntKind.i64 nk, Value.int IntKind.u32 ne, Value.int IntKind.u32 old, Value.int IntKind.u64 lsn, Value.int IntKind.u64 tick, Value.int IntKind.u32 ord, Value.int IntKind.i64 st, Value.bool un, Value.int IntKind.i64 co, Value.slice K kl kc, Value.slice D dl dc] = [Value.int IntKind.i64 nk, Value.int IntKind.u32 ne, Value.int IntKind.u32 old, Value.int IntKind.u64 lsn, Value.int IntKind.u64 tick, Value.int IntKind.u32 ord, Value.int IntKind.i64 st, Value.bool un, Value.int IntKind.i64 co, Value.slice K kl kc, Value.slice D dl dc] ∧ 26 = 26) ∧ g10 = (Addr.add (Addr.mk g10 0 Option.none) 0).block ∧ g10 = (Addr.add (Addr.mk g10 0 Option.none) 1).block ∧ g10 = (Addr.add (Addr.mk g10 0 Option.none) 2).block ∧ w = w ∧ w = w ∧ w = w ∧ w = w ∧ ∀ (g12 : Nat), Array.size w.heap ≤ g12 → g12 = g12 ∧ Bool.true = Bool.true ∧ g0 = g0 ∧ br (!old == 0 && !M17.mHas nk 80) (Done (Q (Value.int IntKind.i64 50))) (Bool.true = Bool.true ∧ g0 = g0 ∧ w = w ∧ ∀ (g14 : Nat), Array.size w.heap ≤ g14 → ∀ (g16 : Nat), Array.size w.heap ≤ g16 → Bool.true = Bool.true ∧ g14 = g14 ∧ g14 = g14 ∧ g16 = g16 ∧ (g14 = g14 ∧ [Value.int IntKind.i64 nk, Value.int IntKind.u32 ne, Value.int IntKind.u32 old, Value.int IntKind.u64 lsn, Value.int IntKind.u64 tick, Value.int IntKind.u32 ord, Value.int IntKind.i64 st, Value.bool un, Value.int IntKind.i64 co, Value.slice K kl kc, Value.slice D dl dc] = [Value.int IntKind.i64 nk, Value.int IntKind.u32 ne, Value.int IntKind.u32 old, Value.int IntKind.u64 lsn, Value.int IntKind.u64 tick, Value.int IntKind.u32 ord, Value.int IntKind.i64 st, Value.bool un, Value.int IntKind.i64 co, Value.slice K kl kc, Value.slice D dl dc] ∧ 26 = 26) ∧ g16 = (Addr.add (Addr.mk g16 0 Option.none) 0).block ∧ g16 = (Addr.add (Addr.mk g16 0 Option.none) 1).block ∧ g16 = (Addr.add (Addr.mk g16 0 Option.none) 2).block ∧ w = w ∧ w = w ∧ w = w ∧ w = w ∧ ∀ (g18 : Nat), Array.size w.heap ≤ g18 → g18 = g18 ∧ Bool.true = Bool.true ∧ g0 = g0 ∧ br (!lsn == 0 && !M17.mHas nk 76) (Done (Q (Value.int IntKind.i64 50))) (Bool.true = Bool.true ∧ g0 = g0 ∧ w = w ∧ ∀ (g20 : Nat), Array.size w.heap ≤ g20 → ∀ (g22 : Nat), Array.size w.heap ≤ g22 → Bool.true = Bool.true ∧ g20 = g20 ∧ g20 = g20 ∧ g22 = g22 ∧ (g20 = g20 ∧ [Value.int IntKind.i64 nk, Value.int IntKind.u32 ne, Value.int IntKind.u32 old, Value.int IntKind.u64 lsn, Value.int IntKind.u64 tick, Value.int IntKind.u32 ord, Value.int IntKind.i64 st, Value.bool un, Value.int IntKind.i64 co, Value.slice K kl kc, Value.slice D dl dc] = [Value.int IntKind.i64 nk, Value.int IntKind.u32 ne, Value.int IntKind.u32 old, Value.int IntKind.u64 lsn, Value.int IntKind.u64 tick, Value.int IntKind.u32 ord, Value.int IntKind.i64 st, Value.bool un, Value.int IntKind.i64 co, Value.slice K kl kc, Value.slice D dl dc] ∧ 26 = 26) ∧ g22 = (Addr.add (Addr.mk g22 0 Option.none) 0).block ∧ g22 = (Addr.add (Addr.mk g22 0 Option.none) 1).block ∧ g22 = (Addr.add (Addr.mk g22 0 Option.none) 2).block ∧ w = w ∧ w = w ∧ w = w ∧ w = w ∧ ∀ (g24 : Nat), Array.size w.heap ≤ g24 → g24 = g24 ∧ Bool.true = Bool.true ∧ g0 = g0 ∧ br (!tick == 0 && !M17.mHas nk 84) (Done (Q (Value.int IntKind.i64 50))) (Bool.true = Bool.true ∧ g0 = g0 ∧ w = w ∧ ∀ (g26 : Nat), Array.size w.heap ≤ g26 → ∀ (g28 : Nat), Array.size w.heap ≤ g28 → Bool.true = Bool.true ∧ g26 = g26 ∧ g26 = g26 ∧ g28 = g28 ∧ (g26 = g26 ∧ [Value.int IntKind.i64 nk, Value.int IntKind.u32 ne, Value.int IntKind.u32 old, Value.int IntKind.u64 lsn, Value.int IntKind.u64 tick, Value.int IntKind.u32 ord, Value.int IntKind.i64 st, Value.bool un, Value.int IntKind.i64 co, Value.slice K kl kc, Value.slice D dl dc] = [Value.int IntKind.i64 nk, Value.int IntKind.u32 ne, Value.int IntKind.u32 old, Value.int IntKind.u64 lsn, Value.int IntKind.u64 tick, Value.int IntKind.u32 ord, Value.int IntKind.i64 st, Value.bool un, Value.int IntKind.i64 co, Value.slice K kl kc, Value.slice D dl dc] ∧ 26 = 26) ∧ g28 = (Addr.add (Addr.mk g28 0 Option.none) 0).block ∧ g28 = (Addr.add (Addr.mk g28 0 Option.none) 1).block ∧ g28 = (Addr.add (Addr.mk g28 0 Option.none) 2).block ∧ w = w ∧ w = w ∧ w = w ∧ w = w ∧ ∀ (g30 : Nat), Array.size w.heap ≤ g30 → g30 = g30 ∧ Bool.true = Bool.true ∧ g0 = g0 ∧ br (!ord == 0 && !M17.mHas nk 79) (Done (Q (Value.int IntKind.i64 50))) (Bool.true = Bool.true ∧ g0 = g0 ∧ w = w ∧ ∀ (g32 : Nat), Array.size w.heap ≤ g32 → ∀ (g34 : Nat), Array.size w.heap ≤ g34 → Bool.true = Bool.true ∧ g32 = g32 ∧ g32 = g32 ∧ g34 = g34 ∧ (g32 = g32 ∧ [Value.int IntKind.i64 nk, Value.int IntKind.u32 ne, Value.int IntKind.u32 old, Value.int IntKind.u64 lsn, Value.int IntKind.u64 tick, Value.int IntKind.u32 ord, Value.int IntKind.i64 st, Value.bool un, Value.int IntKind.i64 co, Value.slice K kl kc, Value.slice D dl dc] = [Value.int IntKind.i64 nk, Value.int IntKind.u32 ne, Value.int IntKind.u32 old, Value.int IntKind.u64 lsn, Value.int IntKind.u64 tick, Value.int IntKind.u32 ord, Value.int IntKind.i64 st, Value.bool un, Value.int IntKind.i64 co, Value.slice K kl kc, Value.slice D dl dc] ∧ 26 = 26) ∧ g34 = (Addr.add (Addr.mk g34 0 Option.none) 0).block ∧ g34 = (Addr.add (Addr.mk g34 0 Option.none) 1).block ∧ g34 = (Addr.add (Addr.mk g34 0 Option.none) 2).block ∧ w = w ∧ w = w ∧ w = w ∧ w = w ∧ ∀ (g36 : Nat), Array.size w.heap ≤ g36 → g36 = g36 ∧ Bool.true = Bool.true ∧ g0 = g0 ∧ br (!st == 0 && !M17.mHas nk 83) (Done (Q (Value.int IntKind.i64 50))) (Bool.true = Bool.true ∧ g0 = g0 ∧ w = w ∧ ∀ (g38 : Nat), Array.size w.heap ≤ g38 → ∀ (g40 : Nat), Array.size w.heap ≤ g40 → g38 = g38 ∧ br un (g40 = g40 ∧ g40 = (Addr.add (Addr.mk g40 0 Option.none) 0).block ∧ g40 = (Addr.add (Addr.mk g40 0 Option.none) 1).block ∧ g40 = (Addr.add (Addr.mk g40 0 Option.none) 2).block ∧ w = w ∧ w = w ∧ w = w ∧ w = w ∧ ∀ (g42 : Nat), Array.size w.heap ≤ g42 → g42 = g42 ∧ Bool.true = Bool.true ∧ g0 = g0 ∧ br (Bool.true && !M17.mHas nk 85) (Done (Q (Value.int IntKind.i64 50))) (Bool.true = Bool.true ∧ g0 = g0 ∧ w = w ∧ ∀ (g44 : Nat), Array.size w.heap ≤ g44 → ∀ (g46 : Nat), Array.size w.heap ≤ g46 → Bool.true = Bool.true ∧ g44 = g44 ∧ g44 = g44 ∧ g46 = g46 ∧ (g44 = g44 ∧ [Value.int IntKind.i64 nk, Value.int IntKind.u32 ne, Value.int IntKind.u32 old, Value.int IntKind.u64 lsn, Value.int IntKind.u64 tick, Value.int IntKind.u32 ord, Value.int IntKind.i64 st, Value.bool un, Value.int IntKind.i64 co, Value.slice K kl kc, Value.slice D dl dc] = [Value.int IntKind.i64 nk, Value.int IntKind.u32 ne, Value.int IntKind.u32 old, Value.int IntKind.u64 lsn, Value.int IntKind.u64 tick, Value.int IntKind.u32 ord, Value.int IntKind.i64 st, Value.bool un, Value.int IntKind.i64 co, Value.slice K kl kc, Value.slice D dl dc] ∧ 26 = 26) ∧ g46 = (Addr.add (Addr.mk g46 0 Option.none) 0).block ∧ g46 = (Addr.add (Addr.mk g46 0 Option.none) 1).block ∧ g46 = (Addr.add (Addr.mk g46 0 Option.none) 2).block ∧ w = w ∧ w = w ∧ w = w ∧ w = w ∧ ∀ (g48 : Nat), Array.size w.heap ≤ g48 → g48 = g48 ∧ Bool.true = Bool.true ∧ g0 = g0 ∧ br (!co == 0 && !M17.mHas nk 67) (Done (Q (Value.int IntKind.i64 50))) (Bool.true = Bool.true ∧ g0 = g0 ∧ w = w ∧ ∀ (g50 : Nat), Array.size w.heap ≤ g50 → ∀ (g52 : Nat), Array.size w.heap ≤ g52 → Bool.true = Bool.true ∧ g50 = g50 ∧ g50 = g50 ∧ g52 = g52 ∧ (g50 = g50 ∧ [Value.int IntKind.i64 nk, Value.int IntKind.u32 ne, Value.int IntKind.u32 old, Value.int IntKind.u64 lsn, Value.int IntKind.u64 tick, Value.int IntKind.u32 ord, Value.int IntKind.i64 st, Value.bool un, Value.int IntKind.i64 co, Value.slice K kl kc, Value.slice D dl dc] = [Value.int IntKind.i64 nk, Value.int IntKind.u32 ne, Value.int IntKind.u32 old, Value.int IntKind.u64 lsn, Value.int IntKind.u64 tick, Value.int IntKind.u32 ord, Value.int IntKind.i64 st, Value.bool un, Value.int IntKind.i64 co, Value.slice K kl kc, Value.slice D dl dc] ∧ 26 = 26) ∧ g52 = (Addr.add (Addr.mk g52 0 Option.none) 0).block ∧ g52 = (Addr.add (Addr.mk g52 0 Option.none) 1).block ∧ g52 = (Addr.add (Addr.mk g52 0 Option.none) 2).block ∧ w = w ∧ w = w ∧ w = w ∧ w = w ∧ ∀ (g54 : Nat), Array.size w.heap ≤ g54 → g54 = g54 ∧ Bool.true = Bool.true ∧ g0 = g0 ∧ br (!(↑kl : Int) == 0 && !M17.mHas nk 75) (Done (Q (Value.int IntKind.i64 50))) (Bool.true = Bool.true ∧ g0 = g0 ∧ w = w ∧ ∀ (g56 : Nat), Array.size w.heap ≤ g56 → ∀ (g58 : Nat), Array.size w.heap ≤ g58 → Bool.true = Bool.true ∧ g56 = g56 ∧ g56 = g56 ∧ g58 = g58 ∧ (g56 = g56 ∧ [Value.int IntKind.i64 nk, Value.int IntKind.u32 ne, Value.int IntKind.u32 old, Value.int IntKind.u64 lsn, Value.int IntKind.u64 tick, Value.int IntKind.u32 ord, Value.int IntKind.i64 st, Value.bool un, Value.int IntKind.i64 co, Value.slice K kl kc, Value.slice D dl dc] = [Value.int IntKind.i64 nk, Value.int IntKind.u32 ne, Value.int IntKind.u32 old, Value.int IntKind.u64 lsn, Value.int IntKind.u64 tick, Value.int IntKind.u32 ord, Value.int IntKind.i64 st, Value.bool un, Value.int IntKind.i64 co, Value.slice K kl kc, Value.slice D dl dc] ∧ 26 = 26) ∧ g58 = (Addr.add (Addr.mk g58 0 Option.none) 0).block ∧ g58 = (Addr.add (Addr.mk g58 0 Option.none) 1).block ∧ g58 = (Addr.add (Addr.mk g58 0 Option.none) 2).block ∧ w = w ∧ w = w ∧ w = w ∧ w = w ∧ ∀ (g60 : Nat), Array.size w.heap ≤ g60 → g60 = g60 ∧ Bool.true = Bool.true ∧ g0 = g0 ∧ br (!(↑dl : Int) == 0 && !M17.mHas nk 68) (Done (Q (Value.int IntKind.i64 50))) (g0 = g0 ∧ g0 = g0 ∧ g0 = g0 ∧ g0 = g0 ∧ br ((↑kl : Int) == 0 && (nk == 10 || nk == 11 || nk == 12)) (Done (Q (Value.int IntKind.i64 50))) (Done (Q (Value.int IntKind.i64 0)))))))) (g40 = g40 ∧ g40 = (Addr.add (Addr.mk g40 0 Option.none) 0).block ∧ g40 = (Addr.add (Addr.mk g40 0 Option.none) 1).block ∧ g40 = (Addr.add (Addr.mk g40 0 Option.none) 2).block ∧ w = w ∧ w = w ∧ w = w ∧ w = w ∧ ∀ (g62 : Nat), Array.size w.heap ≤ g62 → g62 = g62 ∧ Bool.true = Bool.true ∧ g0 = g0 ∧ Bool.true = Bool.true ∧ g0 = g0 ∧ w = w ∧ ∀ (g64 : Nat), Array.size w.heap ≤ g64 → ∀ (g66 : Nat), Array.size w.heap ≤ g66 → Bool.true = Bool.true ∧ g64 = g64 ∧ g64 = g64 ∧ g66 = g66 ∧ (g64 = g64 ∧ [Value.int IntKind.i64 nk, Value.int IntKind.u32 ne, Value.int IntKind.u32 old, Value.int IntKind.u64 lsn, Value.int IntKind.u64 tick, Value.int IntKind.u32 ord, Value.int IntKind.i64 st, Value.bool un, Value.int IntKind.i64 co, Value.slice K kl kc, Value.slice D dl dc] = [Value.int IntKind.i64 nk, Value.int IntKind.u32 ne, Value.int IntKind.u32 old, Value.int IntKind.u64 lsn, Value.int IntKind.u64 tick, Value.int IntKind.u32 ord, Value.int IntKind.i64 st, Value.bool un, Value.int IntKind.i64 co, Value.slice K kl kc, Value.slice D dl dc] ∧ 26 = 26) ∧ g66 = (Addr.add (Addr.mk g66 0 Option.none) 0).block ∧ g66 = (Addr.add (Addr.mk g66 0 Option.none) 1).block ∧ g66 = (Addr.add (Addr.mk g66 0 Option.none) 2).block ∧ w = w ∧ w = w ∧ w = w ∧ w = w ∧ ∀ (g68 : Nat), Array.size w.heap ≤ g68 → g68 = g68 ∧ Bool.true = Bool.true ∧ g0 = g0 ∧ br (!co == 0 && !M17.mHas nk 67) (Done (Q (Value.int IntKind.i64 50))) (Bool.true = Bool.true ∧ g0 = g0 ∧ w = w ∧ ∀ (g70 : Nat), Array.size w.heap ≤ g70 → ∀ (g72 : Nat), Array.size w.heap ≤ g72 → Bool.true = Bool.true ∧ g70 = g70 ∧ g70 = g70 ∧ g72 = g72 ∧ (g70 = g70 ∧ [Value.int IntKind.i64 nk, Value.int IntKind.u32 ne, Value.int IntKind.u32 old, Value.int IntKind.u64 lsn, Value.int IntKind.u64 tick, Value.int IntKind.u32 ord, Value.int IntKind.i64 st, Value.bool un, Value.int IntKind.i64 co, Value.slice K kl kc, Value.slice D dl dc] = [Value.int IntKind.i64 nk, Value.int IntKind.u32 ne, Value.int IntKind.u32 old, Value.int IntKind.u64 lsn, Value.int IntKind.u64 tick, Value.int IntKind.u32 ord, Value.int IntKind.i64 st, Value.bool un, Value.int IntKind.i64 co, Value.slice K kl kc, Value.slice D dl dc] ∧ 26 = 26) ∧ g72 = (Addr.add (Addr.mk g72 0 Option.none) 0).block ∧ g72 = (Addr.add (Addr.mk g72 0 Option.none) 1).block ∧ g72 = (Addr.add (Addr.mk g72 0 Option.none) 2).block ∧ w = w ∧ w = w ∧ w = w ∧ w = w ∧ ∀ (g74 : Nat), Array.size w.heap ≤ g74 → g74 = g74 ∧ Bool.true = Bool.true ∧ g0 = g0 ∧ br (!(↑kl : Int) == 0 && !M17.mHas nk 75) (Done (Q (Value.int IntKind.i64 50))) (Bool.true = Bool.true ∧ g0 = g0 ∧ w = w ∧ ∀ (g76 : Nat), Array.size w.heap ≤ g76 → ∀ (g78 : Nat), Array.size w.heap ≤ g78 → Bool.true = Bool.true ∧ g76 = g76 ∧ g76 = g76 ∧ g78 = g78 ∧ (g76 = g76 ∧ [Value.int IntKind.i64 nk, Value.int IntKind.u32 ne, Value.int IntKind.u32 old, Value.int IntKind.u64 lsn, Value.int IntKind.u64 tick, Value.int IntKind.u32 ord, Value.int IntKind.i64 st, Value.bool un, Value.int IntKind.i64 co, Value.slice K kl kc, Value.slice D dl dc] = [Value.int IntKind.i64 nk, Value.int IntKind.u32 ne, Value.int IntKind.u32 old, Value.int IntKind.u64 lsn, Value.int IntKind.u64 tick, Value.int IntKind.u32 ord, Value.int IntKind.i64 st, Value.bool un, Value.int IntKind.i64 co, Value.slice K kl kc, Value.slice D dl dc] ∧ 26 = 26) ∧ g78 = (Addr.add (Addr.mk g78 0 Option.none) 0).block ∧ g78 = (Addr.add (Addr.mk g78 0 Option.none) 1).block ∧ g78 = (Addr.add (Addr.mk g78 0 Option.none) 2).block ∧ w = w ∧ w = w ∧ w = w ∧ w = w ∧ ∀ (g80 : Nat), Array.size w.heap ≤ g80 → g80 = g80 ∧ Bool.true = Bool.true ∧ g0 = g0 ∧ br (!(↑dl : Int) == 0 && !M17.mHas nk 68) (Done (Q (Value.int IntKind.i64 50))) (g0 = g0 ∧ g0 = g0 ∧ g0 = g0 ∧ g0 = g0 ∧ br ((↑kl : Int) == 0 && (nk == 10 || nk == 11 || nk == 12)) (Done (Q (Value.int IntKind.i64 50))) (Done (Q (Value.int IntKind.i64 0))))))))))))))) = codeVC (⟨TT.plain _, (fun f => Nat.beq f 36), noFar, true, noInv, noInv, pvhas, noCV w⟩ : Cfg Try.prog) w 200 (Try.f35.body.getD .skip) ⟨⟨w, []⟩, mkT Try.f35.ntmps [.agg #[.int .i64 nk, .int .u32 ne, .int .u32 old, .int .u64 lsn, .int .u64 tick, .int .u32 ord, .int .i64 st, .bool un, .int .i64 co, .slice K kl kc, .slice D dl dc]] [], []⟩ (retK Try.prog Try.f35 fun b v s h => newK h (Done (Q v))) := by
  kernel_rfl

theorem rchk_calls (nk ne old lsn tick ord st : Int) (un : Bool) (co : Int) (K D : Option Addr) (kl kc dl dc : Nat) (w : World) : Calls Try.prog 35 ([.agg #[.int .i64 nk, .int .u32 ne, .int .u32 old, .int .u64 lsn, .int .u64 tick, .int .u32 ord, .int .i64 st, .bool un, .int .i64 co, .slice K kl kc, .slice D dl dc]] : List Value).toArray w fun en w' => en = .returned (.int .i64 (mRChk nk ne old lsn tick ord st un co kl dl)) ∧ Below w.heap.size w w' := by
  refine calls_eq (calls_pure (G := (⟨TT.plain _, (fun f => Nat.beq f 36), noFar, true, noInv, noInv, pvhas, noCV w⟩ : Cfg Try.prog)) (noCV_ok' Try.prog w) (pvhas_ok Try.prog rfl) 200 Try.func35 rfl (Q := fun v => v = .int .i64 (mRChk nk ne old lsn tick ord st un co kl dl)) ?_)
  refine (walk_rchk nk ne old lsn tick ord st un co K D kl kc dl dc w (fun v => v = .int .i64 (mRChk nk ne old lsn tick ord st un co kl dl))).mp ?_
  repeat' (first | intro _ | apply And.intro | apply br_intro)
  all_goals try first | rfl | exact True.intro | assumption
  all_goals first | (refine Done.mk ?_; (unfold mRChk mRChk2; simp only [*, cond_true, cond_false]; done)) | (intros; first | rfl | assumption | trivial | omega | (show (_ : Int) ≤ _; first | decide | omega) | (show (_ : Int) < _; first | decide | omega) | (simp only [cond, beq_iff_eq, bne_iff_ne, beq_eq_false_iff_ne, bne_eq_false_iff_eq, Bool.or_eq_true, Bool.and_eq_true, Bool.or_eq_false_iff, Bool.and_eq_false_imp, decide_eq_true_eq, decide_eq_false_iff_not, Bool.not_eq_true', Bool.not_eq_false', Bool.not_eq_eq_eq_not, Bool.not_true, Bool.not_false, ne_eq, Int.not_lt, Int.not_le, ge_iff_le, gt_iff_lt] at *; first | rfl | assumption | omega | (simp_all; done)))

def pvrchk : PV := addPV 35 (fun | [.agg c0] => (match c0.toList with | [.int .i64 nk, .int .u32 ne, .int .u32 old, .int .u64 lsn, .int .u64 tick, .int .u32 ord, .int .i64 st, .bool un, .int .i64 co, .slice K kl kc, .slice D dl dc] => some (none, .int .i64 (mRChk nk ne old lsn tick ord st un co kl dl)) | _ => none) | _ => none) pvhas
theorem pvrchk_ok (P : Program) (hP : P = Try.prog) : PVok P pvrchk := by
  subst hP
  refine addPV_ok (fun args p v w h hp => ?_) (pvhas_ok _ rfl)
  split at h
  · split at h
    · rename_i hc0; obtain rfl := arr_of hc0; cases h; exact rchk_calls _ _ _ _ _ _ _ _ _ _ _ _ _ _ _  w
    · cases h
  · cases h

end Go.VX

/- The walk of function 53 (num1), told by the verified walk VX, and its contract. -/
namespace Go.VX
open Go.Proofs
open Go.RowKit (Below)
set_option linter.unusedVariables false
set_option linter.unusedSimpArgs false
set_option maxRecDepth 100000
set_option maxHeartbeats 4000000
open Go.VX.M17

theorem walk_num1 (n : Int) (w : World) (Q : List Value → Prop) : (∀ (g0 : Nat), Array.size w.heap ≤ g0 → g0 = g0 ∧ True ∧ ∀ (g2 g3 : Nat) (x4 : List Go.Value), Array.size w.heap ≤ g2 → 1 ≤ g3 → (Int.le 0 0 ∧ Int.lt 0 1) ∧ g2 = g2 ∧ ∀ (g7 : Nat), Array.size w.heap ≤ g7 → g7 = g7 ∧ True ∧ ∀ (g9 g10 : Nat) (x11 : List Go.Value), Array.size w.heap ≤ g9 → 1 ≤ g10 → g10 = g10 ∧ g9 = g9 ∧ 1 ≤ g10 ∧ Done (Q [Value.int IntKind.u8 (IntKind.wrap IntKind.u8 (Int.tmod n 256))])) = codeVC (⟨TT.plain _, (fun f => false), noFar, true, noInv, noInv, noPV, noCV w⟩ : Cfg Try.prog) w 200 (Try.f53.body.getD .skip) ⟨⟨w, []⟩, mkT Try.f53.ntmps [.int .u64 n, .int .i64 1] [], []⟩ (retK Try.prog Try.f53 fun b v s h => newK h (rowE 5 h v s 1 fun x => Done (Q x))) := by
  kernel_rfl

theorem num1_calls (n : Int) (w : World) : Calls Try.prog 53 ([.int .u64 n, .int .i64 1] : List Value).toArray w fun en w' => ∃ v, en = .returned v ∧ NewRow w.heap.size w' 5 v 1 (numR n 1) ∧ Below w.heap.size w w' := by
  refine calls_newP (G := (⟨TT.plain _, (fun f => false), noFar, true, noInv, noInv, noPV, noCV w⟩ : Cfg Try.prog)) (noCV_ok' Try.prog w) (noPV_ok Try.prog) 200 Try.func53 rfl ?_
  refine (walk_num1 n w (fun x => x = numR n 1)).mp ?_
  repeat' (first | intro _ | apply And.intro | apply br_intro)
  all_goals try first | rfl | exact True.intro | assumption
  all_goals first | (refine Done.mk ?_; rfl) | (intros; first | rfl | assumption | trivial | omega | (show (_ : Int) ≤ _; first | decide | omega) | (show (_ : Int) < _; first | decide | omega) | (simp only [cond, beq_iff_eq, bne_iff_ne, beq_eq_false_iff_ne, bne_eq_false_iff_eq, Bool.or_eq_true, Bool.and_eq_true, Bool.or_eq_false_iff, Bool.and_eq_false_imp, decide_eq_true_eq, decide_eq_false_iff_not, Bool.not_eq_true', Bool.not_eq_false', Bool.not_eq_eq_eq_not, Bool.not_true, Bool.not_false, ne_eq, Int.not_lt, Int.not_le, ge_iff_le, gt_iff_lt] at *; first | rfl | assumption | omega | (simp_all; done)))

end Go.VX

/- The walk of function 53 (num4), told by the verified walk VX, and its contract. -/
namespace Go.VX
open Go.Proofs
open Go.RowKit (Below)
set_option linter.unusedVariables false
set_option linter.unusedSimpArgs false
set_option maxRecDepth 100000
set_option maxHeartbeats 4000000
open Go.VX.M17

theorem walk_num4 (n : Int) (w : World) (Q : List Value → Prop) : (∀ (g0 : Nat), Array.size w.heap ≤ g0 → g0 = g0 ∧ True ∧ ∀ (g2 g3 : Nat) (x4 : List Go.Value), Array.size w.heap ≤ g2 → 1 ≤ g3 → ∀ (g7 : Nat), Array.size w.heap ≤ g7 → g7 = g7 ∧ g3 = g3 ∧ (g2 = g2 ∧ 1 ≤ g3 ∧ True) ∧ ∀ (g9 g10 : Nat) (x11 : List Go.Value), g9 = g2 ∨ Array.size w.heap ≤ g9 → 2 ≤ g10 → ∀ (g14 : Nat), Array.size w.heap ≤ g14 → g14 = g14 ∧ g10 = g10 ∧ (g9 = g9 ∧ 2 ≤ g10 ∧ True) ∧ ∀ (g16 g17 : Nat) (x18 : List Go.Value), g16 = g9 ∨ Array.size w.heap ≤ g16 → 3 ≤ g17 → ∀ (g21 : Nat), Array.size w.heap ≤ g21 → g21 = g21 ∧ g17 = g17 ∧ (g16 = g16 ∧ 3 ≤ g17 ∧ True) ∧ ∀ (g23 g24 : Nat) (x25 : List Go.Value), g23 = g16 ∨ Array.size w.heap ≤ g23 → 4 ≤ g24 → (Int.le 0 3 ∧ Int.lt 3 4) ∧ g23 = g23 ∧ ∀ (g28 : Nat), Array.size w.heap ≤ g28 → g28 = g28 ∧ True ∧ ∀ (g30 g31 : Nat) (x32 : List Go.Value), Array.size w.heap ≤ g30 → 1 ≤ g31 → (Int.le 0 2 ∧ Int.lt 2 4) ∧ g23 = g23 ∧ ∀ (g35 : Nat), Array.size w.heap ≤ g35 → g35 = g35 ∧ g31 = g31 ∧ (g30 = g30 ∧ 1 ≤ g31 ∧ True) ∧ ∀ (g37 g38 : Nat) (x39 : List Go.Value), g37 = g30 ∨ Array.size w.heap ≤ g37 → 2 ≤ g38 → (Int.le 0 1 ∧ Int.lt 1 4) ∧ g23 = g23 ∧ ∀ (g42 : Nat), Array.size w.heap ≤ g42 → g42 = g42 ∧ g38 = g38 ∧ (g37 = g37 ∧ 2 ≤ g38 ∧ True) ∧ ∀ (g44 g45 : Nat) (x46 : List Go.Value), g44 = g37 ∨ Array.size w.heap ≤ g44 → 3 ≤ g45 → (Int.le 0 0 ∧ Int.lt 0 4) ∧ g23 = g23 ∧ ∀ (g49 : Nat), Array.size w.heap ≤ g49 → g49 = g49 ∧ g45 = g45 ∧ (g44 = g44 ∧ 3 ≤ g45 ∧ True) ∧ ∀ (g51 g52 : Nat) (x53 : List Go.Value), g51 = g44 ∨ Array.size w.heap ≤ g51 → 4 ≤ g52 → g52 = g52 ∧ g51 = g51 ∧ 4 ≤ g52 ∧ Done (Q [Value.int IntKind.u8 (IntKind.wrap IntKind.u8 (Int.tmod (IntKind.wrap IntKind.u64 (Int.tdiv (IntKind.wrap IntKind.u64 (Int.tdiv (IntKind.wrap IntKind.u64 (Int.tdiv n 256)) 256)) 256)) 256)), Value.int IntKind.u8 (IntKind.wrap IntKind.u8 (Int.tmod (IntKind.wrap IntKind.u64 (Int.tdiv (IntKind.wrap IntKind.u64 (Int.tdiv n 256)) 256)) 256)), Value.int IntKind.u8 (IntKind.wrap IntKind.u8 (Int.tmod (IntKind.wrap IntKind.u64 (Int.tdiv n 256)) 256)), Value.int IntKind.u8 (IntKind.wrap IntKind.u8 (Int.tmod n 256))])) = codeVC (⟨TT.plain _, (fun f => false), noFar, true, noInv, noInv, noPV, noCV w⟩ : Cfg Try.prog) w 200 (Try.f53.body.getD .skip) ⟨⟨w, []⟩, mkT Try.f53.ntmps [.int .u64 n, .int .i64 4] [], []⟩ (retK Try.prog Try.f53 fun b v s h => newK h (rowE 5 h v s 4 fun x => Done (Q x))) := by
  kernel_rfl

theorem num4_calls (n : Int) (w : World) : Calls Try.prog 53 ([.int .u64 n, .int .i64 4] : List Value).toArray w fun en w' => ∃ v, en = .returned v ∧ NewRow w.heap.size w' 5 v 4 (numR n 4) ∧ Below w.heap.size w w' := by
  refine calls_newP (G := (⟨TT.plain _, (fun f => false), noFar, true, noInv, noInv, noPV, noCV w⟩ : Cfg Try.prog)) (noCV_ok' Try.prog w) (noPV_ok Try.prog) 200 Try.func53 rfl ?_
  refine (walk_num4 n w (fun x => x = numR n 4)).mp ?_
  repeat' (first | intro _ | apply And.intro | apply br_intro)
  all_goals try first | rfl | exact True.intro | assumption
  all_goals first | (refine Done.mk ?_; rfl) | (intros; first | rfl | assumption | trivial | omega | (show (_ : Int) ≤ _; first | decide | omega) | (show (_ : Int) < _; first | decide | omega) | (simp only [cond, beq_iff_eq, bne_iff_ne, beq_eq_false_iff_ne, bne_eq_false_iff_eq, Bool.or_eq_true, Bool.and_eq_true, Bool.or_eq_false_iff, Bool.and_eq_false_imp, decide_eq_true_eq, decide_eq_false_iff_not, Bool.not_eq_true', Bool.not_eq_false', Bool.not_eq_eq_eq_not, Bool.not_true, Bool.not_false, ne_eq, Int.not_lt, Int.not_le, ge_iff_le, gt_iff_lt] at *; first | rfl | assumption | omega | (simp_all; done)))

end Go.VX

/- The walk of function 53 (num8), told by the verified walk VX, and its contract. -/
namespace Go.VX
open Go.Proofs
open Go.RowKit (Below)
set_option linter.unusedVariables false
set_option linter.unusedSimpArgs false
set_option maxRecDepth 100000
set_option maxHeartbeats 4000000
open Go.VX.M17

theorem walk_num8 (n : Int) (w : World) (Q : List Value → Prop) : (∀ (g0 : Nat), Array.size w.heap ≤ g0 → g0 = g0 ∧ True ∧ ∀ (g2 g3 : Nat) (x4 : List Go.Value), Array.size w.heap ≤ g2 → 1 ≤ g3 → ∀ (g7 : Nat), Array.size w.heap ≤ g7 → g7 = g7 ∧ g3 = g3 ∧ (g2 = g2 ∧ 1 ≤ g3 ∧ True) ∧ ∀ (g9 g10 : Nat) (x11 : List Go.Value), g9 = g2 ∨ Array.size w.heap ≤ g9 → 2 ≤ g10 → ∀ (g14 : Nat), Array.size w.heap ≤ g14 → g14 = g14 ∧ g10 = g10 ∧ (g9 = g9 ∧ 2 ≤ g10 ∧ True) ∧ ∀ (g16 g17 : Nat) (x18 : List Go.Value), g16 = g9 ∨ Array.size w.heap ≤ g16 → 3 ≤ g17 → ∀ (g21 : Nat), Array.size w.heap ≤ g21 → g21 = g21 ∧ g17 = g17 ∧ (g16 = g16 ∧ 3 ≤ g17 ∧ True) ∧ ∀ (g23 g24 : Nat) (x25 : List Go.Value), g23 = g16 ∨ Array.size w.heap ≤ g23 → 4 ≤ g24 → ∀ (g28 : Nat), Array.size w.heap ≤ g28 → g28 = g28 ∧ g24 = g24 ∧ (g23 = g23 ∧ 4 ≤ g24 ∧ True) ∧ ∀ (g30 g31 : Nat) (x32 : List Go.Value), g30 = g23 ∨ Array.size w.heap ≤ g30 → 5 ≤ g31 → ∀ (g35 : Nat), Array.size w.heap ≤ g35 → g35 = g35 ∧ g31 = g31 ∧ (g30 = g30 ∧ 5 ≤ g31 ∧ True) ∧ ∀ (g37 g38 : Nat) (x39 : List Go.Value), g37 = g30 ∨ Array.size w.heap ≤ g37 → 6 ≤ g38 → ∀ (g42 : Nat), Array.size w.heap ≤ g42 → g42 = g42 ∧ g38 = g38 ∧ (g37 = g37 ∧ 6 ≤ g38 ∧ True) ∧ ∀ (g44 g45 : Nat) (x46 : List Go.Value), g44 = g37 ∨ Array.size w.heap ≤ g44 → 7 ≤ g45 → ∀ (g49 : Nat), Array.size w.heap ≤ g49 → g49 = g49 ∧ g45 = g45 ∧ (g44 = g44 ∧ 7 ≤ g45 ∧ True) ∧ ∀ (g51 g52 : Nat) (x53 : List Go.Value), g51 = g44 ∨ Array.size w.heap ≤ g51 → 8 ≤ g52 → (Int.le 0 7 ∧ Int.lt 7 8) ∧ g51 = g51 ∧ ∀ (g56 : Nat), Array.size w.heap ≤ g56 → g56 = g56 ∧ True ∧ ∀ (g58 g59 : Nat) (x60 : List Go.Value), Array.size w.heap ≤ g58 → 1 ≤ g59 → (Int.le 0 6 ∧ Int.lt 6 8) ∧ g51 = g51 ∧ ∀ (g63 : Nat), Array.size w.heap ≤ g63 → g63 = g63 ∧ g59 = g59 ∧ (g58 = g58 ∧ 1 ≤ g59 ∧ True) ∧ ∀ (g65 g66 : Nat) (x67 : List Go.Value), g65 = g58 ∨ Array.size w.heap ≤ g65 → 2 ≤ g66 → (Int.le 0 5 ∧ Int.lt 5 8) ∧ g51 = g51 ∧ ∀ (g70 : Nat), Array.size w.heap ≤ g70 → g70 = g70 ∧ g66 = g66 ∧ (g65 = g65 ∧ 2 ≤ g66 ∧ True) ∧ ∀ (g72 g73 : Nat) (x74 : List Go.Value), g72 = g65 ∨ Array.size w.heap ≤ g72 → 3 ≤ g73 → (Int.le 0 4 ∧ Int.lt 4 8) ∧ g51 = g51 ∧ ∀ (g77 : Nat), Array.size w.heap ≤ g77 → g77 = g77 ∧ g73 = g73 ∧ (g72 = g72 ∧ 3 ≤ g73 ∧ True) ∧ ∀ (g79 g80 : Nat) (x81 : List Go.Value), g79 = g72 ∨ Array.size w.heap ≤ g79 → 4 ≤ g80 → (Int.le 0 3 ∧ Int.lt 3 8) ∧ g51 = g51 ∧ ∀ (g84 : Nat), Array.size w.heap ≤ g84 → g84 = g84 ∧ g80 = g80 ∧ (g79 = g79 ∧ 4 ≤ g80 ∧ True) ∧ ∀ (g86 g87 : Nat) (x88 : List Go.Value), g86 = g79 ∨ Array.size w.heap ≤ g86 → 5 ≤ g87 → (Int.le 0 2 ∧ Int.lt 2 8) ∧ g51 = g51 ∧ ∀ (g91 : Nat), Array.size w.heap ≤ g91 → g91 = g91 ∧ g87 = g87 ∧ (g86 = g86 ∧ 5 ≤ g87 ∧ True) ∧ ∀ (g93 g94 : Nat) (x95 : List Go.Value), g93 = g86 ∨ Array.size w.heap ≤ g93 → 6 ≤ g94 → (Int.le 0 1 ∧ Int.lt 1 8) ∧ g51 = g51 ∧ ∀ (g98 : Nat), Array.size w.heap ≤ g98 → g98 = g98 ∧ g94 = g94 ∧ (g93 = g93 ∧ 6 ≤ g94 ∧ True) ∧ ∀ (g100 g101 : Nat) (x102 : List Go.Value), g100 = g93 ∨ Array.size w.heap ≤ g100 → 7 ≤ g101 → (Int.le 0 0 ∧ Int.lt 0 8) ∧ g51 = g51 ∧ ∀ (g105 : Nat), Array.size w.heap ≤ g105 → g105 = g105 ∧ g101 = g101 ∧ (g100 = g100 ∧ 7 ≤ g101 ∧ True) ∧ ∀ (g107 g108 : Nat) (x109 : List Go.Value), g107 = g100 ∨ Array.size w.heap ≤ g107 → 8 ≤ g108 → g108 = g108 ∧ g107 = g107 ∧ 8 ≤ g108 ∧ Done (Q [Value.int IntKind.u8 (IntKind.wrap IntKind.u8 (Int.tmod (IntKind.wrap IntKind.u64 (Int.tdiv (IntKind.wrap IntKind.u64 (Int.tdiv (IntKind.wrap IntKind.u64 (Int.tdiv (IntKind.wrap IntKind.u64 (Int.tdiv (IntKind.wrap IntKind.u64 (Int.tdiv (IntKind.wrap IntKind.u64 (Int.tdiv (IntKind.wrap IntKind.u64 (Int.tdiv n 256)) 256)) 256)) 256)) 256)) 256)) 256)) 256)), Value.int IntKind.u8 (IntKind.wrap IntKind.u8 (Int.tmod (IntKind.wrap IntKind.u64 (Int.tdiv (IntKind.wrap IntKind.u64 (Int.tdiv (IntKind.wrap IntKind.u64 (Int.tdiv (IntKind.wrap IntKind.u64 (Int.tdiv (IntKind.wrap IntKind.u64 (Int.tdiv (IntKind.wrap IntKind.u64 (Int.tdiv n 256)) 256)) 256)) 256)) 256)) 256)) 256)), Value.int IntKind.u8 (IntKind.wrap IntKind.u8 (Int.tmod (IntKind.wrap IntKind.u64 (Int.tdiv (IntKind.wrap IntKind.u64 (Int.tdiv (IntKind.wrap IntKind.u64 (Int.tdiv (IntKind.wrap IntKind.u64 (Int.tdiv (IntKind.wrap IntKind.u64 (Int.tdiv n 256)) 256)) 256)) 256)) 256)) 256)), Value.int IntKind.u8 (IntKind.wrap IntKind.u8 (Int.tmod (IntKind.wrap IntKind.u64 (Int.tdiv (IntKind.wrap IntKind.u64 (Int.tdiv (IntKind.wrap IntKind.u64 (Int.tdiv (IntKind.wrap IntKind.u64 (Int.tdiv n 256)) 256)) 256)) 256)) 256)), Value.int IntKind.u8 (IntKind.wrap IntKind.u8 (Int.tmod (IntKind.wrap IntKind.u64 (Int.tdiv (IntKind.wrap IntKind.u64 (Int.tdiv (IntKind.wrap IntKind.u64 (Int.tdiv n 256)) 256)) 256)) 256)), Value.int IntKind.u8 (IntKind.wrap IntKind.u8 (Int.tmod (IntKind.wrap IntKind.u64 (Int.tdiv (IntKind.wrap IntKind.u64 (Int.tdiv n 256)) 256)) 256)), Value.int IntKind.u8 (IntKind.wrap IntKind.u8 (Int.tmod (IntKind.wrap IntKind.u64 (Int.tdiv n 256)) 256)), Value.int IntKind.u8 (IntKind.wrap IntKind.u8 (Int.tmod n 256))])) = codeVC (⟨TT.plain _, (fun f => false), noFar, true, noInv, noInv, noPV, noCV w⟩ : Cfg Try.prog) w 200 (Try.f53.body.getD .skip) ⟨⟨w, []⟩, mkT Try.f53.ntmps [.int .u64 n, .int .i64 8] [], []⟩ (retK Try.prog Try.f53 fun b v s h => newK h (rowE 5 h v s 8 fun x => Done (Q x))) := by
  kernel_rfl

theorem num8_calls (n : Int) (w : World) : Calls Try.prog 53 ([.int .u64 n, .int .i64 8] : List Value).toArray w fun en w' => ∃ v, en = .returned v ∧ NewRow w.heap.size w' 5 v 8 (numR n 8) ∧ Below w.heap.size w w' := by
  refine calls_newP (G := (⟨TT.plain _, (fun f => false), noFar, true, noInv, noInv, noPV, noCV w⟩ : Cfg Try.prog)) (noCV_ok' Try.prog w) (noPV_ok Try.prog) 200 Try.func53 rfl ?_
  refine (walk_num8 n w (fun x => x = numR n 8)).mp ?_
  repeat' (first | intro _ | apply And.intro | apply br_intro)
  all_goals try first | rfl | exact True.intro | assumption
  all_goals first | (refine Done.mk ?_; rfl) | (intros; first | rfl | assumption | trivial | omega | (show (_ : Int) ≤ _; first | decide | omega) | (show (_ : Int) < _; first | decide | omega) | (simp only [cond, beq_iff_eq, bne_iff_ne, beq_eq_false_iff_ne, bne_eq_false_iff_eq, Bool.or_eq_true, Bool.and_eq_true, Bool.or_eq_false_iff, Bool.and_eq_false_imp, decide_eq_true_eq, decide_eq_false_iff_not, Bool.not_eq_true', Bool.not_eq_false', Bool.not_eq_eq_eq_not, Bool.not_true, Bool.not_false, ne_eq, Int.not_lt, Int.not_le, ge_iff_le, gt_iff_lt] at *; first | rfl | assumption | omega | (simp_all; done)))

def numPat : List Value → Option (Nat × List Value)
  | [.int .u64 n, .int .i64 (.ofNat k)] => bif Nat.beq k 8 then some (8, numR n 8) else bif Nat.beq k 4 then some (4, numR n 4) else bif Nat.beq k 1 then some (1, numR n 1) else none
  | _ => none
def spnum (w : World) : CV := addNewP 53 5 numPat (noCV w)
theorem spnum_ok (P : Program) (w : World) (hP : P = Try.prog) : CVok P w (spnum w) := by
  subst hP
  refine addNewP_ok (fun args n l w h => ?_) (noCV_ok' _ _)
  unfold numPat at h
  split at h
  · rename_i m k
    simp only [cond_eq_ite] at h
    split at h
    · rename_i hk; obtain rfl := Nat.eq_of_beq_eq_true hk; cases h; exact num8_calls m w
    · split at h
      · rename_i hk; obtain rfl := Nat.eq_of_beq_eq_true hk; cases h; exact num4_calls m w
      · split at h
        · rename_i hk; obtain rfl := Nat.eq_of_beq_eq_true hk; cases h; exact num1_calls m w
        · cases h
  · cases h

end Go.VX

/- The walk of function 17 (rput1), told by the verified walk VX, and its contract. -/
namespace Go.VX
open Go.Proofs
open Go.RowKit (Below)
set_option linter.unusedVariables false
set_option linter.unusedSimpArgs false
set_option maxRecDepth 100000
set_option maxHeartbeats 4000000
open Go.VX.M17

theorem walk_rput1 (e old lsn tick ord st : Int) (un : Bool) (co : Int) (K D : Option Addr) (kl kc dl dc : Nat) (w : World) (Q : Bool → List Value → Int → Prop) : (∀ (g0 : Nat), Array.size w.heap ≤ g0 → g0 = g0 ∧ br (M17.mRChk 1 e old lsn tick ord st un co kl dl != 0) (Done (Q Bool.true [] (M17.mRChk 1 e old lsn tick ord st un co kl dl))) (g0 = g0 ∧ g0 = g0 ∧ ∀ (g2 : Nat), Array.size w.heap ≤ g2 → Bool.true = Bool.true ∧ g0 = g0 ∧ w = w ∧ ∀ (g4 : Nat), Array.size w.heap ≤ g4 → ∀ (g6 : Nat), Array.size w.heap ≤ g6 → Bool.true = Bool.true ∧ g4 = g4 ∧ g4 = g4 ∧ g6 = g6 ∧ (g4 = g4 ∧ [Value.int IntKind.i64 1, Value.int IntKind.u32 e, Value.int IntKind.u32 old, Value.int IntKind.u64 lsn, Value.int IntKind.u64 tick, Value.int IntKind.u32 ord, Value.int IntKind.i64 st, Value.bool un, Value.int IntKind.i64 co, Value.slice K kl kc, Value.slice D dl dc] = [Value.int IntKind.i64 1, Value.int IntKind.u32 e, Value.int IntKind.u32 old, Value.int IntKind.u64 lsn, Value.int IntKind.u64 tick, Value.int IntKind.u32 ord, Value.int IntKind.i64 st, Value.bool un, Value.int IntKind.i64 co, Value.slice K kl kc, Value.slice D dl dc] ∧ 26 = 26) ∧ g6 = (Addr.add (Addr.mk g6 0 Option.none) 0).block ∧ g6 = (Addr.add (Addr.mk g6 0 Option.none) 1).block ∧ g6 = (Addr.add (Addr.mk g6 0 Option.none) 2).block ∧ w = w ∧ w = w ∧ w = w ∧ w = w ∧ ∀ (g8 : Nat), Array.size w.heap ≤ g8 → g8 = g8 ∧ g8 = g8 ∧ ∀ (g10 : Nat), Array.size w.heap ≤ g10 → g10 = g10 ∧ (g2 = g2 ∧ 1 ≤ 1 ∧ True) ∧ ∀ (g12 g13 : Nat) (x14 : List Go.Value), g12 = g2 ∨ Array.size w.heap ≤ g12 → 2 ≤ g13 → Bool.true = Bool.true ∧ g0 = g0 ∧ w = w ∧ ∀ (g17 : Nat), Array.size w.heap ≤ g17 → ∀ (g19 : Nat), Array.size w.heap ≤ g19 → Bool.true = Bool.true ∧ g17 = g17 ∧ g17 = g17 ∧ g19 = g19 ∧ (g17 = g17 ∧ [Value.int IntKind.i64 1, Value.int IntKind.u32 e, Value.int IntKind.u32 old, Value.int IntKind.u64 lsn, Value.int IntKind.u64 tick, Value.int IntKind.u32 ord, Value.int IntKind.i64 st, Value.bool un, Value.int IntKind.i64 co, Value.slice K kl kc, Value.slice D dl dc] = [Value.int IntKind.i64 1, Value.int IntKind.u32 e, Value.int IntKind.u32 old, Value.int IntKind.u64 lsn, Value.int IntKind.u64 tick, Value.int IntKind.u32 ord, Value.int IntKind.i64 st, Value.bool un, Value.int IntKind.i64 co, Value.slice K kl kc, Value.slice D dl dc] ∧ 26 = 26) ∧ g19 = (Addr.add (Addr.mk g19 0 Option.none) 0).block ∧ g19 = (Addr.add (Addr.mk g19 0 Option.none) 1).block ∧ g19 = (Addr.add (Addr.mk g19 0 Option.none) 2).block ∧ w = w ∧ w = w ∧ w = w ∧ w = w ∧ ∀ (g21 : Nat), Array.size w.heap ≤ g21 → g21 = g21 ∧ g21 = g21 ∧ ∀ (g23 : Nat), Array.size w.heap ≤ g23 → g23 = g23 ∧ g13 = g13 ∧ (g12 = g12 ∧ 2 ≤ g13 ∧ True) ∧ ∀ (g25 g26 : Nat) (x27 : List Go.Value), g25 = g12 ∨ Array.size w.heap ≤ g25 → 3 ≤ g26 → Bool.true = Bool.true ∧ g0 = g0 ∧ w = w ∧ ∀ (g30 : Nat), Array.size w.heap ≤ g30 → ∀ (g32 : Nat), Array.size w.heap ≤ g32 → Bool.true = Bool.true ∧ g30 = g30 ∧ g30 = g30 ∧ g32 = g32 ∧ (g30 = g30 ∧ [Value.int IntKind.i64 1, Value.int IntKind.u32 e, Value.int IntKind.u32 old, Value.int IntKind.u64 lsn, Value.int IntKind.u64 tick, Value.int IntKind.u32 ord, Value.int IntKind.i64 st, Value.bool un, Value.int IntKind.i64 co, Value.slice K kl kc, Value.slice D dl dc] = [Value.int IntKind.i64 1, Value.int IntKind.u32 e, Value.int IntKind.u32 old, Value.int IntKind.u64 lsn, Value.int IntKind.u64 tick, Value.int IntKind.u32 ord, Value.int IntKind.i64 st, Value.bool un, Value.int IntKind.i64 co, Value.slice K kl kc, Value.slice D dl dc] ∧ 26 = 26) ∧ g32 = (Addr.add (Addr.mk g32 0 Option.none) 0).block ∧ g32 = (Addr.add (Addr.mk g32 0 Option.none) 1).block ∧ g32 = (Addr.add (Addr.mk g32 0 Option.none) 2).block ∧ w = w ∧ w = w ∧ w = w ∧ w = w ∧ ∀ (g34 : Nat), Array.size w.heap ≤ g34 → g34 = g34 ∧ g34 = g34 ∧ ∀ (g36 : Nat), Array.size w.heap ≤ g36 → g36 = g36 ∧ g26 = g26 ∧ (g25 = g25 ∧ 3 ≤ g26 ∧ True) ∧ ∀ (g38 g39 : Nat) (x40 : List Go.Value), g38 = g25 ∨ Array.size w.heap ≤ g38 → 4 ≤ g39 → Bool.true = Bool.true ∧ g0 = g0 ∧ w = w ∧ ∀ (g43 : Nat), Array.size w.heap ≤ g43 → ∀ (g45 : Nat), Array.size w.heap ≤ g45 → Bool.true = Bool.true ∧ g43 = g43 ∧ g43 = g43 ∧ g45 = g45 ∧ (g43 = g43 ∧ [Value.int IntKind.i64 1, Value.int IntKind.u32 e, Value.int IntKind.u32 old, Value.int IntKind.u64 lsn, Value.int IntKind.u64 tick, Value.int IntKind.u32 ord, Value.int IntKind.i64 st, Value.bool un, Value.int IntKind.i64 co, Value.slice K kl kc, Value.slice D dl dc] = [Value.int IntKind.i64 1, Value.int IntKind.u32 e, Value.int IntKind.u32 old, Value.int IntKind.u64 lsn, Value.int IntKind.u64 tick, Value.int IntKind.u32 ord, Value.int IntKind.i64 st, Value.bool un, Value.int IntKind.i64 co, Value.slice K kl kc, Value.slice D dl dc] ∧ 26 = 26) ∧ g45 = (Addr.add (Addr.mk g45 0 Option.none) 0).block ∧ g45 = (Addr.add (Addr.mk g45 0 Option.none) 1).block ∧ g45 = (Addr.add (Addr.mk g45 0 Option.none) 2).block ∧ w = w ∧ w = w ∧ w = w ∧ w = w ∧ ∀ (g47 : Nat), Array.size w.heap ≤ g47 → g47 = g47 ∧ g47 = g47 ∧ ∀ (g49 : Nat), Array.size w.heap ≤ g49 → g49 = g49 ∧ g39 = g39 ∧ (g38 = g38 ∧ 4 ≤ g39 ∧ True) ∧ ∀ (g51 g52 : Nat) (x53 : List Go.Value), g51 = g38 ∨ Array.size w.heap ≤ g51 → 5 ≤ g52 → (Int.le 0 0 ∧ Int.lt 0 5) ∧ g51 = g51 ∧ ∀ (g56 : Nat), Array.size w.heap ≤ g56 → g56 = g56 ∧ g56 = g56 ∧ g56 = g56 ∧ g56 = g56 ∧ g56 = g56 ∧ g56 = g56 ∧ ∀ (g58 g59 : Nat) (x60 : List Go.Value), Array.size w.heap ≤ g58 → 1 ≤ g59 → g58 = g58 ∧ True ∧ ∀ (g63 g64 : Nat) (x65 : List Go.Value), Array.size w.heap ≤ g63 → 1 ≤ g64 → (Int.le 0 1 ∧ Int.lt 1 5) ∧ g51 = g51 ∧ ∀ (g68 : Nat), Array.size w.heap ≤ g68 → g68 = g68 ∧ g68 = g68 ∧ g68 = g68 ∧ g68 = g68 ∧ br (Bool.false || decide (IntKind.wrap IntKind.u64 e ≥ IntKind.wrap IntKind.u64 (1 * 2 ^ Min.min (Int.toNat (IntKind.wrap IntKind.u64 (IntKind.wrap IntKind.i64 (8 * 4)))) (IntKind.bits IntKind.u64)))) (Done (Q Bool.true [] 2)) (g68 = g68 ∧ g68 = g68 ∧ ∀ (g70 g71 : Nat) (x72 : List Go.Value), Array.size w.heap ≤ g70 → 4 ≤ g71 → g70 = g70 ∧ g64 = g64 ∧ (g63 = g63 ∧ 1 ≤ g64 ∧ True) ∧ ∀ (g75 g76 : Nat) (x77 : List Go.Value), g75 = g63 ∨ Array.size w.heap ≤ g75 → 5 ≤ g76 → (Int.le 0 2 ∧ Int.lt 2 5) ∧ g51 = g51 ∧ ∀ (g80 : Nat), Array.size w.heap ≤ g80 → g80 = g80 ∧ g80 = g80 ∧ g80 = g80 ∧ g80 = g80 ∧ br (Bool.false || decide (IntKind.wrap IntKind.u64 old ≥ IntKind.wrap IntKind.u64 (1 * 2 ^ Min.min (Int.toNat (IntKind.wrap IntKind.u64 (IntKind.wrap IntKind.i64 (8 * 4)))) (IntKind.bits IntKind.u64)))) (Done (Q Bool.true [] 2)) (g80 = g80 ∧ g80 = g80 ∧ ∀ (g82 g83 : Nat) (x84 : List Go.Value), Array.size w.heap ≤ g82 → 4 ≤ g83 → g82 = g82 ∧ g76 = g76 ∧ (g75 = g75 ∧ 5 ≤ g76 ∧ True) ∧ ∀ (g87 g88 : Nat) (x89 : List Go.Value), g87 = g75 ∨ Array.size w.heap ≤ g87 → 9 ≤ g88 → (Int.le 0 3 ∧ Int.lt 3 5) ∧ g51 = g51 ∧ ∀ (g92 : Nat), Array.size w.heap ≤ g92 → g92 = g92 ∧ g92 = g92 ∧ g92 = g92 ∧ ∀ (g94 g95 : Nat) (x96 : List Go.Value), Array.size w.heap ≤ g94 → 8 ≤ g95 → g94 = g94 ∧ g88 = g88 ∧ (g87 = g87 ∧ 9 ≤ g88 ∧ True) ∧ ∀ (g99 g100 : Nat) (x101 : List Go.Value), g99 = g87 ∨ Array.size w.heap ≤ g99 → 17 ≤ g100 → (Int.le 0 4 ∧ Int.lt 4 5) ∧ g51 = g51 ∧ ∀ (g104 : Nat), Array.size w.heap ≤ g104 → g104 = g104 ∧ g104 = g104 ∧ g104 = g104 ∧ br (decide ((↑dl : Int) > 255)) (Done (Q Bool.true [] 3)) (g104 = g104 ∧ ∀ (g106 : Nat), Array.size w.heap ≤ g106 → g104 = g104 ∧ ∃ (v108 : List Go.Value), (List.length v108 = dl * 1 ∧ List.all v108 flat = Bool.true ∧ (0 < dl → ∃ (v110 : Go.Addr), D = Option.some v110 ∧ (v110.block < Array.size w.heap ∧ True) ∧ cellsAt w v110 0 v108)) ∧ (g106 = g106 ∧ 1 ≤ 1 ∧ br (Nat.ble ((1 + dl) * 1) 140737488355328) True (Nat.le ((1 + dl) * 1) 140737488355328)) ∧ ∀ (g111 g112 : Nat) (x113 : List Go.Value), g111 = g106 ∨ Array.size w.heap ≤ g111 → 1 + dl ≤ g112 → ∀ (x116 : List Go.Value), x116 = List.take ((1 + dl) * 1) (List.drop 0 ([Value.int IntKind.u8 (IntKind.wrap IntKind.u8 (↑dl : Int))] ++ v108 ++ x113)) → (g111 = g111 ∧ 0 + (1 + dl) * 1 ≤ List.length ([Value.int IntKind.u8 (IntKind.wrap IntKind.u8 (↑dl : Int))] ++ v108 ++ x113) ∧ List.all x116 flat = Bool.true) ∧ g100 = g100 ∧ (g99 = g99 ∧ 17 ≤ g100 ∧ br (Nat.ble ((17 + (1 + dl)) * 1) 140737488355328) True (Nat.le ((17 + (1 + dl)) * 1) 140737488355328)) ∧ ∀ (g118 g119 : Nat) (x120 : List Go.Value), g118 = g99 ∨ Array.size w.heap ≤ g118 → 17 + (1 + dl) ≤ g119 → g119 = g119 ∧ (g118 = g118 ∧ 17 + (1 + dl) ≤ g119) ∧ ∀ (x123 : List Go.Value), x123 = List.take (17 + (1 + dl)) ([Value.int IntKind.u8 1, Value.int IntKind.u8 (M17.rb 3 (IntKind.wrap IntKind.u64 e)), Value.int IntKind.u8 (M17.rb 2 (IntKind.wrap IntKind.u64 e)), Value.int IntKind.u8 (M17.rb 1 (IntKind.wrap IntKind.u64 e)), Value.int IntKind.u8 (M17.rb 0 (IntKind.wrap IntKind.u64 e)), Value.int IntKind.u8 (M17.rb 3 (IntKind.wrap IntKind.u64 old)), Value.int IntKind.u8 (M17.rb 2 (IntKind.wrap IntKind.u64 old)), Value.int IntKind.u8 (M17.rb 1 (IntKind.wrap IntKind.u64 old)), Value.int IntKind.u8 (M17.rb 0 (IntKind.wrap IntKind.u64 old)), Value.int IntKind.u8 (M17.rb 7 lsn), Value.int IntKind.u8 (M17.rb 6 lsn), Value.int IntKind.u8 (M17.rb 5 lsn), Value.int IntKind.u8 (M17.rb 4 lsn), Value.int IntKind.u8 (M17.rb 3 lsn), Value.int IntKind.u8 (M17.rb 2 lsn), Value.int IntKind.u8 (M17.rb 1 lsn), Value.int IntKind.u8 (M17.rb 0 lsn)] ++ x116 ++ x120) → Done (Q Bool.false x123 0)))))) = codeVC (⟨TT.plain _, (fun f => Nat.beq f 36 || Nat.beq f 37 || Nat.beq f 48), noFar, true, noInv, noInv, pvrchk, spnum w⟩ : Cfg Try.prog) w 300 (Try.f17.body.getD .skip) ⟨⟨w, []⟩, mkT Try.f17.ntmps [.agg #[.int .i64 1, .int .u32 e, .int .u32 old, .int .u64 lsn, .int .u64 tick, .int .u32 ord, .int .i64 st, .bool un, .int .i64 co, .slice K kl kc, .slice D dl dc]] [[[none, none, none, none, none, none, none, none, none, some 1001, some 1001]]], []⟩ (retK Try.prog Try.f17 fun b v s h => newK h (putE 5 h v s fun z l c => Done (Q z l c))) := by
  kernel_rfl

set_option maxHeartbeats 8000000 in
theorem rput1_form (e old lsn tick ord st : Int) (un : Bool) (co : Int) (K D : Option Addr) (kc dc : Nat) (ks ds : List Int) (w : World) (BK : BytesAt w (.slice K ks.length kc) ks.length ks) (BD : BytesAt w (.slice D ds.length dc) ds.length ds) (hr : (0 ≤ e ∧ e ≤ 4294967295) ∧ (0 ≤ old ∧ old ≤ 4294967295) ∧ (0 ≤ lsn ∧ lsn ≤ 18446744073709551615) ∧ (0 ≤ tick ∧ tick ≤ 18446744073709551615) ∧ (0 ≤ ord ∧ ord ≤ 4294967295)) :
    codeVC (⟨TT.plain _, (fun f => Nat.beq f 36 || Nat.beq f 37 || Nat.beq f 48), noFar, true, noInv, noInv, pvrchk, spnum w⟩ : Cfg Try.prog) w 300 (Try.f17.body.getD .skip) ⟨⟨w, []⟩, mkT Try.f17.ntmps [.agg #[.int .i64 1, .int .u32 e, .int .u32 old, .int .u64 lsn, .int .u64 tick, .int .u32 ord, .int .i64 st, .bool un, .int .i64 co, .slice K ks.length kc, .slice D ds.length dc]] [[[none, none, none, none, none, none, none, none, none, some 1001, some 1001]]], []⟩ (retK Try.prog Try.f17 fun b v s h => newK h (putE 5 h v s fun z l c => Done (z = (!(c == 0)) ∧ l = u8s (mRPut 1 e old lsn tick ord st un co ks ds).1 ∧ c = (mRPut 1 e old lsn tick ord st un co ks ds).2))) := by
  refine (walk_rput1 e old lsn tick ord st un co K D ks.length kc ds.length dc w (fun z l c => z = (!(c == 0)) ∧ l = u8s (mRPut 1 e old lsn tick ord st un co ks ds).1 ∧ c = (mRPut 1 e old lsn tick ord st un co ks ds).2)).mp ?_
  obtain ⟨⟨e0, e1⟩, ⟨o0, o1⟩, ⟨l0, l1⟩, ⟨t0, t1⟩, ⟨d0, d1⟩⟩ := hr
  by_cases hz : mRChk 1 e old lsn tick ord st un co ks.length ds.length = 0
  · obtain ⟨_, s0, s1, c0, c1, k1, x1⟩ := rchk_rg hz
    have hm : mRPut 1 e old lsn tick ord st un co ks ds = (be1n 1 ++ prts e old lsn tick ord st un co ks ds [69, 80, 76, 68], 0) := by unfold mRPut; rw [hz]; rfl
    have we : IntKind.u64.wrap e = e := by rw [w64]; omega
    have wo : IntKind.u64.wrap old = old := by rw [w64]; omega
    have wd : IntKind.u64.wrap ord = ord := by rw [w64]; omega
    have ws : IntKind.u64.wrap st = st := by rw [w64]; omega
    have wc : IntKind.u64.wrap co = co := by rw [w64]; omega
    have re := fun k => rb_eq (n := e) e0 (by omega) k
    have ro := fun k => rb_eq (n := old) o0 (by omega) k
    have rl := fun k => rb_eq (n := lsn) l0 (by omega) k
    have rt := fun k => rb_eq (n := tick) t0 (by omega) k
    have rd := fun k => rb_eq (n := ord) d0 (by omega) k
    have rs := fun k => rb_eq (n := st) s0 (by omega) k
    have rc := fun k => rb_eq (n := co) c0 (by omega) k
    have rk : rb 0 (IntKind.u64.wrap 1) = 1 := by decide
    have r0 : rb 0 0 = 0 := by decide
    have r1 : rb 0 1 = 1 := by decide
    rw [hz, hm]
    clear hz hm
    repeat' (first | refine And.intro rfl ?_ | refine And.intro ?_ ?_ | apply br_intro | (refine tkI (by first | rfl | exact sz5) (by simp [u8s]; try omega) ?_) | (refine tkD (by first | rfl | exact sz5) (by simp [u8s]; try omega) ?_) | (refine tkL (by simp [u8s]; try omega) ?_) | (refine ⟨_, BK.far (h := []) rfl, ?_⟩) | (refine ⟨_, BD.far (h := []) rfl, ?_⟩) | intro _)
    all_goals try first | rfl | exact trivial | assumption | (show (_ : Int) ≤ _; decide) | (show (_ : Int) < _; decide) | (show (_ : Nat) ≤ _; omega) | exact all_flat _ | (simp [u8s, flat]; done) | (simp [u8s]; omega)
    all_goals first
      | (refine Done.mk ⟨rfl, ?_, rfl⟩; simp [u8s, we, wo, wd, ws, wc, re, ro, rl, rt, rd, rs, rc, rk, r0, r1, prts, prt, be1n, be4n, be8n, *]; done)
      | (refine Done.mk ⟨rfl, ?_, rfl⟩; simp [u8s, we, wo, wd, ws, wc, re, ro, rl, rt, rd, rs, rc, rk, r0, r1, prts, prt, be1n, be4n, be8n, *]; (try rw [IntKind.wrap]); simp [IntKind.wrap, IntKind.signed, IntKind.bits]; omega)
      | (exfalso; rename_i hq; simp at hq; done)
      | (exfalso; rename_i hq; simp at hq; omega)
      | (exfalso; rename_i hq; simp [IntKind.wrap, IntKind.bits, IntKind.signed] at hq; omega)
  · have hz' : mRChk 1 e old lsn tick ord st un co ks.length ds.length = 50 := (rchk_01 _ _ _ _ _ _ _ _ _ _ _).resolve_right hz
    have hm : mRPut 1 e old lsn tick ord st un co ks ds = ([], 50) := by unfold mRPut; rw [hz']; rfl
    rw [hz', hm]
    intro g0 hg0
    exact ⟨rfl, br_intro (fun _ => ⟨rfl, rfl, rfl⟩) (fun h => absurd h (by decide))⟩

end Go.VX

/- The walk of function 17 (rput2), told by the verified walk VX, and its contract. -/
namespace Go.VX
open Go.Proofs
open Go.RowKit (Below)
set_option linter.unusedVariables false
set_option linter.unusedSimpArgs false
set_option maxRecDepth 100000
set_option maxHeartbeats 4000000
open Go.VX.M17

theorem walk_rput2 (e old lsn tick ord st : Int) (un : Bool) (co : Int) (K D : Option Addr) (kl kc dl dc : Nat) (w : World) (Q : Bool → List Value → Int → Prop) : (∀ (g0 : Nat), Array.size w.heap ≤ g0 → g0 = g0 ∧ br (M17.mRChk 2 e old lsn tick ord st un co kl dl != 0) (Done (Q Bool.true [] (M17.mRChk 2 e old lsn tick ord st un co kl dl))) (g0 = g0 ∧ g0 = g0 ∧ ∀ (g2 : Nat), Array.size w.heap ≤ g2 → Bool.true = Bool.true ∧ g0 = g0 ∧ w = w ∧ ∀ (g4 : Nat), Array.size w.heap ≤ g4 → ∀ (g6 : Nat), Array.size w.heap ≤ g6 → Bool.true = Bool.true ∧ g4 = g4 ∧ g4 = g4 ∧ g6 = g6 ∧ (g4 = g4 ∧ [Value.int IntKind.i64 2, Value.int IntKind.u32 e, Value.int IntKind.u32 old, Value.int IntKind.u64 lsn, Value.int IntKind.u64 tick, Value.int IntKind.u32 ord, Value.int IntKind.i64 st, Value.bool un, Value.int IntKind.i64 co, Value.slice K kl kc, Value.slice D dl dc] = [Value.int IntKind.i64 2, Value.int IntKind.u32 e, Value.int IntKind.u32 old, Value.int IntKind.u64 lsn, Value.int IntKind.u64 tick, Value.int IntKind.u32 ord, Value.int IntKind.i64 st, Value.bool un, Value.int IntKind.i64 co, Value.slice K kl kc, Value.slice D dl dc] ∧ 26 = 26) ∧ g6 = (Addr.add (Addr.mk g6 0 Option.none) 0).block ∧ g6 = (Addr.add (Addr.mk g6 0 Option.none) 1).block ∧ g6 = (Addr.add (Addr.mk g6 0 Option.none) 2).block ∧ w = w ∧ w = w ∧ w = w ∧ w = w ∧ ∀ (g8 : Nat), Array.size w.heap ≤ g8 → g8 = g8 ∧ g8 = g8 ∧ ∀ (g10 : Nat), Array.size w.heap ≤ g10 → g10 = g10 ∧ (g2 = g2 ∧ 1 ≤ 1 ∧ True) ∧ ∀ (g12 g13 : Nat) (x14 : List Go.Value), g12 = g2 ∨ Array.size w.heap ≤ g12 → 2 ≤ g13 → Bool.true = Bool.true ∧ g0 = g0 ∧ w = w ∧ ∀ (g17 : Nat), Array.size w.heap ≤ g17 → ∀ (g19 : Nat), Array.size w.heap ≤ g19 → Bool.true = Bool.true ∧ g17 = g17 ∧ g17 = g17 ∧ g19 = g19 ∧ (g17 = g17 ∧ [Value.int IntKind.i64 2, Value.int IntKind.u32 e, Value.int IntKind.u32 old, Value.int IntKind.u64 lsn, Value.int IntKind.u64 tick, Value.int IntKind.u32 ord, Value.int IntKind.i64 st, Value.bool un, Value.int IntKind.i64 co, Value.slice K kl kc, Value.slice D dl dc] = [Value.int IntKind.i64 2, Value.int IntKind.u32 e, Value.int IntKind.u32 old, Value.int IntKind.u64 lsn, Value.int IntKind.u64 tick, Value.int IntKind.u32 ord, Value.int IntKind.i64 st, Value.bool un, Value.int IntKind.i64 co, Value.slice K kl kc, Value.slice D dl dc] ∧ 26 = 26) ∧ g19 = (Addr.add (Addr.mk g19 0 Option.none) 0).block ∧ g19 = (Addr.add (Addr.mk g19 0 Option.none) 1).block ∧ g19 = (Addr.add (Addr.mk g19 0 Option.none) 2).block ∧ w = w ∧ w = w ∧ w = w ∧ w = w ∧ ∀ (g21 : Nat), Array.size w.heap ≤ g21 → g21 = g21 ∧ g21 = g21 ∧ ∀ (g23 : Nat), Array.size w.heap ≤ g23 → g23 = g23 ∧ g13 = g13 ∧ (g12 = g12 ∧ 2 ≤ g13 ∧ True) ∧ ∀ (g25 g26 : Nat) (x27 : List Go.Value), g25 = g12 ∨ Array.size w.heap ≤ g25 → 3 ≤ g26 → (Int.le 0 0 ∧ Int.lt 0 3) ∧ g25 = g25 ∧ ∀ (g30 : Nat), Array.size w.heap ≤ g30 → g30 = g30 ∧ g30 = g30 ∧ g30 = g30 ∧ g30 = g30 ∧ g30 = g30 ∧ g30 = g30 ∧ ∀ (g32 g33 : Nat) (x34 : List Go.Value), Array.size w.heap ≤ g32 → 1 ≤ g33 → g32 = g32 ∧ True ∧ ∀ (g37 g38 : Nat) (x39 : List Go.Value), Array.size w.heap ≤ g37 → 1 ≤ g38 → (Int.le 0 1 ∧ Int.lt 1 3) ∧ g25 = g25 ∧ ∀ (g42 : Nat), Array.size w.heap ≤ g42 → g42 = g42 ∧ g42 = g42 ∧ g42 = g42 ∧ g42 = g42 ∧ br (Bool.false || decide (IntKind.wrap IntKind.u64 e ≥ IntKind.wrap IntKind.u64 (1 * 2 ^ Min.min (Int.toNat (IntKind.wrap IntKind.u64 (IntKind.wrap IntKind.i64 (8 * 4)))) (IntKind.bits IntKind.u64)))) (Done (Q Bool.true [] 2)) (g42 = g42 ∧ g42 = g42 ∧ ∀ (g44 g45 : Nat) (x46 : List Go.Value), Array.size w.heap ≤ g44 → 4 ≤ g45 → g44 = g44 ∧ g38 = g38 ∧ (g37 = g37 ∧ 1 ≤ g38 ∧ True) ∧ ∀ (g49 g50 : Nat) (x51 : List Go.Value), g49 = g37 ∨ Array.size w.heap ≤ g49 → 5 ≤ g50 → (Int.le 0 2 ∧ Int.lt 2 3) ∧ g25 = g25 ∧ ∀ (g54 : Nat), Array.size w.heap ≤ g54 → g54 = g54 ∧ g54 = g54 ∧ g54 = g54 ∧ ∀ (g56 g57 : Nat) (x58 : List Go.Value), Array.size w.heap ≤ g56 → 8 ≤ g57 → g56 = g56 ∧ g50 = g50 ∧ (g49 = g49 ∧ 5 ≤ g50 ∧ True) ∧ ∀ (g61 g62 : Nat) (x63 : List Go.Value), g61 = g49 ∨ Array.size w.heap ≤ g61 → 13 ≤ g62 → g62 = g62 ∧ (g61 = g61 ∧ 13 ≤ g62) ∧ Done (Q Bool.false [Value.int IntKind.u8 2, Value.int IntKind.u8 (M17.rb 3 (IntKind.wrap IntKind.u64 e)), Value.int IntKind.u8 (M17.rb 2 (IntKind.wrap IntKind.u64 e)), Value.int IntKind.u8 (M17.rb 1 (IntKind.wrap IntKind.u64 e)), Value.int IntKind.u8 (M17.rb 0 (IntKind.wrap IntKind.u64 e)), Value.int IntKind.u8 (M17.rb 7 lsn), Value.int IntKind.u8 (M17.rb 6 lsn), Value.int IntKind.u8 (M17.rb 5 lsn), Value.int IntKind.u8 (M17.rb 4 lsn), Value.int IntKind.u8 (M17.rb 3 lsn), Value.int IntKind.u8 (M17.rb 2 lsn), Value.int IntKind.u8 (M17.rb 1 lsn), Value.int IntKind.u8 (M17.rb 0 lsn)] 0)))) = codeVC (⟨TT.plain _, (fun f => Nat.beq f 36 || Nat.beq f 37 || Nat.beq f 48), noFar, true, noInv, noInv, pvrchk, spnum w⟩ : Cfg Try.prog) w 300 (Try.f17.body.getD .skip) ⟨⟨w, []⟩, mkT Try.f17.ntmps [.agg #[.int .i64 2, .int .u32 e, .int .u32 old, .int .u64 lsn, .int .u64 tick, .int .u32 ord, .int .i64 st, .bool un, .int .i64 co, .slice K kl kc, .slice D dl dc]] [[[none, none, none, none, none, none, none, none, none, some 1001, some 1001]]], []⟩ (retK Try.prog Try.f17 fun b v s h => newK h (putE 5 h v s fun z l c => Done (Q z l c))) := by
  kernel_rfl

set_option maxHeartbeats 8000000 in
theorem rput2_form (e old lsn tick ord st : Int) (un : Bool) (co : Int) (K D : Option Addr) (kc dc : Nat) (ks ds : List Int) (w : World) (BK : BytesAt w (.slice K ks.length kc) ks.length ks) (BD : BytesAt w (.slice D ds.length dc) ds.length ds) (hr : (0 ≤ e ∧ e ≤ 4294967295) ∧ (0 ≤ old ∧ old ≤ 4294967295) ∧ (0 ≤ lsn ∧ lsn ≤ 18446744073709551615) ∧ (0 ≤ tick ∧ tick ≤ 18446744073709551615) ∧ (0 ≤ ord ∧ ord ≤ 4294967295)) :
    codeVC (⟨TT.plain _, (fun f => Nat.beq f 36 || Nat.beq f 37 || Nat.beq f 48), noFar, true, noInv, noInv, pvrchk, spnum w⟩ : Cfg Try.prog) w 300 (Try.f17.body.getD .skip) ⟨⟨w, []⟩, mkT Try.f17.ntmps [.agg #[.int .i64 2, .int .u32 e, .int .u32 old, .int .u64 lsn, .int .u64 tick, .int .u32 ord, .int .i64 st, .bool un, .int .i64 co, .slice K ks.length kc, .slice D ds.length dc]] [[[none, none, none, none, none, none, none, none, none, some 1001, some 1001]]], []⟩ (retK Try.prog Try.f17 fun b v s h => newK h (putE 5 h v s fun z l c => Done (z = (!(c == 0)) ∧ l = u8s (mRPut 2 e old lsn tick ord st un co ks ds).1 ∧ c = (mRPut 2 e old lsn tick ord st un co ks ds).2))) := by
  refine (walk_rput2 e old lsn tick ord st un co K D ks.length kc ds.length dc w (fun z l c => z = (!(c == 0)) ∧ l = u8s (mRPut 2 e old lsn tick ord st un co ks ds).1 ∧ c = (mRPut 2 e old lsn tick ord st un co ks ds).2)).mp ?_
  obtain ⟨⟨e0, e1⟩, ⟨o0, o1⟩, ⟨l0, l1⟩, ⟨t0, t1⟩, ⟨d0, d1⟩⟩ := hr
  by_cases hz : mRChk 2 e old lsn tick ord st un co ks.length ds.length = 0
  · obtain ⟨_, s0, s1, c0, c1, k1, x1⟩ := rchk_rg hz
    have hm : mRPut 2 e old lsn tick ord st un co ks ds = (be1n 2 ++ prts e old lsn tick ord st un co ks ds [69, 76], 0) := by unfold mRPut; rw [hz]; rfl
    have we : IntKind.u64.wrap e = e := by rw [w64]; omega
    have wo : IntKind.u64.wrap old = old := by rw [w64]; omega
    have wd : IntKind.u64.wrap ord = ord := by rw [w64]; omega
    have ws : IntKind.u64.wrap st = st := by rw [w64]; omega
    have wc : IntKind.u64.wrap co = co := by rw [w64]; omega
    have re := fun k => rb_eq (n := e) e0 (by omega) k
    have ro := fun k => rb_eq (n := old) o0 (by omega) k
    have rl := fun k => rb_eq (n := lsn) l0 (by omega) k
    have rt := fun k => rb_eq (n := tick) t0 (by omega) k
    have rd := fun k => rb_eq (n := ord) d0 (by omega) k
    have rs := fun k => rb_eq (n := st) s0 (by omega) k
    have rc := fun k => rb_eq (n := co) c0 (by omega) k
    have rk : rb 0 (IntKind.u64.wrap 2) = 2 := by decide
    have r0 : rb 0 0 = 0 := by decide
    have r1 : rb 0 1 = 1 := by decide
    rw [hz, hm]
    clear hz hm
    repeat' (first | refine And.intro rfl ?_ | refine And.intro ?_ ?_ | apply br_intro | (refine tkI (by first | rfl | exact sz5) (by simp [u8s]; try omega) ?_) | (refine tkD (by first | rfl | exact sz5) (by simp [u8s]; try omega) ?_) | (refine tkL (by simp [u8s]; try omega) ?_) | (refine ⟨_, BK.far (h := []) rfl, ?_⟩) | (refine ⟨_, BD.far (h := []) rfl, ?_⟩) | intro _)
    all_goals try first | rfl | exact trivial | assumption | (show (_ : Int) ≤ _; decide) | (show (_ : Int) < _; decide) | (show (_ : Nat) ≤ _; omega) | exact all_flat _ | (simp [u8s, flat]; done) | (simp [u8s]; omega)
    all_goals first
      | (refine Done.mk ⟨rfl, ?_, rfl⟩; simp [u8s, we, wo, wd, ws, wc, re, ro, rl, rt, rd, rs, rc, rk, r0, r1, prts, prt, be1n, be4n, be8n, *]; done)
      | (refine Done.mk ⟨rfl, ?_, rfl⟩; simp [u8s, we, wo, wd, ws, wc, re, ro, rl, rt, rd, rs, rc, rk, r0, r1, prts, prt, be1n, be4n, be8n, *]; (try rw [IntKind.wrap]); simp [IntKind.wrap, IntKind.signed, IntKind.bits]; omega)
      | (exfalso; rename_i hq; simp at hq; done)
      | (exfalso; rename_i hq; simp at hq; omega)
      | (exfalso; rename_i hq; simp [IntKind.wrap, IntKind.bits, IntKind.signed] at hq; omega)
  · have hz' : mRChk 2 e old lsn tick ord st un co ks.length ds.length = 50 := (rchk_01 _ _ _ _ _ _ _ _ _ _ _).resolve_right hz
    have hm : mRPut 2 e old lsn tick ord st un co ks ds = ([], 50) := by unfold mRPut; rw [hz']; rfl
    rw [hz', hm]
    intro g0 hg0
    exact ⟨rfl, br_intro (fun _ => ⟨rfl, rfl, rfl⟩) (fun h => absurd h (by decide))⟩

end Go.VX

/- The walk of function 17 (rput3), told by the verified walk VX, and its contract. -/
namespace Go.VX
open Go.Proofs
open Go.RowKit (Below)
set_option linter.unusedVariables false
set_option linter.unusedSimpArgs false
set_option maxRecDepth 100000
set_option maxHeartbeats 4000000
open Go.VX.M17

theorem walk_rput3 (e old lsn tick ord st : Int) (un : Bool) (co : Int) (K D : Option Addr) (kl kc dl dc : Nat) (w : World) (Q : Bool → List Value → Int → Prop) : (∀ (g0 : Nat), Array.size w.heap ≤ g0 → g0 = g0 ∧ br (M17.mRChk 3 e old lsn tick ord st un co kl dl != 0) (Done (Q Bool.true [] (M17.mRChk 3 e old lsn tick ord st un co kl dl))) (g0 = g0 ∧ g0 = g0 ∧ ∀ (g2 : Nat), Array.size w.heap ≤ g2 → Bool.true = Bool.true ∧ g0 = g0 ∧ w = w ∧ ∀ (g4 : Nat), Array.size w.heap ≤ g4 → ∀ (g6 : Nat), Array.size w.heap ≤ g6 → Bool.true = Bool.true ∧ g4 = g4 ∧ g4 = g4 ∧ g6 = g6 ∧ (g4 = g4 ∧ [Value.int IntKind.i64 3, Value.int IntKind.u32 e, Value.int IntKind.u32 old, Value.int IntKind.u64 lsn, Value.int IntKind.u64 tick, Value.int IntKind.u32 ord, Value.int IntKind.i64 st, Value.bool un, Value.int IntKind.i64 co, Value.slice K kl kc, Value.slice D dl dc] = [Value.int IntKind.i64 3, Value.int IntKind.u32 e, Value.int IntKind.u32 old, Value.int IntKind.u64 lsn, Value.int IntKind.u64 tick, Value.int IntKind.u32 ord, Value.int IntKind.i64 st, Value.bool un, Value.int IntKind.i64 co, Value.slice K kl kc, Value.slice D dl dc] ∧ 26 = 26) ∧ g6 = (Addr.add (Addr.mk g6 0 Option.none) 0).block ∧ g6 = (Addr.add (Addr.mk g6 0 Option.none) 1).block ∧ g6 = (Addr.add (Addr.mk g6 0 Option.none) 2).block ∧ w = w ∧ w = w ∧ w = w ∧ w = w ∧ ∀ (g8 : Nat), Array.size w.heap ≤ g8 → g8 = g8 ∧ g8 = g8 ∧ ∀ (g10 : Nat), Array.size w.heap ≤ g10 → g10 = g10 ∧ (g2 = g2 ∧ 1 ≤ 1 ∧ True) ∧ ∀ (g12 g13 : Nat) (x14 : List Go.Value), g12 = g2 ∨ Array.size w.heap ≤ g12 → 2 ≤ g13 → Bool.true = Bool.true ∧ g0 = g0 ∧ w = w ∧ ∀ (g17 : Nat), Array.size w.heap ≤ g17 → ∀ (g19 : Nat), Array.size w.heap ≤ g19 → Bool.true = Bool.true ∧ g17 = g17 ∧ g17 = g17 ∧ g19 = g19 ∧ (g17 = g17 ∧ [Value.int IntKind.i64 3, Value.int IntKind.u32 e, Value.int IntKind.u32 old, Value.int IntKind.u64 lsn, Value.int IntKind.u64 tick, Value.int IntKind.u32 ord, Value.int IntKind.i64 st, Value.bool un, Value.int IntKind.i64 co, Value.slice K kl kc, Value.slice D dl dc] = [Value.int IntKind.i64 3, Value.int IntKind.u32 e, Value.int IntKind.u32 old, Value.int IntKind.u64 lsn, Value.int IntKind.u64 tick, Value.int IntKind.u32 ord, Value.int IntKind.i64 st, Value.bool un, Value.int IntKind.i64 co, Value.slice K kl kc, Value.slice D dl dc] ∧ 26 = 26) ∧ g19 = (Addr.add (Addr.mk g19 0 Option.none) 0).block ∧ g19 = (Addr.add (Addr.mk g19 0 Option.none) 1).block ∧ g19 = (Addr.add (Addr.mk g19 0 Option.none) 2).block ∧ w = w ∧ w = w ∧ w = w ∧ w = w ∧ ∀ (g21 : Nat), Array.size w.heap ≤ g21 → g21 = g21 ∧ g21 = g21 ∧ ∀ (g23 : Nat), Array.size w.heap ≤ g23 → g23 = g23 ∧ g13 = g13 ∧ (g12 = g12 ∧ 2 ≤ g13 ∧ True) ∧ ∀ (g25 g26 : Nat) (x27 : List Go.Value), g25 = g12 ∨ Array.size w.heap ≤ g25 → 3 ≤ g26 → (Int.le 0 0 ∧ Int.lt 0 3) ∧ g25 = g25 ∧ ∀ (g30 : Nat), Array.size w.heap ≤ g30 → g30 = g30 ∧ g30 = g30 ∧ g30 = g30 ∧ g30 = g30 ∧ g30 = g30 ∧ g30 = g30 ∧ ∀ (g32 g33 : Nat) (x34 : List Go.Value), Array.size w.heap ≤ g32 → 1 ≤ g33 → g32 = g32 ∧ True ∧ ∀ (g37 g38 : Nat) (x39 : List Go.Value), Array.size w.heap ≤ g37 → 1 ≤ g38 → (Int.le 0 1 ∧ Int.lt 1 3) ∧ g25 = g25 ∧ ∀ (g42 : Nat), Array.size w.heap ≤ g42 → g42 = g42 ∧ g42 = g42 ∧ g42 = g42 ∧ g42 = g42 ∧ br (Bool.false || decide (IntKind.wrap IntKind.u64 e ≥ IntKind.wrap IntKind.u64 (1 * 2 ^ Min.min (Int.toNat (IntKind.wrap IntKind.u64 (IntKind.wrap IntKind.i64 (8 * 4)))) (IntKind.bits IntKind.u64)))) (Done (Q Bool.true [] 2)) (g42 = g42 ∧ g42 = g42 ∧ ∀ (g44 g45 : Nat) (x46 : List Go.Value), Array.size w.heap ≤ g44 → 4 ≤ g45 → g44 = g44 ∧ g38 = g38 ∧ (g37 = g37 ∧ 1 ≤ g38 ∧ True) ∧ ∀ (g49 g50 : Nat) (x51 : List Go.Value), g49 = g37 ∨ Array.size w.heap ≤ g49 → 5 ≤ g50 → (Int.le 0 2 ∧ Int.lt 2 3) ∧ g25 = g25 ∧ ∀ (g54 : Nat), Array.size w.heap ≤ g54 → g54 = g54 ∧ g54 = g54 ∧ g54 = g54 ∧ ∀ (g56 g57 : Nat) (x58 : List Go.Value), Array.size w.heap ≤ g56 → 8 ≤ g57 → g56 = g56 ∧ g50 = g50 ∧ (g49 = g49 ∧ 5 ≤ g50 ∧ True) ∧ ∀ (g61 g62 : Nat) (x63 : List Go.Value), g61 = g49 ∨ Array.size w.heap ≤ g61 → 13 ≤ g62 → g62 = g62 ∧ (g61 = g61 ∧ 13 ≤ g62) ∧ Done (Q Bool.false [Value.int IntKind.u8 3, Value.int IntKind.u8 (M17.rb 3 (IntKind.wrap IntKind.u64 e)), Value.int IntKind.u8 (M17.rb 2 (IntKind.wrap IntKind.u64 e)), Value.int IntKind.u8 (M17.rb 1 (IntKind.wrap IntKind.u64 e)), Value.int IntKind.u8 (M17.rb 0 (IntKind.wrap IntKind.u64 e)), Value.int IntKind.u8 (M17.rb 7 lsn), Value.int IntKind.u8 (M17.rb 6 lsn), Value.int IntKind.u8 (M17.rb 5 lsn), Value.int IntKind.u8 (M17.rb 4 lsn), Value.int IntKind.u8 (M17.rb 3 lsn), Value.int IntKind.u8 (M17.rb 2 lsn), Value.int IntKind.u8 (M17.rb 1 lsn), Value.int IntKind.u8 (M17.rb 0 lsn)] 0)))) = codeVC (⟨TT.plain _, (fun f => Nat.beq f 36 || Nat.beq f 37 || Nat.beq f 48), noFar, true, noInv, noInv, pvrchk, spnum w⟩ : Cfg Try.prog) w 300 (Try.f17.body.getD .skip) ⟨⟨w, []⟩, mkT Try.f17.ntmps [.agg #[.int .i64 3, .int .u32 e, .int .u32 old, .int .u64 lsn, .int .u64 tick, .int .u32 ord, .int .i64 st, .bool un, .int .i64 co, .slice K kl kc, .slice D dl dc]] [[[none, none, none, none, none, none, none, none, none, some 1001, some 1001]]], []⟩ (retK Try.prog Try.f17 fun b v s h => newK h (putE 5 h v s fun z l c => Done (Q z l c))) := by
  kernel_rfl

set_option maxHeartbeats 8000000 in
theorem rput3_form (e old lsn tick ord st : Int) (un : Bool) (co : Int) (K D : Option Addr) (kc dc : Nat) (ks ds : List Int) (w : World) (BK : BytesAt w (.slice K ks.length kc) ks.length ks) (BD : BytesAt w (.slice D ds.length dc) ds.length ds) (hr : (0 ≤ e ∧ e ≤ 4294967295) ∧ (0 ≤ old ∧ old ≤ 4294967295) ∧ (0 ≤ lsn ∧ lsn ≤ 18446744073709551615) ∧ (0 ≤ tick ∧ tick ≤ 18446744073709551615) ∧ (0 ≤ ord ∧ ord ≤ 4294967295)) :
    codeVC (⟨TT.plain _, (fun f => Nat.beq f 36 || Nat.beq f 37 || Nat.beq f 48), noFar, true, noInv, noInv, pvrchk, spnum w⟩ : Cfg Try.prog) w 300 (Try.f17.body.getD .skip) ⟨⟨w, []⟩, mkT Try.f17.ntmps [.agg #[.int .i64 3, .int .u32 e, .int .u32 old, .int .u64 lsn, .int .u64 tick, .int .u32 ord, .int .i64 st, .bool un, .int .i64 co, .slice K ks.length kc, .slice D ds.length dc]] [[[none, none, none, none, none, none, none, none, none, some 1001, some 1001]]], []⟩ (retK Try.prog Try.f17 fun b v s h => newK h (putE 5 h v s fun z l c => Done (z = (!(c == 0)) ∧ l = u8s (mRPut 3 e old lsn tick ord st un co ks ds).1 ∧ c = (mRPut 3 e old lsn tick ord st un co ks ds).2))) := by
  refine (walk_rput3 e old lsn tick ord st un co K D ks.length kc ds.length dc w (fun z l c => z = (!(c == 0)) ∧ l = u8s (mRPut 3 e old lsn tick ord st un co ks ds).1 ∧ c = (mRPut 3 e old lsn tick ord st un co ks ds).2)).mp ?_
  obtain ⟨⟨e0, e1⟩, ⟨o0, o1⟩, ⟨l0, l1⟩, ⟨t0, t1⟩, ⟨d0, d1⟩⟩ := hr
  by_cases hz : mRChk 3 e old lsn tick ord st un co ks.length ds.length = 0
  · obtain ⟨_, s0, s1, c0, c1, k1, x1⟩ := rchk_rg hz
    have hm : mRPut 3 e old lsn tick ord st un co ks ds = (be1n 3 ++ prts e old lsn tick ord st un co ks ds [69, 76], 0) := by unfold mRPut; rw [hz]; rfl
    have we : IntKind.u64.wrap e = e := by rw [w64]; omega
    have wo : IntKind.u64.wrap old = old := by rw [w64]; omega
    have wd : IntKind.u64.wrap ord = ord := by rw [w64]; omega
    have ws : IntKind.u64.wrap st = st := by rw [w64]; omega
    have wc : IntKind.u64.wrap co = co := by rw [w64]; omega
    have re := fun k => rb_eq (n := e) e0 (by omega) k
    have ro := fun k => rb_eq (n := old) o0 (by omega) k
    have rl := fun k => rb_eq (n := lsn) l0 (by omega) k
    have rt := fun k => rb_eq (n := tick) t0 (by omega) k
    have rd := fun k => rb_eq (n := ord) d0 (by omega) k
    have rs := fun k => rb_eq (n := st) s0 (by omega) k
    have rc := fun k => rb_eq (n := co) c0 (by omega) k
    have rk : rb 0 (IntKind.u64.wrap 3) = 3 := by decide
    have r0 : rb 0 0 = 0 := by decide
    have r1 : rb 0 1 = 1 := by decide
    rw [hz, hm]
    clear hz hm
    repeat' (first | refine And.intro rfl ?_ | refine And.intro ?_ ?_ | apply br_intro | (refine tkI (by first | rfl | exact sz5) (by simp [u8s]; try omega) ?_) | (refine tkD (by first | rfl | exact sz5) (by simp [u8s]; try omega) ?_) | (refine tkL (by simp [u8s]; try omega) ?_) | (refine ⟨_, BK.far (h := []) rfl, ?_⟩) | (refine ⟨_, BD.far (h := []) rfl, ?_⟩) | intro _)
    all_goals try first | rfl | exact trivial | assumption | (show (_ : Int) ≤ _; decide) | (show (_ : Int) < _; decide) | (show (_ : Nat) ≤ _; omega) | exact all_flat _ | (simp [u8s, flat]; done) | (simp [u8s]; omega)
    all_goals first
      | (refine Done.mk ⟨rfl, ?_, rfl⟩; simp [u8s, we, wo, wd, ws, wc, re, ro, rl, rt, rd, rs, rc, rk, r0, r1, prts, prt, be1n, be4n, be8n, *]; done)
      | (refine Done.mk ⟨rfl, ?_, rfl⟩; simp [u8s, we, wo, wd, ws, wc, re, ro, rl, rt, rd, rs, rc, rk, r0, r1, prts, prt, be1n, be4n, be8n, *]; (try rw [IntKind.wrap]); simp [IntKind.wrap, IntKind.signed, IntKind.bits]; omega)
      | (exfalso; rename_i hq; simp at hq; done)
      | (exfalso; rename_i hq; simp at hq; omega)
      | (exfalso; rename_i hq; simp [IntKind.wrap, IntKind.bits, IntKind.signed] at hq; omega)
  · have hz' : mRChk 3 e old lsn tick ord st un co ks.length ds.length = 50 := (rchk_01 _ _ _ _ _ _ _ _ _ _ _).resolve_right hz
    have hm : mRPut 3 e old lsn tick ord st un co ks ds = ([], 50) := by unfold mRPut; rw [hz']; rfl
    rw [hz', hm]
    intro g0 hg0
    exact ⟨rfl, br_intro (fun _ => ⟨rfl, rfl, rfl⟩) (fun h => absurd h (by decide))⟩

end Go.VX

/- The walk of function 17 (rput4), told by the verified walk VX, and its contract. -/
namespace Go.VX
open Go.Proofs
open Go.RowKit (Below)
set_option linter.unusedVariables false
set_option linter.unusedSimpArgs false
set_option maxRecDepth 100000
set_option maxHeartbeats 4000000
open Go.VX.M17

theorem walk_rput4 (e old lsn tick ord st : Int) (un : Bool) (co : Int) (K D : Option Addr) (kl kc dl dc : Nat) (w : World) (Q : Bool → List Value → Int → Prop) : (∀ (g0 : Nat), Array.size w.heap ≤ g0 → g0 = g0 ∧ br (M17.mRChk 4 e old lsn tick ord st un co kl dl != 0) (Done (Q Bool.true [] (M17.mRChk 4 e old lsn tick ord st un co kl dl))) (g0 = g0 ∧ g0 = g0 ∧ ∀ (g2 : Nat), Array.size w.heap ≤ g2 → Bool.true = Bool.true ∧ g0 = g0 ∧ w = w ∧ ∀ (g4 : Nat), Array.size w.heap ≤ g4 → ∀ (g6 : Nat), Array.size w.heap ≤ g6 → Bool.true = Bool.true ∧ g4 = g4 ∧ g4 = g4 ∧ g6 = g6 ∧ (g4 = g4 ∧ [Value.int IntKind.i64 4, Value.int IntKind.u32 e, Value.int IntKind.u32 old, Value.int IntKind.u64 lsn, Value.int IntKind.u64 tick, Value.int IntKind.u32 ord, Value.int IntKind.i64 st, Value.bool un, Value.int IntKind.i64 co, Value.slice K kl kc, Value.slice D dl dc] = [Value.int IntKind.i64 4, Value.int IntKind.u32 e, Value.int IntKind.u32 old, Value.int IntKind.u64 lsn, Value.int IntKind.u64 tick, Value.int IntKind.u32 ord, Value.int IntKind.i64 st, Value.bool un, Value.int IntKind.i64 co, Value.slice K kl kc, Value.slice D dl dc] ∧ 26 = 26) ∧ g6 = (Addr.add (Addr.mk g6 0 Option.none) 0).block ∧ g6 = (Addr.add (Addr.mk g6 0 Option.none) 1).block ∧ g6 = (Addr.add (Addr.mk g6 0 Option.none) 2).block ∧ w = w ∧ w = w ∧ w = w ∧ w = w ∧ ∀ (g8 : Nat), Array.size w.heap ≤ g8 → g8 = g8 ∧ g8 = g8 ∧ ∀ (g10 : Nat), Array.size w.heap ≤ g10 → g10 = g10 ∧ (g2 = g2 ∧ 1 ≤ 1 ∧ True) ∧ ∀ (g12 g13 : Nat) (x14 : List Go.Value), g12 = g2 ∨ Array.size w.heap ≤ g12 → 2 ≤ g13 → Bool.true = Bool.true ∧ g0 = g0 ∧ w = w ∧ ∀ (g17 : Nat), Array.size w.heap ≤ g17 → ∀ (g19 : Nat), Array.size w.heap ≤ g19 → Bool.true = Bool.true ∧ g17 = g17 ∧ g17 = g17 ∧ g19 = g19 ∧ (g17 = g17 ∧ [Value.int IntKind.i64 4, Value.int IntKind.u32 e, Value.int IntKind.u32 old, Value.int IntKind.u64 lsn, Value.int IntKind.u64 tick, Value.int IntKind.u32 ord, Value.int IntKind.i64 st, Value.bool un, Value.int IntKind.i64 co, Value.slice K kl kc, Value.slice D dl dc] = [Value.int IntKind.i64 4, Value.int IntKind.u32 e, Value.int IntKind.u32 old, Value.int IntKind.u64 lsn, Value.int IntKind.u64 tick, Value.int IntKind.u32 ord, Value.int IntKind.i64 st, Value.bool un, Value.int IntKind.i64 co, Value.slice K kl kc, Value.slice D dl dc] ∧ 26 = 26) ∧ g19 = (Addr.add (Addr.mk g19 0 Option.none) 0).block ∧ g19 = (Addr.add (Addr.mk g19 0 Option.none) 1).block ∧ g19 = (Addr.add (Addr.mk g19 0 Option.none) 2).block ∧ w = w ∧ w = w ∧ w = w ∧ w = w ∧ ∀ (g21 : Nat), Array.size w.heap ≤ g21 → g21 = g21 ∧ g21 = g21 ∧ ∀ (g23 : Nat), Array.size w.heap ≤ g23 → g23 = g23 ∧ g13 = g13 ∧ (g12 = g12 ∧ 2 ≤ g13 ∧ True) ∧ ∀ (g25 g26 : Nat) (x27 : List Go.Value), g25 = g12 ∨ Array.size w.heap ≤ g25 → 3 ≤ g26 → (Int.le 0 0 ∧ Int.lt 0 3) ∧ g25 = g25 ∧ ∀ (g30 : Nat), Array.size w.heap ≤ g30 → g30 = g30 ∧ g30 = g30 ∧ g30 = g30 ∧ g30 = g30 ∧ g30 = g30 ∧ g30 = g30 ∧ ∀ (g32 g33 : Nat) (x34 : List Go.Value), Array.size w.heap ≤ g32 → 1 ≤ g33 → g32 = g32 ∧ True ∧ ∀ (g37 g38 : Nat) (x39 : List Go.Value), Array.size w.heap ≤ g37 → 1 ≤ g38 → (Int.le 0 1 ∧ Int.lt 1 3) ∧ g25 = g25 ∧ ∀ (g42 : Nat), Array.size w.heap ≤ g42 → g42 = g42 ∧ g42 = g42 ∧ g42 = g42 ∧ g42 = g42 ∧ br (Bool.false || decide (IntKind.wrap IntKind.u64 e ≥ IntKind.wrap IntKind.u64 (1 * 2 ^ Min.min (Int.toNat (IntKind.wrap IntKind.u64 (IntKind.wrap IntKind.i64 (8 * 4)))) (IntKind.bits IntKind.u64)))) (Done (Q Bool.true [] 2)) (g42 = g42 ∧ g42 = g42 ∧ ∀ (g44 g45 : Nat) (x46 : List Go.Value), Array.size w.heap ≤ g44 → 4 ≤ g45 → g44 = g44 ∧ g38 = g38 ∧ (g37 = g37 ∧ 1 ≤ g38 ∧ True) ∧ ∀ (g49 g50 : Nat) (x51 : List Go.Value), g49 = g37 ∨ Array.size w.heap ≤ g49 → 5 ≤ g50 → (Int.le 0 2 ∧ Int.lt 2 3) ∧ g25 = g25 ∧ ∀ (g54 : Nat), Array.size w.heap ≤ g54 → g54 = g54 ∧ g54 = g54 ∧ g54 = g54 ∧ g54 = g54 ∧ br (Bool.false || decide (IntKind.wrap IntKind.u64 co ≥ IntKind.wrap IntKind.u64 (1 * 2 ^ Min.min (Int.toNat (IntKind.wrap IntKind.u64 (IntKind.wrap IntKind.i64 (8 * 1)))) (IntKind.bits IntKind.u64)))) (Done (Q Bool.true [] 2)) (g54 = g54 ∧ g54 = g54 ∧ ∀ (g56 g57 : Nat) (x58 : List Go.Value), Array.size w.heap ≤ g56 → 1 ≤ g57 → g56 = g56 ∧ g50 = g50 ∧ (g49 = g49 ∧ 5 ≤ g50 ∧ True) ∧ ∀ (g61 g62 : Nat) (x63 : List Go.Value), g61 = g49 ∨ Array.size w.heap ≤ g61 → 6 ≤ g62 → g62 = g62 ∧ (g61 = g61 ∧ 6 ≤ g62) ∧ Done (Q Bool.false [Value.int IntKind.u8 4, Value.int IntKind.u8 (M17.rb 3 (IntKind.wrap IntKind.u64 e)), Value.int IntKind.u8 (M17.rb 2 (IntKind.wrap IntKind.u64 e)), Value.int IntKind.u8 (M17.rb 1 (IntKind.wrap IntKind.u64 e)), Value.int IntKind.u8 (M17.rb 0 (IntKind.wrap IntKind.u64 e)), Value.int IntKind.u8 (M17.rb 0 (IntKind.wrap IntKind.u64 co))] 0))))) = codeVC (⟨TT.plain _, (fun f => Nat.beq f 36 || Nat.beq f 37 || Nat.beq f 48), noFar, true, noInv, noInv, pvrchk, spnum w⟩ : Cfg Try.prog) w 300 (Try.f17.body.getD .skip) ⟨⟨w, []⟩, mkT Try.f17.ntmps [.agg #[.int .i64 4, .int .u32 e, .int .u32 old, .int .u64 lsn, .int .u64 tick, .int .u32 ord, .int .i64 st, .bool un, .int .i64 co, .slice K kl kc, .slice D dl dc]] [[[none, none, none, none, none, none, none, none, none, some 1001, some 1001]]], []⟩ (retK Try.prog Try.f17 fun b v s h => newK h (putE 5 h v s fun z l c => Done (Q z l c))) := by
  kernel_rfl

set_option maxHeartbeats 8000000 in
theorem rput4_form (e old lsn tick ord st : Int) (un : Bool) (co : Int) (K D : Option Addr) (kc dc : Nat) (ks ds : List Int) (w : World) (BK : BytesAt w (.slice K ks.length kc) ks.length ks) (BD : BytesAt w (.slice D ds.length dc) ds.length ds) (hr : (0 ≤ e ∧ e ≤ 4294967295) ∧ (0 ≤ old ∧ old ≤ 4294967295) ∧ (0 ≤ lsn ∧ lsn ≤ 18446744073709551615) ∧ (0 ≤ tick ∧ tick ≤ 18446744073709551615) ∧ (0 ≤ ord ∧ ord ≤ 4294967295)) :
    codeVC (⟨TT.plain _, (fun f => Nat.beq f 36 || Nat.beq f 37 || Nat.beq f 48), noFar, true, noInv, noInv, pvrchk, spnum w⟩ : Cfg Try.prog) w 300 (Try.f17.body.getD .skip) ⟨⟨w, []⟩, mkT Try.f17.ntmps [.agg #[.int .i64 4, .int .u32 e, .int .u32 old, .int .u64 lsn, .int .u64 tick, .int .u32 ord, .int .i64 st, .bool un, .int .i64 co, .slice K ks.length kc, .slice D ds.length dc]] [[[none, none, none, none, none, none, none, none, none, some 1001, some 1001]]], []⟩ (retK Try.prog Try.f17 fun b v s h => newK h (putE 5 h v s fun z l c => Done (z = (!(c == 0)) ∧ l = u8s (mRPut 4 e old lsn tick ord st un co ks ds).1 ∧ c = (mRPut 4 e old lsn tick ord st un co ks ds).2))) := by
  refine (walk_rput4 e old lsn tick ord st un co K D ks.length kc ds.length dc w (fun z l c => z = (!(c == 0)) ∧ l = u8s (mRPut 4 e old lsn tick ord st un co ks ds).1 ∧ c = (mRPut 4 e old lsn tick ord st un co ks ds).2)).mp ?_
  obtain ⟨⟨e0, e1⟩, ⟨o0, o1⟩, ⟨l0, l1⟩, ⟨t0, t1⟩, ⟨d0, d1⟩⟩ := hr
  by_cases hz : mRChk 4 e old lsn tick ord st un co ks.length ds.length = 0
  · obtain ⟨_, s0, s1, c0, c1, k1, x1⟩ := rchk_rg hz
    have hm : mRPut 4 e old lsn tick ord st un co ks ds = (be1n 4 ++ prts e old lsn tick ord st un co ks ds [69, 67], 0) := by unfold mRPut; rw [hz]; rfl
    have we : IntKind.u64.wrap e = e := by rw [w64]; omega
    have wo : IntKind.u64.wrap old = old := by rw [w64]; omega
    have wd : IntKind.u64.wrap ord = ord := by rw [w64]; omega
    have ws : IntKind.u64.wrap st = st := by rw [w64]; omega
    have wc : IntKind.u64.wrap co = co := by rw [w64]; omega
    have re := fun k => rb_eq (n := e) e0 (by omega) k
    have ro := fun k => rb_eq (n := old) o0 (by omega) k
    have rl := fun k => rb_eq (n := lsn) l0 (by omega) k
    have rt := fun k => rb_eq (n := tick) t0 (by omega) k
    have rd := fun k => rb_eq (n := ord) d0 (by omega) k
    have rs := fun k => rb_eq (n := st) s0 (by omega) k
    have rc := fun k => rb_eq (n := co) c0 (by omega) k
    have rk : rb 0 (IntKind.u64.wrap 4) = 4 := by decide
    have r0 : rb 0 0 = 0 := by decide
    have r1 : rb 0 1 = 1 := by decide
    rw [hz, hm]
    clear hz hm
    repeat' (first | refine And.intro rfl ?_ | refine And.intro ?_ ?_ | apply br_intro | (refine tkI (by first | rfl | exact sz5) (by simp [u8s]; try omega) ?_) | (refine tkD (by first | rfl | exact sz5) (by simp [u8s]; try omega) ?_) | (refine tkL (by simp [u8s]; try omega) ?_) | (refine ⟨_, BK.far (h := []) rfl, ?_⟩) | (refine ⟨_, BD.far (h := []) rfl, ?_⟩) | intro _)
    all_goals try first | rfl | exact trivial | assumption | (show (_ : Int) ≤ _; decide) | (show (_ : Int) < _; decide) | (show (_ : Nat) ≤ _; omega) | exact all_flat _ | (simp [u8s, flat]; done) | (simp [u8s]; omega)
    all_goals first
      | (refine Done.mk ⟨rfl, ?_, rfl⟩; simp [u8s, we, wo, wd, ws, wc, re, ro, rl, rt, rd, rs, rc, rk, r0, r1, prts, prt, be1n, be4n, be8n, *]; done)
      | (refine Done.mk ⟨rfl, ?_, rfl⟩; simp [u8s, we, wo, wd, ws, wc, re, ro, rl, rt, rd, rs, rc, rk, r0, r1, prts, prt, be1n, be4n, be8n, *]; (try rw [IntKind.wrap]); simp [IntKind.wrap, IntKind.signed, IntKind.bits]; omega)
      | (exfalso; rename_i hq; simp at hq; done)
      | (exfalso; rename_i hq; simp at hq; omega)
      | (exfalso; rename_i hq; simp [IntKind.wrap, IntKind.bits, IntKind.signed] at hq; omega)
  · have hz' : mRChk 4 e old lsn tick ord st un co ks.length ds.length = 50 := (rchk_01 _ _ _ _ _ _ _ _ _ _ _).resolve_right hz
    have hm : mRPut 4 e old lsn tick ord st un co ks ds = ([], 50) := by unfold mRPut; rw [hz']; rfl
    rw [hz', hm]
    intro g0 hg0
    exact ⟨rfl, br_intro (fun _ => ⟨rfl, rfl, rfl⟩) (fun h => absurd h (by decide))⟩

end Go.VX

/- The walk of function 17 (rput5), told by the verified walk VX, and its contract. -/
namespace Go.VX
open Go.Proofs
open Go.RowKit (Below)
set_option linter.unusedVariables false
set_option linter.unusedSimpArgs false
set_option maxRecDepth 100000
set_option maxHeartbeats 4000000
open Go.VX.M17

theorem walk_rput5 (e old lsn tick ord st : Int) (un : Bool) (co : Int) (K D : Option Addr) (kl kc dl dc : Nat) (w : World) (Q : Bool → List Value → Int → Prop) : (∀ (g0 : Nat), Array.size w.heap ≤ g0 → g0 = g0 ∧ br (M17.mRChk 5 e old lsn tick ord st un co kl dl != 0) (Done (Q Bool.true [] (M17.mRChk 5 e old lsn tick ord st un co kl dl))) (g0 = g0 ∧ g0 = g0 ∧ ∀ (g2 : Nat), Array.size w.heap ≤ g2 → Bool.true = Bool.true ∧ g0 = g0 ∧ w = w ∧ ∀ (g4 : Nat), Array.size w.heap ≤ g4 → ∀ (g6 : Nat), Array.size w.heap ≤ g6 → Bool.true = Bool.true ∧ g4 = g4 ∧ g4 = g4 ∧ g6 = g6 ∧ (g4 = g4 ∧ [Value.int IntKind.i64 5, Value.int IntKind.u32 e, Value.int IntKind.u32 old, Value.int IntKind.u64 lsn, Value.int IntKind.u64 tick, Value.int IntKind.u32 ord, Value.int IntKind.i64 st, Value.bool un, Value.int IntKind.i64 co, Value.slice K kl kc, Value.slice D dl dc] = [Value.int IntKind.i64 5, Value.int IntKind.u32 e, Value.int IntKind.u32 old, Value.int IntKind.u64 lsn, Value.int IntKind.u64 tick, Value.int IntKind.u32 ord, Value.int IntKind.i64 st, Value.bool un, Value.int IntKind.i64 co, Value.slice K kl kc, Value.slice D dl dc] ∧ 26 = 26) ∧ g6 = (Addr.add (Addr.mk g6 0 Option.none) 0).block ∧ g6 = (Addr.add (Addr.mk g6 0 Option.none) 1).block ∧ g6 = (Addr.add (Addr.mk g6 0 Option.none) 2).block ∧ w = w ∧ w = w ∧ w = w ∧ w = w ∧ ∀ (g8 : Nat), Array.size w.heap ≤ g8 → g8 = g8 ∧ g8 = g8 ∧ ∀ (g10 : Nat), Array.size w.heap ≤ g10 → g10 = g10 ∧ (g2 = g2 ∧ 1 ≤ 1 ∧ True) ∧ ∀ (g12 g13 : Nat) (x14 : List Go.Value), g12 = g2 ∨ Array.size w.heap ≤ g12 → 2 ≤ g13 → Bool.true = Bool.true ∧ g0 = g0 ∧ w = w ∧ ∀ (g17 : Nat), Array.size w.heap ≤ g17 → ∀ (g19 : Nat), Array.size w.heap ≤ g19 → Bool.true = Bool.true ∧ g17 = g17 ∧ g17 = g17 ∧ g19 = g19 ∧ (g17 = g17 ∧ [Value.int IntKind.i64 5, Value.int IntKind.u32 e, Value.int IntKind.u32 old, Value.int IntKind.u64 lsn, Value.int IntKind.u64 tick, Value.int IntKind.u32 ord, Value.int IntKind.i64 st, Value.bool un, Value.int IntKind.i64 co, Value.slice K kl kc, Value.slice D dl dc] = [Value.int IntKind.i64 5, Value.int IntKind.u32 e, Value.int IntKind.u32 old, Value.int IntKind.u64 lsn, Value.int IntKind.u64 tick, Value.int IntKind.u32 ord, Value.int IntKind.i64 st, Value.bool un, Value.int IntKind.i64 co, Value.slice K kl kc, Value.slice D dl dc] ∧ 26 = 26) ∧ g19 = (Addr.add (Addr.mk g19 0 Option.none) 0).block ∧ g19 = (Addr.add (Addr.mk g19 0 Option.none) 1).block ∧ g19 = (Addr.add (Addr.mk g19 0 Option.none) 2).block ∧ w = w ∧ w = w ∧ w = w ∧ w = w ∧ ∀ (g21 : Nat), Array.size w.heap ≤ g21 → g21 = g21 ∧ g21 = g21 ∧ ∀ (g23 : Nat), Array.size w.heap ≤ g23 → g23 = g23 ∧ g13 = g13 ∧ (g12 = g12 ∧ 2 ≤ g13 ∧ True) ∧ ∀ (g25 g26 : Nat) (x27 : List Go.Value), g25 = g12 ∨ Array.size w.heap ≤ g25 → 3 ≤ g26 → Bool.true = Bool.true ∧ g0 = g0 ∧ w = w ∧ ∀ (g30 : Nat), Array.size w.heap ≤ g30 → ∀ (g32 : Nat), Array.size w.heap ≤ g32 → Bool.true = Bool.true ∧ g30 = g30 ∧ g30 = g30 ∧ g32 = g32 ∧ (g30 = g30 ∧ [Value.int IntKind.i64 5, Value.int IntKind.u32 e, Value.int IntKind.u32 old, Value.int IntKind.u64 lsn, Value.int IntKind.u64 tick, Value.int IntKind.u32 ord, Value.int IntKind.i64 st, Value.bool un, Value.int IntKind.i64 co, Value.slice K kl kc, Value.slice D dl dc] = [Value.int IntKind.i64 5, Value.int IntKind.u32 e, Value.int IntKind.u32 old, Value.int IntKind.u64 lsn, Value.int IntKind.u64 tick, Value.int IntKind.u32 ord, Value.int IntKind.i64 st, Value.bool un, Value.int IntKind.i64 co, Value.slice K kl kc, Value.slice D dl dc] ∧ 26 = 26) ∧ g32 = (Addr.add (Addr.mk g32 0 Option.none) 0).block ∧ g32 = (Addr.add (Addr.mk g32 0 Option.none) 1).block ∧ g32 = (Addr.add (Addr.mk g32 0 Option.none) 2).block ∧ w = w ∧ w = w ∧ w = w ∧ w = w ∧ ∀ (g34 : Nat), Array.size w.heap ≤ g34 → g34 = g34 ∧ g34 = g34 ∧ ∀ (g36 : Nat), Array.size w.heap ≤ g36 → g36 = g36 ∧ g26 = g26 ∧ (g25 = g25 ∧ 3 ≤ g26 ∧ True) ∧ ∀ (g38 g39 : Nat) (x40 : List Go.Value), g38 = g25 ∨ Array.size w.heap ≤ g38 → 4 ≤ g39 → (Int.le 0 0 ∧ Int.lt 0 4) ∧ g38 = g38 ∧ ∀ (g43 : Nat), Array.size w.heap ≤ g43 → g43 = g43 ∧ g43 = g43 ∧ g43 = g43 ∧ g43 = g43 ∧ g43 = g43 ∧ g43 = g43 ∧ ∀ (g45 g46 : Nat) (x47 : List Go.Value), Array.size w.heap ≤ g45 → 1 ≤ g46 → g45 = g45 ∧ True ∧ ∀ (g50 g51 : Nat) (x52 : List Go.Value), Array.size w.heap ≤ g50 → 1 ≤ g51 → (Int.le 0 1 ∧ Int.lt 1 4) ∧ g38 = g38 ∧ ∀ (g55 : Nat), Array.size w.heap ≤ g55 → g55 = g55 ∧ g55 = g55 ∧ g55 = g55 ∧ g55 = g55 ∧ br (Bool.false || decide (IntKind.wrap IntKind.u64 e ≥ IntKind.wrap IntKind.u64 (1 * 2 ^ Min.min (Int.toNat (IntKind.wrap IntKind.u64 (IntKind.wrap IntKind.i64 (8 * 4)))) (IntKind.bits IntKind.u64)))) (Done (Q Bool.true [] 2)) (g55 = g55 ∧ g55 = g55 ∧ ∀ (g57 g58 : Nat) (x59 : List Go.Value), Array.size w.heap ≤ g57 → 4 ≤ g58 → g57 = g57 ∧ g51 = g51 ∧ (g50 = g50 ∧ 1 ≤ g51 ∧ True) ∧ ∀ (g62 g63 : Nat) (x64 : List Go.Value), g62 = g50 ∨ Array.size w.heap ≤ g62 → 5 ≤ g63 → (Int.le 0 2 ∧ Int.lt 2 4) ∧ g38 = g38 ∧ ∀ (g67 : Nat), Array.size w.heap ≤ g67 → g67 = g67 ∧ g67 = g67 ∧ g67 = g67 ∧ ∀ (g69 g70 : Nat) (x71 : List Go.Value), Array.size w.heap ≤ g69 → 8 ≤ g70 → g69 = g69 ∧ g63 = g63 ∧ (g62 = g62 ∧ 5 ≤ g63 ∧ True) ∧ ∀ (g74 g75 : Nat) (x76 : List Go.Value), g74 = g62 ∨ Array.size w.heap ≤ g74 → 13 ≤ g75 → (Int.le 0 3 ∧ Int.lt 3 4) ∧ g38 = g38 ∧ ∀ (g79 : Nat), Array.size w.heap ≤ g79 → g79 = g79 ∧ g79 = g79 ∧ g79 = g79 ∧ g79 = g79 ∧ br (Bool.false || decide (IntKind.wrap IntKind.u64 co ≥ IntKind.wrap IntKind.u64 (1 * 2 ^ Min.min (Int.toNat (IntKind.wrap IntKind.u64 (IntKind.wrap IntKind.i64 (8 * 1)))) (IntKind.bits IntKind.u64)))) (Done (Q Bool.true [] 2)) (g79 = g79 ∧ g79 = g79 ∧ ∀ (g81 g82 : Nat) (x83 : List Go.Value), Array.size w.heap ≤ g81 → 1 ≤ g82 → g81 = g81 ∧ g75 = g75 ∧ (g74 = g74 ∧ 13 ≤ g75 ∧ True) ∧ ∀ (g86 g87 : Nat) (x88 : List Go.Value), g86 = g74 ∨ Array.size w.heap ≤ g86 → 14 ≤ g87 → g87 = g87 ∧ (g86 = g86 ∧ 14 ≤ g87) ∧ Done (Q Bool.false [Value.int IntKind.u8 5, Value.int IntKind.u8 (M17.rb 3 (IntKind.wrap IntKind.u64 e)), Value.int IntKind.u8 (M17.rb 2 (IntKind.wrap IntKind.u64 e)), Value.int IntKind.u8 (M17.rb 1 (IntKind.wrap IntKind.u64 e)), Value.int IntKind.u8 (M17.rb 0 (IntKind.wrap IntKind.u64 e)), Value.int IntKind.u8 (M17.rb 7 tick), Value.int IntKind.u8 (M17.rb 6 tick), Value.int IntKind.u8 (M17.rb 5 tick), Value.int IntKind.u8 (M17.rb 4 tick), Value.int IntKind.u8 (M17.rb 3 tick), Value.int IntKind.u8 (M17.rb 2 tick), Value.int IntKind.u8 (M17.rb 1 tick), Value.int IntKind.u8 (M17.rb 0 tick), Value.int IntKind.u8 (M17.rb 0 (IntKind.wrap IntKind.u64 co))] 0))))) = codeVC (⟨TT.plain _, (fun f => Nat.beq f 36 || Nat.beq f 37 || Nat.beq f 48), noFar, true, noInv, noInv, pvrchk, spnum w⟩ : Cfg Try.prog) w 300 (Try.f17.body.getD .skip) ⟨⟨w, []⟩, mkT Try.f17.ntmps [.agg #[.int .i64 5, .int .u32 e, .int .u32 old, .int .u64 lsn, .int .u64 tick, .int .u32 ord, .int .i64 st, .bool un, .int .i64 co, .slice K kl kc, .slice D dl dc]] [[[none, none, none, none, none, none, none, none, none, some 1001, some 1001]]], []⟩ (retK Try.prog Try.f17 fun b v s h => newK h (putE 5 h v s fun z l c => Done (Q z l c))) := by
  kernel_rfl

set_option maxHeartbeats 8000000 in
theorem rput5_form (e old lsn tick ord st : Int) (un : Bool) (co : Int) (K D : Option Addr) (kc dc : Nat) (ks ds : List Int) (w : World) (BK : BytesAt w (.slice K ks.length kc) ks.length ks) (BD : BytesAt w (.slice D ds.length dc) ds.length ds) (hr : (0 ≤ e ∧ e ≤ 4294967295) ∧ (0 ≤ old ∧ old ≤ 4294967295) ∧ (0 ≤ lsn ∧ lsn ≤ 18446744073709551615) ∧ (0 ≤ tick ∧ tick ≤ 18446744073709551615) ∧ (0 ≤ ord ∧ ord ≤ 4294967295)) :
    codeVC (⟨TT.plain _, (fun f => Nat.beq f 36 || Nat.beq f 37 || Nat.beq f 48), noFar, true, noInv, noInv, pvrchk, spnum w⟩ : Cfg Try.prog) w 300 (Try.f17.body.getD .skip) ⟨⟨w, []⟩, mkT Try.f17.ntmps [.agg #[.int .i64 5, .int .u32 e, .int .u32 old, .int .u64 lsn, .int .u64 tick, .int .u32 ord, .int .i64 st, .bool un, .int .i64 co, .slice K ks.length kc, .slice D ds.length dc]] [[[none, none, none, none, none, none, none, none, none, some 1001, some 1001]]], []⟩ (retK Try.prog Try.f17 fun b v s h => newK h (putE 5 h v s fun z l c => Done (z = (!(c == 0)) ∧ l = u8s (mRPut 5 e old lsn tick ord st un co ks ds).1 ∧ c = (mRPut 5 e old lsn tick ord st un co ks ds).2))) := by
  refine (walk_rput5 e old lsn tick ord st un co K D ks.length kc ds.length dc w (fun z l c => z = (!(c == 0)) ∧ l = u8s (mRPut 5 e old lsn tick ord st un co ks ds).1 ∧ c = (mRPut 5 e old lsn tick ord st un co ks ds).2)).mp ?_
  obtain ⟨⟨e0, e1⟩, ⟨o0, o1⟩, ⟨l0, l1⟩, ⟨t0, t1⟩, ⟨d0, d1⟩⟩ := hr
  by_cases hz : mRChk 5 e old lsn tick ord st un co ks.length ds.length = 0
  · obtain ⟨_, s0, s1, c0, c1, k1, x1⟩ := rchk_rg hz
    have hm : mRPut 5 e old lsn tick ord st un co ks ds = (be1n 5 ++ prts e old lsn tick ord st un co ks ds [69, 84, 67], 0) := by unfold mRPut; rw [hz]; rfl
    have we : IntKind.u64.wrap e = e := by rw [w64]; omega
    have wo : IntKind.u64.wrap old = old := by rw [w64]; omega
    have wd : IntKind.u64.wrap ord = ord := by rw [w64]; omega
    have ws : IntKind.u64.wrap st = st := by rw [w64]; omega
    have wc : IntKind.u64.wrap co = co := by rw [w64]; omega
    have re := fun k => rb_eq (n := e) e0 (by omega) k
    have ro := fun k => rb_eq (n := old) o0 (by omega) k
    have rl := fun k => rb_eq (n := lsn) l0 (by omega) k
    have rt := fun k => rb_eq (n := tick) t0 (by omega) k
    have rd := fun k => rb_eq (n := ord) d0 (by omega) k
    have rs := fun k => rb_eq (n := st) s0 (by omega) k
    have rc := fun k => rb_eq (n := co) c0 (by omega) k
    have rk : rb 0 (IntKind.u64.wrap 5) = 5 := by decide
    have r0 : rb 0 0 = 0 := by decide
    have r1 : rb 0 1 = 1 := by decide
    rw [hz, hm]
    clear hz hm
    repeat' (first | refine And.intro rfl ?_ | refine And.intro ?_ ?_ | apply br_intro | (refine tkI (by first | rfl | exact sz5) (by simp [u8s]; try omega) ?_) | (refine tkD (by first | rfl | exact sz5) (by simp [u8s]; try omega) ?_) | (refine tkL (by simp [u8s]; try omega) ?_) | (refine ⟨_, BK.far (h := []) rfl, ?_⟩) | (refine ⟨_, BD.far (h := []) rfl, ?_⟩) | intro _)
    all_goals try first | rfl | exact trivial | assumption | (show (_ : Int) ≤ _; decide) | (show (_ : Int) < _; decide) | (show (_ : Nat) ≤ _; omega) | exact all_flat _ | (simp [u8s, flat]; done) | (simp [u8s]; omega)
    all_goals first
      | (refine Done.mk ⟨rfl, ?_, rfl⟩; simp [u8s, we, wo, wd, ws, wc, re, ro, rl, rt, rd, rs, rc, rk, r0, r1, prts, prt, be1n, be4n, be8n, *]; done)
      | (refine Done.mk ⟨rfl, ?_, rfl⟩; simp [u8s, we, wo, wd, ws, wc, re, ro, rl, rt, rd, rs, rc, rk, r0, r1, prts, prt, be1n, be4n, be8n, *]; (try rw [IntKind.wrap]); simp [IntKind.wrap, IntKind.signed, IntKind.bits]; omega)
      | (exfalso; rename_i hq; simp at hq; done)
      | (exfalso; rename_i hq; simp at hq; omega)
      | (exfalso; rename_i hq; simp [IntKind.wrap, IntKind.bits, IntKind.signed] at hq; omega)
  · have hz' : mRChk 5 e old lsn tick ord st un co ks.length ds.length = 50 := (rchk_01 _ _ _ _ _ _ _ _ _ _ _).resolve_right hz
    have hm : mRPut 5 e old lsn tick ord st un co ks ds = ([], 50) := by unfold mRPut; rw [hz']; rfl
    rw [hz', hm]
    intro g0 hg0
    exact ⟨rfl, br_intro (fun _ => ⟨rfl, rfl, rfl⟩) (fun h => absurd h (by decide))⟩

end Go.VX

/- The walk of function 17 (rput6), told by the verified walk VX, and its contract. -/
namespace Go.VX
open Go.Proofs
open Go.RowKit (Below)
set_option linter.unusedVariables false
set_option linter.unusedSimpArgs false
set_option maxRecDepth 100000
set_option maxHeartbeats 4000000
open Go.VX.M17

theorem walk_rput6 (e old lsn tick ord st : Int) (un : Bool) (co : Int) (K D : Option Addr) (kl kc dl dc : Nat) (w : World) (Q : Bool → List Value → Int → Prop) : (∀ (g0 : Nat), Array.size w.heap ≤ g0 → g0 = g0 ∧ br (M17.mRChk 6 e old lsn tick ord st un co kl dl != 0) (Done (Q Bool.true [] (M17.mRChk 6 e old lsn tick ord st un co kl dl))) (g0 = g0 ∧ g0 = g0 ∧ ∀ (g2 : Nat), Array.size w.heap ≤ g2 → Bool.true = Bool.true ∧ g0 = g0 ∧ w = w ∧ ∀ (g4 : Nat), Array.size w.heap ≤ g4 → ∀ (g6 : Nat), Array.size w.heap ≤ g6 → Bool.true = Bool.true ∧ g4 = g4 ∧ g4 = g4 ∧ g6 = g6 ∧ (g4 = g4 ∧ [Value.int IntKind.i64 6, Value.int IntKind.u32 e, Value.int IntKind.u32 old, Value.int IntKind.u64 lsn, Value.int IntKind.u64 tick, Value.int IntKind.u32 ord, Value.int IntKind.i64 st, Value.bool un, Value.int IntKind.i64 co, Value.slice K kl kc, Value.slice D dl dc] = [Value.int IntKind.i64 6, Value.int IntKind.u32 e, Value.int IntKind.u32 old, Value.int IntKind.u64 lsn, Value.int IntKind.u64 tick, Value.int IntKind.u32 ord, Value.int IntKind.i64 st, Value.bool un, Value.int IntKind.i64 co, Value.slice K kl kc, Value.slice D dl dc] ∧ 26 = 26) ∧ g6 = (Addr.add (Addr.mk g6 0 Option.none) 0).block ∧ g6 = (Addr.add (Addr.mk g6 0 Option.none) 1).block ∧ g6 = (Addr.add (Addr.mk g6 0 Option.none) 2).block ∧ w = w ∧ w = w ∧ w = w ∧ w = w ∧ ∀ (g8 : Nat), Array.size w.heap ≤ g8 → g8 = g8 ∧ g8 = g8 ∧ ∀ (g10 : Nat), Array.size w.heap ≤ g10 → g10 = g10 ∧ (g2 = g2 ∧ 1 ≤ 1 ∧ True) ∧ ∀ (g12 g13 : Nat) (x14 : List Go.Value), g12 = g2 ∨ Array.size w.heap ≤ g12 → 2 ≤ g13 → Bool.true = Bool.true ∧ g0 = g0 ∧ w = w ∧ ∀ (g17 : Nat), Array.size w.heap ≤ g17 → ∀ (g19 : Nat), Array.size w.heap ≤ g19 → Bool.true = Bool.true ∧ g17 = g17 ∧ g17 = g17 ∧ g19 = g19 ∧ (g17 = g17 ∧ [Value.int IntKind.i64 6, Value.int IntKind.u32 e, Value.int IntKind.u32 old, Value.int IntKind.u64 lsn, Value.int IntKind.u64 tick, Value.int IntKind.u32 ord, Value.int IntKind.i64 st, Value.bool un, Value.int IntKind.i64 co, Value.slice K kl kc, Value.slice D dl dc] = [Value.int IntKind.i64 6, Value.int IntKind.u32 e, Value.int IntKind.u32 old, Value.int IntKind.u64 lsn, Value.int IntKind.u64 tick, Value.int IntKind.u32 ord, Value.int IntKind.i64 st, Value.bool un, Value.int IntKind.i64 co, Value.slice K kl kc, Value.slice D dl dc] ∧ 26 = 26) ∧ g19 = (Addr.add (Addr.mk g19 0 Option.none) 0).block ∧ g19 = (Addr.add (Addr.mk g19 0 Option.none) 1).block ∧ g19 = (Addr.add (Addr.mk g19 0 Option.none) 2).block ∧ w = w ∧ w = w ∧ w = w ∧ w = w ∧ ∀ (g21 : Nat), Array.size w.heap ≤ g21 → g21 = g21 ∧ g21 = g21 ∧ ∀ (g23 : Nat), Array.size w.heap ≤ g23 → g23 = g23 ∧ g13 = g13 ∧ (g12 = g12 ∧ 2 ≤ g13 ∧ True) ∧ ∀ (g25 g26 : Nat) (x27 : List Go.Value), g25 = g12 ∨ Array.size w.heap ≤ g25 → 3 ≤ g26 → (Int.le 0 0 ∧ Int.lt 0 3) ∧ g25 = g25 ∧ ∀ (g30 : Nat), Array.size w.heap ≤ g30 → g30 = g30 ∧ g30 = g30 ∧ g30 = g30 ∧ g30 = g30 ∧ g30 = g30 ∧ g30 = g30 ∧ ∀ (g32 g33 : Nat) (x34 : List Go.Value), Array.size w.heap ≤ g32 → 1 ≤ g33 → g32 = g32 ∧ True ∧ ∀ (g37 g38 : Nat) (x39 : List Go.Value), Array.size w.heap ≤ g37 → 1 ≤ g38 → (Int.le 0 1 ∧ Int.lt 1 3) ∧ g25 = g25 ∧ ∀ (g42 : Nat), Array.size w.heap ≤ g42 → g42 = g42 ∧ g42 = g42 ∧ g42 = g42 ∧ g42 = g42 ∧ br (Bool.false || decide (IntKind.wrap IntKind.u64 e ≥ IntKind.wrap IntKind.u64 (1 * 2 ^ Min.min (Int.toNat (IntKind.wrap IntKind.u64 (IntKind.wrap IntKind.i64 (8 * 4)))) (IntKind.bits IntKind.u64)))) (Done (Q Bool.true [] 2)) (g42 = g42 ∧ g42 = g42 ∧ ∀ (g44 g45 : Nat) (x46 : List Go.Value), Array.size w.heap ≤ g44 → 4 ≤ g45 → g44 = g44 ∧ g38 = g38 ∧ (g37 = g37 ∧ 1 ≤ g38 ∧ True) ∧ ∀ (g49 g50 : Nat) (x51 : List Go.Value), g49 = g37 ∨ Array.size w.heap ≤ g49 → 5 ≤ g50 → (Int.le 0 2 ∧ Int.lt 2 3) ∧ g25 = g25 ∧ ∀ (g54 : Nat), Array.size w.heap ≤ g54 → g54 = g54 ∧ g54 = g54 ∧ g54 = g54 ∧ g54 = g54 ∧ br (Bool.false || decide (IntKind.wrap IntKind.u64 co ≥ IntKind.wrap IntKind.u64 (1 * 2 ^ Min.min (Int.toNat (IntKind.wrap IntKind.u64 (IntKind.wrap IntKind.i64 (8 * 1)))) (IntKind.bits IntKind.u64)))) (Done (Q Bool.true [] 2)) (g54 = g54 ∧ g54 = g54 ∧ ∀ (g56 g57 : Nat) (x58 : List Go.Value), Array.size w.heap ≤ g56 → 1 ≤ g57 → g56 = g56 ∧ g50 = g50 ∧ (g49 = g49 ∧ 5 ≤ g50 ∧ True) ∧ ∀ (g61 g62 : Nat) (x63 : List Go.Value), g61 = g49 ∨ Array.size w.heap ≤ g61 → 6 ≤ g62 → g62 = g62 ∧ (g61 = g61 ∧ 6 ≤ g62) ∧ Done (Q Bool.false [Value.int IntKind.u8 6, Value.int IntKind.u8 (M17.rb 3 (IntKind.wrap IntKind.u64 e)), Value.int IntKind.u8 (M17.rb 2 (IntKind.wrap IntKind.u64 e)), Value.int IntKind.u8 (M17.rb 1 (IntKind.wrap IntKind.u64 e)), Value.int IntKind.u8 (M17.rb 0 (IntKind.wrap IntKind.u64 e)), Value.int IntKind.u8 (M17.rb 0 (IntKind.wrap IntKind.u64 co))] 0))))) = codeVC (⟨TT.plain _, (fun f => Nat.beq f 36 || Nat.beq f 37 || Nat.beq f 48), noFar, true, noInv, noInv, pvrchk, spnum w⟩ : Cfg Try.prog) w 300 (Try.f17.body.getD .skip) ⟨⟨w, []⟩, mkT Try.f17.ntmps [.agg #[.int .i64 6, .int .u32 e, .int .u32 old, .int .u64 lsn, .int .u64 tick, .int .u32 ord, .int .i64 st, .bool un, .int .i64 co, .slice K kl kc, .slice D dl dc]] [[[none, none, none, none, none, none, none, none, none, some 1001, some 1001]]], []⟩ (retK Try.prog Try.f17 fun b v s h => newK h (putE 5 h v s fun z l c => Done (Q z l c))) := by
  kernel_rfl

set_option maxHeartbeats 8000000 in
theorem rput6_form (e old lsn tick ord st : Int) (un : Bool) (co : Int) (K D : Option Addr) (kc dc : Nat) (ks ds : List Int) (w : World) (BK : BytesAt w (.slice K ks.length kc) ks.length ks) (BD : BytesAt w (.slice D ds.length dc) ds.length ds) (hr : (0 ≤ e ∧ e ≤ 4294967295) ∧ (0 ≤ old ∧ old ≤ 4294967295) ∧ (0 ≤ lsn ∧ lsn ≤ 18446744073709551615) ∧ (0 ≤ tick ∧ tick ≤ 18446744073709551615) ∧ (0 ≤ ord ∧ ord ≤ 4294967295)) :
    codeVC (⟨TT.plain _, (fun f => Nat.beq f 36 || Nat.beq f 37 || Nat.beq f 48), noFar, true, noInv, noInv, pvrchk, spnum w⟩ : Cfg Try.prog) w 300 (Try.f17.body.getD .skip) ⟨⟨w, []⟩, mkT Try.f17.ntmps [.agg #[.int .i64 6, .int .u32 e, .int .u32 old, .int .u64 lsn, .int .u64 tick, .int .u32 ord, .int .i64 st, .bool un, .int .i64 co, .slice K ks.length kc, .slice D ds.length dc]] [[[none, none, none, none, none, none, none, none, none, some 1001, some 1001]]], []⟩ (retK Try.prog Try.f17 fun b v s h => newK h (putE 5 h v s fun z l c => Done (z = (!(c == 0)) ∧ l = u8s (mRPut 6 e old lsn tick ord st un co ks ds).1 ∧ c = (mRPut 6 e old lsn tick ord st un co ks ds).2))) := by
  refine (walk_rput6 e old lsn tick ord st un co K D ks.length kc ds.length dc w (fun z l c => z = (!(c == 0)) ∧ l = u8s (mRPut 6 e old lsn tick ord st un co ks ds).1 ∧ c = (mRPut 6 e old lsn tick ord st un co ks ds).2)).mp ?_
  obtain ⟨⟨e0, e1⟩, ⟨o0, o1⟩, ⟨l0, l1⟩, ⟨t0, t1⟩, ⟨d0, d1⟩⟩ := hr
  by_cases hz : mRChk 6 e old lsn tick ord st un co ks.length ds.length = 0
  · obtain ⟨_, s0, s1, c0, c1, k1, x1⟩ := rchk_rg hz
    have hm : mRPut 6 e old lsn tick ord st un co ks ds = (be1n 6 ++ prts e old lsn tick ord st un co ks ds [69, 67], 0) := by unfold mRPut; rw [hz]; rfl
    have we : IntKind.u64.wrap e = e := by rw [w64]; omega
    have wo : IntKind.u64.wrap old = old := by rw [w64]; omega
    have wd : IntKind.u64.wrap ord = ord := by rw [w64]; omega
    have ws : IntKind.u64.wrap st = st := by rw [w64]; omega
    have wc : IntKind.u64.wrap co = co := by rw [w64]; omega
    have re := fun k => rb_eq (n := e) e0 (by omega) k
    have ro := fun k => rb_eq (n := old) o0 (by omega) k
    have rl := fun k => rb_eq (n := lsn) l0 (by omega) k
    have rt := fun k => rb_eq (n := tick) t0 (by omega) k
    have rd := fun k => rb_eq (n := ord) d0 (by omega) k
    have rs := fun k => rb_eq (n := st) s0 (by omega) k
    have rc := fun k => rb_eq (n := co) c0 (by omega) k
    have rk : rb 0 (IntKind.u64.wrap 6) = 6 := by decide
    have r0 : rb 0 0 = 0 := by decide
    have r1 : rb 0 1 = 1 := by decide
    rw [hz, hm]
    clear hz hm
    repeat' (first | refine And.intro rfl ?_ | refine And.intro ?_ ?_ | apply br_intro | (refine tkI (by first | rfl | exact sz5) (by simp [u8s]; try omega) ?_) | (refine tkD (by first | rfl | exact sz5) (by simp [u8s]; try omega) ?_) | (refine tkL (by simp [u8s]; try omega) ?_) | (refine ⟨_, BK.far (h := []) rfl, ?_⟩) | (refine ⟨_, BD.far (h := []) rfl, ?_⟩) | intro _)
    all_goals try first | rfl | exact trivial | assumption | (show (_ : Int) ≤ _; decide) | (show (_ : Int) < _; decide) | (show (_ : Nat) ≤ _; omega) | exact all_flat _ | (simp [u8s, flat]; done) | (simp [u8s]; omega)
    all_goals first
      | (refine Done.mk ⟨rfl, ?_, rfl⟩; simp [u8s, we, wo, wd, ws, wc, re, ro, rl, rt, rd, rs, rc, rk, r0, r1, prts, prt, be1n, be4n, be8n, *]; done)
      | (refine Done.mk ⟨rfl, ?_, rfl⟩; simp [u8s, we, wo, wd, ws, wc, re, ro, rl, rt, rd, rs, rc, rk, r0, r1, prts, prt, be1n, be4n, be8n, *]; (try rw [IntKind.wrap]); simp [IntKind.wrap, IntKind.signed, IntKind.bits]; omega)
      | (exfalso; rename_i hq; simp at hq; done)
      | (exfalso; rename_i hq; simp at hq; omega)
      | (exfalso; rename_i hq; simp [IntKind.wrap, IntKind.bits, IntKind.signed] at hq; omega)
  · have hz' : mRChk 6 e old lsn tick ord st un co ks.length ds.length = 50 := (rchk_01 _ _ _ _ _ _ _ _ _ _ _).resolve_right hz
    have hm : mRPut 6 e old lsn tick ord st un co ks ds = ([], 50) := by unfold mRPut; rw [hz']; rfl
    rw [hz', hm]
    intro g0 hg0
    exact ⟨rfl, br_intro (fun _ => ⟨rfl, rfl, rfl⟩) (fun h => absurd h (by decide))⟩

end Go.VX

/- The walk of function 17 (rput7), told by the verified walk VX, and its contract. -/
namespace Go.VX
open Go.Proofs
open Go.RowKit (Below)
set_option linter.unusedVariables false
set_option linter.unusedSimpArgs false
set_option maxRecDepth 100000
set_option maxHeartbeats 4000000
open Go.VX.M17

theorem walk_rput7 (e old lsn tick ord st : Int) (un : Bool) (co : Int) (K D : Option Addr) (kl kc dl dc : Nat) (w : World) (Q : Bool → List Value → Int → Prop) : (∀ (g0 : Nat), Array.size w.heap ≤ g0 → g0 = g0 ∧ br (M17.mRChk 7 e old lsn tick ord st un co kl dl != 0) (Done (Q Bool.true [] (M17.mRChk 7 e old lsn tick ord st un co kl dl))) (g0 = g0 ∧ g0 = g0 ∧ ∀ (g2 : Nat), Array.size w.heap ≤ g2 → Bool.true = Bool.true ∧ g0 = g0 ∧ w = w ∧ ∀ (g4 : Nat), Array.size w.heap ≤ g4 → ∀ (g6 : Nat), Array.size w.heap ≤ g6 → Bool.true = Bool.true ∧ g4 = g4 ∧ g4 = g4 ∧ g6 = g6 ∧ (g4 = g4 ∧ [Value.int IntKind.i64 7, Value.int IntKind.u32 e, Value.int IntKind.u32 old, Value.int IntKind.u64 lsn, Value.int IntKind.u64 tick, Value.int IntKind.u32 ord, Value.int IntKind.i64 st, Value.bool un, Value.int IntKind.i64 co, Value.slice K kl kc, Value.slice D dl dc] = [Value.int IntKind.i64 7, Value.int IntKind.u32 e, Value.int IntKind.u32 old, Value.int IntKind.u64 lsn, Value.int IntKind.u64 tick, Value.int IntKind.u32 ord, Value.int IntKind.i64 st, Value.bool un, Value.int IntKind.i64 co, Value.slice K kl kc, Value.slice D dl dc] ∧ 26 = 26) ∧ g6 = (Addr.add (Addr.mk g6 0 Option.none) 0).block ∧ g6 = (Addr.add (Addr.mk g6 0 Option.none) 1).block ∧ g6 = (Addr.add (Addr.mk g6 0 Option.none) 2).block ∧ w = w ∧ w = w ∧ w = w ∧ w = w ∧ ∀ (g8 : Nat), Array.size w.heap ≤ g8 → g8 = g8 ∧ g8 = g8 ∧ ∀ (g10 : Nat), Array.size w.heap ≤ g10 → g10 = g10 ∧ (g2 = g2 ∧ 1 ≤ 1 ∧ True) ∧ ∀ (g12 g13 : Nat) (x14 : List Go.Value), g12 = g2 ∨ Array.size w.heap ≤ g12 → 2 ≤ g13 → Bool.true = Bool.true ∧ g0 = g0 ∧ w = w ∧ ∀ (g17 : Nat), Array.size w.heap ≤ g17 → ∀ (g19 : Nat), Array.size w.heap ≤ g19 → Bool.true = Bool.true ∧ g17 = g17 ∧ g17 = g17 ∧ g19 = g19 ∧ (g17 = g17 ∧ [Value.int IntKind.i64 7, Value.int IntKind.u32 e, Value.int IntKind.u32 old, Value.int IntKind.u64 lsn, Value.int IntKind.u64 tick, Value.int IntKind.u32 ord, Value.int IntKind.i64 st, Value.bool un, Value.int IntKind.i64 co, Value.slice K kl kc, Value.slice D dl dc] = [Value.int IntKind.i64 7, Value.int IntKind.u32 e, Value.int IntKind.u32 old, Value.int IntKind.u64 lsn, Value.int IntKind.u64 tick, Value.int IntKind.u32 ord, Value.int IntKind.i64 st, Value.bool un, Value.int IntKind.i64 co, Value.slice K kl kc, Value.slice D dl dc] ∧ 26 = 26) ∧ g19 = (Addr.add (Addr.mk g19 0 Option.none) 0).block ∧ g19 = (Addr.add (Addr.mk g19 0 Option.none) 1).block ∧ g19 = (Addr.add (Addr.mk g19 0 Option.none) 2).block ∧ w = w ∧ w = w ∧ w = w ∧ w = w ∧ ∀ (g21 : Nat), Array.size w.heap ≤ g21 → g21 = g21 ∧ g21 = g21 ∧ ∀ (g23 : Nat), Array.size w.heap ≤ g23 → g23 = g23 ∧ g13 = g13 ∧ (g12 = g12 ∧ 2 ≤ g13 ∧ True) ∧ ∀ (g25 g26 : Nat) (x27 : List Go.Value), g25 = g12 ∨ Array.size w.heap ≤ g25 → 3 ≤ g26 → Bool.true = Bool.true ∧ g0 = g0 ∧ w = w ∧ ∀ (g30 : Nat), Array.size w.heap ≤ g30 → ∀ (g32 : Nat), Array.size w.heap ≤ g32 → Bool.true = Bool.true ∧ g30 = g30 ∧ g30 = g30 ∧ g32 = g32 ∧ (g30 = g30 ∧ [Value.int IntKind.i64 7, Value.int IntKind.u32 e, Value.int IntKind.u32 old, Value.int IntKind.u64 lsn, Value.int IntKind.u64 tick, Value.int IntKind.u32 ord, Value.int IntKind.i64 st, Value.bool un, Value.int IntKind.i64 co, Value.slice K kl kc, Value.slice D dl dc] = [Value.int IntKind.i64 7, Value.int IntKind.u32 e, Value.int IntKind.u32 old, Value.int IntKind.u64 lsn, Value.int IntKind.u64 tick, Value.int IntKind.u32 ord, Value.int IntKind.i64 st, Value.bool un, Value.int IntKind.i64 co, Value.slice K kl kc, Value.slice D dl dc] ∧ 26 = 26) ∧ g32 = (Addr.add (Addr.mk g32 0 Option.none) 0).block ∧ g32 = (Addr.add (Addr.mk g32 0 Option.none) 1).block ∧ g32 = (Addr.add (Addr.mk g32 0 Option.none) 2).block ∧ w = w ∧ w = w ∧ w = w ∧ w = w ∧ ∀ (g34 : Nat), Array.size w.heap ≤ g34 → g34 = g34 ∧ g34 = g34 ∧ ∀ (g36 : Nat), Array.size w.heap ≤ g36 → g36 = g36 ∧ g26 = g26 ∧ (g25 = g25 ∧ 3 ≤ g26 ∧ True) ∧ ∀ (g38 g39 : Nat) (x40 : List Go.Value), g38 = g25 ∨ Array.size w.heap ≤ g38 → 4 ≤ g39 → Bool.true = Bool.true ∧ g0 = g0 ∧ w = w ∧ ∀ (g43 : Nat), Array.size w.heap ≤ g43 → ∀ (g45 : Nat), Array.size w.heap ≤ g45 → g43 = g43 ∧ br un (g45 = g45 ∧ g45 = (Addr.add (Addr.mk g45 0 Option.none) 0).block ∧ g45 = (Addr.add (Addr.mk g45 0 Option.none) 1).block ∧ g45 = (Addr.add (Addr.mk g45 0 Option.none) 2).block ∧ w = w ∧ w = w ∧ w = w ∧ w = w ∧ ∀ (g47 : Nat), Array.size w.heap ≤ g47 → g47 = g47 ∧ g47 = g47 ∧ ∀ (g49 : Nat), Array.size w.heap ≤ g49 → g49 = g49 ∧ g39 = g39 ∧ (g38 = g38 ∧ 4 ≤ g39 ∧ True) ∧ ∀ (g51 g52 : Nat) (x53 : List Go.Value), g51 = g38 ∨ Array.size w.heap ≤ g51 → 5 ≤ g52 → Bool.true = Bool.true ∧ g0 = g0 ∧ w = w ∧ ∀ (g56 : Nat), Array.size w.heap ≤ g56 → ∀ (g58 : Nat), Array.size w.heap ≤ g58 → Bool.true = Bool.true ∧ g56 = g56 ∧ g56 = g56 ∧ g58 = g58 ∧ (g56 = g56 ∧ [Value.int IntKind.i64 7, Value.int IntKind.u32 e, Value.int IntKind.u32 old, Value.int IntKind.u64 lsn, Value.int IntKind.u64 tick, Value.int IntKind.u32 ord, Value.int IntKind.i64 st, Value.bool un, Value.int IntKind.i64 co, Value.slice K kl kc, Value.slice D dl dc] = [Value.int IntKind.i64 7, Value.int IntKind.u32 e, Value.int IntKind.u32 old, Value.int IntKind.u64 lsn, Value.int IntKind.u64 tick, Value.int IntKind.u32 ord, Value.int IntKind.i64 st, Value.bool un, Value.int IntKind.i64 co, Value.slice K kl kc, Value.slice D dl dc] ∧ 26 = 26) ∧ g58 = (Addr.add (Addr.mk g58 0 Option.none) 0).block ∧ g58 = (Addr.add (Addr.mk g58 0 Option.none) 1).block ∧ g58 = (Addr.add (Addr.mk g58 0 Option.none) 2).block ∧ w = w ∧ w = w ∧ w = w ∧ w = w ∧ ∀ (g60 : Nat), Array.size w.heap ≤ g60 → g60 = g60 ∧ g60 = g60 ∧ ∀ (g62 : Nat), Array.size w.heap ≤ g62 → g62 = g62 ∧ g52 = g52 ∧ (g51 = g51 ∧ 5 ≤ g52 ∧ True) ∧ ∀ (g64 g65 : Nat) (x66 : List Go.Value), g64 = g51 ∨ Array.size w.heap ≤ g64 → 6 ≤ g65 → (Int.le 0 0 ∧ Int.lt 0 6) ∧ g64 = g64 ∧ ∀ (g69 : Nat), Array.size w.heap ≤ g69 → g69 = g69 ∧ g69 = g69 ∧ g69 = g69 ∧ g69 = g69 ∧ g69 = g69 ∧ g69 = g69 ∧ ∀ (g71 g72 : Nat) (x73 : List Go.Value), Array.size w.heap ≤ g71 → 1 ≤ g72 → g71 = g71 ∧ True ∧ ∀ (g76 g77 : Nat) (x78 : List Go.Value), Array.size w.heap ≤ g76 → 1 ≤ g77 → (Int.le 0 1 ∧ Int.lt 1 6) ∧ g64 = g64 ∧ ∀ (g81 : Nat), Array.size w.heap ≤ g81 → g81 = g81 ∧ g81 = g81 ∧ g81 = g81 ∧ g81 = g81 ∧ br (Bool.false || decide (IntKind.wrap IntKind.u64 e ≥ IntKind.wrap IntKind.u64 (1 * 2 ^ Min.min (Int.toNat (IntKind.wrap IntKind.u64 (IntKind.wrap IntKind.i64 (8 * 4)))) (IntKind.bits IntKind.u64)))) (Done (Q Bool.true [] 2)) (g81 = g81 ∧ g81 = g81 ∧ ∀ (g83 g84 : Nat) (x85 : List Go.Value), Array.size w.heap ≤ g83 → 4 ≤ g84 → g83 = g83 ∧ g77 = g77 ∧ (g76 = g76 ∧ 1 ≤ g77 ∧ True) ∧ ∀ (g88 g89 : Nat) (x90 : List Go.Value), g88 = g76 ∨ Array.size w.heap ≤ g88 → 5 ≤ g89 → (Int.le 0 2 ∧ Int.lt 2 6) ∧ g64 = g64 ∧ ∀ (g93 : Nat), Array.size w.heap ≤ g93 → g93 = g93 ∧ g93 = g93 ∧ g93 = g93 ∧ g93 = g93 ∧ br (Bool.false || decide (IntKind.wrap IntKind.u64 ord ≥ IntKind.wrap IntKind.u64 (1 * 2 ^ Min.min (Int.toNat (IntKind.wrap IntKind.u64 (IntKind.wrap IntKind.i64 (8 * 4)))) (IntKind.bits IntKind.u64)))) (Done (Q Bool.true [] 2)) (g93 = g93 ∧ g93 = g93 ∧ ∀ (g95 g96 : Nat) (x97 : List Go.Value), Array.size w.heap ≤ g95 → 4 ≤ g96 → g95 = g95 ∧ g89 = g89 ∧ (g88 = g88 ∧ 5 ≤ g89 ∧ True) ∧ ∀ (g100 g101 : Nat) (x102 : List Go.Value), g100 = g88 ∨ Array.size w.heap ≤ g100 → 9 ≤ g101 → (Int.le 0 3 ∧ Int.lt 3 6) ∧ g64 = g64 ∧ ∀ (g105 : Nat), Array.size w.heap ≤ g105 → g105 = g105 ∧ g105 = g105 ∧ g105 = g105 ∧ g105 = g105 ∧ br (Bool.false || decide (IntKind.wrap IntKind.u64 st ≥ IntKind.wrap IntKind.u64 (1 * 2 ^ Min.min (Int.toNat (IntKind.wrap IntKind.u64 (IntKind.wrap IntKind.i64 (8 * 1)))) (IntKind.bits IntKind.u64)))) (Done (Q Bool.true [] 2)) (g105 = g105 ∧ g105 = g105 ∧ ∀ (g107 g108 : Nat) (x109 : List Go.Value), Array.size w.heap ≤ g107 → 1 ≤ g108 → g107 = g107 ∧ g101 = g101 ∧ (g100 = g100 ∧ 9 ≤ g101 ∧ True) ∧ ∀ (g112 g113 : Nat) (x114 : List Go.Value), g112 = g100 ∨ Array.size w.heap ≤ g112 → 10 ≤ g113 → (Int.le 0 4 ∧ Int.lt 4 6) ∧ g64 = g64 ∧ ∀ (g117 : Nat), Array.size w.heap ≤ g117 → g117 = g117 ∧ g117 = g117 ∧ g117 = g117 ∧ g117 = g117 ∧ g117 = g117 ∧ g117 = g117 ∧ ∀ (g119 g120 : Nat) (x121 : List Go.Value), Array.size w.heap ≤ g119 → 1 ≤ g120 → g119 = g119 ∧ g113 = g113 ∧ (g112 = g112 ∧ 10 ≤ g113 ∧ True) ∧ ∀ (g124 g125 : Nat) (x126 : List Go.Value), g124 = g112 ∨ Array.size w.heap ≤ g124 → 11 ≤ g125 → (Int.le 0 5 ∧ Int.lt 5 6) ∧ g64 = g64 ∧ ∀ (g129 : Nat), Array.size w.heap ≤ g129 → g129 = g129 ∧ g129 = g129 ∧ g129 = g129 ∧ br (decide ((↑dl : Int) > 255)) (Done (Q Bool.true [] 3)) (g129 = g129 ∧ ∀ (g131 : Nat), Array.size w.heap ≤ g131 → g129 = g129 ∧ ∃ (v133 : List Go.Value), (List.length v133 = dl * 1 ∧ List.all v133 flat = Bool.true ∧ (0 < dl → ∃ (v135 : Go.Addr), D = Option.some v135 ∧ (v135.block < Array.size w.heap ∧ True) ∧ cellsAt w v135 0 v133)) ∧ (g131 = g131 ∧ 1 ≤ 1 ∧ br (Nat.ble ((1 + dl) * 1) 140737488355328) True (Nat.le ((1 + dl) * 1) 140737488355328)) ∧ ∀ (g136 g137 : Nat) (x138 : List Go.Value), g136 = g131 ∨ Array.size w.heap ≤ g136 → 1 + dl ≤ g137 → ∀ (x141 : List Go.Value), x141 = List.take ((1 + dl) * 1) (List.drop 0 ([Value.int IntKind.u8 (IntKind.wrap IntKind.u8 (↑dl : Int))] ++ v133 ++ x138)) → (g136 = g136 ∧ 0 + (1 + dl) * 1 ≤ List.length ([Value.int IntKind.u8 (IntKind.wrap IntKind.u8 (↑dl : Int))] ++ v133 ++ x138) ∧ List.all x141 flat = Bool.true) ∧ g125 = g125 ∧ (g124 = g124 ∧ 11 ≤ g125 ∧ br (Nat.ble ((11 + (1 + dl)) * 1) 140737488355328) True (Nat.le ((11 + (1 + dl)) * 1) 140737488355328)) ∧ ∀ (g143 g144 : Nat) (x145 : List Go.Value), g143 = g124 ∨ Array.size w.heap ≤ g143 → 11 + (1 + dl) ≤ g144 → g144 = g144 ∧ (g143 = g143 ∧ 11 + (1 + dl) ≤ g144) ∧ ∀ (x148 : List Go.Value), x148 = List.take (11 + (1 + dl)) ([Value.int IntKind.u8 7, Value.int IntKind.u8 (M17.rb 3 (IntKind.wrap IntKind.u64 e)), Value.int IntKind.u8 (M17.rb 2 (IntKind.wrap IntKind.u64 e)), Value.int IntKind.u8 (M17.rb 1 (IntKind.wrap IntKind.u64 e)), Value.int IntKind.u8 (M17.rb 0 (IntKind.wrap IntKind.u64 e)), Value.int IntKind.u8 (M17.rb 3 (IntKind.wrap IntKind.u64 ord)), Value.int IntKind.u8 (M17.rb 2 (IntKind.wrap IntKind.u64 ord)), Value.int IntKind.u8 (M17.rb 1 (IntKind.wrap IntKind.u64 ord)), Value.int IntKind.u8 (M17.rb 0 (IntKind.wrap IntKind.u64 ord)), Value.int IntKind.u8 (M17.rb 0 (IntKind.wrap IntKind.u64 st)), Value.int IntKind.u8 1] ++ x141 ++ x145) → Done (Q Bool.false x148 0)))))) (g45 = g45 ∧ g45 = (Addr.add (Addr.mk g45 0 Option.none) 0).block ∧ g45 = (Addr.add (Addr.mk g45 0 Option.none) 1).block ∧ g45 = (Addr.add (Addr.mk g45 0 Option.none) 2).block ∧ w = w ∧ w = w ∧ w = w ∧ w = w ∧ ∀ (g150 : Nat), Array.size w.heap ≤ g150 → g150 = g150 ∧ g150 = g150 ∧ ∀ (g152 : Nat), Array.size w.heap ≤ g152 → g152 = g152 ∧ g39 = g39 ∧ (g38 = g38 ∧ 4 ≤ g39 ∧ True) ∧ ∀ (g154 g155 : Nat) (x156 : List Go.Value), g154 = g38 ∨ Array.size w.heap ≤ g154 → 5 ≤ g155 → Bool.true = Bool.true ∧ g0 = g0 ∧ w = w ∧ ∀ (g159 : Nat), Array.size w.heap ≤ g159 → ∀ (g161 : Nat), Array.size w.heap ≤ g161 → Bool.true = Bool.true ∧ g159 = g159 ∧ g159 = g159 ∧ g161 = g161 ∧ (g159 = g159 ∧ [Value.int IntKind.i64 7, Value.int IntKind.u32 e, Value.int IntKind.u32 old, Value.int IntKind.u64 lsn, Value.int IntKind.u64 tick, Value.int IntKind.u32 ord, Value.int IntKind.i64 st, Value.bool un, Value.int IntKind.i64 co, Value.slice K kl kc, Value.slice D dl dc] = [Value.int IntKind.i64 7, Value.int IntKind.u32 e, Value.int IntKind.u32 old, Value.int IntKind.u64 lsn, Value.int IntKind.u64 tick, Value.int IntKind.u32 ord, Value.int IntKind.i64 st, Value.bool un, Value.int IntKind.i64 co, Value.slice K kl kc, Value.slice D dl dc] ∧ 26 = 26) ∧ g161 = (Addr.add (Addr.mk g161 0 Option.none) 0).block ∧ g161 = (Addr.add (Addr.mk g161 0 Option.none) 1).block ∧ g161 = (Addr.add (Addr.mk g161 0 Option.none) 2).block ∧ w = w ∧ w = w ∧ w = w ∧ w = w ∧ ∀ (g163 : Nat), Array.size w.heap ≤ g163 → g163 = g163 ∧ g163 = g163 ∧ ∀ (g165 : Nat), Array.size w.heap ≤ g165 → g165 = g165 ∧ g155 = g155 ∧ (g154 = g154 ∧ 5 ≤ g155 ∧ True) ∧ ∀ (g167 g168 : Nat) (x169 : List Go.Value), g167 = g154 ∨ Array.size w.heap ≤ g167 → 6 ≤ g168 → (Int.le 0 0 ∧ Int.lt 0 6) ∧ g167 = g167 ∧ ∀ (g172 : Nat), Array.size w.heap ≤ g172 → g172 = g172 ∧ g172 = g172 ∧ g172 = g172 ∧ g172 = g172 ∧ g172 = g172 ∧ g172 = g172 ∧ ∀ (g174 g175 : Nat) (x176 : List Go.Value), Array.size w.heap ≤ g174 → 1 ≤ g175 → g174 = g174 ∧ True ∧ ∀ (g179 g180 : Nat) (x181 : List Go.Value), Array.size w.heap ≤ g179 → 1 ≤ g180 → (Int.le 0 1 ∧ Int.lt 1 6) ∧ g167 = g167 ∧ ∀ (g184 : Nat), Array.size w.heap ≤ g184 → g184 = g184 ∧ g184 = g184 ∧ g184 = g184 ∧ g184 = g184 ∧ br (Bool.false || decide (IntKind.wrap IntKind.u64 e ≥ IntKind.wrap IntKind.u64 (1 * 2 ^ Min.min (Int.toNat (IntKind.wrap IntKind.u64 (IntKind.wrap IntKind.i64 (8 * 4)))) (IntKind.bits IntKind.u64)))) (Done (Q Bool.true [] 2)) (g184 = g184 ∧ g184 = g184 ∧ ∀ (g186 g187 : Nat) (x188 : List Go.Value), Array.size w.heap ≤ g186 → 4 ≤ g187 → g186 = g186 ∧ g180 = g180 ∧ (g179 = g179 ∧ 1 ≤ g180 ∧ True) ∧ ∀ (g191 g192 : Nat) (x193 : List Go.Value), g191 = g179 ∨ Array.size w.heap ≤ g191 → 5 ≤ g192 → (Int.le 0 2 ∧ Int.lt 2 6) ∧ g167 = g167 ∧ ∀ (g196 : Nat), Array.size w.heap ≤ g196 → g196 = g196 ∧ g196 = g196 ∧ g196 = g196 ∧ g196 = g196 ∧ br (Bool.false || decide (IntKind.wrap IntKind.u64 ord ≥ IntKind.wrap IntKind.u64 (1 * 2 ^ Min.min (Int.toNat (IntKind.wrap IntKind.u64 (IntKind.wrap IntKind.i64 (8 * 4)))) (IntKind.bits IntKind.u64)))) (Done (Q Bool.true [] 2)) (g196 = g196 ∧ g196 = g196 ∧ ∀ (g198 g199 : Nat) (x200 : List Go.Value), Array.size w.heap ≤ g198 → 4 ≤ g199 → g198 = g198 ∧ g192 = g192 ∧ (g191 = g191 ∧ 5 ≤ g192 ∧ True) ∧ ∀ (g203 g204 : Nat) (x205 : List Go.Value), g203 = g191 ∨ Array.size w.heap ≤ g203 → 9 ≤ g204 → (Int.le 0 3 ∧ Int.lt 3 6) ∧ g167 = g167 ∧ ∀ (g208 : Nat), Array.size w.heap ≤ g208 → g208 = g208 ∧ g208 = g208 ∧ g208 = g208 ∧ g208 = g208 ∧ br (Bool.false || decide (IntKind.wrap IntKind.u64 st ≥ IntKind.wrap IntKind.u64 (1 * 2 ^ Min.min (Int.toNat (IntKind.wrap IntKind.u64 (IntKind.wrap IntKind.i64 (8 * 1)))) (IntKind.bits IntKind.u64)))) (Done (Q Bool.true [] 2)) (g208 = g208 ∧ g208 = g208 ∧ ∀ (g210 g211 : Nat) (x212 : List Go.Value), Array.size w.heap ≤ g210 → 1 ≤ g211 → g210 = g210 ∧ g204 = g204 ∧ (g203 = g203 ∧ 9 ≤ g204 ∧ True) ∧ ∀ (g215 g216 : Nat) (x217 : List Go.Value), g215 = g203 ∨ Array.size w.heap ≤ g215 → 10 ≤ g216 → (Int.le 0 4 ∧ Int.lt 4 6) ∧ g167 = g167 ∧ ∀ (g220 : Nat), Array.size w.heap ≤ g220 → g220 = g220 ∧ g220 = g220 ∧ g220 = g220 ∧ g220 = g220 ∧ g220 = g220 ∧ g220 = g220 ∧ ∀ (g222 g223 : Nat) (x224 : List Go.Value), Array.size w.heap ≤ g222 → 1 ≤ g223 → g222 = g222 ∧ g216 = g216 ∧ (g215 = g215 ∧ 10 ≤ g216 ∧ True) ∧ ∀ (g227 g228 : Nat) (x229 : List Go.Value), g227 = g215 ∨ Array.size w.heap ≤ g227 → 11 ≤ g228 → (Int.le 0 5 ∧ Int.lt 5 6) ∧ g167 = g167 ∧ ∀ (g232 : Nat), Array.size w.heap ≤ g232 → g232 = g232 ∧ g232 = g232 ∧ g232 = g232 ∧ br (decide ((↑dl : Int) > 255)) (Done (Q Bool.true [] 3)) (g232 = g232 ∧ ∀ (g234 : Nat), Array.size w.heap ≤ g234 → g232 = g232 ∧ ∃ (v236 : List Go.Value), (List.length v236 = dl * 1 ∧ List.all v236 flat = Bool.true ∧ (0 < dl → ∃ (v238 : Go.Addr), D = Option.some v238 ∧ (v238.block < Array.size w.heap ∧ True) ∧ cellsAt w v238 0 v236)) ∧ (g234 = g234 ∧ 1 ≤ 1 ∧ br (Nat.ble ((1 + dl) * 1) 140737488355328) True (Nat.le ((1 + dl) * 1) 140737488355328)) ∧ ∀ (g239 g240 : Nat) (x241 : List Go.Value), g239 = g234 ∨ Array.size w.heap ≤ g239 → 1 + dl ≤ g240 → ∀ (x244 : List Go.Value), x244 = List.take ((1 + dl) * 1) (List.drop 0 ([Value.int IntKind.u8 (IntKind.wrap IntKind.u8 (↑dl : Int))] ++ v236 ++ x241)) → (g239 = g239 ∧ 0 + (1 + dl) * 1 ≤ List.length ([Value.int IntKind.u8 (IntKind.wrap IntKind.u8 (↑dl : Int))] ++ v236 ++ x241) ∧ List.all x244 flat = Bool.true) ∧ g228 = g228 ∧ (g227 = g227 ∧ 11 ≤ g228 ∧ br (Nat.ble ((11 + (1 + dl)) * 1) 140737488355328) True (Nat.le ((11 + (1 + dl)) * 1) 140737488355328)) ∧ ∀ (g246 g247 : Nat) (x248 : List Go.Value), g246 = g227 ∨ Array.size w.heap ≤ g246 → 11 + (1 + dl) ≤ g247 → g247 = g247 ∧ (g246 = g246 ∧ 11 + (1 + dl) ≤ g247) ∧ ∀ (x251 : List Go.Value), x251 = List.take (11 + (1 + dl)) ([Value.int IntKind.u8 7, Value.int IntKind.u8 (M17.rb 3 (IntKind.wrap IntKind.u64 e)), Value.int IntKind.u8 (M17.rb 2 (IntKind.wrap IntKind.u64 e)), Value.int IntKind.u8 (M17.rb 1 (IntKind.wrap IntKind.u64 e)), Value.int IntKind.u8 (M17.rb 0 (IntKind.wrap IntKind.u64 e)), Value.int IntKind.u8 (M17.rb 3 (IntKind.wrap IntKind.u64 ord)), Value.int IntKind.u8 (M17.rb 2 (IntKind.wrap IntKind.u64 ord)), Value.int IntKind.u8 (M17.rb 1 (IntKind.wrap IntKind.u64 ord)), Value.int IntKind.u8 (M17.rb 0 (IntKind.wrap IntKind.u64 ord)), Value.int IntKind.u8 (M17.rb 0 (IntKind.wrap IntKind.u64 st)), Value.int IntKind.u8 0] ++ x244 ++ x248) → Done (Q Bool.false x251 0)))))))) = codeVC (⟨TT.plain _, (fun f => Nat.beq f 36 || Nat.beq f 37 || Nat.beq f 48), noFar, true, noInv, noInv, pvrchk, spnum w⟩ : Cfg Try.prog) w 300 (Try.f17.body.getD .skip) ⟨⟨w, []⟩, mkT Try.f17.ntmps [.agg #[.int .i64 7, .int .u32 e, .int .u32 old, .int .u64 lsn, .int .u64 tick, .int .u32 ord, .int .i64 st, .bool un, .int .i64 co, .slice K kl kc, .slice D dl dc]] [[[none, none, none, none, none, none, none, none, none, some 1001, some 1001]]], []⟩ (retK Try.prog Try.f17 fun b v s h => newK h (putE 5 h v s fun z l c => Done (Q z l c))) := by
  kernel_rfl

set_option maxHeartbeats 8000000 in
theorem rput7_form (e old lsn tick ord st : Int) (un : Bool) (co : Int) (K D : Option Addr) (kc dc : Nat) (ks ds : List Int) (w : World) (BK : BytesAt w (.slice K ks.length kc) ks.length ks) (BD : BytesAt w (.slice D ds.length dc) ds.length ds) (hr : (0 ≤ e ∧ e ≤ 4294967295) ∧ (0 ≤ old ∧ old ≤ 4294967295) ∧ (0 ≤ lsn ∧ lsn ≤ 18446744073709551615) ∧ (0 ≤ tick ∧ tick ≤ 18446744073709551615) ∧ (0 ≤ ord ∧ ord ≤ 4294967295)) :
    codeVC (⟨TT.plain _, (fun f => Nat.beq f 36 || Nat.beq f 37 || Nat.beq f 48), noFar, true, noInv, noInv, pvrchk, spnum w⟩ : Cfg Try.prog) w 300 (Try.f17.body.getD .skip) ⟨⟨w, []⟩, mkT Try.f17.ntmps [.agg #[.int .i64 7, .int .u32 e, .int .u32 old, .int .u64 lsn, .int .u64 tick, .int .u32 ord, .int .i64 st, .bool un, .int .i64 co, .slice K ks.length kc, .slice D ds.length dc]] [[[none, none, none, none, none, none, none, none, none, some 1001, some 1001]]], []⟩ (retK Try.prog Try.f17 fun b v s h => newK h (putE 5 h v s fun z l c => Done (z = (!(c == 0)) ∧ l = u8s (mRPut 7 e old lsn tick ord st un co ks ds).1 ∧ c = (mRPut 7 e old lsn tick ord st un co ks ds).2))) := by
  refine (walk_rput7 e old lsn tick ord st un co K D ks.length kc ds.length dc w (fun z l c => z = (!(c == 0)) ∧ l = u8s (mRPut 7 e old lsn tick ord st un co ks ds).1 ∧ c = (mRPut 7 e old lsn tick ord st un co ks ds).2)).mp ?_
  obtain ⟨⟨e0, e1⟩, ⟨o0, o1⟩, ⟨l0, l1⟩, ⟨t0, t1⟩, ⟨d0, d1⟩⟩ := hr
  by_cases hz : mRChk 7 e old lsn tick ord st un co ks.length ds.length = 0
  · obtain ⟨_, s0, s1, c0, c1, k1, x1⟩ := rchk_rg hz
    have hm : mRPut 7 e old lsn tick ord st un co ks ds = (be1n 7 ++ prts e old lsn tick ord st un co ks ds [69, 79, 83, 85, 68], 0) := by unfold mRPut; rw [hz]; rfl
    have we : IntKind.u64.wrap e = e := by rw [w64]; omega
    have wo : IntKind.u64.wrap old = old := by rw [w64]; omega
    have wd : IntKind.u64.wrap ord = ord := by rw [w64]; omega
    have ws : IntKind.u64.wrap st = st := by rw [w64]; omega
    have wc : IntKind.u64.wrap co = co := by rw [w64]; omega
    have re := fun k => rb_eq (n := e) e0 (by omega) k
    have ro := fun k => rb_eq (n := old) o0 (by omega) k
    have rl := fun k => rb_eq (n := lsn) l0 (by omega) k
    have rt := fun k => rb_eq (n := tick) t0 (by omega) k
    have rd := fun k => rb_eq (n := ord) d0 (by omega) k
    have rs := fun k => rb_eq (n := st) s0 (by omega) k
    have rc := fun k => rb_eq (n := co) c0 (by omega) k
    have rk : rb 0 (IntKind.u64.wrap 7) = 7 := by decide
    have r0 : rb 0 0 = 0 := by decide
    have r1 : rb 0 1 = 1 := by decide
    rw [hz, hm]
    clear hz hm
    repeat' (first | refine And.intro rfl ?_ | refine And.intro ?_ ?_ | apply br_intro | (refine tkI (by first | rfl | exact sz5) (by simp [u8s]; try omega) ?_) | (refine tkD (by first | rfl | exact sz5) (by simp [u8s]; try omega) ?_) | (refine tkL (by simp [u8s]; try omega) ?_) | (refine ⟨_, BK.far (h := []) rfl, ?_⟩) | (refine ⟨_, BD.far (h := []) rfl, ?_⟩) | intro _)
    all_goals try first | rfl | exact trivial | assumption | (show (_ : Int) ≤ _; decide) | (show (_ : Int) < _; decide) | (show (_ : Nat) ≤ _; omega) | exact all_flat _ | (simp [u8s, flat]; done) | (simp [u8s]; omega)
    all_goals first
      | (refine Done.mk ⟨rfl, ?_, rfl⟩; simp [u8s, we, wo, wd, ws, wc, re, ro, rl, rt, rd, rs, rc, rk, r0, r1, prts, prt, be1n, be4n, be8n, *]; done)
      | (refine Done.mk ⟨rfl, ?_, rfl⟩; simp [u8s, we, wo, wd, ws, wc, re, ro, rl, rt, rd, rs, rc, rk, r0, r1, prts, prt, be1n, be4n, be8n, *]; (try rw [IntKind.wrap]); simp [IntKind.wrap, IntKind.signed, IntKind.bits]; omega)
      | (exfalso; rename_i hq; simp at hq; done)
      | (exfalso; rename_i hq; simp at hq; omega)
      | (exfalso; rename_i hq; simp [IntKind.wrap, IntKind.bits, IntKind.signed] at hq; omega)
  · have hz' : mRChk 7 e old lsn tick ord st un co ks.length ds.length = 50 := (rchk_01 _ _ _ _ _ _ _ _ _ _ _).resolve_right hz
    have hm : mRPut 7 e old lsn tick ord st un co ks ds = ([], 50) := by unfold mRPut; rw [hz']; rfl
    rw [hz', hm]
    intro g0 hg0
    exact ⟨rfl, br_intro (fun _ => ⟨rfl, rfl, rfl⟩) (fun h => absurd h (by decide))⟩

end Go.VX

/- The walk of function 17 (rput8), told by the verified walk VX, and its contract. -/
namespace Go.VX
open Go.Proofs
open Go.RowKit (Below)
set_option linter.unusedVariables false
set_option linter.unusedSimpArgs false
set_option maxRecDepth 100000
set_option maxHeartbeats 4000000
open Go.VX.M17

theorem walk_rput8 (e old lsn tick ord st : Int) (un : Bool) (co : Int) (K D : Option Addr) (kl kc dl dc : Nat) (w : World) (Q : Bool → List Value → Int → Prop) : (∀ (g0 : Nat), Array.size w.heap ≤ g0 → g0 = g0 ∧ br (M17.mRChk 8 e old lsn tick ord st un co kl dl != 0) (Done (Q Bool.true [] (M17.mRChk 8 e old lsn tick ord st un co kl dl))) (g0 = g0 ∧ g0 = g0 ∧ ∀ (g2 : Nat), Array.size w.heap ≤ g2 → Bool.true = Bool.true ∧ g0 = g0 ∧ w = w ∧ ∀ (g4 : Nat), Array.size w.heap ≤ g4 → ∀ (g6 : Nat), Array.size w.heap ≤ g6 → Bool.true = Bool.true ∧ g4 = g4 ∧ g4 = g4 ∧ g6 = g6 ∧ (g4 = g4 ∧ [Value.int IntKind.i64 8, Value.int IntKind.u32 e, Value.int IntKind.u32 old, Value.int IntKind.u64 lsn, Value.int IntKind.u64 tick, Value.int IntKind.u32 ord, Value.int IntKind.i64 st, Value.bool un, Value.int IntKind.i64 co, Value.slice K kl kc, Value.slice D dl dc] = [Value.int IntKind.i64 8, Value.int IntKind.u32 e, Value.int IntKind.u32 old, Value.int IntKind.u64 lsn, Value.int IntKind.u64 tick, Value.int IntKind.u32 ord, Value.int IntKind.i64 st, Value.bool un, Value.int IntKind.i64 co, Value.slice K kl kc, Value.slice D dl dc] ∧ 26 = 26) ∧ g6 = (Addr.add (Addr.mk g6 0 Option.none) 0).block ∧ g6 = (Addr.add (Addr.mk g6 0 Option.none) 1).block ∧ g6 = (Addr.add (Addr.mk g6 0 Option.none) 2).block ∧ w = w ∧ w = w ∧ w = w ∧ w = w ∧ ∀ (g8 : Nat), Array.size w.heap ≤ g8 → g8 = g8 ∧ g8 = g8 ∧ ∀ (g10 : Nat), Array.size w.heap ≤ g10 → g10 = g10 ∧ (g2 = g2 ∧ 1 ≤ 1 ∧ True) ∧ ∀ (g12 g13 : Nat) (x14 : List Go.Value), g12 = g2 ∨ Array.size w.heap ≤ g12 → 2 ≤ g13 → Bool.true = Bool.true ∧ g0 = g0 ∧ w = w ∧ ∀ (g17 : Nat), Array.size w.heap ≤ g17 → ∀ (g19 : Nat), Array.size w.heap ≤ g19 → Bool.true = Bool.true ∧ g17 = g17 ∧ g17 = g17 ∧ g19 = g19 ∧ (g17 = g17 ∧ [Value.int IntKind.i64 8, Value.int IntKind.u32 e, Value.int IntKind.u32 old, Value.int IntKind.u64 lsn, Value.int IntKind.u64 tick, Value.int IntKind.u32 ord, Value.int IntKind.i64 st, Value.bool un, Value.int IntKind.i64 co, Value.slice K kl kc, Value.slice D dl dc] = [Value.int IntKind.i64 8, Value.int IntKind.u32 e, Value.int IntKind.u32 old, Value.int IntKind.u64 lsn, Value.int IntKind.u64 tick, Value.int IntKind.u32 ord, Value.int IntKind.i64 st, Value.bool un, Value.int IntKind.i64 co, Value.slice K kl kc, Value.slice D dl dc] ∧ 26 = 26) ∧ g19 = (Addr.add (Addr.mk g19 0 Option.none) 0).block ∧ g19 = (Addr.add (Addr.mk g19 0 Option.none) 1).block ∧ g19 = (Addr.add (Addr.mk g19 0 Option.none) 2).block ∧ w = w ∧ w = w ∧ w = w ∧ w = w ∧ ∀ (g21 : Nat), Array.size w.heap ≤ g21 → g21 = g21 ∧ g21 = g21 ∧ ∀ (g23 : Nat), Array.size w.heap ≤ g23 → g23 = g23 ∧ g13 = g13 ∧ (g12 = g12 ∧ 2 ≤ g13 ∧ True) ∧ ∀ (g25 g26 : Nat) (x27 : List Go.Value), g25 = g12 ∨ Array.size w.heap ≤ g25 → 3 ≤ g26 → Bool.true = Bool.true ∧ g0 = g0 ∧ w = w ∧ ∀ (g30 : Nat), Array.size w.heap ≤ g30 → ∀ (g32 : Nat), Array.size w.heap ≤ g32 → Bool.true = Bool.true ∧ g30 = g30 ∧ g30 = g30 ∧ g32 = g32 ∧ (g30 = g30 ∧ [Value.int IntKind.i64 8, Value.int IntKind.u32 e, Value.int IntKind.u32 old, Value.int IntKind.u64 lsn, Value.int IntKind.u64 tick, Value.int IntKind.u32 ord, Value.int IntKind.i64 st, Value.bool un, Value.int IntKind.i64 co, Value.slice K kl kc, Value.slice D dl dc] = [Value.int IntKind.i64 8, Value.int IntKind.u32 e, Value.int IntKind.u32 old, Value.int IntKind.u64 lsn, Value.int IntKind.u64 tick, Value.int IntKind.u32 ord, Value.int IntKind.i64 st, Value.bool un, Value.int IntKind.i64 co, Value.slice K kl kc, Value.slice D dl dc] ∧ 26 = 26) ∧ g32 = (Addr.add (Addr.mk g32 0 Option.none) 0).block ∧ g32 = (Addr.add (Addr.mk g32 0 Option.none) 1).block ∧ g32 = (Addr.add (Addr.mk g32 0 Option.none) 2).block ∧ w = w ∧ w = w ∧ w = w ∧ w = w ∧ ∀ (g34 : Nat), Array.size w.heap ≤ g34 → g34 = g34 ∧ g34 = g34 ∧ ∀ (g36 : Nat), Array.size w.heap ≤ g36 → g36 = g36 ∧ g26 = g26 ∧ (g25 = g25 ∧ 3 ≤ g26 ∧ True) ∧ ∀ (g38 g39 : Nat) (x40 : List Go.Value), g38 = g25 ∨ Array.size w.heap ≤ g38 → 4 ≤ g39 → Bool.true = Bool.true ∧ g0 = g0 ∧ w = w ∧ ∀ (g43 : Nat), Array.size w.heap ≤ g43 → ∀ (g45 : Nat), Array.size w.heap ≤ g45 → g43 = g43 ∧ br un (g45 = g45 ∧ g45 = (Addr.add (Addr.mk g45 0 Option.none) 0).block ∧ g45 = (Addr.add (Addr.mk g45 0 Option.none) 1).block ∧ g45 = (Addr.add (Addr.mk g45 0 Option.none) 2).block ∧ w = w ∧ w = w ∧ w = w ∧ w = w ∧ ∀ (g47 : Nat), Array.size w.heap ≤ g47 → g47 = g47 ∧ g47 = g47 ∧ ∀ (g49 : Nat), Array.size w.heap ≤ g49 → g49 = g49 ∧ g39 = g39 ∧ (g38 = g38 ∧ 4 ≤ g39 ∧ True) ∧ ∀ (g51 g52 : Nat) (x53 : List Go.Value), g51 = g38 ∨ Array.size w.heap ≤ g51 → 5 ≤ g52 → Bool.true = Bool.true ∧ g0 = g0 ∧ w = w ∧ ∀ (g56 : Nat), Array.size w.heap ≤ g56 → ∀ (g58 : Nat), Array.size w.heap ≤ g58 → Bool.true = Bool.true ∧ g56 = g56 ∧ g56 = g56 ∧ g58 = g58 ∧ (g56 = g56 ∧ [Value.int IntKind.i64 8, Value.int IntKind.u32 e, Value.int IntKind.u32 old, Value.int IntKind.u64 lsn, Value.int IntKind.u64 tick, Value.int IntKind.u32 ord, Value.int IntKind.i64 st, Value.bool un, Value.int IntKind.i64 co, Value.slice K kl kc, Value.slice D dl dc] = [Value.int IntKind.i64 8, Value.int IntKind.u32 e, Value.int IntKind.u32 old, Value.int IntKind.u64 lsn, Value.int IntKind.u64 tick, Value.int IntKind.u32 ord, Value.int IntKind.i64 st, Value.bool un, Value.int IntKind.i64 co, Value.slice K kl kc, Value.slice D dl dc] ∧ 26 = 26) ∧ g58 = (Addr.add (Addr.mk g58 0 Option.none) 0).block ∧ g58 = (Addr.add (Addr.mk g58 0 Option.none) 1).block ∧ g58 = (Addr.add (Addr.mk g58 0 Option.none) 2).block ∧ w = w ∧ w = w ∧ w = w ∧ w = w ∧ ∀ (g60 : Nat), Array.size w.heap ≤ g60 → g60 = g60 ∧ g60 = g60 ∧ ∀ (g62 : Nat), Array.size w.heap ≤ g62 → g62 = g62 ∧ g52 = g52 ∧ (g51 = g51 ∧ 5 ≤ g52 ∧ True) ∧ ∀ (g64 g65 : Nat) (x66 : List Go.Value), g64 = g51 ∨ Array.size w.heap ≤ g64 → 6 ≤ g65 → Bool.true = Bool.true ∧ g0 = g0 ∧ w = w ∧ ∀ (g69 : Nat), Array.size w.heap ≤ g69 → ∀ (g71 : Nat), Array.size w.heap ≤ g71 → Bool.true = Bool.true ∧ g69 = g69 ∧ g69 = g69 ∧ g71 = g71 ∧ (g69 = g69 ∧ [Value.int IntKind.i64 8, Value.int IntKind.u32 e, Value.int IntKind.u32 old, Value.int IntKind.u64 lsn, Value.int IntKind.u64 tick, Value.int IntKind.u32 ord, Value.int IntKind.i64 st, Value.bool un, Value.int IntKind.i64 co, Value.slice K kl kc, Value.slice D dl dc] = [Value.int IntKind.i64 8, Value.int IntKind.u32 e, Value.int IntKind.u32 old, Value.int IntKind.u64 lsn, Value.int IntKind.u64 tick, Value.int IntKind.u32 ord, Value.int IntKind.i64 st, Value.bool un, Value.int IntKind.i64 co, Value.slice K kl kc, Value.slice D dl dc] ∧ 26 = 26) ∧ g71 = (Addr.add (Addr.mk g71 0 Option.none) 0).block ∧ g71 = (Addr.add (Addr.mk g71 0 Option.none) 1).block ∧ g71 = (Addr.add (Addr.mk g71 0 Option.none) 2).block ∧ w = w ∧ w = w ∧ w = w ∧ w = w ∧ ∀ (g73 : Nat), Array.size w.heap ≤ g73 → g73 = g73 ∧ g73 = g73 ∧ ∀ (g75 : Nat), Array.size w.heap ≤ g75 → g75 = g75 ∧ g65 = g65 ∧ (g64 = g64 ∧ 6 ≤ g65 ∧ True) ∧ ∀ (g77 g78 : Nat) (x79 : List Go.Value), g77 = g64 ∨ Array.size w.heap ≤ g77 → 7 ≤ g78 → (Int.le 0 0 ∧ Int.lt 0 7) ∧ g77 = g77 ∧ ∀ (g82 : Nat), Array.size w.heap ≤ g82 → g82 = g82 ∧ g82 = g82 ∧ g82 = g82 ∧ g82 = g82 ∧ g82 = g82 ∧ g82 = g82 ∧ ∀ (g84 g85 : Nat) (x86 : List Go.Value), Array.size w.heap ≤ g84 → 1 ≤ g85 → g84 = g84 ∧ True ∧ ∀ (g89 g90 : Nat) (x91 : List Go.Value), Array.size w.heap ≤ g89 → 1 ≤ g90 → (Int.le 0 1 ∧ Int.lt 1 7) ∧ g77 = g77 ∧ ∀ (g94 : Nat), Array.size w.heap ≤ g94 → g94 = g94 ∧ g94 = g94 ∧ g94 = g94 ∧ g94 = g94 ∧ br (Bool.false || decide (IntKind.wrap IntKind.u64 e ≥ IntKind.wrap IntKind.u64 (1 * 2 ^ Min.min (Int.toNat (IntKind.wrap IntKind.u64 (IntKind.wrap IntKind.i64 (8 * 4)))) (IntKind.bits IntKind.u64)))) (Done (Q Bool.true [] 2)) (g94 = g94 ∧ g94 = g94 ∧ ∀ (g96 g97 : Nat) (x98 : List Go.Value), Array.size w.heap ≤ g96 → 4 ≤ g97 → g96 = g96 ∧ g90 = g90 ∧ (g89 = g89 ∧ 1 ≤ g90 ∧ True) ∧ ∀ (g101 g102 : Nat) (x103 : List Go.Value), g101 = g89 ∨ Array.size w.heap ≤ g101 → 5 ≤ g102 → (Int.le 0 2 ∧ Int.lt 2 7) ∧ g77 = g77 ∧ ∀ (g106 : Nat), Array.size w.heap ≤ g106 → g106 = g106 ∧ g106 = g106 ∧ g106 = g106 ∧ g106 = g106 ∧ br (Bool.false || decide (IntKind.wrap IntKind.u64 ord ≥ IntKind.wrap IntKind.u64 (1 * 2 ^ Min.min (Int.toNat (IntKind.wrap IntKind.u64 (IntKind.wrap IntKind.i64 (8 * 4)))) (IntKind.bits IntKind.u64)))) (Done (Q Bool.true [] 2)) (g106 = g106 ∧ g106 = g106 ∧ ∀ (g108 g109 : Nat) (x110 : List Go.Value), Array.size w.heap ≤ g108 → 4 ≤ g109 → g108 = g108 ∧ g102 = g102 ∧ (g101 = g101 ∧ 5 ≤ g102 ∧ True) ∧ ∀ (g113 g114 : Nat) (x115 : List Go.Value), g113 = g101 ∨ Array.size w.heap ≤ g113 → 9 ≤ g114 → (Int.le 0 3 ∧ Int.lt 3 7) ∧ g77 = g77 ∧ ∀ (g118 : Nat), Array.size w.heap ≤ g118 → g118 = g118 ∧ g118 = g118 ∧ g118 = g118 ∧ g118 = g118 ∧ br (Bool.false || decide (IntKind.wrap IntKind.u64 st ≥ IntKind.wrap IntKind.u64 (1 * 2 ^ Min.min (Int.toNat (IntKind.wrap IntKind.u64 (IntKind.wrap IntKind.i64 (8 * 1)))) (IntKind.bits IntKind.u64)))) (Done (Q Bool.true [] 2)) (g118 = g118 ∧ g118 = g118 ∧ ∀ (g120 g121 : Nat) (x122 : List Go.Value), Array.size w.heap ≤ g120 → 1 ≤ g121 → g120 = g120 ∧ g114 = g114 ∧ (g113 = g113 ∧ 9 ≤ g114 ∧ True) ∧ ∀ (g125 g126 : Nat) (x127 : List Go.Value), g125 = g113 ∨ Array.size w.heap ≤ g125 → 10 ≤ g126 → (Int.le 0 4 ∧ Int.lt 4 7) ∧ g77 = g77 ∧ ∀ (g130 : Nat), Array.size w.heap ≤ g130 → g130 = g130 ∧ g130 = g130 ∧ g130 = g130 ∧ g130 = g130 ∧ g130 = g130 ∧ g130 = g130 ∧ ∀ (g132 g133 : Nat) (x134 : List Go.Value), Array.size w.heap ≤ g132 → 1 ≤ g133 → g132 = g132 ∧ g126 = g126 ∧ (g125 = g125 ∧ 10 ≤ g126 ∧ True) ∧ ∀ (g137 g138 : Nat) (x139 : List Go.Value), g137 = g125 ∨ Array.size w.heap ≤ g137 → 11 ≤ g138 → (Int.le 0 5 ∧ Int.lt 5 7) ∧ g77 = g77 ∧ ∀ (g142 : Nat), Array.size w.heap ≤ g142 → g142 = g142 ∧ g142 = g142 ∧ g142 = g142 ∧ g142 = g142 ∧ br (Bool.false || decide (IntKind.wrap IntKind.u64 co ≥ IntKind.wrap IntKind.u64 (1 * 2 ^ Min.min (Int.toNat (IntKind.wrap IntKind.u64 (IntKind.wrap IntKind.i64 (8 * 1)))) (IntKind.bits IntKind.u64)))) (Done (Q Bool.true [] 2)) (g142 = g142 ∧ g142 = g142 ∧ ∀ (g144 g145 : Nat) (x146 : List Go.Value), Array.size w.heap ≤ g144 → 1 ≤ g145 → g144 = g144 ∧ g138 = g138 ∧ (g137 = g137 ∧ 11 ≤ g138 ∧ True) ∧ ∀ (g149 g150 : Nat) (x151 : List Go.Value), g149 = g137 ∨ Array.size w.heap ≤ g149 → 12 ≤ g150 → (Int.le 0 6 ∧ Int.lt 6 7) ∧ g77 = g77 ∧ ∀ (g154 : Nat), Array.size w.heap ≤ g154 → g154 = g154 ∧ g154 = g154 ∧ g154 = g154 ∧ br (decide ((↑dl : Int) > 255)) (Done (Q Bool.true [] 3)) (g154 = g154 ∧ ∀ (g156 : Nat), Array.size w.heap ≤ g156 → g154 = g154 ∧ ∃ (v158 : List Go.Value), (List.length v158 = dl * 1 ∧ List.all v158 flat = Bool.true ∧ (0 < dl → ∃ (v160 : Go.Addr), D = Option.some v160 ∧ (v160.block < Array.size w.heap ∧ True) ∧ cellsAt w v160 0 v158)) ∧ (g156 = g156 ∧ 1 ≤ 1 ∧ br (Nat.ble ((1 + dl) * 1) 140737488355328) True (Nat.le ((1 + dl) * 1) 140737488355328)) ∧ ∀ (g161 g162 : Nat) (x163 : List Go.Value), g161 = g156 ∨ Array.size w.heap ≤ g161 → 1 + dl ≤ g162 → ∀ (x166 : List Go.Value), x166 = List.take ((1 + dl) * 1) (List.drop 0 ([Value.int IntKind.u8 (IntKind.wrap IntKind.u8 (↑dl : Int))] ++ v158 ++ x163)) → (g161 = g161 ∧ 0 + (1 + dl) * 1 ≤ List.length ([Value.int IntKind.u8 (IntKind.wrap IntKind.u8 (↑dl : Int))] ++ v158 ++ x163) ∧ List.all x166 flat = Bool.true) ∧ g150 = g150 ∧ (g149 = g149 ∧ 12 ≤ g150 ∧ br (Nat.ble ((12 + (1 + dl)) * 1) 140737488355328) True (Nat.le ((12 + (1 + dl)) * 1) 140737488355328)) ∧ ∀ (g168 g169 : Nat) (x170 : List Go.Value), g168 = g149 ∨ Array.size w.heap ≤ g168 → 12 + (1 + dl) ≤ g169 → g169 = g169 ∧ (g168 = g168 ∧ 12 + (1 + dl) ≤ g169) ∧ ∀ (x173 : List Go.Value), x173 = List.take (12 + (1 + dl)) ([Value.int IntKind.u8 8, Value.int IntKind.u8 (M17.rb 3 (IntKind.wrap IntKind.u64 e)), Value.int IntKind.u8 (M17.rb 2 (IntKind.wrap IntKind.u64 e)), Value.int IntKind.u8 (M17.rb 1 (IntKind.wrap IntKind.u64 e)), Value.int IntKind.u8 (M17.rb 0 (IntKind.wrap IntKind.u64 e)), Value.int IntKind.u8 (M17.rb 3 (IntKind.wrap IntKind.u64 ord)), Value.int IntKind.u8 (M17.rb 2 (IntKind.wrap IntKind.u64 ord)), Value.int IntKind.u8 (M17.rb 1 (IntKind.wrap IntKind.u64 ord)), Value.int IntKind.u8 (M17.rb 0 (IntKind.wrap IntKind.u64 ord)), Value.int IntKind.u8 (M17.rb 0 (IntKind.wrap IntKind.u64 st)), Value.int IntKind.u8 1, Value.int IntKind.u8 (M17.rb 0 (IntKind.wrap IntKind.u64 co))] ++ x166 ++ x170) → Done (Q Bool.false x173 0))))))) (g45 = g45 ∧ g45 = (Addr.add (Addr.mk g45 0 Option.none) 0).block ∧ g45 = (Addr.add (Addr.mk g45 0 Option.none) 1).block ∧ g45 = (Addr.add (Addr.mk g45 0 Option.none) 2).block ∧ w = w ∧ w = w ∧ w = w ∧ w = w ∧ ∀ (g175 : Nat), Array.size w.heap ≤ g175 → g175 = g175 ∧ g175 = g175 ∧ ∀ (g177 : Nat), Array.size w.heap ≤ g177 → g177 = g177 ∧ g39 = g39 ∧ (g38 = g38 ∧ 4 ≤ g39 ∧ True) ∧ ∀ (g179 g180 : Nat) (x181 : List Go.Value), g179 = g38 ∨ Array.size w.heap ≤ g179 → 5 ≤ g180 → Bool.true = Bool.true ∧ g0 = g0 ∧ w = w ∧ ∀ (g184 : Nat), Array.size w.heap ≤ g184 → ∀ (g186 : Nat), Array.size w.heap ≤ g186 → Bool.true = Bool.true ∧ g184 = g184 ∧ g184 = g184 ∧ g186 = g186 ∧ (g184 = g184 ∧ [Value.int IntKind.i64 8, Value.int IntKind.u32 e, Value.int IntKind.u32 old, Value.int IntKind.u64 lsn, Value.int IntKind.u64 tick, Value.int IntKind.u32 ord, Value.int IntKind.i64 st, Value.bool un, Value.int IntKind.i64 co, Value.slice K kl kc, Value.slice D dl dc] = [Value.int IntKind.i64 8, Value.int IntKind.u32 e, Value.int IntKind.u32 old, Value.int IntKind.u64 lsn, Value.int IntKind.u64 tick, Value.int IntKind.u32 ord, Value.int IntKind.i64 st, Value.bool un, Value.int IntKind.i64 co, Value.slice K kl kc, Value.slice D dl dc] ∧ 26 = 26) ∧ g186 = (Addr.add (Addr.mk g186 0 Option.none) 0).block ∧ g186 = (Addr.add (Addr.mk g186 0 Option.none) 1).block ∧ g186 = (Addr.add (Addr.mk g186 0 Option.none) 2).block ∧ w = w ∧ w = w ∧ w = w ∧ w = w ∧ ∀ (g188 : Nat), Array.size w.heap ≤ g188 → g188 = g188 ∧ g188 = g188 ∧ ∀ (g190 : Nat), Array.size w.heap ≤ g190 → g190 = g190 ∧ g180 = g180 ∧ (g179 = g179 ∧ 5 ≤ g180 ∧ True) ∧ ∀ (g192 g193 : Nat) (x194 : List Go.Value), g192 = g179 ∨ Array.size w.heap ≤ g192 → 6 ≤ g193 → Bool.true = Bool.true ∧ g0 = g0 ∧ w = w ∧ ∀ (g197 : Nat), Array.size w.heap ≤ g197 → ∀ (g199 : Nat), Array.size w.heap ≤ g199 → Bool.true = Bool.true ∧ g197 = g197 ∧ g197 = g197 ∧ g199 = g199 ∧ (g197 = g197 ∧ [Value.int IntKind.i64 8, Value.int IntKind.u32 e, Value.int IntKind.u32 old, Value.int IntKind.u64 lsn, Value.int IntKind.u64 tick, Value.int IntKind.u32 ord, Value.int IntKind.i64 st, Value.bool un, Value.int IntKind.i64 co, Value.slice K kl kc, Value.slice D dl dc] = [Value.int IntKind.i64 8, Value.int IntKind.u32 e, Value.int IntKind.u32 old, Value.int IntKind.u64 lsn, Value.int IntKind.u64 tick, Value.int IntKind.u32 ord, Value.int IntKind.i64 st, Value.bool un, Value.int IntKind.i64 co, Value.slice K kl kc, Value.slice D dl dc] ∧ 26 = 26) ∧ g199 = (Addr.add (Addr.mk g199 0 Option.none) 0).block ∧ g199 = (Addr.add (Addr.mk g199 0 Option.none) 1).block ∧ g199 = (Addr.add (Addr.mk g199 0 Option.none) 2).block ∧ w = w ∧ w = w ∧ w = w ∧ w = w ∧ ∀ (g201 : Nat), Array.size w.heap ≤ g201 → g201 = g201 ∧ g201 = g201 ∧ ∀ (g203 : Nat), Array.size w.heap ≤ g203 → g203 = g203 ∧ g193 = g193 ∧ (g192 = g192 ∧ 6 ≤ g193 ∧ True) ∧ ∀ (g205 g206 : Nat) (x207 : List Go.Value), g205 = g192 ∨ Array.size w.heap ≤ g205 → 7 ≤ g206 → (Int.le 0 0 ∧ Int.lt 0 7) ∧ g205 = g205 ∧ ∀ (g210 : Nat), Array.size w.heap ≤ g210 → g210 = g210 ∧ g210 = g210 ∧ g210 = g210 ∧ g210 = g210 ∧ g210 = g210 ∧ g210 = g210 ∧ ∀ (g212 g213 : Nat) (x214 : List Go.Value), Array.size w.heap ≤ g212 → 1 ≤ g213 → g212 = g212 ∧ True ∧ ∀ (g217 g218 : Nat) (x219 : List Go.Value), Array.size w.heap ≤ g217 → 1 ≤ g218 → (Int.le 0 1 ∧ Int.lt 1 7) ∧ g205 = g205 ∧ ∀ (g222 : Nat), Array.size w.heap ≤ g222 → g222 = g222 ∧ g222 = g222 ∧ g222 = g222 ∧ g222 = g222 ∧ br (Bool.false || decide (IntKind.wrap IntKind.u64 e ≥ IntKind.wrap IntKind.u64 (1 * 2 ^ Min.min (Int.toNat (IntKind.wrap IntKind.u64 (IntKind.wrap IntKind.i64 (8 * 4)))) (IntKind.bits IntKind.u64)))) (Done (Q Bool.true [] 2)) (g222 = g222 ∧ g222 = g222 ∧ ∀ (g224 g225 : Nat) (x226 : List Go.Value), Array.size w.heap ≤ g224 → 4 ≤ g225 → g224 = g224 ∧ g218 = g218 ∧ (g217 = g217 ∧ 1 ≤ g218 ∧ True) ∧ ∀ (g229 g230 : Nat) (x231 : List Go.Value), g229 = g217 ∨ Array.size w.heap ≤ g229 → 5 ≤ g230 → (Int.le 0 2 ∧ Int.lt 2 7) ∧ g205 = g205 ∧ ∀ (g234 : Nat), Array.size w.heap ≤ g234 → g234 = g234 ∧ g234 = g234 ∧ g234 = g234 ∧ g234 = g234 ∧ br (Bool.false || decide (IntKind.wrap IntKind.u64 ord ≥ IntKind.wrap IntKind.u64 (1 * 2 ^ Min.min (Int.toNat (IntKind.wrap IntKind.u64 (IntKind.wrap IntKind.i64 (8 * 4)))) (IntKind.bits IntKind.u64)))) (Done (Q Bool.true [] 2)) (g234 = g234 ∧ g234 = g234 ∧ ∀ (g236 g237 : Nat) (x238 : List Go.Value), Array.size w.heap ≤ g236 → 4 ≤ g237 → g236 = g236 ∧ g230 = g230 ∧ (g229 = g229 ∧ 5 ≤ g230 ∧ True) ∧ ∀ (g241 g242 : Nat) (x243 : List Go.Value), g241 = g229 ∨ Array.size w.heap ≤ g241 → 9 ≤ g242 → (Int.le 0 3 ∧ Int.lt 3 7) ∧ g205 = g205 ∧ ∀ (g246 : Nat), Array.size w.heap ≤ g246 → g246 = g246 ∧ g246 = g246 ∧ g246 = g246 ∧ g246 = g246 ∧ br (Bool.false || decide (IntKind.wrap IntKind.u64 st ≥ IntKind.wrap IntKind.u64 (1 * 2 ^ Min.min (Int.toNat (IntKind.wrap IntKind.u64 (IntKind.wrap IntKind.i64 (8 * 1)))) (IntKind.bits IntKind.u64)))) (Done (Q Bool.true [] 2)) (g246 = g246 ∧ g246 = g246 ∧ ∀ (g248 g249 : Nat) (x250 : List Go.Value), Array.size w.heap ≤ g248 → 1 ≤ g249 → g248 = g248 ∧ g242 = g242 ∧ (g241 = g241 ∧ 9 ≤ g242 ∧ True) ∧ ∀ (g253 g254 : Nat) (x255 : List Go.Value), g253 = g241 ∨ Array.size w.heap ≤ g253 → 10 ≤ g254 → (Int.le 0 4 ∧ Int.lt 4 7) ∧ g205 = g205 ∧ ∀ (g258 : Nat), Array.size w.heap ≤ g258 → g258 = g258 ∧ g258 = g258 ∧ g258 = g258 ∧ g258 = g258 ∧ g258 = g258 ∧ g258 = g258 ∧ ∀ (g260 g261 : Nat) (x262 : List Go.Value), Array.size w.heap ≤ g260 → 1 ≤ g261 → g260 = g260 ∧ g254 = g254 ∧ (g253 = g253 ∧ 10 ≤ g254 ∧ True) ∧ ∀ (g265 g266 : Nat) (x267 : List Go.Value), g265 = g253 ∨ Array.size w.heap ≤ g265 → 11 ≤ g266 → (Int.le 0 5 ∧ Int.lt 5 7) ∧ g205 = g205 ∧ ∀ (g270 : Nat), Array.size w.heap ≤ g270 → g270 = g270 ∧ g270 = g270 ∧ g270 = g270 ∧ g270 = g270 ∧ br (Bool.false || decide (IntKind.wrap IntKind.u64 co ≥ IntKind.wrap IntKind.u64 (1 * 2 ^ Min.min (Int.toNat (IntKind.wrap IntKind.u64 (IntKind.wrap IntKind.i64 (8 * 1)))) (IntKind.bits IntKind.u64)))) (Done (Q Bool.true [] 2)) (g270 = g270 ∧ g270 = g270 ∧ ∀ (g272 g273 : Nat) (x274 : List Go.Value), Array.size w.heap ≤ g272 → 1 ≤ g273 → g272 = g272 ∧ g266 = g266 ∧ (g265 = g265 ∧ 11 ≤ g266 ∧ True) ∧ ∀ (g277 g278 : Nat) (x279 : List Go.Value), g277 = g265 ∨ Array.size w.heap ≤ g277 → 12 ≤ g278 → (Int.le 0 6 ∧ Int.lt 6 7) ∧ g205 = g205 ∧ ∀ (g282 : Nat), Array.size w.heap ≤ g282 → g282 = g282 ∧ g282 = g282 ∧ g282 = g282 ∧ br (decide ((↑dl : Int) > 255)) (Done (Q Bool.true [] 3)) (g282 = g282 ∧ ∀ (g284 : Nat), Array.size w.heap ≤ g284 → g282 = g282 ∧ ∃ (v286 : List Go.Value), (List.length v286 = dl * 1 ∧ List.all v286 flat = Bool.true ∧ (0 < dl → ∃ (v288 : Go.Addr), D = Option.some v288 ∧ (v288.block < Array.size w.heap ∧ True) ∧ cellsAt w v288 0 v286)) ∧ (g284 = g284 ∧ 1 ≤ 1 ∧ br (Nat.ble ((1 + dl) * 1) 140737488355328) True (Nat.le ((1 + dl) * 1) 140737488355328)) ∧ ∀ (g289 g290 : Nat) (x291 : List Go.Value), g289 = g284 ∨ Array.size w.heap ≤ g289 → 1 + dl ≤ g290 → ∀ (x294 : List Go.Value), x294 = List.take ((1 + dl) * 1) (List.drop 0 ([Value.int IntKind.u8 (IntKind.wrap IntKind.u8 (↑dl : Int))] ++ v286 ++ x291)) → (g289 = g289 ∧ 0 + (1 + dl) * 1 ≤ List.length ([Value.int IntKind.u8 (IntKind.wrap IntKind.u8 (↑dl : Int))] ++ v286 ++ x291) ∧ List.all x294 flat = Bool.true) ∧ g278 = g278 ∧ (g277 = g277 ∧ 12 ≤ g278 ∧ br (Nat.ble ((12 + (1 + dl)) * 1) 140737488355328) True (Nat.le ((12 + (1 + dl)) * 1) 140737488355328)) ∧ ∀ (g296 g297 : Nat) (x298 : List Go.Value), g296 = g277 ∨ Array.size w.heap ≤ g296 → 12 + (1 + dl) ≤ g297 → g297 = g297 ∧ (g296 = g296 ∧ 12 + (1 + dl) ≤ g297) ∧ ∀ (x301 : List Go.Value), x301 = List.take (12 + (1 + dl)) ([Value.int IntKind.u8 8, Value.int IntKind.u8 (M17.rb 3 (IntKind.wrap IntKind.u64 e)), Value.int IntKind.u8 (M17.rb 2 (IntKind.wrap IntKind.u64 e)), Value.int IntKind.u8 (M17.rb 1 (IntKind.wrap IntKind.u64 e)), Value.int IntKind.u8 (M17.rb 0 (IntKind.wrap IntKind.u64 e)), Value.int IntKind.u8 (M17.rb 3 (IntKind.wrap IntKind.u64 ord)), Value.int IntKind.u8 (M17.rb 2 (IntKind.wrap IntKind.u64 ord)), Value.int IntKind.u8 (M17.rb 1 (IntKind.wrap IntKind.u64 ord)), Value.int IntKind.u8 (M17.rb 0 (IntKind.wrap IntKind.u64 ord)), Value.int IntKind.u8 (M17.rb 0 (IntKind.wrap IntKind.u64 st)), Value.int IntKind.u8 0, Value.int IntKind.u8 (M17.rb 0 (IntKind.wrap IntKind.u64 co))] ++ x294 ++ x298) → Done (Q Bool.false x301 0))))))))) = codeVC (⟨TT.plain _, (fun f => Nat.beq f 36 || Nat.beq f 37 || Nat.beq f 48), noFar, true, noInv, noInv, pvrchk, spnum w⟩ : Cfg Try.prog) w 300 (Try.f17.body.getD .skip) ⟨⟨w, []⟩, mkT Try.f17.ntmps [.agg #[.int .i64 8, .int .u32 e, .int .u32 old, .int .u64 lsn, .int .u64 tick, .int .u32 ord, .int .i64 st, .bool un, .int .i64 co, .slice K kl kc, .slice D dl dc]] [[[none, none, none, none, none, none, none, none, none, some 1001, some 1001]]], []⟩ (retK Try.prog Try.f17 fun b v s h => newK h (putE 5 h v s fun z l c => Done (Q z l c))) := by
  kernel_rfl

set_option maxHeartbeats 8000000 in
theorem rput8_form (e old lsn tick ord st : Int) (un : Bool) (co : Int) (K D : Option Addr) (kc dc : Nat) (ks ds : List Int) (w : World) (BK : BytesAt w (.slice K ks.length kc) ks.length ks) (BD : BytesAt w (.slice D ds.length dc) ds.length ds) (hr : (0 ≤ e ∧ e ≤ 4294967295) ∧ (0 ≤ old ∧ old ≤ 4294967295) ∧ (0 ≤ lsn ∧ lsn ≤ 18446744073709551615) ∧ (0 ≤ tick ∧ tick ≤ 18446744073709551615) ∧ (0 ≤ ord ∧ ord ≤ 4294967295)) :
    codeVC (⟨TT.plain _, (fun f => Nat.beq f 36 || Nat.beq f 37 || Nat.beq f 48), noFar, true, noInv, noInv, pvrchk, spnum w⟩ : Cfg Try.prog) w 300 (Try.f17.body.getD .skip) ⟨⟨w, []⟩, mkT Try.f17.ntmps [.agg #[.int .i64 8, .int .u32 e, .int .u32 old, .int .u64 lsn, .int .u64 tick, .int .u32 ord, .int .i64 st, .bool un, .int .i64 co, .slice K ks.length kc, .slice D ds.length dc]] [[[none, none, none, none, none, none, none, none, none, some 1001, some 1001]]], []⟩ (retK Try.prog Try.f17 fun b v s h => newK h (putE 5 h v s fun z l c => Done (z = (!(c == 0)) ∧ l = u8s (mRPut 8 e old lsn tick ord st un co ks ds).1 ∧ c = (mRPut 8 e old lsn tick ord st un co ks ds).2))) := by
  refine (walk_rput8 e old lsn tick ord st un co K D ks.length kc ds.length dc w (fun z l c => z = (!(c == 0)) ∧ l = u8s (mRPut 8 e old lsn tick ord st un co ks ds).1 ∧ c = (mRPut 8 e old lsn tick ord st un co ks ds).2)).mp ?_
  obtain ⟨⟨e0, e1⟩, ⟨o0, o1⟩, ⟨l0, l1⟩, ⟨t0, t1⟩, ⟨d0, d1⟩⟩ := hr
  by_cases hz : mRChk 8 e old lsn tick ord st un co ks.length ds.length = 0
  · obtain ⟨_, s0, s1, c0, c1, k1, x1⟩ := rchk_rg hz
    have hm : mRPut 8 e old lsn tick ord st un co ks ds = (be1n 8 ++ prts e old lsn tick ord st un co ks ds [69, 79, 83, 85, 67, 68], 0) := by unfold mRPut; rw [hz]; rfl
    have we : IntKind.u64.wrap e = e := by rw [w64]; omega
    have wo : IntKind.u64.wrap old = old := by rw [w64]; omega
    have wd : IntKind.u64.wrap ord = ord := by rw [w64]; omega
    have ws : IntKind.u64.wrap st = st := by rw [w64]; omega
    have wc : IntKind.u64.wrap co = co := by rw [w64]; omega
    have re := fun k => rb_eq (n := e) e0 (by omega) k
    have ro := fun k => rb_eq (n := old) o0 (by omega) k
    have rl := fun k => rb_eq (n := lsn) l0 (by omega) k
    have rt := fun k => rb_eq (n := tick) t0 (by omega) k
    have rd := fun k => rb_eq (n := ord) d0 (by omega) k
    have rs := fun k => rb_eq (n := st) s0 (by omega) k
    have rc := fun k => rb_eq (n := co) c0 (by omega) k
    have rk : rb 0 (IntKind.u64.wrap 8) = 8 := by decide
    have r0 : rb 0 0 = 0 := by decide
    have r1 : rb 0 1 = 1 := by decide
    rw [hz, hm]
    clear hz hm
    repeat' (first | refine And.intro rfl ?_ | refine And.intro ?_ ?_ | apply br_intro | (refine tkI (by first | rfl | exact sz5) (by simp [u8s]; try omega) ?_) | (refine tkD (by first | rfl | exact sz5) (by simp [u8s]; try omega) ?_) | (refine tkL (by simp [u8s]; try omega) ?_) | (refine ⟨_, BK.far (h := []) rfl, ?_⟩) | (refine ⟨_, BD.far (h := []) rfl, ?_⟩) | intro _)
    all_goals try first | rfl | exact trivial | assumption | (show (_ : Int) ≤ _; decide) | (show (_ : Int) < _; decide) | (show (_ : Nat) ≤ _; omega) | exact all_flat _ | (simp [u8s, flat]; done) | (simp [u8s]; omega)
    all_goals first
      | (refine Done.mk ⟨rfl, ?_, rfl⟩; simp [u8s, we, wo, wd, ws, wc, re, ro, rl, rt, rd, rs, rc, rk, r0, r1, prts, prt, be1n, be4n, be8n, *]; done)
      | (refine Done.mk ⟨rfl, ?_, rfl⟩; simp [u8s, we, wo, wd, ws, wc, re, ro, rl, rt, rd, rs, rc, rk, r0, r1, prts, prt, be1n, be4n, be8n, *]; (try rw [IntKind.wrap]); simp [IntKind.wrap, IntKind.signed, IntKind.bits]; omega)
      | (exfalso; rename_i hq; simp at hq; done)
      | (exfalso; rename_i hq; simp at hq; omega)
      | (exfalso; rename_i hq; simp [IntKind.wrap, IntKind.bits, IntKind.signed] at hq; omega)
  · have hz' : mRChk 8 e old lsn tick ord st un co ks.length ds.length = 50 := (rchk_01 _ _ _ _ _ _ _ _ _ _ _).resolve_right hz
    have hm : mRPut 8 e old lsn tick ord st un co ks ds = ([], 50) := by unfold mRPut; rw [hz']; rfl
    rw [hz', hm]
    intro g0 hg0
    exact ⟨rfl, br_intro (fun _ => ⟨rfl, rfl, rfl⟩) (fun h => absurd h (by decide))⟩

end Go.VX

