/- Texts of this claim, one behind the other (3). -/
import Derived.Test.YtahldljkhjebgaaMEp2
import Derived.Test.YtahldljkhjebgaaProg
/- The verified walk VX: more kinds of contracts. -/
namespace Go.VX
set_option linter.unusedVariables false
open Go.RowKit (Below)
variable {gh : Gh}

/-- a method whose answer is told by a name of its own, under a condition -/
def addStC {ρ : Type} (f0 : Nat) (ty : TypeId) (pat : List Value → List Value → Option (Prop × ρ × (ρ → Value × List Value))) (rest : CV) : CV := fun f args sh b h K => match Nat.beq f f0 with
  | true => match args, hd1 (match sh with
      | s :: _ => s
      | [] => []) with
    | .pointer (some ⟨g, 0, none⟩) :: r, some i => match h[i]? with
      | some ⟨g', c, e, s, none, n, .lit⟩ => (g' = g ∧ e = ty) ∧ match pat r c with
        | some (p, x, F) => p ∧ ∀ y' : ρ, x = y' → (match F y' with
          | (v, c') => forceW v fun v => forceL c' fun c' => setK h i ⟨g', c', e, s, none, n, .lit⟩ fun h => K b v [] h)
        | none => False
      | _ => False
    | _, _ => False
  | false => rest f args sh b h K

theorem addStC_ok {ρ : Type} {P : Program} {wE : World} {f0 : Nat} {ty : TypeId} {pat : List Value → List Value → Option (Prop × ρ × (ρ → Value × List Value))} {rest : CV}
    (hc : ∀ r g c p x F w, pat r c = some (p, x, F) → p → w.heap[g]? = some (.cells c.toArray ty (0, 0)) → Calls P f0 (.pointer (some ⟨g, 0, none⟩) :: r).toArray w fun e w' => e = .returned (F x).1 ∧ Keep g (F x).2 ty w w') (hr : CVok P wE rest) :
    CVok P wE (addStC f0 ty pat rest) := by
  intro gh f args sh b h K w H hk
  unfold addStC at hk
  split at hk
  · rename_i hf
    obtain rfl := Nat.eq_of_beq_eq_true hf
    split at hk
    · rename_i g r i hi0
      split at hk
      · rename_i g' c e s n hi
        obtain ⟨⟨rfl, rfl⟩, hk⟩ := hk
        split at hk
        · rename_i p x F hp
          obtain ⟨hcond, hk⟩ := hk
          have hk := hk x rfl
          simp only [forceW_eq, forceL_eq, setK_eq] at hk
          have hg : w.heap[g']? = some (.cells c.toArray e (0, 0)) := H.bl _ (List.mem_of_getElem? hi)
          exact (hc r g' c p x F w hp hcond hg).mono fun e w' ⟨he, hb⟩ => ⟨(F x).1, [], b, _, he, H.kept hi hb, hk⟩
        · exact hk.elim
      · exact hk.elim
    · exact hk.elim
  · exact hr f args sh b h K w H hk

/-- a method that answers a row of its own; its receiver stays; under a condition -/
def addNewMC (f0 : Nat) (ty ety : TypeId) (pat : List Value → List Value → Option (Prop × Nat × List Value)) (rest : CV) : CV := fun f args sh b h K => match Nat.beq f f0 with
  | true => match args, hd1 (match sh with
      | s :: _ => s
      | [] => []) with
    | .pointer (some ⟨g, 0, none⟩) :: r, some i => match h[i]? with
      | some ⟨g', c, e, _, none, _, .lit⟩ => (g' = g ∧ e = ty) ∧ match pat r c with
        | some (p, n, l) => p ∧ rowCV ety b h n l fun v s h => K b v s h
        | none => False
      | _ => False
    | _, _ => False
  | false => rest f args sh b h K

theorem addNewMC_ok {P : Program} {wE : World} {f0 : Nat} {ty ety : TypeId} {pat : List Value → List Value → Option (Prop × Nat × List Value)} {rest : CV}
    (hc : ∀ r g c p n l w, pat r c = some (p, n, l) → p → w.heap[g]? = some (.cells c.toArray ty (0, 0)) → Calls P f0 (.pointer (some ⟨g, 0, none⟩) :: r).toArray w fun e w' => ∃ v, e = .returned v ∧ NewRow w.heap.size w' ety v n l ∧ Below w.heap.size w w') (hr : CVok P wE rest) :
    CVok P wE (addNewMC f0 ty ety pat rest) := by
  intro gh f args sh b h K w H hk
  unfold addNewMC at hk
  split at hk
  · rename_i hf
    obtain rfl := Nat.eq_of_beq_eq_true hf
    split at hk
    · rename_i g r i hi0
      split at hk
      · rename_i g' c e s n hi
        obtain ⟨⟨rfl, rfl⟩, hk⟩ := hk
        split at hk
        · rename_i p n l hp
          obtain ⟨hcond, hk⟩ := hk
          have hg : w.heap[g']? = some (.cells c.toArray e (0, 0)) := H.bl _ (List.mem_of_getElem? hi)
          refine (hc r g' c p n l w hp hcond hg).mono fun e w' ⟨v, he, N, B⟩ => ?_
          obtain ⟨s, h', H', hk⟩ := rowCV_out H B N hk
          exact ⟨v, s, b, h', he, H', hk⟩
        · exact hk.elim
      · exact hk.elim
    · exact hk.elim
  · exact hr f args sh b h K w H hk

theorem HC.startS {w : World} {g : Nat} {c : List Value} {ty : TypeId} (hg : w.heap[g]? = some (.cells c.toArray ty (0, 0))) : HC [] w ⟨w, []⟩ [⟨g, c, ty, [], none, false, .sym⟩] w :=
  ⟨rfl, rfl, rfl, Nat.le_refl _, Nat.le_refl _, fun b hb => by obtain rfl := List.mem_singleton.1 hb; exact hg, List.pairwise_singleton _ _, (fun b hb hn => by obtain rfl := List.mem_singleton.1 hb; cases hn), (fun b hb => by obtain rfl := List.mem_singleton.1 hb; trivial), (fun _ _ _ _ => rfl), (fun _ _ _ => rfl), fun _ h => by cases h⟩

/-- a function that writes over a row of bytes that it was given -/
def addMutE (f0 : Nat) (ety : TypeId) (q : List Value → Prop) (rest : CV) : CV := fun f args sh b h K => match Nat.beq f f0 with
  | true => match args, hd1 (match sh with
      | s :: _ => s
      | [] => []) with
    | [.slice (some ⟨g, 0, none⟩) n cap], some i => match h[i]? with
      | some ⟨g', c, e, _, none, bn, _⟩ => (g' = g ∧ e = ety ∧ n ≤ c.length ∧ n ≤ maxLen ∧ q (c.take n)) ∧ ∀ c' : List Value, c'.length = c.length → setK h i ⟨g', c', e, [], none, bn, .sym⟩ fun h => K b (.tuple #[]) [] h
      | _ => False
    | _, _ => False
  | false => rest f args sh b h K

theorem addMutE_ok {P : Program} {wE : World} {f0 : Nat} {ety : TypeId} {q : List Value → Prop} {rest : CV}
    (hc : ∀ (g n cap : Nat) (c : List Value) (w : World), w.heap[g]? = some (.cells c.toArray ety (0, 0)) → n ≤ c.length → n ≤ maxLen → q (c.take n) → Calls P f0 [Value.slice (some ⟨g, 0, none⟩) n cap].toArray w fun en w' => en = .returned (.tuple #[]) ∧ ∃ c' : List Value, c'.length = c.length ∧ Keep g c' ety w w') (hr : CVok P wE rest) :
    CVok P wE (addMutE f0 ety q rest) := by
  intro gh f args sh b h K w H hk
  unfold addMutE at hk
  split at hk
  · rename_i hf
    obtain rfl := Nat.eq_of_beq_eq_true hf
    split at hk
    · rename_i g n cap i hi0
      split at hk
      · rename_i g' c e s bn y hi
        obtain ⟨⟨rfl, rfl, h1, h2, h3⟩, hk⟩ := hk
        have hg : w.heap[g']? = some (.cells c.toArray e (0, 0)) := H.bl _ (List.mem_of_getElem? hi)
        refine (hc g' n cap c w hg h1 h2 h3).mono fun en w' ⟨he, c', hl, k⟩ => ?_
        have hk := hk c' hl
        rw [setK_eq] at hk
        refine ⟨_, _, b, _, he, ?_, hk⟩
        exact H.chg (b' := ⟨g', c', e, [], none, bn, .sym⟩) hi rfl rfl (fun _ => trivial) k.os k.tape k.output k.size fun r hr => by
          by_cases e : r = g'
          · subst e; rw [if_pos rfl]; exact k.at_
          · rw [if_neg e]; exact k.block r hr e
      · exact hk.elim
    · exact hk.elim
  · exact hr f args sh b h K w H hk

theorem setsFrom_one {c : List Value} {o : Nat} {v : Value} : setsFrom c o [v] = c.set o v := rfl
end Go.VX

/- The verified walk VX: contracts about bytes that a function is given, and pointers that come out. -/
namespace Go.VX
set_option linter.unusedVariables false
open Go.RowKit (Below)
variable {gh : Gh}

/-- bytes that a function is given: how many, which, and whether these are literal -/
def bytesK (wE : World) (b : Base) (h : List Blk) (x : Value) (s : Sh) (k : Nat → List Int → Bool → Prop) : Prop :=
  newsK wE b h 1 x s fun m vs ly => match ly with
    | true => match numsOf vs with
      | some ns => k m ns true
      | none => False
    | false => ∃ ns : List Int, vs = ns.map (Value.int .u8) ∧ k m ns false

/-- a slice of bytes, and which these are -/
def BytesAt (w : World) (v : Value) (m : Nat) (ns : List Int) : Prop :=
  ∃ A c, v = .slice A m c ∧ ns.length = m ∧ (0 < m → A ≠ none) ∧ ∀ a, A = some a → ∀ j n, ns[j]? = some n → w.cell? (a.add j) = some (.int .u8 n)

theorem bytesK_out {wE w : World} {b : Base} {h : List Blk} {x : Value} {s : Sh} {k : Nat → List Int → Bool → Prop} (H : HC gh wE b h w) (hk : bytesK wE b h x s k) : ∃ m ns y, BytesAt w x m ns ∧ k m ns y := by
  obtain ⟨A, m, c, vs, y, hx, hl, hfl, hA, hc, hk⟩ := newsK_out H hk
  have fin : ∀ ns : List Int, vs = ns.map (Value.int .u8) → BytesAt w x m ns := by
    rintro ns rfl
    refine ⟨A, c, hx, by simpa using hl, hA, fun a ha j n hn => hc a ha j _ ?_⟩
    rw [List.getElem?_map, hn]; rfl
  split at hk
  · split at hk
    · rename_i ns hns
      exact ⟨m, ns, _, fin ns (numsOf_out hns), hk⟩
    · exact hk.elim
  · obtain ⟨ns, hv, hk⟩ := hk
    exact ⟨m, ns, _, fin ns hv, hk⟩

theorem cell_lt {w : World} {a : Addr} {v : Value} (h : w.cell? a = some v) : a.block < w.heap.size := by
  unfold World.cell? at h
  split at h
  · rename_i hg; exact (Array.getElem?_eq_some_iff.1 hg).1
  · cases h

/-- what is asked of bytes of the entry's world -/
theorem BytesAt.far {w : World} {A : Option Addr} {m c : Nat} {ns : List Int} {h : List Blk} (B : BytesAt w (.slice A m c) m ns) (hn : allNewB h = true) :
    (ns.map (Value.int .u8)).length = m * 1 ∧ (ns.map (Value.int .u8)).all flat = true ∧ (0 < m → ∃ a, A = some a ∧ FarE w h a.block ∧ cellsAt w a 0 (ns.map (Value.int .u8))) := by
  obtain ⟨A', c', e, hl, hA, hc⟩ := B
  injection e with e1 e2 e3
  subst e1
  refine ⟨by simpa using hl, by simp [flat], fun hm => ?_⟩
  cases A with
  | none => exact absurd rfl (hA hm)
  | some a =>
    have key : ∀ (l : List Int) (i : Nat), (∀ j n, l[j]? = some n → w.cell? (a.add (i + j)) = some (.int .u8 n)) → cellsAt w a i (l.map (Value.int .u8)) := by
      intro l
      induction l with
      | nil => intro i _; trivial
      | cons x r ih =>
        intro i hl
        refine ⟨hl 0 x rfl, ih (i + 1) fun j n hj => ?_⟩
        have := hl (j + 1) n (by simpa using hj)
        rwa [show i + 1 + j = i + (j + 1) by omega]
    refine ⟨a, rfl, ⟨?_, ?_⟩, key ns 0 fun j n hj => by rw [Nat.zero_add]; exact hc a rfl j n hj⟩
    · obtain ⟨x, hx⟩ : ∃ x, ns[0]? = some x := by
        cases ns with
        | nil => simp at hl; omega
        | cons x r => exact ⟨x, rfl⟩
      have := cell_lt (hc a rfl 0 x hx)
      rwa [blk_add] at this
    · clear hc hA hl key
      induction h with
      | nil => trivial
      | cons d r ih =>
        unfold allNewB at hn
        split at hn
        · rename_i hd
          unfold oldNe
          rw [hd]; exact ih hn
        · cases hn

theorem BytesAt.below {w w' : World} {v : Value} {m : Nat} {ns : List Int} (B : BytesAt w v m ns) (h : Below w.heap.size w w') : BytesAt w' v m ns := by
  obtain ⟨A, c, e, hl, hA, hc⟩ := B
  refine ⟨A, c, e, hl, hA, fun a ha j n hn => ?_⟩
  have hcell := hc a ha j n hn
  have := cell_lt hcell
  rw [← hcell]; unfold World.cell?; rw [h.block _ this]

def sh0 : List Sh → Sh
  | s :: _ => s
  | [] => []
def sh1 : List Sh → Sh
  | _ :: s :: _ => s
  | _ => []

/-- a copy with two of room behind it, marked -/
def addLent (wE : World) (f0 : Nat) (ety : TypeId) (rest : CV) : CV := fun f args sh b h K => match Nat.beq f f0 with
  | true => match args with
    | [x] => bytesK wE b h x (sh0 sh) fun m ns ly => m ≤ 140737488355000 ∧ ∀ g cap r, b.w.heap.size ≤ g → m + 2 ≤ cap →
        snocK h ⟨g, ns.map (Value.int .u8) ++ (Value.int .u8 91 :: Value.int .u8 92 :: r), ety, [], none, true, rowKind ly cap 1⟩ fun h' => K b (.slice (some ⟨g, 0, none⟩) m cap) [[some h.length]] h'
    | _ => False
  | false => rest f args sh b h K

theorem addLent_ok {P : Program} {wE : World} {f0 : Nat} {ety : TypeId} {rest : CV}
    (hc : ∀ x m ns w, BytesAt w x m ns → m ≤ 140737488355000 → Calls P f0 [x].toArray w fun e w' => Below w.heap.size w w' ∧ ∃ g cap r, e = .returned (.slice (some ⟨g, 0, none⟩) m cap) ∧ w.heap.size ≤ g ∧ m + 2 ≤ cap ∧ cap ≤ maxLen ∧
      (ns.map (Value.int .u8) ++ (Value.int .u8 91 :: Value.int .u8 92 :: r)).length = cap ∧ w'.heap[g]? = some (.cells (ns.map (Value.int .u8) ++ (Value.int .u8 91 :: Value.int .u8 92 :: r)).toArray ety (0, 0))) (hr : CVok P wE rest) :
    CVok P wE (addLent wE f0 ety rest) := by
  intro gh f args sh b h K w H hk
  unfold addLent at hk
  split at hk
  · rename_i hf
    obtain rfl := Nat.eq_of_beq_eq_true hf
    split at hk
    · rename_i x
      obtain ⟨m, ns, y, B, hm, hk⟩ := bytesK_out H hk
      refine (hc x m ns w B hm).mono fun e w' ⟨hb, g, cap, r, he, hg, h1, h2, h3, hat⟩ => ?_
      have hk := hk g cap r (Nat.le_trans H.size hg) h1
      rw [snocK_eq] at hk
      exact ⟨_, _, b, _, he, H.addNew (d := ⟨g, ns.map (Value.int .u8) ++ (Value.int .u8 91 :: Value.int .u8 92 :: r), ety, [], none, true, rowKind y cap 1⟩) hb hg rfl (rowOk_kind h2 (by rw [h3, Nat.mul_one])) hat, hk⟩
    · exact hk.elim
  · exact hr f args sh b h K w H hk

/-- a row of the walk's own, and its room -/
def lentE (ety : TypeId) (h : List Blk) (v : Value) (s : Sh) (m : Nat) (p : List Value → Prop) : Prop := match v, hd1 s with
  | .slice (some ⟨g, 0, none⟩) n cap, some i => match h[i]? with
    | some ⟨bg, bc, be, _, none, true, y⟩ => match Nat.beq be ety with
      | true => capK y bc cap 1 ((bg = g ∧ n = m ∧ m + 2 ≤ cap) ∧ p bc)
      | false => False
    | _ => False
  | _, _ => False

theorem lentE_out {wE w : World} {b : Base} {h : List Blk} {ety : TypeId} {v : Value} {s : Sh} {m : Nat} {p : List Value → Prop} (H : HC gh wE b h w) (k : lentE ety h v s m p) :
    ∃ g cap c, v = .slice (some ⟨g, 0, none⟩) m cap ∧ wE.heap.size ≤ g ∧ m + 2 ≤ cap ∧ cap ≤ maxLen ∧ c.length = cap ∧ w.heap[g]? = some (.cells c.toArray ety (0, 0)) ∧ p c := by
  unfold lentE at k
  split at k
  · rename_i g n cap i hh
    split at k
    · rename_i bg bc be bss y hi
      split at k
      · rename_i hb
        obtain rfl := Nat.eq_of_beq_eq_true hb
        have hm := List.mem_of_getElem? hi
        obtain ⟨⟨h1, h2⟩, ⟨rfl, rfl, h3⟩, k2⟩ := capK_out (H.rw _ hm) k
        exact ⟨bg, cap, bc, rfl, H.nw _ hm rfl, h3, h1, by simpa using h2, H.bl _ hm, k2⟩
      · exact k.elim
    · exact k.elim
  · exact k.elim

/-- what was lent is whole -/
def addWhole (wE : World) (f0 : Nat) (rest : CV) : CV := fun f args sh b h K => match Nat.beq f f0 with
  | true => match args with
    | [.slice (some ⟨g, 0, none⟩) n cap, y] => match hd1 (sh0 sh) with
      | some i => match h[i]? with
        | some ⟨bg, bc, _, _, none, _, _⟩ => bytesK wE b h y (sh1 sh) fun m ns _ => (bg = g ∧ n = m ∧ m + 2 ≤ cap ∧ m ≤ 140737488355000 ∧ ∃ r, bc = ns.map (Value.int .u8) ++ (Value.int .u8 91 :: Value.int .u8 92 :: r)) ∧ K b (.bool true) [] h
        | _ => False
      | none => False
    | _ => False
  | false => rest f args sh b h K

theorem addWhole_ok {P : Program} {wE : World} {f0 : Nat} {rest : CV}
    (hc : ∀ g cap y m ns r e w, BytesAt w y m ns → m + 2 ≤ cap → m ≤ 140737488355000 → w.heap[g]? = some (.cells (ns.map (Value.int .u8) ++ (Value.int .u8 91 :: Value.int .u8 92 :: r)).toArray e (0, 0)) →
      Calls P f0 [Value.slice (some ⟨g, 0, none⟩) m cap, y].toArray w fun e w' => e = .returned (.bool true) ∧ Below w.heap.size w w') (hr : CVok P wE rest) :
    CVok P wE (addWhole wE f0 rest) := by
  intro gh f args sh b h K w H hk
  unfold addWhole at hk
  split at hk
  · rename_i hf
    obtain rfl := Nat.eq_of_beq_eq_true hf
    split at hk
    · rename_i g n cap y
      split at hk
      · rename_i i hi0
        split at hk
        · rename_i bg bc be bs bn by_ hi
          obtain ⟨m, ns, l, B, ⟨rfl, rfl, hcap, hm, r, rfl⟩, hk2⟩ := bytesK_out H hk
          exact (hc bg cap y n ns r be w B hcap hm (H.bl _ (List.mem_of_getElem? hi))).mono fun e w' ⟨he, hb⟩ => ⟨_, _, b, h, he, H.step hb, hk2⟩
        · exact hk.elim
      · exact hk.elim
    · exact hk.elim
  · exact hr f args sh b h K w H hk

/-- a number of bytes that a function is given -/
def addBV (wE : World) (f0 : Nat) (sz : Nat → Bool) (val : Nat → List Int → Int) (ok : List Int → Prop) (rest : CV) : CV := fun f args sh b h K => match Nat.beq f f0 with
  | true => match args with
    | [x] => bytesK wE b h x (sh0 sh) fun m ns _ => match sz m with
      | true => ok ns ∧ K b (.int .u64 (val m ns)) [] h
      | false => False
    | _ => False
  | false => rest f args sh b h K

theorem addBV_ok {P : Program} {wE : World} {f0 : Nat} {sz : Nat → Bool} {val : Nat → List Int → Int} {ok : List Int → Prop} {rest : CV}
    (hc : ∀ x m ns w, sz m = true → BytesAt w x m ns → ok ns → Calls P f0 [x].toArray w fun e w' => e = .returned (.int .u64 (val m ns)) ∧ Below w.heap.size w w') (hr : CVok P wE rest) :
    CVok P wE (addBV wE f0 sz val ok rest) := by
  intro gh f args sh b h K w H hk
  unfold addBV at hk
  split at hk
  · rename_i hf
    obtain rfl := Nat.eq_of_beq_eq_true hf
    split at hk
    · rename_i x
      obtain ⟨m, ns, y, B, hk⟩ := bytesK_out H hk
      split at hk
      · rename_i hs
        exact (hc x m ns w hs B hk.1).mono fun e w' ⟨he, hb⟩ => ⟨_, _, b, h, he, H.step hb, hk.2⟩
      · exact hk.elim
    · exact hk.elim
  · exact hr f args sh b h K w H hk

/-- a pointer to something new that is read out of bytes, or nil and an error -/
def addLoad (wE : World) (f0 : Nat) (ty : TypeId) (err : Int) (pre : Value → Nat → List Int → Prop) (ok : List Int → Bool) (cs : List Int → List Value) (rest : CV) : CV := fun f args sh b h K => match Nat.beq f f0 with
  | true => match args with
    | [x] => bytesK wE b h x (sh0 sh) fun m ns _ => pre x m ns ∧ br (ok ns) (∀ g, b.w.heap.size ≤ g → forceL (cs ns) fun c => snocK h ⟨g, c, ty, [], none, true, .lit⟩ fun h' => K b (.tuple #[.pointer (some ⟨g, 0, none⟩), .int .i64 0]) [[some h.length], []] h')
        (K b (.tuple #[.pointer none, .int .i64 err]) [] h)
    | _ => False
  | false => rest f args sh b h K

def LoadAt (w : World) (ty : TypeId) (err : Int) (r : Option (List Value)) (e : Ending) (w' : World) : Prop := match r with
  | none => e = .returned (.tuple #[.pointer none, .int .i64 err])
  | some c => ∃ g, w.heap.size ≤ g ∧ e = .returned (.tuple #[.pointer (some ⟨g, 0, none⟩), .int .i64 0]) ∧ w'.heap[g]? = some (.cells c.toArray ty (0, 0))

theorem addLoad_ok {P : Program} {wE : World} {f0 : Nat} {ty : TypeId} {err : Int} {pre : Value → Nat → List Int → Prop} {ok : List Int → Bool} {cs : List Int → List Value} {rest : CV}
    (hc : ∀ x m ns w, BytesAt w x m ns → pre x m ns → Calls P f0 [x].toArray w fun e w' => Below w.heap.size w w' ∧ LoadAt w ty err (bif ok ns then some (cs ns) else none) e w') (hr : CVok P wE rest) :
    CVok P wE (addLoad wE f0 ty err pre ok cs rest) := by
  intro gh f args sh b h K w H hk
  unfold addLoad at hk
  split at hk
  · rename_i hf
    obtain rfl := Nat.eq_of_beq_eq_true hf
    split at hk
    · rename_i x
      obtain ⟨m, ns, y, B, hp, hk⟩ := bytesK_out H hk
      refine (hc x m ns w B hp).mono fun e w' ⟨hb, hl⟩ => ?_
      cases ho : ok ns with
      | true =>
        rw [ho] at hl
        obtain ⟨g, hg, he, hat⟩ := hl
        have hk := br_true hk ho g (Nat.le_trans H.size hg)
        simp only [forceL_eq, snocK_eq] at hk
        exact ⟨_, _, b, _, he, H.addNew (d := ⟨g, cs ns, ty, [], none, true, .lit⟩) hb hg rfl trivial hat, hk⟩
      | false =>
        rw [ho] at hl
        exact ⟨_, _, b, h, hl, H.step hb, br_false hk ho⟩
    · exact hk.elim
  · exact hr f args sh b h K w H hk

/-- a pointer and an error that come out -/
def loadE (ty : TypeId) (err : Int) (h : List Blk) (v : Value) (s : Sh) (p : Option (List Value) → Prop) : Prop := match v with
  | .tuple c => match c.toList with
    | [.pointer none, .int .i64 e] => e = err ∧ p none
    | [.pointer (some ⟨g, 0, none⟩), .int .i64 e] => match hd1 s with
      | some i => match h[i]? with
        | some ⟨bg, bc, be, _, none, true, _⟩ => (e = 0 ∧ bg = g ∧ be = ty) ∧ p (some bc)
        | _ => False
      | none => False
    | _ => False
  | _ => False

theorem loadE_out {wE w : World} {b : Base} {h : List Blk} {ty : TypeId} {err : Int} {v : Value} {s : Sh} {p : Option (List Value) → Prop} (H : HC gh wE b h w) (k : loadE ty err h v s p) : ∃ r, LoadAt wE ty err r (.returned v) w ∧ p r := by
  unfold loadE at k
  split at k
  · rename_i c
    split at k
    · rename_i e hc
      obtain ⟨rfl, k⟩ := k
      exact ⟨none, by unfold LoadAt; rw [show c = #[.pointer none, .int .i64 e] by rw [← hc]], k⟩
    · rename_i g e hc
      split at k
      · rename_i i hi0
        split at k
        · rename_i bg bc be bs y hi
          obtain ⟨⟨rfl, rfl, rfl⟩, k⟩ := k
          have hm := List.mem_of_getElem? hi
          exact ⟨some bc, ⟨bg, H.nw _ hm rfl, by rw [show c = #[.pointer (some ⟨bg, 0, none⟩), .int .i64 0] by rw [← hc]], H.bl _ hm⟩, k⟩
        · exact k.elim
      · exact k.elim
    · exact k.elim
  · exact k.elim

theorem calls_load {P : Program} {w : World} {G : Cfg P} (hs : CVok P w G.spec) (hpv : PVok P G.pv) (m : Nat) {f : FuncId} {fn : Func} {c : Code} (hf : P.funcs[f]? = some fn) (hb : fn.body = some c)
    {args : List Value} {sh : List Sh} {ty : TypeId} {err : Int} {Q : Option (List Value) → Prop} (hv : codeVC G w m c ⟨⟨w, []⟩, mkT fn.ntmps args sh, []⟩ (retK P fn fun b v s h => newK h (loadE ty err h v s fun r => Done (Q r)))) :
    Calls P f args.toArray w fun e w' => Below w.heap.size w w' ∧ ∃ r, Q r ∧ LoadAt w ty err r e w' :=
  (calls hs hpv m hf hb sh (HC.start w) hv).mono fun e w' ⟨v, s, b', h', he, H, hk⟩ => by
    obtain ⟨hn, hk⟩ := newK_out hk
    obtain ⟨r, hl, hd⟩ := loadE_out H hk
    exact ⟨H.below hn, r, hd.out, by rw [he]; exact hl⟩

theorem HC.start2 {w : World} {g r : Nat} {c d : List Value} {ty e : TypeId} (hg : w.heap[g]? = some (.cells c.toArray ty (0, 0))) (hr : w.heap[r]? = some (.cells d.toArray e (0, 0))) (hne : g ≠ r) (s : List (Option Nat)) :
    HC [] w ⟨w, []⟩ [⟨g, c, ty, s, none, false, .lit⟩, ⟨r, d, e, [], none, false, .sym⟩] w :=
  ⟨rfl, rfl, rfl, Nat.le_refl _, Nat.le_refl _, (fun b hb => by
    rcases List.mem_cons.1 hb with rfl | hb
    · exact hg
    · obtain rfl := List.mem_singleton.1 hb; exact hr), (by simpa using hne), (fun b hb hn => by
    rcases List.mem_cons.1 hb with rfl | hb
    · cases hn
    · obtain rfl := List.mem_singleton.1 hb; cases hn), (fun b hb => by
    rcases List.mem_cons.1 hb with rfl | hb
    · trivial
    · obtain rfl := List.mem_singleton.1 hb; trivial), (fun _ _ _ _ => rfl), (fun _ _ _ => rfl), fun _ h => by cases h⟩

/-- the first block is another one now, the second one is as it was -/
def keep2K (g ty r : Nat) (cs : List Value) (ety : TypeId) (h : List Blk) (p : List Value → Prop) : Prop := match h with
  | ⟨g', c', ty', _, none, false, _⟩ :: ⟨r', cs', e', _, none, false, _⟩ :: t => (g' = g ∧ ty' = ty ∧ r' = r ∧ cs' = cs ∧ e' = ety) ∧ newK t (p c')
  | _ => False

theorem keep2K_out {w w' : World} {b : Base} {g ty r : Nat} {cs : List Value} {ety : TypeId} {h : List Blk} {p : List Value → Prop} (hr : w.heap[r]? = some (.cells cs.toArray ety (0, 0))) (H : HC gh w b h w') (k : keep2K g ty r cs ety h p) : ∃ c, Keep g c ty w w' ∧ p c := by
  unfold keep2K at k
  split at k
  · rename_i g' c' ty' s1 y1 r' cs' e' s2 y2 t
    obtain ⟨⟨rfl, rfl, rfl, rfl, rfl⟩, k⟩ := k
    obtain ⟨hn, k⟩ := newK_out k
    refine ⟨c', ⟨H.os, H.tape, H.output, H.le, H.bl _ List.mem_cons_self, fun i hi hne => ?_⟩, k⟩
    by_cases e : i = r'
    · subst e
      have := H.bl _ (List.mem_cons_of_mem _ List.mem_cons_self)
      rw [hr]; exact this
    · refine H.en i hi fun d hd hdn => ?_
      rcases List.mem_cons.1 hd with rfl | hd
      · exact Ne.symm hne
      · rcases List.mem_cons.1 hd with rfl | hd
        · exact fun h => e h.symm
        · rw [allNewB_out hn d hd] at hdn; cases hdn
  · exact k.elim

/-- a reader reads a number of so many bytes -/
def addNum (f0 : Nat) (ty ety : TypeId) (sz : Nat → Bool) (val : Nat → List Int → Int) (ok : List Int → Prop) (rest : CV) : CV := fun f args sh b h K => match Nat.beq f f0 with
  | true => match args with
    | [.pointer (some ⟨g, 0, none⟩), .int .i64 (.ofNat size)] => match sz size, hd1 (sh0 sh) with
      | true, some i => match h[i]? with
        | some ⟨g', [.slice (some ⟨rg, off, none⟩) m c, .bool s], e, hs, none, n, .lit⟩ => match hs with
          | some j :: _ => match h[j]? with
            | some ⟨bg, bc, be, _, none, _, _⟩ => match Nat.beq j i with
             | true => False
             | false => (g' = g ∧ e = ty ∧ bg = rg ∧ be = ety ∧ m ≤ c) ∧ (match s with
              | true => K b (.int .u64 0) [] h
              | false => br (Nat.blt m size) (setK h i ⟨g', [.slice (some ⟨rg, off, none⟩) m c, .bool true], e, hs, none, n, .lit⟩ fun h => K b (.int .u64 0) [] h)
                (∃ ns : List Int, ((bc.drop off).take size = ns.map (Value.int .u8) ∧ ns.length = size ∧ ok ns) ∧
                    ∀ o, o = (bif Nat.beq c size then off else off + size) → setK h i ⟨g', [.slice (some ⟨rg, o, none⟩) (m - size) (c - size), .bool false], e, hs, none, n, .lit⟩ fun h => K b (.int .u64 (val size ns)) [] h))
            | _ => False
          | _ => False
        | _ => False
      | _, _ => False
    | _ => False
  | false => rest f args sh b h K

theorem addNum_ok {P : Program} {wE : World} {f0 : Nat} {ty ety : TypeId} {sz : Nat → Bool} {val : Nat → List Int → Int} {ok : List Int → Prop} {rest : CV}
    (hc1 : ∀ (size g r off m c : Nat) (cs : List Value) (w : World), sz size = true → m ≤ c → g ≠ r → w.heap[g]? = some (.cells [Value.slice (some ⟨r, off, none⟩) m c, .bool true].toArray ty (0, 0)) → w.heap[r]? = some (.cells cs.toArray ety (0, 0)) →
      Calls P f0 [Value.pointer (some ⟨g, 0, none⟩), .int .i64 (.ofNat size)].toArray w fun e w' => e = .returned (.int .u64 0) ∧ Keep g [.slice (some ⟨r, off, none⟩) m c, .bool true] ty w w')
    (hc2 : ∀ (size g r off m c : Nat) (cs : List Value) (w : World), sz size = true → m < size → m ≤ c → g ≠ r → w.heap[g]? = some (.cells [Value.slice (some ⟨r, off, none⟩) m c, .bool false].toArray ty (0, 0)) → w.heap[r]? = some (.cells cs.toArray ety (0, 0)) →
      Calls P f0 [Value.pointer (some ⟨g, 0, none⟩), .int .i64 (.ofNat size)].toArray w fun e w' => e = .returned (.int .u64 0) ∧ Keep g [.slice (some ⟨r, off, none⟩) m c, .bool true] ty w w')
    (hc3 : ∀ (size g r off m c : Nat) (cs : List Value) (ns : List Int) (w : World), sz size = true → size ≤ m → m ≤ c → g ≠ r → (cs.drop off).take size = ns.map (Value.int .u8) → ns.length = size → ok ns → w.heap[g]? = some (.cells [Value.slice (some ⟨r, off, none⟩) m c, .bool false].toArray ty (0, 0)) →
      w.heap[r]? = some (.cells cs.toArray ety (0, 0)) →
      Calls P f0 [Value.pointer (some ⟨g, 0, none⟩), .int .i64 (.ofNat size)].toArray w fun e w' => e = .returned (.int .u64 (val size ns)) ∧ Keep g [.slice (some ⟨r, (bif Nat.beq c size then off else off + size), none⟩) (m - size) (c - size), .bool false] ty w w')
    (hr : CVok P wE rest) : CVok P wE (addNum f0 ty ety sz val ok rest) := by
  intro gh f args sh b h K w H hk
  unfold addNum at hk
  split at hk
  · rename_i hf
    obtain rfl := Nat.eq_of_beq_eq_true hf
    split at hk
    · rename_i g size
      split at hk
      · rename_i i hsz hi0
        split at hk
        · rename_i g' r off m c s e hs n hi
          split at hk
          · rename_i j hs'
            split at hk
            · rename_i bg bc be bs bn by_ hj
              split at hk
              · exact hk.elim
              rename_i hij
              obtain ⟨⟨rfl, rfl, rfl, rfl, hmc⟩, hk⟩ := hk
              have hne : g' ≠ bg := Ne.symm (nd_ne H.nd hi hj (fun e => by rw [e, show Nat.beq i i = true from Nat.beq_refl i] at hij; cases hij))
              have hg : w.heap[g']? = some (.cells _ e (0, 0)) := H.bl _ (List.mem_of_getElem? hi)
              have hrow : w.heap[bg]? = some (.cells bc.toArray be (0, 0)) := H.bl _ (List.mem_of_getElem? hj)
              cases s with
              | true => exact (hc1 size g' bg off m c bc w hsz hmc hne hg hrow).mono fun en w' ⟨he, hb⟩ => ⟨_, _, b, h, he, by
                  have := H.kept hi hb
                  rwa [set_same hi] at this, hk⟩
              | false =>
                cases hlt : Nat.blt m size with
                | true =>
                  have hk := br_true hk hlt
                  rw [setK_eq] at hk
                  exact (hc2 size g' bg off m c bc w hsz (Nat.le_of_ble_eq_true hlt) hmc hne hg hrow).mono fun en w' ⟨he, hb⟩ => ⟨_, _, b, _, he, H.kept hi hb, hk⟩
                | false =>
                  have hk := br_false hk hlt
                  have hle : size ≤ m := by
                    rcases Nat.lt_or_ge m size with h | h
                    · rw [show Nat.blt m size = true from Nat.ble_eq_true_of_le h] at hlt; cases hlt
                    · exact h
                  obtain ⟨ns, ⟨h1, h2, h3⟩, hk⟩ := hk
                  have hk := hk _ rfl
                  rw [setK_eq] at hk
                  exact (hc3 size g' bg off m c bc ns w hsz hle hmc hne h1 h2 h3 hg hrow).mono fun en w' ⟨he, hb⟩ => ⟨_, _, b, _, he, H.kept hi hb, hk⟩
            · exact hk.elim
          · exact hk.elim
        · exact hk.elim
      · exact hk.elim
    · exact hk.elim
  · exact hr f args sh b h K w H hk
end Go.VX

/- What the loops of the reference's Own keep, and the end of its walk. -/
namespace Go.VX
open Go.RowKit (Below)
set_option linter.unusedVariables false
namespace MO
/-- the bytes that Own lays into a list, and behind it -/
def pat (i k : Int) : Int := IntKind.u8.wrap (IntKind.i64.wrap (IntKind.i64.wrap (i * 31) + Int.tmod k 7))
def mark (i k : Int) : Int := IntKind.u8.wrap (IntKind.i64.wrap (IntKind.i64.wrap (200 + IntKind.i64.wrap (i * 5)) + k))
def Pat (i : Int) (n : Nat) (c : List Value) : Prop := ∀ j : Nat, j < n → c[j]? = some (.int .u8 (pat i j))
def Mark (i : Int) (n k : Nat) (c : List Value) : Prop := ∀ j : Nat, j < k → c[n + j]? = some (.int .u8 (mark i j))
def setC (x : Nat) (c : List Value) : List Blk → List Blk
  | [] => []
  | ⟨g, c0, e, s, o, n, y⟩ :: r => match x with
    | 0 => ⟨g, c, e, s, o, n, y⟩ :: r
    | x + 1 => ⟨g, c0, e, s, o, n, y⟩ :: setC x c r
def badInv : Inv := { ι := Nat, reb := false, dom := fun _ _ => False, live := fun _ _ => [], blk := fun _ _ => [], μ := fun _ => 0 }
/-- its first loop: a list is written over -/
def fill (l : Value) (i : Int) (x n len : Nat) (st : St) : Inv :=
  { ι := Nat × List Value
    reb := false
    dom := fun _ p => p.1 ≤ n ∧ p.2.length = len ∧ Pat i p.1 p.2
    live := fun _ p => [(0, l, [[some 0]]), (3, .slice none 0 0, []), (4, .int .i64 i, []), (5, .int .i64 (.ofNat p.1), [])]
    blk := fun _ p => setC x p.2 st.h
    μ := fun p => n - p.1 }
/-- of nil -/
def fillN (l : Value) (i : Int) (st : St) : Inv :=
  { ι := Nat
    reb := false
    dom := fun _ i => i = 0
    live := fun _ _ => [(0, l, [[some 0]]), (3, .slice none 0 0, []), (4, .int .i64 i, []), (5, .int .i64 0, [])]
    blk := fun _ _ => st.h
    μ := fun _ => 0 }
/-- its second loop: four more are put behind it; there is room -/
def room (l : Value) (i : Int) (x g n cap len : Nat) (st : St) : Inv :=
  { ι := Nat × List Value
    reb := false
    dom := fun _ p => p.1 ≤ 4 ∧ n + p.1 ≤ cap ∧ p.2.length = len ∧ Pat i n p.2 ∧ Mark i n p.1 p.2
    live := fun _ p => [(0, l, [[some 0]]), (3, evT st.t (.tmp 3), shOf st.t (.tmp 3)), (6, .int .i64 i, []), (7, .slice (some ⟨g, 0, none⟩) (n + p.1) cap, [[some x]]), (8, .int .i64 (.ofNat p.1), [])]
    blk := fun _ p => setC x p.2 st.h
    μ := fun p => 4 - p.1 }
/-- it was moved -/
structure MvI where
  k : Nat
  g : Nat
  cap : Nat
  c : List Value
  d : List Value
def moved (l : Value) (i : Int) (x n len : Nat) (st : St) : Inv :=
  { ι := MvI
    reb := false
    dom := fun w p => p.k ≤ 4 ∧ w.heap.size ≤ p.g ∧ n + p.k ≤ p.cap ∧ p.c.length = len ∧ Pat i n p.c ∧ Mark i n p.k p.d ∧ n + p.k ≤ p.d.length
    live := fun _ p => [(0, l, [[some 0]]), (3, evT st.t (.tmp 3), shOf st.t (.tmp 3)), (6, .int .i64 i, []), (7, .slice (some ⟨p.g, 0, none⟩) (n + p.k) p.cap, [[some st.h.length]]), (8, .int .i64 (.ofNat p.k), [])]
    blk := fun _ p => setC x p.c st.h ++ [⟨p.g, p.d, 5, [], none, true, .srow p.cap 1⟩]
    μ := fun p => 4 - p.k
    mv := [(7, st.h.length)] }
/-- out of nil -/
def movedN (l : Value) (i : Int) (st : St) : Inv :=
  { ι := MvI
    reb := false
    dom := fun w p => p.k ≤ 4 ∧ w.heap.size ≤ p.g ∧ p.k ≤ p.cap ∧ Mark i 0 p.k p.d ∧ p.k ≤ p.d.length
    live := fun _ p => [(0, l, [[some 0]]), (3, evT st.t (.tmp 3), shOf st.t (.tmp 3)), (6, .int .i64 i, []), (7, .slice (some ⟨p.g, 0, none⟩) p.k p.cap, [[some st.h.length]]), (8, .int .i64 (.ofNat p.k), [])]
    blk := fun _ p => st.h ++ [⟨p.g, p.d, 5, [], none, true, .srow p.cap 1⟩]
    μ := fun p => 4 - p.k
    mv := [(7, st.h.length)] }
def startN (l : Value) (i : Int) (st : St) : Inv :=
  { ι := Nat
    reb := false
    dom := fun _ i => i = 0
    live := fun _ _ => [(0, l, [[some 0]]), (3, evT st.t (.tmp 3), shOf st.t (.tmp 3)), (6, .int .i64 i, []), (7, .slice none 0 0, []), (8, .int .i64 0, [])]
    blk := fun _ _ => st.h
    μ := fun _ => 5 }
/-- its third loop: it is looked at -/
def look (l : Value) (i : Int) (n : Nat) (st : St) : Inv :=
  { ι := Nat
    reb := false
    dom := fun _ p => p ≤ n
    live := fun _ p => [(0, l, [[some 0]]), (3, evT st.t (.tmp 3), shOf st.t (.tmp 3)), (9, .int .i64 i, []), (10, .int .i64 (.ofNat n), []), (11, .int .i64 (.ofNat p), [])]
    blk := fun _ p => st.h
    μ := fun p => n - p }
def lookN (l : Value) (i : Int) (st : St) : Inv :=
  { ι := Nat
    reb := false
    dom := fun _ i => i = 0
    live := fun _ _ => [(0, l, [[some 0]]), (3, evT st.t (.tmp 3), shOf st.t (.tmp 3)), (9, .int .i64 i, []), (10, .int .i64 0, []), (11, .int .i64 0, [])]
    blk := fun _ _ => st.h
    μ := fun _ => 0 }
/-- a list: its block's place, its number, how many, how many there is room for, how many cells -/
structure RI where
  x : Nat
  g : Nat
  n : Nat
  cap : Nat
  len : Nat
def forI (i : Value) (r0 r1 : Option RI) (k : Int → Option RI → List Inv) : List Inv := match i with
  | .int _ (.ofNat 0) => k 0 r0
  | .int _ (.ofNat _) => k 1 r1
  | _ => [badInv]
def invOw (l : Value) (r0 r1 : Option RI) : Nat → Option (St → List Inv)
  | 6 => some fun st => forI (evT st.t (.tmp 4)) r0 r1 fun i r => match r with
    | some r => [fill l i r.x r.n r.len st]
    | none => [fillN l i st]
  | 14 => some fun st => forI (evT st.t (.tmp 6)) r0 r1 fun i r => match r with
    | some r => [room l i r.x r.g r.n r.cap r.len st, moved l i r.x r.n r.len st]
    | none => [startN l i st, movedN l i st]
  | 23 => some fun st => forI (evT st.t (.tmp 9)) r0 r1 fun i r => match r with
    | some r => [look l i r.n st]
    | none => [lookN l i st]
  | _ => none
theorem Pat.fill {i : Int} {k : Nat} {c : List Value} (h : Pat i k c) (hk : k < c.length) {v : Int} (hv : v = pat i k) : Pat i (k + 1) (c.set k (.int .u8 v)) := by
  intro j hj
  rw [List.getElem?_set]
  by_cases e : k = j
  · subst e; rw [if_pos rfl, if_pos hk, hv]
  · rw [if_neg e]; exact h j (by omega)
theorem Pat.keep {i : Int} {n m : Nat} {c : List Value} (h : Pat i n c) (hm : n ≤ m) (hl : m ≤ c.length) (r s : List Value) : Pat i n (c.take m ++ r ++ s) := by
  intro j hj
  rw [List.append_assoc, List.getElem?_append_left (by rw [List.length_take]; omega), List.getElem?_take, if_pos (by omega)]
  exact h j hj
theorem Mark.step {i : Int} {n k : Nat} {c : List Value} (h : Mark i n k c) (hl : n + k ≤ c.length) {v : Int} (hv : v = mark i k) (r : List Value) : Mark i n (k + 1) (c.take (n + k) ++ [.int .u8 v] ++ r) := by
  intro j hj
  rw [List.append_assoc]
  by_cases e : j = k
  · subst e
    rw [List.getElem?_append_right (by rw [List.length_take]; omega), List.length_take, Nat.min_eq_left hl, Nat.sub_self, hv]
    rfl
  · rw [List.getElem?_append_left (by rw [List.length_take]; omega), List.getElem?_take, if_pos (by omega)]
    exact h j (by omega)
theorem len3 {m : Nat} {c : List Value} (hl : m ≤ c.length) (v : Value) (r : List Value) : m + 1 ≤ (c.take m ++ [v] ++ r).length := by
  rw [List.length_append, List.length_append, List.length_take, List.length_singleton]; omega
theorem len4 {m : Nat} {c : List Value} (hl : m + 1 ≤ c.length) (v : Value) : (c.take m ++ [v] ++ c.drop (m + 1)).length = c.length := by
  rw [List.length_append, List.length_append, List.length_take, List.length_singleton, List.length_drop]; omega
theorem wrapn {n : Nat} (j : Nat) (h : n + j ≤ 4611686018427387904) : IntKind.i64.wrap (Int.ofNat n + (j : Int)) = ((n + j : Nat) : Int) := by
  simp [IntKind.wrap, IntKind.signed, IntKind.bits]
  omega
theorem idx {n : Nat} (j : Nat) (h : n + j ≤ 4611686018427387904) : 0 + Int.toNat (IntKind.i64.wrap (Int.ofNat n + (j : Int))) * 1 = n + j := by
  rw [wrapn j h]; omega
theorem ne_no {a b : Int} (e : a = b) (h : (a != b) = true) : False := by subst e; simp at h
theorem lt_of {k n : Nat} (h : decide (Int.ofNat k < (n : Int)) = true) : k < n := by
  have := of_decide_eq_true h
  simp only [Int.ofNat_eq_natCast] at this; omega
theorem ge_of {k n : Nat} (h : decide (Int.ofNat k < (n : Int)) = false) : n ≤ k := by
  have := of_decide_eq_false h
  simp only [Int.ofNat_eq_natCast] at this; omega
theorem lt4 {k : Nat} (h : decide (Int.ofNat k < 4) = true) : k < 4 := by
  have := of_decide_eq_true h
  simp only [Int.ofNat_eq_natCast] at this; omega
theorem ge4 {k : Nat} (h : decide (Int.ofNat k < 4) = false) : 4 ≤ k := by
  have := of_decide_eq_false h
  simp only [Int.ofNat_eq_natCast] at this; omega
end MO
/-- of the blocks that were there, these alone may have changed -/
def oldsK : List Nat → List Blk → Prop → Prop
  | _, [], p => p
  | gs, d :: r, p => match d.n with
    | true => oldsK gs r p
    | false => match gs with
      | g :: gs => d.g = g ∧ oldsK gs r p
      | [] => False
theorem oldsK_out : ∀ {gs : List Nat} {h : List Blk} {p : Prop}, oldsK gs h p → (∀ d ∈ h, d.n = false → d.g ∈ gs) ∧ p
  | _, [], _, h => ⟨fun _ h => (by cases h), h⟩
  | gs, d :: r, p, h => by
    unfold oldsK at h
    split at h
    · rename_i hn
      obtain ⟨h1, h2⟩ := oldsK_out h
      refine ⟨fun c hc hcn => ?_, h2⟩
      rcases List.mem_cons.1 hc with rfl | hc
      · rw [hn] at hcn; cases hcn
      · exact h1 c hc hcn
    · split at h
      · rename_i g gs
        obtain ⟨h1, h2⟩ := oldsK_out h.2
        refine ⟨fun c hc hcn => ?_, h2⟩
        rcases List.mem_cons.1 hc with rfl | hc
        · rw [h.1]; exact List.mem_cons_self
        · exact List.mem_cons_of_mem _ (h1 c hc hcn)
      · exact h.elim

/-- behind Own: these blocks alone may have changed -/
structure OwnPost (w : World) (gs : List Nat) (e : Ending) (w' : World) : Prop where
  ret : e = .returned (.bool true)
  os : w'.os = w.os
  tape : w'.tape = w.tape
  output : w'.output = w.output
  size : w.heap.size ≤ w'.heap.size
  block : ∀ i, i < w.heap.size → i ∉ gs → w'.heap[i]? = w.heap[i]?
theorem OwnPost.of {gh : Gh} {w w' : World} {b : Base} {h : List Blk} {gs : List Nat} {v : Value} {e : Ending} (he : e = .returned v) (H : HC gh w b h w') (hk : oldsK gs h (Done (v = .bool true))) : OwnPost w gs e w' := by
  obtain ⟨h1, h2⟩ := oldsK_out hk
  exact ⟨by rw [he, h2.out], H.os, H.tape, H.output, H.le, fun i hi hn => H.en i hi fun d hd hdn e => hn (e ▸ h1 d hd hdn)⟩
theorem HC.startL {w : World} {h : List Blk} (hb : ∀ d ∈ h, w.heap[d.g]? = some d.den ∧ d.n = false ∧ rowOk d) (nd : h.Pairwise (fun b c => b.g ≠ c.g)) : HC [] w ⟨w, []⟩ h w :=
  ⟨rfl, rfl, rfl, Nat.le_refl _, Nat.le_refl _, fun d hd => (hb d hd).1, nd, (fun d hd hn => by rw [(hb d hd).2.1] at hn; cases hn), fun d hd => (hb d hd).2.2, (fun _ _ _ _ => rfl), (fun _ _ _ => rfl), fun _ h => by cases h⟩
end Go.VX

/- More models: the reference's note. -/
namespace Go.VX.M17
/-- drayageref05.Names -/
def mNames (k : Int) : ByteArray :=
  if k = 1 then ⟨#[69, 80, 76, 68]⟩ else if k = 2 then ⟨#[69, 76]⟩ else if k = 3 then ⟨#[69, 76]⟩ else if k = 4 then ⟨#[69, 67]⟩ else if k = 5 then ⟨#[69, 84, 67]⟩ else if k = 6 then ⟨#[69, 67]⟩
  else if k = 7 then ⟨#[69, 79, 83, 85, 68]⟩ else if k = 8 then ⟨#[69, 79, 83, 85, 67, 68]⟩ else if k = 9 then ⟨#[69, 79, 83, 85]⟩ else if k = 10 then ⟨#[75, 68]⟩ else if k = 11 then ⟨#[75]⟩ else if k = 12 then ⟨#[75]⟩
  else if k = 13 then ⟨#[79, 67, 75, 68]⟩ else ⟨#[]⟩
/-- drayageref05.has -/
def hasL : List UInt8 → Int → Bool
  | [], _ => false
  | b :: r, p => ((b.toNat : Int) == p) || hasL r p
def mHas (k p : Int) : Bool := hasL (mNames k).data.toList p
/-- drayageref05.Check: what is left when Undo was looked at -/
def mRChk2 (k co : Int) (kl dl : Nat) : Int :=
  bif (!co == 0 && !mHas k 67) then 50 else bif (!(kl : Int) == 0 && !mHas k 75) then 50 else bif (!(dl : Int) == 0 && !mHas k 68) then 50
  else bif ((kl : Int) == 0 && (k == 10 || k == 11 || k == 12)) then 50 else 0
/-- drayageref05.Check -/
def mRChk (k e old lsn tick ord st : Int) (un : Bool) (co : Int) (kl dl : Nat) : Int :=
  bif (ByteArray.toList (mNames k) == ByteArray.toList ⟨#[]⟩ || decide (st < 0) || decide (st > 15) || decide (co < 0) || decide (co > 255) || decide ((kl : Int) > 32) || decide ((dl : Int) > 255)) then 50
  else bif (!e == 0 && !mHas k 69) then 50 else bif (!old == 0 && !mHas k 80) then 50 else bif (!lsn == 0 && !mHas k 76) then 50 else bif (!tick == 0 && !mHas k 84) then 50
  else bif (!ord == 0 && !mHas k 79) then 50 else bif (!st == 0 && !mHas k 83) then 50 else bif un then (bif (true && !mHas k 85) then 50 else mRChk2 k co kl dl) else mRChk2 k co kl dl
end Go.VX.M17

/- Plain: a number's bytes, as the references make them. -/
namespace Go.VX.M17
set_option linter.unusedVariables false
set_option linter.unusedSimpArgs false
theorem w64 (x : Int) : IntKind.u64.wrap x = x % 18446744073709551616 := rfl
theorem w32 (x : Int) : IntKind.u32.wrap x = x % 4294967296 := rfl
/-- the reference's bytes of a number -/
def tdivs : Nat → Int → Int
  | 0, n => n
  | k + 1, n => IntKind.u64.wrap (Int.tdiv (tdivs k n) 256)
def rb (k : Nat) (n : Int) : Int := IntKind.u8.wrap (Int.tmod (tdivs k n) 256)
theorem w8 (x : Int) : IntKind.u8.wrap x = x % 256 := rfl
theorem tdivs_eq {n : Int} (h : 0 ≤ n) (h2 : n ≤ 18446744073709551615) : ∀ k, tdivs k n = n / (256 ^ k : Nat) ∧ 0 ≤ tdivs k n ∧ tdivs k n ≤ 18446744073709551615
  | 0 => by simp [tdivs]; exact ⟨h, h2⟩
  | k + 1 => by
    obtain ⟨hk, h0, h1⟩ := tdivs_eq h h2 k
    have e : tdivs (k + 1) n = tdivs k n / 256 := by
      show IntKind.u64.wrap (Int.tdiv (tdivs k n) 256) = _
      rw [w64, Int.tdiv_eq_ediv_of_nonneg h0]; omega
    refine ⟨?_, by rw [e]; omega, by rw [e]; omega⟩
    rw [e, hk, Int.ediv_ediv_of_nonneg (Int.natCast_nonneg _)]
    congr 1
theorem rb_eq {n : Int} (h : 0 ≤ n) (h2 : n ≤ 18446744073709551615) (k : Nat) : rb k n = n / (256 ^ k : Nat) % 256 := by
  obtain ⟨hk, h0, h1⟩ := tdivs_eq h h2 k
  unfold rb
  rw [w8, Int.tmod_eq_emod_of_nonneg h0, hk]
  exact Int.emod_emod_of_dvd _ (Int.dvd_refl _)
/-- a number's bytes, the great ones first -/
def be1 (n : Int) : List Value := [.int .u8 (n % 256)]
def be4 (n : Int) : List Value := [.int .u8 (n / 16777216 % 256), .int .u8 (n / 65536 % 256), .int .u8 (n / 256 % 256), .int .u8 (n % 256)]
def be8 (n : Int) : List Value := [.int .u8 (n / 72057594037927936 % 256), .int .u8 (n / 281474976710656 % 256), .int .u8 (n / 1099511627776 % 256), .int .u8 (n / 4294967296 % 256), .int .u8 (n / 16777216 % 256), .int .u8 (n / 65536 % 256), .int .u8 (n / 256 % 256), .int .u8 (n % 256)]
/-- the reference's Num -/
def numR (n : Int) : Nat → List Value
  | 0 => []
  | k + 1 => .int .u8 (rb k n) :: numR n k
theorem numR1 {n : Int} (h : 0 ≤ n) (h2 : n ≤ 18446744073709551615) : numR n 1 = be1 n := by simp [numR, be1, rb_eq h h2]
theorem numR4 {n : Int} (h : 0 ≤ n) (h2 : n ≤ 18446744073709551615) : numR n 4 = be4 n := by simp [numR, be4, rb_eq h h2]
theorem numR8 {n : Int} (h : 0 ≤ n) (h2 : n ≤ 18446744073709551615) : numR n 8 = be8 n := by simp [numR, be8, rb_eq h h2]

theorem names_empty (k : Int) : (ByteArray.toList (mNames k) == ByteArray.toList ⟨#[]⟩) = decide (k < 1 ∨ 13 < k) := by
  rw [ByteArray.toList_eq, ByteArray.toList_eq]
  by_cases hk : 1 ≤ k ∧ k ≤ 13
  · rw [show decide (k < 1 ∨ 13 < k) = false from decide_eq_false (by omega)]
    rcases (by omega : k = 1 ∨ k = 2 ∨ k = 3 ∨ k = 4 ∨ k = 5 ∨ k = 6 ∨ k = 7 ∨ k = 8 ∨ k = 9 ∨ k = 10 ∨ k = 11 ∨ k = 12 ∨ k = 13) with rfl | rfl | rfl | rfl | rfl | rfl | rfl | rfl | rfl | rfl | rfl | rfl | rfl <;> rfl
  · have : mNames k = ⟨#[]⟩ := by
      unfold mNames
      repeat rw [if_neg (by omega)]
    rw [this, show decide (k < 1 ∨ 13 < k) = true from decide_eq_true (by omega)]; rfl

theorem wu64 (x : Int) : IntKind.u64.wrap x = x % 18446744073709551616 := rfl
theorem pb0 (x : Int) : IntKind.u8.wrap (Int.fdiv x 1) = x % 256 := by rw [Int.fdiv_eq_ediv_of_nonneg x (show (0 : Int) ≤ 1 by decide), w8]; omega
theorem qb0 (x : Int) : IntKind.u8.wrap (Int.fdiv (IntKind.u64.wrap x) 1) = x % 256 := by rw [Int.fdiv_eq_ediv_of_nonneg _ (show (0 : Int) ≤ 1 by decide), w8, wu64]; omega
theorem pb1 (x : Int) : IntKind.u8.wrap (Int.fdiv x 256) = x / 256 % 256 := by rw [Int.fdiv_eq_ediv_of_nonneg x (show (0 : Int) ≤ 256 by decide), w8]
theorem qb1 (x : Int) : IntKind.u8.wrap (Int.fdiv (IntKind.u64.wrap x) 256) = x / 256 % 256 := by rw [Int.fdiv_eq_ediv_of_nonneg _ (show (0 : Int) ≤ 256 by decide), w8, wu64]; omega
theorem pb2 (x : Int) : IntKind.u8.wrap (Int.fdiv x 65536) = x / 65536 % 256 := by rw [Int.fdiv_eq_ediv_of_nonneg x (show (0 : Int) ≤ 65536 by decide), w8]
theorem qb2 (x : Int) : IntKind.u8.wrap (Int.fdiv (IntKind.u64.wrap x) 65536) = x / 65536 % 256 := by rw [Int.fdiv_eq_ediv_of_nonneg _ (show (0 : Int) ≤ 65536 by decide), w8, wu64]; omega
theorem pb3 (x : Int) : IntKind.u8.wrap (Int.fdiv x 16777216) = x / 16777216 % 256 := by rw [Int.fdiv_eq_ediv_of_nonneg x (show (0 : Int) ≤ 16777216 by decide), w8]
theorem qb3 (x : Int) : IntKind.u8.wrap (Int.fdiv (IntKind.u64.wrap x) 16777216) = x / 16777216 % 256 := by rw [Int.fdiv_eq_ediv_of_nonneg _ (show (0 : Int) ≤ 16777216 by decide), w8, wu64]; omega
theorem pb4 (x : Int) : IntKind.u8.wrap (Int.fdiv x 4294967296) = x / 4294967296 % 256 := by rw [Int.fdiv_eq_ediv_of_nonneg x (show (0 : Int) ≤ 4294967296 by decide), w8]
theorem qb4 (x : Int) : IntKind.u8.wrap (Int.fdiv (IntKind.u64.wrap x) 4294967296) = x / 4294967296 % 256 := by rw [Int.fdiv_eq_ediv_of_nonneg _ (show (0 : Int) ≤ 4294967296 by decide), w8, wu64]; omega
theorem pb5 (x : Int) : IntKind.u8.wrap (Int.fdiv x 1099511627776) = x / 1099511627776 % 256 := by rw [Int.fdiv_eq_ediv_of_nonneg x (show (0 : Int) ≤ 1099511627776 by decide), w8]
theorem qb5 (x : Int) : IntKind.u8.wrap (Int.fdiv (IntKind.u64.wrap x) 1099511627776) = x / 1099511627776 % 256 := by rw [Int.fdiv_eq_ediv_of_nonneg _ (show (0 : Int) ≤ 1099511627776 by decide), w8, wu64]; omega
theorem pb6 (x : Int) : IntKind.u8.wrap (Int.fdiv x 281474976710656) = x / 281474976710656 % 256 := by rw [Int.fdiv_eq_ediv_of_nonneg x (show (0 : Int) ≤ 281474976710656 by decide), w8]
theorem qb6 (x : Int) : IntKind.u8.wrap (Int.fdiv (IntKind.u64.wrap x) 281474976710656) = x / 281474976710656 % 256 := by rw [Int.fdiv_eq_ediv_of_nonneg _ (show (0 : Int) ≤ 281474976710656 by decide), w8, wu64]; omega
theorem pb7 (x : Int) : IntKind.u8.wrap (Int.fdiv x 72057594037927936) = x / 72057594037927936 % 256 := by rw [Int.fdiv_eq_ediv_of_nonneg x (show (0 : Int) ≤ 72057594037927936 by decide), w8]
theorem qb7 (x : Int) : IntKind.u8.wrap (Int.fdiv (IntKind.u64.wrap x) 72057594037927936) = x / 72057594037927936 % 256 := by rw [Int.fdiv_eq_ediv_of_nonneg _ (show (0 : Int) ≤ 72057594037927936 by decide), w8, wu64]; omega
theorem ub0 (x : Int) : IntKind.u8.wrap x % 256 = x % 256 := by rw [w8]; omega
theorem vb0 (x : Int) : IntKind.u64.wrap x % 256 = x % 256 := by rw [wu64]; omega
theorem vb1 (x : Int) : IntKind.u64.wrap x / 256 % 256 = x / 256 % 256 := by rw [wu64]; omega
theorem vb2 (x : Int) : IntKind.u64.wrap x / 65536 % 256 = x / 65536 % 256 := by rw [wu64]; omega
theorem vb3 (x : Int) : IntKind.u64.wrap x / 16777216 % 256 = x / 16777216 % 256 := by rw [wu64]; omega
theorem shl1 : IntKind.u64.wrap (1 * 2 ^ Min.min (Int.toNat (IntKind.u64.wrap (IntKind.i64.wrap (8 * 1)))) IntKind.u64.bits) = 256 := by decide
theorem shl4 : IntKind.u64.wrap (1 * 2 ^ Min.min (Int.toNat (IntKind.u64.wrap (IntKind.i64.wrap (8 * 4)))) IntKind.u64.bits) = 4294967296 := by decide
end Go.VX.M17

/- The verified walk VX: contracts of functions that answer bytes of their own; of Same, Own. -/
namespace Go.VX
set_option linter.unusedVariables false
open Go.RowKit (Below)
variable {gh : Gh}

theorem add_zero' (a : Addr) : a.add 0 = a := by unfold Addr.add; rw [if_pos rfl]
/-- drayageref00.Spoil -/
def invSp (g n cap : Nat) (c : List Value) : Nat → Option (St → List Inv)
  | 1 => some fun _ => [{
      ι := Int × List Value
      reb := false
      dom := fun _ i => 0 ≤ i.1 ∧ i.1 ≤ n ∧ i.2.length = c.length ∧ (∀ v ∈ i.2.take n, ∃ x, v = .int .u8 x)
      live := fun _ i => [(0, .slice (some ⟨g, 0, none⟩) n cap, [[some 0]]), (2, .int .i64 i.1, [])]
      blk := fun _ i => [⟨g, i.2, 5, [], none, false, .sym⟩]
      μ := fun i => n - i.1.toNat }]
  | _ => none
abbrev u8s (l : List Int) : List Value := l.map (Value.int .u8)
/-- bytes of one's own: nil, or a row (z: which) -/
def OBy (ety : TypeId) (m : Nat) (w : World) (v : Value) (l : List Int) (z : Bool) : Prop :=
  (z = true ∧ v = .slice none 0 0 ∧ l = []) ∨ ∃ g cap rest, z = false ∧ v = .slice (some ⟨g, 0, none⟩) l.length cap ∧ m ≤ g ∧ cap ≤ maxLen ∧ l.length ≤ cap ∧ (u8s l ++ rest).length = cap ∧ w.heap[g]? = some (.cells (u8s l ++ rest).toArray ety (0, 0))

theorem HC.addNews {wE w w' : World} {b : Base} {h ds : List Blk} (H : HC gh wE b h w) (B : Below w.heap.size w w') (hd : ∀ d ∈ ds, w.heap.size ≤ d.g ∧ d.n = true ∧ rowOk d ∧ w'.heap[d.g]? = some d.den) (nd : ds.Pairwise (fun b c => b.g ≠ c.g)) :
    HC gh wE b (h ++ ds) w' := by
  have S := H.step B
  have at_ : ∀ c ∈ h ++ ds, c ∈ h ∨ c ∈ ds := fun c hc => List.mem_append.1 hc
  refine ⟨S.os, S.tape, S.output, S.ns, S.size, ?_, ?_, ?_, ?_, ?_, ?_, fun p hp => ⟨(S.gp p hp).1, fun c hc => ?_, (S.gp p hp).2.2⟩⟩
  · intro c hc
    rcases at_ c hc with hc | hc
    · exact S.bl c hc
    · exact (hd c hc).2.2.2
  · rw [List.pairwise_append]
    refine ⟨S.nd, nd, fun c hc e he => ?_⟩
    exact Nat.ne_of_lt (Nat.lt_of_lt_of_le (H.lt hc) (hd e he).1)
  · intro c hc hcn
    rcases at_ c hc with hc | hc
    · exact S.nw c hc hcn
    · exact Nat.le_trans H.le (hd c hc).1
  · intro c hc
    rcases at_ c hc with hc | hc
    · exact S.rw c hc
    · exact (hd c hc).2.2.1
  · exact fun i hi hne hj => S.fr i hi (fun c hc => hne c (List.mem_append_left _ hc)) hj
  · exact fun i hi hne => S.en i hi fun c hc hcn => hne c (List.mem_append_left _ hc) hcn
  · rcases at_ c hc with hc | hc
    · exact (S.gp p hp).2.1 c hc
    · exact Nat.ne_of_gt (Nat.lt_of_lt_of_le (Array.getElem?_eq_some_iff.1 (H.gp p hp).2.2).1 (hd c hc).1)

/-- what goes on behind bytes that came out: nil, or a row -/
def byK (ety : TypeId) (m : Nat) (h : List Blk) (l : List Int) (z : Bool) (K : Value → Option Nat → List Blk → Prop) : Prop :=
  (z = true → l = [] → K (.slice none 0 0) none h) ∧ ∀ g cap rest, z = false → m ≤ g → l.length ≤ cap → (u8s l ++ rest).length = cap → snocK h ⟨g, u8s l ++ rest, ety, [], none, true, .srow cap 1⟩ fun h' => K (.slice (some ⟨g, 0, none⟩) l.length cap) (some h.length) h'

/-- the blocks of such bytes -/
def byB (ety : TypeId) (m : Nat) (w' : World) (v : Value) (l : List Int) (ds : List Blk) : Prop :=
  (v = .slice none 0 0 ∧ ds = []) ∨ ∃ g cap rest, v = .slice (some ⟨g, 0, none⟩) l.length cap ∧ ds = [⟨g, u8s l ++ rest, ety, [], none, true, .srow cap 1⟩] ∧ m ≤ g ∧ rowOk ⟨g, u8s l ++ rest, ety, [], none, true, .srow cap 1⟩ ∧ w'.heap[g]? = some (.cells (u8s l ++ rest).toArray ety (0, 0))

theorem byK_out {ety : TypeId} {m m' : Nat} (hm : m ≤ m') {w' : World} {h : List Blk} {l : List Int} {K : Value → Option Nat → List Blk → Prop} {v : Value} {z : Bool} (O : OBy ety m' w' v l z) (hk : byK ety m h l z K) :
    ∃ x ds, byB ety m' w' v l ds ∧ K v x (h ++ ds) := by
  obtain ⟨h1, h2⟩ := hk
  rcases O with ⟨hz, rfl, rfl⟩ | ⟨g, cap, rest, hz, rfl, hg, hc, hl, hle, hat⟩
  · exact ⟨none, [], .inl ⟨rfl, rfl⟩, by rw [List.append_nil]; exact h1 hz rfl⟩
  · have h2 := h2 g cap rest hz (Nat.le_trans hm hg) hl hle
    rw [snocK_eq] at h2
    exact ⟨_, _, .inr ⟨g, cap, rest, rfl, rfl, hg, ⟨hc, by rw [hle, Nat.mul_one], rfl⟩, hat⟩, h2⟩

theorem byB_blk {ety : TypeId} {m : Nat} {w' : World} {v : Value} {l : List Int} {ds : List Blk} (h : byB ety m w' v l ds) : (∀ d ∈ ds, m ≤ d.g ∧ d.n = true ∧ rowOk d ∧ w'.heap[d.g]? = some d.den) ∧ ds.Pairwise (fun b c => b.g ≠ c.g) := by
  rcases h with ⟨rfl, rfl⟩ | ⟨g, cap, rest, rfl, rfl, hg, hr, hat⟩
  · exact ⟨fun _ h => (by cases h), List.Pairwise.nil⟩
  · refine ⟨fun d hd => ?_, List.pairwise_singleton _ _⟩
    obtain rfl := List.mem_singleton.1 hd
    exact ⟨hg, rfl, hr, hat⟩

def nthS : List (Option Nat) → Nat → Option Nat
  | [], _ => none
  | x :: _, 0 => x
  | _ :: r, n + 1 => nthS r n

/-- a function of a note (eleven cells) that answers bytes and a code -/
abbrev NF (α : Type) := Int → Int → Int → Int → Int → Int → Int → Bool → Int → List Int → List Int → α
def addPut (wE : World) (f0 : Nat) (ety : TypeId) (pre : NF Prop) (F : NF (List Int × Int)) (rest : CV) : CV := fun f args sh b h K => match Nat.beq f f0 with
  | true => match args with
    | [.agg a] => match a.toList with
      | [.int .i64 k, .int .u32 e, .int .u32 old, .int .u64 lsn, .int .u64 tick, .int .u32 ord, .int .i64 st, .bool un, .int .i64 co, .slice A m c, .slice B n d] =>
        bytesK wE b h (.slice A m c) [[nthS (fl1 (sh0 sh)) 9]] fun _ ks _ => bytesK wE b h (.slice B n d) [[nthS (fl1 (sh0 sh)) 10]] fun _ ds _ =>
          (m ≤ c ∧ n ≤ d ∧ pre k e old lsn tick ord st un co ks ds) ∧ ∀ l code, F k e old lsn tick ord st un co ks ds = (l, code) → byK ety b.w.heap.size h l (!(code == 0)) fun v x h' => K b (.tuple #[v, .int .i64 code]) [[x], [none]] h'
      | _ => False
    | _ => False
  | false => rest f args sh b h K

theorem addPut_ok {P : Program} {wE : World} {f0 : Nat} {ety : TypeId} {pre : NF Prop} {F : NF (List Int × Int)} {rest : CV}
    (hc : ∀ k e old lsn tick ord st un co A m c B n d ks ds w, BytesAt w (.slice A m c) m ks → BytesAt w (.slice B n d) n ds → m ≤ c → n ≤ d → pre k e old lsn tick ord st un co ks ds →
      Calls P f0 [Value.agg #[.int .i64 k, .int .u32 e, .int .u32 old, .int .u64 lsn, .int .u64 tick, .int .u32 ord, .int .i64 st, .bool un, .int .i64 co, .slice A m c, .slice B n d]].toArray w fun en w' =>
        ∃ v, en = .returned (.tuple #[v, .int .i64 (F k e old lsn tick ord st un co ks ds).2]) ∧ OBy ety w.heap.size w' v (F k e old lsn tick ord st un co ks ds).1 (!((F k e old lsn tick ord st un co ks ds).2 == 0)) ∧ Below w.heap.size w w') (hr : CVok P wE rest) :
    CVok P wE (addPut wE f0 ety pre F rest) := by
  intro gh f args sh b h K w H hk
  unfold addPut at hk
  split at hk
  · rename_i hf
    obtain rfl := Nat.eq_of_beq_eq_true hf
    split at hk
    · rename_i a
      split at hk
      · rename_i k e old lsn tick ord st un co A m c B n d ha
        obtain ⟨m', ks, y, B1, hk⟩ := bytesK_out H hk
        obtain ⟨n', ds, y', B2, ⟨h1, h2, h3⟩, hk⟩ := bytesK_out H hk
        obtain rfl : m = m' := by obtain ⟨_, _, e, _⟩ := B1; injection e
        obtain rfl : n = n' := by obtain ⟨_, _, e, _⟩ := B2; injection e
        have e : a = #[.int .i64 k, .int .u32 e, .int .u32 old, .int .u64 lsn, .int .u64 tick, .int .u32 ord, .int .i64 st, .bool un, .int .i64 co, .slice A m c, .slice B n d] := by rw [← Array.toArray_toList (xs := a), ha]
        subst e
        refine (hc _ _ _ _ _ _ _ _ _ _ _ _ _ _ _ ks ds w B1 B2 h1 h2 h3).mono fun en w' ⟨v, he, O, hb⟩ => ?_
        obtain ⟨x, bs, hB, hk⟩ := byK_out H.size O (hk _ _ rfl)
        obtain ⟨q1, q2⟩ := byB_blk hB
        exact ⟨_, _, b, _, he, H.addNews hb q1 q2, hk⟩
      · exact hk.elim
    · exact hk.elim
  · exact hr f args sh b h K w H hk

/-- are these the same bytes? -/
def addSame (wE : World) (f0 : Nat) (rest : CV) : CV := fun f args sh b h K => match Nat.beq f f0 with
  | true => match args with
    | [x, y] => bytesK wE b h x (sh0 sh) fun _ xs _ => bytesK wE b h y (sh1 sh) fun _ ys _ => ∀ c : Bool, (xs = ys → c = true) → K b (.bool c) [] h
    | _ => False
  | false => rest f args sh b h K
theorem addSame_ok {P : Program} {wE : World} {f0 : Nat} {rest : CV}
    (hc : ∀ x y m n xs ys w, BytesAt w x m xs → BytesAt w y n ys → Calls P f0 [x, y].toArray w fun e w' => ∃ c : Bool, e = .returned (.bool c) ∧ (xs = ys → c = true) ∧ Below w.heap.size w w') (hr : CVok P wE rest) :
    CVok P wE (addSame wE f0 rest) := by
  intro gh f args sh b h K w H hk
  unfold addSame at hk
  split at hk
  · rename_i hf
    obtain rfl := Nat.eq_of_beq_eq_true hf
    split at hk
    · rename_i x y
      obtain ⟨m, xs, y1, B1, hk⟩ := bytesK_out H hk
      obtain ⟨n, ys, y2, B2, hk⟩ := bytesK_out H hk
      exact (hc x y m n xs ys w B1 B2).mono fun e w' ⟨c, he, hcc, hb⟩ => ⟨_, _, b, h, he, H.step hb, hk c hcc⟩
    · exact hk.elim
  · exact hr f args sh b h K w H hk

/-- a list that Own is given: nil, or a row of the walk's own -/
def ownRow (h : List Blk) (x : Value) (s : Option Nat) (k : Option Nat → Prop) : Prop := match x with
  | .slice none 0 0 => k none
  | .slice (some ⟨g, 0, none⟩) n cap => match s with
    | some j => match h[j]? with
      | some ⟨bg, bc, be, _, none, true, .srow k0 s0⟩ => (bg = g ∧ be = 5 ∧ cap = k0 ∧ s0 = 1 ∧ n ≤ cap ∧ n ≤ 140737488355000) ∧ k (some j)
      | _ => False
    | none => False
  | _ => False

/-- such a list in memory -/
inductive OwnL (w : World) : Value → List Nat → Prop where
  | none : OwnL w (.slice none 0 0) []
  | row (g n k : Nat) (c : List Value) : w.heap[g]? = some (.cells c.toArray 5 (0, 0)) → c.length = k → k ≤ maxLen → n ≤ k → n ≤ 140737488355000 → OwnL w (.slice (some ⟨g, 0, none⟩) n k) [g]

theorem ownRow_out {wE w : World} {b : Base} {h : List Blk} {x : Value} {s : Option Nat} {k : Option Nat → Prop} (H : HC gh wE b h w) (hk : ownRow h x s k) :
    ∃ gs j, OwnL w x gs ∧ k j ∧ ((gs = [] ∧ j = none) ∨ ∃ g i d, gs = [g] ∧ j = some i ∧ h[i]? = some d ∧ d.g = g) := by
  unfold ownRow at hk
  split at hk
  · exact ⟨[], none, .none, hk, .inl ⟨rfl, rfl⟩⟩
  · rename_i g n cap
    split at hk
    · rename_i j
      split at hk
      · rename_i bg bc be bs k0 s0 hi
        obtain ⟨⟨rfl, rfl, rfl, rfl, h1, h2⟩, hk⟩ := hk
        have hm := List.mem_of_getElem? hi
        obtain ⟨h3, h4, _⟩ : cap ≤ maxLen ∧ bc.length = cap * 1 ∧ (none : Option Obj) = none := H.rw _ hm
        exact ⟨[bg], some j, .row bg n cap bc (H.bl _ hm) (by simpa using h4) h3 h1 h2, hk, .inr ⟨bg, j, _, rfl, rfl, hi, rfl⟩⟩
      · exact hk.elim
    · exact hk.elim
  · exact hk.elim

def neO : Option Nat → Option Nat → Bool
  | some i, some j => !Nat.beq i j
  | _, _ => true

def sameN : Option Nat → Option Nat → Bool
  | some _, some _ => true
  | none, none => true
  | _, _ => false

/-- drayageref00.Own of two lists; all: of which one may be nil, the other not -/
def addOwn (all : Bool) (lt : TypeId) (wE : World) (f0 : Nat) (rest : CV) : CV := fun f args sh b h K => match Nat.beq f f0 with
  | true => match args, hd1 (sh0 sh) with
    | [.slice (some ⟨g, 0, none⟩) 2 cap], some i => match h[i]? with
      | some ⟨bg, [x, y], be, hs, none, true, _⟩ => (bg = g ∧ be = lt) ∧ ownRow h x (nthS hs 0) fun p => ownRow h y (nthS hs 1) fun q => match (all || sameN p q) && (neO (some i) p && neO (some i) q && neO p q) with
        | true => newK h (∀ w', K ⟨w', []⟩ (.bool true) [] [])
        | false => False
      | some ⟨bg, x :: y :: z :: r, be, hs, none, true, _⟩ => False
      | _ => False
    | _, _ => False
  | false => rest f args sh b h K

theorem addOwn_ok {P : Program} {all : Bool} {lt : TypeId} {wE : World} {f0 : Nat} {rest : CV}
    (hc : ∀ g cap x y gs1 gs2 w, w.heap[g]? = some (.cells #[x, y] lt (0, 0)) → OwnL w x gs1 → OwnL w y gs2 → (g :: (gs1 ++ gs2)).Nodup → (all = true ∨ gs1.length = gs2.length) → Calls P f0 [Value.slice (some ⟨g, 0, none⟩) 2 cap].toArray w (OwnPost w (g :: (gs1 ++ gs2)))) (hr : CVok P wE rest) :
    CVok P wE (addOwn all lt wE f0 rest) := by
  intro gh f args sh b h K w H hk
  unfold addOwn at hk
  split at hk
  · rename_i hf
    obtain rfl := Nat.eq_of_beq_eq_true hf
    split at hk
    · rename_i g cap i hhd
      split at hk
      · rename_i bg x y be hs by_ hi
        obtain ⟨⟨rfl, rfl⟩, hk⟩ := hk
        obtain ⟨gs1, p, O1, hk, E1⟩ := ownRow_out H hk
        obtain ⟨gs2, q, O2, hk, E2⟩ := ownRow_out H hk
        split at hk
        · rename_i hne
          obtain ⟨hn, hk⟩ := newK_out hk
          have ne : ∀ {a c : Nat} {d e : Blk}, h[a]? = some d → h[c]? = some e → neO (some a) (some c) = true → d.g ≠ e.g := fun ha hcc hne => nd_ne H.nd hcc ha (fun e => by
            subst e; simp [neO] at hne)
          simp only [Bool.and_eq_true] at hne
          obtain ⟨n0, ⟨n1, n2⟩, n3⟩ := hne
          have hsame : all = true ∨ gs1.length = gs2.length := by
            rcases Bool.or_eq_true _ _ ▸ n0 with h | h
            · exact .inl h
            · rcases E1 with ⟨rfl, rfl⟩ | ⟨g1, i1, d1, rfl, rfl, hi1, rfl⟩ <;> rcases E2 with ⟨rfl, rfl⟩ | ⟨g2, i2, d2, rfl, rfl, hi2, rfl⟩ <;> first | exact .inr rfl | (simp [sameN] at h)
          have hnd : (bg :: (gs1 ++ gs2)).Nodup := by
            rcases E1 with ⟨rfl, rfl⟩ | ⟨g1, i1, d1, rfl, rfl, hi1, rfl⟩ <;> rcases E2 with ⟨rfl, rfl⟩ | ⟨g2, i2, d2, rfl, rfl, hi2, rfl⟩
            · simp
            · simpa using ne hi hi2 n2
            · simpa using ne hi hi1 n1
            · simpa using ⟨⟨ne hi hi1 n1, ne hi hi2 n2⟩, ne hi1 hi2 n3⟩
          have hin : ∀ r ∈ bg :: (gs1 ++ gs2), ∃ d ∈ h, d.g = r := by
            intro r hr
            rcases List.mem_cons.1 hr with rfl | hr
            · exact ⟨_, List.mem_of_getElem? hi, rfl⟩
            rcases List.mem_append.1 hr with hr | hr
            · rcases E1 with ⟨rfl, rfl⟩ | ⟨g1, i1, d1, rfl, rfl, hi1, rfl⟩
              · cases hr
              · rw [List.mem_singleton.1 hr]; exact ⟨_, List.mem_of_getElem? hi1, rfl⟩
            · rcases E2 with ⟨rfl, rfl⟩ | ⟨g2, i2, d2, rfl, rfl, hi2, rfl⟩
              · cases hr
              · rw [List.mem_singleton.1 hr]; exact ⟨_, List.mem_of_getElem? hi2, rfl⟩
          have hat : w.heap[bg]? = some (.cells #[x, y] be (0, 0)) := H.bl _ (List.mem_of_getElem? hi)
          refine (hc bg cap x y gs1 gs2 w hat O1 O2 hnd hsame).mono fun e w' R => ⟨_, _, ⟨w', []⟩, [], R.ret, ?_, hk w'⟩
          refine ⟨R.os.trans H.os, R.tape.trans H.tape, R.output.trans H.output, Nat.le_trans H.le R.size, Nat.le_refl _, fun d hd => (by cases hd), List.Pairwise.nil, fun d hd => (by cases hd), fun d hd => (by cases hd), fun _ _ _ _ => rfl, fun r hr _ => ?_, fun z hz => ?_⟩
          · rw [R.block r (Nat.lt_of_lt_of_le hr H.le) fun hm => ?_]
            · exact H.old hn r hr
            · obtain ⟨d, hd, rfl⟩ := hin r hm
              exact absurd (H.nw d hd (allNewB_out hn d hd)) (Nat.not_le.2 hr)
          · obtain ⟨a1, a2, a3⟩ := H.gp z hz
            refine ⟨a1, fun d hd => (by cases hd), ?_⟩
            rw [R.block z.1 (Array.getElem?_eq_some_iff.1 a3).1 fun hm => ?_]
            · exact a3
            · obtain ⟨d, hd, e⟩ := hin z.1 hm
              exact a2 d hd e
        · exact hk.elim
      · exact hk.elim
      · exact hk.elim
    · exact hk.elim
  · exact hr f args sh b h K w H hk
end Go.VX

/- The end of a walk that answers bytes and a code; the reference's bytes of a note. -/
namespace Go.VX
set_option linter.unusedVariables false
open Go.RowKit (Below)
variable {gh : Gh}
/-- the same, the cells told as values -/
def OByV (ety : TypeId) (m : Nat) (w : World) (v : Value) (l : List Value) (z : Bool) : Prop :=
  (z = true ∧ v = .slice none 0 0 ∧ l = []) ∨ ∃ g cap rest, z = false ∧ v = .slice (some ⟨g, 0, none⟩) l.length cap ∧ m ≤ g ∧ cap ≤ maxLen ∧ l.length ≤ cap ∧ (l ++ rest).length = cap ∧ w.heap[g]? = some (.cells (l ++ rest).toArray ety (0, 0))
theorem OByV.by_ {ety : TypeId} {m : Nat} {w : World} {v : Value} {l : List Int} {z : Bool} (h : OByV ety m w v (u8s l) z) : OBy ety m w v l z := by
  rcases h with ⟨hz, rfl, h⟩ | ⟨g, cap, rest, hz, rfl, h1, h2, h3, h4, h5⟩
  · exact .inl ⟨hz, rfl, by simpa using h⟩
  · rw [List.length_map] at h3 ⊢
    exact .inr ⟨g, cap, rest, hz, rfl, h1, h2, h3, h4, h5⟩
def rowV (ety : TypeId) (h : List Blk) (x : Value) (s : Option Nat) (p : Bool → List Value → Prop) : Prop := match x with
  | .slice none 0 0 => p true []
  | .slice (some ⟨g, 0, none⟩) n cap => match s with
    | some i => match h[i]? with
      | some ⟨bg, bc, be, _, none, true, y⟩ => match Nat.beq be ety with
        | true => capK y bc cap 1 ((bg = g ∧ n ≤ cap) ∧ (match y.isLit with
          | true => takeK bc n (p false)
          | false => ∀ l, l = bc.take n → p false l))
        | false => False
      | _ => False
    | none => False
  | _ => False
theorem rowV_out {wE w : World} {b : Base} {h : List Blk} {ety : TypeId} {x : Value} {s : Option Nat} {p : Bool → List Value → Prop} (H : HC gh wE b h w) (k : rowV ety h x s p) : ∃ l z, OByV ety wE.heap.size w x l z ∧ p z l := by
  unfold rowV at k
  split at k
  · exact ⟨[], true, .inl ⟨rfl, rfl, rfl⟩, k⟩
  · rename_i g n cap
    split at k
    · rename_i i
      split at k
      · rename_i bg bc be bs y hi
        split at k
        · rename_i hb
          obtain rfl := Nat.eq_of_beq_eq_true hb
          have hm := List.mem_of_getElem? hi
          obtain ⟨⟨h1, h2⟩, ⟨rfl, h3⟩, k2⟩ := capK_out (H.rw _ hm) k
          have hle : n ≤ bc.length := by simp only [Nat.mul_one] at h2; omega
          have hl : (bc.take n).length = n := by rw [List.length_take, Nat.min_eq_left hle]
          have k3 : p false (bc.take n) := by
            split at k2
            · exact (takeK_out k2).2
            · exact k2 _ rfl
          refine ⟨bc.take n, false, .inr ⟨bg, cap, bc.drop n, rfl, by rw [hl], H.nw _ hm rfl, h1, by rw [hl]; exact h3, ?_, ?_⟩, k3⟩
          · rw [List.take_append_drop]; simpa using h2
          · rw [List.take_append_drop]; exact H.bl _ hm
        · exact k.elim
      · exact k.elim
    · exact k.elim
  · exact k.elim
/-- bytes of the walk's own, and a code -/
def putE (ety : TypeId) (h : List Blk) (v : Value) (s : Sh) (p : Bool → List Value → Int → Prop) : Prop := match v with
  | .tuple a => match a.toList with
    | [x, .int .i64 c] => rowV ety h x (hd1 s) fun z l => p z l c
    | _ => False
  | _ => False
theorem putE_out {wE w : World} {b : Base} {h : List Blk} {ety : TypeId} {v : Value} {s : Sh} {p : Bool → List Value → Int → Prop} (H : HC gh wE b h w) (k : putE ety h v s p) :
    ∃ x z l c, v = .tuple #[x, .int .i64 c] ∧ OByV ety wE.heap.size w x l z ∧ p z l c := by
  unfold putE at k
  split at k
  · rename_i a
    split at k
    · rename_i x c ha
      obtain ⟨l, z, h1, h2⟩ := rowV_out H k
      exact ⟨x, z, l, c, by rw [← Array.toArray_toList (xs := a), ha], h1, h2⟩
    · exact k.elim
  · exact k.elim
theorem BytesAt.max {w : World} {A : Option Addr} {m c : Nat} {ns : List Int} (B : BytesAt w (.slice A m c) m ns) : ns.length = m := by
  obtain ⟨_, _, _, h, _⟩ := B; exact h
/-- a function's walk, told as a contract; the hints of its arguments given -/
theorem calls_pure2 {P : Program} {w : World} {G : Cfg P} (hs : CVok P w G.spec) (hpv : PVok P G.pv) (n : Nat) {f : FuncId} {fn : Func} {c : Code} (hf : P.funcs[f]? = some fn) (hb : fn.body = some c) (sh : List Sh)
    {args : List Value} {Q : Value → Prop} (hv : codeVC G w n c ⟨⟨w, []⟩, mkT fn.ntmps args sh, []⟩ (retK P fn fun b v s h => newK h (Done (Q v)))) :
    Calls P f args.toArray w fun e w' => ∃ v, e = .returned v ∧ Q v ∧ Below w.heap.size w w' :=
  (calls hs hpv n hf hb sh (HC.start w) hv).mono fun e w' ⟨v, s, b', h', he, H, hk⟩ => ⟨v, he, (newK_out hk).2.out, H.below (newK_out hk).1⟩
open Go.Proofs in
theorem sz5 : Try.prog.types[5].size = 1 := by kernel_rfl
theorem tkI {n sz : Nat} {p r : List Value} {R : List Value → Prop} (hs : sz = 1) (hp : p.length = n) (hR : R p) : ∀ x, x = List.take (n * sz) (p ++ r) → R x := by
  intro x h
  subst hs hp
  rw [Nat.mul_one, List.take_left] at h
  rw [h]; exact hR
theorem tkD {n sz : Nat} {p r : List Value} {R : List Value → Prop} (hs : sz = 1) (hp : p.length = n) (hR : R p) : ∀ x, x = List.take (n * sz) (List.drop 0 (p ++ r)) → R x := tkI hs hp hR
theorem tkL {n : Nat} {p r : List Value} {R : List Value → Prop} (hp : p.length = n) (hR : R p) : ∀ x, x = List.take n (p ++ r) → R x := by
  intro x h
  subst hp
  rw [List.take_left] at h
  rw [h]; exact hR
theorem all_flat (l : List Int) : (u8s l).all flat = true := by simp [u8s, flat]
namespace M17
def be1n (n : Int) : List Int := [n % 256]
def be4n (n : Int) : List Int := [n / 16777216 % 256, n / 65536 % 256, n / 256 % 256, n % 256]
def be8n (n : Int) : List Int := [n / 72057594037927936 % 256, n / 281474976710656 % 256, n / 1099511627776 % 256, n / 4294967296 % 256, n / 16777216 % 256, n / 65536 % 256, n / 256 % 256, n % 256]
/-- a part's bytes -/
def prt (e old lsn tick ord st : Int) (un : Bool) (co : Int) (ks ds : List Int) (q : UInt8) : List Int :=
  if q = 69 then be4n e else if q = 80 then be4n old else if q = 76 then be8n lsn else if q = 84 then be8n tick else if q = 79 then be4n ord else if q = 83 then be1n st else if q = 85 then (bif un then [1] else [0])
  else if q = 67 then be1n co else if q = 75 then (ks.length : Int) :: ks else (ds.length : Int) :: ds
def prts (e old lsn tick ord st : Int) (un : Bool) (co : Int) (ks ds : List Int) : List UInt8 → List Int
  | [] => []
  | q :: r => prt e old lsn tick ord st un co ks ds q ++ prts e old lsn tick ord st un co ks ds r
/-- drayageref05.Put -/
def mRPut (k e old lsn tick ord st : Int) (un : Bool) (co : Int) (ks ds : List Int) : List Int × Int :=
  bif mRChk k e old lsn tick ord st un co ks.length ds.length == 0 then (be1n k ++ prts e old lsn tick ord st un co ks ds (mNames k).data.toList, 0) else ([], 50)
theorem rchk_01 (k e old lsn tick ord st : Int) (un : Bool) (co : Int) (kl dl : Nat) : mRChk k e old lsn tick ord st un co kl dl = 50 ∨ mRChk k e old lsn tick ord st un co kl dl = 0 := by
  have st : ∀ (c : Bool) (x : Int), (x = 50 ∨ x = 0) → ((bif c then 50 else x) = 50 ∨ (bif c then 50 else x) = 0) := by
    intro c x h
    cases c
    · exact h
    · exact .inl rfl
  have h2 : mRChk2 k co kl dl = 50 ∨ mRChk2 k co kl dl = 0 := by
    unfold mRChk2
    exact st _ _ (st _ _ (st _ _ (st _ _ (.inr rfl))))
  unfold mRChk
  refine st _ _ (st _ _ (st _ _ (st _ _ (st _ _ (st _ _ (st _ _ ?_))))))
  cases un
  · exact h2
  · exact st _ _ h2
theorem rchk_rg {k e old lsn tick ord st : Int} {un : Bool} {co : Int} {kl dl : Nat} (h : mRChk k e old lsn tick ord st un co kl dl = 0) : (1 ≤ k ∧ k ≤ 13) ∧ 0 ≤ st ∧ st ≤ 15 ∧ 0 ≤ co ∧ co ≤ 255 ∧ kl ≤ 32 ∧ dl ≤ 255 := by
  unfold mRChk at h
  simp only [cond_eq_ite] at h
  split at h
  · exact absurd h (by decide)
  · rename_i g
    simp only [Bool.or_eq_true, decide_eq_true_eq, not_or, names_empty, Int.not_lt] at g
    omega
end M17
end Go.VX

/- Entries: when one may be, its bytes; contracts of functions of an entry. -/
namespace Go.VX
set_option linter.unusedVariables false
open Go.RowKit (Below)
variable {gh : Gh}
/-- a function of an entry (eleven cells) -/
abbrev EF (α : Type) := Int → Int → Int → Int → Int → Bool → Int → Int → Int → List Int → List Int → α
def addPutE (wE : World) (f0 : Nat) (ety : TypeId) (pre : EF Prop) (F : EF (List Int × Int)) (rest : CV) : CV := fun f args sh b h K => match Nat.beq f f0 with
  | true => match args with
    | [.agg a] => match a.toList with
      | [.int .i64 k, .int .u64 lsn, .int .u32 ep, .int .u32 ord, .int .i64 st, .bool un, .int .i64 tr, .int .i64 co, .int .u64 mk, .slice A m c, .slice B n d] =>
        bytesK wE b h (.slice A m c) [[nthS (fl1 (sh0 sh)) 9]] fun _ ks _ => bytesK wE b h (.slice B n d) [[nthS (fl1 (sh0 sh)) 10]] fun _ ds _ =>
          (m ≤ c ∧ n ≤ d ∧ pre k lsn ep ord st un tr co mk ks ds) ∧ ∀ l code, F k lsn ep ord st un tr co mk ks ds = (l, code) → byK ety b.w.heap.size h l (!(code == 0)) fun v x h' => K b (.tuple #[v, .int .i64 code]) [[x], [none]] h'
      | _ => False
    | _ => False
  | false => rest f args sh b h K

theorem addPutE_ok {P : Program} {wE : World} {f0 : Nat} {ety : TypeId} {pre : EF Prop} {F : EF (List Int × Int)} {rest : CV}
    (hc : ∀ k lsn ep ord st un tr co mk A m c B n d ks ds w, BytesAt w (.slice A m c) m ks → BytesAt w (.slice B n d) n ds → m ≤ c → n ≤ d → pre k lsn ep ord st un tr co mk ks ds →
      Calls P f0 [Value.agg #[.int .i64 k, .int .u64 lsn, .int .u32 ep, .int .u32 ord, .int .i64 st, .bool un, .int .i64 tr, .int .i64 co, .int .u64 mk, .slice A m c, .slice B n d]].toArray w fun en w' =>
        ∃ v, en = .returned (.tuple #[v, .int .i64 (F k lsn ep ord st un tr co mk ks ds).2]) ∧ OBy ety w.heap.size w' v (F k lsn ep ord st un tr co mk ks ds).1 (!((F k lsn ep ord st un tr co mk ks ds).2 == 0)) ∧ Below w.heap.size w w') (hr : CVok P wE rest) :
    CVok P wE (addPutE wE f0 ety pre F rest) := by
  intro gh f args sh b h K w H hk
  unfold addPutE at hk
  split at hk
  · rename_i hf
    obtain rfl := Nat.eq_of_beq_eq_true hf
    split at hk
    · rename_i a
      split at hk
      · rename_i k lsn ep ord st un tr co mk A m c B n d ha
        obtain ⟨m', ks, y, B1, hk⟩ := bytesK_out H hk
        obtain ⟨n', ds, y', B2, ⟨h1, h2, h3⟩, hk⟩ := bytesK_out H hk
        obtain rfl : m = m' := by obtain ⟨_, _, e, _⟩ := B1; injection e
        obtain rfl : n = n' := by obtain ⟨_, _, e, _⟩ := B2; injection e
        have e : a = #[.int .i64 k, .int .u64 lsn, .int .u32 ep, .int .u32 ord, .int .i64 st, .bool un, .int .i64 tr, .int .i64 co, .int .u64 mk, .slice A m c, .slice B n d] := by rw [← Array.toArray_toList (xs := a), ha]
        subst e
        refine (hc _ _ _ _ _ _ _ _ _ _ _ _ _ _ _ ks ds w B1 B2 h1 h2 h3).mono fun en w' ⟨v, he, O, hb⟩ => ?_
        obtain ⟨x, bs, hB, hk⟩ := byK_out H.size O (hk _ _ rfl)
        obtain ⟨q1, q2⟩ := byB_blk hB
        exact ⟨_, _, b, _, he, H.addNews hb q1 q2, hk⟩
      · exact hk.elim
    · exact hk.elim
  · exact hr f args sh b h K w H hk
namespace M17
/-- may an entry be? -/
def mEOk (k lsn ep ord st : Int) (un : Bool) (tr co mk : Int) (kl dl : Nat) : Bool :=
  decide (1 ≤ lsn ∧ 1 ≤ ep) && (if k = 1 then decide (ord = 0 ∧ st = 0 ∧ un = false ∧ tr = 0 ∧ co = 0 ∧ mk = 0 ∧ kl = 0 ∧ dl = 0)
  else if k = 2 then decide (1 ≤ ord ∧ st = 0 ∧ un = false ∧ tr = 0 ∧ co = 0 ∧ mk = 0 ∧ 1 ≤ kl ∧ kl ≤ 32 ∧ dl ≤ 200)
  else if k = 3 then decide (1 ≤ ord ∧ 0 ≤ st ∧ st ≤ 15 ∧ 1 ≤ tr ∧ tr ≤ 255 ∧ co = 0 ∧ mk = 0 ∧ kl = 0 ∧ dl = 0)
  else if k = 4 then decide (1 ≤ ord ∧ 0 ≤ st ∧ st ≤ 15 ∧ 1 ≤ tr ∧ tr ≤ 255 ∧ 1 ≤ co ∧ co ≤ 3 ∧ mk = 0 ∧ kl = 0 ∧ dl = 0)
  else if k = 5 then decide (1 ≤ ord ∧ st = 0 ∧ un = false ∧ tr = 0 ∧ 1 ≤ co ∧ co ≤ 3 ∧ mk = 0 ∧ kl = 0 ∧ dl = 0)
  else if k = 6 then decide (ord = 0 ∧ st = 0 ∧ un = false ∧ tr = 0 ∧ (co = 1 ∨ co = 2) ∧ mk = 0 ∧ kl = 0 ∧ dl = 0)
  else if k = 7 then decide (ord = 0 ∧ st = 0 ∧ un = false ∧ tr = 0 ∧ co = 0 ∧ mk < lsn ∧ kl = 0 ∧ dl = 0) else false)
def mEChk (k lsn ep ord st : Int) (un : Bool) (tr co mk : Int) (kl dl : Nat) : Int := bif mEOk k lsn ep ord st un tr co mk kl dl then 0 else 40
/-- what a kind names -/
def eParts (k ord st : Int) (un : Bool) (tr co mk : Int) (ks ds : List Int) : List Int :=
  if k = 2 then be4n ord ++ (((ks.length : Int) :: ks) ++ ((ds.length : Int) :: ds))
  else if k = 3 then be4n ord ++ (be1n st ++ ((bif un then [1] else [0]) ++ be1n tr))
  else if k = 4 then be4n ord ++ (be1n st ++ ((bif un then [1] else [0]) ++ (be1n tr ++ be1n co)))
  else if k = 5 then be4n ord ++ be1n co else if k = 6 then be1n co else if k = 7 then be8n mk else []
/-- an entry's bytes -/
def mEPut (k lsn ep ord st : Int) (un : Bool) (tr co mk : Int) (ks ds : List Int) : List Int × Int :=
  bif mEOk k lsn ep ord st un tr co mk ks.length ds.length then (be1n k ++ (be8n lsn ++ (be4n ep ++ eParts k ord st un tr co mk ks ds)), 0) else ([], 40)
theorem eok_bad {k lsn ep ord st : Int} {un : Bool} {tr co mk : Int} {kl dl : Nat} (h : k < 1 ∨ 7 < k) : mEOk k lsn ep ord st un tr co mk kl dl = false := by
  unfold mEOk
  repeat rw [if_neg (by omega)]
  simp
theorem eput_code (k lsn ep ord st : Int) (un : Bool) (tr co mk : Int) (ks ds : List Int) : mEChk k lsn ep ord st un tr co mk ks.length ds.length = (mEPut k lsn ep ord st un tr co mk ks ds).2 := by
  unfold mEChk mEPut
  cases mEOk k lsn ep ord st un tr co mk ks.length ds.length <;> rfl
theorem eput_len (k lsn ep ord st : Int) (un : Bool) (tr co mk : Int) (ks ds : List Int) (h1 : ks.length ≤ 1000) (h2 : ds.length ≤ 1000) : (mEPut k lsn ep ord st un tr co mk ks ds).1.length ≤ 10000 := by
  unfold mEPut
  cases mEOk k lsn ep ord st un tr co mk ks.length ds.length
  · simp
  · have : (eParts k ord st un tr co mk ks ds).length ≤ 2100 := by
      unfold eParts
      cases un <;> (repeat' split) <;> simp [be1n, be4n, be8n] <;> omega
    simp [be1n, be4n, be8n]; omega
theorem str_nil {ns : List Int} : (ByteArray.toList (strOfNums ns) == ByteArray.toList ⟨#[]⟩) = decide (ns.length = 0) := by
  cases ns with
  | nil => simp [strOfNums, ByteArray.toList_eq]
  | cons x r => simp [strOfNums, ByteArray.toList_eq]
theorem str_nil2 {ns : List Int} : (ByteArray.toList (strOfNums ns) == ByteArray.toList (strOfNums [])) = decide (ns.length = 0) := by
  have h : strOfNums [] = ⟨#[]⟩ := by simp [strOfNums]
  rw [h]; exact str_nil
end M17
end Go.VX

/- The walk of function 15 (echk1), told by the verified walk VX, and its contract. -/
namespace Go.VX
open Go.Proofs
open Go.RowKit (Below)
set_option linter.unusedVariables false
set_option linter.unusedSimpArgs false
set_option maxRecDepth 100000
set_option maxHeartbeats 4000000
open Go.VX.M17

theorem walk_echk1 (lsn ep ord st : Int) (un : Bool) (tr co mk : Int) (K D : Option Addr) (kl kc dl dc : Nat) (w : World) (Q : Value → Prop) : (∀ (g0 : Nat), Array.size w.heap ≤ g0 → g0 = g0 ∧ g0 = g0 ∧ br (lsn == 0 || ep == 0) (Done (Q (Value.int IntKind.i64 40))) (g0 = g0 ∧ ∀ (g2 : Nat), Array.size w.heap ≤ g2 → ∀ (g4 : Nat), Array.size w.heap ≤ g4 → g2 = g2 ∧ g2 = g2 ∧ g2 = g2 ∧ g2 = g2 ∧ g4 = g4 ∧ g4 = (Addr.add (Addr.mk g4 0 Option.none) 0).block ∧ g4 = (Addr.add (Addr.mk g4 0 Option.none) 1).block ∧ g4 = (Addr.add (Addr.mk g4 0 Option.none) 2).block ∧ g4 = (Addr.add (Addr.mk g4 0 Option.none) 3).block ∧ g4 = (Addr.add (Addr.mk g4 0 Option.none) 4).block ∧ g4 = (Addr.add (Addr.mk g4 0 Option.none) 5).block ∧ g4 = (Addr.add (Addr.mk g4 0 Option.none) 6).block ∧ g4 = (Addr.add (Addr.mk g4 0 Option.none) 7).block ∧ g4 = (Addr.add (Addr.mk g4 0 Option.none) 8).block ∧ g4 = (Addr.add (Addr.mk g4 0 Option.none) 9).block ∧ g4 = (Addr.add (Addr.mk g4 0 Option.none) 10).block ∧ ∀ (g6 : Nat), Array.size w.heap ≤ g6 → g6 = g6 ∧ g0 = g0 ∧ g6 = g6 ∧ Bool.true = Bool.true ∧ ∀ (g8 : Nat), Array.size w.heap ≤ g8 → g8 = g8 ∧ g8 = g8 ∧ g8 = g8 ∧ g8 = g8 ∧ g8 = g8 ∧ g8 = g8 ∧ g8 = g8 ∧ g8 = g8 ∧ g8 = g8 ∧ g8 = g8 ∧ g8 = g8 ∧ br (Bool.false || !(Bool.true && ord == 0 && st == 0 && !un && tr == 0 && co == 0 && mk == 0 && (↑kl : Int) == 0 && (↑dl : Int) == 0)) (Done (Q (Value.int IntKind.i64 40))) (Done (Q (Value.int IntKind.i64 0))))) = codeVC (⟨TT.plain _, (fun f => Nat.beq f 35 || Nat.beq f 36), noFar, true, noInv, noInv, noPV, noCV w⟩ : Cfg Try.prog) w 300 (Try.f15.body.getD .skip) ⟨⟨w, []⟩, mkT Try.f15.ntmps [.agg #[.int .i64 1, .int .u64 lsn, .int .u32 ep, .int .u32 ord, .int .i64 st, .bool un, .int .i64 tr, .int .i64 co, .int .u64 mk, .slice K kl kc, .slice D dl dc]] [], []⟩ (retK Try.prog Try.f15 fun b v s h => newK h (Done (Q v))) := by
  kernel_rfl

theorem echk1_calls (lsn ep ord st : Int) (un : Bool) (tr co mk : Int) (K D : Option Addr) (kl kc dl dc : Nat) (w : World) (hr : (0 ≤ lsn ∧ lsn ≤ 18446744073709551615) ∧ (0 ≤ ep ∧ ep ≤ 4294967295) ∧ (0 ≤ ord ∧ ord ≤ 4294967295) ∧ (0 ≤ mk ∧ mk ≤ 18446744073709551615)) :
    Calls Try.prog 15 ([.agg #[.int .i64 1, .int .u64 lsn, .int .u32 ep, .int .u32 ord, .int .i64 st, .bool un, .int .i64 tr, .int .i64 co, .int .u64 mk, .slice K kl kc, .slice D dl dc]] : List Value).toArray w fun en w' => en = .returned (.int .i64 (mEChk 1 lsn ep ord st un tr co mk kl dl)) ∧ Below w.heap.size w w' := by
  refine calls_eq (calls_pure2 (G := (⟨TT.plain _, (fun f => Nat.beq f 35 || Nat.beq f 36), noFar, true, noInv, noInv, noPV, noCV w⟩ : Cfg Try.prog)) (noCV_ok' Try.prog w) (noPV_ok Try.prog) 300 Try.func15 rfl [] (Q := fun v => v = .int .i64 (mEChk 1 lsn ep ord st un tr co mk kl dl)) ((walk_echk1 lsn ep ord st un tr co mk K D kl kc dl dc w _).mp ?_))
  obtain ⟨⟨l0, l1⟩, ⟨e0, e1⟩, ⟨o0, o1⟩, ⟨m0, m1⟩⟩ := hr
  have hi : mEChk 1 lsn ep ord st un tr co mk kl dl = if mEOk 1 lsn ep ord st un tr co mk kl dl = true then 0 else 40 := by unfold mEChk; cases mEOk 1 lsn ep ord st un tr co mk kl dl <;> rfl
  simp [mEOk] at hi
  generalize mEChk 1 lsn ep ord st un tr co mk kl dl = r at hi ⊢
  repeat' (first | refine And.intro rfl ?_ | refine And.intro ?_ ?_ | apply br_intro | intro _)
  all_goals try first | rfl | exact trivial
  all_goals try (rename_i hq; rw [Bool.not_eq_false'] at hq; rw [Bool.not_not]; exact hq)
  all_goals (refine Done.mk ?_; show Value.int _ _ = Value.int _ r; congr 1)
  all_goals (cases un <;> simp only [Bool.false_eq_true, Bool.true_eq_false, Bool.or_eq_true, Bool.and_eq_true, Bool.or_eq_false_iff, Bool.and_eq_false_iff, decide_eq_true_eq, decide_eq_false_iff_not, Bool.not_eq_true', Bool.not_eq_false', bne_iff_ne, bne_eq_false_iff_eq, beq_iff_eq, beq_eq_false_iff_ne, ne_eq, reduceCtorEq, true_and, and_true, false_and, and_false, false_or, or_false, true_or, or_true, not_true_eq_false, not_false_eq_true, iff_false, iff_true, Bool.not_true, Bool.not_false, Bool.true_and, Bool.and_true, Bool.false_and, Bool.and_false, Bool.or_true, Bool.true_or, Bool.or_false, Bool.false_or] at * <;> (try split at hi) <;> first | omega | (simp_all; done) | (simp_all; omega))

end Go.VX

/- The walk of function 15 (echk2), told by the verified walk VX, and its contract. -/
namespace Go.VX
open Go.Proofs
open Go.RowKit (Below)
set_option linter.unusedVariables false
set_option linter.unusedSimpArgs false
set_option maxRecDepth 100000
set_option maxHeartbeats 4000000
open Go.VX.M17

theorem walk_echk2 (lsn ep ord st : Int) (un : Bool) (tr co mk : Int) (K D : Option Addr) (kl kc dl dc : Nat) (w : World) (Q : Value → Prop) : (∀ (g0 : Nat), Array.size w.heap ≤ g0 → g0 = g0 ∧ g0 = g0 ∧ br (lsn == 0 || ep == 0) (Done (Q (Value.int IntKind.i64 40))) (g0 = g0 ∧ ∀ (g2 : Nat), Array.size w.heap ≤ g2 → ∀ (g4 : Nat), Array.size w.heap ≤ g4 → g2 = g2 ∧ g2 = g2 ∧ g2 = g2 ∧ g2 = g2 ∧ g4 = g4 ∧ g4 = (Addr.add (Addr.mk g4 0 Option.none) 0).block ∧ g4 = (Addr.add (Addr.mk g4 0 Option.none) 1).block ∧ g4 = (Addr.add (Addr.mk g4 0 Option.none) 2).block ∧ g4 = (Addr.add (Addr.mk g4 0 Option.none) 3).block ∧ g4 = (Addr.add (Addr.mk g4 0 Option.none) 4).block ∧ g4 = (Addr.add (Addr.mk g4 0 Option.none) 5).block ∧ g4 = (Addr.add (Addr.mk g4 0 Option.none) 6).block ∧ g4 = (Addr.add (Addr.mk g4 0 Option.none) 7).block ∧ g4 = (Addr.add (Addr.mk g4 0 Option.none) 8).block ∧ g4 = (Addr.add (Addr.mk g4 0 Option.none) 9).block ∧ g4 = (Addr.add (Addr.mk g4 0 Option.none) 10).block ∧ ∀ (g6 : Nat), Array.size w.heap ≤ g6 → g6 = g6 ∧ g0 = g0 ∧ g0 = g0 ∧ g0 = g0 ∧ g0 = g0 ∧ g0 = g0 ∧ g6 = g6 ∧ g6 = g6 ∧ g6 = g6 ∧ g6 = g6 ∧ br (!(decide (ord > 0) && decide ((↑kl : Int) > 0) && decide ((↑kl : Int) ≤ 32) && decide ((↑dl : Int) ≤ 200))) (Done (Q (Value.int IntKind.i64 40))) ((!!(decide (ord > 0) && decide ((↑kl : Int) > 0) && decide ((↑kl : Int) ≤ 32) && decide ((↑dl : Int) ≤ 200))) = Bool.true ∧ ∀ (g8 : Nat), Array.size w.heap ≤ g8 → g8 = g8 ∧ g8 = g8 ∧ g8 = g8 ∧ g8 = g8 ∧ g8 = g8 ∧ g8 = g8 ∧ g8 = g8 ∧ g8 = g8 ∧ g8 = g8 ∧ g8 = g8 ∧ g8 = g8 ∧ br (Bool.false || !(Bool.true && st == 0 && !un && tr == 0 && co == 0 && mk == 0 && Bool.true && Bool.true)) (Done (Q (Value.int IntKind.i64 40))) (Done (Q (Value.int IntKind.i64 0)))))) = codeVC (⟨TT.plain _, (fun f => Nat.beq f 35 || Nat.beq f 36), noFar, true, noInv, noInv, noPV, noCV w⟩ : Cfg Try.prog) w 300 (Try.f15.body.getD .skip) ⟨⟨w, []⟩, mkT Try.f15.ntmps [.agg #[.int .i64 2, .int .u64 lsn, .int .u32 ep, .int .u32 ord, .int .i64 st, .bool un, .int .i64 tr, .int .i64 co, .int .u64 mk, .slice K kl kc, .slice D dl dc]] [], []⟩ (retK Try.prog Try.f15 fun b v s h => newK h (Done (Q v))) := by
  kernel_rfl

theorem echk2_calls (lsn ep ord st : Int) (un : Bool) (tr co mk : Int) (K D : Option Addr) (kl kc dl dc : Nat) (w : World) (hr : (0 ≤ lsn ∧ lsn ≤ 18446744073709551615) ∧ (0 ≤ ep ∧ ep ≤ 4294967295) ∧ (0 ≤ ord ∧ ord ≤ 4294967295) ∧ (0 ≤ mk ∧ mk ≤ 18446744073709551615)) :
    Calls Try.prog 15 ([.agg #[.int .i64 2, .int .u64 lsn, .int .u32 ep, .int .u32 ord, .int .i64 st, .bool un, .int .i64 tr, .int .i64 co, .int .u64 mk, .slice K kl kc, .slice D dl dc]] : List Value).toArray w fun en w' => en = .returned (.int .i64 (mEChk 2 lsn ep ord st un tr co mk kl dl)) ∧ Below w.heap.size w w' := by
  refine calls_eq (calls_pure2 (G := (⟨TT.plain _, (fun f => Nat.beq f 35 || Nat.beq f 36), noFar, true, noInv, noInv, noPV, noCV w⟩ : Cfg Try.prog)) (noCV_ok' Try.prog w) (noPV_ok Try.prog) 300 Try.func15 rfl [] (Q := fun v => v = .int .i64 (mEChk 2 lsn ep ord st un tr co mk kl dl)) ((walk_echk2 lsn ep ord st un tr co mk K D kl kc dl dc w _).mp ?_))
  obtain ⟨⟨l0, l1⟩, ⟨e0, e1⟩, ⟨o0, o1⟩, ⟨m0, m1⟩⟩ := hr
  have hi : mEChk 2 lsn ep ord st un tr co mk kl dl = if mEOk 2 lsn ep ord st un tr co mk kl dl = true then 0 else 40 := by unfold mEChk; cases mEOk 2 lsn ep ord st un tr co mk kl dl <;> rfl
  simp [mEOk] at hi
  generalize mEChk 2 lsn ep ord st un tr co mk kl dl = r at hi ⊢
  repeat' (first | refine And.intro rfl ?_ | refine And.intro ?_ ?_ | apply br_intro | intro _)
  all_goals try first | rfl | exact trivial
  all_goals try (rename_i hq; rw [Bool.not_eq_false'] at hq; rw [Bool.not_not]; exact hq)
  all_goals (refine Done.mk ?_; show Value.int _ _ = Value.int _ r; congr 1)
  all_goals (cases un <;> simp only [Bool.false_eq_true, Bool.true_eq_false, Bool.or_eq_true, Bool.and_eq_true, Bool.or_eq_false_iff, Bool.and_eq_false_iff, decide_eq_true_eq, decide_eq_false_iff_not, Bool.not_eq_true', Bool.not_eq_false', bne_iff_ne, bne_eq_false_iff_eq, beq_iff_eq, beq_eq_false_iff_ne, ne_eq, reduceCtorEq, true_and, and_true, false_and, and_false, false_or, or_false, true_or, or_true, not_true_eq_false, not_false_eq_true, iff_false, iff_true, Bool.not_true, Bool.not_false, Bool.true_and, Bool.and_true, Bool.false_and, Bool.and_false, Bool.or_true, Bool.true_or, Bool.or_false, Bool.false_or] at * <;> (try split at hi) <;> first | omega | (simp_all; done) | (simp_all; omega))

end Go.VX

/- The walk of function 15 (echk3), told by the verified walk VX, and its contract. -/
namespace Go.VX
open Go.Proofs
open Go.RowKit (Below)
set_option linter.unusedVariables false
set_option linter.unusedSimpArgs false
set_option maxRecDepth 100000
set_option maxHeartbeats 4000000
open Go.VX.M17

theorem walk_echk3 (lsn ep ord st : Int) (un : Bool) (tr co mk : Int) (K D : Option Addr) (kl kc dl dc : Nat) (w : World) (Q : Value → Prop) : (∀ (g0 : Nat), Array.size w.heap ≤ g0 → g0 = g0 ∧ g0 = g0 ∧ br (lsn == 0 || ep == 0) (Done (Q (Value.int IntKind.i64 40))) (g0 = g0 ∧ ∀ (g2 : Nat), Array.size w.heap ≤ g2 → ∀ (g4 : Nat), Array.size w.heap ≤ g4 → g2 = g2 ∧ g2 = g2 ∧ g2 = g2 ∧ g2 = g2 ∧ g4 = g4 ∧ g4 = (Addr.add (Addr.mk g4 0 Option.none) 0).block ∧ g4 = (Addr.add (Addr.mk g4 0 Option.none) 1).block ∧ g4 = (Addr.add (Addr.mk g4 0 Option.none) 2).block ∧ g4 = (Addr.add (Addr.mk g4 0 Option.none) 3).block ∧ g4 = (Addr.add (Addr.mk g4 0 Option.none) 4).block ∧ g4 = (Addr.add (Addr.mk g4 0 Option.none) 5).block ∧ g4 = (Addr.add (Addr.mk g4 0 Option.none) 6).block ∧ g4 = (Addr.add (Addr.mk g4 0 Option.none) 7).block ∧ g4 = (Addr.add (Addr.mk g4 0 Option.none) 8).block ∧ g4 = (Addr.add (Addr.mk g4 0 Option.none) 9).block ∧ g4 = (Addr.add (Addr.mk g4 0 Option.none) 10).block ∧ ∀ (g6 : Nat), Array.size w.heap ≤ g6 → g6 = g6 ∧ g0 = g0 ∧ g0 = g0 ∧ g0 = g0 ∧ g0 = g0 ∧ g0 = g0 ∧ g0 = g0 ∧ g6 = g6 ∧ g6 = g6 ∧ g6 = g6 ∧ g6 = g6 ∧ g6 = g6 ∧ br (!(decide (ord > 0) && decide (st ≥ 0) && decide (st < 16) && decide (tr ≥ 1) && decide (tr ≤ 255))) (Done (Q (Value.int IntKind.i64 40))) ((!!(decide (ord > 0) && decide (st ≥ 0) && decide (st < 16) && decide (tr ≥ 1) && decide (tr ≤ 255))) = Bool.true ∧ ∀ (g8 : Nat), Array.size w.heap ≤ g8 → g8 = g8 ∧ g8 = g8 ∧ g8 = g8 ∧ g8 = g8 ∧ g8 = g8 ∧ g8 = g8 ∧ g8 = g8 ∧ g8 = g8 ∧ g8 = g8 ∧ g8 = g8 ∧ g8 = g8 ∧ br (Bool.false || !(Bool.true && co == 0 && mk == 0 && (↑kl : Int) == 0 && (↑dl : Int) == 0)) (Done (Q (Value.int IntKind.i64 40))) (Done (Q (Value.int IntKind.i64 0)))))) = codeVC (⟨TT.plain _, (fun f => Nat.beq f 35 || Nat.beq f 36), noFar, true, noInv, noInv, noPV, noCV w⟩ : Cfg Try.prog) w 300 (Try.f15.body.getD .skip) ⟨⟨w, []⟩, mkT Try.f15.ntmps [.agg #[.int .i64 3, .int .u64 lsn, .int .u32 ep, .int .u32 ord, .int .i64 st, .bool un, .int .i64 tr, .int .i64 co, .int .u64 mk, .slice K kl kc, .slice D dl dc]] [], []⟩ (retK Try.prog Try.f15 fun b v s h => newK h (Done (Q v))) := by
  kernel_rfl

theorem echk3_calls (lsn ep ord st : Int) (un : Bool) (tr co mk : Int) (K D : Option Addr) (kl kc dl dc : Nat) (w : World) (hr : (0 ≤ lsn ∧ lsn ≤ 18446744073709551615) ∧ (0 ≤ ep ∧ ep ≤ 4294967295) ∧ (0 ≤ ord ∧ ord ≤ 4294967295) ∧ (0 ≤ mk ∧ mk ≤ 18446744073709551615)) :
    Calls Try.prog 15 ([.agg #[.int .i64 3, .int .u64 lsn, .int .u32 ep, .int .u32 ord, .int .i64 st, .bool un, .int .i64 tr, .int .i64 co, .int .u64 mk, .slice K kl kc, .slice D dl dc]] : List Value).toArray w fun en w' => en = .returned (.int .i64 (mEChk 3 lsn ep ord st un tr co mk kl dl)) ∧ Below w.heap.size w w' := by
  refine calls_eq (calls_pure2 (G := (⟨TT.plain _, (fun f => Nat.beq f 35 || Nat.beq f 36), noFar, true, noInv, noInv, noPV, noCV w⟩ : Cfg Try.prog)) (noCV_ok' Try.prog w) (noPV_ok Try.prog) 300 Try.func15 rfl [] (Q := fun v => v = .int .i64 (mEChk 3 lsn ep ord st un tr co mk kl dl)) ((walk_echk3 lsn ep ord st un tr co mk K D kl kc dl dc w _).mp ?_))
  obtain ⟨⟨l0, l1⟩, ⟨e0, e1⟩, ⟨o0, o1⟩, ⟨m0, m1⟩⟩ := hr
  have hi : mEChk 3 lsn ep ord st un tr co mk kl dl = if mEOk 3 lsn ep ord st un tr co mk kl dl = true then 0 else 40 := by unfold mEChk; cases mEOk 3 lsn ep ord st un tr co mk kl dl <;> rfl
  simp [mEOk] at hi
  generalize mEChk 3 lsn ep ord st un tr co mk kl dl = r at hi ⊢
  repeat' (first | refine And.intro rfl ?_ | refine And.intro ?_ ?_ | apply br_intro | intro _)
  all_goals try first | rfl | exact trivial
  all_goals try (rename_i hq; rw [Bool.not_eq_false'] at hq; rw [Bool.not_not]; exact hq)
  all_goals (refine Done.mk ?_; show Value.int _ _ = Value.int _ r; congr 1)
  all_goals (cases un <;> simp only [Bool.false_eq_true, Bool.true_eq_false, Bool.or_eq_true, Bool.and_eq_true, Bool.or_eq_false_iff, Bool.and_eq_false_iff, decide_eq_true_eq, decide_eq_false_iff_not, Bool.not_eq_true', Bool.not_eq_false', bne_iff_ne, bne_eq_false_iff_eq, beq_iff_eq, beq_eq_false_iff_ne, ne_eq, reduceCtorEq, true_and, and_true, false_and, and_false, false_or, or_false, true_or, or_true, not_true_eq_false, not_false_eq_true, iff_false, iff_true, Bool.not_true, Bool.not_false, Bool.true_and, Bool.and_true, Bool.false_and, Bool.and_false, Bool.or_true, Bool.true_or, Bool.or_false, Bool.false_or] at * <;> (try split at hi) <;> first | omega | (simp_all; done) | (simp_all; omega))

end Go.VX

/- The walk of function 15 (echk4), told by the verified walk VX, and its contract. -/
namespace Go.VX
open Go.Proofs
open Go.RowKit (Below)
set_option linter.unusedVariables false
set_option linter.unusedSimpArgs false
set_option maxRecDepth 100000
set_option maxHeartbeats 4000000
open Go.VX.M17

theorem walk_echk4 (lsn ep ord st : Int) (un : Bool) (tr co mk : Int) (K D : Option Addr) (kl kc dl dc : Nat) (w : World) (Q : Value → Prop) : (∀ (g0 : Nat), Array.size w.heap ≤ g0 → g0 = g0 ∧ g0 = g0 ∧ br (lsn == 0 || ep == 0) (Done (Q (Value.int IntKind.i64 40))) (g0 = g0 ∧ ∀ (g2 : Nat), Array.size w.heap ≤ g2 → ∀ (g4 : Nat), Array.size w.heap ≤ g4 → g2 = g2 ∧ g2 = g2 ∧ g2 = g2 ∧ g2 = g2 ∧ g4 = g4 ∧ g4 = (Addr.add (Addr.mk g4 0 Option.none) 0).block ∧ g4 = (Addr.add (Addr.mk g4 0 Option.none) 1).block ∧ g4 = (Addr.add (Addr.mk g4 0 Option.none) 2).block ∧ g4 = (Addr.add (Addr.mk g4 0 Option.none) 3).block ∧ g4 = (Addr.add (Addr.mk g4 0 Option.none) 4).block ∧ g4 = (Addr.add (Addr.mk g4 0 Option.none) 5).block ∧ g4 = (Addr.add (Addr.mk g4 0 Option.none) 6).block ∧ g4 = (Addr.add (Addr.mk g4 0 Option.none) 7).block ∧ g4 = (Addr.add (Addr.mk g4 0 Option.none) 8).block ∧ g4 = (Addr.add (Addr.mk g4 0 Option.none) 9).block ∧ g4 = (Addr.add (Addr.mk g4 0 Option.none) 10).block ∧ ∀ (g6 : Nat), Array.size w.heap ≤ g6 → g6 = g6 ∧ g0 = g0 ∧ g0 = g0 ∧ g0 = g0 ∧ br (decide (co < 1) || decide (co > 3)) (Done (Q (Value.int IntKind.i64 40))) (g6 = g6 ∧ g0 = g0 ∧ g0 = g0 ∧ g0 = g0 ∧ g0 = g0 ∧ g0 = g0 ∧ g6 = g6 ∧ g6 = g6 ∧ g6 = g6 ∧ g6 = g6 ∧ g6 = g6 ∧ br (!(decide (ord > 0) && decide (st ≥ 0) && decide (st < 16) && decide (tr ≥ 1) && decide (tr ≤ 255))) (Done (Q (Value.int IntKind.i64 40))) ((!!(decide (ord > 0) && decide (st ≥ 0) && decide (st < 16) && decide (tr ≥ 1) && decide (tr ≤ 255))) = Bool.true ∧ ∀ (g8 : Nat), Array.size w.heap ≤ g8 → g8 = g8 ∧ g8 = g8 ∧ g8 = g8 ∧ g8 = g8 ∧ g8 = g8 ∧ g8 = g8 ∧ g8 = g8 ∧ g8 = g8 ∧ g8 = g8 ∧ g8 = g8 ∧ g8 = g8 ∧ br (Bool.false || !(Bool.true && mk == 0 && (↑kl : Int) == 0 && (↑dl : Int) == 0)) (Done (Q (Value.int IntKind.i64 40))) (Done (Q (Value.int IntKind.i64 0))))))) = codeVC (⟨TT.plain _, (fun f => Nat.beq f 35 || Nat.beq f 36), noFar, true, noInv, noInv, noPV, noCV w⟩ : Cfg Try.prog) w 300 (Try.f15.body.getD .skip) ⟨⟨w, []⟩, mkT Try.f15.ntmps [.agg #[.int .i64 4, .int .u64 lsn, .int .u32 ep, .int .u32 ord, .int .i64 st, .bool un, .int .i64 tr, .int .i64 co, .int .u64 mk, .slice K kl kc, .slice D dl dc]] [], []⟩ (retK Try.prog Try.f15 fun b v s h => newK h (Done (Q v))) := by
  kernel_rfl

theorem echk4_calls (lsn ep ord st : Int) (un : Bool) (tr co mk : Int) (K D : Option Addr) (kl kc dl dc : Nat) (w : World) (hr : (0 ≤ lsn ∧ lsn ≤ 18446744073709551615) ∧ (0 ≤ ep ∧ ep ≤ 4294967295) ∧ (0 ≤ ord ∧ ord ≤ 4294967295) ∧ (0 ≤ mk ∧ mk ≤ 18446744073709551615)) :
    Calls Try.prog 15 ([.agg #[.int .i64 4, .int .u64 lsn, .int .u32 ep, .int .u32 ord, .int .i64 st, .bool un, .int .i64 tr, .int .i64 co, .int .u64 mk, .slice K kl kc, .slice D dl dc]] : List Value).toArray w fun en w' => en = .returned (.int .i64 (mEChk 4 lsn ep ord st un tr co mk kl dl)) ∧ Below w.heap.size w w' := by
  refine calls_eq (calls_pure2 (G := (⟨TT.plain _, (fun f => Nat.beq f 35 || Nat.beq f 36), noFar, true, noInv, noInv, noPV, noCV w⟩ : Cfg Try.prog)) (noCV_ok' Try.prog w) (noPV_ok Try.prog) 300 Try.func15 rfl [] (Q := fun v => v = .int .i64 (mEChk 4 lsn ep ord st un tr co mk kl dl)) ((walk_echk4 lsn ep ord st un tr co mk K D kl kc dl dc w _).mp ?_))
  obtain ⟨⟨l0, l1⟩, ⟨e0, e1⟩, ⟨o0, o1⟩, ⟨m0, m1⟩⟩ := hr
  have hi : mEChk 4 lsn ep ord st un tr co mk kl dl = if mEOk 4 lsn ep ord st un tr co mk kl dl = true then 0 else 40 := by unfold mEChk; cases mEOk 4 lsn ep ord st un tr co mk kl dl <;> rfl
  simp [mEOk] at hi
  generalize mEChk 4 lsn ep ord st un tr co mk kl dl = r at hi ⊢
  repeat' (first | refine And.intro rfl ?_ | refine And.intro ?_ ?_ | apply br_intro | intro _)
  all_goals try first | rfl | exact trivial
  all_goals try (rename_i hq; rw [Bool.not_eq_false'] at hq; rw [Bool.not_not]; exact hq)
  all_goals (refine Done.mk ?_; show Value.int _ _ = Value.int _ r; congr 1)
  all_goals (cases un <;> simp only [Bool.false_eq_true, Bool.true_eq_false, Bool.or_eq_true, Bool.and_eq_true, Bool.or_eq_false_iff, Bool.and_eq_false_iff, decide_eq_true_eq, decide_eq_false_iff_not, Bool.not_eq_true', Bool.not_eq_false', bne_iff_ne, bne_eq_false_iff_eq, beq_iff_eq, beq_eq_false_iff_ne, ne_eq, reduceCtorEq, true_and, and_true, false_and, and_false, false_or, or_false, true_or, or_true, not_true_eq_false, not_false_eq_true, iff_false, iff_true, Bool.not_true, Bool.not_false, Bool.true_and, Bool.and_true, Bool.false_and, Bool.and_false, Bool.or_true, Bool.true_or, Bool.or_false, Bool.false_or] at * <;> (try split at hi) <;> first | omega | (simp_all; done) | (simp_all; omega))

end Go.VX

/- The walk of function 15 (echk5), told by the verified walk VX, and its contract. -/
namespace Go.VX
open Go.Proofs
open Go.RowKit (Below)
set_option linter.unusedVariables false
set_option linter.unusedSimpArgs false
set_option maxRecDepth 100000
set_option maxHeartbeats 4000000
open Go.VX.M17

theorem walk_echk5 (lsn ep ord st : Int) (un : Bool) (tr co mk : Int) (K D : Option Addr) (kl kc dl dc : Nat) (w : World) (Q : Value → Prop) : (∀ (g0 : Nat), Array.size w.heap ≤ g0 → g0 = g0 ∧ g0 = g0 ∧ br (lsn == 0 || ep == 0) (Done (Q (Value.int IntKind.i64 40))) (g0 = g0 ∧ ∀ (g2 : Nat), Array.size w.heap ≤ g2 → ∀ (g4 : Nat), Array.size w.heap ≤ g4 → g2 = g2 ∧ g2 = g2 ∧ g2 = g2 ∧ g2 = g2 ∧ g4 = g4 ∧ g4 = (Addr.add (Addr.mk g4 0 Option.none) 0).block ∧ g4 = (Addr.add (Addr.mk g4 0 Option.none) 1).block ∧ g4 = (Addr.add (Addr.mk g4 0 Option.none) 2).block ∧ g4 = (Addr.add (Addr.mk g4 0 Option.none) 3).block ∧ g4 = (Addr.add (Addr.mk g4 0 Option.none) 4).block ∧ g4 = (Addr.add (Addr.mk g4 0 Option.none) 5).block ∧ g4 = (Addr.add (Addr.mk g4 0 Option.none) 6).block ∧ g4 = (Addr.add (Addr.mk g4 0 Option.none) 7).block ∧ g4 = (Addr.add (Addr.mk g4 0 Option.none) 8).block ∧ g4 = (Addr.add (Addr.mk g4 0 Option.none) 9).block ∧ g4 = (Addr.add (Addr.mk g4 0 Option.none) 10).block ∧ ∀ (g6 : Nat), Array.size w.heap ≤ g6 → g6 = g6 ∧ g0 = g0 ∧ g0 = g0 ∧ g0 = g0 ∧ g0 = g0 ∧ g6 = g6 ∧ g6 = g6 ∧ g6 = g6 ∧ br (!(decide (ord > 0) && decide (co ≥ 1) && decide (co ≤ 3))) (Done (Q (Value.int IntKind.i64 40))) ((!!(decide (ord > 0) && decide (co ≥ 1) && decide (co ≤ 3))) = Bool.true ∧ ∀ (g8 : Nat), Array.size w.heap ≤ g8 → g8 = g8 ∧ g8 = g8 ∧ g8 = g8 ∧ g8 = g8 ∧ g8 = g8 ∧ g8 = g8 ∧ g8 = g8 ∧ g8 = g8 ∧ g8 = g8 ∧ g8 = g8 ∧ g8 = g8 ∧ br (Bool.false || !(Bool.true && st == 0 && !un && tr == 0 && Bool.true && mk == 0 && (↑kl : Int) == 0 && (↑dl : Int) == 0)) (Done (Q (Value.int IntKind.i64 40))) (Done (Q (Value.int IntKind.i64 0)))))) = codeVC (⟨TT.plain _, (fun f => Nat.beq f 35 || Nat.beq f 36), noFar, true, noInv, noInv, noPV, noCV w⟩ : Cfg Try.prog) w 300 (Try.f15.body.getD .skip) ⟨⟨w, []⟩, mkT Try.f15.ntmps [.agg #[.int .i64 5, .int .u64 lsn, .int .u32 ep, .int .u32 ord, .int .i64 st, .bool un, .int .i64 tr, .int .i64 co, .int .u64 mk, .slice K kl kc, .slice D dl dc]] [], []⟩ (retK Try.prog Try.f15 fun b v s h => newK h (Done (Q v))) := by
  kernel_rfl

theorem echk5_calls (lsn ep ord st : Int) (un : Bool) (tr co mk : Int) (K D : Option Addr) (kl kc dl dc : Nat) (w : World) (hr : (0 ≤ lsn ∧ lsn ≤ 18446744073709551615) ∧ (0 ≤ ep ∧ ep ≤ 4294967295) ∧ (0 ≤ ord ∧ ord ≤ 4294967295) ∧ (0 ≤ mk ∧ mk ≤ 18446744073709551615)) :
    Calls Try.prog 15 ([.agg #[.int .i64 5, .int .u64 lsn, .int .u32 ep, .int .u32 ord, .int .i64 st, .bool un, .int .i64 tr, .int .i64 co, .int .u64 mk, .slice K kl kc, .slice D dl dc]] : List Value).toArray w fun en w' => en = .returned (.int .i64 (mEChk 5 lsn ep ord st un tr co mk kl dl)) ∧ Below w.heap.size w w' := by
  refine calls_eq (calls_pure2 (G := (⟨TT.plain _, (fun f => Nat.beq f 35 || Nat.beq f 36), noFar, true, noInv, noInv, noPV, noCV w⟩ : Cfg Try.prog)) (noCV_ok' Try.prog w) (noPV_ok Try.prog) 300 Try.func15 rfl [] (Q := fun v => v = .int .i64 (mEChk 5 lsn ep ord st un tr co mk kl dl)) ((walk_echk5 lsn ep ord st un tr co mk K D kl kc dl dc w _).mp ?_))
  obtain ⟨⟨l0, l1⟩, ⟨e0, e1⟩, ⟨o0, o1⟩, ⟨m0, m1⟩⟩ := hr
  have hi : mEChk 5 lsn ep ord st un tr co mk kl dl = if mEOk 5 lsn ep ord st un tr co mk kl dl = true then 0 else 40 := by unfold mEChk; cases mEOk 5 lsn ep ord st un tr co mk kl dl <;> rfl
  simp [mEOk] at hi
  generalize mEChk 5 lsn ep ord st un tr co mk kl dl = r at hi ⊢
  repeat' (first | refine And.intro rfl ?_ | refine And.intro ?_ ?_ | apply br_intro | intro _)
  all_goals try first | rfl | exact trivial
  all_goals try (rename_i hq; rw [Bool.not_eq_false'] at hq; rw [Bool.not_not]; exact hq)
  all_goals (refine Done.mk ?_; show Value.int _ _ = Value.int _ r; congr 1)
  all_goals (cases un <;> simp only [Bool.false_eq_true, Bool.true_eq_false, Bool.or_eq_true, Bool.and_eq_true, Bool.or_eq_false_iff, Bool.and_eq_false_iff, decide_eq_true_eq, decide_eq_false_iff_not, Bool.not_eq_true', Bool.not_eq_false', bne_iff_ne, bne_eq_false_iff_eq, beq_iff_eq, beq_eq_false_iff_ne, ne_eq, reduceCtorEq, true_and, and_true, false_and, and_false, false_or, or_false, true_or, or_true, not_true_eq_false, not_false_eq_true, iff_false, iff_true, Bool.not_true, Bool.not_false, Bool.true_and, Bool.and_true, Bool.false_and, Bool.and_false, Bool.or_true, Bool.true_or, Bool.or_false, Bool.false_or] at * <;> (try split at hi) <;> first | omega | (simp_all; done) | (simp_all; omega))

end Go.VX

/- The walk of function 15 (echk6), told by the verified walk VX, and its contract. -/
namespace Go.VX
open Go.Proofs
open Go.RowKit (Below)
set_option linter.unusedVariables false
set_option linter.unusedSimpArgs false
set_option maxRecDepth 100000
set_option maxHeartbeats 4000000
open Go.VX.M17

theorem walk_echk6 (lsn ep ord st : Int) (un : Bool) (tr co mk : Int) (K D : Option Addr) (kl kc dl dc : Nat) (w : World) (Q : Value → Prop) : (∀ (g0 : Nat), Array.size w.heap ≤ g0 → g0 = g0 ∧ g0 = g0 ∧ br (lsn == 0 || ep == 0) (Done (Q (Value.int IntKind.i64 40))) (g0 = g0 ∧ ∀ (g2 : Nat), Array.size w.heap ≤ g2 → ∀ (g4 : Nat), Array.size w.heap ≤ g4 → g2 = g2 ∧ g2 = g2 ∧ g2 = g2 ∧ g2 = g2 ∧ g4 = g4 ∧ g4 = (Addr.add (Addr.mk g4 0 Option.none) 0).block ∧ g4 = (Addr.add (Addr.mk g4 0 Option.none) 1).block ∧ g4 = (Addr.add (Addr.mk g4 0 Option.none) 2).block ∧ g4 = (Addr.add (Addr.mk g4 0 Option.none) 3).block ∧ g4 = (Addr.add (Addr.mk g4 0 Option.none) 4).block ∧ g4 = (Addr.add (Addr.mk g4 0 Option.none) 5).block ∧ g4 = (Addr.add (Addr.mk g4 0 Option.none) 6).block ∧ g4 = (Addr.add (Addr.mk g4 0 Option.none) 7).block ∧ g4 = (Addr.add (Addr.mk g4 0 Option.none) 8).block ∧ g4 = (Addr.add (Addr.mk g4 0 Option.none) 9).block ∧ g4 = (Addr.add (Addr.mk g4 0 Option.none) 10).block ∧ ∀ (g6 : Nat), Array.size w.heap ≤ g6 → g6 = g6 ∧ g0 = g0 ∧ g0 = g0 ∧ g0 = g0 ∧ g6 = g6 ∧ g6 = g6 ∧ br (!(co == 1 || co == 2)) (Done (Q (Value.int IntKind.i64 40))) ((!!(co == 1 || co == 2)) = Bool.true ∧ ∀ (g8 : Nat), Array.size w.heap ≤ g8 → g8 = g8 ∧ g8 = g8 ∧ g8 = g8 ∧ g8 = g8 ∧ g8 = g8 ∧ g8 = g8 ∧ g8 = g8 ∧ g8 = g8 ∧ g8 = g8 ∧ g8 = g8 ∧ g8 = g8 ∧ br (Bool.false || !(Bool.true && ord == 0 && st == 0 && !un && tr == 0 && Bool.true && mk == 0 && (↑kl : Int) == 0 && (↑dl : Int) == 0)) (Done (Q (Value.int IntKind.i64 40))) (Done (Q (Value.int IntKind.i64 0)))))) = codeVC (⟨TT.plain _, (fun f => Nat.beq f 35 || Nat.beq f 36), noFar, true, noInv, noInv, noPV, noCV w⟩ : Cfg Try.prog) w 300 (Try.f15.body.getD .skip) ⟨⟨w, []⟩, mkT Try.f15.ntmps [.agg #[.int .i64 6, .int .u64 lsn, .int .u32 ep, .int .u32 ord, .int .i64 st, .bool un, .int .i64 tr, .int .i64 co, .int .u64 mk, .slice K kl kc, .slice D dl dc]] [], []⟩ (retK Try.prog Try.f15 fun b v s h => newK h (Done (Q v))) := by
  kernel_rfl

theorem echk6_calls (lsn ep ord st : Int) (un : Bool) (tr co mk : Int) (K D : Option Addr) (kl kc dl dc : Nat) (w : World) (hr : (0 ≤ lsn ∧ lsn ≤ 18446744073709551615) ∧ (0 ≤ ep ∧ ep ≤ 4294967295) ∧ (0 ≤ ord ∧ ord ≤ 4294967295) ∧ (0 ≤ mk ∧ mk ≤ 18446744073709551615)) :
    Calls Try.prog 15 ([.agg #[.int .i64 6, .int .u64 lsn, .int .u32 ep, .int .u32 ord, .int .i64 st, .bool un, .int .i64 tr, .int .i64 co, .int .u64 mk, .slice K kl kc, .slice D dl dc]] : List Value).toArray w fun en w' => en = .returned (.int .i64 (mEChk 6 lsn ep ord st un tr co mk kl dl)) ∧ Below w.heap.size w w' := by
  refine calls_eq (calls_pure2 (G := (⟨TT.plain _, (fun f => Nat.beq f 35 || Nat.beq f 36), noFar, true, noInv, noInv, noPV, noCV w⟩ : Cfg Try.prog)) (noCV_ok' Try.prog w) (noPV_ok Try.prog) 300 Try.func15 rfl [] (Q := fun v => v = .int .i64 (mEChk 6 lsn ep ord st un tr co mk kl dl)) ((walk_echk6 lsn ep ord st un tr co mk K D kl kc dl dc w _).mp ?_))
  obtain ⟨⟨l0, l1⟩, ⟨e0, e1⟩, ⟨o0, o1⟩, ⟨m0, m1⟩⟩ := hr
  have hi : mEChk 6 lsn ep ord st un tr co mk kl dl = if mEOk 6 lsn ep ord st un tr co mk kl dl = true then 0 else 40 := by unfold mEChk; cases mEOk 6 lsn ep ord st un tr co mk kl dl <;> rfl
  simp [mEOk] at hi
  generalize mEChk 6 lsn ep ord st un tr co mk kl dl = r at hi ⊢
  repeat' (first | refine And.intro rfl ?_ | refine And.intro ?_ ?_ | apply br_intro | intro _)
  all_goals try first | rfl | exact trivial
  all_goals try (rename_i hq; rw [Bool.not_eq_false'] at hq; rw [Bool.not_not]; exact hq)
  all_goals (refine Done.mk ?_; show Value.int _ _ = Value.int _ r; congr 1)
  all_goals (cases un <;> simp only [Bool.false_eq_true, Bool.true_eq_false, Bool.or_eq_true, Bool.and_eq_true, Bool.or_eq_false_iff, Bool.and_eq_false_iff, decide_eq_true_eq, decide_eq_false_iff_not, Bool.not_eq_true', Bool.not_eq_false', bne_iff_ne, bne_eq_false_iff_eq, beq_iff_eq, beq_eq_false_iff_ne, ne_eq, reduceCtorEq, true_and, and_true, false_and, and_false, false_or, or_false, true_or, or_true, not_true_eq_false, not_false_eq_true, iff_false, iff_true, Bool.not_true, Bool.not_false, Bool.true_and, Bool.and_true, Bool.false_and, Bool.and_false, Bool.or_true, Bool.true_or, Bool.or_false, Bool.false_or] at * <;> (try split at hi) <;> first | omega | (simp_all; done) | (simp_all; omega))

end Go.VX

/- The walk of function 15 (echk7), told by the verified walk VX, and its contract. -/
namespace Go.VX
open Go.Proofs
open Go.RowKit (Below)
set_option linter.unusedVariables false
set_option linter.unusedSimpArgs false
set_option maxRecDepth 100000
set_option maxHeartbeats 4000000
open Go.VX.M17

theorem walk_echk7 (lsn ep ord st : Int) (un : Bool) (tr co mk : Int) (K D : Option Addr) (kl kc dl dc : Nat) (w : World) (Q : Value → Prop) : (∀ (g0 : Nat), Array.size w.heap ≤ g0 → g0 = g0 ∧ g0 = g0 ∧ br (lsn == 0 || ep == 0) (Done (Q (Value.int IntKind.i64 40))) (g0 = g0 ∧ ∀ (g2 : Nat), Array.size w.heap ≤ g2 → ∀ (g4 : Nat), Array.size w.heap ≤ g4 → g2 = g2 ∧ g2 = g2 ∧ g2 = g2 ∧ g2 = g2 ∧ g4 = g4 ∧ g4 = (Addr.add (Addr.mk g4 0 Option.none) 0).block ∧ g4 = (Addr.add (Addr.mk g4 0 Option.none) 1).block ∧ g4 = (Addr.add (Addr.mk g4 0 Option.none) 2).block ∧ g4 = (Addr.add (Addr.mk g4 0 Option.none) 3).block ∧ g4 = (Addr.add (Addr.mk g4 0 Option.none) 4).block ∧ g4 = (Addr.add (Addr.mk g4 0 Option.none) 5).block ∧ g4 = (Addr.add (Addr.mk g4 0 Option.none) 6).block ∧ g4 = (Addr.add (Addr.mk g4 0 Option.none) 7).block ∧ g4 = (Addr.add (Addr.mk g4 0 Option.none) 8).block ∧ g4 = (Addr.add (Addr.mk g4 0 Option.none) 9).block ∧ g4 = (Addr.add (Addr.mk g4 0 Option.none) 10).block ∧ ∀ (g6 : Nat), Array.size w.heap ≤ g6 → g6 = g6 ∧ g0 = g0 ∧ g0 = g0 ∧ g0 = g0 ∧ g6 = g6 ∧ g6 = g6 ∧ br (!decide (mk < lsn)) (Done (Q (Value.int IntKind.i64 40))) ((!!decide (mk < lsn)) = Bool.true ∧ ∀ (g8 : Nat), Array.size w.heap ≤ g8 → g8 = g8 ∧ g8 = g8 ∧ g8 = g8 ∧ g8 = g8 ∧ g8 = g8 ∧ g8 = g8 ∧ g8 = g8 ∧ g8 = g8 ∧ g8 = g8 ∧ g8 = g8 ∧ g8 = g8 ∧ br (Bool.false || !(Bool.true && ord == 0 && st == 0 && !un && tr == 0 && co == 0 && Bool.true && (↑kl : Int) == 0 && (↑dl : Int) == 0)) (Done (Q (Value.int IntKind.i64 40))) (Done (Q (Value.int IntKind.i64 0)))))) = codeVC (⟨TT.plain _, (fun f => Nat.beq f 35 || Nat.beq f 36), noFar, true, noInv, noInv, noPV, noCV w⟩ : Cfg Try.prog) w 300 (Try.f15.body.getD .skip) ⟨⟨w, []⟩, mkT Try.f15.ntmps [.agg #[.int .i64 7, .int .u64 lsn, .int .u32 ep, .int .u32 ord, .int .i64 st, .bool un, .int .i64 tr, .int .i64 co, .int .u64 mk, .slice K kl kc, .slice D dl dc]] [], []⟩ (retK Try.prog Try.f15 fun b v s h => newK h (Done (Q v))) := by
  kernel_rfl

theorem echk7_calls (lsn ep ord st : Int) (un : Bool) (tr co mk : Int) (K D : Option Addr) (kl kc dl dc : Nat) (w : World) (hr : (0 ≤ lsn ∧ lsn ≤ 18446744073709551615) ∧ (0 ≤ ep ∧ ep ≤ 4294967295) ∧ (0 ≤ ord ∧ ord ≤ 4294967295) ∧ (0 ≤ mk ∧ mk ≤ 18446744073709551615)) :
    Calls Try.prog 15 ([.agg #[.int .i64 7, .int .u64 lsn, .int .u32 ep, .int .u32 ord, .int .i64 st, .bool un, .int .i64 tr, .int .i64 co, .int .u64 mk, .slice K kl kc, .slice D dl dc]] : List Value).toArray w fun en w' => en = .returned (.int .i64 (mEChk 7 lsn ep ord st un tr co mk kl dl)) ∧ Below w.heap.size w w' := by
  refine calls_eq (calls_pure2 (G := (⟨TT.plain _, (fun f => Nat.beq f 35 || Nat.beq f 36), noFar, true, noInv, noInv, noPV, noCV w⟩ : Cfg Try.prog)) (noCV_ok' Try.prog w) (noPV_ok Try.prog) 300 Try.func15 rfl [] (Q := fun v => v = .int .i64 (mEChk 7 lsn ep ord st un tr co mk kl dl)) ((walk_echk7 lsn ep ord st un tr co mk K D kl kc dl dc w _).mp ?_))
  obtain ⟨⟨l0, l1⟩, ⟨e0, e1⟩, ⟨o0, o1⟩, ⟨m0, m1⟩⟩ := hr
  have hi : mEChk 7 lsn ep ord st un tr co mk kl dl = if mEOk 7 lsn ep ord st un tr co mk kl dl = true then 0 else 40 := by unfold mEChk; cases mEOk 7 lsn ep ord st un tr co mk kl dl <;> rfl
  simp [mEOk] at hi
  generalize mEChk 7 lsn ep ord st un tr co mk kl dl = r at hi ⊢
  repeat' (first | refine And.intro rfl ?_ | refine And.intro ?_ ?_ | apply br_intro | intro _)
  all_goals try first | rfl | exact trivial
  all_goals try (rename_i hq; rw [Bool.not_eq_false'] at hq; rw [Bool.not_not]; exact hq)
  all_goals (refine Done.mk ?_; show Value.int _ _ = Value.int _ r; congr 1)
  all_goals (cases un <;> simp only [Bool.false_eq_true, Bool.true_eq_false, Bool.or_eq_true, Bool.and_eq_true, Bool.or_eq_false_iff, Bool.and_eq_false_iff, decide_eq_true_eq, decide_eq_false_iff_not, Bool.not_eq_true', Bool.not_eq_false', bne_iff_ne, bne_eq_false_iff_eq, beq_iff_eq, beq_eq_false_iff_ne, ne_eq, reduceCtorEq, true_and, and_true, false_and, and_false, false_or, or_false, true_or, or_true, not_true_eq_false, not_false_eq_true, iff_false, iff_true, Bool.not_true, Bool.not_false, Bool.true_and, Bool.and_true, Bool.false_and, Bool.and_false, Bool.or_true, Bool.true_or, Bool.or_false, Bool.false_or] at * <;> (try split at hi) <;> first | omega | (simp_all; done) | (simp_all; omega))

end Go.VX

/- The walk of function 15 (echkx), told by the verified walk VX, and its contract. -/
namespace Go.VX
open Go.Proofs
open Go.RowKit (Below)
set_option linter.unusedVariables false
set_option linter.unusedSimpArgs false
set_option maxRecDepth 100000
set_option maxHeartbeats 4000000
open Go.VX.M17

theorem walk_echkx (nk : Int) (lsn ep ord st : Int) (un : Bool) (tr co mk : Int) (K D : Option Addr) (kl kc dl dc : Nat) (w : World) (Q : Value → Prop) : (∀ (g0 : Nat), Array.size w.heap ≤ g0 → g0 = g0 ∧ g0 = g0 ∧ br (lsn == 0 || ep == 0) (Done (Q (Value.int IntKind.i64 40))) (g0 = g0 ∧ ∀ (g2 : Nat), Array.size w.heap ≤ g2 → ∀ (g4 : Nat), Array.size w.heap ≤ g4 → g2 = g2 ∧ g2 = g2 ∧ g2 = g2 ∧ g2 = g2 ∧ g4 = g4 ∧ g4 = (Addr.add (Addr.mk g4 0 Option.none) 0).block ∧ g4 = (Addr.add (Addr.mk g4 0 Option.none) 1).block ∧ g4 = (Addr.add (Addr.mk g4 0 Option.none) 2).block ∧ g4 = (Addr.add (Addr.mk g4 0 Option.none) 3).block ∧ g4 = (Addr.add (Addr.mk g4 0 Option.none) 4).block ∧ g4 = (Addr.add (Addr.mk g4 0 Option.none) 5).block ∧ g4 = (Addr.add (Addr.mk g4 0 Option.none) 6).block ∧ g4 = (Addr.add (Addr.mk g4 0 Option.none) 7).block ∧ g4 = (Addr.add (Addr.mk g4 0 Option.none) 8).block ∧ g4 = (Addr.add (Addr.mk g4 0 Option.none) 9).block ∧ g4 = (Addr.add (Addr.mk g4 0 Option.none) 10).block ∧ ∀ (g6 : Nat), Array.size w.heap ≤ g6 → g6 = g6 ∧ g0 = g0 ∧ br (nk == 1) (g6 = g6 ∧ Bool.true = Bool.true ∧ ∀ (g8 : Nat), Array.size w.heap ≤ g8 → g8 = g8 ∧ g8 = g8 ∧ g8 = g8 ∧ g8 = g8 ∧ g8 = g8 ∧ g8 = g8 ∧ g8 = g8 ∧ g8 = g8 ∧ g8 = g8 ∧ g8 = g8 ∧ g8 = g8 ∧ br (Bool.false || !(Bool.true && ord == 0 && st == 0 && !un && tr == 0 && co == 0 && mk == 0 && (↑kl : Int) == 0 && (↑dl : Int) == 0)) (Done (Q (Value.int IntKind.i64 40))) (Done (Q (Value.int IntKind.i64 0)))) (br (nk == 2) (g0 = g0 ∧ g0 = g0 ∧ g0 = g0 ∧ g0 = g0 ∧ g6 = g6 ∧ g6 = g6 ∧ g6 = g6 ∧ g6 = g6 ∧ br (!(decide (ord > 0) && decide ((↑kl : Int) > 0) && decide ((↑kl : Int) ≤ 32) && decide ((↑dl : Int) ≤ 200))) (Done (Q (Value.int IntKind.i64 40))) ((!!(decide (ord > 0) && decide ((↑kl : Int) > 0) && decide ((↑kl : Int) ≤ 32) && decide ((↑dl : Int) ≤ 200))) = Bool.true ∧ ∀ (g10 : Nat), Array.size w.heap ≤ g10 → g10 = g10 ∧ g10 = g10 ∧ g10 = g10 ∧ g10 = g10 ∧ g10 = g10 ∧ g10 = g10 ∧ g10 = g10 ∧ g10 = g10 ∧ g10 = g10 ∧ g10 = g10 ∧ g10 = g10 ∧ br (Bool.false || !(Bool.true && st == 0 && !un && tr == 0 && co == 0 && mk == 0 && Bool.true && Bool.true)) (Done (Q (Value.int IntKind.i64 40))) (Done (Q (Value.int IntKind.i64 0))))) (br (nk == 4) (g0 = g0 ∧ g0 = g0 ∧ br (decide (co < 1) || decide (co > 3)) (Done (Q (Value.int IntKind.i64 40))) (g6 = g6 ∧ g0 = g0 ∧ g0 = g0 ∧ g0 = g0 ∧ g0 = g0 ∧ g0 = g0 ∧ g6 = g6 ∧ g6 = g6 ∧ g6 = g6 ∧ g6 = g6 ∧ g6 = g6 ∧ br (!(decide (ord > 0) && decide (st ≥ 0) && decide (st < 16) && decide (tr ≥ 1) && decide (tr ≤ 255))) (Done (Q (Value.int IntKind.i64 40))) ((!!(decide (ord > 0) && decide (st ≥ 0) && decide (st < 16) && decide (tr ≥ 1) && decide (tr ≤ 255))) = Bool.true ∧ ∀ (g12 : Nat), Array.size w.heap ≤ g12 → g12 = g12 ∧ g12 = g12 ∧ g12 = g12 ∧ g12 = g12 ∧ g12 = g12 ∧ g12 = g12 ∧ g12 = g12 ∧ g12 = g12 ∧ g12 = g12 ∧ g12 = g12 ∧ g12 = g12 ∧ br (Bool.false || !(Bool.true && mk == 0 && (↑kl : Int) == 0 && (↑dl : Int) == 0)) (Done (Q (Value.int IntKind.i64 40))) (Done (Q (Value.int IntKind.i64 0)))))) (br (nk == 3) (g0 = g0 ∧ g0 = g0 ∧ g0 = g0 ∧ g0 = g0 ∧ g0 = g0 ∧ g6 = g6 ∧ g6 = g6 ∧ g6 = g6 ∧ g6 = g6 ∧ g6 = g6 ∧ br (!(decide (ord > 0) && decide (st ≥ 0) && decide (st < 16) && decide (tr ≥ 1) && decide (tr ≤ 255))) (Done (Q (Value.int IntKind.i64 40))) ((!!(decide (ord > 0) && decide (st ≥ 0) && decide (st < 16) && decide (tr ≥ 1) && decide (tr ≤ 255))) = Bool.true ∧ ∀ (g14 : Nat), Array.size w.heap ≤ g14 → g14 = g14 ∧ g14 = g14 ∧ g14 = g14 ∧ g14 = g14 ∧ g14 = g14 ∧ g14 = g14 ∧ g14 = g14 ∧ g14 = g14 ∧ g14 = g14 ∧ g14 = g14 ∧ g14 = g14 ∧ br (Bool.false || !(Bool.true && co == 0 && mk == 0 && (↑kl : Int) == 0 && (↑dl : Int) == 0)) (Done (Q (Value.int IntKind.i64 40))) (Done (Q (Value.int IntKind.i64 0))))) (br (nk == 5) (g0 = g0 ∧ g0 = g0 ∧ g0 = g0 ∧ g6 = g6 ∧ g6 = g6 ∧ g6 = g6 ∧ br (!(decide (ord > 0) && decide (co ≥ 1) && decide (co ≤ 3))) (Done (Q (Value.int IntKind.i64 40))) ((!!(decide (ord > 0) && decide (co ≥ 1) && decide (co ≤ 3))) = Bool.true ∧ ∀ (g16 : Nat), Array.size w.heap ≤ g16 → g16 = g16 ∧ g16 = g16 ∧ g16 = g16 ∧ g16 = g16 ∧ g16 = g16 ∧ g16 = g16 ∧ g16 = g16 ∧ g16 = g16 ∧ g16 = g16 ∧ g16 = g16 ∧ g16 = g16 ∧ br (Bool.false || !(Bool.true && st == 0 && !un && tr == 0 && Bool.true && mk == 0 && (↑kl : Int) == 0 && (↑dl : Int) == 0)) (Done (Q (Value.int IntKind.i64 40))) (Done (Q (Value.int IntKind.i64 0))))) (br (nk == 6) (g0 = g0 ∧ g0 = g0 ∧ g6 = g6 ∧ g6 = g6 ∧ br (!(co == 1 || co == 2)) (Done (Q (Value.int IntKind.i64 40))) ((!!(co == 1 || co == 2)) = Bool.true ∧ ∀ (g18 : Nat), Array.size w.heap ≤ g18 → g18 = g18 ∧ g18 = g18 ∧ g18 = g18 ∧ g18 = g18 ∧ g18 = g18 ∧ g18 = g18 ∧ g18 = g18 ∧ g18 = g18 ∧ g18 = g18 ∧ g18 = g18 ∧ g18 = g18 ∧ br (Bool.false || !(Bool.true && ord == 0 && st == 0 && !un && tr == 0 && Bool.true && mk == 0 && (↑kl : Int) == 0 && (↑dl : Int) == 0)) (Done (Q (Value.int IntKind.i64 40))) (Done (Q (Value.int IntKind.i64 0))))) (br (nk == 7) (g0 = g0 ∧ g0 = g0 ∧ g6 = g6 ∧ g6 = g6 ∧ br (!decide (mk < lsn)) (Done (Q (Value.int IntKind.i64 40))) ((!!decide (mk < lsn)) = Bool.true ∧ ∀ (g20 : Nat), Array.size w.heap ≤ g20 → g20 = g20 ∧ g20 = g20 ∧ g20 = g20 ∧ g20 = g20 ∧ g20 = g20 ∧ g20 = g20 ∧ g20 = g20 ∧ g20 = g20 ∧ g20 = g20 ∧ g20 = g20 ∧ g20 = g20 ∧ br (Bool.false || !(Bool.true && ord == 0 && st == 0 && !un && tr == 0 && co == 0 && Bool.true && (↑kl : Int) == 0 && (↑dl : Int) == 0)) (Done (Q (Value.int IntKind.i64 40))) (Done (Q (Value.int IntKind.i64 0))))) (g6 = g6 ∧ Done (Q (Value.int IntKind.i64 40))))))))))) = codeVC (⟨TT.plain _, (fun f => Nat.beq f 35 || Nat.beq f 36), noFar, true, noInv, noInv, noPV, noCV w⟩ : Cfg Try.prog) w 300 (Try.f15.body.getD .skip) ⟨⟨w, []⟩, mkT Try.f15.ntmps [.agg #[.int .i64 nk, .int .u64 lsn, .int .u32 ep, .int .u32 ord, .int .i64 st, .bool un, .int .i64 tr, .int .i64 co, .int .u64 mk, .slice K kl kc, .slice D dl dc]] [], []⟩ (retK Try.prog Try.f15 fun b v s h => newK h (Done (Q v))) := by
  kernel_rfl

theorem echkx_calls (nk : Int) (lsn ep ord st : Int) (un : Bool) (tr co mk : Int) (K D : Option Addr) (kl kc dl dc : Nat) (w : World) (hk : nk < 1 ∨ 7 < nk) :
    Calls Try.prog 15 ([.agg #[.int .i64 nk, .int .u64 lsn, .int .u32 ep, .int .u32 ord, .int .i64 st, .bool un, .int .i64 tr, .int .i64 co, .int .u64 mk, .slice K kl kc, .slice D dl dc]] : List Value).toArray w fun en w' => en = .returned (.int .i64 40) ∧ Below w.heap.size w w' := by
  refine calls_eq (calls_pure2 (G := (⟨TT.plain _, (fun f => Nat.beq f 35 || Nat.beq f 36), noFar, true, noInv, noInv, noPV, noCV w⟩ : Cfg Try.prog)) (noCV_ok' Try.prog w) (noPV_ok Try.prog) 300 Try.func15 rfl [] (Q := fun v => v = .int .i64 40) ((walk_echkx nk lsn ep ord st un tr co mk K D kl kc dl dc w _).mp ?_))
  repeat' (first | refine And.intro rfl ?_ | refine And.intro ?_ ?_ | apply br_intro | intro _)
  all_goals first | rfl | exact trivial | exact ⟨rfl⟩ | assumption | (exfalso; simp only [Bool.false_eq_true, Bool.true_eq_false, Bool.or_eq_true, Bool.and_eq_true, Bool.or_eq_false_iff, Bool.and_eq_false_iff, decide_eq_true_eq, decide_eq_false_iff_not, Bool.not_eq_true', Bool.not_eq_false', bne_iff_ne, bne_eq_false_iff_eq, beq_iff_eq, beq_eq_false_iff_ne, ne_eq, reduceCtorEq, true_and, and_true, false_and, and_false, false_or, or_false, true_or, or_true, not_true_eq_false, not_false_eq_true, iff_false, iff_true, Bool.not_true, Bool.not_false, Bool.true_and, Bool.and_true, Bool.false_and, Bool.and_false, Bool.or_true, Bool.true_or, Bool.or_false, Bool.false_or] at *; omega)

end Go.VX

/- entry.Check of any entry. -/
namespace Go.VX
open Go.Proofs
open Go.RowKit (Below)
set_option linter.unusedVariables false
set_option maxRecDepth 100000
set_option maxHeartbeats 4000000
open Go.VX.M17

theorem echk_calls (nk : Int) (lsn ep ord st : Int) (un : Bool) (tr co mk : Int) (K D : Option Addr) (kl kc dl dc : Nat) (w : World) (hr : (0 ≤ lsn ∧ lsn ≤ 18446744073709551615) ∧ (0 ≤ ep ∧ ep ≤ 4294967295) ∧ (0 ≤ ord ∧ ord ≤ 4294967295) ∧ (0 ≤ mk ∧ mk ≤ 18446744073709551615)) :
    Calls Try.prog 15 ([.agg #[.int .i64 nk, .int .u64 lsn, .int .u32 ep, .int .u32 ord, .int .i64 st, .bool un, .int .i64 tr, .int .i64 co, .int .u64 mk, .slice K kl kc, .slice D dl dc]] : List Value).toArray w fun en w' => en = .returned (.int .i64 (mEChk nk lsn ep ord st un tr co mk kl dl)) ∧ Below w.heap.size w w' := by
  by_cases hk : 1 ≤ nk ∧ nk ≤ 7
  · rcases (by omega : nk = 1 ∨ nk = 2 ∨ nk = 3 ∨ nk = 4 ∨ nk = 5 ∨ nk = 6 ∨ nk = 7) with rfl | rfl | rfl | rfl | rfl | rfl | rfl
    · exact echk1_calls lsn ep ord st un tr co mk K D kl kc dl dc w hr
    · exact echk2_calls lsn ep ord st un tr co mk K D kl kc dl dc w hr
    · exact echk3_calls lsn ep ord st un tr co mk K D kl kc dl dc w hr
    · exact echk4_calls lsn ep ord st un tr co mk K D kl kc dl dc w hr
    · exact echk5_calls lsn ep ord st un tr co mk K D kl kc dl dc w hr
    · exact echk6_calls lsn ep ord st un tr co mk K D kl kc dl dc w hr
    · exact echk7_calls lsn ep ord st un tr co mk K D kl kc dl dc w hr
  · have e : mEChk nk lsn ep ord st un tr co mk kl dl = 40 := by unfold mEChk; rw [eok_bad (by omega)]; rfl
    rw [e]
    exact echkx_calls nk lsn ep ord st un tr co mk K D kl kc dl dc w (by omega)

def pvechk : PV := addPV 15 (fun | [.agg c0] => (match c0.toList with | [.int .i64 nk, .int .u64 lsn, .int .u32 ep, .int .u32 ord, .int .i64 st, .bool un, .int .i64 tr, .int .i64 co, .int .u64 mk, .slice K kl kc, .slice D dl dc] => some (some (((0 ≤ lsn ∧ lsn ≤ 18446744073709551615) ∧ (0 ≤ ep ∧ ep ≤ 4294967295) ∧ (0 ≤ ord ∧ ord ≤ 4294967295) ∧ (0 ≤ mk ∧ mk ≤ 18446744073709551615))), .int .i64 (mEChk nk lsn ep ord st un tr co mk kl dl)) | _ => none) | _ => none) noPV
theorem pvechk_ok (P : Program) (hP : P = Try.prog) : PVok P pvechk := by
  subst hP
  refine addPV_ok (fun args p v w h hp => ?_) (noPV_ok _)
  split at h
  · split at h
    · rename_i hc0; obtain rfl := arr_of hc0; cases h; exact echk_calls _ _ _ _ _ _ _ _ _ _ _ _ _ _ _ w (hp _ rfl)
    · cases h
  · cases h

def pvebad : PV := addPV 15 (fun | [.agg c0] => (match c0.toList with | [.int .i64 nk, .int .u64 lsn, .int .u32 ep, .int .u32 ord, .int .i64 st, .bool un, .int .i64 tr, .int .i64 co, .int .u64 mk, .slice K kl kc, .slice D dl dc] => some (some (nk < 1 ∨ 7 < nk), .int .i64 40) | _ => none) | _ => none) noPV
theorem pvebad_ok (P : Program) (hP : P = Try.prog) : PVok P pvebad := by
  subst hP
  refine addPV_ok (fun args p v w h hp => ?_) (noPV_ok _)
  split at h
  · split at h
    · rename_i hc0; obtain rfl := arr_of hc0; cases h; have hk := hp _ rfl; exact echkx_calls _ _ _ _ _ _ _ _ _ _ _ _ _ _ _ w hk
    · cases h
  · cases h
end Go.VX

/- The walk of function 14 (eput1), told by the verified walk VX, and its contract. -/
namespace Go.VX
open Go.Proofs
open Go.RowKit (Below)
set_option linter.unusedVariables false
set_option linter.unusedSimpArgs false
set_option maxRecDepth 100000
set_option maxHeartbeats 4000000
open Go.VX.M17

theorem walk_eput1 (lsn ep ord st : Int) (un : Bool) (tr co mk : Int) (K D : Option Addr) (kl kc dl dc : Nat) (w : World) (Q : Bool → List Value → Int → Prop) : (∀ (g0 : Nat), Array.size w.heap ≤ g0 → g0 = g0 ∧ ((0 ≤ lsn ∧ lsn ≤ 18446744073709551615) ∧ (0 ≤ ep ∧ ep ≤ 4294967295) ∧ (0 ≤ ord ∧ ord ≤ 4294967295) ∧ 0 ≤ mk ∧ mk ≤ 18446744073709551615) ∧ br (M17.mEChk 1 lsn ep ord st un tr co mk kl dl != 0) (Done (Q Bool.true [] (M17.mEChk 1 lsn ep ord st un tr co mk kl dl))) (Bool.true = Bool.true ∧ g0 = g0 ∧ g0 = g0 ∧ g0 = g0 ∧ ∀ (g2 : Nat), Array.size w.heap ≤ g2 → (g0 = g0 ∧ [Value.int IntKind.i64 1, Value.int IntKind.u64 lsn, Value.int IntKind.u32 ep, Value.int IntKind.u32 ord, Value.int IntKind.i64 st, Value.bool un, Value.int IntKind.i64 tr, Value.int IntKind.i64 co, Value.int IntKind.u64 mk, Value.slice K kl kc, Value.slice D dl dc] = [Value.int IntKind.i64 1, Value.int IntKind.u64 lsn, Value.int IntKind.u32 ep, Value.int IntKind.u32 ord, Value.int IntKind.i64 st, Value.bool un, Value.int IntKind.i64 tr, Value.int IntKind.i64 co, Value.int IntKind.u64 mk, Value.slice K kl kc, Value.slice D dl dc] ∧ 26 = 26) ∧ (g0 = g0 ∧ [Value.int IntKind.i64 1, Value.int IntKind.u64 lsn, Value.int IntKind.u32 ep, Value.int IntKind.u32 ord, Value.int IntKind.i64 st, Value.bool un, Value.int IntKind.i64 tr, Value.int IntKind.i64 co, Value.int IntKind.u64 mk, Value.slice K kl kc, Value.slice D dl dc] = [Value.int IntKind.i64 1, Value.int IntKind.u64 lsn, Value.int IntKind.u32 ep, Value.int IntKind.u32 ord, Value.int IntKind.i64 st, Value.bool un, Value.int IntKind.i64 tr, Value.int IntKind.i64 co, Value.int IntKind.u64 mk, Value.slice K kl kc, Value.slice D dl dc] ∧ 26 = 26) ∧ (g0 = g0 ∧ [Value.int IntKind.i64 1, Value.int IntKind.u64 lsn, Value.int IntKind.u32 ep, Value.int IntKind.u32 ord, Value.int IntKind.i64 st, Value.bool un, Value.int IntKind.i64 tr, Value.int IntKind.i64 co, Value.int IntKind.u64 mk, Value.slice K kl kc, Value.slice D dl dc] = [Value.int IntKind.i64 1, Value.int IntKind.u64 lsn, Value.int IntKind.u32 ep, Value.int IntKind.u32 ord, Value.int IntKind.i64 st, Value.bool un, Value.int IntKind.i64 tr, Value.int IntKind.i64 co, Value.int IntKind.u64 mk, Value.slice K kl kc, Value.slice D dl dc] ∧ 26 = 26) ∧ Bool.true = Bool.true ∧ g2 = g2 ∧ ∀ (g4 : Nat), Array.size w.heap ≤ g4 → (g2 = g2 ∧ [Value.slice Option.none 0 0, Value.bool Bool.false] = [Value.slice Option.none 0 0, Value.bool Bool.false] ∧ 83 = 83) ∧ g4 = g4 ∧ True ∧ ∀ (g6 g7 : Nat) (x8 : List Go.Value), Array.size w.heap ≤ g6 → 1 ≤ g7 → g2 = g2 ∧ (g0 = g0 ∧ [Value.int IntKind.i64 1, Value.int IntKind.u64 lsn, Value.int IntKind.u32 ep, Value.int IntKind.u32 ord, Value.int IntKind.i64 st, Value.bool un, Value.int IntKind.i64 tr, Value.int IntKind.i64 co, Value.int IntKind.u64 mk, Value.slice K kl kc, Value.slice D dl dc] = [Value.int IntKind.i64 1, Value.int IntKind.u64 lsn, Value.int IntKind.u32 ep, Value.int IntKind.u32 ord, Value.int IntKind.i64 st, Value.bool un, Value.int IntKind.i64 tr, Value.int IntKind.i64 co, Value.int IntKind.u64 mk, Value.slice K kl kc, Value.slice D dl dc] ∧ 26 = 26) ∧ (g0 = g0 ∧ [Value.int IntKind.i64 1, Value.int IntKind.u64 lsn, Value.int IntKind.u32 ep, Value.int IntKind.u32 ord, Value.int IntKind.i64 st, Value.bool un, Value.int IntKind.i64 tr, Value.int IntKind.i64 co, Value.int IntKind.u64 mk, Value.slice K kl kc, Value.slice D dl dc] = [Value.int IntKind.i64 1, Value.int IntKind.u64 lsn, Value.int IntKind.u32 ep, Value.int IntKind.u32 ord, Value.int IntKind.i64 st, Value.bool un, Value.int IntKind.i64 tr, Value.int IntKind.i64 co, Value.int IntKind.u64 mk, Value.slice K kl kc, Value.slice D dl dc] ∧ 26 = 26) ∧ (g0 = g0 ∧ [Value.int IntKind.i64 1, Value.int IntKind.u64 lsn, Value.int IntKind.u32 ep, Value.int IntKind.u32 ord, Value.int IntKind.i64 st, Value.bool un, Value.int IntKind.i64 tr, Value.int IntKind.i64 co, Value.int IntKind.u64 mk, Value.slice K kl kc, Value.slice D dl dc] = [Value.int IntKind.i64 1, Value.int IntKind.u64 lsn, Value.int IntKind.u32 ep, Value.int IntKind.u32 ord, Value.int IntKind.i64 st, Value.bool un, Value.int IntKind.i64 tr, Value.int IntKind.i64 co, Value.int IntKind.u64 mk, Value.slice K kl kc, Value.slice D dl dc] ∧ 26 = 26) ∧ Bool.true = Bool.true ∧ g2 = g2 ∧ ∀ (g11 : Nat), Array.size w.heap ≤ g11 → (g2 = g2 ∧ [Value.slice (Option.some (Addr.mk g6 0 Option.none)) 1 g7, Value.bool Bool.false] = [Value.slice (Option.some (Addr.mk g6 0 Option.none)) 1 g7, Value.bool Bool.false] ∧ 83 = 83) ∧ g11 = g11 ∧ g7 = g7 ∧ (g6 = g6 ∧ 1 ≤ g7 ∧ True) ∧ ∀ (g13 g14 : Nat) (x15 : List Go.Value), g13 = g6 ∨ Array.size w.heap ≤ g13 → 2 ≤ g14 → g2 = g2 ∧ Bool.true = Bool.true ∧ g2 = g2 ∧ ∀ (g18 : Nat), Array.size w.heap ≤ g18 → (g2 = g2 ∧ [Value.slice (Option.some (Addr.mk g13 0 Option.none)) 2 g14, Value.bool Bool.false] = [Value.slice (Option.some (Addr.mk g13 0 Option.none)) 2 g14, Value.bool Bool.false] ∧ 83 = 83) ∧ g18 = g18 ∧ g14 = g14 ∧ (g13 = g13 ∧ 2 ≤ g14 ∧ True) ∧ ∀ (g20 g21 : Nat) (x22 : List Go.Value), g20 = g13 ∨ Array.size w.heap ≤ g20 → 3 ≤ g21 → g2 = g2 ∧ Bool.true = Bool.true ∧ g2 = g2 ∧ ∀ (g25 : Nat), Array.size w.heap ≤ g25 → (g2 = g2 ∧ [Value.slice (Option.some (Addr.mk g20 0 Option.none)) 3 g21, Value.bool Bool.false] = [Value.slice (Option.some (Addr.mk g20 0 Option.none)) 3 g21, Value.bool Bool.false] ∧ 83 = 83) ∧ g25 = g25 ∧ g21 = g21 ∧ (g20 = g20 ∧ 3 ≤ g21 ∧ True) ∧ ∀ (g27 g28 : Nat) (x29 : List Go.Value), g27 = g20 ∨ Array.size w.heap ≤ g27 → 4 ≤ g28 → g2 = g2 ∧ Bool.true = Bool.true ∧ g2 = g2 ∧ ∀ (g32 : Nat), Array.size w.heap ≤ g32 → (g2 = g2 ∧ [Value.slice (Option.some (Addr.mk g27 0 Option.none)) 4 g28, Value.bool Bool.false] = [Value.slice (Option.some (Addr.mk g27 0 Option.none)) 4 g28, Value.bool Bool.false] ∧ 83 = 83) ∧ g32 = g32 ∧ g28 = g28 ∧ (g27 = g27 ∧ 4 ≤ g28 ∧ True) ∧ ∀ (g34 g35 : Nat) (x36 : List Go.Value), g34 = g27 ∨ Array.size w.heap ≤ g34 → 5 ≤ g35 → g2 = g2 ∧ Bool.true = Bool.true ∧ g2 = g2 ∧ ∀ (g39 : Nat), Array.size w.heap ≤ g39 → (g2 = g2 ∧ [Value.slice (Option.some (Addr.mk g34 0 Option.none)) 5 g35, Value.bool Bool.false] = [Value.slice (Option.some (Addr.mk g34 0 Option.none)) 5 g35, Value.bool Bool.false] ∧ 83 = 83) ∧ g39 = g39 ∧ g35 = g35 ∧ (g34 = g34 ∧ 5 ≤ g35 ∧ True) ∧ ∀ (g41 g42 : Nat) (x43 : List Go.Value), g41 = g34 ∨ Array.size w.heap ≤ g41 → 6 ≤ g42 → g2 = g2 ∧ Bool.true = Bool.true ∧ g2 = g2 ∧ ∀ (g46 : Nat), Array.size w.heap ≤ g46 → (g2 = g2 ∧ [Value.slice (Option.some (Addr.mk g41 0 Option.none)) 6 g42, Value.bool Bool.false] = [Value.slice (Option.some (Addr.mk g41 0 Option.none)) 6 g42, Value.bool Bool.false] ∧ 83 = 83) ∧ g46 = g46 ∧ g42 = g42 ∧ (g41 = g41 ∧ 6 ≤ g42 ∧ True) ∧ ∀ (g48 g49 : Nat) (x50 : List Go.Value), g48 = g41 ∨ Array.size w.heap ≤ g48 → 7 ≤ g49 → g2 = g2 ∧ Bool.true = Bool.true ∧ g2 = g2 ∧ ∀ (g53 : Nat), Array.size w.heap ≤ g53 → (g2 = g2 ∧ [Value.slice (Option.some (Addr.mk g48 0 Option.none)) 7 g49, Value.bool Bool.false] = [Value.slice (Option.some (Addr.mk g48 0 Option.none)) 7 g49, Value.bool Bool.false] ∧ 83 = 83) ∧ g53 = g53 ∧ g49 = g49 ∧ (g48 = g48 ∧ 7 ≤ g49 ∧ True) ∧ ∀ (g55 g56 : Nat) (x57 : List Go.Value), g55 = g48 ∨ Array.size w.heap ≤ g55 → 8 ≤ g56 → g2 = g2 ∧ Bool.true = Bool.true ∧ g2 = g2 ∧ ∀ (g60 : Nat), Array.size w.heap ≤ g60 → (g2 = g2 ∧ [Value.slice (Option.some (Addr.mk g55 0 Option.none)) 8 g56, Value.bool Bool.false] = [Value.slice (Option.some (Addr.mk g55 0 Option.none)) 8 g56, Value.bool Bool.false] ∧ 83 = 83) ∧ g60 = g60 ∧ g56 = g56 ∧ (g55 = g55 ∧ 8 ≤ g56 ∧ True) ∧ ∀ (g62 g63 : Nat) (x64 : List Go.Value), g62 = g55 ∨ Array.size w.heap ≤ g62 → 9 ≤ g63 → g2 = g2 ∧ (g0 = g0 ∧ [Value.int IntKind.i64 1, Value.int IntKind.u64 lsn, Value.int IntKind.u32 ep, Value.int IntKind.u32 ord, Value.int IntKind.i64 st, Value.bool un, Value.int IntKind.i64 tr, Value.int IntKind.i64 co, Value.int IntKind.u64 mk, Value.slice K kl kc, Value.slice D dl dc] = [Value.int IntKind.i64 1, Value.int IntKind.u64 lsn, Value.int IntKind.u32 ep, Value.int IntKind.u32 ord, Value.int IntKind.i64 st, Value.bool un, Value.int IntKind.i64 tr, Value.int IntKind.i64 co, Value.int IntKind.u64 mk, Value.slice K kl kc, Value.slice D dl dc] ∧ 26 = 26) ∧ (g0 = g0 ∧ [Value.int IntKind.i64 1, Value.int IntKind.u64 lsn, Value.int IntKind.u32 ep, Value.int IntKind.u32 ord, Value.int IntKind.i64 st, Value.bool un, Value.int IntKind.i64 tr, Value.int IntKind.i64 co, Value.int IntKind.u64 mk, Value.slice K kl kc, Value.slice D dl dc] = [Value.int IntKind.i64 1, Value.int IntKind.u64 lsn, Value.int IntKind.u32 ep, Value.int IntKind.u32 ord, Value.int IntKind.i64 st, Value.bool un, Value.int IntKind.i64 tr, Value.int IntKind.i64 co, Value.int IntKind.u64 mk, Value.slice K kl kc, Value.slice D dl dc] ∧ 26 = 26) ∧ Bool.true = Bool.true ∧ g2 = g2 ∧ ∀ (g67 : Nat), Array.size w.heap ≤ g67 → (g2 = g2 ∧ [Value.slice (Option.some (Addr.mk g62 0 Option.none)) 9 g63, Value.bool Bool.false] = [Value.slice (Option.some (Addr.mk g62 0 Option.none)) 9 g63, Value.bool Bool.false] ∧ 83 = 83) ∧ g67 = g67 ∧ g63 = g63 ∧ (g62 = g62 ∧ 9 ≤ g63 ∧ True) ∧ ∀ (g69 g70 : Nat) (x71 : List Go.Value), g69 = g62 ∨ Array.size w.heap ≤ g69 → 10 ≤ g70 → g2 = g2 ∧ Bool.true = Bool.true ∧ g2 = g2 ∧ ∀ (g74 : Nat), Array.size w.heap ≤ g74 → (g2 = g2 ∧ [Value.slice (Option.some (Addr.mk g69 0 Option.none)) 10 g70, Value.bool Bool.false] = [Value.slice (Option.some (Addr.mk g69 0 Option.none)) 10 g70, Value.bool Bool.false] ∧ 83 = 83) ∧ g74 = g74 ∧ g70 = g70 ∧ (g69 = g69 ∧ 10 ≤ g70 ∧ True) ∧ ∀ (g76 g77 : Nat) (x78 : List Go.Value), g76 = g69 ∨ Array.size w.heap ≤ g76 → 11 ≤ g77 → g2 = g2 ∧ Bool.true = Bool.true ∧ g2 = g2 ∧ ∀ (g81 : Nat), Array.size w.heap ≤ g81 → (g2 = g2 ∧ [Value.slice (Option.some (Addr.mk g76 0 Option.none)) 11 g77, Value.bool Bool.false] = [Value.slice (Option.some (Addr.mk g76 0 Option.none)) 11 g77, Value.bool Bool.false] ∧ 83 = 83) ∧ g81 = g81 ∧ g77 = g77 ∧ (g76 = g76 ∧ 11 ≤ g77 ∧ True) ∧ ∀ (g83 g84 : Nat) (x85 : List Go.Value), g83 = g76 ∨ Array.size w.heap ≤ g83 → 12 ≤ g84 → g2 = g2 ∧ Bool.true = Bool.true ∧ g2 = g2 ∧ ∀ (g88 : Nat), Array.size w.heap ≤ g88 → (g2 = g2 ∧ [Value.slice (Option.some (Addr.mk g83 0 Option.none)) 12 g84, Value.bool Bool.false] = [Value.slice (Option.some (Addr.mk g83 0 Option.none)) 12 g84, Value.bool Bool.false] ∧ 83 = 83) ∧ g88 = g88 ∧ g84 = g84 ∧ (g83 = g83 ∧ 12 ≤ g84 ∧ True) ∧ ∀ (g90 g91 : Nat) (x92 : List Go.Value), g90 = g83 ∨ Array.size w.heap ≤ g90 → 13 ≤ g91 → g2 = g2 ∧ (g0 = g0 ∧ [Value.int IntKind.i64 1, Value.int IntKind.u64 lsn, Value.int IntKind.u32 ep, Value.int IntKind.u32 ord, Value.int IntKind.i64 st, Value.bool un, Value.int IntKind.i64 tr, Value.int IntKind.i64 co, Value.int IntKind.u64 mk, Value.slice K kl kc, Value.slice D dl dc] = [Value.int IntKind.i64 1, Value.int IntKind.u64 lsn, Value.int IntKind.u32 ep, Value.int IntKind.u32 ord, Value.int IntKind.i64 st, Value.bool un, Value.int IntKind.i64 tr, Value.int IntKind.i64 co, Value.int IntKind.u64 mk, Value.slice K kl kc, Value.slice D dl dc] ∧ 26 = 26) ∧ g0 = g0 ∧ g2 = g2 ∧ ∀ (g95 : Nat), Array.size w.heap ≤ g95 → g2 = g2 ∧ g90 = g90 ∧ (g95 = g95 ∧ 0 ≤ 0 ∧ True) ∧ ∀ (g97 g98 : Nat) (x99 : List Go.Value), g97 = g95 ∨ Array.size w.heap ≤ g97 → 13 ≤ g98 → g98 = g98 ∧ (g97 = g97 ∧ 13 ≤ g98) ∧ Done (Q Bool.false [Value.int IntKind.u8 1, Value.int IntKind.u8 (IntKind.wrap IntKind.u8 (Int.fdiv lsn 72057594037927936)), Value.int IntKind.u8 (IntKind.wrap IntKind.u8 (Int.fdiv lsn 281474976710656)), Value.int IntKind.u8 (IntKind.wrap IntKind.u8 (Int.fdiv lsn 1099511627776)), Value.int IntKind.u8 (IntKind.wrap IntKind.u8 (Int.fdiv lsn 4294967296)), Value.int IntKind.u8 (IntKind.wrap IntKind.u8 (Int.fdiv lsn 16777216)), Value.int IntKind.u8 (IntKind.wrap IntKind.u8 (Int.fdiv lsn 65536)), Value.int IntKind.u8 (IntKind.wrap IntKind.u8 (Int.fdiv lsn 256)), Value.int IntKind.u8 (IntKind.wrap IntKind.u8 (Int.fdiv lsn 1)), Value.int IntKind.u8 (IntKind.wrap IntKind.u8 (Int.fdiv (IntKind.wrap IntKind.u64 ep) 16777216)), Value.int IntKind.u8 (IntKind.wrap IntKind.u8 (Int.fdiv (IntKind.wrap IntKind.u64 ep) 65536)), Value.int IntKind.u8 (IntKind.wrap IntKind.u8 (Int.fdiv (IntKind.wrap IntKind.u64 ep) 256)), Value.int IntKind.u8 (IntKind.wrap IntKind.u8 (Int.fdiv (IntKind.wrap IntKind.u64 ep) 1))] 0))) = codeVC (⟨TT.plain _, (fun f => Nat.beq f 28 || Nat.beq f 29 || Nat.beq f 31 || Nat.beq f 30 || Nat.beq f 32 || Nat.beq f 34 || Nat.beq f 49 || Nat.beq f 33), noFar, true, noInv, noInv, pvechk, noCV w⟩ : Cfg Try.prog) w 400 (Try.f14.body.getD .skip) ⟨⟨w, []⟩, mkT Try.f14.ntmps [.agg #[.int .i64 1, .int .u64 lsn, .int .u32 ep, .int .u32 ord, .int .i64 st, .bool un, .int .i64 tr, .int .i64 co, .int .u64 mk, .slice K kl kc, .slice D dl dc]] [[[none, none, none, none, none, none, none, none, none, some 1001, some 1001]]], []⟩ (retK Try.prog Try.f14 fun b v s h => newK h (putE 5 h v s fun z l c => Done (Q z l c))) := by
  kernel_rfl

set_option maxHeartbeats 16000000 in
theorem eput1_form (lsn ep ord st : Int) (un : Bool) (tr co mk : Int) (K D : Option Addr) (kc dc : Nat) (ks ds : List Int) (w : World) (BK : BytesAt w (.slice K ks.length kc) ks.length ks) (BD : BytesAt w (.slice D ds.length dc) ds.length ds) (hr : (0 ≤ lsn ∧ lsn ≤ 18446744073709551615) ∧ (0 ≤ ep ∧ ep ≤ 4294967295) ∧ (0 ≤ ord ∧ ord ≤ 4294967295) ∧ (0 ≤ mk ∧ mk ≤ 18446744073709551615)) :
    codeVC (⟨TT.plain _, (fun f => Nat.beq f 28 || Nat.beq f 29 || Nat.beq f 31 || Nat.beq f 30 || Nat.beq f 32 || Nat.beq f 34 || Nat.beq f 49 || Nat.beq f 33), noFar, true, noInv, noInv, pvechk, noCV w⟩ : Cfg Try.prog) w 400 (Try.f14.body.getD .skip) ⟨⟨w, []⟩, mkT Try.f14.ntmps [.agg #[.int .i64 1, .int .u64 lsn, .int .u32 ep, .int .u32 ord, .int .i64 st, .bool un, .int .i64 tr, .int .i64 co, .int .u64 mk, .slice K ks.length kc, .slice D ds.length dc]] [[[none, none, none, none, none, none, none, none, none, some 1001, some 1001]]], []⟩ (retK Try.prog Try.f14 fun b v s h => newK h (putE 5 h v s fun z l c => Done (z = (!(c == 0)) ∧ l = u8s (mEPut 1 lsn ep ord st un tr co mk ks ds).1 ∧ c = (mEPut 1 lsn ep ord st un tr co mk ks ds).2))) := by
  refine (walk_eput1 lsn ep ord st un tr co mk K D ks.length kc ds.length dc w (fun z l c => z = (!(c == 0)) ∧ l = u8s (mEPut 1 lsn ep ord st un tr co mk ks ds).1 ∧ c = (mEPut 1 lsn ep ord st un tr co mk ks ds).2)).mp ?_
  have HR := hr
  obtain ⟨⟨l0, l1⟩, ⟨e0, e1⟩, ⟨o0, o1⟩, ⟨m0, m1⟩⟩ := hr
  have hok : mEOk 1 lsn ep ord st un tr co mk ks.length ds.length = mEOk 1 lsn ep ord st un tr co mk ks.length ds.length := rfl
  by_cases hz : mEOk 1 lsn ep ord st un tr co mk ks.length ds.length = true
  · have hm : mEPut 1 lsn ep ord st un tr co mk ks ds = (be1n 1 ++ (be8n lsn ++ (be4n ep ++ eParts 1 ord st un tr co mk ks ds)), 0) := by unfold mEPut; rw [hz]; rfl
    have hc : mEChk 1 lsn ep ord st un tr co mk ks.length ds.length = 0 := by unfold mEChk; rw [hz]; rfl
    rw [hm]
    try rw [hc]
    clear hm hc hok
    rw [show mEOk 1 lsn ep ord st un tr co mk ks.length ds.length = (decide (1 ≤ lsn ∧ 1 ≤ ep) && decide (ord = 0 ∧ st = 0 ∧ un = false ∧ tr = 0 ∧ co = 0 ∧ mk = 0 ∧ ks.length = 0 ∧ ds.length = 0)) from rfl] at hz
    simp only [Bool.and_eq_true, decide_eq_true_eq] at hz
    have we : IntKind.u64.wrap ep = ep := by rw [w64]; omega
    have wo : IntKind.u64.wrap ord = ord := by rw [w64]; omega
    have rl := fun k => rb_eq (n := lsn) l0 (by omega) k
    have re := fun k => rb_eq (n := ep) e0 (by omega) k
    have ro := fun k => rb_eq (n := ord) o0 (by omega) k
    have rm := fun k => rb_eq (n := mk) m0 (by omega) k
    have rk : rb 0 (IntKind.u64.wrap 1) = 1 := by decide
    have r0 : rb 0 0 = 0 := by decide
    have r1 : rb 0 1 = 1 := by decide
    have ws : (0 ≤ st ∧ st ≤ 255) → IntKind.u64.wrap st = st := by intro h; rw [w64]; omega
    have wt : (0 ≤ tr ∧ tr ≤ 255) → IntKind.u64.wrap tr = tr := by intro h; rw [w64]; omega
    have wc : (0 ≤ co ∧ co ≤ 255) → IntKind.u64.wrap co = co := by intro h; rw [w64]; omega
    have ws8 : (0 ≤ st ∧ st ≤ 255) → IntKind.u8.wrap st = st := by intro h; rw [w8]; omega
    have wt8 : (0 ≤ tr ∧ tr ≤ 255) → IntKind.u8.wrap tr = tr := by intro h; rw [w8]; omega
    have wc8 : (0 ≤ co ∧ co ≤ 255) → IntKind.u8.wrap co = co := by intro h; rw [w8]; omega
    have wk8 : ks.length ≤ 255 → IntKind.u8.wrap (ks.length : Int) = ks.length := by intro h; rw [w8]; omega
    have wx8 : ds.length ≤ 255 → IntKind.u8.wrap (ds.length : Int) = ds.length := by intro h; rw [w8]; omega
    have wk : ks.length ≤ 255 → IntKind.u64.wrap (ks.length : Int) = ks.length := by intro h; rw [w64]; omega
    have wx : ds.length ≤ 255 → IntKind.u64.wrap (ds.length : Int) = ds.length := by intro h; rw [w64]; omega
    have mk8 : ks.length ≤ 255 → (ks.length : Int) % 256 = ks.length := by intro h; omega
    have mx8 : ds.length ≤ 255 → (ds.length : Int) % 256 = ds.length := by intro h; omega
    have rs : (0 ≤ st ∧ st ≤ 255) → ∀ k, rb k st = st / (256 ^ k : Nat) % 256 := fun h k => rb_eq (n := st) h.1 (by omega) k
    have rt : (0 ≤ tr ∧ tr ≤ 255) → ∀ k, rb k tr = tr / (256 ^ k : Nat) % 256 := fun h k => rb_eq (n := tr) h.1 (by omega) k
    have rc : (0 ≤ co ∧ co ≤ 255) → ∀ k, rb k co = co / (256 ^ k : Nat) % 256 := fun h k => rb_eq (n := co) h.1 (by omega) k

    repeat' (first | refine And.intro rfl ?_ | refine And.intro HR ?_ | refine And.intro ?_ ?_ | apply br_intro | (refine tkI (by first | rfl | exact sz5) (by simp [u8s]; try omega) ?_) | (refine tkD (by first | rfl | exact sz5) (by simp [u8s]; try omega) ?_) | (refine tkL (by simp [u8s]; try omega) ?_) | (refine ⟨_, BK.far (h := []) rfl, ?_⟩) | (refine ⟨_, BD.far (h := []) rfl, ?_⟩) | (refine ⟨ks, rfl, ?_⟩) | (refine ⟨ds, rfl, ?_⟩) | intro _)
    all_goals try first | rfl | exact trivial | assumption | (simp only [Bool.not_eq_true']; assumption) | (show (_ : Int) ≤ _; decide) | (show (_ : Int) < _; decide) | (show (_ : Nat) ≤ _; omega) | exact all_flat _ | (simp [u8s, flat]; done) | (simp [u8s]; omega)
    all_goals first
      | (refine Done.mk ⟨rfl, ?_, rfl⟩; (try simp only [ we, wo, pb0, pb1, pb2, pb3, pb4, pb5, pb6, pb7]); simp [u8s,  we, wo, re, ro, rl, rm, rk, r0, r1, eParts, be1n, be4n, be8n, *]; done)
      | (exfalso; simp only [str_nil, str_nil2, beq_self_eq_true, Bool.false_eq_true, Bool.true_eq_false, Bool.or_eq_true, Bool.and_eq_true, Bool.or_eq_false_iff, Bool.and_eq_false_iff, decide_eq_true_eq, decide_eq_false_iff_not, Bool.not_eq_true', Bool.not_eq_false', bne_iff_ne, bne_eq_false_iff_eq, beq_iff_eq, beq_eq_false_iff_ne, ne_eq, reduceCtorEq, true_and, and_true, false_and, and_false, false_or, or_false, true_or, or_true, not_true_eq_false, not_false_eq_true, iff_false, iff_true, Bool.not_true, Bool.not_false, Bool.true_and, Bool.and_true, Bool.false_and, Bool.and_false, Bool.or_true, Bool.true_or, Bool.or_false, Bool.false_or] at *; omega)
      | (exfalso; simp [IntKind.wrap, IntKind.bits, IntKind.signed, str_nil, str_nil2] at *; omega)
      | (simp_all; done)
  · have hz' : mEOk 1 lsn ep ord st un tr co mk ks.length ds.length = false := by simpa using hz
    have hm : mEPut 1 lsn ep ord st un tr co mk ks ds = ([], 40) := by unfold mEPut; rw [hz']; rfl
    have hc : mEChk 1 lsn ep ord st un tr co mk ks.length ds.length = 40 := by unfold mEChk; rw [hz']; rfl
    rw [hm]
    try rw [hc]
    clear hm hc hz hok
    rw [show mEOk 1 lsn ep ord st un tr co mk ks.length ds.length = (decide (1 ≤ lsn ∧ 1 ≤ ep) && decide (ord = 0 ∧ st = 0 ∧ un = false ∧ tr = 0 ∧ co = 0 ∧ mk = 0 ∧ ks.length = 0 ∧ ds.length = 0)) from rfl] at hz'
    repeat' (first | refine And.intro rfl ?_ | refine And.intro HR ?_ | refine And.intro ?_ ?_ | apply br_intro | (refine tkI (by first | rfl | exact sz5) (by simp [u8s]; try omega) ?_) | (refine tkD (by first | rfl | exact sz5) (by simp [u8s]; try omega) ?_) | (refine tkL (by simp [u8s]; try omega) ?_) | (refine ⟨_, BK.far (h := []) rfl, ?_⟩) | (refine ⟨_, BD.far (h := []) rfl, ?_⟩) | (refine ⟨ks, rfl, ?_⟩) | (refine ⟨ds, rfl, ?_⟩) | intro _)
    all_goals try first | rfl | exact trivial | assumption | exact ⟨rfl, rfl, rfl⟩ | (simp only [Bool.not_eq_true']; assumption) | (show (_ : Int) ≤ _; decide) | (show (_ : Int) < _; decide) | (show (_ : Nat) ≤ _; omega) | exact all_flat _ | (simp [u8s, flat]; done) | (simp [u8s]; omega)
    all_goals first
      | (exfalso; cases un <;> simp only [str_nil, str_nil2, beq_self_eq_true, Bool.false_eq_true, Bool.true_eq_false, Bool.or_eq_true, Bool.and_eq_true, Bool.or_eq_false_iff, Bool.and_eq_false_iff, decide_eq_true_eq, decide_eq_false_iff_not, Bool.not_eq_true', Bool.not_eq_false', bne_iff_ne, bne_eq_false_iff_eq, beq_iff_eq, beq_eq_false_iff_ne, ne_eq, reduceCtorEq, true_and, and_true, false_and, and_false, false_or, or_false, true_or, or_true, not_true_eq_false, not_false_eq_true, iff_false, iff_true, Bool.not_true, Bool.not_false, Bool.true_and, Bool.and_true, Bool.false_and, Bool.and_false, Bool.or_true, Bool.true_or, Bool.or_false, Bool.false_or] at * <;> omega)
      | (exfalso; cases un <;> simp_all [str_nil, str_nil2] <;> omega)

end Go.VX

/- The walk of function 14 (eput2), told by the verified walk VX, and its contract. -/
namespace Go.VX
open Go.Proofs
open Go.RowKit (Below)
set_option linter.unusedVariables false
set_option linter.unusedSimpArgs false
set_option maxRecDepth 100000
set_option maxHeartbeats 4000000
open Go.VX.M17

theorem walk_eput2 (lsn ep ord st : Int) (un : Bool) (tr co mk : Int) (K D : Option Addr) (kl kc dl dc : Nat) (w : World) (Q : Bool → List Value → Int → Prop) : (∀ (g0 : Nat), Array.size w.heap ≤ g0 → g0 = g0 ∧ ((0 ≤ lsn ∧ lsn ≤ 18446744073709551615) ∧ (0 ≤ ep ∧ ep ≤ 4294967295) ∧ (0 ≤ ord ∧ ord ≤ 4294967295) ∧ 0 ≤ mk ∧ mk ≤ 18446744073709551615) ∧ br (M17.mEChk 2 lsn ep ord st un tr co mk kl dl != 0) (Done (Q Bool.true [] (M17.mEChk 2 lsn ep ord st un tr co mk kl dl))) (Bool.true = Bool.true ∧ g0 = g0 ∧ g0 = g0 ∧ g0 = g0 ∧ ∀ (g2 : Nat), Array.size w.heap ≤ g2 → (g0 = g0 ∧ [Value.int IntKind.i64 2, Value.int IntKind.u64 lsn, Value.int IntKind.u32 ep, Value.int IntKind.u32 ord, Value.int IntKind.i64 st, Value.bool un, Value.int IntKind.i64 tr, Value.int IntKind.i64 co, Value.int IntKind.u64 mk, Value.slice K kl kc, Value.slice D dl dc] = [Value.int IntKind.i64 2, Value.int IntKind.u64 lsn, Value.int IntKind.u32 ep, Value.int IntKind.u32 ord, Value.int IntKind.i64 st, Value.bool un, Value.int IntKind.i64 tr, Value.int IntKind.i64 co, Value.int IntKind.u64 mk, Value.slice K kl kc, Value.slice D dl dc] ∧ 26 = 26) ∧ (g0 = g0 ∧ [Value.int IntKind.i64 2, Value.int IntKind.u64 lsn, Value.int IntKind.u32 ep, Value.int IntKind.u32 ord, Value.int IntKind.i64 st, Value.bool un, Value.int IntKind.i64 tr, Value.int IntKind.i64 co, Value.int IntKind.u64 mk, Value.slice K kl kc, Value.slice D dl dc] = [Value.int IntKind.i64 2, Value.int IntKind.u64 lsn, Value.int IntKind.u32 ep, Value.int IntKind.u32 ord, Value.int IntKind.i64 st, Value.bool un, Value.int IntKind.i64 tr, Value.int IntKind.i64 co, Value.int IntKind.u64 mk, Value.slice K kl kc, Value.slice D dl dc] ∧ 26 = 26) ∧ (g0 = g0 ∧ [Value.int IntKind.i64 2, Value.int IntKind.u64 lsn, Value.int IntKind.u32 ep, Value.int IntKind.u32 ord, Value.int IntKind.i64 st, Value.bool un, Value.int IntKind.i64 tr, Value.int IntKind.i64 co, Value.int IntKind.u64 mk, Value.slice K kl kc, Value.slice D dl dc] = [Value.int IntKind.i64 2, Value.int IntKind.u64 lsn, Value.int IntKind.u32 ep, Value.int IntKind.u32 ord, Value.int IntKind.i64 st, Value.bool un, Value.int IntKind.i64 tr, Value.int IntKind.i64 co, Value.int IntKind.u64 mk, Value.slice K kl kc, Value.slice D dl dc] ∧ 26 = 26) ∧ Bool.true = Bool.true ∧ g2 = g2 ∧ ∀ (g4 : Nat), Array.size w.heap ≤ g4 → (g2 = g2 ∧ [Value.slice Option.none 0 0, Value.bool Bool.false] = [Value.slice Option.none 0 0, Value.bool Bool.false] ∧ 83 = 83) ∧ g4 = g4 ∧ True ∧ ∀ (g6 g7 : Nat) (x8 : List Go.Value), Array.size w.heap ≤ g6 → 1 ≤ g7 → g2 = g2 ∧ (g0 = g0 ∧ [Value.int IntKind.i64 2, Value.int IntKind.u64 lsn, Value.int IntKind.u32 ep, Value.int IntKind.u32 ord, Value.int IntKind.i64 st, Value.bool un, Value.int IntKind.i64 tr, Value.int IntKind.i64 co, Value.int IntKind.u64 mk, Value.slice K kl kc, Value.slice D dl dc] = [Value.int IntKind.i64 2, Value.int IntKind.u64 lsn, Value.int IntKind.u32 ep, Value.int IntKind.u32 ord, Value.int IntKind.i64 st, Value.bool un, Value.int IntKind.i64 tr, Value.int IntKind.i64 co, Value.int IntKind.u64 mk, Value.slice K kl kc, Value.slice D dl dc] ∧ 26 = 26) ∧ (g0 = g0 ∧ [Value.int IntKind.i64 2, Value.int IntKind.u64 lsn, Value.int IntKind.u32 ep, Value.int IntKind.u32 ord, Value.int IntKind.i64 st, Value.bool un, Value.int IntKind.i64 tr, Value.int IntKind.i64 co, Value.int IntKind.u64 mk, Value.slice K kl kc, Value.slice D dl dc] = [Value.int IntKind.i64 2, Value.int IntKind.u64 lsn, Value.int IntKind.u32 ep, Value.int IntKind.u32 ord, Value.int IntKind.i64 st, Value.bool un, Value.int IntKind.i64 tr, Value.int IntKind.i64 co, Value.int IntKind.u64 mk, Value.slice K kl kc, Value.slice D dl dc] ∧ 26 = 26) ∧ (g0 = g0 ∧ [Value.int IntKind.i64 2, Value.int IntKind.u64 lsn, Value.int IntKind.u32 ep, Value.int IntKind.u32 ord, Value.int IntKind.i64 st, Value.bool un, Value.int IntKind.i64 tr, Value.int IntKind.i64 co, Value.int IntKind.u64 mk, Value.slice K kl kc, Value.slice D dl dc] = [Value.int IntKind.i64 2, Value.int IntKind.u64 lsn, Value.int IntKind.u32 ep, Value.int IntKind.u32 ord, Value.int IntKind.i64 st, Value.bool un, Value.int IntKind.i64 tr, Value.int IntKind.i64 co, Value.int IntKind.u64 mk, Value.slice K kl kc, Value.slice D dl dc] ∧ 26 = 26) ∧ Bool.true = Bool.true ∧ g2 = g2 ∧ ∀ (g11 : Nat), Array.size w.heap ≤ g11 → (g2 = g2 ∧ [Value.slice (Option.some (Addr.mk g6 0 Option.none)) 1 g7, Value.bool Bool.false] = [Value.slice (Option.some (Addr.mk g6 0 Option.none)) 1 g7, Value.bool Bool.false] ∧ 83 = 83) ∧ g11 = g11 ∧ g7 = g7 ∧ (g6 = g6 ∧ 1 ≤ g7 ∧ True) ∧ ∀ (g13 g14 : Nat) (x15 : List Go.Value), g13 = g6 ∨ Array.size w.heap ≤ g13 → 2 ≤ g14 → g2 = g2 ∧ Bool.true = Bool.true ∧ g2 = g2 ∧ ∀ (g18 : Nat), Array.size w.heap ≤ g18 → (g2 = g2 ∧ [Value.slice (Option.some (Addr.mk g13 0 Option.none)) 2 g14, Value.bool Bool.false] = [Value.slice (Option.some (Addr.mk g13 0 Option.none)) 2 g14, Value.bool Bool.false] ∧ 83 = 83) ∧ g18 = g18 ∧ g14 = g14 ∧ (g13 = g13 ∧ 2 ≤ g14 ∧ True) ∧ ∀ (g20 g21 : Nat) (x22 : List Go.Value), g20 = g13 ∨ Array.size w.heap ≤ g20 → 3 ≤ g21 → g2 = g2 ∧ Bool.true = Bool.true ∧ g2 = g2 ∧ ∀ (g25 : Nat), Array.size w.heap ≤ g25 → (g2 = g2 ∧ [Value.slice (Option.some (Addr.mk g20 0 Option.none)) 3 g21, Value.bool Bool.false] = [Value.slice (Option.some (Addr.mk g20 0 Option.none)) 3 g21, Value.bool Bool.false] ∧ 83 = 83) ∧ g25 = g25 ∧ g21 = g21 ∧ (g20 = g20 ∧ 3 ≤ g21 ∧ True) ∧ ∀ (g27 g28 : Nat) (x29 : List Go.Value), g27 = g20 ∨ Array.size w.heap ≤ g27 → 4 ≤ g28 → g2 = g2 ∧ Bool.true = Bool.true ∧ g2 = g2 ∧ ∀ (g32 : Nat), Array.size w.heap ≤ g32 → (g2 = g2 ∧ [Value.slice (Option.some (Addr.mk g27 0 Option.none)) 4 g28, Value.bool Bool.false] = [Value.slice (Option.some (Addr.mk g27 0 Option.none)) 4 g28, Value.bool Bool.false] ∧ 83 = 83) ∧ g32 = g32 ∧ g28 = g28 ∧ (g27 = g27 ∧ 4 ≤ g28 ∧ True) ∧ ∀ (g34 g35 : Nat) (x36 : List Go.Value), g34 = g27 ∨ Array.size w.heap ≤ g34 → 5 ≤ g35 → g2 = g2 ∧ Bool.true = Bool.true ∧ g2 = g2 ∧ ∀ (g39 : Nat), Array.size w.heap ≤ g39 → (g2 = g2 ∧ [Value.slice (Option.some (Addr.mk g34 0 Option.none)) 5 g35, Value.bool Bool.false] = [Value.slice (Option.some (Addr.mk g34 0 Option.none)) 5 g35, Value.bool Bool.false] ∧ 83 = 83) ∧ g39 = g39 ∧ g35 = g35 ∧ (g34 = g34 ∧ 5 ≤ g35 ∧ True) ∧ ∀ (g41 g42 : Nat) (x43 : List Go.Value), g41 = g34 ∨ Array.size w.heap ≤ g41 → 6 ≤ g42 → g2 = g2 ∧ Bool.true = Bool.true ∧ g2 = g2 ∧ ∀ (g46 : Nat), Array.size w.heap ≤ g46 → (g2 = g2 ∧ [Value.slice (Option.some (Addr.mk g41 0 Option.none)) 6 g42, Value.bool Bool.false] = [Value.slice (Option.some (Addr.mk g41 0 Option.none)) 6 g42, Value.bool Bool.false] ∧ 83 = 83) ∧ g46 = g46 ∧ g42 = g42 ∧ (g41 = g41 ∧ 6 ≤ g42 ∧ True) ∧ ∀ (g48 g49 : Nat) (x50 : List Go.Value), g48 = g41 ∨ Array.size w.heap ≤ g48 → 7 ≤ g49 → g2 = g2 ∧ Bool.true = Bool.true ∧ g2 = g2 ∧ ∀ (g53 : Nat), Array.size w.heap ≤ g53 → (g2 = g2 ∧ [Value.slice (Option.some (Addr.mk g48 0 Option.none)) 7 g49, Value.bool Bool.false] = [Value.slice (Option.some (Addr.mk g48 0 Option.none)) 7 g49, Value.bool Bool.false] ∧ 83 = 83) ∧ g53 = g53 ∧ g49 = g49 ∧ (g48 = g48 ∧ 7 ≤ g49 ∧ True) ∧ ∀ (g55 g56 : Nat) (x57 : List Go.Value), g55 = g48 ∨ Array.size w.heap ≤ g55 → 8 ≤ g56 → g2 = g2 ∧ Bool.true = Bool.true ∧ g2 = g2 ∧ ∀ (g60 : Nat), Array.size w.heap ≤ g60 → (g2 = g2 ∧ [Value.slice (Option.some (Addr.mk g55 0 Option.none)) 8 g56, Value.bool Bool.false] = [Value.slice (Option.some (Addr.mk g55 0 Option.none)) 8 g56, Value.bool Bool.false] ∧ 83 = 83) ∧ g60 = g60 ∧ g56 = g56 ∧ (g55 = g55 ∧ 8 ≤ g56 ∧ True) ∧ ∀ (g62 g63 : Nat) (x64 : List Go.Value), g62 = g55 ∨ Array.size w.heap ≤ g62 → 9 ≤ g63 → g2 = g2 ∧ (g0 = g0 ∧ [Value.int IntKind.i64 2, Value.int IntKind.u64 lsn, Value.int IntKind.u32 ep, Value.int IntKind.u32 ord, Value.int IntKind.i64 st, Value.bool un, Value.int IntKind.i64 tr, Value.int IntKind.i64 co, Value.int IntKind.u64 mk, Value.slice K kl kc, Value.slice D dl dc] = [Value.int IntKind.i64 2, Value.int IntKind.u64 lsn, Value.int IntKind.u32 ep, Value.int IntKind.u32 ord, Value.int IntKind.i64 st, Value.bool un, Value.int IntKind.i64 tr, Value.int IntKind.i64 co, Value.int IntKind.u64 mk, Value.slice K kl kc, Value.slice D dl dc] ∧ 26 = 26) ∧ (g0 = g0 ∧ [Value.int IntKind.i64 2, Value.int IntKind.u64 lsn, Value.int IntKind.u32 ep, Value.int IntKind.u32 ord, Value.int IntKind.i64 st, Value.bool un, Value.int IntKind.i64 tr, Value.int IntKind.i64 co, Value.int IntKind.u64 mk, Value.slice K kl kc, Value.slice D dl dc] = [Value.int IntKind.i64 2, Value.int IntKind.u64 lsn, Value.int IntKind.u32 ep, Value.int IntKind.u32 ord, Value.int IntKind.i64 st, Value.bool un, Value.int IntKind.i64 tr, Value.int IntKind.i64 co, Value.int IntKind.u64 mk, Value.slice K kl kc, Value.slice D dl dc] ∧ 26 = 26) ∧ Bool.true = Bool.true ∧ g2 = g2 ∧ ∀ (g67 : Nat), Array.size w.heap ≤ g67 → (g2 = g2 ∧ [Value.slice (Option.some (Addr.mk g62 0 Option.none)) 9 g63, Value.bool Bool.false] = [Value.slice (Option.some (Addr.mk g62 0 Option.none)) 9 g63, Value.bool Bool.false] ∧ 83 = 83) ∧ g67 = g67 ∧ g63 = g63 ∧ (g62 = g62 ∧ 9 ≤ g63 ∧ True) ∧ ∀ (g69 g70 : Nat) (x71 : List Go.Value), g69 = g62 ∨ Array.size w.heap ≤ g69 → 10 ≤ g70 → g2 = g2 ∧ Bool.true = Bool.true ∧ g2 = g2 ∧ ∀ (g74 : Nat), Array.size w.heap ≤ g74 → (g2 = g2 ∧ [Value.slice (Option.some (Addr.mk g69 0 Option.none)) 10 g70, Value.bool Bool.false] = [Value.slice (Option.some (Addr.mk g69 0 Option.none)) 10 g70, Value.bool Bool.false] ∧ 83 = 83) ∧ g74 = g74 ∧ g70 = g70 ∧ (g69 = g69 ∧ 10 ≤ g70 ∧ True) ∧ ∀ (g76 g77 : Nat) (x78 : List Go.Value), g76 = g69 ∨ Array.size w.heap ≤ g76 → 11 ≤ g77 → g2 = g2 ∧ Bool.true = Bool.true ∧ g2 = g2 ∧ ∀ (g81 : Nat), Array.size w.heap ≤ g81 → (g2 = g2 ∧ [Value.slice (Option.some (Addr.mk g76 0 Option.none)) 11 g77, Value.bool Bool.false] = [Value.slice (Option.some (Addr.mk g76 0 Option.none)) 11 g77, Value.bool Bool.false] ∧ 83 = 83) ∧ g81 = g81 ∧ g77 = g77 ∧ (g76 = g76 ∧ 11 ≤ g77 ∧ True) ∧ ∀ (g83 g84 : Nat) (x85 : List Go.Value), g83 = g76 ∨ Array.size w.heap ≤ g83 → 12 ≤ g84 → g2 = g2 ∧ Bool.true = Bool.true ∧ g2 = g2 ∧ ∀ (g88 : Nat), Array.size w.heap ≤ g88 → (g2 = g2 ∧ [Value.slice (Option.some (Addr.mk g83 0 Option.none)) 12 g84, Value.bool Bool.false] = [Value.slice (Option.some (Addr.mk g83 0 Option.none)) 12 g84, Value.bool Bool.false] ∧ 83 = 83) ∧ g88 = g88 ∧ g84 = g84 ∧ (g83 = g83 ∧ 12 ≤ g84 ∧ True) ∧ ∀ (g90 g91 : Nat) (x92 : List Go.Value), g90 = g83 ∨ Array.size w.heap ≤ g90 → 13 ≤ g91 → g2 = g2 ∧ (g0 = g0 ∧ [Value.int IntKind.i64 2, Value.int IntKind.u64 lsn, Value.int IntKind.u32 ep, Value.int IntKind.u32 ord, Value.int IntKind.i64 st, Value.bool un, Value.int IntKind.i64 tr, Value.int IntKind.i64 co, Value.int IntKind.u64 mk, Value.slice K kl kc, Value.slice D dl dc] = [Value.int IntKind.i64 2, Value.int IntKind.u64 lsn, Value.int IntKind.u32 ep, Value.int IntKind.u32 ord, Value.int IntKind.i64 st, Value.bool un, Value.int IntKind.i64 tr, Value.int IntKind.i64 co, Value.int IntKind.u64 mk, Value.slice K kl kc, Value.slice D dl dc] ∧ 26 = 26) ∧ g0 = g0 ∧ Bool.true = Bool.true ∧ g0 = g0 ∧ g0 = g0 ∧ g0 = g0 ∧ Bool.true = Bool.true ∧ g2 = g2 ∧ ∀ (g95 : Nat), Array.size w.heap ≤ g95 → (g2 = g2 ∧ [Value.slice (Option.some (Addr.mk g90 0 Option.none)) 13 g91, Value.bool Bool.false] = [Value.slice (Option.some (Addr.mk g90 0 Option.none)) 13 g91, Value.bool Bool.false] ∧ 83 = 83) ∧ g95 = g95 ∧ g91 = g91 ∧ (g90 = g90 ∧ 13 ≤ g91 ∧ True) ∧ ∀ (g97 g98 : Nat) (x99 : List Go.Value), g97 = g90 ∨ Array.size w.heap ≤ g97 → 14 ≤ g98 → g2 = g2 ∧ Bool.true = Bool.true ∧ g2 = g2 ∧ ∀ (g102 : Nat), Array.size w.heap ≤ g102 → (g2 = g2 ∧ [Value.slice (Option.some (Addr.mk g97 0 Option.none)) 14 g98, Value.bool Bool.false] = [Value.slice (Option.some (Addr.mk g97 0 Option.none)) 14 g98, Value.bool Bool.false] ∧ 83 = 83) ∧ g102 = g102 ∧ g98 = g98 ∧ (g97 = g97 ∧ 14 ≤ g98 ∧ True) ∧ ∀ (g104 g105 : Nat) (x106 : List Go.Value), g104 = g97 ∨ Array.size w.heap ≤ g104 → 15 ≤ g105 → g2 = g2 ∧ Bool.true = Bool.true ∧ g2 = g2 ∧ ∀ (g109 : Nat), Array.size w.heap ≤ g109 → (g2 = g2 ∧ [Value.slice (Option.some (Addr.mk g104 0 Option.none)) 15 g105, Value.bool Bool.false] = [Value.slice (Option.some (Addr.mk g104 0 Option.none)) 15 g105, Value.bool Bool.false] ∧ 83 = 83) ∧ g109 = g109 ∧ g105 = g105 ∧ (g104 = g104 ∧ 15 ≤ g105 ∧ True) ∧ ∀ (g111 g112 : Nat) (x113 : List Go.Value), g111 = g104 ∨ Array.size w.heap ≤ g111 → 16 ≤ g112 → g2 = g2 ∧ Bool.true = Bool.true ∧ g2 = g2 ∧ ∀ (g116 : Nat), Array.size w.heap ≤ g116 → (g2 = g2 ∧ [Value.slice (Option.some (Addr.mk g111 0 Option.none)) 16 g112, Value.bool Bool.false] = [Value.slice (Option.some (Addr.mk g111 0 Option.none)) 16 g112, Value.bool Bool.false] ∧ 83 = 83) ∧ g116 = g116 ∧ g112 = g112 ∧ (g111 = g111 ∧ 16 ≤ g112 ∧ True) ∧ ∀ (g118 g119 : Nat) (x120 : List Go.Value), g118 = g111 ∨ Array.size w.heap ≤ g118 → 17 ≤ g119 → g2 = g2 ∧ (g0 = g0 ∧ [Value.int IntKind.i64 2, Value.int IntKind.u64 lsn, Value.int IntKind.u32 ep, Value.int IntKind.u32 ord, Value.int IntKind.i64 st, Value.bool un, Value.int IntKind.i64 tr, Value.int IntKind.i64 co, Value.int IntKind.u64 mk, Value.slice K kl kc, Value.slice D dl dc] = [Value.int IntKind.i64 2, Value.int IntKind.u64 lsn, Value.int IntKind.u32 ep, Value.int IntKind.u32 ord, Value.int IntKind.i64 st, Value.bool un, Value.int IntKind.i64 tr, Value.int IntKind.i64 co, Value.int IntKind.u64 mk, Value.slice K kl kc, Value.slice D dl dc] ∧ 26 = 26) ∧ (g0 = g0 ∧ [Value.int IntKind.i64 2, Value.int IntKind.u64 lsn, Value.int IntKind.u32 ep, Value.int IntKind.u32 ord, Value.int IntKind.i64 st, Value.bool un, Value.int IntKind.i64 tr, Value.int IntKind.i64 co, Value.int IntKind.u64 mk, Value.slice K kl kc, Value.slice D dl dc] = [Value.int IntKind.i64 2, Value.int IntKind.u64 lsn, Value.int IntKind.u32 ep, Value.int IntKind.u32 ord, Value.int IntKind.i64 st, Value.bool un, Value.int IntKind.i64 tr, Value.int IntKind.i64 co, Value.int IntKind.u64 mk, Value.slice K kl kc, Value.slice D dl dc] ∧ 26 = 26) ∧ br (decide ((↑kl : Int) > 255)) (g2 = g2 ∧ (g0 = g0 ∧ [Value.int IntKind.i64 2, Value.int IntKind.u64 lsn, Value.int IntKind.u32 ep, Value.int IntKind.u32 ord, Value.int IntKind.i64 st, Value.bool un, Value.int IntKind.i64 tr, Value.int IntKind.i64 co, Value.int IntKind.u64 mk, Value.slice K kl kc, Value.slice D dl dc] = [Value.int IntKind.i64 2, Value.int IntKind.u64 lsn, Value.int IntKind.u32 ep, Value.int IntKind.u32 ord, Value.int IntKind.i64 st, Value.bool un, Value.int IntKind.i64 tr, Value.int IntKind.i64 co, Value.int IntKind.u64 mk, Value.slice K kl kc, Value.slice D dl dc] ∧ 26 = 26) ∧ br (decide ((↑dl : Int) > 255)) (g2 = g2 ∧ g2 = g2 ∧ Done (Q Bool.true [] 3)) (Bool.true = Bool.true ∧ g2 = g2 ∧ ∀ (g123 : Nat), Array.size w.heap ≤ g123 → (g2 = g2 ∧ [Value.slice (Option.some (Addr.mk g118 0 Option.none)) 17 g119, Value.bool Bool.true] = [Value.slice (Option.some (Addr.mk g118 0 Option.none)) 17 g119, Value.bool Bool.true] ∧ 83 = 83) ∧ g123 = g123 ∧ g119 = g119 ∧ (g118 = g118 ∧ 17 ≤ g119 ∧ True) ∧ ∀ (g125 g126 : Nat) (x127 : List Go.Value), g125 = g118 ∨ Array.size w.heap ≤ g125 → 18 ≤ g126 → g2 = g2 ∧ g2 = g2 ∧ ∃ (v130 : List Go.Value), (List.length v130 = dl * 1 ∧ List.all v130 flat = Bool.true ∧ (0 < dl → ∃ (v132 : Go.Addr), D = Option.some v132 ∧ (v132.block < Array.size w.heap ∧ True) ∧ cellsAt w v132 0 v130)) ∧ g126 = g126 ∧ (g125 = g125 ∧ 18 ≤ g126 ∧ br (Nat.ble ((18 + dl) * 1) 140737488355328) True (Nat.le ((18 + dl) * 1) 140737488355328)) ∧ ∀ (g133 g134 : Nat) (x135 : List Go.Value), g133 = g125 ∨ Array.size w.heap ≤ g133 → 18 + dl ≤ g134 → g2 = g2 ∧ g2 = g2 ∧ Done (Q Bool.true [] 3))) (Bool.true = Bool.true ∧ g2 = g2 ∧ ∀ (g138 : Nat), Array.size w.heap ≤ g138 → (g2 = g2 ∧ [Value.slice (Option.some (Addr.mk g118 0 Option.none)) 17 g119, Value.bool Bool.false] = [Value.slice (Option.some (Addr.mk g118 0 Option.none)) 17 g119, Value.bool Bool.false] ∧ 83 = 83) ∧ g138 = g138 ∧ g119 = g119 ∧ (g118 = g118 ∧ 17 ≤ g119 ∧ True) ∧ ∀ (g140 g141 : Nat) (x142 : List Go.Value), g140 = g118 ∨ Array.size w.heap ≤ g140 → 18 ≤ g141 → g2 = g2 ∧ g2 = g2 ∧ ∃ (v145 : List Go.Value), (List.length v145 = kl * 1 ∧ List.all v145 flat = Bool.true ∧ (0 < kl → ∃ (v147 : Go.Addr), K = Option.some v147 ∧ (v147.block < Array.size w.heap ∧ True) ∧ cellsAt w v147 0 v145)) ∧ g141 = g141 ∧ (g140 = g140 ∧ 18 ≤ g141 ∧ br (Nat.ble ((18 + kl) * 1) 140737488355328) True (Nat.le ((18 + kl) * 1) 140737488355328)) ∧ ∀ (g148 g149 : Nat) (x150 : List Go.Value), g148 = g140 ∨ Array.size w.heap ≤ g148 → 18 + kl ≤ g149 → g2 = g2 ∧ (g0 = g0 ∧ [Value.int IntKind.i64 2, Value.int IntKind.u64 lsn, Value.int IntKind.u32 ep, Value.int IntKind.u32 ord, Value.int IntKind.i64 st, Value.bool un, Value.int IntKind.i64 tr, Value.int IntKind.i64 co, Value.int IntKind.u64 mk, Value.slice K kl kc, Value.slice D dl dc] = [Value.int IntKind.i64 2, Value.int IntKind.u64 lsn, Value.int IntKind.u32 ep, Value.int IntKind.u32 ord, Value.int IntKind.i64 st, Value.bool un, Value.int IntKind.i64 tr, Value.int IntKind.i64 co, Value.int IntKind.u64 mk, Value.slice K kl kc, Value.slice D dl dc] ∧ 26 = 26) ∧ br (decide ((↑dl : Int) > 255)) (g2 = g2 ∧ g2 = g2 ∧ Done (Q Bool.true [] 3)) (Bool.true = Bool.true ∧ g2 = g2 ∧ ∀ (g153 : Nat), Array.size w.heap ≤ g153 → (g2 = g2 ∧ [Value.slice (Option.some (Addr.mk g148 0 Option.none)) (18 + kl) g149, Value.bool Bool.false] = [Value.slice (Option.some (Addr.mk g148 0 Option.none)) (18 + kl) g149, Value.bool Bool.false] ∧ 83 = 83) ∧ g153 = g153 ∧ g149 = g149 ∧ (g148 = g148 ∧ 18 + kl ≤ g149 ∧ br (Nat.ble ((18 + kl + 1) * 1) 140737488355328) True (Nat.le ((18 + kl + 1) * 1) 140737488355328)) ∧ ∀ (x155 : List Go.Value), x155 = List.take ((18 + kl) * 1) ([Value.int IntKind.u8 2, Value.int IntKind.u8 (IntKind.wrap IntKind.u8 (Int.fdiv lsn 72057594037927936)), Value.int IntKind.u8 (IntKind.wrap IntKind.u8 (Int.fdiv lsn 281474976710656)), Value.int IntKind.u8 (IntKind.wrap IntKind.u8 (Int.fdiv lsn 1099511627776)), Value.int IntKind.u8 (IntKind.wrap IntKind.u8 (Int.fdiv lsn 4294967296)), Value.int IntKind.u8 (IntKind.wrap IntKind.u8 (Int.fdiv lsn 16777216)), Value.int IntKind.u8 (IntKind.wrap IntKind.u8 (Int.fdiv lsn 65536)), Value.int IntKind.u8 (IntKind.wrap IntKind.u8 (Int.fdiv lsn 256)), Value.int IntKind.u8 (IntKind.wrap IntKind.u8 (Int.fdiv lsn 1)), Value.int IntKind.u8 (IntKind.wrap IntKind.u8 (Int.fdiv (IntKind.wrap IntKind.u64 ep) 16777216)), Value.int IntKind.u8 (IntKind.wrap IntKind.u8 (Int.fdiv (IntKind.wrap IntKind.u64 ep) 65536)), Value.int IntKind.u8 (IntKind.wrap IntKind.u8 (Int.fdiv (IntKind.wrap IntKind.u64 ep) 256)), Value.int IntKind.u8 (IntKind.wrap IntKind.u8 (Int.fdiv (IntKind.wrap IntKind.u64 ep) 1)), Value.int IntKind.u8 (IntKind.wrap IntKind.u8 (Int.fdiv (IntKind.wrap IntKind.u64 ord) 16777216)), Value.int IntKind.u8 (IntKind.wrap IntKind.u8 (Int.fdiv (IntKind.wrap IntKind.u64 ord) 65536)), Value.int IntKind.u8 (IntKind.wrap IntKind.u8 (Int.fdiv (IntKind.wrap IntKind.u64 ord) 256)), Value.int IntKind.u8 (IntKind.wrap IntKind.u8 (Int.fdiv (IntKind.wrap IntKind.u64 ord) 1)), Value.int IntKind.u8 (IntKind.wrap IntKind.u8 (Int.fdiv (IntKind.wrap IntKind.u64 (IntKind.wrap IntKind.u8 (↑kl : Int))) 1))] ++ v145 ++ x150) → ∀ (g157 g158 : Nat) (x159 : List Go.Value), g157 = g148 ∨ Array.size w.heap ≤ g157 → 18 + kl + 1 ≤ g158 → g2 = g2 ∧ g2 = g2 ∧ ∃ (v162 : List Go.Value), (List.length v162 = dl * 1 ∧ List.all v162 flat = Bool.true ∧ (0 < dl → ∃ (v164 : Go.Addr), D = Option.some v164 ∧ (v164.block < Array.size w.heap ∧ True) ∧ cellsAt w v164 0 v162)) ∧ g158 = g158 ∧ (g157 = g157 ∧ 18 + kl + 1 ≤ g158 ∧ br (Nat.ble ((18 + kl + 1 + dl) * 1) 140737488355328) True (Nat.le ((18 + kl + 1 + dl) * 1) 140737488355328)) ∧ ∀ (x165 : List Go.Value), x165 = List.take ((18 + kl + 1) * 1) (x155 ++ [Value.int IntKind.u8 (IntKind.wrap IntKind.u8 (Int.fdiv (IntKind.wrap IntKind.u64 (IntKind.wrap IntKind.u8 (↑dl : Int))) 1))] ++ x159) → ∀ (g167 g168 : Nat) (x169 : List Go.Value), g167 = g157 ∨ Array.size w.heap ≤ g167 → 18 + kl + 1 + dl ≤ g168 → g2 = g2 ∧ g2 = g2 ∧ ∀ (g172 : Nat), Array.size w.heap ≤ g172 → g2 = g2 ∧ ∀ (x174 : List Go.Value), x174 = List.take ((18 + kl + 1 + dl) * 1) (List.drop 0 (x165 ++ v162 ++ x169)) → (g167 = g167 ∧ 0 + (18 + kl + 1 + dl) * 1 ≤ List.length (x165 ++ v162 ++ x169) ∧ List.all x174 flat = Bool.true) ∧ (g172 = g172 ∧ 0 ≤ 0 ∧ br (Nat.ble ((0 + (18 + kl + 1 + dl)) * 1) 140737488355328) True (Nat.le ((0 + (18 + kl + 1 + dl)) * 1) 140737488355328)) ∧ ∀ (g176 g177 : Nat) (x178 : List Go.Value), g176 = g172 ∨ Array.size w.heap ≤ g176 → 0 + (18 + kl + 1 + dl) ≤ g177 → g177 = g177 ∧ (g176 = g176 ∧ 0 + (18 + kl + 1 + dl) ≤ g177) ∧ ∀ (x181 : List Go.Value), x181 = List.take (0 + (18 + kl + 1 + dl)) ([] ++ x174 ++ x178) → Done (Q Bool.false x181 0))))) = codeVC (⟨TT.plain _, (fun f => Nat.beq f 28 || Nat.beq f 29 || Nat.beq f 31 || Nat.beq f 30 || Nat.beq f 32 || Nat.beq f 34 || Nat.beq f 49 || Nat.beq f 33), noFar, true, noInv, noInv, pvechk, noCV w⟩ : Cfg Try.prog) w 400 (Try.f14.body.getD .skip) ⟨⟨w, []⟩, mkT Try.f14.ntmps [.agg #[.int .i64 2, .int .u64 lsn, .int .u32 ep, .int .u32 ord, .int .i64 st, .bool un, .int .i64 tr, .int .i64 co, .int .u64 mk, .slice K kl kc, .slice D dl dc]] [[[none, none, none, none, none, none, none, none, none, some 1001, some 1001]]], []⟩ (retK Try.prog Try.f14 fun b v s h => newK h (putE 5 h v s fun z l c => Done (Q z l c))) := by
  kernel_rfl

set_option maxHeartbeats 16000000 in
theorem eput2_form (lsn ep ord st : Int) (un : Bool) (tr co mk : Int) (K D : Option Addr) (kc dc : Nat) (ks ds : List Int) (w : World) (BK : BytesAt w (.slice K ks.length kc) ks.length ks) (BD : BytesAt w (.slice D ds.length dc) ds.length ds) (hr : (0 ≤ lsn ∧ lsn ≤ 18446744073709551615) ∧ (0 ≤ ep ∧ ep ≤ 4294967295) ∧ (0 ≤ ord ∧ ord ≤ 4294967295) ∧ (0 ≤ mk ∧ mk ≤ 18446744073709551615)) :
    codeVC (⟨TT.plain _, (fun f => Nat.beq f 28 || Nat.beq f 29 || Nat.beq f 31 || Nat.beq f 30 || Nat.beq f 32 || Nat.beq f 34 || Nat.beq f 49 || Nat.beq f 33), noFar, true, noInv, noInv, pvechk, noCV w⟩ : Cfg Try.prog) w 400 (Try.f14.body.getD .skip) ⟨⟨w, []⟩, mkT Try.f14.ntmps [.agg #[.int .i64 2, .int .u64 lsn, .int .u32 ep, .int .u32 ord, .int .i64 st, .bool un, .int .i64 tr, .int .i64 co, .int .u64 mk, .slice K ks.length kc, .slice D ds.length dc]] [[[none, none, none, none, none, none, none, none, none, some 1001, some 1001]]], []⟩ (retK Try.prog Try.f14 fun b v s h => newK h (putE 5 h v s fun z l c => Done (z = (!(c == 0)) ∧ l = u8s (mEPut 2 lsn ep ord st un tr co mk ks ds).1 ∧ c = (mEPut 2 lsn ep ord st un tr co mk ks ds).2))) := by
  refine (walk_eput2 lsn ep ord st un tr co mk K D ks.length kc ds.length dc w (fun z l c => z = (!(c == 0)) ∧ l = u8s (mEPut 2 lsn ep ord st un tr co mk ks ds).1 ∧ c = (mEPut 2 lsn ep ord st un tr co mk ks ds).2)).mp ?_
  have HR := hr
  obtain ⟨⟨l0, l1⟩, ⟨e0, e1⟩, ⟨o0, o1⟩, ⟨m0, m1⟩⟩ := hr
  have hok : mEOk 2 lsn ep ord st un tr co mk ks.length ds.length = mEOk 2 lsn ep ord st un tr co mk ks.length ds.length := rfl
  by_cases hz : mEOk 2 lsn ep ord st un tr co mk ks.length ds.length = true
  · have hm : mEPut 2 lsn ep ord st un tr co mk ks ds = (be1n 2 ++ (be8n lsn ++ (be4n ep ++ eParts 2 ord st un tr co mk ks ds)), 0) := by unfold mEPut; rw [hz]; rfl
    have hc : mEChk 2 lsn ep ord st un tr co mk ks.length ds.length = 0 := by unfold mEChk; rw [hz]; rfl
    rw [hm]
    try rw [hc]
    clear hm hc hok
    rw [show mEOk 2 lsn ep ord st un tr co mk ks.length ds.length = (decide (1 ≤ lsn ∧ 1 ≤ ep) && decide (1 ≤ ord ∧ st = 0 ∧ un = false ∧ tr = 0 ∧ co = 0 ∧ mk = 0 ∧ 1 ≤ ks.length ∧ ks.length ≤ 32 ∧ ds.length ≤ 200)) from rfl] at hz
    simp only [Bool.and_eq_true, decide_eq_true_eq] at hz
    have we : IntKind.u64.wrap ep = ep := by rw [w64]; omega
    have wo : IntKind.u64.wrap ord = ord := by rw [w64]; omega
    have rl := fun k => rb_eq (n := lsn) l0 (by omega) k
    have re := fun k => rb_eq (n := ep) e0 (by omega) k
    have ro := fun k => rb_eq (n := ord) o0 (by omega) k
    have rm := fun k => rb_eq (n := mk) m0 (by omega) k
    have rk : rb 0 (IntKind.u64.wrap 2) = 2 := by decide
    have r0 : rb 0 0 = 0 := by decide
    have r1 : rb 0 1 = 1 := by decide
    have ws : (0 ≤ st ∧ st ≤ 255) → IntKind.u64.wrap st = st := by intro h; rw [w64]; omega
    have wt : (0 ≤ tr ∧ tr ≤ 255) → IntKind.u64.wrap tr = tr := by intro h; rw [w64]; omega
    have wc : (0 ≤ co ∧ co ≤ 255) → IntKind.u64.wrap co = co := by intro h; rw [w64]; omega
    have ws8 : (0 ≤ st ∧ st ≤ 255) → IntKind.u8.wrap st = st := by intro h; rw [w8]; omega
    have wt8 : (0 ≤ tr ∧ tr ≤ 255) → IntKind.u8.wrap tr = tr := by intro h; rw [w8]; omega
    have wc8 : (0 ≤ co ∧ co ≤ 255) → IntKind.u8.wrap co = co := by intro h; rw [w8]; omega
    have wk8 : ks.length ≤ 255 → IntKind.u8.wrap (ks.length : Int) = ks.length := by intro h; rw [w8]; omega
    have wx8 : ds.length ≤ 255 → IntKind.u8.wrap (ds.length : Int) = ds.length := by intro h; rw [w8]; omega
    have wk : ks.length ≤ 255 → IntKind.u64.wrap (ks.length : Int) = ks.length := by intro h; rw [w64]; omega
    have wx : ds.length ≤ 255 → IntKind.u64.wrap (ds.length : Int) = ds.length := by intro h; rw [w64]; omega
    have mk8 : ks.length ≤ 255 → (ks.length : Int) % 256 = ks.length := by intro h; omega
    have mx8 : ds.length ≤ 255 → (ds.length : Int) % 256 = ds.length := by intro h; omega
    have rs : (0 ≤ st ∧ st ≤ 255) → ∀ k, rb k st = st / (256 ^ k : Nat) % 256 := fun h k => rb_eq (n := st) h.1 (by omega) k
    have rt : (0 ≤ tr ∧ tr ≤ 255) → ∀ k, rb k tr = tr / (256 ^ k : Nat) % 256 := fun h k => rb_eq (n := tr) h.1 (by omega) k
    have rc : (0 ≤ co ∧ co ≤ 255) → ∀ k, rb k co = co / (256 ^ k : Nat) % 256 := fun h k => rb_eq (n := co) h.1 (by omega) k
    replace wk8 := wk8 (by omega)
    replace wx8 := wx8 (by omega)
    replace wk := wk (by omega)
    replace wx := wx (by omega)
    replace mk8 := mk8 (by omega)
    replace mx8 := mx8 (by omega)

    repeat' (first | refine And.intro rfl ?_ | refine And.intro HR ?_ | refine And.intro ?_ ?_ | apply br_intro | (refine tkI (by first | rfl | exact sz5) (by simp [u8s]; try omega) ?_) | (refine tkD (by first | rfl | exact sz5) (by simp [u8s]; try omega) ?_) | (refine tkL (by simp [u8s]; try omega) ?_) | (refine ⟨_, BK.far (h := []) rfl, ?_⟩) | (refine ⟨_, BD.far (h := []) rfl, ?_⟩) | (refine ⟨ks, rfl, ?_⟩) | (refine ⟨ds, rfl, ?_⟩) | intro _)
    all_goals try first | rfl | exact trivial | assumption | (simp only [Bool.not_eq_true']; assumption) | (show (_ : Int) ≤ _; decide) | (show (_ : Int) < _; decide) | (show (_ : Nat) ≤ _; omega) | exact all_flat _ | (simp [u8s, flat]; done) | (simp [u8s]; omega)
    all_goals first
      | (refine Done.mk ⟨rfl, ?_, rfl⟩; (try simp only [wk8, wx8, wk, wx, mk8, mx8,  we, wo, pb0, pb1, pb2, pb3, pb4, pb5, pb6, pb7]); simp [u8s, wk8, wx8, wk, wx, mk8, mx8,  we, wo, re, ro, rl, rm, rk, r0, r1, eParts, be1n, be4n, be8n, *]; done)
      | (exfalso; simp only [str_nil, str_nil2, beq_self_eq_true, Bool.false_eq_true, Bool.true_eq_false, Bool.or_eq_true, Bool.and_eq_true, Bool.or_eq_false_iff, Bool.and_eq_false_iff, decide_eq_true_eq, decide_eq_false_iff_not, Bool.not_eq_true', Bool.not_eq_false', bne_iff_ne, bne_eq_false_iff_eq, beq_iff_eq, beq_eq_false_iff_ne, ne_eq, reduceCtorEq, true_and, and_true, false_and, and_false, false_or, or_false, true_or, or_true, not_true_eq_false, not_false_eq_true, iff_false, iff_true, Bool.not_true, Bool.not_false, Bool.true_and, Bool.and_true, Bool.false_and, Bool.and_false, Bool.or_true, Bool.true_or, Bool.or_false, Bool.false_or] at *; omega)
      | (exfalso; simp [IntKind.wrap, IntKind.bits, IntKind.signed, str_nil, str_nil2] at *; omega)
      | (simp_all; done)
  · have hz' : mEOk 2 lsn ep ord st un tr co mk ks.length ds.length = false := by simpa using hz
    have hm : mEPut 2 lsn ep ord st un tr co mk ks ds = ([], 40) := by unfold mEPut; rw [hz']; rfl
    have hc : mEChk 2 lsn ep ord st un tr co mk ks.length ds.length = 40 := by unfold mEChk; rw [hz']; rfl
    rw [hm]
    try rw [hc]
    clear hm hc hz hok
    rw [show mEOk 2 lsn ep ord st un tr co mk ks.length ds.length = (decide (1 ≤ lsn ∧ 1 ≤ ep) && decide (1 ≤ ord ∧ st = 0 ∧ un = false ∧ tr = 0 ∧ co = 0 ∧ mk = 0 ∧ 1 ≤ ks.length ∧ ks.length ≤ 32 ∧ ds.length ≤ 200)) from rfl] at hz'
    repeat' (first | refine And.intro rfl ?_ | refine And.intro HR ?_ | refine And.intro ?_ ?_ | apply br_intro | (refine tkI (by first | rfl | exact sz5) (by simp [u8s]; try omega) ?_) | (refine tkD (by first | rfl | exact sz5) (by simp [u8s]; try omega) ?_) | (refine tkL (by simp [u8s]; try omega) ?_) | (refine ⟨_, BK.far (h := []) rfl, ?_⟩) | (refine ⟨_, BD.far (h := []) rfl, ?_⟩) | (refine ⟨ks, rfl, ?_⟩) | (refine ⟨ds, rfl, ?_⟩) | intro _)
    all_goals try first | rfl | exact trivial | assumption | exact ⟨rfl, rfl, rfl⟩ | (simp only [Bool.not_eq_true']; assumption) | (show (_ : Int) ≤ _; decide) | (show (_ : Int) < _; decide) | (show (_ : Nat) ≤ _; omega) | exact all_flat _ | (simp [u8s, flat]; done) | (simp [u8s]; omega)
    all_goals first
      | (exfalso; cases un <;> simp only [str_nil, str_nil2, beq_self_eq_true, Bool.false_eq_true, Bool.true_eq_false, Bool.or_eq_true, Bool.and_eq_true, Bool.or_eq_false_iff, Bool.and_eq_false_iff, decide_eq_true_eq, decide_eq_false_iff_not, Bool.not_eq_true', Bool.not_eq_false', bne_iff_ne, bne_eq_false_iff_eq, beq_iff_eq, beq_eq_false_iff_ne, ne_eq, reduceCtorEq, true_and, and_true, false_and, and_false, false_or, or_false, true_or, or_true, not_true_eq_false, not_false_eq_true, iff_false, iff_true, Bool.not_true, Bool.not_false, Bool.true_and, Bool.and_true, Bool.false_and, Bool.and_false, Bool.or_true, Bool.true_or, Bool.or_false, Bool.false_or] at * <;> omega)
      | (exfalso; cases un <;> simp_all [str_nil, str_nil2] <;> omega)

end Go.VX

/- The walk of function 14 (eput3), told by the verified walk VX, and its contract. -/
namespace Go.VX
open Go.Proofs
open Go.RowKit (Below)
set_option linter.unusedVariables false
set_option linter.unusedSimpArgs false
set_option maxRecDepth 100000
set_option maxHeartbeats 4000000
open Go.VX.M17

theorem walk_eput3 (lsn ep ord st : Int) (un : Bool) (tr co mk : Int) (K D : Option Addr) (kl kc dl dc : Nat) (w : World) (Q : Bool → List Value → Int → Prop) : (∀ (g0 : Nat), Array.size w.heap ≤ g0 → g0 = g0 ∧ ((0 ≤ lsn ∧ lsn ≤ 18446744073709551615) ∧ (0 ≤ ep ∧ ep ≤ 4294967295) ∧ (0 ≤ ord ∧ ord ≤ 4294967295) ∧ 0 ≤ mk ∧ mk ≤ 18446744073709551615) ∧ br (M17.mEChk 3 lsn ep ord st un tr co mk kl dl != 0) (Done (Q Bool.true [] (M17.mEChk 3 lsn ep ord st un tr co mk kl dl))) (Bool.true = Bool.true ∧ g0 = g0 ∧ g0 = g0 ∧ g0 = g0 ∧ ∀ (g2 : Nat), Array.size w.heap ≤ g2 → (g0 = g0 ∧ [Value.int IntKind.i64 3, Value.int IntKind.u64 lsn, Value.int IntKind.u32 ep, Value.int IntKind.u32 ord, Value.int IntKind.i64 st, Value.bool un, Value.int IntKind.i64 tr, Value.int IntKind.i64 co, Value.int IntKind.u64 mk, Value.slice K kl kc, Value.slice D dl dc] = [Value.int IntKind.i64 3, Value.int IntKind.u64 lsn, Value.int IntKind.u32 ep, Value.int IntKind.u32 ord, Value.int IntKind.i64 st, Value.bool un, Value.int IntKind.i64 tr, Value.int IntKind.i64 co, Value.int IntKind.u64 mk, Value.slice K kl kc, Value.slice D dl dc] ∧ 26 = 26) ∧ (g0 = g0 ∧ [Value.int IntKind.i64 3, Value.int IntKind.u64 lsn, Value.int IntKind.u32 ep, Value.int IntKind.u32 ord, Value.int IntKind.i64 st, Value.bool un, Value.int IntKind.i64 tr, Value.int IntKind.i64 co, Value.int IntKind.u64 mk, Value.slice K kl kc, Value.slice D dl dc] = [Value.int IntKind.i64 3, Value.int IntKind.u64 lsn, Value.int IntKind.u32 ep, Value.int IntKind.u32 ord, Value.int IntKind.i64 st, Value.bool un, Value.int IntKind.i64 tr, Value.int IntKind.i64 co, Value.int IntKind.u64 mk, Value.slice K kl kc, Value.slice D dl dc] ∧ 26 = 26) ∧ (g0 = g0 ∧ [Value.int IntKind.i64 3, Value.int IntKind.u64 lsn, Value.int IntKind.u32 ep, Value.int IntKind.u32 ord, Value.int IntKind.i64 st, Value.bool un, Value.int IntKind.i64 tr, Value.int IntKind.i64 co, Value.int IntKind.u64 mk, Value.slice K kl kc, Value.slice D dl dc] = [Value.int IntKind.i64 3, Value.int IntKind.u64 lsn, Value.int IntKind.u32 ep, Value.int IntKind.u32 ord, Value.int IntKind.i64 st, Value.bool un, Value.int IntKind.i64 tr, Value.int IntKind.i64 co, Value.int IntKind.u64 mk, Value.slice K kl kc, Value.slice D dl dc] ∧ 26 = 26) ∧ Bool.true = Bool.true ∧ g2 = g2 ∧ ∀ (g4 : Nat), Array.size w.heap ≤ g4 → (g2 = g2 ∧ [Value.slice Option.none 0 0, Value.bool Bool.false] = [Value.slice Option.none 0 0, Value.bool Bool.false] ∧ 83 = 83) ∧ g4 = g4 ∧ True ∧ ∀ (g6 g7 : Nat) (x8 : List Go.Value), Array.size w.heap ≤ g6 → 1 ≤ g7 → g2 = g2 ∧ (g0 = g0 ∧ [Value.int IntKind.i64 3, Value.int IntKind.u64 lsn, Value.int IntKind.u32 ep, Value.int IntKind.u32 ord, Value.int IntKind.i64 st, Value.bool un, Value.int IntKind.i64 tr, Value.int IntKind.i64 co, Value.int IntKind.u64 mk, Value.slice K kl kc, Value.slice D dl dc] = [Value.int IntKind.i64 3, Value.int IntKind.u64 lsn, Value.int IntKind.u32 ep, Value.int IntKind.u32 ord, Value.int IntKind.i64 st, Value.bool un, Value.int IntKind.i64 tr, Value.int IntKind.i64 co, Value.int IntKind.u64 mk, Value.slice K kl kc, Value.slice D dl dc] ∧ 26 = 26) ∧ (g0 = g0 ∧ [Value.int IntKind.i64 3, Value.int IntKind.u64 lsn, Value.int IntKind.u32 ep, Value.int IntKind.u32 ord, Value.int IntKind.i64 st, Value.bool un, Value.int IntKind.i64 tr, Value.int IntKind.i64 co, Value.int IntKind.u64 mk, Value.slice K kl kc, Value.slice D dl dc] = [Value.int IntKind.i64 3, Value.int IntKind.u64 lsn, Value.int IntKind.u32 ep, Value.int IntKind.u32 ord, Value.int IntKind.i64 st, Value.bool un, Value.int IntKind.i64 tr, Value.int IntKind.i64 co, Value.int IntKind.u64 mk, Value.slice K kl kc, Value.slice D dl dc] ∧ 26 = 26) ∧ (g0 = g0 ∧ [Value.int IntKind.i64 3, Value.int IntKind.u64 lsn, Value.int IntKind.u32 ep, Value.int IntKind.u32 ord, Value.int IntKind.i64 st, Value.bool un, Value.int IntKind.i64 tr, Value.int IntKind.i64 co, Value.int IntKind.u64 mk, Value.slice K kl kc, Value.slice D dl dc] = [Value.int IntKind.i64 3, Value.int IntKind.u64 lsn, Value.int IntKind.u32 ep, Value.int IntKind.u32 ord, Value.int IntKind.i64 st, Value.bool un, Value.int IntKind.i64 tr, Value.int IntKind.i64 co, Value.int IntKind.u64 mk, Value.slice K kl kc, Value.slice D dl dc] ∧ 26 = 26) ∧ Bool.true = Bool.true ∧ g2 = g2 ∧ ∀ (g11 : Nat), Array.size w.heap ≤ g11 → (g2 = g2 ∧ [Value.slice (Option.some (Addr.mk g6 0 Option.none)) 1 g7, Value.bool Bool.false] = [Value.slice (Option.some (Addr.mk g6 0 Option.none)) 1 g7, Value.bool Bool.false] ∧ 83 = 83) ∧ g11 = g11 ∧ g7 = g7 ∧ (g6 = g6 ∧ 1 ≤ g7 ∧ True) ∧ ∀ (g13 g14 : Nat) (x15 : List Go.Value), g13 = g6 ∨ Array.size w.heap ≤ g13 → 2 ≤ g14 → g2 = g2 ∧ Bool.true = Bool.true ∧ g2 = g2 ∧ ∀ (g18 : Nat), Array.size w.heap ≤ g18 → (g2 = g2 ∧ [Value.slice (Option.some (Addr.mk g13 0 Option.none)) 2 g14, Value.bool Bool.false] = [Value.slice (Option.some (Addr.mk g13 0 Option.none)) 2 g14, Value.bool Bool.false] ∧ 83 = 83) ∧ g18 = g18 ∧ g14 = g14 ∧ (g13 = g13 ∧ 2 ≤ g14 ∧ True) ∧ ∀ (g20 g21 : Nat) (x22 : List Go.Value), g20 = g13 ∨ Array.size w.heap ≤ g20 → 3 ≤ g21 → g2 = g2 ∧ Bool.true = Bool.true ∧ g2 = g2 ∧ ∀ (g25 : Nat), Array.size w.heap ≤ g25 → (g2 = g2 ∧ [Value.slice (Option.some (Addr.mk g20 0 Option.none)) 3 g21, Value.bool Bool.false] = [Value.slice (Option.some (Addr.mk g20 0 Option.none)) 3 g21, Value.bool Bool.false] ∧ 83 = 83) ∧ g25 = g25 ∧ g21 = g21 ∧ (g20 = g20 ∧ 3 ≤ g21 ∧ True) ∧ ∀ (g27 g28 : Nat) (x29 : List Go.Value), g27 = g20 ∨ Array.size w.heap ≤ g27 → 4 ≤ g28 → g2 = g2 ∧ Bool.true = Bool.true ∧ g2 = g2 ∧ ∀ (g32 : Nat), Array.size w.heap ≤ g32 → (g2 = g2 ∧ [Value.slice (Option.some (Addr.mk g27 0 Option.none)) 4 g28, Value.bool Bool.false] = [Value.slice (Option.some (Addr.mk g27 0 Option.none)) 4 g28, Value.bool Bool.false] ∧ 83 = 83) ∧ g32 = g32 ∧ g28 = g28 ∧ (g27 = g27 ∧ 4 ≤ g28 ∧ True) ∧ ∀ (g34 g35 : Nat) (x36 : List Go.Value), g34 = g27 ∨ Array.size w.heap ≤ g34 → 5 ≤ g35 → g2 = g2 ∧ Bool.true = Bool.true ∧ g2 = g2 ∧ ∀ (g39 : Nat), Array.size w.heap ≤ g39 → (g2 = g2 ∧ [Value.slice (Option.some (Addr.mk g34 0 Option.none)) 5 g35, Value.bool Bool.false] = [Value.slice (Option.some (Addr.mk g34 0 Option.none)) 5 g35, Value.bool Bool.false] ∧ 83 = 83) ∧ g39 = g39 ∧ g35 = g35 ∧ (g34 = g34 ∧ 5 ≤ g35 ∧ True) ∧ ∀ (g41 g42 : Nat) (x43 : List Go.Value), g41 = g34 ∨ Array.size w.heap ≤ g41 → 6 ≤ g42 → g2 = g2 ∧ Bool.true = Bool.true ∧ g2 = g2 ∧ ∀ (g46 : Nat), Array.size w.heap ≤ g46 → (g2 = g2 ∧ [Value.slice (Option.some (Addr.mk g41 0 Option.none)) 6 g42, Value.bool Bool.false] = [Value.slice (Option.some (Addr.mk g41 0 Option.none)) 6 g42, Value.bool Bool.false] ∧ 83 = 83) ∧ g46 = g46 ∧ g42 = g42 ∧ (g41 = g41 ∧ 6 ≤ g42 ∧ True) ∧ ∀ (g48 g49 : Nat) (x50 : List Go.Value), g48 = g41 ∨ Array.size w.heap ≤ g48 → 7 ≤ g49 → g2 = g2 ∧ Bool.true = Bool.true ∧ g2 = g2 ∧ ∀ (g53 : Nat), Array.size w.heap ≤ g53 → (g2 = g2 ∧ [Value.slice (Option.some (Addr.mk g48 0 Option.none)) 7 g49, Value.bool Bool.false] = [Value.slice (Option.some (Addr.mk g48 0 Option.none)) 7 g49, Value.bool Bool.false] ∧ 83 = 83) ∧ g53 = g53 ∧ g49 = g49 ∧ (g48 = g48 ∧ 7 ≤ g49 ∧ True) ∧ ∀ (g55 g56 : Nat) (x57 : List Go.Value), g55 = g48 ∨ Array.size w.heap ≤ g55 → 8 ≤ g56 → g2 = g2 ∧ Bool.true = Bool.true ∧ g2 = g2 ∧ ∀ (g60 : Nat), Array.size w.heap ≤ g60 → (g2 = g2 ∧ [Value.slice (Option.some (Addr.mk g55 0 Option.none)) 8 g56, Value.bool Bool.false] = [Value.slice (Option.some (Addr.mk g55 0 Option.none)) 8 g56, Value.bool Bool.false] ∧ 83 = 83) ∧ g60 = g60 ∧ g56 = g56 ∧ (g55 = g55 ∧ 8 ≤ g56 ∧ True) ∧ ∀ (g62 g63 : Nat) (x64 : List Go.Value), g62 = g55 ∨ Array.size w.heap ≤ g62 → 9 ≤ g63 → g2 = g2 ∧ (g0 = g0 ∧ [Value.int IntKind.i64 3, Value.int IntKind.u64 lsn, Value.int IntKind.u32 ep, Value.int IntKind.u32 ord, Value.int IntKind.i64 st, Value.bool un, Value.int IntKind.i64 tr, Value.int IntKind.i64 co, Value.int IntKind.u64 mk, Value.slice K kl kc, Value.slice D dl dc] = [Value.int IntKind.i64 3, Value.int IntKind.u64 lsn, Value.int IntKind.u32 ep, Value.int IntKind.u32 ord, Value.int IntKind.i64 st, Value.bool un, Value.int IntKind.i64 tr, Value.int IntKind.i64 co, Value.int IntKind.u64 mk, Value.slice K kl kc, Value.slice D dl dc] ∧ 26 = 26) ∧ (g0 = g0 ∧ [Value.int IntKind.i64 3, Value.int IntKind.u64 lsn, Value.int IntKind.u32 ep, Value.int IntKind.u32 ord, Value.int IntKind.i64 st, Value.bool un, Value.int IntKind.i64 tr, Value.int IntKind.i64 co, Value.int IntKind.u64 mk, Value.slice K kl kc, Value.slice D dl dc] = [Value.int IntKind.i64 3, Value.int IntKind.u64 lsn, Value.int IntKind.u32 ep, Value.int IntKind.u32 ord, Value.int IntKind.i64 st, Value.bool un, Value.int IntKind.i64 tr, Value.int IntKind.i64 co, Value.int IntKind.u64 mk, Value.slice K kl kc, Value.slice D dl dc] ∧ 26 = 26) ∧ Bool.true = Bool.true ∧ g2 = g2 ∧ ∀ (g67 : Nat), Array.size w.heap ≤ g67 → (g2 = g2 ∧ [Value.slice (Option.some (Addr.mk g62 0 Option.none)) 9 g63, Value.bool Bool.false] = [Value.slice (Option.some (Addr.mk g62 0 Option.none)) 9 g63, Value.bool Bool.false] ∧ 83 = 83) ∧ g67 = g67 ∧ g63 = g63 ∧ (g62 = g62 ∧ 9 ≤ g63 ∧ True) ∧ ∀ (g69 g70 : Nat) (x71 : List Go.Value), g69 = g62 ∨ Array.size w.heap ≤ g69 → 10 ≤ g70 → g2 = g2 ∧ Bool.true = Bool.true ∧ g2 = g2 ∧ ∀ (g74 : Nat), Array.size w.heap ≤ g74 → (g2 = g2 ∧ [Value.slice (Option.some (Addr.mk g69 0 Option.none)) 10 g70, Value.bool Bool.false] = [Value.slice (Option.some (Addr.mk g69 0 Option.none)) 10 g70, Value.bool Bool.false] ∧ 83 = 83) ∧ g74 = g74 ∧ g70 = g70 ∧ (g69 = g69 ∧ 10 ≤ g70 ∧ True) ∧ ∀ (g76 g77 : Nat) (x78 : List Go.Value), g76 = g69 ∨ Array.size w.heap ≤ g76 → 11 ≤ g77 → g2 = g2 ∧ Bool.true = Bool.true ∧ g2 = g2 ∧ ∀ (g81 : Nat), Array.size w.heap ≤ g81 → (g2 = g2 ∧ [Value.slice (Option.some (Addr.mk g76 0 Option.none)) 11 g77, Value.bool Bool.false] = [Value.slice (Option.some (Addr.mk g76 0 Option.none)) 11 g77, Value.bool Bool.false] ∧ 83 = 83) ∧ g81 = g81 ∧ g77 = g77 ∧ (g76 = g76 ∧ 11 ≤ g77 ∧ True) ∧ ∀ (g83 g84 : Nat) (x85 : List Go.Value), g83 = g76 ∨ Array.size w.heap ≤ g83 → 12 ≤ g84 → g2 = g2 ∧ Bool.true = Bool.true ∧ g2 = g2 ∧ ∀ (g88 : Nat), Array.size w.heap ≤ g88 → (g2 = g2 ∧ [Value.slice (Option.some (Addr.mk g83 0 Option.none)) 12 g84, Value.bool Bool.false] = [Value.slice (Option.some (Addr.mk g83 0 Option.none)) 12 g84, Value.bool Bool.false] ∧ 83 = 83) ∧ g88 = g88 ∧ g84 = g84 ∧ (g83 = g83 ∧ 12 ≤ g84 ∧ True) ∧ ∀ (g90 g91 : Nat) (x92 : List Go.Value), g90 = g83 ∨ Array.size w.heap ≤ g90 → 13 ≤ g91 → g2 = g2 ∧ (g0 = g0 ∧ [Value.int IntKind.i64 3, Value.int IntKind.u64 lsn, Value.int IntKind.u32 ep, Value.int IntKind.u32 ord, Value.int IntKind.i64 st, Value.bool un, Value.int IntKind.i64 tr, Value.int IntKind.i64 co, Value.int IntKind.u64 mk, Value.slice K kl kc, Value.slice D dl dc] = [Value.int IntKind.i64 3, Value.int IntKind.u64 lsn, Value.int IntKind.u32 ep, Value.int IntKind.u32 ord, Value.int IntKind.i64 st, Value.bool un, Value.int IntKind.i64 tr, Value.int IntKind.i64 co, Value.int IntKind.u64 mk, Value.slice K kl kc, Value.slice D dl dc] ∧ 26 = 26) ∧ g0 = g0 ∧ Bool.true = Bool.true ∧ g0 = g0 ∧ g0 = g0 ∧ g0 = g0 ∧ g0 = g0 ∧ Bool.true = Bool.true ∧ g2 = g2 ∧ ∀ (g95 : Nat), Array.size w.heap ≤ g95 → (g2 = g2 ∧ [Value.slice (Option.some (Addr.mk g90 0 Option.none)) 13 g91, Value.bool Bool.false] = [Value.slice (Option.some (Addr.mk g90 0 Option.none)) 13 g91, Value.bool Bool.false] ∧ 83 = 83) ∧ g95 = g95 ∧ g91 = g91 ∧ (g90 = g90 ∧ 13 ≤ g91 ∧ True) ∧ ∀ (g97 g98 : Nat) (x99 : List Go.Value), g97 = g90 ∨ Array.size w.heap ≤ g97 → 14 ≤ g98 → g2 = g2 ∧ Bool.true = Bool.true ∧ g2 = g2 ∧ ∀ (g102 : Nat), Array.size w.heap ≤ g102 → (g2 = g2 ∧ [Value.slice (Option.some (Addr.mk g97 0 Option.none)) 14 g98, Value.bool Bool.false] = [Value.slice (Option.some (Addr.mk g97 0 Option.none)) 14 g98, Value.bool Bool.false] ∧ 83 = 83) ∧ g102 = g102 ∧ g98 = g98 ∧ (g97 = g97 ∧ 14 ≤ g98 ∧ True) ∧ ∀ (g104 g105 : Nat) (x106 : List Go.Value), g104 = g97 ∨ Array.size w.heap ≤ g104 → 15 ≤ g105 → g2 = g2 ∧ Bool.true = Bool.true ∧ g2 = g2 ∧ ∀ (g109 : Nat), Array.size w.heap ≤ g109 → (g2 = g2 ∧ [Value.slice (Option.some (Addr.mk g104 0 Option.none)) 15 g105, Value.bool Bool.false] = [Value.slice (Option.some (Addr.mk g104 0 Option.none)) 15 g105, Value.bool Bool.false] ∧ 83 = 83) ∧ g109 = g109 ∧ g105 = g105 ∧ (g104 = g104 ∧ 15 ≤ g105 ∧ True) ∧ ∀ (g111 g112 : Nat) (x113 : List Go.Value), g111 = g104 ∨ Array.size w.heap ≤ g111 → 16 ≤ g112 → g2 = g2 ∧ Bool.true = Bool.true ∧ g2 = g2 ∧ ∀ (g116 : Nat), Array.size w.heap ≤ g116 → (g2 = g2 ∧ [Value.slice (Option.some (Addr.mk g111 0 Option.none)) 16 g112, Value.bool Bool.false] = [Value.slice (Option.some (Addr.mk g111 0 Option.none)) 16 g112, Value.bool Bool.false] ∧ 83 = 83) ∧ g116 = g116 ∧ g112 = g112 ∧ (g111 = g111 ∧ 16 ≤ g112 ∧ True) ∧ ∀ (g118 g119 : Nat) (x120 : List Go.Value), g118 = g111 ∨ Array.size w.heap ≤ g118 → 17 ≤ g119 → g2 = g2 ∧ (g0 = g0 ∧ [Value.int IntKind.i64 3, Value.int IntKind.u64 lsn, Value.int IntKind.u32 ep, Value.int IntKind.u32 ord, Value.int IntKind.i64 st, Value.bool un, Value.int IntKind.i64 tr, Value.int IntKind.i64 co, Value.int IntKind.u64 mk, Value.slice K kl kc, Value.slice D dl dc] = [Value.int IntKind.i64 3, Value.int IntKind.u64 lsn, Value.int IntKind.u32 ep, Value.int IntKind.u32 ord, Value.int IntKind.i64 st, Value.bool un, Value.int IntKind.i64 tr, Value.int IntKind.i64 co, Value.int IntKind.u64 mk, Value.slice K kl kc, Value.slice D dl dc] ∧ 26 = 26) ∧ (g0 = g0 ∧ [Value.int IntKind.i64 3, Value.int IntKind.u64 lsn, Value.int IntKind.u32 ep, Value.int IntKind.u32 ord, Value.int IntKind.i64 st, Value.bool un, Value.int IntKind.i64 tr, Value.int IntKind.i64 co, Value.int IntKind.u64 mk, Value.slice K kl kc, Value.slice D dl dc] = [Value.int IntKind.i64 3, Value.int IntKind.u64 lsn, Value.int IntKind.u32 ep, Value.int IntKind.u32 ord, Value.int IntKind.i64 st, Value.bool un, Value.int IntKind.i64 tr, Value.int IntKind.i64 co, Value.int IntKind.u64 mk, Value.slice K kl kc, Value.slice D dl dc] ∧ 26 = 26) ∧ (g0 = g0 ∧ [Value.int IntKind.i64 3, Value.int IntKind.u64 lsn, Value.int IntKind.u32 ep, Value.int IntKind.u32 ord, Value.int IntKind.i64 st, Value.bool un, Value.int IntKind.i64 tr, Value.int IntKind.i64 co, Value.int IntKind.u64 mk, Value.slice K kl kc, Value.slice D dl dc] = [Value.int IntKind.i64 3, Value.int IntKind.u64 lsn, Value.int IntKind.u32 ep, Value.int IntKind.u32 ord, Value.int IntKind.i64 st, Value.bool un, Value.int IntKind.i64 tr, Value.int IntKind.i64 co, Value.int IntKind.u64 mk, Value.slice K kl kc, Value.slice D dl dc] ∧ 26 = 26) ∧ Bool.true = Bool.true ∧ g2 = g2 ∧ ∀ (g123 : Nat), Array.size w.heap ≤ g123 → (g2 = g2 ∧ [Value.slice (Option.some (Addr.mk g118 0 Option.none)) 17 g119, Value.bool Bool.false] = [Value.slice (Option.some (Addr.mk g118 0 Option.none)) 17 g119, Value.bool Bool.false] ∧ 83 = 83) ∧ g123 = g123 ∧ g119 = g119 ∧ (g118 = g118 ∧ 17 ≤ g119 ∧ True) ∧ ∀ (g125 g126 : Nat) (x127 : List Go.Value), g125 = g118 ∨ Array.size w.heap ≤ g125 → 18 ≤ g126 → g2 = g2 ∧ (g0 = g0 ∧ [Value.int IntKind.i64 3, Value.int IntKind.u64 lsn, Value.int IntKind.u32 ep, Value.int IntKind.u32 ord, Value.int IntKind.i64 st, Value.bool un, Value.int IntKind.i64 tr, Value.int IntKind.i64 co, Value.int IntKind.u64 mk, Value.slice K kl kc, Value.slice D dl dc] = [Value.int IntKind.i64 3, Value.int IntKind.u64 lsn, Value.int IntKind.u32 ep, Value.int IntKind.u32 ord, Value.int IntKind.i64 st, Value.bool un, Value.int IntKind.i64 tr, Value.int IntKind.i64 co, Value.int IntKind.u64 mk, Value.slice K kl kc, Value.slice D dl dc] ∧ 26 = 26) ∧ (g0 = g0 ∧ [Value.int IntKind.i64 3, Value.int IntKind.u64 lsn, Value.int IntKind.u32 ep, Value.int IntKind.u32 ord, Value.int IntKind.i64 st, Value.bool un, Value.int IntKind.i64 tr, Value.int IntKind.i64 co, Value.int IntKind.u64 mk, Value.slice K kl kc, Value.slice D dl dc] = [Value.int IntKind.i64 3, Value.int IntKind.u64 lsn, Value.int IntKind.u32 ep, Value.int IntKind.u32 ord, Value.int IntKind.i64 st, Value.bool un, Value.int IntKind.i64 tr, Value.int IntKind.i64 co, Value.int IntKind.u64 mk, Value.slice K kl kc, Value.slice D dl dc] ∧ 26 = 26) ∧ (g0 = g0 ∧ [Value.int IntKind.i64 3, Value.int IntKind.u64 lsn, Value.int IntKind.u32 ep, Value.int IntKind.u32 ord, Value.int IntKind.i64 st, Value.bool un, Value.int IntKind.i64 tr, Value.int IntKind.i64 co, Value.int IntKind.u64 mk, Value.slice K kl kc, Value.slice D dl dc] = [Value.int IntKind.i64 3, Value.int IntKind.u64 lsn, Value.int IntKind.u32 ep, Value.int IntKind.u32 ord, Value.int IntKind.i64 st, Value.bool un, Value.int IntKind.i64 tr, Value.int IntKind.i64 co, Value.int IntKind.u64 mk, Value.slice K kl kc, Value.slice D dl dc] ∧ 26 = 26) ∧ br un ((g0 = g0 ∧ [Value.int IntKind.i64 3, Value.int IntKind.u64 lsn, Value.int IntKind.u32 ep, Value.int IntKind.u32 ord, Value.int IntKind.i64 st, Value.bool un, Value.int IntKind.i64 tr, Value.int IntKind.i64 co, Value.int IntKind.u64 mk, Value.slice K kl kc, Value.slice D dl dc] = [Value.int IntKind.i64 3, Value.int IntKind.u64 lsn, Value.int IntKind.u32 ep, Value.int IntKind.u32 ord, Value.int IntKind.i64 st, Value.bool un, Value.int IntKind.i64 tr, Value.int IntKind.i64 co, Value.int IntKind.u64 mk, Value.slice K kl kc, Value.slice D dl dc] ∧ 26 = 26) ∧ (g0 = g0 ∧ [Value.int IntKind.i64 3, Value.int IntKind.u64 lsn, Value.int IntKind.u32 ep, Value.int IntKind.u32 ord, Value.int IntKind.i64 st, Value.bool un, Value.int IntKind.i64 tr, Value.int IntKind.i64 co, Value.int IntKind.u64 mk, Value.slice K kl kc, Value.slice D dl dc] = [Value.int IntKind.i64 3, Value.int IntKind.u64 lsn, Value.int IntKind.u32 ep, Value.int IntKind.u32 ord, Value.int IntKind.i64 st, Value.bool un, Value.int IntKind.i64 tr, Value.int IntKind.i64 co, Value.int IntKind.u64 mk, Value.slice K kl kc, Value.slice D dl dc] ∧ 26 = 26) ∧ Bool.true = Bool.true ∧ g2 = g2 ∧ ∀ (g130 : Nat), Array.size w.heap ≤ g130 → (g2 = g2 ∧ [Value.slice (Option.some (Addr.mk g125 0 Option.none)) 18 g126, Value.bool Bool.false] = [Value.slice (Option.some (Addr.mk g125 0 Option.none)) 18 g126, Value.bool Bool.false] ∧ 83 = 83) ∧ g130 = g130 ∧ g126 = g126 ∧ (g125 = g125 ∧ 18 ≤ g126 ∧ True) ∧ ∀ (g132 g133 : Nat) (x134 : List Go.Value), g132 = g125 ∨ Array.size w.heap ≤ g132 → 19 ≤ g133 → g2 = g2 ∧ (g0 = g0 ∧ [Value.int IntKind.i64 3, Value.int IntKind.u64 lsn, Value.int IntKind.u32 ep, Value.int IntKind.u32 ord, Value.int IntKind.i64 st, Value.bool un, Value.int IntKind.i64 tr, Value.int IntKind.i64 co, Value.int IntKind.u64 mk, Value.slice K kl kc, Value.slice D dl dc] = [Value.int IntKind.i64 3, Value.int IntKind.u64 lsn, Value.int IntKind.u32 ep, Value.int IntKind.u32 ord, Value.int IntKind.i64 st, Value.bool un, Value.int IntKind.i64 tr, Value.int IntKind.i64 co, Value.int IntKind.u64 mk, Value.slice K kl kc, Value.slice D dl dc] ∧ 26 = 26) ∧ (g0 = g0 ∧ [Value.int IntKind.i64 3, Value.int IntKind.u64 lsn, Value.int IntKind.u32 ep, Value.int IntKind.u32 ord, Value.int IntKind.i64 st, Value.bool un, Value.int IntKind.i64 tr, Value.int IntKind.i64 co, Value.int IntKind.u64 mk, Value.slice K kl kc, Value.slice D dl dc] = [Value.int IntKind.i64 3, Value.int IntKind.u64 lsn, Value.int IntKind.u32 ep, Value.int IntKind.u32 ord, Value.int IntKind.i64 st, Value.bool un, Value.int IntKind.i64 tr, Value.int IntKind.i64 co, Value.int IntKind.u64 mk, Value.slice K kl kc, Value.slice D dl dc] ∧ 26 = 26) ∧ Bool.true = Bool.true ∧ g2 = g2 ∧ ∀ (g137 : Nat), Array.size w.heap ≤ g137 → (g2 = g2 ∧ [Value.slice (Option.some (Addr.mk g132 0 Option.none)) 19 g133, Value.bool Bool.false] = [Value.slice (Option.some (Addr.mk g132 0 Option.none)) 19 g133, Value.bool Bool.false] ∧ 83 = 83) ∧ g137 = g137 ∧ g133 = g133 ∧ (g132 = g132 ∧ 19 ≤ g133 ∧ True) ∧ ∀ (g139 g140 : Nat) (x141 : List Go.Value), g139 = g132 ∨ Array.size w.heap ≤ g139 → 20 ≤ g140 → g2 = g2 ∧ (g0 = g0 ∧ [Value.int IntKind.i64 3, Value.int IntKind.u64 lsn, Value.int IntKind.u32 ep, Value.int IntKind.u32 ord, Value.int IntKind.i64 st, Value.bool un, Value.int IntKind.i64 tr, Value.int IntKind.i64 co, Value.int IntKind.u64 mk, Value.slice K kl kc, Value.slice D dl dc] = [Value.int IntKind.i64 3, Value.int IntKind.u64 lsn, Value.int IntKind.u32 ep, Value.int IntKind.u32 ord, Value.int IntKind.i64 st, Value.bool un, Value.int IntKind.i64 tr, Value.int IntKind.i64 co, Value.int IntKind.u64 mk, Value.slice K kl kc, Value.slice D dl dc] ∧ 26 = 26) ∧ (g0 = g0 ∧ [Value.int IntKind.i64 3, Value.int IntKind.u64 lsn, Value.int IntKind.u32 ep, Value.int IntKind.u32 ord, Value.int IntKind.i64 st, Value.bool un, Value.int IntKind.i64 tr, Value.int IntKind.i64 co, Value.int IntKind.u64 mk, Value.slice K kl kc, Value.slice D dl dc] = [Value.int IntKind.i64 3, Value.int IntKind.u64 lsn, Value.int IntKind.u32 ep, Value.int IntKind.u32 ord, Value.int IntKind.i64 st, Value.bool un, Value.int IntKind.i64 tr, Value.int IntKind.i64 co, Value.int IntKind.u64 mk, Value.slice K kl kc, Value.slice D dl dc] ∧ 26 = 26) ∧ g2 = g2 ∧ ∀ (g144 : Nat), Array.size w.heap ≤ g144 → g2 = g2 ∧ g139 = g139 ∧ (g144 = g144 ∧ 0 ≤ 0 ∧ True) ∧ ∀ (g146 g147 : Nat) (x148 : List Go.Value), g146 = g144 ∨ Array.size w.heap ≤ g146 → 20 ≤ g147 → g147 = g147 ∧ (g146 = g146 ∧ 20 ≤ g147) ∧ Done (Q Bool.false [Value.int IntKind.u8 3, Value.int IntKind.u8 (IntKind.wrap IntKind.u8 (Int.fdiv lsn 72057594037927936)), Value.int IntKind.u8 (IntKind.wrap IntKind.u8 (Int.fdiv lsn 281474976710656)), Value.int IntKind.u8 (IntKind.wrap IntKind.u8 (Int.fdiv lsn 1099511627776)), Value.int IntKind.u8 (IntKind.wrap IntKind.u8 (Int.fdiv lsn 4294967296)), Value.int IntKind.u8 (IntKind.wrap IntKind.u8 (Int.fdiv lsn 16777216)), Value.int IntKind.u8 (IntKind.wrap IntKind.u8 (Int.fdiv lsn 65536)), Value.int IntKind.u8 (IntKind.wrap IntKind.u8 (Int.fdiv lsn 256)), Value.int IntKind.u8 (IntKind.wrap IntKind.u8 (Int.fdiv lsn 1)), Value.int IntKind.u8 (IntKind.wrap IntKind.u8 (Int.fdiv (IntKind.wrap IntKind.u64 ep) 16777216)), Value.int IntKind.u8 (IntKind.wrap IntKind.u8 (Int.fdiv (IntKind.wrap IntKind.u64 ep) 65536)), Value.int IntKind.u8 (IntKind.wrap IntKind.u8 (Int.fdiv (IntKind.wrap IntKind.u64 ep) 256)), Value.int IntKind.u8 (IntKind.wrap IntKind.u8 (Int.fdiv (IntKind.wrap IntKind.u64 ep) 1)), Value.int IntKind.u8 (IntKind.wrap IntKind.u8 (Int.fdiv (IntKind.wrap IntKind.u64 ord) 16777216)), Value.int IntKind.u8 (IntKind.wrap IntKind.u8 (Int.fdiv (IntKind.wrap IntKind.u64 ord) 65536)), Value.int IntKind.u8 (IntKind.wrap IntKind.u8 (Int.fdiv (IntKind.wrap IntKind.u64 ord) 256)), Value.int IntKind.u8 (IntKind.wrap IntKind.u8 (Int.fdiv (IntKind.wrap IntKind.u64 ord) 1)), Value.int IntKind.u8 (IntKind.wrap IntKind.u8 (Int.fdiv (IntKind.wrap IntKind.u64 (IntKind.wrap IntKind.u8 st)) 1)), Value.int IntKind.u8 1, Value.int IntKind.u8 (IntKind.wrap IntKind.u8 (Int.fdiv (IntKind.wrap IntKind.u64 (IntKind.wrap IntKind.u8 tr)) 1))] 0)) ((g0 = g0 ∧ [Value.int IntKind.i64 3, Value.int IntKind.u64 lsn, Value.int IntKind.u32 ep, Value.int IntKind.u32 ord, Value.int IntKind.i64 st, Value.bool un, Value.int IntKind.i64 tr, Value.int IntKind.i64 co, Value.int IntKind.u64 mk, Value.slice K kl kc, Value.slice D dl dc] = [Value.int IntKind.i64 3, Value.int IntKind.u64 lsn, Value.int IntKind.u32 ep, Value.int IntKind.u32 ord, Value.int IntKind.i64 st, Value.bool un, Value.int IntKind.i64 tr, Value.int IntKind.i64 co, Value.int IntKind.u64 mk, Value.slice K kl kc, Value.slice D dl dc] ∧ 26 = 26) ∧ (g0 = g0 ∧ [Value.int IntKind.i64 3, Value.int IntKind.u64 lsn, Value.int IntKind.u32 ep, Value.int IntKind.u32 ord, Value.int IntKind.i64 st, Value.bool un, Value.int IntKind.i64 tr, Value.int IntKind.i64 co, Value.int IntKind.u64 mk, Value.slice K kl kc, Value.slice D dl dc] = [Value.int IntKind.i64 3, Value.int IntKind.u64 lsn, Value.int IntKind.u32 ep, Value.int IntKind.u32 ord, Value.int IntKind.i64 st, Value.bool un, Value.int IntKind.i64 tr, Value.int IntKind.i64 co, Value.int IntKind.u64 mk, Value.slice K kl kc, Value.slice D dl dc] ∧ 26 = 26) ∧ Bool.true = Bool.true ∧ g2 = g2 ∧ ∀ (g151 : Nat), Array.size w.heap ≤ g151 → (g2 = g2 ∧ [Value.slice (Option.some (Addr.mk g125 0 Option.none)) 18 g126, Value.bool Bool.false] = [Value.slice (Option.some (Addr.mk g125 0 Option.none)) 18 g126, Value.bool Bool.false] ∧ 83 = 83) ∧ g151 = g151 ∧ g126 = g126 ∧ (g125 = g125 ∧ 18 ≤ g126 ∧ True) ∧ ∀ (g153 g154 : Nat) (x155 : List Go.Value), g153 = g125 ∨ Array.size w.heap ≤ g153 → 19 ≤ g154 → g2 = g2 ∧ (g0 = g0 ∧ [Value.int IntKind.i64 3, Value.int IntKind.u64 lsn, Value.int IntKind.u32 ep, Value.int IntKind.u32 ord, Value.int IntKind.i64 st, Value.bool un, Value.int IntKind.i64 tr, Value.int IntKind.i64 co, Value.int IntKind.u64 mk, Value.slice K kl kc, Value.slice D dl dc] = [Value.int IntKind.i64 3, Value.int IntKind.u64 lsn, Value.int IntKind.u32 ep, Value.int IntKind.u32 ord, Value.int IntKind.i64 st, Value.bool un, Value.int IntKind.i64 tr, Value.int IntKind.i64 co, Value.int IntKind.u64 mk, Value.slice K kl kc, Value.slice D dl dc] ∧ 26 = 26) ∧ (g0 = g0 ∧ [Value.int IntKind.i64 3, Value.int IntKind.u64 lsn, Value.int IntKind.u32 ep, Value.int IntKind.u32 ord, Value.int IntKind.i64 st, Value.bool un, Value.int IntKind.i64 tr, Value.int IntKind.i64 co, Value.int IntKind.u64 mk, Value.slice K kl kc, Value.slice D dl dc] = [Value.int IntKind.i64 3, Value.int IntKind.u64 lsn, Value.int IntKind.u32 ep, Value.int IntKind.u32 ord, Value.int IntKind.i64 st, Value.bool un, Value.int IntKind.i64 tr, Value.int IntKind.i64 co, Value.int IntKind.u64 mk, Value.slice K kl kc, Value.slice D dl dc] ∧ 26 = 26) ∧ Bool.true = Bool.true ∧ g2 = g2 ∧ ∀ (g158 : Nat), Array.size w.heap ≤ g158 → (g2 = g2 ∧ [Value.slice (Option.some (Addr.mk g153 0 Option.none)) 19 g154, Value.bool Bool.false] = [Value.slice (Option.some (Addr.mk g153 0 Option.none)) 19 g154, Value.bool Bool.false] ∧ 83 = 83) ∧ g158 = g158 ∧ g154 = g154 ∧ (g153 = g153 ∧ 19 ≤ g154 ∧ True) ∧ ∀ (g160 g161 : Nat) (x162 : List Go.Value), g160 = g153 ∨ Array.size w.heap ≤ g160 → 20 ≤ g161 → g2 = g2 ∧ (g0 = g0 ∧ [Value.int IntKind.i64 3, Value.int IntKind.u64 lsn, Value.int IntKind.u32 ep, Value.int IntKind.u32 ord, Value.int IntKind.i64 st, Value.bool un, Value.int IntKind.i64 tr, Value.int IntKind.i64 co, Value.int IntKind.u64 mk, Value.slice K kl kc, Value.slice D dl dc] = [Value.int IntKind.i64 3, Value.int IntKind.u64 lsn, Value.int IntKind.u32 ep, Value.int IntKind.u32 ord, Value.int IntKind.i64 st, Value.bool un, Value.int IntKind.i64 tr, Value.int IntKind.i64 co, Value.int IntKind.u64 mk, Value.slice K kl kc, Value.slice D dl dc] ∧ 26 = 26) ∧ (g0 = g0 ∧ [Value.int IntKind.i64 3, Value.int IntKind.u64 lsn, Value.int IntKind.u32 ep, Value.int IntKind.u32 ord, Value.int IntKind.i64 st, Value.bool un, Value.int IntKind.i64 tr, Value.int IntKind.i64 co, Value.int IntKind.u64 mk, Value.slice K kl kc, Value.slice D dl dc] = [Value.int IntKind.i64 3, Value.int IntKind.u64 lsn, Value.int IntKind.u32 ep, Value.int IntKind.u32 ord, Value.int IntKind.i64 st, Value.bool un, Value.int IntKind.i64 tr, Value.int IntKind.i64 co, Value.int IntKind.u64 mk, Value.slice K kl kc, Value.slice D dl dc] ∧ 26 = 26) ∧ g2 = g2 ∧ ∀ (g165 : Nat), Array.size w.heap ≤ g165 → g2 = g2 ∧ g160 = g160 ∧ (g165 = g165 ∧ 0 ≤ 0 ∧ True) ∧ ∀ (g167 g168 : Nat) (x169 : List Go.Value), g167 = g165 ∨ Array.size w.heap ≤ g167 → 20 ≤ g168 → g168 = g168 ∧ (g167 = g167 ∧ 20 ≤ g168) ∧ Done (Q Bool.false [Value.int IntKind.u8 3, Value.int IntKind.u8 (IntKind.wrap IntKind.u8 (Int.fdiv lsn 72057594037927936)), Value.int IntKind.u8 (IntKind.wrap IntKind.u8 (Int.fdiv lsn 281474976710656)), Value.int IntKind.u8 (IntKind.wrap IntKind.u8 (Int.fdiv lsn 1099511627776)), Value.int IntKind.u8 (IntKind.wrap IntKind.u8 (Int.fdiv lsn 4294967296)), Value.int IntKind.u8 (IntKind.wrap IntKind.u8 (Int.fdiv lsn 16777216)), Value.int IntKind.u8 (IntKind.wrap IntKind.u8 (Int.fdiv lsn 65536)), Value.int IntKind.u8 (IntKind.wrap IntKind.u8 (Int.fdiv lsn 256)), Value.int IntKind.u8 (IntKind.wrap IntKind.u8 (Int.fdiv lsn 1)), Value.int IntKind.u8 (IntKind.wrap IntKind.u8 (Int.fdiv (IntKind.wrap IntKind.u64 ep) 16777216)), Value.int IntKind.u8 (IntKind.wrap IntKind.u8 (Int.fdiv (IntKind.wrap IntKind.u64 ep) 65536)), Value.int IntKind.u8 (IntKind.wrap IntKind.u8 (Int.fdiv (IntKind.wrap IntKind.u64 ep) 256)), Value.int IntKind.u8 (IntKind.wrap IntKind.u8 (Int.fdiv (IntKind.wrap IntKind.u64 ep) 1)), Value.int IntKind.u8 (IntKind.wrap IntKind.u8 (Int.fdiv (IntKind.wrap IntKind.u64 ord) 16777216)), Value.int IntKind.u8 (IntKind.wrap IntKind.u8 (Int.fdiv (IntKind.wrap IntKind.u64 ord) 65536)), Value.int IntKind.u8 (IntKind.wrap IntKind.u8 (Int.fdiv (IntKind.wrap IntKind.u64 ord) 256)), Value.int IntKind.u8 (IntKind.wrap IntKind.u8 (Int.fdiv (IntKind.wrap IntKind.u64 ord) 1)), Value.int IntKind.u8 (IntKind.wrap IntKind.u8 (Int.fdiv (IntKind.wrap IntKind.u64 (IntKind.wrap IntKind.u8 st)) 1)), Value.int IntKind.u8 0, Value.int IntKind.u8 (IntKind.wrap IntKind.u8 (Int.fdiv (IntKind.wrap IntKind.u64 (IntKind.wrap IntKind.u8 tr)) 1))] 0)))) = codeVC (⟨TT.plain _, (fun f => Nat.beq f 28 || Nat.beq f 29 || Nat.beq f 31 || Nat.beq f 30 || Nat.beq f 32 || Nat.beq f 34 || Nat.beq f 49 || Nat.beq f 33), noFar, true, noInv, noInv, pvechk, noCV w⟩ : Cfg Try.prog) w 400 (Try.f14.body.getD .skip) ⟨⟨w, []⟩, mkT Try.f14.ntmps [.agg #[.int .i64 3, .int .u64 lsn, .int .u32 ep, .int .u32 ord, .int .i64 st, .bool un, .int .i64 tr, .int .i64 co, .int .u64 mk, .slice K kl kc, .slice D dl dc]] [[[none, none, none, none, none, none, none, none, none, some 1001, some 1001]]], []⟩ (retK Try.prog Try.f14 fun b v s h => newK h (putE 5 h v s fun z l c => Done (Q z l c))) := by
  kernel_rfl

set_option maxHeartbeats 16000000 in
theorem eput3_form (lsn ep ord st : Int) (un : Bool) (tr co mk : Int) (K D : Option Addr) (kc dc : Nat) (ks ds : List Int) (w : World) (BK : BytesAt w (.slice K ks.length kc) ks.length ks) (BD : BytesAt w (.slice D ds.length dc) ds.length ds) (hr : (0 ≤ lsn ∧ lsn ≤ 18446744073709551615) ∧ (0 ≤ ep ∧ ep ≤ 4294967295) ∧ (0 ≤ ord ∧ ord ≤ 4294967295) ∧ (0 ≤ mk ∧ mk ≤ 18446744073709551615)) :
    codeVC (⟨TT.plain _, (fun f => Nat.beq f 28 || Nat.beq f 29 || Nat.beq f 31 || Nat.beq f 30 || Nat.beq f 32 || Nat.beq f 34 || Nat.beq f 49 || Nat.beq f 33), noFar, true, noInv, noInv, pvechk, noCV w⟩ : Cfg Try.prog) w 400 (Try.f14.body.getD .skip) ⟨⟨w, []⟩, mkT Try.f14.ntmps [.agg #[.int .i64 3, .int .u64 lsn, .int .u32 ep, .int .u32 ord, .int .i64 st, .bool un, .int .i64 tr, .int .i64 co, .int .u64 mk, .slice K ks.length kc, .slice D ds.length dc]] [[[none, none, none, none, none, none, none, none, none, some 1001, some 1001]]], []⟩ (retK Try.prog Try.f14 fun b v s h => newK h (putE 5 h v s fun z l c => Done (z = (!(c == 0)) ∧ l = u8s (mEPut 3 lsn ep ord st un tr co mk ks ds).1 ∧ c = (mEPut 3 lsn ep ord st un tr co mk ks ds).2))) := by
  refine (walk_eput3 lsn ep ord st un tr co mk K D ks.length kc ds.length dc w (fun z l c => z = (!(c == 0)) ∧ l = u8s (mEPut 3 lsn ep ord st un tr co mk ks ds).1 ∧ c = (mEPut 3 lsn ep ord st un tr co mk ks ds).2)).mp ?_
  have HR := hr
  obtain ⟨⟨l0, l1⟩, ⟨e0, e1⟩, ⟨o0, o1⟩, ⟨m0, m1⟩⟩ := hr
  have hok : mEOk 3 lsn ep ord st un tr co mk ks.length ds.length = mEOk 3 lsn ep ord st un tr co mk ks.length ds.length := rfl
  by_cases hz : mEOk 3 lsn ep ord st un tr co mk ks.length ds.length = true
  · have hm : mEPut 3 lsn ep ord st un tr co mk ks ds = (be1n 3 ++ (be8n lsn ++ (be4n ep ++ eParts 3 ord st un tr co mk ks ds)), 0) := by unfold mEPut; rw [hz]; rfl
    have hc : mEChk 3 lsn ep ord st un tr co mk ks.length ds.length = 0 := by unfold mEChk; rw [hz]; rfl
    rw [hm]
    try rw [hc]
    clear hm hc hok
    rw [show mEOk 3 lsn ep ord st un tr co mk ks.length ds.length = (decide (1 ≤ lsn ∧ 1 ≤ ep) && decide (1 ≤ ord ∧ 0 ≤ st ∧ st ≤ 15 ∧ 1 ≤ tr ∧ tr ≤ 255 ∧ co = 0 ∧ mk = 0 ∧ ks.length = 0 ∧ ds.length = 0)) from rfl] at hz
    simp only [Bool.and_eq_true, decide_eq_true_eq] at hz
    have we : IntKind.u64.wrap ep = ep := by rw [w64]; omega
    have wo : IntKind.u64.wrap ord = ord := by rw [w64]; omega
    have rl := fun k => rb_eq (n := lsn) l0 (by omega) k
    have re := fun k => rb_eq (n := ep) e0 (by omega) k
    have ro := fun k => rb_eq (n := ord) o0 (by omega) k
    have rm := fun k => rb_eq (n := mk) m0 (by omega) k
    have rk : rb 0 (IntKind.u64.wrap 3) = 3 := by decide
    have r0 : rb 0 0 = 0 := by decide
    have r1 : rb 0 1 = 1 := by decide
    have ws : (0 ≤ st ∧ st ≤ 255) → IntKind.u64.wrap st = st := by intro h; rw [w64]; omega
    have wt : (0 ≤ tr ∧ tr ≤ 255) → IntKind.u64.wrap tr = tr := by intro h; rw [w64]; omega
    have wc : (0 ≤ co ∧ co ≤ 255) → IntKind.u64.wrap co = co := by intro h; rw [w64]; omega
    have ws8 : (0 ≤ st ∧ st ≤ 255) → IntKind.u8.wrap st = st := by intro h; rw [w8]; omega
    have wt8 : (0 ≤ tr ∧ tr ≤ 255) → IntKind.u8.wrap tr = tr := by intro h; rw [w8]; omega
    have wc8 : (0 ≤ co ∧ co ≤ 255) → IntKind.u8.wrap co = co := by intro h; rw [w8]; omega
    have wk8 : ks.length ≤ 255 → IntKind.u8.wrap (ks.length : Int) = ks.length := by intro h; rw [w8]; omega
    have wx8 : ds.length ≤ 255 → IntKind.u8.wrap (ds.length : Int) = ds.length := by intro h; rw [w8]; omega
    have wk : ks.length ≤ 255 → IntKind.u64.wrap (ks.length : Int) = ks.length := by intro h; rw [w64]; omega
    have wx : ds.length ≤ 255 → IntKind.u64.wrap (ds.length : Int) = ds.length := by intro h; rw [w64]; omega
    have mk8 : ks.length ≤ 255 → (ks.length : Int) % 256 = ks.length := by intro h; omega
    have mx8 : ds.length ≤ 255 → (ds.length : Int) % 256 = ds.length := by intro h; omega
    have rs : (0 ≤ st ∧ st ≤ 255) → ∀ k, rb k st = st / (256 ^ k : Nat) % 256 := fun h k => rb_eq (n := st) h.1 (by omega) k
    have rt : (0 ≤ tr ∧ tr ≤ 255) → ∀ k, rb k tr = tr / (256 ^ k : Nat) % 256 := fun h k => rb_eq (n := tr) h.1 (by omega) k
    have rc : (0 ≤ co ∧ co ≤ 255) → ∀ k, rb k co = co / (256 ^ k : Nat) % 256 := fun h k => rb_eq (n := co) h.1 (by omega) k
    replace ws := ws (by omega)
    replace wt := wt (by omega)
    replace ws8 := ws8 (by omega)
    replace wt8 := wt8 (by omega)
    replace rs := rs (by omega)
    replace rt := rt (by omega)

    repeat' (first | refine And.intro rfl ?_ | refine And.intro HR ?_ | refine And.intro ?_ ?_ | apply br_intro | (refine tkI (by first | rfl | exact sz5) (by simp [u8s]; try omega) ?_) | (refine tkD (by first | rfl | exact sz5) (by simp [u8s]; try omega) ?_) | (refine tkL (by simp [u8s]; try omega) ?_) | (refine ⟨_, BK.far (h := []) rfl, ?_⟩) | (refine ⟨_, BD.far (h := []) rfl, ?_⟩) | (refine ⟨ks, rfl, ?_⟩) | (refine ⟨ds, rfl, ?_⟩) | intro _)
    all_goals try first | rfl | exact trivial | assumption | (simp only [Bool.not_eq_true']; assumption) | (show (_ : Int) ≤ _; decide) | (show (_ : Int) < _; decide) | (show (_ : Nat) ≤ _; omega) | exact all_flat _ | (simp [u8s, flat]; done) | (simp [u8s]; omega)
    all_goals first
      | (refine Done.mk ⟨rfl, ?_, rfl⟩; (try simp only [ws8, wt8, ws, wt, rs, rt,  we, wo, pb0, pb1, pb2, pb3, pb4, pb5, pb6, pb7]); simp [u8s, ws8, wt8, ws, wt, rs, rt,  we, wo, re, ro, rl, rm, rk, r0, r1, eParts, be1n, be4n, be8n, *]; done)
      | (exfalso; simp only [str_nil, str_nil2, beq_self_eq_true, Bool.false_eq_true, Bool.true_eq_false, Bool.or_eq_true, Bool.and_eq_true, Bool.or_eq_false_iff, Bool.and_eq_false_iff, decide_eq_true_eq, decide_eq_false_iff_not, Bool.not_eq_true', Bool.not_eq_false', bne_iff_ne, bne_eq_false_iff_eq, beq_iff_eq, beq_eq_false_iff_ne, ne_eq, reduceCtorEq, true_and, and_true, false_and, and_false, false_or, or_false, true_or, or_true, not_true_eq_false, not_false_eq_true, iff_false, iff_true, Bool.not_true, Bool.not_false, Bool.true_and, Bool.and_true, Bool.false_and, Bool.and_false, Bool.or_true, Bool.true_or, Bool.or_false, Bool.false_or] at *; omega)
      | (exfalso; simp [IntKind.wrap, IntKind.bits, IntKind.signed, str_nil, str_nil2] at *; omega)
      | (simp_all; done)
  · have hz' : mEOk 3 lsn ep ord st un tr co mk ks.length ds.length = false := by simpa using hz
    have hm : mEPut 3 lsn ep ord st un tr co mk ks ds = ([], 40) := by unfold mEPut; rw [hz']; rfl
    have hc : mEChk 3 lsn ep ord st un tr co mk ks.length ds.length = 40 := by unfold mEChk; rw [hz']; rfl
    rw [hm]
    try rw [hc]
    clear hm hc hz hok
    rw [show mEOk 3 lsn ep ord st un tr co mk ks.length ds.length = (decide (1 ≤ lsn ∧ 1 ≤ ep) && decide (1 ≤ ord ∧ 0 ≤ st ∧ st ≤ 15 ∧ 1 ≤ tr ∧ tr ≤ 255 ∧ co = 0 ∧ mk = 0 ∧ ks.length = 0 ∧ ds.length = 0)) from rfl] at hz'
    repeat' (first | refine And.intro rfl ?_ | refine And.intro HR ?_ | refine And.intro ?_ ?_ | apply br_intro | (refine tkI (by first | rfl | exact sz5) (by simp [u8s]; try omega) ?_) | (refine tkD (by first | rfl | exact sz5) (by simp [u8s]; try omega) ?_) | (refine tkL (by simp [u8s]; try omega) ?_) | (refine ⟨_, BK.far (h := []) rfl, ?_⟩) | (refine ⟨_, BD.far (h := []) rfl, ?_⟩) | (refine ⟨ks, rfl, ?_⟩) | (refine ⟨ds, rfl, ?_⟩) | intro _)
    all_goals try first | rfl | exact trivial | assumption | exact ⟨rfl, rfl, rfl⟩ | (simp only [Bool.not_eq_true']; assumption) | (show (_ : Int) ≤ _; decide) | (show (_ : Int) < _; decide) | (show (_ : Nat) ≤ _; omega) | exact all_flat _ | (simp [u8s, flat]; done) | (simp [u8s]; omega)
    all_goals first
      | (exfalso; cases un <;> simp only [str_nil, str_nil2, beq_self_eq_true, Bool.false_eq_true, Bool.true_eq_false, Bool.or_eq_true, Bool.and_eq_true, Bool.or_eq_false_iff, Bool.and_eq_false_iff, decide_eq_true_eq, decide_eq_false_iff_not, Bool.not_eq_true', Bool.not_eq_false', bne_iff_ne, bne_eq_false_iff_eq, beq_iff_eq, beq_eq_false_iff_ne, ne_eq, reduceCtorEq, true_and, and_true, false_and, and_false, false_or, or_false, true_or, or_true, not_true_eq_false, not_false_eq_true, iff_false, iff_true, Bool.not_true, Bool.not_false, Bool.true_and, Bool.and_true, Bool.false_and, Bool.and_false, Bool.or_true, Bool.true_or, Bool.or_false, Bool.false_or] at * <;> omega)
      | (exfalso; cases un <;> simp_all [str_nil, str_nil2] <;> omega)

end Go.VX

/- The walk of function 14 (eput4), told by the verified walk VX, and its contract. -/
namespace Go.VX
open Go.Proofs
open Go.RowKit (Below)
set_option linter.unusedVariables false
set_option linter.unusedSimpArgs false
set_option maxRecDepth 100000
set_option maxHeartbeats 4000000
open Go.VX.M17

theorem walk_eput4 (lsn ep ord st : Int) (un : Bool) (tr co mk : Int) (K D : Option Addr) (kl kc dl dc : Nat) (w : World) (Q : Bool → List Value → Int → Prop) : (∀ (g0 : Nat), Array.size w.heap ≤ g0 → g0 = g0 ∧ ((0 ≤ lsn ∧ lsn ≤ 18446744073709551615) ∧ (0 ≤ ep ∧ ep ≤ 4294967295) ∧ (0 ≤ ord ∧ ord ≤ 4294967295) ∧ 0 ≤ mk ∧ mk ≤ 18446744073709551615) ∧ br (M17.mEChk 4 lsn ep ord st un tr co mk kl dl != 0) (Done (Q Bool.true [] (M17.mEChk 4 lsn ep ord st un tr co mk kl dl))) (Bool.true = Bool.true ∧ g0 = g0 ∧ g0 = g0 ∧ g0 = g0 ∧ ∀ (g2 : Nat), Array.size w.heap ≤ g2 → (g0 = g0 ∧ [Value.int IntKind.i64 4, Value.int IntKind.u64 lsn, Value.int IntKind.u32 ep, Value.int IntKind.u32 ord, Value.int IntKind.i64 st, Value.bool un, Value.int IntKind.i64 tr, Value.int IntKind.i64 co, Value.int IntKind.u64 mk, Value.slice K kl kc, Value.slice D dl dc] = [Value.int IntKind.i64 4, Value.int IntKind.u64 lsn, Value.int IntKind.u32 ep, Value.int IntKind.u32 ord, Value.int IntKind.i64 st, Value.bool un, Value.int IntKind.i64 tr, Value.int IntKind.i64 co, Value.int IntKind.u64 mk, Value.slice K kl kc, Value.slice D dl dc] ∧ 26 = 26) ∧ (g0 = g0 ∧ [Value.int IntKind.i64 4, Value.int IntKind.u64 lsn, Value.int IntKind.u32 ep, Value.int IntKind.u32 ord, Value.int IntKind.i64 st, Value.bool un, Value.int IntKind.i64 tr, Value.int IntKind.i64 co, Value.int IntKind.u64 mk, Value.slice K kl kc, Value.slice D dl dc] = [Value.int IntKind.i64 4, Value.int IntKind.u64 lsn, Value.int IntKind.u32 ep, Value.int IntKind.u32 ord, Value.int IntKind.i64 st, Value.bool un, Value.int IntKind.i64 tr, Value.int IntKind.i64 co, Value.int IntKind.u64 mk, Value.slice K kl kc, Value.slice D dl dc] ∧ 26 = 26) ∧ (g0 = g0 ∧ [Value.int IntKind.i64 4, Value.int IntKind.u64 lsn, Value.int IntKind.u32 ep, Value.int IntKind.u32 ord, Value.int IntKind.i64 st, Value.bool un, Value.int IntKind.i64 tr, Value.int IntKind.i64 co, Value.int IntKind.u64 mk, Value.slice K kl kc, Value.slice D dl dc] = [Value.int IntKind.i64 4, Value.int IntKind.u64 lsn, Value.int IntKind.u32 ep, Value.int IntKind.u32 ord, Value.int IntKind.i64 st, Value.bool un, Value.int IntKind.i64 tr, Value.int IntKind.i64 co, Value.int IntKind.u64 mk, Value.slice K kl kc, Value.slice D dl dc] ∧ 26 = 26) ∧ Bool.true = Bool.true ∧ g2 = g2 ∧ ∀ (g4 : Nat), Array.size w.heap ≤ g4 → (g2 = g2 ∧ [Value.slice Option.none 0 0, Value.bool Bool.false] = [Value.slice Option.none 0 0, Value.bool Bool.false] ∧ 83 = 83) ∧ g4 = g4 ∧ True ∧ ∀ (g6 g7 : Nat) (x8 : List Go.Value), Array.size w.heap ≤ g6 → 1 ≤ g7 → g2 = g2 ∧ (g0 = g0 ∧ [Value.int IntKind.i64 4, Value.int IntKind.u64 lsn, Value.int IntKind.u32 ep, Value.int IntKind.u32 ord, Value.int IntKind.i64 st, Value.bool un, Value.int IntKind.i64 tr, Value.int IntKind.i64 co, Value.int IntKind.u64 mk, Value.slice K kl kc, Value.slice D dl dc] = [Value.int IntKind.i64 4, Value.int IntKind.u64 lsn, Value.int IntKind.u32 ep, Value.int IntKind.u32 ord, Value.int IntKind.i64 st, Value.bool un, Value.int IntKind.i64 tr, Value.int IntKind.i64 co, Value.int IntKind.u64 mk, Value.slice K kl kc, Value.slice D dl dc] ∧ 26 = 26) ∧ (g0 = g0 ∧ [Value.int IntKind.i64 4, Value.int IntKind.u64 lsn, Value.int IntKind.u32 ep, Value.int IntKind.u32 ord, Value.int IntKind.i64 st, Value.bool un, Value.int IntKind.i64 tr, Value.int IntKind.i64 co, Value.int IntKind.u64 mk, Value.slice K kl kc, Value.slice D dl dc] = [Value.int IntKind.i64 4, Value.int IntKind.u64 lsn, Value.int IntKind.u32 ep, Value.int IntKind.u32 ord, Value.int IntKind.i64 st, Value.bool un, Value.int IntKind.i64 tr, Value.int IntKind.i64 co, Value.int IntKind.u64 mk, Value.slice K kl kc, Value.slice D dl dc] ∧ 26 = 26) ∧ (g0 = g0 ∧ [Value.int IntKind.i64 4, Value.int IntKind.u64 lsn, Value.int IntKind.u32 ep, Value.int IntKind.u32 ord, Value.int IntKind.i64 st, Value.bool un, Value.int IntKind.i64 tr, Value.int IntKind.i64 co, Value.int IntKind.u64 mk, Value.slice K kl kc, Value.slice D dl dc] = [Value.int IntKind.i64 4, Value.int IntKind.u64 lsn, Value.int IntKind.u32 ep, Value.int IntKind.u32 ord, Value.int IntKind.i64 st, Value.bool un, Value.int IntKind.i64 tr, Value.int IntKind.i64 co, Value.int IntKind.u64 mk, Value.slice K kl kc, Value.slice D dl dc] ∧ 26 = 26) ∧ Bool.true = Bool.true ∧ g2 = g2 ∧ ∀ (g11 : Nat), Array.size w.heap ≤ g11 → (g2 = g2 ∧ [Value.slice (Option.some (Addr.mk g6 0 Option.none)) 1 g7, Value.bool Bool.false] = [Value.slice (Option.some (Addr.mk g6 0 Option.none)) 1 g7, Value.bool Bool.false] ∧ 83 = 83) ∧ g11 = g11 ∧ g7 = g7 ∧ (g6 = g6 ∧ 1 ≤ g7 ∧ True) ∧ ∀ (g13 g14 : Nat) (x15 : List Go.Value), g13 = g6 ∨ Array.size w.heap ≤ g13 → 2 ≤ g14 → g2 = g2 ∧ Bool.true = Bool.true ∧ g2 = g2 ∧ ∀ (g18 : Nat), Array.size w.heap ≤ g18 → (g2 = g2 ∧ [Value.slice (Option.some (Addr.mk g13 0 Option.none)) 2 g14, Value.bool Bool.false] = [Value.slice (Option.some (Addr.mk g13 0 Option.none)) 2 g14, Value.bool Bool.false] ∧ 83 = 83) ∧ g18 = g18 ∧ g14 = g14 ∧ (g13 = g13 ∧ 2 ≤ g14 ∧ True) ∧ ∀ (g20 g21 : Nat) (x22 : List Go.Value), g20 = g13 ∨ Array.size w.heap ≤ g20 → 3 ≤ g21 → g2 = g2 ∧ Bool.true = Bool.true ∧ g2 = g2 ∧ ∀ (g25 : Nat), Array.size w.heap ≤ g25 → (g2 = g2 ∧ [Value.slice (Option.some (Addr.mk g20 0 Option.none)) 3 g21, Value.bool Bool.false] = [Value.slice (Option.some (Addr.mk g20 0 Option.none)) 3 g21, Value.bool Bool.false] ∧ 83 = 83) ∧ g25 = g25 ∧ g21 = g21 ∧ (g20 = g20 ∧ 3 ≤ g21 ∧ True) ∧ ∀ (g27 g28 : Nat) (x29 : List Go.Value), g27 = g20 ∨ Array.size w.heap ≤ g27 → 4 ≤ g28 → g2 = g2 ∧ Bool.true = Bool.true ∧ g2 = g2 ∧ ∀ (g32 : Nat), Array.size w.heap ≤ g32 → (g2 = g2 ∧ [Value.slice (Option.some (Addr.mk g27 0 Option.none)) 4 g28, Value.bool Bool.false] = [Value.slice (Option.some (Addr.mk g27 0 Option.none)) 4 g28, Value.bool Bool.false] ∧ 83 = 83) ∧ g32 = g32 ∧ g28 = g28 ∧ (g27 = g27 ∧ 4 ≤ g28 ∧ True) ∧ ∀ (g34 g35 : Nat) (x36 : List Go.Value), g34 = g27 ∨ Array.size w.heap ≤ g34 → 5 ≤ g35 → g2 = g2 ∧ Bool.true = Bool.true ∧ g2 = g2 ∧ ∀ (g39 : Nat), Array.size w.heap ≤ g39 → (g2 = g2 ∧ [Value.slice (Option.some (Addr.mk g34 0 Option.none)) 5 g35, Value.bool Bool.false] = [Value.slice (Option.some (Addr.mk g34 0 Option.none)) 5 g35, Value.bool Bool.false] ∧ 83 = 83) ∧ g39 = g39 ∧ g35 = g35 ∧ (g34 = g34 ∧ 5 ≤ g35 ∧ True) ∧ ∀ (g41 g42 : Nat) (x43 : List Go.Value), g41 = g34 ∨ Array.size w.heap ≤ g41 → 6 ≤ g42 → g2 = g2 ∧ Bool.true = Bool.true ∧ g2 = g2 ∧ ∀ (g46 : Nat), Array.size w.heap ≤ g46 → (g2 = g2 ∧ [Value.slice (Option.some (Addr.mk g41 0 Option.none)) 6 g42, Value.bool Bool.false] = [Value.slice (Option.some (Addr.mk g41 0 Option.none)) 6 g42, Value.bool Bool.false] ∧ 83 = 83) ∧ g46 = g46 ∧ g42 = g42 ∧ (g41 = g41 ∧ 6 ≤ g42 ∧ True) ∧ ∀ (g48 g49 : Nat) (x50 : List Go.Value), g48 = g41 ∨ Array.size w.heap ≤ g48 → 7 ≤ g49 → g2 = g2 ∧ Bool.true = Bool.true ∧ g2 = g2 ∧ ∀ (g53 : Nat), Array.size w.heap ≤ g53 → (g2 = g2 ∧ [Value.slice (Option.some (Addr.mk g48 0 Option.none)) 7 g49, Value.bool Bool.false] = [Value.slice (Option.some (Addr.mk g48 0 Option.none)) 7 g49, Value.bool Bool.false] ∧ 83 = 83) ∧ g53 = g53 ∧ g49 = g49 ∧ (g48 = g48 ∧ 7 ≤ g49 ∧ True) ∧ ∀ (g55 g56 : Nat) (x57 : List Go.Value), g55 = g48 ∨ Array.size w.heap ≤ g55 → 8 ≤ g56 → g2 = g2 ∧ Bool.true = Bool.true ∧ g2 = g2 ∧ ∀ (g60 : Nat), Array.size w.heap ≤ g60 → (g2 = g2 ∧ [Value.slice (Option.some (Addr.mk g55 0 Option.none)) 8 g56, Value.bool Bool.false] = [Value.slice (Option.some (Addr.mk g55 0 Option.none)) 8 g56, Value.bool Bool.false] ∧ 83 = 83) ∧ g60 = g60 ∧ g56 = g56 ∧ (g55 = g55 ∧ 8 ≤ g56 ∧ True) ∧ ∀ (g62 g63 : Nat) (x64 : List Go.Value), g62 = g55 ∨ Array.size w.heap ≤ g62 → 9 ≤ g63 → g2 = g2 ∧ (g0 = g0 ∧ [Value.int IntKind.i64 4, Value.int IntKind.u64 lsn, Value.int IntKind.u32 ep, Value.int IntKind.u32 ord, Value.int IntKind.i64 st, Value.bool un, Value.int IntKind.i64 tr, Value.int IntKind.i64 co, Value.int IntKind.u64 mk, Value.slice K kl kc, Value.slice D dl dc] = [Value.int IntKind.i64 4, Value.int IntKind.u64 lsn, Value.int IntKind.u32 ep, Value.int IntKind.u32 ord, Value.int IntKind.i64 st, Value.bool un, Value.int IntKind.i64 tr, Value.int IntKind.i64 co, Value.int IntKind.u64 mk, Value.slice K kl kc, Value.slice D dl dc] ∧ 26 = 26) ∧ (g0 = g0 ∧ [Value.int IntKind.i64 4, Value.int IntKind.u64 lsn, Value.int IntKind.u32 ep, Value.int IntKind.u32 ord, Value.int IntKind.i64 st, Value.bool un, Value.int IntKind.i64 tr, Value.int IntKind.i64 co, Value.int IntKind.u64 mk, Value.slice K kl kc, Value.slice D dl dc] = [Value.int IntKind.i64 4, Value.int IntKind.u64 lsn, Value.int IntKind.u32 ep, Value.int IntKind.u32 ord, Value.int IntKind.i64 st, Value.bool un, Value.int IntKind.i64 tr, Value.int IntKind.i64 co, Value.int IntKind.u64 mk, Value.slice K kl kc, Value.slice D dl dc] ∧ 26 = 26) ∧ Bool.true = Bool.true ∧ g2 = g2 ∧ ∀ (g67 : Nat), Array.size w.heap ≤ g67 → (g2 = g2 ∧ [Value.slice (Option.some (Addr.mk g62 0 Option.none)) 9 g63, Value.bool Bool.false] = [Value.slice (Option.some (Addr.mk g62 0 Option.none)) 9 g63, Value.bool Bool.false] ∧ 83 = 83) ∧ g67 = g67 ∧ g63 = g63 ∧ (g62 = g62 ∧ 9 ≤ g63 ∧ True) ∧ ∀ (g69 g70 : Nat) (x71 : List Go.Value), g69 = g62 ∨ Array.size w.heap ≤ g69 → 10 ≤ g70 → g2 = g2 ∧ Bool.true = Bool.true ∧ g2 = g2 ∧ ∀ (g74 : Nat), Array.size w.heap ≤ g74 → (g2 = g2 ∧ [Value.slice (Option.some (Addr.mk g69 0 Option.none)) 10 g70, Value.bool Bool.false] = [Value.slice (Option.some (Addr.mk g69 0 Option.none)) 10 g70, Value.bool Bool.false] ∧ 83 = 83) ∧ g74 = g74 ∧ g70 = g70 ∧ (g69 = g69 ∧ 10 ≤ g70 ∧ True) ∧ ∀ (g76 g77 : Nat) (x78 : List Go.Value), g76 = g69 ∨ Array.size w.heap ≤ g76 → 11 ≤ g77 → g2 = g2 ∧ Bool.true = Bool.true ∧ g2 = g2 ∧ ∀ (g81 : Nat), Array.size w.heap ≤ g81 → (g2 = g2 ∧ [Value.slice (Option.some (Addr.mk g76 0 Option.none)) 11 g77, Value.bool Bool.false] = [Value.slice (Option.some (Addr.mk g76 0 Option.none)) 11 g77, Value.bool Bool.false] ∧ 83 = 83) ∧ g81 = g81 ∧ g77 = g77 ∧ (g76 = g76 ∧ 11 ≤ g77 ∧ True) ∧ ∀ (g83 g84 : Nat) (x85 : List Go.Value), g83 = g76 ∨ Array.size w.heap ≤ g83 → 12 ≤ g84 → g2 = g2 ∧ Bool.true = Bool.true ∧ g2 = g2 ∧ ∀ (g88 : Nat), Array.size w.heap ≤ g88 → (g2 = g2 ∧ [Value.slice (Option.some (Addr.mk g83 0 Option.none)) 12 g84, Value.bool Bool.false] = [Value.slice (Option.some (Addr.mk g83 0 Option.none)) 12 g84, Value.bool Bool.false] ∧ 83 = 83) ∧ g88 = g88 ∧ g84 = g84 ∧ (g83 = g83 ∧ 12 ≤ g84 ∧ True) ∧ ∀ (g90 g91 : Nat) (x92 : List Go.Value), g90 = g83 ∨ Array.size w.heap ≤ g90 → 13 ≤ g91 → g2 = g2 ∧ (g0 = g0 ∧ [Value.int IntKind.i64 4, Value.int IntKind.u64 lsn, Value.int IntKind.u32 ep, Value.int IntKind.u32 ord, Value.int IntKind.i64 st, Value.bool un, Value.int IntKind.i64 tr, Value.int IntKind.i64 co, Value.int IntKind.u64 mk, Value.slice K kl kc, Value.slice D dl dc] = [Value.int IntKind.i64 4, Value.int IntKind.u64 lsn, Value.int IntKind.u32 ep, Value.int IntKind.u32 ord, Value.int IntKind.i64 st, Value.bool un, Value.int IntKind.i64 tr, Value.int IntKind.i64 co, Value.int IntKind.u64 mk, Value.slice K kl kc, Value.slice D dl dc] ∧ 26 = 26) ∧ g0 = g0 ∧ Bool.true = Bool.true ∧ g0 = g0 ∧ g0 = g0 ∧ g0 = g0 ∧ g0 = g0 ∧ g0 = g0 ∧ Bool.true = Bool.true ∧ g2 = g2 ∧ ∀ (g95 : Nat), Array.size w.heap ≤ g95 → (g2 = g2 ∧ [Value.slice (Option.some (Addr.mk g90 0 Option.none)) 13 g91, Value.bool Bool.false] = [Value.slice (Option.some (Addr.mk g90 0 Option.none)) 13 g91, Value.bool Bool.false] ∧ 83 = 83) ∧ g95 = g95 ∧ g91 = g91 ∧ (g90 = g90 ∧ 13 ≤ g91 ∧ True) ∧ ∀ (g97 g98 : Nat) (x99 : List Go.Value), g97 = g90 ∨ Array.size w.heap ≤ g97 → 14 ≤ g98 → g2 = g2 ∧ Bool.true = Bool.true ∧ g2 = g2 ∧ ∀ (g102 : Nat), Array.size w.heap ≤ g102 → (g2 = g2 ∧ [Value.slice (Option.some (Addr.mk g97 0 Option.none)) 14 g98, Value.bool Bool.false] = [Value.slice (Option.some (Addr.mk g97 0 Option.none)) 14 g98, Value.bool Bool.false] ∧ 83 = 83) ∧ g102 = g102 ∧ g98 = g98 ∧ (g97 = g97 ∧ 14 ≤ g98 ∧ True) ∧ ∀ (g104 g105 : Nat) (x106 : List Go.Value), g104 = g97 ∨ Array.size w.heap ≤ g104 → 15 ≤ g105 → g2 = g2 ∧ Bool.true = Bool.true ∧ g2 = g2 ∧ ∀ (g109 : Nat), Array.size w.heap ≤ g109 → (g2 = g2 ∧ [Value.slice (Option.some (Addr.mk g104 0 Option.none)) 15 g105, Value.bool Bool.false] = [Value.slice (Option.some (Addr.mk g104 0 Option.none)) 15 g105, Value.bool Bool.false] ∧ 83 = 83) ∧ g109 = g109 ∧ g105 = g105 ∧ (g104 = g104 ∧ 15 ≤ g105 ∧ True) ∧ ∀ (g111 g112 : Nat) (x113 : List Go.Value), g111 = g104 ∨ Array.size w.heap ≤ g111 → 16 ≤ g112 → g2 = g2 ∧ Bool.true = Bool.true ∧ g2 = g2 ∧ ∀ (g116 : Nat), Array.size w.heap ≤ g116 → (g2 = g2 ∧ [Value.slice (Option.some (Addr.mk g111 0 Option.none)) 16 g112, Value.bool Bool.false] = [Value.slice (Option.some (Addr.mk g111 0 Option.none)) 16 g112, Value.bool Bool.false] ∧ 83 = 83) ∧ g116 = g116 ∧ g112 = g112 ∧ (g111 = g111 ∧ 16 ≤ g112 ∧ True) ∧ ∀ (g118 g119 : Nat) (x120 : List Go.Value), g118 = g111 ∨ Array.size w.heap ≤ g118 → 17 ≤ g119 → g2 = g2 ∧ (g0 = g0 ∧ [Value.int IntKind.i64 4, Value.int IntKind.u64 lsn, Value.int IntKind.u32 ep, Value.int IntKind.u32 ord, Value.int IntKind.i64 st, Value.bool un, Value.int IntKind.i64 tr, Value.int IntKind.i64 co, Value.int IntKind.u64 mk, Value.slice K kl kc, Value.slice D dl dc] = [Value.int IntKind.i64 4, Value.int IntKind.u64 lsn, Value.int IntKind.u32 ep, Value.int IntKind.u32 ord, Value.int IntKind.i64 st, Value.bool un, Value.int IntKind.i64 tr, Value.int IntKind.i64 co, Value.int IntKind.u64 mk, Value.slice K kl kc, Value.slice D dl dc] ∧ 26 = 26) ∧ (g0 = g0 ∧ [Value.int IntKind.i64 4, Value.int IntKind.u64 lsn, Value.int IntKind.u32 ep, Value.int IntKind.u32 ord, Value.int IntKind.i64 st, Value.bool un, Value.int IntKind.i64 tr, Value.int IntKind.i64 co, Value.int IntKind.u64 mk, Value.slice K kl kc, Value.slice D dl dc] = [Value.int IntKind.i64 4, Value.int IntKind.u64 lsn, Value.int IntKind.u32 ep, Value.int IntKind.u32 ord, Value.int IntKind.i64 st, Value.bool un, Value.int IntKind.i64 tr, Value.int IntKind.i64 co, Value.int IntKind.u64 mk, Value.slice K kl kc, Value.slice D dl dc] ∧ 26 = 26) ∧ (g0 = g0 ∧ [Value.int IntKind.i64 4, Value.int IntKind.u64 lsn, Value.int IntKind.u32 ep, Value.int IntKind.u32 ord, Value.int IntKind.i64 st, Value.bool un, Value.int IntKind.i64 tr, Value.int IntKind.i64 co, Value.int IntKind.u64 mk, Value.slice K kl kc, Value.slice D dl dc] = [Value.int IntKind.i64 4, Value.int IntKind.u64 lsn, Value.int IntKind.u32 ep, Value.int IntKind.u32 ord, Value.int IntKind.i64 st, Value.bool un, Value.int IntKind.i64 tr, Value.int IntKind.i64 co, Value.int IntKind.u64 mk, Value.slice K kl kc, Value.slice D dl dc] ∧ 26 = 26) ∧ (g0 = g0 ∧ [Value.int IntKind.i64 4, Value.int IntKind.u64 lsn, Value.int IntKind.u32 ep, Value.int IntKind.u32 ord, Value.int IntKind.i64 st, Value.bool un, Value.int IntKind.i64 tr, Value.int IntKind.i64 co, Value.int IntKind.u64 mk, Value.slice K kl kc, Value.slice D dl dc] = [Value.int IntKind.i64 4, Value.int IntKind.u64 lsn, Value.int IntKind.u32 ep, Value.int IntKind.u32 ord, Value.int IntKind.i64 st, Value.bool un, Value.int IntKind.i64 tr, Value.int IntKind.i64 co, Value.int IntKind.u64 mk, Value.slice K kl kc, Value.slice D dl dc] ∧ 26 = 26) ∧ Bool.true = Bool.true ∧ g2 = g2 ∧ ∀ (g123 : Nat), Array.size w.heap ≤ g123 → (g2 = g2 ∧ [Value.slice (Option.some (Addr.mk g118 0 Option.none)) 17 g119, Value.bool Bool.false] = [Value.slice (Option.some (Addr.mk g118 0 Option.none)) 17 g119, Value.bool Bool.false] ∧ 83 = 83) ∧ g123 = g123 ∧ g119 = g119 ∧ (g118 = g118 ∧ 17 ≤ g119 ∧ True) ∧ ∀ (g125 g126 : Nat) (x127 : List Go.Value), g125 = g118 ∨ Array.size w.heap ≤ g125 → 18 ≤ g126 → g2 = g2 ∧ (g0 = g0 ∧ [Value.int IntKind.i64 4, Value.int IntKind.u64 lsn, Value.int IntKind.u32 ep, Value.int IntKind.u32 ord, Value.int IntKind.i64 st, Value.bool un, Value.int IntKind.i64 tr, Value.int IntKind.i64 co, Value.int IntKind.u64 mk, Value.slice K kl kc, Value.slice D dl dc] = [Value.int IntKind.i64 4, Value.int IntKind.u64 lsn, Value.int IntKind.u32 ep, Value.int IntKind.u32 ord, Value.int IntKind.i64 st, Value.bool un, Value.int IntKind.i64 tr, Value.int IntKind.i64 co, Value.int IntKind.u64 mk, Value.slice K kl kc, Value.slice D dl dc] ∧ 26 = 26) ∧ (g0 = g0 ∧ [Value.int IntKind.i64 4, Value.int IntKind.u64 lsn, Value.int IntKind.u32 ep, Value.int IntKind.u32 ord, Value.int IntKind.i64 st, Value.bool un, Value.int IntKind.i64 tr, Value.int IntKind.i64 co, Value.int IntKind.u64 mk, Value.slice K kl kc, Value.slice D dl dc] = [Value.int IntKind.i64 4, Value.int IntKind.u64 lsn, Value.int IntKind.u32 ep, Value.int IntKind.u32 ord, Value.int IntKind.i64 st, Value.bool un, Value.int IntKind.i64 tr, Value.int IntKind.i64 co, Value.int IntKind.u64 mk, Value.slice K kl kc, Value.slice D dl dc] ∧ 26 = 26) ∧ (g0 = g0 ∧ [Value.int IntKind.i64 4, Value.int IntKind.u64 lsn, Value.int IntKind.u32 ep, Value.int IntKind.u32 ord, Value.int IntKind.i64 st, Value.bool un, Value.int IntKind.i64 tr, Value.int IntKind.i64 co, Value.int IntKind.u64 mk, Value.slice K kl kc, Value.slice D dl dc] = [Value.int IntKind.i64 4, Value.int IntKind.u64 lsn, Value.int IntKind.u32 ep, Value.int IntKind.u32 ord, Value.int IntKind.i64 st, Value.bool un, Value.int IntKind.i64 tr, Value.int IntKind.i64 co, Value.int IntKind.u64 mk, Value.slice K kl kc, Value.slice D dl dc] ∧ 26 = 26) ∧ (g0 = g0 ∧ [Value.int IntKind.i64 4, Value.int IntKind.u64 lsn, Value.int IntKind.u32 ep, Value.int IntKind.u32 ord, Value.int IntKind.i64 st, Value.bool un, Value.int IntKind.i64 tr, Value.int IntKind.i64 co, Value.int IntKind.u64 mk, Value.slice K kl kc, Value.slice D dl dc] = [Value.int IntKind.i64 4, Value.int IntKind.u64 lsn, Value.int IntKind.u32 ep, Value.int IntKind.u32 ord, Value.int IntKind.i64 st, Value.bool un, Value.int IntKind.i64 tr, Value.int IntKind.i64 co, Value.int IntKind.u64 mk, Value.slice K kl kc, Value.slice D dl dc] ∧ 26 = 26) ∧ br un ((g0 = g0 ∧ [Value.int IntKind.i64 4, Value.int IntKind.u64 lsn, Value.int IntKind.u32 ep, Value.int IntKind.u32 ord, Value.int IntKind.i64 st, Value.bool un, Value.int IntKind.i64 tr, Value.int IntKind.i64 co, Value.int IntKind.u64 mk, Value.slice K kl kc, Value.slice D dl dc] = [Value.int IntKind.i64 4, Value.int IntKind.u64 lsn, Value.int IntKind.u32 ep, Value.int IntKind.u32 ord, Value.int IntKind.i64 st, Value.bool un, Value.int IntKind.i64 tr, Value.int IntKind.i64 co, Value.int IntKind.u64 mk, Value.slice K kl kc, Value.slice D dl dc] ∧ 26 = 26) ∧ (g0 = g0 ∧ [Value.int IntKind.i64 4, Value.int IntKind.u64 lsn, Value.int IntKind.u32 ep, Value.int IntKind.u32 ord, Value.int IntKind.i64 st, Value.bool un, Value.int IntKind.i64 tr, Value.int IntKind.i64 co, Value.int IntKind.u64 mk, Value.slice K kl kc, Value.slice D dl dc] = [Value.int IntKind.i64 4, Value.int IntKind.u64 lsn, Value.int IntKind.u32 ep, Value.int IntKind.u32 ord, Value.int IntKind.i64 st, Value.bool un, Value.int IntKind.i64 tr, Value.int IntKind.i64 co, Value.int IntKind.u64 mk, Value.slice K kl kc, Value.slice D dl dc] ∧ 26 = 26) ∧ (g0 = g0 ∧ [Value.int IntKind.i64 4, Value.int IntKind.u64 lsn, Value.int IntKind.u32 ep, Value.int IntKind.u32 ord, Value.int IntKind.i64 st, Value.bool un, Value.int IntKind.i64 tr, Value.int IntKind.i64 co, Value.int IntKind.u64 mk, Value.slice K kl kc, Value.slice D dl dc] = [Value.int IntKind.i64 4, Value.int IntKind.u64 lsn, Value.int IntKind.u32 ep, Value.int IntKind.u32 ord, Value.int IntKind.i64 st, Value.bool un, Value.int IntKind.i64 tr, Value.int IntKind.i64 co, Value.int IntKind.u64 mk, Value.slice K kl kc, Value.slice D dl dc] ∧ 26 = 26) ∧ Bool.true = Bool.true ∧ g2 = g2 ∧ ∀ (g130 : Nat), Array.size w.heap ≤ g130 → (g2 = g2 ∧ [Value.slice (Option.some (Addr.mk g125 0 Option.none)) 18 g126, Value.bool Bool.false] = [Value.slice (Option.some (Addr.mk g125 0 Option.none)) 18 g126, Value.bool Bool.false] ∧ 83 = 83) ∧ g130 = g130 ∧ g126 = g126 ∧ (g125 = g125 ∧ 18 ≤ g126 ∧ True) ∧ ∀ (g132 g133 : Nat) (x134 : List Go.Value), g132 = g125 ∨ Array.size w.heap ≤ g132 → 19 ≤ g133 → g2 = g2 ∧ (g0 = g0 ∧ [Value.int IntKind.i64 4, Value.int IntKind.u64 lsn, Value.int IntKind.u32 ep, Value.int IntKind.u32 ord, Value.int IntKind.i64 st, Value.bool un, Value.int IntKind.i64 tr, Value.int IntKind.i64 co, Value.int IntKind.u64 mk, Value.slice K kl kc, Value.slice D dl dc] = [Value.int IntKind.i64 4, Value.int IntKind.u64 lsn, Value.int IntKind.u32 ep, Value.int IntKind.u32 ord, Value.int IntKind.i64 st, Value.bool un, Value.int IntKind.i64 tr, Value.int IntKind.i64 co, Value.int IntKind.u64 mk, Value.slice K kl kc, Value.slice D dl dc] ∧ 26 = 26) ∧ (g0 = g0 ∧ [Value.int IntKind.i64 4, Value.int IntKind.u64 lsn, Value.int IntKind.u32 ep, Value.int IntKind.u32 ord, Value.int IntKind.i64 st, Value.bool un, Value.int IntKind.i64 tr, Value.int IntKind.i64 co, Value.int IntKind.u64 mk, Value.slice K kl kc, Value.slice D dl dc] = [Value.int IntKind.i64 4, Value.int IntKind.u64 lsn, Value.int IntKind.u32 ep, Value.int IntKind.u32 ord, Value.int IntKind.i64 st, Value.bool un, Value.int IntKind.i64 tr, Value.int IntKind.i64 co, Value.int IntKind.u64 mk, Value.slice K kl kc, Value.slice D dl dc] ∧ 26 = 26) ∧ (g0 = g0 ∧ [Value.int IntKind.i64 4, Value.int IntKind.u64 lsn, Value.int IntKind.u32 ep, Value.int IntKind.u32 ord, Value.int IntKind.i64 st, Value.bool un, Value.int IntKind.i64 tr, Value.int IntKind.i64 co, Value.int IntKind.u64 mk, Value.slice K kl kc, Value.slice D dl dc] = [Value.int IntKind.i64 4, Value.int IntKind.u64 lsn, Value.int IntKind.u32 ep, Value.int IntKind.u32 ord, Value.int IntKind.i64 st, Value.bool un, Value.int IntKind.i64 tr, Value.int IntKind.i64 co, Value.int IntKind.u64 mk, Value.slice K kl kc, Value.slice D dl dc] ∧ 26 = 26) ∧ Bool.true = Bool.true ∧ g2 = g2 ∧ ∀ (g137 : Nat), Array.size w.heap ≤ g137 → (g2 = g2 ∧ [Value.slice (Option.some (Addr.mk g132 0 Option.none)) 19 g133, Value.bool Bool.false] = [Value.slice (Option.some (Addr.mk g132 0 Option.none)) 19 g133, Value.bool Bool.false] ∧ 83 = 83) ∧ g137 = g137 ∧ g133 = g133 ∧ (g132 = g132 ∧ 19 ≤ g133 ∧ True) ∧ ∀ (g139 g140 : Nat) (x141 : List Go.Value), g139 = g132 ∨ Array.size w.heap ≤ g139 → 20 ≤ g140 → g2 = g2 ∧ (g0 = g0 ∧ [Value.int IntKind.i64 4, Value.int IntKind.u64 lsn, Value.int IntKind.u32 ep, Value.int IntKind.u32 ord, Value.int IntKind.i64 st, Value.bool un, Value.int IntKind.i64 tr, Value.int IntKind.i64 co, Value.int IntKind.u64 mk, Value.slice K kl kc, Value.slice D dl dc] = [Value.int IntKind.i64 4, Value.int IntKind.u64 lsn, Value.int IntKind.u32 ep, Value.int IntKind.u32 ord, Value.int IntKind.i64 st, Value.bool un, Value.int IntKind.i64 tr, Value.int IntKind.i64 co, Value.int IntKind.u64 mk, Value.slice K kl kc, Value.slice D dl dc] ∧ 26 = 26) ∧ (g0 = g0 ∧ [Value.int IntKind.i64 4, Value.int IntKind.u64 lsn, Value.int IntKind.u32 ep, Value.int IntKind.u32 ord, Value.int IntKind.i64 st, Value.bool un, Value.int IntKind.i64 tr, Value.int IntKind.i64 co, Value.int IntKind.u64 mk, Value.slice K kl kc, Value.slice D dl dc] = [Value.int IntKind.i64 4, Value.int IntKind.u64 lsn, Value.int IntKind.u32 ep, Value.int IntKind.u32 ord, Value.int IntKind.i64 st, Value.bool un, Value.int IntKind.i64 tr, Value.int IntKind.i64 co, Value.int IntKind.u64 mk, Value.slice K kl kc, Value.slice D dl dc] ∧ 26 = 26) ∧ (g0 = g0 ∧ [Value.int IntKind.i64 4, Value.int IntKind.u64 lsn, Value.int IntKind.u32 ep, Value.int IntKind.u32 ord, Value.int IntKind.i64 st, Value.bool un, Value.int IntKind.i64 tr, Value.int IntKind.i64 co, Value.int IntKind.u64 mk, Value.slice K kl kc, Value.slice D dl dc] = [Value.int IntKind.i64 4, Value.int IntKind.u64 lsn, Value.int IntKind.u32 ep, Value.int IntKind.u32 ord, Value.int IntKind.i64 st, Value.bool un, Value.int IntKind.i64 tr, Value.int IntKind.i64 co, Value.int IntKind.u64 mk, Value.slice K kl kc, Value.slice D dl dc] ∧ 26 = 26) ∧ Bool.true = Bool.true ∧ g2 = g2 ∧ ∀ (g144 : Nat), Array.size w.heap ≤ g144 → (g2 = g2 ∧ [Value.slice (Option.some (Addr.mk g139 0 Option.none)) 20 g140, Value.bool Bool.false] = [Value.slice (Option.some (Addr.mk g139 0 Option.none)) 20 g140, Value.bool Bool.false] ∧ 83 = 83) ∧ g144 = g144 ∧ g140 = g140 ∧ (g139 = g139 ∧ 20 ≤ g140 ∧ True) ∧ ∀ (g146 g147 : Nat) (x148 : List Go.Value), g146 = g139 ∨ Array.size w.heap ≤ g146 → 21 ≤ g147 → g2 = g2 ∧ (g0 = g0 ∧ [Value.int IntKind.i64 4, Value.int IntKind.u64 lsn, Value.int IntKind.u32 ep, Value.int IntKind.u32 ord, Value.int IntKind.i64 st, Value.bool un, Value.int IntKind.i64 tr, Value.int IntKind.i64 co, Value.int IntKind.u64 mk, Value.slice K kl kc, Value.slice D dl dc] = [Value.int IntKind.i64 4, Value.int IntKind.u64 lsn, Value.int IntKind.u32 ep, Value.int IntKind.u32 ord, Value.int IntKind.i64 st, Value.bool un, Value.int IntKind.i64 tr, Value.int IntKind.i64 co, Value.int IntKind.u64 mk, Value.slice K kl kc, Value.slice D dl dc] ∧ 26 = 26) ∧ (g0 = g0 ∧ [Value.int IntKind.i64 4, Value.int IntKind.u64 lsn, Value.int IntKind.u32 ep, Value.int IntKind.u32 ord, Value.int IntKind.i64 st, Value.bool un, Value.int IntKind.i64 tr, Value.int IntKind.i64 co, Value.int IntKind.u64 mk, Value.slice K kl kc, Value.slice D dl dc] = [Value.int IntKind.i64 4, Value.int IntKind.u64 lsn, Value.int IntKind.u32 ep, Value.int IntKind.u32 ord, Value.int IntKind.i64 st, Value.bool un, Value.int IntKind.i64 tr, Value.int IntKind.i64 co, Value.int IntKind.u64 mk, Value.slice K kl kc, Value.slice D dl dc] ∧ 26 = 26) ∧ (g0 = g0 ∧ [Value.int IntKind.i64 4, Value.int IntKind.u64 lsn, Value.int IntKind.u32 ep, Value.int IntKind.u32 ord, Value.int IntKind.i64 st, Value.bool un, Value.int IntKind.i64 tr, Value.int IntKind.i64 co, Value.int IntKind.u64 mk, Value.slice K kl kc, Value.slice D dl dc] = [Value.int IntKind.i64 4, Value.int IntKind.u64 lsn, Value.int IntKind.u32 ep, Value.int IntKind.u32 ord, Value.int IntKind.i64 st, Value.bool un, Value.int IntKind.i64 tr, Value.int IntKind.i64 co, Value.int IntKind.u64 mk, Value.slice K kl kc, Value.slice D dl dc] ∧ 26 = 26) ∧ g2 = g2 ∧ ∀ (g151 : Nat), Array.size w.heap ≤ g151 → g2 = g2 ∧ g146 = g146 ∧ (g151 = g151 ∧ 0 ≤ 0 ∧ True) ∧ ∀ (g153 g154 : Nat) (x155 : List Go.Value), g153 = g151 ∨ Array.size w.heap ≤ g153 → 21 ≤ g154 → g154 = g154 ∧ (g153 = g153 ∧ 21 ≤ g154) ∧ Done (Q Bool.false [Value.int IntKind.u8 4, Value.int IntKind.u8 (IntKind.wrap IntKind.u8 (Int.fdiv lsn 72057594037927936)), Value.int IntKind.u8 (IntKind.wrap IntKind.u8 (Int.fdiv lsn 281474976710656)), Value.int IntKind.u8 (IntKind.wrap IntKind.u8 (Int.fdiv lsn 1099511627776)), Value.int IntKind.u8 (IntKind.wrap IntKind.u8 (Int.fdiv lsn 4294967296)), Value.int IntKind.u8 (IntKind.wrap IntKind.u8 (Int.fdiv lsn 16777216)), Value.int IntKind.u8 (IntKind.wrap IntKind.u8 (Int.fdiv lsn 65536)), Value.int IntKind.u8 (IntKind.wrap IntKind.u8 (Int.fdiv lsn 256)), Value.int IntKind.u8 (IntKind.wrap IntKind.u8 (Int.fdiv lsn 1)), Value.int IntKind.u8 (IntKind.wrap IntKind.u8 (Int.fdiv (IntKind.wrap IntKind.u64 ep) 16777216)), Value.int IntKind.u8 (IntKind.wrap IntKind.u8 (Int.fdiv (IntKind.wrap IntKind.u64 ep) 65536)), Value.int IntKind.u8 (IntKind.wrap IntKind.u8 (Int.fdiv (IntKind.wrap IntKind.u64 ep) 256)), Value.int IntKind.u8 (IntKind.wrap IntKind.u8 (Int.fdiv (IntKind.wrap IntKind.u64 ep) 1)), Value.int IntKind.u8 (IntKind.wrap IntKind.u8 (Int.fdiv (IntKind.wrap IntKind.u64 ord) 16777216)), Value.int IntKind.u8 (IntKind.wrap IntKind.u8 (Int.fdiv (IntKind.wrap IntKind.u64 ord) 65536)), Value.int IntKind.u8 (IntKind.wrap IntKind.u8 (Int.fdiv (IntKind.wrap IntKind.u64 ord) 256)), Value.int IntKind.u8 (IntKind.wrap IntKind.u8 (Int.fdiv (IntKind.wrap IntKind.u64 ord) 1)), Value.int IntKind.u8 (IntKind.wrap IntKind.u8 (Int.fdiv (IntKind.wrap IntKind.u64 (IntKind.wrap IntKind.u8 st)) 1)), Value.int IntKind.u8 1, Value.int IntKind.u8 (IntKind.wrap IntKind.u8 (Int.fdiv (IntKind.wrap IntKind.u64 (IntKind.wrap IntKind.u8 tr)) 1)), Value.int IntKind.u8 (IntKind.wrap IntKind.u8 (Int.fdiv (IntKind.wrap IntKind.u64 (IntKind.wrap IntKind.u8 co)) 1))] 0)) ((g0 = g0 ∧ [Value.int IntKind.i64 4, Value.int IntKind.u64 lsn, Value.int IntKind.u32 ep, Value.int IntKind.u32 ord, Value.int IntKind.i64 st, Value.bool un, Value.int IntKind.i64 tr, Value.int IntKind.i64 co, Value.int IntKind.u64 mk, Value.slice K kl kc, Value.slice D dl dc] = [Value.int IntKind.i64 4, Value.int IntKind.u64 lsn, Value.int IntKind.u32 ep, Value.int IntKind.u32 ord, Value.int IntKind.i64 st, Value.bool un, Value.int IntKind.i64 tr, Value.int IntKind.i64 co, Value.int IntKind.u64 mk, Value.slice K kl kc, Value.slice D dl dc] ∧ 26 = 26) ∧ (g0 = g0 ∧ [Value.int IntKind.i64 4, Value.int IntKind.u64 lsn, Value.int IntKind.u32 ep, Value.int IntKind.u32 ord, Value.int IntKind.i64 st, Value.bool un, Value.int IntKind.i64 tr, Value.int IntKind.i64 co, Value.int IntKind.u64 mk, Value.slice K kl kc, Value.slice D dl dc] = [Value.int IntKind.i64 4, Value.int IntKind.u64 lsn, Value.int IntKind.u32 ep, Value.int IntKind.u32 ord, Value.int IntKind.i64 st, Value.bool un, Value.int IntKind.i64 tr, Value.int IntKind.i64 co, Value.int IntKind.u64 mk, Value.slice K kl kc, Value.slice D dl dc] ∧ 26 = 26) ∧ (g0 = g0 ∧ [Value.int IntKind.i64 4, Value.int IntKind.u64 lsn, Value.int IntKind.u32 ep, Value.int IntKind.u32 ord, Value.int IntKind.i64 st, Value.bool un, Value.int IntKind.i64 tr, Value.int IntKind.i64 co, Value.int IntKind.u64 mk, Value.slice K kl kc, Value.slice D dl dc] = [Value.int IntKind.i64 4, Value.int IntKind.u64 lsn, Value.int IntKind.u32 ep, Value.int IntKind.u32 ord, Value.int IntKind.i64 st, Value.bool un, Value.int IntKind.i64 tr, Value.int IntKind.i64 co, Value.int IntKind.u64 mk, Value.slice K kl kc, Value.slice D dl dc] ∧ 26 = 26) ∧ Bool.true = Bool.true ∧ g2 = g2 ∧ ∀ (g158 : Nat), Array.size w.heap ≤ g158 → (g2 = g2 ∧ [Value.slice (Option.some (Addr.mk g125 0 Option.none)) 18 g126, Value.bool Bool.false] = [Value.slice (Option.some (Addr.mk g125 0 Option.none)) 18 g126, Value.bool Bool.false] ∧ 83 = 83) ∧ g158 = g158 ∧ g126 = g126 ∧ (g125 = g125 ∧ 18 ≤ g126 ∧ True) ∧ ∀ (g160 g161 : Nat) (x162 : List Go.Value), g160 = g125 ∨ Array.size w.heap ≤ g160 → 19 ≤ g161 → g2 = g2 ∧ (g0 = g0 ∧ [Value.int IntKind.i64 4, Value.int IntKind.u64 lsn, Value.int IntKind.u32 ep, Value.int IntKind.u32 ord, Value.int IntKind.i64 st, Value.bool un, Value.int IntKind.i64 tr, Value.int IntKind.i64 co, Value.int IntKind.u64 mk, Value.slice K kl kc, Value.slice D dl dc] = [Value.int IntKind.i64 4, Value.int IntKind.u64 lsn, Value.int IntKind.u32 ep, Value.int IntKind.u32 ord, Value.int IntKind.i64 st, Value.bool un, Value.int IntKind.i64 tr, Value.int IntKind.i64 co, Value.int IntKind.u64 mk, Value.slice K kl kc, Value.slice D dl dc] ∧ 26 = 26) ∧ (g0 = g0 ∧ [Value.int IntKind.i64 4, Value.int IntKind.u64 lsn, Value.int IntKind.u32 ep, Value.int IntKind.u32 ord, Value.int IntKind.i64 st, Value.bool un, Value.int IntKind.i64 tr, Value.int IntKind.i64 co, Value.int IntKind.u64 mk, Value.slice K kl kc, Value.slice D dl dc] = [Value.int IntKind.i64 4, Value.int IntKind.u64 lsn, Value.int IntKind.u32 ep, Value.int IntKind.u32 ord, Value.int IntKind.i64 st, Value.bool un, Value.int IntKind.i64 tr, Value.int IntKind.i64 co, Value.int IntKind.u64 mk, Value.slice K kl kc, Value.slice D dl dc] ∧ 26 = 26) ∧ (g0 = g0 ∧ [Value.int IntKind.i64 4, Value.int IntKind.u64 lsn, Value.int IntKind.u32 ep, Value.int IntKind.u32 ord, Value.int IntKind.i64 st, Value.bool un, Value.int IntKind.i64 tr, Value.int IntKind.i64 co, Value.int IntKind.u64 mk, Value.slice K kl kc, Value.slice D dl dc] = [Value.int IntKind.i64 4, Value.int IntKind.u64 lsn, Value.int IntKind.u32 ep, Value.int IntKind.u32 ord, Value.int IntKind.i64 st, Value.bool un, Value.int IntKind.i64 tr, Value.int IntKind.i64 co, Value.int IntKind.u64 mk, Value.slice K kl kc, Value.slice D dl dc] ∧ 26 = 26) ∧ Bool.true = Bool.true ∧ g2 = g2 ∧ ∀ (g165 : Nat), Array.size w.heap ≤ g165 → (g2 = g2 ∧ [Value.slice (Option.some (Addr.mk g160 0 Option.none)) 19 g161, Value.bool Bool.false] = [Value.slice (Option.some (Addr.mk g160 0 Option.none)) 19 g161, Value.bool Bool.false] ∧ 83 = 83) ∧ g165 = g165 ∧ g161 = g161 ∧ (g160 = g160 ∧ 19 ≤ g161 ∧ True) ∧ ∀ (g167 g168 : Nat) (x169 : List Go.Value), g167 = g160 ∨ Array.size w.heap ≤ g167 → 20 ≤ g168 → g2 = g2 ∧ (g0 = g0 ∧ [Value.int IntKind.i64 4, Value.int IntKind.u64 lsn, Value.int IntKind.u32 ep, Value.int IntKind.u32 ord, Value.int IntKind.i64 st, Value.bool un, Value.int IntKind.i64 tr, Value.int IntKind.i64 co, Value.int IntKind.u64 mk, Value.slice K kl kc, Value.slice D dl dc] = [Value.int IntKind.i64 4, Value.int IntKind.u64 lsn, Value.int IntKind.u32 ep, Value.int IntKind.u32 ord, Value.int IntKind.i64 st, Value.bool un, Value.int IntKind.i64 tr, Value.int IntKind.i64 co, Value.int IntKind.u64 mk, Value.slice K kl kc, Value.slice D dl dc] ∧ 26 = 26) ∧ (g0 = g0 ∧ [Value.int IntKind.i64 4, Value.int IntKind.u64 lsn, Value.int IntKind.u32 ep, Value.int IntKind.u32 ord, Value.int IntKind.i64 st, Value.bool un, Value.int IntKind.i64 tr, Value.int IntKind.i64 co, Value.int IntKind.u64 mk, Value.slice K kl kc, Value.slice D dl dc] = [Value.int IntKind.i64 4, Value.int IntKind.u64 lsn, Value.int IntKind.u32 ep, Value.int IntKind.u32 ord, Value.int IntKind.i64 st, Value.bool un, Value.int IntKind.i64 tr, Value.int IntKind.i64 co, Value.int IntKind.u64 mk, Value.slice K kl kc, Value.slice D dl dc] ∧ 26 = 26) ∧ (g0 = g0 ∧ [Value.int IntKind.i64 4, Value.int IntKind.u64 lsn, Value.int IntKind.u32 ep, Value.int IntKind.u32 ord, Value.int IntKind.i64 st, Value.bool un, Value.int IntKind.i64 tr, Value.int IntKind.i64 co, Value.int IntKind.u64 mk, Value.slice K kl kc, Value.slice D dl dc] = [Value.int IntKind.i64 4, Value.int IntKind.u64 lsn, Value.int IntKind.u32 ep, Value.int IntKind.u32 ord, Value.int IntKind.i64 st, Value.bool un, Value.int IntKind.i64 tr, Value.int IntKind.i64 co, Value.int IntKind.u64 mk, Value.slice K kl kc, Value.slice D dl dc] ∧ 26 = 26) ∧ Bool.true = Bool.true ∧ g2 = g2 ∧ ∀ (g172 : Nat), Array.size w.heap ≤ g172 → (g2 = g2 ∧ [Value.slice (Option.some (Addr.mk g167 0 Option.none)) 20 g168, Value.bool Bool.false] = [Value.slice (Option.some (Addr.mk g167 0 Option.none)) 20 g168, Value.bool Bool.false] ∧ 83 = 83) ∧ g172 = g172 ∧ g168 = g168 ∧ (g167 = g167 ∧ 20 ≤ g168 ∧ True) ∧ ∀ (g174 g175 : Nat) (x176 : List Go.Value), g174 = g167 ∨ Array.size w.heap ≤ g174 → 21 ≤ g175 → g2 = g2 ∧ (g0 = g0 ∧ [Value.int IntKind.i64 4, Value.int IntKind.u64 lsn, Value.int IntKind.u32 ep, Value.int IntKind.u32 ord, Value.int IntKind.i64 st, Value.bool un, Value.int IntKind.i64 tr, Value.int IntKind.i64 co, Value.int IntKind.u64 mk, Value.slice K kl kc, Value.slice D dl dc] = [Value.int IntKind.i64 4, Value.int IntKind.u64 lsn, Value.int IntKind.u32 ep, Value.int IntKind.u32 ord, Value.int IntKind.i64 st, Value.bool un, Value.int IntKind.i64 tr, Value.int IntKind.i64 co, Value.int IntKind.u64 mk, Value.slice K kl kc, Value.slice D dl dc] ∧ 26 = 26) ∧ (g0 = g0 ∧ [Value.int IntKind.i64 4, Value.int IntKind.u64 lsn, Value.int IntKind.u32 ep, Value.int IntKind.u32 ord, Value.int IntKind.i64 st, Value.bool un, Value.int IntKind.i64 tr, Value.int IntKind.i64 co, Value.int IntKind.u64 mk, Value.slice K kl kc, Value.slice D dl dc] = [Value.int IntKind.i64 4, Value.int IntKind.u64 lsn, Value.int IntKind.u32 ep, Value.int IntKind.u32 ord, Value.int IntKind.i64 st, Value.bool un, Value.int IntKind.i64 tr, Value.int IntKind.i64 co, Value.int IntKind.u64 mk, Value.slice K kl kc, Value.slice D dl dc] ∧ 26 = 26) ∧ (g0 = g0 ∧ [Value.int IntKind.i64 4, Value.int IntKind.u64 lsn, Value.int IntKind.u32 ep, Value.int IntKind.u32 ord, Value.int IntKind.i64 st, Value.bool un, Value.int IntKind.i64 tr, Value.int IntKind.i64 co, Value.int IntKind.u64 mk, Value.slice K kl kc, Value.slice D dl dc] = [Value.int IntKind.i64 4, Value.int IntKind.u64 lsn, Value.int IntKind.u32 ep, Value.int IntKind.u32 ord, Value.int IntKind.i64 st, Value.bool un, Value.int IntKind.i64 tr, Value.int IntKind.i64 co, Value.int IntKind.u64 mk, Value.slice K kl kc, Value.slice D dl dc] ∧ 26 = 26) ∧ g2 = g2 ∧ ∀ (g179 : Nat), Array.size w.heap ≤ g179 → g2 = g2 ∧ g174 = g174 ∧ (g179 = g179 ∧ 0 ≤ 0 ∧ True) ∧ ∀ (g181 g182 : Nat) (x183 : List Go.Value), g181 = g179 ∨ Array.size w.heap ≤ g181 → 21 ≤ g182 → g182 = g182 ∧ (g181 = g181 ∧ 21 ≤ g182) ∧ Done (Q Bool.false [Value.int IntKind.u8 4, Value.int IntKind.u8 (IntKind.wrap IntKind.u8 (Int.fdiv lsn 72057594037927936)), Value.int IntKind.u8 (IntKind.wrap IntKind.u8 (Int.fdiv lsn 281474976710656)), Value.int IntKind.u8 (IntKind.wrap IntKind.u8 (Int.fdiv lsn 1099511627776)), Value.int IntKind.u8 (IntKind.wrap IntKind.u8 (Int.fdiv lsn 4294967296)), Value.int IntKind.u8 (IntKind.wrap IntKind.u8 (Int.fdiv lsn 16777216)), Value.int IntKind.u8 (IntKind.wrap IntKind.u8 (Int.fdiv lsn 65536)), Value.int IntKind.u8 (IntKind.wrap IntKind.u8 (Int.fdiv lsn 256)), Value.int IntKind.u8 (IntKind.wrap IntKind.u8 (Int.fdiv lsn 1)), Value.int IntKind.u8 (IntKind.wrap IntKind.u8 (Int.fdiv (IntKind.wrap IntKind.u64 ep) 16777216)), Value.int IntKind.u8 (IntKind.wrap IntKind.u8 (Int.fdiv (IntKind.wrap IntKind.u64 ep) 65536)), Value.int IntKind.u8 (IntKind.wrap IntKind.u8 (Int.fdiv (IntKind.wrap IntKind.u64 ep) 256)), Value.int IntKind.u8 (IntKind.wrap IntKind.u8 (Int.fdiv (IntKind.wrap IntKind.u64 ep) 1)), Value.int IntKind.u8 (IntKind.wrap IntKind.u8 (Int.fdiv (IntKind.wrap IntKind.u64 ord) 16777216)), Value.int IntKind.u8 (IntKind.wrap IntKind.u8 (Int.fdiv (IntKind.wrap IntKind.u64 ord) 65536)), Value.int IntKind.u8 (IntKind.wrap IntKind.u8 (Int.fdiv (IntKind.wrap IntKind.u64 ord) 256)), Value.int IntKind.u8 (IntKind.wrap IntKind.u8 (Int.fdiv (IntKind.wrap IntKind.u64 ord) 1)), Value.int IntKind.u8 (IntKind.wrap IntKind.u8 (Int.fdiv (IntKind.wrap IntKind.u64 (IntKind.wrap IntKind.u8 st)) 1)), Value.int IntKind.u8 0, Value.int IntKind.u8 (IntKind.wrap IntKind.u8 (Int.fdiv (IntKind.wrap IntKind.u64 (IntKind.wrap IntKind.u8 tr)) 1)), Value.int IntKind.u8 (IntKind.wrap IntKind.u8 (Int.fdiv (IntKind.wrap IntKind.u64 (IntKind.wrap IntKind.u8 co)) 1))] 0)))) = codeVC (⟨TT.plain _, (fun f => Nat.beq f 28 || Nat.beq f 29 || Nat.beq f 31 || Nat.beq f 30 || Nat.beq f 32 || Nat.beq f 34 || Nat.beq f 49 || Nat.beq f 33), noFar, true, noInv, noInv, pvechk, noCV w⟩ : Cfg Try.prog) w 400 (Try.f14.body.getD .skip) ⟨⟨w, []⟩, mkT Try.f14.ntmps [.agg #[.int .i64 4, .int .u64 lsn, .int .u32 ep, .int .u32 ord, .int .i64 st, .bool un, .int .i64 tr, .int .i64 co, .int .u64 mk, .slice K kl kc, .slice D dl dc]] [[[none, none, none, none, none, none, none, none, none, some 1001, some 1001]]], []⟩ (retK Try.prog Try.f14 fun b v s h => newK h (putE 5 h v s fun z l c => Done (Q z l c))) := by
  kernel_rfl

set_option maxHeartbeats 16000000 in
theorem eput4_form (lsn ep ord st : Int) (un : Bool) (tr co mk : Int) (K D : Option Addr) (kc dc : Nat) (ks ds : List Int) (w : World) (BK : BytesAt w (.slice K ks.length kc) ks.length ks) (BD : BytesAt w (.slice D ds.length dc) ds.length ds) (hr : (0 ≤ lsn ∧ lsn ≤ 18446744073709551615) ∧ (0 ≤ ep ∧ ep ≤ 4294967295) ∧ (0 ≤ ord ∧ ord ≤ 4294967295) ∧ (0 ≤ mk ∧ mk ≤ 18446744073709551615)) :
    codeVC (⟨TT.plain _, (fun f => Nat.beq f 28 || Nat.beq f 29 || Nat.beq f 31 || Nat.beq f 30 || Nat.beq f 32 || Nat.beq f 34 || Nat.beq f 49 || Nat.beq f 33), noFar, true, noInv, noInv, pvechk, noCV w⟩ : Cfg Try.prog) w 400 (Try.f14.body.getD .skip) ⟨⟨w, []⟩, mkT Try.f14.ntmps [.agg #[.int .i64 4, .int .u64 lsn, .int .u32 ep, .int .u32 ord, .int .i64 st, .bool un, .int .i64 tr, .int .i64 co, .int .u64 mk, .slice K ks.length kc, .slice D ds.length dc]] [[[none, none, none, none, none, none, none, none, none, some 1001, some 1001]]], []⟩ (retK Try.prog Try.f14 fun b v s h => newK h (putE 5 h v s fun z l c => Done (z = (!(c == 0)) ∧ l = u8s (mEPut 4 lsn ep ord st un tr co mk ks ds).1 ∧ c = (mEPut 4 lsn ep ord st un tr co mk ks ds).2))) := by
  refine (walk_eput4 lsn ep ord st un tr co mk K D ks.length kc ds.length dc w (fun z l c => z = (!(c == 0)) ∧ l = u8s (mEPut 4 lsn ep ord st un tr co mk ks ds).1 ∧ c = (mEPut 4 lsn ep ord st un tr co mk ks ds).2)).mp ?_
  have HR := hr
  obtain ⟨⟨l0, l1⟩, ⟨e0, e1⟩, ⟨o0, o1⟩, ⟨m0, m1⟩⟩ := hr
  have hok : mEOk 4 lsn ep ord st un tr co mk ks.length ds.length = mEOk 4 lsn ep ord st un tr co mk ks.length ds.length := rfl
  by_cases hz : mEOk 4 lsn ep ord st un tr co mk ks.length ds.length = true
  · have hm : mEPut 4 lsn ep ord st un tr co mk ks ds = (be1n 4 ++ (be8n lsn ++ (be4n ep ++ eParts 4 ord st un tr co mk ks ds)), 0) := by unfold mEPut; rw [hz]; rfl
    have hc : mEChk 4 lsn ep ord st un tr co mk ks.length ds.length = 0 := by unfold mEChk; rw [hz]; rfl
    rw [hm]
    try rw [hc]
    clear hm hc hok
    rw [show mEOk 4 lsn ep ord st un tr co mk ks.length ds.length = (decide (1 ≤ lsn ∧ 1 ≤ ep) && decide (1 ≤ ord ∧ 0 ≤ st ∧ st ≤ 15 ∧ 1 ≤ tr ∧ tr ≤ 255 ∧ 1 ≤ co ∧ co ≤ 3 ∧ mk = 0 ∧ ks.length = 0 ∧ ds.length = 0)) from rfl] at hz
    simp only [Bool.and_eq_true, decide_eq_true_eq] at hz
    have we : IntKind.u64.wrap ep = ep := by rw [w64]; omega
    have wo : IntKind.u64.wrap ord = ord := by rw [w64]; omega
    have rl := fun k => rb_eq (n := lsn) l0 (by omega) k
    have re := fun k => rb_eq (n := ep) e0 (by omega) k
    have ro := fun k => rb_eq (n := ord) o0 (by omega) k
    have rm := fun k => rb_eq (n := mk) m0 (by omega) k
    have rk : rb 0 (IntKind.u64.wrap 4) = 4 := by decide
    have r0 : rb 0 0 = 0 := by decide
    have r1 : rb 0 1 = 1 := by decide
    have ws : (0 ≤ st ∧ st ≤ 255) → IntKind.u64.wrap st = st := by intro h; rw [w64]; omega
    have wt : (0 ≤ tr ∧ tr ≤ 255) → IntKind.u64.wrap tr = tr := by intro h; rw [w64]; omega
    have wc : (0 ≤ co ∧ co ≤ 255) → IntKind.u64.wrap co = co := by intro h; rw [w64]; omega
    have ws8 : (0 ≤ st ∧ st ≤ 255) → IntKind.u8.wrap st = st := by intro h; rw [w8]; omega
    have wt8 : (0 ≤ tr ∧ tr ≤ 255) → IntKind.u8.wrap tr = tr := by intro h; rw [w8]; omega
    have wc8 : (0 ≤ co ∧ co ≤ 255) → IntKind.u8.wrap co = co := by intro h; rw [w8]; omega
    have wk8 : ks.length ≤ 255 → IntKind.u8.wrap (ks.length : Int) = ks.length := by intro h; rw [w8]; omega
    have wx8 : ds.length ≤ 255 → IntKind.u8.wrap (ds.length : Int) = ds.length := by intro h; rw [w8]; omega
    have wk : ks.length ≤ 255 → IntKind.u64.wrap (ks.length : Int) = ks.length := by intro h; rw [w64]; omega
    have wx : ds.length ≤ 255 → IntKind.u64.wrap (ds.length : Int) = ds.length := by intro h; rw [w64]; omega
    have mk8 : ks.length ≤ 255 → (ks.length : Int) % 256 = ks.length := by intro h; omega
    have mx8 : ds.length ≤ 255 → (ds.length : Int) % 256 = ds.length := by intro h; omega
    have rs : (0 ≤ st ∧ st ≤ 255) → ∀ k, rb k st = st / (256 ^ k : Nat) % 256 := fun h k => rb_eq (n := st) h.1 (by omega) k
    have rt : (0 ≤ tr ∧ tr ≤ 255) → ∀ k, rb k tr = tr / (256 ^ k : Nat) % 256 := fun h k => rb_eq (n := tr) h.1 (by omega) k
    have rc : (0 ≤ co ∧ co ≤ 255) → ∀ k, rb k co = co / (256 ^ k : Nat) % 256 := fun h k => rb_eq (n := co) h.1 (by omega) k
    replace ws := ws (by omega)
    replace wt := wt (by omega)
    replace ws8 := ws8 (by omega)
    replace wt8 := wt8 (by omega)
    replace rs := rs (by omega)
    replace rt := rt (by omega)
    replace wc := wc (by omega)
    replace wc8 := wc8 (by omega)
    replace rc := rc (by omega)

    repeat' (first | refine And.intro rfl ?_ | refine And.intro HR ?_ | refine And.intro ?_ ?_ | apply br_intro | (refine tkI (by first | rfl | exact sz5) (by simp [u8s]; try omega) ?_) | (refine tkD (by first | rfl | exact sz5) (by simp [u8s]; try omega) ?_) | (refine tkL (by simp [u8s]; try omega) ?_) | (refine ⟨_, BK.far (h := []) rfl, ?_⟩) | (refine ⟨_, BD.far (h := []) rfl, ?_⟩) | (refine ⟨ks, rfl, ?_⟩) | (refine ⟨ds, rfl, ?_⟩) | intro _)
    all_goals try first | rfl | exact trivial | assumption | (simp only [Bool.not_eq_true']; assumption) | (show (_ : Int) ≤ _; decide) | (show (_ : Int) < _; decide) | (show (_ : Nat) ≤ _; omega) | exact all_flat _ | (simp [u8s, flat]; done) | (simp [u8s]; omega)
    all_goals first
      | (refine Done.mk ⟨rfl, ?_, rfl⟩; (try simp only [ws8, wt8, ws, wt, rs, rt, wc8, wc, rc,  we, wo, pb0, pb1, pb2, pb3, pb4, pb5, pb6, pb7]); simp [u8s, ws8, wt8, ws, wt, rs, rt, wc8, wc, rc,  we, wo, re, ro, rl, rm, rk, r0, r1, eParts, be1n, be4n, be8n, *]; done)
      | (exfalso; simp only [str_nil, str_nil2, beq_self_eq_true, Bool.false_eq_true, Bool.true_eq_false, Bool.or_eq_true, Bool.and_eq_true, Bool.or_eq_false_iff, Bool.and_eq_false_iff, decide_eq_true_eq, decide_eq_false_iff_not, Bool.not_eq_true', Bool.not_eq_false', bne_iff_ne, bne_eq_false_iff_eq, beq_iff_eq, beq_eq_false_iff_ne, ne_eq, reduceCtorEq, true_and, and_true, false_and, and_false, false_or, or_false, true_or, or_true, not_true_eq_false, not_false_eq_true, iff_false, iff_true, Bool.not_true, Bool.not_false, Bool.true_and, Bool.and_true, Bool.false_and, Bool.and_false, Bool.or_true, Bool.true_or, Bool.or_false, Bool.false_or] at *; omega)
      | (exfalso; simp [IntKind.wrap, IntKind.bits, IntKind.signed, str_nil, str_nil2] at *; omega)
      | (simp_all; done)
  · have hz' : mEOk 4 lsn ep ord st un tr co mk ks.length ds.length = false := by simpa using hz
    have hm : mEPut 4 lsn ep ord st un tr co mk ks ds = ([], 40) := by unfold mEPut; rw [hz']; rfl
    have hc : mEChk 4 lsn ep ord st un tr co mk ks.length ds.length = 40 := by unfold mEChk; rw [hz']; rfl
    rw [hm]
    try rw [hc]
    clear hm hc hz hok
    rw [show mEOk 4 lsn ep ord st un tr co mk ks.length ds.length = (decide (1 ≤ lsn ∧ 1 ≤ ep) && decide (1 ≤ ord ∧ 0 ≤ st ∧ st ≤ 15 ∧ 1 ≤ tr ∧ tr ≤ 255 ∧ 1 ≤ co ∧ co ≤ 3 ∧ mk = 0 ∧ ks.length = 0 ∧ ds.length = 0)) from rfl] at hz'
    repeat' (first | refine And.intro rfl ?_ | refine And.intro HR ?_ | refine And.intro ?_ ?_ | apply br_intro | (refine tkI (by first | rfl | exact sz5) (by simp [u8s]; try omega) ?_) | (refine tkD (by first | rfl | exact sz5) (by simp [u8s]; try omega) ?_) | (refine tkL (by simp [u8s]; try omega) ?_) | (refine ⟨_, BK.far (h := []) rfl, ?_⟩) | (refine ⟨_, BD.far (h := []) rfl, ?_⟩) | (refine ⟨ks, rfl, ?_⟩) | (refine ⟨ds, rfl, ?_⟩) | intro _)
    all_goals try first | rfl | exact trivial | assumption | exact ⟨rfl, rfl, rfl⟩ | (simp only [Bool.not_eq_true']; assumption) | (show (_ : Int) ≤ _; decide) | (show (_ : Int) < _; decide) | (show (_ : Nat) ≤ _; omega) | exact all_flat _ | (simp [u8s, flat]; done) | (simp [u8s]; omega)
    all_goals first
      | (exfalso; cases un <;> simp only [str_nil, str_nil2, beq_self_eq_true, Bool.false_eq_true, Bool.true_eq_false, Bool.or_eq_true, Bool.and_eq_true, Bool.or_eq_false_iff, Bool.and_eq_false_iff, decide_eq_true_eq, decide_eq_false_iff_not, Bool.not_eq_true', Bool.not_eq_false', bne_iff_ne, bne_eq_false_iff_eq, beq_iff_eq, beq_eq_false_iff_ne, ne_eq, reduceCtorEq, true_and, and_true, false_and, and_false, false_or, or_false, true_or, or_true, not_true_eq_false, not_false_eq_true, iff_false, iff_true, Bool.not_true, Bool.not_false, Bool.true_and, Bool.and_true, Bool.false_and, Bool.and_false, Bool.or_true, Bool.true_or, Bool.or_false, Bool.false_or] at * <;> omega)
      | (exfalso; cases un <;> simp_all [str_nil, str_nil2] <;> omega)

end Go.VX

