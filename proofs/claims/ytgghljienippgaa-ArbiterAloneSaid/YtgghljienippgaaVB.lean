/- The verified walk VX: contracts about bytes that a function is given, and pointers that come out. -/
import Derived.Test.YtgghljienippgaaVY
namespace Go.VX
set_option linter.unusedVariables false
open Go.RowKit (Below)
variable {gh : Gh}

/-- bytes that a function is given: how many, which, and whether these are literal -/
def bytesK (wE : World) (b : Base) (h : List Blk) (x : Value) (s : Sh) (k : Nat → List Int → Bool → Prop) : Prop :=
  newsK wE b h 1 x s fun m vs ly => match ly with
    | true => match numsOf vs with
      | some ns => k m ns true
      | none => False
    | false => ∃ ns : List Int, vs = ns.map (Value.int .u8) ∧ k m ns false

/-- a slice of bytes, and which these are -/
def BytesAt (w : World) (v : Value) (m : Nat) (ns : List Int) : Prop :=
  ∃ A c, v = .slice A m c ∧ ns.length = m ∧ (0 < m → A ≠ none) ∧ ∀ a, A = some a → ∀ j n, ns[j]? = some n → w.cell? (a.add j) = some (.int .u8 n)

theorem bytesK_out {wE w : World} {b : Base} {h : List Blk} {x : Value} {s : Sh} {k : Nat → List Int → Bool → Prop} (H : HC gh wE b h w) (hk : bytesK wE b h x s k) : ∃ m ns y, BytesAt w x m ns ∧ k m ns y := by
  obtain ⟨A, m, c, vs, y, hx, hl, hfl, hA, hc, hk⟩ := newsK_out H hk
  have fin : ∀ ns : List Int, vs = ns.map (Value.int .u8) → BytesAt w x m ns := by
    rintro ns rfl
    refine ⟨A, c, hx, by simpa using hl, hA, fun a ha j n hn => hc a ha j _ ?_⟩
    rw [List.getElem?_map, hn]; rfl
  split at hk
  · split at hk
    · rename_i ns hns
      exact ⟨m, ns, _, fin ns (numsOf_out hns), hk⟩
    · exact hk.elim
  · obtain ⟨ns, hv, hk⟩ := hk
    exact ⟨m, ns, _, fin ns hv, hk⟩

theorem cell_lt {w : World} {a : Addr} {v : Value} (h : w.cell? a = some v) : a.block < w.heap.size := by
  unfold World.cell? at h
  split at h
  · rename_i hg; exact (Array.getElem?_eq_some_iff.1 hg).1
  · cases h

/-- what is asked of bytes of the entry's world -/
theorem BytesAt.far {w : World} {A : Option Addr} {m c : Nat} {ns : List Int} {h : List Blk} (B : BytesAt w (.slice A m c) m ns) (hn : allNewB h = true) :
    (ns.map (Value.int .u8)).length = m * 1 ∧ (ns.map (Value.int .u8)).all flat = true ∧ (0 < m → ∃ a, A = some a ∧ FarE w h a.block ∧ cellsAt w a 0 (ns.map (Value.int .u8))) := by
  obtain ⟨A', c', e, hl, hA, hc⟩ := B
  injection e with e1 e2 e3
  subst e1
  refine ⟨by simpa using hl, by simp [flat], fun hm => ?_⟩
  cases A with
  | none => exact absurd rfl (hA hm)
  | some a =>
    have key : ∀ (l : List Int) (i : Nat), (∀ j n, l[j]? = some n → w.cell? (a.add (i + j)) = some (.int .u8 n)) → cellsAt w a i (l.map (Value.int .u8)) := by
      intro l
      induction l with
      | nil => intro i _; trivial
      | cons x r ih =>
        intro i hl
        refine ⟨hl 0 x rfl, ih (i + 1) fun j n hj => ?_⟩
        have := hl (j + 1) n (by simpa using hj)
        rwa [show i + 1 + j = i + (j + 1) by omega]
    refine ⟨a, rfl, ⟨?_, ?_⟩, key ns 0 fun j n hj => by rw [Nat.zero_add]; exact hc a rfl j n hj⟩
    · obtain ⟨x, hx⟩ : ∃ x, ns[0]? = some x := by
        cases ns with
        | nil => simp at hl; omega
        | cons x r => exact ⟨x, rfl⟩
      have := cell_lt (hc a rfl 0 x hx)
      rwa [blk_add] at this
    · clear hc hA hl key
      induction h with
      | nil => trivial
      | cons d r ih =>
        unfold allNewB at hn
        split at hn
        · rename_i hd
          unfold oldNe
          rw [hd]; exact ih hn
        · cases hn

theorem BytesAt.below {w w' : World} {v : Value} {m : Nat} {ns : List Int} (B : BytesAt w v m ns) (h : Below w.heap.size w w') : BytesAt w' v m ns := by
  obtain ⟨A, c, e, hl, hA, hc⟩ := B
  refine ⟨A, c, e, hl, hA, fun a ha j n hn => ?_⟩
  have hcell := hc a ha j n hn
  have := cell_lt hcell
  rw [← hcell]; unfold World.cell?; rw [h.block _ this]

def sh0 : List Sh → Sh
  | s :: _ => s
  | [] => []
def sh1 : List Sh → Sh
  | _ :: s :: _ => s
  | _ => []

/-- a copy with two of room behind it, marked -/
def addLent (wE : World) (f0 : Nat) (ety : TypeId) (rest : CV) : CV := fun f args sh b h K => match Nat.beq f f0 with
  | true => match args with
    | [x] => bytesK wE b h x (sh0 sh) fun m ns ly => m ≤ 140737488355000 ∧ ∀ g cap r, b.w.heap.size ≤ g → m + 2 ≤ cap →
        snocK h ⟨g, ns.map (Value.int .u8) ++ (Value.int .u8 91 :: Value.int .u8 92 :: r), ety, [], none, true, rowKind ly cap 1⟩ fun h' => K b (.slice (some ⟨g, 0, none⟩) m cap) [[some h.length]] h'
    | _ => False
  | false => rest f args sh b h K

theorem addLent_ok {P : Program} {wE : World} {f0 : Nat} {ety : TypeId} {rest : CV}
    (hc : ∀ x m ns w, BytesAt w x m ns → m ≤ 140737488355000 → Calls P f0 [x].toArray w fun e w' => Below w.heap.size w w' ∧ ∃ g cap r, e = .returned (.slice (some ⟨g, 0, none⟩) m cap) ∧ w.heap.size ≤ g ∧ m + 2 ≤ cap ∧ cap ≤ maxLen ∧
      (ns.map (Value.int .u8) ++ (Value.int .u8 91 :: Value.int .u8 92 :: r)).length = cap ∧ w'.heap[g]? = some (.cells (ns.map (Value.int .u8) ++ (Value.int .u8 91 :: Value.int .u8 92 :: r)).toArray ety (0, 0))) (hr : CVok P wE rest) :
    CVok P wE (addLent wE f0 ety rest) := by
  intro gh f args sh b h K w H hk
  unfold addLent at hk
  split at hk
  · rename_i hf
    obtain rfl := Nat.eq_of_beq_eq_true hf
    split at hk
    · rename_i x
      obtain ⟨m, ns, y, B, hm, hk⟩ := bytesK_out H hk
      refine (hc x m ns w B hm).mono fun e w' ⟨hb, g, cap, r, he, hg, h1, h2, h3, hat⟩ => ?_
      have hk := hk g cap r (Nat.le_trans H.size hg) h1
      rw [snocK_eq] at hk
      exact ⟨_, _, b, _, he, H.addNew (d := ⟨g, ns.map (Value.int .u8) ++ (Value.int .u8 91 :: Value.int .u8 92 :: r), ety, [], none, true, rowKind y cap 1⟩) hb hg rfl (rowOk_kind h2 (by rw [h3, Nat.mul_one])) hat, hk⟩
    · exact hk.elim
  · exact hr f args sh b h K w H hk

/-- a row of the walk's own, and its room -/
def lentE (ety : TypeId) (h : List Blk) (v : Value) (s : Sh) (m : Nat) (p : List Value → Prop) : Prop := match v, hd1 s with
  | .slice (some ⟨g, 0, none⟩) n cap, some i => match h[i]? with
    | some ⟨bg, bc, be, _, none, true, y⟩ => match Nat.beq be ety with
      | true => capK y bc cap 1 ((bg = g ∧ n = m ∧ m + 2 ≤ cap) ∧ p bc)
      | false => False
    | _ => False
  | _, _ => False

theorem lentE_out {wE w : World} {b : Base} {h : List Blk} {ety : TypeId} {v : Value} {s : Sh} {m : Nat} {p : List Value → Prop} (H : HC gh wE b h w) (k : lentE ety h v s m p) :
    ∃ g cap c, v = .slice (some ⟨g, 0, none⟩) m cap ∧ wE.heap.size ≤ g ∧ m + 2 ≤ cap ∧ cap ≤ maxLen ∧ c.length = cap ∧ w.heap[g]? = some (.cells c.toArray ety (0, 0)) ∧ p c := by
  unfold lentE at k
  split at k
  · rename_i g n cap i hh
    split at k
    · rename_i bg bc be bss y hi
      split at k
      · rename_i hb
        obtain rfl := Nat.eq_of_beq_eq_true hb
        have hm := List.mem_of_getElem? hi
        obtain ⟨⟨h1, h2⟩, ⟨rfl, rfl, h3⟩, k2⟩ := capK_out (H.rw _ hm) k
        exact ⟨bg, cap, bc, rfl, H.nw _ hm rfl, h3, h1, by simpa using h2, H.bl _ hm, k2⟩
      · exact k.elim
    · exact k.elim
  · exact k.elim

/-- what was lent is whole -/
def addWhole (wE : World) (f0 : Nat) (rest : CV) : CV := fun f args sh b h K => match Nat.beq f f0 with
  | true => match args with
    | [.slice (some ⟨g, 0, none⟩) n cap, y] => match hd1 (sh0 sh) with
      | some i => match h[i]? with
        | some ⟨bg, bc, _, _, none, _, _⟩ => bytesK wE b h y (sh1 sh) fun m ns _ => (bg = g ∧ n = m ∧ m + 2 ≤ cap ∧ m ≤ 140737488355000 ∧ ∃ r, bc = ns.map (Value.int .u8) ++ (Value.int .u8 91 :: Value.int .u8 92 :: r)) ∧ K b (.bool true) [] h
        | _ => False
      | none => False
    | _ => False
  | false => rest f args sh b h K

theorem addWhole_ok {P : Program} {wE : World} {f0 : Nat} {rest : CV}
    (hc : ∀ g cap y m ns r e w, BytesAt w y m ns → m + 2 ≤ cap → m ≤ 140737488355000 → w.heap[g]? = some (.cells (ns.map (Value.int .u8) ++ (Value.int .u8 91 :: Value.int .u8 92 :: r)).toArray e (0, 0)) →
      Calls P f0 [Value.slice (some ⟨g, 0, none⟩) m cap, y].toArray w fun e w' => e = .returned (.bool true) ∧ Below w.heap.size w w') (hr : CVok P wE rest) :
    CVok P wE (addWhole wE f0 rest) := by
  intro gh f args sh b h K w H hk
  unfold addWhole at hk
  split at hk
  · rename_i hf
    obtain rfl := Nat.eq_of_beq_eq_true hf
    split at hk
    · rename_i g n cap y
      split at hk
      · rename_i i hi0
        split at hk
        · rename_i bg bc be bs bn by_ hi
          obtain ⟨m, ns, l, B, ⟨rfl, rfl, hcap, hm, r, rfl⟩, hk2⟩ := bytesK_out H hk
          exact (hc bg cap y n ns r be w B hcap hm (H.bl _ (List.mem_of_getElem? hi))).mono fun e w' ⟨he, hb⟩ => ⟨_, _, b, h, he, H.step hb, hk2⟩
        · exact hk.elim
      · exact hk.elim
    · exact hk.elim
  · exact hr f args sh b h K w H hk

/-- a number of bytes that a function is given -/
def addBV (wE : World) (f0 : Nat) (sz : Nat → Bool) (val : Nat → List Int → Int) (ok : List Int → Prop) (rest : CV) : CV := fun f args sh b h K => match Nat.beq f f0 with
  | true => match args with
    | [x] => bytesK wE b h x (sh0 sh) fun m ns _ => match sz m with
      | true => ok ns ∧ K b (.int .u64 (val m ns)) [] h
      | false => False
    | _ => False
  | false => rest f args sh b h K

theorem addBV_ok {P : Program} {wE : World} {f0 : Nat} {sz : Nat → Bool} {val : Nat → List Int → Int} {ok : List Int → Prop} {rest : CV}
    (hc : ∀ x m ns w, sz m = true → BytesAt w x m ns → ok ns → Calls P f0 [x].toArray w fun e w' => e = .returned (.int .u64 (val m ns)) ∧ Below w.heap.size w w') (hr : CVok P wE rest) :
    CVok P wE (addBV wE f0 sz val ok rest) := by
  intro gh f args sh b h K w H hk
  unfold addBV at hk
  split at hk
  · rename_i hf
    obtain rfl := Nat.eq_of_beq_eq_true hf
    split at hk
    · rename_i x
      obtain ⟨m, ns, y, B, hk⟩ := bytesK_out H hk
      split at hk
      · rename_i hs
        exact (hc x m ns w hs B hk.1).mono fun e w' ⟨he, hb⟩ => ⟨_, _, b, h, he, H.step hb, hk.2⟩
      · exact hk.elim
    · exact hk.elim
  · exact hr f args sh b h K w H hk

/-- a pointer to something new that is read out of bytes, or nil and an error -/
def addLoad (wE : World) (f0 : Nat) (ty : TypeId) (err : Int) (pre : Value → Nat → List Int → Prop) (ok : List Int → Bool) (cs : List Int → List Value) (rest : CV) : CV := fun f args sh b h K => match Nat.beq f f0 with
  | true => match args with
    | [x] => bytesK wE b h x (sh0 sh) fun m ns _ => pre x m ns ∧ br (ok ns) (∀ g, b.w.heap.size ≤ g → forceL (cs ns) fun c => snocK h ⟨g, c, ty, [], none, true, .lit⟩ fun h' => K b (.tuple #[.pointer (some ⟨g, 0, none⟩), .int .i64 0]) [[some h.length], []] h')
        (K b (.tuple #[.pointer none, .int .i64 err]) [] h)
    | _ => False
  | false => rest f args sh b h K

def LoadAt (w : World) (ty : TypeId) (err : Int) (r : Option (List Value)) (e : Ending) (w' : World) : Prop := match r with
  | none => e = .returned (.tuple #[.pointer none, .int .i64 err])
  | some c => ∃ g, w.heap.size ≤ g ∧ e = .returned (.tuple #[.pointer (some ⟨g, 0, none⟩), .int .i64 0]) ∧ w'.heap[g]? = some (.cells c.toArray ty (0, 0))

theorem addLoad_ok {P : Program} {wE : World} {f0 : Nat} {ty : TypeId} {err : Int} {pre : Value → Nat → List Int → Prop} {ok : List Int → Bool} {cs : List Int → List Value} {rest : CV}
    (hc : ∀ x m ns w, BytesAt w x m ns → pre x m ns → Calls P f0 [x].toArray w fun e w' => Below w.heap.size w w' ∧ LoadAt w ty err (bif ok ns then some (cs ns) else none) e w') (hr : CVok P wE rest) :
    CVok P wE (addLoad wE f0 ty err pre ok cs rest) := by
  intro gh f args sh b h K w H hk
  unfold addLoad at hk
  split at hk
  · rename_i hf
    obtain rfl := Nat.eq_of_beq_eq_true hf
    split at hk
    · rename_i x
      obtain ⟨m, ns, y, B, hp, hk⟩ := bytesK_out H hk
      refine (hc x m ns w B hp).mono fun e w' ⟨hb, hl⟩ => ?_
      cases ho : ok ns with
      | true =>
        rw [ho] at hl
        obtain ⟨g, hg, he, hat⟩ := hl
        have hk := br_true hk ho g (Nat.le_trans H.size hg)
        simp only [forceL_eq, snocK_eq] at hk
        exact ⟨_, _, b, _, he, H.addNew (d := ⟨g, cs ns, ty, [], none, true, .lit⟩) hb hg rfl trivial hat, hk⟩
      | false =>
        rw [ho] at hl
        exact ⟨_, _, b, h, hl, H.step hb, br_false hk ho⟩
    · exact hk.elim
  · exact hr f args sh b h K w H hk

/-- a pointer and an error that come out -/
def loadE (ty : TypeId) (err : Int) (h : List Blk) (v : Value) (s : Sh) (p : Option (List Value) → Prop) : Prop := match v with
  | .tuple c => match c.toList with
    | [.pointer none, .int .i64 e] => e = err ∧ p none
    | [.pointer (some ⟨g, 0, none⟩), .int .i64 e] => match hd1 s with
      | some i => match h[i]? with
        | some ⟨bg, bc, be, _, none, true, _⟩ => (e = 0 ∧ bg = g ∧ be = ty) ∧ p (some bc)
        | _ => False
      | none => False
    | _ => False
  | _ => False

theorem loadE_out {wE w : World} {b : Base} {h : List Blk} {ty : TypeId} {err : Int} {v : Value} {s : Sh} {p : Option (List Value) → Prop} (H : HC gh wE b h w) (k : loadE ty err h v s p) : ∃ r, LoadAt wE ty err r (.returned v) w ∧ p r := by
  unfold loadE at k
  split at k
  · rename_i c
    split at k
    · rename_i e hc
      obtain ⟨rfl, k⟩ := k
      exact ⟨none, by unfold LoadAt; rw [show c = #[.pointer none, .int .i64 e] by rw [← hc]], k⟩
    · rename_i g e hc
      split at k
      · rename_i i hi0
        split at k
        · rename_i bg bc be bs y hi
          obtain ⟨⟨rfl, rfl, rfl⟩, k⟩ := k
          have hm := List.mem_of_getElem? hi
          exact ⟨some bc, ⟨bg, H.nw _ hm rfl, by rw [show c = #[.pointer (some ⟨bg, 0, none⟩), .int .i64 0] by rw [← hc]], H.bl _ hm⟩, k⟩
        · exact k.elim
      · exact k.elim
    · exact k.elim
  · exact k.elim

theorem calls_load {P : Program} {w : World} {G : Cfg P} (hs : CVok P w G.spec) (hpv : PVok P G.pv) (m : Nat) {f : FuncId} {fn : Func} {c : Code} (hf : P.funcs[f]? = some fn) (hb : fn.body = some c)
    {args : List Value} {sh : List Sh} {ty : TypeId} {err : Int} {Q : Option (List Value) → Prop} (hv : codeVC G w m c ⟨⟨w, []⟩, mkT fn.ntmps args sh, []⟩ (retK P fn fun b v s h => newK h (loadE ty err h v s fun r => Done (Q r)))) :
    Calls P f args.toArray w fun e w' => Below w.heap.size w w' ∧ ∃ r, Q r ∧ LoadAt w ty err r e w' :=
  (calls hs hpv m hf hb sh (HC.start w) hv).mono fun e w' ⟨v, s, b', h', he, H, hk⟩ => by
    obtain ⟨hn, hk⟩ := newK_out hk
    obtain ⟨r, hl, hd⟩ := loadE_out H hk
    exact ⟨H.below hn, r, hd.out, by rw [he]; exact hl⟩

theorem HC.start2 {w : World} {g r : Nat} {c d : List Value} {ty e : TypeId} (hg : w.heap[g]? = some (.cells c.toArray ty (0, 0))) (hr : w.heap[r]? = some (.cells d.toArray e (0, 0))) (hne : g ≠ r) (s : List (Option Nat)) :
    HC [] w ⟨w, []⟩ [⟨g, c, ty, s, none, false, .lit⟩, ⟨r, d, e, [], none, false, .sym⟩] w :=
  ⟨rfl, rfl, rfl, Nat.le_refl _, Nat.le_refl _, (fun b hb => by
    rcases List.mem_cons.1 hb with rfl | hb
    · exact hg
    · obtain rfl := List.mem_singleton.1 hb; exact hr), (by simpa using hne), (fun b hb hn => by
    rcases List.mem_cons.1 hb with rfl | hb
    · cases hn
    · obtain rfl := List.mem_singleton.1 hb; cases hn), (fun b hb => by
    rcases List.mem_cons.1 hb with rfl | hb
    · trivial
    · obtain rfl := List.mem_singleton.1 hb; trivial), (fun _ _ _ _ => rfl), (fun _ _ _ => rfl), fun _ h => by cases h⟩

/-- the first block is another one now, the second one is as it was -/
def keep2K (g ty r : Nat) (cs : List Value) (ety : TypeId) (h : List Blk) (p : List Value → Prop) : Prop := match h with
  | ⟨g', c', ty', _, none, false, _⟩ :: ⟨r', cs', e', _, none, false, _⟩ :: t => (g' = g ∧ ty' = ty ∧ r' = r ∧ cs' = cs ∧ e' = ety) ∧ newK t (p c')
  | _ => False

theorem keep2K_out {w w' : World} {b : Base} {g ty r : Nat} {cs : List Value} {ety : TypeId} {h : List Blk} {p : List Value → Prop} (hr : w.heap[r]? = some (.cells cs.toArray ety (0, 0))) (H : HC gh w b h w') (k : keep2K g ty r cs ety h p) : ∃ c, Keep g c ty w w' ∧ p c := by
  unfold keep2K at k
  split at k
  · rename_i g' c' ty' s1 y1 r' cs' e' s2 y2 t
    obtain ⟨⟨rfl, rfl, rfl, rfl, rfl⟩, k⟩ := k
    obtain ⟨hn, k⟩ := newK_out k
    refine ⟨c', ⟨H.os, H.tape, H.output, H.le, H.bl _ List.mem_cons_self, fun i hi hne => ?_⟩, k⟩
    by_cases e : i = r'
    · subst e
      have := H.bl _ (List.mem_cons_of_mem _ List.mem_cons_self)
      rw [hr]; exact this
    · refine H.en i hi fun d hd hdn => ?_
      rcases List.mem_cons.1 hd with rfl | hd
      · exact Ne.symm hne
      · rcases List.mem_cons.1 hd with rfl | hd
        · exact fun h => e h.symm
        · rw [allNewB_out hn d hd] at hdn; cases hdn
  · exact k.elim

/-- a reader reads a number of so many bytes -/
def addNum (f0 : Nat) (ty ety : TypeId) (sz : Nat → Bool) (val : Nat → List Int → Int) (ok : List Int → Prop) (rest : CV) : CV := fun f args sh b h K => match Nat.beq f f0 with
  | true => match args with
    | [.pointer (some ⟨g, 0, none⟩), .int .i64 (.ofNat size)] => match sz size, hd1 (sh0 sh) with
      | true, some i => match h[i]? with
        | some ⟨g', [.slice (some ⟨rg, off, none⟩) m c, .bool s], e, hs, none, n, .lit⟩ => match hs with
          | some j :: _ => match h[j]? with
            | some ⟨bg, bc, be, _, none, _, _⟩ => match Nat.beq j i with
             | true => False
             | false => (g' = g ∧ e = ty ∧ bg = rg ∧ be = ety ∧ m ≤ c) ∧ (match s with
              | true => K b (.int .u64 0) [] h
              | false => br (Nat.blt m size) (setK h i ⟨g', [.slice (some ⟨rg, off, none⟩) m c, .bool true], e, hs, none, n, .lit⟩ fun h => K b (.int .u64 0) [] h)
                (∃ ns : List Int, ((bc.drop off).take size = ns.map (Value.int .u8) ∧ ns.length = size ∧ ok ns) ∧
                    ∀ o, o = (bif Nat.beq c size then off else off + size) → setK h i ⟨g', [.slice (some ⟨rg, o, none⟩) (m - size) (c - size), .bool false], e, hs, none, n, .lit⟩ fun h => K b (.int .u64 (val size ns)) [] h))
            | _ => False
          | _ => False
        | _ => False
      | _, _ => False
    | _ => False
  | false => rest f args sh b h K

theorem addNum_ok {P : Program} {wE : World} {f0 : Nat} {ty ety : TypeId} {sz : Nat → Bool} {val : Nat → List Int → Int} {ok : List Int → Prop} {rest : CV}
    (hc1 : ∀ (size g r off m c : Nat) (cs : List Value) (w : World), sz size = true → m ≤ c → g ≠ r → w.heap[g]? = some (.cells [Value.slice (some ⟨r, off, none⟩) m c, .bool true].toArray ty (0, 0)) → w.heap[r]? = some (.cells cs.toArray ety (0, 0)) →
      Calls P f0 [Value.pointer (some ⟨g, 0, none⟩), .int .i64 (.ofNat size)].toArray w fun e w' => e = .returned (.int .u64 0) ∧ Keep g [.slice (some ⟨r, off, none⟩) m c, .bool true] ty w w')
    (hc2 : ∀ (size g r off m c : Nat) (cs : List Value) (w : World), sz size = true → m < size → m ≤ c → g ≠ r → w.heap[g]? = some (.cells [Value.slice (some ⟨r, off, none⟩) m c, .bool false].toArray ty (0, 0)) → w.heap[r]? = some (.cells cs.toArray ety (0, 0)) →
      Calls P f0 [Value.pointer (some ⟨g, 0, none⟩), .int .i64 (.ofNat size)].toArray w fun e w' => e = .returned (.int .u64 0) ∧ Keep g [.slice (some ⟨r, off, none⟩) m c, .bool true] ty w w')
    (hc3 : ∀ (size g r off m c : Nat) (cs : List Value) (ns : List Int) (w : World), sz size = true → size ≤ m → m ≤ c → g ≠ r → (cs.drop off).take size = ns.map (Value.int .u8) → ns.length = size → ok ns → w.heap[g]? = some (.cells [Value.slice (some ⟨r, off, none⟩) m c, .bool false].toArray ty (0, 0)) →
      w.heap[r]? = some (.cells cs.toArray ety (0, 0)) →
      Calls P f0 [Value.pointer (some ⟨g, 0, none⟩), .int .i64 (.ofNat size)].toArray w fun e w' => e = .returned (.int .u64 (val size ns)) ∧ Keep g [.slice (some ⟨r, (bif Nat.beq c size then off else off + size), none⟩) (m - size) (c - size), .bool false] ty w w')
    (hr : CVok P wE rest) : CVok P wE (addNum f0 ty ety sz val ok rest) := by
  intro gh f args sh b h K w H hk
  unfold addNum at hk
  split at hk
  · rename_i hf
    obtain rfl := Nat.eq_of_beq_eq_true hf
    split at hk
    · rename_i g size
      split at hk
      · rename_i i hsz hi0
        split at hk
        · rename_i g' r off m c s e hs n hi
          split at hk
          · rename_i j hs'
            split at hk
            · rename_i bg bc be bs bn by_ hj
              split at hk
              · exact hk.elim
              rename_i hij
              obtain ⟨⟨rfl, rfl, rfl, rfl, hmc⟩, hk⟩ := hk
              have hne : g' ≠ bg := Ne.symm (nd_ne H.nd hi hj (fun e => by rw [e, show Nat.beq i i = true from Nat.beq_refl i] at hij; cases hij))
              have hg : w.heap[g']? = some (.cells _ e (0, 0)) := H.bl _ (List.mem_of_getElem? hi)
              have hrow : w.heap[bg]? = some (.cells bc.toArray be (0, 0)) := H.bl _ (List.mem_of_getElem? hj)
              cases s with
              | true => exact (hc1 size g' bg off m c bc w hsz hmc hne hg hrow).mono fun en w' ⟨he, hb⟩ => ⟨_, _, b, h, he, by
                  have := H.kept hi hb
                  rwa [set_same hi] at this, hk⟩
              | false =>
                cases hlt : Nat.blt m size with
                | true =>
                  have hk := br_true hk hlt
                  rw [setK_eq] at hk
                  exact (hc2 size g' bg off m c bc w hsz (Nat.le_of_ble_eq_true hlt) hmc hne hg hrow).mono fun en w' ⟨he, hb⟩ => ⟨_, _, b, _, he, H.kept hi hb, hk⟩
                | false =>
                  have hk := br_false hk hlt
                  have hle : size ≤ m := by
                    rcases Nat.lt_or_ge m size with h | h
                    · rw [show Nat.blt m size = true from Nat.ble_eq_true_of_le h] at hlt; cases hlt
                    · exact h
                  obtain ⟨ns, ⟨h1, h2, h3⟩, hk⟩ := hk
                  have hk := hk _ rfl
                  rw [setK_eq] at hk
                  exact (hc3 size g' bg off m c bc ns w hsz hle hmc hne h1 h2 h3 hg hrow).mono fun en w' ⟨he, hb⟩ => ⟨_, _, b, _, he, H.kept hi hb, hk⟩
            · exact hk.elim
          · exact hk.elim
        · exact hk.elim
      · exact hk.elim
    · exact hk.elim
  · exact hr f args sh b h K w H hk
end Go.VX
