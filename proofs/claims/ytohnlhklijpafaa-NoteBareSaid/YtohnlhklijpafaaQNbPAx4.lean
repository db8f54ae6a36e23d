-- printed by a program of this work (wip/tools/pr.py over the kit's print): the machine's side of NoteBack, NoteSizes, NoteApart, NoteNames
import Derived.Test.YtohnlhklijpafaaQNbPAx0
import Derived.Test.YtohnlhklijpafaaQNbPAx1
import Derived.Test.YtohnlhklijpafaaQNbPAx2
import Derived.Test.YtohnlhklijpafaaQNbPAx3
namespace Go.Proofs.Ytohnlhklijpafaa.PA
open Go.RowKit Go.Proofs.YtohnlhklijpafaaW.PrintWords Go.Proofs.YtohnlhklijpafaaW.PrintLast Go.Proofs.YtohnlhklijpafaaW.PrintMore
attribute [local go_sem] max2_int min2_int max_two min_two max_three min_three max_four min_four   -- for this text's walks alone
set_option linter.unusedVariables false
set_option linter.unusedSimpArgs false

-- NOT PRINTED: function 38 (field_NewReader)

-- NOT PRINTED: function 50 (field_Reader_take)

-- NOT PRINTED: function 49 (field_Reader_number)

-- NOT PRINTED: function 39 (field_Reader_U8)

-- NOT PRINTED: function 40 (field_Reader_U32)

-- NOT PRINTED: function 41 (field_Reader_U64)

-- NOT PRINTED: function 42 (field_Reader_Text)

/-- A state of type 86 at block g of W; what its slices lead to came in by w0. -/
def IsS86 (w0 W : World) (g : Nat) (f0 : List Int) (f1 : Bool) : Prop := ∃ A0 c0, W.heap[g]? = some (.cells #[.slice A0 f0.length c0, .bool f1] 86 (0, 0)) ∧ w0.heap.size ≤ g ∧ Kd.C (Kd.int .u8) w0 A0 f0.length f0

/-! ### field_Reader_Done: function 43 -/
def field_Reader_Done.f (s0_0 : List Int) (s0_1 : Bool) : Option (Int × Bool) := if s0_1 = true then (some (10, s0_1)) else (if (s0_0.length : Int) > 0 then (some (11, s0_1)) else (some (0, s0_1)))

/-! ### note_Get: function 22 -/
theorem entry_put {w : World} {g : Nat} {b0 b1 b2 b3 b4 b5 b6 b7 b8 b9 b10 : Value} (v0 v1 v2 v3 v4 v5 v6 v7 v8 v9 v10 : Value) (h : w.heap[g]? = some (.cells #[b0, b1, b2, b3, b4, b5, b6, b7, b8, b9, b10] 26 (0, 0))) :
    ∃ Wf : World, Wf = (((((((((((w.setCell ⟨g, 0, none⟩ v0).setCell ⟨g, 1, none⟩ v1).setCell ⟨g, 2, none⟩ v2).setCell ⟨g, 3, none⟩ v3).setCell ⟨g, 4, none⟩ v4).setCell ⟨g, 5, none⟩ v5).setCell ⟨g, 6, none⟩ v6).setCell ⟨g, 7, none⟩ v7).setCell ⟨g, 8, none⟩ v8).setCell ⟨g, 9, none⟩ v9).setCell ⟨g, 10, none⟩ v10) ∧ Wf.heap[g]? = some (.cells #[v0, v1, v2, v3, v4, v5, v6, v7, v8, v9, v10] 26 (0, 0)) ∧ (∀ r, r ≠ g → Wf.heap[r]? = w.heap[r]?) := by
  refine ⟨_, rfl, ?_, fun r hr => ?_⟩
  · have h0 := blk_put (cs' := #[v0, b1, b2, b3, b4, b5, b6, b7, b8, b9, b10]) h 0 v0 rfl
    have h1 := blk_put (cs' := #[v0, v1, b2, b3, b4, b5, b6, b7, b8, b9, b10]) h0 1 v1 rfl
    have h2 := blk_put (cs' := #[v0, v1, v2, b3, b4, b5, b6, b7, b8, b9, b10]) h1 2 v2 rfl
    have h3 := blk_put (cs' := #[v0, v1, v2, v3, b4, b5, b6, b7, b8, b9, b10]) h2 3 v3 rfl
    have h4 := blk_put (cs' := #[v0, v1, v2, v3, v4, b5, b6, b7, b8, b9, b10]) h3 4 v4 rfl
    have h5 := blk_put (cs' := #[v0, v1, v2, v3, v4, v5, b6, b7, b8, b9, b10]) h4 5 v5 rfl
    have h6 := blk_put (cs' := #[v0, v1, v2, v3, v4, v5, v6, b7, b8, b9, b10]) h5 6 v6 rfl
    have h7 := blk_put (cs' := #[v0, v1, v2, v3, v4, v5, v6, v7, b8, b9, b10]) h6 7 v7 rfl
    have h8 := blk_put (cs' := #[v0, v1, v2, v3, v4, v5, v6, v7, v8, b9, b10]) h7 8 v8 rfl
    have h9 := blk_put (cs' := #[v0, v1, v2, v3, v4, v5, v6, v7, v8, v9, b10]) h8 9 v9 rfl
    have h10 := blk_put (cs' := #[v0, v1, v2, v3, v4, v5, v6, v7, v8, v9, v10]) h9 10 v10 rfl
    exact h10
  · iterate 11 refine (Below.heap_setCell _ _ _ r hr).trans ?_
    rfl

/-- what is read of a note -/
structure NS where
  ep : Int
  ol : Int
  ls : Int
  ti : Int
  o : Int
  st : Int
  un : Bool
  co : Int
  l9 : List Int
  l10 : List Int
  und : Int
  s : RS
def nstep (q : Int) (x : NS) : NS :=
  if q = 69 then { x with ep := rd4 x.s, s := rdN 4 x.s } else if q = 80 then { x with ol := rd4 x.s, s := rdN 4 x.s } else if q = 76 then { x with ls := rd8 x.s, s := rdN 8 x.s } else if q = 84 then { x with ti := rd8 x.s, s := rdN 8 x.s } else if q = 79 then { x with o := rd4 x.s, s := rdN 4 x.s } else if q = 83 then { x with st := rd1 x.s, s := rdN 1 x.s } else if q = 85 then { x with un := (rd1 x.s == 1), und := rd1 x.s, s := rdN 1 x.s } else if q = 67 then { x with co := rd1 x.s, s := rdN 1 x.s } else if q = 75 then { x with l9 := rdT x.s, s := rdN (txN x.s) x.s } else if q = 68 then { x with l10 := rdT x.s, s := rdN (txN x.s) x.s } else x
def nread (names : ByteArray) (s : RS) : Nat → NS
  | 0 => ⟨0, 0, 0, 0, 0, 0, false, 0, [], [], 0, s⟩
  | n + 1 => nstep (letterAt names n) (nread names s n)
def noteX (l : List Int) : NS := nread (nameStr (rd1 (l, false))) (rdN 1 (l, false)) (nameStr (rd1 (l, false))).size
def NERR : Int × Int × Int × Int × Int × Int × Int × Bool × Int × List Int × List Int × Int := (0, 0, 0, 0, 0, 0, 0, false, 0, [], [], 50)
def noteGetK (k : Int) (x : NS) : Int × Int × Int × Int × Int × Int × Int × Bool × Int × List Int × List Int × Int :=
  bif (doneI x.s != 0) then NERR else bif decide (1 < x.und) then NERR else bif noteBad k x.ep x.ol x.ls x.ti x.o x.st x.un x.co x.l9.length x.l10.length then NERR else (k, x.ep, x.ol, x.ls, x.ti, x.o, x.st, x.un, x.co, x.l9, x.l10, 0)
def noteGet (l : List Int) : Int × Int × Int × Int × Int × Int × Int × Bool × Int × List Int × List Int × Int := noteGetK (rd1 (l, false)) (noteX l)
def bytesOk (l : List Int) : Bool := decide (l.length ≤ 1000000) && l.all (fun x => decide (0 ≤ x) && decide (x < 256))
def note_Get.f (l0 : List Int) : Option (Int × Int × Int × Int × Int × Int × Int × Bool × Int × List Int × List Int × Int) := bif bytesOk l0 then some (noteGet l0) else none
theorem bytesOk_so {l : List Int} (h : bytesOk l = true) : l.length ≤ 1000000 ∧ bytesIn l := by
  simp only [bytesOk, Bool.and_eq_true, decide_eq_true_eq, List.all_eq_true] at h
  exact ⟨h.1, fun x hx => h.2 x hx⟩
theorem RDB.step {w0 W W1 : World} {g : Nat} {s : RS} (h : RDB w0 W g s) (hm : ∀ (k : Nat) (cs : Array Value) (t : TypeId), W.heap[k]? = some (Obj.cells cs t (0, 0)) → W1.heap[k]? = W.heap[k]?) : RDB w0 W1 g s := by
  obtain ⟨⟨b, off, cap, h1, h2, h3, cur, h4, h5⟩, h6⟩ := h
  exact ⟨⟨b, off, cap, (hm _ _ _ h1).trans h1, h2, h3, cur, (hm _ _ _ h4).trans h4, h5⟩, h6⟩
/-- a text that was read: its row is none of the blocks that are in use -/
def TXT (w W : World) (a b c d : Nat) (v : Value) (l : List Int) : Prop := Kd.R (Kd.int .u8) 5 W w.heap.size (fun k => k ≠ a ∧ k ≠ b ∧ k ≠ c ∧ k ≠ d) v l
theorem TXT.reads {w W : World} {a b c d n e : Nat} {A : Option Addr} {l : List Int} (h : TXT w W a b c d (.slice A n e) l) : n = l.length ∧ n ≤ e ∧ Kd.C (Kd.int .u8) W A l.length l := Kd.R_reads' h
theorem TXT.nil (w W : World) (a b c d : Nat) : TXT w W a b c d (.slice none 0 0) [] := Kd.R_nil _ _ _ _ _
theorem TXT.keep {w W W1 : World} {a b c d : Nat} {v : Value} {l : List Int} (h : TXT w W a b c d v l) (hO : OB W W1 a) : TXT w W1 a b c d v l := Kd.R_step h (fun k hk hlt => hO.2 k hlt hk.1)
theorem TXT.far {w W : World} {a b c d i : Nat} {v : Value} {l : List Int} (h : TXT w W a b c d v l) (u : Value) : TXT w (W.setCell ⟨b, i, none⟩ u) a b c d v l := Kd.R_far h (fun k hk => hk.2.1) u
theorem TXT.step {w W W1 : World} {a b c d : Nat} {v : Value} {l : List Int} (h : TXT w W a b c d v l) (hk1 : ∀ r, r ≠ d → W1.heap[r]? = W.heap[r]?) : TXT w W1 a b c d v l := Kd.R_step h (fun k hk _ => hk1 k hk.2.2.2)
theorem TXT.new {w W : World} {B a b c d : Nat} {ok : Nat → Prop} {v : Value} {l : List Int} (h : Kd.R (Kd.int .u8) 5 W B ok v l) (hw : w.heap.size ≤ B) (ha : a < B) (hb : b < B) (hc : c < B) (hd : d < B) : TXT w W a b c d v l :=
  Kd.R_lower (Kd.R_mono (Kd.R_bound h) (fun k hk => ⟨by have := hk.2.1; omega, by have := hk.2.1; omega, by have := hk.2.1; omega, by have := hk.2.1; omega⟩)) hw
/-- two texts' rows are apart -/
def APT (u v : Value) : Prop := ∀ k, u.ownBlock = some k → v.ownBlock ≠ some k
theorem APT.symm {u v : Value} (h : APT u v) : APT v u := fun k hv hu => h k hu hv
theorem APT.new {w W0 W : World} {B a b c d : Nat} {ok : Nat → Prop} {u v : Value} {l m : List Int} (h : Kd.R (Kd.int .u8) 5 W B ok v l) (hu : TXT w W0 a b c d u m) (hB : W0.heap.size ≤ B) : APT u v := fun k h1 h2 => by
  have p := (Kd.R_bound hu).1 k h1
  have q := (Kd.R_bound h).1 k h2
  have := p.2.2.1
  have := q.2.1
  omega
theorem APT.nil (v : Value) : APT (.slice none 0 0) v := fun k h => absurd h (by simp [Value.ownBlock])
theorem TXT.apart {w W : World} {a b c d : Nat} {u v : Value} {l : List Int} (h : TXT w W a b c d u l) (ha : APT u v) : Kd.R (Kd.int .u8) 5 W w.heap.size (fun k_ => k_ ≠ c ∧ some k_ ≠ v.ownBlock) u l := by
  refine ⟨fun k e => ⟨(h.1 k e).2.2.1, fun e2 => ha k e e2.symm⟩, h.2.imp_ (fun _ _ hp => hp)⟩
set_option maxHeartbeats 60000000 in
set_option maxRecDepth 100000 in
theorem note_get_any (A : Option Addr) (c : Nat) (l0 : List Int) (K : Int) (s1 : RS) (r1 r2 r3 r4 r5 r6 r7 : Int) (r8 : Bool) (r9 : Int) (r10 r11 : List Int) (r12 : Int) (w : World) (hr : Kd.C (Kd.int .u8) w A l0.length l0) (hl : l0.length ≤ 1000000) (hb0 : bytesIn l0) (hk : rd1 ((l0, false) : RS) = K) (e1 : rdN 1 ((l0, false) : RS) = s1) (h : noteGetK K (nread (nameStr K) s1 (nameStr K).size) = (r1, r2, r3, r4, r5, r6, r7, r8, r9, r10, r11, r12)) : Calls Try.prog 22 #[.slice A l0.length c] w fun e w' => ∃ v9_ v10_ : Value, e = .returned (.tuple #[.agg #[.int .i64 r1, .int .u32 r2, .int .u32 r3, .int .u64 r4, .int .u64 r5, .int .u32 r6, .int .i64 r7, .bool r8, .int .i64 r9, v9_, v10_], .int .i64 r12]) ∧ Kd.R (Kd.int .u8) 5 w' w.heap.size (fun k_ => some k_ ≠ (v10_ : Value).ownBlock) v9_ r10 ∧ Kd.R (Kd.int .u8) 5 w' w.heap.size (fun k_ => some k_ ≠ (v9_ : Value).ownBlock) v10_ r11 ∧ Below w.heap.size w w' := by
  have f_k : wrap64 K = K := by have := rd1_range (l0, false); rw [hk] at this; unfold wrap64; omega
  have f2_k : IntKind.i64.wrap K = K := (i64_w K).trans f_k
  have Hk := Aside0.mk hk
  have E1 := Aside0.mk e1
  have HF := Aside0.mk h
  clear hk e1 h
  have GR := Aside0.mk hr
  have GL := Aside0.mk hl
  have GY := Aside0.mk hb0
  clear hr hl hb0
  have HN := Aside0.mk (names_str K)
  go_enter Try.func22, Try.ntmps22
  go_wp2_with (first | (go_at_call 38; (with_reducible refine (fieldNewR.calls A c l0 w _ (Kd.C_alloc GR.out _) GL.out (below_alloc (Below.refl _ _) _)).mono ?_); rintro e w1 ⟨g, rfl, hRD, hB, hB2, hg⟩; have HR := Aside0.mk (show RDB w w1 g ((l0, false) : RS) from ⟨hRD, GL.out, GY.out⟩); have BR := Aside0.mk (blk_below (heap_last _ _) hB2); have HG := Aside0.mk (show w.heap.size ≠ g by simp at hg; omega); have HB := Aside0.mk hB; clear hRD hB hB2 hg) | (go_at_call 39; (with_reducible refine (field_R8 g ((l0, false) : RS) w _ (HR.out) (HB.out)).mono ?_); rintro e w2 ⟨rfl, hR, hBB, hO⟩; rw [Hk.out]; rw [E1.out] at hR; have n_BR := Aside0.mk (OB.keep hO (BR.out) HG.out); have n_HR := Aside0.mk hR; have n_HB := Aside0.mk hBB; clear hR hBB hO HR HB BR; have HR := n_HR; have HB := n_HB; have BR := n_BR; clear n_HR n_HB n_BR) | (go_at_call 18; (with_reducible refine (note_Names.calls 9 K _ _ HN.out).mono ?_); rintro e wn ⟨rfl, ⟨nd, rfl⟩⟩))
  have HGE0 := Aside0.mk (show g < w2.heap.size from RDB.lt HR.out)
  have HRE := Aside0.mk (show w.heap.size < w2.heap.size from blk_lt BR.out)
  have n_HR := Aside0.mk (show RDB w (((w2.alloc (.cells #[.int .i64 K, .int .u32 0, .int .u32 0, .int .u64 0, .int .u64 0, .int .u32 0, .int .i64 0, .bool false, .int .i64 0, .slice none 0 0, .slice none 0 0] 26)).drewN nd).iter (nameStr K) 0) g s1 from RDB.alloc (RDB.drewN (RDB.alloc HR.out (.cells #[.int .i64 K, .int .u32 0, .int .u32 0, .int .u64 0, .int .u64 0, .int .u32 0, .int .i64 0, .bool false, .int .i64 0, .slice none 0 0, .slice none 0 0] 26 (0, 0))) nd) (.stringIter (nameStr K) 0))
  have n_BR := Aside0.mk (show (((w2.alloc (.cells #[.int .i64 K, .int .u32 0, .int .u32 0, .int .u64 0, .int .u64 0, .int .u32 0, .int .i64 0, .bool false, .int .i64 0, .slice none 0 0, .slice none 0 0] 26)).drewN nd).iter (nameStr K) 0).heap[w.heap.size]? = some (.cells #[.int .i64 0, .int .u32 0, .int .u32 0, .int .u64 0, .int .u64 0, .int .u32 0, .int .i64 0, .bool false, .int .i64 0, .slice none 0 0, .slice none 0 0] 26 (0, 0)) from bd3 (.stringIter (nameStr K) 0) (bd1 nd (bd3 (.cells #[.int .i64 K, .int .u32 0, .int .u32 0, .int .u64 0, .int .u64 0, .int .u32 0, .int .i64 0, .bool false, .int .i64 0, .slice none 0 0, .slice none 0 0] 26 (0, 0)) BR.out)))
  have n_BE := Aside0.mk (show (((w2.alloc (.cells #[.int .i64 K, .int .u32 0, .int .u32 0, .int .u64 0, .int .u64 0, .int .u32 0, .int .i64 0, .bool false, .int .i64 0, .slice none 0 0, .slice none 0 0] 26)).drewN nd).iter (nameStr K) 0).heap[w2.heap.size]? = some (.cells #[.int .i64 K, .int .u32 0, .int .u32 0, .int .u64 0, .int .u64 0, .int .u32 0, .int .i64 0, .bool false, .int .i64 0, .slice none 0 0, .slice none 0 0] 26 (0, 0)) from bd3 (.stringIter (nameStr K) 0) (bd1 nd (heap_last w2 (.cells #[.int .i64 K, .int .u32 0, .int .u32 0, .int .u64 0, .int .u64 0, .int .u32 0, .int .i64 0, .bool false, .int .i64 0, .slice none 0 0, .slice none 0 0] 26 (0, 0)))))
  have n_HI := Aside0.mk (show (((w2.alloc (.cells #[.int .i64 K, .int .u32 0, .int .u32 0, .int .u64 0, .int .u64 0, .int .u32 0, .int .i64 0, .bool false, .int .i64 0, .slice none 0 0, .slice none 0 0] 26)).drewN nd).iter (nameStr K) 0).heap[w2.heap.size + 1]? = some (.stringIter (nameStr K) 0) from heap_last' (by simp) _)
  have n_HB := Aside0.mk (show Below w.heap.size w (((w2.alloc (.cells #[.int .i64 K, .int .u32 0, .int .u32 0, .int .u64 0, .int .u64 0, .int .u32 0, .int .i64 0, .bool false, .int .i64 0, .slice none 0 0, .slice none 0 0] 26)).drewN nd).iter (nameStr K) 0) from below_alloc (pw_below_drewN (below_alloc HB.out (.cells #[.int .i64 K, .int .u32 0, .int .u32 0, .int .u64 0, .int .u64 0, .int .u32 0, .int .i64 0, .bool false, .int .i64 0, .slice none 0 0, .slice none 0 0] 26 (0, 0))) nd) (.stringIter (nameStr K) 0))
  clear HR BR HB Hk E1
  generalize (((w2.alloc (.cells #[.int .i64 K, .int .u32 0, .int .u32 0, .int .u64 0, .int .u64 0, .int .u32 0, .int .i64 0, .bool false, .int .i64 0, .slice none 0 0, .slice none 0 0] 26)).drewN nd).iter (nameStr K) 0) = wl at n_HR n_BR n_BE n_HI n_HB ⊢
  generalize w2.heap.size = ge at n_BE n_HI HGE0 HRE ⊢
  go_loopw [6, 8] (fun v6 v8 w' => ∃ (pos : Nat) (X : NS) (A9 : Option Addr) (c9 : Nat) (A10 : Option Addr) (c10 : Nat), v6 = .int .u8 X.und ∧ Aside0 (pos ≤ (nameStr K).size) ∧ Aside0 (X = nread (nameStr K) s1 pos) ∧ Aside0 (RDB w w' g X.s) ∧ Aside0 (w'.heap[w.heap.size]? = some (.cells #[.int .i64 0, .int .u32 0, .int .u32 0, .int .u64 0, .int .u64 0, .int .u32 0, .int .i64 0, .bool false, .int .i64 0, .slice none 0 0, .slice none 0 0] 26 (0, 0))) ∧ Aside0 (w'.heap[ge]? = some (.cells #[.int .i64 K, .int .u32 X.ep, .int .u32 X.ol, .int .u64 X.ls, .int .u64 X.ti, .int .u32 X.o, .int .i64 X.st, .bool X.un, .int .i64 X.co, .slice A9 X.l9.length c9, .slice A10 X.l10.length c10] 26 (0, 0))) ∧ Aside0 (w'.heap[ge + 1]? = some (.stringIter (nameStr K) pos)) ∧ Aside0 (TXT w w' g ge w.heap.size (ge + 1) (.slice A9 X.l9.length c9) X.l9) ∧ Aside0 (TXT w w' g ge w.heap.size (ge + 1) (.slice A10 X.l10.length c10) X.l10) ∧ Aside0 (APT (.slice A9 X.l9.length c9) (.slice A10 X.l10.length c10)) ∧ Aside0 (Below w.heap.size w w')) (fun _ _ w' => (nameStr K).size - w'.iterPos (ge + 1))
  case atStart => exact ⟨0, ⟨0, 0, 0, 0, 0, 0, false, 0, [], [], 0, s1⟩, none, 0, none, 0, rfl, ⟨Nat.zero_le _⟩, ⟨rfl⟩, n_HR, n_BR, n_BE, n_HI, ⟨TXT.nil _ _ _ _ _ _⟩, ⟨TXT.nil _ _ _ _ _ _⟩, ⟨APT.nil _⟩, n_HB⟩
  case round =>
    clear n_HR n_BR n_BE n_HI n_HB
    obtain ⟨pos, X, A9, c9, A10, c10, rfl, HP, HX, HR, BR, BE, HI, V9, V10, HA, HB⟩ := hrel
    rename World => wr
    have hpos := iterPos_of HI.out
    by_cases hp : pos < (nameStr K).size
    · obtain ⟨W1, e1_, hi1, hs1, hk1⟩ := put_iter (q := pos + 1) HI.out
      have ha := names_ascii K pos hp
      have hq : letterAt (nameStr K) pos = ((((nameStr K)[pos]'hp).toNat : Nat) : Int) := letterAt_is hp
      have hnx : ∀ ty, (Instr.next (.pointer (some ⟨ge + 1, 0, none⟩)) true ty).run Try.prog wr = .ok (.tuple #[.bool true, .int .i64 pos, .int .i32 ((nameStr K)[pos]'hp).toNat]) W1 := fun ty => e1_ ▸ next_more ty HI.out hp ha
      rw [← hq] at hnx
      generalize hq2 : letterAt (nameStr K) pos = q at hnx
      clear hq ha
      have HX1 : Aside0 (nread (nameStr K) s1 (pos + 1) = nstep q X) := ⟨by rw [HX.out, ← hq2]; rfl⟩
      clear hq2
      have HB1 : Aside0 (Below w.heap.size w W1) := ⟨e1_ ▸ below_iter HB.out (by have := HRE.out; omega)⟩
      clear e1_
      have hcell : ∀ (k : Nat) (cs : Array Value) (t : TypeId), wr.heap[k]? = some (Obj.cells cs t (0, 0)) → W1.heap[k]? = wr.heap[k]? := fun k cs t hc => hk1 k (fun e => by rw [e, HI.out] at hc; injection hc with hc; injection hc)
      have HR1 := Aside0.mk (RDB.step HR.out hcell)
      have BR1 := Aside0.mk ((hcell _ _ _ BR.out).trans BR.out)
      have BE1 := Aside0.mk ((hcell _ _ _ BE.out).trans BE.out)
      have HI1 := Aside0.mk hi1
      have V91 := Aside0.mk (TXT.step V9.out hk1)
      have V101 := Aside0.mk (TXT.step V10.out hk1)
      have HEG := Aside0.mk (show ge ≠ g by have := HGE0.out; omega)
      have HRE2 := Aside0.mk (show w.heap.size ≠ ge by have := HRE.out; omega)
      have HIG := Aside0.mk (show ge + 1 ≠ g by have := HGE0.out; omega)
      have HIE := Aside0.mk (show ge + 1 ≠ ge by omega)
      have HLE := Aside0.mk (blk_lt HI1.out)
      clear hi1 hs1 hk1 hcell HX HR BR BE HI V9 V10 HB
      obtain ⟨q0, q1, q2, q3, q4, q5, q6, q7, q8, q9, q10, qf, ql⟩ := note_all BE1.out
      by_cases h69 : q = 69
      · subst h69
        go_wp2_with (first | (go_at_call 40; (with_reducible refine (field_R32 g X.s w _ HR1.out HB1.out).mono ?_); rintro e w6 ⟨rfl, hR, hBB, hO⟩; have n_BR := Aside0.mk (OB.keep hO BR1.out HG.out); have n_BE := Aside0.mk (OB.keep hO BE1.out HEG.out); have n_HI := Aside0.mk (OB.keep hO HI1.out HIG.out); have n_HR := Aside0.mk hR; have n_HB := Aside0.mk hBB; have n_V9 := Aside0.mk (TXT.keep V91.out hO); have n_V10 := Aside0.mk (TXT.keep V101.out hO); clear hR hBB hO BR1 BE1 HI1 HR1 HB1 V91 V101 q0 q1 q2 q3 q4 q5 q6 q7 q8 q9 q10 qf ql; obtain ⟨q0, q1, q2, q3, q4, q5, q6, q7, q8, q9, q10, qf, ql⟩ := note_all n_BE.out))
        go_roundw
        case rel =>
          exact ⟨pos + 1, nstep 69 X, A9, c9, A10, c10, rfl, ⟨by omega⟩, ⟨HX1.out.symm⟩, ⟨RDB.set (i := 1) n_HR.out n_BE.out (.int .u32 (rd4 X.s))⟩, ⟨blk_far (p := ⟨ge, 1, none⟩) n_BR.out HRE2.out (.int .u32 (rd4 X.s))⟩, ⟨blk_put n_BE.out 1 (.int .u32 (rd4 X.s)) rfl⟩, ⟨(Below.heap_setCell _ _ _ _ HIE.out).trans n_HI.out⟩, ⟨TXT.far n_V9.out _⟩, ⟨TXT.far n_V10.out _⟩, HA, ⟨below_set n_HB.out (by have := HRE.out; show w.heap.size ≤ ge; omega)⟩⟩
        case measure =>
          have a1 := iterPos_of ((Below.heap_setCell w6 ⟨ge, 1, none⟩ (.int .u32 (rd4 X.s)) (ge + 1) HIE.out).trans n_HI.out)
          omega
      have b69 : (q == 69) = false := beq_eq_false_iff_ne.mpr h69
      by_cases h80 : q = 80
      · subst h80
        go_wp2_with (first | (go_at_call 40; (with_reducible refine (field_R32 g X.s w _ HR1.out HB1.out).mono ?_); rintro e w6 ⟨rfl, hR, hBB, hO⟩; have n_BR := Aside0.mk (OB.keep hO BR1.out HG.out); have n_BE := Aside0.mk (OB.keep hO BE1.out HEG.out); have n_HI := Aside0.mk (OB.keep hO HI1.out HIG.out); have n_HR := Aside0.mk hR; have n_HB := Aside0.mk hBB; have n_V9 := Aside0.mk (TXT.keep V91.out hO); have n_V10 := Aside0.mk (TXT.keep V101.out hO); clear hR hBB hO BR1 BE1 HI1 HR1 HB1 V91 V101 q0 q1 q2 q3 q4 q5 q6 q7 q8 q9 q10 qf ql; obtain ⟨q0, q1, q2, q3, q4, q5, q6, q7, q8, q9, q10, qf, ql⟩ := note_all n_BE.out))
        go_roundw
        case rel =>
          exact ⟨pos + 1, nstep 80 X, A9, c9, A10, c10, rfl, ⟨by omega⟩, ⟨HX1.out.symm⟩, ⟨RDB.set (i := 2) n_HR.out n_BE.out (.int .u32 (rd4 X.s))⟩, ⟨blk_far (p := ⟨ge, 2, none⟩) n_BR.out HRE2.out (.int .u32 (rd4 X.s))⟩, ⟨blk_put n_BE.out 2 (.int .u32 (rd4 X.s)) rfl⟩, ⟨(Below.heap_setCell _ _ _ _ HIE.out).trans n_HI.out⟩, ⟨TXT.far n_V9.out _⟩, ⟨TXT.far n_V10.out _⟩, HA, ⟨below_set n_HB.out (by have := HRE.out; show w.heap.size ≤ ge; omega)⟩⟩
        case measure =>
          have a1 := iterPos_of ((Below.heap_setCell w6 ⟨ge, 2, none⟩ (.int .u32 (rd4 X.s)) (ge + 1) HIE.out).trans n_HI.out)
          omega
      have b80 : (q == 80) = false := beq_eq_false_iff_ne.mpr h80
      by_cases h76 : q = 76
      · subst h76
        go_wp2_with (first | (go_at_call 41; (with_reducible refine (field_R64 g X.s w _ HR1.out HB1.out).mono ?_); rintro e w6 ⟨rfl, hR, hBB, hO⟩; have n_BR := Aside0.mk (OB.keep hO BR1.out HG.out); have n_BE := Aside0.mk (OB.keep hO BE1.out HEG.out); have n_HI := Aside0.mk (OB.keep hO HI1.out HIG.out); have n_HR := Aside0.mk hR; have n_HB := Aside0.mk hBB; have n_V9 := Aside0.mk (TXT.keep V91.out hO); have n_V10 := Aside0.mk (TXT.keep V101.out hO); clear hR hBB hO BR1 BE1 HI1 HR1 HB1 V91 V101 q0 q1 q2 q3 q4 q5 q6 q7 q8 q9 q10 qf ql; obtain ⟨q0, q1, q2, q3, q4, q5, q6, q7, q8, q9, q10, qf, ql⟩ := note_all n_BE.out))
        go_roundw
        case rel =>
          exact ⟨pos + 1, nstep 76 X, A9, c9, A10, c10, rfl, ⟨by omega⟩, ⟨HX1.out.symm⟩, ⟨RDB.set (i := 3) n_HR.out n_BE.out (.int .u64 (rd8 X.s))⟩, ⟨blk_far (p := ⟨ge, 3, none⟩) n_BR.out HRE2.out (.int .u64 (rd8 X.s))⟩, ⟨blk_put n_BE.out 3 (.int .u64 (rd8 X.s)) rfl⟩, ⟨(Below.heap_setCell _ _ _ _ HIE.out).trans n_HI.out⟩, ⟨TXT.far n_V9.out _⟩, ⟨TXT.far n_V10.out _⟩, HA, ⟨below_set n_HB.out (by have := HRE.out; show w.heap.size ≤ ge; omega)⟩⟩
        case measure =>
          have a1 := iterPos_of ((Below.heap_setCell w6 ⟨ge, 3, none⟩ (.int .u64 (rd8 X.s)) (ge + 1) HIE.out).trans n_HI.out)
          omega
      have b76 : (q == 76) = false := beq_eq_false_iff_ne.mpr h76
      by_cases h84 : q = 84
      · subst h84
        go_wp2_with (first | (go_at_call 41; (with_reducible refine (field_R64 g X.s w _ HR1.out HB1.out).mono ?_); rintro e w6 ⟨rfl, hR, hBB, hO⟩; have n_BR := Aside0.mk (OB.keep hO BR1.out HG.out); have n_BE := Aside0.mk (OB.keep hO BE1.out HEG.out); have n_HI := Aside0.mk (OB.keep hO HI1.out HIG.out); have n_HR := Aside0.mk hR; have n_HB := Aside0.mk hBB; have n_V9 := Aside0.mk (TXT.keep V91.out hO); have n_V10 := Aside0.mk (TXT.keep V101.out hO); clear hR hBB hO BR1 BE1 HI1 HR1 HB1 V91 V101 q0 q1 q2 q3 q4 q5 q6 q7 q8 q9 q10 qf ql; obtain ⟨q0, q1, q2, q3, q4, q5, q6, q7, q8, q9, q10, qf, ql⟩ := note_all n_BE.out))
        go_roundw
        case rel =>
          exact ⟨pos + 1, nstep 84 X, A9, c9, A10, c10, rfl, ⟨by omega⟩, ⟨HX1.out.symm⟩, ⟨RDB.set (i := 4) n_HR.out n_BE.out (.int .u64 (rd8 X.s))⟩, ⟨blk_far (p := ⟨ge, 4, none⟩) n_BR.out HRE2.out (.int .u64 (rd8 X.s))⟩, ⟨blk_put n_BE.out 4 (.int .u64 (rd8 X.s)) rfl⟩, ⟨(Below.heap_setCell _ _ _ _ HIE.out).trans n_HI.out⟩, ⟨TXT.far n_V9.out _⟩, ⟨TXT.far n_V10.out _⟩, HA, ⟨below_set n_HB.out (by have := HRE.out; show w.heap.size ≤ ge; omega)⟩⟩
        case measure =>
          have a1 := iterPos_of ((Below.heap_setCell w6 ⟨ge, 4, none⟩ (.int .u64 (rd8 X.s)) (ge + 1) HIE.out).trans n_HI.out)
          omega
      have b84 : (q == 84) = false := beq_eq_false_iff_ne.mpr h84
      by_cases h79 : q = 79
      · subst h79
        go_wp2_with (first | (go_at_call 40; (with_reducible refine (field_R32 g X.s w _ HR1.out HB1.out).mono ?_); rintro e w6 ⟨rfl, hR, hBB, hO⟩; have n_BR := Aside0.mk (OB.keep hO BR1.out HG.out); have n_BE := Aside0.mk (OB.keep hO BE1.out HEG.out); have n_HI := Aside0.mk (OB.keep hO HI1.out HIG.out); have n_HR := Aside0.mk hR; have n_HB := Aside0.mk hBB; have n_V9 := Aside0.mk (TXT.keep V91.out hO); have n_V10 := Aside0.mk (TXT.keep V101.out hO); clear hR hBB hO BR1 BE1 HI1 HR1 HB1 V91 V101 q0 q1 q2 q3 q4 q5 q6 q7 q8 q9 q10 qf ql; obtain ⟨q0, q1, q2, q3, q4, q5, q6, q7, q8, q9, q10, qf, ql⟩ := note_all n_BE.out))
        go_roundw
        case rel =>
          exact ⟨pos + 1, nstep 79 X, A9, c9, A10, c10, rfl, ⟨by omega⟩, ⟨HX1.out.symm⟩, ⟨RDB.set (i := 5) n_HR.out n_BE.out (.int .u32 (rd4 X.s))⟩, ⟨blk_far (p := ⟨ge, 5, none⟩) n_BR.out HRE2.out (.int .u32 (rd4 X.s))⟩, ⟨blk_put n_BE.out 5 (.int .u32 (rd4 X.s)) rfl⟩, ⟨(Below.heap_setCell _ _ _ _ HIE.out).trans n_HI.out⟩, ⟨TXT.far n_V9.out _⟩, ⟨TXT.far n_V10.out _⟩, HA, ⟨below_set n_HB.out (by have := HRE.out; show w.heap.size ≤ ge; omega)⟩⟩
        case measure =>
          have a1 := iterPos_of ((Below.heap_setCell w6 ⟨ge, 5, none⟩ (.int .u32 (rd4 X.s)) (ge + 1) HIE.out).trans n_HI.out)
          omega
      have b79 : (q == 79) = false := beq_eq_false_iff_ne.mpr h79
      by_cases h83 : q = 83
      · subst h83
        have f_1 : wrap64 (rd1 X.s) = rd1 X.s := by have := rd1_range X.s; unfold wrap64; omega
        have f_2 : IntKind.i64.wrap (rd1 X.s) = rd1 X.s := (i64_w _).trans f_1
        go_wp2_with (first | (go_at_call 39; (with_reducible refine (field_R8 g X.s w _ HR1.out HB1.out).mono ?_); rintro e w6 ⟨rfl, hR, hBB, hO⟩; have n_BR := Aside0.mk (OB.keep hO BR1.out HG.out); have n_BE := Aside0.mk (OB.keep hO BE1.out HEG.out); have n_HI := Aside0.mk (OB.keep hO HI1.out HIG.out); have n_HR := Aside0.mk hR; have n_HB := Aside0.mk hBB; have n_V9 := Aside0.mk (TXT.keep V91.out hO); have n_V10 := Aside0.mk (TXT.keep V101.out hO); clear hR hBB hO BR1 BE1 HI1 HR1 HB1 V91 V101 q0 q1 q2 q3 q4 q5 q6 q7 q8 q9 q10 qf ql; obtain ⟨q0, q1, q2, q3, q4, q5, q6, q7, q8, q9, q10, qf, ql⟩ := note_all n_BE.out))
        go_roundw
        case rel =>
          exact ⟨pos + 1, nstep 83 X, A9, c9, A10, c10, rfl, ⟨by omega⟩, ⟨HX1.out.symm⟩, ⟨RDB.set (i := 6) n_HR.out n_BE.out (.int .i64 (rd1 X.s))⟩, ⟨blk_far (p := ⟨ge, 6, none⟩) n_BR.out HRE2.out (.int .i64 (rd1 X.s))⟩, ⟨blk_put n_BE.out 6 (.int .i64 (rd1 X.s)) rfl⟩, ⟨(Below.heap_setCell _ _ _ _ HIE.out).trans n_HI.out⟩, ⟨TXT.far n_V9.out _⟩, ⟨TXT.far n_V10.out _⟩, HA, ⟨below_set n_HB.out (by have := HRE.out; show w.heap.size ≤ ge; omega)⟩⟩
        case measure =>
          have a1 := iterPos_of ((Below.heap_setCell w6 ⟨ge, 6, none⟩ (.int .i64 (rd1 X.s)) (ge + 1) HIE.out).trans n_HI.out)
          omega
      have b83 : (q == 83) = false := beq_eq_false_iff_ne.mpr h83
      by_cases h85 : q = 85
      · subst h85
        have f_1 : wrap64 (rd1 X.s) = rd1 X.s := by have := rd1_range X.s; unfold wrap64; omega
        have f_2 : IntKind.i64.wrap (rd1 X.s) = rd1 X.s := (i64_w _).trans f_1
        go_wp2_with (first | (go_at_call 39; (with_reducible refine (field_R8 g X.s w _ HR1.out HB1.out).mono ?_); rintro e w6 ⟨rfl, hR, hBB, hO⟩; have n_BR := Aside0.mk (OB.keep hO BR1.out HG.out); have n_BE := Aside0.mk (OB.keep hO BE1.out HEG.out); have n_HI := Aside0.mk (OB.keep hO HI1.out HIG.out); have n_HR := Aside0.mk hR; have n_HB := Aside0.mk hBB; have n_V9 := Aside0.mk (TXT.keep V91.out hO); have n_V10 := Aside0.mk (TXT.keep V101.out hO); clear hR hBB hO BR1 BE1 HI1 HR1 HB1 V91 V101 q0 q1 q2 q3 q4 q5 q6 q7 q8 q9 q10 qf ql; obtain ⟨q0, q1, q2, q3, q4, q5, q6, q7, q8, q9, q10, qf, ql⟩ := note_all n_BE.out))
        go_roundw
        case rel =>
          exact ⟨pos + 1, nstep 85 X, A9, c9, A10, c10, rfl, ⟨by omega⟩, ⟨HX1.out.symm⟩, ⟨RDB.set (i := 7) n_HR.out n_BE.out (.bool (rd1 X.s == 1))⟩, ⟨blk_far (p := ⟨ge, 7, none⟩) n_BR.out HRE2.out (.bool (rd1 X.s == 1))⟩, ⟨blk_put n_BE.out 7 (.bool (rd1 X.s == 1)) rfl⟩, ⟨(Below.heap_setCell _ _ _ _ HIE.out).trans n_HI.out⟩, ⟨TXT.far n_V9.out _⟩, ⟨TXT.far n_V10.out _⟩, HA, ⟨below_set n_HB.out (by have := HRE.out; show w.heap.size ≤ ge; omega)⟩⟩
        case measure =>
          have a1 := iterPos_of ((Below.heap_setCell w6 ⟨ge, 7, none⟩ (.bool (rd1 X.s == 1)) (ge + 1) HIE.out).trans n_HI.out)
          omega
      have b85 : (q == 85) = false := beq_eq_false_iff_ne.mpr h85
      by_cases h67 : q = 67
      · subst h67
        have f_1 : wrap64 (rd1 X.s) = rd1 X.s := by have := rd1_range X.s; unfold wrap64; omega
        have f_2 : IntKind.i64.wrap (rd1 X.s) = rd1 X.s := (i64_w _).trans f_1
        go_wp2_with (first | (go_at_call 39; (with_reducible refine (field_R8 g X.s w _ HR1.out HB1.out).mono ?_); rintro e w6 ⟨rfl, hR, hBB, hO⟩; have n_BR := Aside0.mk (OB.keep hO BR1.out HG.out); have n_BE := Aside0.mk (OB.keep hO BE1.out HEG.out); have n_HI := Aside0.mk (OB.keep hO HI1.out HIG.out); have n_HR := Aside0.mk hR; have n_HB := Aside0.mk hBB; have n_V9 := Aside0.mk (TXT.keep V91.out hO); have n_V10 := Aside0.mk (TXT.keep V101.out hO); clear hR hBB hO BR1 BE1 HI1 HR1 HB1 V91 V101 q0 q1 q2 q3 q4 q5 q6 q7 q8 q9 q10 qf ql; obtain ⟨q0, q1, q2, q3, q4, q5, q6, q7, q8, q9, q10, qf, ql⟩ := note_all n_BE.out))
        go_roundw
        case rel =>
          exact ⟨pos + 1, nstep 67 X, A9, c9, A10, c10, rfl, ⟨by omega⟩, ⟨HX1.out.symm⟩, ⟨RDB.set (i := 8) n_HR.out n_BE.out (.int .i64 (rd1 X.s))⟩, ⟨blk_far (p := ⟨ge, 8, none⟩) n_BR.out HRE2.out (.int .i64 (rd1 X.s))⟩, ⟨blk_put n_BE.out 8 (.int .i64 (rd1 X.s)) rfl⟩, ⟨(Below.heap_setCell _ _ _ _ HIE.out).trans n_HI.out⟩, ⟨TXT.far n_V9.out _⟩, ⟨TXT.far n_V10.out _⟩, HA, ⟨below_set n_HB.out (by have := HRE.out; show w.heap.size ≤ ge; omega)⟩⟩
        case measure =>
          have a1 := iterPos_of ((Below.heap_setCell w6 ⟨ge, 8, none⟩ (.int .i64 (rd1 X.s)) (ge + 1) HIE.out).trans n_HI.out)
          omega
      have b67 : (q == 67) = false := beq_eq_false_iff_ne.mpr h67
      by_cases h75 : q = 75
      · subst h75
        go_wp2_with (first | (go_at_call 42; (with_reducible refine (field_RText g X.s w _ HR1.out HB1.out).mono ?_); rintro e w6 ⟨v_, rfl, hV, hR, hBB, hO⟩; obtain ⟨Av, cv, ev_⟩ := Kd.R_slice hV; subst ev_; have n_VN := Aside0.mk (show TXT w w6 g ge w.heap.size (ge + 1) (.slice Av (rdT X.s).length cv) (rdT X.s) from TXT.new hV HB1.out.size (by have := HGE0.out; have := HLE.out; omega) (by have := HLE.out; omega) (by have := HRE.out; have := HLE.out; omega) HLE.out); have n_AP := Aside0.mk (APT.new hV V101.out (Nat.le_refl _)); have n_BR := Aside0.mk (OB.keep hO BR1.out HG.out); have n_BE := Aside0.mk (OB.keep hO BE1.out HEG.out); have n_HI := Aside0.mk (OB.keep hO HI1.out HIG.out); have n_HR := Aside0.mk hR; have n_HB := Aside0.mk hBB; have n_V9 := Aside0.mk (TXT.keep V91.out hO); have n_V10 := Aside0.mk (TXT.keep V101.out hO); clear hV; clear hR hBB hO BR1 BE1 HI1 HR1 HB1 V91 V101 q0 q1 q2 q3 q4 q5 q6 q7 q8 q9 q10 qf ql; obtain ⟨q0, q1, q2, q3, q4, q5, q6, q7, q8, q9, q10, qf, ql⟩ := note_all n_BE.out))
        go_roundw
        case rel =>
          exact ⟨pos + 1, nstep 75 X, Av, cv, A10, c10, rfl, ⟨by omega⟩, ⟨HX1.out.symm⟩, ⟨RDB.set (i := 9) n_HR.out n_BE.out (.slice Av (rdT X.s).length cv)⟩, ⟨blk_far (p := ⟨ge, 9, none⟩) n_BR.out HRE2.out (.slice Av (rdT X.s).length cv)⟩, ⟨blk_put n_BE.out 9 (.slice Av (rdT X.s).length cv) rfl⟩, ⟨(Below.heap_setCell _ _ _ _ HIE.out).trans n_HI.out⟩, ⟨TXT.far n_VN.out _⟩, ⟨TXT.far n_V10.out _⟩, ⟨APT.symm n_AP.out⟩, ⟨below_set n_HB.out (by have := HRE.out; show w.heap.size ≤ ge; omega)⟩⟩
        case measure =>
          have a1 := iterPos_of ((Below.heap_setCell w6 ⟨ge, 9, none⟩ (.slice Av (rdT X.s).length cv) (ge + 1) HIE.out).trans n_HI.out)
          omega
      have b75 : (q == 75) = false := beq_eq_false_iff_ne.mpr h75
      by_cases h68 : q = 68
      · subst h68
        go_wp2_with (first | (go_at_call 42; (with_reducible refine (field_RText g X.s w _ HR1.out HB1.out).mono ?_); rintro e w6 ⟨v_, rfl, hV, hR, hBB, hO⟩; obtain ⟨Av, cv, ev_⟩ := Kd.R_slice hV; subst ev_; have n_VN := Aside0.mk (show TXT w w6 g ge w.heap.size (ge + 1) (.slice Av (rdT X.s).length cv) (rdT X.s) from TXT.new hV HB1.out.size (by have := HGE0.out; have := HLE.out; omega) (by have := HLE.out; omega) (by have := HRE.out; have := HLE.out; omega) HLE.out); have n_AP := Aside0.mk (APT.new hV V91.out (Nat.le_refl _)); have n_BR := Aside0.mk (OB.keep hO BR1.out HG.out); have n_BE := Aside0.mk (OB.keep hO BE1.out HEG.out); have n_HI := Aside0.mk (OB.keep hO HI1.out HIG.out); have n_HR := Aside0.mk hR; have n_HB := Aside0.mk hBB; have n_V9 := Aside0.mk (TXT.keep V91.out hO); have n_V10 := Aside0.mk (TXT.keep V101.out hO); clear hV; clear hR hBB hO BR1 BE1 HI1 HR1 HB1 V91 V101 q0 q1 q2 q3 q4 q5 q6 q7 q8 q9 q10 qf ql; obtain ⟨q0, q1, q2, q3, q4, q5, q6, q7, q8, q9, q10, qf, ql⟩ := note_all n_BE.out))
        go_roundw
        case rel =>
          exact ⟨pos + 1, nstep 68 X, A9, c9, Av, cv, rfl, ⟨by omega⟩, ⟨HX1.out.symm⟩, ⟨RDB.set (i := 10) n_HR.out n_BE.out (.slice Av (rdT X.s).length cv)⟩, ⟨blk_far (p := ⟨ge, 10, none⟩) n_BR.out HRE2.out (.slice Av (rdT X.s).length cv)⟩, ⟨blk_put n_BE.out 10 (.slice Av (rdT X.s).length cv) rfl⟩, ⟨(Below.heap_setCell _ _ _ _ HIE.out).trans n_HI.out⟩, ⟨TXT.far n_V9.out _⟩, ⟨TXT.far n_VN.out _⟩, n_AP, ⟨below_set n_HB.out (by have := HRE.out; show w.heap.size ≤ ge; omega)⟩⟩
        case measure =>
          have a1 := iterPos_of ((Below.heap_setCell w6 ⟨ge, 10, none⟩ (.slice Av (rdT X.s).length cv) (ge + 1) HIE.out).trans n_HI.out)
          omega
      have b68 : (q == 68) = false := beq_eq_false_iff_ne.mpr h68
      have hn0 : nstep q X = X := by simp [nstep, h69, h80, h76, h84, h79, h83, h85, h67, h75, h68]
      rw [hn0] at HX1
      go_wp2
      go_roundw
      case rel => exact ⟨pos + 1, X, A9, c9, A10, c10, rfl, ⟨by omega⟩, ⟨HX1.out.symm⟩, HR1, BR1, BE1, HI1, V91, V101, HA, HB1⟩
      case measure =>
        have a1 := iterPos_of HI1.out
        omega
    · have hnx : ∀ ty, (Instr.next (.pointer (some ⟨ge + 1, 0, none⟩)) true ty).run Try.prog wr = .ok (.tuple #[.bool false]) wr := fun ty => next_none ty HI.out hp
      have hp3 : pos = (nameStr K).size := by have := HP.out; omega
      clear hpos
      subst hp3
      have HRE2 := Aside0.mk (show w.heap.size ≠ ge by have := HRE.out; omega)
      have HF2 := HF.out
      rw [← HX.out] at HF2
      clear HF HX
      unfold noteGetK at HF2
      obtain ⟨q0, q1, q2, q3, q4, q5, q6, q7, q8, q9, q10, qf, ql⟩ := note_all BE.out
      obtain ⟨z0, z1, z2, z3, z4, z5, z6, z7, z8, z9, z10, zf, zl⟩ := note_all BR.out
      cases hd : (doneI X.s != 0) with
      | true =>
        rw [hd] at HF2
        simp only [cond_true] at HF2
        simp only [NERR, Prod.mk.injEq] at HF2
        obtain ⟨rfl, rfl, rfl, rfl, rfl, rfl, rfl, rfl, rfl, rfl, rfl, rfl⟩ := HF2
        go_wp2_with (first | (go_at_call 43; (with_reducible refine (field_RD g X.s w _ HR.out).mono ?_); rintro e wd ⟨rfl, ⟨ndd, rfl⟩⟩))
        refine bodyPost_ret ?_ rfl ⟨.slice none 0 0, .slice none 0 0, rfl, Kd.R_nil _ _ _ _ _, Kd.R_nil _ _ _ _ _, ?_⟩
        · obtain ⟨Wf, eW, h1, h2⟩ := entry_put (.int .i64 0) (.int .u32 0) (.int .u32 0) (.int .u64 0) (.int .u64 0) (.int .u32 0) (.int .i64 0) (.bool false) (.int .i64 0) (.slice none 0 0) (.slice none 0 0) (bd1 ndd BR.out)
          rw [← eW]
          obtain ⟨c0, c1, c2, c3, c4, c5, c6, c7, c8, c9, c10, cf, cl⟩ := note_all h1
          clear eW h2 h1 cf cl
          simp [results, Try.results22, go_sem, c0, c1, c2, c3, c4, c5, c6, c7, c8, c9, c10]
        · iterate 11 refine below_set ?_ (Nat.le_refl _)
          exact pw_below_drewN HB.out ndd
      | false =>
        rw [hd] at HF2
        simp only [cond_false] at HF2
        cases hu : decide (1 < X.und) with
        | true =>
          rw [hu] at HF2
          simp only [cond_true] at HF2
          simp only [NERR, Prod.mk.injEq] at HF2
          obtain ⟨rfl, rfl, rfl, rfl, rfl, rfl, rfl, rfl, rfl, rfl, rfl, rfl⟩ := HF2
          go_wp2_with (first | (go_at_call 43; (with_reducible refine (field_RD g X.s w _ HR.out).mono ?_); rintro e wd ⟨rfl, ⟨ndd, rfl⟩⟩))
          refine bodyPost_ret ?_ rfl ⟨.slice none 0 0, .slice none 0 0, rfl, Kd.R_nil _ _ _ _ _, Kd.R_nil _ _ _ _ _, ?_⟩
          · obtain ⟨Wf, eW, h1, h2⟩ := entry_put (.int .i64 0) (.int .u32 0) (.int .u32 0) (.int .u64 0) (.int .u64 0) (.int .u32 0) (.int .i64 0) (.bool false) (.int .i64 0) (.slice none 0 0) (.slice none 0 0) (bd1 ndd BR.out)
            rw [← eW]
            obtain ⟨c0, c1, c2, c3, c4, c5, c6, c7, c8, c9, c10, cf, cl⟩ := note_all h1
            clear eW h2 h1 cf cl
            simp [results, Try.results22, go_sem, c0, c1, c2, c3, c4, c5, c6, c7, c8, c9, c10]
          · iterate 11 refine below_set ?_ (Nat.le_refl _)
            exact pw_below_drewN HB.out ndd
        | false =>
          rw [hu] at HF2
          simp only [cond_false] at HF2
          cases hn : noteBad K X.ep X.ol X.ls X.ti X.o X.st X.un X.co X.l9.length X.l10.length with
          | true =>
            rw [hn] at HF2
            simp only [cond_true] at HF2
            simp only [NERR, Prod.mk.injEq] at HF2
            obtain ⟨rfl, rfl, rfl, rfl, rfl, rfl, rfl, rfl, rfl, rfl, rfl, rfl⟩ := HF2
            have HOK := Aside0.mk (show note_Check.f K X.ep X.ol X.ls X.ti X.o X.st X.un X.co X.l9 X.l10 = some 50 by unfold note_Check.f; rw [hn]; rfl)
            clear hn
            go_wp2_with (first | (go_at_call 43; (with_reducible refine (field_RD g X.s w _ HR.out).mono ?_); rintro e wd ⟨rfl, ⟨ndd, rfl⟩⟩) | (go_at_call 14; (with_reducible refine (note_Check.calls K X.ep X.ol X.ls X.ti X.o X.st X.un X.co A9 c9 X.l9 A10 c10 X.l10 50 _ (Kd.C_drewN (TXT.reads V9.out).2.2 _) (TXT.reads V9.out).2.1 (Kd.C_drewN (TXT.reads V10.out).2.2 _) (TXT.reads V10.out).2.1 HOK.out).mono ?_); rintro e wc ⟨rfl, hb⟩; have n_BE := Aside0.mk (blk_below (bd1 ndd BE.out) hb); have n_BR := Aside0.mk (blk_below (bd1 ndd BR.out) hb); have n_HB := Aside0.mk (below_step (pw_below_drewN HB.out ndd) hb); have n_V9 := Aside0.mk (show TXT w wc g ge w.heap.size (ge + 1) _ X.l9 from Kd.R_below (Kd.R_drewN V9.out ndd) hb); have n_V10 := Aside0.mk (show TXT w wc g ge w.heap.size (ge + 1) _ X.l10 from Kd.R_below (Kd.R_drewN V10.out ndd) hb); clear BE BR HB V9 V10 hb; have BE := n_BE; have BR := n_BR; have HB := n_HB; have V9 := n_V9; have V10 := n_V10; clear n_BE n_BR n_HB n_V9 n_V10; clear q0 q1 q2 q3 q4 q5 q6 q7 q8 q9 q10 qf ql z0 z1 z2 z3 z4 z5 z6 z7 z8 z9 z10 zf zl; obtain ⟨q0, q1, q2, q3, q4, q5, q6, q7, q8, q9, q10, qf, ql⟩ := note_all BE.out; obtain ⟨z0, z1, z2, z3, z4, z5, z6, z7, z8, z9, z10, zf, zl⟩ := note_all BR.out))
            refine bodyPost_ret ?_ rfl ⟨.slice none 0 0, .slice none 0 0, rfl, Kd.R_nil _ _ _ _ _, Kd.R_nil _ _ _ _ _, ?_⟩
            · obtain ⟨Wf, eW, h1, h2⟩ := entry_put (.int .i64 0) (.int .u32 0) (.int .u32 0) (.int .u64 0) (.int .u64 0) (.int .u32 0) (.int .i64 0) (.bool false) (.int .i64 0) (.slice none 0 0) (.slice none 0 0) BR.out
              rw [← eW]
              obtain ⟨c0, c1, c2, c3, c4, c5, c6, c7, c8, c9, c10, cf, cl⟩ := note_all h1
              clear eW h2 h1 cf cl
              simp [results, Try.results22, go_sem, c0, c1, c2, c3, c4, c5, c6, c7, c8, c9, c10]
            · iterate 11 refine below_set ?_ (Nat.le_refl _)
              exact HB.out
          | false =>
            rw [hn] at HF2
            simp only [cond_false, Prod.mk.injEq] at HF2
            obtain ⟨rfl, rfl, rfl, rfl, rfl, rfl, rfl, rfl, rfl, rfl, rfl, rfl⟩ := HF2
            have HOK := Aside0.mk (show note_Check.f K X.ep X.ol X.ls X.ti X.o X.st X.un X.co X.l9 X.l10 = some 0 by unfold note_Check.f; rw [hn]; rfl)
            clear hn
            have hre := HRE2.out
            go_wp2_with (first | (go_at_call 43; (with_reducible refine (field_RD g X.s w _ HR.out).mono ?_); rintro e wd ⟨rfl, ⟨ndd, rfl⟩⟩) | (go_at_call 14; (with_reducible refine (note_Check.calls K X.ep X.ol X.ls X.ti X.o X.st X.un X.co A9 c9 X.l9 A10 c10 X.l10 0 _ (Kd.C_drewN (TXT.reads V9.out).2.2 _) (TXT.reads V9.out).2.1 (Kd.C_drewN (TXT.reads V10.out).2.2 _) (TXT.reads V10.out).2.1 HOK.out).mono ?_); rintro e wc ⟨rfl, hb⟩; have n_BE := Aside0.mk (blk_below (bd1 ndd BE.out) hb); have n_BR := Aside0.mk (blk_below (bd1 ndd BR.out) hb); have n_HB := Aside0.mk (below_step (pw_below_drewN HB.out ndd) hb); have n_V9 := Aside0.mk (show TXT w wc g ge w.heap.size (ge + 1) _ X.l9 from Kd.R_below (Kd.R_drewN V9.out ndd) hb); have n_V10 := Aside0.mk (show TXT w wc g ge w.heap.size (ge + 1) _ X.l10 from Kd.R_below (Kd.R_drewN V10.out ndd) hb); clear BE BR HB V9 V10 hb; have BE := n_BE; have BR := n_BR; have HB := n_HB; have V9 := n_V9; have V10 := n_V10; clear n_BE n_BR n_HB n_V9 n_V10; clear q0 q1 q2 q3 q4 q5 q6 q7 q8 q9 q10 qf ql z0 z1 z2 z3 z4 z5 z6 z7 z8 z9 z10 zf zl; obtain ⟨q0, q1, q2, q3, q4, q5, q6, q7, q8, q9, q10, qf, ql⟩ := note_all BE.out; obtain ⟨z0, z1, z2, z3, z4, z5, z6, z7, z8, z9, z10, zf, zl⟩ := note_all BR.out))
            refine bodyPost_ret ?_ rfl ⟨.slice A9 X.l9.length c9, .slice A10 X.l10.length c10, rfl, ?_, ?_, ?_⟩
            · obtain ⟨Wf, eW, h1, h2⟩ := entry_put (.int .i64 K) (.int .u32 X.ep) (.int .u32 X.ol) (.int .u64 X.ls) (.int .u64 X.ti) (.int .u32 X.o) (.int .i64 X.st) (.bool X.un) (.int .i64 X.co) (.slice A9 X.l9.length c9) (.slice A10 X.l10.length c10) BR.out
              rw [← eW]
              obtain ⟨c0, c1, c2, c3, c4, c5, c6, c7, c8, c9, c10, cf, cl⟩ := note_all h1
              clear eW h2 h1 cf cl
              simp [results, Try.results22, go_sem, c0, c1, c2, c3, c4, c5, c6, c7, c8, c9, c10]
            · have X9 := TXT.apart V9.out (show APT (.slice A9 X.l9.length c9) (.slice A10 X.l10.length c10) from HA.out)
              refine Kd.R_mono (ok := fun k_ => k_ ≠ w.heap.size ∧ some k_ ≠ (Value.slice A10 X.l10.length c10).ownBlock) ?_ (fun k hk => hk.2)
              iterate 11 refine Kd.R_far ?_ (fun k_ hk => hk.1) _
              exact X9
            · have X9 := TXT.apart V10.out (show APT (.slice A10 X.l10.length c10) (.slice A9 X.l9.length c9) from HA.out.symm)
              refine Kd.R_mono (ok := fun k_ => k_ ≠ w.heap.size ∧ some k_ ≠ (Value.slice A9 X.l9.length c9).ownBlock) ?_ (fun k hk => hk.2)
              iterate 11 refine Kd.R_far ?_ (fun k_ hk => hk.1) _
              exact X9
            · iterate 11 refine below_set ?_ (Nat.le_refl _)
              exact HB.out
theorem note_Get.calls (A0 : Option Addr) (c0 : Nat) (l0 : List Int) (r1 : Int) (r2 : Int) (r3 : Int) (r4 : Int) (r5 : Int) (r6 : Int) (r7 : Int) (r8 : Bool) (r9 : Int) (r10 : List Int) (r11 : List Int) (r12 : Int) (w : World) (hr0 : Kd.C (Kd.int .u8) w A0 l0.length l0) (hc0 : l0.length ≤ c0) (h : note_Get.f l0 = some (r1, r2, r3, r4, r5, r6, r7, r8, r9, r10, r11, r12)) :
    Calls Try.prog 22 #[.slice A0 l0.length c0] w fun e w' => ∃ v9_ v10_ : Value, e = .returned (.tuple #[.agg #[.int .i64 r1, .int .u32 r2, .int .u32 r3, .int .u64 r4, .int .u64 r5, .int .u32 r6, .int .i64 r7, .bool r8, .int .i64 r9, v9_, v10_], .int .i64 r12]) ∧ Kd.R (Kd.int .u8) 5 w' w.heap.size (fun k_ => some k_ ≠ (v10_ : Value).ownBlock) v9_ r10 ∧ Kd.R (Kd.int .u8) 5 w' w.heap.size (fun k_ => some k_ ≠ (v9_ : Value).ownBlock) v10_ r11 ∧ Below w.heap.size w w' := by
  unfold note_Get.f at h
  cases hb : bytesOk l0 with
  | false => rw [hb] at h; exact absurd h (by simp)
  | true =>
    rw [hb] at h
    obtain ⟨h1, h2⟩ := bytesOk_so hb
    exact note_get_any A0 c0 l0 _ _ r1 r2 r3 r4 r5 r6 r7 r8 r9 r10 r11 r12 w hr0 h1 h2 rfl rfl (Option.some.inj h)

/-! ### drayagelaw05_known: function 11 -/
def drayagelaw05_known.f (k : Nat)  : Option (Bool) := (note_Put.f 2 2 0 258 0 0 0 false 0 ([] : List Int) ([] : List Int)).bind fun bt114 => ((note_Put.f 12 0 0 0 0 0 0 false 0 (([97, 98] : List Int)) ([] : List Int)).bind fun bt121 => ((note_Get.f bt121.1).bind fun bt125 => (if bt114.2 = 0 then (if (strOfNums bt114.1).toList = ([2, 0, 0, 0, 2, 0, 0, 0, 0, 0, 0, 1, 2] : List UInt8) then (if bt121.2 = 0 then (if (strOfNums bt121.1).toList = ([12, 2, 97, 98] : List UInt8) then (if bt125.2.2.2.2.2.2.2.2.2.2.2 = 0 then (if bt125.1 = 12 then (if (strOfNums bt125.2.2.2.2.2.2.2.2.2.1).toList = ([97, 98] : List UInt8) then ((note_Names.f k 8).bind fun t142 => (if t142.toList = ([69, 79, 83, 85, 67, 68] : List UInt8) then ((note_Check.f 0 0 0 0 0 0 0 false 0 ([] : List Int) ([] : List Int)).bind fun t143 => (some (t143 == 50))) else (none))) else (none)) else (none)) else (none)) else (none)) else (none)) else (none)) else (none))))
theorem drayagelaw05_known.mono : ∀ k, LeO (drayagelaw05_known.f k ) (drayagelaw05_known.f (k + 1) ) := by
  intro  k
  unfold drayagelaw05_known.f
  repeat' first
      | (with_reducible exact note_Names.mono _ _)
      | (with_reducible exact LeO.refl _)
      | (with_reducible exact LeO.none _)
      | (with_reducible refine LeO.ite ?_ ?_)
      | (with_reducible refine LeO.bind ?_ (fun _ => ?_))
      | exact note_Names.mono _ _
      | exact LeO.none _
      | refine LeO.ite ?_ ?_
      | refine LeO.bind ?_ (fun _ => ?_)
set_option maxHeartbeats 8000000 in
set_option maxRecDepth 100000 in
theorem drayagelaw05_known.calls (k : Nat)  (r : Bool) (w : World) (h : drayagelaw05_known.f k  = some r) :
    Calls Try.prog 11 #[] w fun e w' => e = .returned (.bool r) ∧ Below w.heap.size w w' := by
  have hu26 := Try.underlying26
  have HB := Aside0.mk (Below.refl w.heap.size w)
  have H : ((note_Put.f 2 2 0 258 0 0 0 false 0 ([] : List Int) ([] : List Int)).bind fun bt114 => ((note_Put.f 12 0 0 0 0 0 0 false 0 (([97, 98] : List Int)) ([] : List Int)).bind fun bt121 => ((note_Get.f bt121.1).bind fun bt125 => (if bt114.2 = 0 then (if (strOfNums bt114.1).toList = ([2, 0, 0, 0, 2, 0, 0, 0, 0, 0, 0, 1, 2] : List UInt8) then (if bt121.2 = 0 then (if (strOfNums bt121.1).toList = ([12, 2, 97, 98] : List UInt8) then (if bt125.2.2.2.2.2.2.2.2.2.2.2 = 0 then (if bt125.1 = 12 then (if (strOfNums bt125.2.2.2.2.2.2.2.2.2.1).toList = ([97, 98] : List UInt8) then ((note_Names.f k 8).bind fun t142 => (if t142.toList = ([69, 79, 83, 85, 67, 68] : List UInt8) then ((note_Check.f 0 0 0 0 0 0 0 false 0 ([] : List Int) ([] : List Int)).bind fun t143 => (some (t143 == 50))) else (none))) else (none)) else (none)) else (none)) else (none)) else (none)) else (none)) else (none))))) = some r := h
  clear h
  replace H := Option.bind_eq_some_iff.mp H
  obtain ⟨⟨t114, t117⟩, A10, H⟩ := H
  replace H : ((note_Put.f 12 0 0 0 0 0 0 false 0 (([97, 98] : List Int)) ([] : List Int)).bind fun bt121 => ((note_Get.f bt121.1).bind fun bt125 => (if t117 = 0 then (if (strOfNums t114).toList = ([2, 0, 0, 0, 2, 0, 0, 0, 0, 0, 0, 1, 2] : List UInt8) then (if bt121.2 = 0 then (if (strOfNums bt121.1).toList = ([12, 2, 97, 98] : List UInt8) then (if bt125.2.2.2.2.2.2.2.2.2.2.2 = 0 then (if bt125.1 = 12 then (if (strOfNums bt125.2.2.2.2.2.2.2.2.2.1).toList = ([97, 98] : List UInt8) then ((note_Names.f k 8).bind fun t142 => (if t142.toList = ([69, 79, 83, 85, 67, 68] : List UInt8) then ((note_Check.f 0 0 0 0 0 0 0 false 0 ([] : List Int) ([] : List Int)).bind fun t143 => (some (t143 == 50))) else (none))) else (none)) else (none)) else (none)) else (none)) else (none)) else (none)) else (none)))) = some r := H
  have A1 := Aside0.mk A10
  clear A10
  obtain ⟨y118, hy118⟩ : ∃ y_ : List Int, y_ = (([97, 98] : List Int)) := ⟨_, rfl⟩
  replace H : ((note_Put.f 12 0 0 0 0 0 0 false 0 y118 ([] : List Int)).bind fun bt121 => ((note_Get.f bt121.1).bind fun bt125 => (if t117 = 0 then (if (strOfNums t114).toList = ([2, 0, 0, 0, 2, 0, 0, 0, 0, 0, 0, 1, 2] : List UInt8) then (if bt121.2 = 0 then (if (strOfNums bt121.1).toList = ([12, 2, 97, 98] : List UInt8) then (if bt125.2.2.2.2.2.2.2.2.2.2.2 = 0 then (if bt125.1 = 12 then (if (strOfNums bt125.2.2.2.2.2.2.2.2.2.1).toList = ([97, 98] : List UInt8) then ((note_Names.f k 8).bind fun t142 => (if t142.toList = ([69, 79, 83, 85, 67, 68] : List UInt8) then ((note_Check.f 0 0 0 0 0 0 0 false 0 ([] : List Int) ([] : List Int)).bind fun t143 => (some (t143 == 50))) else (none))) else (none)) else (none)) else (none)) else (none)) else (none)) else (none)) else (none)))) = some r := by first | (rw [hy118]; with_reducible exact H) | (have H2_ := (Option.bind_some _ _).symm.trans H; rw [hy118]; with_reducible exact H2_) | (have H2_ := (Option.bind_some _ _).symm.trans H; with_reducible exact H2_) | with_reducible exact H | (rw [hy118]; exact H) | exact H
  have Ny118 := Aside0.mk hy118
  clear hy118
  replace H := Option.bind_eq_some_iff.mp H
  obtain ⟨⟨t121, t124⟩, A20, H⟩ := H
  replace H : ((note_Get.f t121).bind fun bt125 => (if t117 = 0 then (if (strOfNums t114).toList = ([2, 0, 0, 0, 2, 0, 0, 0, 0, 0, 0, 1, 2] : List UInt8) then (if t124 = 0 then (if (strOfNums t121).toList = ([12, 2, 97, 98] : List UInt8) then (if bt125.2.2.2.2.2.2.2.2.2.2.2 = 0 then (if bt125.1 = 12 then (if (strOfNums bt125.2.2.2.2.2.2.2.2.2.1).toList = ([97, 98] : List UInt8) then ((note_Names.f k 8).bind fun t142 => (if t142.toList = ([69, 79, 83, 85, 67, 68] : List UInt8) then ((note_Check.f 0 0 0 0 0 0 0 false 0 ([] : List Int) ([] : List Int)).bind fun t143 => (some (t143 == 50))) else (none))) else (none)) else (none)) else (none)) else (none)) else (none)) else (none)) else (none))) = some r := H
  have A2 := Aside0.mk A20
  clear A20
  replace H := Option.bind_eq_some_iff.mp H
  obtain ⟨⟨t125, t126, t127, t128, t129, t130, t131, t132, t133, t134, t137, t140⟩, A30, H⟩ := H
  replace H : (if t117 = 0 then (if (strOfNums t114).toList = ([2, 0, 0, 0, 2, 0, 0, 0, 0, 0, 0, 1, 2] : List UInt8) then (if t124 = 0 then (if (strOfNums t121).toList = ([12, 2, 97, 98] : List UInt8) then (if t140 = 0 then (if t125 = 12 then (if (strOfNums t134).toList = ([97, 98] : List UInt8) then ((note_Names.f k 8).bind fun t142 => (if t142.toList = ([69, 79, 83, 85, 67, 68] : List UInt8) then ((note_Check.f 0 0 0 0 0 0 0 false 0 ([] : List Int) ([] : List Int)).bind fun t143 => (some (t143 == 50))) else (none))) else (none)) else (none)) else (none)) else (none)) else (none)) else (none)) else (none)) = some r := H
  have A3 := Aside0.mk A30
  clear A30
  by_cases c4 : t117 = 0
  · rw [if_pos c4] at H
    have c4b0 : (t117 == 0) = true := beq_iff_eq.mpr c4
    have c4b1 : (t117 != 0) = false := bne_eq_false_iff_eq.mpr c4
    clear c4
    by_cases c5 : (strOfNums t114).toList = ([2, 0, 0, 0, 2, 0, 0, 0, 0, 0, 0, 1, 2] : List UInt8)
    · rw [if_pos c5] at H
      have c5b0 : ((strOfNums t114).toList == ([2, 0, 0, 0, 2, 0, 0, 0, 0, 0, 0, 1, 2] : List UInt8)) = true := beq_iff_eq.mpr c5
      have c5b1 : ((strOfNums t114).toList != ([2, 0, 0, 0, 2, 0, 0, 0, 0, 0, 0, 1, 2] : List UInt8)) = false := bne_eq_false_iff_eq.mpr c5
      clear c5
      by_cases c6 : t124 = 0
      · rw [if_pos c6] at H
        have c6b0 : (t124 == 0) = true := beq_iff_eq.mpr c6
        have c6b1 : (t124 != 0) = false := bne_eq_false_iff_eq.mpr c6
        clear c6
        by_cases c7 : (strOfNums t121).toList = ([12, 2, 97, 98] : List UInt8)
        · rw [if_pos c7] at H
          have c7b0 : ((strOfNums t121).toList == ([12, 2, 97, 98] : List UInt8)) = true := beq_iff_eq.mpr c7
          have c7b1 : ((strOfNums t121).toList != ([12, 2, 97, 98] : List UInt8)) = false := bne_eq_false_iff_eq.mpr c7
          clear c7
          by_cases c8 : t140 = 0
          · rw [if_pos c8] at H
            have c8b0 : (t140 == 0) = true := beq_iff_eq.mpr c8
            have c8b1 : (t140 != 0) = false := bne_eq_false_iff_eq.mpr c8
            clear c8
            by_cases c9 : t125 = 12
            · rw [if_pos c9] at H
              have c9b0 : (t125 == 12) = true := beq_iff_eq.mpr c9
              have c9b1 : (t125 != 12) = false := bne_eq_false_iff_eq.mpr c9
              clear c9
              by_cases c10 : (strOfNums t134).toList = ([97, 98] : List UInt8)
              · rw [if_pos c10] at H
                have c10b0 : ((strOfNums t134).toList == ([97, 98] : List UInt8)) = true := beq_iff_eq.mpr c10
                have c10b1 : ((strOfNums t134).toList != ([97, 98] : List UInt8)) = false := bne_eq_false_iff_eq.mpr c10
                clear c10
                replace H := Option.bind_eq_some_iff.mp H
                obtain ⟨t142, A110, H⟩ := H
                replace H : (if t142.toList = ([69, 79, 83, 85, 67, 68] : List UInt8) then ((note_Check.f 0 0 0 0 0 0 0 false 0 ([] : List Int) ([] : List Int)).bind fun t143 => (some (t143 == 50))) else (none)) = some r := H
                have A11 := Aside0.mk A110
                clear A110
                by_cases c12 : t142.toList = ([69, 79, 83, 85, 67, 68] : List UInt8)
                · rw [if_pos c12] at H
                  have c12b0 : (t142.toList == ([69, 79, 83, 85, 67, 68] : List UInt8)) = true := beq_iff_eq.mpr c12
                  have c12b1 : (t142.toList != ([69, 79, 83, 85, 67, 68] : List UInt8)) = false := bne_eq_false_iff_eq.mpr c12
                  clear c12
                  replace H := Option.bind_eq_some_iff.mp H
                  obtain ⟨t143, A130, H⟩ := H
                  replace H : (some (t143 == 50)) = some r := H
                  have A13 := Aside0.mk A130
                  clear A130
                  obtain rfl := Option.some.inj H
                  go_enter Try.func11, Try.ntmps11
                  have hy118 := Ny118.out
                  clear Ny118
                  subst hy118
                  have kc := fun (w : World) (C : Array Value) (n c : Nat) => Lib.run_convert_bytes_const (P := Try.prog) w 24 5 C n c Try.underlying24 Try.underlying5
                  go_wp2_with (first | ((with_reducible refine gate_callee (f := 13) rfl ?_); refine goesL_ (some 9) rfl rfl Try.func13 (by kernel_rfl) rfl #[.agg #[.int .i64 2, .int .u32 2, .int .u32 0, .int .u64 258, .int .u64 0, .int .u32 0, .int .i64 0, .bool false, .int .i64 0, .slice none 0 0, .slice none 0 0]] rfl (by (try simp only [List.map_toArray, List.map_cons, List.map_nil]); first | done | rfl | (simp only [List.length_drop, List.length_take]; rfl)) ?_; (refine (note_Put.calls 2 2 0 258 0 0 0 false 0 _ _ ([] : List Int) _ _ ([] : List Int) t114 t117 _ ?side1 ?side2 ?side3 ?side4 A1.out).mono ?_); (case side1 => exact Kd.C_nil _ _); (case side2 => exact Nat.le_refl _); (case side3 => exact Kd.C_nil _ _); (case side4 => exact Nat.le_refl _); rintro e w14 ⟨v115, rfl, ho0, hb⟩; refine ⟨_, rfl, ?_⟩; have n0_ := Aside0.mk (Kd.R_lower ho0 (below_size (by repeat (first | (with_reducible first | exact HB.out | apply below_alloc | apply pw_below_drewN | apply below_drew1) | exact HB.out)))); have n1_ := Aside0.mk (below_step (by repeat (first | (with_reducible first | exact HB.out | apply below_alloc | apply pw_below_drewN | apply below_drew1) | exact HB.out)) hb); clear HB; have HO116 := n0_; have HB := n1_; clear n0_ n1_; (try clear hb); (try clear hb2); (try clear hk); (try clear hi); (try clear ho0)) | ((with_reducible refine gate_callee (f := 13) rfl ?_); refine goesL_ (some 16) rfl rfl Try.func13 (by kernel_rfl) rfl #[.agg #[.int .i64 12, .int .u32 0, .int .u32 0, .int .u64 0, .int .u64 0, .int .u32 0, .int .i64 0, .bool false, .int .i64 0, .slice (some ⟨w14.heap.size, 0, none⟩) 2 2, .slice none 0 0]] rfl (by (try simp only [List.map_toArray, List.map_cons, List.map_nil]); first | done | rfl | (simp only [List.length_drop, List.length_take]; rfl)) ?_; (refine (note_Put.calls 12 0 0 0 0 0 0 false 0 _ _ [97, 98] _ _ ([] : List Int) t121 t124 _ ?side1 ?side2 ?side3 ?side4 A2.out).mono ?_); (case side1 => exact C_lit (d := Kd.int .u8) (heap_alloc_new w14 (.cells #[.int .u8 97, .int .u8 98] 5 (2, 3))) [97, 98] [[.int .u8 97], [.int .u8 98]] ⟨rfl, rfl, trivial⟩ rfl (by decide)); (case side2 => exact Nat.le_refl _); (case side3 => exact Kd.C_nil _ _); (case side4 => exact Nat.le_refl _); rintro e w18 ⟨v122, rfl, ho0, hb⟩; refine ⟨_, rfl, ?_⟩; have n0_ := Aside0.mk (Kd.R_elder' (by (with_reducible repeat (first | apply Kd.R_alloc | apply Kd.R_drewN | apply Kd.R_drew)); exact HO116.out) (Kd.R_base ho0) hb); have n2_ := Aside0.mk (Kd.R_lower (Kd.R_new' ho0 (Kd.R_lt (by (with_reducible repeat (first | apply Kd.R_alloc | apply Kd.R_drewN | apply Kd.R_drew)); exact HO116.out))) (below_size (by repeat (first | (with_reducible first | exact HB.out | apply below_alloc | apply pw_below_drewN | apply below_drew1) | exact HB.out)))); have n3_ := Aside0.mk (below_step (by repeat (first | (with_reducible first | exact HB.out | apply below_alloc | apply pw_below_drewN | apply below_drew1) | exact HB.out)) hb); clear HO116; clear HB; have HO116 := n0_; have HO123 := n2_; have HB := n3_; clear n0_ n2_ n3_; (try clear hb); (try clear hb2); (try clear hk); (try clear hi); (try clear ho0); obtain ⟨Ao19, co19, eo19⟩ := Kd.R_slice HO123.out; subst eo19) | ((with_reducible refine gate_callee (f := 22) rfl ?_); refine goesL_ (some 21) rfl rfl Try.func22 (by kernel_rfl) rfl #[.slice Ao19 t121.length co19] rfl (by (try simp only [List.map_toArray, List.map_cons, List.map_nil]); first | done | rfl | (simp only [List.length_drop, List.length_take]; rfl)) ?_; (with_reducible refine (note_Get.calls _ _ t121 t125 t126 t127 t128 t129 t130 t131 t132 t133 t134 t137 t140 _ ?side1 ?side2 A3.out).mono ?_); (case side1 => repeat (first | exact (Kd.R_reads' HO123.out).2.2 | (with_reducible refine Kd.C_alloc ?_ _) | (with_reducible refine Kd.C_drewN ?_ _) | (with_reducible refine Kd.C_drew ?_))); (case side2 => exact (Kd.R_reads' HO123.out).2.1); rintro e w20 ⟨v135, v138, rfl, ho0, ho1, hb⟩; refine ⟨_, rfl, ?_⟩; have n0_ := Aside0.mk (Kd.R_mono (Kd.R_told (Kd.R_told (Kd.R_old (by (with_reducible repeat (first | apply Kd.R_alloc | apply Kd.R_drewN | apply Kd.R_drew)); exact HO116.out) hb) (Kd.R_base ho0)) (Kd.R_base ho1)) (fun _ h_ => h_.1)); have n2_ := Aside0.mk (Kd.R_mono (Kd.R_told (Kd.R_told (Kd.R_old (by (with_reducible repeat (first | apply Kd.R_alloc | apply Kd.R_drewN | apply Kd.R_drew)); exact HO123.out) hb) (Kd.R_base ho0)) (Kd.R_base ho1)) (fun _ h_ => h_.1)); have n3_ := Aside0.mk (Kd.R_lower (Kd.R_new' (Kd.R_new' ho0 (Kd.R_lt (by (with_reducible repeat (first | apply Kd.R_alloc | apply Kd.R_drewN | apply Kd.R_drew)); exact HO116.out))) (Kd.R_lt (by (with_reducible repeat (first | apply Kd.R_alloc | apply Kd.R_drewN | apply Kd.R_drew)); exact HO123.out))) (below_size (by repeat (first | (with_reducible first | exact HB.out | apply below_alloc | apply pw_below_drewN | apply below_drew1) | exact HB.out)))); have n4_ := Aside0.mk (Kd.R_lower (Kd.R_new' (Kd.R_new' ho1 (Kd.R_lt (by (with_reducible repeat (first | apply Kd.R_alloc | apply Kd.R_drewN | apply Kd.R_drew)); exact HO116.out))) (Kd.R_lt (by (with_reducible repeat (first | apply Kd.R_alloc | apply Kd.R_drewN | apply Kd.R_drew)); exact HO123.out))) (below_size (by repeat (first | (with_reducible first | exact HB.out | apply below_alloc | apply pw_below_drewN | apply below_drew1) | exact HB.out)))); have n5_ := Aside0.mk (below_step (by repeat (first | (with_reducible first | exact HB.out | apply below_alloc | apply pw_below_drewN | apply below_drew1) | exact HB.out)) hb); clear HO116; clear HO123; clear HB; have HO116 := n0_; have HO123 := n2_; have HO136 := n3_; have HO139 := n4_; have HB := n5_; clear n0_ n2_ n3_ n4_ n5_; (try clear hb); (try clear hb2); (try clear hk); (try clear hi); (try clear ho0); (try clear ho1)) | ((with_reducible refine gate_dst (N := 5) rfl ?_); refine box_event ?hg (N := 5) ?hd (cs := #[.int .i64 0, .int .u32 0, .int .u32 0, .int .u64 0, .int .u64 0, .int .u32 0, .int .i64 0, .bool false, .int .i64 0, .slice none 0 0, .slice none 0 0]) (t := 26) ?hr ?_; (case hd => rfl); (case hg => rfl); (case hr => first | (go_simp; done) | (go_simp; rfl)); intro gb141 hg w21 hbox hb; have n0_ := Aside0.mk (Kd.R_below (by (with_reducible repeat (first | apply Kd.R_alloc | apply Kd.R_drewN | apply Kd.R_drew)); exact HO116.out) hb); have n2_ := Aside0.mk (Kd.R_below (by (with_reducible repeat (first | apply Kd.R_alloc | apply Kd.R_drewN | apply Kd.R_drew)); exact HO123.out) hb); have n3_ := Aside0.mk (Kd.R_below (by (with_reducible repeat (first | apply Kd.R_alloc | apply Kd.R_drewN | apply Kd.R_drew)); exact HO136.out) hb); have n4_ := Aside0.mk (Kd.R_below (by (with_reducible repeat (first | apply Kd.R_alloc | apply Kd.R_drewN | apply Kd.R_drew)); exact HO139.out) hb); have n5_ := Aside0.mk (below_step (by repeat (first | (with_reducible first | exact HB.out | apply below_alloc | apply pw_below_drewN | apply below_drew1) | exact HB.out)) hb); have n6_ := Aside0.mk (hbox); have n7_ := Aside0.mk ((by rw [hg]; exact (below_size (by repeat (first | (with_reducible first | exact HB.out | apply below_alloc | apply pw_below_drewN | apply below_drew1) | exact HB.out))) : w.heap.size ≤ gb141)); have n8_ := Aside0.mk ((by rw [hg]; exact (below_size (by repeat (first | (with_reducible first | exact HB.out | apply below_alloc | apply pw_below_drewN | apply below_drew1) | exact HB.out))) : w.heap.size ≤ gb141)); clear HO116; clear HO123; clear HO136; clear HO139; clear HB; have HO116 := n0_; have HO123 := n2_; have HO136 := n3_; have HO139 := n4_; have HB := n5_; have BK141 := n6_; have GW141 := n7_; have GE141 := n8_; clear n0_ n2_ n3_ n4_ n5_ n6_ n7_ n8_; clear hb hbox hg; obtain ⟨hcz22_0, hcz22_1, hcz22_2, hcz22_3, hcz22_4, hcz22_5, hcz22_6, hcz22_7, hcz22_8, hcz22_9, hcz22_10, hfz22_0, hfz22_1, hfz22_2, hfz22_3, hfz22_4, hfz22_5, hfz22_6, hfz22_7, hfz22_8, hfz22_9, hfz22_10⟩ := blk_all11 BK141.out; obtain ⟨Ao23, co23, eo23⟩ := Kd.R_slice HO136.out; subst eo23; obtain ⟨Ao24, co24, eo24⟩ := Kd.R_slice HO139.out; subst eo24; have hcv25 := own_string (P := Try.prog) Try.underlying24 Try.underlying5 Try.underlying9 (Kd.own_of_R HO116.out); have hcv26 := own_string (P := Try.prog) Try.underlying24 Try.underlying5 Try.underlying9 (Kd.own_of_R HO123.out); have hcv27 := own_string (P := Try.prog) Try.underlying24 Try.underlying5 Try.underlying9 (Kd.own_of_R HO136.out); have hcvs0 := own_string (P := Try.prog) Try.underlying24 Try.underlying5 Try.underlying9 (Kd.own_of_R (Kd.R_far (p := ⟨gb141, 10, none⟩) (Kd.R_far (p := ⟨gb141, 9, none⟩) (Kd.R_far (p := ⟨gb141, 8, none⟩) (Kd.R_far (p := ⟨gb141, 7, none⟩) (Kd.R_far (p := ⟨gb141, 6, none⟩) (Kd.R_far (p := ⟨gb141, 5, none⟩) (Kd.R_far (p := ⟨gb141, 4, none⟩) (Kd.R_far (p := ⟨gb141, 3, none⟩) (Kd.R_far (p := ⟨gb141, 2, none⟩) (Kd.R_far (p := ⟨gb141, 1, none⟩) (Kd.R_far (p := ⟨gb141, 0, none⟩) (Kd.R_types (Kd.R_mono (ok' := fun _ => True) HO116.out (fun _ _ => trivial)) BK141.out (by decide)) (fun _ hk => hk.2) (.int .i64 t125)) (fun _ hk => hk.2) (.int .u32 t126)) (fun _ hk => hk.2) (.int .u32 t127)) (fun _ hk => hk.2) (.int .u64 t128)) (fun _ hk => hk.2) (.int .u64 t129)) (fun _ hk => hk.2) (.int .u32 t130)) (fun _ hk => hk.2) (.int .i64 t131)) (fun _ hk => hk.2) (.bool t132)) (fun _ hk => hk.2) (.int .i64 t133)) (fun _ hk => hk.2) (.slice Ao23 t134.length co23)) (fun _ hk => hk.2) (.slice Ao24 t137.length co24))); have hcvs1 := own_string (P := Try.prog) Try.underlying24 Try.underlying5 Try.underlying9 (Kd.own_of_R (Kd.R_far (p := ⟨gb141, 10, none⟩) (Kd.R_far (p := ⟨gb141, 9, none⟩) (Kd.R_far (p := ⟨gb141, 8, none⟩) (Kd.R_far (p := ⟨gb141, 7, none⟩) (Kd.R_far (p := ⟨gb141, 6, none⟩) (Kd.R_far (p := ⟨gb141, 5, none⟩) (Kd.R_far (p := ⟨gb141, 4, none⟩) (Kd.R_far (p := ⟨gb141, 3, none⟩) (Kd.R_far (p := ⟨gb141, 2, none⟩) (Kd.R_far (p := ⟨gb141, 1, none⟩) (Kd.R_far (p := ⟨gb141, 0, none⟩) (Kd.R_types (Kd.R_mono (ok' := fun _ => True) HO123.out (fun _ _ => trivial)) BK141.out (by decide)) (fun _ hk => hk.2) (.int .i64 t125)) (fun _ hk => hk.2) (.int .u32 t126)) (fun _ hk => hk.2) (.int .u32 t127)) (fun _ hk => hk.2) (.int .u64 t128)) (fun _ hk => hk.2) (.int .u64 t129)) (fun _ hk => hk.2) (.int .u32 t130)) (fun _ hk => hk.2) (.int .i64 t131)) (fun _ hk => hk.2) (.bool t132)) (fun _ hk => hk.2) (.int .i64 t133)) (fun _ hk => hk.2) (.slice Ao23 t134.length co23)) (fun _ hk => hk.2) (.slice Ao24 t137.length co24))); have hcvs2 := own_string (P := Try.prog) Try.underlying24 Try.underlying5 Try.underlying9 (Kd.own_of_R (Kd.R_far (p := ⟨gb141, 10, none⟩) (Kd.R_far (p := ⟨gb141, 9, none⟩) (Kd.R_far (p := ⟨gb141, 8, none⟩) (Kd.R_far (p := ⟨gb141, 7, none⟩) (Kd.R_far (p := ⟨gb141, 6, none⟩) (Kd.R_far (p := ⟨gb141, 5, none⟩) (Kd.R_far (p := ⟨gb141, 4, none⟩) (Kd.R_far (p := ⟨gb141, 3, none⟩) (Kd.R_far (p := ⟨gb141, 2, none⟩) (Kd.R_far (p := ⟨gb141, 1, none⟩) (Kd.R_far (p := ⟨gb141, 0, none⟩) (Kd.R_types (Kd.R_mono (ok' := fun _ => True) HO136.out (fun _ _ => trivial)) BK141.out (by decide)) (fun _ hk => hk.2) (.int .i64 t125)) (fun _ hk => hk.2) (.int .u32 t126)) (fun _ hk => hk.2) (.int .u32 t127)) (fun _ hk => hk.2) (.int .u64 t128)) (fun _ hk => hk.2) (.int .u64 t129)) (fun _ hk => hk.2) (.int .u32 t130)) (fun _ hk => hk.2) (.int .i64 t131)) (fun _ hk => hk.2) (.bool t132)) (fun _ hk => hk.2) (.int .i64 t133)) (fun _ hk => hk.2) (.slice Ao23 t134.length co23)) (fun _ hk => hk.2) (.slice Ao24 t137.length co24)))) | (go_at_call 18; (with_reducible refine (note_Names.calls k 8 t142 _ A11.out).mono ?_); rintro e w' ⟨rfl, ⟨nd, rfl⟩⟩) | (go_at_call 14; (refine (note_Check.calls 0 0 0 0 0 0 0 false 0 _ _ ([] : List Int) _ _ ([] : List Int) t143 _ ?side1 ?side2 ?side3 ?side4 A13.out).mono ?_); (case side1 => exact Kd.C_nil _ _); (case side2 => exact Nat.le_refl _); (case side3 => exact Kd.C_nil _ _); (case side4 => exact Nat.le_refl _); rintro e w28 ⟨rfl, hb⟩; have n0_ := Aside0.mk (Kd.R_below (by (with_reducible repeat (first | apply Kd.R_alloc | apply Kd.R_drewN | apply Kd.R_drew)); exact (Kd.R_mono (Kd.R_far (p := ⟨gb141, 10, none⟩) (Kd.R_far (p := ⟨gb141, 9, none⟩) (Kd.R_far (p := ⟨gb141, 8, none⟩) (Kd.R_far (p := ⟨gb141, 7, none⟩) (Kd.R_far (p := ⟨gb141, 6, none⟩) (Kd.R_far (p := ⟨gb141, 5, none⟩) (Kd.R_far (p := ⟨gb141, 4, none⟩) (Kd.R_far (p := ⟨gb141, 3, none⟩) (Kd.R_far (p := ⟨gb141, 2, none⟩) (Kd.R_far (p := ⟨gb141, 1, none⟩) (Kd.R_far (p := ⟨gb141, 0, none⟩) (Kd.R_types HO116.out BK141.out (by decide)) (fun _ hk => hk.2) (.int .i64 t125)) (fun _ hk => hk.2) (.int .u32 t126)) (fun _ hk => hk.2) (.int .u32 t127)) (fun _ hk => hk.2) (.int .u64 t128)) (fun _ hk => hk.2) (.int .u64 t129)) (fun _ hk => hk.2) (.int .u32 t130)) (fun _ hk => hk.2) (.int .i64 t131)) (fun _ hk => hk.2) (.bool t132)) (fun _ hk => hk.2) (.int .i64 t133)) (fun _ hk => hk.2) (.slice Ao23 t134.length co23)) (fun _ hk => hk.2) (.slice Ao24 t137.length co24)) (fun _ h_ => h_.1))) hb); have n2_ := Aside0.mk (Kd.R_below (by (with_reducible repeat (first | apply Kd.R_alloc | apply Kd.R_drewN | apply Kd.R_drew)); exact (Kd.R_mono (Kd.R_far (p := ⟨gb141, 10, none⟩) (Kd.R_far (p := ⟨gb141, 9, none⟩) (Kd.R_far (p := ⟨gb141, 8, none⟩) (Kd.R_far (p := ⟨gb141, 7, none⟩) (Kd.R_far (p := ⟨gb141, 6, none⟩) (Kd.R_far (p := ⟨gb141, 5, none⟩) (Kd.R_far (p := ⟨gb141, 4, none⟩) (Kd.R_far (p := ⟨gb141, 3, none⟩) (Kd.R_far (p := ⟨gb141, 2, none⟩) (Kd.R_far (p := ⟨gb141, 1, none⟩) (Kd.R_far (p := ⟨gb141, 0, none⟩) (Kd.R_types HO123.out BK141.out (by decide)) (fun _ hk => hk.2) (.int .i64 t125)) (fun _ hk => hk.2) (.int .u32 t126)) (fun _ hk => hk.2) (.int .u32 t127)) (fun _ hk => hk.2) (.int .u64 t128)) (fun _ hk => hk.2) (.int .u64 t129)) (fun _ hk => hk.2) (.int .u32 t130)) (fun _ hk => hk.2) (.int .i64 t131)) (fun _ hk => hk.2) (.bool t132)) (fun _ hk => hk.2) (.int .i64 t133)) (fun _ hk => hk.2) (.slice Ao23 t134.length co23)) (fun _ hk => hk.2) (.slice Ao24 t137.length co24)) (fun _ h_ => h_.1))) hb); have n3_ := Aside0.mk (Kd.R_below (by (with_reducible repeat (first | apply Kd.R_alloc | apply Kd.R_drewN | apply Kd.R_drew)); exact (Kd.R_mono (Kd.R_far (p := ⟨gb141, 10, none⟩) (Kd.R_far (p := ⟨gb141, 9, none⟩) (Kd.R_far (p := ⟨gb141, 8, none⟩) (Kd.R_far (p := ⟨gb141, 7, none⟩) (Kd.R_far (p := ⟨gb141, 6, none⟩) (Kd.R_far (p := ⟨gb141, 5, none⟩) (Kd.R_far (p := ⟨gb141, 4, none⟩) (Kd.R_far (p := ⟨gb141, 3, none⟩) (Kd.R_far (p := ⟨gb141, 2, none⟩) (Kd.R_far (p := ⟨gb141, 1, none⟩) (Kd.R_far (p := ⟨gb141, 0, none⟩) (Kd.R_types HO136.out BK141.out (by decide)) (fun _ hk => hk.2) (.int .i64 t125)) (fun _ hk => hk.2) (.int .u32 t126)) (fun _ hk => hk.2) (.int .u32 t127)) (fun _ hk => hk.2) (.int .u64 t128)) (fun _ hk => hk.2) (.int .u64 t129)) (fun _ hk => hk.2) (.int .u32 t130)) (fun _ hk => hk.2) (.int .i64 t131)) (fun _ hk => hk.2) (.bool t132)) (fun _ hk => hk.2) (.int .i64 t133)) (fun _ hk => hk.2) (.slice Ao23 t134.length co23)) (fun _ hk => hk.2) (.slice Ao24 t137.length co24)) (fun _ h_ => h_.1))) hb); have n4_ := Aside0.mk (Kd.R_below (by (with_reducible repeat (first | apply Kd.R_alloc | apply Kd.R_drewN | apply Kd.R_drew)); exact (Kd.R_mono (Kd.R_far (p := ⟨gb141, 10, none⟩) (Kd.R_far (p := ⟨gb141, 9, none⟩) (Kd.R_far (p := ⟨gb141, 8, none⟩) (Kd.R_far (p := ⟨gb141, 7, none⟩) (Kd.R_far (p := ⟨gb141, 6, none⟩) (Kd.R_far (p := ⟨gb141, 5, none⟩) (Kd.R_far (p := ⟨gb141, 4, none⟩) (Kd.R_far (p := ⟨gb141, 3, none⟩) (Kd.R_far (p := ⟨gb141, 2, none⟩) (Kd.R_far (p := ⟨gb141, 1, none⟩) (Kd.R_far (p := ⟨gb141, 0, none⟩) (Kd.R_types HO139.out BK141.out (by decide)) (fun _ hk => hk.2) (.int .i64 t125)) (fun _ hk => hk.2) (.int .u32 t126)) (fun _ hk => hk.2) (.int .u32 t127)) (fun _ hk => hk.2) (.int .u64 t128)) (fun _ hk => hk.2) (.int .u64 t129)) (fun _ hk => hk.2) (.int .u32 t130)) (fun _ hk => hk.2) (.int .i64 t131)) (fun _ hk => hk.2) (.bool t132)) (fun _ hk => hk.2) (.int .i64 t133)) (fun _ hk => hk.2) (.slice Ao23 t134.length co23)) (fun _ hk => hk.2) (.slice Ao24 t137.length co24)) (fun _ h_ => h_.1))) hb); have n5_ := Aside0.mk (blk_below (g := gb141) (o := .cells #[.int .i64 t125, .int .u32 t126, .int .u32 t127, .int .u64 t128, .int .u64 t129, .int .u32 t130, .int .i64 t131, .bool t132, .int .i64 t133, .slice Ao23 t134.length co23, .slice Ao24 t137.length co24] 26 (0, 0)) (by (with_reducible repeat (first | apply bd1 | apply bd2 | apply bd3)); refine blk_put (cs := #[.int .i64 t125, .int .u32 t126, .int .u32 t127, .int .u64 t128, .int .u64 t129, .int .u32 t130, .int .i64 t131, .bool t132, .int .i64 t133, .slice Ao23 t134.length co23, .slice none 0 0]) ?_ 10 _ rfl; (with_reducible repeat (first | apply bd1 | apply bd2 | apply bd3)); refine blk_put (cs := #[.int .i64 t125, .int .u32 t126, .int .u32 t127, .int .u64 t128, .int .u64 t129, .int .u32 t130, .int .i64 t131, .bool t132, .int .i64 t133, .slice none 0 0, .slice none 0 0]) ?_ 9 _ rfl; (with_reducible repeat (first | apply bd1 | apply bd2 | apply bd3)); refine blk_put (cs := #[.int .i64 t125, .int .u32 t126, .int .u32 t127, .int .u64 t128, .int .u64 t129, .int .u32 t130, .int .i64 t131, .bool t132, .int .i64 0, .slice none 0 0, .slice none 0 0]) ?_ 8 _ rfl; (with_reducible repeat (first | apply bd1 | apply bd2 | apply bd3)); refine blk_put (cs := #[.int .i64 t125, .int .u32 t126, .int .u32 t127, .int .u64 t128, .int .u64 t129, .int .u32 t130, .int .i64 t131, .bool false, .int .i64 0, .slice none 0 0, .slice none 0 0]) ?_ 7 _ rfl; (with_reducible repeat (first | apply bd1 | apply bd2 | apply bd3)); refine blk_put (cs := #[.int .i64 t125, .int .u32 t126, .int .u32 t127, .int .u64 t128, .int .u64 t129, .int .u32 t130, .int .i64 0, .bool false, .int .i64 0, .slice none 0 0, .slice none 0 0]) ?_ 6 _ rfl; (with_reducible repeat (first | apply bd1 | apply bd2 | apply bd3)); refine blk_put (cs := #[.int .i64 t125, .int .u32 t126, .int .u32 t127, .int .u64 t128, .int .u64 t129, .int .u32 0, .int .i64 0, .bool false, .int .i64 0, .slice none 0 0, .slice none 0 0]) ?_ 5 _ rfl; (with_reducible repeat (first | apply bd1 | apply bd2 | apply bd3)); refine blk_put (cs := #[.int .i64 t125, .int .u32 t126, .int .u32 t127, .int .u64 t128, .int .u64 0, .int .u32 0, .int .i64 0, .bool false, .int .i64 0, .slice none 0 0, .slice none 0 0]) ?_ 4 _ rfl; (with_reducible repeat (first | apply bd1 | apply bd2 | apply bd3)); refine blk_put (cs := #[.int .i64 t125, .int .u32 t126, .int .u32 t127, .int .u64 0, .int .u64 0, .int .u32 0, .int .i64 0, .bool false, .int .i64 0, .slice none 0 0, .slice none 0 0]) ?_ 3 _ rfl; (with_reducible repeat (first | apply bd1 | apply bd2 | apply bd3)); refine blk_put (cs := #[.int .i64 t125, .int .u32 t126, .int .u32 0, .int .u64 0, .int .u64 0, .int .u32 0, .int .i64 0, .bool false, .int .i64 0, .slice none 0 0, .slice none 0 0]) ?_ 2 _ rfl; (with_reducible repeat (first | apply bd1 | apply bd2 | apply bd3)); refine blk_put (cs := #[.int .i64 t125, .int .u32 0, .int .u32 0, .int .u64 0, .int .u64 0, .int .u32 0, .int .i64 0, .bool false, .int .i64 0, .slice none 0 0, .slice none 0 0]) ?_ 1 _ rfl; (with_reducible repeat (first | apply bd1 | apply bd2 | apply bd3)); refine blk_put (cs := #[.int .i64 0, .int .u32 0, .int .u32 0, .int .u64 0, .int .u64 0, .int .u32 0, .int .i64 0, .bool false, .int .i64 0, .slice none 0 0, .slice none 0 0]) ?_ 0 _ rfl; (with_reducible repeat (first | apply bd1 | apply bd2 | apply bd3)); exact BK141.out) hb); have n6_ := Aside0.mk (below_step (by repeat (first | (with_reducible first | exact HB.out | apply below_alloc | apply pw_below_drewN | apply below_drew1 | refine below_set ?_ GE141.out) | exact HB.out)) hb); clear HO116; clear HO123; clear HO136; clear HO139; clear BK141; clear HB; have HO116 := n0_; have HO123 := n2_; have HO136 := n3_; have HO139 := n4_; have BK141 := n5_; have HB := n6_; clear n0_ n2_ n3_ n4_ n5_ n6_; (try clear hb); (try clear hb2); (try clear hk); (try clear hi)))
                  go_ret
                  exact ⟨by first | rfl | (simp [errW_none, errW_some] <;> rfl) | (simp [*, errW_none, errW_some] <;> rfl), by repeat (first | (with_reducible first | exact HB.out | apply below_alloc | apply pw_below_drewN | apply below_drew1 | refine below_set ?_ GE141.out) | exact HB.out)⟩
                · rw [if_neg c12] at H
                  exact absurd H (by simp)
              · rw [if_neg c10] at H
                exact absurd H (by simp)
            · rw [if_neg c9] at H
              exact absurd H (by simp)
          · rw [if_neg c8] at H
            exact absurd H (by simp)
        · rw [if_neg c7] at H
          exact absurd H (by simp)
      · rw [if_neg c6] at H
        exact absurd H (by simp)
    · rw [if_neg c5] at H
      exact absurd H (by simp)
  · rw [if_neg c4] at H
    exact absurd H (by simp)

/-! ### drayageref00_Same: function 20 -/
def drayageref00_Same.f (l0 : List Int) (l1 : List Int) : Option (Bool) := some ((strOfNums l0).toList == (strOfNums l1).toList)

/-! ### drayageref05_Same: function 24 -/
def drayageref05_Same.f (a0_0 : Int) (a0_1 : Int) (a0_2 : Int) (a0_3 : Int) (a0_4 : Int) (a0_5 : Int) (a0_6 : Int) (a0_7 : Bool) (a0_8 : Int) (l0_9 : List Int) (l0_10 : List Int) (a1_0 : Int) (a1_1 : Int) (a1_2 : Int) (a1_3 : Int) (a1_4 : Int) (a1_5 : Int) (a1_6 : Int) (a1_7 : Bool) (a1_8 : Int) (l1_9 : List Int) (l1_10 : List Int) : Option (Bool) := if a0_0 = a1_0 then (if a0_1 = a1_1 then (if a0_2 = a1_2 then (if a0_3 = a1_3 then (if a0_4 = a1_4 then (if a0_5 = a1_5 then (if a0_6 = a1_6 then (if (a0_7 == a1_7) = true then (if a0_8 = a1_8 then (if (strOfNums l0_9).toList = (strOfNums l1_9).toList then (some ((strOfNums l0_10).toList == (strOfNums l1_10).toList)) else (some false)) else (some false)) else (some false)) else (some false)) else (some false)) else (some false)) else (some false)) else (some false)) else (some false)) else (some false)

/-! ### drayageref00_Copy: function 25 -/
def drayageref00_Copy.f (l0 : List Int) : Option (List Int) := if ([] : List Int).length + l0.length < 140737488355328 then (some (([] : List Int) ++ l0)) else (none)

end Go.Proofs.Ytohnlhklijpafaa.PA
