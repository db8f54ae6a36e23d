-- printed by a program of this work (wip/tools/pr.py over the kit's print): the machine's side of NoteBack, NoteSizes, NoteApart, NoteNames
import Derived.Test.YtohnlhklijpafaaQNbPAx0
import Derived.Test.YtohnlhklijpafaaQNbPAx1
import Derived.Test.YtohnlhklijpafaaQNbPAx2
namespace Go.Proofs.Ytohnlhklijpafaa.PA
open Go.RowKit Go.Proofs.YtohnlhklijpafaaW.PrintWords Go.Proofs.YtohnlhklijpafaaW.PrintLast Go.Proofs.YtohnlhklijpafaaW.PrintMore
attribute [local go_sem] max2_int min2_int max_two min_two max_three min_three max_four min_four   -- for this text's walks alone
set_option linter.unusedVariables false
set_option linter.unusedSimpArgs false

/-! ### note_Put: function 13, with the contracts of the writer and the reader -/
/-- a writer's bytes -/
def WR (w0 W : World) (g : Nat) (l : List Int) (sp : Bool) : Prop := ∃ v : Value, W.heap[g]? = some (.cells #[v, .bool sp] 81 (0, 0)) ∧ w0.heap.size ≤ g ∧ Kd.R (Kd.int .u8) 5 W w0.heap.size (fun k => k ≠ g) v l
/-- all but the writer, and rows of bytes, is as it was -/
def WF (w w' : World) (g : Nat) : Prop := w.heap.size ≤ w'.heap.size ∧ ∀ k, k < w.heap.size → k ≠ g → (∀ cs fr, w.heap[k]? ≠ some (.cells cs 5 fr)) → w'.heap[k]? = w.heap[k]?
/-- a number's bytes, the greatest first -/
def byteAt (n : Int) (size i : Nat) : Int := IntKind.u8.wrap (n / 2 ^ (8 * (size - 1 - i)))
def bigE (n : Int) (size : Nat) : List Int := (List.range size).map (byteAt n size)
theorem bigE_step (n : Int) {size i : Nat} (h : i < size) : (bigE n size).take (i + 1) = (bigE n size).take i ++ [byteAt n size i] := by
  unfold bigE
  rw [List.take_add_one, List.getElem?_map, List.getElem?_range h]
  rfl
def field_put.T6 : Bool × List (List Nat × List Nat) := (true, [([], []), ([], []), ([1], [1]), ([2], [2]), ([3], [3]), ([], []), ([], []), ([6], [6]), ([], []), ([7, 8], [7, 8]), ([9], [9]), ([5, 10], [5, 10]), ([11], [11]), ([12], [12]), ([4, 13], [4, 13]), ([0, 0, 1, 2, 3, 4, 5, 6, 7, 8, 9, 10, 11, 12, 13, 14], [0]), ([15, 0, 1, 2, 3, 4, 5, 6, 7, 8, 9, 10, 11, 12, 13, 14], [15]), ([16, 14, 14, 0, 1, 2, 3, 4, 5, 6, 7, 8, 9, 10, 11, 12, 13, 14], [14, 16])])
def field_put.B6 : List Nat := [0, 0, 2, 6, 14, 0, 0, 64, 0, 448, 960, 2016, 4064, 8160, 16382, 32767, 65535, 131071]
theorem field_put.tab6 : rtab .any (opsOf Try.f46 6) = field_put.T6 := by kernel_rfl
theorem field_put.bits6 : waitsOk field_put.T6.2 field_put.B6 = true := by kernel_rfl
set_option maxHeartbeats 8000000 in
set_option maxRecDepth 100000 in
theorem field_put.calls (n : Int) (size : Nat) (g : Nat) (l : List Int) (sp : Bool) (w0 w : World) (hn0 : 0 ≤ n) (hn1 : n < 18446744073709551616) (hs : size ≤ 8) (hl : l.length + 8 ≤ 1000000) (HI : WR w0 w g l sp) (HB : Below w0.heap.size w0 w) :
    Calls Try.prog 46 #[.pointer (some ⟨g, 0, none⟩), .int .u64 n, .int .i64 (size : Int)] w fun e w' => e = .returned (.pointer (some ⟨g, 0, none⟩)) ∧ WR w0 w' g (l ++ bigE n size) sp ∧ Below w0.heap.size w0 w' ∧ WF w w' g := by
  have HI0 := Aside0.mk HI
  have HB0 := Aside0.mk HB
  clear HI HB
  go_enter Try.func46, Try.ntmps46
  go_wp2
  go_loopw [7, 11] (fun v7 v11 w' => ∃ (i : Nat) (u : Value), v7 = u ∧ v11 = .int .i64 (i : Int) ∧ Aside0 (i ≤ size) ∧ Aside0 (WR w0 w' g (l ++ (bigE n size).take i) sp) ∧ Aside0 (Below w0.heap.size w0 w') ∧ Aside0 (WF w w' g)) (fun _ v11 _ => size - (intOf v11).toNat)
  case atStart =>
    exact ⟨0, _, rfl, rfl, ⟨Nat.zero_le _⟩, ⟨by simpa using HI0.out⟩, HB0, ⟨Nat.le_refl _, fun _ _ _ _ => rfl⟩⟩
  case round =>
    obtain ⟨i, u, rfl, rfl, Hi, HI, HB, HF⟩ := hrel
    rename World => w1
    by_cases hc : i < size
    · have c0 : decide ((i : Int) < (size : Int)) = true := decide_eq_true (by omega)
      obtain ⟨c, hcc⟩ : ∃ c : Nat, c = 8 * (size - 1 - i) := ⟨_, rfl⟩
      have f1 : wrap64 ((size : Int) - 1) = (size : Int) - 1 := by unfold wrap64; omega
      have f2 : wrap64 ((size : Int) - 1 - (i : Int)) = (size : Int) - 1 - (i : Int) := by unfold wrap64; omega
      have f3 : wrap64 (8 * ((size : Int) - 1 - (i : Int))) = (c : Int) := by unfold wrap64; omega
      have f4 : (c : Int) ≤ 64 := by omega
      go_wp2
      obtain ⟨v, hv, hg, hR⟩ := HI.out
      have hcell : w1.drew.cell? ⟨g, 0, none⟩ = some v := (blk_cell (blk_drew hv) 0).trans rfl
      refine start_ (n := 18) (S := fun w' => w'.cell? ⟨g, 0, none⟩ = some v) (ds := [17]) #[false, false, false, false, false, false, false, false, false, false, false, false, false, false, false, false, false, false] (by kernel_rfl) rfl rfl hcell (fun hHeld => ?_); refine with_tabW field_put.tab6 field_put.bits6 (fun HT_ HW_ => ?_)
      refine pure_ (i := 0) (N := some 14) (v := ?_) (a' := ?_) #[true, false, false, false, false, false, false, false, false, false, false, false, false, false, false, false, false, false] rfl rfl (any_of HT_.out (by kernel_rfl)) (fun _ _ _ h => h) (Or.inl ⟨by rfl, ?_⟩) ?_ ?_
      rotate_left
      · intro w'; go_simp; with_reducible rfl
      rotate_left
      · simp only [Act.put, List.setIfInBounds_toArray, List.set_cons_zero, List.set_cons_succ, i64_w, i32_w]; rfl
      refine pure_ (i := 1) (N := some 15) (v := ?_) (a' := ?_) #[true, true, false, false, false, false, false, false, false, false, false, false, false, false, false, false, false, false] rfl rfl (any_of HT_.out (by kernel_rfl)) (fun _ _ _ h => h) (Or.inl ⟨by rfl, ?_⟩) ?_ ?_
      rotate_left
      · intro w'; go_simp; with_reducible rfl
      rotate_left
      · simp only [Act.put, List.setIfInBounds_toArray, List.set_cons_zero, List.set_cons_succ, i64_w, i32_w]; rfl
      refine pure_ (i := 2) (N := some 16) (v := ?_) (a' := ?_) #[true, true, true, false, false, false, false, false, false, false, false, false, false, false, false, false, false, false] rfl rfl (any_of HT_.out (by kernel_rfl)) (fun _ _ _ h => h) (Or.inl ⟨by rfl, ?_⟩) ?_ ?_
      rotate_left
      · intro w'; go_simp; with_reducible rfl
      rotate_left
      · simp only [Act.put, List.setIfInBounds_toArray, List.set_cons_zero, List.set_cons_succ, i64_w, i32_w]; rfl
      refine pure_ (i := 3) (N := some 17) (v := ?_) (a' := ?_) #[true, true, true, true, false, false, false, false, false, false, false, false, false, false, false, false, false, false] rfl rfl (any_of HT_.out (by kernel_rfl)) (fun _ _ _ h => h) (Or.inl ⟨by rfl, ?_⟩) ?_ ?_
      rotate_left
      · intro w'; go_simp; with_reducible rfl
      rotate_left
      · simp only [Act.put, List.setIfInBounds_toArray, List.set_cons_zero, List.set_cons_succ, i64_w, i32_w]; rfl
      refine take_ (i := 4) (N := some 18) (v := ?_) (a' := ?_) #[true, true, true, true, true, false, false, false, false, false, false, false, false, false, false, false, false, false] rfl rfl (take_ofW HT_.out HW_.out (by kernel_rfl)) (fun _ _ _ h => h) (Or.inl ⟨by rfl, ?_⟩) hHeld ?_ ?_
      rotate_left
      · intro w' s0; go_simp; with_reducible rfl
      rotate_left
      · simp only [Act.put, List.setIfInBounds_toArray, List.set_cons_zero, List.set_cons_succ, i64_w, i32_w]; rfl
      refine pure_ (i := 5) (N := some 19) (v := ?_) (a' := ?_) #[true, true, true, true, true, true, false, false, false, false, false, false, false, false, false, false, false, false] rfl rfl (any_of HT_.out (by kernel_rfl)) (fun _ _ _ h => h) (Or.inl ⟨by rfl, ?_⟩) ?_ ?_
      rotate_left
      · intro w'; go_simp; with_reducible rfl
      rotate_left
      · simp only [Act.put, List.setIfInBounds_toArray, List.set_cons_zero, List.set_cons_succ, i64_w, i32_w]; rfl
      refine pure_ (i := 6) (N := some 20) (v := ?_) (a' := ?_) #[true, true, true, true, true, true, true, false, false, false, false, false, false, false, false, false, false, false] rfl rfl (any_of HT_.out (by kernel_rfl)) (fun _ _ _ h => h) (Or.inl ⟨by rfl, ?_⟩) ?_ ?_
      rotate_left
      · intro w'; go_simp; with_reducible rfl
      rotate_left
      · simp only [Act.put, List.setIfInBounds_toArray, List.set_cons_zero, List.set_cons_succ, i64_w, i32_w]; rfl
      refine pure_ (i := 7) (N := some 21) (v := ?_) (a' := ?_) #[true, true, true, true, true, true, true, true, false, false, false, false, false, false, false, false, false, false] rfl rfl (any_of HT_.out (by kernel_rfl)) (fun _ _ _ h => h) (Or.inl ⟨by rfl, ?_⟩) ?_ ?_
      rotate_left
      · intro w'; go_simp; with_reducible rfl
      rotate_left
      · simp only [Act.put, List.setIfInBounds_toArray, List.set_cons_zero, List.set_cons_succ, i64_w, i32_w]; rfl
      refine pure_ (i := 8) (N := some 22) (v := ?_) (a' := ?_) #[true, true, true, true, true, true, true, true, true, false, false, false, false, false, false, false, false, false] rfl rfl (any_of HT_.out (by kernel_rfl)) (fun _ _ _ h => h) (Or.inl ⟨by rfl, ?_⟩) ?_ ?_
      rotate_left
      · intro w'; go_simp; with_reducible rfl
      rotate_left
      · simp only [Act.put, List.setIfInBounds_toArray, List.set_cons_zero, List.set_cons_succ, i64_w, i32_w]; rfl
      refine pure_ (i := 9) (N := some 23) (v := ?_) (a' := ?_) #[true, true, true, true, true, true, true, true, true, true, false, false, false, false, false, false, false, false] rfl rfl (any_of HT_.out (by kernel_rfl)) (fun _ _ _ h => h) (Or.inl ⟨by rfl, ?_⟩) ?_ ?_
      rotate_left
      · intro w'; go_simp; with_reducible rfl
      rotate_left
      · simp only [Act.put, List.setIfInBounds_toArray, List.set_cons_zero, List.set_cons_succ, i64_w, i32_w]; rfl
      refine pure_ (i := 10) (N := some 24) (v := ?_) (a' := ?_) #[true, true, true, true, true, true, true, true, true, true, true, false, false, false, false, false, false, false] rfl rfl (any_of HT_.out (by kernel_rfl)) (fun _ _ _ h => h) (Or.inl ⟨by rfl, ?_⟩) ?_ ?_
      rotate_left
      · intro w'; go_simp; with_reducible rfl
      rotate_left
      · simp only [Act.put, List.setIfInBounds_toArray, List.set_cons_zero, List.set_cons_succ, i64_w, i32_w]; rfl
      refine pure_ (i := 11) (N := some 25) (v := ?_) (a' := ?_) #[true, true, true, true, true, true, true, true, true, true, true, true, false, false, false, false, false, false] rfl rfl (any_of HT_.out (by kernel_rfl)) (fun _ _ _ h => h) (Or.inl ⟨by rfl, ?_⟩) ?_ ?_
      rotate_left
      · intro w'; go_simp; with_reducible rfl
      rotate_left
      · simp only [Act.put, List.setIfInBounds_toArray, List.set_cons_zero, List.set_cons_succ, i64_w, i32_w]; rfl
      refine pure_ (i := 12) (N := some 26) (v := ?_) (a' := ?_) #[true, true, true, true, true, true, true, true, true, true, true, true, true, false, false, false, false, false] rfl rfl (any_of HT_.out (by kernel_rfl)) (fun _ _ _ h => h) (Or.inl ⟨by rfl, ?_⟩) ?_ ?_
      rotate_left
      · intro w'; go_simp; with_reducible rfl
      rotate_left
      · simp only [Act.put, List.setIfInBounds_toArray, List.set_cons_zero, List.set_cons_succ, i64_w, i32_w]; rfl
      refine one_ (i := 13) (N := some 27) #[true, true, true, true, true, true, true, true, true, true, true, true, true, true, false, false, false, false] rfl rfl (one_of HT_.out (by kernel_rfl)) (by decide) (fun K hK => ?_)
      refine event_step (w1 := w1.drew.alloc (.cells #[.int .u8 (byteAt n size i)] 5)) (v := .slice (some ⟨w1.drew.heap.size, 0, none⟩) 1 1) ?hg ?hr ?_
      case hg => rfl
      case hr => go_simp; rfl
      refine hK.out _ _ ((World.cell?_alloc_lt w1.drew _ ⟨g, 0, none⟩ (blk_lt hv)).trans hHeld) (fun hHeld => ?_)
      clear hK K
      refine norm_ (a' := ?_) ?_ ?_
      rotate_left
      · show Act.put _ (some 27) _ = _
        simp only [Act.put, List.setIfInBounds_toArray, List.set_cons_zero, List.set_cons_succ, i64_w, i32_w]; rfl
      refine one_ (i := 14) (N := some 28) #[true, true, true, true, true, true, true, true, true, true, true, true, true, true, true, false, false, false] rfl rfl (one_of HT_.out (by kernel_rfl)) (by decide) (fun K hK => ?_)
      refine Kd.R_append_step (Kd.int .u8) (w0 := w0) w0.heap.size (by rfl) (.tmp 18) (.tmp 27) 24 5 (.int .u8 0) 1 rfl Try.underlying24 (by kernel_rfl) rfl (by decide) (by decide) v (l ++ (bigE n size).take i) (byteAt n size i) [.int .u8 (byteAt n size i)] (fun k => k ≠ g) (fun _ => False) rfl rfl ?aP (fun _ hk => hk.elim) ?aF ?aO ?aB ?aS ?aL ?_
      case aP => rfl
      case aF => intro k hk; have := blk_lt hv; have e : w1.drew.heap.size = w1.heap.size := rfl; omega
      case aO => exact Kd.R_drew hR
      case aB => exact below_drew1 HB.out
      case aS => exact HB.out.size
      case aL => have : ((bigE n size).take i).length ≤ 8 := by simp [bigE]; omega
                 simp only [List.length_append]; omega
      intro v1 w2 hR2 hB2 hG2 hat2
      obtain ⟨A1, c1, hv1⟩ : ∃ A c, v1 = .slice A (l ++ (bigE n size).take i ++ [byteAt n size i]).length c := by obtain ⟨_, inner, ho, _⟩ := hR2; exact own_slice ho
      subst hv1
      generalize hm : (l ++ (bigE n size).take i ++ [byteAt n size i]).length = m1 at *
      have hv2 := blk_grown (blk_drew hv) hG2 (Kd.R_away hR (fun k hk => hk))
      have hc2 : w2.cell? ⟨g, 0, none⟩ = some v := (blk_cell hv2 0).trans rfl
      have hf2 : w2.frozen? ⟨g, 0, none⟩ = false := blk_frozen hv2 0
      refine hK.out _ _ hc2 (fun hHeld => ?_)
      clear hK K
      refine norm_ (a' := ?_) ?_ ?_
      rotate_left
      · show Act.put _ (some 28) _ = _
        simp only [Act.put, List.setIfInBounds_toArray, List.set_cons_zero, List.set_cons_succ, i64_w, i32_w]; rfl
      refine pure_ (i := 15) (N := some 29) (v := ?_) (a' := ?_) #[true, true, true, true, true, true, true, true, true, true, true, true, true, true, true, true, false, false] rfl rfl (any_of HT_.out (by kernel_rfl)) (fun _ _ _ h => h) (Or.inl ⟨by rfl, ?_⟩) ?_ ?_
      rotate_left
      · intro w'; go_simp; with_reducible rfl
      rotate_left
      · simp only [Act.put, List.setIfInBounds_toArray, List.set_cons_zero, List.set_cons_succ, i64_w, i32_w]; rfl
      refine pure_ (i := 16) (N := some 30) (v := ?_) (a' := ?_) #[true, true, true, true, true, true, true, true, true, true, true, true, true, true, true, true, true, false] rfl rfl (any_of HT_.out (by kernel_rfl)) (fun _ _ _ h => h) (Or.inl ⟨by rfl, ?_⟩) ?_ ?_
      rotate_left
      · intro w'; go_simp; with_reducible rfl
      rotate_left
      · simp only [Act.put, List.setIfInBounds_toArray, List.set_cons_zero, List.set_cons_succ, i64_w, i32_w]; rfl
      refine last_ (i := 17) (N := none) #[true, true, true, true, true, true, true, true, true, true, true, true, true, true, true, true, true, true] rfl rfl (one_of HT_.out (by kernel_rfl)) (by decide) (fun K hK => ?_)
      refine skip_ (w1 := ?_) (by rfl) rfl ?_ ?_
      rotate_left
      · go_simp; rfl
      refine hK.out _ _ ?_
      clear hK K
      refine done_ (done_of HT_.out (by kernel_rfl)) ?_
      clear HT_ HW_
      have f5 : wrap64 ((i : Int) + 1) = (i : Int) + 1 := by unfold wrap64; omega
      have GR2 := Aside0.mk hR2
      have GV2 := Aside0.mk hv2
      have GV := Aside0.mk hv
      have GG2 := Aside0.mk hG2
      have GH := Aside0.mk hm
      have GHR := Aside0.mk hR
      clear hR2 hv2 hv hG2 hat2 hm hR hcell hHeld hc2 hf2 f1 f2 f3 f4 hcc
      go_wp2
      go_roundw
      case rel =>
        refine ⟨i + 1, _, rfl, by simp, ⟨hc⟩, ⟨⟨_, blk_put (cs' := #[.slice A1 m1 c1, .bool sp]) GV2.out 0 _ rfl, hg, ?_⟩⟩, ⟨below_set hB2 hg⟩, ⟨?_, ?_⟩⟩
        · have e : l ++ (bigE n size).take (i + 1) = l ++ (bigE n size).take i ++ [byteAt n size i] := by
            rw [List.append_assoc, bigE_step n hc]
          rw [e]
          exact Kd.R_far GR2.out (fun k hk => hk) _
        · have h1 := HF.out.1
          have h2 := GG2.out.size
          have h3 : w1.drew.heap.size = w1.heap.size := rfl
          simp
          omega
        · intro k hk hkg hty
          have h1 := HF.out.1
          have h3 : w1.drew.heap.size = w1.heap.size := rfl
          refine (Below.heap_setCell w2 _ _ k hkg).trans ((GG2.out.block k (by omega) (fun e => ?_)).trans (HF.out.2 k hk hkg hty))
          obtain ⟨_, inner, ho, _⟩ := GHR.out
          obtain ⟨cells, hc2⟩ := own_typed ho k e.symm
          exact hty _ _ ((HF.out.2 k hk hkg hty).symm.trans hc2)
      case measure => simp [intOf]; omega
    · have c0 : decide ((i : Int) < (size : Int)) = false := decide_eq_false (by omega)
      have hi2 : i = size := by have := Hi.out; omega
      subst hi2
      go_wp2
      refine bodyPost_ret ?_ rfl ⟨rfl, ?_, HB.out, HF.out⟩
      · simp [results, Try.results46, go_sem]
      · have e : (bigE n i).take i = bigE n i := by rw [List.take_of_length_le]; simp [bigE]
        have := HI.out
        rwa [e] at this
theorem field_put' (n : Int) (size : Nat) (sz : Int) (hsz : sz = (size : Int)) (g : Nat) (l : List Int) (sp : Bool) (w0 w : World) (hn0 : 0 ≤ n) (hn1 : n < 18446744073709551616) (hs : size ≤ 8) (hl : l.length + 8 ≤ 1000000) (HI : WR w0 w g l sp) (HB : Below w0.heap.size w0 w) :
    Calls Try.prog 46 #[.pointer (some ⟨g, 0, none⟩), .int .u64 n, .int .i64 sz] w fun e w' => e = .returned (.pointer (some ⟨g, 0, none⟩)) ∧ WR w0 w' g (l ++ bigE n size) sp ∧ Below w0.heap.size w0 w' ∧ WF w w' g := by
  subst hsz; exact field_put.calls n size g l sp w0 w hn0 hn1 hs hl HI HB
theorem u64_same {x : Int} (h0 : 0 ≤ x) (h1 : x < 18446744073709551616) : IntKind.u64.wrap x = x := by
  have : IntKind.u64.wrap x = x % 18446744073709551616 := rfl
  omega
theorem WR.drewN {w0 W : World} {g : Nat} {l : List Int} {sp : Bool} (h : WR w0 W g l sp) (m : Nat) : WR w0 (W.drewN m) g l sp := by
  obtain ⟨v, hv, hg, hR⟩ := h
  exact ⟨v, bd1 m hv, hg, Kd.R_drewN hR m⟩
set_option maxHeartbeats 8000000 in
set_option maxRecDepth 100000 in
theorem field_U8.calls (n : Int) (g : Nat) (l : List Int) (sp : Bool) (w0 w : World) (hn0 : 0 ≤ n) (hn1 : n < 256) (hl : l.length + 8 ≤ 1000000) (HI : WR w0 w g l sp) (HB : Below w0.heap.size w0 w) :
    Calls Try.prog 28 #[.pointer (some ⟨g, 0, none⟩), .int .u8 n] w fun e w' => e = .returned (.pointer (some ⟨g, 0, none⟩)) ∧ WR w0 w' g (l ++ bigE n 1) sp ∧ Below w0.heap.size w0 w' ∧ WF w w' g := by
  have HI0 := Aside0.mk HI
  have HB0 := Aside0.mk HB
  have fw : IntKind.u64.wrap n = n := u64_same hn0 (by omega)
  have h0 := Aside0.mk hn0
  have h1 := Aside0.mk (show n < 18446744073709551616 by omega)
  have h2 := Aside0.mk hl
  clear HI HB hn0 hn1 hl
  go_enter Try.func28, Try.ntmps28
  go_wp2_with (first | (go_at_call 46; (with_reducible refine (field_put' n 1 1 rfl g l sp w0 _ h0.out h1.out (by decide) h2.out ?a1 ?a2).mono ?_); (case a1 => first | exact HI0.out | exact WR.drewN HI0.out _); (case a2 => first | exact HB0.out | exact pw_below_drewN HB0.out _); rintro e w' ⟨rfl, hWR, hBB, hF⟩; have GW := Aside0.mk hWR; have GB := Aside0.mk hBB; have GF := Aside0.mk hF; clear hWR hBB hF))
  refine bodyPost_ret ?_ rfl ⟨rfl, GW.out, GB.out, GF.out⟩
  simp [results, Try.results28, go_sem]
set_option maxHeartbeats 8000000 in
set_option maxRecDepth 100000 in
theorem field_U32.calls (n : Int) (g : Nat) (l : List Int) (sp : Bool) (w0 w : World) (hn0 : 0 ≤ n) (hn1 : n < 4294967296) (hl : l.length + 8 ≤ 1000000) (HI : WR w0 w g l sp) (HB : Below w0.heap.size w0 w) :
    Calls Try.prog 29 #[.pointer (some ⟨g, 0, none⟩), .int .u32 n] w fun e w' => e = .returned (.pointer (some ⟨g, 0, none⟩)) ∧ WR w0 w' g (l ++ bigE n 4) sp ∧ Below w0.heap.size w0 w' ∧ WF w w' g := by
  have HI0 := Aside0.mk HI
  have HB0 := Aside0.mk HB
  have fw : IntKind.u64.wrap n = n := u64_same hn0 (by omega)
  have h0 := Aside0.mk hn0
  have h1 := Aside0.mk (show n < 18446744073709551616 by omega)
  have h2 := Aside0.mk hl
  clear HI HB hn0 hn1 hl
  go_enter Try.func29, Try.ntmps29
  go_wp2_with (first | (go_at_call 46; (with_reducible refine (field_put' n 4 4 rfl g l sp w0 _ h0.out h1.out (by decide) h2.out ?a1 ?a2).mono ?_); (case a1 => first | exact HI0.out | exact WR.drewN HI0.out _); (case a2 => first | exact HB0.out | exact pw_below_drewN HB0.out _); rintro e w' ⟨rfl, hWR, hBB, hF⟩; have GW := Aside0.mk hWR; have GB := Aside0.mk hBB; have GF := Aside0.mk hF; clear hWR hBB hF))
  refine bodyPost_ret ?_ rfl ⟨rfl, GW.out, GB.out, GF.out⟩
  simp [results, Try.results29, go_sem]
set_option maxHeartbeats 8000000 in
set_option maxRecDepth 100000 in
theorem field_U64.calls (n : Int) (g : Nat) (l : List Int) (sp : Bool) (w0 w : World) (hn0 : 0 ≤ n) (hn1 : n < 18446744073709551616) (hl : l.length + 8 ≤ 1000000) (HI : WR w0 w g l sp) (HB : Below w0.heap.size w0 w) :
    Calls Try.prog 30 #[.pointer (some ⟨g, 0, none⟩), .int .u64 n] w fun e w' => e = .returned (.pointer (some ⟨g, 0, none⟩)) ∧ WR w0 w' g (l ++ bigE n 8) sp ∧ Below w0.heap.size w0 w' ∧ WF w w' g := by
  have HI0 := Aside0.mk HI
  have HB0 := Aside0.mk HB
  have fw : IntKind.u64.wrap n = n := u64_same hn0 (by omega)
  have h0 := Aside0.mk hn0
  have h1 := Aside0.mk (show n < 18446744073709551616 by omega)
  have h2 := Aside0.mk hl
  clear HI HB hn0 hn1 hl
  go_enter Try.func30, Try.ntmps30
  go_wp2_with (first | (go_at_call 46; (with_reducible refine (field_put' n 8 8 rfl g l sp w0 _ h0.out h1.out (by decide) h2.out ?a1 ?a2).mono ?_); (case a1 => first | exact HI0.out | exact WR.drewN HI0.out _); (case a2 => first | exact HB0.out | exact pw_below_drewN HB0.out _); rintro e w' ⟨rfl, hWR, hBB, hF⟩; have GW := Aside0.mk hWR; have GB := Aside0.mk hBB; have GF := Aside0.mk hF; clear hWR hBB hF))
  refine bodyPost_ret ?_ rfl ⟨rfl, GW.out, GB.out, GF.out⟩
  simp [results, Try.results30, go_sem]
set_option maxHeartbeats 8000000 in
set_option maxRecDepth 100000 in
theorem fieldNewW.calls (w0 w : World) (hB : Below w0.heap.size w0 w) :
    Calls Try.prog 27 #[] w fun e w' => ∃ g_ : Nat, e = .returned (.pointer (some ⟨g_, 0, none⟩)) ∧ WR w0 w' g_ [] false ∧ Below w0.heap.size w0 w' ∧ Below w.heap.size w w' ∧ w.heap.size ≤ g_ := by
  have HB := Aside0.mk hB
  clear hB
  go_enter Try.func27, Try.ntmps27
  go_wp2
  refine bodyPost_ret ?_ rfl ⟨w.heap.size, rfl, ⟨.slice none 0 0, ?_, HB.out.size, Kd.R_nil _ _ _ _ _⟩, below_alloc HB.out _, below_alloc (Below.refl _ _) _, Nat.le_refl _⟩
  · simp [results, Try.results27, go_sem]
  · exact heap_alloc_new w _
set_option maxHeartbeats 8000000 in
set_option maxRecDepth 100000 in
theorem field_Done.calls (g : Nat) (l : List Int) (w0 w : World) (hl0 : 0 < l.length) (hl : l.length ≤ 1000000) (HI : WR w0 w g l false) (HB : Below w0.heap.size w0 w) :
    Calls Try.prog 33 #[.pointer (some ⟨g, 0, none⟩)] w fun e w' => ∃ v : Value, e = .returned (.tuple #[v, .int .i64 0]) ∧ Kd.R (Kd.int .u8) 5 w' w.heap.size (fun _ => True) v l ∧ Below w0.heap.size w0 w' ∧ Below w.heap.size w w' := by
  obtain ⟨v, hv, hg, hR⟩ := HI
  obtain ⟨A, c, rfl, hlen, hC⟩ := rows_read (Kd.R_reads hR)
  have GC := Aside0.mk hC
  have GB := Aside0.mk HB
  have hc0 : w.cell? ⟨g, 0, none⟩ = some (.slice A l.length c) := (blk_cell hv 0).trans rfl
  have hc1 : w.cell? ⟨g, 1, none⟩ = some (.bool false) := (blk_cell hv 1).trans rfl
  have hlt := blk_lt hv
  have hnil : Aside0 ((Kd.int .u8).R 5 (w.alloc (.cells #[] 5)) w.heap.size (fun _ => True) (.slice (some ⟨w.heap.size, 0, none⟩) 0 0) []) := by
    have h2 := World.ownsRow_lit (base := w.heap.size) (e := 5) (size := 1) w #[] 0 (Nat.le_refl _) (by decide) (by simp)
    exact ⟨Kd.R_of_own (xs := []) (by simpa [encs] using h2) (fun _ _ => trivial)⟩
  clear hR hC HB hv hlen
  go_enter Try.func33, Try.ntmps33
  go_wp2_with (first | ((with_reducible refine gate_builtin (b := .append) (xs := #[.tmp 12, .tmp 16]) rfl ?_); at_builtin; refine Kd.R_append_rows (Kd.int .u8) (w0 := w) w.heap.size rfl (.tmp 12) (.tmp 16) 24 5 (.int .u8 0) 1 rfl Try.underlying24 (by kernel_rfl) rfl (by decide) (by omega) (.slice (some ⟨w.heap.size, 0, none⟩) 0 0) [] l _ _ _ (fun _ => True) (fun _ => False) rfl rfl ?aO ?aR (fun _ _ h => h) (fun _ h => h.elim) ?aF ?aB ?aS ?aL ?_; (case aO => exact hnil.out); (case aR => exact Kd.C_alloc GC.out _); (case aF => intro _ _; trivial); (case aB => exact below_alloc (Below.refl _ _) _); (case aS => simp); (case aL => simp; omega); intro v1 w1 hR1 hB1 hG1 hat1; have GR1 := Aside0.mk hR1; have GB1 := Aside0.mk hB1; clear hR1 hB1 hG1 hat1))
  refine bodyPost_ret ?_ rfl ⟨v1, rfl, ?_, ?_, GB1.out⟩
  · simp [results, Try.results33, go_sem]
  · simpa using GR1.out
  · exact below_step GB.out GB1.out

/-- bytes that lie somewhere -/
def BY (w0 W : World) (b off cap : Nat) (l : List Int) : Prop := ∃ cur : Array Value, W.heap[b]? = some (.cells cur 5 (0, 0)) ∧ w0.heap.size ≤ b ∧ l.length ≤ cap ∧ ∀ (j : Nat) (x : Int), l[j]? = some x → cur[off + j]? = some (.int .u8 x)
/-- a reader's bytes that are left -/
def RD (w0 W : World) (g : Nat) (l : List Int) (sh : Bool) : Prop := ∃ b off cap : Nat, W.heap[g]? = some (.cells #[.slice (some ⟨b, off, none⟩) l.length cap, .bool sh] 86 (0, 0)) ∧ w0.heap.size ≤ g ∧ g ≠ b ∧ BY w0 W b off cap l
theorem BY.drop {w0 W : World} {b off cap : Nat} {l : List Int} (h : BY w0 W b off cap l) {n : Nat} (hn : n ≤ l.length) : BY w0 W b (off + n) (cap - n) (l.drop n) := by
  obtain ⟨cur, h1, h2, h3, h4⟩ := h
  refine ⟨cur, h1, h2, by simp; omega, fun j x hx => ?_⟩
  rw [List.getElem?_drop] at hx
  have := h4 _ _ hx
  rwa [← Nat.add_assoc] at this
theorem BY.take {w0 W : World} {b off cap : Nat} {l : List Int} (h : BY w0 W b off cap l) (n : Nat) : BY w0 W b off cap (l.take n) := by
  obtain ⟨cur, h1, h2, h3, h4⟩ := h
  refine ⟨cur, h1, h2, by simp; omega, fun j x hx => ?_⟩
  rw [List.getElem?_take] at hx
  split at hx
  · exact h4 _ _ hx
  · exact absurd hx (by simp)
theorem BY.none_ {w0 W : World} {b off cap : Nat} {l : List Int} (h : BY w0 W b off cap l) : BY w0 W b off 0 [] := by
  obtain ⟨cur, h1, h2, h3, h4⟩ := h
  exact ⟨cur, h1, h2, Nat.le_refl _, fun j x hx => by simp at hx⟩
theorem BY.set {w0 W : World} {b off cap : Nat} {l : List Int} (h : BY w0 W b off cap l) {g i : Nat} (hg : b ≠ g) (u : Value) : BY w0 (W.setCell ⟨g, i, none⟩ u) b off cap l := by
  obtain ⟨cur, h1, h2, h3, h4⟩ := h
  exact ⟨cur, blk_far h1 hg u, h2, h3, h4⟩
theorem BY.at_ {w0 W : World} {b off cap : Nat} {l : List Int} (h : BY w0 W b off cap l) {j : Nat} {x : Int} (hx : l[j]? = some x) : W.cell? ⟨b, off + j, none⟩ = some (.int .u8 x) := by
  obtain ⟨cur, h1, h2, h3, h4⟩ := h
  exact (blk_cell h1 (off + j)).trans (h4 _ _ hx)
/-- only the block g may have changed -/
def OB (w w' : World) (g : Nat) : Prop := w.heap.size ≤ w'.heap.size ∧ ∀ k, k < w.heap.size → k ≠ g → w'.heap[k]? = w.heap[k]?
set_option maxHeartbeats 8000000 in
set_option maxRecDepth 100000 in
theorem field_take.more (n : Nat) (nz : Int) (hz : nz = (n : Int)) (g : Nat) (l : List Int) (w0 w : World) (hn : n ≤ l.length) (hl : l.length ≤ 1000000) (HI : RD w0 w g l false) (HB : Below w0.heap.size w0 w) :
    Calls Try.prog 50 #[.pointer (some ⟨g, 0, none⟩), .int .i64 nz] w fun e w' => ∃ b off cap : Nat, e = .returned (.slice (some ⟨b, off, none⟩) (l.take n).length cap) ∧ BY w0 w' b off cap (l.take n) ∧ RD w0 w' g (l.drop n) false ∧ Below w0.heap.size w0 w' ∧ OB w w' g := by
  obtain ⟨b, off, cap, hv, hg, hne, hY⟩ := HI
  have GY := Aside0.mk hY
  have GB := Aside0.mk HB
  have hcap : l.length ≤ cap := by obtain ⟨_, _, _, h, _⟩ := hY; exact h
  have hc0 : w.cell? ⟨g, 0, none⟩ = some (.slice (some ⟨b, off, none⟩) l.length cap) := (blk_cell hv 0).trans rfl
  have hc1 : w.cell? ⟨g, 1, none⟩ = some (.bool false) := (blk_cell hv 1).trans rfl
  have hf0 : w.frozen? ⟨g, 0, none⟩ = false := blk_frozen hv 0
  have hf1 : w.frozen? ⟨g, 1, none⟩ = false := blk_frozen hv 1
  have GV := Aside0.mk hv
  have d1 : decide ((l.length : Int) < nz) = false := decide_eq_false (by omega)
  have p0 : 0 ≤ nz := by omega
  have p1 : nz ≤ (cap : Int) := by omega
  have p2 : nz ≤ (l.length : Int) := by omega
  have hnt : nz.toNat = n := by omega
  clear hY HB hv
  go_enter Try.func50, Try.ntmps50
  go_wp2
  case inr =>
    refine bodyPost_ret ?_ rfl ⟨b, off, cap, rfl, ?_, ?_, ?_, ?_⟩
    · simp [results, Try.results50, go_sem]
    · exact ((GY.out.set (Ne.symm hne) _).set (Ne.symm hne) _).take n
    · have e : (l.drop n).length = l.length - n := by simp
      refine ⟨b, off + n, cap - n, ?_, hg, hne, ((GY.out.set (Ne.symm hne) _).set (Ne.symm hne) _).drop hn⟩
      rw [e]
      exact blk_put (cs' := #[.slice (some ⟨b, off + n, none⟩) (l.length - n) (cap - n), .bool false]) (blk_put (cs' := #[.slice (some ⟨b, off, none⟩) l.length cap, .bool false]) GV.out 1 _ rfl) 0 _ rfl
    · exact below_set (below_set GB.out hg) hg
    · exact ⟨by simp, fun k _ hk => ((Below.heap_setCell _ _ _ k hk).trans (Below.heap_setCell _ _ _ k hk))⟩
  case inl =>
    have hcn : cap = n := by omega
    subst hcn
    have hl0 : l.drop cap = [] := List.drop_eq_nil_of_le hcap
    have hl1 : l.length = cap := by omega
    refine bodyPost_ret ?_ rfl ⟨b, off, cap, rfl, ?_, ?_, ?_, ?_⟩
    · simp [results, Try.results50, go_sem]
    · exact ((GY.out.set (Ne.symm hne) _).set (Ne.symm hne) _).take cap
    · rw [hl0]
      refine ⟨b, off, 0, ?_, hg, hne, ((GY.out.set (Ne.symm hne) _).set (Ne.symm hne) _).none_⟩
      rw [show l.length - cap = 0 by omega]
      exact blk_put (cs' := #[.slice (some ⟨b, off, none⟩) 0 0, .bool false]) (blk_put (cs' := #[.slice (some ⟨b, off, none⟩) l.length cap, .bool false]) GV.out 1 _ rfl) 0 _ rfl
    · exact below_set (below_set GB.out hg) hg
    · exact ⟨by simp, fun k _ hk => ((Below.heap_setCell _ _ _ k hk).trans (Below.heap_setCell _ _ _ k hk))⟩
/-- .. and where there are fewer: none, and the reader is short from then on -/
theorem field_take.less (n : Nat) (nz : Int) (hz : nz = (n : Int)) (g : Nat) (l : List Int) (sh : Bool) (w0 w : World) (hn : sh = true ∨ l.length < n) (hl : l.length ≤ 1000000) (hn2 : n ≤ 1000000) (HI : RD w0 w g l sh) (HB : Below w0.heap.size w0 w) :
    Calls Try.prog 50 #[.pointer (some ⟨g, 0, none⟩), .int .i64 nz] w fun e w' => e = .returned (.slice none 0 0) ∧ RD w0 w' g l true ∧ Below w0.heap.size w0 w' ∧ OB w w' g := by
  obtain ⟨b, off, cap, hv, hg, hne, hY⟩ := HI
  have GY := Aside0.mk hY
  have GB := Aside0.mk HB
  have hc0 : w.cell? ⟨g, 0, none⟩ = some (.slice (some ⟨b, off, none⟩) l.length cap) := (blk_cell hv 0).trans rfl
  have hc1 : w.cell? ⟨g, 1, none⟩ = some (.bool sh) := (blk_cell hv 1).trans rfl
  have hf1 : w.frozen? ⟨g, 1, none⟩ = false := blk_frozen hv 1
  have GV := Aside0.mk hv
  clear hY HB hv
  have fin : RD w0 (w.setCell ⟨g, 1, none⟩ (.bool true)) g l true := ⟨b, off, cap, blk_put (cs' := #[.slice (some ⟨b, off, none⟩) l.length cap, .bool true]) GV.out 1 _ rfl, hg, hne, GY.out.set (Ne.symm hne) _⟩
  have GF := Aside0.mk fin
  clear fin
  cases sh with
  | true =>
    go_enter Try.func50, Try.ntmps50
    go_wp2
    refine bodyPost_ret ?_ rfl ⟨rfl, GF.out, below_set GB.out hg, ⟨by simp, fun k _ hk => Below.heap_setCell _ _ _ k hk⟩⟩
    simp [results, Try.results50, go_sem]
  | false =>
    have hn3 : l.length < n := by rcases hn with h | h; exact absurd h (by decide); exact h
    have d1 : decide ((l.length : Int) < nz) = true := decide_eq_true (by omega)
    go_enter Try.func50, Try.ntmps50
    go_wp2
    refine bodyPost_ret ?_ rfl ⟨rfl, GF.out, below_set GB.out hg, ⟨by simp, fun k _ hk => Below.heap_setCell _ _ _ k hk⟩⟩
    simp [results, Try.results50, go_sem]
/-- a number out of its bytes -/
def numOf (l : List Int) : Int := l.foldl (fun n c => Go.bits .or .u64 (IntKind.u64.wrap (n * 256)) c) 0
theorem numOf_step (l : List Int) {i : Nat} {x : Int} (h : l[i]? = some x) : numOf (l.take (i + 1)) = Go.bits .or .u64 (IntKind.u64.wrap (numOf (l.take i) * 256)) x := by
  have e : l.take (i + 1) = l.take i ++ [x] := by rw [List.take_add_one, h]; rfl
  rw [e]
  simp [numOf, List.foldl_append]
set_option maxHeartbeats 8000000 in
set_option maxRecDepth 100000 in
theorem field_number.more (n : Nat) (nz : Int) (hz : nz = (n : Int)) (g : Nat) (l : List Int) (w0 w : World) (hn : n ≤ l.length) (hl : l.length ≤ 1000000) (HI : RD w0 w g l false) (HB : Below w0.heap.size w0 w) (hb : ∀ x ∈ l, 0 ≤ x ∧ x < 256) :
    Calls Try.prog 49 #[.pointer (some ⟨g, 0, none⟩), .int .i64 nz] w fun e w' => e = .returned (.int .u64 (numOf (l.take n))) ∧ RD w0 w' g (l.drop n) false ∧ Below w0.heap.size w0 w' ∧ OB w w' g := by
  subst hz
  have GI := Aside0.mk HI
  have GB := Aside0.mk HB
  clear HI HB
  go_enter Try.func49, Try.ntmps49
  go_wp2_with (first | (go_at_call 50; (with_reducible refine (field_take.more n (n : Int) rfl g l w0 _ hn hl GI.out GB.out).mono ?_); rintro e w1 ⟨b, off, cap, rfl, hY1, hI1, hB1, hO1⟩; have GY1 := Aside0.mk hY1; have GI1 := Aside0.mk hI1; have GB1 := Aside0.mk hB1; have GO1 := Aside0.mk hO1; clear hY1 hI1 hB1 hO1))
  go_loopw [5, 7, 12] (fun v5 v7 v12 w' => ∃ (i : Nat) (u : Value), v5 = .int .u64 (numOf (l.take i)) ∧ v7 = u ∧ v12 = .int .i64 (i : Int) ∧ Aside0 (i ≤ n) ∧ w' = w1) (fun _ _ v12 _ => n - (intOf v12).toNat)
  case atStart => exact ⟨0, _, rfl, rfl, rfl, ⟨Nat.zero_le _⟩, rfl⟩
  case round =>
    obtain ⟨i, u, rfl, rfl, rfl, Hi, rfl⟩ := hrel
    have hlen : (l.take n).length = n := by simp; omega
    by_cases hc : i < n
    · have hil : i < l.length := by omega
      obtain ⟨x, hx⟩ : ∃ x, l[i]? = some x := ⟨l[i], by simp [hil]⟩
      have hx2 : (l.take n)[i]? = some x := by rw [List.getElem?_take, if_pos hc]; exact hx
      have hcell := GY1.out.at_ hx2
      have hbx := hb x (List.mem_of_getElem? hx)
      have f1 : IntKind.u64.wrap x = x := u64_same hbx.1 (by omega)
      have f2 : wrap64 ((i : Int) + 1) = (i : Int) + 1 := by unfold wrap64; omega
      have c0 : decide ((i : Int) < (n : Int)) = true := decide_eq_true (by omega)
      have c1 : decide ((i : Int) < ((l.take n).length : Int)) = true := decide_eq_true (by omega)
      go_wp2
      exact ⟨⟨i + 1, _, by rw [numOf_step l hx], rfl, by simp, ⟨hc⟩, trivial⟩, by simp [intOf]; omega⟩
    · have hi2 : i = n := by have := Hi.out; omega
      subst hi2
      have c1 : decide ((i : Int) < ((l.take i).length : Int)) = false := decide_eq_false (by omega)
      go_wp2
      refine bodyPost_ret ?_ rfl ⟨rfl, GI1.out, GB1.out, GO1.out⟩
      simp [results, Try.results49, go_sem]
/-- .. and where there are fewer -/
theorem field_number.less (n : Nat) (nz : Int) (hz : nz = (n : Int)) (g : Nat) (l : List Int) (sh : Bool) (w0 w : World) (hn : sh = true ∨ l.length < n) (hl : l.length ≤ 1000000) (hn2 : n ≤ 1000000) (HI : RD w0 w g l sh) (HB : Below w0.heap.size w0 w) :
    Calls Try.prog 49 #[.pointer (some ⟨g, 0, none⟩), .int .i64 nz] w fun e w' => e = .returned (.int .u64 0) ∧ RD w0 w' g l true ∧ Below w0.heap.size w0 w' ∧ OB w w' g := by
  subst hz
  have GI := Aside0.mk HI
  have GB := Aside0.mk HB
  have GN := Aside0.mk hn
  clear HI HB hn
  go_enter Try.func49, Try.ntmps49
  go_wp2_with (first | (go_at_call 50; (with_reducible refine (field_take.less n (n : Int) rfl g l sh w0 _ GN.out hl hn2 GI.out GB.out).mono ?_); rintro e w1 ⟨rfl, hI1, hB1, hO1⟩; have GI1 := Aside0.mk hI1; have GB1 := Aside0.mk hB1; have GO1 := Aside0.mk hO1; clear hI1 hB1 hO1))
  go_loopw [5, 7, 12] (fun v5 v7 v12 w' => ∃ u : Value, v5 = .int .u64 0 ∧ v7 = u ∧ v12 = .int .i64 0 ∧ w' = w1) (fun _ _ _ _ => 0)
  case atStart => exact ⟨_, rfl, rfl, rfl, rfl⟩
  case round =>
    obtain ⟨u, rfl, rfl, rfl, rfl⟩ := hrel
    go_wp2
    refine bodyPost_ret ?_ rfl ⟨rfl, GI1.out, GB1.out, GO1.out⟩
    simp [results, Try.results49, go_sem]

set_option maxHeartbeats 8000000 in
set_option maxRecDepth 100000 in
theorem field_RU8.more (g : Nat) (l : List Int) (w0 w : World) (hn : 1 ≤ l.length) (hl : l.length ≤ 1000000) (HI : RD w0 w g l false) (HB : Below w0.heap.size w0 w) (hb : ∀ x ∈ l, 0 ≤ x ∧ x < 256) :
    Calls Try.prog 39 #[.pointer (some ⟨g, 0, none⟩)] w fun e w' => e = .returned (.int .u8 (numOf (l.take 1) % 256)) ∧ RD w0 w' g (l.drop 1) false ∧ Below w0.heap.size w0 w' ∧ OB w w' g := by
  have GI := Aside0.mk HI
  have GB := Aside0.mk HB
  have GN := Aside0.mk hb
  clear HI HB hb
  go_enter Try.func39, Try.ntmps39
  go_wp2_with (first | (go_at_call 49; (with_reducible refine (field_number.more 1 1 rfl g l w0 _ hn hl GI.out GB.out GN.out).mono ?_); rintro e w1 ⟨rfl, hI1, hB1, hO1⟩; have GI1 := Aside0.mk hI1; have GB1 := Aside0.mk hB1; have GO1 := Aside0.mk hO1; clear hI1 hB1 hO1))
  refine bodyPost_ret ?_ rfl ⟨rfl, GI1.out, GB1.out, GO1.out⟩
  simp [results, Try.results39, go_sem]
set_option maxHeartbeats 8000000 in
set_option maxRecDepth 100000 in
theorem field_RU8.less (g : Nat) (l : List Int) (sh : Bool) (w0 w : World) (hn : sh = true ∨ l.length < 1) (hl : l.length ≤ 1000000) (HI : RD w0 w g l sh) (HB : Below w0.heap.size w0 w) :
    Calls Try.prog 39 #[.pointer (some ⟨g, 0, none⟩)] w fun e w' => e = .returned (.int .u8 0) ∧ RD w0 w' g l true ∧ Below w0.heap.size w0 w' ∧ OB w w' g := by
  have GI := Aside0.mk HI
  have GB := Aside0.mk HB
  have GN := Aside0.mk hn
  clear HI HB hn
  go_enter Try.func39, Try.ntmps39
  go_wp2_with (first | (go_at_call 49; (with_reducible refine (field_number.less 1 1 rfl g l sh w0 _ GN.out hl (by decide) GI.out GB.out).mono ?_); rintro e w1 ⟨rfl, hI1, hB1, hO1⟩; have GI1 := Aside0.mk hI1; have GB1 := Aside0.mk hB1; have GO1 := Aside0.mk hO1; clear hI1 hB1 hO1))
  refine bodyPost_ret ?_ rfl ⟨rfl, GI1.out, GB1.out, GO1.out⟩
  simp [results, Try.results39, go_sem]

set_option maxHeartbeats 8000000 in
set_option maxRecDepth 100000 in
theorem field_RU32.more (g : Nat) (l : List Int) (w0 w : World) (hn : 4 ≤ l.length) (hl : l.length ≤ 1000000) (HI : RD w0 w g l false) (HB : Below w0.heap.size w0 w) (hb : ∀ x ∈ l, 0 ≤ x ∧ x < 256) :
    Calls Try.prog 40 #[.pointer (some ⟨g, 0, none⟩)] w fun e w' => e = .returned (.int .u32 (numOf (l.take 4) % 4294967296)) ∧ RD w0 w' g (l.drop 4) false ∧ Below w0.heap.size w0 w' ∧ OB w w' g := by
  have GI := Aside0.mk HI
  have GB := Aside0.mk HB
  have GN := Aside0.mk hb
  clear HI HB hb
  go_enter Try.func40, Try.ntmps40
  go_wp2_with (first | (go_at_call 49; (with_reducible refine (field_number.more 4 4 rfl g l w0 _ hn hl GI.out GB.out GN.out).mono ?_); rintro e w1 ⟨rfl, hI1, hB1, hO1⟩; have GI1 := Aside0.mk hI1; have GB1 := Aside0.mk hB1; have GO1 := Aside0.mk hO1; clear hI1 hB1 hO1))
  refine bodyPost_ret ?_ rfl ⟨rfl, GI1.out, GB1.out, GO1.out⟩
  simp [results, Try.results40, go_sem]
set_option maxHeartbeats 8000000 in
set_option maxRecDepth 100000 in
theorem field_RU32.less (g : Nat) (l : List Int) (sh : Bool) (w0 w : World) (hn : sh = true ∨ l.length < 4) (hl : l.length ≤ 1000000) (HI : RD w0 w g l sh) (HB : Below w0.heap.size w0 w) :
    Calls Try.prog 40 #[.pointer (some ⟨g, 0, none⟩)] w fun e w' => e = .returned (.int .u32 0) ∧ RD w0 w' g l true ∧ Below w0.heap.size w0 w' ∧ OB w w' g := by
  have GI := Aside0.mk HI
  have GB := Aside0.mk HB
  have GN := Aside0.mk hn
  clear HI HB hn
  go_enter Try.func40, Try.ntmps40
  go_wp2_with (first | (go_at_call 49; (with_reducible refine (field_number.less 4 4 rfl g l sh w0 _ GN.out hl (by decide) GI.out GB.out).mono ?_); rintro e w1 ⟨rfl, hI1, hB1, hO1⟩; have GI1 := Aside0.mk hI1; have GB1 := Aside0.mk hB1; have GO1 := Aside0.mk hO1; clear hI1 hB1 hO1))
  refine bodyPost_ret ?_ rfl ⟨rfl, GI1.out, GB1.out, GO1.out⟩
  simp [results, Try.results40, go_sem]

set_option maxHeartbeats 8000000 in
set_option maxRecDepth 100000 in
theorem field_RU64.more (g : Nat) (l : List Int) (w0 w : World) (hn : 8 ≤ l.length) (hl : l.length ≤ 1000000) (HI : RD w0 w g l false) (HB : Below w0.heap.size w0 w) (hb : ∀ x ∈ l, 0 ≤ x ∧ x < 256) :
    Calls Try.prog 41 #[.pointer (some ⟨g, 0, none⟩)] w fun e w' => e = .returned (.int .u64 (numOf (l.take 8))) ∧ RD w0 w' g (l.drop 8) false ∧ Below w0.heap.size w0 w' ∧ OB w w' g := by
  have GI := Aside0.mk HI
  have GB := Aside0.mk HB
  have GN := Aside0.mk hb
  clear HI HB hb
  go_enter Try.func41, Try.ntmps41
  go_wp2_with (first | (go_at_call 49; (with_reducible refine (field_number.more 8 8 rfl g l w0 _ hn hl GI.out GB.out GN.out).mono ?_); rintro e w1 ⟨rfl, hI1, hB1, hO1⟩; have GI1 := Aside0.mk hI1; have GB1 := Aside0.mk hB1; have GO1 := Aside0.mk hO1; clear hI1 hB1 hO1))
  refine bodyPost_ret ?_ rfl ⟨rfl, GI1.out, GB1.out, GO1.out⟩
  simp [results, Try.results41, go_sem]
set_option maxHeartbeats 8000000 in
set_option maxRecDepth 100000 in
theorem field_RU64.less (g : Nat) (l : List Int) (sh : Bool) (w0 w : World) (hn : sh = true ∨ l.length < 8) (hl : l.length ≤ 1000000) (HI : RD w0 w g l sh) (HB : Below w0.heap.size w0 w) :
    Calls Try.prog 41 #[.pointer (some ⟨g, 0, none⟩)] w fun e w' => e = .returned (.int .u64 0) ∧ RD w0 w' g l true ∧ Below w0.heap.size w0 w' ∧ OB w w' g := by
  have GI := Aside0.mk HI
  have GB := Aside0.mk HB
  have GN := Aside0.mk hn
  clear HI HB hn
  go_enter Try.func41, Try.ntmps41
  go_wp2_with (first | (go_at_call 49; (with_reducible refine (field_number.less 8 8 rfl g l sh w0 _ GN.out hl (by decide) GI.out GB.out).mono ?_); rintro e w1 ⟨rfl, hI1, hB1, hO1⟩; have GI1 := Aside0.mk hI1; have GB1 := Aside0.mk hB1; have GO1 := Aside0.mk hO1; clear hI1 hB1 hO1))
  refine bodyPost_ret ?_ rfl ⟨rfl, GI1.out, GB1.out, GO1.out⟩
  simp [results, Try.results41, go_sem]

theorem BY.of_R {w0 W : World} {v : Value} {l : List Int} {ok : Nat → Prop} (h : (Kd.int .u8).R 5 W w0.heap.size ok v l) (hv : v.ownBlock ≠ none) : ∃ b cap : Nat, v = .slice (some ⟨b, 0, none⟩) l.length cap ∧ BY w0 W b 0 cap l := by
  have ho := Kd.own_of_R h
  obtain ⟨h1, h2⟩ := ho
  rcases h2 with ⟨rfl, _⟩ | ⟨b, cap, cur, rfl, hb, hh, hn, hm, hs, ht⟩
  · exact absurd rfl hv
  · refine ⟨b, cap, rfl, cur, hh, hb, hn, fun j x hx => ?_⟩
    have hj : j < l.length := (List.getElem?_eq_some_iff.1 hx).1
    have e1 : (cur.toList.take (l.length * 1))[j]? = some (.int .u8 x) := by rw [ht]; simp [encs, hx]
    rw [Nat.mul_one, List.getElem?_take, if_pos hj] at e1
    rw [Nat.zero_add]
    simpa using e1
set_option maxHeartbeats 8000000 in
set_option maxRecDepth 100000 in
theorem fieldNewR.calls (A : Option Addr) (c : Nat) (l : List Int) (w0 w : World) (hr : Kd.C (Kd.int .u8) w A l.length l) (hl : l.length ≤ 1000000) (HB : Below w0.heap.size w0 w) :
    Calls Try.prog 38 #[.slice A l.length c] w fun e w' => ∃ g : Nat, e = .returned (.pointer (some ⟨g, 0, none⟩)) ∧ RD w0 w' g l false ∧ Below w0.heap.size w0 w' ∧ Below w.heap.size w w' ∧ w.heap.size ≤ g := by
  have GC := Aside0.mk hr
  have GB := Aside0.mk HB
  have hnil : Aside0 ((Kd.int .u8).R 5 (w.alloc (.cells #[] 5)) w.heap.size (fun _ => True) (.slice (some ⟨w.heap.size, 0, none⟩) 0 0) []) := by
    have h2 := World.ownsRow_lit (base := w.heap.size) (e := 5) (size := 1) w #[] 0 (Nat.le_refl _) (by decide) (by simp)
    exact ⟨Kd.R_of_own (xs := []) (by simpa [encs] using h2) (fun _ _ => trivial)⟩
  clear hr HB
  go_enter Try.func38, Try.ntmps38
  go_wp2_with (first | ((with_reducible refine gate_builtin (b := .append) (xs := #[.tmp 3, .tmp 4]) rfl ?_); at_builtin; refine Kd.R_append_rows (Kd.int .u8) (w0 := w) w.heap.size rfl (.tmp 3) (.tmp 4) 24 5 (.int .u8 0) 1 rfl Try.underlying24 (by kernel_rfl) rfl (by decide) (by omega) (.slice (some ⟨w.heap.size, 0, none⟩) 0 0) [] l _ _ _ (fun _ => True) (fun _ => False) rfl rfl ?aO ?aR (fun _ _ h => h) (fun _ h => h.elim) ?aF ?aB ?aS ?aL ?_; (case aO => exact hnil.out); (case aR => exact Kd.C_alloc GC.out _); (case aF => intro _ _; trivial); (case aB => exact below_alloc (Below.refl _ _) _); (case aS => simp); (case aL => simp; omega); intro v1 w1 hR1 hB1 hG1 hat1; have hv1 : v1.ownBlock ≠ none := (by rcases hat1 with e | ⟨b_, e, _⟩ <;> (rw [e]; simp [Value.ownBlock])); obtain ⟨b, cap, rfl, hY⟩ := BY.of_R (by simpa using hR1) hv1; have GY := Aside0.mk hY; have GB1 := Aside0.mk hB1; have GG1 := Aside0.mk hG1; clear hR1 hB1 hG1 hat1 hv1 hY))
  have hg : w.heap.size ≤ w1.heap.size := GB1.out.size
  have GB2 := Aside0.mk (below_step GB.out GB1.out)
  refine bodyPost_ret ?_ rfl ⟨w1.heap.size, rfl, ⟨b, 0, cap, heap_alloc_new w1 _, GB2.out.size, ?_, ?_⟩, below_alloc GB2.out _, below_alloc GB1.out _, hg⟩
  · simp [results, Try.results38, go_sem]
  · obtain ⟨cur, h, _⟩ := GY.out
    have := blk_lt h
    omega
  · obtain ⟨cur, h, h2, h3, h4⟩ := GY.out
    exact ⟨cur, bd3 _ h, Nat.le_trans GB.out.size h2, h3, h4⟩
set_option maxHeartbeats 8000000 in
set_option maxRecDepth 100000 in
theorem field_RDone.calls (g : Nat) (l : List Int) (sh : Bool) (w0 w : World) (hl : l.length ≤ 1000000) (HI : RD w0 w g l sh) :
    Calls Try.prog 43 #[.pointer (some ⟨g, 0, none⟩)] w fun e w' => e = .returned (.int .i64 (if sh then 10 else if l.length = 0 then 0 else 11)) ∧ Drawn0 w w' := by
  obtain ⟨b, off, cap, hv, hg, hne, hY⟩ := HI
  have hc0 : w.cell? ⟨g, 0, none⟩ = some (.slice (some ⟨b, off, none⟩) l.length cap) := (blk_cell hv 0).trans rfl
  have hc1 : w.cell? ⟨g, 1, none⟩ = some (.bool sh) := (blk_cell hv 1).trans rfl
  clear hv hY
  cases sh with
  | true =>
    go_enter Try.func43, Try.ntmps43
    go_wp2
    refine bodyPost_ret ?_ rfl ⟨rfl, ?_⟩
    · simp [results, Try.results43, go_sem]
    · exact ⟨0, rfl⟩
  | false =>
    by_cases h : l.length = 0
    · have d : decide (0 < (l.length : Int)) = false := decide_eq_false (by omega)
      simp only [h, if_true, Bool.false_eq_true, if_false]
      rw [h] at hc0 d
      go_enter Try.func43, Try.ntmps43
      go_wp2
      refine bodyPost_ret ?_ rfl ⟨rfl, ?_⟩
      · simp [results, Try.results43, go_sem]
      · exact ⟨0, rfl⟩
    · have d : decide (0 < (l.length : Int)) = true := decide_eq_true (by omega)
      simp only [h, if_false, Bool.false_eq_true]
      go_enter Try.func43, Try.ntmps43
      go_wp2
      refine bodyPost_ret ?_ rfl ⟨rfl, ?_⟩
      · simp [results, Try.results43, go_sem]
      · exact ⟨0, rfl⟩

theorem u8_same {x : Int} (h0 : 0 ≤ x) (h1 : x < 256) : IntKind.u8.wrap x = x := by
  have : IntKind.u8.wrap x = x % 256 := rfl
  omega
/-- 1 of true -/
def bitI : Bool → Int
  | true => 1
  | false => 0
theorem bit_any (b : Bool) (w : World) : Calls Try.prog 31 #[.bool b] w fun e w' => e = .returned (.int .u8 (bitI b)) ∧ Drawn0 w w' := by
  cases b with
  | true =>
    go_enter Try.func31, Try.ntmps31
    go_wp2
    refine bodyPost_ret ?_ rfl ⟨rfl, ⟨0, rfl⟩⟩
    simp [results, Try.results31, go_sem, bitI]
  | false =>
    go_enter Try.func31, Try.ntmps31
    go_wp2
    refine bodyPost_ret ?_ rfl ⟨rfl, ⟨0, rfl⟩⟩
    simp [results, Try.results31, go_sem, bitI]
set_option maxHeartbeats 8000000 in
set_option maxRecDepth 100000 in
theorem field_Text.calls (A : Option Addr) (c : Nat) (l2 : List Int) (g : Nat) (l : List Int) (w0 w : World) (hC : Kd.C (Kd.int .u8) w0 A l2.length l2) (h2 : l2.length ≤ 255) (hl : l.length + 300 ≤ 1000000) (HI : WR w0 w g l false) (HB : Below w0.heap.size w0 w) :
    Calls Try.prog 32 #[.pointer (some ⟨g, 0, none⟩), .slice A l2.length c] w fun e w' => e = .returned (.pointer (some ⟨g, 0, none⟩)) ∧ WR w0 w' g (l ++ bigE (l2.length : Int) 1 ++ l2) false ∧ Below w0.heap.size w0 w' ∧ WF w w' g := by
  have HI0 := Aside0.mk HI
  have HB0 := Aside0.mk HB
  have GC := Aside0.mk hC
  have c0 : decide (255 < (l2.length : Int)) = false := decide_eq_false (by omega)
  have fw : IntKind.u8.wrap (l2.length : Int) = (l2.length : Int) := u8_same (by omega) (by omega)
  have G1 := Aside0.mk (show (0 : Int) ≤ (l2.length : Int) by omega)
  have G2 := Aside0.mk (show (l2.length : Int) < 256 by omega)
  have G3 := Aside0.mk (show l.length + 8 ≤ 1000000 by omega)
  have G4 := Aside0.mk (show ((l ++ bigE (l2.length : Int) 1).length + l2.length) * 1 ≤ 140737488355328 by simp [bigE]; omega)
  clear HI HB hC
  go_enter Try.func32, Try.ntmps32
  go_wp2_with (first | (go_at_call 28; (with_reducible refine (field_U8.calls (l2.length : Int) g l false w0 _ G1.out G2.out G3.out ?a1 ?a2).mono ?_); (case a1 => exact HI0.out); (case a2 => exact HB0.out); rintro e w1 ⟨rfl, hWR, hBB, hF⟩; obtain ⟨v, hv, hg, hR⟩ := hWR; have GR := Aside0.mk hR; have GB := Aside0.mk hBB; have GF := Aside0.mk hF; have GV := Aside0.mk hv; have GG := Aside0.mk hg; have hc0 : w1.cell? ⟨g, 0, none⟩ = some v := (blk_cell hv 0).trans rfl; have hf0 : w1.frozen? ⟨g, 0, none⟩ = false := blk_frozen hv 0; clear hR hBB hF hv hg) | ((with_reducible refine gate_builtin (b := .append) (xs := #[.tmp 25, .tmp 26]) rfl ?_); at_builtin; refine Kd.R_append_rows (Kd.int .u8) (w0 := w0) w0.heap.size rfl (.tmp 25) (.tmp 26) 24 5 (.int .u8 0) 1 rfl Try.underlying24 (by kernel_rfl) rfl (by decide) (by omega) v (l ++ bigE (l2.length : Int) 1) l2 _ _ _ (fun k => k ≠ g) (fun _ => False) rfl rfl ?aO ?aR (fun _ _ h => h) (fun _ h => h.elim) ?aF ?aB ?aS ?aL ?_; (case aO => exact GR.out); (case aR => exact Kd.C_below GC.out GB.out); (case aF => intro k hk; have := blk_lt GV.out; omega); (case aB => exact GB.out); (case aS => exact GB.out.size); (case aL => exact G4.out); intro v1 w2 hR2 hB2 hG2 hat2; obtain ⟨A1, c1, hv1⟩ : ∃ A c, v1 = .slice A (l ++ bigE (l2.length : Int) 1 ++ l2).length c := (by obtain ⟨_, inner, ho, _⟩ := hR2; exact own_slice ho); subst hv1; generalize hm : (l ++ bigE (l2.length : Int) 1 ++ l2).length = m1 at hR2 ⊢; have hv2 := blk_grown GV.out hG2 (Kd.R_away GR.out (fun k hk => hk)); have GR2 := Aside0.mk hR2; have GB2 := Aside0.mk hB2; have GG2 := Aside0.mk hG2; have GV2 := Aside0.mk hv2; have hc2 : w2.cell? ⟨g, 0, none⟩ = some v := (blk_cell hv2 0).trans rfl; have hf2 : w2.frozen? ⟨g, 0, none⟩ = false := blk_frozen hv2 0; have GH := Aside0.mk hm; clear hm hR2 hB2 hG2 hat2 hv2 hc0 hf0))
  refine bodyPost_ret ?_ rfl ⟨rfl, ⟨_, blk_put (cs' := #[.slice A1 m1 c1, .bool false]) GV2.out 0 _ rfl, GG.out, Kd.R_far GR2.out (fun k hk => hk) _⟩, below_set GB2.out GG.out, ?_, ?_⟩
  · simp [results, Try.results32, go_sem]
  · have h1 := GF.out.1
    have h2 := GG2.out.size
    simp
    omega
  · intro k hk hkg hty
    have h1 := GF.out.1
    refine (Below.heap_setCell w2 _ _ k hkg).trans ((GG2.out.block k (by omega) (fun e => ?_)).trans (GF.out.2 k hk hkg hty))
    obtain ⟨_, inner, ho, _⟩ := GR.out
    obtain ⟨cells, hc2⟩ := own_typed ho k e.symm
    exact hty _ _ ((GF.out.2 k hk hkg hty).symm.trans hc2)

theorem WF.keep {w w' : World} {g b : Nat} {cs : Array Value} {t : TypeId} {fr : Nat × Nat} (hF : WF w w' g) (h : w.heap[b]? = some (.cells cs t fr)) (ht : t ≠ 5) (hb : b ≠ g) : w'.heap[b]? = some (.cells cs t fr) :=
  (hF.2 b (blk_lt h) hb (fun cs' fr' e => ht (by rw [h] at e; injection e with e; injection e))).trans h
/-! ### readers, whether there are enough bytes or not -/
abbrev RS := List Int × Bool
def rdHas (n : Nat) (s : RS) : Bool := !s.2 && decide (n ≤ s.1.length)
def rdN (n : Nat) (s : RS) : RS := bif rdHas n s then (s.1.drop n, false) else (s.1, true)
def rd1 (s : RS) : Int := bif rdHas 1 s then numOf (s.1.take 1) % 256 else 0
def rd4 (s : RS) : Int := bif rdHas 4 s then numOf (s.1.take 4) % 4294967296 else 0
def rd8 (s : RS) : Int := bif rdHas 8 s then numOf (s.1.take 8) else 0
def bytesIn (l : List Int) : Prop := ∀ x ∈ l, 0 ≤ x ∧ x < 256
def RDB (w0 W : World) (g : Nat) (s : RS) : Prop := RD w0 W g s.1 s.2 ∧ s.1.length ≤ 1000000 ∧ bytesIn s.1
theorem rdHas_not {n : Nat} {s : RS} (h : rdHas n s = false) : s.2 = true ∨ s.1.length < n := by
  unfold rdHas at h
  cases hs : s.2 with
  | true => exact .inl rfl
  | false => rw [hs] at h; exact .inr (by simpa using h)
theorem rdHas_so {n : Nat} {s : RS} (h : rdHas n s = true) : s.2 = false ∧ n ≤ s.1.length := by
  unfold rdHas at h
  simpa using h
theorem RDB.more {w0 W : World} {g n : Nat} {s : RS} (h : rdHas n s = true) (hs : s.1.length ≤ 1000000) (hb : bytesIn s.1) (hR : RD w0 W g (s.1.drop n) false) : RDB w0 W g (rdN n s) := by
  unfold rdN
  rw [h]
  exact ⟨hR, by simp; omega, fun x hx => hb x (List.mem_of_mem_drop hx)⟩
theorem RDB.less {w0 W : World} {g n : Nat} {s : RS} (h : rdHas n s = false) (hs : s.1.length ≤ 1000000) (hb : bytesIn s.1) (hR : RD w0 W g s.1 true) : RDB w0 W g (rdN n s) := by
  unfold rdN
  rw [h]
  exact ⟨hR, hs, hb⟩
theorem field_R8 (g : Nat) (s : RS) (w0 w : World) (HI : RDB w0 w g s) (HB : Below w0.heap.size w0 w) :
    Calls Try.prog 39 #[.pointer (some ⟨g, 0, none⟩)] w fun e w' => e = .returned (.int .u8 (rd1 s)) ∧ RDB w0 w' g (rdN 1 s) ∧ Below w0.heap.size w0 w' ∧ OB w w' g := by
  obtain ⟨hR, hl, hb⟩ := HI
  cases h : rdHas 1 s with
  | true =>
    obtain ⟨h1, h2⟩ := rdHas_so h
    rw [h1] at hR
    refine (field_RU8.more g s.1 w0 w h2 hl hR HB hb).mono ?_
    rintro e w' ⟨rfl, h3, h4, h5⟩
    refine ⟨?_, RDB.more h hl hb h3, h4, h5⟩
    unfold rd1
    rw [h]
    rfl
  | false =>
    refine (field_RU8.less g s.1 s.2 w0 w (rdHas_not h) hl hR HB).mono ?_
    rintro e w' ⟨rfl, h3, h4, h5⟩
    refine ⟨?_, RDB.less h hl hb h3, h4, h5⟩
    unfold rd1
    rw [h]
    rfl
theorem field_R32 (g : Nat) (s : RS) (w0 w : World) (HI : RDB w0 w g s) (HB : Below w0.heap.size w0 w) :
    Calls Try.prog 40 #[.pointer (some ⟨g, 0, none⟩)] w fun e w' => e = .returned (.int .u32 (rd4 s)) ∧ RDB w0 w' g (rdN 4 s) ∧ Below w0.heap.size w0 w' ∧ OB w w' g := by
  obtain ⟨hR, hl, hb⟩ := HI
  cases h : rdHas 4 s with
  | true =>
    obtain ⟨h1, h2⟩ := rdHas_so h
    rw [h1] at hR
    refine (field_RU32.more g s.1 w0 w h2 hl hR HB hb).mono ?_
    rintro e w' ⟨rfl, h3, h4, h5⟩
    refine ⟨?_, RDB.more h hl hb h3, h4, h5⟩
    unfold rd4
    rw [h]
    rfl
  | false =>
    refine (field_RU32.less g s.1 s.2 w0 w (rdHas_not h) hl hR HB).mono ?_
    rintro e w' ⟨rfl, h3, h4, h5⟩
    refine ⟨?_, RDB.less h hl hb h3, h4, h5⟩
    unfold rd4
    rw [h]
    rfl
theorem field_R64 (g : Nat) (s : RS) (w0 w : World) (HI : RDB w0 w g s) (HB : Below w0.heap.size w0 w) :
    Calls Try.prog 41 #[.pointer (some ⟨g, 0, none⟩)] w fun e w' => e = .returned (.int .u64 (rd8 s)) ∧ RDB w0 w' g (rdN 8 s) ∧ Below w0.heap.size w0 w' ∧ OB w w' g := by
  obtain ⟨hR, hl, hb⟩ := HI
  cases h : rdHas 8 s with
  | true =>
    obtain ⟨h1, h2⟩ := rdHas_so h
    rw [h1] at hR
    refine (field_RU64.more g s.1 w0 w h2 hl hR HB hb).mono ?_
    rintro e w' ⟨rfl, h3, h4, h5⟩
    refine ⟨?_, RDB.more h hl hb h3, h4, h5⟩
    unfold rd8
    rw [h]
    rfl
  | false =>
    refine (field_RU64.less g s.1 s.2 w0 w (rdHas_not h) hl hR HB).mono ?_
    rintro e w' ⟨rfl, h3, h4, h5⟩
    refine ⟨?_, RDB.less h hl hb h3, h4, h5⟩
    unfold rd8
    rw [h]
    rfl
theorem RDB.alloc {w0 W : World} {g : Nat} {s : RS} (h : RDB w0 W g s) (o : Obj) : RDB w0 (W.alloc o) g s := by
  obtain ⟨⟨b, off, cap, h1, h2, h3, cur, h4, h5⟩, h6⟩ := h
  exact ⟨⟨b, off, cap, bd3 _ h1, h2, h3, cur, bd3 _ h4, h5⟩, h6⟩
theorem RDB.drewN {w0 W : World} {g : Nat} {s : RS} (h : RDB w0 W g s) (n : Nat) : RDB w0 (W.drewN n) g s := by
  obtain ⟨⟨b, off, cap, h1, h2, h3, cur, h4, h5⟩, h6⟩ := h
  exact ⟨⟨b, off, cap, bd1 n h1, h2, h3, cur, bd1 n h4, h5⟩, h6⟩

theorem RDB.lt {w0 W : World} {g : Nat} {s : RS} (h : RDB w0 W g s) : g < W.heap.size := by
  obtain ⟨⟨b, off, cap, h1, h2, h3, cur, h4, h5⟩, h6⟩ := h
  exact blk_lt h1

theorem RDB.set {w0 W : World} {g k i : Nat} {s : RS} {cs : Array Value} (h : RDB w0 W g s) (he : W.heap[k]? = some (.cells cs 26 (0, 0))) (u : Value) : RDB w0 (W.setCell ⟨k, i, none⟩ u) g s := by
  obtain ⟨⟨b, off, cap, h1, h2, h3, cur, h4, h5⟩, h6⟩ := h
  exact ⟨⟨b, off, cap, blk_far h1 (blk_ne h1 he (by decide)) u, h2, h3, cur, blk_far h4 (blk_ne h4 he (by decide)) u, h5⟩, h6⟩
theorem OB.keep {w w' : World} {g b : Nat} {o : Obj} (hO : OB w w' g) (h : w.heap[b]? = some o) (hb : b ≠ g) : w'.heap[b]? = some o := (hO.2 b (blk_lt h) hb).trans h
/-- how it ended -/
def doneI (s : RS) : Int := if s.2 then 10 else if s.1.length = 0 then 0 else 11
theorem field_RD (g : Nat) (s : RS) (w0 w : World) (HI : RDB w0 w g s) :
    Calls Try.prog 43 #[.pointer (some ⟨g, 0, none⟩)] w fun e w' => e = .returned (.int .i64 (doneI s)) ∧ Drawn0 w w' := field_RDone.calls g s.1 s.2 w0 w HI.2.1 HI.1
/-- a text: how many bytes, and they -/
def txN (s : RS) : Nat := 1 + (s.1.headD 0).toNat
def rdT (s : RS) : List Int := bif rdHas (txN s) s then (s.1.take (txN s)).drop 1 else []
theorem BY.row {w0 W : World} {b off cap : Nat} {l : List Int} (h : BY w0 W b off cap l) (hl : l.length ≤ 1000000) : Kd.C (Kd.int .u8) W (some ⟨b, off, none⟩) l.length l := by
  refine Kd.C_of_reads (d := 0) ⟨rfl, by omega, fun hn => ⟨_, rfl, fun j hj => ?_⟩⟩
  obtain ⟨x, hx⟩ : ∃ x, l[j]? = some x := ⟨l[j], by simp [hj]⟩
  have := BY.at_ h hx
  rw [List.getD_eq_getElem?_getD, hx]
  cases j with
  | zero => simpa [Addr.add] using this
  | succ j => simpa [Addr.add] using this
theorem BY.row1 {w0 W : World} {b off cap m : Nat} {l : List Int} (h : BY w0 W b off cap (l.take m)) (hm : (l.take m).length = m) (hl : m ≤ 1000000) : Kd.C (Kd.int .u8) W (some ⟨b, off + 1, none⟩) (m - 1) ((l.take m).drop 1) := by
  by_cases h0 : 1 ≤ m
  · have h1 := BY.row (BY.drop h (n := 1) (by omega)) (by simp only [List.length_drop]; omega)
    rwa [List.length_drop, hm] at h1
  · have e : m = 0 := by omega
    subst e
    exact ⟨by simp, by omega, fun h => absurd h (by omega)⟩
theorem BY.row0 {W : World} {m : Nat} {l : List Int} (A : Option Addr) (h : m - 1 = 0) (hm : (l.take m).length = m) : Kd.C (Kd.int .u8) W A (m - 1) ((l.take m).drop 1) :=
  ⟨by simp only [List.length_drop, hm], by omega, fun h2 => absurd h2 (by omega)⟩
theorem RDB.below {w0 W W2 : World} {g : Nat} {s : RS} (h : RDB w0 W g s) (hb : Below W.heap.size W W2) : RDB w0 W2 g s := by
  obtain ⟨⟨b, off, cap, h1, h2, h3, cur, h4, h5⟩, h6⟩ := h
  exact ⟨⟨b, off, cap, blk_below h1 hb, h2, h3, cur, blk_below h4 hb, h5⟩, h6⟩
theorem OB.below {w w1 w2 : World} {g : Nat} (h : OB w w1 g) (hb : Below w1.heap.size w1 w2) : OB w w2 g :=
  ⟨Nat.le_trans h.1 hb.size, fun k hk hg => (hb.block k (by have := h.1; omega)).trans (h.2 k hk hg)⟩
set_option maxHeartbeats 8000000 in
set_option maxRecDepth 100000 in
theorem field_RText (g : Nat) (s : RS) (w0 w : World) (HI : RDB w0 w g s) (HB : Below w0.heap.size w0 w) :
    Calls Try.prog 42 #[.pointer (some ⟨g, 0, none⟩)] w fun e w' => ∃ v : Value, e = .returned v ∧ Kd.R (Kd.int .u8) 5 w' w.heap.size (fun _ => True) v (rdT s) ∧ RDB w0 w' g (rdN (txN s) s) ∧ Below w0.heap.size w0 w' ∧ OB w w' g := by
  obtain ⟨l, sh⟩ := s
  have GI := Aside0.mk HI.1
  have GL := Aside0.mk HI.2.1
  have GN := Aside0.mk HI.2.2
  have GB := Aside0.mk HB
  obtain ⟨⟨b, off, cap, hv, hg, hne, hY⟩, hl, hb⟩ := HI
  have hc0 : w.cell? ⟨g, 0, none⟩ = some (.slice (some ⟨b, off, none⟩) l.length cap) := (blk_cell hv 0).trans rfl
  have hf0 : w.frozen? ⟨g, 0, none⟩ = false := blk_frozen hv 0
  have hgl := blk_lt hv
  clear HB
  cases l with
  | nil =>
    have d1 : decide (0 < ((([] : List Int).length : Nat) : Int)) = false := rfl
    clear hv hg hne hY hb hl
    go_enter Try.func42, Try.ntmps42
    go_wp2_with (first | (go_at_call 50; (with_reducible refine (field_take.less 1 1 rfl g [] sh w0 _ (.inr (by decide)) GL.out (by decide) GI.out GB.out).mono ?_); rintro e w1 ⟨rfl, hI1, hB1, hO1⟩; have GI1 := Aside0.mk hI1; have GB1 := Aside0.mk hB1; have GO1 := Aside0.mk hO1; clear hI1 hB1 hO1))
    have e1 : rdHas (txN (([] : List Int), sh)) (([] : List Int), sh) = false := by cases sh <;> rfl
    refine bodyPost_ret ?_ rfl ⟨.slice none 0 0, rfl, ?_, RDB.less e1 GL.out GN.out GI1.out, GB1.out, GO1.out⟩
    · simp [results, Try.results42, go_sem]
    · have e2 : rdT (([] : List Int), sh) = [] := by unfold rdT; rw [e1]; rfl
      rw [e2]
      exact Kd.R_nil _ _ _ _ _
  | cons x r =>
    have hx := hb x (List.mem_cons_self ..)
    have hcell : w.cell? ⟨b, off, none⟩ = some (.int .u8 x) := by have := hY.at_ (j := 0) (x := x) rfl; simpa using this
    obtain ⟨n, hn⟩ : ∃ n, n = (x :: r).length := ⟨_, rfl⟩
    have hn1 : 0 < n := by rw [hn, List.length_cons]; omega
    rw [← hn] at hc0
    have d1 : decide (0 < (n : Int)) = true := decide_eq_true (by omega)
    have d2 : decide (0 < n) = true := decide_eq_true hn1
    have f2 : wrap64 x = x := by unfold wrap64; omega
    have f1 : IntKind.i64.wrap x = x := (i64_w x).trans f2
    have f3 : wrap64 (1 + x) = 1 + x := by unfold wrap64; omega
    have hz : (1 + x : Int) = ((txN ((x :: r), sh) : Nat) : Int) := by simp [txN]; omega
    have hn2 : txN ((x :: r), sh) ≤ 1000000 := by simp [txN]; omega
    have HZ := Aside0.mk hz
    have HM := Aside0.mk hn2
    clear hz hn2
    have hcb : (0 : Int) < (n : Int) := by omega
    have HN := Aside0.mk hn
    clear hn
    clear hv hg hne hY hb hl hx
    cases e1 : rdHas (txN ((x :: r), sh)) ((x :: r), sh) with
    | false =>
      have E1 := Aside0.mk e1
      clear e1
      go_enter Try.func42, Try.ntmps42
      go_wp2_with (first | (go_at_call 50; (with_reducible refine (field_take.less (txN ((x :: r), sh)) (1 + x) HZ.out g (x :: r) sh w0 _ (rdHas_not E1.out) GL.out HM.out GI.out GB.out).mono ?_); rintro e w1 ⟨rfl, hI1, hB1, hO1⟩; have GI1 := Aside0.mk hI1; have GB1 := Aside0.mk hB1; have GO1 := Aside0.mk hO1; clear hI1 hB1 hO1))
      refine bodyPost_ret ?_ rfl ⟨.slice none 0 0, rfl, ?_, RDB.less E1.out GL.out GN.out GI1.out, GB1.out, GO1.out⟩
      · simp [results, Try.results42, go_sem]
      · have e2 : rdT ((x :: r), sh) = [] := by unfold rdT; rw [E1.out]; rfl
        rw [e2]
        exact Kd.R_nil _ _ _ _ _
    | true =>
      obtain ⟨hs1, hs2⟩ := rdHas_so e1
      have E1 := Aside0.mk e1
      have E2 := Aside0.mk hs2
      obtain rfl : sh = false := hs1
      have GT := Aside0.mk (show (((x :: r).take (txN ((x :: r), false))).length : Nat) = txN ((x :: r), false) by rw [List.length_take]; exact Nat.min_eq_left hs2)
      have ht1 : 1 ≤ txN ((x :: r), false) := by simp [txN]
      clear e1 hs2
      generalize hm : txN ((x :: r), false) = m at *
      have HX := Aside0.mk hm
      clear hm
      have p1 : decide ((m : Int) = 0) = false := decide_eq_false (by omega)
      have p2 : ((m : Int) == 0) = false := beq_eq_false_iff_ne.mpr (by omega)
      have p3 : (m == 0) = false := beq_eq_false_iff_ne.mpr (by omega)
      have p4 : (1 : Int) ≤ (m : Int) := by omega
      have hnil : ∀ W : World, Aside0 ((Kd.int .u8).R 5 (W.alloc (.cells #[] 5)) W.heap.size (fun _ => True) (.slice (some ⟨W.heap.size, 0, none⟩) 0 0) []) := by
        intro W
        have h2 := World.ownsRow_lit (base := W.heap.size) (e := 5) (size := 1) W #[] 0 (Nat.le_refl _) (by decide) (by simp)
        exact ⟨Kd.R_of_own (xs := []) (by simpa [encs] using h2) (fun _ _ => trivial)⟩
      have Hnil := Aside0.mk hnil
      clear hnil
      go_enter Try.func42, Try.ntmps42
      go_upto_region 9 with (first | (go_at_call 50; (with_reducible refine (field_take.more m (1 + x) HZ.out g (x :: r) w0 _ E2.out GL.out GI.out GB.out).mono ?_); rintro e w1 ⟨b1, off1, cap1, rfl, hY1, hI1, hB1, hO1⟩; rw [GT.out]; have hcap : m ≤ cap1 := (by obtain ⟨_, _, _, hh, _⟩ := hY1; rw [GT.out] at hh; exact hh); have q1 : (m : Int) ≤ (cap1 : Int) := (by omega); have GY1 := Aside0.mk hY1; have GI1 := Aside0.mk hI1; have GB1 := Aside0.mk hB1; have GO1 := Aside0.mk hO1; clear hY1 hI1 hB1 hO1))
      by_cases hcp : cap1 = 1
      · have hm1 : m - 1 = 0 := by omega
        have HM1 := Aside0.mk hm1
        clear hm1
        go_wp2_with (first | ((with_reducible refine gate_builtin (b := .append) (xs := #[.tmp 28, .tmp 30]) rfl ?_); at_builtin; refine Kd.R_append_rows (Kd.int .u8) (w0 := w1) w1.heap.size rfl (.tmp 28) (.tmp 30) 24 5 (.int .u8 0) 1 rfl Try.underlying24 (by kernel_rfl) rfl (by decide) (by omega) (.slice (some ⟨w1.heap.size, 0, none⟩) 0 0) [] (((x :: r).take m).drop 1) _ _ _ (fun _ => True) (fun _ => False) rfl rfl ?aO ?aR (fun _ _ h => h) (fun _ h => h.elim) ?aF ?aB ?aS ?aL ?_; (case aO => exact (Hnil.out w1).out); (case aR => exact Kd.C_alloc (BY.row0 _ HM1.out GT.out) _); (case aF => intro _ _; trivial); (case aB => exact below_alloc (Below.refl _ _) _); (case aS => simp); (case aL => have := HM.out; simp; omega); intro v1 w2 hR2 hB2 hG2 hat2; have GR2 := Aside0.mk hR2; have GB2 := Aside0.mk hB2; clear hR2 hB2 hG2 hat2))
        refine bodyPost_ret ?_ rfl ⟨v1, rfl, ?_, RDB.below (RDB.more E1.out GL.out GN.out GI1.out) GB2.out, below_step GB1.out GB2.out, OB.below GO1.out GB2.out⟩
        · simp [results, Try.results42, go_sem]
        · have e2 : rdT ((x :: r), false) = ((x :: r).take m).drop 1 := by unfold rdT; rw [HX.out, E1.out]; rfl
          rw [e2]
          exact Kd.R_lower GR2.out GO1.out.1
      · go_wp2_with (first | ((with_reducible refine gate_builtin (b := .append) (xs := #[.tmp 28, .tmp 30]) rfl ?_); at_builtin; refine Kd.R_append_rows (Kd.int .u8) (w0 := w1) w1.heap.size rfl (.tmp 28) (.tmp 30) 24 5 (.int .u8 0) 1 rfl Try.underlying24 (by kernel_rfl) rfl (by decide) (by omega) (.slice (some ⟨w1.heap.size, 0, none⟩) 0 0) [] (((x :: r).take m).drop 1) _ _ _ (fun _ => True) (fun _ => False) rfl rfl ?aO ?aR (fun _ _ h => h) (fun _ h => h.elim) ?aF ?aB ?aS ?aL ?_; (case aO => exact (Hnil.out w1).out); (case aR => exact Kd.C_alloc (BY.row1 GY1.out GT.out HM.out) _); (case aF => intro _ _; trivial); (case aB => exact below_alloc (Below.refl _ _) _); (case aS => simp); (case aL => have := HM.out; simp; omega); intro v1 w2 hR2 hB2 hG2 hat2; have GR2 := Aside0.mk hR2; have GB2 := Aside0.mk hB2; clear hR2 hB2 hG2 hat2))
        refine bodyPost_ret ?_ rfl ⟨v1, rfl, ?_, RDB.below (RDB.more E1.out GL.out GN.out GI1.out) GB2.out, below_step GB1.out GB2.out, OB.below GO1.out GB2.out⟩
        · simp [results, Try.results42, go_sem]
        · have e2 : rdT ((x :: r), false) = ((x :: r).take m).drop 1 := by unfold rdT; rw [HX.out, E1.out]; rfl
          rw [e2]
          exact Kd.R_lower GR2.out GO1.out.1
theorem rd1_range (s : RS) : 0 ≤ rd1 s ∧ rd1 s < 256 := by
  unfold rd1
  cases rdHas 1 s with
  | true => simp only [cond_true]; omega
  | false => simp
/-- a part's bytes -/
def partB (ep ol ls ti o st : Int) (un : Bool) (co : Int) (l9 l10 : List Int) (q : Int) : List Int :=
  if q = 69 then bigE ep 4 else if q = 80 then bigE ol 4 else if q = 76 then bigE ls 8 else if q = 84 then bigE ti 8 else if q = 79 then bigE o 4 else if q = 83 then bigE st 1 else if q = 85 then bigE (bitI un) 1 else if q = 67 then bigE co 1 else if q = 75 then bigE (l9.length : Int) 1 ++ l9 else if q = 68 then bigE (l10.length : Int) 1 ++ l10 else []
def letterAt (s : ByteArray) (n : Nat) : Int := (((s.data[n]?).map UInt8.toNat).getD 0 : Nat)
theorem letterAt_is {s : ByteArray} {n : Nat} (h : n < s.size) : letterAt s n = (((s[n]'h).toNat : Nat) : Int) := by
  have h2 : n < s.data.size := h
  have e : s.data[n]? = some (s[n]'h) := by rw [Array.getElem?_eq_getElem h2]; rfl
  simp [letterAt, e]
/-- the bytes of the first parts -/
def noteB (s : ByteArray) (k ep ol ls ti o st : Int) (un : Bool) (co : Int) (l9 l10 : List Int) : Nat → List Int
  | 0 => [] ++ bigE k 1
  | n + 1 => noteB s k ep ol ls ti o st un co l9 l10 n ++ partB ep ol ls ti o st un co l9 l10 (letterAt s n)
theorem bigE_size (n : Int) (s : Nat) : (bigE n s).length = s := by simp [bigE]
theorem partB_len {ep ol ls ti o st : Int} {un : Bool} {co : Int} {l9 l10 : List Int} (h9 : l9.length ≤ 255) (h10 : l10.length ≤ 255) (q : Int) : (partB ep ol ls ti o st un co l9 l10 q).length ≤ 256 := by
  unfold partB
  repeat' split
  all_goals simp [bigE_size] <;> omega
theorem noteB_len (s : ByteArray) {k ep ol ls ti o st : Int} {un : Bool} {co : Int} {l9 l10 : List Int} (h9 : l9.length ≤ 255) (h10 : l10.length ≤ 255) : ∀ n, (noteB s k ep ol ls ti o st un co l9 l10 n).length ≤ 1 + 256 * n ∧ 0 < (noteB s k ep ol ls ti o st un co l9 l10 n).length
  | 0 => by simp [noteB, bigE_size]
  | n + 1 => by
    have := noteB_len s (k := k) (ep := ep) (ol := ol) (ls := ls) (ti := ti) (o := o) (st := st) (un := un) (co := co) h9 h10 n
    have h := partB_len (ep := ep) (ol := ol) (ls := ls) (ti := ti) (o := o) (st := st) (un := un) (co := co) h9 h10 (letterAt s n)
    simp only [noteB, List.length_append]
    omega
theorem names_size (k : Int) : (nameStr k).size ≤ 6 := by
  unfold nameStr
  by_cases h1 : k = 1
  · rw [if_pos h1]; decide
  rw [if_neg h1]
  by_cases h2 : k = 2
  · rw [if_pos h2]; decide
  rw [if_neg h2]
  by_cases h3 : k = 3
  · rw [if_pos h3]; decide
  rw [if_neg h3]
  by_cases h4 : k = 4
  · rw [if_pos h4]; decide
  rw [if_neg h4]
  by_cases h6 : k = 6
  · rw [if_pos h6]; decide
  rw [if_neg h6]
  by_cases h5 : k = 5
  · rw [if_pos h5]; decide
  rw [if_neg h5]
  by_cases h7 : k = 7
  · rw [if_pos h7]; decide
  rw [if_neg h7]
  by_cases h8 : k = 8
  · rw [if_pos h8]; decide
  rw [if_neg h8]
  by_cases h9 : k = 9
  · rw [if_pos h9]; decide
  rw [if_neg h9]
  by_cases h10 : k = 10
  · rw [if_pos h10]; decide
  rw [if_neg h10]
  by_cases h11 : k = 11
  · rw [if_pos h11]; decide
  rw [if_neg h11]
  by_cases h12 : k = 12
  · rw [if_pos h12]; decide
  rw [if_neg h12]
  by_cases h13 : k = 13
  · rw [if_pos h13]; decide
  rw [if_neg h13]
  decide
/-- the writer, where no cells have changed -/
theorem WR.step {w0 W W1 : World} {g : Nat} {l : List Int} {sp : Bool} (h : WR w0 W g l sp) (hm : ∀ (k : Nat) (cs : Array Value) (t : TypeId), W.heap[k]? = some (Obj.cells cs t (0, 0)) → W1.heap[k]? = W.heap[k]?) : WR w0 W1 g l sp := by
  obtain ⟨v, hv, hg, hR⟩ := h
  refine ⟨v, (hm _ _ _ hv).trans hv, hg, Kd.R_mono (Kd.R_step (Kd.R_bound hR) (fun k hk _ => ?_)) (fun k hk => hk.1)⟩
  obtain ⟨_, _, _, q, _, cs, hc⟩ := hk
  exact hm _ _ _ hc
theorem WF.other {w w' : World} {g b : Nat} {o : Obj} (hF : WF w w' g) (h : w.heap[b]? = some o) (ho : ∀ (cs : Array Value) (fr : Nat × Nat), o ≠ Obj.cells cs 5 fr) (hb : b ≠ g) : w'.heap[b]? = some o :=
  (hF.2 b (blk_lt h) hb (fun cs' fr' e => ho cs' fr' (by rw [h] at e; exact Option.some.inj e))).trans h
/-- a note that may be: its numbers -/
theorem note_fits {k ep ol ls ti o st : Int} {un : Bool} {co : Int} {n9 n10 : Nat} (h : noteBad k ep ol ls ti o st un co n9 n10 = false) : 1 ≤ k ∧ k ≤ 13 ∧ 0 ≤ st ∧ st < 16 ∧ 0 ≤ co ∧ co ≤ 255 ∧ n9 ≤ 32 ∧ n10 ≤ 255 := by
  unfold noteBad at h
  simp only [Bool.or_eq_false_iff, farB, decide_eq_false_iff_not] at h
  obtain ⟨⟨⟨h1, _⟩, h2⟩, _⟩ := h
  have hk : 1 ≤ k ∧ k ≤ 13 := by
    by_cases c : 1 ≤ k ∧ k ≤ 13
    · exact c
    · exfalso
      apply h1
      unfold nameStr
      rw [if_neg (by omega), if_neg (by omega), if_neg (by omega), if_neg (by omega), if_neg (by omega), if_neg (by omega), if_neg (by omega), if_neg (by omega), if_neg (by omega), if_neg (by omega), if_neg (by omega), if_neg (by omega), if_neg (by omega)]
      rfl
  omega
def note_Put.T4 : Bool × List (List Nat × List Nat) := (true, [([], []), ([], []), ([1], [1]), ([2], [2]), ([0, 3, 0], [0, 3]), ([4, 4, 0, 1, 2, 3, 4], [4])])
def note_Put.B4 : List Nat := [0, 0, 2, 6, 15, 31]
theorem note_Put.tab4 : rtab .any (opsOf Try.f13 4) = note_Put.T4 := by kernel_rfl
theorem note_Put.bits4 : waitsOk note_Put.T4.2 note_Put.B4 = true := by kernel_rfl
theorem WR.alloc {w0 W : World} {g : Nat} {l : List Int} {sp : Bool} (h : WR w0 W g l sp) (o : Obj) : WR w0 (W.alloc o) g l sp :=
  h.step (fun k cs t hc => (bd3 o hc).trans hc.symm)
theorem WR.lt {w0 W : World} {g : Nat} {l : List Int} {sp : Bool} (h : WR w0 W g l sp) : g < W.heap.size := by
  obtain ⟨v, hv, _⟩ := h; exact blk_lt hv
set_option maxHeartbeats 40000000 in
set_option maxRecDepth 100000 in
theorem note_put_ok (k ep ol ls ti o st : Int) (un : Bool) (co : Int) (A9 : Option Addr) (c9 : Nat) (l9 : List Int) (A10 : Option Addr) (c10 : Nat) (l10 : List Int) (w : World) (hok : noteBad k ep ol ls ti o st un co l9.length l10.length = false) (hep0 : 0 ≤ ep) (hep1 : ep < 4294967296) (hol0 : 0 ≤ ol) (hol1 : ol < 4294967296) (hls0 : 0 ≤ ls) (hls1 : ls < 18446744073709551616) (hti0 : 0 ≤ ti) (hti1 : ti < 18446744073709551616) (ho0 : 0 ≤ o) (ho1 : o < 4294967296) (hC9 : Kd.C (Kd.int .u8) w A9 l9.length l9) (hc9 : l9.length ≤ c9) (hC10 : Kd.C (Kd.int .u8) w A10 l10.length l10) (hc10 : l10.length ≤ c10) : Calls Try.prog 13 #[.agg #[.int .i64 k, .int .u32 ep, .int .u32 ol, .int .u64 ls, .int .u64 ti, .int .u32 o, .int .i64 st, .bool un, .int .i64 co, .slice A9 l9.length c9, .slice A10 l10.length c10]] w fun e w' => ∃ v0_ : Value, e = .returned (.tuple #[v0_, .int .i64 0]) ∧ Kd.R (Kd.int .u8) 5 w' w.heap.size (fun _ => True) v0_ (noteB (nameStr k) k ep ol ls ti o st un co l9 l10 (nameStr k).size) ∧ Below w.heap.size w w' := by
  obtain ⟨k0, k1, hst0, hst1, hco0, hco1, h9, h10⟩ := note_fits hok
  have Gep0 := Aside0.mk hep0
  have Gep1 := Aside0.mk hep1
  have Gol0 := Aside0.mk hol0
  have Gol1 := Aside0.mk hol1
  have Gls0 := Aside0.mk hls0
  have Gls1 := Aside0.mk hls1
  have Gti0 := Aside0.mk hti0
  have Gti1 := Aside0.mk hti1
  have Go0 := Aside0.mk ho0
  have Go1 := Aside0.mk ho1
  have Gst0 := Aside0.mk hst0
  have Gst1 := Aside0.mk (show st < 256 by omega)
  have Gco0 := Aside0.mk hco0
  have Gco1 := Aside0.mk (show co < 256 by omega)
  have Gk0 := Aside0.mk (show 0 ≤ k by omega)
  have Gk1 := Aside0.mk (show k < 256 by omega)
  have fwk : IntKind.u8.wrap k = k := u8_same (by omega) (by omega)
  have fwst : IntKind.u8.wrap st = st := u8_same (by omega) (by omega)
  have fwco : IntKind.u8.wrap co = co := u8_same (by omega) (by omega)
  have GC9 := Aside0.mk hC9
  have GC10 := Aside0.mk hC10
  have G9 := Aside0.mk (show l9.length ≤ 255 by omega)
  have G10 := Aside0.mk (show l10.length ≤ 255 by omega)
  have Gc9 := Aside0.mk hc9
  have Gc10 := Aside0.mk hc10
  have HN := Aside0.mk (names_str k)
  have HOK := Aside0.mk (show note_Check.f k ep ol ls ti o st un co l9 l10 = some 0 by unfold note_Check.f; rw [hok]; rfl)
  clear hok k0 k1 hst0 hst1 hco0 hco1 h9 h10 hep0 hep1 hol0 hol1 hls0 hls1 hti0 hti1 ho0 ho1 hC9 hC10 hc9 hc10
  go_enter Try.func13, Try.ntmps13
  go_wp2_with (first | (go_at_call 14; (with_reducible refine (note_Check.calls k ep ol ls ti o st un co A9 c9 l9 A10 c10 l10 0 _ (Kd.C_alloc GC9.out _) Gc9.out (Kd.C_alloc GC10.out _) Gc10.out HOK.out).mono ?_); rintro e w1 ⟨rfl, hb⟩; have BK := Aside0.mk (blk_below (heap_last _ _) hb); have HB := Aside0.mk (below_step (below_alloc (Below.refl _ _) _) hb); clear hb))
  have n_BK := Aside0.mk (blk_drew BK.out)
  have n_HB := Aside0.mk (below_drew1 HB.out)
  clear BK HB
  have BK := n_BK
  have HB := n_HB
  clear n_BK n_HB
  refine start_ (n := 6) (S := fun w' => w'.cell? ⟨w.heap.size, 0, none⟩ = some (.int .i64 k)) (ds := []) #[false, false, false, false, false, false] (by kernel_rfl) rfl rfl (by exact (blk_cell BK.out 0).trans rfl) (fun hHeld => ?_); refine with_tabW note_Put.tab4 note_Put.bits4 (fun HT_ HW_ => ?_)
  generalize w1.drew = wd_ at BK HB hHeld ⊢
  refine pure_ (i := 1) (N := some 14) (v := ?_) (a' := ?_) #[false, true, false, false, false, false] rfl rfl (any_of HT_.out (by kernel_rfl)) (fun _ _ _ h => h) (Or.inl ⟨by rfl, ?_⟩) ?_ ?_
  rotate_left
  · intro w'; go_simp; with_reducible rfl
  rotate_left
  · simp only [Act.put, List.setIfInBounds_toArray, List.set_cons_zero, List.set_cons_succ, i64_w, i32_w]; rfl
  refine take_ (i := 2) (N := some 15) (v := ?_) (a' := ?_) #[false, true, true, false, false, false] rfl rfl (take_ofW HT_.out HW_.out (by kernel_rfl)) (fun _ _ _ h => h) (Or.inl ⟨by rfl, ?_⟩) hHeld ?_ ?_
  rotate_left
  · rintro w' s0; go_simp; with_reducible rfl
  rotate_left
  · simp only [Act.put, List.setIfInBounds_toArray, List.set_cons_zero, List.set_cons_succ, i64_w, i32_w]; rfl
  refine pure_ (i := 3) (N := some 16) (v := ?_) (a' := ?_) #[false, true, true, true, false, false] rfl rfl (any_of HT_.out (by kernel_rfl)) (fun _ _ _ h => h) (Or.inl ⟨by rfl, ?_⟩) ?_ ?_
  rotate_left
  · intro w'; go_simp; with_reducible rfl
  rotate_left
  · simp only [Act.put, List.setIfInBounds_toArray, List.set_cons_zero, List.set_cons_succ, i64_w, i32_w]; rfl
  refine one_ (i := 0) (N := some 13) #[true, true, true, true, false, false] rfl rfl (one_of HT_.out (by kernel_rfl)) (by decide) (fun K hK => ?_)
  refine goes_ Try.func27 (by kernel_rfl) rfl #[] (by rfl) rfl rfl (by (try simp only [List.map_toArray, List.map_cons, List.map_nil]); first | done | rfl) ?_
  (with_reducible refine (fieldNewW.calls w _ HB.out).mono ?_)
  rintro e w3 ⟨g, rfl, hWR, hBB, hB2, hgg⟩
  refine ⟨_, rfl, ?_⟩
  have HG := Aside0.mk (show w.heap.size ≠ g by have := blk_lt BK.out; omega)
  have n_BK := Aside0.mk (blk_below BK.out hB2)
  have HW := Aside0.mk hWR
  have n_HB := Aside0.mk hBB
  clear hWR hBB hB2 hgg BK HB
  have BK := n_BK
  have HB := n_HB
  clear n_BK n_HB
  refine hK.out _ _ (by exact (blk_cell BK.out 0).trans rfl) (fun hHeld => ?_)
  clear hK K
  refine norm_ (a' := ?_) ?_ ?_
  rotate_left
  · show Act.put _ (some 13) _ = _
    simp only [Act.put, List.setIfInBounds_toArray, List.set_cons_zero, List.set_cons_succ, i64_w, i32_w]; rfl
  refine one_ (i := 4) (N := some 17) #[true, true, true, true, true, false] rfl rfl (one_of HT_.out (by kernel_rfl)) (by decide) (fun K hK => ?_)
  refine goes_ Try.func28 (by kernel_rfl) rfl #[.pointer (some ⟨g, 0, none⟩), .int .u8 k] (by rfl) rfl rfl (by (try simp only [List.map_toArray, List.map_cons, List.map_nil]); first | done | rfl) ?_
  (with_reducible refine (field_U8.calls k g (([] : List Int)) false w _ Gk0.out Gk1.out (by simp [bigE]) ?a1 ?a2).mono ?_)
  case a1 => exact HW.out
  case a2 => exact HB.out
  rintro e w4 ⟨rfl, hWR, hBB, hF⟩
  refine ⟨_, rfl, ?_⟩
  have n_BK := Aside0.mk (WF.keep hF BK.out (by decide) HG.out)
  have n_HW := Aside0.mk hWR
  have n_HB := Aside0.mk hBB
  clear hWR hBB hF BK HW HB
  have BK := n_BK
  have HW := n_HW
  have HB := n_HB
  clear n_BK n_HW n_HB
  refine hK.out _ _ (by exact (blk_cell BK.out 0).trans rfl) (fun hHeld => ?_)
  clear hK K
  refine norm_ (a' := ?_) ?_ ?_
  rotate_left
  · show Act.put _ (some 17) _ = _
    simp only [Act.put, List.setIfInBounds_toArray, List.set_cons_zero, List.set_cons_succ, i64_w, i32_w]; rfl
  refine pure_ (i := 5) (N := some 5) (v := ?_) (a' := ?_) #[true, true, true, true, true, true] rfl rfl (any_of HT_.out (by kernel_rfl)) (fun _ _ _ h => h) (Or.inl ⟨by rfl, ?_⟩) ?_ ?_
  rotate_left
  · intro w'; go_simp; with_reducible rfl
  rotate_left
  · simp only [Act.put, List.setIfInBounds_toArray, List.set_cons_zero, List.set_cons_succ, i64_w, i32_w]; rfl
  refine done_ (done_of HT_.out (by kernel_rfl)) ?_
  clear HT_ HW_ hHeld
  have hk0 := (blk_cell BK.out 0).trans rfl
  have hkf := blk_frozen BK.out 0
  have hkl := blk_lt BK.out
  go_wp2_with (first | (go_at_call 18; (with_reducible refine (note_Names.calls 9 k _ _ HN.out).mono ?_); rintro e w' ⟨rfl, ⟨nd, rfl⟩⟩))
  have n_BK := Aside0.mk (show ((w4.drewN nd).iter (nameStr k) 0).heap[w.heap.size]? = _ from bd3 (.stringIter (nameStr k) 0) (bd1 nd BK.out))
  have n_HW := Aside0.mk (show WR w ((w4.drewN nd).iter (nameStr k) 0) g (noteB (nameStr k) k ep ol ls ti o st un co l9 l10 0) false from WR.alloc (WR.drewN HW.out nd) (.stringIter (nameStr k) 0))
  have n_HB := Aside0.mk (show Below w.heap.size w ((w4.drewN nd).iter (nameStr k) 0) from below_alloc (pw_below_drewN HB.out nd) (.stringIter (nameStr k) 0))
  have n_HI := Aside0.mk (show ((w4.drewN nd).iter (nameStr k) 0).heap[w4.heap.size]? = some (.stringIter (nameStr k) 0) from heap_last' (by simp) _)
  have HGI := Aside0.mk (show g ≠ w4.heap.size from Nat.ne_of_lt (WR.lt HW.out))
  have HKI := Aside0.mk (show w.heap.size ≠ w4.heap.size from Nat.ne_of_lt (blk_lt BK.out))
  have HIG := Aside0.mk (show w.heap.size ≤ w4.heap.size from HB.out.size)
  clear BK HW HB hk0 hkf hkl
  generalize ((w4.drewN nd).iter (nameStr k) 0) = wl at n_BK n_HW n_HB n_HI ⊢
  generalize w4.heap.size = gi at n_HI HGI HKI HIG ⊢
  go_loopw [7] (fun v w' => ∃ (pos : Nat), Aside0 (pos ≤ (nameStr k).size) ∧ Aside0 (WR w w' g (noteB (nameStr k) k ep ol ls ti o st un co l9 l10 pos) false) ∧ Aside0 (w'.heap[w.heap.size]? = some (.cells #[.int .i64 k, .int .u32 ep, .int .u32 ol, .int .u64 ls, .int .u64 ti, .int .u32 o, .int .i64 st, .bool un, .int .i64 co, .slice A9 l9.length c9, .slice A10 l10.length c10] 26 (0, 0))) ∧ Aside0 (w'.heap[gi]? = some (.stringIter (nameStr k) pos)) ∧ Aside0 (Below w.heap.size w w')) (fun _ w' => (nameStr k).size - w'.iterPos gi)
  case atStart => exact ⟨0, ⟨Nat.zero_le _⟩, n_HW, n_BK, n_HI, n_HB⟩
  case round =>
    clear n_HW n_BK n_HI n_HB
    obtain ⟨pos, HP, HW, BK, HI, HB⟩ := hrel
    rename World => wr
    have hpos := iterPos_of HI.out
    by_cases hp : pos < (nameStr k).size
    · obtain ⟨W1, e1_, hi1, hs1, hk1⟩ := put_iter (q := pos + 1) HI.out
      have ha := names_ascii k pos hp
      have hq : letterAt (nameStr k) pos = ((((nameStr k)[pos]'hp).toNat : Nat) : Int) := letterAt_is hp
      have hnx : ∀ ty, (Instr.next (.pointer (some ⟨gi, 0, none⟩)) true ty).run Try.prog wr = .ok (.tuple #[.bool true, .int .i64 pos, .int .i32 ((nameStr k)[pos]'hp).toNat]) W1 := fun ty => e1_ ▸ next_more ty HI.out hp ha
      rw [← hq] at hnx
      generalize hq2 : letterAt (nameStr k) pos = q at hnx
      clear hq ha
      have HN1 : Aside0 (noteB (nameStr k) k ep ol ls ti o st un co l9 l10 (pos + 1) = noteB (nameStr k) k ep ol ls ti o st un co l9 l10 pos ++ partB ep ol ls ti o st un co l9 l10 q) := ⟨by rw [← hq2]; rfl⟩
      clear hq2
      have HLen := Aside0.mk (noteB_len (nameStr k) (k := k) (ep := ep) (ol := ol) (ls := ls) (ti := ti) (o := o) (st := st) (un := un) (co := co) G9.out G10.out pos)
      have HS := Aside0.mk (show pos ≤ 6 by have := names_size k; omega)
      have HB1 : Aside0 (Below w.heap.size w W1) := ⟨e1_ ▸ below_iter HB.out HIG.out⟩
      clear e1_
      have BK1 := Aside0.mk ((hk1 w.heap.size HKI.out).trans BK.out)
      have HW1 := Aside0.mk (WR.step HW.out (fun k cs t hc => hk1 k (fun e => by rw [e, HI.out] at hc; injection hc with hc; injection hc)))
      have HI1 := Aside0.mk hi1
      clear hi1 hs1 hk1 HW BK HI HB
      obtain ⟨q0, q1, q2, q3, q4, q5, q6, q7, q8, q9, q10, qf, ql⟩ := note_all BK1.out
      by_cases h69 : q = 69
      · subst h69
        rw [show partB ep ol ls ti o st un co l9 l10 69 = bigE ep 4 from rfl] at HN1
        go_wp2_with (first | (go_at_call 29; (with_reducible refine (field_U32.calls ep g (noteB (nameStr k) k ep ol ls ti o st un co l9 l10 pos) false w _ Gep0.out Gep1.out (by have := HLen.out; have := HS.out; omega) ?a1 ?a2).mono ?_); (case a1 => exact HW1.out); (case a2 => exact HB1.out); rintro e w6 ⟨rfl, hWR, hBB, hF⟩; have n_BK := Aside0.mk (WF.keep hF BK1.out (by decide) HG.out); have n_HI := Aside0.mk (WF.other hF HI1.out (fun cs fr e => by injection e) HGI.out.symm); have n_HW := Aside0.mk hWR; have n_HB := Aside0.mk hBB; clear hWR hBB hF BK1 HI1 HW1 HB1))
        go_roundw
        case rel =>
          refine ⟨pos + 1, ⟨by omega⟩, ⟨?_⟩, n_BK, n_HI, n_HB⟩
          rw [HN1.out]; exact n_HW.out
        case measure =>
          have a1 := iterPos_of n_HI.out
          omega
      have b69 : (q == 69) = false := beq_eq_false_iff_ne.mpr h69
      by_cases h80 : q = 80
      · subst h80
        rw [show partB ep ol ls ti o st un co l9 l10 80 = bigE ol 4 from rfl] at HN1
        go_wp2_with (first | (go_at_call 29; (with_reducible refine (field_U32.calls ol g (noteB (nameStr k) k ep ol ls ti o st un co l9 l10 pos) false w _ Gol0.out Gol1.out (by have := HLen.out; have := HS.out; omega) ?a1 ?a2).mono ?_); (case a1 => exact HW1.out); (case a2 => exact HB1.out); rintro e w6 ⟨rfl, hWR, hBB, hF⟩; have n_BK := Aside0.mk (WF.keep hF BK1.out (by decide) HG.out); have n_HI := Aside0.mk (WF.other hF HI1.out (fun cs fr e => by injection e) HGI.out.symm); have n_HW := Aside0.mk hWR; have n_HB := Aside0.mk hBB; clear hWR hBB hF BK1 HI1 HW1 HB1))
        go_roundw
        case rel =>
          refine ⟨pos + 1, ⟨by omega⟩, ⟨?_⟩, n_BK, n_HI, n_HB⟩
          rw [HN1.out]; exact n_HW.out
        case measure =>
          have a1 := iterPos_of n_HI.out
          omega
      have b80 : (q == 80) = false := beq_eq_false_iff_ne.mpr h80
      by_cases h76 : q = 76
      · subst h76
        rw [show partB ep ol ls ti o st un co l9 l10 76 = bigE ls 8 from rfl] at HN1
        go_wp2_with (first | (go_at_call 30; (with_reducible refine (field_U64.calls ls g (noteB (nameStr k) k ep ol ls ti o st un co l9 l10 pos) false w _ Gls0.out Gls1.out (by have := HLen.out; have := HS.out; omega) ?a1 ?a2).mono ?_); (case a1 => exact HW1.out); (case a2 => exact HB1.out); rintro e w6 ⟨rfl, hWR, hBB, hF⟩; have n_BK := Aside0.mk (WF.keep hF BK1.out (by decide) HG.out); have n_HI := Aside0.mk (WF.other hF HI1.out (fun cs fr e => by injection e) HGI.out.symm); have n_HW := Aside0.mk hWR; have n_HB := Aside0.mk hBB; clear hWR hBB hF BK1 HI1 HW1 HB1))
        go_roundw
        case rel =>
          refine ⟨pos + 1, ⟨by omega⟩, ⟨?_⟩, n_BK, n_HI, n_HB⟩
          rw [HN1.out]; exact n_HW.out
        case measure =>
          have a1 := iterPos_of n_HI.out
          omega
      have b76 : (q == 76) = false := beq_eq_false_iff_ne.mpr h76
      by_cases h84 : q = 84
      · subst h84
        rw [show partB ep ol ls ti o st un co l9 l10 84 = bigE ti 8 from rfl] at HN1
        go_wp2_with (first | (go_at_call 30; (with_reducible refine (field_U64.calls ti g (noteB (nameStr k) k ep ol ls ti o st un co l9 l10 pos) false w _ Gti0.out Gti1.out (by have := HLen.out; have := HS.out; omega) ?a1 ?a2).mono ?_); (case a1 => exact HW1.out); (case a2 => exact HB1.out); rintro e w6 ⟨rfl, hWR, hBB, hF⟩; have n_BK := Aside0.mk (WF.keep hF BK1.out (by decide) HG.out); have n_HI := Aside0.mk (WF.other hF HI1.out (fun cs fr e => by injection e) HGI.out.symm); have n_HW := Aside0.mk hWR; have n_HB := Aside0.mk hBB; clear hWR hBB hF BK1 HI1 HW1 HB1))
        go_roundw
        case rel =>
          refine ⟨pos + 1, ⟨by omega⟩, ⟨?_⟩, n_BK, n_HI, n_HB⟩
          rw [HN1.out]; exact n_HW.out
        case measure =>
          have a1 := iterPos_of n_HI.out
          omega
      have b84 : (q == 84) = false := beq_eq_false_iff_ne.mpr h84
      by_cases h79 : q = 79
      · subst h79
        rw [show partB ep ol ls ti o st un co l9 l10 79 = bigE o 4 from rfl] at HN1
        go_wp2_with (first | (go_at_call 29; (with_reducible refine (field_U32.calls o g (noteB (nameStr k) k ep ol ls ti o st un co l9 l10 pos) false w _ Go0.out Go1.out (by have := HLen.out; have := HS.out; omega) ?a1 ?a2).mono ?_); (case a1 => exact HW1.out); (case a2 => exact HB1.out); rintro e w6 ⟨rfl, hWR, hBB, hF⟩; have n_BK := Aside0.mk (WF.keep hF BK1.out (by decide) HG.out); have n_HI := Aside0.mk (WF.other hF HI1.out (fun cs fr e => by injection e) HGI.out.symm); have n_HW := Aside0.mk hWR; have n_HB := Aside0.mk hBB; clear hWR hBB hF BK1 HI1 HW1 HB1))
        go_roundw
        case rel =>
          refine ⟨pos + 1, ⟨by omega⟩, ⟨?_⟩, n_BK, n_HI, n_HB⟩
          rw [HN1.out]; exact n_HW.out
        case measure =>
          have a1 := iterPos_of n_HI.out
          omega
      have b79 : (q == 79) = false := beq_eq_false_iff_ne.mpr h79
      by_cases h83 : q = 83
      · subst h83
        rw [show partB ep ol ls ti o st un co l9 l10 83 = bigE st 1 from rfl] at HN1
        go_wp2_with (first | (go_at_call 28; (with_reducible refine (field_U8.calls st g (noteB (nameStr k) k ep ol ls ti o st un co l9 l10 pos) false w _ Gst0.out Gst1.out (by have := HLen.out; have := HS.out; omega) ?a1 ?a2).mono ?_); (case a1 => exact HW1.out); (case a2 => exact HB1.out); rintro e w6 ⟨rfl, hWR, hBB, hF⟩; have n_BK := Aside0.mk (WF.keep hF BK1.out (by decide) HG.out); have n_HI := Aside0.mk (WF.other hF HI1.out (fun cs fr e => by injection e) HGI.out.symm); have n_HW := Aside0.mk hWR; have n_HB := Aside0.mk hBB; clear hWR hBB hF BK1 HI1 HW1 HB1))
        go_roundw
        case rel =>
          refine ⟨pos + 1, ⟨by omega⟩, ⟨?_⟩, n_BK, n_HI, n_HB⟩
          rw [HN1.out]; exact n_HW.out
        case measure =>
          have a1 := iterPos_of n_HI.out
          omega
      have b83 : (q == 83) = false := beq_eq_false_iff_ne.mpr h83
      by_cases h85 : q = 85
      · subst h85
        rw [show partB ep ol ls ti o st un co l9 l10 85 = bigE (bitI un) 1 from rfl] at HN1
        go_wp2_with (first | (go_at_call 31; (with_reducible refine (bit_any un _).mono ?_); rintro e w5 ⟨rfl, ⟨nb, rfl⟩⟩) | (go_at_call 28; (with_reducible refine (field_U8.calls (bitI un) g (noteB (nameStr k) k ep ol ls ti o st un co l9 l10 pos) false w _ (by cases un <;> decide) (by cases un <;> decide) (by have := HLen.out; have := HS.out; omega) ?a1 ?a2).mono ?_); (case a1 => exact WR.drewN HW1.out nb); (case a2 => exact pw_below_drewN HB1.out nb); rintro e w6 ⟨rfl, hWR, hBB, hF⟩; have n_BK := Aside0.mk (WF.keep hF (bd1 nb BK1.out) (by decide) HG.out); have n_HI := Aside0.mk (WF.other hF (bd1 nb HI1.out) (fun cs fr e => by injection e) HGI.out.symm); have n_HW := Aside0.mk hWR; have n_HB := Aside0.mk hBB; clear hWR hBB hF BK1 HI1 HW1 HB1))
        go_roundw
        case rel =>
          refine ⟨pos + 1, ⟨by omega⟩, ⟨?_⟩, n_BK, n_HI, n_HB⟩
          rw [HN1.out]; exact n_HW.out
        case measure =>
          have a1 := iterPos_of n_HI.out
          omega
      have b85 : (q == 85) = false := beq_eq_false_iff_ne.mpr h85
      by_cases h67 : q = 67
      · subst h67
        rw [show partB ep ol ls ti o st un co l9 l10 67 = bigE co 1 from rfl] at HN1
        go_wp2_with (first | (go_at_call 28; (with_reducible refine (field_U8.calls co g (noteB (nameStr k) k ep ol ls ti o st un co l9 l10 pos) false w _ Gco0.out Gco1.out (by have := HLen.out; have := HS.out; omega) ?a1 ?a2).mono ?_); (case a1 => exact HW1.out); (case a2 => exact HB1.out); rintro e w6 ⟨rfl, hWR, hBB, hF⟩; have n_BK := Aside0.mk (WF.keep hF BK1.out (by decide) HG.out); have n_HI := Aside0.mk (WF.other hF HI1.out (fun cs fr e => by injection e) HGI.out.symm); have n_HW := Aside0.mk hWR; have n_HB := Aside0.mk hBB; clear hWR hBB hF BK1 HI1 HW1 HB1))
        go_roundw
        case rel =>
          refine ⟨pos + 1, ⟨by omega⟩, ⟨?_⟩, n_BK, n_HI, n_HB⟩
          rw [HN1.out]; exact n_HW.out
        case measure =>
          have a1 := iterPos_of n_HI.out
          omega
      have b67 : (q == 67) = false := beq_eq_false_iff_ne.mpr h67
      by_cases h75 : q = 75
      · subst h75
        rw [show partB ep ol ls ti o st un co l9 l10 75 = bigE (l9.length : Int) 1 ++ l9 from rfl] at HN1
        rw [← List.append_assoc] at HN1
        go_wp2_with (first | (go_at_call 32; (with_reducible refine (field_Text.calls A9 c9 l9 g (noteB (nameStr k) k ep ol ls ti o st un co l9 l10 pos) w _ GC9.out G9.out (by have := HLen.out; have := HS.out; omega) ?a1 ?a2).mono ?_); (case a1 => exact HW1.out); (case a2 => exact HB1.out); rintro e w6 ⟨rfl, hWR, hBB, hF⟩; have n_BK := Aside0.mk (WF.keep hF BK1.out (by decide) HG.out); have n_HI := Aside0.mk (WF.other hF HI1.out (fun cs fr e => by injection e) HGI.out.symm); have n_HW := Aside0.mk hWR; have n_HB := Aside0.mk hBB; clear hWR hBB hF BK1 HI1 HW1 HB1))
        go_roundw
        case rel =>
          refine ⟨pos + 1, ⟨by omega⟩, ⟨?_⟩, n_BK, n_HI, n_HB⟩
          rw [HN1.out]; exact n_HW.out
        case measure =>
          have a1 := iterPos_of n_HI.out
          omega
      have b75 : (q == 75) = false := beq_eq_false_iff_ne.mpr h75
      by_cases h68 : q = 68
      · subst h68
        rw [show partB ep ol ls ti o st un co l9 l10 68 = bigE (l10.length : Int) 1 ++ l10 from rfl] at HN1
        rw [← List.append_assoc] at HN1
        go_wp2_with (first | (go_at_call 32; (with_reducible refine (field_Text.calls A10 c10 l10 g (noteB (nameStr k) k ep ol ls ti o st un co l9 l10 pos) w _ GC10.out G10.out (by have := HLen.out; have := HS.out; omega) ?a1 ?a2).mono ?_); (case a1 => exact HW1.out); (case a2 => exact HB1.out); rintro e w6 ⟨rfl, hWR, hBB, hF⟩; have n_BK := Aside0.mk (WF.keep hF BK1.out (by decide) HG.out); have n_HI := Aside0.mk (WF.other hF HI1.out (fun cs fr e => by injection e) HGI.out.symm); have n_HW := Aside0.mk hWR; have n_HB := Aside0.mk hBB; clear hWR hBB hF BK1 HI1 HW1 HB1))
        go_roundw
        case rel =>
          refine ⟨pos + 1, ⟨by omega⟩, ⟨?_⟩, n_BK, n_HI, n_HB⟩
          rw [HN1.out]; exact n_HW.out
        case measure =>
          have a1 := iterPos_of n_HI.out
          omega
      have b68 : (q == 68) = false := beq_eq_false_iff_ne.mpr h68
      rw [show partB ep ol ls ti o st un co l9 l10 q = [] by simp [partB, h69, h80, h76, h84, h79, h83, h85, h67, h75, h68], List.append_nil] at HN1
      go_wp2
      go_roundw
      case rel => exact ⟨pos + 1, ⟨by omega⟩, ⟨by rw [HN1.out]; exact HW1.out⟩, BK1, HI1, HB1⟩
      case measure =>
        have a1 := iterPos_of HI1.out
        omega
    · have hnx : ∀ ty, (Instr.next (.pointer (some ⟨gi, 0, none⟩)) true ty).run Try.prog wr = .ok (.tuple #[.bool false]) wr := fun ty => next_none ty HI.out hp
      have hp3 : pos = (nameStr k).size := by have := HP.out; omega
      clear hpos
      subst hp3
      have HLen := Aside0.mk (noteB_len (nameStr k) (k := k) (ep := ep) (ol := ol) (ls := ls) (ti := ti) (o := o) (st := st) (un := un) (co := co) G9.out G10.out (nameStr k).size)
      have HS := Aside0.mk (names_size k)
      go_wp2_with (first | (go_at_call 33; (with_reducible refine (field_Done.calls g (noteB (nameStr k) k ep ol ls ti o st un co l9 l10 (nameStr k).size) w _ HLen.out.2 (by have := HLen.out; have := HS.out; omega) ?a1 ?a2).mono ?_); (case a1 => exact HW.out); (case a2 => exact HB.out); rintro e w44 ⟨v0, rfl, hR, hB3, hB4⟩; have HR := Aside0.mk hR; have HB3 := Aside0.mk hB3; clear hR hB3 hB4))
      refine bodyPost_ret ?_ rfl ⟨_, rfl, Kd.R_lower HR.out HB.out.size, HB3.out⟩
      simp [results, Try.results13, go_sem]
def noteFit (a1 a2 a3 a4 a5 : Int) : Bool := decide (0 ≤ a1) && decide (a1 < 4294967296) && decide (0 ≤ a2) && decide (a2 < 4294967296) && decide (0 ≤ a3) && decide (a3 < 18446744073709551616) && decide (0 ≤ a4) && decide (a4 < 18446744073709551616) && decide (0 ≤ a5) && decide (a5 < 4294967296)
def note_Put.f (a0_0 : Int) (a0_1 : Int) (a0_2 : Int) (a0_3 : Int) (a0_4 : Int) (a0_5 : Int) (a0_6 : Int) (a0_7 : Bool) (a0_8 : Int) (l0_9 : List Int) (l0_10 : List Int) : Option (List Int × Int) :=
  bif noteFit a0_1 a0_2 a0_3 a0_4 a0_5 then (bif noteBad a0_0 a0_1 a0_2 a0_3 a0_4 a0_5 a0_6 a0_7 a0_8 l0_9.length l0_10.length then some (([] : List Int), 50) else some (noteB (nameStr a0_0) a0_0 a0_1 a0_2 a0_3 a0_4 a0_5 a0_6 a0_7 a0_8 l0_9 l0_10 (nameStr a0_0).size, 0)) else none
set_option maxHeartbeats 8000000 in
set_option maxRecDepth 100000 in
theorem note_put_bad (k ep ol ls ti o st : Int) (un : Bool) (co : Int) (A9 : Option Addr) (c9 : Nat) (l9 : List Int) (A10 : Option Addr) (c10 : Nat) (l10 : List Int) (w : World) (hok : noteBad k ep ol ls ti o st un co l9.length l10.length = true) (hC9 : Kd.C (Kd.int .u8) w A9 l9.length l9) (hc9 : l9.length ≤ c9) (hC10 : Kd.C (Kd.int .u8) w A10 l10.length l10) (hc10 : l10.length ≤ c10) : Calls Try.prog 13 #[.agg #[.int .i64 k, .int .u32 ep, .int .u32 ol, .int .u64 ls, .int .u64 ti, .int .u32 o, .int .i64 st, .bool un, .int .i64 co, .slice A9 l9.length c9, .slice A10 l10.length c10]] w fun e w' => e = .returned (.tuple #[.slice none 0 0, .int .i64 50]) ∧ Below w.heap.size w w' := by
  have GC9 := Aside0.mk hC9
  have GC10 := Aside0.mk hC10
  have Gc9 := Aside0.mk hc9
  have Gc10 := Aside0.mk hc10
  have HOK := Aside0.mk (show note_Check.f k ep ol ls ti o st un co l9 l10 = some 50 by unfold note_Check.f; rw [hok]; rfl)
  clear hok hC9 hC10 hc9 hc10
  go_enter Try.func13, Try.ntmps13
  go_wp2_with (first | (go_at_call 14; (with_reducible refine (note_Check.calls k ep ol ls ti o st un co A9 c9 l9 A10 c10 l10 50 _ (Kd.C_alloc GC9.out _) Gc9.out (Kd.C_alloc GC10.out _) Gc10.out HOK.out).mono ?_); rintro e w1 ⟨rfl, hb⟩; have HB := Aside0.mk (below_step (below_alloc (Below.refl _ _) _) hb); clear hb))
  refine bodyPost_ret ?_ rfl ⟨rfl, HB.out⟩
  simp [results, Try.results13, go_sem]
theorem note_Put.calls (a0_0 : Int) (a0_1 : Int) (a0_2 : Int) (a0_3 : Int) (a0_4 : Int) (a0_5 : Int) (a0_6 : Int) (a0_7 : Bool) (a0_8 : Int) (A0_9 : Option Addr) (c0_9 : Nat) (l0_9 : List Int) (A0_10 : Option Addr) (c0_10 : Nat) (l0_10 : List Int) (r1 : List Int) (r2 : Int) (w : World) (hr0_9 : Kd.C (Kd.int .u8) w A0_9 l0_9.length l0_9) (hc0_9 : l0_9.length ≤ c0_9) (hr0_10 : Kd.C (Kd.int .u8) w A0_10 l0_10.length l0_10) (hc0_10 : l0_10.length ≤ c0_10) (h : note_Put.f a0_0 a0_1 a0_2 a0_3 a0_4 a0_5 a0_6 a0_7 a0_8 l0_9 l0_10 = some (r1, r2)) :
    Calls Try.prog 13 #[.agg #[.int .i64 a0_0, .int .u32 a0_1, .int .u32 a0_2, .int .u64 a0_3, .int .u64 a0_4, .int .u32 a0_5, .int .i64 a0_6, .bool a0_7, .int .i64 a0_8, .slice A0_9 l0_9.length c0_9, .slice A0_10 l0_10.length c0_10]] w fun e w' => ∃ v0_ : Value, e = .returned (.tuple #[v0_, .int .i64 r2]) ∧ Kd.R (Kd.int .u8) 5 w' w.heap.size (fun _ => True) v0_ r1 ∧ Below w.heap.size w w' := by
  unfold note_Put.f at h
  cases hf : noteFit a0_1 a0_2 a0_3 a0_4 a0_5 with
  | false => rw [hf] at h; exact absurd h (by simp)
  | true =>
    rw [hf] at h
    simp only [noteFit, Bool.and_eq_true, decide_eq_true_eq] at hf
    cases hok : noteBad a0_0 a0_1 a0_2 a0_3 a0_4 a0_5 a0_6 a0_7 a0_8 l0_9.length l0_10.length with
    | true =>
      rw [hok] at h
      simp only [cond_true, Option.some.injEq, Prod.mk.injEq] at h
      obtain ⟨rfl, rfl⟩ := h
      refine (note_put_bad a0_0 a0_1 a0_2 a0_3 a0_4 a0_5 a0_6 a0_7 a0_8 A0_9 c0_9 l0_9 A0_10 c0_10 l0_10 w hok hr0_9 hc0_9 hr0_10 hc0_10).mono ?_
      rintro e w' ⟨rfl, hb⟩
      exact ⟨_, rfl, Kd.R_nil _ _ _ _ _, hb⟩
    | false =>
      rw [hok] at h
      simp only [cond_true, cond_false, Option.some.injEq, Prod.mk.injEq] at h
      obtain ⟨rfl, rfl⟩ := h
      exact note_put_ok a0_0 a0_1 a0_2 a0_3 a0_4 a0_5 a0_6 a0_7 a0_8 A0_9 c0_9 l0_9 A0_10 c0_10 l0_10 w hok (by omega) (by omega) (by omega) (by omega) (by omega) (by omega) (by omega) (by omega) (by omega) (by omega) hr0_9 hc0_9 hr0_10 hc0_10

end Go.Proofs.Ytohnlhklijpafaa.PA
