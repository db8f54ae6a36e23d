-- printed by a program of this work (wip/tools/pr.py over the kit's print): the machine's side of EntryBare, EntryBegins, EntrySizes, EntryEpochs
import Derived.Test.YtahldljkhjebgaaQRwPAx0
import Derived.Test.YtahldljkhjebgaaQRwPAx1
namespace Go.Proofs.Ytahldljkhjebgaa.PA
open Go.RowKit Go.Proofs.YtahldljkhjebgaaW.PrintWords Go.Proofs.YtahldljkhjebgaaW.PrintLast Go.Proofs.YtahldljkhjebgaaW.PrintMore
attribute [local go_sem] max2_int min2_int max_two min_two max_three min_three max_four min_four   -- for this text's walks alone
set_option linter.unusedVariables false
set_option linter.unusedSimpArgs false

/-! ### entry_Put: function 14, with the contracts of the writer and the reader -/
/-- a writer's bytes -/
def WR (w0 W : World) (g : Nat) (l : List Int) (sp : Bool) : Prop := ∃ v : Value, W.heap[g]? = some (.cells #[v, .bool sp] 83 (0, 0)) ∧ w0.heap.size ≤ g ∧ Kd.R (Kd.int .u8) 5 W w0.heap.size (fun k => k ≠ g) v l
/-- all but the writer, and rows of bytes, is as it was -/
def WF (w w' : World) (g : Nat) : Prop := w.heap.size ≤ w'.heap.size ∧ ∀ k, k < w.heap.size → k ≠ g → (∀ cs fr, w.heap[k]? ≠ some (.cells cs 5 fr)) → w'.heap[k]? = w.heap[k]?
/-- a number's bytes, the greatest first -/
def byteAt (n : Int) (size i : Nat) : Int := IntKind.u8.wrap (n / 2 ^ (8 * (size - 1 - i)))
def bigE (n : Int) (size : Nat) : List Int := (List.range size).map (byteAt n size)
theorem bigE_step (n : Int) {size i : Nat} (h : i < size) : (bigE n size).take (i + 1) = (bigE n size).take i ++ [byteAt n size i] := by
  unfold bigE
  rw [List.take_add_one, List.getElem?_map, List.getElem?_range h]
  rfl
def field_put.T6 : Bool × List (List Nat × List Nat) := (true, [([], []), ([], []), ([1], [1]), ([2], [2]), ([3], [3]), ([], []), ([], []), ([6], [6]), ([], []), ([7, 8], [7, 8]), ([9], [9]), ([5, 10], [5, 10]), ([11], [11]), ([12], [12]), ([4, 13], [4, 13]), ([0, 0, 1, 2, 3, 4, 5, 6, 7, 8, 9, 10, 11, 12, 13, 14], [0]), ([15, 0, 1, 2, 3, 4, 5, 6, 7, 8, 9, 10, 11, 12, 13, 14], [15]), ([16, 14, 14, 0, 1, 2, 3, 4, 5, 6, 7, 8, 9, 10, 11, 12, 13, 14], [14, 16])])
def field_put.B6 : List Nat := [0, 0, 2, 6, 14, 0, 0, 64, 0, 448, 960, 2016, 4064, 8160, 16382, 32767, 65535, 131071]
theorem field_put.tab6 : rtab .any (opsOf Try.f49 6) = field_put.T6 := by kernel_rfl
theorem field_put.bits6 : waitsOk field_put.T6.2 field_put.B6 = true := by kernel_rfl
set_option maxHeartbeats 8000000 in
set_option maxRecDepth 100000 in
theorem field_put.calls (n : Int) (size : Nat) (g : Nat) (l : List Int) (sp : Bool) (w0 w : World) (hn0 : 0 ≤ n) (hn1 : n < 18446744073709551616) (hs : size ≤ 8) (hl : l.length + 8 ≤ 1000000) (HI : WR w0 w g l sp) (HB : Below w0.heap.size w0 w) :
    Calls Try.prog 49 #[.pointer (some ⟨g, 0, none⟩), .int .u64 n, .int .i64 (size : Int)] w fun e w' => e = .returned (.pointer (some ⟨g, 0, none⟩)) ∧ WR w0 w' g (l ++ bigE n size) sp ∧ Below w0.heap.size w0 w' ∧ WF w w' g := by
  have HI0 := Aside0.mk HI
  have HB0 := Aside0.mk HB
  clear HI HB
  go_enter Try.func49, Try.ntmps49
  go_wp2
  go_loopw [7, 11] (fun v7 v11 w' => ∃ (i : Nat) (u : Value), v7 = u ∧ v11 = .int .i64 (i : Int) ∧ Aside0 (i ≤ size) ∧ Aside0 (WR w0 w' g (l ++ (bigE n size).take i) sp) ∧ Aside0 (Below w0.heap.size w0 w') ∧ Aside0 (WF w w' g)) (fun _ v11 _ => size - (intOf v11).toNat)
  case atStart =>
    exact ⟨0, _, rfl, rfl, ⟨Nat.zero_le _⟩, ⟨by simpa using HI0.out⟩, HB0, ⟨Nat.le_refl _, fun _ _ _ _ => rfl⟩⟩
  case round =>
    obtain ⟨i, u, rfl, rfl, Hi, HI, HB, HF⟩ := hrel
    rename World => w1
    by_cases hc : i < size
    · have c0 : decide ((i : Int) < (size : Int)) = true := decide_eq_true (by omega)
      obtain ⟨c, hcc⟩ : ∃ c : Nat, c = 8 * (size - 1 - i) := ⟨_, rfl⟩
      have f1 : wrap64 ((size : Int) - 1) = (size : Int) - 1 := by unfold wrap64; omega
      have f2 : wrap64 ((size : Int) - 1 - (i : Int)) = (size : Int) - 1 - (i : Int) := by unfold wrap64; omega
      have f3 : wrap64 (8 * ((size : Int) - 1 - (i : Int))) = (c : Int) := by unfold wrap64; omega
      have f4 : (c : Int) ≤ 64 := by omega
      go_wp2
      obtain ⟨v, hv, hg, hR⟩ := HI.out
      have hcell : w1.drew.cell? ⟨g, 0, none⟩ = some v := (blk_cell (blk_drew hv) 0).trans rfl
      refine start_ (n := 18) (S := fun w' => w'.cell? ⟨g, 0, none⟩ = some v) (ds := [17]) #[false, false, false, false, false, false, false, false, false, false, false, false, false, false, false, false, false, false] (by kernel_rfl) rfl rfl hcell (fun hHeld => ?_); refine with_tabW field_put.tab6 field_put.bits6 (fun HT_ HW_ => ?_)
      refine pure_ (i := 0) (N := some 14) (v := ?_) (a' := ?_) #[true, false, false, false, false, false, false, false, false, false, false, false, false, false, false, false, false, false] rfl rfl (any_of HT_.out (by kernel_rfl)) (fun _ _ _ h => h) (Or.inl ⟨by rfl, ?_⟩) ?_ ?_
      rotate_left
      · intro w'; go_simp; with_reducible rfl
      rotate_left
      · simp only [Act.put, List.setIfInBounds_toArray, List.set_cons_zero, List.set_cons_succ, i64_w, i32_w]; rfl
      refine pure_ (i := 1) (N := some 15) (v := ?_) (a' := ?_) #[true, true, false, false, false, false, false, false, false, false, false, false, false, false, false, false, false, false] rfl rfl (any_of HT_.out (by kernel_rfl)) (fun _ _ _ h => h) (Or.inl ⟨by rfl, ?_⟩) ?_ ?_
      rotate_left
      · intro w'; go_simp; with_reducible rfl
      rotate_left
      · simp only [Act.put, List.setIfInBounds_toArray, List.set_cons_zero, List.set_cons_succ, i64_w, i32_w]; rfl
      refine pure_ (i := 2) (N := some 16) (v := ?_) (a' := ?_) #[true, true, true, false, false, false, false, false, false, false, false, false, false, false, false, false, false, false] rfl rfl (any_of HT_.out (by kernel_rfl)) (fun _ _ _ h => h) (Or.inl ⟨by rfl, ?_⟩) ?_ ?_
      rotate_left
      · intro w'; go_simp; with_reducible rfl
      rotate_left
      · simp only [Act.put, List.setIfInBounds_toArray, List.set_cons_zero, List.set_cons_succ, i64_w, i32_w]; rfl
      refine pure_ (i := 3) (N := some 17) (v := ?_) (a' := ?_) #[true, true, true, true, false, false, false, false, false, false, false, false, false, false, false, false, false, false] rfl rfl (any_of HT_.out (by kernel_rfl)) (fun _ _ _ h => h) (Or.inl ⟨by rfl, ?_⟩) ?_ ?_
      rotate_left
      · intro w'; go_simp; with_reducible rfl
      rotate_left
      · simp only [Act.put, List.setIfInBounds_toArray, List.set_cons_zero, List.set_cons_succ, i64_w, i32_w]; rfl
      refine take_ (i := 4) (N := some 18) (v := ?_) (a' := ?_) #[true, true, true, true, true, false, false, false, false, false, false, false, false, false, false, false, false, false] rfl rfl (take_ofW HT_.out HW_.out (by kernel_rfl)) (fun _ _ _ h => h) (Or.inl ⟨by rfl, ?_⟩) hHeld ?_ ?_
      rotate_left
      · intro w' s0; go_simp; with_reducible rfl
      rotate_left
      · simp only [Act.put, List.setIfInBounds_toArray, List.set_cons_zero, List.set_cons_succ, i64_w, i32_w]; rfl
      refine pure_ (i := 5) (N := some 19) (v := ?_) (a' := ?_) #[true, true, true, true, true, true, false, false, false, false, false, false, false, false, false, false, false, false] rfl rfl (any_of HT_.out (by kernel_rfl)) (fun _ _ _ h => h) (Or.inl ⟨by rfl, ?_⟩) ?_ ?_
      rotate_left
      · intro w'; go_simp; with_reducible rfl
      rotate_left
      · simp only [Act.put, List.setIfInBounds_toArray, List.set_cons_zero, List.set_cons_succ, i64_w, i32_w]; rfl
      refine pure_ (i := 6) (N := some 20) (v := ?_) (a' := ?_) #[true, true, true, true, true, true, true, false, false, false, false, false, false, false, false, false, false, false] rfl rfl (any_of HT_.out (by kernel_rfl)) (fun _ _ _ h => h) (Or.inl ⟨by rfl, ?_⟩) ?_ ?_
      rotate_left
      · intro w'; go_simp; with_reducible rfl
      rotate_left
      · simp only [Act.put, List.setIfInBounds_toArray, List.set_cons_zero, List.set_cons_succ, i64_w, i32_w]; rfl
      refine pure_ (i := 7) (N := some 21) (v := ?_) (a' := ?_) #[true, true, true, true, true, true, true, true, false, false, false, false, false, false, false, false, false, false] rfl rfl (any_of HT_.out (by kernel_rfl)) (fun _ _ _ h => h) (Or.inl ⟨by rfl, ?_⟩) ?_ ?_
      rotate_left
      · intro w'; go_simp; with_reducible rfl
      rotate_left
      · simp only [Act.put, List.setIfInBounds_toArray, List.set_cons_zero, List.set_cons_succ, i64_w, i32_w]; rfl
      refine pure_ (i := 8) (N := some 22) (v := ?_) (a' := ?_) #[true, true, true, true, true, true, true, true, true, false, false, false, false, false, false, false, false, false] rfl rfl (any_of HT_.out (by kernel_rfl)) (fun _ _ _ h => h) (Or.inl ⟨by rfl, ?_⟩) ?_ ?_
      rotate_left
      · intro w'; go_simp; with_reducible rfl
      rotate_left
      · simp only [Act.put, List.setIfInBounds_toArray, List.set_cons_zero, List.set_cons_succ, i64_w, i32_w]; rfl
      refine pure_ (i := 9) (N := some 23) (v := ?_) (a' := ?_) #[true, true, true, true, true, true, true, true, true, true, false, false, false, false, false, false, false, false] rfl rfl (any_of HT_.out (by kernel_rfl)) (fun _ _ _ h => h) (Or.inl ⟨by rfl, ?_⟩) ?_ ?_
      rotate_left
      · intro w'; go_simp; with_reducible rfl
      rotate_left
      · simp only [Act.put, List.setIfInBounds_toArray, List.set_cons_zero, List.set_cons_succ, i64_w, i32_w]; rfl
      refine pure_ (i := 10) (N := some 24) (v := ?_) (a' := ?_) #[true, true, true, true, true, true, true, true, true, true, true, false, false, false, false, false, false, false] rfl rfl (any_of HT_.out (by kernel_rfl)) (fun _ _ _ h => h) (Or.inl ⟨by rfl, ?_⟩) ?_ ?_
      rotate_left
      · intro w'; go_simp; with_reducible rfl
      rotate_left
      · simp only [Act.put, List.setIfInBounds_toArray, List.set_cons_zero, List.set_cons_succ, i64_w, i32_w]; rfl
      refine pure_ (i := 11) (N := some 25) (v := ?_) (a' := ?_) #[true, true, true, true, true, true, true, true, true, true, true, true, false, false, false, false, false, false] rfl rfl (any_of HT_.out (by kernel_rfl)) (fun _ _ _ h => h) (Or.inl ⟨by rfl, ?_⟩) ?_ ?_
      rotate_left
      · intro w'; go_simp; with_reducible rfl
      rotate_left
      · simp only [Act.put, List.setIfInBounds_toArray, List.set_cons_zero, List.set_cons_succ, i64_w, i32_w]; rfl
      refine pure_ (i := 12) (N := some 26) (v := ?_) (a' := ?_) #[true, true, true, true, true, true, true, true, true, true, true, true, true, false, false, false, false, false] rfl rfl (any_of HT_.out (by kernel_rfl)) (fun _ _ _ h => h) (Or.inl ⟨by rfl, ?_⟩) ?_ ?_
      rotate_left
      · intro w'; go_simp; with_reducible rfl
      rotate_left
      · simp only [Act.put, List.setIfInBounds_toArray, List.set_cons_zero, List.set_cons_succ, i64_w, i32_w]; rfl
      refine one_ (i := 13) (N := some 27) #[true, true, true, true, true, true, true, true, true, true, true, true, true, true, false, false, false, false] rfl rfl (one_of HT_.out (by kernel_rfl)) (by decide) (fun K hK => ?_)
      refine event_step (w1 := w1.drew.alloc (.cells #[.int .u8 (byteAt n size i)] 5)) (v := .slice (some ⟨w1.drew.heap.size, 0, none⟩) 1 1) ?hg ?hr ?_
      case hg => rfl
      case hr => go_simp; rfl
      refine hK.out _ _ ((World.cell?_alloc_lt w1.drew _ ⟨g, 0, none⟩ (blk_lt hv)).trans hHeld) (fun hHeld => ?_)
      clear hK K
      refine norm_ (a' := ?_) ?_ ?_
      rotate_left
      · show Act.put _ (some 27) _ = _
        simp only [Act.put, List.setIfInBounds_toArray, List.set_cons_zero, List.set_cons_succ, i64_w, i32_w]; rfl
      refine one_ (i := 14) (N := some 28) #[true, true, true, true, true, true, true, true, true, true, true, true, true, true, true, false, false, false] rfl rfl (one_of HT_.out (by kernel_rfl)) (by decide) (fun K hK => ?_)
      refine Kd.R_append_step (Kd.int .u8) (w0 := w0) w0.heap.size (by rfl) (.tmp 18) (.tmp 27) 24 5 (.int .u8 0) 1 rfl Try.underlying24 (by kernel_rfl) rfl (by decide) (by decide) v (l ++ (bigE n size).take i) (byteAt n size i) [.int .u8 (byteAt n size i)] (fun k => k ≠ g) (fun _ => False) rfl rfl ?aP (fun _ hk => hk.elim) ?aF ?aO ?aB ?aS ?aL ?_
      case aP => rfl
      case aF => intro k hk; have := blk_lt hv; have e : w1.drew.heap.size = w1.heap.size := rfl; omega
      case aO => exact Kd.R_drew hR
      case aB => exact below_drew1 HB.out
      case aS => exact HB.out.size
      case aL => have : ((bigE n size).take i).length ≤ 8 := by simp [bigE]; omega
                 simp only [List.length_append]; omega
      intro v1 w2 hR2 hB2 hG2 hat2
      obtain ⟨A1, c1, hv1⟩ : ∃ A c, v1 = .slice A (l ++ (bigE n size).take i ++ [byteAt n size i]).length c := by obtain ⟨_, inner, ho, _⟩ := hR2; exact own_slice ho
      subst hv1
      generalize hm : (l ++ (bigE n size).take i ++ [byteAt n size i]).length = m1 at *
      have hv2 := blk_grown (blk_drew hv) hG2 (Kd.R_away hR (fun k hk => hk))
      have hc2 : w2.cell? ⟨g, 0, none⟩ = some v := (blk_cell hv2 0).trans rfl
      have hf2 : w2.frozen? ⟨g, 0, none⟩ = false := blk_frozen hv2 0
      refine hK.out _ _ hc2 (fun hHeld => ?_)
      clear hK K
      refine norm_ (a' := ?_) ?_ ?_
      rotate_left
      · show Act.put _ (some 28) _ = _
        simp only [Act.put, List.setIfInBounds_toArray, List.set_cons_zero, List.set_cons_succ, i64_w, i32_w]; rfl
      refine pure_ (i := 15) (N := some 29) (v := ?_) (a' := ?_) #[true, true, true, true, true, true, true, true, true, true, true, true, true, true, true, true, false, false] rfl rfl (any_of HT_.out (by kernel_rfl)) (fun _ _ _ h => h) (Or.inl ⟨by rfl, ?_⟩) ?_ ?_
      rotate_left
      · intro w'; go_simp; with_reducible rfl
      rotate_left
      · simp only [Act.put, List.setIfInBounds_toArray, List.set_cons_zero, List.set_cons_succ, i64_w, i32_w]; rfl
      refine pure_ (i := 16) (N := some 30) (v := ?_) (a' := ?_) #[true, true, true, true, true, true, true, true, true, true, true, true, true, true, true, true, true, false] rfl rfl (any_of HT_.out (by kernel_rfl)) (fun _ _ _ h => h) (Or.inl ⟨by rfl, ?_⟩) ?_ ?_
      rotate_left
      · intro w'; go_simp; with_reducible rfl
      rotate_left
      · simp only [Act.put, List.setIfInBounds_toArray, List.set_cons_zero, List.set_cons_succ, i64_w, i32_w]; rfl
      refine last_ (i := 17) (N := none) #[true, true, true, true, true, true, true, true, true, true, true, true, true, true, true, true, true, true] rfl rfl (one_of HT_.out (by kernel_rfl)) (by decide) (fun K hK => ?_)
      refine skip_ (w1 := ?_) (by rfl) rfl ?_ ?_
      rotate_left
      · go_simp; rfl
      refine hK.out _ _ ?_
      clear hK K
      refine done_ (done_of HT_.out (by kernel_rfl)) ?_
      clear HT_ HW_
      have f5 : wrap64 ((i : Int) + 1) = (i : Int) + 1 := by unfold wrap64; omega
      have GR2 := Aside0.mk hR2
      have GV2 := Aside0.mk hv2
      have GV := Aside0.mk hv
      have GG2 := Aside0.mk hG2
      have GH := Aside0.mk hm
      have GHR := Aside0.mk hR
      clear hR2 hv2 hv hG2 hat2 hm hR hcell hHeld hc2 hf2 f1 f2 f3 f4 hcc
      go_wp2
      go_roundw
      case rel =>
        refine ⟨i + 1, _, rfl, by simp, ⟨hc⟩, ⟨⟨_, blk_put (cs' := #[.slice A1 m1 c1, .bool sp]) GV2.out 0 _ rfl, hg, ?_⟩⟩, ⟨below_set hB2 hg⟩, ⟨?_, ?_⟩⟩
        · have e : l ++ (bigE n size).take (i + 1) = l ++ (bigE n size).take i ++ [byteAt n size i] := by
            rw [List.append_assoc, bigE_step n hc]
          rw [e]
          exact Kd.R_far GR2.out (fun k hk => hk) _
        · have h1 := HF.out.1
          have h2 := GG2.out.size
          have h3 : w1.drew.heap.size = w1.heap.size := rfl
          simp
          omega
        · intro k hk hkg hty
          have h1 := HF.out.1
          have h3 : w1.drew.heap.size = w1.heap.size := rfl
          refine (Below.heap_setCell w2 _ _ k hkg).trans ((GG2.out.block k (by omega) (fun e => ?_)).trans (HF.out.2 k hk hkg hty))
          obtain ⟨_, inner, ho, _⟩ := GHR.out
          obtain ⟨cells, hc2⟩ := own_typed ho k e.symm
          exact hty _ _ ((HF.out.2 k hk hkg hty).symm.trans hc2)
      case measure => simp [intOf]; omega
    · have c0 : decide ((i : Int) < (size : Int)) = false := decide_eq_false (by omega)
      have hi2 : i = size := by have := Hi.out; omega
      subst hi2
      go_wp2
      refine bodyPost_ret ?_ rfl ⟨rfl, ?_, HB.out, HF.out⟩
      · simp [results, Try.results49, go_sem]
      · have e : (bigE n i).take i = bigE n i := by rw [List.take_of_length_le]; simp [bigE]
        have := HI.out
        rwa [e] at this
theorem field_put' (n : Int) (size : Nat) (sz : Int) (hsz : sz = (size : Int)) (g : Nat) (l : List Int) (sp : Bool) (w0 w : World) (hn0 : 0 ≤ n) (hn1 : n < 18446744073709551616) (hs : size ≤ 8) (hl : l.length + 8 ≤ 1000000) (HI : WR w0 w g l sp) (HB : Below w0.heap.size w0 w) :
    Calls Try.prog 49 #[.pointer (some ⟨g, 0, none⟩), .int .u64 n, .int .i64 sz] w fun e w' => e = .returned (.pointer (some ⟨g, 0, none⟩)) ∧ WR w0 w' g (l ++ bigE n size) sp ∧ Below w0.heap.size w0 w' ∧ WF w w' g := by
  subst hsz; exact field_put.calls n size g l sp w0 w hn0 hn1 hs hl HI HB
theorem u64_same {x : Int} (h0 : 0 ≤ x) (h1 : x < 18446744073709551616) : IntKind.u64.wrap x = x := by
  have : IntKind.u64.wrap x = x % 18446744073709551616 := rfl
  omega
theorem WR.drewN {w0 W : World} {g : Nat} {l : List Int} {sp : Bool} (h : WR w0 W g l sp) (m : Nat) : WR w0 (W.drewN m) g l sp := by
  obtain ⟨v, hv, hg, hR⟩ := h
  exact ⟨v, bd1 m hv, hg, Kd.R_drewN hR m⟩
set_option maxHeartbeats 8000000 in
set_option maxRecDepth 100000 in
theorem field_U8.calls (n : Int) (g : Nat) (l : List Int) (sp : Bool) (w0 w : World) (hn0 : 0 ≤ n) (hn1 : n < 256) (hl : l.length + 8 ≤ 1000000) (HI : WR w0 w g l sp) (HB : Below w0.heap.size w0 w) :
    Calls Try.prog 29 #[.pointer (some ⟨g, 0, none⟩), .int .u8 n] w fun e w' => e = .returned (.pointer (some ⟨g, 0, none⟩)) ∧ WR w0 w' g (l ++ bigE n 1) sp ∧ Below w0.heap.size w0 w' ∧ WF w w' g := by
  have HI0 := Aside0.mk HI
  have HB0 := Aside0.mk HB
  have fw : IntKind.u64.wrap n = n := u64_same hn0 (by omega)
  have h0 := Aside0.mk hn0
  have h1 := Aside0.mk (show n < 18446744073709551616 by omega)
  have h2 := Aside0.mk hl
  clear HI HB hn0 hn1 hl
  go_enter Try.func29, Try.ntmps29
  go_wp2_with (first | (go_at_call 49; (with_reducible refine (field_put' n 1 1 rfl g l sp w0 _ h0.out h1.out (by decide) h2.out ?a1 ?a2).mono ?_); (case a1 => first | exact HI0.out | exact WR.drewN HI0.out _); (case a2 => first | exact HB0.out | exact pw_below_drewN HB0.out _); rintro e w' ⟨rfl, hWR, hBB, hF⟩; have GW := Aside0.mk hWR; have GB := Aside0.mk hBB; have GF := Aside0.mk hF; clear hWR hBB hF))
  refine bodyPost_ret ?_ rfl ⟨rfl, GW.out, GB.out, GF.out⟩
  simp [results, Try.results29, go_sem]
set_option maxHeartbeats 8000000 in
set_option maxRecDepth 100000 in
theorem field_U32.calls (n : Int) (g : Nat) (l : List Int) (sp : Bool) (w0 w : World) (hn0 : 0 ≤ n) (hn1 : n < 4294967296) (hl : l.length + 8 ≤ 1000000) (HI : WR w0 w g l sp) (HB : Below w0.heap.size w0 w) :
    Calls Try.prog 31 #[.pointer (some ⟨g, 0, none⟩), .int .u32 n] w fun e w' => e = .returned (.pointer (some ⟨g, 0, none⟩)) ∧ WR w0 w' g (l ++ bigE n 4) sp ∧ Below w0.heap.size w0 w' ∧ WF w w' g := by
  have HI0 := Aside0.mk HI
  have HB0 := Aside0.mk HB
  have fw : IntKind.u64.wrap n = n := u64_same hn0 (by omega)
  have h0 := Aside0.mk hn0
  have h1 := Aside0.mk (show n < 18446744073709551616 by omega)
  have h2 := Aside0.mk hl
  clear HI HB hn0 hn1 hl
  go_enter Try.func31, Try.ntmps31
  go_wp2_with (first | (go_at_call 49; (with_reducible refine (field_put' n 4 4 rfl g l sp w0 _ h0.out h1.out (by decide) h2.out ?a1 ?a2).mono ?_); (case a1 => first | exact HI0.out | exact WR.drewN HI0.out _); (case a2 => first | exact HB0.out | exact pw_below_drewN HB0.out _); rintro e w' ⟨rfl, hWR, hBB, hF⟩; have GW := Aside0.mk hWR; have GB := Aside0.mk hBB; have GF := Aside0.mk hF; clear hWR hBB hF))
  refine bodyPost_ret ?_ rfl ⟨rfl, GW.out, GB.out, GF.out⟩
  simp [results, Try.results31, go_sem]
set_option maxHeartbeats 8000000 in
set_option maxRecDepth 100000 in
theorem field_U64.calls (n : Int) (g : Nat) (l : List Int) (sp : Bool) (w0 w : World) (hn0 : 0 ≤ n) (hn1 : n < 18446744073709551616) (hl : l.length + 8 ≤ 1000000) (HI : WR w0 w g l sp) (HB : Below w0.heap.size w0 w) :
    Calls Try.prog 30 #[.pointer (some ⟨g, 0, none⟩), .int .u64 n] w fun e w' => e = .returned (.pointer (some ⟨g, 0, none⟩)) ∧ WR w0 w' g (l ++ bigE n 8) sp ∧ Below w0.heap.size w0 w' ∧ WF w w' g := by
  have HI0 := Aside0.mk HI
  have HB0 := Aside0.mk HB
  have fw : IntKind.u64.wrap n = n := u64_same hn0 (by omega)
  have h0 := Aside0.mk hn0
  have h1 := Aside0.mk (show n < 18446744073709551616 by omega)
  have h2 := Aside0.mk hl
  clear HI HB hn0 hn1 hl
  go_enter Try.func30, Try.ntmps30
  go_wp2_with (first | (go_at_call 49; (with_reducible refine (field_put' n 8 8 rfl g l sp w0 _ h0.out h1.out (by decide) h2.out ?a1 ?a2).mono ?_); (case a1 => first | exact HI0.out | exact WR.drewN HI0.out _); (case a2 => first | exact HB0.out | exact pw_below_drewN HB0.out _); rintro e w' ⟨rfl, hWR, hBB, hF⟩; have GW := Aside0.mk hWR; have GB := Aside0.mk hBB; have GF := Aside0.mk hF; clear hWR hBB hF))
  refine bodyPost_ret ?_ rfl ⟨rfl, GW.out, GB.out, GF.out⟩
  simp [results, Try.results30, go_sem]
set_option maxHeartbeats 8000000 in
set_option maxRecDepth 100000 in
theorem fieldNewW.calls (w0 w : World) (hB : Below w0.heap.size w0 w) :
    Calls Try.prog 28 #[] w fun e w' => ∃ g_ : Nat, e = .returned (.pointer (some ⟨g_, 0, none⟩)) ∧ WR w0 w' g_ [] false ∧ Below w0.heap.size w0 w' ∧ Below w.heap.size w w' ∧ w.heap.size ≤ g_ := by
  have HB := Aside0.mk hB
  clear hB
  go_enter Try.func28, Try.ntmps28
  go_wp2
  refine bodyPost_ret ?_ rfl ⟨w.heap.size, rfl, ⟨.slice none 0 0, ?_, HB.out.size, Kd.R_nil _ _ _ _ _⟩, below_alloc HB.out _, below_alloc (Below.refl _ _) _, Nat.le_refl _⟩
  · simp [results, Try.results28, go_sem]
  · exact heap_alloc_new w _
set_option maxHeartbeats 8000000 in
set_option maxRecDepth 100000 in
theorem field_Done.calls (g : Nat) (l : List Int) (w0 w : World) (hl0 : 0 < l.length) (hl : l.length ≤ 1000000) (HI : WR w0 w g l false) (HB : Below w0.heap.size w0 w) :
    Calls Try.prog 34 #[.pointer (some ⟨g, 0, none⟩)] w fun e w' => ∃ v : Value, e = .returned (.tuple #[v, .int .i64 0]) ∧ Kd.R (Kd.int .u8) 5 w' w.heap.size (fun _ => True) v l ∧ Below w0.heap.size w0 w' ∧ Below w.heap.size w w' := by
  obtain ⟨v, hv, hg, hR⟩ := HI
  obtain ⟨A, c, rfl, hlen, hC⟩ := rows_read (Kd.R_reads hR)
  have GC := Aside0.mk hC
  have GB := Aside0.mk HB
  have hc0 : w.cell? ⟨g, 0, none⟩ = some (.slice A l.length c) := (blk_cell hv 0).trans rfl
  have hc1 : w.cell? ⟨g, 1, none⟩ = some (.bool false) := (blk_cell hv 1).trans rfl
  have hlt := blk_lt hv
  have hnil : Aside0 ((Kd.int .u8).R 5 (w.alloc (.cells #[] 5)) w.heap.size (fun _ => True) (.slice (some ⟨w.heap.size, 0, none⟩) 0 0) []) := by
    have h2 := World.ownsRow_lit (base := w.heap.size) (e := 5) (size := 1) w #[] 0 (Nat.le_refl _) (by decide) (by simp)
    exact ⟨Kd.R_of_own (xs := []) (by simpa [encs] using h2) (fun _ _ => trivial)⟩
  clear hR hC HB hv hlen
  go_enter Try.func34, Try.ntmps34
  go_wp2_with (first | ((with_reducible refine gate_builtin (b := .append) (xs := #[.tmp 12, .tmp 16]) rfl ?_); at_builtin; refine Kd.R_append_rows (Kd.int .u8) (w0 := w) w.heap.size rfl (.tmp 12) (.tmp 16) 24 5 (.int .u8 0) 1 rfl Try.underlying24 (by kernel_rfl) rfl (by decide) (by omega) (.slice (some ⟨w.heap.size, 0, none⟩) 0 0) [] l _ _ _ (fun _ => True) (fun _ => False) rfl rfl ?aO ?aR (fun _ _ h => h) (fun _ h => h.elim) ?aF ?aB ?aS ?aL ?_; (case aO => exact hnil.out); (case aR => exact Kd.C_alloc GC.out _); (case aF => intro _ _; trivial); (case aB => exact below_alloc (Below.refl _ _) _); (case aS => simp); (case aL => simp; omega); intro v1 w1 hR1 hB1 hG1 hat1; have GR1 := Aside0.mk hR1; have GB1 := Aside0.mk hB1; clear hR1 hB1 hG1 hat1))
  refine bodyPost_ret ?_ rfl ⟨v1, rfl, ?_, ?_, GB1.out⟩
  · simp [results, Try.results34, go_sem]
  · simpa using GR1.out
  · exact below_step GB.out GB1.out

/-- bytes that lie somewhere -/
def BY (w0 W : World) (b off cap : Nat) (l : List Int) : Prop := ∃ cur : Array Value, W.heap[b]? = some (.cells cur 5 (0, 0)) ∧ w0.heap.size ≤ b ∧ l.length ≤ cap ∧ ∀ (j : Nat) (x : Int), l[j]? = some x → cur[off + j]? = some (.int .u8 x)
/-- a reader's bytes that are left -/
def RD (w0 W : World) (g : Nat) (l : List Int) (sh : Bool) : Prop := ∃ b off cap : Nat, W.heap[g]? = some (.cells #[.slice (some ⟨b, off, none⟩) l.length cap, .bool sh] 89 (0, 0)) ∧ w0.heap.size ≤ g ∧ g ≠ b ∧ BY w0 W b off cap l
theorem BY.drop {w0 W : World} {b off cap : Nat} {l : List Int} (h : BY w0 W b off cap l) {n : Nat} (hn : n ≤ l.length) : BY w0 W b (off + n) (cap - n) (l.drop n) := by
  obtain ⟨cur, h1, h2, h3, h4⟩ := h
  refine ⟨cur, h1, h2, by simp; omega, fun j x hx => ?_⟩
  rw [List.getElem?_drop] at hx
  have := h4 _ _ hx
  rwa [← Nat.add_assoc] at this
theorem BY.take {w0 W : World} {b off cap : Nat} {l : List Int} (h : BY w0 W b off cap l) (n : Nat) : BY w0 W b off cap (l.take n) := by
  obtain ⟨cur, h1, h2, h3, h4⟩ := h
  refine ⟨cur, h1, h2, by simp; omega, fun j x hx => ?_⟩
  rw [List.getElem?_take] at hx
  split at hx
  · exact h4 _ _ hx
  · exact absurd hx (by simp)
theorem BY.none_ {w0 W : World} {b off cap : Nat} {l : List Int} (h : BY w0 W b off cap l) : BY w0 W b off 0 [] := by
  obtain ⟨cur, h1, h2, h3, h4⟩ := h
  exact ⟨cur, h1, h2, Nat.le_refl _, fun j x hx => by simp at hx⟩
theorem BY.set {w0 W : World} {b off cap : Nat} {l : List Int} (h : BY w0 W b off cap l) {g i : Nat} (hg : b ≠ g) (u : Value) : BY w0 (W.setCell ⟨g, i, none⟩ u) b off cap l := by
  obtain ⟨cur, h1, h2, h3, h4⟩ := h
  exact ⟨cur, blk_far h1 hg u, h2, h3, h4⟩
theorem BY.at_ {w0 W : World} {b off cap : Nat} {l : List Int} (h : BY w0 W b off cap l) {j : Nat} {x : Int} (hx : l[j]? = some x) : W.cell? ⟨b, off + j, none⟩ = some (.int .u8 x) := by
  obtain ⟨cur, h1, h2, h3, h4⟩ := h
  exact (blk_cell h1 (off + j)).trans (h4 _ _ hx)
/-- only the block g may have changed -/
def OB (w w' : World) (g : Nat) : Prop := w.heap.size ≤ w'.heap.size ∧ ∀ k, k < w.heap.size → k ≠ g → w'.heap[k]? = w.heap[k]?
set_option maxHeartbeats 8000000 in
set_option maxRecDepth 100000 in
theorem field_take.more (n : Nat) (nz : Int) (hz : nz = (n : Int)) (g : Nat) (l : List Int) (w0 w : World) (hn : n ≤ l.length) (hl : l.length ≤ 1000000) (HI : RD w0 w g l false) (HB : Below w0.heap.size w0 w) :
    Calls Try.prog 53 #[.pointer (some ⟨g, 0, none⟩), .int .i64 nz] w fun e w' => ∃ b off cap : Nat, e = .returned (.slice (some ⟨b, off, none⟩) (l.take n).length cap) ∧ BY w0 w' b off cap (l.take n) ∧ RD w0 w' g (l.drop n) false ∧ Below w0.heap.size w0 w' ∧ OB w w' g := by
  obtain ⟨b, off, cap, hv, hg, hne, hY⟩ := HI
  have GY := Aside0.mk hY
  have GB := Aside0.mk HB
  have hcap : l.length ≤ cap := by obtain ⟨_, _, _, h, _⟩ := hY; exact h
  have hc0 : w.cell? ⟨g, 0, none⟩ = some (.slice (some ⟨b, off, none⟩) l.length cap) := (blk_cell hv 0).trans rfl
  have hc1 : w.cell? ⟨g, 1, none⟩ = some (.bool false) := (blk_cell hv 1).trans rfl
  have hf0 : w.frozen? ⟨g, 0, none⟩ = false := blk_frozen hv 0
  have hf1 : w.frozen? ⟨g, 1, none⟩ = false := blk_frozen hv 1
  have GV := Aside0.mk hv
  have d1 : decide ((l.length : Int) < nz) = false := decide_eq_false (by omega)
  have p0 : 0 ≤ nz := by omega
  have p1 : nz ≤ (cap : Int) := by omega
  have p2 : nz ≤ (l.length : Int) := by omega
  have hnt : nz.toNat = n := by omega
  clear hY HB hv
  go_enter Try.func53, Try.ntmps53
  go_wp2
  case inr =>
    refine bodyPost_ret ?_ rfl ⟨b, off, cap, rfl, ?_, ?_, ?_, ?_⟩
    · simp [results, Try.results53, go_sem]
    · exact ((GY.out.set (Ne.symm hne) _).set (Ne.symm hne) _).take n
    · have e : (l.drop n).length = l.length - n := by simp
      refine ⟨b, off + n, cap - n, ?_, hg, hne, ((GY.out.set (Ne.symm hne) _).set (Ne.symm hne) _).drop hn⟩
      rw [e]
      exact blk_put (cs' := #[.slice (some ⟨b, off + n, none⟩) (l.length - n) (cap - n), .bool false]) (blk_put (cs' := #[.slice (some ⟨b, off, none⟩) l.length cap, .bool false]) GV.out 1 _ rfl) 0 _ rfl
    · exact below_set (below_set GB.out hg) hg
    · exact ⟨by simp, fun k _ hk => ((Below.heap_setCell _ _ _ k hk).trans (Below.heap_setCell _ _ _ k hk))⟩
  case inl =>
    have hcn : cap = n := by omega
    subst hcn
    have hl0 : l.drop cap = [] := List.drop_eq_nil_of_le hcap
    have hl1 : l.length = cap := by omega
    refine bodyPost_ret ?_ rfl ⟨b, off, cap, rfl, ?_, ?_, ?_, ?_⟩
    · simp [results, Try.results53, go_sem]
    · exact ((GY.out.set (Ne.symm hne) _).set (Ne.symm hne) _).take cap
    · rw [hl0]
      refine ⟨b, off, 0, ?_, hg, hne, ((GY.out.set (Ne.symm hne) _).set (Ne.symm hne) _).none_⟩
      rw [show l.length - cap = 0 by omega]
      exact blk_put (cs' := #[.slice (some ⟨b, off, none⟩) 0 0, .bool false]) (blk_put (cs' := #[.slice (some ⟨b, off, none⟩) l.length cap, .bool false]) GV.out 1 _ rfl) 0 _ rfl
    · exact below_set (below_set GB.out hg) hg
    · exact ⟨by simp, fun k _ hk => ((Below.heap_setCell _ _ _ k hk).trans (Below.heap_setCell _ _ _ k hk))⟩
/-- .. and where there are fewer: none, and the reader is short from then on -/
theorem field_take.less (n : Nat) (nz : Int) (hz : nz = (n : Int)) (g : Nat) (l : List Int) (sh : Bool) (w0 w : World) (hn : sh = true ∨ l.length < n) (hl : l.length ≤ 1000000) (hn2 : n ≤ 1000000) (HI : RD w0 w g l sh) (HB : Below w0.heap.size w0 w) :
    Calls Try.prog 53 #[.pointer (some ⟨g, 0, none⟩), .int .i64 nz] w fun e w' => e = .returned (.slice none 0 0) ∧ RD w0 w' g l true ∧ Below w0.heap.size w0 w' ∧ OB w w' g := by
  obtain ⟨b, off, cap, hv, hg, hne, hY⟩ := HI
  have GY := Aside0.mk hY
  have GB := Aside0.mk HB
  have hc0 : w.cell? ⟨g, 0, none⟩ = some (.slice (some ⟨b, off, none⟩) l.length cap) := (blk_cell hv 0).trans rfl
  have hc1 : w.cell? ⟨g, 1, none⟩ = some (.bool sh) := (blk_cell hv 1).trans rfl
  have hf1 : w.frozen? ⟨g, 1, none⟩ = false := blk_frozen hv 1
  have GV := Aside0.mk hv
  clear hY HB hv
  have fin : RD w0 (w.setCell ⟨g, 1, none⟩ (.bool true)) g l true := ⟨b, off, cap, blk_put (cs' := #[.slice (some ⟨b, off, none⟩) l.length cap, .bool true]) GV.out 1 _ rfl, hg, hne, GY.out.set (Ne.symm hne) _⟩
  have GF := Aside0.mk fin
  clear fin
  cases sh with
  | true =>
    go_enter Try.func53, Try.ntmps53
    go_wp2
    refine bodyPost_ret ?_ rfl ⟨rfl, GF.out, below_set GB.out hg, ⟨by simp, fun k _ hk => Below.heap_setCell _ _ _ k hk⟩⟩
    simp [results, Try.results53, go_sem]
  | false =>
    have hn3 : l.length < n := by rcases hn with h | h; exact absurd h (by decide); exact h
    have d1 : decide ((l.length : Int) < nz) = true := decide_eq_true (by omega)
    go_enter Try.func53, Try.ntmps53
    go_wp2
    refine bodyPost_ret ?_ rfl ⟨rfl, GF.out, below_set GB.out hg, ⟨by simp, fun k _ hk => Below.heap_setCell _ _ _ k hk⟩⟩
    simp [results, Try.results53, go_sem]
/-- a number out of its bytes -/
def numOf (l : List Int) : Int := l.foldl (fun n c => Go.bits .or .u64 (IntKind.u64.wrap (n * 256)) c) 0
theorem numOf_step (l : List Int) {i : Nat} {x : Int} (h : l[i]? = some x) : numOf (l.take (i + 1)) = Go.bits .or .u64 (IntKind.u64.wrap (numOf (l.take i) * 256)) x := by
  have e : l.take (i + 1) = l.take i ++ [x] := by rw [List.take_add_one, h]; rfl
  rw [e]
  simp [numOf, List.foldl_append]
set_option maxHeartbeats 8000000 in
set_option maxRecDepth 100000 in
theorem field_number.more (n : Nat) (nz : Int) (hz : nz = (n : Int)) (g : Nat) (l : List Int) (w0 w : World) (hn : n ≤ l.length) (hl : l.length ≤ 1000000) (HI : RD w0 w g l false) (HB : Below w0.heap.size w0 w) (hb : ∀ x ∈ l, 0 ≤ x ∧ x < 256) :
    Calls Try.prog 52 #[.pointer (some ⟨g, 0, none⟩), .int .i64 nz] w fun e w' => e = .returned (.int .u64 (numOf (l.take n))) ∧ RD w0 w' g (l.drop n) false ∧ Below w0.heap.size w0 w' ∧ OB w w' g := by
  subst hz
  have GI := Aside0.mk HI
  have GB := Aside0.mk HB
  clear HI HB
  go_enter Try.func52, Try.ntmps52
  go_wp2_with (first | (go_at_call 53; (with_reducible refine (field_take.more n (n : Int) rfl g l w0 _ hn hl GI.out GB.out).mono ?_); rintro e w1 ⟨b, off, cap, rfl, hY1, hI1, hB1, hO1⟩; have GY1 := Aside0.mk hY1; have GI1 := Aside0.mk hI1; have GB1 := Aside0.mk hB1; have GO1 := Aside0.mk hO1; clear hY1 hI1 hB1 hO1))
  go_loopw [5, 7, 12] (fun v5 v7 v12 w' => ∃ (i : Nat) (u : Value), v5 = .int .u64 (numOf (l.take i)) ∧ v7 = u ∧ v12 = .int .i64 (i : Int) ∧ Aside0 (i ≤ n) ∧ w' = w1) (fun _ _ v12 _ => n - (intOf v12).toNat)
  case atStart => exact ⟨0, _, rfl, rfl, rfl, ⟨Nat.zero_le _⟩, rfl⟩
  case round =>
    obtain ⟨i, u, rfl, rfl, rfl, Hi, rfl⟩ := hrel
    have hlen : (l.take n).length = n := by simp; omega
    by_cases hc : i < n
    · have hil : i < l.length := by omega
      obtain ⟨x, hx⟩ : ∃ x, l[i]? = some x := ⟨l[i], by simp [hil]⟩
      have hx2 : (l.take n)[i]? = some x := by rw [List.getElem?_take, if_pos hc]; exact hx
      have hcell := GY1.out.at_ hx2
      have hbx := hb x (List.mem_of_getElem? hx)
      have f1 : IntKind.u64.wrap x = x := u64_same hbx.1 (by omega)
      have f2 : wrap64 ((i : Int) + 1) = (i : Int) + 1 := by unfold wrap64; omega
      have c0 : decide ((i : Int) < (n : Int)) = true := decide_eq_true (by omega)
      have c1 : decide ((i : Int) < ((l.take n).length : Int)) = true := decide_eq_true (by omega)
      go_wp2
      exact ⟨⟨i + 1, _, by rw [numOf_step l hx], rfl, by simp, ⟨hc⟩, trivial⟩, by simp [intOf]; omega⟩
    · have hi2 : i = n := by have := Hi.out; omega
      subst hi2
      have c1 : decide ((i : Int) < ((l.take i).length : Int)) = false := decide_eq_false (by omega)
      go_wp2
      refine bodyPost_ret ?_ rfl ⟨rfl, GI1.out, GB1.out, GO1.out⟩
      simp [results, Try.results52, go_sem]
/-- .. and where there are fewer -/
theorem field_number.less (n : Nat) (nz : Int) (hz : nz = (n : Int)) (g : Nat) (l : List Int) (sh : Bool) (w0 w : World) (hn : sh = true ∨ l.length < n) (hl : l.length ≤ 1000000) (hn2 : n ≤ 1000000) (HI : RD w0 w g l sh) (HB : Below w0.heap.size w0 w) :
    Calls Try.prog 52 #[.pointer (some ⟨g, 0, none⟩), .int .i64 nz] w fun e w' => e = .returned (.int .u64 0) ∧ RD w0 w' g l true ∧ Below w0.heap.size w0 w' ∧ OB w w' g := by
  subst hz
  have GI := Aside0.mk HI
  have GB := Aside0.mk HB
  have GN := Aside0.mk hn
  clear HI HB hn
  go_enter Try.func52, Try.ntmps52
  go_wp2_with (first | (go_at_call 53; (with_reducible refine (field_take.less n (n : Int) rfl g l sh w0 _ GN.out hl hn2 GI.out GB.out).mono ?_); rintro e w1 ⟨rfl, hI1, hB1, hO1⟩; have GI1 := Aside0.mk hI1; have GB1 := Aside0.mk hB1; have GO1 := Aside0.mk hO1; clear hI1 hB1 hO1))
  go_loopw [5, 7, 12] (fun v5 v7 v12 w' => ∃ u : Value, v5 = .int .u64 0 ∧ v7 = u ∧ v12 = .int .i64 0 ∧ w' = w1) (fun _ _ _ _ => 0)
  case atStart => exact ⟨_, rfl, rfl, rfl, rfl⟩
  case round =>
    obtain ⟨u, rfl, rfl, rfl, rfl⟩ := hrel
    go_wp2
    refine bodyPost_ret ?_ rfl ⟨rfl, GI1.out, GB1.out, GO1.out⟩
    simp [results, Try.results52, go_sem]

set_option maxHeartbeats 8000000 in
set_option maxRecDepth 100000 in
theorem field_RU8.more (g : Nat) (l : List Int) (w0 w : World) (hn : 1 ≤ l.length) (hl : l.length ≤ 1000000) (HI : RD w0 w g l false) (HB : Below w0.heap.size w0 w) (hb : ∀ x ∈ l, 0 ≤ x ∧ x < 256) :
    Calls Try.prog 41 #[.pointer (some ⟨g, 0, none⟩)] w fun e w' => e = .returned (.int .u8 (numOf (l.take 1) % 256)) ∧ RD w0 w' g (l.drop 1) false ∧ Below w0.heap.size w0 w' ∧ OB w w' g := by
  have GI := Aside0.mk HI
  have GB := Aside0.mk HB
  have GN := Aside0.mk hb
  clear HI HB hb
  go_enter Try.func41, Try.ntmps41
  go_wp2_with (first | (go_at_call 52; (with_reducible refine (field_number.more 1 1 rfl g l w0 _ hn hl GI.out GB.out GN.out).mono ?_); rintro e w1 ⟨rfl, hI1, hB1, hO1⟩; have GI1 := Aside0.mk hI1; have GB1 := Aside0.mk hB1; have GO1 := Aside0.mk hO1; clear hI1 hB1 hO1))
  refine bodyPost_ret ?_ rfl ⟨rfl, GI1.out, GB1.out, GO1.out⟩
  simp [results, Try.results41, go_sem]
set_option maxHeartbeats 8000000 in
set_option maxRecDepth 100000 in
theorem field_RU8.less (g : Nat) (l : List Int) (sh : Bool) (w0 w : World) (hn : sh = true ∨ l.length < 1) (hl : l.length ≤ 1000000) (HI : RD w0 w g l sh) (HB : Below w0.heap.size w0 w) :
    Calls Try.prog 41 #[.pointer (some ⟨g, 0, none⟩)] w fun e w' => e = .returned (.int .u8 0) ∧ RD w0 w' g l true ∧ Below w0.heap.size w0 w' ∧ OB w w' g := by
  have GI := Aside0.mk HI
  have GB := Aside0.mk HB
  have GN := Aside0.mk hn
  clear HI HB hn
  go_enter Try.func41, Try.ntmps41
  go_wp2_with (first | (go_at_call 52; (with_reducible refine (field_number.less 1 1 rfl g l sh w0 _ GN.out hl (by decide) GI.out GB.out).mono ?_); rintro e w1 ⟨rfl, hI1, hB1, hO1⟩; have GI1 := Aside0.mk hI1; have GB1 := Aside0.mk hB1; have GO1 := Aside0.mk hO1; clear hI1 hB1 hO1))
  refine bodyPost_ret ?_ rfl ⟨rfl, GI1.out, GB1.out, GO1.out⟩
  simp [results, Try.results41, go_sem]

set_option maxHeartbeats 8000000 in
set_option maxRecDepth 100000 in
theorem field_RU32.more (g : Nat) (l : List Int) (w0 w : World) (hn : 4 ≤ l.length) (hl : l.length ≤ 1000000) (HI : RD w0 w g l false) (HB : Below w0.heap.size w0 w) (hb : ∀ x ∈ l, 0 ≤ x ∧ x < 256) :
    Calls Try.prog 43 #[.pointer (some ⟨g, 0, none⟩)] w fun e w' => e = .returned (.int .u32 (numOf (l.take 4) % 4294967296)) ∧ RD w0 w' g (l.drop 4) false ∧ Below w0.heap.size w0 w' ∧ OB w w' g := by
  have GI := Aside0.mk HI
  have GB := Aside0.mk HB
  have GN := Aside0.mk hb
  clear HI HB hb
  go_enter Try.func43, Try.ntmps43
  go_wp2_with (first | (go_at_call 52; (with_reducible refine (field_number.more 4 4 rfl g l w0 _ hn hl GI.out GB.out GN.out).mono ?_); rintro e w1 ⟨rfl, hI1, hB1, hO1⟩; have GI1 := Aside0.mk hI1; have GB1 := Aside0.mk hB1; have GO1 := Aside0.mk hO1; clear hI1 hB1 hO1))
  refine bodyPost_ret ?_ rfl ⟨rfl, GI1.out, GB1.out, GO1.out⟩
  simp [results, Try.results43, go_sem]
set_option maxHeartbeats 8000000 in
set_option maxRecDepth 100000 in
theorem field_RU32.less (g : Nat) (l : List Int) (sh : Bool) (w0 w : World) (hn : sh = true ∨ l.length < 4) (hl : l.length ≤ 1000000) (HI : RD w0 w g l sh) (HB : Below w0.heap.size w0 w) :
    Calls Try.prog 43 #[.pointer (some ⟨g, 0, none⟩)] w fun e w' => e = .returned (.int .u32 0) ∧ RD w0 w' g l true ∧ Below w0.heap.size w0 w' ∧ OB w w' g := by
  have GI := Aside0.mk HI
  have GB := Aside0.mk HB
  have GN := Aside0.mk hn
  clear HI HB hn
  go_enter Try.func43, Try.ntmps43
  go_wp2_with (first | (go_at_call 52; (with_reducible refine (field_number.less 4 4 rfl g l sh w0 _ GN.out hl (by decide) GI.out GB.out).mono ?_); rintro e w1 ⟨rfl, hI1, hB1, hO1⟩; have GI1 := Aside0.mk hI1; have GB1 := Aside0.mk hB1; have GO1 := Aside0.mk hO1; clear hI1 hB1 hO1))
  refine bodyPost_ret ?_ rfl ⟨rfl, GI1.out, GB1.out, GO1.out⟩
  simp [results, Try.results43, go_sem]

set_option maxHeartbeats 8000000 in
set_option maxRecDepth 100000 in
theorem field_RU64.more (g : Nat) (l : List Int) (w0 w : World) (hn : 8 ≤ l.length) (hl : l.length ≤ 1000000) (HI : RD w0 w g l false) (HB : Below w0.heap.size w0 w) (hb : ∀ x ∈ l, 0 ≤ x ∧ x < 256) :
    Calls Try.prog 42 #[.pointer (some ⟨g, 0, none⟩)] w fun e w' => e = .returned (.int .u64 (numOf (l.take 8))) ∧ RD w0 w' g (l.drop 8) false ∧ Below w0.heap.size w0 w' ∧ OB w w' g := by
  have GI := Aside0.mk HI
  have GB := Aside0.mk HB
  have GN := Aside0.mk hb
  clear HI HB hb
  go_enter Try.func42, Try.ntmps42
  go_wp2_with (first | (go_at_call 52; (with_reducible refine (field_number.more 8 8 rfl g l w0 _ hn hl GI.out GB.out GN.out).mono ?_); rintro e w1 ⟨rfl, hI1, hB1, hO1⟩; have GI1 := Aside0.mk hI1; have GB1 := Aside0.mk hB1; have GO1 := Aside0.mk hO1; clear hI1 hB1 hO1))
  refine bodyPost_ret ?_ rfl ⟨rfl, GI1.out, GB1.out, GO1.out⟩
  simp [results, Try.results42, go_sem]
set_option maxHeartbeats 8000000 in
set_option maxRecDepth 100000 in
theorem field_RU64.less (g : Nat) (l : List Int) (sh : Bool) (w0 w : World) (hn : sh = true ∨ l.length < 8) (hl : l.length ≤ 1000000) (HI : RD w0 w g l sh) (HB : Below w0.heap.size w0 w) :
    Calls Try.prog 42 #[.pointer (some ⟨g, 0, none⟩)] w fun e w' => e = .returned (.int .u64 0) ∧ RD w0 w' g l true ∧ Below w0.heap.size w0 w' ∧ OB w w' g := by
  have GI := Aside0.mk HI
  have GB := Aside0.mk HB
  have GN := Aside0.mk hn
  clear HI HB hn
  go_enter Try.func42, Try.ntmps42
  go_wp2_with (first | (go_at_call 52; (with_reducible refine (field_number.less 8 8 rfl g l sh w0 _ GN.out hl (by decide) GI.out GB.out).mono ?_); rintro e w1 ⟨rfl, hI1, hB1, hO1⟩; have GI1 := Aside0.mk hI1; have GB1 := Aside0.mk hB1; have GO1 := Aside0.mk hO1; clear hI1 hB1 hO1))
  refine bodyPost_ret ?_ rfl ⟨rfl, GI1.out, GB1.out, GO1.out⟩
  simp [results, Try.results42, go_sem]

theorem BY.of_R {w0 W : World} {v : Value} {l : List Int} {ok : Nat → Prop} (h : (Kd.int .u8).R 5 W w0.heap.size ok v l) (hv : v.ownBlock ≠ none) : ∃ b cap : Nat, v = .slice (some ⟨b, 0, none⟩) l.length cap ∧ BY w0 W b 0 cap l := by
  have ho := Kd.own_of_R h
  obtain ⟨h1, h2⟩ := ho
  rcases h2 with ⟨rfl, _⟩ | ⟨b, cap, cur, rfl, hb, hh, hn, hm, hs, ht⟩
  · exact absurd rfl hv
  · refine ⟨b, cap, rfl, cur, hh, hb, hn, fun j x hx => ?_⟩
    have hj : j < l.length := (List.getElem?_eq_some_iff.1 hx).1
    have e1 : (cur.toList.take (l.length * 1))[j]? = some (.int .u8 x) := by rw [ht]; simp [encs, hx]
    rw [Nat.mul_one, List.getElem?_take, if_pos hj] at e1
    rw [Nat.zero_add]
    simpa using e1
set_option maxHeartbeats 8000000 in
set_option maxRecDepth 100000 in
theorem fieldNewR.calls (A : Option Addr) (c : Nat) (l : List Int) (w0 w : World) (hr : Kd.C (Kd.int .u8) w A l.length l) (hl : l.length ≤ 1000000) (HB : Below w0.heap.size w0 w) :
    Calls Try.prog 40 #[.slice A l.length c] w fun e w' => ∃ g : Nat, e = .returned (.pointer (some ⟨g, 0, none⟩)) ∧ RD w0 w' g l false ∧ Below w0.heap.size w0 w' ∧ Below w.heap.size w w' ∧ w.heap.size ≤ g := by
  have GC := Aside0.mk hr
  have GB := Aside0.mk HB
  have hnil : Aside0 ((Kd.int .u8).R 5 (w.alloc (.cells #[] 5)) w.heap.size (fun _ => True) (.slice (some ⟨w.heap.size, 0, none⟩) 0 0) []) := by
    have h2 := World.ownsRow_lit (base := w.heap.size) (e := 5) (size := 1) w #[] 0 (Nat.le_refl _) (by decide) (by simp)
    exact ⟨Kd.R_of_own (xs := []) (by simpa [encs] using h2) (fun _ _ => trivial)⟩
  clear hr HB
  go_enter Try.func40, Try.ntmps40
  go_wp2_with (first | ((with_reducible refine gate_builtin (b := .append) (xs := #[.tmp 3, .tmp 4]) rfl ?_); at_builtin; refine Kd.R_append_rows (Kd.int .u8) (w0 := w) w.heap.size rfl (.tmp 3) (.tmp 4) 24 5 (.int .u8 0) 1 rfl Try.underlying24 (by kernel_rfl) rfl (by decide) (by omega) (.slice (some ⟨w.heap.size, 0, none⟩) 0 0) [] l _ _ _ (fun _ => True) (fun _ => False) rfl rfl ?aO ?aR (fun _ _ h => h) (fun _ h => h.elim) ?aF ?aB ?aS ?aL ?_; (case aO => exact hnil.out); (case aR => exact Kd.C_alloc GC.out _); (case aF => intro _ _; trivial); (case aB => exact below_alloc (Below.refl _ _) _); (case aS => simp); (case aL => simp; omega); intro v1 w1 hR1 hB1 hG1 hat1; have hv1 : v1.ownBlock ≠ none := (by rcases hat1 with e | ⟨b_, e, _⟩ <;> (rw [e]; simp [Value.ownBlock])); obtain ⟨b, cap, rfl, hY⟩ := BY.of_R (by simpa using hR1) hv1; have GY := Aside0.mk hY; have GB1 := Aside0.mk hB1; have GG1 := Aside0.mk hG1; clear hR1 hB1 hG1 hat1 hv1 hY))
  have hg : w.heap.size ≤ w1.heap.size := GB1.out.size
  have GB2 := Aside0.mk (below_step GB.out GB1.out)
  refine bodyPost_ret ?_ rfl ⟨w1.heap.size, rfl, ⟨b, 0, cap, heap_alloc_new w1 _, GB2.out.size, ?_, ?_⟩, below_alloc GB2.out _, below_alloc GB1.out _, hg⟩
  · simp [results, Try.results40, go_sem]
  · obtain ⟨cur, h, _⟩ := GY.out
    have := blk_lt h
    omega
  · obtain ⟨cur, h, h2, h3, h4⟩ := GY.out
    exact ⟨cur, bd3 _ h, Nat.le_trans GB.out.size h2, h3, h4⟩
set_option maxHeartbeats 8000000 in
set_option maxRecDepth 100000 in
theorem field_RDone.calls (g : Nat) (l : List Int) (sh : Bool) (w0 w : World) (hl : l.length ≤ 1000000) (HI : RD w0 w g l sh) :
    Calls Try.prog 45 #[.pointer (some ⟨g, 0, none⟩)] w fun e w' => e = .returned (.int .i64 (if sh then 10 else if l.length = 0 then 0 else 11)) ∧ Drawn0 w w' := by
  obtain ⟨b, off, cap, hv, hg, hne, hY⟩ := HI
  have hc0 : w.cell? ⟨g, 0, none⟩ = some (.slice (some ⟨b, off, none⟩) l.length cap) := (blk_cell hv 0).trans rfl
  have hc1 : w.cell? ⟨g, 1, none⟩ = some (.bool sh) := (blk_cell hv 1).trans rfl
  clear hv hY
  cases sh with
  | true =>
    go_enter Try.func45, Try.ntmps45
    go_wp2
    refine bodyPost_ret ?_ rfl ⟨rfl, ?_⟩
    · simp [results, Try.results45, go_sem]
    · exact ⟨0, rfl⟩
  | false =>
    by_cases h : l.length = 0
    · have d : decide (0 < (l.length : Int)) = false := decide_eq_false (by omega)
      simp only [h, if_true, Bool.false_eq_true, if_false]
      rw [h] at hc0 d
      go_enter Try.func45, Try.ntmps45
      go_wp2
      refine bodyPost_ret ?_ rfl ⟨rfl, ?_⟩
      · simp [results, Try.results45, go_sem]
      · exact ⟨0, rfl⟩
    · have d : decide (0 < (l.length : Int)) = true := decide_eq_true (by omega)
      simp only [h, if_false, Bool.false_eq_true]
      go_enter Try.func45, Try.ntmps45
      go_wp2
      refine bodyPost_ret ?_ rfl ⟨rfl, ?_⟩
      · simp [results, Try.results45, go_sem]
      · exact ⟨0, rfl⟩

theorem u8_same {x : Int} (h0 : 0 ≤ x) (h1 : x < 256) : IntKind.u8.wrap x = x := by
  have : IntKind.u8.wrap x = x % 256 := rfl
  omega
/-- 1 of true -/
def bitI : Bool → Int
  | true => 1
  | false => 0
theorem bit_any (b : Bool) (w : World) : Calls Try.prog 33 #[.bool b] w fun e w' => e = .returned (.int .u8 (bitI b)) ∧ Drawn0 w w' := by
  cases b with
  | true =>
    go_enter Try.func33, Try.ntmps33
    go_wp2
    refine bodyPost_ret ?_ rfl ⟨rfl, ⟨0, rfl⟩⟩
    simp [results, Try.results33, go_sem, bitI]
  | false =>
    go_enter Try.func33, Try.ntmps33
    go_wp2
    refine bodyPost_ret ?_ rfl ⟨rfl, ⟨0, rfl⟩⟩
    simp [results, Try.results33, go_sem, bitI]
set_option maxHeartbeats 8000000 in
set_option maxRecDepth 100000 in
theorem field_Text.calls (A : Option Addr) (c : Nat) (l2 : List Int) (g : Nat) (l : List Int) (w0 w : World) (hC : Kd.C (Kd.int .u8) w0 A l2.length l2) (h2 : l2.length ≤ 255) (hl : l.length + 300 ≤ 1000000) (HI : WR w0 w g l false) (HB : Below w0.heap.size w0 w) :
    Calls Try.prog 32 #[.pointer (some ⟨g, 0, none⟩), .slice A l2.length c] w fun e w' => e = .returned (.pointer (some ⟨g, 0, none⟩)) ∧ WR w0 w' g (l ++ bigE (l2.length : Int) 1 ++ l2) false ∧ Below w0.heap.size w0 w' ∧ WF w w' g := by
  have HI0 := Aside0.mk HI
  have HB0 := Aside0.mk HB
  have GC := Aside0.mk hC
  have c0 : decide (255 < (l2.length : Int)) = false := decide_eq_false (by omega)
  have fw : IntKind.u8.wrap (l2.length : Int) = (l2.length : Int) := u8_same (by omega) (by omega)
  have G1 := Aside0.mk (show (0 : Int) ≤ (l2.length : Int) by omega)
  have G2 := Aside0.mk (show (l2.length : Int) < 256 by omega)
  have G3 := Aside0.mk (show l.length + 8 ≤ 1000000 by omega)
  have G4 := Aside0.mk (show ((l ++ bigE (l2.length : Int) 1).length + l2.length) * 1 ≤ 140737488355328 by simp [bigE]; omega)
  clear HI HB hC
  go_enter Try.func32, Try.ntmps32
  go_wp2_with (first | (go_at_call 29; (with_reducible refine (field_U8.calls (l2.length : Int) g l false w0 _ G1.out G2.out G3.out ?a1 ?a2).mono ?_); (case a1 => exact HI0.out); (case a2 => exact HB0.out); rintro e w1 ⟨rfl, hWR, hBB, hF⟩; obtain ⟨v, hv, hg, hR⟩ := hWR; have GR := Aside0.mk hR; have GB := Aside0.mk hBB; have GF := Aside0.mk hF; have GV := Aside0.mk hv; have GG := Aside0.mk hg; have hc0 : w1.cell? ⟨g, 0, none⟩ = some v := (blk_cell hv 0).trans rfl; have hf0 : w1.frozen? ⟨g, 0, none⟩ = false := blk_frozen hv 0; clear hR hBB hF hv hg) | ((with_reducible refine gate_builtin (b := .append) (xs := #[.tmp 25, .tmp 26]) rfl ?_); at_builtin; refine Kd.R_append_rows (Kd.int .u8) (w0 := w0) w0.heap.size rfl (.tmp 25) (.tmp 26) 24 5 (.int .u8 0) 1 rfl Try.underlying24 (by kernel_rfl) rfl (by decide) (by omega) v (l ++ bigE (l2.length : Int) 1) l2 _ _ _ (fun k => k ≠ g) (fun _ => False) rfl rfl ?aO ?aR (fun _ _ h => h) (fun _ h => h.elim) ?aF ?aB ?aS ?aL ?_; (case aO => exact GR.out); (case aR => exact Kd.C_below GC.out GB.out); (case aF => intro k hk; have := blk_lt GV.out; omega); (case aB => exact GB.out); (case aS => exact GB.out.size); (case aL => exact G4.out); intro v1 w2 hR2 hB2 hG2 hat2; obtain ⟨A1, c1, hv1⟩ : ∃ A c, v1 = .slice A (l ++ bigE (l2.length : Int) 1 ++ l2).length c := (by obtain ⟨_, inner, ho, _⟩ := hR2; exact own_slice ho); subst hv1; generalize hm : (l ++ bigE (l2.length : Int) 1 ++ l2).length = m1 at hR2 ⊢; have hv2 := blk_grown GV.out hG2 (Kd.R_away GR.out (fun k hk => hk)); have GR2 := Aside0.mk hR2; have GB2 := Aside0.mk hB2; have GG2 := Aside0.mk hG2; have GV2 := Aside0.mk hv2; have hc2 : w2.cell? ⟨g, 0, none⟩ = some v := (blk_cell hv2 0).trans rfl; have hf2 : w2.frozen? ⟨g, 0, none⟩ = false := blk_frozen hv2 0; have GH := Aside0.mk hm; clear hm hR2 hB2 hG2 hat2 hv2 hc0 hf0))
  refine bodyPost_ret ?_ rfl ⟨rfl, ⟨_, blk_put (cs' := #[.slice A1 m1 c1, .bool false]) GV2.out 0 _ rfl, GG.out, Kd.R_far GR2.out (fun k hk => hk) _⟩, below_set GB2.out GG.out, ?_, ?_⟩
  · simp [results, Try.results32, go_sem]
  · have h1 := GF.out.1
    have h2 := GG2.out.size
    simp
    omega
  · intro k hk hkg hty
    have h1 := GF.out.1
    refine (Below.heap_setCell w2 _ _ k hkg).trans ((GG2.out.block k (by omega) (fun e => ?_)).trans (GF.out.2 k hk hkg hty))
    obtain ⟨_, inner, ho, _⟩ := GR.out
    obtain ⟨cells, hc2⟩ := own_typed ho k e.symm
    exact hty _ _ ((GF.out.2 k hk hkg hty).symm.trans hc2)
theorem WR.drew {w0 W : World} {g : Nat} {l : List Int} {sp : Bool} (h : WR w0 W g l sp) : WR w0 W.drew g l sp := by
  obtain ⟨v, hv, hg, hR⟩ := h
  exact ⟨v, blk_drew hv, hg, Kd.R_drew hR⟩
theorem WF.keep {w w' : World} {g b : Nat} {cs : Array Value} {t : TypeId} {fr : Nat × Nat} (hF : WF w w' g) (h : w.heap[b]? = some (.cells cs t fr)) (ht : t ≠ 5) (hb : b ≠ g) : w'.heap[b]? = some (.cells cs t fr) :=
  (hF.2 b (blk_lt h) hb (fun cs' fr' e => ht (by rw [h] at e; injection e with e; injection e))).trans h
def entry_Put.T4 : Bool × List (List Nat × List Nat) := (true, [([], []), ([], []), ([1], [1]), ([2], [2]), ([0, 3, 0], [0, 3]), ([], []), ([5], [5]), ([4, 6, 4], [4, 6]), ([], []), ([8], [8]), ([7, 9, 7], [7, 9]), ([10, 10, 0, 1, 2, 3, 4, 5, 6, 7, 8, 9, 10], [10])])
def entry_Put.B4 : List Nat := [0, 0, 2, 6, 15, 0, 32, 127, 0, 256, 1023, 2047]
theorem entry_Put.tab4 : rtab .any (opsOf Try.f14 4) = entry_Put.T4 := by kernel_rfl
theorem entry_Put.bits4 : waitsOk entry_Put.T4.2 entry_Put.B4 = true := by kernel_rfl
def entry_Put.T7 : Bool × List (List Nat × List Nat) := (true, [([], []), ([], []), ([1], [1]), ([0, 2], [0, 2]), ([], []), ([4], [4]), ([3, 5, 3], [3, 5]), ([], []), ([7], [7]), ([6, 8, 6], [6, 8])])
def entry_Put.B7 : List Nat := [0, 0, 2, 7, 0, 16, 63, 0, 128, 511]
theorem entry_Put.tab7 : rtab .any (opsOf Try.f14 7) = entry_Put.T7 := by kernel_rfl
theorem entry_Put.bits7 : waitsOk entry_Put.T7.2 entry_Put.B7 = true := by kernel_rfl
def entry_Put.T9 : Bool × List (List Nat × List Nat) := (true, [([], []), ([], []), ([1], [1]), ([0, 2], [0, 2]), ([], []), ([4], [4]), ([5], [5]), ([3, 6, 3], [3, 6]), ([], []), ([8], [8]), ([9, 7], [9]), ([7, 10, 10], [7, 10]), ([], []), ([12], [12]), ([13], [13]), ([11, 14, 11], [11, 14])])
def entry_Put.B9 : List Nat := [0, 0, 2, 7, 0, 16, 48, 127, 0, 256, 1023, 2047, 0, 4096, 12288, 32767]
theorem entry_Put.tab9 : rtab .any (opsOf Try.f14 9) = entry_Put.T9 := by kernel_rfl
theorem entry_Put.bits9 : waitsOk entry_Put.T9.2 entry_Put.B9 = true := by kernel_rfl
def entry_Put.T11 : Bool × List (List Nat × List Nat) := (true, [([], []), ([], []), ([1], [1]), ([0, 2], [0, 2]), ([], []), ([4], [4]), ([5], [5]), ([3, 6, 3], [3, 6]), ([], []), ([8], [8]), ([9, 7], [9]), ([7, 10, 10], [7, 10]), ([], []), ([12], [12]), ([13], [13]), ([11, 14, 11], [11, 14]), ([], []), ([16], [16]), ([17], [17]), ([15, 18, 15], [15, 18])])
def entry_Put.B11 : List Nat := [0, 0, 2, 7, 0, 16, 48, 127, 0, 256, 1023, 2047, 0, 4096, 12288, 32767, 0, 65536, 196608, 524287]
theorem entry_Put.tab11 : rtab .any (opsOf Try.f14 11) = entry_Put.T11 := by kernel_rfl
theorem entry_Put.bits11 : waitsOk entry_Put.T11.2 entry_Put.B11 = true := by kernel_rfl
def entry_Put.T13 : Bool × List (List Nat × List Nat) := (true, [([], []), ([], []), ([1], [1]), ([0, 2], [0, 2]), ([], []), ([4], [4]), ([5], [5]), ([3, 6, 3], [3, 6])])
def entry_Put.B13 : List Nat := [0, 0, 2, 7, 0, 16, 48, 127]
theorem entry_Put.tab13 : rtab .any (opsOf Try.f14 13) = entry_Put.T13 := by kernel_rfl
theorem entry_Put.bits13 : waitsOk entry_Put.T13.2 entry_Put.B13 = true := by kernel_rfl
set_option maxHeartbeats 8000000 in
set_option maxRecDepth 100000 in
theorem put_1 (ls ep o st : Int) (un : Bool) (tr co mk : Int) (A9 : Option Addr) (n9 c9 : Nat) (A10 : Option Addr) (n10 c10 : Nat) (w : World) (hok : entryOk 1 ls ep o st un tr co mk n9 n10 = true) (hls0 : 0 ≤ ls) (hls1 : ls < 18446744073709551616) (hep0 : 0 ≤ ep) (hep1 : ep < 4294967296) (ho0 : 0 ≤ o) (ho1 : o < 4294967296) (hmk0 : 0 ≤ mk) (hmk1 : mk < 18446744073709551616) : Calls Try.prog 14 #[.agg #[.int .i64 1, .int .u64 ls, .int .u32 ep, .int .u32 o, .int .i64 st, .bool un, .int .i64 tr, .int .i64 co, .int .u64 mk, .slice A9 n9 c9, .slice A10 n10 c10]] w fun e w' => ∃ v0_ : Value, e = .returned (.tuple #[v0_, .int .i64 0]) ∧ Kd.R (Kd.int .u8) 5 w' w.heap.size (fun _ => True) v0_ (([] : List Int) ++ bigE 1 1 ++ bigE ls 8 ++ bigE ep 4) ∧ Below w.heap.size w w' := by
  have Gls0 := Aside0.mk hls0
  have Gls1 := Aside0.mk hls1
  have Gep0 := Aside0.mk hep0
  have Gep1 := Aside0.mk hep1
  have Go0 := Aside0.mk ho0
  have Go1 := Aside0.mk ho1
  have Gmk0 := Aside0.mk hmk0
  have Gmk1 := Aside0.mk hmk1
  clear hls0 hls1 hep0 hep1 ho0 ho1 hmk0 hmk1
  go_enter Try.func14, Try.ntmps14
  go_wp2_with (first | (go_at_call 15; (with_reducible refine (check_any 1 ls ep o st un tr co mk A9 n9 c9 A10 n10 c10 _).mono ?_); rintro e w1 ⟨rfl, hb⟩; rw [hok, ansE]; have BK := Aside0.mk (blk_below (heap_last _ _) hb); have HB := Aside0.mk (below_step (below_alloc (Below.refl _ _) _) hb); clear hb))
  have n_BK := Aside0.mk (blk_drew BK.out)
  have n_HB := Aside0.mk (below_drew1 HB.out)
  clear BK HB
  have BK := n_BK
  have HB := n_HB
  clear n_BK n_HB
  refine start_ (n := 12) (S := fun w' => w'.cell? ⟨w.heap.size, 0, none⟩ = some (.int .i64 1) ∧ w'.cell? ⟨w.heap.size, 1, none⟩ = some (.int .u64 ls) ∧ w'.cell? ⟨w.heap.size, 2, none⟩ = some (.int .u32 ep)) (ds := []) #[false, false, false, false, false, false, false, false, false, false, false, false] (by kernel_rfl) rfl rfl ⟨(blk_cell BK.out 0).trans rfl, (blk_cell BK.out 1).trans rfl, (blk_cell BK.out 2).trans rfl⟩ (fun hHeld => ?_); refine with_tabW entry_Put.tab4 entry_Put.bits4 (fun HT_ HW_ => ?_)
  generalize w1.drew = wd_ at BK HB hHeld ⊢
  refine pure_ (i := 1) (N := some 12) (v := ?_) (a' := ?_) #[false, true, false, false, false, false, false, false, false, false, false, false] rfl rfl (any_of HT_.out (by kernel_rfl)) (fun _ _ _ h => h) (Or.inl ⟨by rfl, ?_⟩) ?_ ?_
  rotate_left
  · intro w'; go_simp; with_reducible rfl
  rotate_left
  · simp only [Act.put, List.setIfInBounds_toArray, List.set_cons_zero, List.set_cons_succ, i64_w, i32_w]; rfl
  refine take_ (i := 2) (N := some 13) (v := ?_) (a' := ?_) #[false, true, true, false, false, false, false, false, false, false, false, false] rfl rfl (take_ofW HT_.out HW_.out (by kernel_rfl)) (fun _ _ _ h => h) (Or.inl ⟨by rfl, ?_⟩) hHeld ?_ ?_
  rotate_left
  · rintro w' ⟨s0, s1, s2⟩; go_simp; with_reducible rfl
  rotate_left
  · simp only [Act.put, List.setIfInBounds_toArray, List.set_cons_zero, List.set_cons_succ, i64_w, i32_w]; rfl
  refine pure_ (i := 3) (N := some 14) (v := ?_) (a' := ?_) #[false, true, true, true, false, false, false, false, false, false, false, false] rfl rfl (any_of HT_.out (by kernel_rfl)) (fun _ _ _ h => h) (Or.inl ⟨by rfl, ?_⟩) ?_ ?_
  rotate_left
  · intro w'; go_simp; with_reducible rfl
  rotate_left
  · simp only [Act.put, List.setIfInBounds_toArray, List.set_cons_zero, List.set_cons_succ, i64_w, i32_w]; rfl
  refine pure_ (i := 5) (N := some 16) (v := ?_) (a' := ?_) #[false, true, true, true, false, true, false, false, false, false, false, false] rfl rfl (any_of HT_.out (by kernel_rfl)) (fun _ _ _ h => h) (Or.inl ⟨by rfl, ?_⟩) ?_ ?_
  rotate_left
  · intro w'; go_simp; with_reducible rfl
  rotate_left
  · simp only [Act.put, List.setIfInBounds_toArray, List.set_cons_zero, List.set_cons_succ, i64_w, i32_w]; rfl
  refine take_ (i := 6) (N := some 17) (v := ?_) (a' := ?_) #[false, true, true, true, false, true, true, false, false, false, false, false] rfl rfl (take_ofW HT_.out HW_.out (by kernel_rfl)) (fun _ _ _ h => h) (Or.inl ⟨by rfl, ?_⟩) hHeld ?_ ?_
  rotate_left
  · rintro w' ⟨s0, s1, s2⟩; go_simp; with_reducible rfl
  rotate_left
  · simp only [Act.put, List.setIfInBounds_toArray, List.set_cons_zero, List.set_cons_succ, i64_w, i32_w]; rfl
  refine pure_ (i := 8) (N := some 19) (v := ?_) (a' := ?_) #[false, true, true, true, false, true, true, false, true, false, false, false] rfl rfl (any_of HT_.out (by kernel_rfl)) (fun _ _ _ h => h) (Or.inl ⟨by rfl, ?_⟩) ?_ ?_
  rotate_left
  · intro w'; go_simp; with_reducible rfl
  rotate_left
  · simp only [Act.put, List.setIfInBounds_toArray, List.set_cons_zero, List.set_cons_succ, i64_w, i32_w]; rfl
  refine take_ (i := 9) (N := some 20) (v := ?_) (a' := ?_) #[false, true, true, true, false, true, true, false, true, true, false, false] rfl rfl (take_ofW HT_.out HW_.out (by kernel_rfl)) (fun _ _ _ h => h) (Or.inl ⟨by rfl, ?_⟩) hHeld ?_ ?_
  rotate_left
  · rintro w' ⟨s0, s1, s2⟩; go_simp; with_reducible rfl
  rotate_left
  · simp only [Act.put, List.setIfInBounds_toArray, List.set_cons_zero, List.set_cons_succ, i64_w, i32_w]; rfl
  refine one_ (i := 0) (N := some 11) #[true, true, true, true, false, true, true, false, true, true, false, false] rfl rfl (one_of HT_.out (by kernel_rfl)) (by decide) (fun K hK => ?_)
  refine goes_ Try.func28 (by kernel_rfl) rfl #[] (by rfl) rfl rfl (by (try simp only [List.map_toArray, List.map_cons, List.map_nil]); first | done | rfl) ?_
  (with_reducible refine (fieldNewW.calls w _ HB.out).mono ?_)
  rintro e w3 ⟨g, rfl, hWR, hBB, hB2, hgg⟩
  refine ⟨_, rfl, ?_⟩
  have HG := Aside0.mk (show w.heap.size ≠ g by have := blk_lt BK.out; omega)
  have n_BK := Aside0.mk (blk_below BK.out hB2)
  have HW := Aside0.mk hWR
  have n_HB := Aside0.mk hBB
  clear hWR hBB hB2 hgg BK HB
  have BK := n_BK
  have HB := n_HB
  clear n_BK n_HB
  refine hK.out _ _ ⟨(blk_cell BK.out 0).trans rfl, (blk_cell BK.out 1).trans rfl, (blk_cell BK.out 2).trans rfl⟩ (fun hHeld => ?_)
  clear hK K
  refine norm_ (a' := ?_) ?_ ?_
  rotate_left
  · show Act.put _ (some 11) _ = _
    simp only [Act.put, List.setIfInBounds_toArray, List.set_cons_zero, List.set_cons_succ, i64_w, i32_w]; rfl
  refine one_ (i := 4) (N := some 15) #[true, true, true, true, true, true, true, false, true, true, false, false] rfl rfl (one_of HT_.out (by kernel_rfl)) (by decide) (fun K hK => ?_)
  refine goes_ Try.func29 (by kernel_rfl) rfl #[.pointer (some ⟨g, 0, none⟩), .int .u8 1] (by rfl) rfl rfl (by (try simp only [List.map_toArray, List.map_cons, List.map_nil]); first | done | rfl) ?_
  (with_reducible refine (field_U8.calls 1 g (([] : List Int)) false w _ (by decide) (by decide) (by simp [bigE]) ?a1 ?a2).mono ?_)
  case a1 => exact HW.out
  case a2 => exact HB.out
  rintro e w4 ⟨rfl, hWR, hBB, hF⟩
  refine ⟨_, rfl, ?_⟩
  have n_BK := Aside0.mk (WF.keep hF BK.out (by decide) HG.out)
  have n_HW := Aside0.mk hWR
  have n_HB := Aside0.mk hBB
  clear hWR hBB hF BK HW HB
  have BK := n_BK
  have HW := n_HW
  have HB := n_HB
  clear n_BK n_HW n_HB
  refine hK.out _ _ ⟨(blk_cell BK.out 0).trans rfl, (blk_cell BK.out 1).trans rfl, (blk_cell BK.out 2).trans rfl⟩ (fun hHeld => ?_)
  clear hK K
  refine norm_ (a' := ?_) ?_ ?_
  rotate_left
  · show Act.put _ (some 15) _ = _
    simp only [Act.put, List.setIfInBounds_toArray, List.set_cons_zero, List.set_cons_succ, i64_w, i32_w]; rfl
  refine one_ (i := 7) (N := some 18) #[true, true, true, true, true, true, true, true, true, true, false, false] rfl rfl (one_of HT_.out (by kernel_rfl)) (by decide) (fun K hK => ?_)
  refine goes_ Try.func30 (by kernel_rfl) rfl #[.pointer (some ⟨g, 0, none⟩), .int .u64 ls] (by rfl) rfl rfl (by (try simp only [List.map_toArray, List.map_cons, List.map_nil]); first | done | rfl) ?_
  (with_reducible refine (field_U64.calls ls g (([] : List Int) ++ bigE 1 1) false w _ Gls0.out Gls1.out (by simp [bigE]) ?a1 ?a2).mono ?_)
  case a1 => exact HW.out
  case a2 => exact HB.out
  rintro e w5 ⟨rfl, hWR, hBB, hF⟩
  refine ⟨_, rfl, ?_⟩
  have n_BK := Aside0.mk (WF.keep hF BK.out (by decide) HG.out)
  have n_HW := Aside0.mk hWR
  have n_HB := Aside0.mk hBB
  clear hWR hBB hF BK HW HB
  have BK := n_BK
  have HW := n_HW
  have HB := n_HB
  clear n_BK n_HW n_HB
  refine hK.out _ _ ⟨(blk_cell BK.out 0).trans rfl, (blk_cell BK.out 1).trans rfl, (blk_cell BK.out 2).trans rfl⟩ (fun hHeld => ?_)
  clear hK K
  refine norm_ (a' := ?_) ?_ ?_
  rotate_left
  · show Act.put _ (some 18) _ = _
    simp only [Act.put, List.setIfInBounds_toArray, List.set_cons_zero, List.set_cons_succ, i64_w, i32_w]; rfl
  refine one_ (i := 10) (N := some 21) #[true, true, true, true, true, true, true, true, true, true, true, false] rfl rfl (one_of HT_.out (by kernel_rfl)) (by decide) (fun K hK => ?_)
  refine goes_ Try.func31 (by kernel_rfl) rfl #[.pointer (some ⟨g, 0, none⟩), .int .u32 ep] (by rfl) rfl rfl (by (try simp only [List.map_toArray, List.map_cons, List.map_nil]); first | done | rfl) ?_
  (with_reducible refine (field_U32.calls ep g (([] : List Int) ++ bigE 1 1 ++ bigE ls 8) false w _ Gep0.out Gep1.out (by simp [bigE]) ?a1 ?a2).mono ?_)
  case a1 => exact HW.out
  case a2 => exact HB.out
  rintro e w6 ⟨rfl, hWR, hBB, hF⟩
  refine ⟨_, rfl, ?_⟩
  have n_BK := Aside0.mk (WF.keep hF BK.out (by decide) HG.out)
  have n_HW := Aside0.mk hWR
  have n_HB := Aside0.mk hBB
  clear hWR hBB hF BK HW HB
  have BK := n_BK
  have HW := n_HW
  have HB := n_HB
  clear n_BK n_HW n_HB
  refine hK.out _ _ ⟨(blk_cell BK.out 0).trans rfl, (blk_cell BK.out 1).trans rfl, (blk_cell BK.out 2).trans rfl⟩ (fun hHeld => ?_)
  clear hK K
  refine norm_ (a' := ?_) ?_ ?_
  rotate_left
  · show Act.put _ (some 21) _ = _
    simp only [Act.put, List.setIfInBounds_toArray, List.set_cons_zero, List.set_cons_succ, i64_w, i32_w]; rfl
  refine pure_ (i := 11) (N := some 5) (v := ?_) (a' := ?_) #[true, true, true, true, true, true, true, true, true, true, true, true] rfl rfl (any_of HT_.out (by kernel_rfl)) (fun _ _ _ h => h) (Or.inl ⟨by rfl, ?_⟩) ?_ ?_
  rotate_left
  · intro w'; go_simp; with_reducible rfl
  rotate_left
  · simp only [Act.put, List.setIfInBounds_toArray, List.set_cons_zero, List.set_cons_succ, i64_w, i32_w]; rfl
  refine done_ (done_of HT_.out (by kernel_rfl)) ?_
  clear HT_ HW_ hHeld
  have hk0 := (blk_cell BK.out 0).trans rfl
  have hkf := blk_frozen BK.out 0
  have hkl := blk_lt BK.out
  go_wp2_with (first | (go_at_call 34; (with_reducible refine (field_Done.calls g (([] : List Int) ++ bigE 1 1 ++ bigE ls 8 ++ bigE ep 4) w _ (by simp [bigE]) (by simp [bigE]) ?a1 ?a2).mono ?_); (case a1 => exact HW.out); (case a2 => exact HB.out); rintro e w44 ⟨v0, rfl, hR, hB3, hB4⟩; have HR := Aside0.mk hR; have HB3 := Aside0.mk hB3; clear hR hB3 hB4))
  refine bodyPost_ret ?_ rfl ⟨v0, rfl, ?_, HB3.out⟩
  · simp [results, Try.results14, go_sem]
  · exact Kd.R_lower HR.out (below_size HB.out)
set_option maxHeartbeats 8000000 in
set_option maxRecDepth 100000 in
theorem put_2 (ls ep o st : Int) (un : Bool) (tr co mk : Int) (A9 : Option Addr) (c9 : Nat) (l9 : List Int) (A10 : Option Addr) (c10 : Nat) (l10 : List Int) (w : World) (hok : entryOk 2 ls ep o st un tr co mk l9.length l10.length = true) (hls0 : 0 ≤ ls) (hls1 : ls < 18446744073709551616) (hep0 : 0 ≤ ep) (hep1 : ep < 4294967296) (ho0 : 0 ≤ o) (ho1 : o < 4294967296) (hmk0 : 0 ≤ mk) (hmk1 : mk < 18446744073709551616) (hC9 : Kd.C (Kd.int .u8) w A9 l9.length l9) (hC10 : Kd.C (Kd.int .u8) w A10 l10.length l10) (h9 : l9.length ≤ 32) (h10 : l10.length ≤ 200) : Calls Try.prog 14 #[.agg #[.int .i64 2, .int .u64 ls, .int .u32 ep, .int .u32 o, .int .i64 st, .bool un, .int .i64 tr, .int .i64 co, .int .u64 mk, .slice A9 l9.length c9, .slice A10 l10.length c10]] w fun e w' => ∃ v0_ : Value, e = .returned (.tuple #[v0_, .int .i64 0]) ∧ Kd.R (Kd.int .u8) 5 w' w.heap.size (fun _ => True) v0_ (([] : List Int) ++ bigE 2 1 ++ bigE ls 8 ++ bigE ep 4 ++ bigE o 4 ++ bigE (l9.length : Int) 1 ++ l9 ++ bigE (l10.length : Int) 1 ++ l10) ∧ Below w.heap.size w w' := by
  have Gls0 := Aside0.mk hls0
  have Gls1 := Aside0.mk hls1
  have Gep0 := Aside0.mk hep0
  have Gep1 := Aside0.mk hep1
  have Go0 := Aside0.mk ho0
  have Go1 := Aside0.mk ho1
  have Gmk0 := Aside0.mk hmk0
  have Gmk1 := Aside0.mk hmk1
  clear hls0 hls1 hep0 hep1 ho0 ho1 hmk0 hmk1
  have GC9 := Aside0.mk hC9
  have GC10 := Aside0.mk hC10
  have g9 := Aside0.mk (show l9.length ≤ 255 by omega)
  have g10 := Aside0.mk (show l10.length ≤ 255 by omega)
  clear hC9 hC10
  go_enter Try.func14, Try.ntmps14
  go_wp2_with (first | (go_at_call 15; (with_reducible refine (check_any 2 ls ep o st un tr co mk A9 l9.length c9 A10 l10.length c10 _).mono ?_); rintro e w1 ⟨rfl, hb⟩; rw [hok, ansE]; have BK := Aside0.mk (blk_below (heap_last _ _) hb); have HB := Aside0.mk (below_step (below_alloc (Below.refl _ _) _) hb); clear hb))
  have n_BK := Aside0.mk (blk_drew BK.out)
  have n_HB := Aside0.mk (below_drew1 HB.out)
  clear BK HB
  have BK := n_BK
  have HB := n_HB
  clear n_BK n_HB
  refine start_ (n := 12) (S := fun w' => w'.cell? ⟨w.heap.size, 0, none⟩ = some (.int .i64 2) ∧ w'.cell? ⟨w.heap.size, 1, none⟩ = some (.int .u64 ls) ∧ w'.cell? ⟨w.heap.size, 2, none⟩ = some (.int .u32 ep)) (ds := []) #[false, false, false, false, false, false, false, false, false, false, false, false] (by kernel_rfl) rfl rfl ⟨(blk_cell BK.out 0).trans rfl, (blk_cell BK.out 1).trans rfl, (blk_cell BK.out 2).trans rfl⟩ (fun hHeld => ?_); refine with_tabW entry_Put.tab4 entry_Put.bits4 (fun HT_ HW_ => ?_)
  generalize w1.drew = wd_ at BK HB hHeld ⊢
  refine pure_ (i := 1) (N := some 12) (v := ?_) (a' := ?_) #[false, true, false, false, false, false, false, false, false, false, false, false] rfl rfl (any_of HT_.out (by kernel_rfl)) (fun _ _ _ h => h) (Or.inl ⟨by rfl, ?_⟩) ?_ ?_
  rotate_left
  · intro w'; go_simp; with_reducible rfl
  rotate_left
  · simp only [Act.put, List.setIfInBounds_toArray, List.set_cons_zero, List.set_cons_succ, i64_w, i32_w]; rfl
  refine take_ (i := 2) (N := some 13) (v := ?_) (a' := ?_) #[false, true, true, false, false, false, false, false, false, false, false, false] rfl rfl (take_ofW HT_.out HW_.out (by kernel_rfl)) (fun _ _ _ h => h) (Or.inl ⟨by rfl, ?_⟩) hHeld ?_ ?_
  rotate_left
  · rintro w' ⟨s0, s1, s2⟩; go_simp; with_reducible rfl
  rotate_left
  · simp only [Act.put, List.setIfInBounds_toArray, List.set_cons_zero, List.set_cons_succ, i64_w, i32_w]; rfl
  refine pure_ (i := 3) (N := some 14) (v := ?_) (a' := ?_) #[false, true, true, true, false, false, false, false, false, false, false, false] rfl rfl (any_of HT_.out (by kernel_rfl)) (fun _ _ _ h => h) (Or.inl ⟨by rfl, ?_⟩) ?_ ?_
  rotate_left
  · intro w'; go_simp; with_reducible rfl
  rotate_left
  · simp only [Act.put, List.setIfInBounds_toArray, List.set_cons_zero, List.set_cons_succ, i64_w, i32_w]; rfl
  refine pure_ (i := 5) (N := some 16) (v := ?_) (a' := ?_) #[false, true, true, true, false, true, false, false, false, false, false, false] rfl rfl (any_of HT_.out (by kernel_rfl)) (fun _ _ _ h => h) (Or.inl ⟨by rfl, ?_⟩) ?_ ?_
  rotate_left
  · intro w'; go_simp; with_reducible rfl
  rotate_left
  · simp only [Act.put, List.setIfInBounds_toArray, List.set_cons_zero, List.set_cons_succ, i64_w, i32_w]; rfl
  refine take_ (i := 6) (N := some 17) (v := ?_) (a' := ?_) #[false, true, true, true, false, true, true, false, false, false, false, false] rfl rfl (take_ofW HT_.out HW_.out (by kernel_rfl)) (fun _ _ _ h => h) (Or.inl ⟨by rfl, ?_⟩) hHeld ?_ ?_
  rotate_left
  · rintro w' ⟨s0, s1, s2⟩; go_simp; with_reducible rfl
  rotate_left
  · simp only [Act.put, List.setIfInBounds_toArray, List.set_cons_zero, List.set_cons_succ, i64_w, i32_w]; rfl
  refine pure_ (i := 8) (N := some 19) (v := ?_) (a' := ?_) #[false, true, true, true, false, true, true, false, true, false, false, false] rfl rfl (any_of HT_.out (by kernel_rfl)) (fun _ _ _ h => h) (Or.inl ⟨by rfl, ?_⟩) ?_ ?_
  rotate_left
  · intro w'; go_simp; with_reducible rfl
  rotate_left
  · simp only [Act.put, List.setIfInBounds_toArray, List.set_cons_zero, List.set_cons_succ, i64_w, i32_w]; rfl
  refine take_ (i := 9) (N := some 20) (v := ?_) (a' := ?_) #[false, true, true, true, false, true, true, false, true, true, false, false] rfl rfl (take_ofW HT_.out HW_.out (by kernel_rfl)) (fun _ _ _ h => h) (Or.inl ⟨by rfl, ?_⟩) hHeld ?_ ?_
  rotate_left
  · rintro w' ⟨s0, s1, s2⟩; go_simp; with_reducible rfl
  rotate_left
  · simp only [Act.put, List.setIfInBounds_toArray, List.set_cons_zero, List.set_cons_succ, i64_w, i32_w]; rfl
  refine one_ (i := 0) (N := some 11) #[true, true, true, true, false, true, true, false, true, true, false, false] rfl rfl (one_of HT_.out (by kernel_rfl)) (by decide) (fun K hK => ?_)
  refine goes_ Try.func28 (by kernel_rfl) rfl #[] (by rfl) rfl rfl (by (try simp only [List.map_toArray, List.map_cons, List.map_nil]); first | done | rfl) ?_
  (with_reducible refine (fieldNewW.calls w _ HB.out).mono ?_)
  rintro e w3 ⟨g, rfl, hWR, hBB, hB2, hgg⟩
  refine ⟨_, rfl, ?_⟩
  have HG := Aside0.mk (show w.heap.size ≠ g by have := blk_lt BK.out; omega)
  have n_BK := Aside0.mk (blk_below BK.out hB2)
  have HW := Aside0.mk hWR
  have n_HB := Aside0.mk hBB
  clear hWR hBB hB2 hgg BK HB
  have BK := n_BK
  have HB := n_HB
  clear n_BK n_HB
  refine hK.out _ _ ⟨(blk_cell BK.out 0).trans rfl, (blk_cell BK.out 1).trans rfl, (blk_cell BK.out 2).trans rfl⟩ (fun hHeld => ?_)
  clear hK K
  refine norm_ (a' := ?_) ?_ ?_
  rotate_left
  · show Act.put _ (some 11) _ = _
    simp only [Act.put, List.setIfInBounds_toArray, List.set_cons_zero, List.set_cons_succ, i64_w, i32_w]; rfl
  refine one_ (i := 4) (N := some 15) #[true, true, true, true, true, true, true, false, true, true, false, false] rfl rfl (one_of HT_.out (by kernel_rfl)) (by decide) (fun K hK => ?_)
  refine goes_ Try.func29 (by kernel_rfl) rfl #[.pointer (some ⟨g, 0, none⟩), .int .u8 2] (by rfl) rfl rfl (by (try simp only [List.map_toArray, List.map_cons, List.map_nil]); first | done | rfl) ?_
  (with_reducible refine (field_U8.calls 2 g (([] : List Int)) false w _ (by decide) (by decide) (by simp [bigE]) ?a1 ?a2).mono ?_)
  case a1 => exact HW.out
  case a2 => exact HB.out
  rintro e w4 ⟨rfl, hWR, hBB, hF⟩
  refine ⟨_, rfl, ?_⟩
  have n_BK := Aside0.mk (WF.keep hF BK.out (by decide) HG.out)
  have n_HW := Aside0.mk hWR
  have n_HB := Aside0.mk hBB
  clear hWR hBB hF BK HW HB
  have BK := n_BK
  have HW := n_HW
  have HB := n_HB
  clear n_BK n_HW n_HB
  refine hK.out _ _ ⟨(blk_cell BK.out 0).trans rfl, (blk_cell BK.out 1).trans rfl, (blk_cell BK.out 2).trans rfl⟩ (fun hHeld => ?_)
  clear hK K
  refine norm_ (a' := ?_) ?_ ?_
  rotate_left
  · show Act.put _ (some 15) _ = _
    simp only [Act.put, List.setIfInBounds_toArray, List.set_cons_zero, List.set_cons_succ, i64_w, i32_w]; rfl
  refine one_ (i := 7) (N := some 18) #[true, true, true, true, true, true, true, true, true, true, false, false] rfl rfl (one_of HT_.out (by kernel_rfl)) (by decide) (fun K hK => ?_)
  refine goes_ Try.func30 (by kernel_rfl) rfl #[.pointer (some ⟨g, 0, none⟩), .int .u64 ls] (by rfl) rfl rfl (by (try simp only [List.map_toArray, List.map_cons, List.map_nil]); first | done | rfl) ?_
  (with_reducible refine (field_U64.calls ls g (([] : List Int) ++ bigE 2 1) false w _ Gls0.out Gls1.out (by simp [bigE]) ?a1 ?a2).mono ?_)
  case a1 => exact HW.out
  case a2 => exact HB.out
  rintro e w5 ⟨rfl, hWR, hBB, hF⟩
  refine ⟨_, rfl, ?_⟩
  have n_BK := Aside0.mk (WF.keep hF BK.out (by decide) HG.out)
  have n_HW := Aside0.mk hWR
  have n_HB := Aside0.mk hBB
  clear hWR hBB hF BK HW HB
  have BK := n_BK
  have HW := n_HW
  have HB := n_HB
  clear n_BK n_HW n_HB
  refine hK.out _ _ ⟨(blk_cell BK.out 0).trans rfl, (blk_cell BK.out 1).trans rfl, (blk_cell BK.out 2).trans rfl⟩ (fun hHeld => ?_)
  clear hK K
  refine norm_ (a' := ?_) ?_ ?_
  rotate_left
  · show Act.put _ (some 18) _ = _
    simp only [Act.put, List.setIfInBounds_toArray, List.set_cons_zero, List.set_cons_succ, i64_w, i32_w]; rfl
  refine one_ (i := 10) (N := some 21) #[true, true, true, true, true, true, true, true, true, true, true, false] rfl rfl (one_of HT_.out (by kernel_rfl)) (by decide) (fun K hK => ?_)
  refine goes_ Try.func31 (by kernel_rfl) rfl #[.pointer (some ⟨g, 0, none⟩), .int .u32 ep] (by rfl) rfl rfl (by (try simp only [List.map_toArray, List.map_cons, List.map_nil]); first | done | rfl) ?_
  (with_reducible refine (field_U32.calls ep g (([] : List Int) ++ bigE 2 1 ++ bigE ls 8) false w _ Gep0.out Gep1.out (by simp [bigE]) ?a1 ?a2).mono ?_)
  case a1 => exact HW.out
  case a2 => exact HB.out
  rintro e w6 ⟨rfl, hWR, hBB, hF⟩
  refine ⟨_, rfl, ?_⟩
  have n_BK := Aside0.mk (WF.keep hF BK.out (by decide) HG.out)
  have n_HW := Aside0.mk hWR
  have n_HB := Aside0.mk hBB
  clear hWR hBB hF BK HW HB
  have BK := n_BK
  have HW := n_HW
  have HB := n_HB
  clear n_BK n_HW n_HB
  refine hK.out _ _ ⟨(blk_cell BK.out 0).trans rfl, (blk_cell BK.out 1).trans rfl, (blk_cell BK.out 2).trans rfl⟩ (fun hHeld => ?_)
  clear hK K
  refine norm_ (a' := ?_) ?_ ?_
  rotate_left
  · show Act.put _ (some 21) _ = _
    simp only [Act.put, List.setIfInBounds_toArray, List.set_cons_zero, List.set_cons_succ, i64_w, i32_w]; rfl
  refine pure_ (i := 11) (N := some 5) (v := ?_) (a' := ?_) #[true, true, true, true, true, true, true, true, true, true, true, true] rfl rfl (any_of HT_.out (by kernel_rfl)) (fun _ _ _ h => h) (Or.inl ⟨by rfl, ?_⟩) ?_ ?_
  rotate_left
  · intro w'; go_simp; with_reducible rfl
  rotate_left
  · simp only [Act.put, List.setIfInBounds_toArray, List.set_cons_zero, List.set_cons_succ, i64_w, i32_w]; rfl
  refine done_ (done_of HT_.out (by kernel_rfl)) ?_
  clear HT_ HW_ hHeld
  have hk0 := (blk_cell BK.out 0).trans rfl
  have hkf := blk_frozen BK.out 0
  have hkl := blk_lt BK.out
  go_upto_region 7 with (fail)
  clear hk0 hkf hkl
  have n_BK := Aside0.mk (blk_drew BK.out)
  have n_HB := Aside0.mk (below_drew1 HB.out)
  have n_HW := Aside0.mk (WR.drew HW.out)
  clear BK HB HW
  have BK := n_BK
  have HB := n_HB
  have HW := n_HW
  clear n_BK n_HB n_HW
  refine start_ (n := 10) (S := fun w' => w'.cell? ⟨w.heap.size, 3, none⟩ = some (.int .u32 o) ∧ w'.cell? ⟨w.heap.size, 9, none⟩ = some (.slice A9 l9.length c9) ∧ w'.cell? ⟨w.heap.size, 10, none⟩ = some (.slice A10 l10.length c10)) (ds := []) #[false, false, false, false, false, false, false, false, false, false] (by kernel_rfl) rfl rfl ⟨(blk_cell BK.out 3).trans rfl, (blk_cell BK.out 9).trans rfl, (blk_cell BK.out 10).trans rfl⟩ (fun hHeld => ?_); refine with_tabW entry_Put.tab7 entry_Put.bits7 (fun HT_ HW_ => ?_)
  generalize w6.drew = wd_ at BK HB HW hHeld ⊢
  refine pure_ (i := 0) (N := some 26) (v := ?_) (a' := ?_) #[true, false, false, false, false, false, false, false, false, false] rfl rfl (any_of HT_.out (by kernel_rfl)) (fun _ _ _ h => h) (Or.inl ⟨by rfl, ?_⟩) ?_ ?_
  rotate_left
  · intro w'; go_simp; with_reducible rfl
  rotate_left
  · simp only [Act.put, List.setIfInBounds_toArray, List.set_cons_zero, List.set_cons_succ, i64_w, i32_w]; rfl
  refine pure_ (i := 1) (N := some 27) (v := ?_) (a' := ?_) #[true, true, false, false, false, false, false, false, false, false] rfl rfl (any_of HT_.out (by kernel_rfl)) (fun _ _ _ h => h) (Or.inl ⟨by rfl, ?_⟩) ?_ ?_
  rotate_left
  · intro w'; go_simp; with_reducible rfl
  rotate_left
  · simp only [Act.put, List.setIfInBounds_toArray, List.set_cons_zero, List.set_cons_succ, i64_w, i32_w]; rfl
  refine take_ (i := 2) (N := some 28) (v := ?_) (a' := ?_) #[true, true, true, false, false, false, false, false, false, false] rfl rfl (take_ofW HT_.out HW_.out (by kernel_rfl)) (fun _ _ _ h => h) (Or.inl ⟨by rfl, ?_⟩) hHeld ?_ ?_
  rotate_left
  · rintro w' ⟨s0, s1, s2⟩; go_simp; with_reducible rfl
  rotate_left
  · simp only [Act.put, List.setIfInBounds_toArray, List.set_cons_zero, List.set_cons_succ, i64_w, i32_w]; rfl
  refine pure_ (i := 4) (N := some 30) (v := ?_) (a' := ?_) #[true, true, true, false, true, false, false, false, false, false] rfl rfl (any_of HT_.out (by kernel_rfl)) (fun _ _ _ h => h) (Or.inl ⟨by rfl, ?_⟩) ?_ ?_
  rotate_left
  · intro w'; go_simp; with_reducible rfl
  rotate_left
  · simp only [Act.put, List.setIfInBounds_toArray, List.set_cons_zero, List.set_cons_succ, i64_w, i32_w]; rfl
  refine take_ (i := 5) (N := some 31) (v := ?_) (a' := ?_) #[true, true, true, false, true, true, false, false, false, false] rfl rfl (take_ofW HT_.out HW_.out (by kernel_rfl)) (fun _ _ _ h => h) (Or.inl ⟨by rfl, ?_⟩) hHeld ?_ ?_
  rotate_left
  · rintro w' ⟨s0, s1, s2⟩; go_simp; with_reducible rfl
  rotate_left
  · simp only [Act.put, List.setIfInBounds_toArray, List.set_cons_zero, List.set_cons_succ, i64_w, i32_w]; rfl
  refine pure_ (i := 7) (N := some 33) (v := ?_) (a' := ?_) #[true, true, true, false, true, true, false, true, false, false] rfl rfl (any_of HT_.out (by kernel_rfl)) (fun _ _ _ h => h) (Or.inl ⟨by rfl, ?_⟩) ?_ ?_
  rotate_left
  · intro w'; go_simp; with_reducible rfl
  rotate_left
  · simp only [Act.put, List.setIfInBounds_toArray, List.set_cons_zero, List.set_cons_succ, i64_w, i32_w]; rfl
  refine take_ (i := 8) (N := some 34) (v := ?_) (a' := ?_) #[true, true, true, false, true, true, false, true, true, false] rfl rfl (take_ofW HT_.out HW_.out (by kernel_rfl)) (fun _ _ _ h => h) (Or.inl ⟨by rfl, ?_⟩) hHeld ?_ ?_
  rotate_left
  · rintro w' ⟨s0, s1, s2⟩; go_simp; with_reducible rfl
  rotate_left
  · simp only [Act.put, List.setIfInBounds_toArray, List.set_cons_zero, List.set_cons_succ, i64_w, i32_w]; rfl
  refine one_ (i := 3) (N := some 29) #[true, true, true, true, true, true, false, true, true, false] rfl rfl (one_of HT_.out (by kernel_rfl)) (by decide) (fun K hK => ?_)
  refine goes_ Try.func31 (by kernel_rfl) rfl #[.pointer (some ⟨g, 0, none⟩), .int .u32 o] (by rfl) rfl rfl (by (try simp only [List.map_toArray, List.map_cons, List.map_nil]); first | done | rfl) ?_
  (with_reducible refine (field_U32.calls o g (([] : List Int) ++ bigE 2 1 ++ bigE ls 8 ++ bigE ep 4) false w _ Go0.out Go1.out (by simp [bigE]) ?a1 ?a2).mono ?_)
  case a1 => exact HW.out
  case a2 => exact HB.out
  rintro e w7 ⟨rfl, hWR, hBB, hF⟩
  refine ⟨_, rfl, ?_⟩
  have n_BK := Aside0.mk (WF.keep hF BK.out (by decide) HG.out)
  have n_HW := Aside0.mk hWR
  have n_HB := Aside0.mk hBB
  clear hWR hBB hF BK HW HB
  have BK := n_BK
  have HW := n_HW
  have HB := n_HB
  clear n_BK n_HW n_HB
  refine hK.out _ _ ⟨(blk_cell BK.out 3).trans rfl, (blk_cell BK.out 9).trans rfl, (blk_cell BK.out 10).trans rfl⟩ (fun hHeld => ?_)
  clear hK K
  refine norm_ (a' := ?_) ?_ ?_
  rotate_left
  · show Act.put _ (some 29) _ = _
    simp only [Act.put, List.setIfInBounds_toArray, List.set_cons_zero, List.set_cons_succ, i64_w, i32_w]; rfl
  refine one_ (i := 6) (N := some 32) #[true, true, true, true, true, true, true, true, true, false] rfl rfl (one_of HT_.out (by kernel_rfl)) (by decide) (fun K hK => ?_)
  refine goes_ Try.func32 (by kernel_rfl) rfl #[.pointer (some ⟨g, 0, none⟩), .slice A9 l9.length c9] (by rfl) rfl rfl (by (try simp only [List.map_toArray, List.map_cons, List.map_nil]); first | done | rfl) ?_
  (with_reducible refine (field_Text.calls A9 c9 l9 g (([] : List Int) ++ bigE 2 1 ++ bigE ls 8 ++ bigE ep 4 ++ bigE o 4) w _ GC9.out g9.out (by simp [bigE] <;> omega) ?a1 ?a2).mono ?_)
  case a1 => exact HW.out
  case a2 => exact HB.out
  rintro e w8 ⟨rfl, hWR, hBB, hF⟩
  refine ⟨_, rfl, ?_⟩
  have n_BK := Aside0.mk (WF.keep hF BK.out (by decide) HG.out)
  have n_HW := Aside0.mk hWR
  have n_HB := Aside0.mk hBB
  clear hWR hBB hF BK HW HB
  have BK := n_BK
  have HW := n_HW
  have HB := n_HB
  clear n_BK n_HW n_HB
  refine hK.out _ _ ⟨(blk_cell BK.out 3).trans rfl, (blk_cell BK.out 9).trans rfl, (blk_cell BK.out 10).trans rfl⟩ (fun hHeld => ?_)
  clear hK K
  refine norm_ (a' := ?_) ?_ ?_
  rotate_left
  · show Act.put _ (some 32) _ = _
    simp only [Act.put, List.setIfInBounds_toArray, List.set_cons_zero, List.set_cons_succ, i64_w, i32_w]; rfl
  refine one_ (i := 9) (N := some 35) #[true, true, true, true, true, true, true, true, true, true] rfl rfl (one_of HT_.out (by kernel_rfl)) (by decide) (fun K hK => ?_)
  refine goes_ Try.func32 (by kernel_rfl) rfl #[.pointer (some ⟨g, 0, none⟩), .slice A10 l10.length c10] (by rfl) rfl rfl (by (try simp only [List.map_toArray, List.map_cons, List.map_nil]); first | done | rfl) ?_
  (with_reducible refine (field_Text.calls A10 c10 l10 g (([] : List Int) ++ bigE 2 1 ++ bigE ls 8 ++ bigE ep 4 ++ bigE o 4 ++ bigE (l9.length : Int) 1 ++ l9) w _ GC10.out g10.out (by simp [bigE] <;> omega) ?a1 ?a2).mono ?_)
  case a1 => exact HW.out
  case a2 => exact HB.out
  rintro e w9 ⟨rfl, hWR, hBB, hF⟩
  refine ⟨_, rfl, ?_⟩
  have n_BK := Aside0.mk (WF.keep hF BK.out (by decide) HG.out)
  have n_HW := Aside0.mk hWR
  have n_HB := Aside0.mk hBB
  clear hWR hBB hF BK HW HB
  have BK := n_BK
  have HW := n_HW
  have HB := n_HB
  clear n_BK n_HW n_HB
  refine hK.out _ _ ⟨(blk_cell BK.out 3).trans rfl, (blk_cell BK.out 9).trans rfl, (blk_cell BK.out 10).trans rfl⟩ (fun hHeld => ?_)
  clear hK K
  refine norm_ (a' := ?_) ?_ ?_
  rotate_left
  · show Act.put _ (some 35) _ = _
    simp only [Act.put, List.setIfInBounds_toArray, List.set_cons_zero, List.set_cons_succ, i64_w, i32_w]; rfl
  refine done_ (done_of HT_.out (by kernel_rfl)) ?_
  clear HT_ HW_ hHeld
  go_wp2_with (first | (go_at_call 34; (with_reducible refine (field_Done.calls g (([] : List Int) ++ bigE 2 1 ++ bigE ls 8 ++ bigE ep 4 ++ bigE o 4 ++ bigE (l9.length : Int) 1 ++ l9 ++ bigE (l10.length : Int) 1 ++ l10) w _ (by simp [bigE]) (by simp [bigE] <;> omega) ?a1 ?a2).mono ?_); (case a1 => exact HW.out); (case a2 => exact HB.out); rintro e w44 ⟨v0, rfl, hR, hB3, hB4⟩; have HR := Aside0.mk hR; have HB3 := Aside0.mk hB3; clear hR hB3 hB4))
  refine bodyPost_ret ?_ rfl ⟨v0, rfl, ?_, HB3.out⟩
  · simp [results, Try.results14, go_sem]
  · exact Kd.R_lower HR.out (below_size HB.out)
set_option maxHeartbeats 8000000 in
set_option maxRecDepth 100000 in
theorem put_3 (ls ep o st : Int) (un : Bool) (tr co mk : Int) (A9 : Option Addr) (n9 c9 : Nat) (A10 : Option Addr) (n10 c10 : Nat) (w : World) (hok : entryOk 3 ls ep o st un tr co mk n9 n10 = true) (hls0 : 0 ≤ ls) (hls1 : ls < 18446744073709551616) (hep0 : 0 ≤ ep) (hep1 : ep < 4294967296) (ho0 : 0 ≤ o) (ho1 : o < 4294967296) (hmk0 : 0 ≤ mk) (hmk1 : mk < 18446744073709551616) (hst0 : 0 ≤ st) (hst1 : st < 256) (htr0 : 0 ≤ tr) (htr1 : tr < 256) : Calls Try.prog 14 #[.agg #[.int .i64 3, .int .u64 ls, .int .u32 ep, .int .u32 o, .int .i64 st, .bool un, .int .i64 tr, .int .i64 co, .int .u64 mk, .slice A9 n9 c9, .slice A10 n10 c10]] w fun e w' => ∃ v0_ : Value, e = .returned (.tuple #[v0_, .int .i64 0]) ∧ Kd.R (Kd.int .u8) 5 w' w.heap.size (fun _ => True) v0_ (([] : List Int) ++ bigE 3 1 ++ bigE ls 8 ++ bigE ep 4 ++ bigE o 4 ++ bigE st 1 ++ bigE (bitI un) 1 ++ bigE tr 1) ∧ Below w.heap.size w w' := by
  have Gls0 := Aside0.mk hls0
  have Gls1 := Aside0.mk hls1
  have Gep0 := Aside0.mk hep0
  have Gep1 := Aside0.mk hep1
  have Go0 := Aside0.mk ho0
  have Go1 := Aside0.mk ho1
  have Gmk0 := Aside0.mk hmk0
  have Gmk1 := Aside0.mk hmk1
  have Gst0 := Aside0.mk hst0
  have Gst1 := Aside0.mk hst1
  have Gtr0 := Aside0.mk htr0
  have Gtr1 := Aside0.mk htr1
  have fwst : IntKind.u8.wrap st = st := u8_same hst0 hst1
  have fwtr : IntKind.u8.wrap tr = tr := u8_same htr0 htr1
  clear hls0 hls1 hep0 hep1 ho0 ho1 hmk0 hmk1 hst0 hst1 htr0 htr1
  go_enter Try.func14, Try.ntmps14
  go_wp2_with (first | (go_at_call 15; (with_reducible refine (check_any 3 ls ep o st un tr co mk A9 n9 c9 A10 n10 c10 _).mono ?_); rintro e w1 ⟨rfl, hb⟩; rw [hok, ansE]; have BK := Aside0.mk (blk_below (heap_last _ _) hb); have HB := Aside0.mk (below_step (below_alloc (Below.refl _ _) _) hb); clear hb))
  have n_BK := Aside0.mk (blk_drew BK.out)
  have n_HB := Aside0.mk (below_drew1 HB.out)
  clear BK HB
  have BK := n_BK
  have HB := n_HB
  clear n_BK n_HB
  refine start_ (n := 12) (S := fun w' => w'.cell? ⟨w.heap.size, 0, none⟩ = some (.int .i64 3) ∧ w'.cell? ⟨w.heap.size, 1, none⟩ = some (.int .u64 ls) ∧ w'.cell? ⟨w.heap.size, 2, none⟩ = some (.int .u32 ep)) (ds := []) #[false, false, false, false, false, false, false, false, false, false, false, false] (by kernel_rfl) rfl rfl ⟨(blk_cell BK.out 0).trans rfl, (blk_cell BK.out 1).trans rfl, (blk_cell BK.out 2).trans rfl⟩ (fun hHeld => ?_); refine with_tabW entry_Put.tab4 entry_Put.bits4 (fun HT_ HW_ => ?_)
  generalize w1.drew = wd_ at BK HB hHeld ⊢
  refine pure_ (i := 1) (N := some 12) (v := ?_) (a' := ?_) #[false, true, false, false, false, false, false, false, false, false, false, false] rfl rfl (any_of HT_.out (by kernel_rfl)) (fun _ _ _ h => h) (Or.inl ⟨by rfl, ?_⟩) ?_ ?_
  rotate_left
  · intro w'; go_simp; with_reducible rfl
  rotate_left
  · simp only [Act.put, List.setIfInBounds_toArray, List.set_cons_zero, List.set_cons_succ, i64_w, i32_w]; rfl
  refine take_ (i := 2) (N := some 13) (v := ?_) (a' := ?_) #[false, true, true, false, false, false, false, false, false, false, false, false] rfl rfl (take_ofW HT_.out HW_.out (by kernel_rfl)) (fun _ _ _ h => h) (Or.inl ⟨by rfl, ?_⟩) hHeld ?_ ?_
  rotate_left
  · rintro w' ⟨s0, s1, s2⟩; go_simp; with_reducible rfl
  rotate_left
  · simp only [Act.put, List.setIfInBounds_toArray, List.set_cons_zero, List.set_cons_succ, i64_w, i32_w]; rfl
  refine pure_ (i := 3) (N := some 14) (v := ?_) (a' := ?_) #[false, true, true, true, false, false, false, false, false, false, false, false] rfl rfl (any_of HT_.out (by kernel_rfl)) (fun _ _ _ h => h) (Or.inl ⟨by rfl, ?_⟩) ?_ ?_
  rotate_left
  · intro w'; go_simp; with_reducible rfl
  rotate_left
  · simp only [Act.put, List.setIfInBounds_toArray, List.set_cons_zero, List.set_cons_succ, i64_w, i32_w]; rfl
  refine pure_ (i := 5) (N := some 16) (v := ?_) (a' := ?_) #[false, true, true, true, false, true, false, false, false, false, false, false] rfl rfl (any_of HT_.out (by kernel_rfl)) (fun _ _ _ h => h) (Or.inl ⟨by rfl, ?_⟩) ?_ ?_
  rotate_left
  · intro w'; go_simp; with_reducible rfl
  rotate_left
  · simp only [Act.put, List.setIfInBounds_toArray, List.set_cons_zero, List.set_cons_succ, i64_w, i32_w]; rfl
  refine take_ (i := 6) (N := some 17) (v := ?_) (a' := ?_) #[false, true, true, true, false, true, true, false, false, false, false, false] rfl rfl (take_ofW HT_.out HW_.out (by kernel_rfl)) (fun _ _ _ h => h) (Or.inl ⟨by rfl, ?_⟩) hHeld ?_ ?_
  rotate_left
  · rintro w' ⟨s0, s1, s2⟩; go_simp; with_reducible rfl
  rotate_left
  · simp only [Act.put, List.setIfInBounds_toArray, List.set_cons_zero, List.set_cons_succ, i64_w, i32_w]; rfl
  refine pure_ (i := 8) (N := some 19) (v := ?_) (a' := ?_) #[false, true, true, true, false, true, true, false, true, false, false, false] rfl rfl (any_of HT_.out (by kernel_rfl)) (fun _ _ _ h => h) (Or.inl ⟨by rfl, ?_⟩) ?_ ?_
  rotate_left
  · intro w'; go_simp; with_reducible rfl
  rotate_left
  · simp only [Act.put, List.setIfInBounds_toArray, List.set_cons_zero, List.set_cons_succ, i64_w, i32_w]; rfl
  refine take_ (i := 9) (N := some 20) (v := ?_) (a' := ?_) #[false, true, true, true, false, true, true, false, true, true, false, false] rfl rfl (take_ofW HT_.out HW_.out (by kernel_rfl)) (fun _ _ _ h => h) (Or.inl ⟨by rfl, ?_⟩) hHeld ?_ ?_
  rotate_left
  · rintro w' ⟨s0, s1, s2⟩; go_simp; with_reducible rfl
  rotate_left
  · simp only [Act.put, List.setIfInBounds_toArray, List.set_cons_zero, List.set_cons_succ, i64_w, i32_w]; rfl
  refine one_ (i := 0) (N := some 11) #[true, true, true, true, false, true, true, false, true, true, false, false] rfl rfl (one_of HT_.out (by kernel_rfl)) (by decide) (fun K hK => ?_)
  refine goes_ Try.func28 (by kernel_rfl) rfl #[] (by rfl) rfl rfl (by (try simp only [List.map_toArray, List.map_cons, List.map_nil]); first | done | rfl) ?_
  (with_reducible refine (fieldNewW.calls w _ HB.out).mono ?_)
  rintro e w3 ⟨g, rfl, hWR, hBB, hB2, hgg⟩
  refine ⟨_, rfl, ?_⟩
  have HG := Aside0.mk (show w.heap.size ≠ g by have := blk_lt BK.out; omega)
  have n_BK := Aside0.mk (blk_below BK.out hB2)
  have HW := Aside0.mk hWR
  have n_HB := Aside0.mk hBB
  clear hWR hBB hB2 hgg BK HB
  have BK := n_BK
  have HB := n_HB
  clear n_BK n_HB
  refine hK.out _ _ ⟨(blk_cell BK.out 0).trans rfl, (blk_cell BK.out 1).trans rfl, (blk_cell BK.out 2).trans rfl⟩ (fun hHeld => ?_)
  clear hK K
  refine norm_ (a' := ?_) ?_ ?_
  rotate_left
  · show Act.put _ (some 11) _ = _
    simp only [Act.put, List.setIfInBounds_toArray, List.set_cons_zero, List.set_cons_succ, i64_w, i32_w]; rfl
  refine one_ (i := 4) (N := some 15) #[true, true, true, true, true, true, true, false, true, true, false, false] rfl rfl (one_of HT_.out (by kernel_rfl)) (by decide) (fun K hK => ?_)
  refine goes_ Try.func29 (by kernel_rfl) rfl #[.pointer (some ⟨g, 0, none⟩), .int .u8 3] (by rfl) rfl rfl (by (try simp only [List.map_toArray, List.map_cons, List.map_nil]); first | done | rfl) ?_
  (with_reducible refine (field_U8.calls 3 g (([] : List Int)) false w _ (by decide) (by decide) (by simp [bigE]) ?a1 ?a2).mono ?_)
  case a1 => exact HW.out
  case a2 => exact HB.out
  rintro e w4 ⟨rfl, hWR, hBB, hF⟩
  refine ⟨_, rfl, ?_⟩
  have n_BK := Aside0.mk (WF.keep hF BK.out (by decide) HG.out)
  have n_HW := Aside0.mk hWR
  have n_HB := Aside0.mk hBB
  clear hWR hBB hF BK HW HB
  have BK := n_BK
  have HW := n_HW
  have HB := n_HB
  clear n_BK n_HW n_HB
  refine hK.out _ _ ⟨(blk_cell BK.out 0).trans rfl, (blk_cell BK.out 1).trans rfl, (blk_cell BK.out 2).trans rfl⟩ (fun hHeld => ?_)
  clear hK K
  refine norm_ (a' := ?_) ?_ ?_
  rotate_left
  · show Act.put _ (some 15) _ = _
    simp only [Act.put, List.setIfInBounds_toArray, List.set_cons_zero, List.set_cons_succ, i64_w, i32_w]; rfl
  refine one_ (i := 7) (N := some 18) #[true, true, true, true, true, true, true, true, true, true, false, false] rfl rfl (one_of HT_.out (by kernel_rfl)) (by decide) (fun K hK => ?_)
  refine goes_ Try.func30 (by kernel_rfl) rfl #[.pointer (some ⟨g, 0, none⟩), .int .u64 ls] (by rfl) rfl rfl (by (try simp only [List.map_toArray, List.map_cons, List.map_nil]); first | done | rfl) ?_
  (with_reducible refine (field_U64.calls ls g (([] : List Int) ++ bigE 3 1) false w _ Gls0.out Gls1.out (by simp [bigE]) ?a1 ?a2).mono ?_)
  case a1 => exact HW.out
  case a2 => exact HB.out
  rintro e w5 ⟨rfl, hWR, hBB, hF⟩
  refine ⟨_, rfl, ?_⟩
  have n_BK := Aside0.mk (WF.keep hF BK.out (by decide) HG.out)
  have n_HW := Aside0.mk hWR
  have n_HB := Aside0.mk hBB
  clear hWR hBB hF BK HW HB
  have BK := n_BK
  have HW := n_HW
  have HB := n_HB
  clear n_BK n_HW n_HB
  refine hK.out _ _ ⟨(blk_cell BK.out 0).trans rfl, (blk_cell BK.out 1).trans rfl, (blk_cell BK.out 2).trans rfl⟩ (fun hHeld => ?_)
  clear hK K
  refine norm_ (a' := ?_) ?_ ?_
  rotate_left
  · show Act.put _ (some 18) _ = _
    simp only [Act.put, List.setIfInBounds_toArray, List.set_cons_zero, List.set_cons_succ, i64_w, i32_w]; rfl
  refine one_ (i := 10) (N := some 21) #[true, true, true, true, true, true, true, true, true, true, true, false] rfl rfl (one_of HT_.out (by kernel_rfl)) (by decide) (fun K hK => ?_)
  refine goes_ Try.func31 (by kernel_rfl) rfl #[.pointer (some ⟨g, 0, none⟩), .int .u32 ep] (by rfl) rfl rfl (by (try simp only [List.map_toArray, List.map_cons, List.map_nil]); first | done | rfl) ?_
  (with_reducible refine (field_U32.calls ep g (([] : List Int) ++ bigE 3 1 ++ bigE ls 8) false w _ Gep0.out Gep1.out (by simp [bigE]) ?a1 ?a2).mono ?_)
  case a1 => exact HW.out
  case a2 => exact HB.out
  rintro e w6 ⟨rfl, hWR, hBB, hF⟩
  refine ⟨_, rfl, ?_⟩
  have n_BK := Aside0.mk (WF.keep hF BK.out (by decide) HG.out)
  have n_HW := Aside0.mk hWR
  have n_HB := Aside0.mk hBB
  clear hWR hBB hF BK HW HB
  have BK := n_BK
  have HW := n_HW
  have HB := n_HB
  clear n_BK n_HW n_HB
  refine hK.out _ _ ⟨(blk_cell BK.out 0).trans rfl, (blk_cell BK.out 1).trans rfl, (blk_cell BK.out 2).trans rfl⟩ (fun hHeld => ?_)
  clear hK K
  refine norm_ (a' := ?_) ?_ ?_
  rotate_left
  · show Act.put _ (some 21) _ = _
    simp only [Act.put, List.setIfInBounds_toArray, List.set_cons_zero, List.set_cons_succ, i64_w, i32_w]; rfl
  refine pure_ (i := 11) (N := some 5) (v := ?_) (a' := ?_) #[true, true, true, true, true, true, true, true, true, true, true, true] rfl rfl (any_of HT_.out (by kernel_rfl)) (fun _ _ _ h => h) (Or.inl ⟨by rfl, ?_⟩) ?_ ?_
  rotate_left
  · intro w'; go_simp; with_reducible rfl
  rotate_left
  · simp only [Act.put, List.setIfInBounds_toArray, List.set_cons_zero, List.set_cons_succ, i64_w, i32_w]; rfl
  refine done_ (done_of HT_.out (by kernel_rfl)) ?_
  clear HT_ HW_ hHeld
  have hk0 := (blk_cell BK.out 0).trans rfl
  have hkf := blk_frozen BK.out 0
  have hkl := blk_lt BK.out
  go_upto_region 9 with (fail)
  clear hk0 hkf hkl
  have n_BK := Aside0.mk (blk_drew BK.out)
  have n_HB := Aside0.mk (below_drew1 HB.out)
  have n_HW := Aside0.mk (WR.drew HW.out)
  clear BK HB HW
  have BK := n_BK
  have HB := n_HB
  have HW := n_HW
  clear n_BK n_HB n_HW
  refine start_ (n := 16) (S := fun w' => w'.cell? ⟨w.heap.size, 3, none⟩ = some (.int .u32 o) ∧ w'.cell? ⟨w.heap.size, 4, none⟩ = some (.int .i64 st) ∧ w'.cell? ⟨w.heap.size, 5, none⟩ = some (.bool un) ∧ w'.cell? ⟨w.heap.size, 6, none⟩ = some (.int .i64 tr)) (ds := []) #[false, false, false, false, false, false, false, false, false, false, false, false, false, false, false, false] (by kernel_rfl) rfl rfl ⟨(blk_cell BK.out 3).trans rfl, (blk_cell BK.out 4).trans rfl, (blk_cell BK.out 5).trans rfl, (blk_cell BK.out 6).trans rfl⟩ (fun hHeld => ?_); refine with_tabW entry_Put.tab9 entry_Put.bits9 (fun HT_ HW_ => ?_)
  generalize w6.drew = wd_ at BK HB HW hHeld ⊢
  refine pure_ (i := 0) (N := some 38) (v := ?_) (a' := ?_) #[true, false, false, false, false, false, false, false, false, false, false, false, false, false, false, false] rfl rfl (any_of HT_.out (by kernel_rfl)) (fun _ _ _ h => h) (Or.inl ⟨by rfl, ?_⟩) ?_ ?_
  rotate_left
  · intro w'; go_simp; with_reducible rfl
  rotate_left
  · simp only [Act.put, List.setIfInBounds_toArray, List.set_cons_zero, List.set_cons_succ, i64_w, i32_w]; rfl
  refine pure_ (i := 1) (N := some 39) (v := ?_) (a' := ?_) #[true, true, false, false, false, false, false, false, false, false, false, false, false, false, false, false] rfl rfl (any_of HT_.out (by kernel_rfl)) (fun _ _ _ h => h) (Or.inl ⟨by rfl, ?_⟩) ?_ ?_
  rotate_left
  · intro w'; go_simp; with_reducible rfl
  rotate_left
  · simp only [Act.put, List.setIfInBounds_toArray, List.set_cons_zero, List.set_cons_succ, i64_w, i32_w]; rfl
  refine take_ (i := 2) (N := some 40) (v := ?_) (a' := ?_) #[true, true, true, false, false, false, false, false, false, false, false, false, false, false, false, false] rfl rfl (take_ofW HT_.out HW_.out (by kernel_rfl)) (fun _ _ _ h => h) (Or.inl ⟨by rfl, ?_⟩) hHeld ?_ ?_
  rotate_left
  · rintro w' ⟨s0, s1, s2, s3⟩; go_simp; with_reducible rfl
  rotate_left
  · simp only [Act.put, List.setIfInBounds_toArray, List.set_cons_zero, List.set_cons_succ, i64_w, i32_w]; rfl
  refine pure_ (i := 4) (N := some 42) (v := ?_) (a' := ?_) #[true, true, true, false, true, false, false, false, false, false, false, false, false, false, false, false] rfl rfl (any_of HT_.out (by kernel_rfl)) (fun _ _ _ h => h) (Or.inl ⟨by rfl, ?_⟩) ?_ ?_
  rotate_left
  · intro w'; go_simp; with_reducible rfl
  rotate_left
  · simp only [Act.put, List.setIfInBounds_toArray, List.set_cons_zero, List.set_cons_succ, i64_w, i32_w]; rfl
  refine take_ (i := 5) (N := some 43) (v := ?_) (a' := ?_) #[true, true, true, false, true, true, false, false, false, false, false, false, false, false, false, false] rfl rfl (take_ofW HT_.out HW_.out (by kernel_rfl)) (fun _ _ _ h => h) (Or.inl ⟨by rfl, ?_⟩) hHeld ?_ ?_
  rotate_left
  · rintro w' ⟨s0, s1, s2, s3⟩; go_simp; with_reducible rfl
  rotate_left
  · simp only [Act.put, List.setIfInBounds_toArray, List.set_cons_zero, List.set_cons_succ, i64_w, i32_w]; rfl
  refine pure_ (i := 6) (N := some 44) (v := ?_) (a' := ?_) #[true, true, true, false, true, true, true, false, false, false, false, false, false, false, false, false] rfl rfl (any_of HT_.out (by kernel_rfl)) (fun _ _ _ h => h) (Or.inl ⟨by rfl, ?_⟩) ?_ ?_
  rotate_left
  · intro w'; go_simp; with_reducible rfl
  rotate_left
  · simp only [Act.put, List.setIfInBounds_toArray, List.set_cons_zero, List.set_cons_succ, i64_w, i32_w]; rfl
  refine pure_ (i := 8) (N := some 46) (v := ?_) (a' := ?_) #[true, true, true, false, true, true, true, false, true, false, false, false, false, false, false, false] rfl rfl (any_of HT_.out (by kernel_rfl)) (fun _ _ _ h => h) (Or.inl ⟨by rfl, ?_⟩) ?_ ?_
  rotate_left
  · intro w'; go_simp; with_reducible rfl
  rotate_left
  · simp only [Act.put, List.setIfInBounds_toArray, List.set_cons_zero, List.set_cons_succ, i64_w, i32_w]; rfl
  refine take_ (i := 9) (N := some 47) (v := ?_) (a' := ?_) #[true, true, true, false, true, true, true, false, true, true, false, false, false, false, false, false] rfl rfl (take_ofW HT_.out HW_.out (by kernel_rfl)) (fun _ _ _ h => h) (Or.inl ⟨by rfl, ?_⟩) hHeld ?_ ?_
  rotate_left
  · rintro w' ⟨s0, s1, s2, s3⟩; go_simp; with_reducible rfl
  rotate_left
  · simp only [Act.put, List.setIfInBounds_toArray, List.set_cons_zero, List.set_cons_succ, i64_w, i32_w]; rfl
  refine pure_ (i := 12) (N := some 50) (v := ?_) (a' := ?_) #[true, true, true, false, true, true, true, false, true, true, false, false, true, false, false, false] rfl rfl (any_of HT_.out (by kernel_rfl)) (fun _ _ _ h => h) (Or.inl ⟨by rfl, ?_⟩) ?_ ?_
  rotate_left
  · intro w'; go_simp; with_reducible rfl
  rotate_left
  · simp only [Act.put, List.setIfInBounds_toArray, List.set_cons_zero, List.set_cons_succ, i64_w, i32_w]; rfl
  refine take_ (i := 13) (N := some 51) (v := ?_) (a' := ?_) #[true, true, true, false, true, true, true, false, true, true, false, false, true, true, false, false] rfl rfl (take_ofW HT_.out HW_.out (by kernel_rfl)) (fun _ _ _ h => h) (Or.inl ⟨by rfl, ?_⟩) hHeld ?_ ?_
  rotate_left
  · rintro w' ⟨s0, s1, s2, s3⟩; go_simp; with_reducible rfl
  rotate_left
  · simp only [Act.put, List.setIfInBounds_toArray, List.set_cons_zero, List.set_cons_succ, i64_w, i32_w]; rfl
  refine pure_ (i := 14) (N := some 52) (v := ?_) (a' := ?_) #[true, true, true, false, true, true, true, false, true, true, false, false, true, true, true, false] rfl rfl (any_of HT_.out (by kernel_rfl)) (fun _ _ _ h => h) (Or.inl ⟨by rfl, ?_⟩) ?_ ?_
  rotate_left
  · intro w'; go_simp; with_reducible rfl
  rotate_left
  · simp only [Act.put, List.setIfInBounds_toArray, List.set_cons_zero, List.set_cons_succ, i64_w, i32_w]; rfl
  refine one_ (i := 3) (N := some 41) #[true, true, true, true, true, true, true, false, true, true, false, false, true, true, true, false] rfl rfl (one_of HT_.out (by kernel_rfl)) (by decide) (fun K hK => ?_)
  refine goes_ Try.func31 (by kernel_rfl) rfl #[.pointer (some ⟨g, 0, none⟩), .int .u32 o] (by rfl) rfl rfl (by (try simp only [List.map_toArray, List.map_cons, List.map_nil]); first | done | rfl) ?_
  (with_reducible refine (field_U32.calls o g (([] : List Int) ++ bigE 3 1 ++ bigE ls 8 ++ bigE ep 4) false w _ Go0.out Go1.out (by simp [bigE]) ?a1 ?a2).mono ?_)
  case a1 => exact HW.out
  case a2 => exact HB.out
  rintro e w7 ⟨rfl, hWR, hBB, hF⟩
  refine ⟨_, rfl, ?_⟩
  have n_BK := Aside0.mk (WF.keep hF BK.out (by decide) HG.out)
  have n_HW := Aside0.mk hWR
  have n_HB := Aside0.mk hBB
  clear hWR hBB hF BK HW HB
  have BK := n_BK
  have HW := n_HW
  have HB := n_HB
  clear n_BK n_HW n_HB
  refine hK.out _ _ ⟨(blk_cell BK.out 3).trans rfl, (blk_cell BK.out 4).trans rfl, (blk_cell BK.out 5).trans rfl, (blk_cell BK.out 6).trans rfl⟩ (fun hHeld => ?_)
  clear hK K
  refine norm_ (a' := ?_) ?_ ?_
  rotate_left
  · show Act.put _ (some 41) _ = _
    simp only [Act.put, List.setIfInBounds_toArray, List.set_cons_zero, List.set_cons_succ, i64_w, i32_w]; rfl
  refine one_ (i := 7) (N := some 45) #[true, true, true, true, true, true, true, true, true, true, false, false, true, true, true, false] rfl rfl (one_of HT_.out (by kernel_rfl)) (by decide) (fun K hK => ?_)
  refine goes_ Try.func29 (by kernel_rfl) rfl #[.pointer (some ⟨g, 0, none⟩), .int .u8 st] (by rfl) rfl rfl (by (try simp only [List.map_toArray, List.map_cons, List.map_nil]); first | done | rfl) ?_
  (with_reducible refine (field_U8.calls st g (([] : List Int) ++ bigE 3 1 ++ bigE ls 8 ++ bigE ep 4 ++ bigE o 4) false w _ Gst0.out Gst1.out (by simp [bigE]) ?a1 ?a2).mono ?_)
  case a1 => exact HW.out
  case a2 => exact HB.out
  rintro e w8 ⟨rfl, hWR, hBB, hF⟩
  refine ⟨_, rfl, ?_⟩
  have n_BK := Aside0.mk (WF.keep hF BK.out (by decide) HG.out)
  have n_HW := Aside0.mk hWR
  have n_HB := Aside0.mk hBB
  clear hWR hBB hF BK HW HB
  have BK := n_BK
  have HW := n_HW
  have HB := n_HB
  clear n_BK n_HW n_HB
  refine hK.out _ _ ⟨(blk_cell BK.out 3).trans rfl, (blk_cell BK.out 4).trans rfl, (blk_cell BK.out 5).trans rfl, (blk_cell BK.out 6).trans rfl⟩ (fun hHeld => ?_)
  clear hK K
  refine norm_ (a' := ?_) ?_ ?_
  rotate_left
  · show Act.put _ (some 45) _ = _
    simp only [Act.put, List.setIfInBounds_toArray, List.set_cons_zero, List.set_cons_succ, i64_w, i32_w]; rfl
  refine one_ (i := 10) (N := some 48) #[true, true, true, true, true, true, true, true, true, true, true, false, true, true, true, false] rfl rfl (one_of HT_.out (by kernel_rfl)) (by decide) (fun K hK => ?_)
  refine goes_ Try.func33 (by kernel_rfl) rfl #[.bool un] (by rfl) rfl rfl (by (try simp only [List.map_toArray, List.map_cons, List.map_nil]); first | done | rfl) ?_
  (with_reducible refine (bit_any un _).mono ?_)
  rintro e w9 ⟨rfl, ⟨nd, rfl⟩⟩
  refine ⟨_, rfl, ?_⟩
  have n_BK := Aside0.mk (bd1 nd BK.out)
  have n_HW := Aside0.mk (WR.drewN HW.out nd)
  have n_HB := Aside0.mk (pw_below_drewN HB.out nd)
  clear BK HW HB
  have BK := n_BK
  have HW := n_HW
  have HB := n_HB
  clear n_BK n_HW n_HB
  refine hK.out _ _ ⟨(blk_cell BK.out 3).trans rfl, (blk_cell BK.out 4).trans rfl, (blk_cell BK.out 5).trans rfl, (blk_cell BK.out 6).trans rfl⟩ (fun hHeld => ?_)
  clear hK K
  refine norm_ (a' := ?_) ?_ ?_
  rotate_left
  · show Act.put _ (some 48) _ = _
    simp only [Act.put, List.setIfInBounds_toArray, List.set_cons_zero, List.set_cons_succ, i64_w, i32_w]; rfl
  refine one_ (i := 11) (N := some 49) #[true, true, true, true, true, true, true, true, true, true, true, true, true, true, true, false] rfl rfl (one_of HT_.out (by kernel_rfl)) (by decide) (fun K hK => ?_)
  refine goes_ Try.func29 (by kernel_rfl) rfl #[.pointer (some ⟨g, 0, none⟩), .int .u8 (bitI un)] (by rfl) rfl rfl (by (try simp only [List.map_toArray, List.map_cons, List.map_nil]); first | done | rfl) ?_
  (with_reducible refine (field_U8.calls (bitI un) g (([] : List Int) ++ bigE 3 1 ++ bigE ls 8 ++ bigE ep 4 ++ bigE o 4 ++ bigE st 1) false w _ (by cases un <;> decide) (by cases un <;> decide) (by simp [bigE]) ?a1 ?a2).mono ?_)
  case a1 => exact HW.out
  case a2 => exact HB.out
  rintro e w10 ⟨rfl, hWR, hBB, hF⟩
  refine ⟨_, rfl, ?_⟩
  have n_BK := Aside0.mk (WF.keep hF BK.out (by decide) HG.out)
  have n_HW := Aside0.mk hWR
  have n_HB := Aside0.mk hBB
  clear hWR hBB hF BK HW HB
  have BK := n_BK
  have HW := n_HW
  have HB := n_HB
  clear n_BK n_HW n_HB
  refine hK.out _ _ ⟨(blk_cell BK.out 3).trans rfl, (blk_cell BK.out 4).trans rfl, (blk_cell BK.out 5).trans rfl, (blk_cell BK.out 6).trans rfl⟩ (fun hHeld => ?_)
  clear hK K
  refine norm_ (a' := ?_) ?_ ?_
  rotate_left
  · show Act.put _ (some 49) _ = _
    simp only [Act.put, List.setIfInBounds_toArray, List.set_cons_zero, List.set_cons_succ, i64_w, i32_w]; rfl
  refine one_ (i := 15) (N := some 53) #[true, true, true, true, true, true, true, true, true, true, true, true, true, true, true, true] rfl rfl (one_of HT_.out (by kernel_rfl)) (by decide) (fun K hK => ?_)
  refine goes_ Try.func29 (by kernel_rfl) rfl #[.pointer (some ⟨g, 0, none⟩), .int .u8 tr] (by rfl) rfl rfl (by (try simp only [List.map_toArray, List.map_cons, List.map_nil]); first | done | rfl) ?_
  (with_reducible refine (field_U8.calls tr g (([] : List Int) ++ bigE 3 1 ++ bigE ls 8 ++ bigE ep 4 ++ bigE o 4 ++ bigE st 1 ++ bigE (bitI un) 1) false w _ Gtr0.out Gtr1.out (by simp [bigE]) ?a1 ?a2).mono ?_)
  case a1 => exact HW.out
  case a2 => exact HB.out
  rintro e w11 ⟨rfl, hWR, hBB, hF⟩
  refine ⟨_, rfl, ?_⟩
  have n_BK := Aside0.mk (WF.keep hF BK.out (by decide) HG.out)
  have n_HW := Aside0.mk hWR
  have n_HB := Aside0.mk hBB
  clear hWR hBB hF BK HW HB
  have BK := n_BK
  have HW := n_HW
  have HB := n_HB
  clear n_BK n_HW n_HB
  refine hK.out _ _ ⟨(blk_cell BK.out 3).trans rfl, (blk_cell BK.out 4).trans rfl, (blk_cell BK.out 5).trans rfl, (blk_cell BK.out 6).trans rfl⟩ (fun hHeld => ?_)
  clear hK K
  refine norm_ (a' := ?_) ?_ ?_
  rotate_left
  · show Act.put _ (some 53) _ = _
    simp only [Act.put, List.setIfInBounds_toArray, List.set_cons_zero, List.set_cons_succ, i64_w, i32_w]; rfl
  refine done_ (done_of HT_.out (by kernel_rfl)) ?_
  clear HT_ HW_ hHeld
  go_wp2_with (first | (go_at_call 34; (with_reducible refine (field_Done.calls g (([] : List Int) ++ bigE 3 1 ++ bigE ls 8 ++ bigE ep 4 ++ bigE o 4 ++ bigE st 1 ++ bigE (bitI un) 1 ++ bigE tr 1) w _ (by simp [bigE]) (by simp [bigE]) ?a1 ?a2).mono ?_); (case a1 => exact HW.out); (case a2 => exact HB.out); rintro e w44 ⟨v0, rfl, hR, hB3, hB4⟩; have HR := Aside0.mk hR; have HB3 := Aside0.mk hB3; clear hR hB3 hB4))
  refine bodyPost_ret ?_ rfl ⟨v0, rfl, ?_, HB3.out⟩
  · simp [results, Try.results14, go_sem]
  · exact Kd.R_lower HR.out (below_size HB.out)
set_option maxHeartbeats 8000000 in
set_option maxRecDepth 100000 in
theorem put_4 (ls ep o st : Int) (un : Bool) (tr co mk : Int) (A9 : Option Addr) (n9 c9 : Nat) (A10 : Option Addr) (n10 c10 : Nat) (w : World) (hok : entryOk 4 ls ep o st un tr co mk n9 n10 = true) (hls0 : 0 ≤ ls) (hls1 : ls < 18446744073709551616) (hep0 : 0 ≤ ep) (hep1 : ep < 4294967296) (ho0 : 0 ≤ o) (ho1 : o < 4294967296) (hmk0 : 0 ≤ mk) (hmk1 : mk < 18446744073709551616) (hst0 : 0 ≤ st) (hst1 : st < 256) (htr0 : 0 ≤ tr) (htr1 : tr < 256) (hco0 : 0 ≤ co) (hco1 : co < 256) : Calls Try.prog 14 #[.agg #[.int .i64 4, .int .u64 ls, .int .u32 ep, .int .u32 o, .int .i64 st, .bool un, .int .i64 tr, .int .i64 co, .int .u64 mk, .slice A9 n9 c9, .slice A10 n10 c10]] w fun e w' => ∃ v0_ : Value, e = .returned (.tuple #[v0_, .int .i64 0]) ∧ Kd.R (Kd.int .u8) 5 w' w.heap.size (fun _ => True) v0_ (([] : List Int) ++ bigE 4 1 ++ bigE ls 8 ++ bigE ep 4 ++ bigE o 4 ++ bigE st 1 ++ bigE (bitI un) 1 ++ bigE tr 1 ++ bigE co 1) ∧ Below w.heap.size w w' := by
  have Gls0 := Aside0.mk hls0
  have Gls1 := Aside0.mk hls1
  have Gep0 := Aside0.mk hep0
  have Gep1 := Aside0.mk hep1
  have Go0 := Aside0.mk ho0
  have Go1 := Aside0.mk ho1
  have Gmk0 := Aside0.mk hmk0
  have Gmk1 := Aside0.mk hmk1
  have Gst0 := Aside0.mk hst0
  have Gst1 := Aside0.mk hst1
  have Gtr0 := Aside0.mk htr0
  have Gtr1 := Aside0.mk htr1
  have Gco0 := Aside0.mk hco0
  have Gco1 := Aside0.mk hco1
  have fwst : IntKind.u8.wrap st = st := u8_same hst0 hst1
  have fwtr : IntKind.u8.wrap tr = tr := u8_same htr0 htr1
  have fwco : IntKind.u8.wrap co = co := u8_same hco0 hco1
  clear hls0 hls1 hep0 hep1 ho0 ho1 hmk0 hmk1 hst0 hst1 htr0 htr1 hco0 hco1
  go_enter Try.func14, Try.ntmps14
  go_wp2_with (first | (go_at_call 15; (with_reducible refine (check_any 4 ls ep o st un tr co mk A9 n9 c9 A10 n10 c10 _).mono ?_); rintro e w1 ⟨rfl, hb⟩; rw [hok, ansE]; have BK := Aside0.mk (blk_below (heap_last _ _) hb); have HB := Aside0.mk (below_step (below_alloc (Below.refl _ _) _) hb); clear hb))
  have n_BK := Aside0.mk (blk_drew BK.out)
  have n_HB := Aside0.mk (below_drew1 HB.out)
  clear BK HB
  have BK := n_BK
  have HB := n_HB
  clear n_BK n_HB
  refine start_ (n := 12) (S := fun w' => w'.cell? ⟨w.heap.size, 0, none⟩ = some (.int .i64 4) ∧ w'.cell? ⟨w.heap.size, 1, none⟩ = some (.int .u64 ls) ∧ w'.cell? ⟨w.heap.size, 2, none⟩ = some (.int .u32 ep)) (ds := []) #[false, false, false, false, false, false, false, false, false, false, false, false] (by kernel_rfl) rfl rfl ⟨(blk_cell BK.out 0).trans rfl, (blk_cell BK.out 1).trans rfl, (blk_cell BK.out 2).trans rfl⟩ (fun hHeld => ?_); refine with_tabW entry_Put.tab4 entry_Put.bits4 (fun HT_ HW_ => ?_)
  generalize w1.drew = wd_ at BK HB hHeld ⊢
  refine pure_ (i := 1) (N := some 12) (v := ?_) (a' := ?_) #[false, true, false, false, false, false, false, false, false, false, false, false] rfl rfl (any_of HT_.out (by kernel_rfl)) (fun _ _ _ h => h) (Or.inl ⟨by rfl, ?_⟩) ?_ ?_
  rotate_left
  · intro w'; go_simp; with_reducible rfl
  rotate_left
  · simp only [Act.put, List.setIfInBounds_toArray, List.set_cons_zero, List.set_cons_succ, i64_w, i32_w]; rfl
  refine take_ (i := 2) (N := some 13) (v := ?_) (a' := ?_) #[false, true, true, false, false, false, false, false, false, false, false, false] rfl rfl (take_ofW HT_.out HW_.out (by kernel_rfl)) (fun _ _ _ h => h) (Or.inl ⟨by rfl, ?_⟩) hHeld ?_ ?_
  rotate_left
  · rintro w' ⟨s0, s1, s2⟩; go_simp; with_reducible rfl
  rotate_left
  · simp only [Act.put, List.setIfInBounds_toArray, List.set_cons_zero, List.set_cons_succ, i64_w, i32_w]; rfl
  refine pure_ (i := 3) (N := some 14) (v := ?_) (a' := ?_) #[false, true, true, true, false, false, false, false, false, false, false, false] rfl rfl (any_of HT_.out (by kernel_rfl)) (fun _ _ _ h => h) (Or.inl ⟨by rfl, ?_⟩) ?_ ?_
  rotate_left
  · intro w'; go_simp; with_reducible rfl
  rotate_left
  · simp only [Act.put, List.setIfInBounds_toArray, List.set_cons_zero, List.set_cons_succ, i64_w, i32_w]; rfl
  refine pure_ (i := 5) (N := some 16) (v := ?_) (a' := ?_) #[false, true, true, true, false, true, false, false, false, false, false, false] rfl rfl (any_of HT_.out (by kernel_rfl)) (fun _ _ _ h => h) (Or.inl ⟨by rfl, ?_⟩) ?_ ?_
  rotate_left
  · intro w'; go_simp; with_reducible rfl
  rotate_left
  · simp only [Act.put, List.setIfInBounds_toArray, List.set_cons_zero, List.set_cons_succ, i64_w, i32_w]; rfl
  refine take_ (i := 6) (N := some 17) (v := ?_) (a' := ?_) #[false, true, true, true, false, true, true, false, false, false, false, false] rfl rfl (take_ofW HT_.out HW_.out (by kernel_rfl)) (fun _ _ _ h => h) (Or.inl ⟨by rfl, ?_⟩) hHeld ?_ ?_
  rotate_left
  · rintro w' ⟨s0, s1, s2⟩; go_simp; with_reducible rfl
  rotate_left
  · simp only [Act.put, List.setIfInBounds_toArray, List.set_cons_zero, List.set_cons_succ, i64_w, i32_w]; rfl
  refine pure_ (i := 8) (N := some 19) (v := ?_) (a' := ?_) #[false, true, true, true, false, true, true, false, true, false, false, false] rfl rfl (any_of HT_.out (by kernel_rfl)) (fun _ _ _ h => h) (Or.inl ⟨by rfl, ?_⟩) ?_ ?_
  rotate_left
  · intro w'; go_simp; with_reducible rfl
  rotate_left
  · simp only [Act.put, List.setIfInBounds_toArray, List.set_cons_zero, List.set_cons_succ, i64_w, i32_w]; rfl
  refine take_ (i := 9) (N := some 20) (v := ?_) (a' := ?_) #[false, true, true, true, false, true, true, false, true, true, false, false] rfl rfl (take_ofW HT_.out HW_.out (by kernel_rfl)) (fun _ _ _ h => h) (Or.inl ⟨by rfl, ?_⟩) hHeld ?_ ?_
  rotate_left
  · rintro w' ⟨s0, s1, s2⟩; go_simp; with_reducible rfl
  rotate_left
  · simp only [Act.put, List.setIfInBounds_toArray, List.set_cons_zero, List.set_cons_succ, i64_w, i32_w]; rfl
  refine one_ (i := 0) (N := some 11) #[true, true, true, true, false, true, true, false, true, true, false, false] rfl rfl (one_of HT_.out (by kernel_rfl)) (by decide) (fun K hK => ?_)
  refine goes_ Try.func28 (by kernel_rfl) rfl #[] (by rfl) rfl rfl (by (try simp only [List.map_toArray, List.map_cons, List.map_nil]); first | done | rfl) ?_
  (with_reducible refine (fieldNewW.calls w _ HB.out).mono ?_)
  rintro e w3 ⟨g, rfl, hWR, hBB, hB2, hgg⟩
  refine ⟨_, rfl, ?_⟩
  have HG := Aside0.mk (show w.heap.size ≠ g by have := blk_lt BK.out; omega)
  have n_BK := Aside0.mk (blk_below BK.out hB2)
  have HW := Aside0.mk hWR
  have n_HB := Aside0.mk hBB
  clear hWR hBB hB2 hgg BK HB
  have BK := n_BK
  have HB := n_HB
  clear n_BK n_HB
  refine hK.out _ _ ⟨(blk_cell BK.out 0).trans rfl, (blk_cell BK.out 1).trans rfl, (blk_cell BK.out 2).trans rfl⟩ (fun hHeld => ?_)
  clear hK K
  refine norm_ (a' := ?_) ?_ ?_
  rotate_left
  · show Act.put _ (some 11) _ = _
    simp only [Act.put, List.setIfInBounds_toArray, List.set_cons_zero, List.set_cons_succ, i64_w, i32_w]; rfl
  refine one_ (i := 4) (N := some 15) #[true, true, true, true, true, true, true, false, true, true, false, false] rfl rfl (one_of HT_.out (by kernel_rfl)) (by decide) (fun K hK => ?_)
  refine goes_ Try.func29 (by kernel_rfl) rfl #[.pointer (some ⟨g, 0, none⟩), .int .u8 4] (by rfl) rfl rfl (by (try simp only [List.map_toArray, List.map_cons, List.map_nil]); first | done | rfl) ?_
  (with_reducible refine (field_U8.calls 4 g (([] : List Int)) false w _ (by decide) (by decide) (by simp [bigE]) ?a1 ?a2).mono ?_)
  case a1 => exact HW.out
  case a2 => exact HB.out
  rintro e w4 ⟨rfl, hWR, hBB, hF⟩
  refine ⟨_, rfl, ?_⟩
  have n_BK := Aside0.mk (WF.keep hF BK.out (by decide) HG.out)
  have n_HW := Aside0.mk hWR
  have n_HB := Aside0.mk hBB
  clear hWR hBB hF BK HW HB
  have BK := n_BK
  have HW := n_HW
  have HB := n_HB
  clear n_BK n_HW n_HB
  refine hK.out _ _ ⟨(blk_cell BK.out 0).trans rfl, (blk_cell BK.out 1).trans rfl, (blk_cell BK.out 2).trans rfl⟩ (fun hHeld => ?_)
  clear hK K
  refine norm_ (a' := ?_) ?_ ?_
  rotate_left
  · show Act.put _ (some 15) _ = _
    simp only [Act.put, List.setIfInBounds_toArray, List.set_cons_zero, List.set_cons_succ, i64_w, i32_w]; rfl
  refine one_ (i := 7) (N := some 18) #[true, true, true, true, true, true, true, true, true, true, false, false] rfl rfl (one_of HT_.out (by kernel_rfl)) (by decide) (fun K hK => ?_)
  refine goes_ Try.func30 (by kernel_rfl) rfl #[.pointer (some ⟨g, 0, none⟩), .int .u64 ls] (by rfl) rfl rfl (by (try simp only [List.map_toArray, List.map_cons, List.map_nil]); first | done | rfl) ?_
  (with_reducible refine (field_U64.calls ls g (([] : List Int) ++ bigE 4 1) false w _ Gls0.out Gls1.out (by simp [bigE]) ?a1 ?a2).mono ?_)
  case a1 => exact HW.out
  case a2 => exact HB.out
  rintro e w5 ⟨rfl, hWR, hBB, hF⟩
  refine ⟨_, rfl, ?_⟩
  have n_BK := Aside0.mk (WF.keep hF BK.out (by decide) HG.out)
  have n_HW := Aside0.mk hWR
  have n_HB := Aside0.mk hBB
  clear hWR hBB hF BK HW HB
  have BK := n_BK
  have HW := n_HW
  have HB := n_HB
  clear n_BK n_HW n_HB
  refine hK.out _ _ ⟨(blk_cell BK.out 0).trans rfl, (blk_cell BK.out 1).trans rfl, (blk_cell BK.out 2).trans rfl⟩ (fun hHeld => ?_)
  clear hK K
  refine norm_ (a' := ?_) ?_ ?_
  rotate_left
  · show Act.put _ (some 18) _ = _
    simp only [Act.put, List.setIfInBounds_toArray, List.set_cons_zero, List.set_cons_succ, i64_w, i32_w]; rfl
  refine one_ (i := 10) (N := some 21) #[true, true, true, true, true, true, true, true, true, true, true, false] rfl rfl (one_of HT_.out (by kernel_rfl)) (by decide) (fun K hK => ?_)
  refine goes_ Try.func31 (by kernel_rfl) rfl #[.pointer (some ⟨g, 0, none⟩), .int .u32 ep] (by rfl) rfl rfl (by (try simp only [List.map_toArray, List.map_cons, List.map_nil]); first | done | rfl) ?_
  (with_reducible refine (field_U32.calls ep g (([] : List Int) ++ bigE 4 1 ++ bigE ls 8) false w _ Gep0.out Gep1.out (by simp [bigE]) ?a1 ?a2).mono ?_)
  case a1 => exact HW.out
  case a2 => exact HB.out
  rintro e w6 ⟨rfl, hWR, hBB, hF⟩
  refine ⟨_, rfl, ?_⟩
  have n_BK := Aside0.mk (WF.keep hF BK.out (by decide) HG.out)
  have n_HW := Aside0.mk hWR
  have n_HB := Aside0.mk hBB
  clear hWR hBB hF BK HW HB
  have BK := n_BK
  have HW := n_HW
  have HB := n_HB
  clear n_BK n_HW n_HB
  refine hK.out _ _ ⟨(blk_cell BK.out 0).trans rfl, (blk_cell BK.out 1).trans rfl, (blk_cell BK.out 2).trans rfl⟩ (fun hHeld => ?_)
  clear hK K
  refine norm_ (a' := ?_) ?_ ?_
  rotate_left
  · show Act.put _ (some 21) _ = _
    simp only [Act.put, List.setIfInBounds_toArray, List.set_cons_zero, List.set_cons_succ, i64_w, i32_w]; rfl
  refine pure_ (i := 11) (N := some 5) (v := ?_) (a' := ?_) #[true, true, true, true, true, true, true, true, true, true, true, true] rfl rfl (any_of HT_.out (by kernel_rfl)) (fun _ _ _ h => h) (Or.inl ⟨by rfl, ?_⟩) ?_ ?_
  rotate_left
  · intro w'; go_simp; with_reducible rfl
  rotate_left
  · simp only [Act.put, List.setIfInBounds_toArray, List.set_cons_zero, List.set_cons_succ, i64_w, i32_w]; rfl
  refine done_ (done_of HT_.out (by kernel_rfl)) ?_
  clear HT_ HW_ hHeld
  have hk0 := (blk_cell BK.out 0).trans rfl
  have hkf := blk_frozen BK.out 0
  have hkl := blk_lt BK.out
  go_upto_region 11 with (fail)
  clear hk0 hkf hkl
  have n_BK := Aside0.mk (blk_drew BK.out)
  have n_HB := Aside0.mk (below_drew1 HB.out)
  have n_HW := Aside0.mk (WR.drew HW.out)
  clear BK HB HW
  have BK := n_BK
  have HB := n_HB
  have HW := n_HW
  clear n_BK n_HB n_HW
  refine start_ (n := 20) (S := fun w' => w'.cell? ⟨w.heap.size, 3, none⟩ = some (.int .u32 o) ∧ w'.cell? ⟨w.heap.size, 4, none⟩ = some (.int .i64 st) ∧ w'.cell? ⟨w.heap.size, 5, none⟩ = some (.bool un) ∧ w'.cell? ⟨w.heap.size, 6, none⟩ = some (.int .i64 tr) ∧ w'.cell? ⟨w.heap.size, 7, none⟩ = some (.int .i64 co)) (ds := []) #[false, false, false, false, false, false, false, false, false, false, false, false, false, false, false, false, false, false, false, false] (by kernel_rfl) rfl rfl ⟨(blk_cell BK.out 3).trans rfl, (blk_cell BK.out 4).trans rfl, (blk_cell BK.out 5).trans rfl, (blk_cell BK.out 6).trans rfl, (blk_cell BK.out 7).trans rfl⟩ (fun hHeld => ?_); refine with_tabW entry_Put.tab11 entry_Put.bits11 (fun HT_ HW_ => ?_)
  generalize w6.drew = wd_ at BK HB HW hHeld ⊢
  refine pure_ (i := 0) (N := some 56) (v := ?_) (a' := ?_) #[true, false, false, false, false, false, false, false, false, false, false, false, false, false, false, false, false, false, false, false] rfl rfl (any_of HT_.out (by kernel_rfl)) (fun _ _ _ h => h) (Or.inl ⟨by rfl, ?_⟩) ?_ ?_
  rotate_left
  · intro w'; go_simp; with_reducible rfl
  rotate_left
  · simp only [Act.put, List.setIfInBounds_toArray, List.set_cons_zero, List.set_cons_succ, i64_w, i32_w]; rfl
  refine pure_ (i := 1) (N := some 57) (v := ?_) (a' := ?_) #[true, true, false, false, false, false, false, false, false, false, false, false, false, false, false, false, false, false, false, false] rfl rfl (any_of HT_.out (by kernel_rfl)) (fun _ _ _ h => h) (Or.inl ⟨by rfl, ?_⟩) ?_ ?_
  rotate_left
  · intro w'; go_simp; with_reducible rfl
  rotate_left
  · simp only [Act.put, List.setIfInBounds_toArray, List.set_cons_zero, List.set_cons_succ, i64_w, i32_w]; rfl
  refine take_ (i := 2) (N := some 58) (v := ?_) (a' := ?_) #[true, true, true, false, false, false, false, false, false, false, false, false, false, false, false, false, false, false, false, false] rfl rfl (take_ofW HT_.out HW_.out (by kernel_rfl)) (fun _ _ _ h => h) (Or.inl ⟨by rfl, ?_⟩) hHeld ?_ ?_
  rotate_left
  · rintro w' ⟨s0, s1, s2, s3, s4⟩; go_simp; with_reducible rfl
  rotate_left
  · simp only [Act.put, List.setIfInBounds_toArray, List.set_cons_zero, List.set_cons_succ, i64_w, i32_w]; rfl
  refine pure_ (i := 4) (N := some 60) (v := ?_) (a' := ?_) #[true, true, true, false, true, false, false, false, false, false, false, false, false, false, false, false, false, false, false, false] rfl rfl (any_of HT_.out (by kernel_rfl)) (fun _ _ _ h => h) (Or.inl ⟨by rfl, ?_⟩) ?_ ?_
  rotate_left
  · intro w'; go_simp; with_reducible rfl
  rotate_left
  · simp only [Act.put, List.setIfInBounds_toArray, List.set_cons_zero, List.set_cons_succ, i64_w, i32_w]; rfl
  refine take_ (i := 5) (N := some 61) (v := ?_) (a' := ?_) #[true, true, true, false, true, true, false, false, false, false, false, false, false, false, false, false, false, false, false, false] rfl rfl (take_ofW HT_.out HW_.out (by kernel_rfl)) (fun _ _ _ h => h) (Or.inl ⟨by rfl, ?_⟩) hHeld ?_ ?_
  rotate_left
  · rintro w' ⟨s0, s1, s2, s3, s4⟩; go_simp; with_reducible rfl
  rotate_left
  · simp only [Act.put, List.setIfInBounds_toArray, List.set_cons_zero, List.set_cons_succ, i64_w, i32_w]; rfl
  refine pure_ (i := 6) (N := some 62) (v := ?_) (a' := ?_) #[true, true, true, false, true, true, true, false, false, false, false, false, false, false, false, false, false, false, false, false] rfl rfl (any_of HT_.out (by kernel_rfl)) (fun _ _ _ h => h) (Or.inl ⟨by rfl, ?_⟩) ?_ ?_
  rotate_left
  · intro w'; go_simp; with_reducible rfl
  rotate_left
  · simp only [Act.put, List.setIfInBounds_toArray, List.set_cons_zero, List.set_cons_succ, i64_w, i32_w]; rfl
  refine pure_ (i := 8) (N := some 64) (v := ?_) (a' := ?_) #[true, true, true, false, true, true, true, false, true, false, false, false, false, false, false, false, false, false, false, false] rfl rfl (any_of HT_.out (by kernel_rfl)) (fun _ _ _ h => h) (Or.inl ⟨by rfl, ?_⟩) ?_ ?_
  rotate_left
  · intro w'; go_simp; with_reducible rfl
  rotate_left
  · simp only [Act.put, List.setIfInBounds_toArray, List.set_cons_zero, List.set_cons_succ, i64_w, i32_w]; rfl
  refine take_ (i := 9) (N := some 65) (v := ?_) (a' := ?_) #[true, true, true, false, true, true, true, false, true, true, false, false, false, false, false, false, false, false, false, false] rfl rfl (take_ofW HT_.out HW_.out (by kernel_rfl)) (fun _ _ _ h => h) (Or.inl ⟨by rfl, ?_⟩) hHeld ?_ ?_
  rotate_left
  · rintro w' ⟨s0, s1, s2, s3, s4⟩; go_simp; with_reducible rfl
  rotate_left
  · simp only [Act.put, List.setIfInBounds_toArray, List.set_cons_zero, List.set_cons_succ, i64_w, i32_w]; rfl
  refine pure_ (i := 12) (N := some 68) (v := ?_) (a' := ?_) #[true, true, true, false, true, true, true, false, true, true, false, false, true, false, false, false, false, false, false, false] rfl rfl (any_of HT_.out (by kernel_rfl)) (fun _ _ _ h => h) (Or.inl ⟨by rfl, ?_⟩) ?_ ?_
  rotate_left
  · intro w'; go_simp; with_reducible rfl
  rotate_left
  · simp only [Act.put, List.setIfInBounds_toArray, List.set_cons_zero, List.set_cons_succ, i64_w, i32_w]; rfl
  refine take_ (i := 13) (N := some 69) (v := ?_) (a' := ?_) #[true, true, true, false, true, true, true, false, true, true, false, false, true, true, false, false, false, false, false, false] rfl rfl (take_ofW HT_.out HW_.out (by kernel_rfl)) (fun _ _ _ h => h) (Or.inl ⟨by rfl, ?_⟩) hHeld ?_ ?_
  rotate_left
  · rintro w' ⟨s0, s1, s2, s3, s4⟩; go_simp; with_reducible rfl
  rotate_left
  · simp only [Act.put, List.setIfInBounds_toArray, List.set_cons_zero, List.set_cons_succ, i64_w, i32_w]; rfl
  refine pure_ (i := 14) (N := some 70) (v := ?_) (a' := ?_) #[true, true, true, false, true, true, true, false, true, true, false, false, true, true, true, false, false, false, false, false] rfl rfl (any_of HT_.out (by kernel_rfl)) (fun _ _ _ h => h) (Or.inl ⟨by rfl, ?_⟩) ?_ ?_
  rotate_left
  · intro w'; go_simp; with_reducible rfl
  rotate_left
  · simp only [Act.put, List.setIfInBounds_toArray, List.set_cons_zero, List.set_cons_succ, i64_w, i32_w]; rfl
  refine pure_ (i := 16) (N := some 72) (v := ?_) (a' := ?_) #[true, true, true, false, true, true, true, false, true, true, false, false, true, true, true, false, true, false, false, false] rfl rfl (any_of HT_.out (by kernel_rfl)) (fun _ _ _ h => h) (Or.inl ⟨by rfl, ?_⟩) ?_ ?_
  rotate_left
  · intro w'; go_simp; with_reducible rfl
  rotate_left
  · simp only [Act.put, List.setIfInBounds_toArray, List.set_cons_zero, List.set_cons_succ, i64_w, i32_w]; rfl
  refine take_ (i := 17) (N := some 73) (v := ?_) (a' := ?_) #[true, true, true, false, true, true, true, false, true, true, false, false, true, true, true, false, true, true, false, false] rfl rfl (take_ofW HT_.out HW_.out (by kernel_rfl)) (fun _ _ _ h => h) (Or.inl ⟨by rfl, ?_⟩) hHeld ?_ ?_
  rotate_left
  · rintro w' ⟨s0, s1, s2, s3, s4⟩; go_simp; with_reducible rfl
  rotate_left
  · simp only [Act.put, List.setIfInBounds_toArray, List.set_cons_zero, List.set_cons_succ, i64_w, i32_w]; rfl
  refine pure_ (i := 18) (N := some 74) (v := ?_) (a' := ?_) #[true, true, true, false, true, true, true, false, true, true, false, false, true, true, true, false, true, true, true, false] rfl rfl (any_of HT_.out (by kernel_rfl)) (fun _ _ _ h => h) (Or.inl ⟨by rfl, ?_⟩) ?_ ?_
  rotate_left
  · intro w'; go_simp; with_reducible rfl
  rotate_left
  · simp only [Act.put, List.setIfInBounds_toArray, List.set_cons_zero, List.set_cons_succ, i64_w, i32_w]; rfl
  refine one_ (i := 3) (N := some 59) #[true, true, true, true, true, true, true, false, true, true, false, false, true, true, true, false, true, true, true, false] rfl rfl (one_of HT_.out (by kernel_rfl)) (by decide) (fun K hK => ?_)
  refine goes_ Try.func31 (by kernel_rfl) rfl #[.pointer (some ⟨g, 0, none⟩), .int .u32 o] (by rfl) rfl rfl (by (try simp only [List.map_toArray, List.map_cons, List.map_nil]); first | done | rfl) ?_
  (with_reducible refine (field_U32.calls o g (([] : List Int) ++ bigE 4 1 ++ bigE ls 8 ++ bigE ep 4) false w _ Go0.out Go1.out (by simp [bigE]) ?a1 ?a2).mono ?_)
  case a1 => exact HW.out
  case a2 => exact HB.out
  rintro e w7 ⟨rfl, hWR, hBB, hF⟩
  refine ⟨_, rfl, ?_⟩
  have n_BK := Aside0.mk (WF.keep hF BK.out (by decide) HG.out)
  have n_HW := Aside0.mk hWR
  have n_HB := Aside0.mk hBB
  clear hWR hBB hF BK HW HB
  have BK := n_BK
  have HW := n_HW
  have HB := n_HB
  clear n_BK n_HW n_HB
  refine hK.out _ _ ⟨(blk_cell BK.out 3).trans rfl, (blk_cell BK.out 4).trans rfl, (blk_cell BK.out 5).trans rfl, (blk_cell BK.out 6).trans rfl, (blk_cell BK.out 7).trans rfl⟩ (fun hHeld => ?_)
  clear hK K
  refine norm_ (a' := ?_) ?_ ?_
  rotate_left
  · show Act.put _ (some 59) _ = _
    simp only [Act.put, List.setIfInBounds_toArray, List.set_cons_zero, List.set_cons_succ, i64_w, i32_w]; rfl
  refine one_ (i := 7) (N := some 63) #[true, true, true, true, true, true, true, true, true, true, false, false, true, true, true, false, true, true, true, false] rfl rfl (one_of HT_.out (by kernel_rfl)) (by decide) (fun K hK => ?_)
  refine goes_ Try.func29 (by kernel_rfl) rfl #[.pointer (some ⟨g, 0, none⟩), .int .u8 st] (by rfl) rfl rfl (by (try simp only [List.map_toArray, List.map_cons, List.map_nil]); first | done | rfl) ?_
  (with_reducible refine (field_U8.calls st g (([] : List Int) ++ bigE 4 1 ++ bigE ls 8 ++ bigE ep 4 ++ bigE o 4) false w _ Gst0.out Gst1.out (by simp [bigE]) ?a1 ?a2).mono ?_)
  case a1 => exact HW.out
  case a2 => exact HB.out
  rintro e w8 ⟨rfl, hWR, hBB, hF⟩
  refine ⟨_, rfl, ?_⟩
  have n_BK := Aside0.mk (WF.keep hF BK.out (by decide) HG.out)
  have n_HW := Aside0.mk hWR
  have n_HB := Aside0.mk hBB
  clear hWR hBB hF BK HW HB
  have BK := n_BK
  have HW := n_HW
  have HB := n_HB
  clear n_BK n_HW n_HB
  refine hK.out _ _ ⟨(blk_cell BK.out 3).trans rfl, (blk_cell BK.out 4).trans rfl, (blk_cell BK.out 5).trans rfl, (blk_cell BK.out 6).trans rfl, (blk_cell BK.out 7).trans rfl⟩ (fun hHeld => ?_)
  clear hK K
  refine norm_ (a' := ?_) ?_ ?_
  rotate_left
  · show Act.put _ (some 63) _ = _
    simp only [Act.put, List.setIfInBounds_toArray, List.set_cons_zero, List.set_cons_succ, i64_w, i32_w]; rfl
  refine one_ (i := 10) (N := some 66) #[true, true, true, true, true, true, true, true, true, true, true, false, true, true, true, false, true, true, true, false] rfl rfl (one_of HT_.out (by kernel_rfl)) (by decide) (fun K hK => ?_)
  refine goes_ Try.func33 (by kernel_rfl) rfl #[.bool un] (by rfl) rfl rfl (by (try simp only [List.map_toArray, List.map_cons, List.map_nil]); first | done | rfl) ?_
  (with_reducible refine (bit_any un _).mono ?_)
  rintro e w9 ⟨rfl, ⟨nd, rfl⟩⟩
  refine ⟨_, rfl, ?_⟩
  have n_BK := Aside0.mk (bd1 nd BK.out)
  have n_HW := Aside0.mk (WR.drewN HW.out nd)
  have n_HB := Aside0.mk (pw_below_drewN HB.out nd)
  clear BK HW HB
  have BK := n_BK
  have HW := n_HW
  have HB := n_HB
  clear n_BK n_HW n_HB
  refine hK.out _ _ ⟨(blk_cell BK.out 3).trans rfl, (blk_cell BK.out 4).trans rfl, (blk_cell BK.out 5).trans rfl, (blk_cell BK.out 6).trans rfl, (blk_cell BK.out 7).trans rfl⟩ (fun hHeld => ?_)
  clear hK K
  refine norm_ (a' := ?_) ?_ ?_
  rotate_left
  · show Act.put _ (some 66) _ = _
    simp only [Act.put, List.setIfInBounds_toArray, List.set_cons_zero, List.set_cons_succ, i64_w, i32_w]; rfl
  refine one_ (i := 11) (N := some 67) #[true, true, true, true, true, true, true, true, true, true, true, true, true, true, true, false, true, true, true, false] rfl rfl (one_of HT_.out (by kernel_rfl)) (by decide) (fun K hK => ?_)
  refine goes_ Try.func29 (by kernel_rfl) rfl #[.pointer (some ⟨g, 0, none⟩), .int .u8 (bitI un)] (by rfl) rfl rfl (by (try simp only [List.map_toArray, List.map_cons, List.map_nil]); first | done | rfl) ?_
  (with_reducible refine (field_U8.calls (bitI un) g (([] : List Int) ++ bigE 4 1 ++ bigE ls 8 ++ bigE ep 4 ++ bigE o 4 ++ bigE st 1) false w _ (by cases un <;> decide) (by cases un <;> decide) (by simp [bigE]) ?a1 ?a2).mono ?_)
  case a1 => exact HW.out
  case a2 => exact HB.out
  rintro e w10 ⟨rfl, hWR, hBB, hF⟩
  refine ⟨_, rfl, ?_⟩
  have n_BK := Aside0.mk (WF.keep hF BK.out (by decide) HG.out)
  have n_HW := Aside0.mk hWR
  have n_HB := Aside0.mk hBB
  clear hWR hBB hF BK HW HB
  have BK := n_BK
  have HW := n_HW
  have HB := n_HB
  clear n_BK n_HW n_HB
  refine hK.out _ _ ⟨(blk_cell BK.out 3).trans rfl, (blk_cell BK.out 4).trans rfl, (blk_cell BK.out 5).trans rfl, (blk_cell BK.out 6).trans rfl, (blk_cell BK.out 7).trans rfl⟩ (fun hHeld => ?_)
  clear hK K
  refine norm_ (a' := ?_) ?_ ?_
  rotate_left
  · show Act.put _ (some 67) _ = _
    simp only [Act.put, List.setIfInBounds_toArray, List.set_cons_zero, List.set_cons_succ, i64_w, i32_w]; rfl
  refine one_ (i := 15) (N := some 71) #[true, true, true, true, true, true, true, true, true, true, true, true, true, true, true, true, true, true, true, false] rfl rfl (one_of HT_.out (by kernel_rfl)) (by decide) (fun K hK => ?_)
  refine goes_ Try.func29 (by kernel_rfl) rfl #[.pointer (some ⟨g, 0, none⟩), .int .u8 tr] (by rfl) rfl rfl (by (try simp only [List.map_toArray, List.map_cons, List.map_nil]); first | done | rfl) ?_
  (with_reducible refine (field_U8.calls tr g (([] : List Int) ++ bigE 4 1 ++ bigE ls 8 ++ bigE ep 4 ++ bigE o 4 ++ bigE st 1 ++ bigE (bitI un) 1) false w _ Gtr0.out Gtr1.out (by simp [bigE]) ?a1 ?a2).mono ?_)
  case a1 => exact HW.out
  case a2 => exact HB.out
  rintro e w11 ⟨rfl, hWR, hBB, hF⟩
  refine ⟨_, rfl, ?_⟩
  have n_BK := Aside0.mk (WF.keep hF BK.out (by decide) HG.out)
  have n_HW := Aside0.mk hWR
  have n_HB := Aside0.mk hBB
  clear hWR hBB hF BK HW HB
  have BK := n_BK
  have HW := n_HW
  have HB := n_HB
  clear n_BK n_HW n_HB
  refine hK.out _ _ ⟨(blk_cell BK.out 3).trans rfl, (blk_cell BK.out 4).trans rfl, (blk_cell BK.out 5).trans rfl, (blk_cell BK.out 6).trans rfl, (blk_cell BK.out 7).trans rfl⟩ (fun hHeld => ?_)
  clear hK K
  refine norm_ (a' := ?_) ?_ ?_
  rotate_left
  · show Act.put _ (some 71) _ = _
    simp only [Act.put, List.setIfInBounds_toArray, List.set_cons_zero, List.set_cons_succ, i64_w, i32_w]; rfl
  refine one_ (i := 19) (N := some 75) #[true, true, true, true, true, true, true, true, true, true, true, true, true, true, true, true, true, true, true, true] rfl rfl (one_of HT_.out (by kernel_rfl)) (by decide) (fun K hK => ?_)
  refine goes_ Try.func29 (by kernel_rfl) rfl #[.pointer (some ⟨g, 0, none⟩), .int .u8 co] (by rfl) rfl rfl (by (try simp only [List.map_toArray, List.map_cons, List.map_nil]); first | done | rfl) ?_
  (with_reducible refine (field_U8.calls co g (([] : List Int) ++ bigE 4 1 ++ bigE ls 8 ++ bigE ep 4 ++ bigE o 4 ++ bigE st 1 ++ bigE (bitI un) 1 ++ bigE tr 1) false w _ Gco0.out Gco1.out (by simp [bigE]) ?a1 ?a2).mono ?_)
  case a1 => exact HW.out
  case a2 => exact HB.out
  rintro e w12 ⟨rfl, hWR, hBB, hF⟩
  refine ⟨_, rfl, ?_⟩
  have n_BK := Aside0.mk (WF.keep hF BK.out (by decide) HG.out)
  have n_HW := Aside0.mk hWR
  have n_HB := Aside0.mk hBB
  clear hWR hBB hF BK HW HB
  have BK := n_BK
  have HW := n_HW
  have HB := n_HB
  clear n_BK n_HW n_HB
  refine hK.out _ _ ⟨(blk_cell BK.out 3).trans rfl, (blk_cell BK.out 4).trans rfl, (blk_cell BK.out 5).trans rfl, (blk_cell BK.out 6).trans rfl, (blk_cell BK.out 7).trans rfl⟩ (fun hHeld => ?_)
  clear hK K
  refine norm_ (a' := ?_) ?_ ?_
  rotate_left
  · show Act.put _ (some 75) _ = _
    simp only [Act.put, List.setIfInBounds_toArray, List.set_cons_zero, List.set_cons_succ, i64_w, i32_w]; rfl
  refine done_ (done_of HT_.out (by kernel_rfl)) ?_
  clear HT_ HW_ hHeld
  go_wp2_with (first | (go_at_call 34; (with_reducible refine (field_Done.calls g (([] : List Int) ++ bigE 4 1 ++ bigE ls 8 ++ bigE ep 4 ++ bigE o 4 ++ bigE st 1 ++ bigE (bitI un) 1 ++ bigE tr 1 ++ bigE co 1) w _ (by simp [bigE]) (by simp [bigE]) ?a1 ?a2).mono ?_); (case a1 => exact HW.out); (case a2 => exact HB.out); rintro e w44 ⟨v0, rfl, hR, hB3, hB4⟩; have HR := Aside0.mk hR; have HB3 := Aside0.mk hB3; clear hR hB3 hB4))
  refine bodyPost_ret ?_ rfl ⟨v0, rfl, ?_, HB3.out⟩
  · simp [results, Try.results14, go_sem]
  · exact Kd.R_lower HR.out (below_size HB.out)
set_option maxHeartbeats 8000000 in
set_option maxRecDepth 100000 in
theorem put_5 (ls ep o st : Int) (un : Bool) (tr co mk : Int) (A9 : Option Addr) (n9 c9 : Nat) (A10 : Option Addr) (n10 c10 : Nat) (w : World) (hok : entryOk 5 ls ep o st un tr co mk n9 n10 = true) (hls0 : 0 ≤ ls) (hls1 : ls < 18446744073709551616) (hep0 : 0 ≤ ep) (hep1 : ep < 4294967296) (ho0 : 0 ≤ o) (ho1 : o < 4294967296) (hmk0 : 0 ≤ mk) (hmk1 : mk < 18446744073709551616) (hco0 : 0 ≤ co) (hco1 : co < 256) : Calls Try.prog 14 #[.agg #[.int .i64 5, .int .u64 ls, .int .u32 ep, .int .u32 o, .int .i64 st, .bool un, .int .i64 tr, .int .i64 co, .int .u64 mk, .slice A9 n9 c9, .slice A10 n10 c10]] w fun e w' => ∃ v0_ : Value, e = .returned (.tuple #[v0_, .int .i64 0]) ∧ Kd.R (Kd.int .u8) 5 w' w.heap.size (fun _ => True) v0_ (([] : List Int) ++ bigE 5 1 ++ bigE ls 8 ++ bigE ep 4 ++ bigE o 4 ++ bigE co 1) ∧ Below w.heap.size w w' := by
  have Gls0 := Aside0.mk hls0
  have Gls1 := Aside0.mk hls1
  have Gep0 := Aside0.mk hep0
  have Gep1 := Aside0.mk hep1
  have Go0 := Aside0.mk ho0
  have Go1 := Aside0.mk ho1
  have Gmk0 := Aside0.mk hmk0
  have Gmk1 := Aside0.mk hmk1
  have Gco0 := Aside0.mk hco0
  have Gco1 := Aside0.mk hco1
  have fwco : IntKind.u8.wrap co = co := u8_same hco0 hco1
  clear hls0 hls1 hep0 hep1 ho0 ho1 hmk0 hmk1 hco0 hco1
  go_enter Try.func14, Try.ntmps14
  go_wp2_with (first | (go_at_call 15; (with_reducible refine (check_any 5 ls ep o st un tr co mk A9 n9 c9 A10 n10 c10 _).mono ?_); rintro e w1 ⟨rfl, hb⟩; rw [hok, ansE]; have BK := Aside0.mk (blk_below (heap_last _ _) hb); have HB := Aside0.mk (below_step (below_alloc (Below.refl _ _) _) hb); clear hb))
  have n_BK := Aside0.mk (blk_drew BK.out)
  have n_HB := Aside0.mk (below_drew1 HB.out)
  clear BK HB
  have BK := n_BK
  have HB := n_HB
  clear n_BK n_HB
  refine start_ (n := 12) (S := fun w' => w'.cell? ⟨w.heap.size, 0, none⟩ = some (.int .i64 5) ∧ w'.cell? ⟨w.heap.size, 1, none⟩ = some (.int .u64 ls) ∧ w'.cell? ⟨w.heap.size, 2, none⟩ = some (.int .u32 ep)) (ds := []) #[false, false, false, false, false, false, false, false, false, false, false, false] (by kernel_rfl) rfl rfl ⟨(blk_cell BK.out 0).trans rfl, (blk_cell BK.out 1).trans rfl, (blk_cell BK.out 2).trans rfl⟩ (fun hHeld => ?_); refine with_tabW entry_Put.tab4 entry_Put.bits4 (fun HT_ HW_ => ?_)
  generalize w1.drew = wd_ at BK HB hHeld ⊢
  refine pure_ (i := 1) (N := some 12) (v := ?_) (a' := ?_) #[false, true, false, false, false, false, false, false, false, false, false, false] rfl rfl (any_of HT_.out (by kernel_rfl)) (fun _ _ _ h => h) (Or.inl ⟨by rfl, ?_⟩) ?_ ?_
  rotate_left
  · intro w'; go_simp; with_reducible rfl
  rotate_left
  · simp only [Act.put, List.setIfInBounds_toArray, List.set_cons_zero, List.set_cons_succ, i64_w, i32_w]; rfl
  refine take_ (i := 2) (N := some 13) (v := ?_) (a' := ?_) #[false, true, true, false, false, false, false, false, false, false, false, false] rfl rfl (take_ofW HT_.out HW_.out (by kernel_rfl)) (fun _ _ _ h => h) (Or.inl ⟨by rfl, ?_⟩) hHeld ?_ ?_
  rotate_left
  · rintro w' ⟨s0, s1, s2⟩; go_simp; with_reducible rfl
  rotate_left
  · simp only [Act.put, List.setIfInBounds_toArray, List.set_cons_zero, List.set_cons_succ, i64_w, i32_w]; rfl
  refine pure_ (i := 3) (N := some 14) (v := ?_) (a' := ?_) #[false, true, true, true, false, false, false, false, false, false, false, false] rfl rfl (any_of HT_.out (by kernel_rfl)) (fun _ _ _ h => h) (Or.inl ⟨by rfl, ?_⟩) ?_ ?_
  rotate_left
  · intro w'; go_simp; with_reducible rfl
  rotate_left
  · simp only [Act.put, List.setIfInBounds_toArray, List.set_cons_zero, List.set_cons_succ, i64_w, i32_w]; rfl
  refine pure_ (i := 5) (N := some 16) (v := ?_) (a' := ?_) #[false, true, true, true, false, true, false, false, false, false, false, false] rfl rfl (any_of HT_.out (by kernel_rfl)) (fun _ _ _ h => h) (Or.inl ⟨by rfl, ?_⟩) ?_ ?_
  rotate_left
  · intro w'; go_simp; with_reducible rfl
  rotate_left
  · simp only [Act.put, List.setIfInBounds_toArray, List.set_cons_zero, List.set_cons_succ, i64_w, i32_w]; rfl
  refine take_ (i := 6) (N := some 17) (v := ?_) (a' := ?_) #[false, true, true, true, false, true, true, false, false, false, false, false] rfl rfl (take_ofW HT_.out HW_.out (by kernel_rfl)) (fun _ _ _ h => h) (Or.inl ⟨by rfl, ?_⟩) hHeld ?_ ?_
  rotate_left
  · rintro w' ⟨s0, s1, s2⟩; go_simp; with_reducible rfl
  rotate_left
  · simp only [Act.put, List.setIfInBounds_toArray, List.set_cons_zero, List.set_cons_succ, i64_w, i32_w]; rfl
  refine pure_ (i := 8) (N := some 19) (v := ?_) (a' := ?_) #[false, true, true, true, false, true, true, false, true, false, false, false] rfl rfl (any_of HT_.out (by kernel_rfl)) (fun _ _ _ h => h) (Or.inl ⟨by rfl, ?_⟩) ?_ ?_
  rotate_left
  · intro w'; go_simp; with_reducible rfl
  rotate_left
  · simp only [Act.put, List.setIfInBounds_toArray, List.set_cons_zero, List.set_cons_succ, i64_w, i32_w]; rfl
  refine take_ (i := 9) (N := some 20) (v := ?_) (a' := ?_) #[false, true, true, true, false, true, true, false, true, true, false, false] rfl rfl (take_ofW HT_.out HW_.out (by kernel_rfl)) (fun _ _ _ h => h) (Or.inl ⟨by rfl, ?_⟩) hHeld ?_ ?_
  rotate_left
  · rintro w' ⟨s0, s1, s2⟩; go_simp; with_reducible rfl
  rotate_left
  · simp only [Act.put, List.setIfInBounds_toArray, List.set_cons_zero, List.set_cons_succ, i64_w, i32_w]; rfl
  refine one_ (i := 0) (N := some 11) #[true, true, true, true, false, true, true, false, true, true, false, false] rfl rfl (one_of HT_.out (by kernel_rfl)) (by decide) (fun K hK => ?_)
  refine goes_ Try.func28 (by kernel_rfl) rfl #[] (by rfl) rfl rfl (by (try simp only [List.map_toArray, List.map_cons, List.map_nil]); first | done | rfl) ?_
  (with_reducible refine (fieldNewW.calls w _ HB.out).mono ?_)
  rintro e w3 ⟨g, rfl, hWR, hBB, hB2, hgg⟩
  refine ⟨_, rfl, ?_⟩
  have HG := Aside0.mk (show w.heap.size ≠ g by have := blk_lt BK.out; omega)
  have n_BK := Aside0.mk (blk_below BK.out hB2)
  have HW := Aside0.mk hWR
  have n_HB := Aside0.mk hBB
  clear hWR hBB hB2 hgg BK HB
  have BK := n_BK
  have HB := n_HB
  clear n_BK n_HB
  refine hK.out _ _ ⟨(blk_cell BK.out 0).trans rfl, (blk_cell BK.out 1).trans rfl, (blk_cell BK.out 2).trans rfl⟩ (fun hHeld => ?_)
  clear hK K
  refine norm_ (a' := ?_) ?_ ?_
  rotate_left
  · show Act.put _ (some 11) _ = _
    simp only [Act.put, List.setIfInBounds_toArray, List.set_cons_zero, List.set_cons_succ, i64_w, i32_w]; rfl
  refine one_ (i := 4) (N := some 15) #[true, true, true, true, true, true, true, false, true, true, false, false] rfl rfl (one_of HT_.out (by kernel_rfl)) (by decide) (fun K hK => ?_)
  refine goes_ Try.func29 (by kernel_rfl) rfl #[.pointer (some ⟨g, 0, none⟩), .int .u8 5] (by rfl) rfl rfl (by (try simp only [List.map_toArray, List.map_cons, List.map_nil]); first | done | rfl) ?_
  (with_reducible refine (field_U8.calls 5 g (([] : List Int)) false w _ (by decide) (by decide) (by simp [bigE]) ?a1 ?a2).mono ?_)
  case a1 => exact HW.out
  case a2 => exact HB.out
  rintro e w4 ⟨rfl, hWR, hBB, hF⟩
  refine ⟨_, rfl, ?_⟩
  have n_BK := Aside0.mk (WF.keep hF BK.out (by decide) HG.out)
  have n_HW := Aside0.mk hWR
  have n_HB := Aside0.mk hBB
  clear hWR hBB hF BK HW HB
  have BK := n_BK
  have HW := n_HW
  have HB := n_HB
  clear n_BK n_HW n_HB
  refine hK.out _ _ ⟨(blk_cell BK.out 0).trans rfl, (blk_cell BK.out 1).trans rfl, (blk_cell BK.out 2).trans rfl⟩ (fun hHeld => ?_)
  clear hK K
  refine norm_ (a' := ?_) ?_ ?_
  rotate_left
  · show Act.put _ (some 15) _ = _
    simp only [Act.put, List.setIfInBounds_toArray, List.set_cons_zero, List.set_cons_succ, i64_w, i32_w]; rfl
  refine one_ (i := 7) (N := some 18) #[true, true, true, true, true, true, true, true, true, true, false, false] rfl rfl (one_of HT_.out (by kernel_rfl)) (by decide) (fun K hK => ?_)
  refine goes_ Try.func30 (by kernel_rfl) rfl #[.pointer (some ⟨g, 0, none⟩), .int .u64 ls] (by rfl) rfl rfl (by (try simp only [List.map_toArray, List.map_cons, List.map_nil]); first | done | rfl) ?_
  (with_reducible refine (field_U64.calls ls g (([] : List Int) ++ bigE 5 1) false w _ Gls0.out Gls1.out (by simp [bigE]) ?a1 ?a2).mono ?_)
  case a1 => exact HW.out
  case a2 => exact HB.out
  rintro e w5 ⟨rfl, hWR, hBB, hF⟩
  refine ⟨_, rfl, ?_⟩
  have n_BK := Aside0.mk (WF.keep hF BK.out (by decide) HG.out)
  have n_HW := Aside0.mk hWR
  have n_HB := Aside0.mk hBB
  clear hWR hBB hF BK HW HB
  have BK := n_BK
  have HW := n_HW
  have HB := n_HB
  clear n_BK n_HW n_HB
  refine hK.out _ _ ⟨(blk_cell BK.out 0).trans rfl, (blk_cell BK.out 1).trans rfl, (blk_cell BK.out 2).trans rfl⟩ (fun hHeld => ?_)
  clear hK K
  refine norm_ (a' := ?_) ?_ ?_
  rotate_left
  · show Act.put _ (some 18) _ = _
    simp only [Act.put, List.setIfInBounds_toArray, List.set_cons_zero, List.set_cons_succ, i64_w, i32_w]; rfl
  refine one_ (i := 10) (N := some 21) #[true, true, true, true, true, true, true, true, true, true, true, false] rfl rfl (one_of HT_.out (by kernel_rfl)) (by decide) (fun K hK => ?_)
  refine goes_ Try.func31 (by kernel_rfl) rfl #[.pointer (some ⟨g, 0, none⟩), .int .u32 ep] (by rfl) rfl rfl (by (try simp only [List.map_toArray, List.map_cons, List.map_nil]); first | done | rfl) ?_
  (with_reducible refine (field_U32.calls ep g (([] : List Int) ++ bigE 5 1 ++ bigE ls 8) false w _ Gep0.out Gep1.out (by simp [bigE]) ?a1 ?a2).mono ?_)
  case a1 => exact HW.out
  case a2 => exact HB.out
  rintro e w6 ⟨rfl, hWR, hBB, hF⟩
  refine ⟨_, rfl, ?_⟩
  have n_BK := Aside0.mk (WF.keep hF BK.out (by decide) HG.out)
  have n_HW := Aside0.mk hWR
  have n_HB := Aside0.mk hBB
  clear hWR hBB hF BK HW HB
  have BK := n_BK
  have HW := n_HW
  have HB := n_HB
  clear n_BK n_HW n_HB
  refine hK.out _ _ ⟨(blk_cell BK.out 0).trans rfl, (blk_cell BK.out 1).trans rfl, (blk_cell BK.out 2).trans rfl⟩ (fun hHeld => ?_)
  clear hK K
  refine norm_ (a' := ?_) ?_ ?_
  rotate_left
  · show Act.put _ (some 21) _ = _
    simp only [Act.put, List.setIfInBounds_toArray, List.set_cons_zero, List.set_cons_succ, i64_w, i32_w]; rfl
  refine pure_ (i := 11) (N := some 5) (v := ?_) (a' := ?_) #[true, true, true, true, true, true, true, true, true, true, true, true] rfl rfl (any_of HT_.out (by kernel_rfl)) (fun _ _ _ h => h) (Or.inl ⟨by rfl, ?_⟩) ?_ ?_
  rotate_left
  · intro w'; go_simp; with_reducible rfl
  rotate_left
  · simp only [Act.put, List.setIfInBounds_toArray, List.set_cons_zero, List.set_cons_succ, i64_w, i32_w]; rfl
  refine done_ (done_of HT_.out (by kernel_rfl)) ?_
  clear HT_ HW_ hHeld
  have hk0 := (blk_cell BK.out 0).trans rfl
  have hkf := blk_frozen BK.out 0
  have hkl := blk_lt BK.out
  go_upto_region 13 with (fail)
  clear hk0 hkf hkl
  have n_BK := Aside0.mk (blk_drew BK.out)
  have n_HB := Aside0.mk (below_drew1 HB.out)
  have n_HW := Aside0.mk (WR.drew HW.out)
  clear BK HB HW
  have BK := n_BK
  have HB := n_HB
  have HW := n_HW
  clear n_BK n_HB n_HW
  refine start_ (n := 8) (S := fun w' => w'.cell? ⟨w.heap.size, 3, none⟩ = some (.int .u32 o) ∧ w'.cell? ⟨w.heap.size, 7, none⟩ = some (.int .i64 co)) (ds := []) #[false, false, false, false, false, false, false, false] (by kernel_rfl) rfl rfl ⟨(blk_cell BK.out 3).trans rfl, (blk_cell BK.out 7).trans rfl⟩ (fun hHeld => ?_); refine with_tabW entry_Put.tab13 entry_Put.bits13 (fun HT_ HW_ => ?_)
  generalize w6.drew = wd_ at BK HB HW hHeld ⊢
  refine pure_ (i := 0) (N := some 78) (v := ?_) (a' := ?_) #[true, false, false, false, false, false, false, false] rfl rfl (any_of HT_.out (by kernel_rfl)) (fun _ _ _ h => h) (Or.inl ⟨by rfl, ?_⟩) ?_ ?_
  rotate_left
  · intro w'; go_simp; with_reducible rfl
  rotate_left
  · simp only [Act.put, List.setIfInBounds_toArray, List.set_cons_zero, List.set_cons_succ, i64_w, i32_w]; rfl
  refine pure_ (i := 1) (N := some 79) (v := ?_) (a' := ?_) #[true, true, false, false, false, false, false, false] rfl rfl (any_of HT_.out (by kernel_rfl)) (fun _ _ _ h => h) (Or.inl ⟨by rfl, ?_⟩) ?_ ?_
  rotate_left
  · intro w'; go_simp; with_reducible rfl
  rotate_left
  · simp only [Act.put, List.setIfInBounds_toArray, List.set_cons_zero, List.set_cons_succ, i64_w, i32_w]; rfl
  refine take_ (i := 2) (N := some 80) (v := ?_) (a' := ?_) #[true, true, true, false, false, false, false, false] rfl rfl (take_ofW HT_.out HW_.out (by kernel_rfl)) (fun _ _ _ h => h) (Or.inl ⟨by rfl, ?_⟩) hHeld ?_ ?_
  rotate_left
  · rintro w' ⟨s0, s1⟩; go_simp; with_reducible rfl
  rotate_left
  · simp only [Act.put, List.setIfInBounds_toArray, List.set_cons_zero, List.set_cons_succ, i64_w, i32_w]; rfl
  refine pure_ (i := 4) (N := some 82) (v := ?_) (a' := ?_) #[true, true, true, false, true, false, false, false] rfl rfl (any_of HT_.out (by kernel_rfl)) (fun _ _ _ h => h) (Or.inl ⟨by rfl, ?_⟩) ?_ ?_
  rotate_left
  · intro w'; go_simp; with_reducible rfl
  rotate_left
  · simp only [Act.put, List.setIfInBounds_toArray, List.set_cons_zero, List.set_cons_succ, i64_w, i32_w]; rfl
  refine take_ (i := 5) (N := some 83) (v := ?_) (a' := ?_) #[true, true, true, false, true, true, false, false] rfl rfl (take_ofW HT_.out HW_.out (by kernel_rfl)) (fun _ _ _ h => h) (Or.inl ⟨by rfl, ?_⟩) hHeld ?_ ?_
  rotate_left
  · rintro w' ⟨s0, s1⟩; go_simp; with_reducible rfl
  rotate_left
  · simp only [Act.put, List.setIfInBounds_toArray, List.set_cons_zero, List.set_cons_succ, i64_w, i32_w]; rfl
  refine pure_ (i := 6) (N := some 84) (v := ?_) (a' := ?_) #[true, true, true, false, true, true, true, false] rfl rfl (any_of HT_.out (by kernel_rfl)) (fun _ _ _ h => h) (Or.inl ⟨by rfl, ?_⟩) ?_ ?_
  rotate_left
  · intro w'; go_simp; with_reducible rfl
  rotate_left
  · simp only [Act.put, List.setIfInBounds_toArray, List.set_cons_zero, List.set_cons_succ, i64_w, i32_w]; rfl
  refine one_ (i := 3) (N := some 81) #[true, true, true, true, true, true, true, false] rfl rfl (one_of HT_.out (by kernel_rfl)) (by decide) (fun K hK => ?_)
  refine goes_ Try.func31 (by kernel_rfl) rfl #[.pointer (some ⟨g, 0, none⟩), .int .u32 o] (by rfl) rfl rfl (by (try simp only [List.map_toArray, List.map_cons, List.map_nil]); first | done | rfl) ?_
  (with_reducible refine (field_U32.calls o g (([] : List Int) ++ bigE 5 1 ++ bigE ls 8 ++ bigE ep 4) false w _ Go0.out Go1.out (by simp [bigE]) ?a1 ?a2).mono ?_)
  case a1 => exact HW.out
  case a2 => exact HB.out
  rintro e w7 ⟨rfl, hWR, hBB, hF⟩
  refine ⟨_, rfl, ?_⟩
  have n_BK := Aside0.mk (WF.keep hF BK.out (by decide) HG.out)
  have n_HW := Aside0.mk hWR
  have n_HB := Aside0.mk hBB
  clear hWR hBB hF BK HW HB
  have BK := n_BK
  have HW := n_HW
  have HB := n_HB
  clear n_BK n_HW n_HB
  refine hK.out _ _ ⟨(blk_cell BK.out 3).trans rfl, (blk_cell BK.out 7).trans rfl⟩ (fun hHeld => ?_)
  clear hK K
  refine norm_ (a' := ?_) ?_ ?_
  rotate_left
  · show Act.put _ (some 81) _ = _
    simp only [Act.put, List.setIfInBounds_toArray, List.set_cons_zero, List.set_cons_succ, i64_w, i32_w]; rfl
  refine one_ (i := 7) (N := some 85) #[true, true, true, true, true, true, true, true] rfl rfl (one_of HT_.out (by kernel_rfl)) (by decide) (fun K hK => ?_)
  refine goes_ Try.func29 (by kernel_rfl) rfl #[.pointer (some ⟨g, 0, none⟩), .int .u8 co] (by rfl) rfl rfl (by (try simp only [List.map_toArray, List.map_cons, List.map_nil]); first | done | rfl) ?_
  (with_reducible refine (field_U8.calls co g (([] : List Int) ++ bigE 5 1 ++ bigE ls 8 ++ bigE ep 4 ++ bigE o 4) false w _ Gco0.out Gco1.out (by simp [bigE]) ?a1 ?a2).mono ?_)
  case a1 => exact HW.out
  case a2 => exact HB.out
  rintro e w8 ⟨rfl, hWR, hBB, hF⟩
  refine ⟨_, rfl, ?_⟩
  have n_BK := Aside0.mk (WF.keep hF BK.out (by decide) HG.out)
  have n_HW := Aside0.mk hWR
  have n_HB := Aside0.mk hBB
  clear hWR hBB hF BK HW HB
  have BK := n_BK
  have HW := n_HW
  have HB := n_HB
  clear n_BK n_HW n_HB
  refine hK.out _ _ ⟨(blk_cell BK.out 3).trans rfl, (blk_cell BK.out 7).trans rfl⟩ (fun hHeld => ?_)
  clear hK K
  refine norm_ (a' := ?_) ?_ ?_
  rotate_left
  · show Act.put _ (some 85) _ = _
    simp only [Act.put, List.setIfInBounds_toArray, List.set_cons_zero, List.set_cons_succ, i64_w, i32_w]; rfl
  refine done_ (done_of HT_.out (by kernel_rfl)) ?_
  clear HT_ HW_ hHeld
  go_wp2_with (first | (go_at_call 34; (with_reducible refine (field_Done.calls g (([] : List Int) ++ bigE 5 1 ++ bigE ls 8 ++ bigE ep 4 ++ bigE o 4 ++ bigE co 1) w _ (by simp [bigE]) (by simp [bigE]) ?a1 ?a2).mono ?_); (case a1 => exact HW.out); (case a2 => exact HB.out); rintro e w44 ⟨v0, rfl, hR, hB3, hB4⟩; have HR := Aside0.mk hR; have HB3 := Aside0.mk hB3; clear hR hB3 hB4))
  refine bodyPost_ret ?_ rfl ⟨v0, rfl, ?_, HB3.out⟩
  · simp [results, Try.results14, go_sem]
  · exact Kd.R_lower HR.out (below_size HB.out)
set_option maxHeartbeats 8000000 in
set_option maxRecDepth 100000 in
theorem put_6 (ls ep o st : Int) (un : Bool) (tr co mk : Int) (A9 : Option Addr) (n9 c9 : Nat) (A10 : Option Addr) (n10 c10 : Nat) (w : World) (hok : entryOk 6 ls ep o st un tr co mk n9 n10 = true) (hls0 : 0 ≤ ls) (hls1 : ls < 18446744073709551616) (hep0 : 0 ≤ ep) (hep1 : ep < 4294967296) (ho0 : 0 ≤ o) (ho1 : o < 4294967296) (hmk0 : 0 ≤ mk) (hmk1 : mk < 18446744073709551616) (hco0 : 0 ≤ co) (hco1 : co < 256) : Calls Try.prog 14 #[.agg #[.int .i64 6, .int .u64 ls, .int .u32 ep, .int .u32 o, .int .i64 st, .bool un, .int .i64 tr, .int .i64 co, .int .u64 mk, .slice A9 n9 c9, .slice A10 n10 c10]] w fun e w' => ∃ v0_ : Value, e = .returned (.tuple #[v0_, .int .i64 0]) ∧ Kd.R (Kd.int .u8) 5 w' w.heap.size (fun _ => True) v0_ (([] : List Int) ++ bigE 6 1 ++ bigE ls 8 ++ bigE ep 4 ++ bigE co 1) ∧ Below w.heap.size w w' := by
  have Gls0 := Aside0.mk hls0
  have Gls1 := Aside0.mk hls1
  have Gep0 := Aside0.mk hep0
  have Gep1 := Aside0.mk hep1
  have Go0 := Aside0.mk ho0
  have Go1 := Aside0.mk ho1
  have Gmk0 := Aside0.mk hmk0
  have Gmk1 := Aside0.mk hmk1
  have Gco0 := Aside0.mk hco0
  have Gco1 := Aside0.mk hco1
  have fwco : IntKind.u8.wrap co = co := u8_same hco0 hco1
  clear hls0 hls1 hep0 hep1 ho0 ho1 hmk0 hmk1 hco0 hco1
  go_enter Try.func14, Try.ntmps14
  go_wp2_with (first | (go_at_call 15; (with_reducible refine (check_any 6 ls ep o st un tr co mk A9 n9 c9 A10 n10 c10 _).mono ?_); rintro e w1 ⟨rfl, hb⟩; rw [hok, ansE]; have BK := Aside0.mk (blk_below (heap_last _ _) hb); have HB := Aside0.mk (below_step (below_alloc (Below.refl _ _) _) hb); clear hb))
  have n_BK := Aside0.mk (blk_drew BK.out)
  have n_HB := Aside0.mk (below_drew1 HB.out)
  clear BK HB
  have BK := n_BK
  have HB := n_HB
  clear n_BK n_HB
  refine start_ (n := 12) (S := fun w' => w'.cell? ⟨w.heap.size, 0, none⟩ = some (.int .i64 6) ∧ w'.cell? ⟨w.heap.size, 1, none⟩ = some (.int .u64 ls) ∧ w'.cell? ⟨w.heap.size, 2, none⟩ = some (.int .u32 ep)) (ds := []) #[false, false, false, false, false, false, false, false, false, false, false, false] (by kernel_rfl) rfl rfl ⟨(blk_cell BK.out 0).trans rfl, (blk_cell BK.out 1).trans rfl, (blk_cell BK.out 2).trans rfl⟩ (fun hHeld => ?_); refine with_tabW entry_Put.tab4 entry_Put.bits4 (fun HT_ HW_ => ?_)
  generalize w1.drew = wd_ at BK HB hHeld ⊢
  refine pure_ (i := 1) (N := some 12) (v := ?_) (a' := ?_) #[false, true, false, false, false, false, false, false, false, false, false, false] rfl rfl (any_of HT_.out (by kernel_rfl)) (fun _ _ _ h => h) (Or.inl ⟨by rfl, ?_⟩) ?_ ?_
  rotate_left
  · intro w'; go_simp; with_reducible rfl
  rotate_left
  · simp only [Act.put, List.setIfInBounds_toArray, List.set_cons_zero, List.set_cons_succ, i64_w, i32_w]; rfl
  refine take_ (i := 2) (N := some 13) (v := ?_) (a' := ?_) #[false, true, true, false, false, false, false, false, false, false, false, false] rfl rfl (take_ofW HT_.out HW_.out (by kernel_rfl)) (fun _ _ _ h => h) (Or.inl ⟨by rfl, ?_⟩) hHeld ?_ ?_
  rotate_left
  · rintro w' ⟨s0, s1, s2⟩; go_simp; with_reducible rfl
  rotate_left
  · simp only [Act.put, List.setIfInBounds_toArray, List.set_cons_zero, List.set_cons_succ, i64_w, i32_w]; rfl
  refine pure_ (i := 3) (N := some 14) (v := ?_) (a' := ?_) #[false, true, true, true, false, false, false, false, false, false, false, false] rfl rfl (any_of HT_.out (by kernel_rfl)) (fun _ _ _ h => h) (Or.inl ⟨by rfl, ?_⟩) ?_ ?_
  rotate_left
  · intro w'; go_simp; with_reducible rfl
  rotate_left
  · simp only [Act.put, List.setIfInBounds_toArray, List.set_cons_zero, List.set_cons_succ, i64_w, i32_w]; rfl
  refine pure_ (i := 5) (N := some 16) (v := ?_) (a' := ?_) #[false, true, true, true, false, true, false, false, false, false, false, false] rfl rfl (any_of HT_.out (by kernel_rfl)) (fun _ _ _ h => h) (Or.inl ⟨by rfl, ?_⟩) ?_ ?_
  rotate_left
  · intro w'; go_simp; with_reducible rfl
  rotate_left
  · simp only [Act.put, List.setIfInBounds_toArray, List.set_cons_zero, List.set_cons_succ, i64_w, i32_w]; rfl
  refine take_ (i := 6) (N := some 17) (v := ?_) (a' := ?_) #[false, true, true, true, false, true, true, false, false, false, false, false] rfl rfl (take_ofW HT_.out HW_.out (by kernel_rfl)) (fun _ _ _ h => h) (Or.inl ⟨by rfl, ?_⟩) hHeld ?_ ?_
  rotate_left
  · rintro w' ⟨s0, s1, s2⟩; go_simp; with_reducible rfl
  rotate_left
  · simp only [Act.put, List.setIfInBounds_toArray, List.set_cons_zero, List.set_cons_succ, i64_w, i32_w]; rfl
  refine pure_ (i := 8) (N := some 19) (v := ?_) (a' := ?_) #[false, true, true, true, false, true, true, false, true, false, false, false] rfl rfl (any_of HT_.out (by kernel_rfl)) (fun _ _ _ h => h) (Or.inl ⟨by rfl, ?_⟩) ?_ ?_
  rotate_left
  · intro w'; go_simp; with_reducible rfl
  rotate_left
  · simp only [Act.put, List.setIfInBounds_toArray, List.set_cons_zero, List.set_cons_succ, i64_w, i32_w]; rfl
  refine take_ (i := 9) (N := some 20) (v := ?_) (a' := ?_) #[false, true, true, true, false, true, true, false, true, true, false, false] rfl rfl (take_ofW HT_.out HW_.out (by kernel_rfl)) (fun _ _ _ h => h) (Or.inl ⟨by rfl, ?_⟩) hHeld ?_ ?_
  rotate_left
  · rintro w' ⟨s0, s1, s2⟩; go_simp; with_reducible rfl
  rotate_left
  · simp only [Act.put, List.setIfInBounds_toArray, List.set_cons_zero, List.set_cons_succ, i64_w, i32_w]; rfl
  refine one_ (i := 0) (N := some 11) #[true, true, true, true, false, true, true, false, true, true, false, false] rfl rfl (one_of HT_.out (by kernel_rfl)) (by decide) (fun K hK => ?_)
  refine goes_ Try.func28 (by kernel_rfl) rfl #[] (by rfl) rfl rfl (by (try simp only [List.map_toArray, List.map_cons, List.map_nil]); first | done | rfl) ?_
  (with_reducible refine (fieldNewW.calls w _ HB.out).mono ?_)
  rintro e w3 ⟨g, rfl, hWR, hBB, hB2, hgg⟩
  refine ⟨_, rfl, ?_⟩
  have HG := Aside0.mk (show w.heap.size ≠ g by have := blk_lt BK.out; omega)
  have n_BK := Aside0.mk (blk_below BK.out hB2)
  have HW := Aside0.mk hWR
  have n_HB := Aside0.mk hBB
  clear hWR hBB hB2 hgg BK HB
  have BK := n_BK
  have HB := n_HB
  clear n_BK n_HB
  refine hK.out _ _ ⟨(blk_cell BK.out 0).trans rfl, (blk_cell BK.out 1).trans rfl, (blk_cell BK.out 2).trans rfl⟩ (fun hHeld => ?_)
  clear hK K
  refine norm_ (a' := ?_) ?_ ?_
  rotate_left
  · show Act.put _ (some 11) _ = _
    simp only [Act.put, List.setIfInBounds_toArray, List.set_cons_zero, List.set_cons_succ, i64_w, i32_w]; rfl
  refine one_ (i := 4) (N := some 15) #[true, true, true, true, true, true, true, false, true, true, false, false] rfl rfl (one_of HT_.out (by kernel_rfl)) (by decide) (fun K hK => ?_)
  refine goes_ Try.func29 (by kernel_rfl) rfl #[.pointer (some ⟨g, 0, none⟩), .int .u8 6] (by rfl) rfl rfl (by (try simp only [List.map_toArray, List.map_cons, List.map_nil]); first | done | rfl) ?_
  (with_reducible refine (field_U8.calls 6 g (([] : List Int)) false w _ (by decide) (by decide) (by simp [bigE]) ?a1 ?a2).mono ?_)
  case a1 => exact HW.out
  case a2 => exact HB.out
  rintro e w4 ⟨rfl, hWR, hBB, hF⟩
  refine ⟨_, rfl, ?_⟩
  have n_BK := Aside0.mk (WF.keep hF BK.out (by decide) HG.out)
  have n_HW := Aside0.mk hWR
  have n_HB := Aside0.mk hBB
  clear hWR hBB hF BK HW HB
  have BK := n_BK
  have HW := n_HW
  have HB := n_HB
  clear n_BK n_HW n_HB
  refine hK.out _ _ ⟨(blk_cell BK.out 0).trans rfl, (blk_cell BK.out 1).trans rfl, (blk_cell BK.out 2).trans rfl⟩ (fun hHeld => ?_)
  clear hK K
  refine norm_ (a' := ?_) ?_ ?_
  rotate_left
  · show Act.put _ (some 15) _ = _
    simp only [Act.put, List.setIfInBounds_toArray, List.set_cons_zero, List.set_cons_succ, i64_w, i32_w]; rfl
  refine one_ (i := 7) (N := some 18) #[true, true, true, true, true, true, true, true, true, true, false, false] rfl rfl (one_of HT_.out (by kernel_rfl)) (by decide) (fun K hK => ?_)
  refine goes_ Try.func30 (by kernel_rfl) rfl #[.pointer (some ⟨g, 0, none⟩), .int .u64 ls] (by rfl) rfl rfl (by (try simp only [List.map_toArray, List.map_cons, List.map_nil]); first | done | rfl) ?_
  (with_reducible refine (field_U64.calls ls g (([] : List Int) ++ bigE 6 1) false w _ Gls0.out Gls1.out (by simp [bigE]) ?a1 ?a2).mono ?_)
  case a1 => exact HW.out
  case a2 => exact HB.out
  rintro e w5 ⟨rfl, hWR, hBB, hF⟩
  refine ⟨_, rfl, ?_⟩
  have n_BK := Aside0.mk (WF.keep hF BK.out (by decide) HG.out)
  have n_HW := Aside0.mk hWR
  have n_HB := Aside0.mk hBB
  clear hWR hBB hF BK HW HB
  have BK := n_BK
  have HW := n_HW
  have HB := n_HB
  clear n_BK n_HW n_HB
  refine hK.out _ _ ⟨(blk_cell BK.out 0).trans rfl, (blk_cell BK.out 1).trans rfl, (blk_cell BK.out 2).trans rfl⟩ (fun hHeld => ?_)
  clear hK K
  refine norm_ (a' := ?_) ?_ ?_
  rotate_left
  · show Act.put _ (some 18) _ = _
    simp only [Act.put, List.setIfInBounds_toArray, List.set_cons_zero, List.set_cons_succ, i64_w, i32_w]; rfl
  refine one_ (i := 10) (N := some 21) #[true, true, true, true, true, true, true, true, true, true, true, false] rfl rfl (one_of HT_.out (by kernel_rfl)) (by decide) (fun K hK => ?_)
  refine goes_ Try.func31 (by kernel_rfl) rfl #[.pointer (some ⟨g, 0, none⟩), .int .u32 ep] (by rfl) rfl rfl (by (try simp only [List.map_toArray, List.map_cons, List.map_nil]); first | done | rfl) ?_
  (with_reducible refine (field_U32.calls ep g (([] : List Int) ++ bigE 6 1 ++ bigE ls 8) false w _ Gep0.out Gep1.out (by simp [bigE]) ?a1 ?a2).mono ?_)
  case a1 => exact HW.out
  case a2 => exact HB.out
  rintro e w6 ⟨rfl, hWR, hBB, hF⟩
  refine ⟨_, rfl, ?_⟩
  have n_BK := Aside0.mk (WF.keep hF BK.out (by decide) HG.out)
  have n_HW := Aside0.mk hWR
  have n_HB := Aside0.mk hBB
  clear hWR hBB hF BK HW HB
  have BK := n_BK
  have HW := n_HW
  have HB := n_HB
  clear n_BK n_HW n_HB
  refine hK.out _ _ ⟨(blk_cell BK.out 0).trans rfl, (blk_cell BK.out 1).trans rfl, (blk_cell BK.out 2).trans rfl⟩ (fun hHeld => ?_)
  clear hK K
  refine norm_ (a' := ?_) ?_ ?_
  rotate_left
  · show Act.put _ (some 21) _ = _
    simp only [Act.put, List.setIfInBounds_toArray, List.set_cons_zero, List.set_cons_succ, i64_w, i32_w]; rfl
  refine pure_ (i := 11) (N := some 5) (v := ?_) (a' := ?_) #[true, true, true, true, true, true, true, true, true, true, true, true] rfl rfl (any_of HT_.out (by kernel_rfl)) (fun _ _ _ h => h) (Or.inl ⟨by rfl, ?_⟩) ?_ ?_
  rotate_left
  · intro w'; go_simp; with_reducible rfl
  rotate_left
  · simp only [Act.put, List.setIfInBounds_toArray, List.set_cons_zero, List.set_cons_succ, i64_w, i32_w]; rfl
  refine done_ (done_of HT_.out (by kernel_rfl)) ?_
  clear HT_ HW_ hHeld
  have hk0 := (blk_cell BK.out 0).trans rfl
  have hkf := blk_frozen BK.out 0
  have hkl := blk_lt BK.out
  have hk1 : w6.cell? ⟨w.heap.size, 7, none⟩ = some (.int .i64 co) := (blk_cell BK.out 7).trans rfl
  go_wp2_with (first | (go_at_call 29; (with_reducible refine (field_U8.calls co g (([] : List Int) ++ bigE 6 1 ++ bigE ls 8 ++ bigE ep 4) false w _ Gco0.out Gco1.out (by simp [bigE]) ?a1 ?a2).mono ?_); (case a1 => exact HW.out); (case a2 => exact HB.out); rintro e w33 ⟨rfl, hWR, hBB, hF⟩; have n_HW := Aside0.mk hWR; have n_HB := Aside0.mk hBB; clear hWR hBB hF HW HB; have HW := n_HW; have HB := n_HB; clear n_HW n_HB) | (go_at_call 34; (with_reducible refine (field_Done.calls g (([] : List Int) ++ bigE 6 1 ++ bigE ls 8 ++ bigE ep 4 ++ bigE co 1) w _ (by simp [bigE]) (by simp [bigE]) ?a1 ?a2).mono ?_); (case a1 => exact HW.out); (case a2 => exact HB.out); rintro e w44 ⟨v0, rfl, hR, hB3, hB4⟩; have HR := Aside0.mk hR; have HB3 := Aside0.mk hB3; clear hR hB3 hB4))
  refine bodyPost_ret ?_ rfl ⟨v0, rfl, ?_, HB3.out⟩
  · simp [results, Try.results14, go_sem]
  · exact Kd.R_lower HR.out (below_size HB.out)
set_option maxHeartbeats 8000000 in
set_option maxRecDepth 100000 in
theorem put_7 (ls ep o st : Int) (un : Bool) (tr co mk : Int) (A9 : Option Addr) (n9 c9 : Nat) (A10 : Option Addr) (n10 c10 : Nat) (w : World) (hok : entryOk 7 ls ep o st un tr co mk n9 n10 = true) (hls0 : 0 ≤ ls) (hls1 : ls < 18446744073709551616) (hep0 : 0 ≤ ep) (hep1 : ep < 4294967296) (ho0 : 0 ≤ o) (ho1 : o < 4294967296) (hmk0 : 0 ≤ mk) (hmk1 : mk < 18446744073709551616) : Calls Try.prog 14 #[.agg #[.int .i64 7, .int .u64 ls, .int .u32 ep, .int .u32 o, .int .i64 st, .bool un, .int .i64 tr, .int .i64 co, .int .u64 mk, .slice A9 n9 c9, .slice A10 n10 c10]] w fun e w' => ∃ v0_ : Value, e = .returned (.tuple #[v0_, .int .i64 0]) ∧ Kd.R (Kd.int .u8) 5 w' w.heap.size (fun _ => True) v0_ (([] : List Int) ++ bigE 7 1 ++ bigE ls 8 ++ bigE ep 4 ++ bigE mk 8) ∧ Below w.heap.size w w' := by
  have Gls0 := Aside0.mk hls0
  have Gls1 := Aside0.mk hls1
  have Gep0 := Aside0.mk hep0
  have Gep1 := Aside0.mk hep1
  have Go0 := Aside0.mk ho0
  have Go1 := Aside0.mk ho1
  have Gmk0 := Aside0.mk hmk0
  have Gmk1 := Aside0.mk hmk1
  clear hls0 hls1 hep0 hep1 ho0 ho1 hmk0 hmk1
  go_enter Try.func14, Try.ntmps14
  go_wp2_with (first | (go_at_call 15; (with_reducible refine (check_any 7 ls ep o st un tr co mk A9 n9 c9 A10 n10 c10 _).mono ?_); rintro e w1 ⟨rfl, hb⟩; rw [hok, ansE]; have BK := Aside0.mk (blk_below (heap_last _ _) hb); have HB := Aside0.mk (below_step (below_alloc (Below.refl _ _) _) hb); clear hb))
  have n_BK := Aside0.mk (blk_drew BK.out)
  have n_HB := Aside0.mk (below_drew1 HB.out)
  clear BK HB
  have BK := n_BK
  have HB := n_HB
  clear n_BK n_HB
  refine start_ (n := 12) (S := fun w' => w'.cell? ⟨w.heap.size, 0, none⟩ = some (.int .i64 7) ∧ w'.cell? ⟨w.heap.size, 1, none⟩ = some (.int .u64 ls) ∧ w'.cell? ⟨w.heap.size, 2, none⟩ = some (.int .u32 ep)) (ds := []) #[false, false, false, false, false, false, false, false, false, false, false, false] (by kernel_rfl) rfl rfl ⟨(blk_cell BK.out 0).trans rfl, (blk_cell BK.out 1).trans rfl, (blk_cell BK.out 2).trans rfl⟩ (fun hHeld => ?_); refine with_tabW entry_Put.tab4 entry_Put.bits4 (fun HT_ HW_ => ?_)
  generalize w1.drew = wd_ at BK HB hHeld ⊢
  refine pure_ (i := 1) (N := some 12) (v := ?_) (a' := ?_) #[false, true, false, false, false, false, false, false, false, false, false, false] rfl rfl (any_of HT_.out (by kernel_rfl)) (fun _ _ _ h => h) (Or.inl ⟨by rfl, ?_⟩) ?_ ?_
  rotate_left
  · intro w'; go_simp; with_reducible rfl
  rotate_left
  · simp only [Act.put, List.setIfInBounds_toArray, List.set_cons_zero, List.set_cons_succ, i64_w, i32_w]; rfl
  refine take_ (i := 2) (N := some 13) (v := ?_) (a' := ?_) #[false, true, true, false, false, false, false, false, false, false, false, false] rfl rfl (take_ofW HT_.out HW_.out (by kernel_rfl)) (fun _ _ _ h => h) (Or.inl ⟨by rfl, ?_⟩) hHeld ?_ ?_
  rotate_left
  · rintro w' ⟨s0, s1, s2⟩; go_simp; with_reducible rfl
  rotate_left
  · simp only [Act.put, List.setIfInBounds_toArray, List.set_cons_zero, List.set_cons_succ, i64_w, i32_w]; rfl
  refine pure_ (i := 3) (N := some 14) (v := ?_) (a' := ?_) #[false, true, true, true, false, false, false, false, false, false, false, false] rfl rfl (any_of HT_.out (by kernel_rfl)) (fun _ _ _ h => h) (Or.inl ⟨by rfl, ?_⟩) ?_ ?_
  rotate_left
  · intro w'; go_simp; with_reducible rfl
  rotate_left
  · simp only [Act.put, List.setIfInBounds_toArray, List.set_cons_zero, List.set_cons_succ, i64_w, i32_w]; rfl
  refine pure_ (i := 5) (N := some 16) (v := ?_) (a' := ?_) #[false, true, true, true, false, true, false, false, false, false, false, false] rfl rfl (any_of HT_.out (by kernel_rfl)) (fun _ _ _ h => h) (Or.inl ⟨by rfl, ?_⟩) ?_ ?_
  rotate_left
  · intro w'; go_simp; with_reducible rfl
  rotate_left
  · simp only [Act.put, List.setIfInBounds_toArray, List.set_cons_zero, List.set_cons_succ, i64_w, i32_w]; rfl
  refine take_ (i := 6) (N := some 17) (v := ?_) (a' := ?_) #[false, true, true, true, false, true, true, false, false, false, false, false] rfl rfl (take_ofW HT_.out HW_.out (by kernel_rfl)) (fun _ _ _ h => h) (Or.inl ⟨by rfl, ?_⟩) hHeld ?_ ?_
  rotate_left
  · rintro w' ⟨s0, s1, s2⟩; go_simp; with_reducible rfl
  rotate_left
  · simp only [Act.put, List.setIfInBounds_toArray, List.set_cons_zero, List.set_cons_succ, i64_w, i32_w]; rfl
  refine pure_ (i := 8) (N := some 19) (v := ?_) (a' := ?_) #[false, true, true, true, false, true, true, false, true, false, false, false] rfl rfl (any_of HT_.out (by kernel_rfl)) (fun _ _ _ h => h) (Or.inl ⟨by rfl, ?_⟩) ?_ ?_
  rotate_left
  · intro w'; go_simp; with_reducible rfl
  rotate_left
  · simp only [Act.put, List.setIfInBounds_toArray, List.set_cons_zero, List.set_cons_succ, i64_w, i32_w]; rfl
  refine take_ (i := 9) (N := some 20) (v := ?_) (a' := ?_) #[false, true, true, true, false, true, true, false, true, true, false, false] rfl rfl (take_ofW HT_.out HW_.out (by kernel_rfl)) (fun _ _ _ h => h) (Or.inl ⟨by rfl, ?_⟩) hHeld ?_ ?_
  rotate_left
  · rintro w' ⟨s0, s1, s2⟩; go_simp; with_reducible rfl
  rotate_left
  · simp only [Act.put, List.setIfInBounds_toArray, List.set_cons_zero, List.set_cons_succ, i64_w, i32_w]; rfl
  refine one_ (i := 0) (N := some 11) #[true, true, true, true, false, true, true, false, true, true, false, false] rfl rfl (one_of HT_.out (by kernel_rfl)) (by decide) (fun K hK => ?_)
  refine goes_ Try.func28 (by kernel_rfl) rfl #[] (by rfl) rfl rfl (by (try simp only [List.map_toArray, List.map_cons, List.map_nil]); first | done | rfl) ?_
  (with_reducible refine (fieldNewW.calls w _ HB.out).mono ?_)
  rintro e w3 ⟨g, rfl, hWR, hBB, hB2, hgg⟩
  refine ⟨_, rfl, ?_⟩
  have HG := Aside0.mk (show w.heap.size ≠ g by have := blk_lt BK.out; omega)
  have n_BK := Aside0.mk (blk_below BK.out hB2)
  have HW := Aside0.mk hWR
  have n_HB := Aside0.mk hBB
  clear hWR hBB hB2 hgg BK HB
  have BK := n_BK
  have HB := n_HB
  clear n_BK n_HB
  refine hK.out _ _ ⟨(blk_cell BK.out 0).trans rfl, (blk_cell BK.out 1).trans rfl, (blk_cell BK.out 2).trans rfl⟩ (fun hHeld => ?_)
  clear hK K
  refine norm_ (a' := ?_) ?_ ?_
  rotate_left
  · show Act.put _ (some 11) _ = _
    simp only [Act.put, List.setIfInBounds_toArray, List.set_cons_zero, List.set_cons_succ, i64_w, i32_w]; rfl
  refine one_ (i := 4) (N := some 15) #[true, true, true, true, true, true, true, false, true, true, false, false] rfl rfl (one_of HT_.out (by kernel_rfl)) (by decide) (fun K hK => ?_)
  refine goes_ Try.func29 (by kernel_rfl) rfl #[.pointer (some ⟨g, 0, none⟩), .int .u8 7] (by rfl) rfl rfl (by (try simp only [List.map_toArray, List.map_cons, List.map_nil]); first | done | rfl) ?_
  (with_reducible refine (field_U8.calls 7 g (([] : List Int)) false w _ (by decide) (by decide) (by simp [bigE]) ?a1 ?a2).mono ?_)
  case a1 => exact HW.out
  case a2 => exact HB.out
  rintro e w4 ⟨rfl, hWR, hBB, hF⟩
  refine ⟨_, rfl, ?_⟩
  have n_BK := Aside0.mk (WF.keep hF BK.out (by decide) HG.out)
  have n_HW := Aside0.mk hWR
  have n_HB := Aside0.mk hBB
  clear hWR hBB hF BK HW HB
  have BK := n_BK
  have HW := n_HW
  have HB := n_HB
  clear n_BK n_HW n_HB
  refine hK.out _ _ ⟨(blk_cell BK.out 0).trans rfl, (blk_cell BK.out 1).trans rfl, (blk_cell BK.out 2).trans rfl⟩ (fun hHeld => ?_)
  clear hK K
  refine norm_ (a' := ?_) ?_ ?_
  rotate_left
  · show Act.put _ (some 15) _ = _
    simp only [Act.put, List.setIfInBounds_toArray, List.set_cons_zero, List.set_cons_succ, i64_w, i32_w]; rfl
  refine one_ (i := 7) (N := some 18) #[true, true, true, true, true, true, true, true, true, true, false, false] rfl rfl (one_of HT_.out (by kernel_rfl)) (by decide) (fun K hK => ?_)
  refine goes_ Try.func30 (by kernel_rfl) rfl #[.pointer (some ⟨g, 0, none⟩), .int .u64 ls] (by rfl) rfl rfl (by (try simp only [List.map_toArray, List.map_cons, List.map_nil]); first | done | rfl) ?_
  (with_reducible refine (field_U64.calls ls g (([] : List Int) ++ bigE 7 1) false w _ Gls0.out Gls1.out (by simp [bigE]) ?a1 ?a2).mono ?_)
  case a1 => exact HW.out
  case a2 => exact HB.out
  rintro e w5 ⟨rfl, hWR, hBB, hF⟩
  refine ⟨_, rfl, ?_⟩
  have n_BK := Aside0.mk (WF.keep hF BK.out (by decide) HG.out)
  have n_HW := Aside0.mk hWR
  have n_HB := Aside0.mk hBB
  clear hWR hBB hF BK HW HB
  have BK := n_BK
  have HW := n_HW
  have HB := n_HB
  clear n_BK n_HW n_HB
  refine hK.out _ _ ⟨(blk_cell BK.out 0).trans rfl, (blk_cell BK.out 1).trans rfl, (blk_cell BK.out 2).trans rfl⟩ (fun hHeld => ?_)
  clear hK K
  refine norm_ (a' := ?_) ?_ ?_
  rotate_left
  · show Act.put _ (some 18) _ = _
    simp only [Act.put, List.setIfInBounds_toArray, List.set_cons_zero, List.set_cons_succ, i64_w, i32_w]; rfl
  refine one_ (i := 10) (N := some 21) #[true, true, true, true, true, true, true, true, true, true, true, false] rfl rfl (one_of HT_.out (by kernel_rfl)) (by decide) (fun K hK => ?_)
  refine goes_ Try.func31 (by kernel_rfl) rfl #[.pointer (some ⟨g, 0, none⟩), .int .u32 ep] (by rfl) rfl rfl (by (try simp only [List.map_toArray, List.map_cons, List.map_nil]); first | done | rfl) ?_
  (with_reducible refine (field_U32.calls ep g (([] : List Int) ++ bigE 7 1 ++ bigE ls 8) false w _ Gep0.out Gep1.out (by simp [bigE]) ?a1 ?a2).mono ?_)
  case a1 => exact HW.out
  case a2 => exact HB.out
  rintro e w6 ⟨rfl, hWR, hBB, hF⟩
  refine ⟨_, rfl, ?_⟩
  have n_BK := Aside0.mk (WF.keep hF BK.out (by decide) HG.out)
  have n_HW := Aside0.mk hWR
  have n_HB := Aside0.mk hBB
  clear hWR hBB hF BK HW HB
  have BK := n_BK
  have HW := n_HW
  have HB := n_HB
  clear n_BK n_HW n_HB
  refine hK.out _ _ ⟨(blk_cell BK.out 0).trans rfl, (blk_cell BK.out 1).trans rfl, (blk_cell BK.out 2).trans rfl⟩ (fun hHeld => ?_)
  clear hK K
  refine norm_ (a' := ?_) ?_ ?_
  rotate_left
  · show Act.put _ (some 21) _ = _
    simp only [Act.put, List.setIfInBounds_toArray, List.set_cons_zero, List.set_cons_succ, i64_w, i32_w]; rfl
  refine pure_ (i := 11) (N := some 5) (v := ?_) (a' := ?_) #[true, true, true, true, true, true, true, true, true, true, true, true] rfl rfl (any_of HT_.out (by kernel_rfl)) (fun _ _ _ h => h) (Or.inl ⟨by rfl, ?_⟩) ?_ ?_
  rotate_left
  · intro w'; go_simp; with_reducible rfl
  rotate_left
  · simp only [Act.put, List.setIfInBounds_toArray, List.set_cons_zero, List.set_cons_succ, i64_w, i32_w]; rfl
  refine done_ (done_of HT_.out (by kernel_rfl)) ?_
  clear HT_ HW_ hHeld
  have hk0 := (blk_cell BK.out 0).trans rfl
  have hkf := blk_frozen BK.out 0
  have hkl := blk_lt BK.out
  have hk1 : w6.cell? ⟨w.heap.size, 8, none⟩ = some (.int .u64 mk) := (blk_cell BK.out 8).trans rfl
  go_wp2_with (first | (go_at_call 30; (with_reducible refine (field_U64.calls mk g (([] : List Int) ++ bigE 7 1 ++ bigE ls 8 ++ bigE ep 4) false w _ Gmk0.out Gmk1.out (by simp [bigE]) ?a1 ?a2).mono ?_); (case a1 => exact HW.out); (case a2 => exact HB.out); rintro e w33 ⟨rfl, hWR, hBB, hF⟩; have n_HW := Aside0.mk hWR; have n_HB := Aside0.mk hBB; clear hWR hBB hF HW HB; have HW := n_HW; have HB := n_HB; clear n_HW n_HB) | (go_at_call 34; (with_reducible refine (field_Done.calls g (([] : List Int) ++ bigE 7 1 ++ bigE ls 8 ++ bigE ep 4 ++ bigE mk 8) w _ (by simp [bigE]) (by simp [bigE]) ?a1 ?a2).mono ?_); (case a1 => exact HW.out); (case a2 => exact HB.out); rintro e w44 ⟨v0, rfl, hR, hB3, hB4⟩; have HR := Aside0.mk hR; have HB3 := Aside0.mk hB3; clear hR hB3 hB4))
  refine bodyPost_ret ?_ rfl ⟨v0, rfl, ?_, HB3.out⟩
  · simp [results, Try.results14, go_sem]
  · exact Kd.R_lower HR.out (below_size HB.out)
-- the tail of entry_Put.lean
/-- an entry's bytes -/
def entryBytes (k ls ep o st : Int) (un : Bool) (tr co mk : Int) (l9 l10 : List Int) : List Int :=
  bif k == 2 then ([] : List Int) ++ bigE 2 1 ++ bigE ls 8 ++ bigE ep 4 ++ bigE o 4 ++ bigE (l9.length : Int) 1 ++ l9 ++ bigE (l10.length : Int) 1 ++ l10
  else bif k == 3 then ([] : List Int) ++ bigE 3 1 ++ bigE ls 8 ++ bigE ep 4 ++ bigE o 4 ++ bigE st 1 ++ bigE (bitI un) 1 ++ bigE tr 1
  else bif k == 4 then ([] : List Int) ++ bigE 4 1 ++ bigE ls 8 ++ bigE ep 4 ++ bigE o 4 ++ bigE st 1 ++ bigE (bitI un) 1 ++ bigE tr 1 ++ bigE co 1
  else bif k == 5 then ([] : List Int) ++ bigE 5 1 ++ bigE ls 8 ++ bigE ep 4 ++ bigE o 4 ++ bigE co 1
  else bif k == 6 then ([] : List Int) ++ bigE 6 1 ++ bigE ls 8 ++ bigE ep 4 ++ bigE co 1
  else bif k == 7 then ([] : List Int) ++ bigE 7 1 ++ bigE ls 8 ++ bigE ep 4 ++ bigE mk 8
  else ([] : List Int) ++ bigE 1 1 ++ bigE ls 8 ++ bigE ep 4
/-- what a number of an entry may bigE -/
def entryFit (ls ep o mk : Int) : Bool := decide (0 ≤ ls) && decide (ls < 18446744073709551616) && decide (0 ≤ ep) && decide (ep < 4294967296) && decide (0 ≤ o) && decide (o < 4294967296) && decide (0 ≤ mk) && decide (mk < 18446744073709551616)
def entry_Put.f (a0_0 : Int) (a0_1 : Int) (a0_2 : Int) (a0_3 : Int) (a0_4 : Int) (a0_5 : Bool) (a0_6 : Int) (a0_7 : Int) (a0_8 : Int) (l0_9 : List Int) (l0_10 : List Int) : Option (List Int × Int) :=
  bif entryFit a0_1 a0_2 a0_3 a0_8 then (bif entryOk a0_0 a0_1 a0_2 a0_3 a0_4 a0_5 a0_6 a0_7 a0_8 l0_9.length l0_10.length then some (entryBytes a0_0 a0_1 a0_2 a0_3 a0_4 a0_5 a0_6 a0_7 a0_8 l0_9 l0_10, 0) else some (([] : List Int), 40)) else none
set_option maxHeartbeats 8000000 in
set_option maxRecDepth 100000 in
theorem put_bad (k ls ep o st : Int) (un : Bool) (tr co mk : Int) (A9 : Option Addr) (n9 c9 : Nat) (A10 : Option Addr) (n10 c10 : Nat) (w : World) (hok : entryOk k ls ep o st un tr co mk n9 n10 = false) : Calls Try.prog 14 #[.agg #[.int .i64 k, .int .u64 ls, .int .u32 ep, .int .u32 o, .int .i64 st, .bool un, .int .i64 tr, .int .i64 co, .int .u64 mk, .slice A9 n9 c9, .slice A10 n10 c10]] w fun e w' => e = .returned (.tuple #[.slice none 0 0, .int .i64 40]) ∧ Below w.heap.size w w' := by
  go_enter Try.func14, Try.ntmps14
  go_wp2_with (first | (go_at_call 15; (with_reducible refine (check_any k ls ep o st un tr co mk A9 n9 c9 A10 n10 c10 _).mono ?_); rintro e w1 ⟨rfl, hb⟩; rw [hok, ansE]; have HB := Aside0.mk (below_step (below_alloc (Below.refl _ _) _) hb); clear hb))
  refine bodyPost_ret ?_ rfl ⟨rfl, HB.out⟩
  simp [results, Try.results14, go_sem]
theorem entry_Put.calls (a0_0 : Int) (a0_1 : Int) (a0_2 : Int) (a0_3 : Int) (a0_4 : Int) (a0_5 : Bool) (a0_6 : Int) (a0_7 : Int) (a0_8 : Int) (A0_9 : Option Addr) (c0_9 : Nat) (l0_9 : List Int) (A0_10 : Option Addr) (c0_10 : Nat) (l0_10 : List Int) (r1 : List Int) (r2 : Int) (w : World) (hr0_9 : Kd.C (Kd.int .u8) w A0_9 l0_9.length l0_9) (hc0_9 : l0_9.length ≤ c0_9) (hr0_10 : Kd.C (Kd.int .u8) w A0_10 l0_10.length l0_10) (hc0_10 : l0_10.length ≤ c0_10) (h : entry_Put.f a0_0 a0_1 a0_2 a0_3 a0_4 a0_5 a0_6 a0_7 a0_8 l0_9 l0_10 = some (r1, r2)) :
    Calls Try.prog 14 #[.agg #[.int .i64 a0_0, .int .u64 a0_1, .int .u32 a0_2, .int .u32 a0_3, .int .i64 a0_4, .bool a0_5, .int .i64 a0_6, .int .i64 a0_7, .int .u64 a0_8, .slice A0_9 l0_9.length c0_9, .slice A0_10 l0_10.length c0_10]] w fun e w' => ∃ v0_ : Value, e = .returned (.tuple #[v0_, .int .i64 r2]) ∧ Kd.R (Kd.int .u8) 5 w' w.heap.size (fun _ => True) v0_ r1 ∧ Below w.heap.size w w' := by
  unfold entry_Put.f at h
  cases hf : entryFit a0_1 a0_2 a0_3 a0_8 with
  | false => rw [hf] at h; exact absurd h (by simp)
  | true =>
    rw [hf] at h
    obtain ⟨b0, b1, b2, b3, b4, b5, b6, b7⟩ : 0 ≤ a0_1 ∧ a0_1 < 18446744073709551616 ∧ 0 ≤ a0_2 ∧ a0_2 < 4294967296 ∧ 0 ≤ a0_3 ∧ a0_3 < 4294967296 ∧ 0 ≤ a0_8 ∧ a0_8 < 18446744073709551616 := by
      simp only [entryFit, Bool.and_eq_true, decide_eq_true_eq] at hf
      omega
    cases hok : entryOk a0_0 a0_1 a0_2 a0_3 a0_4 a0_5 a0_6 a0_7 a0_8 l0_9.length l0_10.length with
    | false =>
      rw [hok] at h
      simp only [cond_true, cond_false, Option.some.injEq, Prod.mk.injEq] at h
      obtain ⟨rfl, rfl⟩ := h
      refine (put_bad _ _ _ _ _ _ _ _ _ _ _ _ _ _ _ w hok).mono ?_
      rintro e w' ⟨rfl, hb⟩
      exact ⟨_, rfl, Kd.R_nil _ _ _ _ _, hb⟩
    | true =>
      rw [hok] at h
      simp only [cond_true, Option.some.injEq, Prod.mk.injEq] at h
      obtain ⟨rfl, rfl⟩ := h
      have hk := hok
      simp only [entryOk, Bool.cond_eq_ite, beq_iff_eq] at hk
      by_cases h1 : a0_0 = 1
      · subst h1
        exact put_1 _ _ _ _ _ _ _ _ _ _ _ _ _ _ w hok b0 b1 b2 b3 b4 b5 b6 b7
      by_cases h2 : a0_0 = 2
      · subst h2
        have hh : l0_9.length ≤ 32 ∧ l0_10.length ≤ 200 := by simp at hk; omega
        exact put_2 _ _ _ _ _ _ _ _ _ _ _ _ _ _ w hok b0 b1 b2 b3 b4 b5 b6 b7 hr0_9 hr0_10 hh.1 hh.2
      by_cases h3 : a0_0 = 3
      · subst h3
        have hh : 0 ≤ a0_4 ∧ a0_4 < 256 ∧ 0 ≤ a0_6 ∧ a0_6 < 256 := by simp at hk; omega
        exact put_3 _ _ _ _ _ _ _ _ _ _ _ _ _ _ w hok b0 b1 b2 b3 b4 b5 b6 b7 hh.1 hh.2.1 hh.2.2.1 hh.2.2.2
      by_cases h4 : a0_0 = 4
      · subst h4
        have hh : 0 ≤ a0_4 ∧ a0_4 < 256 ∧ 0 ≤ a0_6 ∧ a0_6 < 256 ∧ 0 ≤ a0_7 ∧ a0_7 < 256 := by simp at hk; omega
        exact put_4 _ _ _ _ _ _ _ _ _ _ _ _ _ _ w hok b0 b1 b2 b3 b4 b5 b6 b7 hh.1 hh.2.1 hh.2.2.1 hh.2.2.2.1 hh.2.2.2.2.1 hh.2.2.2.2.2
      by_cases h5 : a0_0 = 5
      · subst h5
        have hh : 0 ≤ a0_7 ∧ a0_7 < 256 := by simp at hk; omega
        exact put_5 _ _ _ _ _ _ _ _ _ _ _ _ _ _ w hok b0 b1 b2 b3 b4 b5 b6 b7 hh.1 hh.2
      by_cases h6 : a0_0 = 6
      · subst h6
        have hh : 0 ≤ a0_7 ∧ a0_7 < 256 := by simp at hk; omega
        exact put_6 _ _ _ _ _ _ _ _ _ _ _ _ _ _ w hok b0 b1 b2 b3 b4 b5 b6 b7 hh.1 hh.2
      by_cases h7 : a0_0 = 7
      · subst h7
        exact put_7 _ _ _ _ _ _ _ _ _ _ _ _ _ _ w hok b0 b1 b2 b3 b4 b5 b6 b7
      · exact absurd hk (by simp [h1, h2, h3, h4, h5, h6, h7])

end Go.Proofs.Ytahldljkhjebgaa.PA
