-- printed by a program of this work (wip/tools/pr.py over the kit's print): the machine's side of ArbiterGap, ArbiterHolds
import Derived.Test.YtgghljienippgaaQGaPAx0
import Derived.Test.YtgghljienippgaaQGaPAx1
import Derived.Test.YtgghljienippgaaQGaPAx2
import Derived.Test.YtgghljienippgaaQGaPAx3
namespace Go.Proofs.Ytgghljienippgaa.PA
open Go.RowKit Go.Proofs.YtgghljienippgaaW.PrintWords Go.Proofs.YtgghljienippgaaW.PrintLast Go.Proofs.YtgghljienippgaaW.PrintMore
attribute [local go_sem] max2_int min2_int max_two min_two max_three min_three max_four min_four   -- for this text's walks alone
set_option linter.unusedVariables false
set_option linter.unusedSimpArgs false

/-! ### lease_Turn: function 59 -/
def lease_Turn.j0 : Nat → Int → Int → Int → Int → Bool → Int → Int → Int → Int → Option (Int × Int × Int × Int × Int)
  | 0, _, _, _, _, _, _, _, _, _ => none
  | k + 1, x1, x2, x3, x4, x28, x127000, x127001, x127002, x127003 => if x28 = true then (some (0, 0, 0, 0, 2)) else ((lease_own.f k x127000 x127001 x127002 x127003 x1 x2 x3).bind fun t130 => (if t130 = 0 then (some (x127000, x127001, x127002, x4, 0)) else (some (0, 0, 0, 0, t130))))
def lease_Turn.f (k : Nat) (a0_0 : Int) (a0_1 : Int) (a0_2 : Int) (a0_3 : Int) (a1 : Int) (a2 : Int) (a3 : Int) (a4 : Int) : Option (Int × Int × Int × Int × Int) := (lease_Check.f a0_0 a0_1 a0_2 a0_3).bind fun t128 => (if t128 = 0 then ((lease_is.f a2).bind fun t129 => (if t129 = true then (if a4 = 1 then (lease_Turn.j0 k a1 a2 a3 a4 false a0_0 a0_1 a0_2 a0_3) else (lease_Turn.j0 k a1 a2 a3 a4 (a4 != 2) a0_0 a0_1 a0_2 a0_3)) else (lease_Turn.j0 k a1 a2 a3 a4 true a0_0 a0_1 a0_2 a0_3))) else (lease_Turn.j0 k a1 a2 a3 a4 true a0_0 a0_1 a0_2 a0_3))
theorem lease_Turn.mono_l : ∀ k, (∀ y0 y1 y2 y3 y4 y5 y6 y7 y8, LeO (lease_Turn.j0 k y0 y1 y2 y3 y4 y5 y6 y7 y8) (lease_Turn.j0 (k + 1) y0 y1 y2 y3 y4 y5 y6 y7 y8))
  | 0 => fun _ _ _ _ _ _ _ _ _ r h => by simp [lease_Turn.j0] at h
  | k + 1 => by
    have ih0 := lease_Turn.mono_l k
    · intro y0 y1 y2 y3 y4 y5 y6 y7 y8
      unfold lease_Turn.j0
      repeat' first
      | (with_reducible exact ih0 _ _ _ _ _ _ _ _ _)
      | (with_reducible exact lease_own.mono _ _ _ _ _ _ _ _)
      | (with_reducible exact LeO.refl _)
      | (with_reducible exact LeO.none _)
      | (with_reducible refine LeO.ite ?_ ?_)
      | (with_reducible refine LeO.bind ?_ (fun _ => ?_))
      | exact ih0 _ _ _ _ _ _ _ _ _
      | exact lease_own.mono _ _ _ _ _ _ _ _
      | exact LeO.none _
      | refine LeO.ite ?_ ?_
      | refine LeO.bind ?_ (fun _ => ?_)
theorem lease_Turn.mono : ∀ a0 a1 a2 a3 a4 a5 a6 a7 k, LeO (lease_Turn.f k a0 a1 a2 a3 a4 a5 a6 a7) (lease_Turn.f (k + 1) a0 a1 a2 a3 a4 a5 a6 a7) := by
  intro a0 a1 a2 a3 a4 a5 a6 a7 k
  have ih0 := lease_Turn.mono_l k
  unfold lease_Turn.f
  repeat' first
      | (with_reducible exact ih0 _ _ _ _ _ _ _ _ _)
      | (with_reducible exact lease_own.mono _ _ _ _ _ _ _ _)
      | (with_reducible exact LeO.refl _)
      | (with_reducible exact LeO.none _)
      | (with_reducible refine LeO.ite ?_ ?_)
      | (with_reducible refine LeO.bind ?_ (fun _ => ?_))
      | exact ih0 _ _ _ _ _ _ _ _ _
      | exact lease_own.mono _ _ _ _ _ _ _ _
      | exact LeO.none _
      | refine LeO.ite ?_ ?_
      | refine LeO.bind ?_ (fun _ => ?_)
set_option maxHeartbeats 8000000 in
set_option maxRecDepth 100000 in
theorem lease_Turn.calls (k : Nat) (a0_0 : Int) (a0_1 : Int) (a0_2 : Int) (a0_3 : Int) (a1 : Int) (a2 : Int) (a3 : Int) (a4 : Int) (r1 : Int) (r2 : Int) (r3 : Int) (r4 : Int) (r5 : Int) (w : World) (h : lease_Turn.f k a0_0 a0_1 a0_2 a0_3 a1 a2 a3 a4 = some (r1, r2, r3, r4, r5)) :
    Calls Try.prog 59 #[.agg #[.int .u32 a0_0, .int .i64 a0_1, .int .u64 a0_2, .int .i64 a0_3], .int .u64 a1, .int .i64 a2, .int .u32 a3, .int .i64 a4] w fun e w' => e = .returned (.tuple #[.agg #[.int .u32 r1, .int .i64 r2, .int .u64 r3, .int .i64 r4], .int .i64 r5]) ∧ Below w.heap.size w w' := by
  have hu42 := Try.underlying42
  have HB := Aside0.mk (Below.refl w.heap.size w)
  have H : ((lease_Check.f a0_0 a0_1 a0_2 a0_3).bind fun t128 => (if t128 = 0 then ((lease_is.f a2).bind fun t129 => (if t129 = true then (if a4 = 1 then (lease_Turn.j0 k a1 a2 a3 a4 false a0_0 a0_1 a0_2 a0_3) else (lease_Turn.j0 k a1 a2 a3 a4 (a4 != 2) a0_0 a0_1 a0_2 a0_3)) else (lease_Turn.j0 k a1 a2 a3 a4 true a0_0 a0_1 a0_2 a0_3))) else (lease_Turn.j0 k a1 a2 a3 a4 true a0_0 a0_1 a0_2 a0_3))) = some (r1, r2, r3, r4, r5) := h
  clear h
  have HC6 := Aside0.mk H
  clear H
  go_enter Try.func59, Try.ntmps59
  go_upto_region 1 with (first | ((with_reducible refine gate_dst (N := 5) rfl ?_); refine box_event ?hg (N := 5) ?hd (cs := #[.int .u32 a0_0, .int .i64 a0_1, .int .u64 a0_2, .int .i64 a0_3]) (t := 42) ?hr ?_; (case hd => rfl); (case hg => rfl); (case hr => first | (go_simp; done) | (go_simp; rfl)); intro gb126 hg w7 hbox hb; have n0_ := Aside0.mk (below_step (by repeat (first | (with_reducible first | exact HB.out | apply below_alloc | apply pw_below_drewN | apply below_drew1) | exact HB.out)) hb); have n1_ := Aside0.mk (hbox); have n2_ := Aside0.mk ((by rw [hg]; exact (below_size (by repeat (first | (with_reducible first | exact HB.out | apply below_alloc | apply pw_below_drewN | apply below_drew1) | exact HB.out))) : w.heap.size ≤ gb126)); have n3_ := Aside0.mk ((by rw [hg]; exact (below_size (by repeat (first | (with_reducible first | exact HB.out | apply below_alloc | apply pw_below_drewN | apply below_drew1) | exact HB.out))) : w.heap.size ≤ gb126)); clear HB; have HB := n0_; have BK126 := n1_; have GW126 := n2_; have GE126 := n3_; clear n0_ n1_ n2_ n3_; clear hb hbox hg) | ((with_reducible refine gate_dst (N := 10) rfl ?_); refine box_event ?hg (N := 10) ?hd (cs := #[.int .u32 0, .int .i64 0, .int .u64 0, .int .i64 0]) (t := 42) ?hr ?_; (case hd => rfl); (case hg => rfl); (case hr => first | (go_simp; done) | (go_simp; rfl)); intro gb127 hg w8 hbox hb; have n0_ := Aside0.mk (blk_below (g := gb126) (o := .cells #[.int .u32 a0_0, .int .i64 a0_1, .int .u64 a0_2, .int .i64 a0_3] 42 (0, 0)) (by (with_reducible repeat (first | apply bd1 | apply bd2 | apply bd3)); exact BK126.out) hb); have n1_ := Aside0.mk (below_step (by repeat (first | (with_reducible first | exact HB.out | apply below_alloc | apply pw_below_drewN | apply below_drew1 | refine below_set ?_ GE126.out) | exact HB.out)) hb); have n2_ := Aside0.mk (hbox); have n3_ := Aside0.mk ((by rw [hg]; exact (below_size (by repeat (first | (with_reducible first | exact HB.out | apply below_alloc | apply pw_below_drewN | apply below_drew1 | refine below_set ?_ GE126.out) | exact HB.out))) : w.heap.size ≤ gb127)); have n4_ := Aside0.mk ((by rw [hg]; exact (below_size (by repeat (first | (with_reducible first | exact HB.out | apply below_alloc | apply pw_below_drewN | apply below_drew1 | refine below_set ?_ GE126.out) | exact HB.out))) : w.heap.size ≤ gb127)); have n5_ := Aside0.mk ((by rw [hg]; exact Nat.ne_of_lt (blk_lt (g := gb126) (o := .cells #[.int .u32 a0_0, .int .i64 a0_1, .int .u64 a0_2, .int .i64 a0_3] 42 (0, 0)) (by (with_reducible repeat (first | apply bd1 | apply bd2 | apply bd3)); exact BK126.out)) : gb126 ≠ gb127)); have n6_ := Aside0.mk ((by rw [hg]; exact Nat.ne_of_gt (blk_lt (g := gb126) (o := .cells #[.int .u32 a0_0, .int .i64 a0_1, .int .u64 a0_2, .int .i64 a0_3] 42 (0, 0)) (by (with_reducible repeat (first | apply bd1 | apply bd2 | apply bd3)); exact BK126.out)) : gb127 ≠ gb126)); clear BK126; clear HB; have BK126 := n0_; have HB := n1_; have BK127 := n2_; have GW127 := n3_; have GE127 := n4_; have NB126_127 := n5_; have NB127_126 := n6_; clear n0_ n1_ n2_ n3_ n4_ n5_ n6_; clear hb hbox hg))
  (try simp only [Act.put, List.setIfInBounds_toArray, List.set_cons_zero, List.set_cons_succ])
  go_cut [28] (fun v28 wc => ∃ (kq : Nat) (x28_5 : Bool), v28 = .bool x28_5 ∧ Aside0 (lease_Turn.j0 kq a1 a2 a3 a4 x28_5 a0_0 a0_1 a0_2 a0_3 = some (r1, r2, r3, r4, r5)) ∧ Aside0 (kq ≤ k) ∧ Aside0 (wc.heap[gb126]? = some (.cells #[.int .u32 a0_0, .int .i64 a0_1, .int .u64 a0_2, .int .i64 a0_3] 42 (0, 0))) ∧ Aside0 (wc.heap[gb127]? = some (.cells #[.int .u32 0, .int .i64 0, .int .u64 0, .int .i64 0] 42 (0, 0))) ∧ Aside0 (Below w.heap.size w wc))
  case first =>
    have H := HC6.out
    clear HC6
    replace H := Option.bind_eq_some_iff.mp H
    obtain ⟨t128, A90, H⟩ := H
    replace H : (if t128 = 0 then ((lease_is.f a2).bind fun t129 => (if t129 = true then (if a4 = 1 then (lease_Turn.j0 k a1 a2 a3 a4 false a0_0 a0_1 a0_2 a0_3) else (lease_Turn.j0 k a1 a2 a3 a4 (a4 != 2) a0_0 a0_1 a0_2 a0_3)) else (lease_Turn.j0 k a1 a2 a3 a4 true a0_0 a0_1 a0_2 a0_3))) else (lease_Turn.j0 k a1 a2 a3 a4 true a0_0 a0_1 a0_2 a0_3)) = some (r1, r2, r3, r4, r5) := H
    have A9 := Aside0.mk A90
    clear A90
    by_cases c10 : t128 = 0
    · rw [if_pos c10] at H
      have c10b0 : (t128 == 0) = true := beq_iff_eq.mpr c10
      have c10b1 : (t128 != 0) = false := bne_eq_false_iff_eq.mpr c10
      clear c10
      (first | rw [c10b0] | (simp only [i64_w, i32_w]; rw [c10b0]) | skip)
      replace H := Option.bind_eq_some_iff.mp H
      obtain ⟨t129, A110, H⟩ := H
      replace H : (if t129 = true then (if a4 = 1 then (lease_Turn.j0 k a1 a2 a3 a4 false a0_0 a0_1 a0_2 a0_3) else (lease_Turn.j0 k a1 a2 a3 a4 (a4 != 2) a0_0 a0_1 a0_2 a0_3)) else (lease_Turn.j0 k a1 a2 a3 a4 true a0_0 a0_1 a0_2 a0_3)) = some (r1, r2, r3, r4, r5) := H
      have A11 := Aside0.mk A110
      clear A110
      by_cases c12 : t129 = true
      · subst c12
        have H1 : (if a4 = 1 then (lease_Turn.j0 k a1 a2 a3 a4 false a0_0 a0_1 a0_2 a0_3) else (lease_Turn.j0 k a1 a2 a3 a4 (a4 != 2) a0_0 a0_1 a0_2 a0_3)) = some (r1, r2, r3, r4, r5) := by rw [if_pos rfl] at H; exact H
        clear H
        have H := H1
        clear H1
        by_cases c13 : a4 = 1
        · rw [if_pos c13] at H
          have c13b0 : (a4 == 1) = true := beq_iff_eq.mpr c13
          have c13b1 : (a4 != 1) = false := bne_eq_false_iff_eq.mpr c13
          clear c13
          have H' := Aside0.mk H
          clear H
          have hnb14 := NB126_127.out
          have hnc14 := NB127_126.out
          obtain ⟨hcz15_0, hcz15_1, hcz15_2, hcz15_3, hfz15_0, hfz15_1, hfz15_2, hfz15_3⟩ := blk_all4 BK126.out
          go_wp2_with (first | ((with_reducible refine gate_callee (f := 52) rfl ?_); refine goesL_ (some 14) rfl rfl Try.func52 (by kernel_rfl) rfl #[.agg #[.int .u32 a0_0, .int .i64 a0_1, .int .u64 a0_2, .int .i64 a0_3]] rfl (by (try simp only [List.map_toArray, List.map_cons, List.map_nil]); first | done | rfl | (simp only [List.length_drop, List.length_take]; rfl)) ?_; (with_reducible refine (lease_Check.calls a0_0 a0_1 a0_2 a0_3 t128 _ A9.out).mono ?_); rintro e w16 ⟨rfl, hb⟩; refine ⟨_, rfl, ?_⟩; have n0_ := Aside0.mk (blk_below (g := gb126) (o := .cells #[.int .u32 a0_0, .int .i64 a0_1, .int .u64 a0_2, .int .i64 a0_3] 42 (0, 0)) (by (with_reducible repeat (first | apply bd1 | apply bd2 | apply bd3)); exact BK126.out) hb); have n1_ := Aside0.mk (blk_below (g := gb127) (o := .cells #[.int .u32 0, .int .i64 0, .int .u64 0, .int .i64 0] 42 (0, 0)) (by (with_reducible repeat (first | apply bd1 | apply bd2 | apply bd3)); exact BK127.out) hb); have n2_ := Aside0.mk (below_step (by repeat (first | (with_reducible first | exact HB.out | apply below_alloc | apply pw_below_drewN | apply below_drew1 | refine below_set ?_ GE126.out | refine below_set ?_ GE127.out) | exact HB.out)) hb); clear BK126; clear BK127; clear HB; have BK126 := n0_; have BK127 := n1_; have HB := n2_; clear n0_ n1_ n2_; (try clear hb); (try clear hb2); (try clear hk); (try clear hi)) | (go_at_call 68; (with_reducible refine (lease_is.calls a2 true _ A11.out).mono ?_); rintro e w' ⟨rfl, ⟨nd, rfl⟩⟩))
          go_meet
          case rel => exact ⟨_, (false), (by first | rfl | (simp; done) | (simp [*]; done)), H', ⟨by first | omega | exact Nat.le_refl _⟩, ⟨by (with_reducible repeat (first | apply bd1 | apply bd2 | apply bd3)); exact BK126.out⟩, ⟨by (with_reducible repeat (first | apply bd1 | apply bd2 | apply bd3)); exact BK127.out⟩, ⟨by repeat (first | (with_reducible first | exact HB.out | apply below_alloc | apply pw_below_drewN | apply below_drew1 | refine below_set ?_ GE126.out | refine below_set ?_ GE127.out) | exact HB.out)⟩⟩
        · rw [if_neg c13] at H
          have c13b0 : (a4 == 1) = false := beq_eq_false_iff_ne.mpr c13
          have c13b1 : (a4 != 1) = true := bne_iff_ne.mpr c13
          have H' := Aside0.mk H
          clear H
          have hnb17 := NB126_127.out
          have hnc17 := NB127_126.out
          obtain ⟨hcz18_0, hcz18_1, hcz18_2, hcz18_3, hfz18_0, hfz18_1, hfz18_2, hfz18_3⟩ := blk_all4 BK126.out
          go_wp2_with (first | ((with_reducible refine gate_callee (f := 52) rfl ?_); refine goesL_ (some 14) rfl rfl Try.func52 (by kernel_rfl) rfl #[.agg #[.int .u32 a0_0, .int .i64 a0_1, .int .u64 a0_2, .int .i64 a0_3]] rfl (by (try simp only [List.map_toArray, List.map_cons, List.map_nil]); first | done | rfl | (simp only [List.length_drop, List.length_take]; rfl)) ?_; (with_reducible refine (lease_Check.calls a0_0 a0_1 a0_2 a0_3 t128 _ A9.out).mono ?_); rintro e w19 ⟨rfl, hb⟩; refine ⟨_, rfl, ?_⟩; have n0_ := Aside0.mk (blk_below (g := gb126) (o := .cells #[.int .u32 a0_0, .int .i64 a0_1, .int .u64 a0_2, .int .i64 a0_3] 42 (0, 0)) (by (with_reducible repeat (first | apply bd1 | apply bd2 | apply bd3)); exact BK126.out) hb); have n1_ := Aside0.mk (blk_below (g := gb127) (o := .cells #[.int .u32 0, .int .i64 0, .int .u64 0, .int .i64 0] 42 (0, 0)) (by (with_reducible repeat (first | apply bd1 | apply bd2 | apply bd3)); exact BK127.out) hb); have n2_ := Aside0.mk (below_step (by repeat (first | (with_reducible first | exact HB.out | apply below_alloc | apply pw_below_drewN | apply below_drew1 | refine below_set ?_ GE126.out | refine below_set ?_ GE127.out) | exact HB.out)) hb); clear BK126; clear BK127; clear HB; have BK126 := n0_; have BK127 := n1_; have HB := n2_; clear n0_ n1_ n2_; (try clear hb); (try clear hb2); (try clear hk); (try clear hi)) | (go_at_call 68; (with_reducible refine (lease_is.calls a2 true _ A11.out).mono ?_); rintro e w' ⟨rfl, ⟨nd, rfl⟩⟩))
          go_meet
          case rel => exact ⟨_, ((a4 != 2)), (by first | rfl | (simp; done) | (simp [*]; done)), H', ⟨by first | omega | exact Nat.le_refl _⟩, ⟨by (with_reducible repeat (first | apply bd1 | apply bd2 | apply bd3)); exact BK126.out⟩, ⟨by (with_reducible repeat (first | apply bd1 | apply bd2 | apply bd3)); exact BK127.out⟩, ⟨by repeat (first | (with_reducible first | exact HB.out | apply below_alloc | apply pw_below_drewN | apply below_drew1 | refine below_set ?_ GE126.out | refine below_set ?_ GE127.out) | exact HB.out)⟩⟩
      · replace c12 := Bool.eq_false_iff.mpr c12
        subst c12
        have H1 : (lease_Turn.j0 k a1 a2 a3 a4 true a0_0 a0_1 a0_2 a0_3) = some (r1, r2, r3, r4, r5) := by rw [if_neg (show ¬ (false = true) by decide)] at H; exact H
        clear H
        have H := H1
        clear H1
        have H' := Aside0.mk H
        clear H
        have hnb20 := NB126_127.out
        have hnc20 := NB127_126.out
        obtain ⟨hcz21_0, hcz21_1, hcz21_2, hcz21_3, hfz21_0, hfz21_1, hfz21_2, hfz21_3⟩ := blk_all4 BK126.out
        go_wp2_with (first | ((with_reducible refine gate_callee (f := 52) rfl ?_); refine goesL_ (some 14) rfl rfl Try.func52 (by kernel_rfl) rfl #[.agg #[.int .u32 a0_0, .int .i64 a0_1, .int .u64 a0_2, .int .i64 a0_3]] rfl (by (try simp only [List.map_toArray, List.map_cons, List.map_nil]); first | done | rfl | (simp only [List.length_drop, List.length_take]; rfl)) ?_; (with_reducible refine (lease_Check.calls a0_0 a0_1 a0_2 a0_3 t128 _ A9.out).mono ?_); rintro e w22 ⟨rfl, hb⟩; refine ⟨_, rfl, ?_⟩; have n0_ := Aside0.mk (blk_below (g := gb126) (o := .cells #[.int .u32 a0_0, .int .i64 a0_1, .int .u64 a0_2, .int .i64 a0_3] 42 (0, 0)) (by (with_reducible repeat (first | apply bd1 | apply bd2 | apply bd3)); exact BK126.out) hb); have n1_ := Aside0.mk (blk_below (g := gb127) (o := .cells #[.int .u32 0, .int .i64 0, .int .u64 0, .int .i64 0] 42 (0, 0)) (by (with_reducible repeat (first | apply bd1 | apply bd2 | apply bd3)); exact BK127.out) hb); have n2_ := Aside0.mk (below_step (by repeat (first | (with_reducible first | exact HB.out | apply below_alloc | apply pw_below_drewN | apply below_drew1 | refine below_set ?_ GE126.out | refine below_set ?_ GE127.out) | exact HB.out)) hb); clear BK126; clear BK127; clear HB; have BK126 := n0_; have BK127 := n1_; have HB := n2_; clear n0_ n1_ n2_; (try clear hb); (try clear hb2); (try clear hk); (try clear hi)) | (go_at_call 68; (with_reducible refine (lease_is.calls a2 false _ A11.out).mono ?_); rintro e w' ⟨rfl, ⟨nd, rfl⟩⟩))
        go_meet
        case rel => exact ⟨_, (true), (by first | rfl | (simp; done) | (simp [*]; done)), H', ⟨by first | omega | exact Nat.le_refl _⟩, ⟨by (with_reducible repeat (first | apply bd1 | apply bd2 | apply bd3)); exact BK126.out⟩, ⟨by (with_reducible repeat (first | apply bd1 | apply bd2 | apply bd3)); exact BK127.out⟩, ⟨by repeat (first | (with_reducible first | exact HB.out | apply below_alloc | apply pw_below_drewN | apply below_drew1 | refine below_set ?_ GE126.out | refine below_set ?_ GE127.out) | exact HB.out)⟩⟩
    · rw [if_neg c10] at H
      have c10b0 : (t128 == 0) = false := beq_eq_false_iff_ne.mpr c10
      have c10b1 : (t128 != 0) = true := bne_iff_ne.mpr c10
      (first | rw [c10b0] | (simp only [i64_w, i32_w]; rw [c10b0]) | skip)
      have H' := Aside0.mk H
      clear H
      have hnb23 := NB126_127.out
      have hnc23 := NB127_126.out
      obtain ⟨hcz24_0, hcz24_1, hcz24_2, hcz24_3, hfz24_0, hfz24_1, hfz24_2, hfz24_3⟩ := blk_all4 BK126.out
      go_wp2_with (first | ((with_reducible refine gate_callee (f := 52) rfl ?_); refine goesL_ (some 14) rfl rfl Try.func52 (by kernel_rfl) rfl #[.agg #[.int .u32 a0_0, .int .i64 a0_1, .int .u64 a0_2, .int .i64 a0_3]] rfl (by (try simp only [List.map_toArray, List.map_cons, List.map_nil]); first | done | rfl | (simp only [List.length_drop, List.length_take]; rfl)) ?_; (with_reducible refine (lease_Check.calls a0_0 a0_1 a0_2 a0_3 t128 _ A9.out).mono ?_); rintro e w25 ⟨rfl, hb⟩; refine ⟨_, rfl, ?_⟩; have n0_ := Aside0.mk (blk_below (g := gb126) (o := .cells #[.int .u32 a0_0, .int .i64 a0_1, .int .u64 a0_2, .int .i64 a0_3] 42 (0, 0)) (by (with_reducible repeat (first | apply bd1 | apply bd2 | apply bd3)); exact BK126.out) hb); have n1_ := Aside0.mk (blk_below (g := gb127) (o := .cells #[.int .u32 0, .int .i64 0, .int .u64 0, .int .i64 0] 42 (0, 0)) (by (with_reducible repeat (first | apply bd1 | apply bd2 | apply bd3)); exact BK127.out) hb); have n2_ := Aside0.mk (below_step (by repeat (first | (with_reducible first | exact HB.out | apply below_alloc | apply pw_below_drewN | apply below_drew1 | refine below_set ?_ GE126.out | refine below_set ?_ GE127.out) | exact HB.out)) hb); clear BK126; clear BK127; clear HB; have BK126 := n0_; have BK127 := n1_; have HB := n2_; clear n0_ n1_ n2_; (try clear hb); (try clear hb2); (try clear hk); (try clear hi)))
      go_meet
      case rel => exact ⟨_, (true), (by first | rfl | (simp; done) | (simp [*]; done)), H', ⟨by first | omega | exact Nat.le_refl _⟩, ⟨by (with_reducible repeat (first | apply bd1 | apply bd2 | apply bd3)); exact BK126.out⟩, ⟨by (with_reducible repeat (first | apply bd1 | apply bd2 | apply bd3)); exact BK127.out⟩, ⟨by repeat (first | (with_reducible first | exact HB.out | apply below_alloc | apply pw_below_drewN | apply below_drew1 | refine below_set ?_ GE126.out | refine below_set ?_ GE127.out) | exact HB.out)⟩⟩
  case rest =>
    clear HC6
    try clear c1
    try clear c2
    try clear p2
    try clear c5
    try clear c10
    try clear c10b0
    try clear c10b1
    try clear c12
    try clear c13
    try clear c13b0
    try clear c13b1
    try clear c14
    try clear c17
    try clear c20
    try clear c23
    try clear hcz15_0
    try clear hcz15_1
    try clear hcz15_2
    try clear hcz15_3
    try clear hcz18_0
    try clear hcz18_1
    try clear hcz18_2
    try clear hcz18_3
    try clear hcz21_0
    try clear hcz21_1
    try clear hcz21_2
    try clear hcz21_3
    try clear hcz24_0
    try clear hcz24_1
    try clear hcz24_2
    try clear hcz24_3
    try clear hfz15_0
    try clear hfz15_1
    try clear hfz15_2
    try clear hfz15_3
    try clear hfz18_0
    try clear hfz18_1
    try clear hfz18_2
    try clear hfz18_3
    try clear hfz21_0
    try clear hfz21_1
    try clear hfz21_2
    try clear hfz21_3
    try clear hfz24_0
    try clear hfz24_1
    try clear hfz24_2
    try clear hfz24_3
    obtain ⟨kq, x28_5, rfl, HA, HJ5, BK126, BK127, HB⟩ := hcut
    cases kq with
    | zero => exact absurd HA.out (by simp [lease_Turn.j0])
    | succ kj5 =>
      have H := HA.out
      clear HA
      simp only [lease_Turn.j0] at H
      by_cases c26 : x28_5 = true
      · subst c26
        have H1 : (some (0, 0, 0, 0, 2)) = some (r1, r2, r3, r4, r5) := by rw [if_pos rfl] at H; exact H
        clear H
        have H := H1
        clear H1
        simp only [Option.some.injEq, Prod.mk.injEq] at H
        obtain ⟨rfl, rfl, rfl, rfl, rfl⟩ := H
        have hnb27 := NB127_126.out
        have hnc27 := NB126_127.out
        obtain ⟨hcz28_0, hcz28_1, hcz28_2, hcz28_3, hfz28_0, hfz28_1, hfz28_2, hfz28_3⟩ := blk_all4 BK127.out
        go_wp2
        refine bodyPost_ret (results_ct rfl _ _ gb127 42 #[.int .u32 0, .int .i64 0, .int .u64 0, .int .i64 0] (0, 0) _ rfl (by (with_reducible repeat (first | apply bd1 | apply bd2 | apply bd3)); refine blk_put (cs := #[.int .u32 0, .int .i64 0, .int .u64 0, .int .i64 0]) ?_ 3 _ rfl; (with_reducible repeat (first | apply bd1 | apply bd2 | apply bd3)); refine blk_put (cs := #[.int .u32 0, .int .i64 0, .int .u64 0, .int .i64 0]) ?_ 2 _ rfl; (with_reducible repeat (first | apply bd1 | apply bd2 | apply bd3)); refine blk_put (cs := #[.int .u32 0, .int .i64 0, .int .u64 0, .int .i64 0]) ?_ 1 _ rfl; (with_reducible repeat (first | apply bd1 | apply bd2 | apply bd3)); refine blk_put (cs := #[.int .u32 0, .int .i64 0, .int .u64 0, .int .i64 0]) ?_ 0 _ rfl; (with_reducible repeat (first | apply bd1 | apply bd2 | apply bd3)); exact BK127.out) Try.underlying42 rfl (by kernel_rfl)) rfl ?_
        exact ⟨by first | rfl | (simp [errW_none, errW_some] <;> rfl) | (simp [*, errW_none, errW_some] <;> rfl), by repeat (first | (with_reducible first | exact HB.out | apply below_alloc | apply pw_below_drewN | apply below_drew1 | refine below_set ?_ GE126.out | refine below_set ?_ GE127.out) | exact HB.out)⟩
      · replace c26 := Bool.eq_false_iff.mpr c26
        subst c26
        have H1 : ((lease_own.f kj5 a0_0 a0_1 a0_2 a0_3 a1 a2 a3).bind fun t130 => (if t130 = 0 then (some (a0_0, a0_1, a0_2, a4, 0)) else (some (0, 0, 0, 0, t130)))) = some (r1, r2, r3, r4, r5) := by rw [if_neg (show ¬ (false = true) by decide)] at H; exact H
        clear H
        have H := H1
        clear H1
        replace H := Option.bind_eq_some_iff.mp H
        obtain ⟨t130, A290, H⟩ := H
        replace H : (if t130 = 0 then (some (a0_0, a0_1, a0_2, a4, 0)) else (some (0, 0, 0, 0, t130))) = some (r1, r2, r3, r4, r5) := H
        have A29 := Aside0.mk A290
        clear A290
        by_cases c30 : t130 = 0
        · rw [if_pos c30] at H
          have c30b0 : (t130 == 0) = true := beq_iff_eq.mpr c30
          have c30b1 : (t130 != 0) = false := bne_eq_false_iff_eq.mpr c30
          clear c30
          simp only [Option.some.injEq, Prod.mk.injEq] at H
          obtain ⟨rfl, rfl, rfl, rfl, rfl⟩ := H
          have hnb31 := NB126_127.out
          have hnc31 := NB127_126.out
          obtain ⟨hcz32_0, hcz32_1, hcz32_2, hcz32_3, hfz32_0, hfz32_1, hfz32_2, hfz32_3⟩ := blk_all4 BK126.out
          go_wp2_with (first | ((with_reducible refine gate_callee (f := 71) rfl ?_); refine goesL_ (some 34) rfl rfl Try.func71 (by kernel_rfl) rfl #[.agg #[.int .u32 a0_0, .int .i64 a0_1, .int .u64 a0_2, .int .i64 a0_3], .int .u64 a1, .int .i64 a2, .int .u32 a3] rfl (by (try simp only [List.map_toArray, List.map_cons, List.map_nil]); first | done | rfl | (simp only [List.length_drop, List.length_take]; rfl)) ?_; (with_reducible refine (lease_own.calls kj5 a0_0 a0_1 a0_2 a0_3 a1 a2 a3 t130 _ A29.out).mono ?_); rintro e w33 ⟨rfl, hb⟩; refine ⟨_, rfl, ?_⟩; have n0_ := Aside0.mk (blk_below (g := gb126) (o := .cells #[.int .u32 a0_0, .int .i64 a0_1, .int .u64 a0_2, .int .i64 a0_3] 42 (0, 0)) (by (with_reducible repeat (first | apply bd1 | apply bd2 | apply bd3)); exact BK126.out) hb); have n1_ := Aside0.mk (blk_below (g := gb127) (o := .cells #[.int .u32 0, .int .i64 0, .int .u64 0, .int .i64 0] 42 (0, 0)) (by (with_reducible repeat (first | apply bd1 | apply bd2 | apply bd3)); exact BK127.out) hb); have n2_ := Aside0.mk (below_step (by repeat (first | (with_reducible first | exact HB.out | apply below_alloc | apply pw_below_drewN | apply below_drew1 | refine below_set ?_ GE126.out | refine below_set ?_ GE127.out) | exact HB.out)) hb); clear BK126; clear BK127; clear HB; have BK126 := n0_; have BK127 := n1_; have HB := n2_; clear n0_ n1_ n2_; (try clear hb); (try clear hb2); (try clear hk); (try clear hi); obtain ⟨hcz34_0, hcz34_1, hcz34_2, hcz34_3, hfz34_0, hfz34_1, hfz34_2, hfz34_3⟩ := blk_all4 BK126.out; obtain ⟨hcz35_0, hcz35_1, hcz35_2, hcz35_3, hfz35_0, hfz35_1, hfz35_2, hfz35_3⟩ := blk_all4 BK127.out))
          refine bodyPost_ret (results_ct rfl _ _ gb127 42 #[.int .u32 a0_0, .int .i64 a0_1, .int .u64 a0_2, .int .i64 a4] (0, 0) _ rfl (by (with_reducible repeat (first | apply bd1 | apply bd2 | apply bd3)); refine blk_put (cs := #[.int .u32 a0_0, .int .i64 a0_1, .int .u64 a0_2, .int .i64 0]) ?_ 3 _ rfl; (with_reducible repeat (first | apply bd1 | apply bd2 | apply bd3)); refine blk_put (cs := #[.int .u32 a0_0, .int .i64 a0_1, .int .u64 0, .int .i64 0]) ?_ 2 _ rfl; (with_reducible repeat (first | apply bd1 | apply bd2 | apply bd3)); refine blk_put (cs := #[.int .u32 a0_0, .int .i64 0, .int .u64 0, .int .i64 0]) ?_ 1 _ rfl; (with_reducible repeat (first | apply bd1 | apply bd2 | apply bd3)); refine blk_put (cs := #[.int .u32 0, .int .i64 0, .int .u64 0, .int .i64 0]) ?_ 0 _ rfl; (with_reducible repeat (first | apply bd1 | apply bd2 | apply bd3)); refine blk_far ?_ NB127_126.out _; (with_reducible repeat (first | apply bd1 | apply bd2 | apply bd3)); exact BK127.out) Try.underlying42 rfl (by kernel_rfl)) rfl ?_
          exact ⟨by first | rfl | (simp [errW_none, errW_some] <;> rfl) | (simp [*, errW_none, errW_some] <;> rfl), by repeat (first | (with_reducible first | exact HB.out | apply below_alloc | apply pw_below_drewN | apply below_drew1 | refine below_set ?_ GE126.out | refine below_set ?_ GE127.out) | exact HB.out)⟩
        · rw [if_neg c30] at H
          have c30b0 : (t130 == 0) = false := beq_eq_false_iff_ne.mpr c30
          have c30b1 : (t130 != 0) = true := bne_iff_ne.mpr c30
          simp only [Option.some.injEq, Prod.mk.injEq] at H
          obtain ⟨rfl, rfl, rfl, rfl, rfl⟩ := H
          have hnb36 := NB126_127.out
          have hnc36 := NB127_126.out
          obtain ⟨hcz37_0, hcz37_1, hcz37_2, hcz37_3, hfz37_0, hfz37_1, hfz37_2, hfz37_3⟩ := blk_all4 BK126.out
          go_wp2_with (first | ((with_reducible refine gate_callee (f := 71) rfl ?_); refine goesL_ (some 34) rfl rfl Try.func71 (by kernel_rfl) rfl #[.agg #[.int .u32 a0_0, .int .i64 a0_1, .int .u64 a0_2, .int .i64 a0_3], .int .u64 a1, .int .i64 a2, .int .u32 a3] rfl (by (try simp only [List.map_toArray, List.map_cons, List.map_nil]); first | done | rfl | (simp only [List.length_drop, List.length_take]; rfl)) ?_; (with_reducible refine (lease_own.calls kj5 a0_0 a0_1 a0_2 a0_3 a1 a2 a3 t130 _ A29.out).mono ?_); rintro e w38 ⟨rfl, hb⟩; refine ⟨_, rfl, ?_⟩; have n0_ := Aside0.mk (blk_below (g := gb126) (o := .cells #[.int .u32 a0_0, .int .i64 a0_1, .int .u64 a0_2, .int .i64 a0_3] 42 (0, 0)) (by (with_reducible repeat (first | apply bd1 | apply bd2 | apply bd3)); exact BK126.out) hb); have n1_ := Aside0.mk (blk_below (g := gb127) (o := .cells #[.int .u32 0, .int .i64 0, .int .u64 0, .int .i64 0] 42 (0, 0)) (by (with_reducible repeat (first | apply bd1 | apply bd2 | apply bd3)); exact BK127.out) hb); have n2_ := Aside0.mk (below_step (by repeat (first | (with_reducible first | exact HB.out | apply below_alloc | apply pw_below_drewN | apply below_drew1 | refine below_set ?_ GE126.out | refine below_set ?_ GE127.out) | exact HB.out)) hb); clear BK126; clear BK127; clear HB; have BK126 := n0_; have BK127 := n1_; have HB := n2_; clear n0_ n1_ n2_; (try clear hb); (try clear hb2); (try clear hk); (try clear hi); obtain ⟨hcz39_0, hcz39_1, hcz39_2, hcz39_3, hfz39_0, hfz39_1, hfz39_2, hfz39_3⟩ := blk_all4 BK127.out))
          refine bodyPost_ret (results_ct rfl _ _ gb127 42 #[.int .u32 0, .int .i64 0, .int .u64 0, .int .i64 0] (0, 0) _ rfl (by (with_reducible repeat (first | apply bd1 | apply bd2 | apply bd3)); refine blk_put (cs := #[.int .u32 0, .int .i64 0, .int .u64 0, .int .i64 0]) ?_ 3 _ rfl; (with_reducible repeat (first | apply bd1 | apply bd2 | apply bd3)); refine blk_put (cs := #[.int .u32 0, .int .i64 0, .int .u64 0, .int .i64 0]) ?_ 2 _ rfl; (with_reducible repeat (first | apply bd1 | apply bd2 | apply bd3)); refine blk_put (cs := #[.int .u32 0, .int .i64 0, .int .u64 0, .int .i64 0]) ?_ 1 _ rfl; (with_reducible repeat (first | apply bd1 | apply bd2 | apply bd3)); refine blk_put (cs := #[.int .u32 0, .int .i64 0, .int .u64 0, .int .i64 0]) ?_ 0 _ rfl; (with_reducible repeat (first | apply bd1 | apply bd2 | apply bd3)); exact BK127.out) Try.underlying42 rfl (by kernel_rfl)) rfl ?_
          exact ⟨by first | rfl | (simp [errW_none, errW_some] <;> rfl) | (simp [*, errW_none, errW_some] <;> rfl), by repeat (first | (with_reducible first | exact HB.out | apply below_alloc | apply pw_below_drewN | apply below_drew1 | refine below_set ?_ GE126.out | refine below_set ?_ GE127.out) | exact HB.out)⟩

/-! ### arbiter_Arbiter_next: function 33 -/
def arbiter_Arbiter_next.f (k : Nat) (s0_0 : Int) (s0_1 : Int) (s0_2 : Int) (s0_3 : Int) (s0_4 : Int) (s0_5 : Int) (s0_6 : Int) (s0_7 : Int) (a1 : Int) (a2_0 : Int) (a2_1 : Int) (a2_2 : Int) (a2_3 : Int) (a2_4 : Int) (a2_5 : Int) (a2_6 : Int) (a2_7 : Bool) (a2_8 : Int) (l2_9 : List Int) (l2_10 : List Int) : Option (Int × Int × Int × Int × Int × Int × Int × Int × Int × Int × Int × Int × Int) := if a2_1 = 0 then ((lease_Grant.f k s0_3 s0_4 s0_5 s0_6 s0_2 a1 s0_0 s0_1).bind fun bt133 => (some (bt133.1, bt133.2.1, bt133.2.2.1, bt133.2.2.2.1, bt133.2.2.2.2, s0_0, s0_1, s0_2, s0_3, s0_4, s0_5, s0_6, s0_7))) else (if a2_8 = 0 then ((lease_Renew.f k s0_3 s0_4 s0_5 s0_6 s0_2 a1 a2_1 s0_0).bind fun bt138 => (some (bt138.1, bt138.2.1, bt138.2.2.1, bt138.2.2.2.1, bt138.2.2.2.2, s0_0, s0_1, s0_2, s0_3, s0_4, s0_5, s0_6, s0_7))) else ((lease_Turn.f k s0_3 s0_4 s0_5 s0_6 s0_2 a1 a2_1 a2_8).bind fun bt143 => (some (bt143.1, bt143.2.1, bt143.2.2.1, bt143.2.2.2.1, bt143.2.2.2.2, s0_0, s0_1, s0_2, s0_3, s0_4, s0_5, s0_6, s0_7))))
theorem arbiter_Arbiter_next.mono : ∀ a0 a1 a2 a3 a4 a5 a6 a7 a8 a9 a10 a11 a12 a13 a14 a15 a16 a17 a18 a19 k, LeO (arbiter_Arbiter_next.f k a0 a1 a2 a3 a4 a5 a6 a7 a8 a9 a10 a11 a12 a13 a14 a15 a16 a17 a18 a19) (arbiter_Arbiter_next.f (k + 1) a0 a1 a2 a3 a4 a5 a6 a7 a8 a9 a10 a11 a12 a13 a14 a15 a16 a17 a18 a19) := by
  intro a0 a1 a2 a3 a4 a5 a6 a7 a8 a9 a10 a11 a12 a13 a14 a15 a16 a17 a18 a19 k
  unfold arbiter_Arbiter_next.f
  repeat' first
      | (with_reducible exact lease_Grant.mono _ _ _ _ _ _ _ _ _)
      | (with_reducible exact lease_Renew.mono _ _ _ _ _ _ _ _ _)
      | (with_reducible exact lease_Turn.mono _ _ _ _ _ _ _ _ _)
      | (with_reducible exact LeO.refl _)
      | (with_reducible exact LeO.none _)
      | (with_reducible refine LeO.ite ?_ ?_)
      | (with_reducible refine LeO.bind ?_ (fun _ => ?_))
      | exact lease_Grant.mono _ _ _ _ _ _ _ _ _
      | exact lease_Renew.mono _ _ _ _ _ _ _ _ _
      | exact lease_Turn.mono _ _ _ _ _ _ _ _ _
      | exact LeO.none _
      | refine LeO.ite ?_ ?_
      | refine LeO.bind ?_ (fun _ => ?_)
def arbiter_Arbiter_next.T2 : Bool × List (List Nat × List Nat) := (true, [([], []), ([0], [0]), ([1], [1]), ([2], [2]), ([], []), ([4], [4]), ([5], [5]), ([6], [6]), ([], []), ([], []), ([9], [9]), ([10], [10]), ([11], [11]), ([], []), ([13], [13]), ([14], [14]), ([15], [15]), ([3, 7, 8, 12, 16], [3, 7, 8, 12, 16]), ([17], [17]), ([17], [17]), ([18, 17, 0, 1, 2, 3, 4, 5, 6, 7, 8, 9, 10, 11, 12, 13, 14, 15, 16, 17, 18, 19], [18]), ([19, 20, 0, 1, 2, 3, 4, 5, 6, 7, 8, 9, 10, 11, 12, 13, 14, 15, 16, 17, 18, 19, 20], [19])])
def arbiter_Arbiter_next.B2 : List Nat := [0, 1, 3, 7, 0, 16, 48, 112, 0, 0, 512, 1536, 3584, 0, 8192, 24576, 57344, 131071, 262143, 262143, 1048575, 2097151]
theorem arbiter_Arbiter_next.tab2 : rtab .any (opsOf Try.f33 2) = arbiter_Arbiter_next.T2 := by kernel_rfl
theorem arbiter_Arbiter_next.bits2 : waitsOk arbiter_Arbiter_next.T2.2 arbiter_Arbiter_next.B2 = true := by kernel_rfl
def arbiter_Arbiter_next.T4 : Bool × List (List Nat × List Nat) := (true, [([], []), ([0], [0]), ([1], [1]), ([2], [2]), ([], []), ([4], [4]), ([5], [5]), ([6], [6]), ([], []), ([], []), ([9], [9]), ([], []), ([11], [11]), ([12], [12]), ([13], [13]), ([3, 7, 8, 10, 14], [3, 7, 8, 10, 14]), ([15], [15]), ([15], [15]), ([16, 15, 0, 1, 2, 3, 4, 5, 6, 7, 8, 9, 10, 11, 12, 13, 14, 15, 16, 17], [16]), ([17, 18, 0, 1, 2, 3, 4, 5, 6, 7, 8, 9, 10, 11, 12, 13, 14, 15, 16, 17, 18], [17])])
def arbiter_Arbiter_next.B4 : List Nat := [0, 1, 3, 7, 0, 16, 48, 112, 0, 0, 512, 0, 2048, 6144, 14336, 32767, 65535, 65535, 262143, 524287]
theorem arbiter_Arbiter_next.tab4 : rtab .any (opsOf Try.f33 4) = arbiter_Arbiter_next.T4 := by kernel_rfl
theorem arbiter_Arbiter_next.bits4 : waitsOk arbiter_Arbiter_next.T4.2 arbiter_Arbiter_next.B4 = true := by kernel_rfl
def arbiter_Arbiter_next.T5 : Bool × List (List Nat × List Nat) := (true, [([], []), ([0], [0]), ([1], [1]), ([2], [2]), ([], []), ([4], [4]), ([5], [5]), ([6], [6]), ([], []), ([], []), ([9], [9]), ([], []), ([11], [11]), ([3, 7, 8, 10, 12], [3, 7, 8, 10, 12]), ([13], [13]), ([13], [13]), ([14, 13, 0, 1, 2, 3, 4, 5, 6, 7, 8, 9, 10, 11, 12, 13, 14, 15], [14]), ([15, 16, 0, 1, 2, 3, 4, 5, 6, 7, 8, 9, 10, 11, 12, 13, 14, 15, 16], [15])])
def arbiter_Arbiter_next.B5 : List Nat := [0, 1, 3, 7, 0, 16, 48, 112, 0, 0, 512, 0, 2048, 8191, 16383, 16383, 65535, 131071]
theorem arbiter_Arbiter_next.tab5 : rtab .any (opsOf Try.f33 5) = arbiter_Arbiter_next.T5 := by kernel_rfl
theorem arbiter_Arbiter_next.bits5 : waitsOk arbiter_Arbiter_next.T5.2 arbiter_Arbiter_next.B5 = true := by kernel_rfl
set_option maxHeartbeats 8000000 in
set_option maxRecDepth 100000 in
theorem arbiter_Arbiter_next.calls (k : Nat) (g : Nat) (s0_0 : Int) (s0_1 : Int) (s0_2 : Int) (s0_3 : Int) (s0_4 : Int) (s0_5 : Int) (s0_6 : Int) (s0_7 : Int) (a1 : Int) (a2_0 : Int) (a2_1 : Int) (a2_2 : Int) (a2_3 : Int) (a2_4 : Int) (a2_5 : Int) (a2_6 : Int) (a2_7 : Bool) (a2_8 : Int) (A2_9 : Option Addr) (c2_9 : Nat) (l2_9 : List Int) (A2_10 : Option Addr) (c2_10 : Nat) (l2_10 : List Int) (r1 : Int) (r2 : Int) (r3 : Int) (r4 : Int) (r5 : Int) (r6 : Int) (r7 : Int) (r8 : Int) (r9 : Int) (r10 : Int) (r11 : Int) (r12 : Int) (r13 : Int) (w0 w : World) (hI : IsS71 w0 w g s0_0 s0_1 s0_2 s0_3 s0_4 s0_5 s0_6 s0_7) (hB : Below w0.heap.size w0 w) (hr2_9 : Kd.C (Kd.int .u8) w A2_9 l2_9.length l2_9) (hc2_9 : l2_9.length ≤ c2_9) (hf2_9 : ∀ ad, A2_9 = some ad → 0 < l2_9.length → ad.block ≠ g) (hr2_10 : Kd.C (Kd.int .u8) w A2_10 l2_10.length l2_10) (hc2_10 : l2_10.length ≤ c2_10) (hf2_10 : ∀ ad, A2_10 = some ad → 0 < l2_10.length → ad.block ≠ g) (h : arbiter_Arbiter_next.f k s0_0 s0_1 s0_2 s0_3 s0_4 s0_5 s0_6 s0_7 a1 a2_0 a2_1 a2_2 a2_3 a2_4 a2_5 a2_6 a2_7 a2_8 l2_9 l2_10 = some (r1, r2, r3, r4, r5, r6, r7, r8, r9, r10, r11, r12, r13)) :
    Calls Try.prog 33 #[.pointer (some ⟨g, 0, none⟩), .int .i64 a1, .agg #[.int .i64 a2_0, .int .u32 a2_1, .int .u32 a2_2, .int .u64 a2_3, .int .u64 a2_4, .int .u32 a2_5, .int .i64 a2_6, .bool a2_7, .int .i64 a2_8, .slice A2_9 l2_9.length c2_9, .slice A2_10 l2_10.length c2_10]] w fun e w' => e = .returned (.tuple #[.agg #[.int .u32 r1, .int .i64 r2, .int .u64 r3, .int .i64 r4], .int .i64 r5]) ∧ IsS71 w0 w' g r6 r7 r8 r9 r10 r11 r12 r13 ∧ Below w0.heap.size w0 w' ∧ KeepBut w w' g none := by
  have hu30 := Try.underlying30
  have hu42 := Try.underlying42
  have HR2_9 := Aside0.mk hr2_9
  have HC2_9 := Aside0.mk hc2_9
  clear hr2_9 hc2_9
  have HR2_10 := Aside0.mk hr2_10
  have HC2_10 := Aside0.mk hc2_10
  clear hr2_10 hc2_10
  have HI0 := Aside0.mk hI
  have HK := Aside0.mk (KeepBut.refl w g none)
  have HL := Aside0.mk hB.size
  clear hI
  have HW0 := Aside0.mk hB.size
  have HB := Aside0.mk hB
  clear hB
  have H : (if a2_1 = 0 then ((lease_Grant.f k s0_3 s0_4 s0_5 s0_6 s0_2 a1 s0_0 s0_1).bind fun bt133 => (some (bt133.1, bt133.2.1, bt133.2.2.1, bt133.2.2.2.1, bt133.2.2.2.2, s0_0, s0_1, s0_2, s0_3, s0_4, s0_5, s0_6, s0_7))) else (if a2_8 = 0 then ((lease_Renew.f k s0_3 s0_4 s0_5 s0_6 s0_2 a1 a2_1 s0_0).bind fun bt138 => (some (bt138.1, bt138.2.1, bt138.2.2.1, bt138.2.2.2.1, bt138.2.2.2.2, s0_0, s0_1, s0_2, s0_3, s0_4, s0_5, s0_6, s0_7))) else ((lease_Turn.f k s0_3 s0_4 s0_5 s0_6 s0_2 a1 a2_1 a2_8).bind fun bt143 => (some (bt143.1, bt143.2.1, bt143.2.2.1, bt143.2.2.2.1, bt143.2.2.2.2, s0_0, s0_1, s0_2, s0_3, s0_4, s0_5, s0_6, s0_7))))) = some (r1, r2, r3, r4, r5, r6, r7, r8, r9, r10, r11, r12, r13) := h
  clear h
  by_cases c4 : a2_1 = 0
  · rw [if_pos c4] at H
    have c4b0 : (a2_1 == 0) = true := beq_iff_eq.mpr c4
    have c4b1 : (a2_1 != 0) = false := bne_eq_false_iff_eq.mpr c4
    clear c4
    replace H := Option.bind_eq_some_iff.mp H
    obtain ⟨⟨t133, t134, t135, t136, t137⟩, A50, H⟩ := H
    replace H : (some (t133, t134, t135, t136, t137, s0_0, s0_1, s0_2, s0_3, s0_4, s0_5, s0_6, s0_7)) = some (r1, r2, r3, r4, r5, r6, r7, r8, r9, r10, r11, r12, r13) := H
    have A5 := Aside0.mk A50
    clear A50
    simp only [Option.some.injEq, Prod.mk.injEq] at H
    obtain ⟨rfl, rfl, rfl, rfl, rfl, rfl, rfl, rfl, rfl, rfl, rfl, rfl, rfl⟩ := H
    go_enter Try.func33, Try.ntmps33
    go_wp2_with (first | ((with_reducible refine gate_dst (N := 5) rfl ?_); refine box_event ?hg (N := 5) ?hd (cs := #[.int .i64 a2_0, .int .u32 a2_1, .int .u32 a2_2, .int .u64 a2_3, .int .u64 a2_4, .int .u32 a2_5, .int .i64 a2_6, .bool a2_7, .int .i64 a2_8, .slice A2_9 l2_9.length c2_9, .slice A2_10 l2_10.length c2_10]) (t := 30) ?hr ?_; (case hd => rfl); (case hg => rfl); (case hr => first | (go_simp; done) | (go_simp; rfl)); intro gb131 hg w6 hbox hb; have n0_ := Aside0.mk (IsS71.below (by repeat (first | (with_reducible first | exact HI0.out | apply IsS71.alloc | apply IsS71.drewN | apply IsS71.drew | apply IsS71.set_0 | apply IsS71.set_1 | apply IsS71.set_2 | apply IsS71.set_3 | apply IsS71.set_4 | apply IsS71.set_5 | apply IsS71.set_6 | apply IsS71.set_7) | exact HI0.out)) hb); have n1_ := Aside0.mk (KeepBut.trans (by repeat (first | (with_reducible first | exact HK.out | apply KeepBut.set_ | apply keep_drewN | apply keep_drew | apply keep_alloc) | exact HK.out)) (KeepBut.of_below hb g none) (.inl rfl)); have n2_ := Aside0.mk (below_step (by repeat (first | (with_reducible first | exact HB.out | apply below_alloc | apply pw_below_drewN | apply below_drew1 | refine below_set ?_ (IsS71.ge HI0.out)) | exact HB.out)) hb); have n3_ := Aside0.mk (hbox); have n4_ := Aside0.mk ((by rw [hg]; exact (keep_size (w := w) (g := g) (row := none) (by repeat (first | (with_reducible first | exact HK.out | apply KeepBut.set_ | apply keep_drewN | apply keep_drew | apply keep_alloc) | exact HK.out))) : w.heap.size ≤ gb131)); have n5_ := Aside0.mk ((Nat.le_trans HW0.out (by rw [hg]; exact (keep_size (w := w) (g := g) (row := none) (by repeat (first | (with_reducible first | exact HK.out | apply KeepBut.set_ | apply keep_drewN | apply keep_drew | apply keep_alloc) | exact HK.out))) : w.heap.size ≤ gb131) : w0.heap.size ≤ gb131)); have n6_ := Aside0.mk ((by rw [hg]; exact Nat.ne_of_lt (IsS71.lt (show IsS71 w0 _ g s0_0 s0_1 s0_2 s0_3 s0_4 s0_5 s0_6 s0_7 from by repeat (first | (with_reducible first | exact HI0.out | apply IsS71.alloc | apply IsS71.drewN | apply IsS71.drew | apply IsS71.set_0 | apply IsS71.set_1 | apply IsS71.set_2 | apply IsS71.set_3 | apply IsS71.set_4 | apply IsS71.set_5 | apply IsS71.set_6 | apply IsS71.set_7) | exact HI0.out))) : g ≠ gb131)); have n7_ := Aside0.mk ((by rw [hg]; exact Nat.ne_of_gt (IsS71.lt (show IsS71 w0 _ g s0_0 s0_1 s0_2 s0_3 s0_4 s0_5 s0_6 s0_7 from by repeat (first | (with_reducible first | exact HI0.out | apply IsS71.alloc | apply IsS71.drewN | apply IsS71.drew | apply IsS71.set_0 | apply IsS71.set_1 | apply IsS71.set_2 | apply IsS71.set_3 | apply IsS71.set_4 | apply IsS71.set_5 | apply IsS71.set_6 | apply IsS71.set_7) | exact HI0.out))) : gb131 ≠ g)); clear HI0; clear HK; clear HB; have HI0 := n0_; have HK := n1_; have HB := n2_; have BK131 := n3_; have GW131 := n4_; have GE131 := n5_; have NB0_131 := n6_; have NB131_0 := n7_; clear n0_ n1_ n2_ n3_ n4_ n5_ n6_ n7_; clear hb hbox hg) | ((with_reducible refine gate_dst (N := 6) rfl ?_); refine box_event ?hg (N := 6) ?hd (cs := #[.int .u32 0, .int .i64 0, .int .u64 0, .int .i64 0]) (t := 42) ?hr ?_; (case hd => rfl); (case hg => rfl); (case hr => first | (go_simp; done) | (go_simp; rfl)); intro gb132 hg w7 hbox hb; have n0_ := Aside0.mk (IsS71.below (by repeat (first | (with_reducible first | exact HI0.out | apply IsS71.alloc | apply IsS71.drewN | apply IsS71.drew | apply IsS71.set_0 | apply IsS71.set_1 | apply IsS71.set_2 | apply IsS71.set_3 | apply IsS71.set_4 | apply IsS71.set_5 | apply IsS71.set_6 | apply IsS71.set_7 | refine IsS71.far ?_ NB0_131.out _) | exact HI0.out)) hb); have n1_ := Aside0.mk (blk_below (g := gb131) (o := .cells #[.int .i64 a2_0, .int .u32 a2_1, .int .u32 a2_2, .int .u64 a2_3, .int .u64 a2_4, .int .u32 a2_5, .int .i64 a2_6, .bool a2_7, .int .i64 a2_8, .slice A2_9 l2_9.length c2_9, .slice A2_10 l2_10.length c2_10] 30 (0, 0)) (by (with_reducible repeat (first | apply bd1 | apply bd2 | apply bd3)); exact BK131.out) hb); have n2_ := Aside0.mk (KeepBut.trans (by repeat (first | (with_reducible first | exact HK.out | apply KeepBut.set_ | apply keep_drewN | apply keep_drew | apply keep_alloc | refine keep_far ?_ GW131.out _) | exact HK.out)) (KeepBut.of_below hb g none) (.inl rfl)); have n3_ := Aside0.mk (below_step (by repeat (first | (with_reducible first | exact HB.out | apply below_alloc | apply pw_below_drewN | apply below_drew1 | refine below_set ?_ (IsS71.ge HI0.out) | refine below_set ?_ GE131.out) | exact HB.out)) hb); have n4_ := Aside0.mk (hbox); have n5_ := Aside0.mk ((by rw [hg]; exact (keep_size (w := w) (g := g) (row := none) (by repeat (first | (with_reducible first | exact HK.out | apply KeepBut.set_ | apply keep_drewN | apply keep_drew | apply keep_alloc | refine keep_far ?_ GW131.out _) | exact HK.out))) : w.heap.size ≤ gb132)); have n6_ := Aside0.mk ((Nat.le_trans HW0.out (by rw [hg]; exact (keep_size (w := w) (g := g) (row := none) (by repeat (first | (with_reducible first | exact HK.out | apply KeepBut.set_ | apply keep_drewN | apply keep_drew | apply keep_alloc | refine keep_far ?_ GW131.out _) | exact HK.out))) : w.heap.size ≤ gb132) : w0.heap.size ≤ gb132)); have n7_ := Aside0.mk ((by rw [hg]; exact Nat.ne_of_lt (blk_lt (g := gb131) (o := .cells #[.int .i64 a2_0, .int .u32 a2_1, .int .u32 a2_2, .int .u64 a2_3, .int .u64 a2_4, .int .u32 a2_5, .int .i64 a2_6, .bool a2_7, .int .i64 a2_8, .slice A2_9 l2_9.length c2_9, .slice A2_10 l2_10.length c2_10] 30 (0, 0)) (by (with_reducible repeat (first | apply bd1 | apply bd2 | apply bd3)); exact BK131.out)) : gb131 ≠ gb132)); have n8_ := Aside0.mk ((by rw [hg]; exact Nat.ne_of_gt (blk_lt (g := gb131) (o := .cells #[.int .i64 a2_0, .int .u32 a2_1, .int .u32 a2_2, .int .u64 a2_3, .int .u64 a2_4, .int .u32 a2_5, .int .i64 a2_6, .bool a2_7, .int .i64 a2_8, .slice A2_9 l2_9.length c2_9, .slice A2_10 l2_10.length c2_10] 30 (0, 0)) (by (with_reducible repeat (first | apply bd1 | apply bd2 | apply bd3)); exact BK131.out)) : gb132 ≠ gb131)); have n9_ := Aside0.mk ((by rw [hg]; exact Nat.ne_of_lt (IsS71.lt (show IsS71 w0 _ g s0_0 s0_1 s0_2 s0_3 s0_4 s0_5 s0_6 s0_7 from by repeat (first | (with_reducible first | exact HI0.out | apply IsS71.alloc | apply IsS71.drewN | apply IsS71.drew | apply IsS71.set_0 | apply IsS71.set_1 | apply IsS71.set_2 | apply IsS71.set_3 | apply IsS71.set_4 | apply IsS71.set_5 | apply IsS71.set_6 | apply IsS71.set_7 | refine IsS71.far ?_ NB0_131.out _) | exact HI0.out))) : g ≠ gb132)); have n10_ := Aside0.mk ((by rw [hg]; exact Nat.ne_of_gt (IsS71.lt (show IsS71 w0 _ g s0_0 s0_1 s0_2 s0_3 s0_4 s0_5 s0_6 s0_7 from by repeat (first | (with_reducible first | exact HI0.out | apply IsS71.alloc | apply IsS71.drewN | apply IsS71.drew | apply IsS71.set_0 | apply IsS71.set_1 | apply IsS71.set_2 | apply IsS71.set_3 | apply IsS71.set_4 | apply IsS71.set_5 | apply IsS71.set_6 | apply IsS71.set_7 | refine IsS71.far ?_ NB0_131.out _) | exact HI0.out))) : gb132 ≠ g)); clear HI0; clear BK131; clear HK; clear HB; have HI0 := n0_; have BK131 := n1_; have HK := n2_; have HB := n3_; have BK132 := n4_; have GW132 := n5_; have GE132 := n6_; have NB131_132 := n7_; have NB132_131 := n8_; have NB0_132 := n9_; have NB132_0 := n10_; clear n0_ n1_ n2_ n3_ n4_ n5_ n6_ n7_ n8_ n9_ n10_; clear hb hbox hg; have hnb8 := NB131_132.out; have hnc8 := NB132_131.out; have hnb9 := NB131_0.out; have hnc9 := NB0_131.out; obtain ⟨hcz10_0, hcz10_1, hcz10_2, hcz10_3, hcz10_4, hcz10_5, hcz10_6, hcz10_7, hcz10_8, hcz10_9, hcz10_10, hfz10_0, hfz10_1, hfz10_2, hfz10_3, hfz10_4, hfz10_5, hfz10_6, hfz10_7, hfz10_8, hfz10_9, hfz10_10⟩ := blk_all11 BK131.out; obtain ⟨HGz11, hgz11⟩ := HI0.out; have hcz11_0 := cellS71_0 HGz11; have hcz11_1 := cellS71_1 HGz11; have hcz11_2 := cellS71_2 HGz11; have hcz11_3 := cellS71_3 HGz11; have hcz11_4 := cellS71_4 HGz11; have hcz11_5 := cellS71_5 HGz11; have hcz11_6 := cellS71_6 HGz11; have hcz11_7 := cellS71_7 HGz11; have hfz11_0 := blk_frozen HGz11 0; have hfz11_1 := blk_frozen HGz11 1; have hfz11_2 := blk_frozen HGz11 2; have hfz11_3 := blk_frozen HGz11 3; have hfz11_4 := blk_frozen HGz11 4; have hfz11_5 := blk_frozen HGz11 5; have hfz11_6 := blk_frozen HGz11 6; have hfz11_7 := blk_frozen HGz11 7; clear HGz11 hgz11) | ((with_reducible refine gate_callee (f := 57) rfl ?_); refine goesL_ (some 29) rfl rfl Try.func57 (by kernel_rfl) rfl #[.agg #[.int .u32 s0_3, .int .i64 s0_4, .int .u64 s0_5, .int .i64 s0_6], .int .u64 s0_2, .int .i64 a1, .int .u64 s0_0, .int .u64 s0_1] rfl (by (try simp only [List.map_toArray, List.map_cons, List.map_nil]); first | done | rfl | (simp only [List.length_drop, List.length_take]; rfl)) ?_; (with_reducible refine (lease_Grant.calls k s0_3 s0_4 s0_5 s0_6 s0_2 a1 s0_0 s0_1 t133 t134 t135 t136 t137 _ A5.out).mono ?_); rintro e w12 ⟨rfl, hb⟩; refine ⟨_, rfl, ?_⟩; have n0_ := Aside0.mk (IsS71.below (by repeat (first | (with_reducible first | exact HI0.out | apply IsS71.alloc | apply IsS71.drewN | apply IsS71.drew | apply IsS71.set_0 | apply IsS71.set_1 | apply IsS71.set_2 | apply IsS71.set_3 | apply IsS71.set_4 | apply IsS71.set_5 | apply IsS71.set_6 | apply IsS71.set_7 | refine IsS71.far ?_ NB0_131.out _ | refine IsS71.far ?_ NB0_132.out _) | exact HI0.out)) hb); have n1_ := Aside0.mk (blk_below (g := gb131) (o := .cells #[.int .i64 a2_0, .int .u32 a2_1, .int .u32 a2_2, .int .u64 a2_3, .int .u64 a2_4, .int .u32 a2_5, .int .i64 a2_6, .bool a2_7, .int .i64 a2_8, .slice A2_9 l2_9.length c2_9, .slice A2_10 l2_10.length c2_10] 30 (0, 0)) (by (with_reducible repeat (first | apply bd1 | apply bd2 | apply bd3)); exact BK131.out) hb); have n2_ := Aside0.mk (blk_below (g := gb132) (o := .cells #[.int .u32 0, .int .i64 0, .int .u64 0, .int .i64 0] 42 (0, 0)) (by (with_reducible repeat (first | apply bd1 | apply bd2 | apply bd3)); exact BK132.out) hb); have n3_ := Aside0.mk (KeepBut.trans (by repeat (first | (with_reducible first | exact HK.out | apply KeepBut.set_ | apply keep_drewN | apply keep_drew | apply keep_alloc | refine keep_far ?_ GW131.out _ | refine keep_far ?_ GW132.out _) | exact HK.out)) (KeepBut.of_below hb g none) (.inl rfl)); have n4_ := Aside0.mk (below_step (by repeat (first | (with_reducible first | exact HB.out | apply below_alloc | apply pw_below_drewN | apply below_drew1 | refine below_set ?_ (IsS71.ge HI0.out) | refine below_set ?_ GE131.out | refine below_set ?_ GE132.out) | exact HB.out)) hb); clear HI0; clear BK131; clear BK132; clear HK; clear HB; have HI0 := n0_; have BK131 := n1_; have BK132 := n2_; have HK := n3_; have HB := n4_; clear n0_ n1_ n2_ n3_ n4_; (try clear hb); (try clear hb2); (try clear hk); (try clear hi); have hnb13 := NB132_0.out; have hnc13 := NB0_132.out; obtain ⟨hcz14_0, hcz14_1, hcz14_2, hcz14_3, hfz14_0, hfz14_1, hfz14_2, hfz14_3⟩ := blk_all4 BK132.out))
    have n_HI0 := Aside0.mk (IsS71.drew HI0.out)
    have n_BK131 := Aside0.mk (blk_drew BK131.out)
    have n_BK132 := Aside0.mk (blk_drew BK132.out)
    have n_HK := Aside0.mk (keep_drew HK.out)
    have n_HB := Aside0.mk (below_drew1 HB.out)
    clear HI0 BK131 BK132 HK HB
    have HI0 := n_HI0
    have BK131 := n_BK131
    have BK132 := n_BK132
    have HK := n_HK
    have HB := n_HB
    clear n_HI0 n_BK131 n_BK132 n_HK n_HB
    refine start_ (n := 22) (S := fun w' => w'.cell? ⟨g, 0, none⟩ = some (.int .u64 s0_0) ∧ w'.cell? ⟨g, 1, none⟩ = some (.int .u64 s0_1) ∧ w'.cell? ⟨g, 2, none⟩ = some (.int .u64 s0_2) ∧ w'.cell? ⟨g, 3, none⟩ = some (.int .u32 s0_3) ∧ w'.cell? ⟨g, 4, none⟩ = some (.int .i64 s0_4) ∧ w'.cell? ⟨g, 5, none⟩ = some (.int .u64 s0_5) ∧ w'.cell? ⟨g, 6, none⟩ = some (.int .i64 s0_6) ∧ w'.cell? ⟨g, 7, none⟩ = some (.int .i64 s0_7) ∧ w'.cell? ⟨gb131, 1, none⟩ = some (.int .u32 a2_1) ∧ w'.cell? ⟨gb131, 8, none⟩ = some (.int .i64 a2_8)) (ds := []) #[false, false, false, false, false, false, false, false, false, false, false, false, false, false, false, false, false, false, false, false, false, false] (by kernel_rfl) rfl rfl ⟨cellS71_0 (HI0.out).1, cellS71_1 (HI0.out).1, cellS71_2 (HI0.out).1, cellS71_3 (HI0.out).1, cellS71_4 (HI0.out).1, cellS71_5 (HI0.out).1, cellS71_6 (HI0.out).1, cellS71_7 (HI0.out).1, (blk_cell (BK131.out) 1).trans rfl, (blk_cell (BK131.out) 8).trans rfl⟩ (fun hHeld => ?_); refine with_tabW arbiter_Arbiter_next.tab2 arbiter_Arbiter_next.bits2 (fun HT_ HW_ => ?_)
    generalize w7.drew = wd_ at HI0 BK131 BK132 HK HB hHeld ⊢
    refine pure_ (i := 0) (N := some 12) (v := ?_) (a' := ?_) #[true, false, false, false, false, false, false, false, false, false, false, false, false, false, false, false, false, false, false, false, false, false] rfl rfl (any_of HT_.out (by kernel_rfl)) (fun _ _ _ h => h) (Or.inl ⟨by rfl, ?_⟩) ?_ ?_
    rotate_left
    ·
     intro w'; go_simp; with_reducible rfl
    rotate_left
    ·
     simp only [Act.put, List.setIfInBounds_toArray, List.set_cons_zero, List.set_cons_succ, i64_w, i32_w]; rfl
    refine pure_ (i := 1) (N := some 13) (v := ?_) (a' := ?_) #[true, true, false, false, false, false, false, false, false, false, false, false, false, false, false, false, false, false, false, false, false, false] rfl rfl (any_of HT_.out (by kernel_rfl)) (fun _ _ _ h => h) (Or.inl ⟨by rfl, ?_⟩) ?_ ?_
    rotate_left
    ·
     intro w'; go_simp; with_reducible rfl
    rotate_left
    ·
     simp only [Act.put, List.setIfInBounds_toArray, List.set_cons_zero, List.set_cons_succ, i64_w, i32_w]; rfl
    refine pure_ (i := 2) (N := some 14) (v := ?_) (a' := ?_) #[true, true, true, false, false, false, false, false, false, false, false, false, false, false, false, false, false, false, false, false, false, false] rfl rfl (any_of HT_.out (by kernel_rfl)) (fun _ _ _ h => h) (Or.inl ⟨by rfl, ?_⟩) ?_ ?_
    rotate_left
    ·
     intro w'; go_simp; with_reducible rfl
    rotate_left
    ·
     simp only [Act.put, List.setIfInBounds_toArray, List.set_cons_zero, List.set_cons_succ, i64_w, i32_w]; rfl
    refine take_ (i := 3) (N := some 15) (v := ?_) (a' := ?_) #[true, true, true, true, false, false, false, false, false, false, false, false, false, false, false, false, false, false, false, false, false, false] rfl rfl (take_ofW HT_.out HW_.out (by kernel_rfl)) (fun _ _ _ h => h) (Or.inl ⟨by rfl, ?_⟩) hHeld ?_ ?_
    rotate_left
    ·
     rintro w' ⟨s0, s1, s2, s3, s4, s5, s6, s7, s8, s9⟩; go_simp; with_reducible rfl
    rotate_left
    ·
     simp only [Act.put, List.setIfInBounds_toArray, List.set_cons_zero, List.set_cons_succ, i64_w, i32_w]; rfl
    refine pure_ (i := 4) (N := some 16) (v := ?_) (a' := ?_) #[true, true, true, true, true, false, false, false, false, false, false, false, false, false, false, false, false, false, false, false, false, false] rfl rfl (any_of HT_.out (by kernel_rfl)) (fun _ _ _ h => h) (Or.inl ⟨by rfl, ?_⟩) ?_ ?_
    rotate_left
    ·
     intro w'; go_simp; with_reducible rfl
    rotate_left
    ·
     simp only [Act.put, List.setIfInBounds_toArray, List.set_cons_zero, List.set_cons_succ, i64_w, i32_w]; rfl
    refine pure_ (i := 5) (N := some 17) (v := ?_) (a' := ?_) #[true, true, true, true, true, true, false, false, false, false, false, false, false, false, false, false, false, false, false, false, false, false] rfl rfl (any_of HT_.out (by kernel_rfl)) (fun _ _ _ h => h) (Or.inl ⟨by rfl, ?_⟩) ?_ ?_
    rotate_left
    ·
     intro w'; go_simp; with_reducible rfl
    rotate_left
    ·
     simp only [Act.put, List.setIfInBounds_toArray, List.set_cons_zero, List.set_cons_succ, i64_w, i32_w]; rfl
    refine pure_ (i := 6) (N := some 18) (v := ?_) (a' := ?_) #[true, true, true, true, true, true, true, false, false, false, false, false, false, false, false, false, false, false, false, false, false, false] rfl rfl (any_of HT_.out (by kernel_rfl)) (fun _ _ _ h => h) (Or.inl ⟨by rfl, ?_⟩) ?_ ?_
    rotate_left
    ·
     intro w'; go_simp; with_reducible rfl
    rotate_left
    ·
     simp only [Act.put, List.setIfInBounds_toArray, List.set_cons_zero, List.set_cons_succ, i64_w, i32_w]; rfl
    refine take_ (i := 7) (N := some 19) (v := ?_) (a' := ?_) #[true, true, true, true, true, true, true, true, false, false, false, false, false, false, false, false, false, false, false, false, false, false] rfl rfl (take_ofW HT_.out HW_.out (by kernel_rfl)) (fun _ _ _ h => h) (Or.inl ⟨by rfl, ?_⟩) hHeld ?_ ?_
    rotate_left
    ·
     rintro w' ⟨s0, s1, s2, s3, s4, s5, s6, s7, s8, s9⟩; go_simp; with_reducible rfl
    rotate_left
    ·
     simp only [Act.put, List.setIfInBounds_toArray, List.set_cons_zero, List.set_cons_succ, i64_w, i32_w]; rfl
    refine pure_ (i := 8) (N := some 20) (v := ?_) (a' := ?_) #[true, true, true, true, true, true, true, true, true, false, false, false, false, false, false, false, false, false, false, false, false, false] rfl rfl (any_of HT_.out (by kernel_rfl)) (fun _ _ _ h => h) (Or.inl ⟨by rfl, ?_⟩) ?_ ?_
    rotate_left
    ·
     intro w'; go_simp; with_reducible rfl
    rotate_left
    ·
     simp only [Act.put, List.setIfInBounds_toArray, List.set_cons_zero, List.set_cons_succ, i64_w, i32_w]; rfl
    refine pure_ (i := 9) (N := some 21) (v := ?_) (a' := ?_) #[true, true, true, true, true, true, true, true, true, true, false, false, false, false, false, false, false, false, false, false, false, false] rfl rfl (any_of HT_.out (by kernel_rfl)) (fun _ _ _ h => h) (Or.inl ⟨by rfl, ?_⟩) ?_ ?_
    rotate_left
    ·
     intro w'; go_simp; with_reducible rfl
    rotate_left
    ·
     simp only [Act.put, List.setIfInBounds_toArray, List.set_cons_zero, List.set_cons_succ, i64_w, i32_w]; rfl
    refine pure_ (i := 10) (N := some 22) (v := ?_) (a' := ?_) #[true, true, true, true, true, true, true, true, true, true, true, false, false, false, false, false, false, false, false, false, false, false] rfl rfl (any_of HT_.out (by kernel_rfl)) (fun _ _ _ h => h) (Or.inl ⟨by rfl, ?_⟩) ?_ ?_
    rotate_left
    ·
     intro w'; go_simp; with_reducible rfl
    rotate_left
    ·
     simp only [Act.put, List.setIfInBounds_toArray, List.set_cons_zero, List.set_cons_succ, i64_w, i32_w]; rfl
    refine pure_ (i := 11) (N := some 23) (v := ?_) (a' := ?_) #[true, true, true, true, true, true, true, true, true, true, true, true, false, false, false, false, false, false, false, false, false, false] rfl rfl (any_of HT_.out (by kernel_rfl)) (fun _ _ _ h => h) (Or.inl ⟨by rfl, ?_⟩) ?_ ?_
    rotate_left
    ·
     intro w'; go_simp; with_reducible rfl
    rotate_left
    ·
     simp only [Act.put, List.setIfInBounds_toArray, List.set_cons_zero, List.set_cons_succ, i64_w, i32_w]; rfl
    refine take_ (i := 12) (N := some 24) (v := ?_) (a' := ?_) #[true, true, true, true, true, true, true, true, true, true, true, true, true, false, false, false, false, false, false, false, false, false] rfl rfl (take_ofW HT_.out HW_.out (by kernel_rfl)) (fun _ _ _ h => h) (Or.inl ⟨by rfl, ?_⟩) hHeld ?_ ?_
    rotate_left
    ·
     rintro w' ⟨s0, s1, s2, s3, s4, s5, s6, s7, s8, s9⟩; go_simp; with_reducible rfl
    rotate_left
    ·
     simp only [Act.put, List.setIfInBounds_toArray, List.set_cons_zero, List.set_cons_succ, i64_w, i32_w]; rfl
    refine pure_ (i := 13) (N := some 25) (v := ?_) (a' := ?_) #[true, true, true, true, true, true, true, true, true, true, true, true, true, true, false, false, false, false, false, false, false, false] rfl rfl (any_of HT_.out (by kernel_rfl)) (fun _ _ _ h => h) (Or.inl ⟨by rfl, ?_⟩) ?_ ?_
    rotate_left
    ·
     intro w'; go_simp; with_reducible rfl
    rotate_left
    ·
     simp only [Act.put, List.setIfInBounds_toArray, List.set_cons_zero, List.set_cons_succ, i64_w, i32_w]; rfl
    refine pure_ (i := 14) (N := some 26) (v := ?_) (a' := ?_) #[true, true, true, true, true, true, true, true, true, true, true, true, true, true, true, false, false, false, false, false, false, false] rfl rfl (any_of HT_.out (by kernel_rfl)) (fun _ _ _ h => h) (Or.inl ⟨by rfl, ?_⟩) ?_ ?_
    rotate_left
    ·
     intro w'; go_simp; with_reducible rfl
    rotate_left
    ·
     simp only [Act.put, List.setIfInBounds_toArray, List.set_cons_zero, List.set_cons_succ, i64_w, i32_w]; rfl
    refine pure_ (i := 15) (N := some 27) (v := ?_) (a' := ?_) #[true, true, true, true, true, true, true, true, true, true, true, true, true, true, true, true, false, false, false, false, false, false] rfl rfl (any_of HT_.out (by kernel_rfl)) (fun _ _ _ h => h) (Or.inl ⟨by rfl, ?_⟩) ?_ ?_
    rotate_left
    ·
     intro w'; go_simp; with_reducible rfl
    rotate_left
    ·
     simp only [Act.put, List.setIfInBounds_toArray, List.set_cons_zero, List.set_cons_succ, i64_w, i32_w]; rfl
    refine take_ (i := 16) (N := some 28) (v := ?_) (a' := ?_) #[true, true, true, true, true, true, true, true, true, true, true, true, true, true, true, true, true, false, false, false, false, false] rfl rfl (take_ofW HT_.out HW_.out (by kernel_rfl)) (fun _ _ _ h => h) (Or.inl ⟨by rfl, ?_⟩) hHeld ?_ ?_
    rotate_left
    ·
     rintro w' ⟨s0, s1, s2, s3, s4, s5, s6, s7, s8, s9⟩; go_simp; with_reducible rfl
    rotate_left
    ·
     simp only [Act.put, List.setIfInBounds_toArray, List.set_cons_zero, List.set_cons_succ, i64_w, i32_w]; rfl
    refine one_ (i := 17) (N := some 29) #[true, true, true, true, true, true, true, true, true, true, true, true, true, true, true, true, true, true, false, false, false, false] rfl rfl (one_of HT_.out (by kernel_rfl)) (by decide) (fun K hK => ?_)
    refine goes_ Try.func57 (by kernel_rfl) rfl #[.agg #[.int .u32 s0_3, .int .i64 s0_4, .int .u64 s0_5, .int .i64 s0_6], .int .u64 s0_2, .int .i64 a1, .int .u64 s0_0, .int .u64 s0_1] (by rfl) rfl rfl (by (try simp only [List.map_toArray, List.map_cons, List.map_nil]); first | done | rfl | (simp only [List.length_drop, List.length_take]; rfl)) ?_
    (with_reducible refine (lease_Grant.calls k s0_3 s0_4 s0_5 s0_6 s0_2 a1 s0_0 s0_1 t133 t134 t135 t136 t137 _ A5.out).mono ?_)
    rintro e w12 ⟨rfl, hb⟩
    refine ⟨_, rfl, ?_⟩
    have n0_ := Aside0.mk (IsS71.below (by repeat (first | (with_reducible first | exact HI0.out | apply IsS71.alloc | apply IsS71.drewN | apply IsS71.drew | apply IsS71.set_0 | apply IsS71.set_1 | apply IsS71.set_2 | apply IsS71.set_3 | apply IsS71.set_4 | apply IsS71.set_5 | apply IsS71.set_6 | apply IsS71.set_7 | refine IsS71.far ?_ NB0_131.out _ | refine IsS71.far ?_ NB0_132.out _) | exact HI0.out)) hb)
    have n1_ := Aside0.mk (blk_below (g := gb131) (o := .cells #[.int .i64 a2_0, .int .u32 a2_1, .int .u32 a2_2, .int .u64 a2_3, .int .u64 a2_4, .int .u32 a2_5, .int .i64 a2_6, .bool a2_7, .int .i64 a2_8, .slice A2_9 l2_9.length c2_9, .slice A2_10 l2_10.length c2_10] 30 (0, 0)) (by (with_reducible repeat (first | apply bd1 | apply bd2 | apply bd3)); exact BK131.out) hb)
    have n2_ := Aside0.mk (blk_below (g := gb132) (o := .cells #[.int .u32 0, .int .i64 0, .int .u64 0, .int .i64 0] 42 (0, 0)) (by (with_reducible repeat (first | apply bd1 | apply bd2 | apply bd3)); exact BK132.out) hb)
    have n3_ := Aside0.mk (KeepBut.trans (by repeat (first | (with_reducible first | exact HK.out | apply KeepBut.set_ | apply keep_drewN | apply keep_drew | apply keep_alloc | refine keep_far ?_ GW131.out _ | refine keep_far ?_ GW132.out _) | exact HK.out)) (KeepBut.of_below hb g none) (.inl rfl))
    have n4_ := Aside0.mk (below_step (by repeat (first | (with_reducible first | exact HB.out | apply below_alloc | apply pw_below_drewN | apply below_drew1 | refine below_set ?_ (IsS71.ge HI0.out) | refine below_set ?_ GE131.out | refine below_set ?_ GE132.out) | exact HB.out)) hb)
    clear HI0
    clear BK131
    clear BK132
    clear HK
    clear HB
    have HI0 := n0_
    have BK131 := n1_
    have BK132 := n2_
    have HK := n3_
    have HB := n4_
    clear n0_ n1_ n2_ n3_ n4_
    (try clear hb)
    (try clear hb2)
    (try clear hk)
    (try clear hi)
    refine hK.out _ _ ⟨cellS71_0 (HI0.out).1, cellS71_1 (HI0.out).1, cellS71_2 (HI0.out).1, cellS71_3 (HI0.out).1, cellS71_4 (HI0.out).1, cellS71_5 (HI0.out).1, cellS71_6 (HI0.out).1, cellS71_7 (HI0.out).1, (blk_cell (BK131.out) 1).trans rfl, (blk_cell (BK131.out) 8).trans rfl⟩ (fun hHeld => ?_)
    clear hK K
    refine norm_ (a' := ?_) ?_ ?_
    rotate_left
    ·
     show Act.put _ (some 29) _ = _
     simp only [Act.put, List.setIfInBounds_toArray, List.set_cons_zero, List.set_cons_succ, i64_w, i32_w]; rfl
    refine pure_ (i := 18) (N := some 30) (v := ?_) (a' := ?_) #[true, true, true, true, true, true, true, true, true, true, true, true, true, true, true, true, true, true, true, false, false, false] rfl rfl (any_of HT_.out (by kernel_rfl)) (fun _ _ _ h => h) (Or.inl ⟨by rfl, ?_⟩) ?_ ?_
    rotate_left
    ·
     intro w'; go_simp; with_reducible rfl
    rotate_left
    ·
     simp only [Act.put, List.setIfInBounds_toArray, List.set_cons_zero, List.set_cons_succ, i64_w, i32_w]; rfl
    refine pure_ (i := 19) (N := some 31) (v := ?_) (a' := ?_) #[true, true, true, true, true, true, true, true, true, true, true, true, true, true, true, true, true, true, true, true, false, false] rfl rfl (any_of HT_.out (by kernel_rfl)) (fun _ _ _ h => h) (Or.inl ⟨by rfl, ?_⟩) ?_ ?_
    rotate_left
    ·
     intro w'; go_simp; with_reducible rfl
    rotate_left
    ·
     simp only [Act.put, List.setIfInBounds_toArray, List.set_cons_zero, List.set_cons_succ, i64_w, i32_w]; rfl
    refine one_ (i := 20) (N := none) #[true, true, true, true, true, true, true, true, true, true, true, true, true, true, true, true, true, true, true, true, true, false] rfl rfl (one_of HT_.out (by kernel_rfl)) (by decide) (fun K hK => ?_)
    have hnb13 := NB132_0.out
    have hnc13 := NB0_132.out
    obtain ⟨hcz14_0, hcz14_1, hcz14_2, hcz14_3, hfz14_0, hfz14_1, hfz14_2, hfz14_3⟩ := blk_all4 BK132.out
    refine skip_ (w1 := ?_) (by rfl) rfl ?_ ?_
    rotate_left
    ·
     go_simp; rfl
    refine hK.out _ _ ⟨cellS71_0 ((IsS71.far (IsS71.far (IsS71.far (IsS71.far HI0.out NB0_132.out _) NB0_132.out _) NB0_132.out _) NB0_132.out _)).1, cellS71_1 ((IsS71.far (IsS71.far (IsS71.far (IsS71.far HI0.out NB0_132.out _) NB0_132.out _) NB0_132.out _) NB0_132.out _)).1, cellS71_2 ((IsS71.far (IsS71.far (IsS71.far (IsS71.far HI0.out NB0_132.out _) NB0_132.out _) NB0_132.out _) NB0_132.out _)).1, cellS71_3 ((IsS71.far (IsS71.far (IsS71.far (IsS71.far HI0.out NB0_132.out _) NB0_132.out _) NB0_132.out _) NB0_132.out _)).1, cellS71_4 ((IsS71.far (IsS71.far (IsS71.far (IsS71.far HI0.out NB0_132.out _) NB0_132.out _) NB0_132.out _) NB0_132.out _)).1, cellS71_5 ((IsS71.far (IsS71.far (IsS71.far (IsS71.far HI0.out NB0_132.out _) NB0_132.out _) NB0_132.out _) NB0_132.out _)).1, cellS71_6 ((IsS71.far (IsS71.far (IsS71.far (IsS71.far HI0.out NB0_132.out _) NB0_132.out _) NB0_132.out _) NB0_132.out _)).1, cellS71_7 ((IsS71.far (IsS71.far (IsS71.far (IsS71.far HI0.out NB0_132.out _) NB0_132.out _) NB0_132.out _) NB0_132.out _)).1, (blk_cell ((blk_far (blk_far (blk_far (blk_far BK131.out NB131_132.out _) NB131_132.out _) NB131_132.out _) NB131_132.out _)) 1).trans rfl, (blk_cell ((blk_far (blk_far (blk_far (blk_far BK131.out NB131_132.out _) NB131_132.out _) NB131_132.out _) NB131_132.out _)) 8).trans rfl⟩ (fun hHeld => ?_)
    clear hK K hHeld
    refine pure_ (i := 21) (N := some 7) (v := ?_) (a' := ?_) #[true, true, true, true, true, true, true, true, true, true, true, true, true, true, true, true, true, true, true, true, true, true] rfl rfl (any_of HT_.out (by kernel_rfl)) (fun _ _ _ h => h) (Or.inl ⟨by rfl, ?_⟩) ?_ ?_
    rotate_left
    ·
     intro w'; go_simp; with_reducible rfl
    rotate_left
    ·
     simp only [Act.put, List.setIfInBounds_toArray, List.set_cons_zero, List.set_cons_succ, i64_w, i32_w]; rfl
    refine done_ (done_of HT_.out (by kernel_rfl)) ?_
    clear HT_ HW_
    go_wp2
    refine bodyPost_ret (results_ct rfl _ _ gb132 42 #[.int .u32 t133, .int .i64 t134, .int .u64 t135, .int .i64 t136] (0, 0) _ rfl (by (with_reducible repeat (first | apply bd1 | apply bd2 | apply bd3)); refine blk_put (cs := #[.int .u32 t133, .int .i64 t134, .int .u64 t135, .int .i64 0]) ?_ 3 _ rfl; (with_reducible repeat (first | apply bd1 | apply bd2 | apply bd3)); refine blk_put (cs := #[.int .u32 t133, .int .i64 t134, .int .u64 0, .int .i64 0]) ?_ 2 _ rfl; (with_reducible repeat (first | apply bd1 | apply bd2 | apply bd3)); refine blk_put (cs := #[.int .u32 t133, .int .i64 0, .int .u64 0, .int .i64 0]) ?_ 1 _ rfl; (with_reducible repeat (first | apply bd1 | apply bd2 | apply bd3)); refine blk_put (cs := #[.int .u32 0, .int .i64 0, .int .u64 0, .int .i64 0]) ?_ 0 _ rfl; (with_reducible repeat (first | apply bd1 | apply bd2 | apply bd3)); exact BK132.out) Try.underlying42 rfl (by kernel_rfl)) rfl ?_
    exact ⟨by first | rfl | (simp [errW_none, errW_some] <;> rfl) | (simp [*, errW_none, errW_some] <;> rfl), by repeat (first | (with_reducible first | exact HI0.out | apply IsS71.alloc | apply IsS71.drewN | apply IsS71.drew | apply IsS71.set_0 | apply IsS71.set_1 | apply IsS71.set_2 | apply IsS71.set_3 | apply IsS71.set_4 | apply IsS71.set_5 | apply IsS71.set_6 | apply IsS71.set_7 | refine IsS71.far ?_ NB0_131.out _ | refine IsS71.far ?_ NB0_132.out _) | exact HI0.out), by repeat (first | (with_reducible first | exact HB.out | apply below_alloc | apply pw_below_drewN | apply below_drew1 | refine below_set ?_ (IsS71.ge HI0.out) | refine below_set ?_ GE131.out | refine below_set ?_ GE132.out) | exact HB.out), by repeat (first | (with_reducible first | exact HK.out | apply KeepBut.set_ | apply keep_drewN | apply keep_drew | apply keep_alloc | refine keep_far ?_ GW131.out _ | refine keep_far ?_ GW132.out _) | exact HK.out)⟩
  · rw [if_neg c4] at H
    have c4b0 : (a2_1 == 0) = false := beq_eq_false_iff_ne.mpr c4
    have c4b1 : (a2_1 != 0) = true := bne_iff_ne.mpr c4
    by_cases c15 : a2_8 = 0
    · rw [if_pos c15] at H
      have c15b0 : (a2_8 == 0) = true := beq_iff_eq.mpr c15
      have c15b1 : (a2_8 != 0) = false := bne_eq_false_iff_eq.mpr c15
      clear c15
      replace H := Option.bind_eq_some_iff.mp H
      obtain ⟨⟨t138, t139, t140, t141, t142⟩, A160, H⟩ := H
      replace H : (some (t138, t139, t140, t141, t142, s0_0, s0_1, s0_2, s0_3, s0_4, s0_5, s0_6, s0_7)) = some (r1, r2, r3, r4, r5, r6, r7, r8, r9, r10, r11, r12, r13) := H
      have A16 := Aside0.mk A160
      clear A160
      simp only [Option.some.injEq, Prod.mk.injEq] at H
      obtain ⟨rfl, rfl, rfl, rfl, rfl, rfl, rfl, rfl, rfl, rfl, rfl, rfl, rfl⟩ := H
      go_enter Try.func33, Try.ntmps33
      go_wp2_with (first | ((with_reducible refine gate_dst (N := 5) rfl ?_); refine box_event ?hg (N := 5) ?hd (cs := #[.int .i64 a2_0, .int .u32 a2_1, .int .u32 a2_2, .int .u64 a2_3, .int .u64 a2_4, .int .u32 a2_5, .int .i64 a2_6, .bool a2_7, .int .i64 a2_8, .slice A2_9 l2_9.length c2_9, .slice A2_10 l2_10.length c2_10]) (t := 30) ?hr ?_; (case hd => rfl); (case hg => rfl); (case hr => first | (go_simp; done) | (go_simp; rfl)); intro gb131 hg w17 hbox hb; have n0_ := Aside0.mk (IsS71.below (by repeat (first | (with_reducible first | exact HI0.out | apply IsS71.alloc | apply IsS71.drewN | apply IsS71.drew | apply IsS71.set_0 | apply IsS71.set_1 | apply IsS71.set_2 | apply IsS71.set_3 | apply IsS71.set_4 | apply IsS71.set_5 | apply IsS71.set_6 | apply IsS71.set_7) | exact HI0.out)) hb); have n1_ := Aside0.mk (KeepBut.trans (by repeat (first | (with_reducible first | exact HK.out | apply KeepBut.set_ | apply keep_drewN | apply keep_drew | apply keep_alloc) | exact HK.out)) (KeepBut.of_below hb g none) (.inl rfl)); have n2_ := Aside0.mk (below_step (by repeat (first | (with_reducible first | exact HB.out | apply below_alloc | apply pw_below_drewN | apply below_drew1 | refine below_set ?_ (IsS71.ge HI0.out)) | exact HB.out)) hb); have n3_ := Aside0.mk (hbox); have n4_ := Aside0.mk ((by rw [hg]; exact (keep_size (w := w) (g := g) (row := none) (by repeat (first | (with_reducible first | exact HK.out | apply KeepBut.set_ | apply keep_drewN | apply keep_drew | apply keep_alloc) | exact HK.out))) : w.heap.size ≤ gb131)); have n5_ := Aside0.mk ((Nat.le_trans HW0.out (by rw [hg]; exact (keep_size (w := w) (g := g) (row := none) (by repeat (first | (with_reducible first | exact HK.out | apply KeepBut.set_ | apply keep_drewN | apply keep_drew | apply keep_alloc) | exact HK.out))) : w.heap.size ≤ gb131) : w0.heap.size ≤ gb131)); have n6_ := Aside0.mk ((by rw [hg]; exact Nat.ne_of_lt (IsS71.lt (show IsS71 w0 _ g s0_0 s0_1 s0_2 s0_3 s0_4 s0_5 s0_6 s0_7 from by repeat (first | (with_reducible first | exact HI0.out | apply IsS71.alloc | apply IsS71.drewN | apply IsS71.drew | apply IsS71.set_0 | apply IsS71.set_1 | apply IsS71.set_2 | apply IsS71.set_3 | apply IsS71.set_4 | apply IsS71.set_5 | apply IsS71.set_6 | apply IsS71.set_7) | exact HI0.out))) : g ≠ gb131)); have n7_ := Aside0.mk ((by rw [hg]; exact Nat.ne_of_gt (IsS71.lt (show IsS71 w0 _ g s0_0 s0_1 s0_2 s0_3 s0_4 s0_5 s0_6 s0_7 from by repeat (first | (with_reducible first | exact HI0.out | apply IsS71.alloc | apply IsS71.drewN | apply IsS71.drew | apply IsS71.set_0 | apply IsS71.set_1 | apply IsS71.set_2 | apply IsS71.set_3 | apply IsS71.set_4 | apply IsS71.set_5 | apply IsS71.set_6 | apply IsS71.set_7) | exact HI0.out))) : gb131 ≠ g)); clear HI0; clear HK; clear HB; have HI0 := n0_; have HK := n1_; have HB := n2_; have BK131 := n3_; have GW131 := n4_; have GE131 := n5_; have NB0_131 := n6_; have NB131_0 := n7_; clear n0_ n1_ n2_ n3_ n4_ n5_ n6_ n7_; clear hb hbox hg) | ((with_reducible refine gate_dst (N := 6) rfl ?_); refine box_event ?hg (N := 6) ?hd (cs := #[.int .u32 0, .int .i64 0, .int .u64 0, .int .i64 0]) (t := 42) ?hr ?_; (case hd => rfl); (case hg => rfl); (case hr => first | (go_simp; done) | (go_simp; rfl)); intro gb132 hg w18 hbox hb; have n0_ := Aside0.mk (IsS71.below (by repeat (first | (with_reducible first | exact HI0.out | apply IsS71.alloc | apply IsS71.drewN | apply IsS71.drew | apply IsS71.set_0 | apply IsS71.set_1 | apply IsS71.set_2 | apply IsS71.set_3 | apply IsS71.set_4 | apply IsS71.set_5 | apply IsS71.set_6 | apply IsS71.set_7 | refine IsS71.far ?_ NB0_131.out _) | exact HI0.out)) hb); have n1_ := Aside0.mk (blk_below (g := gb131) (o := .cells #[.int .i64 a2_0, .int .u32 a2_1, .int .u32 a2_2, .int .u64 a2_3, .int .u64 a2_4, .int .u32 a2_5, .int .i64 a2_6, .bool a2_7, .int .i64 a2_8, .slice A2_9 l2_9.length c2_9, .slice A2_10 l2_10.length c2_10] 30 (0, 0)) (by (with_reducible repeat (first | apply bd1 | apply bd2 | apply bd3)); exact BK131.out) hb); have n2_ := Aside0.mk (KeepBut.trans (by repeat (first | (with_reducible first | exact HK.out | apply KeepBut.set_ | apply keep_drewN | apply keep_drew | apply keep_alloc | refine keep_far ?_ GW131.out _) | exact HK.out)) (KeepBut.of_below hb g none) (.inl rfl)); have n3_ := Aside0.mk (below_step (by repeat (first | (with_reducible first | exact HB.out | apply below_alloc | apply pw_below_drewN | apply below_drew1 | refine below_set ?_ (IsS71.ge HI0.out) | refine below_set ?_ GE131.out) | exact HB.out)) hb); have n4_ := Aside0.mk (hbox); have n5_ := Aside0.mk ((by rw [hg]; exact (keep_size (w := w) (g := g) (row := none) (by repeat (first | (with_reducible first | exact HK.out | apply KeepBut.set_ | apply keep_drewN | apply keep_drew | apply keep_alloc | refine keep_far ?_ GW131.out _) | exact HK.out))) : w.heap.size ≤ gb132)); have n6_ := Aside0.mk ((Nat.le_trans HW0.out (by rw [hg]; exact (keep_size (w := w) (g := g) (row := none) (by repeat (first | (with_reducible first | exact HK.out | apply KeepBut.set_ | apply keep_drewN | apply keep_drew | apply keep_alloc | refine keep_far ?_ GW131.out _) | exact HK.out))) : w.heap.size ≤ gb132) : w0.heap.size ≤ gb132)); have n7_ := Aside0.mk ((by rw [hg]; exact Nat.ne_of_lt (blk_lt (g := gb131) (o := .cells #[.int .i64 a2_0, .int .u32 a2_1, .int .u32 a2_2, .int .u64 a2_3, .int .u64 a2_4, .int .u32 a2_5, .int .i64 a2_6, .bool a2_7, .int .i64 a2_8, .slice A2_9 l2_9.length c2_9, .slice A2_10 l2_10.length c2_10] 30 (0, 0)) (by (with_reducible repeat (first | apply bd1 | apply bd2 | apply bd3)); exact BK131.out)) : gb131 ≠ gb132)); have n8_ := Aside0.mk ((by rw [hg]; exact Nat.ne_of_gt (blk_lt (g := gb131) (o := .cells #[.int .i64 a2_0, .int .u32 a2_1, .int .u32 a2_2, .int .u64 a2_3, .int .u64 a2_4, .int .u32 a2_5, .int .i64 a2_6, .bool a2_7, .int .i64 a2_8, .slice A2_9 l2_9.length c2_9, .slice A2_10 l2_10.length c2_10] 30 (0, 0)) (by (with_reducible repeat (first | apply bd1 | apply bd2 | apply bd3)); exact BK131.out)) : gb132 ≠ gb131)); have n9_ := Aside0.mk ((by rw [hg]; exact Nat.ne_of_lt (IsS71.lt (show IsS71 w0 _ g s0_0 s0_1 s0_2 s0_3 s0_4 s0_5 s0_6 s0_7 from by repeat (first | (with_reducible first | exact HI0.out | apply IsS71.alloc | apply IsS71.drewN | apply IsS71.drew | apply IsS71.set_0 | apply IsS71.set_1 | apply IsS71.set_2 | apply IsS71.set_3 | apply IsS71.set_4 | apply IsS71.set_5 | apply IsS71.set_6 | apply IsS71.set_7 | refine IsS71.far ?_ NB0_131.out _) | exact HI0.out))) : g ≠ gb132)); have n10_ := Aside0.mk ((by rw [hg]; exact Nat.ne_of_gt (IsS71.lt (show IsS71 w0 _ g s0_0 s0_1 s0_2 s0_3 s0_4 s0_5 s0_6 s0_7 from by repeat (first | (with_reducible first | exact HI0.out | apply IsS71.alloc | apply IsS71.drewN | apply IsS71.drew | apply IsS71.set_0 | apply IsS71.set_1 | apply IsS71.set_2 | apply IsS71.set_3 | apply IsS71.set_4 | apply IsS71.set_5 | apply IsS71.set_6 | apply IsS71.set_7 | refine IsS71.far ?_ NB0_131.out _) | exact HI0.out))) : gb132 ≠ g)); clear HI0; clear BK131; clear HK; clear HB; have HI0 := n0_; have BK131 := n1_; have HK := n2_; have HB := n3_; have BK132 := n4_; have GW132 := n5_; have GE132 := n6_; have NB131_132 := n7_; have NB132_131 := n8_; have NB0_132 := n9_; have NB132_0 := n10_; clear n0_ n1_ n2_ n3_ n4_ n5_ n6_ n7_ n8_ n9_ n10_; clear hb hbox hg; have hnb19 := NB131_132.out; have hnc19 := NB132_131.out; have hnb20 := NB131_0.out; have hnc20 := NB0_131.out; obtain ⟨hcz21_0, hcz21_1, hcz21_2, hcz21_3, hcz21_4, hcz21_5, hcz21_6, hcz21_7, hcz21_8, hcz21_9, hcz21_10, hfz21_0, hfz21_1, hfz21_2, hfz21_3, hfz21_4, hfz21_5, hfz21_6, hfz21_7, hfz21_8, hfz21_9, hfz21_10⟩ := blk_all11 BK131.out; obtain ⟨HGz22, hgz22⟩ := HI0.out; have hcz22_0 := cellS71_0 HGz22; have hcz22_1 := cellS71_1 HGz22; have hcz22_2 := cellS71_2 HGz22; have hcz22_3 := cellS71_3 HGz22; have hcz22_4 := cellS71_4 HGz22; have hcz22_5 := cellS71_5 HGz22; have hcz22_6 := cellS71_6 HGz22; have hcz22_7 := cellS71_7 HGz22; have hfz22_0 := blk_frozen HGz22 0; have hfz22_1 := blk_frozen HGz22 1; have hfz22_2 := blk_frozen HGz22 2; have hfz22_3 := blk_frozen HGz22 3; have hfz22_4 := blk_frozen HGz22 4; have hfz22_5 := blk_frozen HGz22 5; have hfz22_6 := blk_frozen HGz22 6; have hfz22_7 := blk_frozen HGz22 7; clear HGz22 hgz22) | ((with_reducible refine gate_callee (f := 58) rfl ?_); refine goesL_ (some 51) rfl rfl Try.func58 (by kernel_rfl) rfl #[.agg #[.int .u32 s0_3, .int .i64 s0_4, .int .u64 s0_5, .int .i64 s0_6], .int .u64 s0_2, .int .i64 a1, .int .u32 a2_1, .int .u64 s0_0] rfl (by (try simp only [List.map_toArray, List.map_cons, List.map_nil]); first | done | rfl | (simp only [List.length_drop, List.length_take]; rfl)) ?_; (with_reducible refine (lease_Renew.calls k s0_3 s0_4 s0_5 s0_6 s0_2 a1 a2_1 s0_0 t138 t139 t140 t141 t142 _ A16.out).mono ?_); rintro e w23 ⟨rfl, hb⟩; refine ⟨_, rfl, ?_⟩; have n0_ := Aside0.mk (IsS71.below (by repeat (first | (with_reducible first | exact HI0.out | apply IsS71.alloc | apply IsS71.drewN | apply IsS71.drew | apply IsS71.set_0 | apply IsS71.set_1 | apply IsS71.set_2 | apply IsS71.set_3 | apply IsS71.set_4 | apply IsS71.set_5 | apply IsS71.set_6 | apply IsS71.set_7 | refine IsS71.far ?_ NB0_131.out _ | refine IsS71.far ?_ NB0_132.out _) | exact HI0.out)) hb); have n1_ := Aside0.mk (blk_below (g := gb131) (o := .cells #[.int .i64 a2_0, .int .u32 a2_1, .int .u32 a2_2, .int .u64 a2_3, .int .u64 a2_4, .int .u32 a2_5, .int .i64 a2_6, .bool a2_7, .int .i64 a2_8, .slice A2_9 l2_9.length c2_9, .slice A2_10 l2_10.length c2_10] 30 (0, 0)) (by (with_reducible repeat (first | apply bd1 | apply bd2 | apply bd3)); exact BK131.out) hb); have n2_ := Aside0.mk (blk_below (g := gb132) (o := .cells #[.int .u32 0, .int .i64 0, .int .u64 0, .int .i64 0] 42 (0, 0)) (by (with_reducible repeat (first | apply bd1 | apply bd2 | apply bd3)); exact BK132.out) hb); have n3_ := Aside0.mk (KeepBut.trans (by repeat (first | (with_reducible first | exact HK.out | apply KeepBut.set_ | apply keep_drewN | apply keep_drew | apply keep_alloc | refine keep_far ?_ GW131.out _ | refine keep_far ?_ GW132.out _) | exact HK.out)) (KeepBut.of_below hb g none) (.inl rfl)); have n4_ := Aside0.mk (below_step (by repeat (first | (with_reducible first | exact HB.out | apply below_alloc | apply pw_below_drewN | apply below_drew1 | refine below_set ?_ (IsS71.ge HI0.out) | refine below_set ?_ GE131.out | refine below_set ?_ GE132.out) | exact HB.out)) hb); clear HI0; clear BK131; clear BK132; clear HK; clear HB; have HI0 := n0_; have BK131 := n1_; have BK132 := n2_; have HK := n3_; have HB := n4_; clear n0_ n1_ n2_ n3_ n4_; (try clear hb); (try clear hb2); (try clear hk); (try clear hi); have hnb24 := NB132_0.out; have hnc24 := NB0_132.out; obtain ⟨hcz25_0, hcz25_1, hcz25_2, hcz25_3, hfz25_0, hfz25_1, hfz25_2, hfz25_3⟩ := blk_all4 BK132.out))
      have n_HI0 := Aside0.mk (IsS71.drew HI0.out)
      have n_BK131 := Aside0.mk (blk_drew BK131.out)
      have n_BK132 := Aside0.mk (blk_drew BK132.out)
      have n_HK := Aside0.mk (keep_drew HK.out)
      have n_HB := Aside0.mk (below_drew1 HB.out)
      clear HI0 BK131 BK132 HK HB
      have HI0 := n_HI0
      have BK131 := n_BK131
      have BK132 := n_BK132
      have HK := n_HK
      have HB := n_HB
      clear n_HI0 n_BK131 n_BK132 n_HK n_HB
      refine start_ (n := 20) (S := fun w' => w'.cell? ⟨g, 0, none⟩ = some (.int .u64 s0_0) ∧ w'.cell? ⟨g, 1, none⟩ = some (.int .u64 s0_1) ∧ w'.cell? ⟨g, 2, none⟩ = some (.int .u64 s0_2) ∧ w'.cell? ⟨g, 3, none⟩ = some (.int .u32 s0_3) ∧ w'.cell? ⟨g, 4, none⟩ = some (.int .i64 s0_4) ∧ w'.cell? ⟨g, 5, none⟩ = some (.int .u64 s0_5) ∧ w'.cell? ⟨g, 6, none⟩ = some (.int .i64 s0_6) ∧ w'.cell? ⟨g, 7, none⟩ = some (.int .i64 s0_7) ∧ w'.cell? ⟨gb131, 1, none⟩ = some (.int .u32 a2_1) ∧ w'.cell? ⟨gb131, 8, none⟩ = some (.int .i64 a2_8)) (ds := []) #[false, false, false, false, false, false, false, false, false, false, false, false, false, false, false, false, false, false, false, false] (by kernel_rfl) rfl rfl ⟨cellS71_0 (HI0.out).1, cellS71_1 (HI0.out).1, cellS71_2 (HI0.out).1, cellS71_3 (HI0.out).1, cellS71_4 (HI0.out).1, cellS71_5 (HI0.out).1, cellS71_6 (HI0.out).1, cellS71_7 (HI0.out).1, (blk_cell (BK131.out) 1).trans rfl, (blk_cell (BK131.out) 8).trans rfl⟩ (fun hHeld => ?_); refine with_tabW arbiter_Arbiter_next.tab4 arbiter_Arbiter_next.bits4 (fun HT_ HW_ => ?_)
      generalize w18.drew = wd_ at HI0 BK131 BK132 HK HB hHeld ⊢
      refine pure_ (i := 0) (N := some 36) (v := ?_) (a' := ?_) #[true, false, false, false, false, false, false, false, false, false, false, false, false, false, false, false, false, false, false, false] rfl rfl (any_of HT_.out (by kernel_rfl)) (fun _ _ _ h => h) (Or.inl ⟨by rfl, ?_⟩) ?_ ?_
      rotate_left
      ·
       intro w'; go_simp; with_reducible rfl
      rotate_left
      ·
       simp only [Act.put, List.setIfInBounds_toArray, List.set_cons_zero, List.set_cons_succ, i64_w, i32_w]; rfl
      refine pure_ (i := 1) (N := some 37) (v := ?_) (a' := ?_) #[true, true, false, false, false, false, false, false, false, false, false, false, false, false, false, false, false, false, false, false] rfl rfl (any_of HT_.out (by kernel_rfl)) (fun _ _ _ h => h) (Or.inl ⟨by rfl, ?_⟩) ?_ ?_
      rotate_left
      ·
       intro w'; go_simp; with_reducible rfl
      rotate_left
      ·
       simp only [Act.put, List.setIfInBounds_toArray, List.set_cons_zero, List.set_cons_succ, i64_w, i32_w]; rfl
      refine pure_ (i := 2) (N := some 38) (v := ?_) (a' := ?_) #[true, true, true, false, false, false, false, false, false, false, false, false, false, false, false, false, false, false, false, false] rfl rfl (any_of HT_.out (by kernel_rfl)) (fun _ _ _ h => h) (Or.inl ⟨by rfl, ?_⟩) ?_ ?_
      rotate_left
      ·
       intro w'; go_simp; with_reducible rfl
      rotate_left
      ·
       simp only [Act.put, List.setIfInBounds_toArray, List.set_cons_zero, List.set_cons_succ, i64_w, i32_w]; rfl
      refine take_ (i := 3) (N := some 39) (v := ?_) (a' := ?_) #[true, true, true, true, false, false, false, false, false, false, false, false, false, false, false, false, false, false, false, false] rfl rfl (take_ofW HT_.out HW_.out (by kernel_rfl)) (fun _ _ _ h => h) (Or.inl ⟨by rfl, ?_⟩) hHeld ?_ ?_
      rotate_left
      ·
       rintro w' ⟨s0, s1, s2, s3, s4, s5, s6, s7, s8, s9⟩; go_simp; with_reducible rfl
      rotate_left
      ·
       simp only [Act.put, List.setIfInBounds_toArray, List.set_cons_zero, List.set_cons_succ, i64_w, i32_w]; rfl
      refine pure_ (i := 4) (N := some 40) (v := ?_) (a' := ?_) #[true, true, true, true, true, false, false, false, false, false, false, false, false, false, false, false, false, false, false, false] rfl rfl (any_of HT_.out (by kernel_rfl)) (fun _ _ _ h => h) (Or.inl ⟨by rfl, ?_⟩) ?_ ?_
      rotate_left
      ·
       intro w'; go_simp; with_reducible rfl
      rotate_left
      ·
       simp only [Act.put, List.setIfInBounds_toArray, List.set_cons_zero, List.set_cons_succ, i64_w, i32_w]; rfl
      refine pure_ (i := 5) (N := some 41) (v := ?_) (a' := ?_) #[true, true, true, true, true, true, false, false, false, false, false, false, false, false, false, false, false, false, false, false] rfl rfl (any_of HT_.out (by kernel_rfl)) (fun _ _ _ h => h) (Or.inl ⟨by rfl, ?_⟩) ?_ ?_
      rotate_left
      ·
       intro w'; go_simp; with_reducible rfl
      rotate_left
      ·
       simp only [Act.put, List.setIfInBounds_toArray, List.set_cons_zero, List.set_cons_succ, i64_w, i32_w]; rfl
      refine pure_ (i := 6) (N := some 42) (v := ?_) (a' := ?_) #[true, true, true, true, true, true, true, false, false, false, false, false, false, false, false, false, false, false, false, false] rfl rfl (any_of HT_.out (by kernel_rfl)) (fun _ _ _ h => h) (Or.inl ⟨by rfl, ?_⟩) ?_ ?_
      rotate_left
      ·
       intro w'; go_simp; with_reducible rfl
      rotate_left
      ·
       simp only [Act.put, List.setIfInBounds_toArray, List.set_cons_zero, List.set_cons_succ, i64_w, i32_w]; rfl
      refine take_ (i := 7) (N := some 43) (v := ?_) (a' := ?_) #[true, true, true, true, true, true, true, true, false, false, false, false, false, false, false, false, false, false, false, false] rfl rfl (take_ofW HT_.out HW_.out (by kernel_rfl)) (fun _ _ _ h => h) (Or.inl ⟨by rfl, ?_⟩) hHeld ?_ ?_
      rotate_left
      ·
       rintro w' ⟨s0, s1, s2, s3, s4, s5, s6, s7, s8, s9⟩; go_simp; with_reducible rfl
      rotate_left
      ·
       simp only [Act.put, List.setIfInBounds_toArray, List.set_cons_zero, List.set_cons_succ, i64_w, i32_w]; rfl
      refine pure_ (i := 8) (N := some 44) (v := ?_) (a' := ?_) #[true, true, true, true, true, true, true, true, true, false, false, false, false, false, false, false, false, false, false, false] rfl rfl (any_of HT_.out (by kernel_rfl)) (fun _ _ _ h => h) (Or.inl ⟨by rfl, ?_⟩) ?_ ?_
      rotate_left
      ·
       intro w'; go_simp; with_reducible rfl
      rotate_left
      ·
       simp only [Act.put, List.setIfInBounds_toArray, List.set_cons_zero, List.set_cons_succ, i64_w, i32_w]; rfl
      refine pure_ (i := 9) (N := some 45) (v := ?_) (a' := ?_) #[true, true, true, true, true, true, true, true, true, true, false, false, false, false, false, false, false, false, false, false] rfl rfl (any_of HT_.out (by kernel_rfl)) (fun _ _ _ h => h) (Or.inl ⟨by rfl, ?_⟩) ?_ ?_
      rotate_left
      ·
       intro w'; go_simp; with_reducible rfl
      rotate_left
      ·
       simp only [Act.put, List.setIfInBounds_toArray, List.set_cons_zero, List.set_cons_succ, i64_w, i32_w]; rfl
      refine take_ (i := 10) (N := some 46) (v := ?_) (a' := ?_) #[true, true, true, true, true, true, true, true, true, true, true, false, false, false, false, false, false, false, false, false] rfl rfl (take_ofW HT_.out HW_.out (by kernel_rfl)) (fun _ _ _ h => h) (Or.inl ⟨by rfl, ?_⟩) hHeld ?_ ?_
      rotate_left
      ·
       rintro w' ⟨s0, s1, s2, s3, s4, s5, s6, s7, s8, s9⟩; go_simp; with_reducible rfl
      rotate_left
      ·
       simp only [Act.put, List.setIfInBounds_toArray, List.set_cons_zero, List.set_cons_succ, i64_w, i32_w]; rfl
      refine pure_ (i := 11) (N := some 47) (v := ?_) (a' := ?_) #[true, true, true, true, true, true, true, true, true, true, true, true, false, false, false, false, false, false, false, false] rfl rfl (any_of HT_.out (by kernel_rfl)) (fun _ _ _ h => h) (Or.inl ⟨by rfl, ?_⟩) ?_ ?_
      rotate_left
      ·
       intro w'; go_simp; with_reducible rfl
      rotate_left
      ·
       simp only [Act.put, List.setIfInBounds_toArray, List.set_cons_zero, List.set_cons_succ, i64_w, i32_w]; rfl
      refine pure_ (i := 12) (N := some 48) (v := ?_) (a' := ?_) #[true, true, true, true, true, true, true, true, true, true, true, true, true, false, false, false, false, false, false, false] rfl rfl (any_of HT_.out (by kernel_rfl)) (fun _ _ _ h => h) (Or.inl ⟨by rfl, ?_⟩) ?_ ?_
      rotate_left
      ·
       intro w'; go_simp; with_reducible rfl
      rotate_left
      ·
       simp only [Act.put, List.setIfInBounds_toArray, List.set_cons_zero, List.set_cons_succ, i64_w, i32_w]; rfl
      refine pure_ (i := 13) (N := some 49) (v := ?_) (a' := ?_) #[true, true, true, true, true, true, true, true, true, true, true, true, true, true, false, false, false, false, false, false] rfl rfl (any_of HT_.out (by kernel_rfl)) (fun _ _ _ h => h) (Or.inl ⟨by rfl, ?_⟩) ?_ ?_
      rotate_left
      ·
       intro w'; go_simp; with_reducible rfl
      rotate_left
      ·
       simp only [Act.put, List.setIfInBounds_toArray, List.set_cons_zero, List.set_cons_succ, i64_w, i32_w]; rfl
      refine take_ (i := 14) (N := some 50) (v := ?_) (a' := ?_) #[true, true, true, true, true, true, true, true, true, true, true, true, true, true, true, false, false, false, false, false] rfl rfl (take_ofW HT_.out HW_.out (by kernel_rfl)) (fun _ _ _ h => h) (Or.inl ⟨by rfl, ?_⟩) hHeld ?_ ?_
      rotate_left
      ·
       rintro w' ⟨s0, s1, s2, s3, s4, s5, s6, s7, s8, s9⟩; go_simp; with_reducible rfl
      rotate_left
      ·
       simp only [Act.put, List.setIfInBounds_toArray, List.set_cons_zero, List.set_cons_succ, i64_w, i32_w]; rfl
      refine one_ (i := 15) (N := some 51) #[true, true, true, true, true, true, true, true, true, true, true, true, true, true, true, true, false, false, false, false] rfl rfl (one_of HT_.out (by kernel_rfl)) (by decide) (fun K hK => ?_)
      refine goes_ Try.func58 (by kernel_rfl) rfl #[.agg #[.int .u32 s0_3, .int .i64 s0_4, .int .u64 s0_5, .int .i64 s0_6], .int .u64 s0_2, .int .i64 a1, .int .u32 a2_1, .int .u64 s0_0] (by rfl) rfl rfl (by (try simp only [List.map_toArray, List.map_cons, List.map_nil]); first | done | rfl | (simp only [List.length_drop, List.length_take]; rfl)) ?_
      (with_reducible refine (lease_Renew.calls k s0_3 s0_4 s0_5 s0_6 s0_2 a1 a2_1 s0_0 t138 t139 t140 t141 t142 _ A16.out).mono ?_)
      rintro e w23 ⟨rfl, hb⟩
      refine ⟨_, rfl, ?_⟩
      have n0_ := Aside0.mk (IsS71.below (by repeat (first | (with_reducible first | exact HI0.out | apply IsS71.alloc | apply IsS71.drewN | apply IsS71.drew | apply IsS71.set_0 | apply IsS71.set_1 | apply IsS71.set_2 | apply IsS71.set_3 | apply IsS71.set_4 | apply IsS71.set_5 | apply IsS71.set_6 | apply IsS71.set_7 | refine IsS71.far ?_ NB0_131.out _ | refine IsS71.far ?_ NB0_132.out _) | exact HI0.out)) hb)
      have n1_ := Aside0.mk (blk_below (g := gb131) (o := .cells #[.int .i64 a2_0, .int .u32 a2_1, .int .u32 a2_2, .int .u64 a2_3, .int .u64 a2_4, .int .u32 a2_5, .int .i64 a2_6, .bool a2_7, .int .i64 a2_8, .slice A2_9 l2_9.length c2_9, .slice A2_10 l2_10.length c2_10] 30 (0, 0)) (by (with_reducible repeat (first | apply bd1 | apply bd2 | apply bd3)); exact BK131.out) hb)
      have n2_ := Aside0.mk (blk_below (g := gb132) (o := .cells #[.int .u32 0, .int .i64 0, .int .u64 0, .int .i64 0] 42 (0, 0)) (by (with_reducible repeat (first | apply bd1 | apply bd2 | apply bd3)); exact BK132.out) hb)
      have n3_ := Aside0.mk (KeepBut.trans (by repeat (first | (with_reducible first | exact HK.out | apply KeepBut.set_ | apply keep_drewN | apply keep_drew | apply keep_alloc | refine keep_far ?_ GW131.out _ | refine keep_far ?_ GW132.out _) | exact HK.out)) (KeepBut.of_below hb g none) (.inl rfl))
      have n4_ := Aside0.mk (below_step (by repeat (first | (with_reducible first | exact HB.out | apply below_alloc | apply pw_below_drewN | apply below_drew1 | refine below_set ?_ (IsS71.ge HI0.out) | refine below_set ?_ GE131.out | refine below_set ?_ GE132.out) | exact HB.out)) hb)
      clear HI0
      clear BK131
      clear BK132
      clear HK
      clear HB
      have HI0 := n0_
      have BK131 := n1_
      have BK132 := n2_
      have HK := n3_
      have HB := n4_
      clear n0_ n1_ n2_ n3_ n4_
      (try clear hb)
      (try clear hb2)
      (try clear hk)
      (try clear hi)
      refine hK.out _ _ ⟨cellS71_0 (HI0.out).1, cellS71_1 (HI0.out).1, cellS71_2 (HI0.out).1, cellS71_3 (HI0.out).1, cellS71_4 (HI0.out).1, cellS71_5 (HI0.out).1, cellS71_6 (HI0.out).1, cellS71_7 (HI0.out).1, (blk_cell (BK131.out) 1).trans rfl, (blk_cell (BK131.out) 8).trans rfl⟩ (fun hHeld => ?_)
      clear hK K
      refine norm_ (a' := ?_) ?_ ?_
      rotate_left
      ·
       show Act.put _ (some 51) _ = _
       simp only [Act.put, List.setIfInBounds_toArray, List.set_cons_zero, List.set_cons_succ, i64_w, i32_w]; rfl
      refine pure_ (i := 16) (N := some 52) (v := ?_) (a' := ?_) #[true, true, true, true, true, true, true, true, true, true, true, true, true, true, true, true, true, false, false, false] rfl rfl (any_of HT_.out (by kernel_rfl)) (fun _ _ _ h => h) (Or.inl ⟨by rfl, ?_⟩) ?_ ?_
      rotate_left
      ·
       intro w'; go_simp; with_reducible rfl
      rotate_left
      ·
       simp only [Act.put, List.setIfInBounds_toArray, List.set_cons_zero, List.set_cons_succ, i64_w, i32_w]; rfl
      refine pure_ (i := 17) (N := some 53) (v := ?_) (a' := ?_) #[true, true, true, true, true, true, true, true, true, true, true, true, true, true, true, true, true, true, false, false] rfl rfl (any_of HT_.out (by kernel_rfl)) (fun _ _ _ h => h) (Or.inl ⟨by rfl, ?_⟩) ?_ ?_
      rotate_left
      ·
       intro w'; go_simp; with_reducible rfl
      rotate_left
      ·
       simp only [Act.put, List.setIfInBounds_toArray, List.set_cons_zero, List.set_cons_succ, i64_w, i32_w]; rfl
      refine one_ (i := 18) (N := none) #[true, true, true, true, true, true, true, true, true, true, true, true, true, true, true, true, true, true, true, false] rfl rfl (one_of HT_.out (by kernel_rfl)) (by decide) (fun K hK => ?_)
      have hnb24 := NB132_0.out
      have hnc24 := NB0_132.out
      obtain ⟨hcz25_0, hcz25_1, hcz25_2, hcz25_3, hfz25_0, hfz25_1, hfz25_2, hfz25_3⟩ := blk_all4 BK132.out
      refine skip_ (w1 := ?_) (by rfl) rfl ?_ ?_
      rotate_left
      ·
       go_simp; rfl
      refine hK.out _ _ ⟨cellS71_0 ((IsS71.far (IsS71.far (IsS71.far (IsS71.far HI0.out NB0_132.out _) NB0_132.out _) NB0_132.out _) NB0_132.out _)).1, cellS71_1 ((IsS71.far (IsS71.far (IsS71.far (IsS71.far HI0.out NB0_132.out _) NB0_132.out _) NB0_132.out _) NB0_132.out _)).1, cellS71_2 ((IsS71.far (IsS71.far (IsS71.far (IsS71.far HI0.out NB0_132.out _) NB0_132.out _) NB0_132.out _) NB0_132.out _)).1, cellS71_3 ((IsS71.far (IsS71.far (IsS71.far (IsS71.far HI0.out NB0_132.out _) NB0_132.out _) NB0_132.out _) NB0_132.out _)).1, cellS71_4 ((IsS71.far (IsS71.far (IsS71.far (IsS71.far HI0.out NB0_132.out _) NB0_132.out _) NB0_132.out _) NB0_132.out _)).1, cellS71_5 ((IsS71.far (IsS71.far (IsS71.far (IsS71.far HI0.out NB0_132.out _) NB0_132.out _) NB0_132.out _) NB0_132.out _)).1, cellS71_6 ((IsS71.far (IsS71.far (IsS71.far (IsS71.far HI0.out NB0_132.out _) NB0_132.out _) NB0_132.out _) NB0_132.out _)).1, cellS71_7 ((IsS71.far (IsS71.far (IsS71.far (IsS71.far HI0.out NB0_132.out _) NB0_132.out _) NB0_132.out _) NB0_132.out _)).1, (blk_cell ((blk_far (blk_far (blk_far (blk_far BK131.out NB131_132.out _) NB131_132.out _) NB131_132.out _) NB131_132.out _)) 1).trans rfl, (blk_cell ((blk_far (blk_far (blk_far (blk_far BK131.out NB131_132.out _) NB131_132.out _) NB131_132.out _) NB131_132.out _)) 8).trans rfl⟩ (fun hHeld => ?_)
      clear hK K hHeld
      refine pure_ (i := 19) (N := some 7) (v := ?_) (a' := ?_) #[true, true, true, true, true, true, true, true, true, true, true, true, true, true, true, true, true, true, true, true] rfl rfl (any_of HT_.out (by kernel_rfl)) (fun _ _ _ h => h) (Or.inl ⟨by rfl, ?_⟩) ?_ ?_
      rotate_left
      ·
       intro w'; go_simp; with_reducible rfl
      rotate_left
      ·
       simp only [Act.put, List.setIfInBounds_toArray, List.set_cons_zero, List.set_cons_succ, i64_w, i32_w]; rfl
      refine done_ (done_of HT_.out (by kernel_rfl)) ?_
      clear HT_ HW_
      go_wp2
      refine bodyPost_ret (results_ct rfl _ _ gb132 42 #[.int .u32 t138, .int .i64 t139, .int .u64 t140, .int .i64 t141] (0, 0) _ rfl (by (with_reducible repeat (first | apply bd1 | apply bd2 | apply bd3)); refine blk_put (cs := #[.int .u32 t138, .int .i64 t139, .int .u64 t140, .int .i64 0]) ?_ 3 _ rfl; (with_reducible repeat (first | apply bd1 | apply bd2 | apply bd3)); refine blk_put (cs := #[.int .u32 t138, .int .i64 t139, .int .u64 0, .int .i64 0]) ?_ 2 _ rfl; (with_reducible repeat (first | apply bd1 | apply bd2 | apply bd3)); refine blk_put (cs := #[.int .u32 t138, .int .i64 0, .int .u64 0, .int .i64 0]) ?_ 1 _ rfl; (with_reducible repeat (first | apply bd1 | apply bd2 | apply bd3)); refine blk_put (cs := #[.int .u32 0, .int .i64 0, .int .u64 0, .int .i64 0]) ?_ 0 _ rfl; (with_reducible repeat (first | apply bd1 | apply bd2 | apply bd3)); exact BK132.out) Try.underlying42 rfl (by kernel_rfl)) rfl ?_
      exact ⟨by first | rfl | (simp [errW_none, errW_some] <;> rfl) | (simp [*, errW_none, errW_some] <;> rfl), by repeat (first | (with_reducible first | exact HI0.out | apply IsS71.alloc | apply IsS71.drewN | apply IsS71.drew | apply IsS71.set_0 | apply IsS71.set_1 | apply IsS71.set_2 | apply IsS71.set_3 | apply IsS71.set_4 | apply IsS71.set_5 | apply IsS71.set_6 | apply IsS71.set_7 | refine IsS71.far ?_ NB0_131.out _ | refine IsS71.far ?_ NB0_132.out _) | exact HI0.out), by repeat (first | (with_reducible first | exact HB.out | apply below_alloc | apply pw_below_drewN | apply below_drew1 | refine below_set ?_ (IsS71.ge HI0.out) | refine below_set ?_ GE131.out | refine below_set ?_ GE132.out) | exact HB.out), by repeat (first | (with_reducible first | exact HK.out | apply KeepBut.set_ | apply keep_drewN | apply keep_drew | apply keep_alloc | refine keep_far ?_ GW131.out _ | refine keep_far ?_ GW132.out _) | exact HK.out)⟩
    · rw [if_neg c15] at H
      have c15b0 : (a2_8 == 0) = false := beq_eq_false_iff_ne.mpr c15
      have c15b1 : (a2_8 != 0) = true := bne_iff_ne.mpr c15
      replace H := Option.bind_eq_some_iff.mp H
      obtain ⟨⟨t143, t144, t145, t146, t147⟩, A260, H⟩ := H
      replace H : (some (t143, t144, t145, t146, t147, s0_0, s0_1, s0_2, s0_3, s0_4, s0_5, s0_6, s0_7)) = some (r1, r2, r3, r4, r5, r6, r7, r8, r9, r10, r11, r12, r13) := H
      have A26 := Aside0.mk A260
      clear A260
      simp only [Option.some.injEq, Prod.mk.injEq] at H
      obtain ⟨rfl, rfl, rfl, rfl, rfl, rfl, rfl, rfl, rfl, rfl, rfl, rfl, rfl⟩ := H
      go_enter Try.func33, Try.ntmps33
      go_wp2_with (first | ((with_reducible refine gate_dst (N := 5) rfl ?_); refine box_event ?hg (N := 5) ?hd (cs := #[.int .i64 a2_0, .int .u32 a2_1, .int .u32 a2_2, .int .u64 a2_3, .int .u64 a2_4, .int .u32 a2_5, .int .i64 a2_6, .bool a2_7, .int .i64 a2_8, .slice A2_9 l2_9.length c2_9, .slice A2_10 l2_10.length c2_10]) (t := 30) ?hr ?_; (case hd => rfl); (case hg => rfl); (case hr => first | (go_simp; done) | (go_simp; rfl)); intro gb131 hg w27 hbox hb; have n0_ := Aside0.mk (IsS71.below (by repeat (first | (with_reducible first | exact HI0.out | apply IsS71.alloc | apply IsS71.drewN | apply IsS71.drew | apply IsS71.set_0 | apply IsS71.set_1 | apply IsS71.set_2 | apply IsS71.set_3 | apply IsS71.set_4 | apply IsS71.set_5 | apply IsS71.set_6 | apply IsS71.set_7) | exact HI0.out)) hb); have n1_ := Aside0.mk (KeepBut.trans (by repeat (first | (with_reducible first | exact HK.out | apply KeepBut.set_ | apply keep_drewN | apply keep_drew | apply keep_alloc) | exact HK.out)) (KeepBut.of_below hb g none) (.inl rfl)); have n2_ := Aside0.mk (below_step (by repeat (first | (with_reducible first | exact HB.out | apply below_alloc | apply pw_below_drewN | apply below_drew1 | refine below_set ?_ (IsS71.ge HI0.out)) | exact HB.out)) hb); have n3_ := Aside0.mk (hbox); have n4_ := Aside0.mk ((by rw [hg]; exact (keep_size (w := w) (g := g) (row := none) (by repeat (first | (with_reducible first | exact HK.out | apply KeepBut.set_ | apply keep_drewN | apply keep_drew | apply keep_alloc) | exact HK.out))) : w.heap.size ≤ gb131)); have n5_ := Aside0.mk ((Nat.le_trans HW0.out (by rw [hg]; exact (keep_size (w := w) (g := g) (row := none) (by repeat (first | (with_reducible first | exact HK.out | apply KeepBut.set_ | apply keep_drewN | apply keep_drew | apply keep_alloc) | exact HK.out))) : w.heap.size ≤ gb131) : w0.heap.size ≤ gb131)); have n6_ := Aside0.mk ((by rw [hg]; exact Nat.ne_of_lt (IsS71.lt (show IsS71 w0 _ g s0_0 s0_1 s0_2 s0_3 s0_4 s0_5 s0_6 s0_7 from by repeat (first | (with_reducible first | exact HI0.out | apply IsS71.alloc | apply IsS71.drewN | apply IsS71.drew | apply IsS71.set_0 | apply IsS71.set_1 | apply IsS71.set_2 | apply IsS71.set_3 | apply IsS71.set_4 | apply IsS71.set_5 | apply IsS71.set_6 | apply IsS71.set_7) | exact HI0.out))) : g ≠ gb131)); have n7_ := Aside0.mk ((by rw [hg]; exact Nat.ne_of_gt (IsS71.lt (show IsS71 w0 _ g s0_0 s0_1 s0_2 s0_3 s0_4 s0_5 s0_6 s0_7 from by repeat (first | (with_reducible first | exact HI0.out | apply IsS71.alloc | apply IsS71.drewN | apply IsS71.drew | apply IsS71.set_0 | apply IsS71.set_1 | apply IsS71.set_2 | apply IsS71.set_3 | apply IsS71.set_4 | apply IsS71.set_5 | apply IsS71.set_6 | apply IsS71.set_7) | exact HI0.out))) : gb131 ≠ g)); clear HI0; clear HK; clear HB; have HI0 := n0_; have HK := n1_; have HB := n2_; have BK131 := n3_; have GW131 := n4_; have GE131 := n5_; have NB0_131 := n6_; have NB131_0 := n7_; clear n0_ n1_ n2_ n3_ n4_ n5_ n6_ n7_; clear hb hbox hg) | ((with_reducible refine gate_dst (N := 6) rfl ?_); refine box_event ?hg (N := 6) ?hd (cs := #[.int .u32 0, .int .i64 0, .int .u64 0, .int .i64 0]) (t := 42) ?hr ?_; (case hd => rfl); (case hg => rfl); (case hr => first | (go_simp; done) | (go_simp; rfl)); intro gb132 hg w28 hbox hb; have n0_ := Aside0.mk (IsS71.below (by repeat (first | (with_reducible first | exact HI0.out | apply IsS71.alloc | apply IsS71.drewN | apply IsS71.drew | apply IsS71.set_0 | apply IsS71.set_1 | apply IsS71.set_2 | apply IsS71.set_3 | apply IsS71.set_4 | apply IsS71.set_5 | apply IsS71.set_6 | apply IsS71.set_7 | refine IsS71.far ?_ NB0_131.out _) | exact HI0.out)) hb); have n1_ := Aside0.mk (blk_below (g := gb131) (o := .cells #[.int .i64 a2_0, .int .u32 a2_1, .int .u32 a2_2, .int .u64 a2_3, .int .u64 a2_4, .int .u32 a2_5, .int .i64 a2_6, .bool a2_7, .int .i64 a2_8, .slice A2_9 l2_9.length c2_9, .slice A2_10 l2_10.length c2_10] 30 (0, 0)) (by (with_reducible repeat (first | apply bd1 | apply bd2 | apply bd3)); exact BK131.out) hb); have n2_ := Aside0.mk (KeepBut.trans (by repeat (first | (with_reducible first | exact HK.out | apply KeepBut.set_ | apply keep_drewN | apply keep_drew | apply keep_alloc | refine keep_far ?_ GW131.out _) | exact HK.out)) (KeepBut.of_below hb g none) (.inl rfl)); have n3_ := Aside0.mk (below_step (by repeat (first | (with_reducible first | exact HB.out | apply below_alloc | apply pw_below_drewN | apply below_drew1 | refine below_set ?_ (IsS71.ge HI0.out) | refine below_set ?_ GE131.out) | exact HB.out)) hb); have n4_ := Aside0.mk (hbox); have n5_ := Aside0.mk ((by rw [hg]; exact (keep_size (w := w) (g := g) (row := none) (by repeat (first | (with_reducible first | exact HK.out | apply KeepBut.set_ | apply keep_drewN | apply keep_drew | apply keep_alloc | refine keep_far ?_ GW131.out _) | exact HK.out))) : w.heap.size ≤ gb132)); have n6_ := Aside0.mk ((Nat.le_trans HW0.out (by rw [hg]; exact (keep_size (w := w) (g := g) (row := none) (by repeat (first | (with_reducible first | exact HK.out | apply KeepBut.set_ | apply keep_drewN | apply keep_drew | apply keep_alloc | refine keep_far ?_ GW131.out _) | exact HK.out))) : w.heap.size ≤ gb132) : w0.heap.size ≤ gb132)); have n7_ := Aside0.mk ((by rw [hg]; exact Nat.ne_of_lt (blk_lt (g := gb131) (o := .cells #[.int .i64 a2_0, .int .u32 a2_1, .int .u32 a2_2, .int .u64 a2_3, .int .u64 a2_4, .int .u32 a2_5, .int .i64 a2_6, .bool a2_7, .int .i64 a2_8, .slice A2_9 l2_9.length c2_9, .slice A2_10 l2_10.length c2_10] 30 (0, 0)) (by (with_reducible repeat (first | apply bd1 | apply bd2 | apply bd3)); exact BK131.out)) : gb131 ≠ gb132)); have n8_ := Aside0.mk ((by rw [hg]; exact Nat.ne_of_gt (blk_lt (g := gb131) (o := .cells #[.int .i64 a2_0, .int .u32 a2_1, .int .u32 a2_2, .int .u64 a2_3, .int .u64 a2_4, .int .u32 a2_5, .int .i64 a2_6, .bool a2_7, .int .i64 a2_8, .slice A2_9 l2_9.length c2_9, .slice A2_10 l2_10.length c2_10] 30 (0, 0)) (by (with_reducible repeat (first | apply bd1 | apply bd2 | apply bd3)); exact BK131.out)) : gb132 ≠ gb131)); have n9_ := Aside0.mk ((by rw [hg]; exact Nat.ne_of_lt (IsS71.lt (show IsS71 w0 _ g s0_0 s0_1 s0_2 s0_3 s0_4 s0_5 s0_6 s0_7 from by repeat (first | (with_reducible first | exact HI0.out | apply IsS71.alloc | apply IsS71.drewN | apply IsS71.drew | apply IsS71.set_0 | apply IsS71.set_1 | apply IsS71.set_2 | apply IsS71.set_3 | apply IsS71.set_4 | apply IsS71.set_5 | apply IsS71.set_6 | apply IsS71.set_7 | refine IsS71.far ?_ NB0_131.out _) | exact HI0.out))) : g ≠ gb132)); have n10_ := Aside0.mk ((by rw [hg]; exact Nat.ne_of_gt (IsS71.lt (show IsS71 w0 _ g s0_0 s0_1 s0_2 s0_3 s0_4 s0_5 s0_6 s0_7 from by repeat (first | (with_reducible first | exact HI0.out | apply IsS71.alloc | apply IsS71.drewN | apply IsS71.drew | apply IsS71.set_0 | apply IsS71.set_1 | apply IsS71.set_2 | apply IsS71.set_3 | apply IsS71.set_4 | apply IsS71.set_5 | apply IsS71.set_6 | apply IsS71.set_7 | refine IsS71.far ?_ NB0_131.out _) | exact HI0.out))) : gb132 ≠ g)); clear HI0; clear BK131; clear HK; clear HB; have HI0 := n0_; have BK131 := n1_; have HK := n2_; have HB := n3_; have BK132 := n4_; have GW132 := n5_; have GE132 := n6_; have NB131_132 := n7_; have NB132_131 := n8_; have NB0_132 := n9_; have NB132_0 := n10_; clear n0_ n1_ n2_ n3_ n4_ n5_ n6_ n7_ n8_ n9_ n10_; clear hb hbox hg; have hnb29 := NB131_132.out; have hnc29 := NB132_131.out; have hnb30 := NB131_0.out; have hnc30 := NB0_131.out; obtain ⟨hcz31_0, hcz31_1, hcz31_2, hcz31_3, hcz31_4, hcz31_5, hcz31_6, hcz31_7, hcz31_8, hcz31_9, hcz31_10, hfz31_0, hfz31_1, hfz31_2, hfz31_3, hfz31_4, hfz31_5, hfz31_6, hfz31_7, hfz31_8, hfz31_9, hfz31_10⟩ := blk_all11 BK131.out; obtain ⟨HGz32, hgz32⟩ := HI0.out; have hcz32_0 := cellS71_0 HGz32; have hcz32_1 := cellS71_1 HGz32; have hcz32_2 := cellS71_2 HGz32; have hcz32_3 := cellS71_3 HGz32; have hcz32_4 := cellS71_4 HGz32; have hcz32_5 := cellS71_5 HGz32; have hcz32_6 := cellS71_6 HGz32; have hcz32_7 := cellS71_7 HGz32; have hfz32_0 := blk_frozen HGz32 0; have hfz32_1 := blk_frozen HGz32 1; have hfz32_2 := blk_frozen HGz32 2; have hfz32_3 := blk_frozen HGz32 3; have hfz32_4 := blk_frozen HGz32 4; have hfz32_5 := blk_frozen HGz32 5; have hfz32_6 := blk_frozen HGz32 6; have hfz32_7 := blk_frozen HGz32 7; clear HGz32 hgz32) | ((with_reducible refine gate_callee (f := 59) rfl ?_); refine goesL_ (some 67) rfl rfl Try.func59 (by kernel_rfl) rfl #[.agg #[.int .u32 s0_3, .int .i64 s0_4, .int .u64 s0_5, .int .i64 s0_6], .int .u64 s0_2, .int .i64 a1, .int .u32 a2_1, .int .i64 a2_8] rfl (by (try simp only [List.map_toArray, List.map_cons, List.map_nil]); first | done | rfl | (simp only [List.length_drop, List.length_take]; rfl)) ?_; (with_reducible refine (lease_Turn.calls k s0_3 s0_4 s0_5 s0_6 s0_2 a1 a2_1 a2_8 t143 t144 t145 t146 t147 _ A26.out).mono ?_); rintro e w33 ⟨rfl, hb⟩; refine ⟨_, rfl, ?_⟩; have n0_ := Aside0.mk (IsS71.below (by repeat (first | (with_reducible first | exact HI0.out | apply IsS71.alloc | apply IsS71.drewN | apply IsS71.drew | apply IsS71.set_0 | apply IsS71.set_1 | apply IsS71.set_2 | apply IsS71.set_3 | apply IsS71.set_4 | apply IsS71.set_5 | apply IsS71.set_6 | apply IsS71.set_7 | refine IsS71.far ?_ NB0_131.out _ | refine IsS71.far ?_ NB0_132.out _) | exact HI0.out)) hb); have n1_ := Aside0.mk (blk_below (g := gb131) (o := .cells #[.int .i64 a2_0, .int .u32 a2_1, .int .u32 a2_2, .int .u64 a2_3, .int .u64 a2_4, .int .u32 a2_5, .int .i64 a2_6, .bool a2_7, .int .i64 a2_8, .slice A2_9 l2_9.length c2_9, .slice A2_10 l2_10.length c2_10] 30 (0, 0)) (by (with_reducible repeat (first | apply bd1 | apply bd2 | apply bd3)); exact BK131.out) hb); have n2_ := Aside0.mk (blk_below (g := gb132) (o := .cells #[.int .u32 0, .int .i64 0, .int .u64 0, .int .i64 0] 42 (0, 0)) (by (with_reducible repeat (first | apply bd1 | apply bd2 | apply bd3)); exact BK132.out) hb); have n3_ := Aside0.mk (KeepBut.trans (by repeat (first | (with_reducible first | exact HK.out | apply KeepBut.set_ | apply keep_drewN | apply keep_drew | apply keep_alloc | refine keep_far ?_ GW131.out _ | refine keep_far ?_ GW132.out _) | exact HK.out)) (KeepBut.of_below hb g none) (.inl rfl)); have n4_ := Aside0.mk (below_step (by repeat (first | (with_reducible first | exact HB.out | apply below_alloc | apply pw_below_drewN | apply below_drew1 | refine below_set ?_ (IsS71.ge HI0.out) | refine below_set ?_ GE131.out | refine below_set ?_ GE132.out) | exact HB.out)) hb); clear HI0; clear BK131; clear BK132; clear HK; clear HB; have HI0 := n0_; have BK131 := n1_; have BK132 := n2_; have HK := n3_; have HB := n4_; clear n0_ n1_ n2_ n3_ n4_; (try clear hb); (try clear hb2); (try clear hk); (try clear hi); have hnb34 := NB132_0.out; have hnc34 := NB0_132.out; obtain ⟨hcz35_0, hcz35_1, hcz35_2, hcz35_3, hfz35_0, hfz35_1, hfz35_2, hfz35_3⟩ := blk_all4 BK132.out))
      have n_HI0 := Aside0.mk (IsS71.drew HI0.out)
      have n_BK131 := Aside0.mk (blk_drew BK131.out)
      have n_BK132 := Aside0.mk (blk_drew BK132.out)
      have n_HK := Aside0.mk (keep_drew HK.out)
      have n_HB := Aside0.mk (below_drew1 HB.out)
      clear HI0 BK131 BK132 HK HB
      have HI0 := n_HI0
      have BK131 := n_BK131
      have BK132 := n_BK132
      have HK := n_HK
      have HB := n_HB
      clear n_HI0 n_BK131 n_BK132 n_HK n_HB
      refine start_ (n := 18) (S := fun w' => w'.cell? ⟨g, 0, none⟩ = some (.int .u64 s0_0) ∧ w'.cell? ⟨g, 1, none⟩ = some (.int .u64 s0_1) ∧ w'.cell? ⟨g, 2, none⟩ = some (.int .u64 s0_2) ∧ w'.cell? ⟨g, 3, none⟩ = some (.int .u32 s0_3) ∧ w'.cell? ⟨g, 4, none⟩ = some (.int .i64 s0_4) ∧ w'.cell? ⟨g, 5, none⟩ = some (.int .u64 s0_5) ∧ w'.cell? ⟨g, 6, none⟩ = some (.int .i64 s0_6) ∧ w'.cell? ⟨g, 7, none⟩ = some (.int .i64 s0_7) ∧ w'.cell? ⟨gb131, 1, none⟩ = some (.int .u32 a2_1) ∧ w'.cell? ⟨gb131, 8, none⟩ = some (.int .i64 a2_8)) (ds := []) #[false, false, false, false, false, false, false, false, false, false, false, false, false, false, false, false, false, false] (by kernel_rfl) rfl rfl ⟨cellS71_0 (HI0.out).1, cellS71_1 (HI0.out).1, cellS71_2 (HI0.out).1, cellS71_3 (HI0.out).1, cellS71_4 (HI0.out).1, cellS71_5 (HI0.out).1, cellS71_6 (HI0.out).1, cellS71_7 (HI0.out).1, (blk_cell (BK131.out) 1).trans rfl, (blk_cell (BK131.out) 8).trans rfl⟩ (fun hHeld => ?_); refine with_tabW arbiter_Arbiter_next.tab5 arbiter_Arbiter_next.bits5 (fun HT_ HW_ => ?_)
      generalize w28.drew = wd_ at HI0 BK131 BK132 HK HB hHeld ⊢
      refine pure_ (i := 0) (N := some 54) (v := ?_) (a' := ?_) #[true, false, false, false, false, false, false, false, false, false, false, false, false, false, false, false, false, false] rfl rfl (any_of HT_.out (by kernel_rfl)) (fun _ _ _ h => h) (Or.inl ⟨by rfl, ?_⟩) ?_ ?_
      rotate_left
      ·
       intro w'; go_simp; with_reducible rfl
      rotate_left
      ·
       simp only [Act.put, List.setIfInBounds_toArray, List.set_cons_zero, List.set_cons_succ, i64_w, i32_w]; rfl
      refine pure_ (i := 1) (N := some 55) (v := ?_) (a' := ?_) #[true, true, false, false, false, false, false, false, false, false, false, false, false, false, false, false, false, false] rfl rfl (any_of HT_.out (by kernel_rfl)) (fun _ _ _ h => h) (Or.inl ⟨by rfl, ?_⟩) ?_ ?_
      rotate_left
      ·
       intro w'; go_simp; with_reducible rfl
      rotate_left
      ·
       simp only [Act.put, List.setIfInBounds_toArray, List.set_cons_zero, List.set_cons_succ, i64_w, i32_w]; rfl
      refine pure_ (i := 2) (N := some 56) (v := ?_) (a' := ?_) #[true, true, true, false, false, false, false, false, false, false, false, false, false, false, false, false, false, false] rfl rfl (any_of HT_.out (by kernel_rfl)) (fun _ _ _ h => h) (Or.inl ⟨by rfl, ?_⟩) ?_ ?_
      rotate_left
      ·
       intro w'; go_simp; with_reducible rfl
      rotate_left
      ·
       simp only [Act.put, List.setIfInBounds_toArray, List.set_cons_zero, List.set_cons_succ, i64_w, i32_w]; rfl
      refine take_ (i := 3) (N := some 57) (v := ?_) (a' := ?_) #[true, true, true, true, false, false, false, false, false, false, false, false, false, false, false, false, false, false] rfl rfl (take_ofW HT_.out HW_.out (by kernel_rfl)) (fun _ _ _ h => h) (Or.inl ⟨by rfl, ?_⟩) hHeld ?_ ?_
      rotate_left
      ·
       rintro w' ⟨s0, s1, s2, s3, s4, s5, s6, s7, s8, s9⟩; go_simp; with_reducible rfl
      rotate_left
      ·
       simp only [Act.put, List.setIfInBounds_toArray, List.set_cons_zero, List.set_cons_succ, i64_w, i32_w]; rfl
      refine pure_ (i := 4) (N := some 58) (v := ?_) (a' := ?_) #[true, true, true, true, true, false, false, false, false, false, false, false, false, false, false, false, false, false] rfl rfl (any_of HT_.out (by kernel_rfl)) (fun _ _ _ h => h) (Or.inl ⟨by rfl, ?_⟩) ?_ ?_
      rotate_left
      ·
       intro w'; go_simp; with_reducible rfl
      rotate_left
      ·
       simp only [Act.put, List.setIfInBounds_toArray, List.set_cons_zero, List.set_cons_succ, i64_w, i32_w]; rfl
      refine pure_ (i := 5) (N := some 59) (v := ?_) (a' := ?_) #[true, true, true, true, true, true, false, false, false, false, false, false, false, false, false, false, false, false] rfl rfl (any_of HT_.out (by kernel_rfl)) (fun _ _ _ h => h) (Or.inl ⟨by rfl, ?_⟩) ?_ ?_
      rotate_left
      ·
       intro w'; go_simp; with_reducible rfl
      rotate_left
      ·
       simp only [Act.put, List.setIfInBounds_toArray, List.set_cons_zero, List.set_cons_succ, i64_w, i32_w]; rfl
      refine pure_ (i := 6) (N := some 60) (v := ?_) (a' := ?_) #[true, true, true, true, true, true, true, false, false, false, false, false, false, false, false, false, false, false] rfl rfl (any_of HT_.out (by kernel_rfl)) (fun _ _ _ h => h) (Or.inl ⟨by rfl, ?_⟩) ?_ ?_
      rotate_left
      ·
       intro w'; go_simp; with_reducible rfl
      rotate_left
      ·
       simp only [Act.put, List.setIfInBounds_toArray, List.set_cons_zero, List.set_cons_succ, i64_w, i32_w]; rfl
      refine take_ (i := 7) (N := some 61) (v := ?_) (a' := ?_) #[true, true, true, true, true, true, true, true, false, false, false, false, false, false, false, false, false, false] rfl rfl (take_ofW HT_.out HW_.out (by kernel_rfl)) (fun _ _ _ h => h) (Or.inl ⟨by rfl, ?_⟩) hHeld ?_ ?_
      rotate_left
      ·
       rintro w' ⟨s0, s1, s2, s3, s4, s5, s6, s7, s8, s9⟩; go_simp; with_reducible rfl
      rotate_left
      ·
       simp only [Act.put, List.setIfInBounds_toArray, List.set_cons_zero, List.set_cons_succ, i64_w, i32_w]; rfl
      refine pure_ (i := 8) (N := some 62) (v := ?_) (a' := ?_) #[true, true, true, true, true, true, true, true, true, false, false, false, false, false, false, false, false, false] rfl rfl (any_of HT_.out (by kernel_rfl)) (fun _ _ _ h => h) (Or.inl ⟨by rfl, ?_⟩) ?_ ?_
      rotate_left
      ·
       intro w'; go_simp; with_reducible rfl
      rotate_left
      ·
       simp only [Act.put, List.setIfInBounds_toArray, List.set_cons_zero, List.set_cons_succ, i64_w, i32_w]; rfl
      refine pure_ (i := 9) (N := some 63) (v := ?_) (a' := ?_) #[true, true, true, true, true, true, true, true, true, true, false, false, false, false, false, false, false, false] rfl rfl (any_of HT_.out (by kernel_rfl)) (fun _ _ _ h => h) (Or.inl ⟨by rfl, ?_⟩) ?_ ?_
      rotate_left
      ·
       intro w'; go_simp; with_reducible rfl
      rotate_left
      ·
       simp only [Act.put, List.setIfInBounds_toArray, List.set_cons_zero, List.set_cons_succ, i64_w, i32_w]; rfl
      refine take_ (i := 10) (N := some 64) (v := ?_) (a' := ?_) #[true, true, true, true, true, true, true, true, true, true, true, false, false, false, false, false, false, false] rfl rfl (take_ofW HT_.out HW_.out (by kernel_rfl)) (fun _ _ _ h => h) (Or.inl ⟨by rfl, ?_⟩) hHeld ?_ ?_
      rotate_left
      ·
       rintro w' ⟨s0, s1, s2, s3, s4, s5, s6, s7, s8, s9⟩; go_simp; with_reducible rfl
      rotate_left
      ·
       simp only [Act.put, List.setIfInBounds_toArray, List.set_cons_zero, List.set_cons_succ, i64_w, i32_w]; rfl
      refine pure_ (i := 11) (N := some 65) (v := ?_) (a' := ?_) #[true, true, true, true, true, true, true, true, true, true, true, true, false, false, false, false, false, false] rfl rfl (any_of HT_.out (by kernel_rfl)) (fun _ _ _ h => h) (Or.inl ⟨by rfl, ?_⟩) ?_ ?_
      rotate_left
      ·
       intro w'; go_simp; with_reducible rfl
      rotate_left
      ·
       simp only [Act.put, List.setIfInBounds_toArray, List.set_cons_zero, List.set_cons_succ, i64_w, i32_w]; rfl
      refine take_ (i := 12) (N := some 66) (v := ?_) (a' := ?_) #[true, true, true, true, true, true, true, true, true, true, true, true, true, false, false, false, false, false] rfl rfl (take_ofW HT_.out HW_.out (by kernel_rfl)) (fun _ _ _ h => h) (Or.inl ⟨by rfl, ?_⟩) hHeld ?_ ?_
      rotate_left
      ·
       rintro w' ⟨s0, s1, s2, s3, s4, s5, s6, s7, s8, s9⟩; go_simp; with_reducible rfl
      rotate_left
      ·
       simp only [Act.put, List.setIfInBounds_toArray, List.set_cons_zero, List.set_cons_succ, i64_w, i32_w]; rfl
      refine one_ (i := 13) (N := some 67) #[true, true, true, true, true, true, true, true, true, true, true, true, true, true, false, false, false, false] rfl rfl (one_of HT_.out (by kernel_rfl)) (by decide) (fun K hK => ?_)
      refine goes_ Try.func59 (by kernel_rfl) rfl #[.agg #[.int .u32 s0_3, .int .i64 s0_4, .int .u64 s0_5, .int .i64 s0_6], .int .u64 s0_2, .int .i64 a1, .int .u32 a2_1, .int .i64 a2_8] (by rfl) rfl rfl (by (try simp only [List.map_toArray, List.map_cons, List.map_nil]); first | done | rfl | (simp only [List.length_drop, List.length_take]; rfl)) ?_
      (with_reducible refine (lease_Turn.calls k s0_3 s0_4 s0_5 s0_6 s0_2 a1 a2_1 a2_8 t143 t144 t145 t146 t147 _ A26.out).mono ?_)
      rintro e w33 ⟨rfl, hb⟩
      refine ⟨_, rfl, ?_⟩
      have n0_ := Aside0.mk (IsS71.below (by repeat (first | (with_reducible first | exact HI0.out | apply IsS71.alloc | apply IsS71.drewN | apply IsS71.drew | apply IsS71.set_0 | apply IsS71.set_1 | apply IsS71.set_2 | apply IsS71.set_3 | apply IsS71.set_4 | apply IsS71.set_5 | apply IsS71.set_6 | apply IsS71.set_7 | refine IsS71.far ?_ NB0_131.out _ | refine IsS71.far ?_ NB0_132.out _) | exact HI0.out)) hb)
      have n1_ := Aside0.mk (blk_below (g := gb131) (o := .cells #[.int .i64 a2_0, .int .u32 a2_1, .int .u32 a2_2, .int .u64 a2_3, .int .u64 a2_4, .int .u32 a2_5, .int .i64 a2_6, .bool a2_7, .int .i64 a2_8, .slice A2_9 l2_9.length c2_9, .slice A2_10 l2_10.length c2_10] 30 (0, 0)) (by (with_reducible repeat (first | apply bd1 | apply bd2 | apply bd3)); exact BK131.out) hb)
      have n2_ := Aside0.mk (blk_below (g := gb132) (o := .cells #[.int .u32 0, .int .i64 0, .int .u64 0, .int .i64 0] 42 (0, 0)) (by (with_reducible repeat (first | apply bd1 | apply bd2 | apply bd3)); exact BK132.out) hb)
      have n3_ := Aside0.mk (KeepBut.trans (by repeat (first | (with_reducible first | exact HK.out | apply KeepBut.set_ | apply keep_drewN | apply keep_drew | apply keep_alloc | refine keep_far ?_ GW131.out _ | refine keep_far ?_ GW132.out _) | exact HK.out)) (KeepBut.of_below hb g none) (.inl rfl))
      have n4_ := Aside0.mk (below_step (by repeat (first | (with_reducible first | exact HB.out | apply below_alloc | apply pw_below_drewN | apply below_drew1 | refine below_set ?_ (IsS71.ge HI0.out) | refine below_set ?_ GE131.out | refine below_set ?_ GE132.out) | exact HB.out)) hb)
      clear HI0
      clear BK131
      clear BK132
      clear HK
      clear HB
      have HI0 := n0_
      have BK131 := n1_
      have BK132 := n2_
      have HK := n3_
      have HB := n4_
      clear n0_ n1_ n2_ n3_ n4_
      (try clear hb)
      (try clear hb2)
      (try clear hk)
      (try clear hi)
      refine hK.out _ _ ⟨cellS71_0 (HI0.out).1, cellS71_1 (HI0.out).1, cellS71_2 (HI0.out).1, cellS71_3 (HI0.out).1, cellS71_4 (HI0.out).1, cellS71_5 (HI0.out).1, cellS71_6 (HI0.out).1, cellS71_7 (HI0.out).1, (blk_cell (BK131.out) 1).trans rfl, (blk_cell (BK131.out) 8).trans rfl⟩ (fun hHeld => ?_)
      clear hK K
      refine norm_ (a' := ?_) ?_ ?_
      rotate_left
      ·
       show Act.put _ (some 67) _ = _
       simp only [Act.put, List.setIfInBounds_toArray, List.set_cons_zero, List.set_cons_succ, i64_w, i32_w]; rfl
      refine pure_ (i := 14) (N := some 68) (v := ?_) (a' := ?_) #[true, true, true, true, true, true, true, true, true, true, true, true, true, true, true, false, false, false] rfl rfl (any_of HT_.out (by kernel_rfl)) (fun _ _ _ h => h) (Or.inl ⟨by rfl, ?_⟩) ?_ ?_
      rotate_left
      ·
       intro w'; go_simp; with_reducible rfl
      rotate_left
      ·
       simp only [Act.put, List.setIfInBounds_toArray, List.set_cons_zero, List.set_cons_succ, i64_w, i32_w]; rfl
      refine pure_ (i := 15) (N := some 69) (v := ?_) (a' := ?_) #[true, true, true, true, true, true, true, true, true, true, true, true, true, true, true, true, false, false] rfl rfl (any_of HT_.out (by kernel_rfl)) (fun _ _ _ h => h) (Or.inl ⟨by rfl, ?_⟩) ?_ ?_
      rotate_left
      ·
       intro w'; go_simp; with_reducible rfl
      rotate_left
      ·
       simp only [Act.put, List.setIfInBounds_toArray, List.set_cons_zero, List.set_cons_succ, i64_w, i32_w]; rfl
      refine one_ (i := 16) (N := none) #[true, true, true, true, true, true, true, true, true, true, true, true, true, true, true, true, true, false] rfl rfl (one_of HT_.out (by kernel_rfl)) (by decide) (fun K hK => ?_)
      have hnb34 := NB132_0.out
      have hnc34 := NB0_132.out
      obtain ⟨hcz35_0, hcz35_1, hcz35_2, hcz35_3, hfz35_0, hfz35_1, hfz35_2, hfz35_3⟩ := blk_all4 BK132.out
      refine skip_ (w1 := ?_) (by rfl) rfl ?_ ?_
      rotate_left
      ·
       go_simp; rfl
      refine hK.out _ _ ⟨cellS71_0 ((IsS71.far (IsS71.far (IsS71.far (IsS71.far HI0.out NB0_132.out _) NB0_132.out _) NB0_132.out _) NB0_132.out _)).1, cellS71_1 ((IsS71.far (IsS71.far (IsS71.far (IsS71.far HI0.out NB0_132.out _) NB0_132.out _) NB0_132.out _) NB0_132.out _)).1, cellS71_2 ((IsS71.far (IsS71.far (IsS71.far (IsS71.far HI0.out NB0_132.out _) NB0_132.out _) NB0_132.out _) NB0_132.out _)).1, cellS71_3 ((IsS71.far (IsS71.far (IsS71.far (IsS71.far HI0.out NB0_132.out _) NB0_132.out _) NB0_132.out _) NB0_132.out _)).1, cellS71_4 ((IsS71.far (IsS71.far (IsS71.far (IsS71.far HI0.out NB0_132.out _) NB0_132.out _) NB0_132.out _) NB0_132.out _)).1, cellS71_5 ((IsS71.far (IsS71.far (IsS71.far (IsS71.far HI0.out NB0_132.out _) NB0_132.out _) NB0_132.out _) NB0_132.out _)).1, cellS71_6 ((IsS71.far (IsS71.far (IsS71.far (IsS71.far HI0.out NB0_132.out _) NB0_132.out _) NB0_132.out _) NB0_132.out _)).1, cellS71_7 ((IsS71.far (IsS71.far (IsS71.far (IsS71.far HI0.out NB0_132.out _) NB0_132.out _) NB0_132.out _) NB0_132.out _)).1, (blk_cell ((blk_far (blk_far (blk_far (blk_far BK131.out NB131_132.out _) NB131_132.out _) NB131_132.out _) NB131_132.out _)) 1).trans rfl, (blk_cell ((blk_far (blk_far (blk_far (blk_far BK131.out NB131_132.out _) NB131_132.out _) NB131_132.out _) NB131_132.out _)) 8).trans rfl⟩ (fun hHeld => ?_)
      clear hK K hHeld
      refine pure_ (i := 17) (N := some 7) (v := ?_) (a' := ?_) #[true, true, true, true, true, true, true, true, true, true, true, true, true, true, true, true, true, true] rfl rfl (any_of HT_.out (by kernel_rfl)) (fun _ _ _ h => h) (Or.inl ⟨by rfl, ?_⟩) ?_ ?_
      rotate_left
      ·
       intro w'; go_simp; with_reducible rfl
      rotate_left
      ·
       simp only [Act.put, List.setIfInBounds_toArray, List.set_cons_zero, List.set_cons_succ, i64_w, i32_w]; rfl
      refine done_ (done_of HT_.out (by kernel_rfl)) ?_
      clear HT_ HW_
      go_wp2
      refine bodyPost_ret (results_ct rfl _ _ gb132 42 #[.int .u32 t143, .int .i64 t144, .int .u64 t145, .int .i64 t146] (0, 0) _ rfl (by (with_reducible repeat (first | apply bd1 | apply bd2 | apply bd3)); refine blk_put (cs := #[.int .u32 t143, .int .i64 t144, .int .u64 t145, .int .i64 0]) ?_ 3 _ rfl; (with_reducible repeat (first | apply bd1 | apply bd2 | apply bd3)); refine blk_put (cs := #[.int .u32 t143, .int .i64 t144, .int .u64 0, .int .i64 0]) ?_ 2 _ rfl; (with_reducible repeat (first | apply bd1 | apply bd2 | apply bd3)); refine blk_put (cs := #[.int .u32 t143, .int .i64 0, .int .u64 0, .int .i64 0]) ?_ 1 _ rfl; (with_reducible repeat (first | apply bd1 | apply bd2 | apply bd3)); refine blk_put (cs := #[.int .u32 0, .int .i64 0, .int .u64 0, .int .i64 0]) ?_ 0 _ rfl; (with_reducible repeat (first | apply bd1 | apply bd2 | apply bd3)); exact BK132.out) Try.underlying42 rfl (by kernel_rfl)) rfl ?_
      exact ⟨by first | rfl | (simp [errW_none, errW_some] <;> rfl) | (simp [*, errW_none, errW_some] <;> rfl), by repeat (first | (with_reducible first | exact HI0.out | apply IsS71.alloc | apply IsS71.drewN | apply IsS71.drew | apply IsS71.set_0 | apply IsS71.set_1 | apply IsS71.set_2 | apply IsS71.set_3 | apply IsS71.set_4 | apply IsS71.set_5 | apply IsS71.set_6 | apply IsS71.set_7 | refine IsS71.far ?_ NB0_131.out _ | refine IsS71.far ?_ NB0_132.out _) | exact HI0.out), by repeat (first | (with_reducible first | exact HB.out | apply below_alloc | apply pw_below_drewN | apply below_drew1 | refine below_set ?_ (IsS71.ge HI0.out) | refine below_set ?_ GE131.out | refine below_set ?_ GE132.out) | exact HB.out), by repeat (first | (with_reducible first | exact HK.out | apply KeepBut.set_ | apply keep_drewN | apply keep_drew | apply keep_alloc | refine keep_far ?_ GW131.out _ | refine keep_far ?_ GW132.out _) | exact HK.out)⟩

/-! ### arbiter_New: function 10 (its lengths are right) -/
def arbiter_New.f (a0 : Int) (a1 : Int) : Option (Int × Int × Int × Int × Int × Int × Int × Int × Int) := if 1 ≤ a0 ∧ a0 ≤ 10000 ∧ a1 ≤ 10000 then some (a0, a1, 0, 0, 0, 0, 1, 0, 0) else none
set_option maxHeartbeats 8000000 in
set_option maxRecDepth 100000 in
theorem arbiter_New.calls (a0 a1 : Int) (r1 : Int) (r2 : Int) (r3 : Int) (r4 : Int) (r5 : Int) (r6 : Int) (r7 : Int) (r8 : Int) (r9 : Int) (w0 w : World) (hB : Below w0.heap.size w0 w) (h : arbiter_New.f a0 a1 = some (r1, r2, r3, r4, r5, r6, r7, r8, r9)) :
    Calls Try.prog 10 #[.int .u64 a0, .int .u64 a1] w fun e w' => ∃ g_ : Nat, e = .returned (.tuple #[.pointer (some ⟨g_, 0, none⟩), .int .i64 r9]) ∧ IsS71 w0 w' g_ r1 r2 r3 r4 r5 r6 r7 r8 ∧ Below w0.heap.size w0 w' ∧ Below w.heap.size w w' := by
  have HB := Aside0.mk hB
  clear hB
  unfold arbiter_New.f at h
  split at h
  case isFalse => exact absurd h (by simp)
  case isTrue hc =>
  simp only [Option.some.injEq, Prod.mk.injEq] at h
  obtain ⟨rfl, rfl, rfl, rfl, rfl, rfl, rfl, rfl, rfl⟩ := h
  obtain ⟨h1, h2, h3⟩ := hc
  have hs : arbiter_span.f a0 = some true := by unfold arbiter_span.f; rw [if_pos (show a0 ≥ 1 from h1), decide_eq_true h2]
  have d1 : decide (10000 < a1) = false := decide_eq_false (by omega)
  have hs' := Aside0.mk hs
  clear hs h1 h2 h3
  go_enter Try.func10, Try.ntmps10
  go_wp2_with (first | (go_at_call 30; (with_reducible refine (arbiter_span.calls a0 true _ hs'.out).mono ?_); rintro e w' ⟨rfl, ⟨nd, rfl⟩⟩))
  refine bodyPost_ret ?_ rfl ⟨_, rfl, IsS71.new w0 _ a0 a1 0 0 0 0 1 0 ?_, ?_, ?_⟩
  · simp [results, Try.results10, go_sem]
  · repeat (first | exact HB.out | apply below_alloc | apply pw_below_drewN)
  · repeat (first | exact HB.out | apply below_alloc | apply pw_below_drewN)
  · repeat (first | exact Below.refl _ _ | apply below_alloc | apply pw_below_drewN)

/-! ### arbiter_code: function 34 -/
theorem code_last (w : World) (o : Obj) : (w.alloc o).heap[w.heap.size]? = some o := (MapKept.heap_alloc w o).1
theorem code_set (w : World) (o o' : Obj) : { w.alloc o with heap := (w.alloc o).heap.setIfInBounds w.heap.size o' } = w.alloc o' := by
  simp only [World.alloc]
  congr 1
  apply Array.ext'
  simp [Array.setIfInBounds, Array.toList_push]
theorem code_put {t kt et : TypeId} {P : Program} (hu : P.underlying t = some (.map kt et)) (hk : P.underlying kt = some (.int .i64)) (W : World) (es : Array MapEntry) (cl : Nat) (k v : Int) (hn : Instr.findNow (.int .i64) (.int .i64 k) es.toList 0 = some none) :
    (Instr.mapUpdate t (.map (some W.heap.size)) (.int .i64 k) (.int .i64 v)).run P (W.alloc (.map es cl)) = .ok () (W.alloc (.map (es.push ⟨.int .i64 k, .int .i64 v, cl⟩) (cl + 1))) := by
  have h := code_last W (.map es cl)
  simp only [Instr.mapUpdate, Sem.run_bind, run_underlying hu, Result.andThen, getObj, Sem.run, h]
  rw [MapKept.run_checkKey hk (by simp [MapKept.IsKey])]
  simp only [Result.andThen]
  rw [MapKept.run_findKey hk hn]
  simp only [Result.andThen]
  rw [MapKept.run_setObj_map _ h, code_set]
theorem code_get {t kt et : TypeId} {P : Program} (hu : P.underlying t = some (.map kt et)) (hk : P.underlying kt = some (.int .i64)) (W : World) (es : Array MapEntry) (cl : Nat) (k : Int) (v : Int) (i : Nat) (hn : Instr.findNow (.int .i64) (.int .i64 k) es.toList 0 = some (some (i, .int .i64 v))) :
    (Instr.lookup t (.map (some W.heap.size)) (.int .i64 k) true).run P (W.alloc (.map es cl)) = .ok (.tuple #[.int .i64 v, .bool true]) (W.alloc (.map es cl)) := by
  have h := code_last W (.map es cl)
  simp only [Instr.lookup, Sem.run_bind, run_underlying hu, Result.andThen, getObj, Sem.run, Sem.run_pure, h]
  rw [MapKept.run_checkKey hk (by simp [MapKept.IsKey])]
  simp only [Result.andThen]
  rw [MapKept.run_findKey hk hn]
  simp [Result.andThen, Sem.run]
theorem code_get_no {t kt et : TypeId} {P : Program} (hu : P.underlying t = some (.map kt et)) (hk : P.underlying kt = some (.int .i64)) (W : World) (he : ∀ W, (zeroValue et).run P W = .ok (.int .i64 0) W) (es : Array MapEntry) (cl : Nat) (k : Int) (hn : Instr.findNow (.int .i64) (.int .i64 k) es.toList 0 = some none) :
    (Instr.lookup t (.map (some W.heap.size)) (.int .i64 k) true).run P (W.alloc (.map es cl)) = .ok (.tuple #[.int .i64 0, .bool false]) (W.alloc (.map es cl)) := by
  have h := code_last W (.map es cl)
  simp only [Instr.lookup, Sem.run_bind, run_underlying hu, Result.andThen, getObj, Sem.run, Sem.run_pure, h]
  rw [MapKept.run_checkKey hk (by simp [MapKept.IsKey])]
  simp only [Result.andThen]
  rw [MapKept.run_findKey hk hn]
  simp [Result.andThen, Sem.run, he]
def arbiter_code.f (a0 : Int) : Option (Int) := some (if a0 = 70 then 2 else if a0 = 72 then 3 else if a0 = 73 then 4 else if a0 = 71 then 6 else 1)
abbrev codeMap : Obj := .map #[⟨.int .i64 70, .int .i64 2, 0⟩, ⟨.int .i64 72, .int .i64 3, 1⟩, ⟨.int .i64 73, .int .i64 4, 2⟩, ⟨.int .i64 71, .int .i64 6, 3⟩] 4
set_option maxHeartbeats 8000000 in
set_option maxRecDepth 100000 in
theorem code_go (k v : Int) (b : Bool) (w : World) (M : ∀ W : World, (Instr.lookup 107 (.map (some W.heap.size)) (.int .i64 k) true).run Try.prog (W.alloc codeMap) = .ok (.tuple #[.int .i64 (if b then v else 0), .bool b]) (W.alloc codeMap)) :
    Calls Try.prog 34 #[.int .i64 k] w fun e w' => e = .returned (.int .i64 (if b then v else 1)) ∧ Below w.heap.size w w' := by
  have mk : ∀ W : World, (Instr.makeMap 107 none).run Try.prog W = .ok (.map (some W.heap.size)) (W.alloc (.map #[] 0)) := fun W => rfl
  have p1 : ∀ W : World, (Instr.mapUpdate 107 (.map (some W.heap.size)) (.int .i64 70) (.int .i64 2)).run Try.prog (W.alloc (.map #[] 0)) = _ := fun W => code_put Try.underlying107 Try.underlying24 W #[] 0 70 2 rfl
  have p2 : ∀ W : World, (Instr.mapUpdate 107 (.map (some W.heap.size)) (.int .i64 72) (.int .i64 3)).run Try.prog (W.alloc (.map #[⟨.int .i64 70, .int .i64 2, 0⟩] 1)) = _ := fun W => code_put Try.underlying107 Try.underlying24 W _ 1 72 3 rfl
  have p3 : ∀ W : World, (Instr.mapUpdate 107 (.map (some W.heap.size)) (.int .i64 73) (.int .i64 4)).run Try.prog (W.alloc (.map #[⟨.int .i64 70, .int .i64 2, 0⟩, ⟨.int .i64 72, .int .i64 3, 1⟩] 2)) = _ := fun W => code_put Try.underlying107 Try.underlying24 W _ 2 73 4 rfl
  have p4 : ∀ W : World, (Instr.mapUpdate 107 (.map (some W.heap.size)) (.int .i64 71) (.int .i64 6)).run Try.prog (W.alloc (.map #[⟨.int .i64 70, .int .i64 2, 0⟩, ⟨.int .i64 72, .int .i64 3, 1⟩, ⟨.int .i64 73, .int .i64 4, 2⟩] 3)) = _ := fun W => code_put Try.underlying107 Try.underlying24 W _ 3 71 6 rfl
  simp only [List.push_toArray, List.cons_append, List.nil_append, Nat.reduceAdd] at p1 p2 p3 p4
  go_enter Try.func34, Try.ntmps34
  cases b with
  | true =>
    simp only [if_pos] at M ⊢
    go_wp2
    refine bodyPost_ret ?_ rfl ⟨rfl, ?_⟩
    · simp [results, Try.results34, go_sem]
    · repeat (first | exact Below.refl _ _ | apply below_alloc)
  | false =>
    simp only [Bool.false_eq_true, if_false] at M ⊢
    go_wp2
    refine bodyPost_ret ?_ rfl ⟨rfl, ?_⟩
    · simp [results, Try.results34, go_sem]
    · repeat (first | exact Below.refl _ _ | apply below_alloc)
theorem arbiter_code.calls (a0 : Int) (r : Int) (w : World) (h : arbiter_code.f a0 = some r) :
    Calls Try.prog 34 #[.int .i64 a0] w fun e w' => e = .returned (.int .i64 r) ∧ Below w.heap.size w w' := by
  have H := Option.some.inj h
  subst H
  by_cases h1 : a0 = 70
  · subst h1; exact code_go 70 2 true w fun W => code_get Try.underlying107 Try.underlying24 W _ 4 70 2 0 rfl
  rw [if_neg h1]
  by_cases h2 : a0 = 72
  · subst h2; exact code_go 72 3 true w fun W => code_get Try.underlying107 Try.underlying24 W _ 4 72 3 1 rfl
  rw [if_neg h2]
  by_cases h3 : a0 = 73
  · subst h3; exact code_go 73 4 true w fun W => code_get Try.underlying107 Try.underlying24 W _ 4 73 4 2 rfl
  rw [if_neg h3]
  by_cases h4 : a0 = 71
  · subst h4; exact code_go 71 6 true w fun W => code_get Try.underlying107 Try.underlying24 W _ 4 71 6 3 rfl
  rw [if_neg h4]
  exact code_go a0 0 false w fun W => code_get_no Try.underlying107 Try.underlying24 W (fun W => by kernel_rfl) _ 4 a0 (by simp [Instr.findNow, Instr.sameNow, beq_eq_false_iff_ne.mpr h1, beq_eq_false_iff_ne.mpr h2, beq_eq_false_iff_ne.mpr h3, beq_eq_false_iff_ne.mpr h4])

end Go.Proofs.Ytgghljienippgaa.PA
