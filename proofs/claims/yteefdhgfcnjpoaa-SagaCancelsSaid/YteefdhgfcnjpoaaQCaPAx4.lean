-- printed by a program of this work (wip/tools/pr.py over the kit's print): the machine's side of SagaTries, SagaMoves, SagaStays, SagaOrder, SagaEnds, SagaTicks
import Derived.Test.YteefdhgfcnjpoaaQCaPAx0
import Derived.Test.YteefdhgfcnjpoaaQCaPAx3
namespace Go.Proofs.Yteefdhgfcnjpoaa.PA
open Go.RowKit Go.Proofs.YteefdhgfcnjpoaaW.PrintWords Go.Proofs.YteefdhgfcnjpoaaW.PrintLast Go.Proofs.YteefdhgfcnjpoaaW.PrintMore
attribute [local go_sem] max2_int min2_int max_two min_two max_three min_three max_four min_four   -- for this text's walks alone
set_option linter.unusedVariables false
set_option linter.unusedSimpArgs false

/-! ### drayageref13_Right: function 29 -/
mutual
def drayageref13_Right.j0 : Nat → Bool → Int → Int → List Int → Int → Int → Bool → Int → Int → List Int → Option (Bool)
  | 0, _, _, _, _, _, _, _, _, _, _ => none
  | k + 1, x4, x113000, x113001, x113002, x113003, x113004, x113005, x114000, x114001, x114002 => (drayageref13_name.f k x114002).bind fun t114 => (if x114000 = 1 then (drayageref13_Right.j1 k x4 t114 false x114000 (x114000 == 1) x113000 x113001 x113002 x113003 x113004 x113005 x114000 x114001 x114002) else (drayageref13_Right.j1 k x4 t114 false x114000 (x114000 == 3) x113000 x113001 x113002 x113003 x113004 x113005 x114000 x114001 x114002))
def drayageref13_Right.j1 : Nat → Bool → Bool → Bool → Int → Bool → Int → Int → List Int → Int → Int → Bool → Int → Int → List Int → Option (Bool)
  | 0, _, _, _, _, _, _, _, _, _, _, _, _, _, _ => none
  | k + 1, x4, x5, x6, x21, x22, x113000, x113001, x113002, x113003, x113004, x113005, x114000, x114001, x114002 => if x22 = true then (if x4 = true then (if x5 = true then (if x113003 ≥ 1 then (if x113003 ≤ 255 then (if x113004 ≥ 1 then (some (decide (x113004 ≤ 10000))) else (some false)) else (some false)) else (some false)) else (some false)) else (some false)) else (if x21 = 2 then (drayageref13_Right.j2 k x4 x5 x6 x21 (x21 == 2) x113000 x113001 x113002 x113003 x113004 x113005 x114000 x114001 x114002) else (drayageref13_Right.j2 k x4 x5 x6 x21 (x21 == 4) x113000 x113001 x113002 x113003 x113004 x113005 x114000 x114001 x114002))
def drayageref13_Right.j2 : Nat → Bool → Bool → Bool → Int → Bool → Int → Int → List Int → Int → Int → Bool → Int → Int → List Int → Option (Bool)
  | 0, _, _, _, _, _, _, _, _, _, _, _, _, _, _ => none
  | k + 1, x4, x5, x6, x21, x29, x113000, x113001, x113002, x113003, x113004, x113005, x114000, x114001, x114002 => if x29 = true then (if x114001 = 0 then (if (x114002.length : Int) = 0 then (if x113003 ≥ 1 then (if x113003 ≤ 255 then (if x113004 ≥ 1 then (some (decide (x113004 ≤ 10000))) else (some false)) else (some false)) else (some false)) else (some false)) else (some false)) else (if x21 = 5 then (if x4 = true then (if (x114002.length : Int) = 0 then (if x113003 ≥ 1 then (if x113003 ≤ 255 then (if x113004 ≥ 1 then (some (decide (x113004 ≤ 10000))) else (some false)) else (some false)) else (some false)) else (some false)) else (some false)) else (if x21 = 6 then (if x114001 = 0 then (if x5 = true then (if x113003 ≥ 1 then (if x113003 ≤ 255 then (if x113004 ≥ 1 then (some (decide (x113004 ≤ 10000))) else (some false)) else (some false)) else (some false)) else (some false)) else (some false)) else (if x6 = true then (if x113003 ≥ 1 then (if x113003 ≤ 255 then (if x113004 ≥ 1 then (some (decide (x113004 ≤ 10000))) else (some false)) else (some false)) else (some false)) else (some false))))
end
def drayageref13_Right.f (k : Nat) (a0_0 : Int) (a0_1 : Int) (l0_2 : List Int) (a0_3 : Int) (a0_4 : Int) (a0_5 : Bool) : Option (Bool) := if a0_1 ≥ 1 then (drayageref13_Right.j0 k (decide (a0_1 ≤ 1000000)) a0_0 a0_1 l0_2 a0_3 a0_4 a0_5 a0_0 a0_1 l0_2) else (drayageref13_Right.j0 k false a0_0 a0_1 l0_2 a0_3 a0_4 a0_5 a0_0 a0_1 l0_2)

set_option maxHeartbeats 8000000 in
set_option maxRecDepth 100000 in
theorem drayageref13_Right.calls (k : Nat) (a0_0 : Int) (a0_1 : Int) (A0_2 : Option Addr) (c0_2 : Nat) (l0_2 : List Int) (a0_3 : Int) (a0_4 : Int) (a0_5 : Bool) (r : Bool) (w : World) (hr0_2 : Kd.C (Kd.int .u8) w A0_2 l0_2.length l0_2) (hc0_2 : l0_2.length ≤ c0_2) (h : drayageref13_Right.f k a0_0 a0_1 l0_2 a0_3 a0_4 a0_5 = some r) :
    Calls Try.prog 29 #[.agg #[.int .i64 a0_0, .int .i64 a0_1, .slice A0_2 l0_2.length c0_2, .int .i64 a0_3, .int .i64 a0_4, .bool a0_5]] w fun e w' => e = .returned (.bool r) ∧ Below w.heap.size w w' := by
  have hu38 := Try.underlying38
  have hu36 := Try.underlying36
  have HR0_2 := Aside0.mk hr0_2
  have HC0_2 := Aside0.mk hc0_2
  clear hr0_2 hc0_2
  have HB := Aside0.mk (Below.refl w.heap.size w)
  have H : (if a0_1 ≥ 1 then (drayageref13_Right.j0 k (decide (a0_1 ≤ 1000000)) a0_0 a0_1 l0_2 a0_3 a0_4 a0_5 a0_0 a0_1 l0_2) else (drayageref13_Right.j0 k false a0_0 a0_1 l0_2 a0_3 a0_4 a0_5 a0_0 a0_1 l0_2)) = some r := h
  clear h
  have HC2 := Aside0.mk H
  clear H
  go_enter Try.func29, Try.ntmps29
  go_upto_region 2 with (first | ((with_reducible refine gate_dst (N := 1) rfl ?_); (try (refine gate_guard (by rfl) ?_; dsimp only)); refine box_event ?hg (N := 1) ?hd (cs := #[.int .i64 a0_0, .int .i64 a0_1, .slice A0_2 l0_2.length c0_2, .int .i64 a0_3, .int .i64 a0_4, .bool a0_5]) (t := 38) ?hr ?_; (case hd => rfl); (case hg => rfl); (case hr => first | (go_simp; done) | (go_simp; rfl)); intro gb112 hg w3 hbox hb; have n0_ := Aside0.mk (below_step (by repeat (first | (with_reducible first | exact HB.out | apply below_alloc | apply pw_below_drewN | apply below_drew1) | exact HB.out)) hb); have n1_ := Aside0.mk (hbox); have n2_ := Aside0.mk ((by rw [hg]; exact (below_size (by repeat (first | (with_reducible first | exact HB.out | apply below_alloc | apply pw_below_drewN | apply below_drew1) | exact HB.out))) : w.heap.size ≤ gb112)); have n3_ := Aside0.mk ((by rw [hg]; exact (below_size (by repeat (first | (with_reducible first | exact HB.out | apply below_alloc | apply pw_below_drewN | apply below_drew1) | exact HB.out))) : w.heap.size ≤ gb112)); clear HB; have HB := n0_; have BK112 := n1_; have GW112 := n2_; have GE112 := n3_; clear n0_ n1_ n2_ n3_; clear hb hbox hg; obtain ⟨hcz4_0, hcz4_1, hcz4_2, hcz4_3, hcz4_4, hcz4_5, hfz4_0, hfz4_1, hfz4_2, hfz4_3, hfz4_4, hfz4_5⟩ := blk_all6 BK112.out) | ((with_reducible refine gate_dst (N := 3) rfl ?_); (try (refine gate_guard (by rfl) ?_; dsimp only)); refine box_event ?hg (N := 3) ?hd (cs := #[.int .i64 0, .int .i64 0, .slice none 0 0]) (t := 36) ?hr ?_; (case hd => rfl); (case hg => rfl); (case hr => first | (go_simp; done) | (go_simp; rfl)); intro gb113 hg w5 hbox hb; have n0_ := Aside0.mk (blk_below (g := gb112) (o := .cells #[.int .i64 a0_0, .int .i64 a0_1, .slice A0_2 l0_2.length c0_2, .int .i64 a0_3, .int .i64 a0_4, .bool a0_5] 38 (0, 0)) (by (with_reducible repeat (first | apply bd1 | apply bd2 | apply bd3)); exact BK112.out) hb); have n1_ := Aside0.mk (below_step (by repeat (first | (with_reducible first | exact HB.out | apply below_alloc | apply pw_below_drewN | apply below_drew1 | refine below_set ?_ GE112.out) | exact HB.out)) hb); have n2_ := Aside0.mk (hbox); have n3_ := Aside0.mk ((by rw [hg]; exact (below_size (by repeat (first | (with_reducible first | exact HB.out | apply below_alloc | apply pw_below_drewN | apply below_drew1 | refine below_set ?_ GE112.out) | exact HB.out))) : w.heap.size ≤ gb113)); have n4_ := Aside0.mk ((by rw [hg]; exact (below_size (by repeat (first | (with_reducible first | exact HB.out | apply below_alloc | apply pw_below_drewN | apply below_drew1 | refine below_set ?_ GE112.out) | exact HB.out))) : w.heap.size ≤ gb113)); have n5_ := Aside0.mk ((by rw [hg]; exact Nat.ne_of_lt (blk_lt (g := gb112) (o := .cells #[.int .i64 a0_0, .int .i64 a0_1, .slice A0_2 l0_2.length c0_2, .int .i64 a0_3, .int .i64 a0_4, .bool a0_5] 38 (0, 0)) (by (with_reducible repeat (first | apply bd1 | apply bd2 | apply bd3)); exact BK112.out)) : gb112 ≠ gb113)); have n6_ := Aside0.mk ((by rw [hg]; exact Nat.ne_of_gt (blk_lt (g := gb112) (o := .cells #[.int .i64 a0_0, .int .i64 a0_1, .slice A0_2 l0_2.length c0_2, .int .i64 a0_3, .int .i64 a0_4, .bool a0_5] 38 (0, 0)) (by (with_reducible repeat (first | apply bd1 | apply bd2 | apply bd3)); exact BK112.out)) : gb113 ≠ gb112)); clear BK112; clear HB; have BK112 := n0_; have HB := n1_; have BK113 := n2_; have GW113 := n3_; have GE113 := n4_; have NB112_113 := n5_; have NB113_112 := n6_; clear n0_ n1_ n2_ n3_ n4_ n5_ n6_; clear hb hbox hg; have hnb6 := NB113_112.out; have hnc6 := NB112_113.out; obtain ⟨hcz7_0, hcz7_1, hcz7_2, hfz7_0, hfz7_1, hfz7_2⟩ := blk_all3 BK113.out))
  (try simp only [Act.put, List.setIfInBounds_toArray, List.set_cons_zero, List.set_cons_succ])
  go_cut [4] (fun v4 wc => ∃ (kq : Nat) (x4_1 : Bool), v4 = .bool x4_1 ∧ Aside0 (drayageref13_Right.j0 kq x4_1 a0_0 a0_1 l0_2 a0_3 a0_4 a0_5 a0_0 a0_1 l0_2 = some r) ∧ Aside0 (kq ≤ k) ∧ Aside0 (wc.heap[gb112]? = some (.cells #[.int .i64 a0_0, .int .i64 a0_1, (.slice A0_2 l0_2.length c0_2), .int .i64 a0_3, .int .i64 a0_4, .bool a0_5] 38 (0, 0))) ∧ Aside0 (wc.heap[gb113]? = some (.cells #[.int .i64 a0_0, .int .i64 a0_1, (.slice A0_2 l0_2.length c0_2)] 36 (0, 0))) ∧ Aside0 (Below w.heap.size w wc))
  case first =>
    have H := HC2.out
    clear HC2
    by_cases c8 : a0_1 ≥ 1
    · rw [if_pos c8] at H
      have c8b0 : decide (1 ≤ a0_1) = true := decide_eq_true c8
      clear c8
      (first | rw [c8b0] | (simp only [i64_w, i32_w]; rw [c8b0]) | skip)
      have H' := Aside0.mk H
      clear H
      have hnb9 := NB113_112.out
      have hnc9 := NB112_113.out
      obtain ⟨hcz10_0, hcz10_1, hcz10_2, hfz10_0, hfz10_1, hfz10_2⟩ := blk_all3 BK113.out
      go_wp2
      go_meet
      case rel => exact ⟨_, (decide (a0_1 ≤ 1000000)), (by first | rfl | (simp; done) | (simp [*]; done)), H', ⟨by first | omega | exact Nat.le_refl _⟩, ⟨by (with_reducible repeat (first | apply bd1 | apply bd2 | apply bd3)); refine blk_far ?_ NB112_113.out _; (with_reducible repeat (first | apply bd1 | apply bd2 | apply bd3)); refine blk_far ?_ NB112_113.out _; (with_reducible repeat (first | apply bd1 | apply bd2 | apply bd3)); refine blk_far ?_ NB112_113.out _; (with_reducible repeat (first | apply bd1 | apply bd2 | apply bd3)); exact BK112.out⟩, ⟨by (with_reducible repeat (first | apply bd1 | apply bd2 | apply bd3)); refine blk_put (cs := #[.int .i64 a0_0, .int .i64 a0_1, .slice none 0 0]) ?_ 2 _ rfl; (with_reducible repeat (first | apply bd1 | apply bd2 | apply bd3)); refine blk_put (cs := #[.int .i64 a0_0, .int .i64 0, .slice none 0 0]) ?_ 1 _ rfl; (with_reducible repeat (first | apply bd1 | apply bd2 | apply bd3)); refine blk_put (cs := #[.int .i64 0, .int .i64 0, .slice none 0 0]) ?_ 0 _ rfl; (with_reducible repeat (first | apply bd1 | apply bd2 | apply bd3)); exact BK113.out⟩, ⟨by repeat (first | (with_reducible first | exact HB.out | apply below_alloc | apply pw_below_drewN | apply below_drew1 | refine below_set ?_ GE112.out | refine below_set ?_ GE113.out) | exact HB.out)⟩⟩
    · rw [if_neg c8] at H
      have c8b0 : decide (1 ≤ a0_1) = false := decide_eq_false c8
      clear c8
      (first | rw [c8b0] | (simp only [i64_w, i32_w]; rw [c8b0]) | skip)
      have H' := Aside0.mk H
      clear H
      have hnb11 := NB113_112.out
      have hnc11 := NB112_113.out
      obtain ⟨hcz12_0, hcz12_1, hcz12_2, hfz12_0, hfz12_1, hfz12_2⟩ := blk_all3 BK113.out
      go_wp2
      go_meet
      case rel => exact ⟨_, (false), (by first | rfl | (simp; done) | (simp [*]; done)), H', ⟨by first | omega | exact Nat.le_refl _⟩, ⟨by (with_reducible repeat (first | apply bd1 | apply bd2 | apply bd3)); refine blk_far ?_ NB112_113.out _; (with_reducible repeat (first | apply bd1 | apply bd2 | apply bd3)); refine blk_far ?_ NB112_113.out _; (with_reducible repeat (first | apply bd1 | apply bd2 | apply bd3)); refine blk_far ?_ NB112_113.out _; (with_reducible repeat (first | apply bd1 | apply bd2 | apply bd3)); exact BK112.out⟩, ⟨by (with_reducible repeat (first | apply bd1 | apply bd2 | apply bd3)); refine blk_put (cs := #[.int .i64 a0_0, .int .i64 a0_1, .slice none 0 0]) ?_ 2 _ rfl; (with_reducible repeat (first | apply bd1 | apply bd2 | apply bd3)); refine blk_put (cs := #[.int .i64 a0_0, .int .i64 0, .slice none 0 0]) ?_ 1 _ rfl; (with_reducible repeat (first | apply bd1 | apply bd2 | apply bd3)); refine blk_put (cs := #[.int .i64 0, .int .i64 0, .slice none 0 0]) ?_ 0 _ rfl; (with_reducible repeat (first | apply bd1 | apply bd2 | apply bd3)); exact BK113.out⟩, ⟨by repeat (first | (with_reducible first | exact HB.out | apply below_alloc | apply pw_below_drewN | apply below_drew1 | refine below_set ?_ GE112.out | refine below_set ?_ GE113.out) | exact HB.out)⟩⟩
  case rest =>
    clear HC2
    try clear c1
    try clear c2
    try clear p2
    try clear c6
    try clear c8
    try clear c8b0
    try clear c9
    try clear c11
    try clear hcz10_0
    try clear hcz10_1
    try clear hcz10_2
    try clear hcz12_0
    try clear hcz12_1
    try clear hcz12_2
    try clear hcz4_0
    try clear hcz4_1
    try clear hcz4_2
    try clear hcz4_3
    try clear hcz4_4
    try clear hcz4_5
    try clear hcz7_0
    try clear hcz7_1
    try clear hcz7_2
    try clear hfz10_0
    try clear hfz10_1
    try clear hfz10_2
    try clear hfz12_0
    try clear hfz12_1
    try clear hfz12_2
    try clear hfz4_0
    try clear hfz4_1
    try clear hfz4_2
    try clear hfz4_3
    try clear hfz4_4
    try clear hfz4_5
    try clear hfz7_0
    try clear hfz7_1
    try clear hfz7_2
    obtain ⟨kq, x4_1, rfl, HA, HJ1, BK112, BK113, HB⟩ := hcut
    cases kq with
    | zero => exact absurd HA.out (by simp [drayageref13_Right.j0])
    | succ kj1 =>
      have H := HA.out
      clear HA
      simp only [drayageref13_Right.j0] at H
      replace H := Option.bind_eq_some_iff.mp H
      obtain ⟨t114, A130, H⟩ := H
      replace H : (if a0_0 = 1 then (drayageref13_Right.j1 kj1 x4_1 t114 false a0_0 (a0_0 == 1) a0_0 a0_1 l0_2 a0_3 a0_4 a0_5 a0_0 a0_1 l0_2) else (drayageref13_Right.j1 kj1 x4_1 t114 false a0_0 (a0_0 == 3) a0_0 a0_1 l0_2 a0_3 a0_4 a0_5 a0_0 a0_1 l0_2)) = some r := H
      have A13 := Aside0.mk A130
      clear A130
      have HC14 := Aside0.mk H
      clear H
      have hnb15 := NB113_112.out
      have hnc15 := NB112_113.out
      obtain ⟨hcz16_0, hcz16_1, hcz16_2, hfz16_0, hfz16_1, hfz16_2⟩ := blk_all3 BK113.out
      go_upto_if 22 with (first | ((with_reducible refine gate_callee (f := 37) rfl ?_); refine goesL_ (some 19) rfl rfl Try.func37 (by kernel_rfl) rfl #[.slice A0_2 l0_2.length c0_2] rfl (by (try simp only [List.map_toArray, List.map_cons, List.map_nil]); first | done | rfl | (simp only [List.length_drop, List.length_take]; rfl)) ?_; (with_reducible refine (drayageref13_name.calls kj1 _ _ l0_2 t114 _ ?side1 ?side2 A13.out).mono ?_); (case side1 => repeat (first | exact (Kd.C_below HR0_2.out HB.out) | (with_reducible refine Kd.C_alloc ?_ _) | (with_reducible refine Kd.C_drewN ?_ _) | (with_reducible refine Kd.C_drew ?_))); (case side2 => exact HC0_2.out); rintro e w' ⟨rfl, ⟨nd, rfl⟩⟩; refine ⟨_, rfl, ?_⟩))
      (try simp only [Act.put, List.setIfInBounds_toArray, List.set_cons_zero, List.set_cons_succ])
      go_cut [22] (fun v22 wc => ∃ (kq : Nat) (x22_13 : Bool), v22 = .bool x22_13 ∧ Aside0 (drayageref13_Right.j1 kq x4_1 t114 false a0_0 x22_13 a0_0 a0_1 l0_2 a0_3 a0_4 a0_5 a0_0 a0_1 l0_2 = some r) ∧ Aside0 (kq ≤ kj1) ∧ Aside0 (wc.heap[gb112]? = some (.cells #[.int .i64 a0_0, .int .i64 a0_1, (.slice A0_2 l0_2.length c0_2), .int .i64 a0_3, .int .i64 a0_4, .bool a0_5] 38 (0, 0))) ∧ Aside0 (wc.heap[gb113]? = some (.cells #[.int .i64 a0_0, .int .i64 a0_1, (.slice A0_2 l0_2.length c0_2)] 36 (0, 0))) ∧ Aside0 (Below w.heap.size w wc))
      case first =>
        have H := HC14.out
        clear HC14
        by_cases c17 : a0_0 = 1
        · rw [if_pos c17] at H
          have c17b0 : (a0_0 == 1) = true := beq_iff_eq.mpr c17
          have c17b1 : (a0_0 != 1) = false := bne_eq_false_iff_eq.mpr c17
          clear c17
          (first | rw [c17b0] | (simp only [i64_w, i32_w]; rw [c17b0]) | skip)
          have H' := Aside0.mk H
          clear H
          go_wp2
          go_meet
          case rel => exact ⟨_, ((a0_0 == 1)), (by first | rfl | (simp; done) | (simp [*]; done)), H', ⟨by have := HJ1.out; first | omega | exact Nat.le_refl _⟩, ⟨by (with_reducible repeat (first | apply bd1 | apply bd2 | apply bd3)); exact BK112.out⟩, ⟨by (with_reducible repeat (first | apply bd1 | apply bd2 | apply bd3)); exact BK113.out⟩, ⟨by repeat (first | (with_reducible first | exact HB.out | apply below_alloc | apply pw_below_drewN | apply below_drew1 | refine below_set ?_ GE112.out | refine below_set ?_ GE113.out) | exact HB.out)⟩⟩
        · rw [if_neg c17] at H
          have c17b0 : (a0_0 == 1) = false := beq_eq_false_iff_ne.mpr c17
          have c17b1 : (a0_0 != 1) = true := bne_iff_ne.mpr c17
          (first | rw [c17b0] | (simp only [i64_w, i32_w]; rw [c17b0]) | skip)
          have H' := Aside0.mk H
          clear H
          go_wp2
          go_meet
          case rel => exact ⟨_, ((a0_0 == 3)), (by first | rfl | (simp; done) | (simp [*]; done)), H', ⟨by have := HJ1.out; first | omega | exact Nat.le_refl _⟩, ⟨by (with_reducible repeat (first | apply bd1 | apply bd2 | apply bd3)); exact BK112.out⟩, ⟨by (with_reducible repeat (first | apply bd1 | apply bd2 | apply bd3)); exact BK113.out⟩, ⟨by repeat (first | (with_reducible first | exact HB.out | apply below_alloc | apply pw_below_drewN | apply below_drew1 | refine below_set ?_ GE112.out | refine below_set ?_ GE113.out) | exact HB.out)⟩⟩
      case rest =>
        clear HC14
        try clear c1
        try clear c2
        try clear p2
        try clear c3
        try clear c6
        try clear c8
        try clear c8b0
        try clear c9
        try clear c11
        try clear c15
        try clear c17
        try clear c17b0
        try clear c17b1
        try clear hcz10_0
        try clear hcz10_1
        try clear hcz10_2
        try clear hcz12_0
        try clear hcz12_1
        try clear hcz12_2
        try clear hcz16_0
        try clear hcz16_1
        try clear hcz16_2
        try clear hcz4_0
        try clear hcz4_1
        try clear hcz4_2
        try clear hcz4_3
        try clear hcz4_4
        try clear hcz4_5
        try clear hcz7_0
        try clear hcz7_1
        try clear hcz7_2
        try clear hfz10_0
        try clear hfz10_1
        try clear hfz10_2
        try clear hfz12_0
        try clear hfz12_1
        try clear hfz12_2
        try clear hfz16_0
        try clear hfz16_1
        try clear hfz16_2
        try clear hfz4_0
        try clear hfz4_1
        try clear hfz4_2
        try clear hfz4_3
        try clear hfz4_4
        try clear hfz4_5
        try clear hfz7_0
        try clear hfz7_1
        try clear hfz7_2
        try clear p2
        obtain ⟨kq, x22_13, rfl, HA, HJ13, BK112, BK113, HB⟩ := hcut
        cases kq with
        | zero => exact absurd HA.out (by simp [drayageref13_Right.j1])
        | succ kj13 =>
          have H := HA.out
          clear HA
          simp only [drayageref13_Right.j1] at H
          by_cases c18 : x22_13 = true
          · subst c18
            have H1 : (if x4_1 = true then (if t114 = true then (if a0_3 ≥ 1 then (if a0_3 ≤ 255 then (if a0_4 ≥ 1 then (some (decide (a0_4 ≤ 10000))) else (some false)) else (some false)) else (some false)) else (some false)) else (some false)) = some r := by rw [if_pos rfl] at H; exact H
            clear H
            have H := H1
            clear H1
            by_cases c19 : x4_1 = true
            · subst c19
              have H1 : (if t114 = true then (if a0_3 ≥ 1 then (if a0_3 ≤ 255 then (if a0_4 ≥ 1 then (some (decide (a0_4 ≤ 10000))) else (some false)) else (some false)) else (some false)) else (some false)) = some r := by rw [if_pos rfl] at H; exact H
              clear H
              have H := H1
              clear H1
              by_cases c20 : t114 = true
              · subst c20
                have H1 : (if a0_3 ≥ 1 then (if a0_3 ≤ 255 then (if a0_4 ≥ 1 then (some (decide (a0_4 ≤ 10000))) else (some false)) else (some false)) else (some false)) = some r := by rw [if_pos rfl] at H; exact H
                clear H
                have H := H1
                clear H1
                by_cases c21 : a0_3 ≥ 1
                · rw [if_pos c21] at H
                  have c21b0 : decide (1 ≤ a0_3) = true := decide_eq_true c21
                  clear c21
                  by_cases c22 : a0_3 ≤ 255
                  · rw [if_pos c22] at H
                    have c22b0 : decide (a0_3 ≤ 255) = true := decide_eq_true c22
                    clear c22
                    by_cases c23 : a0_4 ≥ 1
                    · rw [if_pos c23] at H
                      have c23b0 : decide (1 ≤ a0_4) = true := decide_eq_true c23
                      clear c23
                      obtain rfl := Option.some.inj H
                      have hnb24 := NB112_113.out
                      have hnc24 := NB113_112.out
                      obtain ⟨hcz25_0, hcz25_1, hcz25_2, hcz25_3, hcz25_4, hcz25_5, hfz25_0, hfz25_1, hfz25_2, hfz25_3, hfz25_4, hfz25_5⟩ := blk_all6 BK112.out
                      go_wp2
                      go_ret
                      exact ⟨by first | rfl | (simp [errW_none, errW_some] <;> rfl) | (simp [*, errW_none, errW_some] <;> rfl), by repeat (first | (with_reducible first | exact HB.out | apply below_alloc | apply pw_below_drewN | apply below_drew1 | refine below_set ?_ GE112.out | refine below_set ?_ GE113.out) | exact HB.out)⟩
                    · rw [if_neg c23] at H
                      have c23b0 : decide (1 ≤ a0_4) = false := decide_eq_false c23
                      clear c23
                      obtain rfl := Option.some.inj H
                      have hnb26 := NB112_113.out
                      have hnc26 := NB113_112.out
                      obtain ⟨hcz27_0, hcz27_1, hcz27_2, hcz27_3, hcz27_4, hcz27_5, hfz27_0, hfz27_1, hfz27_2, hfz27_3, hfz27_4, hfz27_5⟩ := blk_all6 BK112.out
                      go_wp2
                      go_ret
                      exact ⟨by first | rfl | (simp [errW_none, errW_some] <;> rfl) | (simp [*, errW_none, errW_some] <;> rfl), by repeat (first | (with_reducible first | exact HB.out | apply below_alloc | apply pw_below_drewN | apply below_drew1 | refine below_set ?_ GE112.out | refine below_set ?_ GE113.out) | exact HB.out)⟩
                  · rw [if_neg c22] at H
                    have c22b0 : decide (a0_3 ≤ 255) = false := decide_eq_false c22
                    clear c22
                    obtain rfl := Option.some.inj H
                    have hnb28 := NB112_113.out
                    have hnc28 := NB113_112.out
                    obtain ⟨hcz29_0, hcz29_1, hcz29_2, hcz29_3, hcz29_4, hcz29_5, hfz29_0, hfz29_1, hfz29_2, hfz29_3, hfz29_4, hfz29_5⟩ := blk_all6 BK112.out
                    go_wp2
                    go_ret
                    exact ⟨by first | rfl | (simp [errW_none, errW_some] <;> rfl) | (simp [*, errW_none, errW_some] <;> rfl), by repeat (first | (with_reducible first | exact HB.out | apply below_alloc | apply pw_below_drewN | apply below_drew1 | refine below_set ?_ GE112.out | refine below_set ?_ GE113.out) | exact HB.out)⟩
                · rw [if_neg c21] at H
                  have c21b0 : decide (1 ≤ a0_3) = false := decide_eq_false c21
                  clear c21
                  obtain rfl := Option.some.inj H
                  have hnb30 := NB112_113.out
                  have hnc30 := NB113_112.out
                  obtain ⟨hcz31_0, hcz31_1, hcz31_2, hcz31_3, hcz31_4, hcz31_5, hfz31_0, hfz31_1, hfz31_2, hfz31_3, hfz31_4, hfz31_5⟩ := blk_all6 BK112.out
                  go_wp2
                  go_ret
                  exact ⟨by first | rfl | (simp [errW_none, errW_some] <;> rfl) | (simp [*, errW_none, errW_some] <;> rfl), by repeat (first | (with_reducible first | exact HB.out | apply below_alloc | apply pw_below_drewN | apply below_drew1 | refine below_set ?_ GE112.out | refine below_set ?_ GE113.out) | exact HB.out)⟩
              · replace c20 := Bool.eq_false_iff.mpr c20
                subst c20
                have H1 : (some false) = some r := by rw [if_neg (show ¬ (false = true) by decide)] at H; exact H
                clear H
                have H := H1
                clear H1
                obtain rfl := Option.some.inj H
                go_wp2
                go_ret
                exact ⟨by first | rfl | (simp [errW_none, errW_some] <;> rfl) | (simp [*, errW_none, errW_some] <;> rfl), by repeat (first | (with_reducible first | exact HB.out | apply below_alloc | apply pw_below_drewN | apply below_drew1 | refine below_set ?_ GE112.out | refine below_set ?_ GE113.out) | exact HB.out)⟩
            · replace c19 := Bool.eq_false_iff.mpr c19
              subst c19
              have H1 : (some false) = some r := by rw [if_neg (show ¬ (false = true) by decide)] at H; exact H
              clear H
              have H := H1
              clear H1
              obtain rfl := Option.some.inj H
              go_wp2
              go_ret
              exact ⟨by first | rfl | (simp [errW_none, errW_some] <;> rfl) | (simp [*, errW_none, errW_some] <;> rfl), by repeat (first | (with_reducible first | exact HB.out | apply below_alloc | apply pw_below_drewN | apply below_drew1 | refine below_set ?_ GE112.out | refine below_set ?_ GE113.out) | exact HB.out)⟩
          · replace c18 := Bool.eq_false_iff.mpr c18
            subst c18
            have H1 : (if a0_0 = 2 then (drayageref13_Right.j2 kj13 x4_1 t114 false a0_0 (a0_0 == 2) a0_0 a0_1 l0_2 a0_3 a0_4 a0_5 a0_0 a0_1 l0_2) else (drayageref13_Right.j2 kj13 x4_1 t114 false a0_0 (a0_0 == 4) a0_0 a0_1 l0_2 a0_3 a0_4 a0_5 a0_0 a0_1 l0_2)) = some r := by rw [if_neg (show ¬ (false = true) by decide)] at H; exact H
            clear H
            have H := H1
            clear H1
            have HC32 := Aside0.mk H
            clear H
            go_upto_if 29 with (fail)
            go_cut [29] (fun v29 wc => ∃ (kq : Nat) (x29_31 : Bool), v29 = .bool x29_31 ∧ Aside0 (drayageref13_Right.j2 kq x4_1 t114 false a0_0 x29_31 a0_0 a0_1 l0_2 a0_3 a0_4 a0_5 a0_0 a0_1 l0_2 = some r) ∧ Aside0 (kq ≤ kj13) ∧ Aside0 (wc.heap[gb112]? = some (.cells #[.int .i64 a0_0, .int .i64 a0_1, (.slice A0_2 l0_2.length c0_2), .int .i64 a0_3, .int .i64 a0_4, .bool a0_5] 38 (0, 0))) ∧ Aside0 (wc.heap[gb113]? = some (.cells #[.int .i64 a0_0, .int .i64 a0_1, (.slice A0_2 l0_2.length c0_2)] 36 (0, 0))) ∧ Aside0 (Below w.heap.size w wc))
            case first =>
              have H := HC32.out
              clear HC32
              by_cases c33 : a0_0 = 2
              · rw [if_pos c33] at H
                have c33b0 : (a0_0 == 2) = true := beq_iff_eq.mpr c33
                have c33b1 : (a0_0 != 2) = false := bne_eq_false_iff_eq.mpr c33
                clear c33
                (first | rw [c33b0] | (simp only [i64_w, i32_w]; rw [c33b0]) | skip)
                have H' := Aside0.mk H
                clear H
                go_wp2
                go_meet
                case rel => exact ⟨_, ((a0_0 == 2)), (by first | rfl | (simp; done) | (simp [*]; done)), H', ⟨by have := HJ1.out; have := HJ13.out; first | omega | exact Nat.le_refl _⟩, ⟨by (with_reducible repeat (first | apply bd1 | apply bd2 | apply bd3)); exact BK112.out⟩, ⟨by (with_reducible repeat (first | apply bd1 | apply bd2 | apply bd3)); exact BK113.out⟩, ⟨by repeat (first | (with_reducible first | exact HB.out | apply below_alloc | apply pw_below_drewN | apply below_drew1 | refine below_set ?_ GE112.out | refine below_set ?_ GE113.out) | exact HB.out)⟩⟩
              · rw [if_neg c33] at H
                have c33b0 : (a0_0 == 2) = false := beq_eq_false_iff_ne.mpr c33
                have c33b1 : (a0_0 != 2) = true := bne_iff_ne.mpr c33
                (first | rw [c33b0] | (simp only [i64_w, i32_w]; rw [c33b0]) | skip)
                have H' := Aside0.mk H
                clear H
                go_wp2
                go_meet
                case rel => exact ⟨_, ((a0_0 == 4)), (by first | rfl | (simp; done) | (simp [*]; done)), H', ⟨by have := HJ1.out; have := HJ13.out; first | omega | exact Nat.le_refl _⟩, ⟨by (with_reducible repeat (first | apply bd1 | apply bd2 | apply bd3)); exact BK112.out⟩, ⟨by (with_reducible repeat (first | apply bd1 | apply bd2 | apply bd3)); exact BK113.out⟩, ⟨by repeat (first | (with_reducible first | exact HB.out | apply below_alloc | apply pw_below_drewN | apply below_drew1 | refine below_set ?_ GE112.out | refine below_set ?_ GE113.out) | exact HB.out)⟩⟩
            case rest =>
              clear HC32
              try clear c1
              try clear c2
              try clear p2
              try clear c3
              try clear c6
              try clear c8
              try clear c8b0
              try clear c9
              try clear c11
              try clear c15
              try clear c17
              try clear c17b0
              try clear c17b1
              try clear c18
              try clear c19
              try clear c20
              try clear c21
              try clear c21b0
              try clear c22
              try clear c22b0
              try clear c23
              try clear c23b0
              try clear c24
              try clear c26
              try clear c28
              try clear c29
              try clear c30
              try clear c33
              try clear c33b0
              try clear c33b1
              try clear hcz10_0
              try clear hcz10_1
              try clear hcz10_2
              try clear hcz12_0
              try clear hcz12_1
              try clear hcz12_2
              try clear hcz16_0
              try clear hcz16_1
              try clear hcz16_2
              try clear hcz25_0
              try clear hcz25_1
              try clear hcz25_2
              try clear hcz25_3
              try clear hcz25_4
              try clear hcz25_5
              try clear hcz27_0
              try clear hcz27_1
              try clear hcz27_2
              try clear hcz27_3
              try clear hcz27_4
              try clear hcz27_5
              try clear hcz29_0
              try clear hcz29_1
              try clear hcz29_2
              try clear hcz29_3
              try clear hcz29_4
              try clear hcz29_5
              try clear hcz31_0
              try clear hcz31_1
              try clear hcz31_2
              try clear hcz31_3
              try clear hcz31_4
              try clear hcz31_5
              try clear hcz4_0
              try clear hcz4_1
              try clear hcz4_2
              try clear hcz4_3
              try clear hcz4_4
              try clear hcz4_5
              try clear hcz7_0
              try clear hcz7_1
              try clear hcz7_2
              try clear hfz10_0
              try clear hfz10_1
              try clear hfz10_2
              try clear hfz12_0
              try clear hfz12_1
              try clear hfz12_2
              try clear hfz16_0
              try clear hfz16_1
              try clear hfz16_2
              try clear hfz25_0
              try clear hfz25_1
              try clear hfz25_2
              try clear hfz25_3
              try clear hfz25_4
              try clear hfz25_5
              try clear hfz27_0
              try clear hfz27_1
              try clear hfz27_2
              try clear hfz27_3
              try clear hfz27_4
              try clear hfz27_5
              try clear hfz29_0
              try clear hfz29_1
              try clear hfz29_2
              try clear hfz29_3
              try clear hfz29_4
              try clear hfz29_5
              try clear hfz31_0
              try clear hfz31_1
              try clear hfz31_2
              try clear hfz31_3
              try clear hfz31_4
              try clear hfz31_5
              try clear hfz4_0
              try clear hfz4_1
              try clear hfz4_2
              try clear hfz4_3
              try clear hfz4_4
              try clear hfz4_5
              try clear hfz7_0
              try clear hfz7_1
              try clear hfz7_2
              try clear p2
              obtain ⟨kq, x29_31, rfl, HA, HJ31, BK112, BK113, HB⟩ := hcut
              cases kq with
              | zero => exact absurd HA.out (by simp [drayageref13_Right.j2])
              | succ kj31 =>
                have H := HA.out
                clear HA
                simp only [drayageref13_Right.j2] at H
                by_cases c34 : x29_31 = true
                · subst c34
                  have H1 : (if a0_1 = 0 then (if (l0_2.length : Int) = 0 then (if a0_3 ≥ 1 then (if a0_3 ≤ 255 then (if a0_4 ≥ 1 then (some (decide (a0_4 ≤ 10000))) else (some false)) else (some false)) else (some false)) else (some false)) else (some false)) = some r := by rw [if_pos rfl] at H; exact H
                  clear H
                  have H := H1
                  clear H1
                  by_cases c35 : a0_1 = 0
                  · rw [if_pos c35] at H
                    have c35b0 : (a0_1 == 0) = true := beq_iff_eq.mpr c35
                    have c35b1 : (a0_1 != 0) = false := bne_eq_false_iff_eq.mpr c35
                    clear c35
                    by_cases c36 : (l0_2.length : Int) = 0
                    · rw [if_pos c36] at H
                      have c36b0 : ((l0_2.length : Int) == 0) = true := beq_iff_eq.mpr c36
                      have c36b1 : ((l0_2.length : Int) != 0) = false := bne_eq_false_iff_eq.mpr c36
                      clear c36
                      by_cases c37 : a0_3 ≥ 1
                      · rw [if_pos c37] at H
                        have c37b0 : decide (1 ≤ a0_3) = true := decide_eq_true c37
                        clear c37
                        by_cases c38 : a0_3 ≤ 255
                        · rw [if_pos c38] at H
                          have c38b0 : decide (a0_3 ≤ 255) = true := decide_eq_true c38
                          clear c38
                          by_cases c39 : a0_4 ≥ 1
                          · rw [if_pos c39] at H
                            have c39b0 : decide (1 ≤ a0_4) = true := decide_eq_true c39
                            clear c39
                            obtain rfl := Option.some.inj H
                            have hnb40 := NB113_112.out
                            have hnc40 := NB112_113.out
                            obtain ⟨hcz41_0, hcz41_1, hcz41_2, hfz41_0, hfz41_1, hfz41_2⟩ := blk_all3 BK113.out
                            obtain ⟨hcz42_0, hcz42_1, hcz42_2, hcz42_3, hcz42_4, hcz42_5, hfz42_0, hfz42_1, hfz42_2, hfz42_3, hfz42_4, hfz42_5⟩ := blk_all6 BK112.out
                            go_wp2
                            go_ret
                            exact ⟨by first | rfl | (simp [errW_none, errW_some] <;> rfl) | (simp [*, errW_none, errW_some] <;> rfl), by repeat (first | (with_reducible first | exact HB.out | apply below_alloc | apply pw_below_drewN | apply below_drew1 | refine below_set ?_ GE112.out | refine below_set ?_ GE113.out) | exact HB.out)⟩
                          · rw [if_neg c39] at H
                            have c39b0 : decide (1 ≤ a0_4) = false := decide_eq_false c39
                            clear c39
                            obtain rfl := Option.some.inj H
                            have hnb43 := NB113_112.out
                            have hnc43 := NB112_113.out
                            obtain ⟨hcz44_0, hcz44_1, hcz44_2, hfz44_0, hfz44_1, hfz44_2⟩ := blk_all3 BK113.out
                            obtain ⟨hcz45_0, hcz45_1, hcz45_2, hcz45_3, hcz45_4, hcz45_5, hfz45_0, hfz45_1, hfz45_2, hfz45_3, hfz45_4, hfz45_5⟩ := blk_all6 BK112.out
                            go_wp2
                            go_ret
                            exact ⟨by first | rfl | (simp [errW_none, errW_some] <;> rfl) | (simp [*, errW_none, errW_some] <;> rfl), by repeat (first | (with_reducible first | exact HB.out | apply below_alloc | apply pw_below_drewN | apply below_drew1 | refine below_set ?_ GE112.out | refine below_set ?_ GE113.out) | exact HB.out)⟩
                        · rw [if_neg c38] at H
                          have c38b0 : decide (a0_3 ≤ 255) = false := decide_eq_false c38
                          clear c38
                          obtain rfl := Option.some.inj H
                          have hnb46 := NB113_112.out
                          have hnc46 := NB112_113.out
                          obtain ⟨hcz47_0, hcz47_1, hcz47_2, hfz47_0, hfz47_1, hfz47_2⟩ := blk_all3 BK113.out
                          obtain ⟨hcz48_0, hcz48_1, hcz48_2, hcz48_3, hcz48_4, hcz48_5, hfz48_0, hfz48_1, hfz48_2, hfz48_3, hfz48_4, hfz48_5⟩ := blk_all6 BK112.out
                          go_wp2
                          go_ret
                          exact ⟨by first | rfl | (simp [errW_none, errW_some] <;> rfl) | (simp [*, errW_none, errW_some] <;> rfl), by repeat (first | (with_reducible first | exact HB.out | apply below_alloc | apply pw_below_drewN | apply below_drew1 | refine below_set ?_ GE112.out | refine below_set ?_ GE113.out) | exact HB.out)⟩
                      · rw [if_neg c37] at H
                        have c37b0 : decide (1 ≤ a0_3) = false := decide_eq_false c37
                        clear c37
                        obtain rfl := Option.some.inj H
                        have hnb49 := NB113_112.out
                        have hnc49 := NB112_113.out
                        obtain ⟨hcz50_0, hcz50_1, hcz50_2, hfz50_0, hfz50_1, hfz50_2⟩ := blk_all3 BK113.out
                        obtain ⟨hcz51_0, hcz51_1, hcz51_2, hcz51_3, hcz51_4, hcz51_5, hfz51_0, hfz51_1, hfz51_2, hfz51_3, hfz51_4, hfz51_5⟩ := blk_all6 BK112.out
                        go_wp2
                        go_ret
                        exact ⟨by first | rfl | (simp [errW_none, errW_some] <;> rfl) | (simp [*, errW_none, errW_some] <;> rfl), by repeat (first | (with_reducible first | exact HB.out | apply below_alloc | apply pw_below_drewN | apply below_drew1 | refine below_set ?_ GE112.out | refine below_set ?_ GE113.out) | exact HB.out)⟩
                    · rw [if_neg c36] at H
                      have c36b0 : ((l0_2.length : Int) == 0) = false := beq_eq_false_iff_ne.mpr c36
                      have c36b1 : ((l0_2.length : Int) != 0) = true := bne_iff_ne.mpr c36
                      have c36b2 : ¬ (l0_2 = []) := fun h_ => c36 (by rw [h_]; rfl)
                      obtain rfl := Option.some.inj H
                      have hnb52 := NB113_112.out
                      have hnc52 := NB112_113.out
                      obtain ⟨hcz53_0, hcz53_1, hcz53_2, hfz53_0, hfz53_1, hfz53_2⟩ := blk_all3 BK113.out
                      go_wp2
                      go_ret
                      exact ⟨by first | rfl | (simp [errW_none, errW_some] <;> rfl) | (simp [*, errW_none, errW_some] <;> rfl), by repeat (first | (with_reducible first | exact HB.out | apply below_alloc | apply pw_below_drewN | apply below_drew1 | refine below_set ?_ GE112.out | refine below_set ?_ GE113.out) | exact HB.out)⟩
                  · rw [if_neg c35] at H
                    have c35b0 : (a0_1 == 0) = false := beq_eq_false_iff_ne.mpr c35
                    have c35b1 : (a0_1 != 0) = true := bne_iff_ne.mpr c35
                    obtain rfl := Option.some.inj H
                    have hnb54 := NB113_112.out
                    have hnc54 := NB112_113.out
                    obtain ⟨hcz55_0, hcz55_1, hcz55_2, hfz55_0, hfz55_1, hfz55_2⟩ := blk_all3 BK113.out
                    go_wp2
                    go_ret
                    exact ⟨by first | rfl | (simp [errW_none, errW_some] <;> rfl) | (simp [*, errW_none, errW_some] <;> rfl), by repeat (first | (with_reducible first | exact HB.out | apply below_alloc | apply pw_below_drewN | apply below_drew1 | refine below_set ?_ GE112.out | refine below_set ?_ GE113.out) | exact HB.out)⟩
                · replace c34 := Bool.eq_false_iff.mpr c34
                  subst c34
                  have H1 : (if a0_0 = 5 then (if x4_1 = true then (if (l0_2.length : Int) = 0 then (if a0_3 ≥ 1 then (if a0_3 ≤ 255 then (if a0_4 ≥ 1 then (some (decide (a0_4 ≤ 10000))) else (some false)) else (some false)) else (some false)) else (some false)) else (some false)) else (if a0_0 = 6 then (if a0_1 = 0 then (if t114 = true then (if a0_3 ≥ 1 then (if a0_3 ≤ 255 then (if a0_4 ≥ 1 then (some (decide (a0_4 ≤ 10000))) else (some false)) else (some false)) else (some false)) else (some false)) else (some false)) else (if false = true then (if a0_3 ≥ 1 then (if a0_3 ≤ 255 then (if a0_4 ≥ 1 then (some (decide (a0_4 ≤ 10000))) else (some false)) else (some false)) else (some false)) else (some false)))) = some r := by rw [if_neg (show ¬ (false = true) by decide)] at H; exact H
                  clear H
                  have H := H1
                  clear H1
                  by_cases c56 : a0_0 = 5
                  · rw [if_pos c56] at H
                    have c56b0 : (a0_0 == 5) = true := beq_iff_eq.mpr c56
                    have c56b1 : (a0_0 != 5) = false := bne_eq_false_iff_eq.mpr c56
                    clear c56
                    by_cases c57 : x4_1 = true
                    · subst c57
                      have H1 : (if (l0_2.length : Int) = 0 then (if a0_3 ≥ 1 then (if a0_3 ≤ 255 then (if a0_4 ≥ 1 then (some (decide (a0_4 ≤ 10000))) else (some false)) else (some false)) else (some false)) else (some false)) = some r := by rw [if_pos rfl] at H; exact H
                      clear H
                      have H := H1
                      clear H1
                      by_cases c58 : (l0_2.length : Int) = 0
                      · rw [if_pos c58] at H
                        have c58b0 : ((l0_2.length : Int) == 0) = true := beq_iff_eq.mpr c58
                        have c58b1 : ((l0_2.length : Int) != 0) = false := bne_eq_false_iff_eq.mpr c58
                        clear c58
                        by_cases c59 : a0_3 ≥ 1
                        · rw [if_pos c59] at H
                          have c59b0 : decide (1 ≤ a0_3) = true := decide_eq_true c59
                          clear c59
                          by_cases c60 : a0_3 ≤ 255
                          · rw [if_pos c60] at H
                            have c60b0 : decide (a0_3 ≤ 255) = true := decide_eq_true c60
                            clear c60
                            by_cases c61 : a0_4 ≥ 1
                            · rw [if_pos c61] at H
                              have c61b0 : decide (1 ≤ a0_4) = true := decide_eq_true c61
                              clear c61
                              obtain rfl := Option.some.inj H
                              have hnb62 := NB113_112.out
                              have hnc62 := NB112_113.out
                              obtain ⟨hcz63_0, hcz63_1, hcz63_2, hfz63_0, hfz63_1, hfz63_2⟩ := blk_all3 BK113.out
                              obtain ⟨hcz64_0, hcz64_1, hcz64_2, hcz64_3, hcz64_4, hcz64_5, hfz64_0, hfz64_1, hfz64_2, hfz64_3, hfz64_4, hfz64_5⟩ := blk_all6 BK112.out
                              go_wp2
                              go_ret
                              exact ⟨by first | rfl | (simp [errW_none, errW_some] <;> rfl) | (simp [*, errW_none, errW_some] <;> rfl), by repeat (first | (with_reducible first | exact HB.out | apply below_alloc | apply pw_below_drewN | apply below_drew1 | refine below_set ?_ GE112.out | refine below_set ?_ GE113.out) | exact HB.out)⟩
                            · rw [if_neg c61] at H
                              have c61b0 : decide (1 ≤ a0_4) = false := decide_eq_false c61
                              clear c61
                              obtain rfl := Option.some.inj H
                              have hnb65 := NB113_112.out
                              have hnc65 := NB112_113.out
                              obtain ⟨hcz66_0, hcz66_1, hcz66_2, hfz66_0, hfz66_1, hfz66_2⟩ := blk_all3 BK113.out
                              obtain ⟨hcz67_0, hcz67_1, hcz67_2, hcz67_3, hcz67_4, hcz67_5, hfz67_0, hfz67_1, hfz67_2, hfz67_3, hfz67_4, hfz67_5⟩ := blk_all6 BK112.out
                              go_wp2
                              go_ret
                              exact ⟨by first | rfl | (simp [errW_none, errW_some] <;> rfl) | (simp [*, errW_none, errW_some] <;> rfl), by repeat (first | (with_reducible first | exact HB.out | apply below_alloc | apply pw_below_drewN | apply below_drew1 | refine below_set ?_ GE112.out | refine below_set ?_ GE113.out) | exact HB.out)⟩
                          · rw [if_neg c60] at H
                            have c60b0 : decide (a0_3 ≤ 255) = false := decide_eq_false c60
                            clear c60
                            obtain rfl := Option.some.inj H
                            have hnb68 := NB113_112.out
                            have hnc68 := NB112_113.out
                            obtain ⟨hcz69_0, hcz69_1, hcz69_2, hfz69_0, hfz69_1, hfz69_2⟩ := blk_all3 BK113.out
                            obtain ⟨hcz70_0, hcz70_1, hcz70_2, hcz70_3, hcz70_4, hcz70_5, hfz70_0, hfz70_1, hfz70_2, hfz70_3, hfz70_4, hfz70_5⟩ := blk_all6 BK112.out
                            go_wp2
                            go_ret
                            exact ⟨by first | rfl | (simp [errW_none, errW_some] <;> rfl) | (simp [*, errW_none, errW_some] <;> rfl), by repeat (first | (with_reducible first | exact HB.out | apply below_alloc | apply pw_below_drewN | apply below_drew1 | refine below_set ?_ GE112.out | refine below_set ?_ GE113.out) | exact HB.out)⟩
                        · rw [if_neg c59] at H
                          have c59b0 : decide (1 ≤ a0_3) = false := decide_eq_false c59
                          clear c59
                          obtain rfl := Option.some.inj H
                          have hnb71 := NB113_112.out
                          have hnc71 := NB112_113.out
                          obtain ⟨hcz72_0, hcz72_1, hcz72_2, hfz72_0, hfz72_1, hfz72_2⟩ := blk_all3 BK113.out
                          obtain ⟨hcz73_0, hcz73_1, hcz73_2, hcz73_3, hcz73_4, hcz73_5, hfz73_0, hfz73_1, hfz73_2, hfz73_3, hfz73_4, hfz73_5⟩ := blk_all6 BK112.out
                          go_wp2
                          go_ret
                          exact ⟨by first | rfl | (simp [errW_none, errW_some] <;> rfl) | (simp [*, errW_none, errW_some] <;> rfl), by repeat (first | (with_reducible first | exact HB.out | apply below_alloc | apply pw_below_drewN | apply below_drew1 | refine below_set ?_ GE112.out | refine below_set ?_ GE113.out) | exact HB.out)⟩
                      · rw [if_neg c58] at H
                        have c58b0 : ((l0_2.length : Int) == 0) = false := beq_eq_false_iff_ne.mpr c58
                        have c58b1 : ((l0_2.length : Int) != 0) = true := bne_iff_ne.mpr c58
                        have c58b2 : ¬ (l0_2 = []) := fun h_ => c58 (by rw [h_]; rfl)
                        obtain rfl := Option.some.inj H
                        have hnb74 := NB113_112.out
                        have hnc74 := NB112_113.out
                        obtain ⟨hcz75_0, hcz75_1, hcz75_2, hfz75_0, hfz75_1, hfz75_2⟩ := blk_all3 BK113.out
                        go_wp2
                        go_ret
                        exact ⟨by first | rfl | (simp [errW_none, errW_some] <;> rfl) | (simp [*, errW_none, errW_some] <;> rfl), by repeat (first | (with_reducible first | exact HB.out | apply below_alloc | apply pw_below_drewN | apply below_drew1 | refine below_set ?_ GE112.out | refine below_set ?_ GE113.out) | exact HB.out)⟩
                    · replace c57 := Bool.eq_false_iff.mpr c57
                      subst c57
                      have H1 : (some false) = some r := by rw [if_neg (show ¬ (false = true) by decide)] at H; exact H
                      clear H
                      have H := H1
                      clear H1
                      obtain rfl := Option.some.inj H
                      go_wp2
                      go_ret
                      exact ⟨by first | rfl | (simp [errW_none, errW_some] <;> rfl) | (simp [*, errW_none, errW_some] <;> rfl), by repeat (first | (with_reducible first | exact HB.out | apply below_alloc | apply pw_below_drewN | apply below_drew1 | refine below_set ?_ GE112.out | refine below_set ?_ GE113.out) | exact HB.out)⟩
                  · rw [if_neg c56] at H
                    have c56b0 : (a0_0 == 5) = false := beq_eq_false_iff_ne.mpr c56
                    have c56b1 : (a0_0 != 5) = true := bne_iff_ne.mpr c56
                    by_cases c76 : a0_0 = 6
                    · rw [if_pos c76] at H
                      have c76b0 : (a0_0 == 6) = true := beq_iff_eq.mpr c76
                      have c76b1 : (a0_0 != 6) = false := bne_eq_false_iff_eq.mpr c76
                      clear c76
                      by_cases c77 : a0_1 = 0
                      · rw [if_pos c77] at H
                        have c77b0 : (a0_1 == 0) = true := beq_iff_eq.mpr c77
                        have c77b1 : (a0_1 != 0) = false := bne_eq_false_iff_eq.mpr c77
                        clear c77
                        by_cases c78 : t114 = true
                        · subst c78
                          have H1 : (if a0_3 ≥ 1 then (if a0_3 ≤ 255 then (if a0_4 ≥ 1 then (some (decide (a0_4 ≤ 10000))) else (some false)) else (some false)) else (some false)) = some r := by rw [if_pos rfl] at H; exact H
                          clear H
                          have H := H1
                          clear H1
                          by_cases c79 : a0_3 ≥ 1
                          · rw [if_pos c79] at H
                            have c79b0 : decide (1 ≤ a0_3) = true := decide_eq_true c79
                            clear c79
                            by_cases c80 : a0_3 ≤ 255
                            · rw [if_pos c80] at H
                              have c80b0 : decide (a0_3 ≤ 255) = true := decide_eq_true c80
                              clear c80
                              by_cases c81 : a0_4 ≥ 1
                              · rw [if_pos c81] at H
                                have c81b0 : decide (1 ≤ a0_4) = true := decide_eq_true c81
                                clear c81
                                obtain rfl := Option.some.inj H
                                have hnb82 := NB113_112.out
                                have hnc82 := NB112_113.out
                                obtain ⟨hcz83_0, hcz83_1, hcz83_2, hfz83_0, hfz83_1, hfz83_2⟩ := blk_all3 BK113.out
                                obtain ⟨hcz84_0, hcz84_1, hcz84_2, hcz84_3, hcz84_4, hcz84_5, hfz84_0, hfz84_1, hfz84_2, hfz84_3, hfz84_4, hfz84_5⟩ := blk_all6 BK112.out
                                go_wp2
                                go_ret
                                exact ⟨by first | rfl | (simp [errW_none, errW_some] <;> rfl) | (simp [*, errW_none, errW_some] <;> rfl), by repeat (first | (with_reducible first | exact HB.out | apply below_alloc | apply pw_below_drewN | apply below_drew1 | refine below_set ?_ GE112.out | refine below_set ?_ GE113.out) | exact HB.out)⟩
                              · rw [if_neg c81] at H
                                have c81b0 : decide (1 ≤ a0_4) = false := decide_eq_false c81
                                clear c81
                                obtain rfl := Option.some.inj H
                                have hnb85 := NB113_112.out
                                have hnc85 := NB112_113.out
                                obtain ⟨hcz86_0, hcz86_1, hcz86_2, hfz86_0, hfz86_1, hfz86_2⟩ := blk_all3 BK113.out
                                obtain ⟨hcz87_0, hcz87_1, hcz87_2, hcz87_3, hcz87_4, hcz87_5, hfz87_0, hfz87_1, hfz87_2, hfz87_3, hfz87_4, hfz87_5⟩ := blk_all6 BK112.out
                                go_wp2
                                go_ret
                                exact ⟨by first | rfl | (simp [errW_none, errW_some] <;> rfl) | (simp [*, errW_none, errW_some] <;> rfl), by repeat (first | (with_reducible first | exact HB.out | apply below_alloc | apply pw_below_drewN | apply below_drew1 | refine below_set ?_ GE112.out | refine below_set ?_ GE113.out) | exact HB.out)⟩
                            · rw [if_neg c80] at H
                              have c80b0 : decide (a0_3 ≤ 255) = false := decide_eq_false c80
                              clear c80
                              obtain rfl := Option.some.inj H
                              have hnb88 := NB113_112.out
                              have hnc88 := NB112_113.out
                              obtain ⟨hcz89_0, hcz89_1, hcz89_2, hfz89_0, hfz89_1, hfz89_2⟩ := blk_all3 BK113.out
                              obtain ⟨hcz90_0, hcz90_1, hcz90_2, hcz90_3, hcz90_4, hcz90_5, hfz90_0, hfz90_1, hfz90_2, hfz90_3, hfz90_4, hfz90_5⟩ := blk_all6 BK112.out
                              go_wp2
                              go_ret
                              exact ⟨by first | rfl | (simp [errW_none, errW_some] <;> rfl) | (simp [*, errW_none, errW_some] <;> rfl), by repeat (first | (with_reducible first | exact HB.out | apply below_alloc | apply pw_below_drewN | apply below_drew1 | refine below_set ?_ GE112.out | refine below_set ?_ GE113.out) | exact HB.out)⟩
                          · rw [if_neg c79] at H
                            have c79b0 : decide (1 ≤ a0_3) = false := decide_eq_false c79
                            clear c79
                            obtain rfl := Option.some.inj H
                            have hnb91 := NB113_112.out
                            have hnc91 := NB112_113.out
                            obtain ⟨hcz92_0, hcz92_1, hcz92_2, hfz92_0, hfz92_1, hfz92_2⟩ := blk_all3 BK113.out
                            obtain ⟨hcz93_0, hcz93_1, hcz93_2, hcz93_3, hcz93_4, hcz93_5, hfz93_0, hfz93_1, hfz93_2, hfz93_3, hfz93_4, hfz93_5⟩ := blk_all6 BK112.out
                            go_wp2
                            go_ret
                            exact ⟨by first | rfl | (simp [errW_none, errW_some] <;> rfl) | (simp [*, errW_none, errW_some] <;> rfl), by repeat (first | (with_reducible first | exact HB.out | apply below_alloc | apply pw_below_drewN | apply below_drew1 | refine below_set ?_ GE112.out | refine below_set ?_ GE113.out) | exact HB.out)⟩
                        · replace c78 := Bool.eq_false_iff.mpr c78
                          subst c78
                          have H1 : (some false) = some r := by rw [if_neg (show ¬ (false = true) by decide)] at H; exact H
                          clear H
                          have H := H1
                          clear H1
                          obtain rfl := Option.some.inj H
                          have hnb94 := NB113_112.out
                          have hnc94 := NB112_113.out
                          obtain ⟨hcz95_0, hcz95_1, hcz95_2, hfz95_0, hfz95_1, hfz95_2⟩ := blk_all3 BK113.out
                          go_wp2
                          go_ret
                          exact ⟨by first | rfl | (simp [errW_none, errW_some] <;> rfl) | (simp [*, errW_none, errW_some] <;> rfl), by repeat (first | (with_reducible first | exact HB.out | apply below_alloc | apply pw_below_drewN | apply below_drew1 | refine below_set ?_ GE112.out | refine below_set ?_ GE113.out) | exact HB.out)⟩
                      · rw [if_neg c77] at H
                        have c77b0 : (a0_1 == 0) = false := beq_eq_false_iff_ne.mpr c77
                        have c77b1 : (a0_1 != 0) = true := bne_iff_ne.mpr c77
                        obtain rfl := Option.some.inj H
                        have hnb96 := NB113_112.out
                        have hnc96 := NB112_113.out
                        obtain ⟨hcz97_0, hcz97_1, hcz97_2, hfz97_0, hfz97_1, hfz97_2⟩ := blk_all3 BK113.out
                        go_wp2
                        go_ret
                        exact ⟨by first | rfl | (simp [errW_none, errW_some] <;> rfl) | (simp [*, errW_none, errW_some] <;> rfl), by repeat (first | (with_reducible first | exact HB.out | apply below_alloc | apply pw_below_drewN | apply below_drew1 | refine below_set ?_ GE112.out | refine below_set ?_ GE113.out) | exact HB.out)⟩
                    · rw [if_neg c76] at H
                      have c76b0 : (a0_0 == 6) = false := beq_eq_false_iff_ne.mpr c76
                      have c76b1 : (a0_0 != 6) = true := bne_iff_ne.mpr c76
                      by_cases c98 : false = true
                      · exact absurd c98 (by decide)
                      · skip
                        skip
                        have H1 : (some false) = some r := by rw [if_neg (show ¬ (false = true) by decide)] at H; exact H
                        clear H
                        have H := H1
                        clear H1
                        obtain rfl := Option.some.inj H
                        go_wp2
                        go_ret
                        exact ⟨by first | rfl | (simp [errW_none, errW_some] <;> rfl) | (simp [*, errW_none, errW_some] <;> rfl), by repeat (first | (with_reducible first | exact HB.out | apply below_alloc | apply pw_below_drewN | apply below_drew1 | refine below_set ?_ GE112.out | refine below_set ?_ GE113.out) | exact HB.out)⟩

end Go.Proofs.Yteefdhgfcnjpoaa.PA
