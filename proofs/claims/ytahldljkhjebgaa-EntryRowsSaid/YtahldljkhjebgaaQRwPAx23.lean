-- printed by a program of this work (wip/tools/pr.py over the kit's print; laid by lift04.py): the machine's side of EntryRows
import Derived.Test.YtahldljkhjebgaaQRwPAx1
import Derived.Test.YtahldljkhjebgaaQRwPAx5
import Derived.Test.YtahldljkhjebgaaQRwPAx20
import Derived.Test.YtahldljkhjebgaaQRwPAx21
import Derived.Test.YtahldljkhjebgaaQRwPAx29
import Derived.Test.YtahldljkhjebgaaQRwPAx22
namespace Go.Proofs.Ytahldljkhjebgaa.PA
open Go.RowKit Go.Proofs.YtahldljkhjebgaaW.PrintWords Go.Proofs.YtahldljkhjebgaaW.PrintLast Go.Proofs.YtahldljkhjebgaaW.PrintMore
attribute [local go_sem] max2_int min2_int max_two min_two max_three min_three max_four min_four   -- for this text's walks alone
set_option linter.unusedVariables false
set_option linter.unusedSimpArgs false
/-! ### drayageref04_next: function 48 -/
def drayageref04_next.j0 : Nat → Bool → Int → Int → Int → Int → Int → Bool → Int → Int → Int → List Int → List Int → Int → Int → Int → Int → Int → Bool → Int → Int → Int → List Int → List Int → Option (Bool)
  | 0, _, _, _, _, _, _, _, _, _, _, _, _, _, _, _, _, _, _, _, _, _, _, _ => none
  | k + 1, x15, x186000, x186001, x186002, x186003, x186004, x186005, x186006, x186007, x186008, x186009, x186010, x187000, x187001, x187002, x187003, x187004, x187005, x187006, x187007, x187008, x187009, x187010 => if x15 = true then (some false) else (if x186002 = x187002 then (some true) else (if x187000 = 1 then (some (decide (x186002 < x187002))) else (some false)))
def drayageref04_next.f (k : Nat) (a0_0 : Int) (a0_1 : Int) (a0_2 : Int) (a0_3 : Int) (a0_4 : Int) (a0_5 : Bool) (a0_6 : Int) (a0_7 : Int) (a0_8 : Int) (l0_9 : List Int) (l0_10 : List Int) (a1_0 : Int) (a1_1 : Int) (a1_2 : Int) (a1_3 : Int) (a1_4 : Int) (a1_5 : Bool) (a1_6 : Int) (a1_7 : Int) (a1_8 : Int) (l1_9 : List Int) (l1_10 : List Int) : Option (Bool) := if a1_1 = 0 then (drayageref04_next.j0 k true a0_0 a0_1 a0_2 a0_3 a0_4 a0_5 a0_6 a0_7 a0_8 l0_9 l0_10 a1_0 a1_1 a1_2 a1_3 a1_4 a1_5 a1_6 a1_7 a1_8 l1_9 l1_10) else (drayageref04_next.j0 k ((IntKind.u64.wrap (a1_1 - 1)) != a0_1) a0_0 a0_1 a0_2 a0_3 a0_4 a0_5 a0_6 a0_7 a0_8 l0_9 l0_10 a1_0 a1_1 a1_2 a1_3 a1_4 a1_5 a1_6 a1_7 a1_8 l1_9 l1_10)

set_option maxHeartbeats 8000000 in
set_option maxRecDepth 100000 in
theorem drayageref04_next.calls (k : Nat) (a0_0 : Int) (a0_1 : Int) (a0_2 : Int) (a0_3 : Int) (a0_4 : Int) (a0_5 : Bool) (a0_6 : Int) (a0_7 : Int) (a0_8 : Int) (A0_9 : Option Addr) (c0_9 : Nat) (l0_9 : List Int) (A0_10 : Option Addr) (c0_10 : Nat) (l0_10 : List Int) (a1_0 : Int) (a1_1 : Int) (a1_2 : Int) (a1_3 : Int) (a1_4 : Int) (a1_5 : Bool) (a1_6 : Int) (a1_7 : Int) (a1_8 : Int) (A1_9 : Option Addr) (c1_9 : Nat) (l1_9 : List Int) (A1_10 : Option Addr) (c1_10 : Nat) (l1_10 : List Int) (r : Bool) (w : World) (hr0_9 : Kd.C (Kd.int .u8) w A0_9 l0_9.length l0_9) (hc0_9 : l0_9.length ≤ c0_9) (hr0_10 : Kd.C (Kd.int .u8) w A0_10 l0_10.length l0_10) (hc0_10 : l0_10.length ≤ c0_10) (hr1_9 : Kd.C (Kd.int .u8) w A1_9 l1_9.length l1_9) (hc1_9 : l1_9.length ≤ c1_9) (hr1_10 : Kd.C (Kd.int .u8) w A1_10 l1_10.length l1_10) (hc1_10 : l1_10.length ≤ c1_10) (h : drayageref04_next.f k a0_0 a0_1 a0_2 a0_3 a0_4 a0_5 a0_6 a0_7 a0_8 l0_9 l0_10 a1_0 a1_1 a1_2 a1_3 a1_4 a1_5 a1_6 a1_7 a1_8 l1_9 l1_10 = some r) :
    Calls Try.prog 48 #[.agg #[.int .i64 a0_0, .int .u64 a0_1, .int .u32 a0_2, .int .u32 a0_3, .int .i64 a0_4, .bool a0_5, .int .i64 a0_6, .int .i64 a0_7, .int .u64 a0_8, .slice A0_9 l0_9.length c0_9, .slice A0_10 l0_10.length c0_10], .agg #[.int .i64 a1_0, .int .u64 a1_1, .int .u32 a1_2, .int .u32 a1_3, .int .i64 a1_4, .bool a1_5, .int .i64 a1_6, .int .i64 a1_7, .int .u64 a1_8, .slice A1_9 l1_9.length c1_9, .slice A1_10 l1_10.length c1_10]] w fun e w' => e = .returned (.bool r) ∧ Below w.heap.size w w' := by
  have hu26 := Try.underlying26
  have HR0_9 := Aside0.mk hr0_9
  have HC0_9 := Aside0.mk hc0_9
  clear hr0_9 hc0_9
  have HR0_10 := Aside0.mk hr0_10
  have HC0_10 := Aside0.mk hc0_10
  clear hr0_10 hc0_10
  have HR1_9 := Aside0.mk hr1_9
  have HC1_9 := Aside0.mk hc1_9
  clear hr1_9 hc1_9
  have HR1_10 := Aside0.mk hr1_10
  have HC1_10 := Aside0.mk hc1_10
  clear hr1_10 hc1_10
  have HB := Aside0.mk (Below.refl w.heap.size w)
  have H : (if a1_1 = 0 then (drayageref04_next.j0 k true a0_0 a0_1 a0_2 a0_3 a0_4 a0_5 a0_6 a0_7 a0_8 l0_9 l0_10 a1_0 a1_1 a1_2 a1_3 a1_4 a1_5 a1_6 a1_7 a1_8 l1_9 l1_10) else (drayageref04_next.j0 k ((IntKind.u64.wrap (a1_1 - 1)) != a0_1) a0_0 a0_1 a0_2 a0_3 a0_4 a0_5 a0_6 a0_7 a0_8 l0_9 l0_10 a1_0 a1_1 a1_2 a1_3 a1_4 a1_5 a1_6 a1_7 a1_8 l1_9 l1_10)) = some r := h
  clear h
  have HC3 := Aside0.mk H
  clear H
  go_enter Try.func48, Try.ntmps48
  go_upto_region 1 with (first | ((with_reducible refine gate_dst (N := 2) rfl ?_); refine box_event ?hg (N := 2) ?hd (cs := #[.int .i64 a0_0, .int .u64 a0_1, .int .u32 a0_2, .int .u32 a0_3, .int .i64 a0_4, .bool a0_5, .int .i64 a0_6, .int .i64 a0_7, .int .u64 a0_8, .slice A0_9 l0_9.length c0_9, .slice A0_10 l0_10.length c0_10]) (t := 26) ?hr ?_; (case hd => rfl); (case hg => rfl); (case hr => first | (go_simp; done) | (go_simp; rfl)); intro gb185 hg w4 hbox hb; have n0_ := Aside0.mk (below_step (by repeat (first | (with_reducible first | exact HB.out | apply below_alloc | apply pw_below_drewN | apply below_drew1) | exact HB.out)) hb); have n1_ := Aside0.mk (hbox); have n2_ := Aside0.mk ((by rw [hg]; exact (below_size (by repeat (first | (with_reducible first | exact HB.out | apply below_alloc | apply pw_below_drewN | apply below_drew1) | exact HB.out))) : w.heap.size ≤ gb185)); have n3_ := Aside0.mk ((by rw [hg]; exact (below_size (by repeat (first | (with_reducible first | exact HB.out | apply below_alloc | apply pw_below_drewN | apply below_drew1) | exact HB.out))) : w.heap.size ≤ gb185)); clear HB; have HB := n0_; have BK185 := n1_; have GW185 := n2_; have GE185 := n3_; clear n0_ n1_ n2_ n3_; clear hb hbox hg) | ((with_reducible refine gate_dst (N := 3) rfl ?_); refine box_event ?hg (N := 3) ?hd (cs := #[.int .i64 a1_0, .int .u64 a1_1, .int .u32 a1_2, .int .u32 a1_3, .int .i64 a1_4, .bool a1_5, .int .i64 a1_6, .int .i64 a1_7, .int .u64 a1_8, .slice A1_9 l1_9.length c1_9, .slice A1_10 l1_10.length c1_10]) (t := 26) ?hr ?_; (case hd => rfl); (case hg => rfl); (case hr => first | (go_simp; done) | (go_simp; rfl)); intro gb186 hg w5 hbox hb; have n0_ := Aside0.mk (blk_below (g := gb185) (o := .cells #[.int .i64 a0_0, .int .u64 a0_1, .int .u32 a0_2, .int .u32 a0_3, .int .i64 a0_4, .bool a0_5, .int .i64 a0_6, .int .i64 a0_7, .int .u64 a0_8, .slice A0_9 l0_9.length c0_9, .slice A0_10 l0_10.length c0_10] 26 (0, 0)) (by (with_reducible repeat (first | apply bd1 | apply bd2 | apply bd3)); exact BK185.out) hb); have n1_ := Aside0.mk (below_step (by repeat (first | (with_reducible first | exact HB.out | apply below_alloc | apply pw_below_drewN | apply below_drew1 | refine below_set ?_ GE185.out) | exact HB.out)) hb); have n2_ := Aside0.mk (hbox); have n3_ := Aside0.mk ((by rw [hg]; exact (below_size (by repeat (first | (with_reducible first | exact HB.out | apply below_alloc | apply pw_below_drewN | apply below_drew1 | refine below_set ?_ GE185.out) | exact HB.out))) : w.heap.size ≤ gb186)); have n4_ := Aside0.mk ((by rw [hg]; exact (below_size (by repeat (first | (with_reducible first | exact HB.out | apply below_alloc | apply pw_below_drewN | apply below_drew1 | refine below_set ?_ GE185.out) | exact HB.out))) : w.heap.size ≤ gb186)); have n5_ := Aside0.mk ((by rw [hg]; exact Nat.ne_of_lt (blk_lt (g := gb185) (o := .cells #[.int .i64 a0_0, .int .u64 a0_1, .int .u32 a0_2, .int .u32 a0_3, .int .i64 a0_4, .bool a0_5, .int .i64 a0_6, .int .i64 a0_7, .int .u64 a0_8, .slice A0_9 l0_9.length c0_9, .slice A0_10 l0_10.length c0_10] 26 (0, 0)) (by (with_reducible repeat (first | apply bd1 | apply bd2 | apply bd3)); exact BK185.out)) : gb185 ≠ gb186)); have n6_ := Aside0.mk ((by rw [hg]; exact Nat.ne_of_gt (blk_lt (g := gb185) (o := .cells #[.int .i64 a0_0, .int .u64 a0_1, .int .u32 a0_2, .int .u32 a0_3, .int .i64 a0_4, .bool a0_5, .int .i64 a0_6, .int .i64 a0_7, .int .u64 a0_8, .slice A0_9 l0_9.length c0_9, .slice A0_10 l0_10.length c0_10] 26 (0, 0)) (by (with_reducible repeat (first | apply bd1 | apply bd2 | apply bd3)); exact BK185.out)) : gb186 ≠ gb185)); clear BK185; clear HB; have BK185 := n0_; have HB := n1_; have BK186 := n2_; have GW186 := n3_; have GE186 := n4_; have NB185_186 := n5_; have NB186_185 := n6_; clear n0_ n1_ n2_ n3_ n4_ n5_ n6_; clear hb hbox hg))
  (try simp only [Act.put, List.setIfInBounds_toArray, List.set_cons_zero, List.set_cons_succ])
  go_cut [15] (fun v15 wc => ∃ (kq : Nat) (x15_2 : Bool), v15 = .bool x15_2 ∧ Aside0 (drayageref04_next.j0 kq x15_2 a0_0 a0_1 a0_2 a0_3 a0_4 a0_5 a0_6 a0_7 a0_8 l0_9 l0_10 a1_0 a1_1 a1_2 a1_3 a1_4 a1_5 a1_6 a1_7 a1_8 l1_9 l1_10 = some r) ∧ Aside0 (kq ≤ k) ∧ Aside0 (wc.heap[gb185]? = some (.cells #[.int .i64 a0_0, .int .u64 a0_1, .int .u32 a0_2, .int .u32 a0_3, .int .i64 a0_4, .bool a0_5, .int .i64 a0_6, .int .i64 a0_7, .int .u64 a0_8, (.slice A0_9 l0_9.length c0_9), (.slice A0_10 l0_10.length c0_10)] 26 (0, 0))) ∧ Aside0 (wc.heap[gb186]? = some (.cells #[.int .i64 a1_0, .int .u64 a1_1, .int .u32 a1_2, .int .u32 a1_3, .int .i64 a1_4, .bool a1_5, .int .i64 a1_6, .int .i64 a1_7, .int .u64 a1_8, (.slice A1_9 l1_9.length c1_9), (.slice A1_10 l1_10.length c1_10)] 26 (0, 0))) ∧ Aside0 (Below w.heap.size w wc))
  case first =>
    have H := HC3.out
    clear HC3
    by_cases c6 : a1_1 = 0
    · rw [if_pos c6] at H
      have c6b0 : (a1_1 == 0) = true := beq_iff_eq.mpr c6
      have c6b1 : (a1_1 != 0) = false := bne_eq_false_iff_eq.mpr c6
      clear c6
      (first | rw [c6b0] | (simp only [i64_w, i32_w]; rw [c6b0]) | skip)
      have H' := Aside0.mk H
      clear H
      have hnb7 := NB186_185.out
      have hnc7 := NB185_186.out
      obtain ⟨hcz8_0, hcz8_1, hcz8_2, hcz8_3, hcz8_4, hcz8_5, hcz8_6, hcz8_7, hcz8_8, hcz8_9, hcz8_10, hfz8_0, hfz8_1, hfz8_2, hfz8_3, hfz8_4, hfz8_5, hfz8_6, hfz8_7, hfz8_8, hfz8_9, hfz8_10⟩ := blk_all11 BK186.out
      go_wp2
      go_meet
      case rel => exact ⟨_, (true), (by first | rfl | (simp; done) | (simp [*]; done)), H', ⟨by first | omega | exact Nat.le_refl _⟩, ⟨by (with_reducible repeat (first | apply bd1 | apply bd2 | apply bd3)); exact BK185.out⟩, ⟨by (with_reducible repeat (first | apply bd1 | apply bd2 | apply bd3)); exact BK186.out⟩, ⟨by repeat (first | (with_reducible first | exact HB.out | apply below_alloc | apply pw_below_drewN | apply below_drew1 | refine below_set ?_ GE185.out | refine below_set ?_ GE186.out) | exact HB.out)⟩⟩
    · rw [if_neg c6] at H
      have c6b0 : (a1_1 == 0) = false := beq_eq_false_iff_ne.mpr c6
      have c6b1 : (a1_1 != 0) = true := bne_iff_ne.mpr c6
      (first | rw [c6b0] | (simp only [i64_w, i32_w]; rw [c6b0]) | skip)
      have H' := Aside0.mk H
      clear H
      have hnb9 := NB186_185.out
      have hnc9 := NB185_186.out
      obtain ⟨hcz10_0, hcz10_1, hcz10_2, hcz10_3, hcz10_4, hcz10_5, hcz10_6, hcz10_7, hcz10_8, hcz10_9, hcz10_10, hfz10_0, hfz10_1, hfz10_2, hfz10_3, hfz10_4, hfz10_5, hfz10_6, hfz10_7, hfz10_8, hfz10_9, hfz10_10⟩ := blk_all11 BK186.out
      obtain ⟨hcz11_0, hcz11_1, hcz11_2, hcz11_3, hcz11_4, hcz11_5, hcz11_6, hcz11_7, hcz11_8, hcz11_9, hcz11_10, hfz11_0, hfz11_1, hfz11_2, hfz11_3, hfz11_4, hfz11_5, hfz11_6, hfz11_7, hfz11_8, hfz11_9, hfz11_10⟩ := blk_all11 BK185.out
      go_wp2
      go_meet
      case rel => exact ⟨_, (((IntKind.u64.wrap (a1_1 - 1)) != a0_1)), (by first | rfl | (simp; done) | (simp [*]; done)), H', ⟨by first | omega | exact Nat.le_refl _⟩, ⟨by (with_reducible repeat (first | apply bd1 | apply bd2 | apply bd3)); exact BK185.out⟩, ⟨by (with_reducible repeat (first | apply bd1 | apply bd2 | apply bd3)); exact BK186.out⟩, ⟨by repeat (first | (with_reducible first | exact HB.out | apply below_alloc | apply pw_below_drewN | apply below_drew1 | refine below_set ?_ GE185.out | refine below_set ?_ GE186.out) | exact HB.out)⟩⟩
  case rest =>
    clear HC3
    obtain ⟨kq, x15_2, rfl, HA, HJ2, BK185, BK186, HB⟩ := hcut
    cases kq with
    | zero => exact absurd HA.out (by simp [drayageref04_next.j0])
    | succ kj2 =>
      have H := HA.out
      clear HA
      simp only [drayageref04_next.j0] at H
      by_cases c12 : x15_2 = true
      · subst c12
        have H1 : (some false) = some r := by rw [if_pos rfl] at H; exact H
        clear H
        have H := H1
        clear H1
        obtain rfl := Option.some.inj H
        go_wp2
        go_ret
        exact ⟨by first | rfl | (simp [errW_none, errW_some] <;> rfl) | (simp [*, errW_none, errW_some] <;> rfl), by repeat (first | (with_reducible first | exact HB.out | apply below_alloc | apply pw_below_drewN | apply below_drew1 | refine below_set ?_ GE185.out | refine below_set ?_ GE186.out) | exact HB.out)⟩
      · replace c12 := Bool.eq_false_iff.mpr c12
        subst c12
        have H1 : (if a0_2 = a1_2 then (some true) else (if a1_0 = 1 then (some (decide (a0_2 < a1_2))) else (some false))) = some r := by rw [if_neg (show ¬ (false = true) by decide)] at H; exact H
        clear H
        have H := H1
        clear H1
        by_cases c13 : a0_2 = a1_2
        · rw [if_pos c13] at H
          have c13b0 : (a0_2 == a1_2) = true := beq_iff_eq.mpr c13
          have c13b1 : (a0_2 != a1_2) = false := bne_eq_false_iff_eq.mpr c13
          clear c13
          obtain rfl := Option.some.inj H
          have hnb14 := NB185_186.out
          have hnc14 := NB186_185.out
          obtain ⟨hcz15_0, hcz15_1, hcz15_2, hcz15_3, hcz15_4, hcz15_5, hcz15_6, hcz15_7, hcz15_8, hcz15_9, hcz15_10, hfz15_0, hfz15_1, hfz15_2, hfz15_3, hfz15_4, hfz15_5, hfz15_6, hfz15_7, hfz15_8, hfz15_9, hfz15_10⟩ := blk_all11 BK185.out
          obtain ⟨hcz16_0, hcz16_1, hcz16_2, hcz16_3, hcz16_4, hcz16_5, hcz16_6, hcz16_7, hcz16_8, hcz16_9, hcz16_10, hfz16_0, hfz16_1, hfz16_2, hfz16_3, hfz16_4, hfz16_5, hfz16_6, hfz16_7, hfz16_8, hfz16_9, hfz16_10⟩ := blk_all11 BK186.out
          go_wp2
          go_ret
          exact ⟨by first | rfl | (simp [errW_none, errW_some] <;> rfl) | (simp [*, errW_none, errW_some] <;> rfl), by repeat (first | (with_reducible first | exact HB.out | apply below_alloc | apply pw_below_drewN | apply below_drew1 | refine below_set ?_ GE185.out | refine below_set ?_ GE186.out) | exact HB.out)⟩
        · rw [if_neg c13] at H
          have c13b0 : (a0_2 == a1_2) = false := beq_eq_false_iff_ne.mpr c13
          have c13b1 : (a0_2 != a1_2) = true := bne_iff_ne.mpr c13
          by_cases c17 : a1_0 = 1
          · rw [if_pos c17] at H
            have c17b0 : (a1_0 == 1) = true := beq_iff_eq.mpr c17
            have c17b1 : (a1_0 != 1) = false := bne_eq_false_iff_eq.mpr c17
            clear c17
            obtain rfl := Option.some.inj H
            have hnb18 := NB185_186.out
            have hnc18 := NB186_185.out
            obtain ⟨hcz19_0, hcz19_1, hcz19_2, hcz19_3, hcz19_4, hcz19_5, hcz19_6, hcz19_7, hcz19_8, hcz19_9, hcz19_10, hfz19_0, hfz19_1, hfz19_2, hfz19_3, hfz19_4, hfz19_5, hfz19_6, hfz19_7, hfz19_8, hfz19_9, hfz19_10⟩ := blk_all11 BK185.out
            obtain ⟨hcz20_0, hcz20_1, hcz20_2, hcz20_3, hcz20_4, hcz20_5, hcz20_6, hcz20_7, hcz20_8, hcz20_9, hcz20_10, hfz20_0, hfz20_1, hfz20_2, hfz20_3, hfz20_4, hfz20_5, hfz20_6, hfz20_7, hfz20_8, hfz20_9, hfz20_10⟩ := blk_all11 BK186.out
            go_wp2
            go_ret
            exact ⟨by first | rfl | (simp [errW_none, errW_some] <;> rfl) | (simp [*, errW_none, errW_some] <;> rfl), by repeat (first | (with_reducible first | exact HB.out | apply below_alloc | apply pw_below_drewN | apply below_drew1 | refine below_set ?_ GE185.out | refine below_set ?_ GE186.out) | exact HB.out)⟩
          · rw [if_neg c17] at H
            have c17b0 : (a1_0 == 1) = false := beq_eq_false_iff_ne.mpr c17
            have c17b1 : (a1_0 != 1) = true := bne_iff_ne.mpr c17
            obtain rfl := Option.some.inj H
            have hnb21 := NB185_186.out
            have hnc21 := NB186_185.out
            obtain ⟨hcz22_0, hcz22_1, hcz22_2, hcz22_3, hcz22_4, hcz22_5, hcz22_6, hcz22_7, hcz22_8, hcz22_9, hcz22_10, hfz22_0, hfz22_1, hfz22_2, hfz22_3, hfz22_4, hfz22_5, hfz22_6, hfz22_7, hfz22_8, hfz22_9, hfz22_10⟩ := blk_all11 BK185.out
            obtain ⟨hcz23_0, hcz23_1, hcz23_2, hcz23_3, hcz23_4, hcz23_5, hcz23_6, hcz23_7, hcz23_8, hcz23_9, hcz23_10, hfz23_0, hfz23_1, hfz23_2, hfz23_3, hfz23_4, hfz23_5, hfz23_6, hfz23_7, hfz23_8, hfz23_9, hfz23_10⟩ := blk_all11 BK186.out
            go_wp2
            go_ret
            exact ⟨by first | rfl | (simp [errW_none, errW_some] <;> rfl) | (simp [*, errW_none, errW_some] <;> rfl), by repeat (first | (with_reducible first | exact HB.out | apply below_alloc | apply pw_below_drewN | apply below_drew1 | refine below_set ?_ GE185.out | refine below_set ?_ GE186.out) | exact HB.out)⟩

/-! ### drayageref04_Row: function 27 -/
def drayageref04_Row.l0 : Nat → List (S26) → Int → Option (Int × Int)
  | 0, _, _ => none
  | k + 1, x0, x4 => if x4 < (x0.length : Int) then (if 0 ≤ x4 then ((drayageref04_Check.f k ((rd_T26 x0 x4).f0) ((rd_T26 x0 x4).f1) ((rd_T26 x0 x4).f2) ((rd_T26 x0 x4).f3) ((rd_T26 x0 x4).f4) ((rd_T26 x0 x4).f5) ((rd_T26 x0 x4).f6) ((rd_T26 x0 x4).f7) ((rd_T26 x0 x4).f8) ((rd_T26 x0 x4).f9) ((rd_T26 x0 x4).f10)).bind fun t188 => (if t188 = 0 then (if x4 > 0 then (if 0 ≤ (wrap64 (x4 - 1)) then (if (wrap64 (x4 - 1)) < (x0.length : Int) then ((drayageref04_next.f k ((rd_T26 x0 (wrap64 (x4 - 1))).f0) ((rd_T26 x0 (wrap64 (x4 - 1))).f1) ((rd_T26 x0 (wrap64 (x4 - 1))).f2) ((rd_T26 x0 (wrap64 (x4 - 1))).f3) ((rd_T26 x0 (wrap64 (x4 - 1))).f4) ((rd_T26 x0 (wrap64 (x4 - 1))).f5) ((rd_T26 x0 (wrap64 (x4 - 1))).f6) ((rd_T26 x0 (wrap64 (x4 - 1))).f7) ((rd_T26 x0 (wrap64 (x4 - 1))).f8) ((rd_T26 x0 (wrap64 (x4 - 1))).f9) ((rd_T26 x0 (wrap64 (x4 - 1))).f10) ((rd_T26 x0 x4).f0) ((rd_T26 x0 x4).f1) ((rd_T26 x0 x4).f2) ((rd_T26 x0 x4).f3) ((rd_T26 x0 x4).f4) ((rd_T26 x0 x4).f5) ((rd_T26 x0 x4).f6) ((rd_T26 x0 x4).f7) ((rd_T26 x0 x4).f8) ((rd_T26 x0 x4).f9) ((rd_T26 x0 x4).f10)).bind fun t191 => (if t191 = true then (drayageref04_Row.l0 k x0 (wrap64 (x4 + 1))) else (some (x4, 41)))) else (none)) else (none)) else (drayageref04_Row.l0 k x0 (wrap64 (x4 + 1)))) else (some (x4, 41)))) else (none)) else (some ((x0.length : Int), 0))
def drayageref04_Row.f (k : Nat) (l0 : List (S26)) : Option (Int × Int) := drayageref04_Row.l0 k l0 0

def drayageref04_Row.T7 : Bool × List (List Nat × List Nat) := (true, [([], []), ([0], [0]), ([1], [1]), ([2], [2]), ([2], [2]), ([4, 2], [2, 4]), ([3, 5, 2], [2, 3, 5]), ([6, 2], [2, 6]), ([2], [2]), ([2], [2]), ([8, 9, 2], [2, 8, 9]), ([10, 2], [2, 10]), ([7, 11, 2, 2], [2, 7, 11]), ([12, 2], [2, 12]), ([2, 13], [2, 13])])
def drayageref04_Row.B7 : List Nat := [0, 1, 3, 7, 7, 23, 63, 127, 7, 7, 775, 1799, 4095, 8191, 16383]
theorem drayageref04_Row.tab7 : rtab .any (opsOf Try.f27 7) = drayageref04_Row.T7 := by kernel_rfl
theorem drayageref04_Row.bits7 : waitsOk drayageref04_Row.T7.2 drayageref04_Row.B7 = true := by kernel_rfl
set_option maxHeartbeats 8000000 in
set_option maxRecDepth 100000 in
theorem drayageref04_Row.calls (k : Nat) (A0 : Option Addr) (c0 : Nat) (l0 : List (S26)) (r1 : Int) (r2 : Int) (w : World) (hr0 : Kd.C k26 w A0 l0.length l0) (hc0 : l0.length ≤ c0) (h : drayageref04_Row.f k l0 = some (r1, r2)) :
    Calls Try.prog 27 #[.slice A0 l0.length c0] w fun e w' => e = .returned (.tuple #[.int .i64 r1, .int .i64 r2]) ∧ Below w.heap.size w w' := by
  have hu26 := Try.underlying26
  have HR0 := Aside0.mk hr0
  have HC0 := Aside0.mk hc0
  clear hr0 hc0
  have HB := Aside0.mk (Below.refl w.heap.size w)
  have H : (drayageref04_Row.l0 k l0 0) = some (r1, r2) := h
  clear h
  have H' := Aside0.mk H
  clear H
  go_enter Try.func27, Try.ntmps27
  go_wp2
  go_loopg [4] k (fun kq v4 w' => ∃ (x4_1 : Int), v4 = .int .i64 x4_1 ∧ Aside0 (drayageref04_Row.l0 kq l0 x4_1 = some (r1, r2)) ∧ Aside0 (kq ≤ k) ∧ Aside0 (Below w.heap.size w w'))
  case atStart => exact ⟨(0), (by first | rfl | (simp; done) | (simp [*]; done)), H', ⟨Nat.le_refl _⟩, ⟨by repeat (first | (with_reducible first | exact HB.out | apply below_alloc | apply pw_below_drewN | apply below_drew1) | exact HB.out)⟩⟩
  case round =>
    clear H'
    obtain ⟨x4_1, rfl, HA, HK1, HB⟩ := hrel
    cases gk with
    | zero => exact absurd HA.out (by simp [drayageref04_Row.l0])
    | succ k1 =>
      have H := HA.out
      clear HA
      simp only [drayageref04_Row.l0] at H
      by_cases c2 : x4_1 < (l0.length : Int)
      · rw [if_pos c2] at H
        have c2b0 : decide (x4_1 < (l0.length : Int)) = true := decide_eq_true c2
        clear c2
        by_cases c3 : 0 ≤ x4_1
        · rw [if_pos c3] at H
          have c3b0 : decide (0 ≤ x4_1) = true := decide_eq_true c3
          clear c3
          replace H := Option.bind_eq_some_iff.mp H
          obtain ⟨t188, A40, H⟩ := H
          replace H : (if t188 = 0 then (if x4_1 > 0 then (if 0 ≤ (wrap64 (x4_1 - 1)) then (if (wrap64 (x4_1 - 1)) < (l0.length : Int) then ((drayageref04_next.f k1 ((rd_T26 l0 (wrap64 (x4_1 - 1))).f0) ((rd_T26 l0 (wrap64 (x4_1 - 1))).f1) ((rd_T26 l0 (wrap64 (x4_1 - 1))).f2) ((rd_T26 l0 (wrap64 (x4_1 - 1))).f3) ((rd_T26 l0 (wrap64 (x4_1 - 1))).f4) ((rd_T26 l0 (wrap64 (x4_1 - 1))).f5) ((rd_T26 l0 (wrap64 (x4_1 - 1))).f6) ((rd_T26 l0 (wrap64 (x4_1 - 1))).f7) ((rd_T26 l0 (wrap64 (x4_1 - 1))).f8) ((rd_T26 l0 (wrap64 (x4_1 - 1))).f9) ((rd_T26 l0 (wrap64 (x4_1 - 1))).f10) ((rd_T26 l0 x4_1).f0) ((rd_T26 l0 x4_1).f1) ((rd_T26 l0 x4_1).f2) ((rd_T26 l0 x4_1).f3) ((rd_T26 l0 x4_1).f4) ((rd_T26 l0 x4_1).f5) ((rd_T26 l0 x4_1).f6) ((rd_T26 l0 x4_1).f7) ((rd_T26 l0 x4_1).f8) ((rd_T26 l0 x4_1).f9) ((rd_T26 l0 x4_1).f10)).bind fun t191 => (if t191 = true then (drayageref04_Row.l0 k1 l0 (wrap64 (x4_1 + 1))) else (some (x4_1, 41)))) else (none)) else (none)) else (drayageref04_Row.l0 k1 l0 (wrap64 (x4_1 + 1)))) else (some (x4_1, 41))) = some (r1, r2) := H
          have A4 := Aside0.mk A40
          clear A40
          by_cases c5 : t188 = 0
          · rw [if_pos c5] at H
            have c5b0 : (t188 == 0) = true := beq_iff_eq.mpr c5
            have c5b1 : (t188 != 0) = false := bne_eq_false_iff_eq.mpr c5
            clear c5
            by_cases c6 : x4_1 > 0
            · rw [if_pos c6] at H
              have c6b0 : decide (0 < x4_1) = true := decide_eq_true c6
              clear c6
              obtain ⟨ji7, hji7⟩ : ∃ j_ : Int, (wrap64 (x4_1 - 1)) = j_ := ⟨_, rfl⟩
              replace H : (if 0 ≤ (ji7) then (if (ji7) < (l0.length : Int) then ((drayageref04_next.f k1 ((rd_T26 l0 (ji7)).f0) ((rd_T26 l0 (ji7)).f1) ((rd_T26 l0 (ji7)).f2) ((rd_T26 l0 (ji7)).f3) ((rd_T26 l0 (ji7)).f4) ((rd_T26 l0 (ji7)).f5) ((rd_T26 l0 (ji7)).f6) ((rd_T26 l0 (ji7)).f7) ((rd_T26 l0 (ji7)).f8) ((rd_T26 l0 (ji7)).f9) ((rd_T26 l0 (ji7)).f10) ((rd_T26 l0 x4_1).f0) ((rd_T26 l0 x4_1).f1) ((rd_T26 l0 x4_1).f2) ((rd_T26 l0 x4_1).f3) ((rd_T26 l0 x4_1).f4) ((rd_T26 l0 x4_1).f5) ((rd_T26 l0 x4_1).f6) ((rd_T26 l0 x4_1).f7) ((rd_T26 l0 x4_1).f8) ((rd_T26 l0 x4_1).f9) ((rd_T26 l0 x4_1).f10)).bind fun t191 => (if t191 = true then (drayageref04_Row.l0 k1 l0 (wrap64 (x4_1 + 1))) else (some (x4_1, 41)))) else (none)) else (none)) = some (r1, r2) := by first | (rw [hji7] at H; exact H) | (simp only [hji7] at H ⊢; exact H)
              (try rw [hji7] at A4)
              have hji7w : (IntKind.i64.wrap (x4_1 - 1)) = ji7 := (i64_w _).trans hji7
              by_cases c8 : 0 ≤ (ji7)
              · rw [if_pos c8] at H
                have c8b0 : decide (0 ≤ (ji7)) = true := decide_eq_true c8
                clear c8
                by_cases c9 : (ji7) < (l0.length : Int)
                · rw [if_pos c9] at H
                  have c9b0 : decide ((ji7) < (l0.length : Int)) = true := decide_eq_true c9
                  clear c9
                  replace H := Option.bind_eq_some_iff.mp H
                  obtain ⟨t191, A100, H⟩ := H
                  replace H : (if t191 = true then (drayageref04_Row.l0 k1 l0 (wrap64 (x4_1 + 1))) else (some (x4_1, 41))) = some (r1, r2) := H
                  have A10 := Aside0.mk A100
                  clear A100
                  by_cases c11 : t191 = true
                  · subst c11
                    have H1 : (drayageref04_Row.l0 k1 l0 (wrap64 (x4_1 + 1))) = some (r1, r2) := by rw [if_pos rfl] at H; exact H
                    clear H
                    have H := H1
                    clear H1
                    have H' := Aside0.mk H
                    clear H
                    have p187 : 0 ≤ (x4_1 : Int) := of_decide_eq_true (by first | (with_reducible assumption) | assumption)
                    have q187 : x4_1 < (l0.length : Int) := of_decide_eq_true (by first | (with_reducible assumption) | assumption)
                    obtain ⟨ad187, A187_9, c187_9, A187_10, c187_10, e187, hx187_0, hx187_1, hx187_2, hx187_3, hx187_4, hx187_5, hx187_6, hx187_7, hx187_8, hx187_9, hx187_10, hl187_9, hi187_9, hl187_10, hi187_10⟩ := at_T26 HR0.out x4_1 p187 q187
                    cases e187
                    replace hx187_0 := (HB.out.cell (World.block_lt_of_cell? w _ hx187_0)).trans hx187_0
                    replace hx187_1 := (HB.out.cell (World.block_lt_of_cell? w _ hx187_1)).trans hx187_1
                    replace hx187_2 := (HB.out.cell (World.block_lt_of_cell? w _ hx187_2)).trans hx187_2
                    replace hx187_3 := (HB.out.cell (World.block_lt_of_cell? w _ hx187_3)).trans hx187_3
                    replace hx187_4 := (HB.out.cell (World.block_lt_of_cell? w _ hx187_4)).trans hx187_4
                    replace hx187_5 := (HB.out.cell (World.block_lt_of_cell? w _ hx187_5)).trans hx187_5
                    replace hx187_6 := (HB.out.cell (World.block_lt_of_cell? w _ hx187_6)).trans hx187_6
                    replace hx187_7 := (HB.out.cell (World.block_lt_of_cell? w _ hx187_7)).trans hx187_7
                    replace hx187_8 := (HB.out.cell (World.block_lt_of_cell? w _ hx187_8)).trans hx187_8
                    replace hx187_9 := (HB.out.cell (World.block_lt_of_cell? w _ hx187_9)).trans hx187_9
                    replace hx187_10 := (HB.out.cell (World.block_lt_of_cell? w _ hx187_10)).trans hx187_10
                    have HR187_9 := Aside0.mk hi187_9
                    have HC187_9 := Aside0.mk hl187_9
                    clear hi187_9 hl187_9
                    have HR187_10 := Aside0.mk hi187_10
                    have HC187_10 := Aside0.mk hl187_10
                    clear hi187_10 hl187_10
                    replace p187 := eq_true p187
                    replace q187 := eq_true q187
                    try go_wp2_with (first | ((with_reducible refine gate_callee (f := 37) rfl ?_); refine goesL_ (some 16) rfl rfl Try.func37 (by kernel_rfl) rfl #[.agg #[.int .i64 ((rd_T26 l0 x4_1).f0), .int .u64 ((rd_T26 l0 x4_1).f1), .int .u32 ((rd_T26 l0 x4_1).f2), .int .u32 ((rd_T26 l0 x4_1).f3), .int .i64 ((rd_T26 l0 x4_1).f4), .bool ((rd_T26 l0 x4_1).f5), .int .i64 ((rd_T26 l0 x4_1).f6), .int .i64 ((rd_T26 l0 x4_1).f7), .int .u64 ((rd_T26 l0 x4_1).f8), .slice A187_9 ((rd_T26 l0 x4_1).f9).length c187_9, .slice A187_10 ((rd_T26 l0 x4_1).f10).length c187_10]] rfl (by (try simp only [List.map_toArray, List.map_cons, List.map_nil]); first | done | rfl | (simp only [List.length_drop, List.length_take]; rfl)) ?_; (with_reducible refine (drayageref04_Check.calls k1 ((rd_T26 l0 x4_1).f0) ((rd_T26 l0 x4_1).f1) ((rd_T26 l0 x4_1).f2) ((rd_T26 l0 x4_1).f3) ((rd_T26 l0 x4_1).f4) ((rd_T26 l0 x4_1).f5) ((rd_T26 l0 x4_1).f6) ((rd_T26 l0 x4_1).f7) ((rd_T26 l0 x4_1).f8) _ _ ((rd_T26 l0 x4_1).f9) _ _ ((rd_T26 l0 x4_1).f10) t188 _ ?side1 ?side2 ?side3 ?side4 A4.out).mono ?_); (case side1 => repeat (first | exact (Kd.C_below HR187_9.out HB.out) | (with_reducible refine Kd.C_alloc ?_ _) | (with_reducible refine Kd.C_drewN ?_ _) | (with_reducible refine Kd.C_drew ?_))); (case side2 => exact HC187_9.out); (case side3 => repeat (first | exact (Kd.C_below HR187_10.out HB.out) | (with_reducible refine Kd.C_alloc ?_ _) | (with_reducible refine Kd.C_drewN ?_ _) | (with_reducible refine Kd.C_drew ?_))); (case side4 => exact HC187_10.out); rintro e w12 ⟨rfl, hb⟩; refine ⟨_, rfl, ?_⟩; have n0_ := Aside0.mk (below_step (by repeat (first | (with_reducible first | exact HB.out | apply below_alloc | apply pw_below_drewN | apply below_drew1) | exact HB.out)) hb); clear HB; have HB := n0_; clear n0_; (try clear hb); (try clear hb2); (try clear hk); (try clear hi)))
                    have n0_ := Aside0.mk (below_drew1 HB.out)
                    clear HB
                    have HB := n0_
                    clear n0_
                    have p189 : 0 ≤ ((ji7) : Int) := of_decide_eq_true (by first | (with_reducible assumption) | assumption)
                    have q189 : (ji7) < (l0.length : Int) := of_decide_eq_true (by first | (with_reducible assumption) | assumption)
                    obtain ⟨ad189, A189_9, c189_9, A189_10, c189_10, e189, hx189_0, hx189_1, hx189_2, hx189_3, hx189_4, hx189_5, hx189_6, hx189_7, hx189_8, hx189_9, hx189_10, hl189_9, hi189_9, hl189_10, hi189_10⟩ := at_T26 HR0.out (ji7) p189 q189
                    have hw189_10 := hx189_10
                    have hw189_9 := hx189_9
                    have hw189_8 := hx189_8
                    have hw189_7 := hx189_7
                    have hw189_6 := hx189_6
                    have hw189_5 := hx189_5
                    have hw189_4 := hx189_4
                    have hw189_3 := hx189_3
                    have hw189_2 := hx189_2
                    have hw189_1 := hx189_1
                    have hw189_0 := hx189_0
                    obtain rfl : ad187 = ad189 := (by injection e189)
                    replace hx189_0 := (HB.out.cell (World.block_lt_of_cell? w _ hx189_0)).trans hx189_0
                    replace hx189_1 := (HB.out.cell (World.block_lt_of_cell? w _ hx189_1)).trans hx189_1
                    replace hx189_2 := (HB.out.cell (World.block_lt_of_cell? w _ hx189_2)).trans hx189_2
                    replace hx189_3 := (HB.out.cell (World.block_lt_of_cell? w _ hx189_3)).trans hx189_3
                    replace hx189_4 := (HB.out.cell (World.block_lt_of_cell? w _ hx189_4)).trans hx189_4
                    replace hx189_5 := (HB.out.cell (World.block_lt_of_cell? w _ hx189_5)).trans hx189_5
                    replace hx189_6 := (HB.out.cell (World.block_lt_of_cell? w _ hx189_6)).trans hx189_6
                    replace hx189_7 := (HB.out.cell (World.block_lt_of_cell? w _ hx189_7)).trans hx189_7
                    replace hx189_8 := (HB.out.cell (World.block_lt_of_cell? w _ hx189_8)).trans hx189_8
                    replace hx189_9 := (HB.out.cell (World.block_lt_of_cell? w _ hx189_9)).trans hx189_9
                    replace hx189_10 := (HB.out.cell (World.block_lt_of_cell? w _ hx189_10)).trans hx189_10
                    have HR189_9 := Aside0.mk hi189_9
                    have HC189_9 := Aside0.mk hl189_9
                    clear hi189_9 hl189_9
                    have HR189_10 := Aside0.mk hi189_10
                    have HC189_10 := Aside0.mk hl189_10
                    clear hi189_10 hl189_10
                    replace p189 := eq_true p189
                    replace q189 := eq_true q189
                    have p190 : 0 ≤ (x4_1 : Int) := of_decide_eq_true (by first | (with_reducible assumption) | assumption)
                    have q190 : x4_1 < (l0.length : Int) := of_decide_eq_true (by first | (with_reducible assumption) | assumption)
                    obtain ⟨ad190, A190_9, c190_9, A190_10, c190_10, e190, hx190_0, hx190_1, hx190_2, hx190_3, hx190_4, hx190_5, hx190_6, hx190_7, hx190_8, hx190_9, hx190_10, hl190_9, hi190_9, hl190_10, hi190_10⟩ := at_T26 HR0.out x4_1 p190 q190
                    have hw190_10 := hx190_10
                    have hw190_9 := hx190_9
                    have hw190_8 := hx190_8
                    have hw190_7 := hx190_7
                    have hw190_6 := hx190_6
                    have hw190_5 := hx190_5
                    have hw190_4 := hx190_4
                    have hw190_3 := hx190_3
                    have hw190_2 := hx190_2
                    have hw190_1 := hx190_1
                    have hw190_0 := hx190_0
                    obtain rfl : ad187 = ad190 := (by injection e190)
                    replace hx190_0 := (HB.out.cell (World.block_lt_of_cell? w _ hx190_0)).trans hx190_0
                    replace hx190_1 := (HB.out.cell (World.block_lt_of_cell? w _ hx190_1)).trans hx190_1
                    replace hx190_2 := (HB.out.cell (World.block_lt_of_cell? w _ hx190_2)).trans hx190_2
                    replace hx190_3 := (HB.out.cell (World.block_lt_of_cell? w _ hx190_3)).trans hx190_3
                    replace hx190_4 := (HB.out.cell (World.block_lt_of_cell? w _ hx190_4)).trans hx190_4
                    replace hx190_5 := (HB.out.cell (World.block_lt_of_cell? w _ hx190_5)).trans hx190_5
                    replace hx190_6 := (HB.out.cell (World.block_lt_of_cell? w _ hx190_6)).trans hx190_6
                    replace hx190_7 := (HB.out.cell (World.block_lt_of_cell? w _ hx190_7)).trans hx190_7
                    replace hx190_8 := (HB.out.cell (World.block_lt_of_cell? w _ hx190_8)).trans hx190_8
                    replace hx190_9 := (HB.out.cell (World.block_lt_of_cell? w _ hx190_9)).trans hx190_9
                    replace hx190_10 := (HB.out.cell (World.block_lt_of_cell? w _ hx190_10)).trans hx190_10
                    have HR190_9 := Aside0.mk hi190_9
                    have HC190_9 := Aside0.mk hl190_9
                    clear hi190_9 hl190_9
                    have HR190_10 := Aside0.mk hi190_10
                    have HC190_10 := Aside0.mk hl190_10
                    clear hi190_10 hl190_10
                    replace p190 := eq_true p190
                    replace q190 := eq_true q190
                    refine start_ (n := 15) (S := fun w' => w'.cell? (ad187.add (((ji7)).toNat * 11)) = some (.int .i64 ((rd_T26 l0 (ji7)).f0)) ∧ w'.cell? ⟨(ad187.add (((ji7)).toNat * 11)).block, (ad187.add (((ji7)).toNat * 11)).off + 1, none⟩ = some (.int .u64 ((rd_T26 l0 (ji7)).f1)) ∧ w'.cell? ⟨(ad187.add (((ji7)).toNat * 11)).block, (ad187.add (((ji7)).toNat * 11)).off + 2, none⟩ = some (.int .u32 ((rd_T26 l0 (ji7)).f2)) ∧ w'.cell? ⟨(ad187.add (((ji7)).toNat * 11)).block, (ad187.add (((ji7)).toNat * 11)).off + 3, none⟩ = some (.int .u32 ((rd_T26 l0 (ji7)).f3)) ∧ w'.cell? ⟨(ad187.add (((ji7)).toNat * 11)).block, (ad187.add (((ji7)).toNat * 11)).off + 4, none⟩ = some (.int .i64 ((rd_T26 l0 (ji7)).f4)) ∧ w'.cell? ⟨(ad187.add (((ji7)).toNat * 11)).block, (ad187.add (((ji7)).toNat * 11)).off + 5, none⟩ = some (.bool ((rd_T26 l0 (ji7)).f5)) ∧ w'.cell? ⟨(ad187.add (((ji7)).toNat * 11)).block, (ad187.add (((ji7)).toNat * 11)).off + 6, none⟩ = some (.int .i64 ((rd_T26 l0 (ji7)).f6)) ∧ w'.cell? ⟨(ad187.add (((ji7)).toNat * 11)).block, (ad187.add (((ji7)).toNat * 11)).off + 7, none⟩ = some (.int .i64 ((rd_T26 l0 (ji7)).f7)) ∧ w'.cell? ⟨(ad187.add (((ji7)).toNat * 11)).block, (ad187.add (((ji7)).toNat * 11)).off + 8, none⟩ = some (.int .u64 ((rd_T26 l0 (ji7)).f8)) ∧ w'.cell? ⟨(ad187.add (((ji7)).toNat * 11)).block, (ad187.add (((ji7)).toNat * 11)).off + 9, none⟩ = some (.slice A189_9 ((rd_T26 l0 (ji7)).f9).length c189_9) ∧ w'.cell? ⟨(ad187.add (((ji7)).toNat * 11)).block, (ad187.add (((ji7)).toNat * 11)).off + 10, none⟩ = some (.slice A189_10 ((rd_T26 l0 (ji7)).f10).length c189_10) ∧ w'.cell? (ad187.add ((x4_1).toNat * 11)) = some (.int .i64 ((rd_T26 l0 x4_1).f0)) ∧ w'.cell? ⟨(ad187.add ((x4_1).toNat * 11)).block, (ad187.add ((x4_1).toNat * 11)).off + 1, none⟩ = some (.int .u64 ((rd_T26 l0 x4_1).f1)) ∧ w'.cell? ⟨(ad187.add ((x4_1).toNat * 11)).block, (ad187.add ((x4_1).toNat * 11)).off + 2, none⟩ = some (.int .u32 ((rd_T26 l0 x4_1).f2)) ∧ w'.cell? ⟨(ad187.add ((x4_1).toNat * 11)).block, (ad187.add ((x4_1).toNat * 11)).off + 3, none⟩ = some (.int .u32 ((rd_T26 l0 x4_1).f3)) ∧ w'.cell? ⟨(ad187.add ((x4_1).toNat * 11)).block, (ad187.add ((x4_1).toNat * 11)).off + 4, none⟩ = some (.int .i64 ((rd_T26 l0 x4_1).f4)) ∧ w'.cell? ⟨(ad187.add ((x4_1).toNat * 11)).block, (ad187.add ((x4_1).toNat * 11)).off + 5, none⟩ = some (.bool ((rd_T26 l0 x4_1).f5)) ∧ w'.cell? ⟨(ad187.add ((x4_1).toNat * 11)).block, (ad187.add ((x4_1).toNat * 11)).off + 6, none⟩ = some (.int .i64 ((rd_T26 l0 x4_1).f6)) ∧ w'.cell? ⟨(ad187.add ((x4_1).toNat * 11)).block, (ad187.add ((x4_1).toNat * 11)).off + 7, none⟩ = some (.int .i64 ((rd_T26 l0 x4_1).f7)) ∧ w'.cell? ⟨(ad187.add ((x4_1).toNat * 11)).block, (ad187.add ((x4_1).toNat * 11)).off + 8, none⟩ = some (.int .u64 ((rd_T26 l0 x4_1).f8)) ∧ w'.cell? ⟨(ad187.add ((x4_1).toNat * 11)).block, (ad187.add ((x4_1).toNat * 11)).off + 9, none⟩ = some (.slice A190_9 ((rd_T26 l0 x4_1).f9).length c190_9) ∧ w'.cell? ⟨(ad187.add ((x4_1).toNat * 11)).block, (ad187.add ((x4_1).toNat * 11)).off + 10, none⟩ = some (.slice A190_10 ((rd_T26 l0 x4_1).f10).length c190_10)) (ds := []) #[false, false, false, false, false, false, false, false, false, false, false, false, false, false, false] (by kernel_rfl) rfl rfl ⟨((HB.out.cell (World.block_lt_of_cell? w _ hw189_0)).trans hw189_0), ((HB.out.cell (World.block_lt_of_cell? w _ hw189_1)).trans hw189_1), ((HB.out.cell (World.block_lt_of_cell? w _ hw189_2)).trans hw189_2), ((HB.out.cell (World.block_lt_of_cell? w _ hw189_3)).trans hw189_3), ((HB.out.cell (World.block_lt_of_cell? w _ hw189_4)).trans hw189_4), ((HB.out.cell (World.block_lt_of_cell? w _ hw189_5)).trans hw189_5), ((HB.out.cell (World.block_lt_of_cell? w _ hw189_6)).trans hw189_6), ((HB.out.cell (World.block_lt_of_cell? w _ hw189_7)).trans hw189_7), ((HB.out.cell (World.block_lt_of_cell? w _ hw189_8)).trans hw189_8), ((HB.out.cell (World.block_lt_of_cell? w _ hw189_9)).trans hw189_9), ((HB.out.cell (World.block_lt_of_cell? w _ hw189_10)).trans hw189_10), ((HB.out.cell (World.block_lt_of_cell? w _ hw190_0)).trans hw190_0), ((HB.out.cell (World.block_lt_of_cell? w _ hw190_1)).trans hw190_1), ((HB.out.cell (World.block_lt_of_cell? w _ hw190_2)).trans hw190_2), ((HB.out.cell (World.block_lt_of_cell? w _ hw190_3)).trans hw190_3), ((HB.out.cell (World.block_lt_of_cell? w _ hw190_4)).trans hw190_4), ((HB.out.cell (World.block_lt_of_cell? w _ hw190_5)).trans hw190_5), ((HB.out.cell (World.block_lt_of_cell? w _ hw190_6)).trans hw190_6), ((HB.out.cell (World.block_lt_of_cell? w _ hw190_7)).trans hw190_7), ((HB.out.cell (World.block_lt_of_cell? w _ hw190_8)).trans hw190_8), ((HB.out.cell (World.block_lt_of_cell? w _ hw190_9)).trans hw190_9), ((HB.out.cell (World.block_lt_of_cell? w _ hw190_10)).trans hw190_10)⟩ (fun hHeld => ?_); refine with_tabW drayageref04_Row.tab7 drayageref04_Row.bits7 (fun HT_ HW_ => ?_)
                    generalize w12.drew = w13 at HB HR189_10 HR189_9 HR190_10 HR190_9 hx189_0 hx189_1 hx189_10 hx189_2 hx189_3 hx189_4 hx189_5 hx189_6 hx189_7 hx189_8 hx189_9 hx190_0 hx190_1 hx190_10 hx190_2 hx190_3 hx190_4 hx190_5 hx190_6 hx190_7 hx190_8 hx190_9 hHeld ⊢
                    refine pure_ (i := 0) (N := some 20) (v := ?_) (a' := ?_) #[true, false, false, false, false, false, false, false, false, false, false, false, false, false, false] rfl rfl (any_of HT_.out (by kernel_rfl)) (fun _ _ _ h => h) (Or.inl ⟨by rfl, ?_⟩) ?_ ?_
                    rotate_left
                    · intro w'
                      go_simp
                      with_reducible rfl
                    rotate_left
                    · simp only [Act.put, List.setIfInBounds_toArray, List.set_cons_zero, List.set_cons_succ, i64_w, i32_w]
                      rfl
                    refine pure_ (i := 1) (N := some 21) (v := ?_) (a' := ?_) #[true, true, false, false, false, false, false, false, false, false, false, false, false, false, false] rfl rfl (any_of HT_.out (by kernel_rfl)) (fun _ _ _ h => h) (Or.inl ⟨by rfl, ?_⟩) ?_ ?_
                    rotate_left
                    · intro w'
                      go_simp
                      with_reducible rfl
                    rotate_left
                    · simp only [Act.put, List.setIfInBounds_toArray, List.set_cons_zero, List.set_cons_succ, i64_w, i32_w]
                      rfl
                    refine pure_ (i := 2) (N := some 22) (v := ?_) (a' := ?_) #[true, true, true, false, false, false, false, false, false, false, false, false, false, false, false] rfl rfl (any_of HT_.out (by kernel_rfl)) (fun _ _ _ h => h) (Or.inl ⟨by rfl, ?_⟩) ?_ ?_
                    rotate_left
                    · intro w'
                      go_simp
                      with_reducible rfl
                    rotate_left
                    · simp only [Act.put, List.setIfInBounds_toArray, List.set_cons_zero, List.set_cons_succ, i64_w, i32_w]
                      rfl
                    refine pure_ (i := 3) (N := some 23) (v := ?_) (a' := ?_) #[true, true, true, true, false, false, false, false, false, false, false, false, false, false, false] rfl rfl (any_of HT_.out (by kernel_rfl)) (fun _ _ _ h => h) (Or.inl ⟨by rfl, ?_⟩) ?_ ?_
                    rotate_left
                    · intro w'
                      go_simp
                      with_reducible rfl
                    rotate_left
                    · simp only [Act.put, List.setIfInBounds_toArray, List.set_cons_zero, List.set_cons_succ, i64_w, i32_w]
                      rfl
                    refine pure_ (i := 4) (N := some 24) (v := ?_) (a' := ?_) #[true, true, true, true, true, false, false, false, false, false, false, false, false, false, false] rfl rfl (any_of HT_.out (by kernel_rfl)) (fun _ _ _ h => h) (Or.inl ⟨by rfl, ?_⟩) ?_ ?_
                    rotate_left
                    · intro w'
                      go_simp
                      with_reducible rfl
                    rotate_left
                    · simp only [Act.put, List.setIfInBounds_toArray, List.set_cons_zero, List.set_cons_succ, i64_w, i32_w]
                      rfl
                    refine pure_ (i := 5) (N := some 25) (v := ?_) (a' := ?_) #[true, true, true, true, true, true, false, false, false, false, false, false, false, false, false] rfl rfl (any_of HT_.out (by kernel_rfl)) (fun _ _ _ h => h) (Or.inl ⟨by rfl, ?_⟩) ?_ ?_
                    rotate_left
                    · intro w'
                      go_simp
                      with_reducible rfl
                    rotate_left
                    · simp only [Act.put, List.setIfInBounds_toArray, List.set_cons_zero, List.set_cons_succ, i64_w, i32_w]
                      rfl
                    refine pure_ (i := 6) (N := some 26) (v := ?_) (a' := ?_) #[true, true, true, true, true, true, true, false, false, false, false, false, false, false, false] rfl rfl (any_of HT_.out (by kernel_rfl)) (fun _ _ _ h => h) (Or.inl ⟨by rfl, ?_⟩) ?_ ?_
                    rotate_left
                    · intro w'
                      go_simp
                      with_reducible rfl
                    rotate_left
                    · simp only [Act.put, List.setIfInBounds_toArray, List.set_cons_zero, List.set_cons_succ, i64_w, i32_w]
                      rfl
                    refine pure_ (i := 8) (N := some 28) (v := ?_) (a' := ?_) #[true, true, true, true, true, true, true, false, true, false, false, false, false, false, false] rfl rfl (any_of HT_.out (by kernel_rfl)) (fun _ _ _ h => h) (Or.inl ⟨by rfl, ?_⟩) ?_ ?_
                    rotate_left
                    · intro w'
                      go_simp
                      with_reducible rfl
                    rotate_left
                    · simp only [Act.put, List.setIfInBounds_toArray, List.set_cons_zero, List.set_cons_succ, i64_w, i32_w]
                      rfl
                    refine pure_ (i := 9) (N := some 29) (v := ?_) (a' := ?_) #[true, true, true, true, true, true, true, false, true, true, false, false, false, false, false] rfl rfl (any_of HT_.out (by kernel_rfl)) (fun _ _ _ h => h) (Or.inl ⟨by rfl, ?_⟩) ?_ ?_
                    rotate_left
                    · intro w'
                      go_simp
                      with_reducible rfl
                    rotate_left
                    · simp only [Act.put, List.setIfInBounds_toArray, List.set_cons_zero, List.set_cons_succ, i64_w, i32_w]
                      rfl
                    refine pure_ (i := 10) (N := some 30) (v := ?_) (a' := ?_) #[true, true, true, true, true, true, true, false, true, true, true, false, false, false, false] rfl rfl (any_of HT_.out (by kernel_rfl)) (fun _ _ _ h => h) (Or.inl ⟨by rfl, ?_⟩) ?_ ?_
                    rotate_left
                    · intro w'
                      go_simp
                      with_reducible rfl
                    rotate_left
                    · simp only [Act.put, List.setIfInBounds_toArray, List.set_cons_zero, List.set_cons_succ, i64_w, i32_w]
                      rfl
                    refine take_ (i := 7) (N := some 27) (v := ?_) (a' := ?_) #[true, true, true, true, true, true, true, true, true, true, true, false, false, false, false] rfl rfl (take_ofW HT_.out HW_.out (by kernel_rfl)) (fun _ _ _ h => h) (Or.inl ⟨by rfl, ?_⟩) hHeld ?_ ?_
                    rotate_left
                    · rintro w' ⟨s0, s1, s2, s3, s4, s5, s6, s7, s8, s9, s10, s11, s12, s13, s14, s15, s16, s17, s18, s19, s20, s21⟩
                      go_simp
                      with_reducible rfl
                    rotate_left
                    · simp only [Act.put, List.setIfInBounds_toArray, List.set_cons_zero, List.set_cons_succ, i64_w, i32_w]
                      rfl
                    refine take_ (i := 11) (N := some 31) (v := ?_) (a' := ?_) #[true, true, true, true, true, true, true, true, true, true, true, true, false, false, false] rfl rfl (take_ofW HT_.out HW_.out (by kernel_rfl)) (fun _ _ _ h => h) (Or.inl ⟨by rfl, ?_⟩) hHeld ?_ ?_
                    rotate_left
                    · rintro w' ⟨s0, s1, s2, s3, s4, s5, s6, s7, s8, s9, s10, s11, s12, s13, s14, s15, s16, s17, s18, s19, s20, s21⟩
                      go_simp
                      with_reducible rfl
                    rotate_left
                    · simp only [Act.put, List.setIfInBounds_toArray, List.set_cons_zero, List.set_cons_succ, i64_w, i32_w]
                      rfl
                    refine one_ (i := 12) (N := some 32) #[true, true, true, true, true, true, true, true, true, true, true, true, true, false, false] rfl rfl (one_of HT_.out (by kernel_rfl)) (by decide) (fun K hK => ?_)
                    refine goes_ Try.func48 (by kernel_rfl) rfl #[.agg #[.int .i64 ((rd_T26 l0 (ji7)).f0), .int .u64 ((rd_T26 l0 (ji7)).f1), .int .u32 ((rd_T26 l0 (ji7)).f2), .int .u32 ((rd_T26 l0 (ji7)).f3), .int .i64 ((rd_T26 l0 (ji7)).f4), .bool ((rd_T26 l0 (ji7)).f5), .int .i64 ((rd_T26 l0 (ji7)).f6), .int .i64 ((rd_T26 l0 (ji7)).f7), .int .u64 ((rd_T26 l0 (ji7)).f8), .slice A189_9 ((rd_T26 l0 (ji7)).f9).length c189_9, .slice A189_10 ((rd_T26 l0 (ji7)).f10).length c189_10], .agg #[.int .i64 ((rd_T26 l0 x4_1).f0), .int .u64 ((rd_T26 l0 x4_1).f1), .int .u32 ((rd_T26 l0 x4_1).f2), .int .u32 ((rd_T26 l0 x4_1).f3), .int .i64 ((rd_T26 l0 x4_1).f4), .bool ((rd_T26 l0 x4_1).f5), .int .i64 ((rd_T26 l0 x4_1).f6), .int .i64 ((rd_T26 l0 x4_1).f7), .int .u64 ((rd_T26 l0 x4_1).f8), .slice A190_9 ((rd_T26 l0 x4_1).f9).length c190_9, .slice A190_10 ((rd_T26 l0 x4_1).f10).length c190_10]] (by rfl) rfl rfl (by (try simp only [List.map_toArray, List.map_cons, List.map_nil]); first | done | (simp only [hji7]; rfl) | rfl | (simp only [List.length_drop, List.length_take]; rfl)) ?_
                    with_reducible refine (drayageref04_next.calls k1 ((rd_T26 l0 (ji7)).f0) ((rd_T26 l0 (ji7)).f1) ((rd_T26 l0 (ji7)).f2) ((rd_T26 l0 (ji7)).f3) ((rd_T26 l0 (ji7)).f4) ((rd_T26 l0 (ji7)).f5) ((rd_T26 l0 (ji7)).f6) ((rd_T26 l0 (ji7)).f7) ((rd_T26 l0 (ji7)).f8) _ _ ((rd_T26 l0 (ji7)).f9) _ _ ((rd_T26 l0 (ji7)).f10) ((rd_T26 l0 x4_1).f0) ((rd_T26 l0 x4_1).f1) ((rd_T26 l0 x4_1).f2) ((rd_T26 l0 x4_1).f3) ((rd_T26 l0 x4_1).f4) ((rd_T26 l0 x4_1).f5) ((rd_T26 l0 x4_1).f6) ((rd_T26 l0 x4_1).f7) ((rd_T26 l0 x4_1).f8) _ _ ((rd_T26 l0 x4_1).f9) _ _ ((rd_T26 l0 x4_1).f10) true _ ?side1 ?side2 ?side3 ?side4 ?side5 ?side6 ?side7 ?side8 A10.out).mono ?_
                    (case side1 => repeat (first | exact (Kd.C_below HR189_9.out HB.out) | (with_reducible refine Kd.C_alloc ?_ _) | (with_reducible refine Kd.C_drewN ?_ _) | (with_reducible refine Kd.C_drew ?_)))
                    (case side2 => exact HC189_9.out)
                    (case side3 => repeat (first | exact (Kd.C_below HR189_10.out HB.out) | (with_reducible refine Kd.C_alloc ?_ _) | (with_reducible refine Kd.C_drewN ?_ _) | (with_reducible refine Kd.C_drew ?_)))
                    (case side4 => exact HC189_10.out)
                    (case side5 => repeat (first | exact (Kd.C_below HR190_9.out HB.out) | (with_reducible refine Kd.C_alloc ?_ _) | (with_reducible refine Kd.C_drewN ?_ _) | (with_reducible refine Kd.C_drew ?_)))
                    (case side6 => exact HC190_9.out)
                    (case side7 => repeat (first | exact (Kd.C_below HR190_10.out HB.out) | (with_reducible refine Kd.C_alloc ?_ _) | (with_reducible refine Kd.C_drewN ?_ _) | (with_reducible refine Kd.C_drew ?_)))
                    (case side8 => exact HC190_10.out)
                    rintro e w14 ⟨rfl, hb⟩
                    refine ⟨_, rfl, ?_⟩
                    have n0_ := Aside0.mk (below_step (by repeat (first | (with_reducible first | exact HB.out | apply below_alloc | apply pw_below_drewN | apply below_drew1) | exact HB.out)) hb)
                    clear HB
                    have HB := n0_
                    clear n0_
                    (try clear hb)
                    (try clear hb2)
                    (try clear hk)
                    (try clear hi)
                    refine hK.out _ _ ⟨((HB.out.cell (World.block_lt_of_cell? w _ hw189_0)).trans hw189_0), ((HB.out.cell (World.block_lt_of_cell? w _ hw189_1)).trans hw189_1), ((HB.out.cell (World.block_lt_of_cell? w _ hw189_2)).trans hw189_2), ((HB.out.cell (World.block_lt_of_cell? w _ hw189_3)).trans hw189_3), ((HB.out.cell (World.block_lt_of_cell? w _ hw189_4)).trans hw189_4), ((HB.out.cell (World.block_lt_of_cell? w _ hw189_5)).trans hw189_5), ((HB.out.cell (World.block_lt_of_cell? w _ hw189_6)).trans hw189_6), ((HB.out.cell (World.block_lt_of_cell? w _ hw189_7)).trans hw189_7), ((HB.out.cell (World.block_lt_of_cell? w _ hw189_8)).trans hw189_8), ((HB.out.cell (World.block_lt_of_cell? w _ hw189_9)).trans hw189_9), ((HB.out.cell (World.block_lt_of_cell? w _ hw189_10)).trans hw189_10), ((HB.out.cell (World.block_lt_of_cell? w _ hw190_0)).trans hw190_0), ((HB.out.cell (World.block_lt_of_cell? w _ hw190_1)).trans hw190_1), ((HB.out.cell (World.block_lt_of_cell? w _ hw190_2)).trans hw190_2), ((HB.out.cell (World.block_lt_of_cell? w _ hw190_3)).trans hw190_3), ((HB.out.cell (World.block_lt_of_cell? w _ hw190_4)).trans hw190_4), ((HB.out.cell (World.block_lt_of_cell? w _ hw190_5)).trans hw190_5), ((HB.out.cell (World.block_lt_of_cell? w _ hw190_6)).trans hw190_6), ((HB.out.cell (World.block_lt_of_cell? w _ hw190_7)).trans hw190_7), ((HB.out.cell (World.block_lt_of_cell? w _ hw190_8)).trans hw190_8), ((HB.out.cell (World.block_lt_of_cell? w _ hw190_9)).trans hw190_9), ((HB.out.cell (World.block_lt_of_cell? w _ hw190_10)).trans hw190_10)⟩ (fun hHeld => ?_)
                    clear hK K
                    refine norm_ (a' := ?_) ?_ ?_
                    rotate_left
                    · show Act.put _ (some 32) _ = _
                      simp only [Act.put, List.setIfInBounds_toArray, List.set_cons_zero, List.set_cons_succ, i64_w, i32_w]
                      rfl
                    refine pure_ (i := 13) (N := some 33) (v := ?_) (a' := ?_) #[true, true, true, true, true, true, true, true, true, true, true, true, true, true, false] rfl rfl (any_of HT_.out (by kernel_rfl)) (fun _ _ _ h => h) (Or.inl ⟨by rfl, ?_⟩) ?_ ?_
                    rotate_left
                    · intro w'
                      go_simp
                      with_reducible rfl
                    rotate_left
                    · simp only [Act.put, List.setIfInBounds_toArray, List.set_cons_zero, List.set_cons_succ, i64_w, i32_w]
                      rfl
                    refine pure_ (i := 14) (N := some 34) (v := ?_) (a' := ?_) #[true, true, true, true, true, true, true, true, true, true, true, true, true, true, true] rfl rfl (any_of HT_.out (by kernel_rfl)) (fun _ _ _ h => h) (Or.inl ⟨by rfl, ?_⟩) ?_ ?_
                    rotate_left
                    · intro w'
                      go_simp
                      with_reducible rfl
                    rotate_left
                    · simp only [Act.put, List.setIfInBounds_toArray, List.set_cons_zero, List.set_cons_succ, i64_w, i32_w]
                      rfl
                    refine done_ (done_of HT_.out (by kernel_rfl)) ?_
                    try go_wp2
                    go_roundg k1
                    case measure => have := HK1.out; omega
                    case rel => exact ⟨(wrap64 (x4_1 + 1)), (by first | rfl | (simp; done) | (simp [*]; done)), H', ⟨by have := HK1.out; omega⟩, ⟨by repeat (first | (with_reducible first | exact HB.out | apply below_alloc | apply pw_below_drewN | apply below_drew1) | exact HB.out)⟩⟩
                  · replace c11 := Bool.eq_false_iff.mpr c11
                    subst c11
                    have H1 : (some (x4_1, 41)) = some (r1, r2) := by rw [if_neg (show ¬ (false = true) by decide)] at H; exact H
                    clear H
                    have H := H1
                    clear H1
                    simp only [Option.some.injEq, Prod.mk.injEq] at H
                    obtain ⟨rfl, rfl⟩ := H
                    have p187 : 0 ≤ (x4_1 : Int) := of_decide_eq_true (by first | (with_reducible assumption) | assumption)
                    have q187 : x4_1 < (l0.length : Int) := of_decide_eq_true (by first | (with_reducible assumption) | assumption)
                    obtain ⟨ad187, A187_9, c187_9, A187_10, c187_10, e187, hx187_0, hx187_1, hx187_2, hx187_3, hx187_4, hx187_5, hx187_6, hx187_7, hx187_8, hx187_9, hx187_10, hl187_9, hi187_9, hl187_10, hi187_10⟩ := at_T26 HR0.out x4_1 p187 q187
                    cases e187
                    replace hx187_0 := (HB.out.cell (World.block_lt_of_cell? w _ hx187_0)).trans hx187_0
                    replace hx187_1 := (HB.out.cell (World.block_lt_of_cell? w _ hx187_1)).trans hx187_1
                    replace hx187_2 := (HB.out.cell (World.block_lt_of_cell? w _ hx187_2)).trans hx187_2
                    replace hx187_3 := (HB.out.cell (World.block_lt_of_cell? w _ hx187_3)).trans hx187_3
                    replace hx187_4 := (HB.out.cell (World.block_lt_of_cell? w _ hx187_4)).trans hx187_4
                    replace hx187_5 := (HB.out.cell (World.block_lt_of_cell? w _ hx187_5)).trans hx187_5
                    replace hx187_6 := (HB.out.cell (World.block_lt_of_cell? w _ hx187_6)).trans hx187_6
                    replace hx187_7 := (HB.out.cell (World.block_lt_of_cell? w _ hx187_7)).trans hx187_7
                    replace hx187_8 := (HB.out.cell (World.block_lt_of_cell? w _ hx187_8)).trans hx187_8
                    replace hx187_9 := (HB.out.cell (World.block_lt_of_cell? w _ hx187_9)).trans hx187_9
                    replace hx187_10 := (HB.out.cell (World.block_lt_of_cell? w _ hx187_10)).trans hx187_10
                    have HR187_9 := Aside0.mk hi187_9
                    have HC187_9 := Aside0.mk hl187_9
                    clear hi187_9 hl187_9
                    have HR187_10 := Aside0.mk hi187_10
                    have HC187_10 := Aside0.mk hl187_10
                    clear hi187_10 hl187_10
                    replace p187 := eq_true p187
                    replace q187 := eq_true q187
                    try go_wp2_with (first | ((with_reducible refine gate_callee (f := 37) rfl ?_); refine goesL_ (some 16) rfl rfl Try.func37 (by kernel_rfl) rfl #[.agg #[.int .i64 ((rd_T26 l0 x4_1).f0), .int .u64 ((rd_T26 l0 x4_1).f1), .int .u32 ((rd_T26 l0 x4_1).f2), .int .u32 ((rd_T26 l0 x4_1).f3), .int .i64 ((rd_T26 l0 x4_1).f4), .bool ((rd_T26 l0 x4_1).f5), .int .i64 ((rd_T26 l0 x4_1).f6), .int .i64 ((rd_T26 l0 x4_1).f7), .int .u64 ((rd_T26 l0 x4_1).f8), .slice A187_9 ((rd_T26 l0 x4_1).f9).length c187_9, .slice A187_10 ((rd_T26 l0 x4_1).f10).length c187_10]] rfl (by (try simp only [List.map_toArray, List.map_cons, List.map_nil]); first | done | rfl | (simp only [List.length_drop, List.length_take]; rfl)) ?_; (with_reducible refine (drayageref04_Check.calls k1 ((rd_T26 l0 x4_1).f0) ((rd_T26 l0 x4_1).f1) ((rd_T26 l0 x4_1).f2) ((rd_T26 l0 x4_1).f3) ((rd_T26 l0 x4_1).f4) ((rd_T26 l0 x4_1).f5) ((rd_T26 l0 x4_1).f6) ((rd_T26 l0 x4_1).f7) ((rd_T26 l0 x4_1).f8) _ _ ((rd_T26 l0 x4_1).f9) _ _ ((rd_T26 l0 x4_1).f10) t188 _ ?side1 ?side2 ?side3 ?side4 A4.out).mono ?_); (case side1 => repeat (first | exact (Kd.C_below HR187_9.out HB.out) | (with_reducible refine Kd.C_alloc ?_ _) | (with_reducible refine Kd.C_drewN ?_ _) | (with_reducible refine Kd.C_drew ?_))); (case side2 => exact HC187_9.out); (case side3 => repeat (first | exact (Kd.C_below HR187_10.out HB.out) | (with_reducible refine Kd.C_alloc ?_ _) | (with_reducible refine Kd.C_drewN ?_ _) | (with_reducible refine Kd.C_drew ?_))); (case side4 => exact HC187_10.out); rintro e w15 ⟨rfl, hb⟩; refine ⟨_, rfl, ?_⟩; have n0_ := Aside0.mk (below_step (by repeat (first | (with_reducible first | exact HB.out | apply below_alloc | apply pw_below_drewN | apply below_drew1) | exact HB.out)) hb); clear HB; have HB := n0_; clear n0_; (try clear hb); (try clear hb2); (try clear hk); (try clear hi)))
                    have n0_ := Aside0.mk (below_drew1 HB.out)
                    clear HB
                    have HB := n0_
                    clear n0_
                    have p189 : 0 ≤ ((ji7) : Int) := of_decide_eq_true (by first | (with_reducible assumption) | assumption)
                    have q189 : (ji7) < (l0.length : Int) := of_decide_eq_true (by first | (with_reducible assumption) | assumption)
                    obtain ⟨ad189, A189_9, c189_9, A189_10, c189_10, e189, hx189_0, hx189_1, hx189_2, hx189_3, hx189_4, hx189_5, hx189_6, hx189_7, hx189_8, hx189_9, hx189_10, hl189_9, hi189_9, hl189_10, hi189_10⟩ := at_T26 HR0.out (ji7) p189 q189
                    have hw189_10 := hx189_10
                    have hw189_9 := hx189_9
                    have hw189_8 := hx189_8
                    have hw189_7 := hx189_7
                    have hw189_6 := hx189_6
                    have hw189_5 := hx189_5
                    have hw189_4 := hx189_4
                    have hw189_3 := hx189_3
                    have hw189_2 := hx189_2
                    have hw189_1 := hx189_1
                    have hw189_0 := hx189_0
                    obtain rfl : ad187 = ad189 := (by injection e189)
                    replace hx189_0 := (HB.out.cell (World.block_lt_of_cell? w _ hx189_0)).trans hx189_0
                    replace hx189_1 := (HB.out.cell (World.block_lt_of_cell? w _ hx189_1)).trans hx189_1
                    replace hx189_2 := (HB.out.cell (World.block_lt_of_cell? w _ hx189_2)).trans hx189_2
                    replace hx189_3 := (HB.out.cell (World.block_lt_of_cell? w _ hx189_3)).trans hx189_3
                    replace hx189_4 := (HB.out.cell (World.block_lt_of_cell? w _ hx189_4)).trans hx189_4
                    replace hx189_5 := (HB.out.cell (World.block_lt_of_cell? w _ hx189_5)).trans hx189_5
                    replace hx189_6 := (HB.out.cell (World.block_lt_of_cell? w _ hx189_6)).trans hx189_6
                    replace hx189_7 := (HB.out.cell (World.block_lt_of_cell? w _ hx189_7)).trans hx189_7
                    replace hx189_8 := (HB.out.cell (World.block_lt_of_cell? w _ hx189_8)).trans hx189_8
                    replace hx189_9 := (HB.out.cell (World.block_lt_of_cell? w _ hx189_9)).trans hx189_9
                    replace hx189_10 := (HB.out.cell (World.block_lt_of_cell? w _ hx189_10)).trans hx189_10
                    have HR189_9 := Aside0.mk hi189_9
                    have HC189_9 := Aside0.mk hl189_9
                    clear hi189_9 hl189_9
                    have HR189_10 := Aside0.mk hi189_10
                    have HC189_10 := Aside0.mk hl189_10
                    clear hi189_10 hl189_10
                    replace p189 := eq_true p189
                    replace q189 := eq_true q189
                    have p190 : 0 ≤ (x4_1 : Int) := of_decide_eq_true (by first | (with_reducible assumption) | assumption)
                    have q190 : x4_1 < (l0.length : Int) := of_decide_eq_true (by first | (with_reducible assumption) | assumption)
                    obtain ⟨ad190, A190_9, c190_9, A190_10, c190_10, e190, hx190_0, hx190_1, hx190_2, hx190_3, hx190_4, hx190_5, hx190_6, hx190_7, hx190_8, hx190_9, hx190_10, hl190_9, hi190_9, hl190_10, hi190_10⟩ := at_T26 HR0.out x4_1 p190 q190
                    have hw190_10 := hx190_10
                    have hw190_9 := hx190_9
                    have hw190_8 := hx190_8
                    have hw190_7 := hx190_7
                    have hw190_6 := hx190_6
                    have hw190_5 := hx190_5
                    have hw190_4 := hx190_4
                    have hw190_3 := hx190_3
                    have hw190_2 := hx190_2
                    have hw190_1 := hx190_1
                    have hw190_0 := hx190_0
                    obtain rfl : ad187 = ad190 := (by injection e190)
                    replace hx190_0 := (HB.out.cell (World.block_lt_of_cell? w _ hx190_0)).trans hx190_0
                    replace hx190_1 := (HB.out.cell (World.block_lt_of_cell? w _ hx190_1)).trans hx190_1
                    replace hx190_2 := (HB.out.cell (World.block_lt_of_cell? w _ hx190_2)).trans hx190_2
                    replace hx190_3 := (HB.out.cell (World.block_lt_of_cell? w _ hx190_3)).trans hx190_3
                    replace hx190_4 := (HB.out.cell (World.block_lt_of_cell? w _ hx190_4)).trans hx190_4
                    replace hx190_5 := (HB.out.cell (World.block_lt_of_cell? w _ hx190_5)).trans hx190_5
                    replace hx190_6 := (HB.out.cell (World.block_lt_of_cell? w _ hx190_6)).trans hx190_6
                    replace hx190_7 := (HB.out.cell (World.block_lt_of_cell? w _ hx190_7)).trans hx190_7
                    replace hx190_8 := (HB.out.cell (World.block_lt_of_cell? w _ hx190_8)).trans hx190_8
                    replace hx190_9 := (HB.out.cell (World.block_lt_of_cell? w _ hx190_9)).trans hx190_9
                    replace hx190_10 := (HB.out.cell (World.block_lt_of_cell? w _ hx190_10)).trans hx190_10
                    have HR190_9 := Aside0.mk hi190_9
                    have HC190_9 := Aside0.mk hl190_9
                    clear hi190_9 hl190_9
                    have HR190_10 := Aside0.mk hi190_10
                    have HC190_10 := Aside0.mk hl190_10
                    clear hi190_10 hl190_10
                    replace p190 := eq_true p190
                    replace q190 := eq_true q190
                    refine start_ (n := 15) (S := fun w' => w'.cell? (ad187.add (((ji7)).toNat * 11)) = some (.int .i64 ((rd_T26 l0 (ji7)).f0)) ∧ w'.cell? ⟨(ad187.add (((ji7)).toNat * 11)).block, (ad187.add (((ji7)).toNat * 11)).off + 1, none⟩ = some (.int .u64 ((rd_T26 l0 (ji7)).f1)) ∧ w'.cell? ⟨(ad187.add (((ji7)).toNat * 11)).block, (ad187.add (((ji7)).toNat * 11)).off + 2, none⟩ = some (.int .u32 ((rd_T26 l0 (ji7)).f2)) ∧ w'.cell? ⟨(ad187.add (((ji7)).toNat * 11)).block, (ad187.add (((ji7)).toNat * 11)).off + 3, none⟩ = some (.int .u32 ((rd_T26 l0 (ji7)).f3)) ∧ w'.cell? ⟨(ad187.add (((ji7)).toNat * 11)).block, (ad187.add (((ji7)).toNat * 11)).off + 4, none⟩ = some (.int .i64 ((rd_T26 l0 (ji7)).f4)) ∧ w'.cell? ⟨(ad187.add (((ji7)).toNat * 11)).block, (ad187.add (((ji7)).toNat * 11)).off + 5, none⟩ = some (.bool ((rd_T26 l0 (ji7)).f5)) ∧ w'.cell? ⟨(ad187.add (((ji7)).toNat * 11)).block, (ad187.add (((ji7)).toNat * 11)).off + 6, none⟩ = some (.int .i64 ((rd_T26 l0 (ji7)).f6)) ∧ w'.cell? ⟨(ad187.add (((ji7)).toNat * 11)).block, (ad187.add (((ji7)).toNat * 11)).off + 7, none⟩ = some (.int .i64 ((rd_T26 l0 (ji7)).f7)) ∧ w'.cell? ⟨(ad187.add (((ji7)).toNat * 11)).block, (ad187.add (((ji7)).toNat * 11)).off + 8, none⟩ = some (.int .u64 ((rd_T26 l0 (ji7)).f8)) ∧ w'.cell? ⟨(ad187.add (((ji7)).toNat * 11)).block, (ad187.add (((ji7)).toNat * 11)).off + 9, none⟩ = some (.slice A189_9 ((rd_T26 l0 (ji7)).f9).length c189_9) ∧ w'.cell? ⟨(ad187.add (((ji7)).toNat * 11)).block, (ad187.add (((ji7)).toNat * 11)).off + 10, none⟩ = some (.slice A189_10 ((rd_T26 l0 (ji7)).f10).length c189_10) ∧ w'.cell? (ad187.add ((x4_1).toNat * 11)) = some (.int .i64 ((rd_T26 l0 x4_1).f0)) ∧ w'.cell? ⟨(ad187.add ((x4_1).toNat * 11)).block, (ad187.add ((x4_1).toNat * 11)).off + 1, none⟩ = some (.int .u64 ((rd_T26 l0 x4_1).f1)) ∧ w'.cell? ⟨(ad187.add ((x4_1).toNat * 11)).block, (ad187.add ((x4_1).toNat * 11)).off + 2, none⟩ = some (.int .u32 ((rd_T26 l0 x4_1).f2)) ∧ w'.cell? ⟨(ad187.add ((x4_1).toNat * 11)).block, (ad187.add ((x4_1).toNat * 11)).off + 3, none⟩ = some (.int .u32 ((rd_T26 l0 x4_1).f3)) ∧ w'.cell? ⟨(ad187.add ((x4_1).toNat * 11)).block, (ad187.add ((x4_1).toNat * 11)).off + 4, none⟩ = some (.int .i64 ((rd_T26 l0 x4_1).f4)) ∧ w'.cell? ⟨(ad187.add ((x4_1).toNat * 11)).block, (ad187.add ((x4_1).toNat * 11)).off + 5, none⟩ = some (.bool ((rd_T26 l0 x4_1).f5)) ∧ w'.cell? ⟨(ad187.add ((x4_1).toNat * 11)).block, (ad187.add ((x4_1).toNat * 11)).off + 6, none⟩ = some (.int .i64 ((rd_T26 l0 x4_1).f6)) ∧ w'.cell? ⟨(ad187.add ((x4_1).toNat * 11)).block, (ad187.add ((x4_1).toNat * 11)).off + 7, none⟩ = some (.int .i64 ((rd_T26 l0 x4_1).f7)) ∧ w'.cell? ⟨(ad187.add ((x4_1).toNat * 11)).block, (ad187.add ((x4_1).toNat * 11)).off + 8, none⟩ = some (.int .u64 ((rd_T26 l0 x4_1).f8)) ∧ w'.cell? ⟨(ad187.add ((x4_1).toNat * 11)).block, (ad187.add ((x4_1).toNat * 11)).off + 9, none⟩ = some (.slice A190_9 ((rd_T26 l0 x4_1).f9).length c190_9) ∧ w'.cell? ⟨(ad187.add ((x4_1).toNat * 11)).block, (ad187.add ((x4_1).toNat * 11)).off + 10, none⟩ = some (.slice A190_10 ((rd_T26 l0 x4_1).f10).length c190_10)) (ds := []) #[false, false, false, false, false, false, false, false, false, false, false, false, false, false, false] (by kernel_rfl) rfl rfl ⟨((HB.out.cell (World.block_lt_of_cell? w _ hw189_0)).trans hw189_0), ((HB.out.cell (World.block_lt_of_cell? w _ hw189_1)).trans hw189_1), ((HB.out.cell (World.block_lt_of_cell? w _ hw189_2)).trans hw189_2), ((HB.out.cell (World.block_lt_of_cell? w _ hw189_3)).trans hw189_3), ((HB.out.cell (World.block_lt_of_cell? w _ hw189_4)).trans hw189_4), ((HB.out.cell (World.block_lt_of_cell? w _ hw189_5)).trans hw189_5), ((HB.out.cell (World.block_lt_of_cell? w _ hw189_6)).trans hw189_6), ((HB.out.cell (World.block_lt_of_cell? w _ hw189_7)).trans hw189_7), ((HB.out.cell (World.block_lt_of_cell? w _ hw189_8)).trans hw189_8), ((HB.out.cell (World.block_lt_of_cell? w _ hw189_9)).trans hw189_9), ((HB.out.cell (World.block_lt_of_cell? w _ hw189_10)).trans hw189_10), ((HB.out.cell (World.block_lt_of_cell? w _ hw190_0)).trans hw190_0), ((HB.out.cell (World.block_lt_of_cell? w _ hw190_1)).trans hw190_1), ((HB.out.cell (World.block_lt_of_cell? w _ hw190_2)).trans hw190_2), ((HB.out.cell (World.block_lt_of_cell? w _ hw190_3)).trans hw190_3), ((HB.out.cell (World.block_lt_of_cell? w _ hw190_4)).trans hw190_4), ((HB.out.cell (World.block_lt_of_cell? w _ hw190_5)).trans hw190_5), ((HB.out.cell (World.block_lt_of_cell? w _ hw190_6)).trans hw190_6), ((HB.out.cell (World.block_lt_of_cell? w _ hw190_7)).trans hw190_7), ((HB.out.cell (World.block_lt_of_cell? w _ hw190_8)).trans hw190_8), ((HB.out.cell (World.block_lt_of_cell? w _ hw190_9)).trans hw190_9), ((HB.out.cell (World.block_lt_of_cell? w _ hw190_10)).trans hw190_10)⟩ (fun hHeld => ?_); refine with_tabW drayageref04_Row.tab7 drayageref04_Row.bits7 (fun HT_ HW_ => ?_)
                    generalize w15.drew = w16 at HB HR189_10 HR189_9 HR190_10 HR190_9 hx189_0 hx189_1 hx189_10 hx189_2 hx189_3 hx189_4 hx189_5 hx189_6 hx189_7 hx189_8 hx189_9 hx190_0 hx190_1 hx190_10 hx190_2 hx190_3 hx190_4 hx190_5 hx190_6 hx190_7 hx190_8 hx190_9 hHeld ⊢
                    refine pure_ (i := 0) (N := some 20) (v := ?_) (a' := ?_) #[true, false, false, false, false, false, false, false, false, false, false, false, false, false, false] rfl rfl (any_of HT_.out (by kernel_rfl)) (fun _ _ _ h => h) (Or.inl ⟨by rfl, ?_⟩) ?_ ?_
                    rotate_left
                    · intro w'
                      go_simp
                      with_reducible rfl
                    rotate_left
                    · simp only [Act.put, List.setIfInBounds_toArray, List.set_cons_zero, List.set_cons_succ, i64_w, i32_w]
                      rfl
                    refine pure_ (i := 1) (N := some 21) (v := ?_) (a' := ?_) #[true, true, false, false, false, false, false, false, false, false, false, false, false, false, false] rfl rfl (any_of HT_.out (by kernel_rfl)) (fun _ _ _ h => h) (Or.inl ⟨by rfl, ?_⟩) ?_ ?_
                    rotate_left
                    · intro w'
                      go_simp
                      with_reducible rfl
                    rotate_left
                    · simp only [Act.put, List.setIfInBounds_toArray, List.set_cons_zero, List.set_cons_succ, i64_w, i32_w]
                      rfl
                    refine pure_ (i := 2) (N := some 22) (v := ?_) (a' := ?_) #[true, true, true, false, false, false, false, false, false, false, false, false, false, false, false] rfl rfl (any_of HT_.out (by kernel_rfl)) (fun _ _ _ h => h) (Or.inl ⟨by rfl, ?_⟩) ?_ ?_
                    rotate_left
                    · intro w'
                      go_simp
                      with_reducible rfl
                    rotate_left
                    · simp only [Act.put, List.setIfInBounds_toArray, List.set_cons_zero, List.set_cons_succ, i64_w, i32_w]
                      rfl
                    refine pure_ (i := 3) (N := some 23) (v := ?_) (a' := ?_) #[true, true, true, true, false, false, false, false, false, false, false, false, false, false, false] rfl rfl (any_of HT_.out (by kernel_rfl)) (fun _ _ _ h => h) (Or.inl ⟨by rfl, ?_⟩) ?_ ?_
                    rotate_left
                    · intro w'
                      go_simp
                      with_reducible rfl
                    rotate_left
                    · simp only [Act.put, List.setIfInBounds_toArray, List.set_cons_zero, List.set_cons_succ, i64_w, i32_w]
                      rfl
                    refine pure_ (i := 4) (N := some 24) (v := ?_) (a' := ?_) #[true, true, true, true, true, false, false, false, false, false, false, false, false, false, false] rfl rfl (any_of HT_.out (by kernel_rfl)) (fun _ _ _ h => h) (Or.inl ⟨by rfl, ?_⟩) ?_ ?_
                    rotate_left
                    · intro w'
                      go_simp
                      with_reducible rfl
                    rotate_left
                    · simp only [Act.put, List.setIfInBounds_toArray, List.set_cons_zero, List.set_cons_succ, i64_w, i32_w]
                      rfl
                    refine pure_ (i := 5) (N := some 25) (v := ?_) (a' := ?_) #[true, true, true, true, true, true, false, false, false, false, false, false, false, false, false] rfl rfl (any_of HT_.out (by kernel_rfl)) (fun _ _ _ h => h) (Or.inl ⟨by rfl, ?_⟩) ?_ ?_
                    rotate_left
                    · intro w'
                      go_simp
                      with_reducible rfl
                    rotate_left
                    · simp only [Act.put, List.setIfInBounds_toArray, List.set_cons_zero, List.set_cons_succ, i64_w, i32_w]
                      rfl
                    refine pure_ (i := 6) (N := some 26) (v := ?_) (a' := ?_) #[true, true, true, true, true, true, true, false, false, false, false, false, false, false, false] rfl rfl (any_of HT_.out (by kernel_rfl)) (fun _ _ _ h => h) (Or.inl ⟨by rfl, ?_⟩) ?_ ?_
                    rotate_left
                    · intro w'
                      go_simp
                      with_reducible rfl
                    rotate_left
                    · simp only [Act.put, List.setIfInBounds_toArray, List.set_cons_zero, List.set_cons_succ, i64_w, i32_w]
                      rfl
                    refine pure_ (i := 8) (N := some 28) (v := ?_) (a' := ?_) #[true, true, true, true, true, true, true, false, true, false, false, false, false, false, false] rfl rfl (any_of HT_.out (by kernel_rfl)) (fun _ _ _ h => h) (Or.inl ⟨by rfl, ?_⟩) ?_ ?_
                    rotate_left
                    · intro w'
                      go_simp
                      with_reducible rfl
                    rotate_left
                    · simp only [Act.put, List.setIfInBounds_toArray, List.set_cons_zero, List.set_cons_succ, i64_w, i32_w]
                      rfl
                    refine pure_ (i := 9) (N := some 29) (v := ?_) (a' := ?_) #[true, true, true, true, true, true, true, false, true, true, false, false, false, false, false] rfl rfl (any_of HT_.out (by kernel_rfl)) (fun _ _ _ h => h) (Or.inl ⟨by rfl, ?_⟩) ?_ ?_
                    rotate_left
                    · intro w'
                      go_simp
                      with_reducible rfl
                    rotate_left
                    · simp only [Act.put, List.setIfInBounds_toArray, List.set_cons_zero, List.set_cons_succ, i64_w, i32_w]
                      rfl
                    refine pure_ (i := 10) (N := some 30) (v := ?_) (a' := ?_) #[true, true, true, true, true, true, true, false, true, true, true, false, false, false, false] rfl rfl (any_of HT_.out (by kernel_rfl)) (fun _ _ _ h => h) (Or.inl ⟨by rfl, ?_⟩) ?_ ?_
                    rotate_left
                    · intro w'
                      go_simp
                      with_reducible rfl
                    rotate_left
                    · simp only [Act.put, List.setIfInBounds_toArray, List.set_cons_zero, List.set_cons_succ, i64_w, i32_w]
                      rfl
                    refine take_ (i := 7) (N := some 27) (v := ?_) (a' := ?_) #[true, true, true, true, true, true, true, true, true, true, true, false, false, false, false] rfl rfl (take_ofW HT_.out HW_.out (by kernel_rfl)) (fun _ _ _ h => h) (Or.inl ⟨by rfl, ?_⟩) hHeld ?_ ?_
                    rotate_left
                    · rintro w' ⟨s0, s1, s2, s3, s4, s5, s6, s7, s8, s9, s10, s11, s12, s13, s14, s15, s16, s17, s18, s19, s20, s21⟩
                      go_simp
                      with_reducible rfl
                    rotate_left
                    · simp only [Act.put, List.setIfInBounds_toArray, List.set_cons_zero, List.set_cons_succ, i64_w, i32_w]
                      rfl
                    refine take_ (i := 11) (N := some 31) (v := ?_) (a' := ?_) #[true, true, true, true, true, true, true, true, true, true, true, true, false, false, false] rfl rfl (take_ofW HT_.out HW_.out (by kernel_rfl)) (fun _ _ _ h => h) (Or.inl ⟨by rfl, ?_⟩) hHeld ?_ ?_
                    rotate_left
                    · rintro w' ⟨s0, s1, s2, s3, s4, s5, s6, s7, s8, s9, s10, s11, s12, s13, s14, s15, s16, s17, s18, s19, s20, s21⟩
                      go_simp
                      with_reducible rfl
                    rotate_left
                    · simp only [Act.put, List.setIfInBounds_toArray, List.set_cons_zero, List.set_cons_succ, i64_w, i32_w]
                      rfl
                    refine one_ (i := 12) (N := some 32) #[true, true, true, true, true, true, true, true, true, true, true, true, true, false, false] rfl rfl (one_of HT_.out (by kernel_rfl)) (by decide) (fun K hK => ?_)
                    refine goes_ Try.func48 (by kernel_rfl) rfl #[.agg #[.int .i64 ((rd_T26 l0 (ji7)).f0), .int .u64 ((rd_T26 l0 (ji7)).f1), .int .u32 ((rd_T26 l0 (ji7)).f2), .int .u32 ((rd_T26 l0 (ji7)).f3), .int .i64 ((rd_T26 l0 (ji7)).f4), .bool ((rd_T26 l0 (ji7)).f5), .int .i64 ((rd_T26 l0 (ji7)).f6), .int .i64 ((rd_T26 l0 (ji7)).f7), .int .u64 ((rd_T26 l0 (ji7)).f8), .slice A189_9 ((rd_T26 l0 (ji7)).f9).length c189_9, .slice A189_10 ((rd_T26 l0 (ji7)).f10).length c189_10], .agg #[.int .i64 ((rd_T26 l0 x4_1).f0), .int .u64 ((rd_T26 l0 x4_1).f1), .int .u32 ((rd_T26 l0 x4_1).f2), .int .u32 ((rd_T26 l0 x4_1).f3), .int .i64 ((rd_T26 l0 x4_1).f4), .bool ((rd_T26 l0 x4_1).f5), .int .i64 ((rd_T26 l0 x4_1).f6), .int .i64 ((rd_T26 l0 x4_1).f7), .int .u64 ((rd_T26 l0 x4_1).f8), .slice A190_9 ((rd_T26 l0 x4_1).f9).length c190_9, .slice A190_10 ((rd_T26 l0 x4_1).f10).length c190_10]] (by rfl) rfl rfl (by (try simp only [List.map_toArray, List.map_cons, List.map_nil]); first | done | (simp only [hji7]; rfl) | rfl | (simp only [List.length_drop, List.length_take]; rfl)) ?_
                    with_reducible refine (drayageref04_next.calls k1 ((rd_T26 l0 (ji7)).f0) ((rd_T26 l0 (ji7)).f1) ((rd_T26 l0 (ji7)).f2) ((rd_T26 l0 (ji7)).f3) ((rd_T26 l0 (ji7)).f4) ((rd_T26 l0 (ji7)).f5) ((rd_T26 l0 (ji7)).f6) ((rd_T26 l0 (ji7)).f7) ((rd_T26 l0 (ji7)).f8) _ _ ((rd_T26 l0 (ji7)).f9) _ _ ((rd_T26 l0 (ji7)).f10) ((rd_T26 l0 x4_1).f0) ((rd_T26 l0 x4_1).f1) ((rd_T26 l0 x4_1).f2) ((rd_T26 l0 x4_1).f3) ((rd_T26 l0 x4_1).f4) ((rd_T26 l0 x4_1).f5) ((rd_T26 l0 x4_1).f6) ((rd_T26 l0 x4_1).f7) ((rd_T26 l0 x4_1).f8) _ _ ((rd_T26 l0 x4_1).f9) _ _ ((rd_T26 l0 x4_1).f10) false _ ?side1 ?side2 ?side3 ?side4 ?side5 ?side6 ?side7 ?side8 A10.out).mono ?_
                    (case side1 => repeat (first | exact (Kd.C_below HR189_9.out HB.out) | (with_reducible refine Kd.C_alloc ?_ _) | (with_reducible refine Kd.C_drewN ?_ _) | (with_reducible refine Kd.C_drew ?_)))
                    (case side2 => exact HC189_9.out)
                    (case side3 => repeat (first | exact (Kd.C_below HR189_10.out HB.out) | (with_reducible refine Kd.C_alloc ?_ _) | (with_reducible refine Kd.C_drewN ?_ _) | (with_reducible refine Kd.C_drew ?_)))
                    (case side4 => exact HC189_10.out)
                    (case side5 => repeat (first | exact (Kd.C_below HR190_9.out HB.out) | (with_reducible refine Kd.C_alloc ?_ _) | (with_reducible refine Kd.C_drewN ?_ _) | (with_reducible refine Kd.C_drew ?_)))
                    (case side6 => exact HC190_9.out)
                    (case side7 => repeat (first | exact (Kd.C_below HR190_10.out HB.out) | (with_reducible refine Kd.C_alloc ?_ _) | (with_reducible refine Kd.C_drewN ?_ _) | (with_reducible refine Kd.C_drew ?_)))
                    (case side8 => exact HC190_10.out)
                    rintro e w17 ⟨rfl, hb⟩
                    refine ⟨_, rfl, ?_⟩
                    have n0_ := Aside0.mk (below_step (by repeat (first | (with_reducible first | exact HB.out | apply below_alloc | apply pw_below_drewN | apply below_drew1) | exact HB.out)) hb)
                    clear HB
                    have HB := n0_
                    clear n0_
                    (try clear hb)
                    (try clear hb2)
                    (try clear hk)
                    (try clear hi)
                    refine hK.out _ _ ⟨((HB.out.cell (World.block_lt_of_cell? w _ hw189_0)).trans hw189_0), ((HB.out.cell (World.block_lt_of_cell? w _ hw189_1)).trans hw189_1), ((HB.out.cell (World.block_lt_of_cell? w _ hw189_2)).trans hw189_2), ((HB.out.cell (World.block_lt_of_cell? w _ hw189_3)).trans hw189_3), ((HB.out.cell (World.block_lt_of_cell? w _ hw189_4)).trans hw189_4), ((HB.out.cell (World.block_lt_of_cell? w _ hw189_5)).trans hw189_5), ((HB.out.cell (World.block_lt_of_cell? w _ hw189_6)).trans hw189_6), ((HB.out.cell (World.block_lt_of_cell? w _ hw189_7)).trans hw189_7), ((HB.out.cell (World.block_lt_of_cell? w _ hw189_8)).trans hw189_8), ((HB.out.cell (World.block_lt_of_cell? w _ hw189_9)).trans hw189_9), ((HB.out.cell (World.block_lt_of_cell? w _ hw189_10)).trans hw189_10), ((HB.out.cell (World.block_lt_of_cell? w _ hw190_0)).trans hw190_0), ((HB.out.cell (World.block_lt_of_cell? w _ hw190_1)).trans hw190_1), ((HB.out.cell (World.block_lt_of_cell? w _ hw190_2)).trans hw190_2), ((HB.out.cell (World.block_lt_of_cell? w _ hw190_3)).trans hw190_3), ((HB.out.cell (World.block_lt_of_cell? w _ hw190_4)).trans hw190_4), ((HB.out.cell (World.block_lt_of_cell? w _ hw190_5)).trans hw190_5), ((HB.out.cell (World.block_lt_of_cell? w _ hw190_6)).trans hw190_6), ((HB.out.cell (World.block_lt_of_cell? w _ hw190_7)).trans hw190_7), ((HB.out.cell (World.block_lt_of_cell? w _ hw190_8)).trans hw190_8), ((HB.out.cell (World.block_lt_of_cell? w _ hw190_9)).trans hw190_9), ((HB.out.cell (World.block_lt_of_cell? w _ hw190_10)).trans hw190_10)⟩ (fun hHeld => ?_)
                    clear hK K
                    refine norm_ (a' := ?_) ?_ ?_
                    rotate_left
                    · show Act.put _ (some 32) _ = _
                      simp only [Act.put, List.setIfInBounds_toArray, List.set_cons_zero, List.set_cons_succ, i64_w, i32_w]
                      rfl
                    refine pure_ (i := 13) (N := some 33) (v := ?_) (a' := ?_) #[true, true, true, true, true, true, true, true, true, true, true, true, true, true, false] rfl rfl (any_of HT_.out (by kernel_rfl)) (fun _ _ _ h => h) (Or.inl ⟨by rfl, ?_⟩) ?_ ?_
                    rotate_left
                    · intro w'
                      go_simp
                      with_reducible rfl
                    rotate_left
                    · simp only [Act.put, List.setIfInBounds_toArray, List.set_cons_zero, List.set_cons_succ, i64_w, i32_w]
                      rfl
                    refine pure_ (i := 14) (N := some 34) (v := ?_) (a' := ?_) #[true, true, true, true, true, true, true, true, true, true, true, true, true, true, true] rfl rfl (any_of HT_.out (by kernel_rfl)) (fun _ _ _ h => h) (Or.inl ⟨by rfl, ?_⟩) ?_ ?_
                    rotate_left
                    · intro w'
                      go_simp
                      with_reducible rfl
                    rotate_left
                    · simp only [Act.put, List.setIfInBounds_toArray, List.set_cons_zero, List.set_cons_succ, i64_w, i32_w]
                      rfl
                    refine done_ (done_of HT_.out (by kernel_rfl)) ?_
                    try go_wp2
                    go_ret2
                    exact ⟨by first | rfl | (simp [errW_none, errW_some] <;> rfl) | (simp only [← hji7]; first | rfl | (simp [errW_none, errW_some] <;> rfl)) | (simp [*, errW_none, errW_some] <;> rfl), by repeat (first | (with_reducible first | exact HB.out | apply below_alloc | apply pw_below_drewN | apply below_drew1) | exact HB.out)⟩
                · rw [if_neg c9] at H
                  exact absurd H (by simp)
              · rw [if_neg c8] at H
                exact absurd H (by simp)
            · rw [if_neg c6] at H
              have c6b0 : decide (0 < x4_1) = false := decide_eq_false c6
              clear c6
              have H' := Aside0.mk H
              clear H
              have p187 : 0 ≤ (x4_1 : Int) := of_decide_eq_true (by first | (with_reducible assumption) | assumption)
              have q187 : x4_1 < (l0.length : Int) := of_decide_eq_true (by first | (with_reducible assumption) | assumption)
              obtain ⟨ad187, A187_9, c187_9, A187_10, c187_10, e187, hx187_0, hx187_1, hx187_2, hx187_3, hx187_4, hx187_5, hx187_6, hx187_7, hx187_8, hx187_9, hx187_10, hl187_9, hi187_9, hl187_10, hi187_10⟩ := at_T26 HR0.out x4_1 p187 q187
              cases e187
              replace hx187_0 := (HB.out.cell (World.block_lt_of_cell? w _ hx187_0)).trans hx187_0
              replace hx187_1 := (HB.out.cell (World.block_lt_of_cell? w _ hx187_1)).trans hx187_1
              replace hx187_2 := (HB.out.cell (World.block_lt_of_cell? w _ hx187_2)).trans hx187_2
              replace hx187_3 := (HB.out.cell (World.block_lt_of_cell? w _ hx187_3)).trans hx187_3
              replace hx187_4 := (HB.out.cell (World.block_lt_of_cell? w _ hx187_4)).trans hx187_4
              replace hx187_5 := (HB.out.cell (World.block_lt_of_cell? w _ hx187_5)).trans hx187_5
              replace hx187_6 := (HB.out.cell (World.block_lt_of_cell? w _ hx187_6)).trans hx187_6
              replace hx187_7 := (HB.out.cell (World.block_lt_of_cell? w _ hx187_7)).trans hx187_7
              replace hx187_8 := (HB.out.cell (World.block_lt_of_cell? w _ hx187_8)).trans hx187_8
              replace hx187_9 := (HB.out.cell (World.block_lt_of_cell? w _ hx187_9)).trans hx187_9
              replace hx187_10 := (HB.out.cell (World.block_lt_of_cell? w _ hx187_10)).trans hx187_10
              have HR187_9 := Aside0.mk hi187_9
              have HC187_9 := Aside0.mk hl187_9
              clear hi187_9 hl187_9
              have HR187_10 := Aside0.mk hi187_10
              have HC187_10 := Aside0.mk hl187_10
              clear hi187_10 hl187_10
              replace p187 := eq_true p187
              replace q187 := eq_true q187
              try go_wp2_with (first | ((with_reducible refine gate_callee (f := 37) rfl ?_); refine goesL_ (some 16) rfl rfl Try.func37 (by kernel_rfl) rfl #[.agg #[.int .i64 ((rd_T26 l0 x4_1).f0), .int .u64 ((rd_T26 l0 x4_1).f1), .int .u32 ((rd_T26 l0 x4_1).f2), .int .u32 ((rd_T26 l0 x4_1).f3), .int .i64 ((rd_T26 l0 x4_1).f4), .bool ((rd_T26 l0 x4_1).f5), .int .i64 ((rd_T26 l0 x4_1).f6), .int .i64 ((rd_T26 l0 x4_1).f7), .int .u64 ((rd_T26 l0 x4_1).f8), .slice A187_9 ((rd_T26 l0 x4_1).f9).length c187_9, .slice A187_10 ((rd_T26 l0 x4_1).f10).length c187_10]] rfl (by (try simp only [List.map_toArray, List.map_cons, List.map_nil]); first | done | rfl | (simp only [List.length_drop, List.length_take]; rfl)) ?_; (with_reducible refine (drayageref04_Check.calls k1 ((rd_T26 l0 x4_1).f0) ((rd_T26 l0 x4_1).f1) ((rd_T26 l0 x4_1).f2) ((rd_T26 l0 x4_1).f3) ((rd_T26 l0 x4_1).f4) ((rd_T26 l0 x4_1).f5) ((rd_T26 l0 x4_1).f6) ((rd_T26 l0 x4_1).f7) ((rd_T26 l0 x4_1).f8) _ _ ((rd_T26 l0 x4_1).f9) _ _ ((rd_T26 l0 x4_1).f10) t188 _ ?side1 ?side2 ?side3 ?side4 A4.out).mono ?_); (case side1 => repeat (first | exact (Kd.C_below HR187_9.out HB.out) | (with_reducible refine Kd.C_alloc ?_ _) | (with_reducible refine Kd.C_drewN ?_ _) | (with_reducible refine Kd.C_drew ?_))); (case side2 => exact HC187_9.out); (case side3 => repeat (first | exact (Kd.C_below HR187_10.out HB.out) | (with_reducible refine Kd.C_alloc ?_ _) | (with_reducible refine Kd.C_drewN ?_ _) | (with_reducible refine Kd.C_drew ?_))); (case side4 => exact HC187_10.out); rintro e w18 ⟨rfl, hb⟩; refine ⟨_, rfl, ?_⟩; have n0_ := Aside0.mk (below_step (by repeat (first | (with_reducible first | exact HB.out | apply below_alloc | apply pw_below_drewN | apply below_drew1) | exact HB.out)) hb); clear HB; have HB := n0_; clear n0_; (try clear hb); (try clear hb2); (try clear hk); (try clear hi)))
              have n0_ := Aside0.mk (below_drew1 HB.out)
              clear HB
              have HB := n0_
              clear n0_
              refine start_ (n := 15) (S := fun w' => True) (ds := []) #[false, false, false, false, false, false, false, false, false, false, false, false, false, false, false] (by kernel_rfl) rfl rfl trivial (fun hHeld => ?_); refine with_tabW drayageref04_Row.tab7 drayageref04_Row.bits7 (fun HT_ HW_ => ?_)
              generalize w18.drew = w19 at HB hHeld ⊢
              refine pure_ (i := 0) (N := some 20) (v := ?_) (a' := ?_) #[true, false, false, false, false, false, false, false, false, false, false, false, false, false, false] rfl rfl (any_of HT_.out (by kernel_rfl)) (fun _ _ _ h => h) (Or.inl ⟨by rfl, ?_⟩) ?_ ?_
              rotate_left
              · intro w'
                go_simp
                with_reducible rfl
              rotate_left
              · simp only [Act.put, List.setIfInBounds_toArray, List.set_cons_zero, List.set_cons_succ, i64_w, i32_w]
                rfl
              refine pure_ (i := 1) (N := some 21) (v := ?_) (a' := ?_) #[true, true, false, false, false, false, false, false, false, false, false, false, false, false, false] rfl rfl (any_of HT_.out (by kernel_rfl)) (fun _ _ _ h => h) (Or.inl ⟨by rfl, ?_⟩) ?_ ?_
              rotate_left
              · intro w'
                go_simp
                with_reducible rfl
              rotate_left
              · simp only [Act.put, List.setIfInBounds_toArray, List.set_cons_zero, List.set_cons_succ, i64_w, i32_w]
                rfl
              refine pure_ (i := 2) (N := some 22) (v := ?_) (a' := ?_) #[true, true, true, false, false, false, false, false, false, false, false, false, false, false, false] rfl rfl (any_of HT_.out (by kernel_rfl)) (fun _ _ _ h => h) (Or.inl ⟨by rfl, ?_⟩) ?_ ?_
              rotate_left
              · intro w'
                go_simp
                with_reducible rfl
              rotate_left
              · simp only [Act.put, List.setIfInBounds_toArray, List.set_cons_zero, List.set_cons_succ, i64_w, i32_w]
                rfl
              refine pure_ (i := 3) (N := some 23) (v := undef) (a' := ?_) #[true, true, true, true, false, false, false, false, false, false, false, false, false, false, false] rfl rfl (any_of HT_.out (by kernel_rfl)) (fun _ _ _ h => h) (Or.inr ⟨by rfl, rfl⟩) ?_ ?_
              rotate_left
              · simp only [Act.put, List.setIfInBounds_toArray, List.set_cons_zero, List.set_cons_succ, i64_w, i32_w]
                rfl
              refine pure_ (i := 4) (N := some 24) (v := undef) (a' := ?_) #[true, true, true, true, true, false, false, false, false, false, false, false, false, false, false] rfl rfl (any_of HT_.out (by kernel_rfl)) (fun _ _ _ h => h) (Or.inr ⟨by rfl, rfl⟩) ?_ ?_
              rotate_left
              · simp only [Act.put, List.setIfInBounds_toArray, List.set_cons_zero, List.set_cons_succ, i64_w, i32_w]
                rfl
              refine pure_ (i := 5) (N := some 25) (v := undef) (a' := ?_) #[true, true, true, true, true, true, false, false, false, false, false, false, false, false, false] rfl rfl (any_of HT_.out (by kernel_rfl)) (fun _ _ _ h => h) (Or.inr ⟨by rfl, rfl⟩) ?_ ?_
              rotate_left
              · simp only [Act.put, List.setIfInBounds_toArray, List.set_cons_zero, List.set_cons_succ, i64_w, i32_w]
                rfl
              refine pure_ (i := 6) (N := some 26) (v := undef) (a' := ?_) #[true, true, true, true, true, true, true, false, false, false, false, false, false, false, false] rfl rfl (any_of HT_.out (by kernel_rfl)) (fun _ _ _ h => h) (Or.inr ⟨by rfl, rfl⟩) ?_ ?_
              rotate_left
              · simp only [Act.put, List.setIfInBounds_toArray, List.set_cons_zero, List.set_cons_succ, i64_w, i32_w]
                rfl
              refine pure_ (i := 7) (N := some 27) (v := undef) (a' := ?_) #[true, true, true, true, true, true, true, true, false, false, false, false, false, false, false] rfl rfl (any_of HT_.out (by kernel_rfl)) (fun _ _ _ h => h) (Or.inr ⟨by rfl, rfl⟩) ?_ ?_
              rotate_left
              · simp only [Act.put, List.setIfInBounds_toArray, List.set_cons_zero, List.set_cons_succ, i64_w, i32_w]
                rfl
              refine pure_ (i := 8) (N := some 28) (v := undef) (a' := ?_) #[true, true, true, true, true, true, true, true, true, false, false, false, false, false, false] rfl rfl (any_of HT_.out (by kernel_rfl)) (fun _ _ _ h => h) (Or.inr ⟨by rfl, rfl⟩) ?_ ?_
              rotate_left
              · simp only [Act.put, List.setIfInBounds_toArray, List.set_cons_zero, List.set_cons_succ, i64_w, i32_w]
                rfl
              refine pure_ (i := 9) (N := some 29) (v := undef) (a' := ?_) #[true, true, true, true, true, true, true, true, true, true, false, false, false, false, false] rfl rfl (any_of HT_.out (by kernel_rfl)) (fun _ _ _ h => h) (Or.inr ⟨by rfl, rfl⟩) ?_ ?_
              rotate_left
              · simp only [Act.put, List.setIfInBounds_toArray, List.set_cons_zero, List.set_cons_succ, i64_w, i32_w]
                rfl
              refine pure_ (i := 10) (N := some 30) (v := undef) (a' := ?_) #[true, true, true, true, true, true, true, true, true, true, true, false, false, false, false] rfl rfl (any_of HT_.out (by kernel_rfl)) (fun _ _ _ h => h) (Or.inr ⟨by rfl, rfl⟩) ?_ ?_
              rotate_left
              · simp only [Act.put, List.setIfInBounds_toArray, List.set_cons_zero, List.set_cons_succ, i64_w, i32_w]
                rfl
              refine pure_ (i := 11) (N := some 31) (v := undef) (a' := ?_) #[true, true, true, true, true, true, true, true, true, true, true, true, false, false, false] rfl rfl (any_of HT_.out (by kernel_rfl)) (fun _ _ _ h => h) (Or.inr ⟨by rfl, rfl⟩) ?_ ?_
              rotate_left
              · simp only [Act.put, List.setIfInBounds_toArray, List.set_cons_zero, List.set_cons_succ, i64_w, i32_w]
                rfl
              refine pure_ (i := 12) (N := some 32) (v := undef) (a' := ?_) #[true, true, true, true, true, true, true, true, true, true, true, true, true, false, false] rfl rfl (any_of HT_.out (by kernel_rfl)) (fun _ _ _ h => h) (Or.inr ⟨by rfl, rfl⟩) ?_ ?_
              rotate_left
              · simp only [Act.put, List.setIfInBounds_toArray, List.set_cons_zero, List.set_cons_succ, i64_w, i32_w]
                rfl
              refine pure_ (i := 13) (N := some 33) (v := undef) (a' := ?_) #[true, true, true, true, true, true, true, true, true, true, true, true, true, true, false] rfl rfl (any_of HT_.out (by kernel_rfl)) (fun _ _ _ h => h) (Or.inr ⟨by rfl, rfl⟩) ?_ ?_
              rotate_left
              · simp only [Act.put, List.setIfInBounds_toArray, List.set_cons_zero, List.set_cons_succ, i64_w, i32_w]
                rfl
              refine pure_ (i := 14) (N := some 34) (v := ?_) (a' := ?_) #[true, true, true, true, true, true, true, true, true, true, true, true, true, true, true] rfl rfl (any_of HT_.out (by kernel_rfl)) (fun _ _ _ h => h) (Or.inl ⟨by rfl, ?_⟩) ?_ ?_
              rotate_left
              · intro w'
                go_simp
                with_reducible rfl
              rotate_left
              · simp only [Act.put, List.setIfInBounds_toArray, List.set_cons_zero, List.set_cons_succ, i64_w, i32_w]
                rfl
              refine done_ (done_of HT_.out (by kernel_rfl)) ?_
              try go_wp2
              go_roundg k1
              case measure => have := HK1.out; omega
              case rel => exact ⟨(wrap64 (x4_1 + 1)), (by first | rfl | (simp; done) | (simp [*]; done)), H', ⟨by have := HK1.out; omega⟩, ⟨by repeat (first | (with_reducible first | exact HB.out | apply below_alloc | apply pw_below_drewN | apply below_drew1) | exact HB.out)⟩⟩
          · rw [if_neg c5] at H
            have c5b0 : (t188 == 0) = false := beq_eq_false_iff_ne.mpr c5
            have c5b1 : (t188 != 0) = true := bne_iff_ne.mpr c5
            simp only [Option.some.injEq, Prod.mk.injEq] at H
            obtain ⟨rfl, rfl⟩ := H
            have p187 : 0 ≤ (x4_1 : Int) := of_decide_eq_true (by first | (with_reducible assumption) | assumption)
            have q187 : x4_1 < (l0.length : Int) := of_decide_eq_true (by first | (with_reducible assumption) | assumption)
            obtain ⟨ad187, A187_9, c187_9, A187_10, c187_10, e187, hx187_0, hx187_1, hx187_2, hx187_3, hx187_4, hx187_5, hx187_6, hx187_7, hx187_8, hx187_9, hx187_10, hl187_9, hi187_9, hl187_10, hi187_10⟩ := at_T26 HR0.out x4_1 p187 q187
            cases e187
            replace hx187_0 := (HB.out.cell (World.block_lt_of_cell? w _ hx187_0)).trans hx187_0
            replace hx187_1 := (HB.out.cell (World.block_lt_of_cell? w _ hx187_1)).trans hx187_1
            replace hx187_2 := (HB.out.cell (World.block_lt_of_cell? w _ hx187_2)).trans hx187_2
            replace hx187_3 := (HB.out.cell (World.block_lt_of_cell? w _ hx187_3)).trans hx187_3
            replace hx187_4 := (HB.out.cell (World.block_lt_of_cell? w _ hx187_4)).trans hx187_4
            replace hx187_5 := (HB.out.cell (World.block_lt_of_cell? w _ hx187_5)).trans hx187_5
            replace hx187_6 := (HB.out.cell (World.block_lt_of_cell? w _ hx187_6)).trans hx187_6
            replace hx187_7 := (HB.out.cell (World.block_lt_of_cell? w _ hx187_7)).trans hx187_7
            replace hx187_8 := (HB.out.cell (World.block_lt_of_cell? w _ hx187_8)).trans hx187_8
            replace hx187_9 := (HB.out.cell (World.block_lt_of_cell? w _ hx187_9)).trans hx187_9
            replace hx187_10 := (HB.out.cell (World.block_lt_of_cell? w _ hx187_10)).trans hx187_10
            have HR187_9 := Aside0.mk hi187_9
            have HC187_9 := Aside0.mk hl187_9
            clear hi187_9 hl187_9
            have HR187_10 := Aside0.mk hi187_10
            have HC187_10 := Aside0.mk hl187_10
            clear hi187_10 hl187_10
            replace p187 := eq_true p187
            replace q187 := eq_true q187
            go_wp2_with (first | ((with_reducible refine gate_callee (f := 37) rfl ?_); refine goesL_ (some 16) rfl rfl Try.func37 (by kernel_rfl) rfl #[.agg #[.int .i64 ((rd_T26 l0 x4_1).f0), .int .u64 ((rd_T26 l0 x4_1).f1), .int .u32 ((rd_T26 l0 x4_1).f2), .int .u32 ((rd_T26 l0 x4_1).f3), .int .i64 ((rd_T26 l0 x4_1).f4), .bool ((rd_T26 l0 x4_1).f5), .int .i64 ((rd_T26 l0 x4_1).f6), .int .i64 ((rd_T26 l0 x4_1).f7), .int .u64 ((rd_T26 l0 x4_1).f8), .slice A187_9 ((rd_T26 l0 x4_1).f9).length c187_9, .slice A187_10 ((rd_T26 l0 x4_1).f10).length c187_10]] rfl (by (try simp only [List.map_toArray, List.map_cons, List.map_nil]); first | done | rfl | (simp only [List.length_drop, List.length_take]; rfl)) ?_; (with_reducible refine (drayageref04_Check.calls k1 ((rd_T26 l0 x4_1).f0) ((rd_T26 l0 x4_1).f1) ((rd_T26 l0 x4_1).f2) ((rd_T26 l0 x4_1).f3) ((rd_T26 l0 x4_1).f4) ((rd_T26 l0 x4_1).f5) ((rd_T26 l0 x4_1).f6) ((rd_T26 l0 x4_1).f7) ((rd_T26 l0 x4_1).f8) _ _ ((rd_T26 l0 x4_1).f9) _ _ ((rd_T26 l0 x4_1).f10) t188 _ ?side1 ?side2 ?side3 ?side4 A4.out).mono ?_); (case side1 => repeat (first | exact (Kd.C_below HR187_9.out HB.out) | (with_reducible refine Kd.C_alloc ?_ _) | (with_reducible refine Kd.C_drewN ?_ _) | (with_reducible refine Kd.C_drew ?_))); (case side2 => exact HC187_9.out); (case side3 => repeat (first | exact (Kd.C_below HR187_10.out HB.out) | (with_reducible refine Kd.C_alloc ?_ _) | (with_reducible refine Kd.C_drewN ?_ _) | (with_reducible refine Kd.C_drew ?_))); (case side4 => exact HC187_10.out); rintro e w20 ⟨rfl, hb⟩; refine ⟨_, rfl, ?_⟩; have n0_ := Aside0.mk (below_step (by repeat (first | (with_reducible first | exact HB.out | apply below_alloc | apply pw_below_drewN | apply below_drew1) | exact HB.out)) hb); clear HB; have HB := n0_; clear n0_; (try clear hb); (try clear hb2); (try clear hk); (try clear hi)))
            go_ret2
            exact ⟨by first | rfl | (simp [errW_none, errW_some] <;> rfl) | (simp [*, errW_none, errW_some] <;> rfl), by repeat (first | (with_reducible first | exact HB.out | apply below_alloc | apply pw_below_drewN | apply below_drew1) | exact HB.out)⟩
        · rw [if_neg c3] at H
          exact absurd H (by simp)
      · rw [if_neg c2] at H
        have c2b0 : decide (x4_1 < (l0.length : Int)) = false := decide_eq_false c2
        clear c2
        simp only [Option.some.injEq, Prod.mk.injEq] at H
        obtain ⟨rfl, rfl⟩ := H
        go_wp2
        go_ret2
        exact ⟨by first | rfl | (simp [errW_none, errW_some] <;> rfl) | (simp [*, errW_none, errW_some] <;> rfl), by repeat (first | (with_reducible first | exact HB.out | apply below_alloc | apply pw_below_drewN | apply below_drew1) | exact HB.out)⟩

/-! ### drayagelaw04_EntryRows: function 7 -/
mutual
def drayagelaw04_EntryRows.l0 : Nat → List (S26) → Int → Option (Bool)
  | 0, _, _ => none
  | k + 1, x0, x3 => if x3 < (x0.length : Int) then (drayagelaw04_EntryRows.j1 k x0 x3 (decide (x3 < 2000))) else (drayagelaw04_EntryRows.j1 k x0 x3 false)
def drayagelaw04_EntryRows.j1 : Nat → List (S26) → Int → Bool → Option (Bool)
  | 0, _, _, _ => none
  | k + 1, x0, x3, x15 => if x15 = true then (if 0 ≤ x3 then (if x3 < (x0.length : Int) then ((drayagelaw04_long.f ((rd_T26 x0 x3).f0) ((rd_T26 x0 x3).f1) ((rd_T26 x0 x3).f2) ((rd_T26 x0 x3).f3) ((rd_T26 x0 x3).f4) ((rd_T26 x0 x3).f5) ((rd_T26 x0 x3).f6) ((rd_T26 x0 x3).f7) ((rd_T26 x0 x3).f8) ((rd_T26 x0 x3).f9) ((rd_T26 x0 x3).f10)).bind fun t193 => (if t193 = true then ((drayagelaw04_known.f k).bind fun t194 => (some t194)) else (drayagelaw04_EntryRows.l0 k x0 (wrap64 (x3 + 1))))) else (none)) else (none)) else (if (x0.length : Int) > 1000 then ((drayagelaw04_known.f k).bind fun t195 => (some t195)) else ((entry_Row.f k x0).bind fun bt196 => ((drayageref04_Row.f k x0).bind fun bt198 => (if bt196.1 = bt198.1 then (if bt196.2 = bt198.2 then ((drayagelaw04_known.f k).bind fun t200 => (some t200)) else (none)) else (none)))))
end
def drayagelaw04_EntryRows.f (k : Nat) (l0 : List (S26)) : Option (Bool) := drayagelaw04_EntryRows.l0 k l0 0

set_option maxHeartbeats 8000000 in
set_option maxRecDepth 100000 in
theorem drayagelaw04_EntryRows.calls (k : Nat) (A0 : Option Addr) (c0 : Nat) (l0 : List (S26)) (r : Bool) (w : World) (hr0 : Kd.C k26 w A0 l0.length l0) (hc0 : l0.length ≤ c0) (h : drayagelaw04_EntryRows.f k l0 = some r) :
    Calls Try.prog 7 #[.slice A0 l0.length c0] w fun e w' => e = .returned (.bool r) ∧ Below w.heap.size w w' := by
  have hu26 := Try.underlying26
  have HR0 := Aside0.mk hr0
  have HC0 := Aside0.mk hc0
  clear hr0 hc0
  have HB := Aside0.mk (Below.refl w.heap.size w)
  have H : (drayagelaw04_EntryRows.l0 k l0 0) = some r := h
  clear h
  have H' := Aside0.mk H
  clear H
  go_enter Try.func7, Try.ntmps7
  go_wp2
  go_loopg [3] k (fun kq v3 w' => ∃ (x3_1 : Int), v3 = .int .i64 x3_1 ∧ Aside0 (drayagelaw04_EntryRows.l0 kq l0 x3_1 = some r) ∧ Aside0 (kq ≤ k) ∧ Aside0 (Below w.heap.size w w'))
  case atStart => exact ⟨(0), (by first | rfl | (simp; done) | (simp [*]; done)), H', ⟨Nat.le_refl _⟩, ⟨by repeat (first | (with_reducible first | exact HB.out | apply below_alloc | apply pw_below_drewN | apply below_drew1) | exact HB.out)⟩⟩
  case round =>
    clear H'
    obtain ⟨x3_1, rfl, HA, HK1, HB⟩ := hrel
    cases gk with
    | zero => exact absurd HA.out (by simp [drayagelaw04_EntryRows.l0])
    | succ k1 =>
      have H := HA.out
      clear HA
      simp only [drayagelaw04_EntryRows.l0] at H
      have HC2 := Aside0.mk H
      clear H
      go_upto_region 2 with (fail)
      go_cut [15] (fun v15 wc => ∃ (kq : Nat) (x15_1 : Bool), v15 = .bool x15_1 ∧ Aside0 (drayagelaw04_EntryRows.j1 kq l0 x3_1 x15_1 = some r) ∧ Aside0 (kq ≤ k1) ∧ Aside0 (Below w.heap.size w wc))
      case first =>
        have H := HC2.out
        clear HC2
        by_cases c3 : x3_1 < (l0.length : Int)
        · rw [if_pos c3] at H
          have c3b0 : decide (x3_1 < (l0.length : Int)) = true := decide_eq_true c3
          clear c3
          (first | rw [c3b0] | (simp only [i64_w, i32_w]; rw [c3b0]) | skip)
          have H' := Aside0.mk H
          clear H
          go_wp2
          go_meet
          case rel => exact ⟨_, (decide (x3_1 < 2000)), (by first | rfl | (simp; done) | (simp [*]; done)), H', ⟨by have := HK1.out; first | omega | exact Nat.le_refl _⟩, ⟨by repeat (first | (with_reducible first | exact HB.out | apply below_alloc | apply pw_below_drewN | apply below_drew1) | exact HB.out)⟩⟩
        · rw [if_neg c3] at H
          have c3b0 : decide (x3_1 < (l0.length : Int)) = false := decide_eq_false c3
          clear c3
          (first | rw [c3b0] | (simp only [i64_w, i32_w]; rw [c3b0]) | skip)
          have H' := Aside0.mk H
          clear H
          go_wp2
          go_meet
          case rel => exact ⟨_, (false), (by first | rfl | (simp; done) | (simp [*]; done)), H', ⟨by have := HK1.out; first | omega | exact Nat.le_refl _⟩, ⟨by repeat (first | (with_reducible first | exact HB.out | apply below_alloc | apply pw_below_drewN | apply below_drew1) | exact HB.out)⟩⟩
      case rest =>
        clear HC2
        obtain ⟨kq, x15_1, rfl, HA, HJ1, HB⟩ := hcut
        cases kq with
        | zero => exact absurd HA.out (by simp [drayagelaw04_EntryRows.j1])
        | succ kj1 =>
          have H := HA.out
          clear HA
          simp only [drayagelaw04_EntryRows.j1] at H
          by_cases c4 : x15_1 = true
          · subst c4
            have H1 : (if 0 ≤ x3_1 then (if x3_1 < (l0.length : Int) then ((drayagelaw04_long.f ((rd_T26 l0 x3_1).f0) ((rd_T26 l0 x3_1).f1) ((rd_T26 l0 x3_1).f2) ((rd_T26 l0 x3_1).f3) ((rd_T26 l0 x3_1).f4) ((rd_T26 l0 x3_1).f5) ((rd_T26 l0 x3_1).f6) ((rd_T26 l0 x3_1).f7) ((rd_T26 l0 x3_1).f8) ((rd_T26 l0 x3_1).f9) ((rd_T26 l0 x3_1).f10)).bind fun t193 => (if t193 = true then ((drayagelaw04_known.f kj1).bind fun t194 => (some t194)) else (drayagelaw04_EntryRows.l0 kj1 l0 (wrap64 (x3_1 + 1))))) else (none)) else (none)) = some r := by rw [if_pos rfl] at H; exact H
            clear H
            have H := H1
            clear H1
            by_cases c5 : 0 ≤ x3_1
            · rw [if_pos c5] at H
              have c5b0 : decide (0 ≤ x3_1) = true := decide_eq_true c5
              clear c5
              by_cases c6 : x3_1 < (l0.length : Int)
              · rw [if_pos c6] at H
                have c6b0 : decide (x3_1 < (l0.length : Int)) = true := decide_eq_true c6
                clear c6
                replace H := Option.bind_eq_some_iff.mp H
                obtain ⟨t193, A70, H⟩ := H
                replace H : (if t193 = true then ((drayagelaw04_known.f kj1).bind fun t194 => (some t194)) else (drayagelaw04_EntryRows.l0 kj1 l0 (wrap64 (x3_1 + 1)))) = some r := H
                have A7 := Aside0.mk A70
                clear A70
                by_cases c8 : t193 = true
                · subst c8
                  have H1 : ((drayagelaw04_known.f kj1).bind fun t194 => (some t194)) = some r := by rw [if_pos rfl] at H; exact H
                  clear H
                  have H := H1
                  clear H1
                  replace H := Option.bind_eq_some_iff.mp H
                  obtain ⟨t194, A90, H⟩ := H
                  replace H : (some t194) = some r := H
                  have A9 := Aside0.mk A90
                  clear A90
                  obtain rfl := Option.some.inj H
                  have p192 : 0 ≤ (x3_1 : Int) := of_decide_eq_true (by first | (with_reducible assumption) | assumption)
                  have q192 : x3_1 < (l0.length : Int) := of_decide_eq_true (by first | (with_reducible assumption) | assumption)
                  obtain ⟨ad192, A192_9, c192_9, A192_10, c192_10, e192, hx192_0, hx192_1, hx192_2, hx192_3, hx192_4, hx192_5, hx192_6, hx192_7, hx192_8, hx192_9, hx192_10, hl192_9, hi192_9, hl192_10, hi192_10⟩ := at_T26 HR0.out x3_1 p192 q192
                  cases e192
                  replace hx192_0 := (HB.out.cell (World.block_lt_of_cell? w _ hx192_0)).trans hx192_0
                  replace hx192_1 := (HB.out.cell (World.block_lt_of_cell? w _ hx192_1)).trans hx192_1
                  replace hx192_2 := (HB.out.cell (World.block_lt_of_cell? w _ hx192_2)).trans hx192_2
                  replace hx192_3 := (HB.out.cell (World.block_lt_of_cell? w _ hx192_3)).trans hx192_3
                  replace hx192_4 := (HB.out.cell (World.block_lt_of_cell? w _ hx192_4)).trans hx192_4
                  replace hx192_5 := (HB.out.cell (World.block_lt_of_cell? w _ hx192_5)).trans hx192_5
                  replace hx192_6 := (HB.out.cell (World.block_lt_of_cell? w _ hx192_6)).trans hx192_6
                  replace hx192_7 := (HB.out.cell (World.block_lt_of_cell? w _ hx192_7)).trans hx192_7
                  replace hx192_8 := (HB.out.cell (World.block_lt_of_cell? w _ hx192_8)).trans hx192_8
                  replace hx192_9 := (HB.out.cell (World.block_lt_of_cell? w _ hx192_9)).trans hx192_9
                  replace hx192_10 := (HB.out.cell (World.block_lt_of_cell? w _ hx192_10)).trans hx192_10
                  have HR192_9 := Aside0.mk hi192_9
                  have HC192_9 := Aside0.mk hl192_9
                  clear hi192_9 hl192_9
                  have HR192_10 := Aside0.mk hi192_10
                  have HC192_10 := Aside0.mk hl192_10
                  clear hi192_10 hl192_10
                  replace p192 := eq_true p192
                  replace q192 := eq_true q192
                  go_wp2_with (first | ((with_reducible refine gate_callee (f := 11) rfl ?_); refine goesL_ (some 22) rfl rfl Try.func11 (by kernel_rfl) rfl #[.agg #[.int .i64 ((rd_T26 l0 x3_1).f0), .int .u64 ((rd_T26 l0 x3_1).f1), .int .u32 ((rd_T26 l0 x3_1).f2), .int .u32 ((rd_T26 l0 x3_1).f3), .int .i64 ((rd_T26 l0 x3_1).f4), .bool ((rd_T26 l0 x3_1).f5), .int .i64 ((rd_T26 l0 x3_1).f6), .int .i64 ((rd_T26 l0 x3_1).f7), .int .u64 ((rd_T26 l0 x3_1).f8), .slice A192_9 ((rd_T26 l0 x3_1).f9).length c192_9, .slice A192_10 ((rd_T26 l0 x3_1).f10).length c192_10]] rfl (by (try simp only [List.map_toArray, List.map_cons, List.map_nil]); first | done | rfl | (simp only [List.length_drop, List.length_take]; rfl)) ?_; (with_reducible refine (drayagelaw04_long.calls ((rd_T26 l0 x3_1).f0) ((rd_T26 l0 x3_1).f1) ((rd_T26 l0 x3_1).f2) ((rd_T26 l0 x3_1).f3) ((rd_T26 l0 x3_1).f4) ((rd_T26 l0 x3_1).f5) ((rd_T26 l0 x3_1).f6) ((rd_T26 l0 x3_1).f7) ((rd_T26 l0 x3_1).f8) _ _ ((rd_T26 l0 x3_1).f9) _ _ ((rd_T26 l0 x3_1).f10) true _ ?side1 ?side2 ?side3 ?side4 A7.out).mono ?_); (case side1 => repeat (first | exact (Kd.C_below HR192_9.out HB.out) | (with_reducible refine Kd.C_alloc ?_ _) | (with_reducible refine Kd.C_drewN ?_ _) | (with_reducible refine Kd.C_drew ?_))); (case side2 => exact HC192_9.out); (case side3 => repeat (first | exact (Kd.C_below HR192_10.out HB.out) | (with_reducible refine Kd.C_alloc ?_ _) | (with_reducible refine Kd.C_drewN ?_ _) | (with_reducible refine Kd.C_drew ?_))); (case side4 => exact HC192_10.out); rintro e w10 ⟨rfl, hb⟩; refine ⟨_, rfl, ?_⟩; have n0_ := Aside0.mk (below_step (by repeat (first | (with_reducible first | exact HB.out | apply below_alloc | apply pw_below_drewN | apply below_drew1) | exact HB.out)) hb); clear HB; have HB := n0_; clear n0_; (try clear hb); (try clear hb2); (try clear hk); (try clear hi)) | ((with_reducible refine gate_callee (f := 12) rfl ?_); refine goesL_ (some 23) rfl rfl Try.func12 (by kernel_rfl) rfl #[] rfl (by (try simp only [List.map_toArray, List.map_cons, List.map_nil]); first | done | rfl | (simp only [List.length_drop, List.length_take]; rfl)) ?_; (with_reducible refine (drayagelaw04_known.calls kj1  t194 _ A9.out).mono ?_); rintro e w11 ⟨rfl, hb⟩; refine ⟨_, rfl, ?_⟩; have n0_ := Aside0.mk (below_step (by repeat (first | (with_reducible first | exact HB.out | apply below_alloc | apply pw_below_drewN | apply below_drew1) | exact HB.out)) hb); clear HB; have HB := n0_; clear n0_; (try clear hb); (try clear hb2); (try clear hk); (try clear hi)))
                  go_ret
                  exact ⟨by first | rfl | (simp [errW_none, errW_some] <;> rfl) | (simp [*, errW_none, errW_some] <;> rfl), by repeat (first | (with_reducible first | exact HB.out | apply below_alloc | apply pw_below_drewN | apply below_drew1) | exact HB.out)⟩
                · replace c8 := Bool.eq_false_iff.mpr c8
                  subst c8
                  have H1 : (drayagelaw04_EntryRows.l0 kj1 l0 (wrap64 (x3_1 + 1))) = some r := by rw [if_neg (show ¬ (false = true) by decide)] at H; exact H
                  clear H
                  have H := H1
                  clear H1
                  have H' := Aside0.mk H
                  clear H
                  have p192 : 0 ≤ (x3_1 : Int) := of_decide_eq_true (by first | (with_reducible assumption) | assumption)
                  have q192 : x3_1 < (l0.length : Int) := of_decide_eq_true (by first | (with_reducible assumption) | assumption)
                  obtain ⟨ad192, A192_9, c192_9, A192_10, c192_10, e192, hx192_0, hx192_1, hx192_2, hx192_3, hx192_4, hx192_5, hx192_6, hx192_7, hx192_8, hx192_9, hx192_10, hl192_9, hi192_9, hl192_10, hi192_10⟩ := at_T26 HR0.out x3_1 p192 q192
                  cases e192
                  replace hx192_0 := (HB.out.cell (World.block_lt_of_cell? w _ hx192_0)).trans hx192_0
                  replace hx192_1 := (HB.out.cell (World.block_lt_of_cell? w _ hx192_1)).trans hx192_1
                  replace hx192_2 := (HB.out.cell (World.block_lt_of_cell? w _ hx192_2)).trans hx192_2
                  replace hx192_3 := (HB.out.cell (World.block_lt_of_cell? w _ hx192_3)).trans hx192_3
                  replace hx192_4 := (HB.out.cell (World.block_lt_of_cell? w _ hx192_4)).trans hx192_4
                  replace hx192_5 := (HB.out.cell (World.block_lt_of_cell? w _ hx192_5)).trans hx192_5
                  replace hx192_6 := (HB.out.cell (World.block_lt_of_cell? w _ hx192_6)).trans hx192_6
                  replace hx192_7 := (HB.out.cell (World.block_lt_of_cell? w _ hx192_7)).trans hx192_7
                  replace hx192_8 := (HB.out.cell (World.block_lt_of_cell? w _ hx192_8)).trans hx192_8
                  replace hx192_9 := (HB.out.cell (World.block_lt_of_cell? w _ hx192_9)).trans hx192_9
                  replace hx192_10 := (HB.out.cell (World.block_lt_of_cell? w _ hx192_10)).trans hx192_10
                  have HR192_9 := Aside0.mk hi192_9
                  have HC192_9 := Aside0.mk hl192_9
                  clear hi192_9 hl192_9
                  have HR192_10 := Aside0.mk hi192_10
                  have HC192_10 := Aside0.mk hl192_10
                  clear hi192_10 hl192_10
                  replace p192 := eq_true p192
                  replace q192 := eq_true q192
                  go_wp2_with (first | ((with_reducible refine gate_callee (f := 11) rfl ?_); refine goesL_ (some 22) rfl rfl Try.func11 (by kernel_rfl) rfl #[.agg #[.int .i64 ((rd_T26 l0 x3_1).f0), .int .u64 ((rd_T26 l0 x3_1).f1), .int .u32 ((rd_T26 l0 x3_1).f2), .int .u32 ((rd_T26 l0 x3_1).f3), .int .i64 ((rd_T26 l0 x3_1).f4), .bool ((rd_T26 l0 x3_1).f5), .int .i64 ((rd_T26 l0 x3_1).f6), .int .i64 ((rd_T26 l0 x3_1).f7), .int .u64 ((rd_T26 l0 x3_1).f8), .slice A192_9 ((rd_T26 l0 x3_1).f9).length c192_9, .slice A192_10 ((rd_T26 l0 x3_1).f10).length c192_10]] rfl (by (try simp only [List.map_toArray, List.map_cons, List.map_nil]); first | done | rfl | (simp only [List.length_drop, List.length_take]; rfl)) ?_; (with_reducible refine (drayagelaw04_long.calls ((rd_T26 l0 x3_1).f0) ((rd_T26 l0 x3_1).f1) ((rd_T26 l0 x3_1).f2) ((rd_T26 l0 x3_1).f3) ((rd_T26 l0 x3_1).f4) ((rd_T26 l0 x3_1).f5) ((rd_T26 l0 x3_1).f6) ((rd_T26 l0 x3_1).f7) ((rd_T26 l0 x3_1).f8) _ _ ((rd_T26 l0 x3_1).f9) _ _ ((rd_T26 l0 x3_1).f10) false _ ?side1 ?side2 ?side3 ?side4 A7.out).mono ?_); (case side1 => repeat (first | exact (Kd.C_below HR192_9.out HB.out) | (with_reducible refine Kd.C_alloc ?_ _) | (with_reducible refine Kd.C_drewN ?_ _) | (with_reducible refine Kd.C_drew ?_))); (case side2 => exact HC192_9.out); (case side3 => repeat (first | exact (Kd.C_below HR192_10.out HB.out) | (with_reducible refine Kd.C_alloc ?_ _) | (with_reducible refine Kd.C_drewN ?_ _) | (with_reducible refine Kd.C_drew ?_))); (case side4 => exact HC192_10.out); rintro e w12 ⟨rfl, hb⟩; refine ⟨_, rfl, ?_⟩; have n0_ := Aside0.mk (below_step (by repeat (first | (with_reducible first | exact HB.out | apply below_alloc | apply pw_below_drewN | apply below_drew1) | exact HB.out)) hb); clear HB; have HB := n0_; clear n0_; (try clear hb); (try clear hb2); (try clear hk); (try clear hi)))
                  go_roundg kj1
                  case measure => have := HK1.out; have := HJ1.out; omega
                  case rel => exact ⟨(wrap64 (x3_1 + 1)), (by first | rfl | (simp; done) | (simp [*]; done)), H', ⟨by have := HK1.out; have := HJ1.out; omega⟩, ⟨by repeat (first | (with_reducible first | exact HB.out | apply below_alloc | apply pw_below_drewN | apply below_drew1) | exact HB.out)⟩⟩
              · rw [if_neg c6] at H
                exact absurd H (by simp)
            · rw [if_neg c5] at H
              exact absurd H (by simp)
          · replace c4 := Bool.eq_false_iff.mpr c4
            subst c4
            have H1 : (if (l0.length : Int) > 1000 then ((drayagelaw04_known.f kj1).bind fun t195 => (some t195)) else ((entry_Row.f kj1 l0).bind fun bt196 => ((drayageref04_Row.f kj1 l0).bind fun bt198 => (if bt196.1 = bt198.1 then (if bt196.2 = bt198.2 then ((drayagelaw04_known.f kj1).bind fun t200 => (some t200)) else (none)) else (none))))) = some r := by rw [if_neg (show ¬ (false = true) by decide)] at H; exact H
            clear H
            have H := H1
            clear H1
            by_cases c13 : (l0.length : Int) > 1000
            · rw [if_pos c13] at H
              have c13b0 : decide (1000 < (l0.length : Int)) = true := decide_eq_true c13
              have c13b1 : decide (1000 < l0.length) = true := decide_eq_true (by omega)
              clear c13
              replace H := Option.bind_eq_some_iff.mp H
              obtain ⟨t195, A140, H⟩ := H
              replace H : (some t195) = some r := H
              have A14 := Aside0.mk A140
              clear A140
              obtain rfl := Option.some.inj H
              go_wp2_with (first | ((with_reducible refine gate_callee (f := 12) rfl ?_); refine goesL_ (some 27) rfl rfl Try.func12 (by kernel_rfl) rfl #[] rfl (by (try simp only [List.map_toArray, List.map_cons, List.map_nil]); first | done | rfl | (simp only [List.length_drop, List.length_take]; rfl)) ?_; (with_reducible refine (drayagelaw04_known.calls kj1  t195 _ A14.out).mono ?_); rintro e w15 ⟨rfl, hb⟩; refine ⟨_, rfl, ?_⟩; have n0_ := Aside0.mk (below_step (by repeat (first | (with_reducible first | exact HB.out | apply below_alloc | apply pw_below_drewN | apply below_drew1) | exact HB.out)) hb); clear HB; have HB := n0_; clear n0_; (try clear hb); (try clear hb2); (try clear hk); (try clear hi)))
              go_ret
              exact ⟨by first | rfl | (simp [errW_none, errW_some] <;> rfl) | (simp [*, errW_none, errW_some] <;> rfl), by repeat (first | (with_reducible first | exact HB.out | apply below_alloc | apply pw_below_drewN | apply below_drew1) | exact HB.out)⟩
            · rw [if_neg c13] at H
              have c13b0 : decide (1000 < (l0.length : Int)) = false := decide_eq_false c13
              have c13b1 : decide (1000 < l0.length) = false := decide_eq_false (by omega)
              clear c13
              replace H := Option.bind_eq_some_iff.mp H
              obtain ⟨⟨t196, t197⟩, A160, H⟩ := H
              replace H : ((drayageref04_Row.f kj1 l0).bind fun bt198 => (if t196 = bt198.1 then (if t197 = bt198.2 then ((drayagelaw04_known.f kj1).bind fun t200 => (some t200)) else (none)) else (none))) = some r := H
              have A16 := Aside0.mk A160
              clear A160
              replace H := Option.bind_eq_some_iff.mp H
              obtain ⟨⟨t198, t199⟩, A170, H⟩ := H
              replace H : (if t196 = t198 then (if t197 = t199 then ((drayagelaw04_known.f kj1).bind fun t200 => (some t200)) else (none)) else (none)) = some r := H
              have A17 := Aside0.mk A170
              clear A170
              by_cases c18 : t196 = t198
              · rw [if_pos c18] at H
                have c18b0 : (t196 == t198) = true := beq_iff_eq.mpr c18
                have c18b1 : (t196 != t198) = false := bne_eq_false_iff_eq.mpr c18
                clear c18
                by_cases c19 : t197 = t199
                · rw [if_pos c19] at H
                  have c19b0 : (t197 == t199) = true := beq_iff_eq.mpr c19
                  have c19b1 : (t197 != t199) = false := bne_eq_false_iff_eq.mpr c19
                  clear c19
                  replace H := Option.bind_eq_some_iff.mp H
                  obtain ⟨t200, A200, H⟩ := H
                  replace H : (some t200) = some r := H
                  have A20 := Aside0.mk A200
                  clear A200
                  obtain rfl := Option.some.inj H
                  go_wp2_with (first | ((with_reducible refine gate_callee (f := 26) rfl ?_); refine goesL_ (some 30) rfl rfl Try.func26 (by kernel_rfl) rfl #[.slice A0 l0.length c0] rfl (by (try simp only [List.map_toArray, List.map_cons, List.map_nil]); first | done | rfl | (simp only [List.length_drop, List.length_take]; rfl)) ?_; (with_reducible refine (entry_Row.calls kj1 _ _ l0 t196 t197 _ ?side1 ?side2 A16.out).mono ?_); (case side1 => repeat (first | exact (Kd.C_below HR0.out HB.out) | (with_reducible refine Kd.C_alloc ?_ _) | (with_reducible refine Kd.C_drewN ?_ _) | (with_reducible refine Kd.C_drew ?_))); (case side2 => exact HC0.out); rintro e w21 ⟨rfl, hb⟩; refine ⟨_, rfl, ?_⟩; have n0_ := Aside0.mk (below_step (by repeat (first | (with_reducible first | exact HB.out | apply below_alloc | apply pw_below_drewN | apply below_drew1) | exact HB.out)) hb); clear HB; have HB := n0_; clear n0_; (try clear hb); (try clear hb2); (try clear hk); (try clear hi)) | ((with_reducible refine gate_callee (f := 27) rfl ?_); refine goesL_ (some 35) rfl rfl Try.func27 (by kernel_rfl) rfl #[.slice A0 l0.length c0] rfl (by (try simp only [List.map_toArray, List.map_cons, List.map_nil]); first | done | rfl | (simp only [List.length_drop, List.length_take]; rfl)) ?_; (with_reducible refine (drayageref04_Row.calls kj1 _ _ l0 t198 t199 _ ?side1 ?side2 A17.out).mono ?_); (case side1 => repeat (first | exact (Kd.C_below HR0.out HB.out) | (with_reducible refine Kd.C_alloc ?_ _) | (with_reducible refine Kd.C_drewN ?_ _) | (with_reducible refine Kd.C_drew ?_))); (case side2 => exact HC0.out); rintro e w22 ⟨rfl, hb⟩; refine ⟨_, rfl, ?_⟩; have n0_ := Aside0.mk (below_step (by repeat (first | (with_reducible first | exact HB.out | apply below_alloc | apply pw_below_drewN | apply below_drew1) | exact HB.out)) hb); clear HB; have HB := n0_; clear n0_; (try clear hb); (try clear hb2); (try clear hk); (try clear hi)) | (go_at_call 12; (with_reducible refine (drayagelaw04_known.calls kj1  t200 _ A20.out).mono ?_); rintro e w23 ⟨rfl, hb⟩; have n0_ := Aside0.mk (below_step (by repeat (first | (with_reducible first | exact HB.out | apply below_alloc | apply pw_below_drewN | apply below_drew1) | exact HB.out)) hb); clear HB; have HB := n0_; clear n0_; (try clear hb); (try clear hb2); (try clear hk); (try clear hi)))
                  go_ret
                  exact ⟨by first | rfl | (simp [errW_none, errW_some] <;> rfl) | (simp [*, errW_none, errW_some] <;> rfl), by repeat (first | (with_reducible first | exact HB.out | apply below_alloc | apply pw_below_drewN | apply below_drew1) | exact HB.out)⟩
                · rw [if_neg c19] at H
                  exact absurd H (by simp)
              · rw [if_neg c18] at H
                exact absurd H (by simp)

end Go.Proofs.Ytahldljkhjebgaa.PA
