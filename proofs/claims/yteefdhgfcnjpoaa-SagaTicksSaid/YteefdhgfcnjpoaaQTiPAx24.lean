-- printed by a program of this work (wip/tools/pr.py over the kit's print): the machine's side of SagaOrder, SagaTicks, SagaCancels
import Derived.Test.YteefdhgfcnjpoaaQTiPAx23
import Derived.Test.YteefdhgfcnjpoaaQTiPAx0
import Derived.Test.YteefdhgfcnjpoaaQTiPAx3
import Derived.Test.YteefdhgfcnjpoaaQTiPAx5
import Derived.Test.YteefdhgfcnjpoaaQTiPAx8
import Derived.Test.YteefdhgfcnjpoaaQTiPAx9
import Derived.Test.YteefdhgfcnjpoaaQTiPAx13
import Derived.Test.YteefdhgfcnjpoaaQTiPAx16
import Derived.Test.YteefdhgfcnjpoaaQTiPAx1
import Derived.Test.YteefdhgfcnjpoaaQTiPAx2
namespace Go.Proofs.Yteefdhgfcnjpoaa.PA
open Go.RowKit Go.Proofs.YteefdhgfcnjpoaaW.PrintWords Go.Proofs.YteefdhgfcnjpoaaW.PrintLast Go.Proofs.YteefdhgfcnjpoaaW.PrintMore
attribute [local go_sem] max2_int min2_int max_two min_two max_three min_three max_four min_four   -- for this text's walks alone
set_option linter.unusedVariables false
set_option linter.unusedSimpArgs false

attribute [local go_sem high] eqA28
set_option maxHeartbeats 8000000 in
set_option maxRecDepth 100000 in
theorem drayagelaw14_SagaTicks.calls (k : Nat) (A0 : Option Addr) (c0 : Nat) (l0 : List (S38)) (A1 : Option Addr) (c1 : Nat) (l1 : List (S54)) (a2 : Int) (r : Bool) (w : World) (hr0 : Kd.C k38 w A0 l0.length l0) (hc0 : l0.length ≤ c0) (hr1 : Kd.C k54 w A1 l1.length l1) (hc1 : l1.length ≤ c1) (h : drayagelaw14_SagaTicks.f k l0 l1 a2 = some r) :
  Calls Try.prog 8 #[.slice A0 l0.length c0, .slice A1 l1.length c1, .int .i64 a2] w fun e w' => e = .returned (.bool r) ∧ Below w.heap.size w w' := by
 have hu28 := Try.underlying28
 have hu54 := Try.underlying54
 have HR0 := Aside0.mk hr0
 have HC0 := Aside0.mk hc0
 clear hr0 hc0
 have HR1 := Aside0.mk hr1
 have HC1 := Aside0.mk hc1
 clear hr1 hc1
 have HB := Aside0.mk (Below.refl w.heap.size w)
 have H : ((drayagelaw14_long.f k l0).bind fun t410 => (if t410 = true then (drayagelaw14_SagaTicks.j0 k l0 l1 a2 true) else ((drayageref13_Check.f k l0).bind fun t411 => (drayagelaw14_SagaTicks.j0 k l0 l1 a2 (t411 != 0))))) = some r := h
 clear h
 have HC4 := Aside0.mk H
 clear H
 go_enter Try.func8, Try.ntmps8
 go_upto_region 1 with (fail)
 go_cut [29] (fun v29 wc => ∃ (kq : Nat) (x29_3 : Bool), v29 = .bool x29_3 ∧ Aside0 (drayagelaw14_SagaTicks.j0 kq l0 l1 a2 x29_3 = some r) ∧ Aside0 (kq ≤ k) ∧ Aside0 (Below w.heap.size w wc))
 case first =>
  have H := HC4.out
  clear HC4
  replace H := Option.bind_eq_some_iff.mp H
  obtain ⟨t410, A50, H⟩ := H
  replace H : (if t410 = true then (drayagelaw14_SagaTicks.j0 k l0 l1 a2 true) else ((drayageref13_Check.f k l0).bind fun t411 => (drayagelaw14_SagaTicks.j0 k l0 l1 a2 (t411 != 0)))) = some r := H
  have A5 := Aside0.mk A50
  clear A50
  by_cases c6 : t410 = true
  ·
   subst c6
   have H1 : (drayagelaw14_SagaTicks.j0 k l0 l1 a2 true) = some r := by rw [if_pos rfl] at H; exact H
   clear H
   have H := H1
   clear H1
   have H' := Aside0.mk H
   clear H
   go_wp2_with (first | ((with_reducible refine gate_callee (f := 10) rfl ?_); refine goesL_ (some 24) rfl rfl Try.func10 (by kernel_rfl) rfl #[.slice A0 l0.length c0] rfl (by (try simp only [List.map_toArray, List.map_cons, List.map_nil]); first | done | rfl | (simp only [List.length_drop, List.length_take]; rfl)) ?_; (with_reducible refine (drayagelaw14_long.calls k _ _ l0 true _ ?side1 ?side2 A5.out).mono ?_); (case side1 => repeat (first | exact (Kd.C_below HR0.out HB.out) | (with_reducible refine Kd.C_alloc ?_ _) | (with_reducible refine Kd.C_drewN ?_ _) | (with_reducible refine Kd.C_drew ?_))); (case side2 => exact HC0.out); rintro e w' ⟨rfl, ⟨nd, rfl⟩⟩; refine ⟨_, rfl, ?_⟩))
   go_meet
   case rel => exact ⟨_, (true), (by first | rfl | (simp; done) | (simp [*]; done)), H', ⟨by first | omega | exact Nat.le_refl _⟩, ⟨by repeat (first | (with_reducible first | exact HB.out | apply below_alloc | apply pw_below_drewN | apply below_drew1) | exact HB.out)⟩⟩
  ·
   replace c6 := Bool.eq_false_iff.mpr c6
   subst c6
   have H1 : ((drayageref13_Check.f k l0).bind fun t411 => (drayagelaw14_SagaTicks.j0 k l0 l1 a2 (t411 != 0))) = some r := by rw [if_neg (show ¬ (false = true) by decide)] at H; exact H
   clear H
   have H := H1
   clear H1
   replace H := Option.bind_eq_some_iff.mp H
   obtain ⟨t411, A70, H⟩ := H
   replace H : (drayagelaw14_SagaTicks.j0 k l0 l1 a2 (t411 != 0)) = some r := H
   have A7 := Aside0.mk A70
   clear A70
   have H' := Aside0.mk H
   clear H
   go_wp2_with (first | ((with_reducible refine gate_callee (f := 10) rfl ?_); refine goesL_ (some 24) rfl rfl Try.func10 (by kernel_rfl) rfl #[.slice A0 l0.length c0] rfl (by (try simp only [List.map_toArray, List.map_cons, List.map_nil]); first | done | rfl | (simp only [List.length_drop, List.length_take]; rfl)) ?_; (with_reducible refine (drayagelaw14_long.calls k _ _ l0 false _ ?side1 ?side2 A5.out).mono ?_); (case side1 => repeat (first | exact (Kd.C_below HR0.out HB.out) | (with_reducible refine Kd.C_alloc ?_ _) | (with_reducible refine Kd.C_drewN ?_ _) | (with_reducible refine Kd.C_drew ?_))); (case side2 => exact HC0.out); rintro e w' ⟨rfl, ⟨nd, rfl⟩⟩; refine ⟨_, rfl, ?_⟩) | (go_at_call 11; (with_reducible refine (drayageref13_Check.calls k _ _ l0 t411 _ ?side1 ?side2 A7.out).mono ?_); (case side1 => repeat (first | exact (Kd.C_below HR0.out (by repeat (first | (with_reducible first | exact HB.out | apply below_alloc | apply pw_below_drewN | apply below_drew1) | exact HB.out))) | (with_reducible refine Kd.C_alloc ?_ _) | (with_reducible refine Kd.C_drewN ?_ _) | (with_reducible refine Kd.C_drew ?_))); (case side2 => exact HC0.out); rintro e w8 ⟨rfl, hb⟩; have n0_ := Aside0.mk (below_step (by repeat (first | (with_reducible first | exact HB.out | apply below_alloc | apply pw_below_drewN | apply below_drew1) | exact HB.out)) hb); clear HB; have HB := n0_; clear n0_; (try clear hb); (try clear hb2); (try clear hk); (try clear hi)))
   go_meet
   case rel => exact ⟨_, ((t411 != 0)), (by first | rfl | (simp; done) | (simp [*]; done)), H', ⟨by first | omega | exact Nat.le_refl _⟩, ⟨by repeat (first | (with_reducible first | exact HB.out | apply below_alloc | apply pw_below_drewN | apply below_drew1) | exact HB.out)⟩⟩
 case rest =>
  clear HC4
  try clear c1
  try clear p2
  try clear c6
  try clear c8
  obtain ⟨kq, x29_3, rfl, HA, HJ3, HB⟩ := hcut
  cases kq with
  | zero => exact absurd HA.out (by simp [drayagelaw14_SagaTicks.j0])
  | succ kj3 =>
   have H := HA.out
   clear HA
   simp only [drayagelaw14_SagaTicks.j0] at H
   by_cases c9 : x29_3 = true
   ·
    subst c9
    have H1 : ((drayagelaw14_known.f kj3).bind fun t412 => (some t412)) = some r := by rw [if_pos rfl] at H; exact H
    clear H
    have H := H1
    clear H1
    replace H := Option.bind_eq_some_iff.mp H
    obtain ⟨t412, A100, H⟩ := H
    replace H : (some t412) = some r := H
    have A10 := Aside0.mk A100
    clear A100
    obtain rfl := Option.some.inj H
    go_wp2_with (first | ((with_reducible refine gate_callee (f := 12) rfl ?_); refine goesL_ (some 30) rfl rfl Try.func12 (by kernel_rfl) rfl #[] rfl (by (try simp only [List.map_toArray, List.map_cons, List.map_nil]); first | done | rfl | (simp only [List.length_drop, List.length_take]; rfl)) ?_; (with_reducible refine (drayagelaw14_known.calls kj3  t412 _ A10.out).mono ?_); rintro e w11 ⟨rfl, hb⟩; refine ⟨_, rfl, ?_⟩; have n0_ := Aside0.mk (below_step (by repeat (first | (with_reducible first | exact HB.out | apply below_alloc | apply pw_below_drewN | apply below_drew1) | exact HB.out)) hb); clear HB; have HB := n0_; clear n0_; (try clear hb); (try clear hb2); (try clear hk); (try clear hi)))
    go_ret
    exact ⟨by first | rfl | (simp [errW_none, errW_some] <;> rfl) | (simp [*, errW_none, errW_some] <;> rfl), by repeat (first | (with_reducible first | exact HB.out | apply below_alloc | apply pw_below_drewN | apply below_drew1) | exact HB.out)⟩
   ·
    replace c9 := Bool.eq_false_iff.mpr c9
    subst c9
    have H1 : ((saga_Start.f).bind fun bt413 => (drayagelaw14_SagaTicks.l0 kj3 l0 l1 a2 0 bt413.1 bt413.2.1 bt413.2.2.1 bt413.2.2.2.1 bt413.2.2.2.2.1 bt413.2.2.2.2.2.1 bt413.2.2.2.2.2.2)) = some r := by rw [if_neg (show ¬ (false = true) by decide)] at H; exact H
    clear H
    have H := H1
    clear H1
    replace H := Option.bind_eq_some_iff.mp H
    obtain ⟨⟨t413, t414, t415, t416, t417, t418, t419⟩, A120, H⟩ := H
    replace H : (drayagelaw14_SagaTicks.l0 kj3 l0 l1 a2 0 t413 t414 t415 t416 t417 t418 t419) = some r := H
    have A12 := Aside0.mk A120
    clear A120
    have H' := Aside0.mk H
    clear H
    go_wp2_with (first | ((with_reducible refine gate_callee (f := 13) rfl ?_); refine goesL_ (some 31) rfl rfl Try.func13 (by kernel_rfl) rfl #[] rfl (by (try simp only [List.map_toArray, List.map_cons, List.map_nil]); first | done | rfl | (simp only [List.length_drop, List.length_take]; rfl)) ?_; (with_reducible refine (saga_Start.calls  t413 t414 t415 t416 t417 t418 t419 _ A12.out).mono ?_); rintro e w13 ⟨rfl, hb⟩; refine ⟨_, rfl, ?_⟩; have n0_ := Aside0.mk (below_step (by repeat (first | (with_reducible first | exact HB.out | apply below_alloc | apply pw_below_drewN | apply below_drew1) | exact HB.out)) hb); clear HB; have HB := n0_; clear n0_; (try clear hb); (try clear hb2); (try clear hk); (try clear hi)) | ((with_reducible refine gate_dst (N := 7) rfl ?_); refine box_event ?hg (N := 7) ?hd (cs := #[.int .i64 0, .int .i64 0, .int .i64 0, .bool false, .int .i64 0, .bool false, .int .i64 0]) (t := 28) ?hr ?_; (case hd => rfl); (case hg => rfl); (case hr => first | (go_simp; done) | (go_simp; rfl)); intro gb420 hg w14 hbox hb; have n0_ := Aside0.mk (below_step (by repeat (first | (with_reducible first | exact HB.out | apply below_alloc | apply pw_below_drewN | apply below_drew1) | exact HB.out)) hb); have n1_ := Aside0.mk (hbox); have n2_ := Aside0.mk ((by rw [hg]; exact (below_size (by repeat (first | (with_reducible first | exact HB.out | apply below_alloc | apply pw_below_drewN | apply below_drew1) | exact HB.out))) : w.heap.size ≤ gb420)); have n3_ := Aside0.mk ((by rw [hg]; exact (below_size (by repeat (first | (with_reducible first | exact HB.out | apply below_alloc | apply pw_below_drewN | apply below_drew1) | exact HB.out))) : w.heap.size ≤ gb420)); clear HB; have HB := n0_; have BK420 := n1_; have GW420 := n2_; have GE420 := n3_; clear n0_ n1_ n2_ n3_; clear hb hbox hg; obtain ⟨hcz15_0, hcz15_1, hcz15_2, hcz15_3, hcz15_4, hcz15_5, hcz15_6, hfz15_0, hfz15_1, hfz15_2, hfz15_3, hfz15_4, hfz15_5, hfz15_6⟩ := blk_all7 BK420.out))
    go_loopg [8] kj3 (fun kq v8 w' => ∃ (x8_2 : Int) (x421000_2 : Int) (x421001_2 : Int) (x421002_2 : Int) (x421003_2 : Bool) (x421004_2 : Int) (x421005_2 : Bool) (x421006_2 : Int), v8 = .int .i64 x8_2 ∧ Aside0 (drayagelaw14_SagaTicks.l0 kq l0 l1 a2 x8_2 x421000_2 x421001_2 x421002_2 x421003_2 x421004_2 x421005_2 x421006_2 = some r) ∧ Aside0 (kq ≤ kj3) ∧ Aside0 (w'.heap[gb420]? = some (.cells #[.int .i64 x421000_2, .int .i64 x421001_2, .int .i64 x421002_2, .bool x421003_2, .int .i64 x421004_2, .bool x421005_2, .int .i64 x421006_2] 28 (0, 0))) ∧ Aside0 (Below w.heap.size w w'))
    case atStart => exact ⟨(0), (t413), (t414), (t415), (t416), (t417), (t418), (t419), (by first | rfl | (simp; done) | (simp [*]; done)), H', ⟨Nat.le_refl _⟩, ⟨by (with_reducible repeat (first | apply bd1 | apply bd2 | apply bd3)); refine blk_put (cs := #[.int .i64 t413, .int .i64 t414, .int .i64 t415, .bool t416, .int .i64 t417, .bool t418, .int .i64 0]) ?_ 6 _ rfl; (with_reducible repeat (first | apply bd1 | apply bd2 | apply bd3)); refine blk_put (cs := #[.int .i64 t413, .int .i64 t414, .int .i64 t415, .bool t416, .int .i64 t417, .bool false, .int .i64 0]) ?_ 5 _ rfl; (with_reducible repeat (first | apply bd1 | apply bd2 | apply bd3)); refine blk_put (cs := #[.int .i64 t413, .int .i64 t414, .int .i64 t415, .bool t416, .int .i64 0, .bool false, .int .i64 0]) ?_ 4 _ rfl; (with_reducible repeat (first | apply bd1 | apply bd2 | apply bd3)); refine blk_put (cs := #[.int .i64 t413, .int .i64 t414, .int .i64 t415, .bool false, .int .i64 0, .bool false, .int .i64 0]) ?_ 3 _ rfl; (with_reducible repeat (first | apply bd1 | apply bd2 | apply bd3)); refine blk_put (cs := #[.int .i64 t413, .int .i64 t414, .int .i64 0, .bool false, .int .i64 0, .bool false, .int .i64 0]) ?_ 2 _ rfl; (with_reducible repeat (first | apply bd1 | apply bd2 | apply bd3)); refine blk_put (cs := #[.int .i64 t413, .int .i64 0, .int .i64 0, .bool false, .int .i64 0, .bool false, .int .i64 0]) ?_ 1 _ rfl; (with_reducible repeat (first | apply bd1 | apply bd2 | apply bd3)); refine blk_put (cs := #[.int .i64 0, .int .i64 0, .int .i64 0, .bool false, .int .i64 0, .bool false, .int .i64 0]) ?_ 0 _ rfl; (with_reducible repeat (first | apply bd1 | apply bd2 | apply bd3)); exact BK420.out⟩, ⟨by repeat (first | (with_reducible first | exact HB.out | apply below_alloc | apply pw_below_drewN | apply below_drew1 | refine below_set ?_ GE420.out) | exact HB.out)⟩⟩
    case round =>
     clear H'
     try clear c1
     try clear p2
     try clear c6
     try clear c8
     try clear c9
     try clear c10
     try clear c12
     try clear c13
     try clear hcz15_0
     try clear hcz15_1
     try clear hcz15_2
     try clear hcz15_3
     try clear hcz15_4
     try clear hcz15_5
     try clear hcz15_6
     try clear hfz15_0
     try clear hfz15_1
     try clear hfz15_2
     try clear hfz15_3
     try clear hfz15_4
     try clear hfz15_5
     try clear hfz15_6
     try clear p2
     obtain ⟨x8_2, x421000_2, x421001_2, x421002_2, x421003_2, x421004_2, x421005_2, x421006_2, rfl, HA, HK2, BK420, HB⟩ := hrel
     cases gk with
     | zero => exact absurd HA.out (by simp [drayagelaw14_SagaTicks.l0])
     | succ k2 =>
      have H := HA.out
      clear HA
      simp only [drayagelaw14_SagaTicks.l0] at H
      have HC16 := Aside0.mk H
      clear H
      go_upto_region 5 with (fail)
      go_cut [39] (fun v39 wc => ∃ (kq : Nat) (x39_15 : Bool), v39 = .bool x39_15 ∧ Aside0 (drayagelaw14_SagaTicks.j2 kq l0 l1 a2 x8_2 x39_15 x421000_2 x421001_2 x421002_2 x421003_2 x421004_2 x421005_2 x421006_2 = some r) ∧ Aside0 (kq ≤ k2) ∧ Aside0 (wc.heap[gb420]? = some (.cells #[.int .i64 x421000_2, .int .i64 x421001_2, .int .i64 x421002_2, .bool x421003_2, .int .i64 x421004_2, .bool x421005_2, .int .i64 x421006_2] 28 (0, 0))) ∧ Aside0 (Below w.heap.size w wc))
      case first =>
       have H := HC16.out
       clear HC16
       by_cases c17 : x8_2 < (l1.length : Int)
       ·
        rw [if_pos c17] at H
        have c17b0 : decide (x8_2 < (l1.length : Int)) = true := decide_eq_true c17
        clear c17
        (first | rw [c17b0] | (simp only [i64_w, i32_w]; rw [c17b0]) | skip)
        have H' := Aside0.mk H
        clear H
        go_wp2
        go_meet
        case rel => exact ⟨_, (decide (x8_2 < 60)), (by first | rfl | (simp; done) | (simp [*]; done)), H', ⟨by have := HJ3.out; have := HK2.out; first | omega | exact Nat.le_refl _⟩, ⟨by (with_reducible repeat (first | apply bd1 | apply bd2 | apply bd3)); exact BK420.out⟩, ⟨by repeat (first | (with_reducible first | exact HB.out | apply below_alloc | apply pw_below_drewN | apply below_drew1 | refine below_set ?_ GE420.out) | exact HB.out)⟩⟩
       ·
        rw [if_neg c17] at H
        have c17b0 : decide (x8_2 < (l1.length : Int)) = false := decide_eq_false c17
        clear c17
        (first | rw [c17b0] | (simp only [i64_w, i32_w]; rw [c17b0]) | skip)
        have H' := Aside0.mk H
        clear H
        go_wp2
        go_meet
        case rel => exact ⟨_, (false), (by first | rfl | (simp; done) | (simp [*]; done)), H', ⟨by have := HJ3.out; have := HK2.out; first | omega | exact Nat.le_refl _⟩, ⟨by (with_reducible repeat (first | apply bd1 | apply bd2 | apply bd3)); exact BK420.out⟩, ⟨by repeat (first | (with_reducible first | exact HB.out | apply below_alloc | apply pw_below_drewN | apply below_drew1 | refine below_set ?_ GE420.out) | exact HB.out)⟩⟩
      case rest =>
       clear HC16
       try clear c1
       try clear p2
       try clear c6
       try clear c8
       try clear c9
       try clear c10
       try clear c12
       try clear c13
       try clear c17
       try clear c17b0
       try clear hcz15_0
       try clear hcz15_1
       try clear hcz15_2
       try clear hcz15_3
       try clear hcz15_4
       try clear hcz15_5
       try clear hcz15_6
       try clear hfz15_0
       try clear hfz15_1
       try clear hfz15_2
       try clear hfz15_3
       try clear hfz15_4
       try clear hfz15_5
       try clear hfz15_6
       try clear p2
       obtain ⟨kq, x39_15, rfl, HA, HJ15, BK420, HB⟩ := hcut
       cases kq with
       | zero => exact absurd HA.out (by simp [drayagelaw14_SagaTicks.j2])
       | succ kj15 =>
        have H := HA.out
        clear HA
        simp only [drayagelaw14_SagaTicks.j2] at H
        by_cases c18 : x39_15 = true
        ·
         subst c18
         have H1 : (if 0 ≤ x8_2 then (if x8_2 < (l1.length : Int) then ((drayagelaw14_happens.f kj15 l0 x421000_2 x421001_2 x421002_2 x421003_2 x421004_2 x421005_2 x421006_2 ((rd_T54 l1 x8_2).f0) ((rd_T54 l1 x8_2).f1) ((rd_T54 l1 x8_2).f2)).bind fun bt422 => (if bt422.2.2.2.2.2.2.2 = true then (drayagelaw14_SagaTicks.l0 kj15 l0 l1 a2 (wrap64 (x8_2 + 1)) bt422.1 bt422.2.1 bt422.2.2.1 bt422.2.2.2.1 bt422.2.2.2.2.1 bt422.2.2.2.2.2.1 bt422.2.2.2.2.2.2.1) else (none))) else (none)) else (none)) = some r := by rw [if_pos rfl] at H; exact H
         clear H
         have H := H1
         clear H1
         by_cases c19 : 0 ≤ x8_2
         ·
          rw [if_pos c19] at H
          have c19b0 : decide (0 ≤ x8_2) = true := decide_eq_true c19
          clear c19
          by_cases c20 : x8_2 < (l1.length : Int)
          ·
           rw [if_pos c20] at H
           have c20b0 : decide (x8_2 < (l1.length : Int)) = true := decide_eq_true c20
           clear c20
           replace H := Option.bind_eq_some_iff.mp H
           obtain ⟨⟨t422, t423, t424, t425, t426, t427, t428, t429⟩, A210, H⟩ := H
           replace H : (if t429 = true then (drayagelaw14_SagaTicks.l0 kj15 l0 l1 a2 (wrap64 (x8_2 + 1)) t422 t423 t424 t425 t426 t427 t428) else (none)) = some r := H
           have A21 := Aside0.mk A210
           clear A210
           by_cases c22 : t429 = true
           ·
            subst c22
            have H1 : (drayagelaw14_SagaTicks.l0 kj15 l0 l1 a2 (wrap64 (x8_2 + 1)) t422 t423 t424 t425 t426 t427 t428) = some r := by rw [if_pos rfl] at H; exact H
            clear H
            have H := H1
            clear H1
            have H' := Aside0.mk H
            clear H
            try go_wp2
            have n0_ := Aside0.mk (blk_drew BK420.out)
            have n1_ := Aside0.mk (below_drew1 HB.out)
            clear BK420
            clear HB
            have BK420 := n0_
            have HB := n1_
            clear n0_ n1_
            have p421 : 0 ≤ (x8_2 : Int) := of_decide_eq_true (by first | (with_reducible assumption) | assumption)
            have q421 : x8_2 < (l1.length : Int) := of_decide_eq_true (by first | (with_reducible assumption) | assumption)
            obtain ⟨ad421, e421, hx421_0, hx421_1, hx421_2⟩ := at_T54 HR1.out x8_2 p421 q421
            have hw421_2 := hx421_2
            have hw421_1 := hx421_1
            have hw421_0 := hx421_0
            cases e421
            replace hx421_0 := (HB.out.cell (World.block_lt_of_cell? w _ hx421_0)).trans hx421_0
            replace hx421_1 := (HB.out.cell (World.block_lt_of_cell? w _ hx421_1)).trans hx421_1
            replace hx421_2 := (HB.out.cell (World.block_lt_of_cell? w _ hx421_2)).trans hx421_2
            replace p421 := eq_true p421
            replace q421 := eq_true q421
            refine start_ (n := 13) (S := fun w' => w'.cell? ⟨gb420, 0, none⟩ = some (.int .i64 x421000_2) ∧ w'.cell? ⟨gb420, 1, none⟩ = some (.int .i64 x421001_2) ∧ w'.cell? ⟨gb420, 2, none⟩ = some (.int .i64 x421002_2) ∧ w'.cell? ⟨gb420, 3, none⟩ = some (.bool x421003_2) ∧ w'.cell? ⟨gb420, 4, none⟩ = some (.int .i64 x421004_2) ∧ w'.cell? ⟨gb420, 5, none⟩ = some (.bool x421005_2) ∧ w'.cell? ⟨gb420, 6, none⟩ = some (.int .i64 x421006_2) ∧ w'.cell? (ad421.add ((x8_2).toNat * 3)) = some (.int .i64 ((rd_T54 l1 x8_2).f0)) ∧ w'.cell? ⟨(ad421.add ((x8_2).toNat * 3)).block, (ad421.add ((x8_2).toNat * 3)).off + 1, none⟩ = some (.int .i64 ((rd_T54 l1 x8_2).f1)) ∧ w'.cell? ⟨(ad421.add ((x8_2).toNat * 3)).block, (ad421.add ((x8_2).toNat * 3)).off + 2, none⟩ = some (.int .i64 ((rd_T54 l1 x8_2).f2))) (ds := []) #[false, false, false, false, false, false, false, false, false, false, false, false, false] (by kernel_rfl) rfl rfl ⟨(blk_cell BK420.out 0).trans rfl, (blk_cell BK420.out 1).trans rfl, (blk_cell BK420.out 2).trans rfl, (blk_cell BK420.out 3).trans rfl, (blk_cell BK420.out 4).trans rfl, (blk_cell BK420.out 5).trans rfl, (blk_cell BK420.out 6).trans rfl, ((HB.out.cell (World.block_lt_of_cell? w _ hw421_0)).trans hw421_0), ((HB.out.cell (World.block_lt_of_cell? w _ hw421_1)).trans hw421_1), ((HB.out.cell (World.block_lt_of_cell? w _ hw421_2)).trans hw421_2)⟩ (fun hHeld => ?_); refine with_tabW drayagelaw14_SagaTicks.tab7 drayagelaw14_SagaTicks.bits7 (fun HT_ HW_ => ?_)
            generalize wc.drew = w23 at BK420 HB hx421_0 hx421_1 hx421_2 hHeld ⊢
            refine pure_ (i := 0) (N := some 43) (v := ?_) (a' := ?_) #[true, false, false, false, false, false, false, false, false, false, false, false, false] rfl rfl (any_of HT_.out (by kernel_rfl)) (fun _ _ _ h => h) (Or.inl ⟨by rfl, ?_⟩) ?_ ?_
            rotate_left
            ·
             intro w'
             go_simp
             with_reducible rfl
            rotate_left
            ·
             simp only [Act.put, List.setIfInBounds_toArray, List.set_cons_zero, List.set_cons_succ, i64_w, i32_w]
             rfl
            refine pure_ (i := 2) (N := some 45) (v := ?_) (a' := ?_) #[true, false, true, false, false, false, false, false, false, false, false, false, false] rfl rfl (any_of HT_.out (by kernel_rfl)) (fun _ _ _ h => h) (Or.inl ⟨by rfl, ?_⟩) ?_ ?_
            rotate_left
            ·
             intro w'
             go_simp
             with_reducible rfl
            rotate_left
            ·
             simp only [Act.put, List.setIfInBounds_toArray, List.set_cons_zero, List.set_cons_succ, i64_w, i32_w]
             rfl
            refine pure_ (i := 3) (N := some 46) (v := ?_) (a' := ?_) #[true, false, true, true, false, false, false, false, false, false, false, false, false] rfl rfl (any_of HT_.out (by kernel_rfl)) (fun _ _ _ h => h) (Or.inl ⟨by rfl, ?_⟩) ?_ ?_
            rotate_left
            ·
             intro w'
             go_simp
             with_reducible rfl
            rotate_left
            ·
             simp only [Act.put, List.setIfInBounds_toArray, List.set_cons_zero, List.set_cons_succ, i64_w, i32_w]
             rfl
            refine pure_ (i := 4) (N := some 47) (v := ?_) (a' := ?_) #[true, false, true, true, true, false, false, false, false, false, false, false, false] rfl rfl (any_of HT_.out (by kernel_rfl)) (fun _ _ _ h => h) (Or.inl ⟨by rfl, ?_⟩) ?_ ?_
            rotate_left
            ·
             intro w'
             go_simp
             with_reducible rfl
            rotate_left
            ·
             simp only [Act.put, List.setIfInBounds_toArray, List.set_cons_zero, List.set_cons_succ, i64_w, i32_w]
             rfl
            refine take_ (i := 1) (N := some 44) (v := ?_) (a' := ?_) #[true, true, true, true, true, false, false, false, false, false, false, false, false] rfl rfl (take_ofW HT_.out HW_.out (by kernel_rfl)) (fun _ _ _ h => h) (Or.inl ⟨by rfl, ?_⟩) hHeld ?_ ?_
            rotate_left
            ·
             rintro w' ⟨s0, s1, s2, s3, s4, s5, s6, s7, s8, s9⟩
             go_simp
             with_reducible rfl
            rotate_left
            ·
             simp only [Act.put, List.setIfInBounds_toArray, List.set_cons_zero, List.set_cons_succ, i64_w, i32_w]
             rfl
            refine take_ (i := 5) (N := some 48) (v := ?_) (a' := ?_) #[true, true, true, true, true, true, false, false, false, false, false, false, false] rfl rfl (take_ofW HT_.out HW_.out (by kernel_rfl)) (fun _ _ _ h => h) (Or.inl ⟨by rfl, ?_⟩) hHeld ?_ ?_
            rotate_left
            ·
             rintro w' ⟨s0, s1, s2, s3, s4, s5, s6, s7, s8, s9⟩
             go_simp
             with_reducible rfl
            rotate_left
            ·
             simp only [Act.put, List.setIfInBounds_toArray, List.set_cons_zero, List.set_cons_succ, i64_w, i32_w]
             rfl
            refine join_ (σ := Nat) 2 #[true, true, true, true, true, true, true, true, true, true, true, false, false] (fun s_ => [(49, .tuple #[.agg #[.int .i64 t422, .int .i64 t423, .int .i64 t424, .bool t425, .int .i64 t426, .bool t427, .int .i64 t428], .bool true]), (9, .pointer (some ⟨s_, 0, none⟩)), (42, .tuple #[.agg #[.int .i64 t422, .int .i64 t423, .int .i64 t424, .bool t425, .int .i64 t426, .bool t427, .int .i64 t428], .bool true]), (50, .agg #[.int .i64 t422, .int .i64 t423, .int .i64 t424, .bool t425, .int .i64 t426, .bool t427, .int .i64 t428]), (51, .bool true)]) (fun s_ w' => (w'.cell? ⟨gb420, 0, none⟩ = some (.int .i64 x421000_2) ∧ w'.cell? ⟨gb420, 1, none⟩ = some (.int .i64 x421001_2) ∧ w'.cell? ⟨gb420, 2, none⟩ = some (.int .i64 x421002_2) ∧ w'.cell? ⟨gb420, 3, none⟩ = some (.bool x421003_2) ∧ w'.cell? ⟨gb420, 4, none⟩ = some (.int .i64 x421004_2) ∧ w'.cell? ⟨gb420, 5, none⟩ = some (.bool x421005_2) ∧ w'.cell? ⟨gb420, 6, none⟩ = some (.int .i64 x421006_2) ∧ w'.cell? (ad421.add ((x8_2).toNat * 3)) = some (.int .i64 ((rd_T54 l1 x8_2).f0)) ∧ w'.cell? ⟨(ad421.add ((x8_2).toNat * 3)).block, (ad421.add ((x8_2).toNat * 3)).off + 1, none⟩ = some (.int .i64 ((rd_T54 l1 x8_2).f1)) ∧ w'.cell? ⟨(ad421.add ((x8_2).toNat * 3)).block, (ad421.add ((x8_2).toNat * 3)).off + 2, none⟩ = some (.int .i64 ((rd_T54 l1 x8_2).f2))) ∧ (w'.heap[gb420]? = some (.cells #[.int .i64 x421000_2, .int .i64 x421001_2, .int .i64 x421002_2, .bool x421003_2, .int .i64 x421004_2, .bool x421005_2, .int .i64 x421006_2] 28 (0, 0))) ∧ (w'.heap[s_]? = some (.cells #[.int .i64 0, .int .i64 0, .int .i64 0, .bool false, .int .i64 0, .bool false, .int .i64 0] 28 (0, 0))) ∧ (w.heap.size ≤ s_) ∧ (w.heap.size ≤ s_) ∧ (gb420 ≠ s_) ∧ (s_ ≠ gb420) ∧ (Below w.heap.size w w')) ?_ ?_
            rotate_left
            ·
             intro hCont
             refine two_ (i := 6) (j := 10) (Ni := some 49) (Nj := some 9) #[true, true, true, true, true, true, true, false, false, false, false, false, false] #[true, true, true, true, true, true, false, false, false, false, true, false, false] rfl rfl rfl rfl (two_of HT_.out (by kernel_rfl)) (by decide) (by decide) (fun K hK => ?_) (fun K hK => ?_)
             ·
              skip
              refine goes_ Try.func26 (by kernel_rfl) rfl #[.slice A0 l0.length c0, .agg #[.int .i64 x421000_2, .int .i64 x421001_2, .int .i64 x421002_2, .bool x421003_2, .int .i64 x421004_2, .bool x421005_2, .int .i64 x421006_2], .agg #[.int .i64 ((rd_T54 l1 x8_2).f0), .int .i64 ((rd_T54 l1 x8_2).f1), .int .i64 ((rd_T54 l1 x8_2).f2)]] (by rfl) rfl rfl (by (try simp only [List.map_toArray, List.map_cons, List.map_nil]); first | done | rfl | (simp only [List.length_drop, List.length_take]; rfl)) ?_
              with_reducible refine (drayagelaw14_happens.calls kj15 _ _ l0 x421000_2 x421001_2 x421002_2 x421003_2 x421004_2 x421005_2 x421006_2 ((rd_T54 l1 x8_2).f0) ((rd_T54 l1 x8_2).f1) ((rd_T54 l1 x8_2).f2) t422 t423 t424 t425 t426 t427 t428 true _ ?side1 ?side2 A21.out).mono ?_
              (case side1 => repeat (first | exact (Kd.C_below HR0.out HB.out) | (with_reducible refine Kd.C_alloc ?_ _) | (with_reducible refine Kd.C_drewN ?_ _) | (with_reducible refine Kd.C_drew ?_)))
              (case side2 => exact HC0.out)
              rintro e w24 ⟨rfl, hb⟩
              refine ⟨_, rfl, ?_⟩
              have n0_ := Aside0.mk (blk_below (g := gb420) (o := .cells #[.int .i64 x421000_2, .int .i64 x421001_2, .int .i64 x421002_2, .bool x421003_2, .int .i64 x421004_2, .bool x421005_2, .int .i64 x421006_2] 28 (0, 0)) (by (with_reducible repeat (first | apply bd1 | apply bd2 | apply bd3)); exact BK420.out) hb)
              have n1_ := Aside0.mk (below_step (by repeat (first | (with_reducible first | exact HB.out | apply below_alloc | apply pw_below_drewN | apply below_drew1 | refine below_set ?_ GE420.out) | exact HB.out)) hb)
              clear BK420
              clear HB
              have BK420 := n0_
              have HB := n1_
              clear n0_ n1_
              (try clear hb)
              (try clear hb2)
              (try clear hk)
              (try clear hi)
              refine hK.out _ _ ⟨(blk_cell BK420.out 0).trans rfl, (blk_cell BK420.out 1).trans rfl, (blk_cell BK420.out 2).trans rfl, (blk_cell BK420.out 3).trans rfl, (blk_cell BK420.out 4).trans rfl, (blk_cell BK420.out 5).trans rfl, (blk_cell BK420.out 6).trans rfl, ((HB.out.cell (World.block_lt_of_cell? w _ hw421_0)).trans hw421_0), ((HB.out.cell (World.block_lt_of_cell? w _ hw421_1)).trans hw421_1), ((HB.out.cell (World.block_lt_of_cell? w _ hw421_2)).trans hw421_2)⟩ (fun hHeld => ?_)
              clear hK K
              refine norm_ (a' := ?_) ?_ ?_
              rotate_left
              ·
               show Act.put _ (some 49) _ = _
               simp only [Act.put, List.setIfInBounds_toArray, List.set_cons_zero, List.set_cons_succ, i64_w, i32_w]
               rfl
              refine pure_ (i := 7) (N := some 42) (v := ?_) (a' := ?_) #[true, true, true, true, true, true, true, true, false, false, false, false, false] rfl rfl (any_of HT_.out (by kernel_rfl)) (fun _ _ _ h => h) (Or.inl ⟨by rfl, ?_⟩) ?_ ?_
              rotate_left
              ·
               intro w'
               go_simp
               with_reducible rfl
              rotate_left
              ·
               simp only [Act.put, List.setIfInBounds_toArray, List.set_cons_zero, List.set_cons_succ, i64_w, i32_w]
               rfl
              refine pure_ (i := 8) (N := some 50) (v := ?_) (a' := ?_) #[true, true, true, true, true, true, true, true, true, false, false, false, false] rfl rfl (any_of HT_.out (by kernel_rfl)) (fun _ _ _ h => h) (Or.inl ⟨by rfl, ?_⟩) ?_ ?_
              rotate_left
              ·
               intro w'
               go_simp
               with_reducible rfl
              rotate_left
              ·
               simp only [Act.put, List.setIfInBounds_toArray, List.set_cons_zero, List.set_cons_succ, i64_w, i32_w]
               rfl
              refine pure_ (i := 9) (N := some 51) (v := ?_) (a' := ?_) #[true, true, true, true, true, true, true, true, true, true, false, false, false] rfl rfl (any_of HT_.out (by kernel_rfl)) (fun _ _ _ h => h) (Or.inl ⟨by rfl, ?_⟩) ?_ ?_
              rotate_left
              ·
               intro w'
               go_simp
               with_reducible rfl
              rotate_left
              ·
               simp only [Act.put, List.setIfInBounds_toArray, List.set_cons_zero, List.set_cons_succ, i64_w, i32_w]
               rfl
              refine one_ (i := 10) (N := some 9) #[true, true, true, true, true, true, true, true, true, true, true, false, false] rfl rfl (one_of HT_.out (by kernel_rfl)) (by decide) (fun K hK => ?_)
              refine box_step ?hg (N := 9) ?hd (cs := #[.int .i64 0, .int .i64 0, .int .i64 0, .bool false, .int .i64 0, .bool false, .int .i64 0]) (t := 28) ?hr ?_; (case hd => rfl); (case hg => rfl); (case hr => first | (go_simp; done) | (go_simp; rfl))
              intro gb430 hg w25 hbox hb
              have n0_ := Aside0.mk (blk_below (g := gb420) (o := .cells #[.int .i64 x421000_2, .int .i64 x421001_2, .int .i64 x421002_2, .bool x421003_2, .int .i64 x421004_2, .bool x421005_2, .int .i64 x421006_2] 28 (0, 0)) (by (with_reducible repeat (first | apply bd1 | apply bd2 | apply bd3)); exact BK420.out) hb)
              have n1_ := Aside0.mk (below_step (by repeat (first | (with_reducible first | exact HB.out | apply below_alloc | apply pw_below_drewN | apply below_drew1 | refine below_set ?_ GE420.out) | exact HB.out)) hb)
              have n2_ := Aside0.mk (hbox)
              have n3_ := Aside0.mk ((by rw [hg]; exact (below_size (by repeat (first | (with_reducible first | exact HB.out | apply below_alloc | apply pw_below_drewN | apply below_drew1 | refine below_set ?_ GE420.out) | exact HB.out))) : w.heap.size ≤ gb430))
              have n4_ := Aside0.mk ((by rw [hg]; exact (below_size (by repeat (first | (with_reducible first | exact HB.out | apply below_alloc | apply pw_below_drewN | apply below_drew1 | refine below_set ?_ GE420.out) | exact HB.out))) : w.heap.size ≤ gb430))
              have n5_ := Aside0.mk ((by rw [hg]; exact Nat.ne_of_lt (blk_lt (g := gb420) (o := .cells #[.int .i64 x421000_2, .int .i64 x421001_2, .int .i64 x421002_2, .bool x421003_2, .int .i64 x421004_2, .bool x421005_2, .int .i64 x421006_2] 28 (0, 0)) (by (with_reducible repeat (first | apply bd1 | apply bd2 | apply bd3)); exact BK420.out)) : gb420 ≠ gb430))
              have n6_ := Aside0.mk ((by rw [hg]; exact Nat.ne_of_gt (blk_lt (g := gb420) (o := .cells #[.int .i64 x421000_2, .int .i64 x421001_2, .int .i64 x421002_2, .bool x421003_2, .int .i64 x421004_2, .bool x421005_2, .int .i64 x421006_2] 28 (0, 0)) (by (with_reducible repeat (first | apply bd1 | apply bd2 | apply bd3)); exact BK420.out)) : gb430 ≠ gb420))
              clear BK420
              clear HB
              have BK420 := n0_
              have HB := n1_
              have BK430 := n2_
              have GW430 := n3_
              have GE430 := n4_
              have NB420_430 := n5_
              have NB430_420 := n6_
              clear n0_ n1_ n2_ n3_ n4_ n5_ n6_
              clear hb hbox hg
              refine hK.out _ _ ⟨(blk_cell BK420.out 0).trans rfl, (blk_cell BK420.out 1).trans rfl, (blk_cell BK420.out 2).trans rfl, (blk_cell BK420.out 3).trans rfl, (blk_cell BK420.out 4).trans rfl, (blk_cell BK420.out 5).trans rfl, (blk_cell BK420.out 6).trans rfl, ((HB.out.cell (World.block_lt_of_cell? w _ hw421_0)).trans hw421_0), ((HB.out.cell (World.block_lt_of_cell? w _ hw421_1)).trans hw421_1), ((HB.out.cell (World.block_lt_of_cell? w _ hw421_2)).trans hw421_2)⟩ (fun hHeld => ?_)
              clear hK K
              refine norm_ (a' := ?_) ?_ ?_
              rotate_left
              ·
               show Act.put _ (some 9) _ = _
               simp only [Act.put, List.setIfInBounds_toArray, List.set_cons_zero, List.set_cons_succ, i64_w, i32_w]
               rfl
              exact norm_ (by simp only [putAll, Act.put, List.setIfInBounds_toArray, List.set_cons_zero, List.set_cons_succ]) (hCont (gb430) _ ⟨hHeld, (by (with_reducible repeat (first | apply bd1 | apply bd2 | apply bd3)); exact BK420.out), (by (with_reducible repeat (first | apply bd1 | apply bd2 | apply bd3)); exact BK430.out), GW430.out, GE430.out, NB420_430.out, NB430_420.out, (by repeat (first | (with_reducible first | exact HB.out | apply below_alloc | apply pw_below_drewN | apply below_drew1 | refine below_set ?_ GE420.out | refine below_set ?_ GE430.out) | exact HB.out))⟩)
             ·
              skip
              refine box_step ?hg (N := 9) ?hd (cs := #[.int .i64 0, .int .i64 0, .int .i64 0, .bool false, .int .i64 0, .bool false, .int .i64 0]) (t := 28) ?hr ?_; (case hd => rfl); (case hg => rfl); (case hr => first | (go_simp; done) | (go_simp; rfl))
              intro gb430 hg w24 hbox hb
              have n0_ := Aside0.mk (blk_below (g := gb420) (o := .cells #[.int .i64 x421000_2, .int .i64 x421001_2, .int .i64 x421002_2, .bool x421003_2, .int .i64 x421004_2, .bool x421005_2, .int .i64 x421006_2] 28 (0, 0)) (by (with_reducible repeat (first | apply bd1 | apply bd2 | apply bd3)); exact BK420.out) hb)
              have n1_ := Aside0.mk (below_step (by repeat (first | (with_reducible first | exact HB.out | apply below_alloc | apply pw_below_drewN | apply below_drew1 | refine below_set ?_ GE420.out) | exact HB.out)) hb)
              have n2_ := Aside0.mk (hbox)
              have n3_ := Aside0.mk ((by rw [hg]; exact (below_size (by repeat (first | (with_reducible first | exact HB.out | apply below_alloc | apply pw_below_drewN | apply below_drew1 | refine below_set ?_ GE420.out) | exact HB.out))) : w.heap.size ≤ gb430))
              have n4_ := Aside0.mk ((by rw [hg]; exact (below_size (by repeat (first | (with_reducible first | exact HB.out | apply below_alloc | apply pw_below_drewN | apply below_drew1 | refine below_set ?_ GE420.out) | exact HB.out))) : w.heap.size ≤ gb430))
              have n5_ := Aside0.mk ((by rw [hg]; exact Nat.ne_of_lt (blk_lt (g := gb420) (o := .cells #[.int .i64 x421000_2, .int .i64 x421001_2, .int .i64 x421002_2, .bool x421003_2, .int .i64 x421004_2, .bool x421005_2, .int .i64 x421006_2] 28 (0, 0)) (by (with_reducible repeat (first | apply bd1 | apply bd2 | apply bd3)); exact BK420.out)) : gb420 ≠ gb430))
              have n6_ := Aside0.mk ((by rw [hg]; exact Nat.ne_of_gt (blk_lt (g := gb420) (o := .cells #[.int .i64 x421000_2, .int .i64 x421001_2, .int .i64 x421002_2, .bool x421003_2, .int .i64 x421004_2, .bool x421005_2, .int .i64 x421006_2] 28 (0, 0)) (by (with_reducible repeat (first | apply bd1 | apply bd2 | apply bd3)); exact BK420.out)) : gb430 ≠ gb420))
              clear BK420
              clear HB
              have BK420 := n0_
              have HB := n1_
              have BK430 := n2_
              have GW430 := n3_
              have GE430 := n4_
              have NB420_430 := n5_
              have NB430_420 := n6_
              clear n0_ n1_ n2_ n3_ n4_ n5_ n6_
              clear hb hbox hg
              refine hK.out _ _ ⟨(blk_cell BK420.out 0).trans rfl, (blk_cell BK420.out 1).trans rfl, (blk_cell BK420.out 2).trans rfl, (blk_cell BK420.out 3).trans rfl, (blk_cell BK420.out 4).trans rfl, (blk_cell BK420.out 5).trans rfl, (blk_cell BK420.out 6).trans rfl, ((HB.out.cell (World.block_lt_of_cell? w _ hw421_0)).trans hw421_0), ((HB.out.cell (World.block_lt_of_cell? w _ hw421_1)).trans hw421_1), ((HB.out.cell (World.block_lt_of_cell? w _ hw421_2)).trans hw421_2)⟩ (fun hHeld => ?_)
              clear hK K
              refine norm_ (a' := ?_) ?_ ?_
              rotate_left
              ·
               show Act.put _ (some 9) _ = _
               simp only [Act.put, List.setIfInBounds_toArray, List.set_cons_zero, List.set_cons_succ, i64_w, i32_w]
               rfl
              refine one_ (i := 6) (N := some 49) #[true, true, true, true, true, true, true, false, false, false, true, false, false] rfl rfl (one_of HT_.out (by kernel_rfl)) (by decide) (fun K hK => ?_)
              refine goes_ Try.func26 (by kernel_rfl) rfl #[.slice A0 l0.length c0, .agg #[.int .i64 x421000_2, .int .i64 x421001_2, .int .i64 x421002_2, .bool x421003_2, .int .i64 x421004_2, .bool x421005_2, .int .i64 x421006_2], .agg #[.int .i64 ((rd_T54 l1 x8_2).f0), .int .i64 ((rd_T54 l1 x8_2).f1), .int .i64 ((rd_T54 l1 x8_2).f2)]] (by rfl) rfl rfl (by (try simp only [List.map_toArray, List.map_cons, List.map_nil]); first | done | rfl | (simp only [List.length_drop, List.length_take]; rfl)) ?_
              with_reducible refine (drayagelaw14_happens.calls kj15 _ _ l0 x421000_2 x421001_2 x421002_2 x421003_2 x421004_2 x421005_2 x421006_2 ((rd_T54 l1 x8_2).f0) ((rd_T54 l1 x8_2).f1) ((rd_T54 l1 x8_2).f2) t422 t423 t424 t425 t426 t427 t428 true _ ?side1 ?side2 A21.out).mono ?_
              (case side1 => repeat (first | exact (Kd.C_below HR0.out HB.out) | (with_reducible refine Kd.C_alloc ?_ _) | (with_reducible refine Kd.C_drewN ?_ _) | (with_reducible refine Kd.C_drew ?_)))
              (case side2 => exact HC0.out)
              rintro e w25 ⟨rfl, hb⟩
              refine ⟨_, rfl, ?_⟩
              have n0_ := Aside0.mk (blk_below (g := gb420) (o := .cells #[.int .i64 x421000_2, .int .i64 x421001_2, .int .i64 x421002_2, .bool x421003_2, .int .i64 x421004_2, .bool x421005_2, .int .i64 x421006_2] 28 (0, 0)) (by (with_reducible repeat (first | apply bd1 | apply bd2 | apply bd3)); exact BK420.out) hb)
              have n1_ := Aside0.mk (blk_below (g := gb430) (o := .cells #[.int .i64 0, .int .i64 0, .int .i64 0, .bool false, .int .i64 0, .bool false, .int .i64 0] 28 (0, 0)) (by (with_reducible repeat (first | apply bd1 | apply bd2 | apply bd3)); exact BK430.out) hb)
              have n2_ := Aside0.mk (below_step (by repeat (first | (with_reducible first | exact HB.out | apply below_alloc | apply pw_below_drewN | apply below_drew1 | refine below_set ?_ GE420.out | refine below_set ?_ GE430.out) | exact HB.out)) hb)
              clear BK420
              clear BK430
              clear HB
              have BK420 := n0_
              have BK430 := n1_
              have HB := n2_
              clear n0_ n1_ n2_
              (try clear hb)
              (try clear hb2)
              (try clear hk)
              (try clear hi)
              refine hK.out _ _ ⟨(blk_cell BK420.out 0).trans rfl, (blk_cell BK420.out 1).trans rfl, (blk_cell BK420.out 2).trans rfl, (blk_cell BK420.out 3).trans rfl, (blk_cell BK420.out 4).trans rfl, (blk_cell BK420.out 5).trans rfl, (blk_cell BK420.out 6).trans rfl, ((HB.out.cell (World.block_lt_of_cell? w _ hw421_0)).trans hw421_0), ((HB.out.cell (World.block_lt_of_cell? w _ hw421_1)).trans hw421_1), ((HB.out.cell (World.block_lt_of_cell? w _ hw421_2)).trans hw421_2)⟩ (fun hHeld => ?_)
              clear hK K
              refine norm_ (a' := ?_) ?_ ?_
              rotate_left
              ·
               show Act.put _ (some 49) _ = _
               simp only [Act.put, List.setIfInBounds_toArray, List.set_cons_zero, List.set_cons_succ, i64_w, i32_w]
               rfl
              refine pure_ (i := 7) (N := some 42) (v := ?_) (a' := ?_) #[true, true, true, true, true, true, true, true, false, false, true, false, false] rfl rfl (any_of HT_.out (by kernel_rfl)) (fun _ _ _ h => h) (Or.inl ⟨by rfl, ?_⟩) ?_ ?_
              rotate_left
              ·
               intro w'
               go_simp
               with_reducible rfl
              rotate_left
              ·
               simp only [Act.put, List.setIfInBounds_toArray, List.set_cons_zero, List.set_cons_succ, i64_w, i32_w]
               rfl
              refine pure_ (i := 8) (N := some 50) (v := ?_) (a' := ?_) #[true, true, true, true, true, true, true, true, true, false, true, false, false] rfl rfl (any_of HT_.out (by kernel_rfl)) (fun _ _ _ h => h) (Or.inl ⟨by rfl, ?_⟩) ?_ ?_
              rotate_left
              ·
               intro w'
               go_simp
               with_reducible rfl
              rotate_left
              ·
               simp only [Act.put, List.setIfInBounds_toArray, List.set_cons_zero, List.set_cons_succ, i64_w, i32_w]
               rfl
              refine pure_ (i := 9) (N := some 51) (v := ?_) (a' := ?_) #[true, true, true, true, true, true, true, true, true, true, true, false, false] rfl rfl (any_of HT_.out (by kernel_rfl)) (fun _ _ _ h => h) (Or.inl ⟨by rfl, ?_⟩) ?_ ?_
              rotate_left
              ·
               intro w'
               go_simp
               with_reducible rfl
              rotate_left
              ·
               simp only [Act.put, List.setIfInBounds_toArray, List.set_cons_zero, List.set_cons_succ, i64_w, i32_w]
               rfl
              exact norm_ (by simp only [putAll, Act.put, List.setIfInBounds_toArray, List.set_cons_zero, List.set_cons_succ]) (hCont (gb430) _ ⟨hHeld, (by (with_reducible repeat (first | apply bd1 | apply bd2 | apply bd3)); exact BK420.out), (by (with_reducible repeat (first | apply bd1 | apply bd2 | apply bd3)); exact BK430.out), GW430.out, GE430.out, NB420_430.out, NB430_420.out, (by repeat (first | (with_reducible first | exact HB.out | apply below_alloc | apply pw_below_drewN | apply below_drew1 | refine below_set ?_ GE420.out | refine below_set ?_ GE430.out) | exact HB.out))⟩)
            rintro gb430 w26 ⟨hS_, h0_, h1_, h2_, h3_, h4_, h5_, h6_⟩
            have n0_ : Aside0 (w26.heap[gb420]? = some (.cells #[.int .i64 x421000_2, .int .i64 x421001_2, .int .i64 x421002_2, .bool x421003_2, .int .i64 x421004_2, .bool x421005_2, .int .i64 x421006_2] 28 (0, 0))) := ⟨h0_⟩
            have n1_ : Aside0 (w26.heap[gb430]? = some (.cells #[.int .i64 0, .int .i64 0, .int .i64 0, .bool false, .int .i64 0, .bool false, .int .i64 0] 28 (0, 0))) := ⟨h1_⟩
            have n2_ : Aside0 (w.heap.size ≤ gb430) := ⟨h2_⟩
            have n3_ : Aside0 (w.heap.size ≤ gb430) := ⟨h3_⟩
            have n4_ : Aside0 (gb420 ≠ gb430) := ⟨h4_⟩
            have n5_ : Aside0 (gb430 ≠ gb420) := ⟨h5_⟩
            have n6_ : Aside0 (Below w.heap.size w w26) := ⟨h6_⟩
            clear BK420
            clear HB
            clear h0_ h1_ h2_ h3_ h4_ h5_ h6_
            have BK420 := n0_
            have BK430 := n1_
            have GW430 := n2_
            have GE430 := n3_
            have NB420_430 := n4_
            have NB430_420 := n5_
            have HB := n6_
            clear n0_ n1_ n2_ n3_ n4_ n5_ n6_
            have hHeld : w26.cell? ⟨gb420, 0, none⟩ = some (.int .i64 x421000_2) ∧ w26.cell? ⟨gb420, 1, none⟩ = some (.int .i64 x421001_2) ∧ w26.cell? ⟨gb420, 2, none⟩ = some (.int .i64 x421002_2) ∧ w26.cell? ⟨gb420, 3, none⟩ = some (.bool x421003_2) ∧ w26.cell? ⟨gb420, 4, none⟩ = some (.int .i64 x421004_2) ∧ w26.cell? ⟨gb420, 5, none⟩ = some (.bool x421005_2) ∧ w26.cell? ⟨gb420, 6, none⟩ = some (.int .i64 x421006_2) ∧ w26.cell? (ad421.add ((x8_2).toNat * 3)) = some (.int .i64 ((rd_T54 l1 x8_2).f0)) ∧ w26.cell? ⟨(ad421.add ((x8_2).toNat * 3)).block, (ad421.add ((x8_2).toNat * 3)).off + 1, none⟩ = some (.int .i64 ((rd_T54 l1 x8_2).f1)) ∧ w26.cell? ⟨(ad421.add ((x8_2).toNat * 3)).block, (ad421.add ((x8_2).toNat * 3)).off + 2, none⟩ = some (.int .i64 ((rd_T54 l1 x8_2).f2)) := hS_
            refine norm_ (a' := ?_) ?_ ?_
            rotate_left
            ·
             simp only [putAll, Act.put, List.setIfInBounds_toArray, List.set_cons_zero, List.set_cons_succ]
             rfl
            refine one_ (i := 11) (N := none) #[true, true, true, true, true, true, true, true, true, true, true, true, false] rfl rfl (one_of HT_.out (by kernel_rfl)) (by decide) (fun K hK => ?_)
            have hs27 : w26.cell? ⟨gb430, 0, none⟩ = some (.int .i64 0) := (blk_cell BK430.out 0).trans rfl
            have hfs27 := blk_frozen BK430.out 0
            have hns27_0 := NB420_430.out
            have hms27_0 := NB430_420.out
            have hs28 : w26.cell? ⟨gb430, 1, none⟩ = some (.int .i64 0) := (blk_cell BK430.out 1).trans rfl
            have hfs28 := blk_frozen BK430.out 1
            have hns28_0 := NB420_430.out
            have hms28_0 := NB430_420.out
            have hs29 : w26.cell? ⟨gb430, 2, none⟩ = some (.int .i64 0) := (blk_cell BK430.out 2).trans rfl
            have hfs29 := blk_frozen BK430.out 2
            have hns29_0 := NB420_430.out
            have hms29_0 := NB430_420.out
            have hs30 : w26.cell? ⟨gb430, 3, none⟩ = some (.bool false) := (blk_cell BK430.out 3).trans rfl
            have hfs30 := blk_frozen BK430.out 3
            have hns30_0 := NB420_430.out
            have hms30_0 := NB430_420.out
            have hs31 : w26.cell? ⟨gb430, 4, none⟩ = some (.int .i64 0) := (blk_cell BK430.out 4).trans rfl
            have hfs31 := blk_frozen BK430.out 4
            have hns31_0 := NB420_430.out
            have hms31_0 := NB430_420.out
            have hs32 : w26.cell? ⟨gb430, 5, none⟩ = some (.bool false) := (blk_cell BK430.out 5).trans rfl
            have hfs32 := blk_frozen BK430.out 5
            have hns32_0 := NB420_430.out
            have hms32_0 := NB430_420.out
            have hs33 : w26.cell? ⟨gb430, 6, none⟩ = some (.int .i64 0) := (blk_cell BK430.out 6).trans rfl
            have hfs33 := blk_frozen BK430.out 6
            have hns33_0 := NB420_430.out
            have hms33_0 := NB430_420.out
            refine skip_ (w1 := ?_) (by rfl) rfl ?_ ?_
            rotate_left
            ·
             go_simp
             rfl
            refine hK.out _ _ ⟨((cell_far (p := ⟨gb430, _, none⟩) NB420_430.out _).trans (((cell_far (p := ⟨gb430, _, none⟩) NB420_430.out _).trans (((cell_far (p := ⟨gb430, _, none⟩) NB420_430.out _).trans (((cell_far (p := ⟨gb430, _, none⟩) NB420_430.out _).trans (((cell_far (p := ⟨gb430, _, none⟩) NB420_430.out _).trans (((cell_far (p := ⟨gb430, _, none⟩) NB420_430.out _).trans (((cell_far (p := ⟨gb430, _, none⟩) NB420_430.out _).trans (hHeld.1)))))))))))))), ((cell_far (p := ⟨gb430, _, none⟩) NB420_430.out _).trans (((cell_far (p := ⟨gb430, _, none⟩) NB420_430.out _).trans (((cell_far (p := ⟨gb430, _, none⟩) NB420_430.out _).trans (((cell_far (p := ⟨gb430, _, none⟩) NB420_430.out _).trans (((cell_far (p := ⟨gb430, _, none⟩) NB420_430.out _).trans (((cell_far (p := ⟨gb430, _, none⟩) NB420_430.out _).trans (((cell_far (p := ⟨gb430, _, none⟩) NB420_430.out _).trans (hHeld.2.1)))))))))))))), ((cell_far (p := ⟨gb430, _, none⟩) NB420_430.out _).trans (((cell_far (p := ⟨gb430, _, none⟩) NB420_430.out _).trans (((cell_far (p := ⟨gb430, _, none⟩) NB420_430.out _).trans (((cell_far (p := ⟨gb430, _, none⟩) NB420_430.out _).trans (((cell_far (p := ⟨gb430, _, none⟩) NB420_430.out _).trans (((cell_far (p := ⟨gb430, _, none⟩) NB420_430.out _).trans (((cell_far (p := ⟨gb430, _, none⟩) NB420_430.out _).trans (hHeld.2.2.1)))))))))))))), ((cell_far (p := ⟨gb430, _, none⟩) NB420_430.out _).trans (((cell_far (p := ⟨gb430, _, none⟩) NB420_430.out _).trans (((cell_far (p := ⟨gb430, _, none⟩) NB420_430.out _).trans (((cell_far (p := ⟨gb430, _, none⟩) NB420_430.out _).trans (((cell_far (p := ⟨gb430, _, none⟩) NB420_430.out _).trans (((cell_far (p := ⟨gb430, _, none⟩) NB420_430.out _).trans (((cell_far (p := ⟨gb430, _, none⟩) NB420_430.out _).trans (hHeld.2.2.2.1)))))))))))))), ((cell_far (p := ⟨gb430, _, none⟩) NB420_430.out _).trans (((cell_far (p := ⟨gb430, _, none⟩) NB420_430.out _).trans (((cell_far (p := ⟨gb430, _, none⟩) NB420_430.out _).trans (((cell_far (p := ⟨gb430, _, none⟩) NB420_430.out _).trans (((cell_far (p := ⟨gb430, _, none⟩) NB420_430.out _).trans (((cell_far (p := ⟨gb430, _, none⟩) NB420_430.out _).trans (((cell_far (p := ⟨gb430, _, none⟩) NB420_430.out _).trans (hHeld.2.2.2.2.1)))))))))))))), ((cell_far (p := ⟨gb430, _, none⟩) NB420_430.out _).trans (((cell_far (p := ⟨gb430, _, none⟩) NB420_430.out _).trans (((cell_far (p := ⟨gb430, _, none⟩) NB420_430.out _).trans (((cell_far (p := ⟨gb430, _, none⟩) NB420_430.out _).trans (((cell_far (p := ⟨gb430, _, none⟩) NB420_430.out _).trans (((cell_far (p := ⟨gb430, _, none⟩) NB420_430.out _).trans (((cell_far (p := ⟨gb430, _, none⟩) NB420_430.out _).trans (hHeld.2.2.2.2.2.1)))))))))))))), ((cell_far (p := ⟨gb430, _, none⟩) NB420_430.out _).trans (((cell_far (p := ⟨gb430, _, none⟩) NB420_430.out _).trans (((cell_far (p := ⟨gb430, _, none⟩) NB420_430.out _).trans (((cell_far (p := ⟨gb430, _, none⟩) NB420_430.out _).trans (((cell_far (p := ⟨gb430, _, none⟩) NB420_430.out _).trans (((cell_far (p := ⟨gb430, _, none⟩) NB420_430.out _).trans (((cell_far (p := ⟨gb430, _, none⟩) NB420_430.out _).trans (hHeld.2.2.2.2.2.2.1)))))))))))))), ((cell_far (p := ⟨gb430, _, none⟩) (by first | exact Nat.ne_of_lt (Nat.lt_of_lt_of_le (by have := World.block_lt_of_cell? _ _ hw421_0; first | rwa [add_block] at this | exact this) GW430.out) | (rw [add_block]; exact Nat.ne_of_lt (Nat.lt_of_lt_of_le (by have := World.block_lt_of_cell? _ _ hw421_0; first | rwa [add_block] at this | exact this) GW430.out)) | (show (Addr.add _ _).block ≠ _; rw [add_block]; exact Nat.ne_of_lt (Nat.lt_of_lt_of_le (by have := World.block_lt_of_cell? _ _ hw421_0; first | rwa [add_block] at this | exact this) GW430.out)) | (dsimp only; exact Nat.ne_of_lt (Nat.lt_of_lt_of_le (by have := World.block_lt_of_cell? _ _ hw421_0; first | rwa [add_block] at this | exact this) GW430.out))) _).trans (((cell_far (p := ⟨gb430, _, none⟩) (by first | exact Nat.ne_of_lt (Nat.lt_of_lt_of_le (by have := World.block_lt_of_cell? _ _ hw421_0; first | rwa [add_block] at this | exact this) GW430.out) | (rw [add_block]; exact Nat.ne_of_lt (Nat.lt_of_lt_of_le (by have := World.block_lt_of_cell? _ _ hw421_0; first | rwa [add_block] at this | exact this) GW430.out)) | (show (Addr.add _ _).block ≠ _; rw [add_block]; exact Nat.ne_of_lt (Nat.lt_of_lt_of_le (by have := World.block_lt_of_cell? _ _ hw421_0; first | rwa [add_block] at this | exact this) GW430.out)) | (dsimp only; exact Nat.ne_of_lt (Nat.lt_of_lt_of_le (by have := World.block_lt_of_cell? _ _ hw421_0; first | rwa [add_block] at this | exact this) GW430.out))) _).trans (((cell_far (p := ⟨gb430, _, none⟩) (by first | exact Nat.ne_of_lt (Nat.lt_of_lt_of_le (by have := World.block_lt_of_cell? _ _ hw421_0; first | rwa [add_block] at this | exact this) GW430.out) | (rw [add_block]; exact Nat.ne_of_lt (Nat.lt_of_lt_of_le (by have := World.block_lt_of_cell? _ _ hw421_0; first | rwa [add_block] at this | exact this) GW430.out)) | (show (Addr.add _ _).block ≠ _; rw [add_block]; exact Nat.ne_of_lt (Nat.lt_of_lt_of_le (by have := World.block_lt_of_cell? _ _ hw421_0; first | rwa [add_block] at this | exact this) GW430.out)) | (dsimp only; exact Nat.ne_of_lt (Nat.lt_of_lt_of_le (by have := World.block_lt_of_cell? _ _ hw421_0; first | rwa [add_block] at this | exact this) GW430.out))) _).trans (((cell_far (p := ⟨gb430, _, none⟩) (by first | exact Nat.ne_of_lt (Nat.lt_of_lt_of_le (by have := World.block_lt_of_cell? _ _ hw421_0; first | rwa [add_block] at this | exact this) GW430.out) | (rw [add_block]; exact Nat.ne_of_lt (Nat.lt_of_lt_of_le (by have := World.block_lt_of_cell? _ _ hw421_0; first | rwa [add_block] at this | exact this) GW430.out)) | (show (Addr.add _ _).block ≠ _; rw [add_block]; exact Nat.ne_of_lt (Nat.lt_of_lt_of_le (by have := World.block_lt_of_cell? _ _ hw421_0; first | rwa [add_block] at this | exact this) GW430.out)) | (dsimp only; exact Nat.ne_of_lt (Nat.lt_of_lt_of_le (by have := World.block_lt_of_cell? _ _ hw421_0; first | rwa [add_block] at this | exact this) GW430.out))) _).trans (((cell_far (p := ⟨gb430, _, none⟩) (by first | exact Nat.ne_of_lt (Nat.lt_of_lt_of_le (by have := World.block_lt_of_cell? _ _ hw421_0; first | rwa [add_block] at this | exact this) GW430.out) | (rw [add_block]; exact Nat.ne_of_lt (Nat.lt_of_lt_of_le (by have := World.block_lt_of_cell? _ _ hw421_0; first | rwa [add_block] at this | exact this) GW430.out)) | (show (Addr.add _ _).block ≠ _; rw [add_block]; exact Nat.ne_of_lt (Nat.lt_of_lt_of_le (by have := World.block_lt_of_cell? _ _ hw421_0; first | rwa [add_block] at this | exact this) GW430.out)) | (dsimp only; exact Nat.ne_of_lt (Nat.lt_of_lt_of_le (by have := World.block_lt_of_cell? _ _ hw421_0; first | rwa [add_block] at this | exact this) GW430.out))) _).trans (((cell_far (p := ⟨gb430, _, none⟩) (by first | exact Nat.ne_of_lt (Nat.lt_of_lt_of_le (by have := World.block_lt_of_cell? _ _ hw421_0; first | rwa [add_block] at this | exact this) GW430.out) | (rw [add_block]; exact Nat.ne_of_lt (Nat.lt_of_lt_of_le (by have := World.block_lt_of_cell? _ _ hw421_0; first | rwa [add_block] at this | exact this) GW430.out)) | (show (Addr.add _ _).block ≠ _; rw [add_block]; exact Nat.ne_of_lt (Nat.lt_of_lt_of_le (by have := World.block_lt_of_cell? _ _ hw421_0; first | rwa [add_block] at this | exact this) GW430.out)) | (dsimp only; exact Nat.ne_of_lt (Nat.lt_of_lt_of_le (by have := World.block_lt_of_cell? _ _ hw421_0; first | rwa [add_block] at this | exact this) GW430.out))) _).trans (((cell_far (p := ⟨gb430, _, none⟩) (by first | exact Nat.ne_of_lt (Nat.lt_of_lt_of_le (by have := World.block_lt_of_cell? _ _ hw421_0; first | rwa [add_block] at this | exact this) GW430.out) | (rw [add_block]; exact Nat.ne_of_lt (Nat.lt_of_lt_of_le (by have := World.block_lt_of_cell? _ _ hw421_0; first | rwa [add_block] at this | exact this) GW430.out)) | (show (Addr.add _ _).block ≠ _; rw [add_block]; exact Nat.ne_of_lt (Nat.lt_of_lt_of_le (by have := World.block_lt_of_cell? _ _ hw421_0; first | rwa [add_block] at this | exact this) GW430.out)) | (dsimp only; exact Nat.ne_of_lt (Nat.lt_of_lt_of_le (by have := World.block_lt_of_cell? _ _ hw421_0; first | rwa [add_block] at this | exact this) GW430.out))) _).trans (hHeld.2.2.2.2.2.2.2.1)))))))))))))), ((cell_far (p := ⟨gb430, _, none⟩) (by first | exact Nat.ne_of_lt (Nat.lt_of_lt_of_le (by have := World.block_lt_of_cell? _ _ hw421_1; first | rwa [add_block] at this | exact this) GW430.out) | (rw [add_block]; exact Nat.ne_of_lt (Nat.lt_of_lt_of_le (by have := World.block_lt_of_cell? _ _ hw421_1; first | rwa [add_block] at this | exact this) GW430.out)) | (show (Addr.add _ _).block ≠ _; rw [add_block]; exact Nat.ne_of_lt (Nat.lt_of_lt_of_le (by have := World.block_lt_of_cell? _ _ hw421_1; first | rwa [add_block] at this | exact this) GW430.out)) | (dsimp only; exact Nat.ne_of_lt (Nat.lt_of_lt_of_le (by have := World.block_lt_of_cell? _ _ hw421_1; first | rwa [add_block] at this | exact this) GW430.out))) _).trans (((cell_far (p := ⟨gb430, _, none⟩) (by first | exact Nat.ne_of_lt (Nat.lt_of_lt_of_le (by have := World.block_lt_of_cell? _ _ hw421_1; first | rwa [add_block] at this | exact this) GW430.out) | (rw [add_block]; exact Nat.ne_of_lt (Nat.lt_of_lt_of_le (by have := World.block_lt_of_cell? _ _ hw421_1; first | rwa [add_block] at this | exact this) GW430.out)) | (show (Addr.add _ _).block ≠ _; rw [add_block]; exact Nat.ne_of_lt (Nat.lt_of_lt_of_le (by have := World.block_lt_of_cell? _ _ hw421_1; first | rwa [add_block] at this | exact this) GW430.out)) | (dsimp only; exact Nat.ne_of_lt (Nat.lt_of_lt_of_le (by have := World.block_lt_of_cell? _ _ hw421_1; first | rwa [add_block] at this | exact this) GW430.out))) _).trans (((cell_far (p := ⟨gb430, _, none⟩) (by first | exact Nat.ne_of_lt (Nat.lt_of_lt_of_le (by have := World.block_lt_of_cell? _ _ hw421_1; first | rwa [add_block] at this | exact this) GW430.out) | (rw [add_block]; exact Nat.ne_of_lt (Nat.lt_of_lt_of_le (by have := World.block_lt_of_cell? _ _ hw421_1; first | rwa [add_block] at this | exact this) GW430.out)) | (show (Addr.add _ _).block ≠ _; rw [add_block]; exact Nat.ne_of_lt (Nat.lt_of_lt_of_le (by have := World.block_lt_of_cell? _ _ hw421_1; first | rwa [add_block] at this | exact this) GW430.out)) | (dsimp only; exact Nat.ne_of_lt (Nat.lt_of_lt_of_le (by have := World.block_lt_of_cell? _ _ hw421_1; first | rwa [add_block] at this | exact this) GW430.out))) _).trans (((cell_far (p := ⟨gb430, _, none⟩) (by first | exact Nat.ne_of_lt (Nat.lt_of_lt_of_le (by have := World.block_lt_of_cell? _ _ hw421_1; first | rwa [add_block] at this | exact this) GW430.out) | (rw [add_block]; exact Nat.ne_of_lt (Nat.lt_of_lt_of_le (by have := World.block_lt_of_cell? _ _ hw421_1; first | rwa [add_block] at this | exact this) GW430.out)) | (show (Addr.add _ _).block ≠ _; rw [add_block]; exact Nat.ne_of_lt (Nat.lt_of_lt_of_le (by have := World.block_lt_of_cell? _ _ hw421_1; first | rwa [add_block] at this | exact this) GW430.out)) | (dsimp only; exact Nat.ne_of_lt (Nat.lt_of_lt_of_le (by have := World.block_lt_of_cell? _ _ hw421_1; first | rwa [add_block] at this | exact this) GW430.out))) _).trans (((cell_far (p := ⟨gb430, _, none⟩) (by first | exact Nat.ne_of_lt (Nat.lt_of_lt_of_le (by have := World.block_lt_of_cell? _ _ hw421_1; first | rwa [add_block] at this | exact this) GW430.out) | (rw [add_block]; exact Nat.ne_of_lt (Nat.lt_of_lt_of_le (by have := World.block_lt_of_cell? _ _ hw421_1; first | rwa [add_block] at this | exact this) GW430.out)) | (show (Addr.add _ _).block ≠ _; rw [add_block]; exact Nat.ne_of_lt (Nat.lt_of_lt_of_le (by have := World.block_lt_of_cell? _ _ hw421_1; first | rwa [add_block] at this | exact this) GW430.out)) | (dsimp only; exact Nat.ne_of_lt (Nat.lt_of_lt_of_le (by have := World.block_lt_of_cell? _ _ hw421_1; first | rwa [add_block] at this | exact this) GW430.out))) _).trans (((cell_far (p := ⟨gb430, _, none⟩) (by first | exact Nat.ne_of_lt (Nat.lt_of_lt_of_le (by have := World.block_lt_of_cell? _ _ hw421_1; first | rwa [add_block] at this | exact this) GW430.out) | (rw [add_block]; exact Nat.ne_of_lt (Nat.lt_of_lt_of_le (by have := World.block_lt_of_cell? _ _ hw421_1; first | rwa [add_block] at this | exact this) GW430.out)) | (show (Addr.add _ _).block ≠ _; rw [add_block]; exact Nat.ne_of_lt (Nat.lt_of_lt_of_le (by have := World.block_lt_of_cell? _ _ hw421_1; first | rwa [add_block] at this | exact this) GW430.out)) | (dsimp only; exact Nat.ne_of_lt (Nat.lt_of_lt_of_le (by have := World.block_lt_of_cell? _ _ hw421_1; first | rwa [add_block] at this | exact this) GW430.out))) _).trans (((cell_far (p := ⟨gb430, _, none⟩) (by first | exact Nat.ne_of_lt (Nat.lt_of_lt_of_le (by have := World.block_lt_of_cell? _ _ hw421_1; first | rwa [add_block] at this | exact this) GW430.out) | (rw [add_block]; exact Nat.ne_of_lt (Nat.lt_of_lt_of_le (by have := World.block_lt_of_cell? _ _ hw421_1; first | rwa [add_block] at this | exact this) GW430.out)) | (show (Addr.add _ _).block ≠ _; rw [add_block]; exact Nat.ne_of_lt (Nat.lt_of_lt_of_le (by have := World.block_lt_of_cell? _ _ hw421_1; first | rwa [add_block] at this | exact this) GW430.out)) | (dsimp only; exact Nat.ne_of_lt (Nat.lt_of_lt_of_le (by have := World.block_lt_of_cell? _ _ hw421_1; first | rwa [add_block] at this | exact this) GW430.out))) _).trans (hHeld.2.2.2.2.2.2.2.2.1)))))))))))))), ((cell_far (p := ⟨gb430, _, none⟩) (by first | exact Nat.ne_of_lt (Nat.lt_of_lt_of_le (by have := World.block_lt_of_cell? _ _ hw421_2; first | rwa [add_block] at this | exact this) GW430.out) | (rw [add_block]; exact Nat.ne_of_lt (Nat.lt_of_lt_of_le (by have := World.block_lt_of_cell? _ _ hw421_2; first | rwa [add_block] at this | exact this) GW430.out)) | (show (Addr.add _ _).block ≠ _; rw [add_block]; exact Nat.ne_of_lt (Nat.lt_of_lt_of_le (by have := World.block_lt_of_cell? _ _ hw421_2; first | rwa [add_block] at this | exact this) GW430.out)) | (dsimp only; exact Nat.ne_of_lt (Nat.lt_of_lt_of_le (by have := World.block_lt_of_cell? _ _ hw421_2; first | rwa [add_block] at this | exact this) GW430.out))) _).trans (((cell_far (p := ⟨gb430, _, none⟩) (by first | exact Nat.ne_of_lt (Nat.lt_of_lt_of_le (by have := World.block_lt_of_cell? _ _ hw421_2; first | rwa [add_block] at this | exact this) GW430.out) | (rw [add_block]; exact Nat.ne_of_lt (Nat.lt_of_lt_of_le (by have := World.block_lt_of_cell? _ _ hw421_2; first | rwa [add_block] at this | exact this) GW430.out)) | (show (Addr.add _ _).block ≠ _; rw [add_block]; exact Nat.ne_of_lt (Nat.lt_of_lt_of_le (by have := World.block_lt_of_cell? _ _ hw421_2; first | rwa [add_block] at this | exact this) GW430.out)) | (dsimp only; exact Nat.ne_of_lt (Nat.lt_of_lt_of_le (by have := World.block_lt_of_cell? _ _ hw421_2; first | rwa [add_block] at this | exact this) GW430.out))) _).trans (((cell_far (p := ⟨gb430, _, none⟩) (by first | exact Nat.ne_of_lt (Nat.lt_of_lt_of_le (by have := World.block_lt_of_cell? _ _ hw421_2; first | rwa [add_block] at this | exact this) GW430.out) | (rw [add_block]; exact Nat.ne_of_lt (Nat.lt_of_lt_of_le (by have := World.block_lt_of_cell? _ _ hw421_2; first | rwa [add_block] at this | exact this) GW430.out)) | (show (Addr.add _ _).block ≠ _; rw [add_block]; exact Nat.ne_of_lt (Nat.lt_of_lt_of_le (by have := World.block_lt_of_cell? _ _ hw421_2; first | rwa [add_block] at this | exact this) GW430.out)) | (dsimp only; exact Nat.ne_of_lt (Nat.lt_of_lt_of_le (by have := World.block_lt_of_cell? _ _ hw421_2; first | rwa [add_block] at this | exact this) GW430.out))) _).trans (((cell_far (p := ⟨gb430, _, none⟩) (by first | exact Nat.ne_of_lt (Nat.lt_of_lt_of_le (by have := World.block_lt_of_cell? _ _ hw421_2; first | rwa [add_block] at this | exact this) GW430.out) | (rw [add_block]; exact Nat.ne_of_lt (Nat.lt_of_lt_of_le (by have := World.block_lt_of_cell? _ _ hw421_2; first | rwa [add_block] at this | exact this) GW430.out)) | (show (Addr.add _ _).block ≠ _; rw [add_block]; exact Nat.ne_of_lt (Nat.lt_of_lt_of_le (by have := World.block_lt_of_cell? _ _ hw421_2; first | rwa [add_block] at this | exact this) GW430.out)) | (dsimp only; exact Nat.ne_of_lt (Nat.lt_of_lt_of_le (by have := World.block_lt_of_cell? _ _ hw421_2; first | rwa [add_block] at this | exact this) GW430.out))) _).trans (((cell_far (p := ⟨gb430, _, none⟩) (by first | exact Nat.ne_of_lt (Nat.lt_of_lt_of_le (by have := World.block_lt_of_cell? _ _ hw421_2; first | rwa [add_block] at this | exact this) GW430.out) | (rw [add_block]; exact Nat.ne_of_lt (Nat.lt_of_lt_of_le (by have := World.block_lt_of_cell? _ _ hw421_2; first | rwa [add_block] at this | exact this) GW430.out)) | (show (Addr.add _ _).block ≠ _; rw [add_block]; exact Nat.ne_of_lt (Nat.lt_of_lt_of_le (by have := World.block_lt_of_cell? _ _ hw421_2; first | rwa [add_block] at this | exact this) GW430.out)) | (dsimp only; exact Nat.ne_of_lt (Nat.lt_of_lt_of_le (by have := World.block_lt_of_cell? _ _ hw421_2; first | rwa [add_block] at this | exact this) GW430.out))) _).trans (((cell_far (p := ⟨gb430, _, none⟩) (by first | exact Nat.ne_of_lt (Nat.lt_of_lt_of_le (by have := World.block_lt_of_cell? _ _ hw421_2; first | rwa [add_block] at this | exact this) GW430.out) | (rw [add_block]; exact Nat.ne_of_lt (Nat.lt_of_lt_of_le (by have := World.block_lt_of_cell? _ _ hw421_2; first | rwa [add_block] at this | exact this) GW430.out)) | (show (Addr.add _ _).block ≠ _; rw [add_block]; exact Nat.ne_of_lt (Nat.lt_of_lt_of_le (by have := World.block_lt_of_cell? _ _ hw421_2; first | rwa [add_block] at this | exact this) GW430.out)) | (dsimp only; exact Nat.ne_of_lt (Nat.lt_of_lt_of_le (by have := World.block_lt_of_cell? _ _ hw421_2; first | rwa [add_block] at this | exact this) GW430.out))) _).trans (((cell_far (p := ⟨gb430, _, none⟩) (by first | exact Nat.ne_of_lt (Nat.lt_of_lt_of_le (by have := World.block_lt_of_cell? _ _ hw421_2; first | rwa [add_block] at this | exact this) GW430.out) | (rw [add_block]; exact Nat.ne_of_lt (Nat.lt_of_lt_of_le (by have := World.block_lt_of_cell? _ _ hw421_2; first | rwa [add_block] at this | exact this) GW430.out)) | (show (Addr.add _ _).block ≠ _; rw [add_block]; exact Nat.ne_of_lt (Nat.lt_of_lt_of_le (by have := World.block_lt_of_cell? _ _ hw421_2; first | rwa [add_block] at this | exact this) GW430.out)) | (dsimp only; exact Nat.ne_of_lt (Nat.lt_of_lt_of_le (by have := World.block_lt_of_cell? _ _ hw421_2; first | rwa [add_block] at this | exact this) GW430.out))) _).trans (hHeld.2.2.2.2.2.2.2.2.2))))))))))))))⟩ (fun hHeld => ?_)
            clear hK K
            refine pure_ (i := 12) (N := some 10) (v := ?_) (a' := ?_) #[true, true, true, true, true, true, true, true, true, true, true, true, true] rfl rfl (any_of HT_.out (by kernel_rfl)) (fun _ _ _ h => h) (Or.inl ⟨by rfl, ?_⟩) ?_ ?_
            rotate_left
            ·
             intro w'
             go_simp
             with_reducible rfl
            rotate_left
            ·
             simp only [Act.put, List.setIfInBounds_toArray, List.set_cons_zero, List.set_cons_succ, i64_w, i32_w]
             rfl
            refine done_ (done_of HT_.out (by kernel_rfl)) ?_
            have hnb34 := NB430_420.out
            have hnc34 := NB420_430.out
            obtain ⟨hcz35_0, hcz35_1, hcz35_2, hcz35_3, hcz35_4, hcz35_5, hcz35_6, hfz35_0, hfz35_1, hfz35_2, hfz35_3, hfz35_4, hfz35_5, hfz35_6⟩ := blk_all7 BK430.out
            obtain ⟨hcz36_0, hcz36_1, hcz36_2, hcz36_3, hcz36_4, hcz36_5, hcz36_6, hfz36_0, hfz36_1, hfz36_2, hfz36_3, hfz36_4, hfz36_5, hfz36_6⟩ := blk_all7 BK420.out
            try go_wp2
            go_roundg kj15
            case measure => have := HJ3.out; have := HK2.out; have := HJ15.out; omega
            case rel => exact ⟨(wrap64 (x8_2 + 1)), (t422), (t423), (t424), (t425), (t426), (t427), (t428), (by first | rfl | (simp; done) | (simp [*]; done)), H', ⟨by have := HJ3.out; have := HK2.out; have := HJ15.out; omega⟩, ⟨by (with_reducible repeat (first | apply bd1 | apply bd2 | apply bd3)); refine blk_put (cs := #[.int .i64 t422, .int .i64 t423, .int .i64 t424, .bool t425, .int .i64 t426, .bool t427, .int .i64 x421006_2]) ?_ 6 _ rfl; (with_reducible repeat (first | apply bd1 | apply bd2 | apply bd3)); refine blk_put (cs := #[.int .i64 t422, .int .i64 t423, .int .i64 t424, .bool t425, .int .i64 t426, .bool x421005_2, .int .i64 x421006_2]) ?_ 5 _ rfl; (with_reducible repeat (first | apply bd1 | apply bd2 | apply bd3)); refine blk_put (cs := #[.int .i64 t422, .int .i64 t423, .int .i64 t424, .bool t425, .int .i64 x421004_2, .bool x421005_2, .int .i64 x421006_2]) ?_ 4 _ rfl; (with_reducible repeat (first | apply bd1 | apply bd2 | apply bd3)); refine blk_put (cs := #[.int .i64 t422, .int .i64 t423, .int .i64 t424, .bool x421003_2, .int .i64 x421004_2, .bool x421005_2, .int .i64 x421006_2]) ?_ 3 _ rfl; (with_reducible repeat (first | apply bd1 | apply bd2 | apply bd3)); refine blk_put (cs := #[.int .i64 t422, .int .i64 t423, .int .i64 x421002_2, .bool x421003_2, .int .i64 x421004_2, .bool x421005_2, .int .i64 x421006_2]) ?_ 2 _ rfl; (with_reducible repeat (first | apply bd1 | apply bd2 | apply bd3)); refine blk_put (cs := #[.int .i64 t422, .int .i64 x421001_2, .int .i64 x421002_2, .bool x421003_2, .int .i64 x421004_2, .bool x421005_2, .int .i64 x421006_2]) ?_ 1 _ rfl; (with_reducible repeat (first | apply bd1 | apply bd2 | apply bd3)); refine blk_put (cs := #[.int .i64 x421000_2, .int .i64 x421001_2, .int .i64 x421002_2, .bool x421003_2, .int .i64 x421004_2, .bool x421005_2, .int .i64 x421006_2]) ?_ 0 _ rfl; (with_reducible repeat (first | apply bd1 | apply bd2 | apply bd3)); refine blk_far ?_ NB420_430.out _; (with_reducible repeat (first | apply bd1 | apply bd2 | apply bd3)); refine blk_far ?_ NB420_430.out _; (with_reducible repeat (first | apply bd1 | apply bd2 | apply bd3)); refine blk_far ?_ NB420_430.out _; (with_reducible repeat (first | apply bd1 | apply bd2 | apply bd3)); refine blk_far ?_ NB420_430.out _; (with_reducible repeat (first | apply bd1 | apply bd2 | apply bd3)); refine blk_far ?_ NB420_430.out _; (with_reducible repeat (first | apply bd1 | apply bd2 | apply bd3)); refine blk_far ?_ NB420_430.out _; (with_reducible repeat (first | apply bd1 | apply bd2 | apply bd3)); refine blk_far ?_ NB420_430.out _; (with_reducible repeat (first | apply bd1 | apply bd2 | apply bd3)); exact BK420.out⟩, ⟨by repeat (first | (with_reducible first | exact HB.out | apply below_alloc | apply pw_below_drewN | apply below_drew1 | refine below_set ?_ GE420.out | refine below_set ?_ GE430.out) | exact HB.out)⟩⟩
           ·
            replace c22 := Bool.eq_false_iff.mpr c22
            subst c22
            have H1 : (none) = some r := by rw [if_neg (show ¬ (false = true) by decide)] at H; exact H
            clear H
            have H := H1
            clear H1
            exact absurd H (by simp)
          ·
           rw [if_neg c20] at H
           exact absurd H (by simp)
         ·
          rw [if_neg c19] at H
          exact absurd H (by simp)
        ·
         replace c18 := Bool.eq_false_iff.mpr c18
         subst c18
         have H1 : (if x421000_2 = 3 then (drayagelaw14_SagaTicks.j3 kj15 l0 a2 true x421000_2 x421001_2 x421002_2 x421003_2 x421004_2 x421005_2 x421006_2) else (drayagelaw14_SagaTicks.j3 kj15 l0 a2 x421003_2 x421000_2 x421001_2 x421002_2 x421003_2 x421004_2 x421005_2 x421006_2)) = some r := by rw [if_neg (show ¬ (false = true) by decide)] at H; exact H
         clear H
         have H := H1
         clear H1
         have HC37 := Aside0.mk H
         clear H
         go_upto_region 11 with (fail)
         go_cut [61] (fun v61 wc => ∃ (kq : Nat) (x61_36 : Bool), v61 = .bool x61_36 ∧ Aside0 (drayagelaw14_SagaTicks.j3 kq l0 a2 x61_36 x421000_2 x421001_2 x421002_2 x421003_2 x421004_2 x421005_2 x421006_2 = some r) ∧ Aside0 (kq ≤ kj15) ∧ Aside0 (wc.heap[gb420]? = some (.cells #[.int .i64 x421000_2, .int .i64 x421001_2, .int .i64 x421002_2, .bool x421003_2, .int .i64 x421004_2, .bool x421005_2, .int .i64 x421006_2] 28 (0, 0))) ∧ Aside0 (Below w.heap.size w wc))
         case first =>
          have H := HC37.out
          clear HC37
          by_cases c38 : x421000_2 = 3
          ·
           rw [if_pos c38] at H
           have c38b0 : (x421000_2 == 3) = true := beq_iff_eq.mpr c38
           have c38b1 : (x421000_2 != 3) = false := bne_eq_false_iff_eq.mpr c38
           clear c38
           (first | rw [c38b0] | (simp only [i64_w, i32_w]; rw [c38b0]) | skip)
           have H' := Aside0.mk H
           clear H
           obtain ⟨hcz39_0, hcz39_1, hcz39_2, hcz39_3, hcz39_4, hcz39_5, hcz39_6, hfz39_0, hfz39_1, hfz39_2, hfz39_3, hfz39_4, hfz39_5, hfz39_6⟩ := blk_all7 BK420.out
           go_wp2
           go_meet
           case rel => exact ⟨_, (true), (by first | rfl | (simp; done) | (simp [*]; done)), H', ⟨by have := HJ3.out; have := HK2.out; have := HJ15.out; first | omega | exact Nat.le_refl _⟩, ⟨by (with_reducible repeat (first | apply bd1 | apply bd2 | apply bd3)); exact BK420.out⟩, ⟨by repeat (first | (with_reducible first | exact HB.out | apply below_alloc | apply pw_below_drewN | apply below_drew1 | refine below_set ?_ GE420.out) | exact HB.out)⟩⟩
          ·
           rw [if_neg c38] at H
           have c38b0 : (x421000_2 == 3) = false := beq_eq_false_iff_ne.mpr c38
           have c38b1 : (x421000_2 != 3) = true := bne_iff_ne.mpr c38
           (first | rw [c38b0] | (simp only [i64_w, i32_w]; rw [c38b0]) | skip)
           have H' := Aside0.mk H
           clear H
           obtain ⟨hcz40_0, hcz40_1, hcz40_2, hcz40_3, hcz40_4, hcz40_5, hcz40_6, hfz40_0, hfz40_1, hfz40_2, hfz40_3, hfz40_4, hfz40_5, hfz40_6⟩ := blk_all7 BK420.out
           go_wp2
           go_meet
           case rel => exact ⟨_, (x421003_2), (by first | rfl | (simp; done) | (simp [*]; done)), H', ⟨by have := HJ3.out; have := HK2.out; have := HJ15.out; first | omega | exact Nat.le_refl _⟩, ⟨by (with_reducible repeat (first | apply bd1 | apply bd2 | apply bd3)); exact BK420.out⟩, ⟨by repeat (first | (with_reducible first | exact HB.out | apply below_alloc | apply pw_below_drewN | apply below_drew1 | refine below_set ?_ GE420.out) | exact HB.out)⟩⟩
         case rest =>
          clear HC37
          try clear c1
          try clear c2
          try clear p2
          try clear c3
          try clear p4
          try clear q4
          try clear hx4
          try clear c6
          try clear p6
          try clear c8
          try clear c9
          try clear c10
          try clear c12
          try clear c13
          try clear c17
          try clear c17b0
          try clear c18
          try clear c19
          try clear c19b0
          try clear c20
          try clear c20b0
          try clear c22
          try clear c26
          try clear c34
          try clear c38
          try clear c38b0
          try clear c38b1
          try clear hcz15_0
          try clear hcz15_1
          try clear hcz15_2
          try clear hcz15_3
          try clear hcz15_4
          try clear hcz15_5
          try clear hcz15_6
          try clear hcz35_0
          try clear hcz35_1
          try clear hcz35_2
          try clear hcz35_3
          try clear hcz35_4
          try clear hcz35_5
          try clear hcz35_6
          try clear hcz36_0
          try clear hcz36_1
          try clear hcz36_2
          try clear hcz36_3
          try clear hcz36_4
          try clear hcz36_5
          try clear hcz36_6
          try clear hcz39_0
          try clear hcz39_1
          try clear hcz39_2
          try clear hcz39_3
          try clear hcz39_4
          try clear hcz39_5
          try clear hcz39_6
          try clear hcz40_0
          try clear hcz40_1
          try clear hcz40_2
          try clear hcz40_3
          try clear hcz40_4
          try clear hcz40_5
          try clear hcz40_6
          try clear hfz15_0
          try clear hfz15_1
          try clear hfz15_2
          try clear hfz15_3
          try clear hfz15_4
          try clear hfz15_5
          try clear hfz15_6
          try clear hfz35_0
          try clear hfz35_1
          try clear hfz35_2
          try clear hfz35_3
          try clear hfz35_4
          try clear hfz35_5
          try clear hfz35_6
          try clear hfz36_0
          try clear hfz36_1
          try clear hfz36_2
          try clear hfz36_3
          try clear hfz36_4
          try clear hfz36_5
          try clear hfz36_6
          try clear hfz39_0
          try clear hfz39_1
          try clear hfz39_2
          try clear hfz39_3
          try clear hfz39_4
          try clear hfz39_5
          try clear hfz39_6
          try clear hfz40_0
          try clear hfz40_1
          try clear hfz40_2
          try clear hfz40_3
          try clear hfz40_4
          try clear hfz40_5
          try clear hfz40_6
          try clear hx421_0
          try clear hx421_1
          try clear hx421_2
          try clear p2
          try clear p421
          try clear q421
          obtain ⟨kq, x61_36, rfl, HA, HJ36, BK420, HB⟩ := hcut
          cases kq with
          | zero => exact absurd HA.out (by simp [drayagelaw14_SagaTicks.j3])
          | succ kj36 =>
           have H := HA.out
           clear HA
           simp only [drayagelaw14_SagaTicks.j3] at H
           by_cases c41 : x61_36 = true
           ·
            subst c41
            have H1 : ((drayagelaw14_known.f kj36).bind fun t431 => (some t431)) = some r := by rw [if_pos rfl] at H; exact H
            clear H
            have H := H1
            clear H1
            replace H := Option.bind_eq_some_iff.mp H
            obtain ⟨t431, A420, H⟩ := H
            replace H : (some t431) = some r := H
            have A42 := Aside0.mk A420
            clear A420
            obtain rfl := Option.some.inj H
            go_wp2_with (first | ((with_reducible refine gate_callee (f := 12) rfl ?_); refine goesL_ (some 62) rfl rfl Try.func12 (by kernel_rfl) rfl #[] rfl (by (try simp only [List.map_toArray, List.map_cons, List.map_nil]); first | done | rfl | (simp only [List.length_drop, List.length_take]; rfl)) ?_; (with_reducible refine (drayagelaw14_known.calls kj36  t431 _ A42.out).mono ?_); rintro e w43 ⟨rfl, hb⟩; refine ⟨_, rfl, ?_⟩; have n0_ := Aside0.mk (blk_below (g := gb420) (o := .cells #[.int .i64 x421000_2, .int .i64 x421001_2, .int .i64 x421002_2, .bool x421003_2, .int .i64 x421004_2, .bool x421005_2, .int .i64 x421006_2] 28 (0, 0)) (by (with_reducible repeat (first | apply bd1 | apply bd2 | apply bd3)); exact BK420.out) hb); have n1_ := Aside0.mk (below_step (by repeat (first | (with_reducible first | exact HB.out | apply below_alloc | apply pw_below_drewN | apply below_drew1 | refine below_set ?_ GE420.out) | exact HB.out)) hb); clear BK420; clear HB; have BK420 := n0_; have HB := n1_; clear n0_ n1_; (try clear hb); (try clear hb2); (try clear hk); (try clear hi)))
            go_ret
            exact ⟨by first | rfl | (simp [errW_none, errW_some] <;> rfl) | (simp [*, errW_none, errW_some] <;> rfl), by repeat (first | (with_reducible first | exact HB.out | apply below_alloc | apply pw_below_drewN | apply below_drew1 | refine below_set ?_ GE420.out) | exact HB.out)⟩
           ·
            replace c41 := Bool.eq_false_iff.mpr c41
            subst c41
            have H1 : ((saga_Ask.f kj36 l0 x421000_2 x421001_2 x421002_2 x421003_2 x421004_2 x421005_2 x421006_2).bind fun bt432 => (if bt432.2.2.2.2.2.2.2 = 0 then (if 0 ≤ x421001_2 then (if x421001_2 < (l0.length : Int) then (if ((rd_T38 l0 x421001_2).f2) > 300 then ((drayagelaw14_known.f kj36).bind fun t442 => (some t442)) else ((saga_Tell.f kj36 l0 bt432.1 bt432.2.1 bt432.2.2.1 bt432.2.2.2.1 bt432.2.2.2.2.1 bt432.2.2.2.2.2.1 bt432.2.2.2.2.2.2.1 bt432.2.1 (bt432.1 == 2) 3).bind fun bt443 => ((saga_Tell.f kj36 l0 bt432.1 bt432.2.1 bt432.2.2.1 bt432.2.2.2.1 bt432.2.2.2.2.1 bt432.2.2.2.2.2.1 bt432.2.2.2.2.2.2.1 bt432.2.1 (bt432.1 != 2) 1).bind fun bt452 => ((saga_Tell.f kj36 l0 bt432.1 bt432.2.1 bt432.2.2.1 bt432.2.2.2.1 bt432.2.2.2.2.1 bt432.2.2.2.2.2.1 bt432.2.2.2.2.2.2.1 (wrap64 ((wrap64 (bt432.2.1 + 1)) + (wrap64 (Int.tmod (IntKind.u64.wrap (a2)) 15)))) (bt432.1 == 2) 2).bind fun bt461 => (if bt452.2.2.2.2.2.2.2 = 0 then (if (!(bt452.1 == bt432.1) || (!(bt452.2.1 == bt432.2.1) || (!(bt452.2.2.1 == bt432.2.2.1) || (!(bt452.2.2.2.1 == bt432.2.2.2.1) || (!(bt452.2.2.2.2.1 == bt432.2.2.2.2.1) || (!(bt452.2.2.2.2.2.1 == bt432.2.2.2.2.2.1) || (!(bt452.2.2.2.2.2.2.1 == bt432.2.2.2.2.2.2.1)))))))) = true then (drayagelaw14_SagaTicks.j4 kj36 l0 ((rd_T38 l0 x421001_2).f2) true bt432.1 bt432.2.1 bt432.2.2.1 bt432.2.2.2.1 bt432.2.2.2.2.1 bt432.2.2.2.2.2.1 bt432.2.2.2.2.2.2.1 bt443.1 bt443.2.1 bt443.2.2.1 bt443.2.2.2.1 bt443.2.2.2.2.1 bt443.2.2.2.2.2.1 bt443.2.2.2.2.2.2.1) else (if bt461.2.2.2.2.2.2.2 = 0 then (drayagelaw14_SagaTicks.j4 kj36 l0 ((rd_T38 l0 x421001_2).f2) (!(bt461.1 == bt432.1) || (!(bt461.2.1 == bt432.2.1) || (!(bt461.2.2.1 == bt432.2.2.1) || (!(bt461.2.2.2.1 == bt432.2.2.2.1) || (!(bt461.2.2.2.2.1 == bt432.2.2.2.2.1) || (!(bt461.2.2.2.2.2.1 == bt432.2.2.2.2.2.1) || (!(bt461.2.2.2.2.2.2.1 == bt432.2.2.2.2.2.2.1)))))))) bt432.1 bt432.2.1 bt432.2.2.1 bt432.2.2.2.1 bt432.2.2.2.2.1 bt432.2.2.2.2.2.1 bt432.2.2.2.2.2.2.1 bt443.1 bt443.2.1 bt443.2.2.1 bt443.2.2.2.1 bt443.2.2.2.2.1 bt443.2.2.2.2.2.1 bt443.2.2.2.2.2.2.1) else (drayagelaw14_SagaTicks.j4 kj36 l0 ((rd_T38 l0 x421001_2).f2) true bt432.1 bt432.2.1 bt432.2.2.1 bt432.2.2.2.1 bt432.2.2.2.2.1 bt432.2.2.2.2.2.1 bt432.2.2.2.2.2.2.1 bt443.1 bt443.2.1 bt443.2.2.1 bt443.2.2.2.1 bt443.2.2.2.2.1 bt443.2.2.2.2.2.1 bt443.2.2.2.2.2.2.1))) else (drayagelaw14_SagaTicks.j4 kj36 l0 ((rd_T38 l0 x421001_2).f2) true bt432.1 bt432.2.1 bt432.2.2.1 bt432.2.2.2.1 bt432.2.2.2.2.1 bt432.2.2.2.2.2.1 bt432.2.2.2.2.2.2.1 bt443.1 bt443.2.1 bt443.2.2.1 bt443.2.2.2.1 bt443.2.2.2.2.1 bt443.2.2.2.2.2.1 bt443.2.2.2.2.2.2.1)))))) else (none)) else (none)) else (none))) = some r := by rw [if_neg (show ¬ (false = true) by decide)] at H; exact H
            clear H
            have H := H1
            clear H1
            replace H := Option.bind_eq_some_iff.mp H
            obtain ⟨⟨t432, t433, t434, t435, t436, t437, t438, t439⟩, A440, H⟩ := H
            replace H : (if t439 = 0 then (if 0 ≤ x421001_2 then (if x421001_2 < (l0.length : Int) then (if ((rd_T38 l0 x421001_2).f2) > 300 then ((drayagelaw14_known.f kj36).bind fun t442 => (some t442)) else ((saga_Tell.f kj36 l0 t432 t433 t434 t435 t436 t437 t438 t433 (t432 == 2) 3).bind fun bt443 => ((saga_Tell.f kj36 l0 t432 t433 t434 t435 t436 t437 t438 t433 (t432 != 2) 1).bind fun bt452 => ((saga_Tell.f kj36 l0 t432 t433 t434 t435 t436 t437 t438 (wrap64 ((wrap64 (t433 + 1)) + (wrap64 (Int.tmod (IntKind.u64.wrap (a2)) 15)))) (t432 == 2) 2).bind fun bt461 => (if bt452.2.2.2.2.2.2.2 = 0 then (if (!(bt452.1 == t432) || (!(bt452.2.1 == t433) || (!(bt452.2.2.1 == t434) || (!(bt452.2.2.2.1 == t435) || (!(bt452.2.2.2.2.1 == t436) || (!(bt452.2.2.2.2.2.1 == t437) || (!(bt452.2.2.2.2.2.2.1 == t438)))))))) = true then (drayagelaw14_SagaTicks.j4 kj36 l0 ((rd_T38 l0 x421001_2).f2) true t432 t433 t434 t435 t436 t437 t438 bt443.1 bt443.2.1 bt443.2.2.1 bt443.2.2.2.1 bt443.2.2.2.2.1 bt443.2.2.2.2.2.1 bt443.2.2.2.2.2.2.1) else (if bt461.2.2.2.2.2.2.2 = 0 then (drayagelaw14_SagaTicks.j4 kj36 l0 ((rd_T38 l0 x421001_2).f2) (!(bt461.1 == t432) || (!(bt461.2.1 == t433) || (!(bt461.2.2.1 == t434) || (!(bt461.2.2.2.1 == t435) || (!(bt461.2.2.2.2.1 == t436) || (!(bt461.2.2.2.2.2.1 == t437) || (!(bt461.2.2.2.2.2.2.1 == t438)))))))) t432 t433 t434 t435 t436 t437 t438 bt443.1 bt443.2.1 bt443.2.2.1 bt443.2.2.2.1 bt443.2.2.2.2.1 bt443.2.2.2.2.2.1 bt443.2.2.2.2.2.2.1) else (drayagelaw14_SagaTicks.j4 kj36 l0 ((rd_T38 l0 x421001_2).f2) true t432 t433 t434 t435 t436 t437 t438 bt443.1 bt443.2.1 bt443.2.2.1 bt443.2.2.2.1 bt443.2.2.2.2.1 bt443.2.2.2.2.2.1 bt443.2.2.2.2.2.2.1))) else (drayagelaw14_SagaTicks.j4 kj36 l0 ((rd_T38 l0 x421001_2).f2) true t432 t433 t434 t435 t436 t437 t438 bt443.1 bt443.2.1 bt443.2.2.1 bt443.2.2.2.1 bt443.2.2.2.2.1 bt443.2.2.2.2.2.1 bt443.2.2.2.2.2.2.1)))))) else (none)) else (none)) else (none)) = some r := H
            have A44 := Aside0.mk A440
            clear A440
            by_cases c45 : t439 = 0
            ·
             rw [if_pos c45] at H
             have c45b0 : (t439 == 0) = true := beq_iff_eq.mpr c45
             have c45b1 : (t439 != 0) = false := bne_eq_false_iff_eq.mpr c45
             clear c45
             by_cases c46 : 0 ≤ x421001_2
             ·
              rw [if_pos c46] at H
              have c46b0 : decide (0 ≤ x421001_2) = true := decide_eq_true c46
              clear c46
              by_cases c47 : x421001_2 < (l0.length : Int)
              ·
               rw [if_pos c47] at H
               have c47b0 : decide (x421001_2 < (l0.length : Int)) = true := decide_eq_true c47
               clear c47
               by_cases c48 : ((rd_T38 l0 x421001_2).f2) > 300
               ·
                rw [if_pos c48] at H
                have c48b0 : decide (300 < ((rd_T38 l0 x421001_2).f2)) = true := decide_eq_true c48
                clear c48
                replace H := Option.bind_eq_some_iff.mp H
                obtain ⟨t442, A490, H⟩ := H
                replace H : (some t442) = some r := H
                have A49 := Aside0.mk A490
                clear A490
                obtain rfl := Option.some.inj H
                obtain ⟨hcz50_0, hcz50_1, hcz50_2, hcz50_3, hcz50_4, hcz50_5, hcz50_6, hfz50_0, hfz50_1, hfz50_2, hfz50_3, hfz50_4, hfz50_5, hfz50_6⟩ := blk_all7 BK420.out
                go_wp2_with (first | ((with_reducible refine gate_callee (f := 14) rfl ?_); refine goesL_ (some 66) rfl rfl Try.func14 (by kernel_rfl) rfl #[.slice A0 l0.length c0, .agg #[.int .i64 x421000_2, .int .i64 x421001_2, .int .i64 x421002_2, .bool x421003_2, .int .i64 x421004_2, .bool x421005_2, .int .i64 x421006_2]] rfl (by (try simp only [List.map_toArray, List.map_cons, List.map_nil]); first | done | rfl | (simp only [List.length_drop, List.length_take]; rfl)) ?_; (with_reducible refine (saga_Ask.calls kj36 _ _ l0 x421000_2 x421001_2 x421002_2 x421003_2 x421004_2 x421005_2 x421006_2 t432 t433 t434 t435 t436 t437 t438 t439 _ ?side1 ?side2 A44.out).mono ?_); (case side1 => repeat (first | exact (Kd.C_below HR0.out HB.out) | (with_reducible refine Kd.C_alloc ?_ _) | (with_reducible refine Kd.C_drewN ?_ _) | (with_reducible refine Kd.C_drew ?_))); (case side2 => exact HC0.out); rintro e w51 ⟨rfl, hb⟩; refine ⟨_, rfl, ?_⟩; have n0_ := Aside0.mk (blk_below (g := gb420) (o := .cells #[.int .i64 x421000_2, .int .i64 x421001_2, .int .i64 x421002_2, .bool x421003_2, .int .i64 x421004_2, .bool x421005_2, .int .i64 x421006_2] 28 (0, 0)) (by (with_reducible repeat (first | apply bd1 | apply bd2 | apply bd3)); exact BK420.out) hb); have n1_ := Aside0.mk (below_step (by repeat (first | (with_reducible first | exact HB.out | apply below_alloc | apply pw_below_drewN | apply below_drew1 | refine below_set ?_ GE420.out) | exact HB.out)) hb); clear BK420; clear HB; have BK420 := n0_; have HB := n1_; clear n0_ n1_; (try clear hb); (try clear hb2); (try clear hk); (try clear hi)) | ((with_reducible refine gate_dst (N := 11) rfl ?_); refine box_event ?hg (N := 11) ?hd (cs := #[.int .i64 0, .int .i64 0, .int .i64 0, .bool false, .int .i64 0, .bool false, .int .i64 0]) (t := 28) ?hr ?_; (case hd => rfl); (case hg => rfl); (case hr => first | (go_simp; done) | (go_simp; rfl)); intro gb440 hg w52 hbox hb; have n0_ := Aside0.mk (blk_below (g := gb420) (o := .cells #[.int .i64 x421000_2, .int .i64 x421001_2, .int .i64 x421002_2, .bool x421003_2, .int .i64 x421004_2, .bool x421005_2, .int .i64 x421006_2] 28 (0, 0)) (by (with_reducible repeat (first | apply bd1 | apply bd2 | apply bd3)); exact BK420.out) hb); have n1_ := Aside0.mk (below_step (by repeat (first | (with_reducible first | exact HB.out | apply below_alloc | apply pw_below_drewN | apply below_drew1 | refine below_set ?_ GE420.out) | exact HB.out)) hb); have n2_ := Aside0.mk (hbox); have n3_ := Aside0.mk ((by rw [hg]; exact (below_size (by repeat (first | (with_reducible first | exact HB.out | apply below_alloc | apply pw_below_drewN | apply below_drew1 | refine below_set ?_ GE420.out) | exact HB.out))) : w.heap.size ≤ gb440)); have n4_ := Aside0.mk ((by rw [hg]; exact (below_size (by repeat (first | (with_reducible first | exact HB.out | apply below_alloc | apply pw_below_drewN | apply below_drew1 | refine below_set ?_ GE420.out) | exact HB.out))) : w.heap.size ≤ gb440)); have n5_ := Aside0.mk ((by rw [hg]; exact Nat.ne_of_lt (blk_lt (g := gb420) (o := .cells #[.int .i64 x421000_2, .int .i64 x421001_2, .int .i64 x421002_2, .bool x421003_2, .int .i64 x421004_2, .bool x421005_2, .int .i64 x421006_2] 28 (0, 0)) (by (with_reducible repeat (first | apply bd1 | apply bd2 | apply bd3)); exact BK420.out)) : gb420 ≠ gb440)); have n6_ := Aside0.mk ((by rw [hg]; exact Nat.ne_of_gt (blk_lt (g := gb420) (o := .cells #[.int .i64 x421000_2, .int .i64 x421001_2, .int .i64 x421002_2, .bool x421003_2, .int .i64 x421004_2, .bool x421005_2, .int .i64 x421006_2] 28 (0, 0)) (by (with_reducible repeat (first | apply bd1 | apply bd2 | apply bd3)); exact BK420.out)) : gb440 ≠ gb420)); clear BK420; clear HB; have BK420 := n0_; have HB := n1_; have BK440 := n2_; have GW440 := n3_; have GE440 := n4_; have NB420_440 := n5_; have NB440_420 := n6_; clear n0_ n1_ n2_ n3_ n4_ n5_ n6_; clear hb hbox hg; have hnb53 := NB440_420.out; have hnc53 := NB420_440.out; obtain ⟨hcz54_0, hcz54_1, hcz54_2, hcz54_3, hcz54_4, hcz54_5, hcz54_6, hfz54_0, hfz54_1, hfz54_2, hfz54_3, hfz54_4, hfz54_5, hfz54_6⟩ := blk_all7 BK440.out; obtain ⟨hcz55_0, hcz55_1, hcz55_2, hcz55_3, hcz55_4, hcz55_5, hcz55_6, hfz55_0, hfz55_1, hfz55_2, hfz55_3, hfz55_4, hfz55_5, hfz55_6⟩ := blk_all7 BK420.out; have p441 : 0 ≤ (x421001_2 : Int) := of_decide_eq_true (by first | (with_reducible assumption) | assumption); have q441 : x421001_2 < (l0.length : Int) := of_decide_eq_true (by first | (with_reducible assumption) | assumption); obtain ⟨ad441, A441_2, c441_2, e441, hx441_0, hx441_1, hx441_2, hx441_3, hx441_4, hx441_5, hl441_2, hi441_2⟩ := at_T38 HR0.out x421001_2 p441 q441; cases e441; have hn441_0 : ad441.block ≠ gb440 := Nat.ne_of_lt (Nat.lt_of_lt_of_le (by have := World.block_lt_of_cell? _ _ hx441_0; first | rwa [add_block] at this | exact this) GW440.out); have hn441_1 : ad441.block ≠ gb440 := Nat.ne_of_lt (Nat.lt_of_lt_of_le (by have := World.block_lt_of_cell? _ _ hx441_0; first | rwa [add_block] at this | exact this) GW440.out); have hn441_2 : ad441.block ≠ gb440 := Nat.ne_of_lt (Nat.lt_of_lt_of_le (by have := World.block_lt_of_cell? _ _ hx441_0; first | rwa [add_block] at this | exact this) GW440.out); have hn441_3 : ad441.block ≠ gb440 := Nat.ne_of_lt (Nat.lt_of_lt_of_le (by have := World.block_lt_of_cell? _ _ hx441_0; first | rwa [add_block] at this | exact this) GW440.out); have hn441_4 : ad441.block ≠ gb440 := Nat.ne_of_lt (Nat.lt_of_lt_of_le (by have := World.block_lt_of_cell? _ _ hx441_0; first | rwa [add_block] at this | exact this) GW440.out); have hn441_5 : ad441.block ≠ gb440 := Nat.ne_of_lt (Nat.lt_of_lt_of_le (by have := World.block_lt_of_cell? _ _ hx441_0; first | rwa [add_block] at this | exact this) GW440.out); have hn441_6 : ad441.block ≠ gb440 := Nat.ne_of_lt (Nat.lt_of_lt_of_le (by have := World.block_lt_of_cell? _ _ hx441_0; first | rwa [add_block] at this | exact this) GW440.out); replace hx441_0 := (HB.out.cell (World.block_lt_of_cell? w _ hx441_0)).trans hx441_0; replace hx441_1 := (HB.out.cell (World.block_lt_of_cell? w _ hx441_1)).trans hx441_1; replace hx441_2 := (HB.out.cell (World.block_lt_of_cell? w _ hx441_2)).trans hx441_2; replace hx441_3 := (HB.out.cell (World.block_lt_of_cell? w _ hx441_3)).trans hx441_3; replace hx441_4 := (HB.out.cell (World.block_lt_of_cell? w _ hx441_4)).trans hx441_4; replace hx441_5 := (HB.out.cell (World.block_lt_of_cell? w _ hx441_5)).trans hx441_5; have HR441_2 := Aside0.mk hi441_2; have HC441_2 := Aside0.mk hl441_2; clear hi441_2 hl441_2; replace hx441_0 := (cell_far (p := ⟨gb440, 0, none⟩) (by first | (rw [add_block]; exact hn441_0) | (show (Addr.add _ _).block ≠ _; rw [add_block]; exact hn441_0) | exact hn441_0) (.int .i64 t432)).trans hx441_0; replace hx441_1 := (cell_far (p := ⟨gb440, 0, none⟩) (by first | (rw [add_block]; exact hn441_0) | (show (Addr.add _ _).block ≠ _; rw [add_block]; exact hn441_0) | exact hn441_0) (.int .i64 t432)).trans hx441_1; replace hx441_2 := (cell_far (p := ⟨gb440, 0, none⟩) (by first | (rw [add_block]; exact hn441_0) | (show (Addr.add _ _).block ≠ _; rw [add_block]; exact hn441_0) | exact hn441_0) (.int .i64 t432)).trans hx441_2; replace hx441_3 := (cell_far (p := ⟨gb440, 0, none⟩) (by first | (rw [add_block]; exact hn441_0) | (show (Addr.add _ _).block ≠ _; rw [add_block]; exact hn441_0) | exact hn441_0) (.int .i64 t432)).trans hx441_3; replace hx441_4 := (cell_far (p := ⟨gb440, 0, none⟩) (by first | (rw [add_block]; exact hn441_0) | (show (Addr.add _ _).block ≠ _; rw [add_block]; exact hn441_0) | exact hn441_0) (.int .i64 t432)).trans hx441_4; replace hx441_5 := (cell_far (p := ⟨gb440, 0, none⟩) (by first | (rw [add_block]; exact hn441_0) | (show (Addr.add _ _).block ≠ _; rw [add_block]; exact hn441_0) | exact hn441_0) (.int .i64 t432)).trans hx441_5; replace hx441_0 := (cell_far (p := ⟨gb440, 1, none⟩) (by first | (rw [add_block]; exact hn441_1) | (show (Addr.add _ _).block ≠ _; rw [add_block]; exact hn441_1) | exact hn441_1) (.int .i64 t433)).trans hx441_0; replace hx441_1 := (cell_far (p := ⟨gb440, 1, none⟩) (by first | (rw [add_block]; exact hn441_1) | (show (Addr.add _ _).block ≠ _; rw [add_block]; exact hn441_1) | exact hn441_1) (.int .i64 t433)).trans hx441_1; replace hx441_2 := (cell_far (p := ⟨gb440, 1, none⟩) (by first | (rw [add_block]; exact hn441_1) | (show (Addr.add _ _).block ≠ _; rw [add_block]; exact hn441_1) | exact hn441_1) (.int .i64 t433)).trans hx441_2; replace hx441_3 := (cell_far (p := ⟨gb440, 1, none⟩) (by first | (rw [add_block]; exact hn441_1) | (show (Addr.add _ _).block ≠ _; rw [add_block]; exact hn441_1) | exact hn441_1) (.int .i64 t433)).trans hx441_3; replace hx441_4 := (cell_far (p := ⟨gb440, 1, none⟩) (by first | (rw [add_block]; exact hn441_1) | (show (Addr.add _ _).block ≠ _; rw [add_block]; exact hn441_1) | exact hn441_1) (.int .i64 t433)).trans hx441_4; replace hx441_5 := (cell_far (p := ⟨gb440, 1, none⟩) (by first | (rw [add_block]; exact hn441_1) | (show (Addr.add _ _).block ≠ _; rw [add_block]; exact hn441_1) | exact hn441_1) (.int .i64 t433)).trans hx441_5; replace hx441_0 := (cell_far (p := ⟨gb440, 2, none⟩) (by first | (rw [add_block]; exact hn441_2) | (show (Addr.add _ _).block ≠ _; rw [add_block]; exact hn441_2) | exact hn441_2) (.int .i64 t434)).trans hx441_0; replace hx441_1 := (cell_far (p := ⟨gb440, 2, none⟩) (by first | (rw [add_block]; exact hn441_2) | (show (Addr.add _ _).block ≠ _; rw [add_block]; exact hn441_2) | exact hn441_2) (.int .i64 t434)).trans hx441_1; replace hx441_2 := (cell_far (p := ⟨gb440, 2, none⟩) (by first | (rw [add_block]; exact hn441_2) | (show (Addr.add _ _).block ≠ _; rw [add_block]; exact hn441_2) | exact hn441_2) (.int .i64 t434)).trans hx441_2; replace hx441_3 := (cell_far (p := ⟨gb440, 2, none⟩) (by first | (rw [add_block]; exact hn441_2) | (show (Addr.add _ _).block ≠ _; rw [add_block]; exact hn441_2) | exact hn441_2) (.int .i64 t434)).trans hx441_3; replace hx441_4 := (cell_far (p := ⟨gb440, 2, none⟩) (by first | (rw [add_block]; exact hn441_2) | (show (Addr.add _ _).block ≠ _; rw [add_block]; exact hn441_2) | exact hn441_2) (.int .i64 t434)).trans hx441_4; replace hx441_5 := (cell_far (p := ⟨gb440, 2, none⟩) (by first | (rw [add_block]; exact hn441_2) | (show (Addr.add _ _).block ≠ _; rw [add_block]; exact hn441_2) | exact hn441_2) (.int .i64 t434)).trans hx441_5; replace hx441_0 := (cell_far (p := ⟨gb440, 3, none⟩) (by first | (rw [add_block]; exact hn441_3) | (show (Addr.add _ _).block ≠ _; rw [add_block]; exact hn441_3) | exact hn441_3) (.bool t435)).trans hx441_0; replace hx441_1 := (cell_far (p := ⟨gb440, 3, none⟩) (by first | (rw [add_block]; exact hn441_3) | (show (Addr.add _ _).block ≠ _; rw [add_block]; exact hn441_3) | exact hn441_3) (.bool t435)).trans hx441_1; replace hx441_2 := (cell_far (p := ⟨gb440, 3, none⟩) (by first | (rw [add_block]; exact hn441_3) | (show (Addr.add _ _).block ≠ _; rw [add_block]; exact hn441_3) | exact hn441_3) (.bool t435)).trans hx441_2; replace hx441_3 := (cell_far (p := ⟨gb440, 3, none⟩) (by first | (rw [add_block]; exact hn441_3) | (show (Addr.add _ _).block ≠ _; rw [add_block]; exact hn441_3) | exact hn441_3) (.bool t435)).trans hx441_3; replace hx441_4 := (cell_far (p := ⟨gb440, 3, none⟩) (by first | (rw [add_block]; exact hn441_3) | (show (Addr.add _ _).block ≠ _; rw [add_block]; exact hn441_3) | exact hn441_3) (.bool t435)).trans hx441_4; replace hx441_5 := (cell_far (p := ⟨gb440, 3, none⟩) (by first | (rw [add_block]; exact hn441_3) | (show (Addr.add _ _).block ≠ _; rw [add_block]; exact hn441_3) | exact hn441_3) (.bool t435)).trans hx441_5; replace hx441_0 := (cell_far (p := ⟨gb440, 4, none⟩) (by first | (rw [add_block]; exact hn441_4) | (show (Addr.add _ _).block ≠ _; rw [add_block]; exact hn441_4) | exact hn441_4) (.int .i64 t436)).trans hx441_0; replace hx441_1 := (cell_far (p := ⟨gb440, 4, none⟩) (by first | (rw [add_block]; exact hn441_4) | (show (Addr.add _ _).block ≠ _; rw [add_block]; exact hn441_4) | exact hn441_4) (.int .i64 t436)).trans hx441_1; replace hx441_2 := (cell_far (p := ⟨gb440, 4, none⟩) (by first | (rw [add_block]; exact hn441_4) | (show (Addr.add _ _).block ≠ _; rw [add_block]; exact hn441_4) | exact hn441_4) (.int .i64 t436)).trans hx441_2; replace hx441_3 := (cell_far (p := ⟨gb440, 4, none⟩) (by first | (rw [add_block]; exact hn441_4) | (show (Addr.add _ _).block ≠ _; rw [add_block]; exact hn441_4) | exact hn441_4) (.int .i64 t436)).trans hx441_3; replace hx441_4 := (cell_far (p := ⟨gb440, 4, none⟩) (by first | (rw [add_block]; exact hn441_4) | (show (Addr.add _ _).block ≠ _; rw [add_block]; exact hn441_4) | exact hn441_4) (.int .i64 t436)).trans hx441_4; replace hx441_5 := (cell_far (p := ⟨gb440, 4, none⟩) (by first | (rw [add_block]; exact hn441_4) | (show (Addr.add _ _).block ≠ _; rw [add_block]; exact hn441_4) | exact hn441_4) (.int .i64 t436)).trans hx441_5; replace hx441_0 := (cell_far (p := ⟨gb440, 5, none⟩) (by first | (rw [add_block]; exact hn441_5) | (show (Addr.add _ _).block ≠ _; rw [add_block]; exact hn441_5) | exact hn441_5) (.bool t437)).trans hx441_0; replace hx441_1 := (cell_far (p := ⟨gb440, 5, none⟩) (by first | (rw [add_block]; exact hn441_5) | (show (Addr.add _ _).block ≠ _; rw [add_block]; exact hn441_5) | exact hn441_5) (.bool t437)).trans hx441_1; replace hx441_2 := (cell_far (p := ⟨gb440, 5, none⟩) (by first | (rw [add_block]; exact hn441_5) | (show (Addr.add _ _).block ≠ _; rw [add_block]; exact hn441_5) | exact hn441_5) (.bool t437)).trans hx441_2; replace hx441_3 := (cell_far (p := ⟨gb440, 5, none⟩) (by first | (rw [add_block]; exact hn441_5) | (show (Addr.add _ _).block ≠ _; rw [add_block]; exact hn441_5) | exact hn441_5) (.bool t437)).trans hx441_3; replace hx441_4 := (cell_far (p := ⟨gb440, 5, none⟩) (by first | (rw [add_block]; exact hn441_5) | (show (Addr.add _ _).block ≠ _; rw [add_block]; exact hn441_5) | exact hn441_5) (.bool t437)).trans hx441_4; replace hx441_5 := (cell_far (p := ⟨gb440, 5, none⟩) (by first | (rw [add_block]; exact hn441_5) | (show (Addr.add _ _).block ≠ _; rw [add_block]; exact hn441_5) | exact hn441_5) (.bool t437)).trans hx441_5; replace hx441_0 := (cell_far (p := ⟨gb440, 6, none⟩) (by first | (rw [add_block]; exact hn441_6) | (show (Addr.add _ _).block ≠ _; rw [add_block]; exact hn441_6) | exact hn441_6) (.int .i64 t438)).trans hx441_0; replace hx441_1 := (cell_far (p := ⟨gb440, 6, none⟩) (by first | (rw [add_block]; exact hn441_6) | (show (Addr.add _ _).block ≠ _; rw [add_block]; exact hn441_6) | exact hn441_6) (.int .i64 t438)).trans hx441_1; replace hx441_2 := (cell_far (p := ⟨gb440, 6, none⟩) (by first | (rw [add_block]; exact hn441_6) | (show (Addr.add _ _).block ≠ _; rw [add_block]; exact hn441_6) | exact hn441_6) (.int .i64 t438)).trans hx441_2; replace hx441_3 := (cell_far (p := ⟨gb440, 6, none⟩) (by first | (rw [add_block]; exact hn441_6) | (show (Addr.add _ _).block ≠ _; rw [add_block]; exact hn441_6) | exact hn441_6) (.int .i64 t438)).trans hx441_3; replace hx441_4 := (cell_far (p := ⟨gb440, 6, none⟩) (by first | (rw [add_block]; exact hn441_6) | (show (Addr.add _ _).block ≠ _; rw [add_block]; exact hn441_6) | exact hn441_6) (.int .i64 t438)).trans hx441_4; replace hx441_5 := (cell_far (p := ⟨gb440, 6, none⟩) (by first | (rw [add_block]; exact hn441_6) | (show (Addr.add _ _).block ≠ _; rw [add_block]; exact hn441_6) | exact hn441_6) (.int .i64 t438)).trans hx441_5; clear hn441_0; clear hn441_1; clear hn441_2; clear hn441_3; clear hn441_4; clear hn441_5; clear hn441_6; replace p441 := eq_true p441; replace q441 := eq_true q441) | ((with_reducible refine gate_callee (f := 12) rfl ?_); refine goesL_ (some 79) rfl rfl Try.func12 (by kernel_rfl) rfl #[] rfl (by (try simp only [List.map_toArray, List.map_cons, List.map_nil]); first | done | rfl | (simp only [List.length_drop, List.length_take]; rfl)) ?_; (with_reducible refine (drayagelaw14_known.calls kj36  t442 _ A49.out).mono ?_); rintro e w56 ⟨rfl, hb⟩; refine ⟨_, rfl, ?_⟩; have n0_ := Aside0.mk (blk_below (g := gb420) (o := .cells #[.int .i64 x421000_2, .int .i64 x421001_2, .int .i64 x421002_2, .bool x421003_2, .int .i64 x421004_2, .bool x421005_2, .int .i64 x421006_2] 28 (0, 0)) (by (with_reducible repeat (first | apply bd1 | apply bd2 | apply bd3)); refine blk_far ?_ NB420_440.out _; (with_reducible repeat (first | apply bd1 | apply bd2 | apply bd3)); refine blk_far ?_ NB420_440.out _; (with_reducible repeat (first | apply bd1 | apply bd2 | apply bd3)); refine blk_far ?_ NB420_440.out _; (with_reducible repeat (first | apply bd1 | apply bd2 | apply bd3)); refine blk_far ?_ NB420_440.out _; (with_reducible repeat (first | apply bd1 | apply bd2 | apply bd3)); refine blk_far ?_ NB420_440.out _; (with_reducible repeat (first | apply bd1 | apply bd2 | apply bd3)); refine blk_far ?_ NB420_440.out _; (with_reducible repeat (first | apply bd1 | apply bd2 | apply bd3)); refine blk_far ?_ NB420_440.out _; (with_reducible repeat (first | apply bd1 | apply bd2 | apply bd3)); exact BK420.out) hb); have n1_ := Aside0.mk (blk_below (g := gb440) (o := .cells #[.int .i64 t432, .int .i64 t433, .int .i64 t434, .bool t435, .int .i64 t436, .bool t437, .int .i64 t438] 28 (0, 0)) (by (with_reducible repeat (first | apply bd1 | apply bd2 | apply bd3)); refine blk_put (cs := #[.int .i64 t432, .int .i64 t433, .int .i64 t434, .bool t435, .int .i64 t436, .bool t437, .int .i64 0]) ?_ 6 _ rfl; (with_reducible repeat (first | apply bd1 | apply bd2 | apply bd3)); refine blk_put (cs := #[.int .i64 t432, .int .i64 t433, .int .i64 t434, .bool t435, .int .i64 t436, .bool false, .int .i64 0]) ?_ 5 _ rfl; (with_reducible repeat (first | apply bd1 | apply bd2 | apply bd3)); refine blk_put (cs := #[.int .i64 t432, .int .i64 t433, .int .i64 t434, .bool t435, .int .i64 0, .bool false, .int .i64 0]) ?_ 4 _ rfl; (with_reducible repeat (first | apply bd1 | apply bd2 | apply bd3)); refine blk_put (cs := #[.int .i64 t432, .int .i64 t433, .int .i64 t434, .bool false, .int .i64 0, .bool false, .int .i64 0]) ?_ 3 _ rfl; (with_reducible repeat (first | apply bd1 | apply bd2 | apply bd3)); refine blk_put (cs := #[.int .i64 t432, .int .i64 t433, .int .i64 0, .bool false, .int .i64 0, .bool false, .int .i64 0]) ?_ 2 _ rfl; (with_reducible repeat (first | apply bd1 | apply bd2 | apply bd3)); refine blk_put (cs := #[.int .i64 t432, .int .i64 0, .int .i64 0, .bool false, .int .i64 0, .bool false, .int .i64 0]) ?_ 1 _ rfl; (with_reducible repeat (first | apply bd1 | apply bd2 | apply bd3)); refine blk_put (cs := #[.int .i64 0, .int .i64 0, .int .i64 0, .bool false, .int .i64 0, .bool false, .int .i64 0]) ?_ 0 _ rfl; (with_reducible repeat (first | apply bd1 | apply bd2 | apply bd3)); exact BK440.out) hb); have n2_ := Aside0.mk (below_step (by repeat (first | (with_reducible first | exact HB.out | apply below_alloc | apply pw_below_drewN | apply below_drew1 | refine below_set ?_ GE420.out | refine below_set ?_ GE440.out) | exact HB.out)) hb); clear BK420; clear BK440; clear HB; have BK420 := n0_; have BK440 := n1_; have HB := n2_; clear n0_ n1_ n2_; (try clear hb); (try clear hb2); (try clear hk); (try clear hi)))
                go_ret
                exact ⟨by first | rfl | (simp [errW_none, errW_some] <;> rfl) | (simp [*, errW_none, errW_some] <;> rfl), by repeat (first | (with_reducible first | exact HB.out | apply below_alloc | apply pw_below_drewN | apply below_drew1 | refine below_set ?_ GE420.out | refine below_set ?_ GE440.out) | exact HB.out)⟩
               ·
                rw [if_neg c48] at H
                have c48b0 : decide (300 < ((rd_T38 l0 x421001_2).f2)) = false := decide_eq_false c48
                clear c48
                replace H := Option.bind_eq_some_iff.mp H
                obtain ⟨⟨t443, t444, t445, t446, t447, t448, t449, t450⟩, A570, H⟩ := H
                replace H : ((saga_Tell.f kj36 l0 t432 t433 t434 t435 t436 t437 t438 t433 (t432 != 2) 1).bind fun bt452 => ((saga_Tell.f kj36 l0 t432 t433 t434 t435 t436 t437 t438 (wrap64 ((wrap64 (t433 + 1)) + (wrap64 (Int.tmod (IntKind.u64.wrap (a2)) 15)))) (t432 == 2) 2).bind fun bt461 => (if bt452.2.2.2.2.2.2.2 = 0 then (if (!(bt452.1 == t432) || (!(bt452.2.1 == t433) || (!(bt452.2.2.1 == t434) || (!(bt452.2.2.2.1 == t435) || (!(bt452.2.2.2.2.1 == t436) || (!(bt452.2.2.2.2.2.1 == t437) || (!(bt452.2.2.2.2.2.2.1 == t438)))))))) = true then (drayagelaw14_SagaTicks.j4 kj36 l0 ((rd_T38 l0 x421001_2).f2) true t432 t433 t434 t435 t436 t437 t438 t443 t444 t445 t446 t447 t448 t449) else (if bt461.2.2.2.2.2.2.2 = 0 then (drayagelaw14_SagaTicks.j4 kj36 l0 ((rd_T38 l0 x421001_2).f2) (!(bt461.1 == t432) || (!(bt461.2.1 == t433) || (!(bt461.2.2.1 == t434) || (!(bt461.2.2.2.1 == t435) || (!(bt461.2.2.2.2.1 == t436) || (!(bt461.2.2.2.2.2.1 == t437) || (!(bt461.2.2.2.2.2.2.1 == t438)))))))) t432 t433 t434 t435 t436 t437 t438 t443 t444 t445 t446 t447 t448 t449) else (drayagelaw14_SagaTicks.j4 kj36 l0 ((rd_T38 l0 x421001_2).f2) true t432 t433 t434 t435 t436 t437 t438 t443 t444 t445 t446 t447 t448 t449))) else (drayagelaw14_SagaTicks.j4 kj36 l0 ((rd_T38 l0 x421001_2).f2) true t432 t433 t434 t435 t436 t437 t438 t443 t444 t445 t446 t447 t448 t449)))) = some r := H
                have A57 := Aside0.mk A570
                clear A570
                replace H := Option.bind_eq_some_iff.mp H
                obtain ⟨⟨t452, t453, t454, t455, t456, t457, t458, t459⟩, A580, H⟩ := H
                replace H : ((saga_Tell.f kj36 l0 t432 t433 t434 t435 t436 t437 t438 (wrap64 ((wrap64 (t433 + 1)) + (wrap64 (Int.tmod (IntKind.u64.wrap (a2)) 15)))) (t432 == 2) 2).bind fun bt461 => (if t459 = 0 then (if (!(t452 == t432) || (!(t453 == t433) || (!(t454 == t434) || (!(t455 == t435) || (!(t456 == t436) || (!(t457 == t437) || (!(t458 == t438)))))))) = true then (drayagelaw14_SagaTicks.j4 kj36 l0 ((rd_T38 l0 x421001_2).f2) true t432 t433 t434 t435 t436 t437 t438 t443 t444 t445 t446 t447 t448 t449) else (if bt461.2.2.2.2.2.2.2 = 0 then (drayagelaw14_SagaTicks.j4 kj36 l0 ((rd_T38 l0 x421001_2).f2) (!(bt461.1 == t432) || (!(bt461.2.1 == t433) || (!(bt461.2.2.1 == t434) || (!(bt461.2.2.2.1 == t435) || (!(bt461.2.2.2.2.1 == t436) || (!(bt461.2.2.2.2.2.1 == t437) || (!(bt461.2.2.2.2.2.2.1 == t438)))))))) t432 t433 t434 t435 t436 t437 t438 t443 t444 t445 t446 t447 t448 t449) else (drayagelaw14_SagaTicks.j4 kj36 l0 ((rd_T38 l0 x421001_2).f2) true t432 t433 t434 t435 t436 t437 t438 t443 t444 t445 t446 t447 t448 t449))) else (drayagelaw14_SagaTicks.j4 kj36 l0 ((rd_T38 l0 x421001_2).f2) true t432 t433 t434 t435 t436 t437 t438 t443 t444 t445 t446 t447 t448 t449))) = some r := H
                have A58 := Aside0.mk A580
                clear A580
                replace H := Option.bind_eq_some_iff.mp H
                obtain ⟨⟨t461, t462, t463, t464, t465, t466, t467, t468⟩, A590, H⟩ := H
                replace H : (if t459 = 0 then (if (!(t452 == t432) || (!(t453 == t433) || (!(t454 == t434) || (!(t455 == t435) || (!(t456 == t436) || (!(t457 == t437) || (!(t458 == t438)))))))) = true then (drayagelaw14_SagaTicks.j4 kj36 l0 ((rd_T38 l0 x421001_2).f2) true t432 t433 t434 t435 t436 t437 t438 t443 t444 t445 t446 t447 t448 t449) else (if t468 = 0 then (drayagelaw14_SagaTicks.j4 kj36 l0 ((rd_T38 l0 x421001_2).f2) (!(t461 == t432) || (!(t462 == t433) || (!(t463 == t434) || (!(t464 == t435) || (!(t465 == t436) || (!(t466 == t437) || (!(t467 == t438)))))))) t432 t433 t434 t435 t436 t437 t438 t443 t444 t445 t446 t447 t448 t449) else (drayagelaw14_SagaTicks.j4 kj36 l0 ((rd_T38 l0 x421001_2).f2) true t432 t433 t434 t435 t436 t437 t438 t443 t444 t445 t446 t447 t448 t449))) else (drayagelaw14_SagaTicks.j4 kj36 l0 ((rd_T38 l0 x421001_2).f2) true t432 t433 t434 t435 t436 t437 t438 t443 t444 t445 t446 t447 t448 t449)) = some r := H
                have A59 := Aside0.mk A590
                clear A590
                have HC60 := Aside0.mk H
                clear H
                obtain ⟨hcz61_0, hcz61_1, hcz61_2, hcz61_3, hcz61_4, hcz61_5, hcz61_6, hfz61_0, hfz61_1, hfz61_2, hfz61_3, hfz61_4, hfz61_5, hfz61_6⟩ := blk_all7 BK420.out
                go_upto_region 23 with (first | ((with_reducible refine gate_callee (f := 14) rfl ?_); refine goesL_ (some 66) rfl rfl Try.func14 (by kernel_rfl) rfl #[.slice A0 l0.length c0, .agg #[.int .i64 x421000_2, .int .i64 x421001_2, .int .i64 x421002_2, .bool x421003_2, .int .i64 x421004_2, .bool x421005_2, .int .i64 x421006_2]] rfl (by (try simp only [List.map_toArray, List.map_cons, List.map_nil]); first | done | rfl | (simp only [List.length_drop, List.length_take]; rfl)) ?_; (with_reducible refine (saga_Ask.calls kj36 _ _ l0 x421000_2 x421001_2 x421002_2 x421003_2 x421004_2 x421005_2 x421006_2 t432 t433 t434 t435 t436 t437 t438 t439 _ ?side1 ?side2 A44.out).mono ?_); (case side1 => repeat (first | exact (Kd.C_below HR0.out HB.out) | (with_reducible refine Kd.C_alloc ?_ _) | (with_reducible refine Kd.C_drewN ?_ _) | (with_reducible refine Kd.C_drew ?_))); (case side2 => exact HC0.out); rintro e w62 ⟨rfl, hb⟩; refine ⟨_, rfl, ?_⟩; have n0_ := Aside0.mk (blk_below (g := gb420) (o := .cells #[.int .i64 x421000_2, .int .i64 x421001_2, .int .i64 x421002_2, .bool x421003_2, .int .i64 x421004_2, .bool x421005_2, .int .i64 x421006_2] 28 (0, 0)) (by (with_reducible repeat (first | apply bd1 | apply bd2 | apply bd3)); exact BK420.out) hb); have n1_ := Aside0.mk (below_step (by repeat (first | (with_reducible first | exact HB.out | apply below_alloc | apply pw_below_drewN | apply below_drew1 | refine below_set ?_ GE420.out) | exact HB.out)) hb); clear BK420; clear HB; have BK420 := n0_; have HB := n1_; clear n0_ n1_; (try clear hb); (try clear hb2); (try clear hk); (try clear hi)) | ((with_reducible refine gate_dst (N := 11) rfl ?_); refine box_event ?hg (N := 11) ?hd (cs := #[.int .i64 0, .int .i64 0, .int .i64 0, .bool false, .int .i64 0, .bool false, .int .i64 0]) (t := 28) ?hr ?_; (case hd => rfl); (case hg => rfl); (case hr => first | (go_simp; done) | (go_simp; rfl)); intro gb440 hg w63 hbox hb; have n0_ := Aside0.mk (blk_below (g := gb420) (o := .cells #[.int .i64 x421000_2, .int .i64 x421001_2, .int .i64 x421002_2, .bool x421003_2, .int .i64 x421004_2, .bool x421005_2, .int .i64 x421006_2] 28 (0, 0)) (by (with_reducible repeat (first | apply bd1 | apply bd2 | apply bd3)); exact BK420.out) hb); have n1_ := Aside0.mk (below_step (by repeat (first | (with_reducible first | exact HB.out | apply below_alloc | apply pw_below_drewN | apply below_drew1 | refine below_set ?_ GE420.out) | exact HB.out)) hb); have n2_ := Aside0.mk (hbox); have n3_ := Aside0.mk ((by rw [hg]; exact (below_size (by repeat (first | (with_reducible first | exact HB.out | apply below_alloc | apply pw_below_drewN | apply below_drew1 | refine below_set ?_ GE420.out) | exact HB.out))) : w.heap.size ≤ gb440)); have n4_ := Aside0.mk ((by rw [hg]; exact (below_size (by repeat (first | (with_reducible first | exact HB.out | apply below_alloc | apply pw_below_drewN | apply below_drew1 | refine below_set ?_ GE420.out) | exact HB.out))) : w.heap.size ≤ gb440)); have n5_ := Aside0.mk ((by rw [hg]; exact Nat.ne_of_lt (blk_lt (g := gb420) (o := .cells #[.int .i64 x421000_2, .int .i64 x421001_2, .int .i64 x421002_2, .bool x421003_2, .int .i64 x421004_2, .bool x421005_2, .int .i64 x421006_2] 28 (0, 0)) (by (with_reducible repeat (first | apply bd1 | apply bd2 | apply bd3)); exact BK420.out)) : gb420 ≠ gb440)); have n6_ := Aside0.mk ((by rw [hg]; exact Nat.ne_of_gt (blk_lt (g := gb420) (o := .cells #[.int .i64 x421000_2, .int .i64 x421001_2, .int .i64 x421002_2, .bool x421003_2, .int .i64 x421004_2, .bool x421005_2, .int .i64 x421006_2] 28 (0, 0)) (by (with_reducible repeat (first | apply bd1 | apply bd2 | apply bd3)); exact BK420.out)) : gb440 ≠ gb420)); clear BK420; clear HB; have BK420 := n0_; have HB := n1_; have BK440 := n2_; have GW440 := n3_; have GE440 := n4_; have NB420_440 := n5_; have NB440_420 := n6_; clear n0_ n1_ n2_ n3_ n4_ n5_ n6_; clear hb hbox hg; have hnb64 := NB440_420.out; have hnc64 := NB420_440.out; obtain ⟨hcz65_0, hcz65_1, hcz65_2, hcz65_3, hcz65_4, hcz65_5, hcz65_6, hfz65_0, hfz65_1, hfz65_2, hfz65_3, hfz65_4, hfz65_5, hfz65_6⟩ := blk_all7 BK440.out; obtain ⟨hcz66_0, hcz66_1, hcz66_2, hcz66_3, hcz66_4, hcz66_5, hcz66_6, hfz66_0, hfz66_1, hfz66_2, hfz66_3, hfz66_4, hfz66_5, hfz66_6⟩ := blk_all7 BK420.out; have p441 : 0 ≤ (x421001_2 : Int) := of_decide_eq_true (by first | (with_reducible assumption) | assumption); have q441 : x421001_2 < (l0.length : Int) := of_decide_eq_true (by first | (with_reducible assumption) | assumption); obtain ⟨ad441, A441_2, c441_2, e441, hx441_0, hx441_1, hx441_2, hx441_3, hx441_4, hx441_5, hl441_2, hi441_2⟩ := at_T38 HR0.out x421001_2 p441 q441; cases e441; have hn441_0 : ad441.block ≠ gb440 := Nat.ne_of_lt (Nat.lt_of_lt_of_le (by have := World.block_lt_of_cell? _ _ hx441_0; first | rwa [add_block] at this | exact this) GW440.out); have hn441_1 : ad441.block ≠ gb440 := Nat.ne_of_lt (Nat.lt_of_lt_of_le (by have := World.block_lt_of_cell? _ _ hx441_0; first | rwa [add_block] at this | exact this) GW440.out); have hn441_2 : ad441.block ≠ gb440 := Nat.ne_of_lt (Nat.lt_of_lt_of_le (by have := World.block_lt_of_cell? _ _ hx441_0; first | rwa [add_block] at this | exact this) GW440.out); have hn441_3 : ad441.block ≠ gb440 := Nat.ne_of_lt (Nat.lt_of_lt_of_le (by have := World.block_lt_of_cell? _ _ hx441_0; first | rwa [add_block] at this | exact this) GW440.out); have hn441_4 : ad441.block ≠ gb440 := Nat.ne_of_lt (Nat.lt_of_lt_of_le (by have := World.block_lt_of_cell? _ _ hx441_0; first | rwa [add_block] at this | exact this) GW440.out); have hn441_5 : ad441.block ≠ gb440 := Nat.ne_of_lt (Nat.lt_of_lt_of_le (by have := World.block_lt_of_cell? _ _ hx441_0; first | rwa [add_block] at this | exact this) GW440.out); have hn441_6 : ad441.block ≠ gb440 := Nat.ne_of_lt (Nat.lt_of_lt_of_le (by have := World.block_lt_of_cell? _ _ hx441_0; first | rwa [add_block] at this | exact this) GW440.out); replace hx441_0 := (HB.out.cell (World.block_lt_of_cell? w _ hx441_0)).trans hx441_0; replace hx441_1 := (HB.out.cell (World.block_lt_of_cell? w _ hx441_1)).trans hx441_1; replace hx441_2 := (HB.out.cell (World.block_lt_of_cell? w _ hx441_2)).trans hx441_2; replace hx441_3 := (HB.out.cell (World.block_lt_of_cell? w _ hx441_3)).trans hx441_3; replace hx441_4 := (HB.out.cell (World.block_lt_of_cell? w _ hx441_4)).trans hx441_4; replace hx441_5 := (HB.out.cell (World.block_lt_of_cell? w _ hx441_5)).trans hx441_5; have HR441_2 := Aside0.mk hi441_2; have HC441_2 := Aside0.mk hl441_2; clear hi441_2 hl441_2; replace hx441_0 := (cell_far (p := ⟨gb440, 0, none⟩) (by first | (rw [add_block]; exact hn441_0) | (show (Addr.add _ _).block ≠ _; rw [add_block]; exact hn441_0) | exact hn441_0) (.int .i64 t432)).trans hx441_0; replace hx441_1 := (cell_far (p := ⟨gb440, 0, none⟩) (by first | (rw [add_block]; exact hn441_0) | (show (Addr.add _ _).block ≠ _; rw [add_block]; exact hn441_0) | exact hn441_0) (.int .i64 t432)).trans hx441_1; replace hx441_2 := (cell_far (p := ⟨gb440, 0, none⟩) (by first | (rw [add_block]; exact hn441_0) | (show (Addr.add _ _).block ≠ _; rw [add_block]; exact hn441_0) | exact hn441_0) (.int .i64 t432)).trans hx441_2; replace hx441_3 := (cell_far (p := ⟨gb440, 0, none⟩) (by first | (rw [add_block]; exact hn441_0) | (show (Addr.add _ _).block ≠ _; rw [add_block]; exact hn441_0) | exact hn441_0) (.int .i64 t432)).trans hx441_3; replace hx441_4 := (cell_far (p := ⟨gb440, 0, none⟩) (by first | (rw [add_block]; exact hn441_0) | (show (Addr.add _ _).block ≠ _; rw [add_block]; exact hn441_0) | exact hn441_0) (.int .i64 t432)).trans hx441_4; replace hx441_5 := (cell_far (p := ⟨gb440, 0, none⟩) (by first | (rw [add_block]; exact hn441_0) | (show (Addr.add _ _).block ≠ _; rw [add_block]; exact hn441_0) | exact hn441_0) (.int .i64 t432)).trans hx441_5; replace hx441_0 := (cell_far (p := ⟨gb440, 1, none⟩) (by first | (rw [add_block]; exact hn441_1) | (show (Addr.add _ _).block ≠ _; rw [add_block]; exact hn441_1) | exact hn441_1) (.int .i64 t433)).trans hx441_0; replace hx441_1 := (cell_far (p := ⟨gb440, 1, none⟩) (by first | (rw [add_block]; exact hn441_1) | (show (Addr.add _ _).block ≠ _; rw [add_block]; exact hn441_1) | exact hn441_1) (.int .i64 t433)).trans hx441_1; replace hx441_2 := (cell_far (p := ⟨gb440, 1, none⟩) (by first | (rw [add_block]; exact hn441_1) | (show (Addr.add _ _).block ≠ _; rw [add_block]; exact hn441_1) | exact hn441_1) (.int .i64 t433)).trans hx441_2; replace hx441_3 := (cell_far (p := ⟨gb440, 1, none⟩) (by first | (rw [add_block]; exact hn441_1) | (show (Addr.add _ _).block ≠ _; rw [add_block]; exact hn441_1) | exact hn441_1) (.int .i64 t433)).trans hx441_3; replace hx441_4 := (cell_far (p := ⟨gb440, 1, none⟩) (by first | (rw [add_block]; exact hn441_1) | (show (Addr.add _ _).block ≠ _; rw [add_block]; exact hn441_1) | exact hn441_1) (.int .i64 t433)).trans hx441_4; replace hx441_5 := (cell_far (p := ⟨gb440, 1, none⟩) (by first | (rw [add_block]; exact hn441_1) | (show (Addr.add _ _).block ≠ _; rw [add_block]; exact hn441_1) | exact hn441_1) (.int .i64 t433)).trans hx441_5; replace hx441_0 := (cell_far (p := ⟨gb440, 2, none⟩) (by first | (rw [add_block]; exact hn441_2) | (show (Addr.add _ _).block ≠ _; rw [add_block]; exact hn441_2) | exact hn441_2) (.int .i64 t434)).trans hx441_0; replace hx441_1 := (cell_far (p := ⟨gb440, 2, none⟩) (by first | (rw [add_block]; exact hn441_2) | (show (Addr.add _ _).block ≠ _; rw [add_block]; exact hn441_2) | exact hn441_2) (.int .i64 t434)).trans hx441_1; replace hx441_2 := (cell_far (p := ⟨gb440, 2, none⟩) (by first | (rw [add_block]; exact hn441_2) | (show (Addr.add _ _).block ≠ _; rw [add_block]; exact hn441_2) | exact hn441_2) (.int .i64 t434)).trans hx441_2; replace hx441_3 := (cell_far (p := ⟨gb440, 2, none⟩) (by first | (rw [add_block]; exact hn441_2) | (show (Addr.add _ _).block ≠ _; rw [add_block]; exact hn441_2) | exact hn441_2) (.int .i64 t434)).trans hx441_3; replace hx441_4 := (cell_far (p := ⟨gb440, 2, none⟩) (by first | (rw [add_block]; exact hn441_2) | (show (Addr.add _ _).block ≠ _; rw [add_block]; exact hn441_2) | exact hn441_2) (.int .i64 t434)).trans hx441_4; replace hx441_5 := (cell_far (p := ⟨gb440, 2, none⟩) (by first | (rw [add_block]; exact hn441_2) | (show (Addr.add _ _).block ≠ _; rw [add_block]; exact hn441_2) | exact hn441_2) (.int .i64 t434)).trans hx441_5; replace hx441_0 := (cell_far (p := ⟨gb440, 3, none⟩) (by first | (rw [add_block]; exact hn441_3) | (show (Addr.add _ _).block ≠ _; rw [add_block]; exact hn441_3) | exact hn441_3) (.bool t435)).trans hx441_0; replace hx441_1 := (cell_far (p := ⟨gb440, 3, none⟩) (by first | (rw [add_block]; exact hn441_3) | (show (Addr.add _ _).block ≠ _; rw [add_block]; exact hn441_3) | exact hn441_3) (.bool t435)).trans hx441_1; replace hx441_2 := (cell_far (p := ⟨gb440, 3, none⟩) (by first | (rw [add_block]; exact hn441_3) | (show (Addr.add _ _).block ≠ _; rw [add_block]; exact hn441_3) | exact hn441_3) (.bool t435)).trans hx441_2; replace hx441_3 := (cell_far (p := ⟨gb440, 3, none⟩) (by first | (rw [add_block]; exact hn441_3) | (show (Addr.add _ _).block ≠ _; rw [add_block]; exact hn441_3) | exact hn441_3) (.bool t435)).trans hx441_3; replace hx441_4 := (cell_far (p := ⟨gb440, 3, none⟩) (by first | (rw [add_block]; exact hn441_3) | (show (Addr.add _ _).block ≠ _; rw [add_block]; exact hn441_3) | exact hn441_3) (.bool t435)).trans hx441_4; replace hx441_5 := (cell_far (p := ⟨gb440, 3, none⟩) (by first | (rw [add_block]; exact hn441_3) | (show (Addr.add _ _).block ≠ _; rw [add_block]; exact hn441_3) | exact hn441_3) (.bool t435)).trans hx441_5; replace hx441_0 := (cell_far (p := ⟨gb440, 4, none⟩) (by first | (rw [add_block]; exact hn441_4) | (show (Addr.add _ _).block ≠ _; rw [add_block]; exact hn441_4) | exact hn441_4) (.int .i64 t436)).trans hx441_0; replace hx441_1 := (cell_far (p := ⟨gb440, 4, none⟩) (by first | (rw [add_block]; exact hn441_4) | (show (Addr.add _ _).block ≠ _; rw [add_block]; exact hn441_4) | exact hn441_4) (.int .i64 t436)).trans hx441_1; replace hx441_2 := (cell_far (p := ⟨gb440, 4, none⟩) (by first | (rw [add_block]; exact hn441_4) | (show (Addr.add _ _).block ≠ _; rw [add_block]; exact hn441_4) | exact hn441_4) (.int .i64 t436)).trans hx441_2; replace hx441_3 := (cell_far (p := ⟨gb440, 4, none⟩) (by first | (rw [add_block]; exact hn441_4) | (show (Addr.add _ _).block ≠ _; rw [add_block]; exact hn441_4) | exact hn441_4) (.int .i64 t436)).trans hx441_3; replace hx441_4 := (cell_far (p := ⟨gb440, 4, none⟩) (by first | (rw [add_block]; exact hn441_4) | (show (Addr.add _ _).block ≠ _; rw [add_block]; exact hn441_4) | exact hn441_4) (.int .i64 t436)).trans hx441_4; replace hx441_5 := (cell_far (p := ⟨gb440, 4, none⟩) (by first | (rw [add_block]; exact hn441_4) | (show (Addr.add _ _).block ≠ _; rw [add_block]; exact hn441_4) | exact hn441_4) (.int .i64 t436)).trans hx441_5; replace hx441_0 := (cell_far (p := ⟨gb440, 5, none⟩) (by first | (rw [add_block]; exact hn441_5) | (show (Addr.add _ _).block ≠ _; rw [add_block]; exact hn441_5) | exact hn441_5) (.bool t437)).trans hx441_0; replace hx441_1 := (cell_far (p := ⟨gb440, 5, none⟩) (by first | (rw [add_block]; exact hn441_5) | (show (Addr.add _ _).block ≠ _; rw [add_block]; exact hn441_5) | exact hn441_5) (.bool t437)).trans hx441_1; replace hx441_2 := (cell_far (p := ⟨gb440, 5, none⟩) (by first | (rw [add_block]; exact hn441_5) | (show (Addr.add _ _).block ≠ _; rw [add_block]; exact hn441_5) | exact hn441_5) (.bool t437)).trans hx441_2; replace hx441_3 := (cell_far (p := ⟨gb440, 5, none⟩) (by first | (rw [add_block]; exact hn441_5) | (show (Addr.add _ _).block ≠ _; rw [add_block]; exact hn441_5) | exact hn441_5) (.bool t437)).trans hx441_3; replace hx441_4 := (cell_far (p := ⟨gb440, 5, none⟩) (by first | (rw [add_block]; exact hn441_5) | (show (Addr.add _ _).block ≠ _; rw [add_block]; exact hn441_5) | exact hn441_5) (.bool t437)).trans hx441_4; replace hx441_5 := (cell_far (p := ⟨gb440, 5, none⟩) (by first | (rw [add_block]; exact hn441_5) | (show (Addr.add _ _).block ≠ _; rw [add_block]; exact hn441_5) | exact hn441_5) (.bool t437)).trans hx441_5; replace hx441_0 := (cell_far (p := ⟨gb440, 6, none⟩) (by first | (rw [add_block]; exact hn441_6) | (show (Addr.add _ _).block ≠ _; rw [add_block]; exact hn441_6) | exact hn441_6) (.int .i64 t438)).trans hx441_0; replace hx441_1 := (cell_far (p := ⟨gb440, 6, none⟩) (by first | (rw [add_block]; exact hn441_6) | (show (Addr.add _ _).block ≠ _; rw [add_block]; exact hn441_6) | exact hn441_6) (.int .i64 t438)).trans hx441_1; replace hx441_2 := (cell_far (p := ⟨gb440, 6, none⟩) (by first | (rw [add_block]; exact hn441_6) | (show (Addr.add _ _).block ≠ _; rw [add_block]; exact hn441_6) | exact hn441_6) (.int .i64 t438)).trans hx441_2; replace hx441_3 := (cell_far (p := ⟨gb440, 6, none⟩) (by first | (rw [add_block]; exact hn441_6) | (show (Addr.add _ _).block ≠ _; rw [add_block]; exact hn441_6) | exact hn441_6) (.int .i64 t438)).trans hx441_3; replace hx441_4 := (cell_far (p := ⟨gb440, 6, none⟩) (by first | (rw [add_block]; exact hn441_6) | (show (Addr.add _ _).block ≠ _; rw [add_block]; exact hn441_6) | exact hn441_6) (.int .i64 t438)).trans hx441_4; replace hx441_5 := (cell_far (p := ⟨gb440, 6, none⟩) (by first | (rw [add_block]; exact hn441_6) | (show (Addr.add _ _).block ≠ _; rw [add_block]; exact hn441_6) | exact hn441_6) (.int .i64 t438)).trans hx441_5; clear hn441_0; clear hn441_1; clear hn441_2; clear hn441_3; clear hn441_4; clear hn441_5; clear hn441_6; replace p441 := eq_true p441; replace q441 := eq_true q441) | ((with_reducible refine gate_callee (f := 15) rfl ?_); refine goesL_ (some 88) rfl rfl Try.func15 (by kernel_rfl) rfl #[.slice (some ad441) l0.length c0, .agg #[.int .i64 t432, .int .i64 t433, .int .i64 t434, .bool t435, .int .i64 t436, .bool t437, .int .i64 t438], .int .i64 t433, .bool (t432 == 2), .int .i64 3] rfl (by (try simp only [List.map_toArray, List.map_cons, List.map_nil]); first | done | rfl | (simp only [List.length_drop, List.length_take]; rfl)) ?_; (with_reducible refine (saga_Tell.calls kj36 _ _ l0 t432 t433 t434 t435 t436 t437 t438 t433 (t432 == 2) 3 t443 t444 t445 t446 t447 t448 t449 t450 _ ?side1 ?side2 A57.out).mono ?_); (case side1 => exact Kd.C_below HR0.out (by repeat (first | (with_reducible first | exact HB.out | apply below_alloc | apply pw_below_drewN | apply below_drew1 | refine below_set ?_ GE420.out | refine below_set ?_ GE440.out) | exact HB.out))); (case side2 => exact HC0.out); rintro e w67 ⟨rfl, hb⟩; refine ⟨_, rfl, ?_⟩; have n0_ := Aside0.mk (blk_below (g := gb420) (o := .cells #[.int .i64 x421000_2, .int .i64 x421001_2, .int .i64 x421002_2, .bool x421003_2, .int .i64 x421004_2, .bool x421005_2, .int .i64 x421006_2] 28 (0, 0)) (by (with_reducible repeat (first | apply bd1 | apply bd2 | apply bd3)); refine blk_far ?_ NB420_440.out _; (with_reducible repeat (first | apply bd1 | apply bd2 | apply bd3)); refine blk_far ?_ NB420_440.out _; (with_reducible repeat (first | apply bd1 | apply bd2 | apply bd3)); refine blk_far ?_ NB420_440.out _; (with_reducible repeat (first | apply bd1 | apply bd2 | apply bd3)); refine blk_far ?_ NB420_440.out _; (with_reducible repeat (first | apply bd1 | apply bd2 | apply bd3)); refine blk_far ?_ NB420_440.out _; (with_reducible repeat (first | apply bd1 | apply bd2 | apply bd3)); refine blk_far ?_ NB420_440.out _; (with_reducible repeat (first | apply bd1 | apply bd2 | apply bd3)); refine blk_far ?_ NB420_440.out _; (with_reducible repeat (first | apply bd1 | apply bd2 | apply bd3)); exact BK420.out) hb); have n1_ := Aside0.mk (blk_below (g := gb440) (o := .cells #[.int .i64 t432, .int .i64 t433, .int .i64 t434, .bool t435, .int .i64 t436, .bool t437, .int .i64 t438] 28 (0, 0)) (by (with_reducible repeat (first | apply bd1 | apply bd2 | apply bd3)); refine blk_put (cs := #[.int .i64 t432, .int .i64 t433, .int .i64 t434, .bool t435, .int .i64 t436, .bool t437, .int .i64 0]) ?_ 6 _ rfl; (with_reducible repeat (first | apply bd1 | apply bd2 | apply bd3)); refine blk_put (cs := #[.int .i64 t432, .int .i64 t433, .int .i64 t434, .bool t435, .int .i64 t436, .bool false, .int .i64 0]) ?_ 5 _ rfl; (with_reducible repeat (first | apply bd1 | apply bd2 | apply bd3)); refine blk_put (cs := #[.int .i64 t432, .int .i64 t433, .int .i64 t434, .bool t435, .int .i64 0, .bool false, .int .i64 0]) ?_ 4 _ rfl; (with_reducible repeat (first | apply bd1 | apply bd2 | apply bd3)); refine blk_put (cs := #[.int .i64 t432, .int .i64 t433, .int .i64 t434, .bool false, .int .i64 0, .bool false, .int .i64 0]) ?_ 3 _ rfl; (with_reducible repeat (first | apply bd1 | apply bd2 | apply bd3)); refine blk_put (cs := #[.int .i64 t432, .int .i64 t433, .int .i64 0, .bool false, .int .i64 0, .bool false, .int .i64 0]) ?_ 2 _ rfl; (with_reducible repeat (first | apply bd1 | apply bd2 | apply bd3)); refine blk_put (cs := #[.int .i64 t432, .int .i64 0, .int .i64 0, .bool false, .int .i64 0, .bool false, .int .i64 0]) ?_ 1 _ rfl; (with_reducible repeat (first | apply bd1 | apply bd2 | apply bd3)); refine blk_put (cs := #[.int .i64 0, .int .i64 0, .int .i64 0, .bool false, .int .i64 0, .bool false, .int .i64 0]) ?_ 0 _ rfl; (with_reducible repeat (first | apply bd1 | apply bd2 | apply bd3)); exact BK440.out) hb); have n2_ := Aside0.mk (below_step (by repeat (first | (with_reducible first | exact HB.out | apply below_alloc | apply pw_below_drewN | apply below_drew1 | refine below_set ?_ GE420.out | refine below_set ?_ GE440.out) | exact HB.out)) hb); clear BK420; clear BK440; clear HB; have BK420 := n0_; have BK440 := n1_; have HB := n2_; clear n0_ n1_ n2_; (try clear hb); (try clear hb2); (try clear hk); (try clear hi)) | ((with_reducible refine gate_dst (N := 14) rfl ?_); refine box_event ?hg (N := 14) ?hd (cs := #[.int .i64 0, .int .i64 0, .int .i64 0, .bool false, .int .i64 0, .bool false, .int .i64 0]) (t := 28) ?hr ?_; (case hd => rfl); (case hg => rfl); (case hr => first | (go_simp; done) | (go_simp; rfl)); intro gb451 hg w68 hbox hb; have n0_ := Aside0.mk (blk_below (g := gb420) (o := .cells #[.int .i64 x421000_2, .int .i64 x421001_2, .int .i64 x421002_2, .bool x421003_2, .int .i64 x421004_2, .bool x421005_2, .int .i64 x421006_2] 28 (0, 0)) (by (with_reducible repeat (first | apply bd1 | apply bd2 | apply bd3)); exact BK420.out) hb); have n1_ := Aside0.mk (blk_below (g := gb440) (o := .cells #[.int .i64 t432, .int .i64 t433, .int .i64 t434, .bool t435, .int .i64 t436, .bool t437, .int .i64 t438] 28 (0, 0)) (by (with_reducible repeat (first | apply bd1 | apply bd2 | apply bd3)); exact BK440.out) hb); have n2_ := Aside0.mk (below_step (by repeat (first | (with_reducible first | exact HB.out | apply below_alloc | apply pw_below_drewN | apply below_drew1 | refine below_set ?_ GE420.out | refine below_set ?_ GE440.out) | exact HB.out)) hb); have n3_ := Aside0.mk (hbox); have n4_ := Aside0.mk ((by rw [hg]; exact (below_size (by repeat (first | (with_reducible first | exact HB.out | apply below_alloc | apply pw_below_drewN | apply below_drew1 | refine below_set ?_ GE420.out | refine below_set ?_ GE440.out) | exact HB.out))) : w.heap.size ≤ gb451)); have n5_ := Aside0.mk ((by rw [hg]; exact (below_size (by repeat (first | (with_reducible first | exact HB.out | apply below_alloc | apply pw_below_drewN | apply below_drew1 | refine below_set ?_ GE420.out | refine below_set ?_ GE440.out) | exact HB.out))) : w.heap.size ≤ gb451)); have n6_ := Aside0.mk ((by rw [hg]; exact Nat.ne_of_lt (blk_lt (g := gb420) (o := .cells #[.int .i64 x421000_2, .int .i64 x421001_2, .int .i64 x421002_2, .bool x421003_2, .int .i64 x421004_2, .bool x421005_2, .int .i64 x421006_2] 28 (0, 0)) (by (with_reducible repeat (first | apply bd1 | apply bd2 | apply bd3)); exact BK420.out)) : gb420 ≠ gb451)); have n7_ := Aside0.mk ((by rw [hg]; exact Nat.ne_of_gt (blk_lt (g := gb420) (o := .cells #[.int .i64 x421000_2, .int .i64 x421001_2, .int .i64 x421002_2, .bool x421003_2, .int .i64 x421004_2, .bool x421005_2, .int .i64 x421006_2] 28 (0, 0)) (by (with_reducible repeat (first | apply bd1 | apply bd2 | apply bd3)); exact BK420.out)) : gb451 ≠ gb420)); have n8_ := Aside0.mk ((by rw [hg]; exact Nat.ne_of_lt (blk_lt (g := gb440) (o := .cells #[.int .i64 t432, .int .i64 t433, .int .i64 t434, .bool t435, .int .i64 t436, .bool t437, .int .i64 t438] 28 (0, 0)) (by (with_reducible repeat (first | apply bd1 | apply bd2 | apply bd3)); exact BK440.out)) : gb440 ≠ gb451)); have n9_ := Aside0.mk ((by rw [hg]; exact Nat.ne_of_gt (blk_lt (g := gb440) (o := .cells #[.int .i64 t432, .int .i64 t433, .int .i64 t434, .bool t435, .int .i64 t436, .bool t437, .int .i64 t438] 28 (0, 0)) (by (with_reducible repeat (first | apply bd1 | apply bd2 | apply bd3)); exact BK440.out)) : gb451 ≠ gb440)); clear BK420; clear BK440; clear HB; have BK420 := n0_; have BK440 := n1_; have HB := n2_; have BK451 := n3_; have GW451 := n4_; have GE451 := n5_; have NB420_451 := n6_; have NB451_420 := n7_; have NB440_451 := n8_; have NB451_440 := n9_; clear n0_ n1_ n2_ n3_ n4_ n5_ n6_ n7_ n8_ n9_; clear hb hbox hg; have hnb69 := NB451_420.out; have hnc69 := NB420_451.out; have hnb70 := NB451_440.out; have hnc70 := NB440_451.out; obtain ⟨hcz71_0, hcz71_1, hcz71_2, hcz71_3, hcz71_4, hcz71_5, hcz71_6, hfz71_0, hfz71_1, hfz71_2, hfz71_3, hfz71_4, hfz71_5, hfz71_6⟩ := blk_all7 BK451.out; obtain ⟨hcz72_0, hcz72_1, hcz72_2, hcz72_3, hcz72_4, hcz72_5, hcz72_6, hfz72_0, hfz72_1, hfz72_2, hfz72_3, hfz72_4, hfz72_5, hfz72_6⟩ := blk_all7 BK440.out) | ((with_reducible refine gate_callee (f := 15) rfl ?_); refine goesL_ (some 99) rfl rfl Try.func15 (by kernel_rfl) rfl #[.slice (some ad441) l0.length c0, .agg #[.int .i64 t432, .int .i64 t433, .int .i64 t434, .bool t435, .int .i64 t436, .bool t437, .int .i64 t438], .int .i64 t433, .bool (t432 != 2), .int .i64 1] rfl (by (try simp only [List.map_toArray, List.map_cons, List.map_nil]); first | done | rfl | (simp only [List.length_drop, List.length_take]; rfl)) ?_; (with_reducible refine (saga_Tell.calls kj36 _ _ l0 t432 t433 t434 t435 t436 t437 t438 t433 (t432 != 2) 1 t452 t453 t454 t455 t456 t457 t458 t459 _ ?side1 ?side2 A58.out).mono ?_); (case side1 => exact Kd.C_below HR0.out (by repeat (first | (with_reducible first | exact HB.out | apply below_alloc | apply pw_below_drewN | apply below_drew1 | refine below_set ?_ GE420.out | refine below_set ?_ GE440.out | refine below_set ?_ GE451.out) | exact HB.out))); (case side2 => exact HC0.out); rintro e w73 ⟨rfl, hb⟩; refine ⟨_, rfl, ?_⟩; have n0_ := Aside0.mk (blk_below (g := gb420) (o := .cells #[.int .i64 x421000_2, .int .i64 x421001_2, .int .i64 x421002_2, .bool x421003_2, .int .i64 x421004_2, .bool x421005_2, .int .i64 x421006_2] 28 (0, 0)) (by (with_reducible repeat (first | apply bd1 | apply bd2 | apply bd3)); refine blk_far ?_ NB420_451.out _; (with_reducible repeat (first | apply bd1 | apply bd2 | apply bd3)); refine blk_far ?_ NB420_451.out _; (with_reducible repeat (first | apply bd1 | apply bd2 | apply bd3)); refine blk_far ?_ NB420_451.out _; (with_reducible repeat (first | apply bd1 | apply bd2 | apply bd3)); refine blk_far ?_ NB420_451.out _; (with_reducible repeat (first | apply bd1 | apply bd2 | apply bd3)); refine blk_far ?_ NB420_451.out _; (with_reducible repeat (first | apply bd1 | apply bd2 | apply bd3)); refine blk_far ?_ NB420_451.out _; (with_reducible repeat (first | apply bd1 | apply bd2 | apply bd3)); refine blk_far ?_ NB420_451.out _; (with_reducible repeat (first | apply bd1 | apply bd2 | apply bd3)); exact BK420.out) hb); have n1_ := Aside0.mk (blk_below (g := gb440) (o := .cells #[.int .i64 t432, .int .i64 t433, .int .i64 t434, .bool t435, .int .i64 t436, .bool t437, .int .i64 t438] 28 (0, 0)) (by (with_reducible repeat (first | apply bd1 | apply bd2 | apply bd3)); refine blk_far ?_ NB440_451.out _; (with_reducible repeat (first | apply bd1 | apply bd2 | apply bd3)); refine blk_far ?_ NB440_451.out _; (with_reducible repeat (first | apply bd1 | apply bd2 | apply bd3)); refine blk_far ?_ NB440_451.out _; (with_reducible repeat (first | apply bd1 | apply bd2 | apply bd3)); refine blk_far ?_ NB440_451.out _; (with_reducible repeat (first | apply bd1 | apply bd2 | apply bd3)); refine blk_far ?_ NB440_451.out _; (with_reducible repeat (first | apply bd1 | apply bd2 | apply bd3)); refine blk_far ?_ NB440_451.out _; (with_reducible repeat (first | apply bd1 | apply bd2 | apply bd3)); refine blk_far ?_ NB440_451.out _; (with_reducible repeat (first | apply bd1 | apply bd2 | apply bd3)); exact BK440.out) hb); have n2_ := Aside0.mk (blk_below (g := gb451) (o := .cells #[.int .i64 t443, .int .i64 t444, .int .i64 t445, .bool t446, .int .i64 t447, .bool t448, .int .i64 t449] 28 (0, 0)) (by (with_reducible repeat (first | apply bd1 | apply bd2 | apply bd3)); refine blk_put (cs := #[.int .i64 t443, .int .i64 t444, .int .i64 t445, .bool t446, .int .i64 t447, .bool t448, .int .i64 0]) ?_ 6 _ rfl; (with_reducible repeat (first | apply bd1 | apply bd2 | apply bd3)); refine blk_put (cs := #[.int .i64 t443, .int .i64 t444, .int .i64 t445, .bool t446, .int .i64 t447, .bool false, .int .i64 0]) ?_ 5 _ rfl; (with_reducible repeat (first | apply bd1 | apply bd2 | apply bd3)); refine blk_put (cs := #[.int .i64 t443, .int .i64 t444, .int .i64 t445, .bool t446, .int .i64 0, .bool false, .int .i64 0]) ?_ 4 _ rfl; (with_reducible repeat (first | apply bd1 | apply bd2 | apply bd3)); refine blk_put (cs := #[.int .i64 t443, .int .i64 t444, .int .i64 t445, .bool false, .int .i64 0, .bool false, .int .i64 0]) ?_ 3 _ rfl; (with_reducible repeat (first | apply bd1 | apply bd2 | apply bd3)); refine blk_put (cs := #[.int .i64 t443, .int .i64 t444, .int .i64 0, .bool false, .int .i64 0, .bool false, .int .i64 0]) ?_ 2 _ rfl; (with_reducible repeat (first | apply bd1 | apply bd2 | apply bd3)); refine blk_put (cs := #[.int .i64 t443, .int .i64 0, .int .i64 0, .bool false, .int .i64 0, .bool false, .int .i64 0]) ?_ 1 _ rfl; (with_reducible repeat (first | apply bd1 | apply bd2 | apply bd3)); refine blk_put (cs := #[.int .i64 0, .int .i64 0, .int .i64 0, .bool false, .int .i64 0, .bool false, .int .i64 0]) ?_ 0 _ rfl; (with_reducible repeat (first | apply bd1 | apply bd2 | apply bd3)); exact BK451.out) hb); have n3_ := Aside0.mk (below_step (by repeat (first | (with_reducible first | exact HB.out | apply below_alloc | apply pw_below_drewN | apply below_drew1 | refine below_set ?_ GE420.out | refine below_set ?_ GE440.out | refine below_set ?_ GE451.out) | exact HB.out)) hb); clear BK420; clear BK440; clear BK451; clear HB; have BK420 := n0_; have BK440 := n1_; have BK451 := n2_; have HB := n3_; clear n0_ n1_ n2_ n3_; (try clear hb); (try clear hb2); (try clear hk); (try clear hi)) | ((with_reducible refine gate_dst (N := 16) rfl ?_); refine box_event ?hg (N := 16) ?hd (cs := #[.int .i64 0, .int .i64 0, .int .i64 0, .bool false, .int .i64 0, .bool false, .int .i64 0]) (t := 28) ?hr ?_; (case hd => rfl); (case hg => rfl); (case hr => first | (go_simp; done) | (go_simp; rfl)); intro gb460 hg w74 hbox hb; have n0_ := Aside0.mk (blk_below (g := gb420) (o := .cells #[.int .i64 x421000_2, .int .i64 x421001_2, .int .i64 x421002_2, .bool x421003_2, .int .i64 x421004_2, .bool x421005_2, .int .i64 x421006_2] 28 (0, 0)) (by (with_reducible repeat (first | apply bd1 | apply bd2 | apply bd3)); exact BK420.out) hb); have n1_ := Aside0.mk (blk_below (g := gb440) (o := .cells #[.int .i64 t432, .int .i64 t433, .int .i64 t434, .bool t435, .int .i64 t436, .bool t437, .int .i64 t438] 28 (0, 0)) (by (with_reducible repeat (first | apply bd1 | apply bd2 | apply bd3)); exact BK440.out) hb); have n2_ := Aside0.mk (blk_below (g := gb451) (o := .cells #[.int .i64 t443, .int .i64 t444, .int .i64 t445, .bool t446, .int .i64 t447, .bool t448, .int .i64 t449] 28 (0, 0)) (by (with_reducible repeat (first | apply bd1 | apply bd2 | apply bd3)); exact BK451.out) hb); have n3_ := Aside0.mk (below_step (by repeat (first | (with_reducible first | exact HB.out | apply below_alloc | apply pw_below_drewN | apply below_drew1 | refine below_set ?_ GE420.out | refine below_set ?_ GE440.out | refine below_set ?_ GE451.out) | exact HB.out)) hb); have n4_ := Aside0.mk (hbox); have n5_ := Aside0.mk ((by rw [hg]; exact (below_size (by repeat (first | (with_reducible first | exact HB.out | apply below_alloc | apply pw_below_drewN | apply below_drew1 | refine below_set ?_ GE420.out | refine below_set ?_ GE440.out | refine below_set ?_ GE451.out) | exact HB.out))) : w.heap.size ≤ gb460)); have n6_ := Aside0.mk ((by rw [hg]; exact (below_size (by repeat (first | (with_reducible first | exact HB.out | apply below_alloc | apply pw_below_drewN | apply below_drew1 | refine below_set ?_ GE420.out | refine below_set ?_ GE440.out | refine below_set ?_ GE451.out) | exact HB.out))) : w.heap.size ≤ gb460)); have n7_ := Aside0.mk ((by rw [hg]; exact Nat.ne_of_lt (blk_lt (g := gb420) (o := .cells #[.int .i64 x421000_2, .int .i64 x421001_2, .int .i64 x421002_2, .bool x421003_2, .int .i64 x421004_2, .bool x421005_2, .int .i64 x421006_2] 28 (0, 0)) (by (with_reducible repeat (first | apply bd1 | apply bd2 | apply bd3)); exact BK420.out)) : gb420 ≠ gb460)); have n8_ := Aside0.mk ((by rw [hg]; exact Nat.ne_of_gt (blk_lt (g := gb420) (o := .cells #[.int .i64 x421000_2, .int .i64 x421001_2, .int .i64 x421002_2, .bool x421003_2, .int .i64 x421004_2, .bool x421005_2, .int .i64 x421006_2] 28 (0, 0)) (by (with_reducible repeat (first | apply bd1 | apply bd2 | apply bd3)); exact BK420.out)) : gb460 ≠ gb420)); have n9_ := Aside0.mk ((by rw [hg]; exact Nat.ne_of_lt (blk_lt (g := gb440) (o := .cells #[.int .i64 t432, .int .i64 t433, .int .i64 t434, .bool t435, .int .i64 t436, .bool t437, .int .i64 t438] 28 (0, 0)) (by (with_reducible repeat (first | apply bd1 | apply bd2 | apply bd3)); exact BK440.out)) : gb440 ≠ gb460)); have n10_ := Aside0.mk ((by rw [hg]; exact Nat.ne_of_gt (blk_lt (g := gb440) (o := .cells #[.int .i64 t432, .int .i64 t433, .int .i64 t434, .bool t435, .int .i64 t436, .bool t437, .int .i64 t438] 28 (0, 0)) (by (with_reducible repeat (first | apply bd1 | apply bd2 | apply bd3)); exact BK440.out)) : gb460 ≠ gb440)); have n11_ := Aside0.mk ((by rw [hg]; exact Nat.ne_of_lt (blk_lt (g := gb451) (o := .cells #[.int .i64 t443, .int .i64 t444, .int .i64 t445, .bool t446, .int .i64 t447, .bool t448, .int .i64 t449] 28 (0, 0)) (by (with_reducible repeat (first | apply bd1 | apply bd2 | apply bd3)); exact BK451.out)) : gb451 ≠ gb460)); have n12_ := Aside0.mk ((by rw [hg]; exact Nat.ne_of_gt (blk_lt (g := gb451) (o := .cells #[.int .i64 t443, .int .i64 t444, .int .i64 t445, .bool t446, .int .i64 t447, .bool t448, .int .i64 t449] 28 (0, 0)) (by (with_reducible repeat (first | apply bd1 | apply bd2 | apply bd3)); exact BK451.out)) : gb460 ≠ gb451)); clear BK420; clear BK440; clear BK451; clear HB; have BK420 := n0_; have BK440 := n1_; have BK451 := n2_; have HB := n3_; have BK460 := n4_; have GW460 := n5_; have GE460 := n6_; have NB420_460 := n7_; have NB460_420 := n8_; have NB440_460 := n9_; have NB460_440 := n10_; have NB451_460 := n11_; have NB460_451 := n12_; clear n0_ n1_ n2_ n3_ n4_ n5_ n6_ n7_ n8_ n9_ n10_ n11_ n12_; clear hb hbox hg; have hnb75 := NB460_420.out; have hnc75 := NB420_460.out; have hnb76 := NB460_440.out; have hnc76 := NB440_460.out; have hnb77 := NB460_451.out; have hnc77 := NB451_460.out; obtain ⟨hcz78_0, hcz78_1, hcz78_2, hcz78_3, hcz78_4, hcz78_5, hcz78_6, hfz78_0, hfz78_1, hfz78_2, hfz78_3, hfz78_4, hfz78_5, hfz78_6⟩ := blk_all7 BK460.out; obtain ⟨hcz79_0, hcz79_1, hcz79_2, hcz79_3, hcz79_4, hcz79_5, hcz79_6, hfz79_0, hfz79_1, hfz79_2, hfz79_3, hfz79_4, hfz79_5, hfz79_6⟩ := blk_all7 BK440.out) | ((with_reducible refine gate_callee (f := 15) rfl ?_); refine goesL_ (some 117) rfl rfl Try.func15 (by kernel_rfl) rfl #[.slice (some ad441) l0.length c0, .agg #[.int .i64 t432, .int .i64 t433, .int .i64 t434, .bool t435, .int .i64 t436, .bool t437, .int .i64 t438], .int .i64 (wrap64 ((wrap64 (t433 + 1)) + (wrap64 (Int.tmod (IntKind.u64.wrap (a2)) 15)))), .bool (t432 == 2), .int .i64 2] rfl (by (try simp only [List.map_toArray, List.map_cons, List.map_nil]); first | done | rfl | (simp only [List.length_drop, List.length_take]; rfl)) ?_; (with_reducible refine (saga_Tell.calls kj36 _ _ l0 t432 t433 t434 t435 t436 t437 t438 (wrap64 ((wrap64 (t433 + 1)) + (wrap64 (Int.tmod (IntKind.u64.wrap (a2)) 15)))) (t432 == 2) 2 t461 t462 t463 t464 t465 t466 t467 t468 _ ?side1 ?side2 A59.out).mono ?_); (case side1 => exact Kd.C_below HR0.out (by repeat (first | (with_reducible first | exact HB.out | apply below_alloc | apply pw_below_drewN | apply below_drew1 | refine below_set ?_ GE420.out | refine below_set ?_ GE440.out | refine below_set ?_ GE451.out | refine below_set ?_ GE460.out) | exact HB.out))); (case side2 => exact HC0.out); rintro e w80 ⟨rfl, hb⟩; refine ⟨_, rfl, ?_⟩; have n0_ := Aside0.mk (blk_below (g := gb420) (o := .cells #[.int .i64 x421000_2, .int .i64 x421001_2, .int .i64 x421002_2, .bool x421003_2, .int .i64 x421004_2, .bool x421005_2, .int .i64 x421006_2] 28 (0, 0)) (by (with_reducible repeat (first | apply bd1 | apply bd2 | apply bd3)); refine blk_far ?_ NB420_460.out _; (with_reducible repeat (first | apply bd1 | apply bd2 | apply bd3)); refine blk_far ?_ NB420_460.out _; (with_reducible repeat (first | apply bd1 | apply bd2 | apply bd3)); refine blk_far ?_ NB420_460.out _; (with_reducible repeat (first | apply bd1 | apply bd2 | apply bd3)); refine blk_far ?_ NB420_460.out _; (with_reducible repeat (first | apply bd1 | apply bd2 | apply bd3)); refine blk_far ?_ NB420_460.out _; (with_reducible repeat (first | apply bd1 | apply bd2 | apply bd3)); refine blk_far ?_ NB420_460.out _; (with_reducible repeat (first | apply bd1 | apply bd2 | apply bd3)); refine blk_far ?_ NB420_460.out _; (with_reducible repeat (first | apply bd1 | apply bd2 | apply bd3)); exact BK420.out) hb); have n1_ := Aside0.mk (blk_below (g := gb440) (o := .cells #[.int .i64 t432, .int .i64 t433, .int .i64 t434, .bool t435, .int .i64 t436, .bool t437, .int .i64 t438] 28 (0, 0)) (by (with_reducible repeat (first | apply bd1 | apply bd2 | apply bd3)); refine blk_far ?_ NB440_460.out _; (with_reducible repeat (first | apply bd1 | apply bd2 | apply bd3)); refine blk_far ?_ NB440_460.out _; (with_reducible repeat (first | apply bd1 | apply bd2 | apply bd3)); refine blk_far ?_ NB440_460.out _; (with_reducible repeat (first | apply bd1 | apply bd2 | apply bd3)); refine blk_far ?_ NB440_460.out _; (with_reducible repeat (first | apply bd1 | apply bd2 | apply bd3)); refine blk_far ?_ NB440_460.out _; (with_reducible repeat (first | apply bd1 | apply bd2 | apply bd3)); refine blk_far ?_ NB440_460.out _; (with_reducible repeat (first | apply bd1 | apply bd2 | apply bd3)); refine blk_far ?_ NB440_460.out _; (with_reducible repeat (first | apply bd1 | apply bd2 | apply bd3)); exact BK440.out) hb); have n2_ := Aside0.mk (blk_below (g := gb451) (o := .cells #[.int .i64 t443, .int .i64 t444, .int .i64 t445, .bool t446, .int .i64 t447, .bool t448, .int .i64 t449] 28 (0, 0)) (by (with_reducible repeat (first | apply bd1 | apply bd2 | apply bd3)); refine blk_far ?_ NB451_460.out _; (with_reducible repeat (first | apply bd1 | apply bd2 | apply bd3)); refine blk_far ?_ NB451_460.out _; (with_reducible repeat (first | apply bd1 | apply bd2 | apply bd3)); refine blk_far ?_ NB451_460.out _; (with_reducible repeat (first | apply bd1 | apply bd2 | apply bd3)); refine blk_far ?_ NB451_460.out _; (with_reducible repeat (first | apply bd1 | apply bd2 | apply bd3)); refine blk_far ?_ NB451_460.out _; (with_reducible repeat (first | apply bd1 | apply bd2 | apply bd3)); refine blk_far ?_ NB451_460.out _; (with_reducible repeat (first | apply bd1 | apply bd2 | apply bd3)); refine blk_far ?_ NB451_460.out _; (with_reducible repeat (first | apply bd1 | apply bd2 | apply bd3)); exact BK451.out) hb); have n3_ := Aside0.mk (blk_below (g := gb460) (o := .cells #[.int .i64 t452, .int .i64 t453, .int .i64 t454, .bool t455, .int .i64 t456, .bool t457, .int .i64 t458] 28 (0, 0)) (by (with_reducible repeat (first | apply bd1 | apply bd2 | apply bd3)); refine blk_put (cs := #[.int .i64 t452, .int .i64 t453, .int .i64 t454, .bool t455, .int .i64 t456, .bool t457, .int .i64 0]) ?_ 6 _ rfl; (with_reducible repeat (first | apply bd1 | apply bd2 | apply bd3)); refine blk_put (cs := #[.int .i64 t452, .int .i64 t453, .int .i64 t454, .bool t455, .int .i64 t456, .bool false, .int .i64 0]) ?_ 5 _ rfl; (with_reducible repeat (first | apply bd1 | apply bd2 | apply bd3)); refine blk_put (cs := #[.int .i64 t452, .int .i64 t453, .int .i64 t454, .bool t455, .int .i64 0, .bool false, .int .i64 0]) ?_ 4 _ rfl; (with_reducible repeat (first | apply bd1 | apply bd2 | apply bd3)); refine blk_put (cs := #[.int .i64 t452, .int .i64 t453, .int .i64 t454, .bool false, .int .i64 0, .bool false, .int .i64 0]) ?_ 3 _ rfl; (with_reducible repeat (first | apply bd1 | apply bd2 | apply bd3)); refine blk_put (cs := #[.int .i64 t452, .int .i64 t453, .int .i64 0, .bool false, .int .i64 0, .bool false, .int .i64 0]) ?_ 2 _ rfl; (with_reducible repeat (first | apply bd1 | apply bd2 | apply bd3)); refine blk_put (cs := #[.int .i64 t452, .int .i64 0, .int .i64 0, .bool false, .int .i64 0, .bool false, .int .i64 0]) ?_ 1 _ rfl; (with_reducible repeat (first | apply bd1 | apply bd2 | apply bd3)); refine blk_put (cs := #[.int .i64 0, .int .i64 0, .int .i64 0, .bool false, .int .i64 0, .bool false, .int .i64 0]) ?_ 0 _ rfl; (with_reducible repeat (first | apply bd1 | apply bd2 | apply bd3)); exact BK460.out) hb); have n4_ := Aside0.mk (below_step (by repeat (first | (with_reducible first | exact HB.out | apply below_alloc | apply pw_below_drewN | apply below_drew1 | refine below_set ?_ GE420.out | refine below_set ?_ GE440.out | refine below_set ?_ GE451.out | refine below_set ?_ GE460.out) | exact HB.out)) hb); clear BK420; clear BK440; clear BK451; clear BK460; clear HB; have BK420 := n0_; have BK440 := n1_; have BK451 := n2_; have BK460 := n3_; have HB := n4_; clear n0_ n1_ n2_ n3_ n4_; (try clear hb); (try clear hb2); (try clear hk); (try clear hi)) | ((with_reducible refine gate_dst (N := 19) rfl ?_); refine box_event ?hg (N := 19) ?hd (cs := #[.int .i64 0, .int .i64 0, .int .i64 0, .bool false, .int .i64 0, .bool false, .int .i64 0]) (t := 28) ?hr ?_; (case hd => rfl); (case hg => rfl); (case hr => first | (go_simp; done) | (go_simp; rfl)); intro gb469 hg w81 hbox hb; have n0_ := Aside0.mk (blk_below (g := gb420) (o := .cells #[.int .i64 x421000_2, .int .i64 x421001_2, .int .i64 x421002_2, .bool x421003_2, .int .i64 x421004_2, .bool x421005_2, .int .i64 x421006_2] 28 (0, 0)) (by (with_reducible repeat (first | apply bd1 | apply bd2 | apply bd3)); exact BK420.out) hb); have n1_ := Aside0.mk (blk_below (g := gb440) (o := .cells #[.int .i64 t432, .int .i64 t433, .int .i64 t434, .bool t435, .int .i64 t436, .bool t437, .int .i64 t438] 28 (0, 0)) (by (with_reducible repeat (first | apply bd1 | apply bd2 | apply bd3)); exact BK440.out) hb); have n2_ := Aside0.mk (blk_below (g := gb451) (o := .cells #[.int .i64 t443, .int .i64 t444, .int .i64 t445, .bool t446, .int .i64 t447, .bool t448, .int .i64 t449] 28 (0, 0)) (by (with_reducible repeat (first | apply bd1 | apply bd2 | apply bd3)); exact BK451.out) hb); have n3_ := Aside0.mk (blk_below (g := gb460) (o := .cells #[.int .i64 t452, .int .i64 t453, .int .i64 t454, .bool t455, .int .i64 t456, .bool t457, .int .i64 t458] 28 (0, 0)) (by (with_reducible repeat (first | apply bd1 | apply bd2 | apply bd3)); exact BK460.out) hb); have n4_ := Aside0.mk (below_step (by repeat (first | (with_reducible first | exact HB.out | apply below_alloc | apply pw_below_drewN | apply below_drew1 | refine below_set ?_ GE420.out | refine below_set ?_ GE440.out | refine below_set ?_ GE451.out | refine below_set ?_ GE460.out) | exact HB.out)) hb); have n5_ := Aside0.mk (hbox); have n6_ := Aside0.mk ((by rw [hg]; exact (below_size (by repeat (first | (with_reducible first | exact HB.out | apply below_alloc | apply pw_below_drewN | apply below_drew1 | refine below_set ?_ GE420.out | refine below_set ?_ GE440.out | refine below_set ?_ GE451.out | refine below_set ?_ GE460.out) | exact HB.out))) : w.heap.size ≤ gb469)); have n7_ := Aside0.mk ((by rw [hg]; exact (below_size (by repeat (first | (with_reducible first | exact HB.out | apply below_alloc | apply pw_below_drewN | apply below_drew1 | refine below_set ?_ GE420.out | refine below_set ?_ GE440.out | refine below_set ?_ GE451.out | refine below_set ?_ GE460.out) | exact HB.out))) : w.heap.size ≤ gb469)); have n8_ := Aside0.mk ((by rw [hg]; exact Nat.ne_of_lt (blk_lt (g := gb420) (o := .cells #[.int .i64 x421000_2, .int .i64 x421001_2, .int .i64 x421002_2, .bool x421003_2, .int .i64 x421004_2, .bool x421005_2, .int .i64 x421006_2] 28 (0, 0)) (by (with_reducible repeat (first | apply bd1 | apply bd2 | apply bd3)); exact BK420.out)) : gb420 ≠ gb469)); have n9_ := Aside0.mk ((by rw [hg]; exact Nat.ne_of_gt (blk_lt (g := gb420) (o := .cells #[.int .i64 x421000_2, .int .i64 x421001_2, .int .i64 x421002_2, .bool x421003_2, .int .i64 x421004_2, .bool x421005_2, .int .i64 x421006_2] 28 (0, 0)) (by (with_reducible repeat (first | apply bd1 | apply bd2 | apply bd3)); exact BK420.out)) : gb469 ≠ gb420)); have n10_ := Aside0.mk ((by rw [hg]; exact Nat.ne_of_lt (blk_lt (g := gb440) (o := .cells #[.int .i64 t432, .int .i64 t433, .int .i64 t434, .bool t435, .int .i64 t436, .bool t437, .int .i64 t438] 28 (0, 0)) (by (with_reducible repeat (first | apply bd1 | apply bd2 | apply bd3)); exact BK440.out)) : gb440 ≠ gb469)); have n11_ := Aside0.mk ((by rw [hg]; exact Nat.ne_of_gt (blk_lt (g := gb440) (o := .cells #[.int .i64 t432, .int .i64 t433, .int .i64 t434, .bool t435, .int .i64 t436, .bool t437, .int .i64 t438] 28 (0, 0)) (by (with_reducible repeat (first | apply bd1 | apply bd2 | apply bd3)); exact BK440.out)) : gb469 ≠ gb440)); have n12_ := Aside0.mk ((by rw [hg]; exact Nat.ne_of_lt (blk_lt (g := gb451) (o := .cells #[.int .i64 t443, .int .i64 t444, .int .i64 t445, .bool t446, .int .i64 t447, .bool t448, .int .i64 t449] 28 (0, 0)) (by (with_reducible repeat (first | apply bd1 | apply bd2 | apply bd3)); exact BK451.out)) : gb451 ≠ gb469)); have n13_ := Aside0.mk ((by rw [hg]; exact Nat.ne_of_gt (blk_lt (g := gb451) (o := .cells #[.int .i64 t443, .int .i64 t444, .int .i64 t445, .bool t446, .int .i64 t447, .bool t448, .int .i64 t449] 28 (0, 0)) (by (with_reducible repeat (first | apply bd1 | apply bd2 | apply bd3)); exact BK451.out)) : gb469 ≠ gb451)); have n14_ := Aside0.mk ((by rw [hg]; exact Nat.ne_of_lt (blk_lt (g := gb460) (o := .cells #[.int .i64 t452, .int .i64 t453, .int .i64 t454, .bool t455, .int .i64 t456, .bool t457, .int .i64 t458] 28 (0, 0)) (by (with_reducible repeat (first | apply bd1 | apply bd2 | apply bd3)); exact BK460.out)) : gb460 ≠ gb469)); have n15_ := Aside0.mk ((by rw [hg]; exact Nat.ne_of_gt (blk_lt (g := gb460) (o := .cells #[.int .i64 t452, .int .i64 t453, .int .i64 t454, .bool t455, .int .i64 t456, .bool t457, .int .i64 t458] 28 (0, 0)) (by (with_reducible repeat (first | apply bd1 | apply bd2 | apply bd3)); exact BK460.out)) : gb469 ≠ gb460)); clear BK420; clear BK440; clear BK451; clear BK460; clear HB; have BK420 := n0_; have BK440 := n1_; have BK451 := n2_; have BK460 := n3_; have HB := n4_; have BK469 := n5_; have GW469 := n6_; have GE469 := n7_; have NB420_469 := n8_; have NB469_420 := n9_; have NB440_469 := n10_; have NB469_440 := n11_; have NB451_469 := n12_; have NB469_451 := n13_; have NB460_469 := n14_; have NB469_460 := n15_; clear n0_ n1_ n2_ n3_ n4_ n5_ n6_ n7_ n8_ n9_ n10_ n11_ n12_ n13_ n14_ n15_; clear hb hbox hg; have hnb82 := NB469_420.out; have hnc82 := NB420_469.out; have hnb83 := NB469_440.out; have hnc83 := NB440_469.out; have hnb84 := NB469_451.out; have hnc84 := NB451_469.out; have hnb85 := NB469_460.out; have hnc85 := NB460_469.out; obtain ⟨hcz86_0, hcz86_1, hcz86_2, hcz86_3, hcz86_4, hcz86_5, hcz86_6, hfz86_0, hfz86_1, hfz86_2, hfz86_3, hfz86_4, hfz86_5, hfz86_6⟩ := blk_all7 BK469.out))
                (try simp only [Act.put, List.setIfInBounds_toArray, List.set_cons_zero, List.set_cons_succ])
                go_cut [135] (fun v135 wc => ∃ (kq : Nat) (x135_59 : Bool), v135 = .bool x135_59 ∧ Aside0 (drayagelaw14_SagaTicks.j4 kq l0 ((rd_T38 l0 x421001_2).f2) x135_59 t432 t433 t434 t435 t436 t437 t438 t443 t444 t445 t446 t447 t448 t449 = some r) ∧ Aside0 (kq ≤ kj36) ∧ Aside0 (wc.heap[gb420]? = some (.cells #[.int .i64 x421000_2, .int .i64 x421001_2, .int .i64 x421002_2, .bool x421003_2, .int .i64 x421004_2, .bool x421005_2, .int .i64 x421006_2] 28 (0, 0))) ∧ Aside0 (wc.heap[gb440]? = some (.cells #[.int .i64 t432, .int .i64 t433, .int .i64 t434, .bool t435, .int .i64 t436, .bool t437, .int .i64 t438] 28 (0, 0))) ∧ Aside0 (wc.heap[gb451]? = some (.cells #[.int .i64 t443, .int .i64 t444, .int .i64 t445, .bool t446, .int .i64 t447, .bool t448, .int .i64 t449] 28 (0, 0))) ∧ Aside0 (wc.heap[gb460]? = some (.cells #[.int .i64 t452, .int .i64 t453, .int .i64 t454, .bool t455, .int .i64 t456, .bool t457, .int .i64 t458] 28 (0, 0))) ∧ Aside0 (wc.heap[gb469]? = some (.cells #[.int .i64 t461, .int .i64 t462, .int .i64 t463, .bool t464, .int .i64 t465, .bool t466, .int .i64 t467] 28 (0, 0))) ∧ Aside0 (Below w.heap.size w wc))
                case first =>
                 have H := HC60.out
                 clear HC60
                 by_cases c87 : t459 = 0
                 ·
                  rw [if_pos c87] at H
                  have c87b0 : (t459 == 0) = true := beq_iff_eq.mpr c87
                  have c87b1 : (t459 != 0) = false := bne_eq_false_iff_eq.mpr c87
                  clear c87
                  (first | rw [c87b0] | (simp only [i64_w, i32_w]; rw [c87b0]) | skip)
                  by_cases c88 : (!(t452 == t432) || (!(t453 == t433) || (!(t454 == t434) || (!(t455 == t435) || (!(t456 == t436) || (!(t457 == t437) || (!(t458 == t438)))))))) = true
                  ·
                   rw [if_pos c88] at H
                   have c88b0 : (!(t452 == t432) || (!(t453 == t433) || (!(t454 == t434) || (!(t455 == t435) || (!(t456 == t436) || (!(t457 == t437) || (!(t458 == t438)))))))) = true := c88
                   clear c88
                   have H' := Aside0.mk H
                   clear H
                   have hnb89 := NB460_420.out
                   have hnc89 := NB420_460.out
                   have hnb90 := NB460_440.out
                   have hnc90 := NB440_460.out
                   have hnb91 := NB460_451.out
                   have hnc91 := NB451_460.out
                   have hnb92 := NB460_469.out
                   have hnc92 := NB469_460.out
                   obtain ⟨hcz93_0, hcz93_1, hcz93_2, hcz93_3, hcz93_4, hcz93_5, hcz93_6, hfz93_0, hfz93_1, hfz93_2, hfz93_3, hfz93_4, hfz93_5, hfz93_6⟩ := blk_all7 BK460.out
                   have hnb94 := NB440_420.out
                   have hnc94 := NB420_440.out
                   have hnb95 := NB440_451.out
                   have hnc95 := NB451_440.out
                   have hnb96 := NB440_469.out
                   have hnc96 := NB469_440.out
                   obtain ⟨hcz97_0, hcz97_1, hcz97_2, hcz97_3, hcz97_4, hcz97_5, hcz97_6, hfz97_0, hfz97_1, hfz97_2, hfz97_3, hfz97_4, hfz97_5, hfz97_6⟩ := blk_all7 BK440.out
                   go_wp2
                   go_meet
                   case rel => exact ⟨_, (true), (by first | rfl | (simp; done) | (simp [*]; done)), H', ⟨by have := HJ3.out; have := HK2.out; have := HJ15.out; have := HJ36.out; first | omega | exact Nat.le_refl _⟩, ⟨by (with_reducible repeat (first | apply bd1 | apply bd2 | apply bd3)); refine blk_far ?_ NB420_469.out _; (with_reducible repeat (first | apply bd1 | apply bd2 | apply bd3)); refine blk_far ?_ NB420_469.out _; (with_reducible repeat (first | apply bd1 | apply bd2 | apply bd3)); refine blk_far ?_ NB420_469.out _; (with_reducible repeat (first | apply bd1 | apply bd2 | apply bd3)); refine blk_far ?_ NB420_469.out _; (with_reducible repeat (first | apply bd1 | apply bd2 | apply bd3)); refine blk_far ?_ NB420_469.out _; (with_reducible repeat (first | apply bd1 | apply bd2 | apply bd3)); refine blk_far ?_ NB420_469.out _; (with_reducible repeat (first | apply bd1 | apply bd2 | apply bd3)); refine blk_far ?_ NB420_469.out _; (with_reducible repeat (first | apply bd1 | apply bd2 | apply bd3)); exact BK420.out⟩, ⟨by (with_reducible repeat (first | apply bd1 | apply bd2 | apply bd3)); refine blk_far ?_ NB440_469.out _; (with_reducible repeat (first | apply bd1 | apply bd2 | apply bd3)); refine blk_far ?_ NB440_469.out _; (with_reducible repeat (first | apply bd1 | apply bd2 | apply bd3)); refine blk_far ?_ NB440_469.out _; (with_reducible repeat (first | apply bd1 | apply bd2 | apply bd3)); refine blk_far ?_ NB440_469.out _; (with_reducible repeat (first | apply bd1 | apply bd2 | apply bd3)); refine blk_far ?_ NB440_469.out _; (with_reducible repeat (first | apply bd1 | apply bd2 | apply bd3)); refine blk_far ?_ NB440_469.out _; (with_reducible repeat (first | apply bd1 | apply bd2 | apply bd3)); refine blk_far ?_ NB440_469.out _; (with_reducible repeat (first | apply bd1 | apply bd2 | apply bd3)); exact BK440.out⟩, ⟨by (with_reducible repeat (first | apply bd1 | apply bd2 | apply bd3)); refine blk_far ?_ NB451_469.out _; (with_reducible repeat (first | apply bd1 | apply bd2 | apply bd3)); refine blk_far ?_ NB451_469.out _; (with_reducible repeat (first | apply bd1 | apply bd2 | apply bd3)); refine blk_far ?_ NB451_469.out _; (with_reducible repeat (first | apply bd1 | apply bd2 | apply bd3)); refine blk_far ?_ NB451_469.out _; (with_reducible repeat (first | apply bd1 | apply bd2 | apply bd3)); refine blk_far ?_ NB451_469.out _; (with_reducible repeat (first | apply bd1 | apply bd2 | apply bd3)); refine blk_far ?_ NB451_469.out _; (with_reducible repeat (first | apply bd1 | apply bd2 | apply bd3)); refine blk_far ?_ NB451_469.out _; (with_reducible repeat (first | apply bd1 | apply bd2 | apply bd3)); exact BK451.out⟩, ⟨by (with_reducible repeat (first | apply bd1 | apply bd2 | apply bd3)); refine blk_far ?_ NB460_469.out _; (with_reducible repeat (first | apply bd1 | apply bd2 | apply bd3)); refine blk_far ?_ NB460_469.out _; (with_reducible repeat (first | apply bd1 | apply bd2 | apply bd3)); refine blk_far ?_ NB460_469.out _; (with_reducible repeat (first | apply bd1 | apply bd2 | apply bd3)); refine blk_far ?_ NB460_469.out _; (with_reducible repeat (first | apply bd1 | apply bd2 | apply bd3)); refine blk_far ?_ NB460_469.out _; (with_reducible repeat (first | apply bd1 | apply bd2 | apply bd3)); refine blk_far ?_ NB460_469.out _; (with_reducible repeat (first | apply bd1 | apply bd2 | apply bd3)); refine blk_far ?_ NB460_469.out _; (with_reducible repeat (first | apply bd1 | apply bd2 | apply bd3)); exact BK460.out⟩, ⟨by (with_reducible repeat (first | apply bd1 | apply bd2 | apply bd3)); refine blk_put (cs := #[.int .i64 t461, .int .i64 t462, .int .i64 t463, .bool t464, .int .i64 t465, .bool t466, .int .i64 0]) ?_ 6 _ rfl; (with_reducible repeat (first | apply bd1 | apply bd2 | apply bd3)); refine blk_put (cs := #[.int .i64 t461, .int .i64 t462, .int .i64 t463, .bool t464, .int .i64 t465, .bool false, .int .i64 0]) ?_ 5 _ rfl; (with_reducible repeat (first | apply bd1 | apply bd2 | apply bd3)); refine blk_put (cs := #[.int .i64 t461, .int .i64 t462, .int .i64 t463, .bool t464, .int .i64 0, .bool false, .int .i64 0]) ?_ 4 _ rfl; (with_reducible repeat (first | apply bd1 | apply bd2 | apply bd3)); refine blk_put (cs := #[.int .i64 t461, .int .i64 t462, .int .i64 t463, .bool false, .int .i64 0, .bool false, .int .i64 0]) ?_ 3 _ rfl; (with_reducible repeat (first | apply bd1 | apply bd2 | apply bd3)); refine blk_put (cs := #[.int .i64 t461, .int .i64 t462, .int .i64 0, .bool false, .int .i64 0, .bool false, .int .i64 0]) ?_ 2 _ rfl; (with_reducible repeat (first | apply bd1 | apply bd2 | apply bd3)); refine blk_put (cs := #[.int .i64 t461, .int .i64 0, .int .i64 0, .bool false, .int .i64 0, .bool false, .int .i64 0]) ?_ 1 _ rfl; (with_reducible repeat (first | apply bd1 | apply bd2 | apply bd3)); refine blk_put (cs := #[.int .i64 0, .int .i64 0, .int .i64 0, .bool false, .int .i64 0, .bool false, .int .i64 0]) ?_ 0 _ rfl; (with_reducible repeat (first | apply bd1 | apply bd2 | apply bd3)); exact BK469.out⟩, ⟨by repeat (first | (with_reducible first | exact HB.out | apply below_alloc | apply pw_below_drewN | apply below_drew1 | refine below_set ?_ GE420.out | refine below_set ?_ GE440.out | refine below_set ?_ GE451.out | refine below_set ?_ GE460.out | refine below_set ?_ GE469.out) | exact HB.out)⟩⟩
                  ·
                   rw [if_neg c88] at H
                   have c88b0 : (!(t452 == t432) || (!(t453 == t433) || (!(t454 == t434) || (!(t455 == t435) || (!(t456 == t436) || (!(t457 == t437) || (!(t458 == t438)))))))) = false := by simpa using c88
                   clear c88
                   by_cases c98 : t468 = 0
                   ·
                    rw [if_pos c98] at H
                    have c98b0 : (t468 == 0) = true := beq_iff_eq.mpr c98
                    have c98b1 : (t468 != 0) = false := bne_eq_false_iff_eq.mpr c98
                    clear c98
                    have H' := Aside0.mk H
                    clear H
                    have hnb99 := NB460_420.out
                    have hnc99 := NB420_460.out
                    have hnb100 := NB460_440.out
                    have hnc100 := NB440_460.out
                    have hnb101 := NB460_451.out
                    have hnc101 := NB451_460.out
                    have hnb102 := NB460_469.out
                    have hnc102 := NB469_460.out
                    obtain ⟨hcz103_0, hcz103_1, hcz103_2, hcz103_3, hcz103_4, hcz103_5, hcz103_6, hfz103_0, hfz103_1, hfz103_2, hfz103_3, hfz103_4, hfz103_5, hfz103_6⟩ := blk_all7 BK460.out
                    have hnb104 := NB440_420.out
                    have hnc104 := NB420_440.out
                    have hnb105 := NB440_451.out
                    have hnc105 := NB451_440.out
                    have hnb106 := NB440_469.out
                    have hnc106 := NB469_440.out
                    obtain ⟨hcz107_0, hcz107_1, hcz107_2, hcz107_3, hcz107_4, hcz107_5, hcz107_6, hfz107_0, hfz107_1, hfz107_2, hfz107_3, hfz107_4, hfz107_5, hfz107_6⟩ := blk_all7 BK440.out
                    have hnb108 := NB469_420.out
                    have hnc108 := NB420_469.out
                    have hnb109 := NB469_451.out
                    have hnc109 := NB451_469.out
                    obtain ⟨hcz110_0, hcz110_1, hcz110_2, hcz110_3, hcz110_4, hcz110_5, hcz110_6, hfz110_0, hfz110_1, hfz110_2, hfz110_3, hfz110_4, hfz110_5, hfz110_6⟩ := blk_all7 BK469.out
                    go_wp2
                    go_meet
                    case rel => exact ⟨_, ((!(t461 == t432) || (!(t462 == t433) || (!(t463 == t434) || (!(t464 == t435) || (!(t465 == t436) || (!(t466 == t437) || (!(t467 == t438))))))))), (by first | rfl | (simp; done) | (simp [*]; done)), H', ⟨by have := HJ3.out; have := HK2.out; have := HJ15.out; have := HJ36.out; first | omega | exact Nat.le_refl _⟩, ⟨by (with_reducible repeat (first | apply bd1 | apply bd2 | apply bd3)); refine blk_far ?_ NB420_469.out _; (with_reducible repeat (first | apply bd1 | apply bd2 | apply bd3)); refine blk_far ?_ NB420_469.out _; (with_reducible repeat (first | apply bd1 | apply bd2 | apply bd3)); refine blk_far ?_ NB420_469.out _; (with_reducible repeat (first | apply bd1 | apply bd2 | apply bd3)); refine blk_far ?_ NB420_469.out _; (with_reducible repeat (first | apply bd1 | apply bd2 | apply bd3)); refine blk_far ?_ NB420_469.out _; (with_reducible repeat (first | apply bd1 | apply bd2 | apply bd3)); refine blk_far ?_ NB420_469.out _; (with_reducible repeat (first | apply bd1 | apply bd2 | apply bd3)); refine blk_far ?_ NB420_469.out _; (with_reducible repeat (first | apply bd1 | apply bd2 | apply bd3)); exact BK420.out⟩, ⟨by (with_reducible repeat (first | apply bd1 | apply bd2 | apply bd3)); refine blk_far ?_ NB440_469.out _; (with_reducible repeat (first | apply bd1 | apply bd2 | apply bd3)); refine blk_far ?_ NB440_469.out _; (with_reducible repeat (first | apply bd1 | apply bd2 | apply bd3)); refine blk_far ?_ NB440_469.out _; (with_reducible repeat (first | apply bd1 | apply bd2 | apply bd3)); refine blk_far ?_ NB440_469.out _; (with_reducible repeat (first | apply bd1 | apply bd2 | apply bd3)); refine blk_far ?_ NB440_469.out _; (with_reducible repeat (first | apply bd1 | apply bd2 | apply bd3)); refine blk_far ?_ NB440_469.out _; (with_reducible repeat (first | apply bd1 | apply bd2 | apply bd3)); refine blk_far ?_ NB440_469.out _; (with_reducible repeat (first | apply bd1 | apply bd2 | apply bd3)); exact BK440.out⟩, ⟨by (with_reducible repeat (first | apply bd1 | apply bd2 | apply bd3)); refine blk_far ?_ NB451_469.out _; (with_reducible repeat (first | apply bd1 | apply bd2 | apply bd3)); refine blk_far ?_ NB451_469.out _; (with_reducible repeat (first | apply bd1 | apply bd2 | apply bd3)); refine blk_far ?_ NB451_469.out _; (with_reducible repeat (first | apply bd1 | apply bd2 | apply bd3)); refine blk_far ?_ NB451_469.out _; (with_reducible repeat (first | apply bd1 | apply bd2 | apply bd3)); refine blk_far ?_ NB451_469.out _; (with_reducible repeat (first | apply bd1 | apply bd2 | apply bd3)); refine blk_far ?_ NB451_469.out _; (with_reducible repeat (first | apply bd1 | apply bd2 | apply bd3)); refine blk_far ?_ NB451_469.out _; (with_reducible repeat (first | apply bd1 | apply bd2 | apply bd3)); exact BK451.out⟩, ⟨by (with_reducible repeat (first | apply bd1 | apply bd2 | apply bd3)); refine blk_far ?_ NB460_469.out _; (with_reducible repeat (first | apply bd1 | apply bd2 | apply bd3)); refine blk_far ?_ NB460_469.out _; (with_reducible repeat (first | apply bd1 | apply bd2 | apply bd3)); refine blk_far ?_ NB460_469.out _; (with_reducible repeat (first | apply bd1 | apply bd2 | apply bd3)); refine blk_far ?_ NB460_469.out _; (with_reducible repeat (first | apply bd1 | apply bd2 | apply bd3)); refine blk_far ?_ NB460_469.out _; (with_reducible repeat (first | apply bd1 | apply bd2 | apply bd3)); refine blk_far ?_ NB460_469.out _; (with_reducible repeat (first | apply bd1 | apply bd2 | apply bd3)); refine blk_far ?_ NB460_469.out _; (with_reducible repeat (first | apply bd1 | apply bd2 | apply bd3)); exact BK460.out⟩, ⟨by (with_reducible repeat (first | apply bd1 | apply bd2 | apply bd3)); refine blk_put (cs := #[.int .i64 t461, .int .i64 t462, .int .i64 t463, .bool t464, .int .i64 t465, .bool t466, .int .i64 0]) ?_ 6 _ rfl; (with_reducible repeat (first | apply bd1 | apply bd2 | apply bd3)); refine blk_put (cs := #[.int .i64 t461, .int .i64 t462, .int .i64 t463, .bool t464, .int .i64 t465, .bool false, .int .i64 0]) ?_ 5 _ rfl; (with_reducible repeat (first | apply bd1 | apply bd2 | apply bd3)); refine blk_put (cs := #[.int .i64 t461, .int .i64 t462, .int .i64 t463, .bool t464, .int .i64 0, .bool false, .int .i64 0]) ?_ 4 _ rfl; (with_reducible repeat (first | apply bd1 | apply bd2 | apply bd3)); refine blk_put (cs := #[.int .i64 t461, .int .i64 t462, .int .i64 t463, .bool false, .int .i64 0, .bool false, .int .i64 0]) ?_ 3 _ rfl; (with_reducible repeat (first | apply bd1 | apply bd2 | apply bd3)); refine blk_put (cs := #[.int .i64 t461, .int .i64 t462, .int .i64 0, .bool false, .int .i64 0, .bool false, .int .i64 0]) ?_ 2 _ rfl; (with_reducible repeat (first | apply bd1 | apply bd2 | apply bd3)); refine blk_put (cs := #[.int .i64 t461, .int .i64 0, .int .i64 0, .bool false, .int .i64 0, .bool false, .int .i64 0]) ?_ 1 _ rfl; (with_reducible repeat (first | apply bd1 | apply bd2 | apply bd3)); refine blk_put (cs := #[.int .i64 0, .int .i64 0, .int .i64 0, .bool false, .int .i64 0, .bool false, .int .i64 0]) ?_ 0 _ rfl; (with_reducible repeat (first | apply bd1 | apply bd2 | apply bd3)); exact BK469.out⟩, ⟨by repeat (first | (with_reducible first | exact HB.out | apply below_alloc | apply pw_below_drewN | apply below_drew1 | refine below_set ?_ GE420.out | refine below_set ?_ GE440.out | refine below_set ?_ GE451.out | refine below_set ?_ GE460.out | refine below_set ?_ GE469.out) | exact HB.out)⟩⟩
                   ·
                    rw [if_neg c98] at H
                    have c98b0 : (t468 == 0) = false := beq_eq_false_iff_ne.mpr c98
                    have c98b1 : (t468 != 0) = true := bne_iff_ne.mpr c98
                    have H' := Aside0.mk H
                    clear H
                    have hnb111 := NB460_420.out
                    have hnc111 := NB420_460.out
                    have hnb112 := NB460_440.out
                    have hnc112 := NB440_460.out
                    have hnb113 := NB460_451.out
                    have hnc113 := NB451_460.out
                    have hnb114 := NB460_469.out
                    have hnc114 := NB469_460.out
                    obtain ⟨hcz115_0, hcz115_1, hcz115_2, hcz115_3, hcz115_4, hcz115_5, hcz115_6, hfz115_0, hfz115_1, hfz115_2, hfz115_3, hfz115_4, hfz115_5, hfz115_6⟩ := blk_all7 BK460.out
                    have hnb116 := NB440_420.out
                    have hnc116 := NB420_440.out
                    have hnb117 := NB440_451.out
                    have hnc117 := NB451_440.out
                    have hnb118 := NB440_469.out
                    have hnc118 := NB469_440.out
                    obtain ⟨hcz119_0, hcz119_1, hcz119_2, hcz119_3, hcz119_4, hcz119_5, hcz119_6, hfz119_0, hfz119_1, hfz119_2, hfz119_3, hfz119_4, hfz119_5, hfz119_6⟩ := blk_all7 BK440.out
                    go_wp2
                    go_meet
                    case rel => exact ⟨_, (true), (by first | rfl | (simp; done) | (simp [*]; done)), H', ⟨by have := HJ3.out; have := HK2.out; have := HJ15.out; have := HJ36.out; first | omega | exact Nat.le_refl _⟩, ⟨by (with_reducible repeat (first | apply bd1 | apply bd2 | apply bd3)); refine blk_far ?_ NB420_469.out _; (with_reducible repeat (first | apply bd1 | apply bd2 | apply bd3)); refine blk_far ?_ NB420_469.out _; (with_reducible repeat (first | apply bd1 | apply bd2 | apply bd3)); refine blk_far ?_ NB420_469.out _; (with_reducible repeat (first | apply bd1 | apply bd2 | apply bd3)); refine blk_far ?_ NB420_469.out _; (with_reducible repeat (first | apply bd1 | apply bd2 | apply bd3)); refine blk_far ?_ NB420_469.out _; (with_reducible repeat (first | apply bd1 | apply bd2 | apply bd3)); refine blk_far ?_ NB420_469.out _; (with_reducible repeat (first | apply bd1 | apply bd2 | apply bd3)); refine blk_far ?_ NB420_469.out _; (with_reducible repeat (first | apply bd1 | apply bd2 | apply bd3)); exact BK420.out⟩, ⟨by (with_reducible repeat (first | apply bd1 | apply bd2 | apply bd3)); refine blk_far ?_ NB440_469.out _; (with_reducible repeat (first | apply bd1 | apply bd2 | apply bd3)); refine blk_far ?_ NB440_469.out _; (with_reducible repeat (first | apply bd1 | apply bd2 | apply bd3)); refine blk_far ?_ NB440_469.out _; (with_reducible repeat (first | apply bd1 | apply bd2 | apply bd3)); refine blk_far ?_ NB440_469.out _; (with_reducible repeat (first | apply bd1 | apply bd2 | apply bd3)); refine blk_far ?_ NB440_469.out _; (with_reducible repeat (first | apply bd1 | apply bd2 | apply bd3)); refine blk_far ?_ NB440_469.out _; (with_reducible repeat (first | apply bd1 | apply bd2 | apply bd3)); refine blk_far ?_ NB440_469.out _; (with_reducible repeat (first | apply bd1 | apply bd2 | apply bd3)); exact BK440.out⟩, ⟨by (with_reducible repeat (first | apply bd1 | apply bd2 | apply bd3)); refine blk_far ?_ NB451_469.out _; (with_reducible repeat (first | apply bd1 | apply bd2 | apply bd3)); refine blk_far ?_ NB451_469.out _; (with_reducible repeat (first | apply bd1 | apply bd2 | apply bd3)); refine blk_far ?_ NB451_469.out _; (with_reducible repeat (first | apply bd1 | apply bd2 | apply bd3)); refine blk_far ?_ NB451_469.out _; (with_reducible repeat (first | apply bd1 | apply bd2 | apply bd3)); refine blk_far ?_ NB451_469.out _; (with_reducible repeat (first | apply bd1 | apply bd2 | apply bd3)); refine blk_far ?_ NB451_469.out _; (with_reducible repeat (first | apply bd1 | apply bd2 | apply bd3)); refine blk_far ?_ NB451_469.out _; (with_reducible repeat (first | apply bd1 | apply bd2 | apply bd3)); exact BK451.out⟩, ⟨by (with_reducible repeat (first | apply bd1 | apply bd2 | apply bd3)); refine blk_far ?_ NB460_469.out _; (with_reducible repeat (first | apply bd1 | apply bd2 | apply bd3)); refine blk_far ?_ NB460_469.out _; (with_reducible repeat (first | apply bd1 | apply bd2 | apply bd3)); refine blk_far ?_ NB460_469.out _; (with_reducible repeat (first | apply bd1 | apply bd2 | apply bd3)); refine blk_far ?_ NB460_469.out _; (with_reducible repeat (first | apply bd1 | apply bd2 | apply bd3)); refine blk_far ?_ NB460_469.out _; (with_reducible repeat (first | apply bd1 | apply bd2 | apply bd3)); refine blk_far ?_ NB460_469.out _; (with_reducible repeat (first | apply bd1 | apply bd2 | apply bd3)); refine blk_far ?_ NB460_469.out _; (with_reducible repeat (first | apply bd1 | apply bd2 | apply bd3)); exact BK460.out⟩, ⟨by (with_reducible repeat (first | apply bd1 | apply bd2 | apply bd3)); refine blk_put (cs := #[.int .i64 t461, .int .i64 t462, .int .i64 t463, .bool t464, .int .i64 t465, .bool t466, .int .i64 0]) ?_ 6 _ rfl; (with_reducible repeat (first | apply bd1 | apply bd2 | apply bd3)); refine blk_put (cs := #[.int .i64 t461, .int .i64 t462, .int .i64 t463, .bool t464, .int .i64 t465, .bool false, .int .i64 0]) ?_ 5 _ rfl; (with_reducible repeat (first | apply bd1 | apply bd2 | apply bd3)); refine blk_put (cs := #[.int .i64 t461, .int .i64 t462, .int .i64 t463, .bool t464, .int .i64 0, .bool false, .int .i64 0]) ?_ 4 _ rfl; (with_reducible repeat (first | apply bd1 | apply bd2 | apply bd3)); refine blk_put (cs := #[.int .i64 t461, .int .i64 t462, .int .i64 t463, .bool false, .int .i64 0, .bool false, .int .i64 0]) ?_ 3 _ rfl; (with_reducible repeat (first | apply bd1 | apply bd2 | apply bd3)); refine blk_put (cs := #[.int .i64 t461, .int .i64 t462, .int .i64 0, .bool false, .int .i64 0, .bool false, .int .i64 0]) ?_ 2 _ rfl; (with_reducible repeat (first | apply bd1 | apply bd2 | apply bd3)); refine blk_put (cs := #[.int .i64 t461, .int .i64 0, .int .i64 0, .bool false, .int .i64 0, .bool false, .int .i64 0]) ?_ 1 _ rfl; (with_reducible repeat (first | apply bd1 | apply bd2 | apply bd3)); refine blk_put (cs := #[.int .i64 0, .int .i64 0, .int .i64 0, .bool false, .int .i64 0, .bool false, .int .i64 0]) ?_ 0 _ rfl; (with_reducible repeat (first | apply bd1 | apply bd2 | apply bd3)); exact BK469.out⟩, ⟨by repeat (first | (with_reducible first | exact HB.out | apply below_alloc | apply pw_below_drewN | apply below_drew1 | refine below_set ?_ GE420.out | refine below_set ?_ GE440.out | refine below_set ?_ GE451.out | refine below_set ?_ GE460.out | refine below_set ?_ GE469.out) | exact HB.out)⟩⟩
                 ·
                  rw [if_neg c87] at H
                  have c87b0 : (t459 == 0) = false := beq_eq_false_iff_ne.mpr c87
                  have c87b1 : (t459 != 0) = true := bne_iff_ne.mpr c87
                  (first | rw [c87b0] | (simp only [i64_w, i32_w]; rw [c87b0]) | skip)
                  have H' := Aside0.mk H
                  clear H
                  go_wp2
                  go_meet
                  case rel => exact ⟨_, (true), (by first | rfl | (simp; done) | (simp [*]; done)), H', ⟨by have := HJ3.out; have := HK2.out; have := HJ15.out; have := HJ36.out; first | omega | exact Nat.le_refl _⟩, ⟨by (with_reducible repeat (first | apply bd1 | apply bd2 | apply bd3)); refine blk_far ?_ NB420_469.out _; (with_reducible repeat (first | apply bd1 | apply bd2 | apply bd3)); refine blk_far ?_ NB420_469.out _; (with_reducible repeat (first | apply bd1 | apply bd2 | apply bd3)); refine blk_far ?_ NB420_469.out _; (with_reducible repeat (first | apply bd1 | apply bd2 | apply bd3)); refine blk_far ?_ NB420_469.out _; (with_reducible repeat (first | apply bd1 | apply bd2 | apply bd3)); refine blk_far ?_ NB420_469.out _; (with_reducible repeat (first | apply bd1 | apply bd2 | apply bd3)); refine blk_far ?_ NB420_469.out _; (with_reducible repeat (first | apply bd1 | apply bd2 | apply bd3)); refine blk_far ?_ NB420_469.out _; (with_reducible repeat (first | apply bd1 | apply bd2 | apply bd3)); exact BK420.out⟩, ⟨by (with_reducible repeat (first | apply bd1 | apply bd2 | apply bd3)); refine blk_far ?_ NB440_469.out _; (with_reducible repeat (first | apply bd1 | apply bd2 | apply bd3)); refine blk_far ?_ NB440_469.out _; (with_reducible repeat (first | apply bd1 | apply bd2 | apply bd3)); refine blk_far ?_ NB440_469.out _; (with_reducible repeat (first | apply bd1 | apply bd2 | apply bd3)); refine blk_far ?_ NB440_469.out _; (with_reducible repeat (first | apply bd1 | apply bd2 | apply bd3)); refine blk_far ?_ NB440_469.out _; (with_reducible repeat (first | apply bd1 | apply bd2 | apply bd3)); refine blk_far ?_ NB440_469.out _; (with_reducible repeat (first | apply bd1 | apply bd2 | apply bd3)); refine blk_far ?_ NB440_469.out _; (with_reducible repeat (first | apply bd1 | apply bd2 | apply bd3)); exact BK440.out⟩, ⟨by (with_reducible repeat (first | apply bd1 | apply bd2 | apply bd3)); refine blk_far ?_ NB451_469.out _; (with_reducible repeat (first | apply bd1 | apply bd2 | apply bd3)); refine blk_far ?_ NB451_469.out _; (with_reducible repeat (first | apply bd1 | apply bd2 | apply bd3)); refine blk_far ?_ NB451_469.out _; (with_reducible repeat (first | apply bd1 | apply bd2 | apply bd3)); refine blk_far ?_ NB451_469.out _; (with_reducible repeat (first | apply bd1 | apply bd2 | apply bd3)); refine blk_far ?_ NB451_469.out _; (with_reducible repeat (first | apply bd1 | apply bd2 | apply bd3)); refine blk_far ?_ NB451_469.out _; (with_reducible repeat (first | apply bd1 | apply bd2 | apply bd3)); refine blk_far ?_ NB451_469.out _; (with_reducible repeat (first | apply bd1 | apply bd2 | apply bd3)); exact BK451.out⟩, ⟨by (with_reducible repeat (first | apply bd1 | apply bd2 | apply bd3)); refine blk_far ?_ NB460_469.out _; (with_reducible repeat (first | apply bd1 | apply bd2 | apply bd3)); refine blk_far ?_ NB460_469.out _; (with_reducible repeat (first | apply bd1 | apply bd2 | apply bd3)); refine blk_far ?_ NB460_469.out _; (with_reducible repeat (first | apply bd1 | apply bd2 | apply bd3)); refine blk_far ?_ NB460_469.out _; (with_reducible repeat (first | apply bd1 | apply bd2 | apply bd3)); refine blk_far ?_ NB460_469.out _; (with_reducible repeat (first | apply bd1 | apply bd2 | apply bd3)); refine blk_far ?_ NB460_469.out _; (with_reducible repeat (first | apply bd1 | apply bd2 | apply bd3)); refine blk_far ?_ NB460_469.out _; (with_reducible repeat (first | apply bd1 | apply bd2 | apply bd3)); exact BK460.out⟩, ⟨by (with_reducible repeat (first | apply bd1 | apply bd2 | apply bd3)); refine blk_put (cs := #[.int .i64 t461, .int .i64 t462, .int .i64 t463, .bool t464, .int .i64 t465, .bool t466, .int .i64 0]) ?_ 6 _ rfl; (with_reducible repeat (first | apply bd1 | apply bd2 | apply bd3)); refine blk_put (cs := #[.int .i64 t461, .int .i64 t462, .int .i64 t463, .bool t464, .int .i64 t465, .bool false, .int .i64 0]) ?_ 5 _ rfl; (with_reducible repeat (first | apply bd1 | apply bd2 | apply bd3)); refine blk_put (cs := #[.int .i64 t461, .int .i64 t462, .int .i64 t463, .bool t464, .int .i64 0, .bool false, .int .i64 0]) ?_ 4 _ rfl; (with_reducible repeat (first | apply bd1 | apply bd2 | apply bd3)); refine blk_put (cs := #[.int .i64 t461, .int .i64 t462, .int .i64 t463, .bool false, .int .i64 0, .bool false, .int .i64 0]) ?_ 3 _ rfl; (with_reducible repeat (first | apply bd1 | apply bd2 | apply bd3)); refine blk_put (cs := #[.int .i64 t461, .int .i64 t462, .int .i64 0, .bool false, .int .i64 0, .bool false, .int .i64 0]) ?_ 2 _ rfl; (with_reducible repeat (first | apply bd1 | apply bd2 | apply bd3)); refine blk_put (cs := #[.int .i64 t461, .int .i64 0, .int .i64 0, .bool false, .int .i64 0, .bool false, .int .i64 0]) ?_ 1 _ rfl; (with_reducible repeat (first | apply bd1 | apply bd2 | apply bd3)); refine blk_put (cs := #[.int .i64 0, .int .i64 0, .int .i64 0, .bool false, .int .i64 0, .bool false, .int .i64 0]) ?_ 0 _ rfl; (with_reducible repeat (first | apply bd1 | apply bd2 | apply bd3)); exact BK469.out⟩, ⟨by repeat (first | (with_reducible first | exact HB.out | apply below_alloc | apply pw_below_drewN | apply below_drew1 | refine below_set ?_ GE420.out | refine below_set ?_ GE440.out | refine below_set ?_ GE451.out | refine below_set ?_ GE460.out | refine below_set ?_ GE469.out) | exact HB.out)⟩⟩
                case rest =>
                 clear HC60
                 try clear c1
                 try clear c2
                 try clear p2
                 try clear c3
                 try clear c4
                 try clear p4
                 try clear q4
                 try clear hx4
                 try clear c5
                 try clear c6
                 try clear p6
                 try clear c7
                 try clear c8
                 try clear c9
                 try clear c10
                 try clear c11
                 try clear c12
                 try clear c13
                 try clear c14
                 try clear c15
                 try clear c17
                 try clear c17b0
                 try clear c18
                 try clear c19
                 try clear c19b0
                 try clear c20
                 try clear c20b0
                 try clear c22
                 try clear c26
                 try clear c34
                 try clear c38
                 try clear c38b0
                 try clear c38b1
                 try clear c41
                 try clear p42
                 try clear q42
                 try clear hx42
                 try clear c44
                 try clear p44
                 try clear q44
                 try clear hx44
                 try clear c45
                 try clear c45b0
                 try clear c45b1
                 try clear c46
                 try clear c46b0
                 try clear c47
                 try clear c47b0
                 try clear c48
                 try clear c48b0
                 try clear c53
                 try clear c64
                 try clear p64
                 try clear c69
                 try clear c70
                 try clear c75
                 try clear c76
                 try clear c77
                 try clear c82
                 try clear c83
                 try clear c84
                 try clear c85
                 try clear c87
                 try clear c87b0
                 try clear c87b1
                 try clear c88
                 try clear c88b0
                 try clear c89
                 try clear c90
                 try clear c91
                 try clear c92
                 try clear c94
                 try clear c95
                 try clear c96
                 try clear c98
                 try clear c98b0
                 try clear c98b1
                 try clear c99
                 try clear c100
                 try clear c101
                 try clear c102
                 try clear c104
                 try clear c105
                 try clear c106
                 try clear c108
                 try clear c109
                 try clear c111
                 try clear c112
                 try clear c113
                 try clear c114
                 try clear c116
                 try clear c117
                 try clear c118
                 try clear hcz103_0
                 try clear hcz103_1
                 try clear hcz103_2
                 try clear hcz103_3
                 try clear hcz103_4
                 try clear hcz103_5
                 try clear hcz103_6
                 try clear hcz107_0
                 try clear hcz107_1
                 try clear hcz107_2
                 try clear hcz107_3
                 try clear hcz107_4
                 try clear hcz107_5
                 try clear hcz107_6
                 try clear hcz110_0
                 try clear hcz110_1
                 try clear hcz110_2
                 try clear hcz110_3
                 try clear hcz110_4
                 try clear hcz110_5
                 try clear hcz110_6
                 try clear hcz115_0
                 try clear hcz115_1
                 try clear hcz115_2
                 try clear hcz115_3
                 try clear hcz115_4
                 try clear hcz115_5
                 try clear hcz115_6
                 try clear hcz119_0
                 try clear hcz119_1
                 try clear hcz119_2
                 try clear hcz119_3
                 try clear hcz119_4
                 try clear hcz119_5
                 try clear hcz119_6
                 try clear hcz15_0
                 try clear hcz15_1
                 try clear hcz15_2
                 try clear hcz15_3
                 try clear hcz15_4
                 try clear hcz15_5
                 try clear hcz15_6
                 try clear hcz35_0
                 try clear hcz35_1
                 try clear hcz35_2
                 try clear hcz35_3
                 try clear hcz35_4
                 try clear hcz35_5
                 try clear hcz35_6
                 try clear hcz36_0
                 try clear hcz36_1
                 try clear hcz36_2
                 try clear hcz36_3
                 try clear hcz36_4
                 try clear hcz36_5
                 try clear hcz36_6
                 try clear hcz39_0
                 try clear hcz39_1
                 try clear hcz39_2
                 try clear hcz39_3
                 try clear hcz39_4
                 try clear hcz39_5
                 try clear hcz39_6
                 try clear hcz40_0
                 try clear hcz40_1
                 try clear hcz40_2
                 try clear hcz40_3
                 try clear hcz40_4
                 try clear hcz40_5
                 try clear hcz40_6
                 try clear hcz50_0
                 try clear hcz50_1
                 try clear hcz50_2
                 try clear hcz50_3
                 try clear hcz50_4
                 try clear hcz50_5
                 try clear hcz50_6
                 try clear hcz54_0
                 try clear hcz54_1
                 try clear hcz54_2
                 try clear hcz54_3
                 try clear hcz54_4
                 try clear hcz54_5
                 try clear hcz54_6
                 try clear hcz55_0
                 try clear hcz55_1
                 try clear hcz55_2
                 try clear hcz55_3
                 try clear hcz55_4
                 try clear hcz55_5
                 try clear hcz55_6
                 try clear hcz61_0
                 try clear hcz61_1
                 try clear hcz61_2
                 try clear hcz61_3
                 try clear hcz61_4
                 try clear hcz61_5
                 try clear hcz61_6
                 try clear hcz65_0
                 try clear hcz65_1
                 try clear hcz65_2
                 try clear hcz65_3
                 try clear hcz65_4
                 try clear hcz65_5
                 try clear hcz65_6
                 try clear hcz66_0
                 try clear hcz66_1
                 try clear hcz66_2
                 try clear hcz66_3
                 try clear hcz66_4
                 try clear hcz66_5
                 try clear hcz66_6
                 try clear hcz71_0
                 try clear hcz71_1
                 try clear hcz71_2
                 try clear hcz71_3
                 try clear hcz71_4
                 try clear hcz71_5
                 try clear hcz71_6
                 try clear hcz72_0
                 try clear hcz72_1
                 try clear hcz72_2
                 try clear hcz72_3
                 try clear hcz72_4
                 try clear hcz72_5
                 try clear hcz72_6
                 try clear hcz78_0
                 try clear hcz78_1
                 try clear hcz78_2
                 try clear hcz78_3
                 try clear hcz78_4
                 try clear hcz78_5
                 try clear hcz78_6
                 try clear hcz79_0
                 try clear hcz79_1
                 try clear hcz79_2
                 try clear hcz79_3
                 try clear hcz79_4
                 try clear hcz79_5
                 try clear hcz79_6
                 try clear hcz86_0
                 try clear hcz86_1
                 try clear hcz86_2
                 try clear hcz86_3
                 try clear hcz86_4
                 try clear hcz86_5
                 try clear hcz86_6
                 try clear hcz93_0
                 try clear hcz93_1
                 try clear hcz93_2
                 try clear hcz93_3
                 try clear hcz93_4
                 try clear hcz93_5
                 try clear hcz93_6
                 try clear hcz97_0
                 try clear hcz97_1
                 try clear hcz97_2
                 try clear hcz97_3
                 try clear hcz97_4
                 try clear hcz97_5
                 try clear hcz97_6
                 try clear hfz103_0
                 try clear hfz103_1
                 try clear hfz103_2
                 try clear hfz103_3
                 try clear hfz103_4
                 try clear hfz103_5
                 try clear hfz103_6
                 try clear hfz107_0
                 try clear hfz107_1
                 try clear hfz107_2
                 try clear hfz107_3
                 try clear hfz107_4
                 try clear hfz107_5
                 try clear hfz107_6
                 try clear hfz110_0
                 try clear hfz110_1
                 try clear hfz110_2
                 try clear hfz110_3
                 try clear hfz110_4
                 try clear hfz110_5
                 try clear hfz110_6
                 try clear hfz115_0
                 try clear hfz115_1
                 try clear hfz115_2
                 try clear hfz115_3
                 try clear hfz115_4
                 try clear hfz115_5
                 try clear hfz115_6
                 try clear hfz119_0
                 try clear hfz119_1
                 try clear hfz119_2
                 try clear hfz119_3
                 try clear hfz119_4
                 try clear hfz119_5
                 try clear hfz119_6
                 try clear hfz15_0
                 try clear hfz15_1
                 try clear hfz15_2
                 try clear hfz15_3
                 try clear hfz15_4
                 try clear hfz15_5
                 try clear hfz15_6
                 try clear hfz35_0
                 try clear hfz35_1
                 try clear hfz35_2
                 try clear hfz35_3
                 try clear hfz35_4
                 try clear hfz35_5
                 try clear hfz35_6
                 try clear hfz36_0
                 try clear hfz36_1
                 try clear hfz36_2
                 try clear hfz36_3
                 try clear hfz36_4
                 try clear hfz36_5
                 try clear hfz36_6
                 try clear hfz39_0
                 try clear hfz39_1
                 try clear hfz39_2
                 try clear hfz39_3
                 try clear hfz39_4
                 try clear hfz39_5
                 try clear hfz39_6
                 try clear hfz40_0
                 try clear hfz40_1
                 try clear hfz40_2
                 try clear hfz40_3
                 try clear hfz40_4
                 try clear hfz40_5
                 try clear hfz40_6
                 try clear hfz50_0
                 try clear hfz50_1
                 try clear hfz50_2
                 try clear hfz50_3
                 try clear hfz50_4
                 try clear hfz50_5
                 try clear hfz50_6
                 try clear hfz54_0
                 try clear hfz54_1
                 try clear hfz54_2
                 try clear hfz54_3
                 try clear hfz54_4
                 try clear hfz54_5
                 try clear hfz54_6
                 try clear hfz55_0
                 try clear hfz55_1
                 try clear hfz55_2
                 try clear hfz55_3
                 try clear hfz55_4
                 try clear hfz55_5
                 try clear hfz55_6
                 try clear hfz61_0
                 try clear hfz61_1
                 try clear hfz61_2
                 try clear hfz61_3
                 try clear hfz61_4
                 try clear hfz61_5
                 try clear hfz61_6
                 try clear hfz65_0
                 try clear hfz65_1
                 try clear hfz65_2
                 try clear hfz65_3
                 try clear hfz65_4
                 try clear hfz65_5
                 try clear hfz65_6
                 try clear hfz66_0
                 try clear hfz66_1
                 try clear hfz66_2
                 try clear hfz66_3
                 try clear hfz66_4
                 try clear hfz66_5
                 try clear hfz66_6
                 try clear hfz71_0
                 try clear hfz71_1
                 try clear hfz71_2
                 try clear hfz71_3
                 try clear hfz71_4
                 try clear hfz71_5
                 try clear hfz71_6
                 try clear hfz72_0
                 try clear hfz72_1
                 try clear hfz72_2
                 try clear hfz72_3
                 try clear hfz72_4
                 try clear hfz72_5
                 try clear hfz72_6
                 try clear hfz78_0
                 try clear hfz78_1
                 try clear hfz78_2
                 try clear hfz78_3
                 try clear hfz78_4
                 try clear hfz78_5
                 try clear hfz78_6
                 try clear hfz79_0
                 try clear hfz79_1
                 try clear hfz79_2
                 try clear hfz79_3
                 try clear hfz79_4
                 try clear hfz79_5
                 try clear hfz79_6
                 try clear hfz86_0
                 try clear hfz86_1
                 try clear hfz86_2
                 try clear hfz86_3
                 try clear hfz86_4
                 try clear hfz86_5
                 try clear hfz86_6
                 try clear hfz93_0
                 try clear hfz93_1
                 try clear hfz93_2
                 try clear hfz93_3
                 try clear hfz93_4
                 try clear hfz93_5
                 try clear hfz93_6
                 try clear hfz97_0
                 try clear hfz97_1
                 try clear hfz97_2
                 try clear hfz97_3
                 try clear hfz97_4
                 try clear hfz97_5
                 try clear hfz97_6
                 try clear hx421_0
                 try clear hx421_1
                 try clear hx421_2
                 try clear hx441_0
                 try clear hx441_1
                 try clear hx441_2
                 try clear hx441_3
                 try clear hx441_4
                 try clear hx441_5
                 try clear p2
                 try clear p4
                 try clear p421
                 try clear p441
                 try clear p6
                 try clear q4
                 try clear q421
                 try clear q441
                 obtain ⟨kq, x135_59, rfl, HA, HJ59, BK420, BK440, BK451, BK460, BK469, HB⟩ := hcut
                 cases kq with
                 | zero => exact absurd HA.out (by simp [drayagelaw14_SagaTicks.j4])
                 | succ kj59 =>
                  have H := HA.out
                  clear HA
                  simp only [drayagelaw14_SagaTicks.j4] at H
                  by_cases c120 : x135_59 = true
                  ·
                   subst c120
                   have H1 : (none) = some r := by rw [if_pos rfl] at H; exact H
                   clear H
                   have H := H1
                   clear H1
                   exact absurd H (by simp)
                  ·
                   replace c120 := Bool.eq_false_iff.mpr c120
                   subst c120
                   have H1 : (drayagelaw14_SagaTicks.l1 kj59 l0 ((rd_T38 l0 x421001_2).f2) 0 t443 t444 t445 t446 t447 t448 t449 t432 t433 t434 t435 t436 t437 t438) = some r := by rw [if_neg (show ¬ (false = true) by decide)] at H; exact H
                   clear H
                   have H := H1
                   clear H1
                   have H' := Aside0.mk H
                   clear H
                   have hnb121 := NB440_420.out
                   have hnc121 := NB420_440.out
                   have hnb122 := NB440_451.out
                   have hnc122 := NB451_440.out
                   have hnb123 := NB440_460.out
                   have hnc123 := NB460_440.out
                   have hnb124 := NB440_469.out
                   have hnc124 := NB469_440.out
                   obtain ⟨hcz125_0, hcz125_1, hcz125_2, hcz125_3, hcz125_4, hcz125_5, hcz125_6, hfz125_0, hfz125_1, hfz125_2, hfz125_3, hfz125_4, hfz125_5, hfz125_6⟩ := blk_all7 BK440.out
                   go_wp2_with (first | ((with_reducible refine gate_dst (N := 21) rfl ?_); refine box_event ?hg (N := 21) ?hd (cs := #[.int .i64 0, .int .i64 0, .int .i64 0, .bool false, .int .i64 0, .bool false, .int .i64 0]) (t := 28) ?hr ?_; (case hd => rfl); (case hg => rfl); (case hr => first | (go_simp; done) | (go_simp; rfl)); intro gb470 hg w126 hbox hb; have n0_ := Aside0.mk (blk_below (g := gb420) (o := .cells #[.int .i64 x421000_2, .int .i64 x421001_2, .int .i64 x421002_2, .bool x421003_2, .int .i64 x421004_2, .bool x421005_2, .int .i64 x421006_2] 28 (0, 0)) (by (with_reducible repeat (first | apply bd1 | apply bd2 | apply bd3)); exact BK420.out) hb); have n1_ := Aside0.mk (blk_below (g := gb440) (o := .cells #[.int .i64 t432, .int .i64 t433, .int .i64 t434, .bool t435, .int .i64 t436, .bool t437, .int .i64 t438] 28 (0, 0)) (by (with_reducible repeat (first | apply bd1 | apply bd2 | apply bd3)); exact BK440.out) hb); have n2_ := Aside0.mk (blk_below (g := gb451) (o := .cells #[.int .i64 t443, .int .i64 t444, .int .i64 t445, .bool t446, .int .i64 t447, .bool t448, .int .i64 t449] 28 (0, 0)) (by (with_reducible repeat (first | apply bd1 | apply bd2 | apply bd3)); exact BK451.out) hb); have n3_ := Aside0.mk (blk_below (g := gb460) (o := .cells #[.int .i64 t452, .int .i64 t453, .int .i64 t454, .bool t455, .int .i64 t456, .bool t457, .int .i64 t458] 28 (0, 0)) (by (with_reducible repeat (first | apply bd1 | apply bd2 | apply bd3)); exact BK460.out) hb); have n4_ := Aside0.mk (blk_below (g := gb469) (o := .cells #[.int .i64 t461, .int .i64 t462, .int .i64 t463, .bool t464, .int .i64 t465, .bool t466, .int .i64 t467] 28 (0, 0)) (by (with_reducible repeat (first | apply bd1 | apply bd2 | apply bd3)); exact BK469.out) hb); have n5_ := Aside0.mk (below_step (by repeat (first | (with_reducible first | exact HB.out | apply below_alloc | apply pw_below_drewN | apply below_drew1 | refine below_set ?_ GE420.out | refine below_set ?_ GE440.out | refine below_set ?_ GE451.out | refine below_set ?_ GE460.out | refine below_set ?_ GE469.out) | exact HB.out)) hb); have n6_ := Aside0.mk (hbox); have n7_ := Aside0.mk ((by rw [hg]; exact (below_size (by repeat (first | (with_reducible first | exact HB.out | apply below_alloc | apply pw_below_drewN | apply below_drew1 | refine below_set ?_ GE420.out | refine below_set ?_ GE440.out | refine below_set ?_ GE451.out | refine below_set ?_ GE460.out | refine below_set ?_ GE469.out) | exact HB.out))) : w.heap.size ≤ gb470)); have n8_ := Aside0.mk ((by rw [hg]; exact (below_size (by repeat (first | (with_reducible first | exact HB.out | apply below_alloc | apply pw_below_drewN | apply below_drew1 | refine below_set ?_ GE420.out | refine below_set ?_ GE440.out | refine below_set ?_ GE451.out | refine below_set ?_ GE460.out | refine below_set ?_ GE469.out) | exact HB.out))) : w.heap.size ≤ gb470)); have n9_ := Aside0.mk ((by rw [hg]; exact Nat.ne_of_lt (blk_lt (g := gb420) (o := .cells #[.int .i64 x421000_2, .int .i64 x421001_2, .int .i64 x421002_2, .bool x421003_2, .int .i64 x421004_2, .bool x421005_2, .int .i64 x421006_2] 28 (0, 0)) (by (with_reducible repeat (first | apply bd1 | apply bd2 | apply bd3)); exact BK420.out)) : gb420 ≠ gb470)); have n10_ := Aside0.mk ((by rw [hg]; exact Nat.ne_of_gt (blk_lt (g := gb420) (o := .cells #[.int .i64 x421000_2, .int .i64 x421001_2, .int .i64 x421002_2, .bool x421003_2, .int .i64 x421004_2, .bool x421005_2, .int .i64 x421006_2] 28 (0, 0)) (by (with_reducible repeat (first | apply bd1 | apply bd2 | apply bd3)); exact BK420.out)) : gb470 ≠ gb420)); have n11_ := Aside0.mk ((by rw [hg]; exact Nat.ne_of_lt (blk_lt (g := gb440) (o := .cells #[.int .i64 t432, .int .i64 t433, .int .i64 t434, .bool t435, .int .i64 t436, .bool t437, .int .i64 t438] 28 (0, 0)) (by (with_reducible repeat (first | apply bd1 | apply bd2 | apply bd3)); exact BK440.out)) : gb440 ≠ gb470)); have n12_ := Aside0.mk ((by rw [hg]; exact Nat.ne_of_gt (blk_lt (g := gb440) (o := .cells #[.int .i64 t432, .int .i64 t433, .int .i64 t434, .bool t435, .int .i64 t436, .bool t437, .int .i64 t438] 28 (0, 0)) (by (with_reducible repeat (first | apply bd1 | apply bd2 | apply bd3)); exact BK440.out)) : gb470 ≠ gb440)); have n13_ := Aside0.mk ((by rw [hg]; exact Nat.ne_of_lt (blk_lt (g := gb451) (o := .cells #[.int .i64 t443, .int .i64 t444, .int .i64 t445, .bool t446, .int .i64 t447, .bool t448, .int .i64 t449] 28 (0, 0)) (by (with_reducible repeat (first | apply bd1 | apply bd2 | apply bd3)); exact BK451.out)) : gb451 ≠ gb470)); have n14_ := Aside0.mk ((by rw [hg]; exact Nat.ne_of_gt (blk_lt (g := gb451) (o := .cells #[.int .i64 t443, .int .i64 t444, .int .i64 t445, .bool t446, .int .i64 t447, .bool t448, .int .i64 t449] 28 (0, 0)) (by (with_reducible repeat (first | apply bd1 | apply bd2 | apply bd3)); exact BK451.out)) : gb470 ≠ gb451)); have n15_ := Aside0.mk ((by rw [hg]; exact Nat.ne_of_lt (blk_lt (g := gb460) (o := .cells #[.int .i64 t452, .int .i64 t453, .int .i64 t454, .bool t455, .int .i64 t456, .bool t457, .int .i64 t458] 28 (0, 0)) (by (with_reducible repeat (first | apply bd1 | apply bd2 | apply bd3)); exact BK460.out)) : gb460 ≠ gb470)); have n16_ := Aside0.mk ((by rw [hg]; exact Nat.ne_of_gt (blk_lt (g := gb460) (o := .cells #[.int .i64 t452, .int .i64 t453, .int .i64 t454, .bool t455, .int .i64 t456, .bool t457, .int .i64 t458] 28 (0, 0)) (by (with_reducible repeat (first | apply bd1 | apply bd2 | apply bd3)); exact BK460.out)) : gb470 ≠ gb460)); have n17_ := Aside0.mk ((by rw [hg]; exact Nat.ne_of_lt (blk_lt (g := gb469) (o := .cells #[.int .i64 t461, .int .i64 t462, .int .i64 t463, .bool t464, .int .i64 t465, .bool t466, .int .i64 t467] 28 (0, 0)) (by (with_reducible repeat (first | apply bd1 | apply bd2 | apply bd3)); exact BK469.out)) : gb469 ≠ gb470)); have n18_ := Aside0.mk ((by rw [hg]; exact Nat.ne_of_gt (blk_lt (g := gb469) (o := .cells #[.int .i64 t461, .int .i64 t462, .int .i64 t463, .bool t464, .int .i64 t465, .bool t466, .int .i64 t467] 28 (0, 0)) (by (with_reducible repeat (first | apply bd1 | apply bd2 | apply bd3)); exact BK469.out)) : gb470 ≠ gb469)); clear BK420; clear BK440; clear BK451; clear BK460; clear BK469; clear HB; have BK420 := n0_; have BK440 := n1_; have BK451 := n2_; have BK460 := n3_; have BK469 := n4_; have HB := n5_; have BK470 := n6_; have GW470 := n7_; have GE470 := n8_; have NB420_470 := n9_; have NB470_420 := n10_; have NB440_470 := n11_; have NB470_440 := n12_; have NB451_470 := n13_; have NB470_451 := n14_; have NB460_470 := n15_; have NB470_460 := n16_; have NB469_470 := n17_; have NB470_469 := n18_; clear n0_ n1_ n2_ n3_ n4_ n5_ n6_ n7_ n8_ n9_ n10_ n11_ n12_ n13_ n14_ n15_ n16_ n17_ n18_; clear hb hbox hg; have hnb127 := NB470_420.out; have hnc127 := NB420_470.out; have hnb128 := NB470_440.out; have hnc128 := NB440_470.out; have hnb129 := NB470_451.out; have hnc129 := NB451_470.out; have hnb130 := NB470_460.out; have hnc130 := NB460_470.out; have hnb131 := NB470_469.out; have hnc131 := NB469_470.out; obtain ⟨hcz132_0, hcz132_1, hcz132_2, hcz132_3, hcz132_4, hcz132_5, hcz132_6, hfz132_0, hfz132_1, hfz132_2, hfz132_3, hfz132_4, hfz132_5, hfz132_6⟩ := blk_all7 BK470.out))
                   go_loopg [22] kj59 (fun kq v22 w' => ∃ (x22_6 : Int) (x471000_6 : Int) (x471001_6 : Int) (x471002_6 : Int) (x471003_6 : Bool) (x471004_6 : Int) (x471005_6 : Bool) (x471006_6 : Int), v22 = .int .i64 x22_6 ∧ Aside0 (drayagelaw14_SagaTicks.l1 kq l0 ((rd_T38 l0 x421001_2).f2) x22_6 t443 t444 t445 t446 t447 t448 t449 x471000_6 x471001_6 x471002_6 x471003_6 x471004_6 x471005_6 x471006_6 = some r) ∧ Aside0 (kq ≤ kj59) ∧ Aside0 (w'.heap[gb420]? = some (.cells #[.int .i64 x421000_2, .int .i64 x421001_2, .int .i64 x421002_2, .bool x421003_2, .int .i64 x421004_2, .bool x421005_2, .int .i64 x421006_2] 28 (0, 0))) ∧ Aside0 (w'.heap[gb440]? = some (.cells #[.int .i64 t432, .int .i64 t433, .int .i64 t434, .bool t435, .int .i64 t436, .bool t437, .int .i64 t438] 28 (0, 0))) ∧ Aside0 (w'.heap[gb451]? = some (.cells #[.int .i64 t443, .int .i64 t444, .int .i64 t445, .bool t446, .int .i64 t447, .bool t448, .int .i64 t449] 28 (0, 0))) ∧ Aside0 (w'.heap[gb460]? = some (.cells #[.int .i64 t452, .int .i64 t453, .int .i64 t454, .bool t455, .int .i64 t456, .bool t457, .int .i64 t458] 28 (0, 0))) ∧ Aside0 (w'.heap[gb469]? = some (.cells #[.int .i64 t461, .int .i64 t462, .int .i64 t463, .bool t464, .int .i64 t465, .bool t466, .int .i64 t467] 28 (0, 0))) ∧ Aside0 (w'.heap[gb470]? = some (.cells #[.int .i64 x471000_6, .int .i64 x471001_6, .int .i64 x471002_6, .bool x471003_6, .int .i64 x471004_6, .bool x471005_6, .int .i64 x471006_6] 28 (0, 0))) ∧ Aside0 (Below w.heap.size w w'))
                   case atStart => exact ⟨(0), (t432), (t433), (t434), (t435), (t436), (t437), (t438), (by first | rfl | (simp; done) | (simp [*]; done)), H', ⟨Nat.le_refl _⟩, ⟨by (with_reducible repeat (first | apply bd1 | apply bd2 | apply bd3)); refine blk_far ?_ NB420_470.out _; (with_reducible repeat (first | apply bd1 | apply bd2 | apply bd3)); refine blk_far ?_ NB420_470.out _; (with_reducible repeat (first | apply bd1 | apply bd2 | apply bd3)); refine blk_far ?_ NB420_470.out _; (with_reducible repeat (first | apply bd1 | apply bd2 | apply bd3)); refine blk_far ?_ NB420_470.out _; (with_reducible repeat (first | apply bd1 | apply bd2 | apply bd3)); refine blk_far ?_ NB420_470.out _; (with_reducible repeat (first | apply bd1 | apply bd2 | apply bd3)); refine blk_far ?_ NB420_470.out _; (with_reducible repeat (first | apply bd1 | apply bd2 | apply bd3)); refine blk_far ?_ NB420_470.out _; (with_reducible repeat (first | apply bd1 | apply bd2 | apply bd3)); exact BK420.out⟩, ⟨by (with_reducible repeat (first | apply bd1 | apply bd2 | apply bd3)); refine blk_far ?_ NB440_470.out _; (with_reducible repeat (first | apply bd1 | apply bd2 | apply bd3)); refine blk_far ?_ NB440_470.out _; (with_reducible repeat (first | apply bd1 | apply bd2 | apply bd3)); refine blk_far ?_ NB440_470.out _; (with_reducible repeat (first | apply bd1 | apply bd2 | apply bd3)); refine blk_far ?_ NB440_470.out _; (with_reducible repeat (first | apply bd1 | apply bd2 | apply bd3)); refine blk_far ?_ NB440_470.out _; (with_reducible repeat (first | apply bd1 | apply bd2 | apply bd3)); refine blk_far ?_ NB440_470.out _; (with_reducible repeat (first | apply bd1 | apply bd2 | apply bd3)); refine blk_far ?_ NB440_470.out _; (with_reducible repeat (first | apply bd1 | apply bd2 | apply bd3)); exact BK440.out⟩, ⟨by (with_reducible repeat (first | apply bd1 | apply bd2 | apply bd3)); refine blk_far ?_ NB451_470.out _; (with_reducible repeat (first | apply bd1 | apply bd2 | apply bd3)); refine blk_far ?_ NB451_470.out _; (with_reducible repeat (first | apply bd1 | apply bd2 | apply bd3)); refine blk_far ?_ NB451_470.out _; (with_reducible repeat (first | apply bd1 | apply bd2 | apply bd3)); refine blk_far ?_ NB451_470.out _; (with_reducible repeat (first | apply bd1 | apply bd2 | apply bd3)); refine blk_far ?_ NB451_470.out _; (with_reducible repeat (first | apply bd1 | apply bd2 | apply bd3)); refine blk_far ?_ NB451_470.out _; (with_reducible repeat (first | apply bd1 | apply bd2 | apply bd3)); refine blk_far ?_ NB451_470.out _; (with_reducible repeat (first | apply bd1 | apply bd2 | apply bd3)); exact BK451.out⟩, ⟨by (with_reducible repeat (first | apply bd1 | apply bd2 | apply bd3)); refine blk_far ?_ NB460_470.out _; (with_reducible repeat (first | apply bd1 | apply bd2 | apply bd3)); refine blk_far ?_ NB460_470.out _; (with_reducible repeat (first | apply bd1 | apply bd2 | apply bd3)); refine blk_far ?_ NB460_470.out _; (with_reducible repeat (first | apply bd1 | apply bd2 | apply bd3)); refine blk_far ?_ NB460_470.out _; (with_reducible repeat (first | apply bd1 | apply bd2 | apply bd3)); refine blk_far ?_ NB460_470.out _; (with_reducible repeat (first | apply bd1 | apply bd2 | apply bd3)); refine blk_far ?_ NB460_470.out _; (with_reducible repeat (first | apply bd1 | apply bd2 | apply bd3)); refine blk_far ?_ NB460_470.out _; (with_reducible repeat (first | apply bd1 | apply bd2 | apply bd3)); exact BK460.out⟩, ⟨by (with_reducible repeat (first | apply bd1 | apply bd2 | apply bd3)); refine blk_far ?_ NB469_470.out _; (with_reducible repeat (first | apply bd1 | apply bd2 | apply bd3)); refine blk_far ?_ NB469_470.out _; (with_reducible repeat (first | apply bd1 | apply bd2 | apply bd3)); refine blk_far ?_ NB469_470.out _; (with_reducible repeat (first | apply bd1 | apply bd2 | apply bd3)); refine blk_far ?_ NB469_470.out _; (with_reducible repeat (first | apply bd1 | apply bd2 | apply bd3)); refine blk_far ?_ NB469_470.out _; (with_reducible repeat (first | apply bd1 | apply bd2 | apply bd3)); refine blk_far ?_ NB469_470.out _; (with_reducible repeat (first | apply bd1 | apply bd2 | apply bd3)); refine blk_far ?_ NB469_470.out _; (with_reducible repeat (first | apply bd1 | apply bd2 | apply bd3)); exact BK469.out⟩, ⟨by (with_reducible repeat (first | apply bd1 | apply bd2 | apply bd3)); refine blk_put (cs := #[.int .i64 t432, .int .i64 t433, .int .i64 t434, .bool t435, .int .i64 t436, .bool t437, .int .i64 0]) ?_ 6 _ rfl; (with_reducible repeat (first | apply bd1 | apply bd2 | apply bd3)); refine blk_put (cs := #[.int .i64 t432, .int .i64 t433, .int .i64 t434, .bool t435, .int .i64 t436, .bool false, .int .i64 0]) ?_ 5 _ rfl; (with_reducible repeat (first | apply bd1 | apply bd2 | apply bd3)); refine blk_put (cs := #[.int .i64 t432, .int .i64 t433, .int .i64 t434, .bool t435, .int .i64 0, .bool false, .int .i64 0]) ?_ 4 _ rfl; (with_reducible repeat (first | apply bd1 | apply bd2 | apply bd3)); refine blk_put (cs := #[.int .i64 t432, .int .i64 t433, .int .i64 t434, .bool false, .int .i64 0, .bool false, .int .i64 0]) ?_ 3 _ rfl; (with_reducible repeat (first | apply bd1 | apply bd2 | apply bd3)); refine blk_put (cs := #[.int .i64 t432, .int .i64 t433, .int .i64 0, .bool false, .int .i64 0, .bool false, .int .i64 0]) ?_ 2 _ rfl; (with_reducible repeat (first | apply bd1 | apply bd2 | apply bd3)); refine blk_put (cs := #[.int .i64 t432, .int .i64 0, .int .i64 0, .bool false, .int .i64 0, .bool false, .int .i64 0]) ?_ 1 _ rfl; (with_reducible repeat (first | apply bd1 | apply bd2 | apply bd3)); refine blk_put (cs := #[.int .i64 0, .int .i64 0, .int .i64 0, .bool false, .int .i64 0, .bool false, .int .i64 0]) ?_ 0 _ rfl; (with_reducible repeat (first | apply bd1 | apply bd2 | apply bd3)); exact BK470.out⟩, ⟨by repeat (first | (with_reducible first | exact HB.out | apply below_alloc | apply pw_below_drewN | apply below_drew1 | refine below_set ?_ GE420.out | refine below_set ?_ GE440.out | refine below_set ?_ GE451.out | refine below_set ?_ GE460.out | refine below_set ?_ GE469.out | refine below_set ?_ GE470.out) | exact HB.out)⟩⟩
                   case round =>
                    clear H'
                    try clear c1
                    try clear c2
                    try clear p2
                    try clear c3
                    try clear c4
                    try clear p4
                    try clear q4
                    try clear hx4
                    try clear c5
                    try clear c6
                    try clear p6
                    try clear c7
                    try clear c8
                    try clear c9
                    try clear c10
                    try clear c11
                    try clear c12
                    try clear c13
                    try clear c14
                    try clear c15
                    try clear c17
                    try clear c17b0
                    try clear c18
                    try clear c19
                    try clear c19b0
                    try clear c20
                    try clear c20b0
                    try clear c22
                    try clear c26
                    try clear c34
                    try clear c38
                    try clear c38b0
                    try clear c38b1
                    try clear c41
                    try clear p42
                    try clear q42
                    try clear hx42
                    try clear c44
                    try clear p44
                    try clear q44
                    try clear hx44
                    try clear c45
                    try clear c45b0
                    try clear c45b1
                    try clear c46
                    try clear c46b0
                    try clear c47
                    try clear c47b0
                    try clear c48
                    try clear c48b0
                    try clear c53
                    try clear c64
                    try clear p64
                    try clear c69
                    try clear c70
                    try clear c75
                    try clear c76
                    try clear c77
                    try clear c82
                    try clear c83
                    try clear c84
                    try clear c85
                    try clear c87
                    try clear c87b0
                    try clear c87b1
                    try clear c88
                    try clear c88b0
                    try clear c89
                    try clear c90
                    try clear c91
                    try clear c92
                    try clear c94
                    try clear c95
                    try clear c96
                    try clear c98
                    try clear c98b0
                    try clear c98b1
                    try clear c99
                    try clear c100
                    try clear c101
                    try clear c102
                    try clear c104
                    try clear c105
                    try clear c106
                    try clear c108
                    try clear c109
                    try clear c111
                    try clear c112
                    try clear c113
                    try clear c114
                    try clear c116
                    try clear c117
                    try clear c118
                    try clear c120
                    try clear c121
                    try clear c122
                    try clear c123
                    try clear c124
                    try clear c127
                    try clear c128
                    try clear c129
                    try clear c130
                    try clear c131
                    try clear hcz103_0
                    try clear hcz103_1
                    try clear hcz103_2
                    try clear hcz103_3
                    try clear hcz103_4
                    try clear hcz103_5
                    try clear hcz103_6
                    try clear hcz107_0
                    try clear hcz107_1
                    try clear hcz107_2
                    try clear hcz107_3
                    try clear hcz107_4
                    try clear hcz107_5
                    try clear hcz107_6
                    try clear hcz110_0
                    try clear hcz110_1
                    try clear hcz110_2
                    try clear hcz110_3
                    try clear hcz110_4
                    try clear hcz110_5
                    try clear hcz110_6
                    try clear hcz115_0
                    try clear hcz115_1
                    try clear hcz115_2
                    try clear hcz115_3
                    try clear hcz115_4
                    try clear hcz115_5
                    try clear hcz115_6
                    try clear hcz119_0
                    try clear hcz119_1
                    try clear hcz119_2
                    try clear hcz119_3
                    try clear hcz119_4
                    try clear hcz119_5
                    try clear hcz119_6
                    try clear hcz125_0
                    try clear hcz125_1
                    try clear hcz125_2
                    try clear hcz125_3
                    try clear hcz125_4
                    try clear hcz125_5
                    try clear hcz125_6
                    try clear hcz132_0
                    try clear hcz132_1
                    try clear hcz132_2
                    try clear hcz132_3
                    try clear hcz132_4
                    try clear hcz132_5
                    try clear hcz132_6
                    try clear hcz15_0
                    try clear hcz15_1
                    try clear hcz15_2
                    try clear hcz15_3
                    try clear hcz15_4
                    try clear hcz15_5
                    try clear hcz15_6
                    try clear hcz35_0
                    try clear hcz35_1
                    try clear hcz35_2
                    try clear hcz35_3
                    try clear hcz35_4
                    try clear hcz35_5
                    try clear hcz35_6
                    try clear hcz36_0
                    try clear hcz36_1
                    try clear hcz36_2
                    try clear hcz36_3
                    try clear hcz36_4
                    try clear hcz36_5
                    try clear hcz36_6
                    try clear hcz39_0
                    try clear hcz39_1
                    try clear hcz39_2
                    try clear hcz39_3
                    try clear hcz39_4
                    try clear hcz39_5
                    try clear hcz39_6
                    try clear hcz40_0
                    try clear hcz40_1
                    try clear hcz40_2
                    try clear hcz40_3
                    try clear hcz40_4
                    try clear hcz40_5
                    try clear hcz40_6
                    try clear hcz50_0
                    try clear hcz50_1
                    try clear hcz50_2
                    try clear hcz50_3
                    try clear hcz50_4
                    try clear hcz50_5
                    try clear hcz50_6
                    try clear hcz54_0
                    try clear hcz54_1
                    try clear hcz54_2
                    try clear hcz54_3
                    try clear hcz54_4
                    try clear hcz54_5
                    try clear hcz54_6
                    try clear hcz55_0
                    try clear hcz55_1
                    try clear hcz55_2
                    try clear hcz55_3
                    try clear hcz55_4
                    try clear hcz55_5
                    try clear hcz55_6
                    try clear hcz61_0
                    try clear hcz61_1
                    try clear hcz61_2
                    try clear hcz61_3
                    try clear hcz61_4
                    try clear hcz61_5
                    try clear hcz61_6
                    try clear hcz65_0
                    try clear hcz65_1
                    try clear hcz65_2
                    try clear hcz65_3
                    try clear hcz65_4
                    try clear hcz65_5
                    try clear hcz65_6
                    try clear hcz66_0
                    try clear hcz66_1
                    try clear hcz66_2
                    try clear hcz66_3
                    try clear hcz66_4
                    try clear hcz66_5
                    try clear hcz66_6
                    try clear hcz71_0
                    try clear hcz71_1
                    try clear hcz71_2
                    try clear hcz71_3
                    try clear hcz71_4
                    try clear hcz71_5
                    try clear hcz71_6
                    try clear hcz72_0
                    try clear hcz72_1
                    try clear hcz72_2
                    try clear hcz72_3
                    try clear hcz72_4
                    try clear hcz72_5
                    try clear hcz72_6
                    try clear hcz78_0
                    try clear hcz78_1
                    try clear hcz78_2
                    try clear hcz78_3
                    try clear hcz78_4
                    try clear hcz78_5
                    try clear hcz78_6
                    try clear hcz79_0
                    try clear hcz79_1
                    try clear hcz79_2
                    try clear hcz79_3
                    try clear hcz79_4
                    try clear hcz79_5
                    try clear hcz79_6
                    try clear hcz86_0
                    try clear hcz86_1
                    try clear hcz86_2
                    try clear hcz86_3
                    try clear hcz86_4
                    try clear hcz86_5
                    try clear hcz86_6
                    try clear hcz93_0
                    try clear hcz93_1
                    try clear hcz93_2
                    try clear hcz93_3
                    try clear hcz93_4
                    try clear hcz93_5
                    try clear hcz93_6
                    try clear hcz97_0
                    try clear hcz97_1
                    try clear hcz97_2
                    try clear hcz97_3
                    try clear hcz97_4
                    try clear hcz97_5
                    try clear hcz97_6
                    try clear hfz103_0
                    try clear hfz103_1
                    try clear hfz103_2
                    try clear hfz103_3
                    try clear hfz103_4
                    try clear hfz103_5
                    try clear hfz103_6
                    try clear hfz107_0
                    try clear hfz107_1
                    try clear hfz107_2
                    try clear hfz107_3
                    try clear hfz107_4
                    try clear hfz107_5
                    try clear hfz107_6
                    try clear hfz110_0
                    try clear hfz110_1
                    try clear hfz110_2
                    try clear hfz110_3
                    try clear hfz110_4
                    try clear hfz110_5
                    try clear hfz110_6
                    try clear hfz115_0
                    try clear hfz115_1
                    try clear hfz115_2
                    try clear hfz115_3
                    try clear hfz115_4
                    try clear hfz115_5
                    try clear hfz115_6
                    try clear hfz119_0
                    try clear hfz119_1
                    try clear hfz119_2
                    try clear hfz119_3
                    try clear hfz119_4
                    try clear hfz119_5
                    try clear hfz119_6
                    try clear hfz125_0
                    try clear hfz125_1
                    try clear hfz125_2
                    try clear hfz125_3
                    try clear hfz125_4
                    try clear hfz125_5
                    try clear hfz125_6
                    try clear hfz132_0
                    try clear hfz132_1
                    try clear hfz132_2
                    try clear hfz132_3
                    try clear hfz132_4
                    try clear hfz132_5
                    try clear hfz132_6
                    try clear hfz15_0
                    try clear hfz15_1
                    try clear hfz15_2
                    try clear hfz15_3
                    try clear hfz15_4
                    try clear hfz15_5
                    try clear hfz15_6
                    try clear hfz35_0
                    try clear hfz35_1
                    try clear hfz35_2
                    try clear hfz35_3
                    try clear hfz35_4
                    try clear hfz35_5
                    try clear hfz35_6
                    try clear hfz36_0
                    try clear hfz36_1
                    try clear hfz36_2
                    try clear hfz36_3
                    try clear hfz36_4
                    try clear hfz36_5
                    try clear hfz36_6
                    try clear hfz39_0
                    try clear hfz39_1
                    try clear hfz39_2
                    try clear hfz39_3
                    try clear hfz39_4
                    try clear hfz39_5
                    try clear hfz39_6
                    try clear hfz40_0
                    try clear hfz40_1
                    try clear hfz40_2
                    try clear hfz40_3
                    try clear hfz40_4
                    try clear hfz40_5
                    try clear hfz40_6
                    try clear hfz50_0
                    try clear hfz50_1
                    try clear hfz50_2
                    try clear hfz50_3
                    try clear hfz50_4
                    try clear hfz50_5
                    try clear hfz50_6
                    try clear hfz54_0
                    try clear hfz54_1
                    try clear hfz54_2
                    try clear hfz54_3
                    try clear hfz54_4
                    try clear hfz54_5
                    try clear hfz54_6
                    try clear hfz55_0
                    try clear hfz55_1
                    try clear hfz55_2
                    try clear hfz55_3
                    try clear hfz55_4
                    try clear hfz55_5
                    try clear hfz55_6
                    try clear hfz61_0
                    try clear hfz61_1
                    try clear hfz61_2
                    try clear hfz61_3
                    try clear hfz61_4
                    try clear hfz61_5
                    try clear hfz61_6
                    try clear hfz65_0
                    try clear hfz65_1
                    try clear hfz65_2
                    try clear hfz65_3
                    try clear hfz65_4
                    try clear hfz65_5
                    try clear hfz65_6
                    try clear hfz66_0
                    try clear hfz66_1
                    try clear hfz66_2
                    try clear hfz66_3
                    try clear hfz66_4
                    try clear hfz66_5
                    try clear hfz66_6
                    try clear hfz71_0
                    try clear hfz71_1
                    try clear hfz71_2
                    try clear hfz71_3
                    try clear hfz71_4
                    try clear hfz71_5
                    try clear hfz71_6
                    try clear hfz72_0
                    try clear hfz72_1
                    try clear hfz72_2
                    try clear hfz72_3
                    try clear hfz72_4
                    try clear hfz72_5
                    try clear hfz72_6
                    try clear hfz78_0
                    try clear hfz78_1
                    try clear hfz78_2
                    try clear hfz78_3
                    try clear hfz78_4
                    try clear hfz78_5
                    try clear hfz78_6
                    try clear hfz79_0
                    try clear hfz79_1
                    try clear hfz79_2
                    try clear hfz79_3
                    try clear hfz79_4
                    try clear hfz79_5
                    try clear hfz79_6
                    try clear hfz86_0
                    try clear hfz86_1
                    try clear hfz86_2
                    try clear hfz86_3
                    try clear hfz86_4
                    try clear hfz86_5
                    try clear hfz86_6
                    try clear hfz93_0
                    try clear hfz93_1
                    try clear hfz93_2
                    try clear hfz93_3
                    try clear hfz93_4
                    try clear hfz93_5
                    try clear hfz93_6
                    try clear hfz97_0
                    try clear hfz97_1
                    try clear hfz97_2
                    try clear hfz97_3
                    try clear hfz97_4
                    try clear hfz97_5
                    try clear hfz97_6
                    try clear hx421_0
                    try clear hx421_1
                    try clear hx421_2
                    try clear hx441_0
                    try clear hx441_1
                    try clear hx441_2
                    try clear hx441_3
                    try clear hx441_4
                    try clear hx441_5
                    try clear p2
                    try clear p4
                    try clear p42
                    try clear p421
                    try clear p44
                    try clear p441
                    try clear p6
                    try clear p64
                    try clear q4
                    try clear q42
                    try clear q421
                    try clear q44
                    try clear q441
                    obtain ⟨x22_6, x471000_6, x471001_6, x471002_6, x471003_6, x471004_6, x471005_6, x471006_6, rfl, HA, HK6, BK420, BK440, BK451, BK460, BK469, BK470, HB⟩ := hrel
                    cases gk with
                    | zero => exact absurd HA.out (by simp [drayagelaw14_SagaTicks.l1])
                    | succ k6 =>
                     have H := HA.out
                     clear HA
                     simp only [drayagelaw14_SagaTicks.l1] at H
                     by_cases c133 : x22_6 < ((rd_T38 l0 x421001_2).f2)
                     ·
                      rw [if_pos c133] at H
                      have c133b0 : decide (x22_6 < ((rd_T38 l0 x421001_2).f2)) = true := decide_eq_true c133
                      clear c133
                      by_cases c134 : x471004_6 = (wrap64 (((rd_T38 l0 x421001_2).f2) - x22_6))
                      ·
                       rw [if_pos c134] at H
                       have c134b0 : (x471004_6 == (wrap64 (((rd_T38 l0 x421001_2).f2) - x22_6))) = true := beq_iff_eq.mpr c134
                       have c134b1 : (x471004_6 != (wrap64 (((rd_T38 l0 x421001_2).f2) - x22_6))) = false := bne_eq_false_iff_eq.mpr c134
                       clear c134
                       by_cases c135 : x471003_6 = true
                       ·
                        subst c135
                        have H1 : ((saga_Tick.f k6 l0 x471000_6 x471001_6 x471002_6 true x471004_6 x471005_6 x471006_6).bind fun bt471 => (drayagelaw14_SagaTicks.l1 k6 l0 ((rd_T38 l0 x421001_2).f2) (wrap64 (x22_6 + 1)) t443 t444 t445 t446 t447 t448 t449 bt471.1 bt471.2.1 bt471.2.2.1 bt471.2.2.2.1 bt471.2.2.2.2.1 bt471.2.2.2.2.2.1 bt471.2.2.2.2.2.2.1)) = some r := by rw [if_pos rfl] at H; exact H
                        clear H
                        have H := H1
                        clear H1
                        replace H := Option.bind_eq_some_iff.mp H
                        obtain ⟨⟨t471, t472, t473, t474, t475, t476, t477, t478⟩, A1360, H⟩ := H
                        replace H : (drayagelaw14_SagaTicks.l1 k6 l0 ((rd_T38 l0 x421001_2).f2) (wrap64 (x22_6 + 1)) t443 t444 t445 t446 t447 t448 t449 t471 t472 t473 t474 t475 t476 t477) = some r := H
                        have A136 := Aside0.mk A1360
                        clear A1360
                        have H' := Aside0.mk H
                        clear H
                        have hnb137 := NB470_420.out
                        have hnc137 := NB420_470.out
                        have hnb138 := NB470_440.out
                        have hnc138 := NB440_470.out
                        have hnb139 := NB470_451.out
                        have hnc139 := NB451_470.out
                        have hnb140 := NB470_460.out
                        have hnc140 := NB460_470.out
                        have hnb141 := NB470_469.out
                        have hnc141 := NB469_470.out
                        obtain ⟨hcz142_0, hcz142_1, hcz142_2, hcz142_3, hcz142_4, hcz142_5, hcz142_6, hfz142_0, hfz142_1, hfz142_2, hfz142_3, hfz142_4, hfz142_5, hfz142_6⟩ := blk_all7 BK470.out
                        go_wp2_with (first | ((with_reducible refine gate_callee (f := 20) rfl ?_); refine goesL_ (some 156) rfl rfl Try.func20 (by kernel_rfl) rfl #[.slice (some ad441) l0.length c0, .agg #[.int .i64 x471000_6, .int .i64 x471001_6, .int .i64 x471002_6, .bool true, .int .i64 x471004_6, .bool x471005_6, .int .i64 x471006_6]] rfl (by (try simp only [List.map_toArray, List.map_cons, List.map_nil]); first | done | rfl | (simp only [List.length_drop, List.length_take]; rfl)) ?_; (with_reducible refine (saga_Tick.calls k6 _ _ l0 x471000_6 x471001_6 x471002_6 true x471004_6 x471005_6 x471006_6 t471 t472 t473 t474 t475 t476 t477 t478 _ ?side1 ?side2 A136.out).mono ?_); (case side1 => repeat (first | exact (Kd.C_below HR0.out HB.out) | (with_reducible refine Kd.C_alloc ?_ _) | (with_reducible refine Kd.C_drewN ?_ _) | (with_reducible refine Kd.C_drew ?_))); (case side2 => exact HC0.out); rintro e w143 ⟨rfl, hb⟩; refine ⟨_, rfl, ?_⟩; have n0_ := Aside0.mk (blk_below (g := gb420) (o := .cells #[.int .i64 x421000_2, .int .i64 x421001_2, .int .i64 x421002_2, .bool x421003_2, .int .i64 x421004_2, .bool x421005_2, .int .i64 x421006_2] 28 (0, 0)) (by (with_reducible repeat (first | apply bd1 | apply bd2 | apply bd3)); exact BK420.out) hb); have n1_ := Aside0.mk (blk_below (g := gb440) (o := .cells #[.int .i64 t432, .int .i64 t433, .int .i64 t434, .bool t435, .int .i64 t436, .bool t437, .int .i64 t438] 28 (0, 0)) (by (with_reducible repeat (first | apply bd1 | apply bd2 | apply bd3)); exact BK440.out) hb); have n2_ := Aside0.mk (blk_below (g := gb451) (o := .cells #[.int .i64 t443, .int .i64 t444, .int .i64 t445, .bool t446, .int .i64 t447, .bool t448, .int .i64 t449] 28 (0, 0)) (by (with_reducible repeat (first | apply bd1 | apply bd2 | apply bd3)); exact BK451.out) hb); have n3_ := Aside0.mk (blk_below (g := gb460) (o := .cells #[.int .i64 t452, .int .i64 t453, .int .i64 t454, .bool t455, .int .i64 t456, .bool t457, .int .i64 t458] 28 (0, 0)) (by (with_reducible repeat (first | apply bd1 | apply bd2 | apply bd3)); exact BK460.out) hb); have n4_ := Aside0.mk (blk_below (g := gb469) (o := .cells #[.int .i64 t461, .int .i64 t462, .int .i64 t463, .bool t464, .int .i64 t465, .bool t466, .int .i64 t467] 28 (0, 0)) (by (with_reducible repeat (first | apply bd1 | apply bd2 | apply bd3)); exact BK469.out) hb); have n5_ := Aside0.mk (blk_below (g := gb470) (o := .cells #[.int .i64 x471000_6, .int .i64 x471001_6, .int .i64 x471002_6, .bool true, .int .i64 x471004_6, .bool x471005_6, .int .i64 x471006_6] 28 (0, 0)) (by (with_reducible repeat (first | apply bd1 | apply bd2 | apply bd3)); exact BK470.out) hb); have n6_ := Aside0.mk (below_step (by repeat (first | (with_reducible first | exact HB.out | apply below_alloc | apply pw_below_drewN | apply below_drew1 | refine below_set ?_ GE420.out | refine below_set ?_ GE440.out | refine below_set ?_ GE451.out | refine below_set ?_ GE460.out | refine below_set ?_ GE469.out | refine below_set ?_ GE470.out) | exact HB.out)) hb); clear BK420; clear BK440; clear BK451; clear BK460; clear BK469; clear BK470; clear HB; have BK420 := n0_; have BK440 := n1_; have BK451 := n2_; have BK460 := n3_; have BK469 := n4_; have BK470 := n5_; have HB := n6_; clear n0_ n1_ n2_ n3_ n4_ n5_ n6_; (try clear hb); (try clear hb2); (try clear hk); (try clear hi); obtain ⟨hcz144_0, hcz144_1, hcz144_2, hcz144_3, hcz144_4, hcz144_5, hcz144_6, hfz144_0, hfz144_1, hfz144_2, hfz144_3, hfz144_4, hfz144_5, hfz144_6⟩ := blk_all7 BK470.out))
                        go_roundg k6
                        case measure => have := HJ3.out; have := HK2.out; have := HJ15.out; have := HJ36.out; have := HJ59.out; have := HK6.out; omega
                        case rel => exact ⟨(wrap64 (x22_6 + 1)), (t471), (t472), (t473), (t474), (t475), (t476), (t477), (by first | rfl | (simp; done) | (simp [*]; done)), H', ⟨by have := HJ3.out; have := HK2.out; have := HJ15.out; have := HJ36.out; have := HJ59.out; have := HK6.out; omega⟩, ⟨by (with_reducible repeat (first | apply bd1 | apply bd2 | apply bd3)); refine blk_far ?_ NB420_470.out _; (with_reducible repeat (first | apply bd1 | apply bd2 | apply bd3)); refine blk_far ?_ NB420_470.out _; (with_reducible repeat (first | apply bd1 | apply bd2 | apply bd3)); refine blk_far ?_ NB420_470.out _; (with_reducible repeat (first | apply bd1 | apply bd2 | apply bd3)); refine blk_far ?_ NB420_470.out _; (with_reducible repeat (first | apply bd1 | apply bd2 | apply bd3)); refine blk_far ?_ NB420_470.out _; (with_reducible repeat (first | apply bd1 | apply bd2 | apply bd3)); refine blk_far ?_ NB420_470.out _; (with_reducible repeat (first | apply bd1 | apply bd2 | apply bd3)); refine blk_far ?_ NB420_470.out _; (with_reducible repeat (first | apply bd1 | apply bd2 | apply bd3)); exact BK420.out⟩, ⟨by (with_reducible repeat (first | apply bd1 | apply bd2 | apply bd3)); refine blk_far ?_ NB440_470.out _; (with_reducible repeat (first | apply bd1 | apply bd2 | apply bd3)); refine blk_far ?_ NB440_470.out _; (with_reducible repeat (first | apply bd1 | apply bd2 | apply bd3)); refine blk_far ?_ NB440_470.out _; (with_reducible repeat (first | apply bd1 | apply bd2 | apply bd3)); refine blk_far ?_ NB440_470.out _; (with_reducible repeat (first | apply bd1 | apply bd2 | apply bd3)); refine blk_far ?_ NB440_470.out _; (with_reducible repeat (first | apply bd1 | apply bd2 | apply bd3)); refine blk_far ?_ NB440_470.out _; (with_reducible repeat (first | apply bd1 | apply bd2 | apply bd3)); refine blk_far ?_ NB440_470.out _; (with_reducible repeat (first | apply bd1 | apply bd2 | apply bd3)); exact BK440.out⟩, ⟨by (with_reducible repeat (first | apply bd1 | apply bd2 | apply bd3)); refine blk_far ?_ NB451_470.out _; (with_reducible repeat (first | apply bd1 | apply bd2 | apply bd3)); refine blk_far ?_ NB451_470.out _; (with_reducible repeat (first | apply bd1 | apply bd2 | apply bd3)); refine blk_far ?_ NB451_470.out _; (with_reducible repeat (first | apply bd1 | apply bd2 | apply bd3)); refine blk_far ?_ NB451_470.out _; (with_reducible repeat (first | apply bd1 | apply bd2 | apply bd3)); refine blk_far ?_ NB451_470.out _; (with_reducible repeat (first | apply bd1 | apply bd2 | apply bd3)); refine blk_far ?_ NB451_470.out _; (with_reducible repeat (first | apply bd1 | apply bd2 | apply bd3)); refine blk_far ?_ NB451_470.out _; (with_reducible repeat (first | apply bd1 | apply bd2 | apply bd3)); exact BK451.out⟩, ⟨by (with_reducible repeat (first | apply bd1 | apply bd2 | apply bd3)); refine blk_far ?_ NB460_470.out _; (with_reducible repeat (first | apply bd1 | apply bd2 | apply bd3)); refine blk_far ?_ NB460_470.out _; (with_reducible repeat (first | apply bd1 | apply bd2 | apply bd3)); refine blk_far ?_ NB460_470.out _; (with_reducible repeat (first | apply bd1 | apply bd2 | apply bd3)); refine blk_far ?_ NB460_470.out _; (with_reducible repeat (first | apply bd1 | apply bd2 | apply bd3)); refine blk_far ?_ NB460_470.out _; (with_reducible repeat (first | apply bd1 | apply bd2 | apply bd3)); refine blk_far ?_ NB460_470.out _; (with_reducible repeat (first | apply bd1 | apply bd2 | apply bd3)); refine blk_far ?_ NB460_470.out _; (with_reducible repeat (first | apply bd1 | apply bd2 | apply bd3)); exact BK460.out⟩, ⟨by (with_reducible repeat (first | apply bd1 | apply bd2 | apply bd3)); refine blk_far ?_ NB469_470.out _; (with_reducible repeat (first | apply bd1 | apply bd2 | apply bd3)); refine blk_far ?_ NB469_470.out _; (with_reducible repeat (first | apply bd1 | apply bd2 | apply bd3)); refine blk_far ?_ NB469_470.out _; (with_reducible repeat (first | apply bd1 | apply bd2 | apply bd3)); refine blk_far ?_ NB469_470.out _; (with_reducible repeat (first | apply bd1 | apply bd2 | apply bd3)); refine blk_far ?_ NB469_470.out _; (with_reducible repeat (first | apply bd1 | apply bd2 | apply bd3)); refine blk_far ?_ NB469_470.out _; (with_reducible repeat (first | apply bd1 | apply bd2 | apply bd3)); refine blk_far ?_ NB469_470.out _; (with_reducible repeat (first | apply bd1 | apply bd2 | apply bd3)); exact BK469.out⟩, ⟨by (with_reducible repeat (first | apply bd1 | apply bd2 | apply bd3)); refine blk_put (cs := #[.int .i64 t471, .int .i64 t472, .int .i64 t473, .bool t474, .int .i64 t475, .bool t476, .int .i64 x471006_6]) ?_ 6 _ rfl; (with_reducible repeat (first | apply bd1 | apply bd2 | apply bd3)); refine blk_put (cs := #[.int .i64 t471, .int .i64 t472, .int .i64 t473, .bool t474, .int .i64 t475, .bool x471005_6, .int .i64 x471006_6]) ?_ 5 _ rfl; (with_reducible repeat (first | apply bd1 | apply bd2 | apply bd3)); refine blk_put (cs := #[.int .i64 t471, .int .i64 t472, .int .i64 t473, .bool t474, .int .i64 x471004_6, .bool x471005_6, .int .i64 x471006_6]) ?_ 4 _ rfl; (with_reducible repeat (first | apply bd1 | apply bd2 | apply bd3)); refine blk_put (cs := #[.int .i64 t471, .int .i64 t472, .int .i64 t473, .bool true, .int .i64 x471004_6, .bool x471005_6, .int .i64 x471006_6]) ?_ 3 _ rfl; (with_reducible repeat (first | apply bd1 | apply bd2 | apply bd3)); refine blk_put (cs := #[.int .i64 t471, .int .i64 t472, .int .i64 x471002_6, .bool true, .int .i64 x471004_6, .bool x471005_6, .int .i64 x471006_6]) ?_ 2 _ rfl; (with_reducible repeat (first | apply bd1 | apply bd2 | apply bd3)); refine blk_put (cs := #[.int .i64 t471, .int .i64 x471001_6, .int .i64 x471002_6, .bool true, .int .i64 x471004_6, .bool x471005_6, .int .i64 x471006_6]) ?_ 1 _ rfl; (with_reducible repeat (first | apply bd1 | apply bd2 | apply bd3)); refine blk_put (cs := #[.int .i64 x471000_6, .int .i64 x471001_6, .int .i64 x471002_6, .bool true, .int .i64 x471004_6, .bool x471005_6, .int .i64 x471006_6]) ?_ 0 _ rfl; (with_reducible repeat (first | apply bd1 | apply bd2 | apply bd3)); exact BK470.out⟩, ⟨by repeat (first | (with_reducible first | exact HB.out | apply below_alloc | apply pw_below_drewN | apply below_drew1 | refine below_set ?_ GE420.out | refine below_set ?_ GE440.out | refine below_set ?_ GE451.out | refine below_set ?_ GE460.out | refine below_set ?_ GE469.out | refine below_set ?_ GE470.out) | exact HB.out)⟩⟩
                       ·
                        replace c135 := Bool.eq_false_iff.mpr c135
                        subst c135
                        have H1 : (none) = some r := by rw [if_neg (show ¬ (false = true) by decide)] at H; exact H
                        clear H
                        have H := H1
                        clear H1
                        exact absurd H (by simp)
                      ·
                       rw [if_neg c134] at H
                       exact absurd H (by simp)
                     ·
                      rw [if_neg c133] at H
                      have c133b0 : decide (x22_6 < ((rd_T38 l0 x421001_2).f2)) = false := decide_eq_false c133
                      clear c133
                      by_cases c145 : (x471000_6 == t443 && (x471001_6 == t444 && (x471002_6 == t445 && (x471003_6 == t446 && (x471004_6 == t447 && (x471005_6 == t448 && (x471006_6 == t449))))))) = true
                      ·
                       rw [if_pos c145] at H
                       have c145b0 : (x471000_6 == t443 && (x471001_6 == t444 && (x471002_6 == t445 && (x471003_6 == t446 && (x471004_6 == t447 && (x471005_6 == t448 && (x471006_6 == t449))))))) = true := c145
                       (try (have c145b1 : decide (x471000_6 = t443 && (x471001_6 == t444 && (x471002_6 == t445 && (x471003_6 == t446 && (x471004_6 == t447 && (x471005_6 == t448 && (x471006_6 == t449))))))) = true := by simpa using c145))
                       (try (have c145b2 : (x471000_6 == t443 && (x471001_6 == t444 && (x471002_6 == t445 && (x471003_6 == t446 && (x471004_6 == t447 && (x471005_6 == t448 && (x471006_6 == t449))))))) = true := by simpa using c145))
                       clear c145
                       replace H := Option.bind_eq_some_iff.mp H
                       obtain ⟨t479, A1460, H⟩ := H
                       replace H : (some t479) = some r := H
                       have A146 := Aside0.mk A1460
                       clear A1460
                       obtain rfl := Option.some.inj H
                       have hnb147 := NB470_420.out
                       have hnc147 := NB420_470.out
                       have hnb148 := NB470_440.out
                       have hnc148 := NB440_470.out
                       have hnb149 := NB470_451.out
                       have hnc149 := NB451_470.out
                       have hnb150 := NB470_460.out
                       have hnc150 := NB460_470.out
                       have hnb151 := NB470_469.out
                       have hnc151 := NB469_470.out
                       obtain ⟨hcz152_0, hcz152_1, hcz152_2, hcz152_3, hcz152_4, hcz152_5, hcz152_6, hfz152_0, hfz152_1, hfz152_2, hfz152_3, hfz152_4, hfz152_5, hfz152_6⟩ := blk_all7 BK470.out
                       have hnb153 := NB451_420.out
                       have hnc153 := NB420_451.out
                       have hnb154 := NB451_440.out
                       have hnc154 := NB440_451.out
                       have hnb155 := NB451_460.out
                       have hnc155 := NB460_451.out
                       have hnb156 := NB451_469.out
                       have hnc156 := NB469_451.out
                       obtain ⟨hcz157_0, hcz157_1, hcz157_2, hcz157_3, hcz157_4, hcz157_5, hcz157_6, hfz157_0, hfz157_1, hfz157_2, hfz157_3, hfz157_4, hfz157_5, hfz157_6⟩ := blk_all7 BK451.out
                       go_wp2_with (first | (go_at_call 12; (with_reducible refine (drayagelaw14_known.calls k6  t479 _ A146.out).mono ?_); rintro e w158 ⟨rfl, hb⟩; have n0_ := Aside0.mk (blk_below (g := gb420) (o := .cells #[.int .i64 x421000_2, .int .i64 x421001_2, .int .i64 x421002_2, .bool x421003_2, .int .i64 x421004_2, .bool x421005_2, .int .i64 x421006_2] 28 (0, 0)) (by (with_reducible repeat (first | apply bd1 | apply bd2 | apply bd3)); exact BK420.out) hb); have n1_ := Aside0.mk (blk_below (g := gb440) (o := .cells #[.int .i64 t432, .int .i64 t433, .int .i64 t434, .bool t435, .int .i64 t436, .bool t437, .int .i64 t438] 28 (0, 0)) (by (with_reducible repeat (first | apply bd1 | apply bd2 | apply bd3)); exact BK440.out) hb); have n2_ := Aside0.mk (blk_below (g := gb451) (o := .cells #[.int .i64 t443, .int .i64 t444, .int .i64 t445, .bool t446, .int .i64 t447, .bool t448, .int .i64 t449] 28 (0, 0)) (by (with_reducible repeat (first | apply bd1 | apply bd2 | apply bd3)); exact BK451.out) hb); have n3_ := Aside0.mk (blk_below (g := gb460) (o := .cells #[.int .i64 t452, .int .i64 t453, .int .i64 t454, .bool t455, .int .i64 t456, .bool t457, .int .i64 t458] 28 (0, 0)) (by (with_reducible repeat (first | apply bd1 | apply bd2 | apply bd3)); exact BK460.out) hb); have n4_ := Aside0.mk (blk_below (g := gb469) (o := .cells #[.int .i64 t461, .int .i64 t462, .int .i64 t463, .bool t464, .int .i64 t465, .bool t466, .int .i64 t467] 28 (0, 0)) (by (with_reducible repeat (first | apply bd1 | apply bd2 | apply bd3)); exact BK469.out) hb); have n5_ := Aside0.mk (blk_below (g := gb470) (o := .cells #[.int .i64 x471000_6, .int .i64 x471001_6, .int .i64 x471002_6, .bool x471003_6, .int .i64 x471004_6, .bool x471005_6, .int .i64 x471006_6] 28 (0, 0)) (by (with_reducible repeat (first | apply bd1 | apply bd2 | apply bd3)); exact BK470.out) hb); have n6_ := Aside0.mk (below_step (by repeat (first | (with_reducible first | exact HB.out | apply below_alloc | apply pw_below_drewN | apply below_drew1 | refine below_set ?_ GE420.out | refine below_set ?_ GE440.out | refine below_set ?_ GE451.out | refine below_set ?_ GE460.out | refine below_set ?_ GE469.out | refine below_set ?_ GE470.out) | exact HB.out)) hb); clear BK420; clear BK440; clear BK451; clear BK460; clear BK469; clear BK470; clear HB; have BK420 := n0_; have BK440 := n1_; have BK451 := n2_; have BK460 := n3_; have BK469 := n4_; have BK470 := n5_; have HB := n6_; clear n0_ n1_ n2_ n3_ n4_ n5_ n6_; (try clear hb); (try clear hb2); (try clear hk); (try clear hi)))
                       go_ret
                       exact ⟨by first | rfl | (simp [errW_none, errW_some] <;> rfl) | (simp [*, errW_none, errW_some] <;> rfl), by repeat (first | (with_reducible first | exact HB.out | apply below_alloc | apply pw_below_drewN | apply below_drew1 | refine below_set ?_ GE420.out | refine below_set ?_ GE440.out | refine below_set ?_ GE451.out | refine below_set ?_ GE460.out | refine below_set ?_ GE469.out | refine below_set ?_ GE470.out) | exact HB.out)⟩
                      ·
                       rw [if_neg c145] at H
                       exact absurd H (by simp)
              ·
               rw [if_neg c47] at H
               exact absurd H (by simp)
             ·
              rw [if_neg c46] at H
              exact absurd H (by simp)
            ·
             rw [if_neg c45] at H
             exact absurd H (by simp)

end Go.Proofs.Yteefdhgfcnjpoaa.PA
