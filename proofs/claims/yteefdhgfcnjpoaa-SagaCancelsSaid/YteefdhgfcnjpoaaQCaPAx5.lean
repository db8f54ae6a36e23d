-- printed by a program of this work (wip/tools/pr.py over the kit's print): the machine's side of SagaTries, SagaMoves, SagaStays, SagaOrder, SagaEnds, SagaTicks
import Derived.Test.YteefdhgfcnjpoaaQCaPAx0
import Derived.Test.YteefdhgfcnjpoaaQCaPAx4
namespace Go.Proofs.Yteefdhgfcnjpoaa.PA
open Go.RowKit Go.Proofs.YteefdhgfcnjpoaaW.PrintWords Go.Proofs.YteefdhgfcnjpoaaW.PrintLast Go.Proofs.YteefdhgfcnjpoaaW.PrintMore
attribute [local go_sem] max2_int min2_int max_two min_two max_three min_three max_four min_four   -- for this text's walks alone
set_option linter.unusedVariables false
set_option linter.unusedSimpArgs false

/-! ### drayageref13_Check: function 11 -/
mutual
def drayageref13_Check.j0 : Nat → List (S38) → Bool → Option (Int)
  | 0, _, _ => none
  | k + 1, x0, x11 => if x11 = true then (some 130) else (drayageref13_Check.l0 k x0 0)
def drayageref13_Check.l0 : Nat → List (S38) → Int → Option (Int)
  | 0, _, _ => none
  | k + 1, x0, x3 => if x3 < (x0.length : Int) then (if 0 ≤ x3 then ((drayageref13_Right.f k ((rd_T38 x0 x3).f0.f0) ((rd_T38 x0 x3).f0.f1) ((rd_T38 x0 x3).f0.f2) ((rd_T38 x0 x3).f1) ((rd_T38 x0 x3).f2) ((rd_T38 x0 x3).f3)).bind fun t116 => (if t116 = true then (drayageref13_Check.l0 k x0 (wrap64 (x3 + 1))) else (some 130))) else (none)) else (some 0)
end
def drayageref13_Check.f (k : Nat) (l0 : List (S38)) : Option (Int) := if (l0.length : Int) = 0 then (drayageref13_Check.j0 k l0 true) else (drayageref13_Check.j0 k l0 (decide ((l0.length : Int) > 16)))

set_option maxHeartbeats 8000000 in
set_option maxRecDepth 100000 in
theorem drayageref13_Check.calls (k : Nat) (A0 : Option Addr) (c0 : Nat) (l0 : List (S38)) (r : Int) (w : World) (hr0 : Kd.C k38 w A0 l0.length l0) (hc0 : l0.length ≤ c0) (h : drayageref13_Check.f k l0 = some r) :
    Calls Try.prog 11 #[.slice A0 l0.length c0] w fun e w' => e = .returned (.int .i64 r) ∧ Below w.heap.size w w' := by
  have hu38 := Try.underlying38
  have HR0 := Aside0.mk hr0
  have HC0 := Aside0.mk hc0
  clear hr0 hc0
  have HB := Aside0.mk (Below.refl w.heap.size w)
  have H : (if (l0.length : Int) = 0 then (drayageref13_Check.j0 k l0 true) else (drayageref13_Check.j0 k l0 (decide ((l0.length : Int) > 16)))) = some r := h
  clear h
  have HC2 := Aside0.mk H
  clear H
  go_enter Try.func11, Try.ntmps11
  go_upto_region 1 with (fail)
  go_cut [11] (fun v11 wc => ∃ (kq : Nat) (x11_1 : Bool), v11 = .bool x11_1 ∧ Aside0 (drayageref13_Check.j0 kq l0 x11_1 = some r) ∧ Aside0 (kq ≤ k) ∧ Aside0 (Below w.heap.size w wc))
  case first =>
    have H := HC2.out
    clear HC2
    by_cases c3 : (l0.length : Int) = 0
    · rw [if_pos c3] at H
      have c3b0 : ((l0.length : Int) == 0) = true := beq_iff_eq.mpr c3
      have c3b1 : ((l0.length : Int) != 0) = false := bne_eq_false_iff_eq.mpr c3
      clear c3
      (first | rw [c3b0] | (simp only [i64_w, i32_w]; rw [c3b0]) | skip)
      have H' := Aside0.mk H
      clear H
      go_wp2
      go_meet
      case rel => exact ⟨_, (true), (by first | rfl | (simp; done) | (simp [*]; done)), H', ⟨by first | omega | exact Nat.le_refl _⟩, ⟨by repeat (first | (with_reducible first | exact HB.out | apply below_alloc | apply pw_below_drewN | apply below_drew1) | exact HB.out)⟩⟩
    · rw [if_neg c3] at H
      have c3b0 : ((l0.length : Int) == 0) = false := beq_eq_false_iff_ne.mpr c3
      have c3b1 : ((l0.length : Int) != 0) = true := bne_iff_ne.mpr c3
      have c3b2 : ¬ (l0 = []) := fun h_ => c3 (by rw [h_]; rfl)
      (first | rw [c3b0] | (simp only [i64_w, i32_w]; rw [c3b0]) | skip)
      have H' := Aside0.mk H
      clear H
      go_wp2
      go_meet
      case rel => exact ⟨_, (decide ((l0.length : Int) > 16)), (by first | rfl | (simp; done) | (simp [*]; done)), H', ⟨by first | omega | exact Nat.le_refl _⟩, ⟨by repeat (first | (with_reducible first | exact HB.out | apply below_alloc | apply pw_below_drewN | apply below_drew1) | exact HB.out)⟩⟩
  case rest =>
    clear HC2
    try clear c1
    try clear p2
    try clear c3
    try clear c3b0
    try clear c3b1
    try clear c3b2
    obtain ⟨kq, x11_1, rfl, HA, HJ1, HB⟩ := hcut
    cases kq with
    | zero => exact absurd HA.out (by simp [drayageref13_Check.j0])
    | succ kj1 =>
      have H := HA.out
      clear HA
      simp only [drayageref13_Check.j0] at H
      by_cases c4 : x11_1 = true
      · subst c4
        have H1 : (some 130) = some r := by rw [if_pos rfl] at H; exact H
        clear H
        have H := H1
        clear H1
        obtain rfl := Option.some.inj H
        go_wp2
        go_ret
        exact ⟨by first | rfl | (simp [errW_none, errW_some] <;> rfl) | (simp [*, errW_none, errW_some] <;> rfl), by repeat (first | (with_reducible first | exact HB.out | apply below_alloc | apply pw_below_drewN | apply below_drew1) | exact HB.out)⟩
      · replace c4 := Bool.eq_false_iff.mpr c4
        subst c4
        have H1 : (drayageref13_Check.l0 kj1 l0 0) = some r := by rw [if_neg (show ¬ (false = true) by decide)] at H; exact H
        clear H
        have H := H1
        clear H1
        have H' := Aside0.mk H
        clear H
        go_wp2
        go_loopg [3] kj1 (fun kq v3 w' => ∃ (x3_2 : Int), v3 = .int .i64 x3_2 ∧ Aside0 (drayageref13_Check.l0 kq l0 x3_2 = some r) ∧ Aside0 (kq ≤ kj1) ∧ Aside0 (Below w.heap.size w w'))
        case atStart => exact ⟨(0), (by first | rfl | (simp; done) | (simp [*]; done)), H', ⟨Nat.le_refl _⟩, ⟨by repeat (first | (with_reducible first | exact HB.out | apply below_alloc | apply pw_below_drewN | apply below_drew1) | exact HB.out)⟩⟩
        case round =>
          clear H'
          try clear c1
          try clear p2
          try clear c3
          try clear c3b0
          try clear c3b1
          try clear c3b2
          try clear c4
          try clear p2
          obtain ⟨x3_2, rfl, HA, HK2, HB⟩ := hrel
          cases gk with
          | zero => exact absurd HA.out (by simp [drayageref13_Check.l0])
          | succ k2 =>
            have H := HA.out
            clear HA
            simp only [drayageref13_Check.l0] at H
            by_cases c5 : x3_2 < (l0.length : Int)
            · rw [if_pos c5] at H
              have c5b0 : decide (x3_2 < (l0.length : Int)) = true := decide_eq_true c5
              clear c5
              by_cases c6 : 0 ≤ x3_2
              · rw [if_pos c6] at H
                have c6b0 : decide (0 ≤ x3_2) = true := decide_eq_true c6
                clear c6
                replace H := Option.bind_eq_some_iff.mp H
                obtain ⟨t116, A70, H⟩ := H
                replace H : (if t116 = true then (drayageref13_Check.l0 k2 l0 (wrap64 (x3_2 + 1))) else (some 130)) = some r := H
                have A7 := Aside0.mk A70
                clear A70
                by_cases c8 : t116 = true
                · subst c8
                  have H1 : (drayageref13_Check.l0 k2 l0 (wrap64 (x3_2 + 1))) = some r := by rw [if_pos rfl] at H; exact H
                  clear H
                  have H := H1
                  clear H1
                  have H' := Aside0.mk H
                  clear H
                  have p115 : 0 ≤ (x3_2 : Int) := of_decide_eq_true (by first | (with_reducible assumption) | assumption)
                  have q115 : x3_2 < (l0.length : Int) := of_decide_eq_true (by first | (with_reducible assumption) | assumption)
                  obtain ⟨ad115, A115_2, c115_2, e115, hx115_0, hx115_1, hx115_2, hx115_3, hx115_4, hx115_5, hl115_2, hi115_2⟩ := at_T38 HR0.out x3_2 p115 q115
                  cases e115
                  replace hx115_0 := (HB.out.cell (World.block_lt_of_cell? w _ hx115_0)).trans hx115_0
                  replace hx115_1 := (HB.out.cell (World.block_lt_of_cell? w _ hx115_1)).trans hx115_1
                  replace hx115_2 := (HB.out.cell (World.block_lt_of_cell? w _ hx115_2)).trans hx115_2
                  replace hx115_3 := (HB.out.cell (World.block_lt_of_cell? w _ hx115_3)).trans hx115_3
                  replace hx115_4 := (HB.out.cell (World.block_lt_of_cell? w _ hx115_4)).trans hx115_4
                  replace hx115_5 := (HB.out.cell (World.block_lt_of_cell? w _ hx115_5)).trans hx115_5
                  have HR115_2 := Aside0.mk hi115_2
                  have HC115_2 := Aside0.mk hl115_2
                  clear hi115_2 hl115_2
                  replace p115 := eq_true p115
                  replace q115 := eq_true q115
                  go_wp2_with (first | ((with_reducible refine gate_callee (f := 29) rfl ?_); refine goesL_ (some 22) rfl rfl Try.func29 (by kernel_rfl) rfl #[.agg #[.int .i64 ((rd_T38 l0 x3_2).f0.f0), .int .i64 ((rd_T38 l0 x3_2).f0.f1), .slice A115_2 ((rd_T38 l0 x3_2).f0.f2).length c115_2, .int .i64 ((rd_T38 l0 x3_2).f1), .int .i64 ((rd_T38 l0 x3_2).f2), .bool ((rd_T38 l0 x3_2).f3)]] rfl (by (try simp only [List.map_toArray, List.map_cons, List.map_nil]); first | done | rfl | (simp only [List.length_drop, List.length_take]; rfl)) ?_; (with_reducible refine (drayageref13_Right.calls k2 ((rd_T38 l0 x3_2).f0.f0) ((rd_T38 l0 x3_2).f0.f1) _ _ ((rd_T38 l0 x3_2).f0.f2) ((rd_T38 l0 x3_2).f1) ((rd_T38 l0 x3_2).f2) ((rd_T38 l0 x3_2).f3) true _ ?side1 ?side2 A7.out).mono ?_); (case side1 => repeat (first | exact (Kd.C_below HR115_2.out HB.out) | (with_reducible refine Kd.C_alloc ?_ _) | (with_reducible refine Kd.C_drewN ?_ _) | (with_reducible refine Kd.C_drew ?_))); (case side2 => exact HC115_2.out); rintro e w9 ⟨rfl, hb⟩; refine ⟨_, rfl, ?_⟩; have n0_ := Aside0.mk (below_step (by repeat (first | (with_reducible first | exact HB.out | apply below_alloc | apply pw_below_drewN | apply below_drew1) | exact HB.out)) hb); clear HB; have HB := n0_; clear n0_; (try clear hb); (try clear hb2); (try clear hk); (try clear hi)))
                  go_roundg k2
                  case measure => have := HJ1.out; have := HK2.out; omega
                  case rel => exact ⟨(wrap64 (x3_2 + 1)), (by first | rfl | (simp; done) | (simp [*]; done)), H', ⟨by have := HJ1.out; have := HK2.out; omega⟩, ⟨by repeat (first | (with_reducible first | exact HB.out | apply below_alloc | apply pw_below_drewN | apply below_drew1) | exact HB.out)⟩⟩
                · replace c8 := Bool.eq_false_iff.mpr c8
                  subst c8
                  have H1 : (some 130) = some r := by rw [if_neg (show ¬ (false = true) by decide)] at H; exact H
                  clear H
                  have H := H1
                  clear H1
                  obtain rfl := Option.some.inj H
                  have p115 : 0 ≤ (x3_2 : Int) := of_decide_eq_true (by first | (with_reducible assumption) | assumption)
                  have q115 : x3_2 < (l0.length : Int) := of_decide_eq_true (by first | (with_reducible assumption) | assumption)
                  obtain ⟨ad115, A115_2, c115_2, e115, hx115_0, hx115_1, hx115_2, hx115_3, hx115_4, hx115_5, hl115_2, hi115_2⟩ := at_T38 HR0.out x3_2 p115 q115
                  cases e115
                  replace hx115_0 := (HB.out.cell (World.block_lt_of_cell? w _ hx115_0)).trans hx115_0
                  replace hx115_1 := (HB.out.cell (World.block_lt_of_cell? w _ hx115_1)).trans hx115_1
                  replace hx115_2 := (HB.out.cell (World.block_lt_of_cell? w _ hx115_2)).trans hx115_2
                  replace hx115_3 := (HB.out.cell (World.block_lt_of_cell? w _ hx115_3)).trans hx115_3
                  replace hx115_4 := (HB.out.cell (World.block_lt_of_cell? w _ hx115_4)).trans hx115_4
                  replace hx115_5 := (HB.out.cell (World.block_lt_of_cell? w _ hx115_5)).trans hx115_5
                  have HR115_2 := Aside0.mk hi115_2
                  have HC115_2 := Aside0.mk hl115_2
                  clear hi115_2 hl115_2
                  replace p115 := eq_true p115
                  replace q115 := eq_true q115
                  go_wp2_with (first | ((with_reducible refine gate_callee (f := 29) rfl ?_); refine goesL_ (some 22) rfl rfl Try.func29 (by kernel_rfl) rfl #[.agg #[.int .i64 ((rd_T38 l0 x3_2).f0.f0), .int .i64 ((rd_T38 l0 x3_2).f0.f1), .slice A115_2 ((rd_T38 l0 x3_2).f0.f2).length c115_2, .int .i64 ((rd_T38 l0 x3_2).f1), .int .i64 ((rd_T38 l0 x3_2).f2), .bool ((rd_T38 l0 x3_2).f3)]] rfl (by (try simp only [List.map_toArray, List.map_cons, List.map_nil]); first | done | rfl | (simp only [List.length_drop, List.length_take]; rfl)) ?_; (with_reducible refine (drayageref13_Right.calls k2 ((rd_T38 l0 x3_2).f0.f0) ((rd_T38 l0 x3_2).f0.f1) _ _ ((rd_T38 l0 x3_2).f0.f2) ((rd_T38 l0 x3_2).f1) ((rd_T38 l0 x3_2).f2) ((rd_T38 l0 x3_2).f3) false _ ?side1 ?side2 A7.out).mono ?_); (case side1 => repeat (first | exact (Kd.C_below HR115_2.out HB.out) | (with_reducible refine Kd.C_alloc ?_ _) | (with_reducible refine Kd.C_drewN ?_ _) | (with_reducible refine Kd.C_drew ?_))); (case side2 => exact HC115_2.out); rintro e w10 ⟨rfl, hb⟩; refine ⟨_, rfl, ?_⟩; have n0_ := Aside0.mk (below_step (by repeat (first | (with_reducible first | exact HB.out | apply below_alloc | apply pw_below_drewN | apply below_drew1) | exact HB.out)) hb); clear HB; have HB := n0_; clear n0_; (try clear hb); (try clear hb2); (try clear hk); (try clear hi)))
                  go_ret
                  exact ⟨by first | rfl | (simp [errW_none, errW_some] <;> rfl) | (simp [*, errW_none, errW_some] <;> rfl), by repeat (first | (with_reducible first | exact HB.out | apply below_alloc | apply pw_below_drewN | apply below_drew1) | exact HB.out)⟩
              · rw [if_neg c6] at H
                exact absurd H (by simp)
            · rw [if_neg c5] at H
              have c5b0 : decide (x3_2 < (l0.length : Int)) = false := decide_eq_false c5
              clear c5
              obtain rfl := Option.some.inj H
              go_wp2
              go_ret
              exact ⟨by first | rfl | (simp [errW_none, errW_some] <;> rfl) | (simp [*, errW_none, errW_some] <;> rfl), by repeat (first | (with_reducible first | exact HB.out | apply below_alloc | apply pw_below_drewN | apply below_drew1) | exact HB.out)⟩

/-! ### saga_Start: function 13 -/
def saga_Start.f  : Option (Int × Int × Int × Bool × Int × Bool × Int) := some (1, 0, 0, false, 0, false, 0)
attribute [local go_sem] cell_alloc_lt2 cell_set_ne2
set_option maxHeartbeats 8000000 in
set_option maxRecDepth 100000 in
theorem saga_Start.calls  (r1 : Int) (r2 : Int) (r3 : Int) (r4 : Bool) (r5 : Int) (r6 : Bool) (r7 : Int) (w : World) (h : saga_Start.f  = some (r1, r2, r3, r4, r5, r6, r7)) :
    Calls Try.prog 13 #[] w fun e w' => e = .returned (.agg #[.int .i64 r1, .int .i64 r2, .int .i64 r3, .bool r4, .int .i64 r5, .bool r6, .int .i64 r7]) ∧ Below w.heap.size w w' := by
  have hu28 := Try.underlying28
  have HB := Aside0.mk (Below.refl w.heap.size w)
  have H := h
  clear h
  unfold saga_Start.f at H
  simp only [Option.some.injEq, Prod.mk.injEq] at H
  obtain ⟨rfl, rfl, rfl, rfl, rfl, rfl, rfl⟩ := H
  go_enter Try.func13, Try.ntmps13
  go_wp2
  refine bodyPost_ret ?_ rfl ⟨rfl, ?_⟩
  · simp [results, Try.results13, go_sem]
  · exact (by repeat (first | (with_reducible first | exact Below.refl _ _ | apply below_alloc | apply pw_below_drewN | apply below_drew1) | refine below_set ?_ (by first | omega | (simp; omega) | simp)))

/-! ### plan_counts: function 40 -/
def plan_counts.f (a0 : Int) : Option (Bool) := if a0 = 1 then (some true) else (if a0 = 3 then (some true) else (some (a0 == 5)))
set_option maxHeartbeats 8000000 in
set_option maxRecDepth 100000 in
theorem plan_counts.calls (a0 : Int) (r : Bool) (w : World) (h : plan_counts.f a0 = some r) :
    Calls Try.prog 40 #[.int .i64 a0] w fun e w' => e = .returned (.bool r) ∧ Drawn0 w w' := by
  have H : (if a0 = 1 then (some true) else (if a0 = 3 then (some true) else (some (a0 == 5)))) = some r := h
  clear h
  by_cases c2 : a0 = 1
  · rw [if_pos c2] at H
    have c2b0 : (a0 == 1) = true := beq_iff_eq.mpr c2
    have c2b1 : (a0 != 1) = false := bne_eq_false_iff_eq.mpr c2
    clear c2
    obtain rfl := Option.some.inj H
    go_enter Try.func40, Try.ntmps40
    go_wp2
    go_ret
    exact ⟨by first | rfl | (simp; done) | (simp [*]; done), by repeat (first | exact Drawn0.refl _ | apply Drawn0.step)⟩
  · rw [if_neg c2] at H
    have c2b0 : (a0 == 1) = false := beq_eq_false_iff_ne.mpr c2
    have c2b1 : (a0 != 1) = true := bne_iff_ne.mpr c2
    by_cases c3 : a0 = 3
    · rw [if_pos c3] at H
      have c3b0 : (a0 == 3) = true := beq_iff_eq.mpr c3
      have c3b1 : (a0 != 3) = false := bne_eq_false_iff_eq.mpr c3
      clear c3
      obtain rfl := Option.some.inj H
      go_enter Try.func40, Try.ntmps40
      go_wp2
      go_ret
      exact ⟨by first | rfl | (simp; done) | (simp [*]; done), by repeat (first | exact Drawn0.refl _ | apply Drawn0.step)⟩
    · rw [if_neg c3] at H
      have c3b0 : (a0 == 3) = false := beq_eq_false_iff_ne.mpr c3
      have c3b1 : (a0 != 3) = true := bne_iff_ne.mpr c3
      obtain rfl := Option.some.inj H
      go_enter Try.func40, Try.ntmps40
      go_wp2
      go_ret
      exact ⟨by first | rfl | (simp; done) | (simp [*]; done), by repeat (first | exact Drawn0.refl _ | apply Drawn0.step)⟩

/-! ### plan_named: function 41 -/
def plan_named.f (a0 : Int) : Option (Bool) := if a0 = 1 then (some true) else (if a0 = 3 then (some true) else (some (a0 == 6)))
set_option maxHeartbeats 8000000 in
set_option maxRecDepth 100000 in
theorem plan_named.calls (a0 : Int) (r : Bool) (w : World) (h : plan_named.f a0 = some r) :
    Calls Try.prog 41 #[.int .i64 a0] w fun e w' => e = .returned (.bool r) ∧ Drawn0 w w' := by
  have H : (if a0 = 1 then (some true) else (if a0 = 3 then (some true) else (some (a0 == 6)))) = some r := h
  clear h
  by_cases c2 : a0 = 1
  · rw [if_pos c2] at H
    have c2b0 : (a0 == 1) = true := beq_iff_eq.mpr c2
    have c2b1 : (a0 != 1) = false := bne_eq_false_iff_eq.mpr c2
    clear c2
    obtain rfl := Option.some.inj H
    go_enter Try.func41, Try.ntmps41
    go_wp2
    go_ret
    exact ⟨by first | rfl | (simp; done) | (simp [*]; done), by repeat (first | exact Drawn0.refl _ | apply Drawn0.step)⟩
  · rw [if_neg c2] at H
    have c2b0 : (a0 == 1) = false := beq_eq_false_iff_ne.mpr c2
    have c2b1 : (a0 != 1) = true := bne_iff_ne.mpr c2
    by_cases c3 : a0 = 3
    · rw [if_pos c3] at H
      have c3b0 : (a0 == 3) = true := beq_iff_eq.mpr c3
      have c3b1 : (a0 != 3) = false := bne_eq_false_iff_eq.mpr c3
      clear c3
      obtain rfl := Option.some.inj H
      go_enter Try.func41, Try.ntmps41
      go_wp2
      go_ret
      exact ⟨by first | rfl | (simp; done) | (simp [*]; done), by repeat (first | exact Drawn0.refl _ | apply Drawn0.step)⟩
    · rw [if_neg c3] at H
      have c3b0 : (a0 == 3) = false := beq_eq_false_iff_ne.mpr c3
      have c3b1 : (a0 != 3) = true := bne_iff_ne.mpr c3
      obtain rfl := Option.some.inj H
      go_enter Try.func41, Try.ntmps41
      go_wp2
      go_ret
      exact ⟨by first | rfl | (simp; done) | (simp [*]; done), by repeat (first | exact Drawn0.refl _ | apply Drawn0.step)⟩

/-! ### plan_name: function 42 -/
/-- a letter, a digit, or a hyphen -/
def nameSign (c : Nat) : Bool := decide (97 ≤ c ∧ c ≤ 122) || decide (48 ≤ c ∧ c ≤ 57) || decide (c = 45)
def nameSigns (s : ByteArray) (n : Nat) : Prop := ∀ i, i < n → nameSign (s.get! i).toNat = true
def nameWhole (s : ByteArray) : Bool := (List.range s.size).all fun i => nameSign (s.get! i).toNat
def plan_name.f (a0 : ByteArray) : Option (Bool) := some (nameWhole a0 && decide (a0.size ≠ 0) && decide (a0.size ≤ 32))

theorem name_byte (s : ByteArray) (pos : Nat) (h : pos < s.size) : s.get! pos = s[pos]'h := by
  have := get_at s pos h
  simpa using this

theorem name_step (s : ByteArray) (pos : Nat) (hp : pos < s.size) (hs : nameSign (Utf8.decode s pos).1 = true) :
    (Utf8.decode s pos).2 = 1 ∧ nameSign (s.get! pos).toNat = true := by
  by_cases ha : (s[pos]'hp).toNat < 128
  · rw [decode_ascii s pos hp ha] at hs ⊢
    rw [name_byte s pos hp]
    exact ⟨rfl, hs⟩
  · have := (decode_high s pos hp (by omega)).1
    simp only [nameSign, Bool.or_eq_true, decide_eq_true_eq] at hs
    omega
theorem name_fail (s : ByteArray) (pos : Nat) (hp : pos < s.size) (hs : nameSign (Utf8.decode s pos).1 = false) : nameWhole s = false := by
  have hb : nameSign (s.get! pos).toNat = false := by
    by_cases ha : (s[pos]'hp).toNat < 128
    · rw [decode_ascii s pos hp ha] at hs
      rw [name_byte s pos hp]
      exact hs
    · rw [name_byte s pos hp]
      simp only [nameSign, Bool.or_eq_false_iff, decide_eq_false_iff_not]
      omega
  cases hw : nameWhole s with
  | false => rfl
  | true =>
    unfold nameWhole at hw
    rw [List.all_eq_true] at hw
    rw [hw pos (List.mem_range.mpr hp)] at hb
    exact hb
theorem name_whole (s : ByteArray) (n : Nat) (h : nameSigns s n) (hn : s.size ≤ n) : nameWhole s = true := by
  unfold nameWhole
  rw [List.all_eq_true]
  intro i hi
  exact h i (by have := List.mem_range.mp hi; omega)

theorem name_yes (q : Nat) (h : (97 ≤ (q : Int) ∧ (q : Int) ≤ 122) ∨ (48 ≤ (q : Int) ∧ (q : Int) ≤ 57) ∨ (q : Int) = 45) : nameSign q = true := by
  unfold nameSign
  rcases h with h | h | h
  · rw [decide_eq_true (show 97 ≤ q ∧ q ≤ 122 by omega)]; rfl
  · rw [decide_eq_true (show 48 ≤ q ∧ q ≤ 57 by omega)]; simp
  · rw [decide_eq_true (show q = 45 by omega)]; simp
theorem name_no (q : Nat) (h1 : ¬ (97 ≤ (q : Int) ∧ (q : Int) ≤ 122)) (h2 : ¬ (48 ≤ (q : Int) ∧ (q : Int) ≤ 57)) (h3 : ¬ (q : Int) = 45) : nameSign q = false := by
  unfold nameSign
  rw [decide_eq_false (show ¬ (97 ≤ q ∧ q ≤ 122) by omega), decide_eq_false (show ¬ (48 ≤ q ∧ q ≤ 57) by omega), decide_eq_false (show ¬ (q = 45) by omega)]; rfl
theorem name_ne (s : ByteArray) (h : ¬ s.size = 0) : s.toList.isEmpty = false ∧ ¬ s.toList = [] := by
  have hl : s.toList.length = s.size := by rw [ByteArray.toList_eq s]; exact Array.length_toList
  cases hs : s.toList with
  | nil => rw [hs] at hl; exact absurd hl.symm h
  | cons a l => exact ⟨rfl, by simp⟩

set_option maxHeartbeats 8000000 in
set_option maxRecDepth 100000 in
theorem plan_name.calls (a0 : ByteArray) (r : Bool) (w : World) (h : plan_name.f a0 = some r) :
    Calls Try.prog 42 #[.string a0] w fun e w' => e = .returned (.bool r) ∧ Below w.heap.size w w' := by
  have H := Aside0.mk (Option.some.inj h)
  clear h
  go_enter Try.func42, Try.ntmps42
  go_wp2
  go_loopw [4] (fun v w' => ∃ (pos : Nat), w' = w.iter a0 pos ∧ Aside0 (nameSigns a0 pos)) (fun _ w' => a0.size - w'.iterPos w.heap.size)
  case atStart => exact ⟨0, rfl, ⟨fun i hi => by omega⟩⟩
  case round =>
    obtain ⟨pos, rfl, HS⟩ := hrel
    by_cases hp : pos < a0.size
    · have hnx : ∀ ty, (Instr.next (.pointer (some ⟨w.heap.size, 0, none⟩)) true ty).run Try.prog (w.iter a0 pos) = _ := fun ty => run_next_any w a0 pos ty hp
      have hle := decode_le a0 pos
      have HST := Aside0.mk (name_step a0 pos hp)
      have HFL := Aside0.mk (name_fail a0 pos hp)
      generalize (Utf8.decode a0 pos).1 = q at *
      generalize (Utf8.decode a0 pos).2 = wd at *
      by_cases c1 : (97 ≤ (q : Int) ∧ (q : Int) ≤ 122) ∨ (48 ≤ (q : Int) ∧ (q : Int) ≤ 57) ∨ (q : Int) = 45
      · have hq := Aside0.mk (HST.out (name_yes q c1))
        clear HST HFL
        have go : (97 ≤ (q : Int) ∧ (q : Int) ≤ 122) ∨ (48 ≤ (q : Int) ∧ (q : Int) ≤ 57 ∧ (q : Int) < 97) ∨ ((q : Int) = 45) := by omega
        clear c1
        rcases go with ⟨h1, h2⟩ | ⟨h1, h2, h3⟩ | h1
        · have d1 : decide ((q : Int) < 97) = false := decide_eq_false (by omega)
          have d2 : decide (122 < (q : Int)) = false := decide_eq_false (by omega)
          go_wp2
          obtain ⟨rfl, hb⟩ := hq.out
          go_roundw
          case rel =>
            refine ⟨pos + 1, rfl, ⟨fun i hi => ?_⟩⟩
            by_cases hi2 : i < pos
            · exact HS.out i hi2
            · obtain rfl : i = pos := by omega
              exact hb
          case measure => simp; omega
        · have d1 : decide ((q : Int) < 97) = true := decide_eq_true (by omega)
          have d2 : decide ((q : Int) < 48) = false := decide_eq_false (by omega)
          have d3 : decide (57 < (q : Int)) = false := decide_eq_false (by omega)
          go_wp2
          obtain ⟨rfl, hb⟩ := hq.out
          go_roundw
          case rel =>
            refine ⟨pos + 1, rfl, ⟨fun i hi => ?_⟩⟩
            by_cases hi2 : i < pos
            · exact HS.out i hi2
            · obtain rfl : i = pos := by omega
              exact hb
          case measure => simp; omega
        · obtain rfl : q = 45 := by omega
          clear h1
          go_wp2
          obtain ⟨rfl, hb⟩ := hq.out
          go_roundw
          case rel =>
            refine ⟨pos + 1, rfl, ⟨fun i hi => ?_⟩⟩
            by_cases hi2 : i < pos
            · exact HS.out i hi2
            · obtain rfl : i = pos := by omega
              exact hb
          case measure => simp; omega
      · have hw := Aside0.mk (HFL.out (name_no q (by omega) (by omega) (by omega)))
        clear HST HFL
        have d5 : ((q : Int) == 45) = false := beq_eq_false_iff_ne.mpr (by omega)
        have d6 : ((q : Int) != 45) = true := bne_iff_ne.mpr (by omega)
        have go : ((q : Int) < 48) ∨ (57 < (q : Int) ∧ (q : Int) < 97) ∨ (122 < (q : Int)) := by omega
        have hr := H.out
        rw [hw.out] at hr
        have H := Aside0.mk (show r = false from by rw [← hr]; rfl)
        clear hr hw c1
        rcases go with h1 | ⟨h1, h2⟩ | h1
        · have d1 : decide ((q : Int) < 97) = true := decide_eq_true (by omega)
          have d2 : decide ((q : Int) < 48) = true := decide_eq_true (by omega)
          go_wp2
          go_ret
          exact ⟨by rw [H.out]; rfl, below_alloc (Below.refl _ _) _⟩
        · have d1 : decide ((q : Int) < 97) = true := decide_eq_true (by omega)
          have d2 : decide ((q : Int) < 48) = false := decide_eq_false (by omega)
          have d3 : decide (57 < (q : Int)) = true := decide_eq_true (by omega)
          go_wp2
          go_ret
          exact ⟨by rw [H.out]; rfl, below_alloc (Below.refl _ _) _⟩
        · have d1 : decide ((q : Int) < 97) = false := decide_eq_false (by omega)
          have d4 : decide (122 < (q : Int)) = true := decide_eq_true (by omega)
          have d2 : decide ((q : Int) < 48) = false := decide_eq_false (by omega)
          have d3 : decide (57 < (q : Int)) = true := decide_eq_true (by omega)
          go_wp2
          go_ret
          exact ⟨by rw [H.out]; rfl, below_alloc (Below.refl _ _) _⟩
    · have hnx : ∀ ty, (Instr.next (.pointer (some ⟨w.heap.size, 0, none⟩)) true ty).run Try.prog (w.iter a0 pos) = _ := fun ty => run_next_end w a0 pos ty hp
      have hw := name_whole a0 pos HS.out (by omega)
      have hr := H.out
      rw [hw] at hr
      by_cases h0 : a0.size = 0
      · rw [decide_eq_false (show ¬ a0.size ≠ 0 by omega)] at hr
        obtain rfl : a0 = ByteArray.empty := by
          have : a0.data.size = 0 := h0
          cases a0 with | mk d => exact congrArg ByteArray.mk (Array.eq_empty_of_size_eq_zero this)
        have H := Aside0.mk (show r = false from by rw [← hr]; rfl)
        clear hr hw h0
        go_wp2
        go_ret
        exact ⟨by rw [H.out]; rfl, below_alloc (Below.refl _ _) _⟩
      · rw [decide_eq_true (show a0.size ≠ 0 by omega)] at hr
        obtain ⟨he2, he⟩ := name_ne a0 h0
        have H := Aside0.mk (show r = decide ((a0.size : Int) ≤ 32) from by rw [← hr, Bool.true_and, Bool.true_and]; exact decide_eq_decide.mpr (by omega))
        clear hr hw h0
        go_wp2
        go_ret
        exact ⟨by rw [H.out]; rfl, below_alloc (Below.refl _ _) _⟩

/-! ### plan_words: function 43 -/
def plan_words.f (a0 : Int) : Option (ByteArray) := if a0 = 1 then (some (⟨#[104, 111, 108, 100]⟩ : ByteArray)) else (if a0 = 2 then (some (⟨#[115, 104, 105, 112]⟩ : ByteArray)) else (if a0 = 3 then (some (⟨#[97, 117, 116, 104, 111, 114, 105, 115, 101]⟩ : ByteArray)) else (if a0 = 4 then (some (⟨#[99, 97, 112, 116, 117, 114, 101]⟩ : ByteArray)) else (if a0 = 5 then (some (⟨#[98, 111, 111, 107]⟩ : ByteArray)) else (if a0 = 6 then (some (⟨#[110, 111, 116, 105, 99, 101]⟩ : ByteArray)) else (some (⟨#[]⟩ : ByteArray)))))))
set_option maxHeartbeats 8000000 in
set_option maxRecDepth 100000 in
theorem plan_words.calls (a0 : Int) (r : ByteArray) (w : World) (h : plan_words.f a0 = some r) :
    Calls Try.prog 43 #[.int .i64 a0] w fun e w' => e = .returned (.string r) ∧ Drawn0 w w' := by
  have H : (if a0 = 1 then (some (⟨#[104, 111, 108, 100]⟩ : ByteArray)) else (if a0 = 2 then (some (⟨#[115, 104, 105, 112]⟩ : ByteArray)) else (if a0 = 3 then (some (⟨#[97, 117, 116, 104, 111, 114, 105, 115, 101]⟩ : ByteArray)) else (if a0 = 4 then (some (⟨#[99, 97, 112, 116, 117, 114, 101]⟩ : ByteArray)) else (if a0 = 5 then (some (⟨#[98, 111, 111, 107]⟩ : ByteArray)) else (if a0 = 6 then (some (⟨#[110, 111, 116, 105, 99, 101]⟩ : ByteArray)) else (some (⟨#[]⟩ : ByteArray)))))))) = some r := h
  clear h
  by_cases c2 : a0 = 1
  · rw [if_pos c2] at H
    have c2b0 : (a0 == 1) = true := beq_iff_eq.mpr c2
    have c2b1 : (a0 != 1) = false := bne_eq_false_iff_eq.mpr c2
    clear c2
    obtain rfl := Option.some.inj H
    go_enter Try.func43, Try.ntmps43
    go_wp2
    go_ret
    exact ⟨by first | rfl | (simp; done) | (simp [*]; done), by repeat (first | exact Drawn0.refl _ | apply Drawn0.step)⟩
  · rw [if_neg c2] at H
    have c2b0 : (a0 == 1) = false := beq_eq_false_iff_ne.mpr c2
    have c2b1 : (a0 != 1) = true := bne_iff_ne.mpr c2
    by_cases c3 : a0 = 2
    · rw [if_pos c3] at H
      have c3b0 : (a0 == 2) = true := beq_iff_eq.mpr c3
      have c3b1 : (a0 != 2) = false := bne_eq_false_iff_eq.mpr c3
      clear c3
      obtain rfl := Option.some.inj H
      go_enter Try.func43, Try.ntmps43
      go_wp2
      go_ret
      exact ⟨by first | rfl | (simp; done) | (simp [*]; done), by repeat (first | exact Drawn0.refl _ | apply Drawn0.step)⟩
    · rw [if_neg c3] at H
      have c3b0 : (a0 == 2) = false := beq_eq_false_iff_ne.mpr c3
      have c3b1 : (a0 != 2) = true := bne_iff_ne.mpr c3
      by_cases c4 : a0 = 3
      · rw [if_pos c4] at H
        have c4b0 : (a0 == 3) = true := beq_iff_eq.mpr c4
        have c4b1 : (a0 != 3) = false := bne_eq_false_iff_eq.mpr c4
        clear c4
        obtain rfl := Option.some.inj H
        go_enter Try.func43, Try.ntmps43
        go_wp2
        go_ret
        exact ⟨by first | rfl | (simp; done) | (simp [*]; done), by repeat (first | exact Drawn0.refl _ | apply Drawn0.step)⟩
      · rw [if_neg c4] at H
        have c4b0 : (a0 == 3) = false := beq_eq_false_iff_ne.mpr c4
        have c4b1 : (a0 != 3) = true := bne_iff_ne.mpr c4
        by_cases c5 : a0 = 4
        · rw [if_pos c5] at H
          have c5b0 : (a0 == 4) = true := beq_iff_eq.mpr c5
          have c5b1 : (a0 != 4) = false := bne_eq_false_iff_eq.mpr c5
          clear c5
          obtain rfl := Option.some.inj H
          go_enter Try.func43, Try.ntmps43
          go_wp2
          go_ret
          exact ⟨by first | rfl | (simp; done) | (simp [*]; done), by repeat (first | exact Drawn0.refl _ | apply Drawn0.step)⟩
        · rw [if_neg c5] at H
          have c5b0 : (a0 == 4) = false := beq_eq_false_iff_ne.mpr c5
          have c5b1 : (a0 != 4) = true := bne_iff_ne.mpr c5
          by_cases c6 : a0 = 5
          · rw [if_pos c6] at H
            have c6b0 : (a0 == 5) = true := beq_iff_eq.mpr c6
            have c6b1 : (a0 != 5) = false := bne_eq_false_iff_eq.mpr c6
            clear c6
            obtain rfl := Option.some.inj H
            go_enter Try.func43, Try.ntmps43
            go_wp2
            go_ret
            exact ⟨by first | rfl | (simp; done) | (simp [*]; done), by repeat (first | exact Drawn0.refl _ | apply Drawn0.step)⟩
          · rw [if_neg c6] at H
            have c6b0 : (a0 == 5) = false := beq_eq_false_iff_ne.mpr c6
            have c6b1 : (a0 != 5) = true := bne_iff_ne.mpr c6
            by_cases c7 : a0 = 6
            · rw [if_pos c7] at H
              have c7b0 : (a0 == 6) = true := beq_iff_eq.mpr c7
              have c7b1 : (a0 != 6) = false := bne_eq_false_iff_eq.mpr c7
              clear c7
              obtain rfl := Option.some.inj H
              go_enter Try.func43, Try.ntmps43
              go_wp2
              go_ret
              exact ⟨by first | rfl | (simp; done) | (simp [*]; done), by repeat (first | exact Drawn0.refl _ | apply Drawn0.step)⟩
            · rw [if_neg c7] at H
              have c7b0 : (a0 == 6) = false := beq_eq_false_iff_ne.mpr c7
              have c7b1 : (a0 != 6) = true := bne_iff_ne.mpr c7
              obtain rfl := Option.some.inj H
              go_enter Try.func43, Try.ntmps43
              go_wp2
              go_ret
              exact ⟨by first | rfl | (simp; done) | (simp [*]; done), by repeat (first | exact Drawn0.refl _ | apply Drawn0.step)⟩

end Go.Proofs.Yteefdhgfcnjpoaa.PA
