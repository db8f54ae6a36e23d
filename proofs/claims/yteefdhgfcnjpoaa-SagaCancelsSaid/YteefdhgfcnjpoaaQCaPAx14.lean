-- printed by a program of this work (wip/tools/pr.py over the kit's print): the machine's side of SagaTries, SagaMoves, SagaStays, SagaOrder, SagaEnds, SagaTicks
import Derived.Test.YteefdhgfcnjpoaaQCaPAx0
import Derived.Test.YteefdhgfcnjpoaaQCaPAx7
import Derived.Test.YteefdhgfcnjpoaaQCaPAx8
import Derived.Test.YteefdhgfcnjpoaaQCaPAx11
import Derived.Test.YteefdhgfcnjpoaaQCaPAx12
namespace Go.Proofs.Yteefdhgfcnjpoaa.PA
open Go.RowKit Go.Proofs.YteefdhgfcnjpoaaW.PrintWords Go.Proofs.YteefdhgfcnjpoaaW.PrintLast Go.Proofs.YteefdhgfcnjpoaaW.PrintMore
attribute [local go_sem] max2_int min2_int max_two min_two max_three min_three max_four min_four   -- for this text's walks alone
set_option linter.unusedVariables false
set_option linter.unusedSimpArgs false

/-! ### saga_Cancel: function 22 -/
def saga_Cancel.f (k : Nat) (l0 : List (S38)) (a1_0 : Int) (a1_1 : Int) (a1_2 : Int) (a1_3 : Bool) (a1_4 : Int) (a1_5 : Bool) (a1_6 : Int) : Option (Int × Int × Int × Bool × Int × Bool × Int × Int) := (saga_Check.f k l0 a1_0 a1_1 a1_2 a1_3 a1_4 a1_5 a1_6).bind fun t450 => (if t450 = 0 then (if a1_0 = 1 then (if a1_3 = true then (some (a1_0, a1_1, a1_2, a1_3, a1_4, true, a1_6, 0)) else (if a1_2 > 0 then ((saga_back.f k l0 a1_1).bind fun bt451 => (some (bt451.1, bt451.2.1, bt451.2.2.1, bt451.2.2.2.1, bt451.2.2.2.2.1, bt451.2.2.2.2.2.1, bt451.2.2.2.2.2.2, 0))) else ((saga_back.f k l0 (wrap64 (a1_1 - 1))).bind fun bt458 => (some (bt458.1, bt458.2.1, bt458.2.2.1, bt458.2.2.2.1, bt458.2.2.2.2.1, bt458.2.2.2.2.2.1, bt458.2.2.2.2.2.2, 0))))) else (some (a1_0, a1_1, a1_2, a1_3, a1_4, a1_5, a1_6, 0))) else (some (0, 0, 0, false, 0, false, 0, t450)))

attribute [local go_sem] cell_alloc_lt2 cell_set_ne2
set_option maxHeartbeats 8000000 in
set_option maxRecDepth 100000 in
theorem saga_Cancel.calls (k : Nat) (A0 : Option Addr) (c0 : Nat) (l0 : List (S38)) (a1_0 : Int) (a1_1 : Int) (a1_2 : Int) (a1_3 : Bool) (a1_4 : Int) (a1_5 : Bool) (a1_6 : Int) (r1 : Int) (r2 : Int) (r3 : Int) (r4 : Bool) (r5 : Int) (r6 : Bool) (r7 : Int) (r8 : Int) (w : World) (hr0 : Kd.C k38 w A0 l0.length l0) (hc0 : l0.length ≤ c0) (h : saga_Cancel.f k l0 a1_0 a1_1 a1_2 a1_3 a1_4 a1_5 a1_6 = some (r1, r2, r3, r4, r5, r6, r7, r8)) :
    Calls Try.prog 22 #[.slice A0 l0.length c0, .agg #[.int .i64 a1_0, .int .i64 a1_1, .int .i64 a1_2, .bool a1_3, .int .i64 a1_4, .bool a1_5, .int .i64 a1_6]] w fun e w' => e = .returned (.tuple #[.agg #[.int .i64 r1, .int .i64 r2, .int .i64 r3, .bool r4, .int .i64 r5, .bool r6, .int .i64 r7], .int .i64 r8]) ∧ Below w.heap.size w w' := by
  have hu28 := Try.underlying28
  have HR0 := Aside0.mk hr0
  have HC0 := Aside0.mk hc0
  clear hr0 hc0
  have HB := Aside0.mk (Below.refl w.heap.size w)
  have H := h
  clear h
  unfold saga_Cancel.f at H
  obtain ⟨t450, A_, H⟩ := Option.bind_eq_some_iff.mp H
  try dsimp only at H
  have A2 := Aside0.mk A_
  clear A_
  by_cases c3 : t450 = 0
  · rw [if_pos c3] at H
    have c3b0 : (t450 == 0) = true := beq_iff_eq.mpr c3
    have c3b1 : (t450 != 0) = false := bne_eq_false_iff_eq.mpr c3
    clear c3
    by_cases c4 : a1_0 = 1
    · rw [if_pos c4] at H
      have c4b0 : (a1_0 == 1) = true := beq_iff_eq.mpr c4
      have c4b1 : (a1_0 != 1) = false := bne_eq_false_iff_eq.mpr c4
      clear c4
      by_cases c5 : a1_3 = true
      · subst c5
        rw [if_pos rfl] at H
        simp only [Option.some.injEq, Prod.mk.injEq] at H
        obtain ⟨rfl, rfl, rfl, rfl, rfl, rfl, rfl, rfl⟩ := H
        go_enter Try.func22, Try.ntmps22
        go_wp2_with (first | ((with_reducible refine gate_callee (f := 24) rfl ?_); refine goesL_ (some 9) rfl rfl Try.func24 (by kernel_rfl) rfl #[.slice A0 l0.length c0, .agg #[.int .i64 a1_0, .int .i64 a1_1, .int .i64 a1_2, .bool true, .int .i64 a1_4, .bool a1_5, .int .i64 a1_6]] rfl (by (try simp only [List.map_toArray, List.map_cons, List.map_nil]); first | done | rfl | (simp only [List.length_drop, List.length_take]; rfl)) ?_; (with_reducible refine (saga_Check.calls k _ _ l0 a1_0 a1_1 a1_2 true a1_4 a1_5 a1_6 t450 _ ?sd0 HC0.out A2.out).mono ?_); (case sd0 => exact Kd.C_below HR0.out (by repeat (first | (with_reducible first | exact Below.refl _ _ | apply below_alloc | apply pw_below_drewN | apply below_drew1) | refine below_set ?_ (by first | omega | (simp; omega) | simp)))); rintro e w6 ⟨rfl, hb⟩; refine ⟨_, rfl, ?_⟩; have hsw6 : w.heap.size + 2 ≤ w6.heap.size := (by have h_ := hb.size; simpa using h_); have HB_w6 : Aside0 (Below w.heap.size w w6) := Aside0.mk (below_step (by repeat (first | (with_reducible first | exact Below.refl _ _ | apply below_alloc | apply pw_below_drewN | apply below_drew1) | refine below_set ?_ (by first | omega | (simp; omega) | simp))) hb); have cw6_448 := fun o_ : Nat => hb.cell (p := ⟨w.heap.size, o_, none⟩) (by first | omega | (simp; done) | (simp; omega)); have fw6_448 := fun o_ : Nat => hb.frozen (p := ⟨w.heap.size, o_, none⟩) (by first | omega | (simp; done) | (simp; omega)); have cw6_449 := fun o_ : Nat => hb.cell (p := ⟨w.heap.size + 1, o_, none⟩) (by first | omega | (simp; done) | (simp; omega)); have fw6_449 := fun o_ : Nat => hb.frozen (p := ⟨w.heap.size + 1, o_, none⟩) (by first | omega | (simp; done) | (simp; omega)); clear hb; have hlw6_448_0 : w.heap.size < w6.heap.size := (by omega); have hlw6_449_0 : w.heap.size + 1 < w6.heap.size := (by omega)))
        refine bodyPost_ret ?_ rfl ⟨rfl, ?_⟩
        · simp [results, Try.results22, go_sem, cw6_448, fw6_448, cw6_449, fw6_449, hlw6_448_0, hlw6_449_0]
        · exact (by repeat (first | (with_reducible first | exact HB_w6.out | exact Below.refl _ _ | apply below_alloc | apply pw_below_drewN | apply below_drew1) | refine below_set ?_ (by first | omega | (simp; omega) | simp)))
      · replace c5 := Bool.eq_false_iff.mpr c5; subst c5
        rw [if_neg (by decide)] at H
        by_cases c7 : a1_2 > 0
        · rw [if_pos c7] at H
          have c7b0 : decide (0 < a1_2) = true := decide_eq_true c7
          clear c7
          obtain ⟨⟨t451, t452, t453, t454, t455, t456, t457⟩, A_, H⟩ := Option.bind_eq_some_iff.mp H
          try dsimp only at H
          have A8 := Aside0.mk A_
          clear A_
          simp only [Option.some.injEq, Prod.mk.injEq] at H
          obtain ⟨rfl, rfl, rfl, rfl, rfl, rfl, rfl, rfl⟩ := H
          go_enter Try.func22, Try.ntmps22
          go_wp2_with (first | ((with_reducible refine gate_callee (f := 24) rfl ?_); refine goesL_ (some 9) rfl rfl Try.func24 (by kernel_rfl) rfl #[.slice A0 l0.length c0, .agg #[.int .i64 a1_0, .int .i64 a1_1, .int .i64 a1_2, .bool false, .int .i64 a1_4, .bool a1_5, .int .i64 a1_6]] rfl (by (try simp only [List.map_toArray, List.map_cons, List.map_nil]); first | done | rfl | (simp only [List.length_drop, List.length_take]; rfl)) ?_; (with_reducible refine (saga_Check.calls k _ _ l0 a1_0 a1_1 a1_2 false a1_4 a1_5 a1_6 t450 _ ?sd0 HC0.out A2.out).mono ?_); (case sd0 => exact Kd.C_below HR0.out (by repeat (first | (with_reducible first | exact Below.refl _ _ | apply below_alloc | apply pw_below_drewN | apply below_drew1) | refine below_set ?_ (by first | omega | (simp; omega) | simp)))); rintro e w9 ⟨rfl, hb⟩; refine ⟨_, rfl, ?_⟩; have hsw9 : w.heap.size + 2 ≤ w9.heap.size := (by have h_ := hb.size; simpa using h_); have HB_w9 : Aside0 (Below w.heap.size w w9) := Aside0.mk (below_step (by repeat (first | (with_reducible first | exact Below.refl _ _ | apply below_alloc | apply pw_below_drewN | apply below_drew1) | refine below_set ?_ (by first | omega | (simp; omega) | simp))) hb); have cw9_448 := fun o_ : Nat => hb.cell (p := ⟨w.heap.size, o_, none⟩) (by first | omega | (simp; done) | (simp; omega)); have fw9_448 := fun o_ : Nat => hb.frozen (p := ⟨w.heap.size, o_, none⟩) (by first | omega | (simp; done) | (simp; omega)); have cw9_449 := fun o_ : Nat => hb.cell (p := ⟨w.heap.size + 1, o_, none⟩) (by first | omega | (simp; done) | (simp; omega)); have fw9_449 := fun o_ : Nat => hb.frozen (p := ⟨w.heap.size + 1, o_, none⟩) (by first | omega | (simp; done) | (simp; omega)); clear hb; have hlw9_448_0 : w.heap.size < w9.heap.size := (by omega); have hlw9_449_0 : w.heap.size + 1 < w9.heap.size := (by omega)) | ((with_reducible refine gate_callee (f := 34) rfl ?_); refine goesL_ (some 32) rfl rfl Try.func34 (by kernel_rfl) rfl #[.slice A0 l0.length c0, .int .i64 a1_1] rfl (by (try simp only [List.map_toArray, List.map_cons, List.map_nil]); first | done | rfl | (simp only [List.length_drop, List.length_take]; rfl)) ?_; (with_reducible refine (saga_back.calls k _ _ l0 a1_1 t451 t452 t453 t454 t455 t456 t457 _ ?sd0 HC0.out A8.out).mono ?_); (case sd0 => exact Kd.C_below HR0.out (by repeat (first | (with_reducible first | exact HB_w9.out | exact Below.refl _ _ | apply below_alloc | apply pw_below_drewN | apply below_drew1) | refine below_set ?_ (by first | omega | (simp; omega) | simp)))); rintro e w10 ⟨rfl, hb⟩; refine ⟨_, rfl, ?_⟩; have hsw10 : w9.heap.size ≤ w10.heap.size := (by have h_ := hb.size; simpa using h_); have HB_w10 : Aside0 (Below w.heap.size w w10) := Aside0.mk (below_step (by repeat (first | (with_reducible first | exact HB_w9.out | exact Below.refl _ _ | apply below_alloc | apply pw_below_drewN | apply below_drew1) | refine below_set ?_ (by first | omega | (simp; omega) | simp))) hb); have cw10_448 := fun o_ : Nat => hb.cell (p := ⟨w.heap.size, o_, none⟩) (by first | omega | (simp; done) | (simp; omega)); have fw10_448 := fun o_ : Nat => hb.frozen (p := ⟨w.heap.size, o_, none⟩) (by first | omega | (simp; done) | (simp; omega)); have cw10_449 := fun o_ : Nat => hb.cell (p := ⟨w.heap.size + 1, o_, none⟩) (by first | omega | (simp; done) | (simp; omega)); have fw10_449 := fun o_ : Nat => hb.frozen (p := ⟨w.heap.size + 1, o_, none⟩) (by first | omega | (simp; done) | (simp; omega)); clear hb; have hlw10_448_0 : w.heap.size < w10.heap.size := (by omega); have hlw10_449_0 : w.heap.size + 1 < w10.heap.size := (by omega)))
          refine bodyPost_ret ?_ rfl ⟨rfl, ?_⟩
          · simp [results, Try.results22, go_sem, cw9_448, fw9_448, cw9_449, fw9_449, hlw9_448_0, hlw9_449_0, cw10_448, fw10_448, cw10_449, fw10_449, hlw10_448_0, hlw10_449_0]
          · exact (by repeat (first | (with_reducible first | exact HB_w10.out | exact Below.refl _ _ | apply below_alloc | apply pw_below_drewN | apply below_drew1) | refine below_set ?_ (by first | omega | (simp; omega) | simp)))
        · rw [if_neg c7] at H
          have c7b0 : decide (0 < a1_2) = false := decide_eq_false c7
          clear c7
          obtain ⟨⟨t458, t459, t460, t461, t462, t463, t464⟩, A_, H⟩ := Option.bind_eq_some_iff.mp H
          try dsimp only at H
          have A11 := Aside0.mk A_
          clear A_
          simp only [Option.some.injEq, Prod.mk.injEq] at H
          obtain ⟨rfl, rfl, rfl, rfl, rfl, rfl, rfl, rfl⟩ := H
          go_enter Try.func22, Try.ntmps22
          go_wp2_with (first | ((with_reducible refine gate_callee (f := 24) rfl ?_); refine goesL_ (some 9) rfl rfl Try.func24 (by kernel_rfl) rfl #[.slice A0 l0.length c0, .agg #[.int .i64 a1_0, .int .i64 a1_1, .int .i64 a1_2, .bool false, .int .i64 a1_4, .bool a1_5, .int .i64 a1_6]] rfl (by (try simp only [List.map_toArray, List.map_cons, List.map_nil]); first | done | rfl | (simp only [List.length_drop, List.length_take]; rfl)) ?_; (with_reducible refine (saga_Check.calls k _ _ l0 a1_0 a1_1 a1_2 false a1_4 a1_5 a1_6 t450 _ ?sd0 HC0.out A2.out).mono ?_); (case sd0 => exact Kd.C_below HR0.out (by repeat (first | (with_reducible first | exact Below.refl _ _ | apply below_alloc | apply pw_below_drewN | apply below_drew1) | refine below_set ?_ (by first | omega | (simp; omega) | simp)))); rintro e w12 ⟨rfl, hb⟩; refine ⟨_, rfl, ?_⟩; have hsw12 : w.heap.size + 2 ≤ w12.heap.size := (by have h_ := hb.size; simpa using h_); have HB_w12 : Aside0 (Below w.heap.size w w12) := Aside0.mk (below_step (by repeat (first | (with_reducible first | exact Below.refl _ _ | apply below_alloc | apply pw_below_drewN | apply below_drew1) | refine below_set ?_ (by first | omega | (simp; omega) | simp))) hb); have cw12_448 := fun o_ : Nat => hb.cell (p := ⟨w.heap.size, o_, none⟩) (by first | omega | (simp; done) | (simp; omega)); have fw12_448 := fun o_ : Nat => hb.frozen (p := ⟨w.heap.size, o_, none⟩) (by first | omega | (simp; done) | (simp; omega)); have cw12_449 := fun o_ : Nat => hb.cell (p := ⟨w.heap.size + 1, o_, none⟩) (by first | omega | (simp; done) | (simp; omega)); have fw12_449 := fun o_ : Nat => hb.frozen (p := ⟨w.heap.size + 1, o_, none⟩) (by first | omega | (simp; done) | (simp; omega)); clear hb; have hlw12_448_0 : w.heap.size < w12.heap.size := (by omega); have hlw12_449_0 : w.heap.size + 1 < w12.heap.size := (by omega)) | ((with_reducible refine gate_callee (f := 34) rfl ?_); refine goesL_ (some 37) rfl rfl Try.func34 (by kernel_rfl) rfl #[.slice A0 l0.length c0, .int .i64 (wrap64 (a1_1 - 1))] rfl (by (try simp only [List.map_toArray, List.map_cons, List.map_nil]); first | done | rfl | (simp only [List.length_drop, List.length_take]; rfl)) ?_; (with_reducible refine (saga_back.calls k _ _ l0 (wrap64 (a1_1 - 1)) t458 t459 t460 t461 t462 t463 t464 _ ?sd0 HC0.out A11.out).mono ?_); (case sd0 => exact Kd.C_below HR0.out (by repeat (first | (with_reducible first | exact HB_w12.out | exact Below.refl _ _ | apply below_alloc | apply pw_below_drewN | apply below_drew1) | refine below_set ?_ (by first | omega | (simp; omega) | simp)))); rintro e w13 ⟨rfl, hb⟩; refine ⟨_, rfl, ?_⟩; have hsw13 : w12.heap.size ≤ w13.heap.size := (by have h_ := hb.size; simpa using h_); have HB_w13 : Aside0 (Below w.heap.size w w13) := Aside0.mk (below_step (by repeat (first | (with_reducible first | exact HB_w12.out | exact Below.refl _ _ | apply below_alloc | apply pw_below_drewN | apply below_drew1) | refine below_set ?_ (by first | omega | (simp; omega) | simp))) hb); have cw13_448 := fun o_ : Nat => hb.cell (p := ⟨w.heap.size, o_, none⟩) (by first | omega | (simp; done) | (simp; omega)); have fw13_448 := fun o_ : Nat => hb.frozen (p := ⟨w.heap.size, o_, none⟩) (by first | omega | (simp; done) | (simp; omega)); have cw13_449 := fun o_ : Nat => hb.cell (p := ⟨w.heap.size + 1, o_, none⟩) (by first | omega | (simp; done) | (simp; omega)); have fw13_449 := fun o_ : Nat => hb.frozen (p := ⟨w.heap.size + 1, o_, none⟩) (by first | omega | (simp; done) | (simp; omega)); clear hb; have hlw13_448_0 : w.heap.size < w13.heap.size := (by omega); have hlw13_449_0 : w.heap.size + 1 < w13.heap.size := (by omega)))
          refine bodyPost_ret ?_ rfl ⟨rfl, ?_⟩
          · simp [results, Try.results22, go_sem, cw12_448, fw12_448, cw12_449, fw12_449, hlw12_448_0, hlw12_449_0, cw13_448, fw13_448, cw13_449, fw13_449, hlw13_448_0, hlw13_449_0]
          · exact (by repeat (first | (with_reducible first | exact HB_w13.out | exact Below.refl _ _ | apply below_alloc | apply pw_below_drewN | apply below_drew1) | refine below_set ?_ (by first | omega | (simp; omega) | simp)))
    · rw [if_neg c4] at H
      have c4b0 : (a1_0 == 1) = false := beq_eq_false_iff_ne.mpr c4
      have c4b1 : (a1_0 != 1) = true := bne_iff_ne.mpr c4
      clear c4
      simp only [Option.some.injEq, Prod.mk.injEq] at H
      obtain ⟨rfl, rfl, rfl, rfl, rfl, rfl, rfl, rfl⟩ := H
      go_enter Try.func22, Try.ntmps22
      go_wp2_with (first | ((with_reducible refine gate_callee (f := 24) rfl ?_); refine goesL_ (some 9) rfl rfl Try.func24 (by kernel_rfl) rfl #[.slice A0 l0.length c0, .agg #[.int .i64 a1_0, .int .i64 a1_1, .int .i64 a1_2, .bool a1_3, .int .i64 a1_4, .bool a1_5, .int .i64 a1_6]] rfl (by (try simp only [List.map_toArray, List.map_cons, List.map_nil]); first | done | rfl | (simp only [List.length_drop, List.length_take]; rfl)) ?_; (with_reducible refine (saga_Check.calls k _ _ l0 a1_0 a1_1 a1_2 a1_3 a1_4 a1_5 a1_6 t450 _ ?sd0 HC0.out A2.out).mono ?_); (case sd0 => exact Kd.C_below HR0.out (by repeat (first | (with_reducible first | exact Below.refl _ _ | apply below_alloc | apply pw_below_drewN | apply below_drew1) | refine below_set ?_ (by first | omega | (simp; omega) | simp)))); rintro e w14 ⟨rfl, hb⟩; refine ⟨_, rfl, ?_⟩; have hsw14 : w.heap.size + 2 ≤ w14.heap.size := (by have h_ := hb.size; simpa using h_); have HB_w14 : Aside0 (Below w.heap.size w w14) := Aside0.mk (below_step (by repeat (first | (with_reducible first | exact Below.refl _ _ | apply below_alloc | apply pw_below_drewN | apply below_drew1) | refine below_set ?_ (by first | omega | (simp; omega) | simp))) hb); have cw14_448 := fun o_ : Nat => hb.cell (p := ⟨w.heap.size, o_, none⟩) (by first | omega | (simp; done) | (simp; omega)); have fw14_448 := fun o_ : Nat => hb.frozen (p := ⟨w.heap.size, o_, none⟩) (by first | omega | (simp; done) | (simp; omega)); have cw14_449 := fun o_ : Nat => hb.cell (p := ⟨w.heap.size + 1, o_, none⟩) (by first | omega | (simp; done) | (simp; omega)); have fw14_449 := fun o_ : Nat => hb.frozen (p := ⟨w.heap.size + 1, o_, none⟩) (by first | omega | (simp; done) | (simp; omega)); clear hb; have hlw14_448_0 : w.heap.size < w14.heap.size := (by omega); have hlw14_449_0 : w.heap.size + 1 < w14.heap.size := (by omega)))
      refine bodyPost_ret ?_ rfl ⟨rfl, ?_⟩
      · simp [results, Try.results22, go_sem, cw14_448, fw14_448, cw14_449, fw14_449, hlw14_448_0, hlw14_449_0]
      · exact (by repeat (first | (with_reducible first | exact HB_w14.out | exact Below.refl _ _ | apply below_alloc | apply pw_below_drewN | apply below_drew1) | refine below_set ?_ (by first | omega | (simp; omega) | simp)))
  · rw [if_neg c3] at H
    have c3b0 : (t450 == 0) = false := beq_eq_false_iff_ne.mpr c3
    have c3b1 : (t450 != 0) = true := bne_iff_ne.mpr c3
    clear c3
    simp only [Option.some.injEq, Prod.mk.injEq] at H
    obtain ⟨rfl, rfl, rfl, rfl, rfl, rfl, rfl, rfl⟩ := H
    go_enter Try.func22, Try.ntmps22
    go_wp2_with (first | ((with_reducible refine gate_callee (f := 24) rfl ?_); refine goesL_ (some 9) rfl rfl Try.func24 (by kernel_rfl) rfl #[.slice A0 l0.length c0, .agg #[.int .i64 a1_0, .int .i64 a1_1, .int .i64 a1_2, .bool a1_3, .int .i64 a1_4, .bool a1_5, .int .i64 a1_6]] rfl (by (try simp only [List.map_toArray, List.map_cons, List.map_nil]); first | done | rfl | (simp only [List.length_drop, List.length_take]; rfl)) ?_; (with_reducible refine (saga_Check.calls k _ _ l0 a1_0 a1_1 a1_2 a1_3 a1_4 a1_5 a1_6 t450 _ ?sd0 HC0.out A2.out).mono ?_); (case sd0 => exact Kd.C_below HR0.out (by repeat (first | (with_reducible first | exact Below.refl _ _ | apply below_alloc | apply pw_below_drewN | apply below_drew1) | refine below_set ?_ (by first | omega | (simp; omega) | simp)))); rintro e w15 ⟨rfl, hb⟩; refine ⟨_, rfl, ?_⟩; have hsw15 : w.heap.size + 2 ≤ w15.heap.size := (by have h_ := hb.size; simpa using h_); have HB_w15 : Aside0 (Below w.heap.size w w15) := Aside0.mk (below_step (by repeat (first | (with_reducible first | exact Below.refl _ _ | apply below_alloc | apply pw_below_drewN | apply below_drew1) | refine below_set ?_ (by first | omega | (simp; omega) | simp))) hb); have cw15_448 := fun o_ : Nat => hb.cell (p := ⟨w.heap.size, o_, none⟩) (by first | omega | (simp; done) | (simp; omega)); have fw15_448 := fun o_ : Nat => hb.frozen (p := ⟨w.heap.size, o_, none⟩) (by first | omega | (simp; done) | (simp; omega)); have cw15_449 := fun o_ : Nat => hb.cell (p := ⟨w.heap.size + 1, o_, none⟩) (by first | omega | (simp; done) | (simp; omega)); have fw15_449 := fun o_ : Nat => hb.frozen (p := ⟨w.heap.size + 1, o_, none⟩) (by first | omega | (simp; done) | (simp; omega)); clear hb; have hlw15_448_0 : w.heap.size < w15.heap.size := (by omega); have hlw15_449_0 : w.heap.size + 1 < w15.heap.size := (by omega)))
    refine bodyPost_ret ?_ rfl ⟨rfl, ?_⟩
    · simp [results, Try.results22, go_sem, cw15_448, fw15_448, cw15_449, fw15_449, hlw15_448_0, hlw15_449_0]
    · exact (by repeat (first | (with_reducible first | exact HB_w15.out | exact Below.refl _ _ | apply below_alloc | apply pw_below_drewN | apply below_drew1) | refine below_set ?_ (by first | omega | (simp; omega) | simp)))

/-! ### drayageref14_Cancel: function 23 -/
def drayageref14_Cancel.f (k : Nat) (l0 : List (S38)) (a1_0 : Int) (a1_1 : Int) (a1_2 : Int) (a1_3 : Bool) (a1_4 : Int) (a1_5 : Bool) (a1_6 : Int) : Option (Int × Int × Int × Bool × Int × Bool × Int × Int) := (drayageref14_Check.f k l0 a1_0 a1_1 a1_2 a1_3 a1_4 a1_5 a1_6).bind fun t467 => (if t467 = 0 then (if a1_0 = 1 then (if a1_3 = true then (some (a1_0, a1_1, a1_2, a1_3, a1_4, true, a1_6, 0)) else (if a1_2 = 0 then ((drayageref14_back.f k l0 (wrap64 (a1_1 - 1))).bind fun bt468 => (some (bt468.1, bt468.2.1, bt468.2.2.1, bt468.2.2.2.1, bt468.2.2.2.2.1, bt468.2.2.2.2.2.1, bt468.2.2.2.2.2.2, 0))) else ((drayageref14_back.f k l0 a1_1).bind fun bt475 => (some (bt475.1, bt475.2.1, bt475.2.2.1, bt475.2.2.2.1, bt475.2.2.2.2.1, bt475.2.2.2.2.2.1, bt475.2.2.2.2.2.2, 0))))) else (some (a1_0, a1_1, a1_2, a1_3, a1_4, a1_5, a1_6, 0))) else (some (0, 0, 0, false, 0, false, 0, t467)))

attribute [local go_sem] cell_alloc_lt2 cell_set_ne2

end Go.Proofs.Yteefdhgfcnjpoaa.PA
