-- printed by a program of this work (wip/tools/pr.py over the kit's print): the machine's side of SagaTries, SagaMoves, SagaStays, SagaOrder, SagaEnds, SagaTicks
import Derived.Test.YteefdhgfcnjpoaaQCaPAx0
import Derived.Test.YteefdhgfcnjpoaaQCaPAx6
import Derived.Test.YteefdhgfcnjpoaaQCaPAx7
namespace Go.Proofs.Yteefdhgfcnjpoaa.PA
open Go.RowKit Go.Proofs.YteefdhgfcnjpoaaW.PrintWords Go.Proofs.YteefdhgfcnjpoaaW.PrintLast Go.Proofs.YteefdhgfcnjpoaaW.PrintMore
attribute [local go_sem] max2_int min2_int max_two min_two max_three min_three max_four min_four   -- for this text's walks alone
set_option linter.unusedVariables false
set_option linter.unusedSimpArgs false

/-! ### saga_Next: function 16 -/
def saga_Next.f (k : Nat) (l0 : List (S38)) (a1_0 : Int) (a1_1 : Int) (a1_2 : Int) (a1_3 : Bool) (a1_4 : Int) (a1_5 : Bool) (a1_6 : Int) : Option (Int × Bool × Int × Bool) := (saga_Check.f k l0 a1_0 a1_1 a1_2 a1_3 a1_4 a1_5 a1_6).bind fun t142 => (if t142 = 0 then (if a1_0 = 3 then (some (0, false, 0, false)) else (if a1_3 = true then (some (0, false, 0, false)) else (some (a1_1, (a1_0 == 2), wrap64 (a1_2 + 1), true)))) else (some (0, false, 0, false)))
theorem saga_Next.mono : ∀ a0 a1 a2 a3 a4 a5 a6 a7 k, LeO (saga_Next.f k a0 a1 a2 a3 a4 a5 a6 a7) (saga_Next.f (k + 1) a0 a1 a2 a3 a4 a5 a6 a7) := by
  intro a0 a1 a2 a3 a4 a5 a6 a7 k
  unfold saga_Next.f
  repeat' first
      | (with_reducible exact saga_Check.mono _ _ _ _ _ _ _ _ _)
      | (with_reducible exact LeO.refl _)
      | (with_reducible exact LeO.none _)
      | (with_reducible refine LeO.ite ?_ ?_)
      | (with_reducible refine LeO.bind ?_ (fun _ => ?_))
      | exact saga_Check.mono _ _ _ _ _ _ _ _ _
      | exact LeO.none _
      | refine LeO.ite ?_ ?_
      | refine LeO.bind ?_ (fun _ => ?_)
attribute [local go_sem] cell_alloc_lt2 cell_set_ne2
set_option maxHeartbeats 8000000 in
set_option maxRecDepth 100000 in
theorem saga_Next.calls (k : Nat) (A0 : Option Addr) (c0 : Nat) (l0 : List (S38)) (a1_0 : Int) (a1_1 : Int) (a1_2 : Int) (a1_3 : Bool) (a1_4 : Int) (a1_5 : Bool) (a1_6 : Int) (r1 : Int) (r2 : Bool) (r3 : Int) (r4 : Bool) (w : World) (hr0 : Kd.C k38 w A0 l0.length l0) (hc0 : l0.length ≤ c0) (h : saga_Next.f k l0 a1_0 a1_1 a1_2 a1_3 a1_4 a1_5 a1_6 = some (r1, r2, r3, r4)) :
    Calls Try.prog 16 #[.slice A0 l0.length c0, .agg #[.int .i64 a1_0, .int .i64 a1_1, .int .i64 a1_2, .bool a1_3, .int .i64 a1_4, .bool a1_5, .int .i64 a1_6]] w fun e w' => e = .returned (.tuple #[.agg #[.int .i64 r1, .bool r2, .int .i64 r3], .bool r4]) ∧ Below w.heap.size w w' := by
  have hu28 := Try.underlying28
  have hu41 := Try.underlying41
  have HR0 := Aside0.mk hr0
  have HC0 := Aside0.mk hc0
  clear hr0 hc0
  have HB := Aside0.mk (Below.refl w.heap.size w)
  have H := h
  clear h
  unfold saga_Next.f at H
  obtain ⟨t142, A_, H⟩ := Option.bind_eq_some_iff.mp H
  try dsimp only at H
  have A2 := Aside0.mk A_
  clear A_
  by_cases c3 : t142 = 0
  · rw [if_pos c3] at H
    have c3b0 : (t142 == 0) = true := beq_iff_eq.mpr c3
    have c3b1 : (t142 != 0) = false := bne_eq_false_iff_eq.mpr c3
    clear c3
    by_cases c4 : a1_0 = 3
    · rw [if_pos c4] at H
      have c4b0 : (a1_0 == 3) = true := beq_iff_eq.mpr c4
      have c4b1 : (a1_0 != 3) = false := bne_eq_false_iff_eq.mpr c4
      clear c4
      simp only [Option.some.injEq, Prod.mk.injEq] at H
      obtain ⟨rfl, rfl, rfl, rfl⟩ := H
      go_enter Try.func16, Try.ntmps16
      go_wp2_with (first | ((with_reducible refine gate_callee (f := 24) rfl ?_); refine goesL_ (some 8) rfl rfl Try.func24 (by kernel_rfl) rfl #[.slice A0 l0.length c0, .agg #[.int .i64 a1_0, .int .i64 a1_1, .int .i64 a1_2, .bool a1_3, .int .i64 a1_4, .bool a1_5, .int .i64 a1_6]] rfl (by (try simp only [List.map_toArray, List.map_cons, List.map_nil]); first | done | rfl | (simp only [List.length_drop, List.length_take]; rfl)) ?_; (with_reducible refine (saga_Check.calls k _ _ l0 a1_0 a1_1 a1_2 a1_3 a1_4 a1_5 a1_6 t142 _ ?sd0 HC0.out A2.out).mono ?_); (case sd0 => exact Kd.C_below HR0.out (by repeat (first | (with_reducible first | exact Below.refl _ _ | apply below_alloc | apply pw_below_drewN | apply below_drew1) | refine below_set ?_ (by first | omega | (simp; omega) | simp)))); rintro e w5 ⟨rfl, hb⟩; refine ⟨_, rfl, ?_⟩; have hsw5 : w.heap.size + 2 ≤ w5.heap.size := (by have h_ := hb.size; simpa using h_); have HB_w5 : Aside0 (Below w.heap.size w w5) := Aside0.mk (below_step (by repeat (first | (with_reducible first | exact Below.refl _ _ | apply below_alloc | apply pw_below_drewN | apply below_drew1) | refine below_set ?_ (by first | omega | (simp; omega) | simp))) hb); have cw5_140 := fun o_ : Nat => hb.cell (p := ⟨w.heap.size, o_, none⟩) (by first | omega | (simp; done) | (simp; omega)); have fw5_140 := fun o_ : Nat => hb.frozen (p := ⟨w.heap.size, o_, none⟩) (by first | omega | (simp; done) | (simp; omega)); have cw5_141 := fun o_ : Nat => hb.cell (p := ⟨w.heap.size + 1, o_, none⟩) (by first | omega | (simp; done) | (simp; omega)); have fw5_141 := fun o_ : Nat => hb.frozen (p := ⟨w.heap.size + 1, o_, none⟩) (by first | omega | (simp; done) | (simp; omega)); clear hb; have hlw5_140_0 : w.heap.size < w5.heap.size := (by omega); have hlw5_141_0 : w.heap.size + 1 < w5.heap.size := (by omega)))
      refine bodyPost_ret ?_ rfl ⟨rfl, ?_⟩
      · simp [results, Try.results16, go_sem, cw5_140, fw5_140, cw5_141, fw5_141, hlw5_140_0, hlw5_141_0]
      · exact (by repeat (first | (with_reducible first | exact HB_w5.out | exact Below.refl _ _ | apply below_alloc | apply pw_below_drewN | apply below_drew1) | refine below_set ?_ (by first | omega | (simp; omega) | simp)))
    · rw [if_neg c4] at H
      have c4b0 : (a1_0 == 3) = false := beq_eq_false_iff_ne.mpr c4
      have c4b1 : (a1_0 != 3) = true := bne_iff_ne.mpr c4
      clear c4
      by_cases c6 : a1_3 = true
      · subst c6
        rw [if_pos rfl] at H
        simp only [Option.some.injEq, Prod.mk.injEq] at H
        obtain ⟨rfl, rfl, rfl, rfl⟩ := H
        go_enter Try.func16, Try.ntmps16
        go_wp2_with (first | ((with_reducible refine gate_callee (f := 24) rfl ?_); refine goesL_ (some 8) rfl rfl Try.func24 (by kernel_rfl) rfl #[.slice A0 l0.length c0, .agg #[.int .i64 a1_0, .int .i64 a1_1, .int .i64 a1_2, .bool true, .int .i64 a1_4, .bool a1_5, .int .i64 a1_6]] rfl (by (try simp only [List.map_toArray, List.map_cons, List.map_nil]); first | done | rfl | (simp only [List.length_drop, List.length_take]; rfl)) ?_; (with_reducible refine (saga_Check.calls k _ _ l0 a1_0 a1_1 a1_2 true a1_4 a1_5 a1_6 t142 _ ?sd0 HC0.out A2.out).mono ?_); (case sd0 => exact Kd.C_below HR0.out (by repeat (first | (with_reducible first | exact Below.refl _ _ | apply below_alloc | apply pw_below_drewN | apply below_drew1) | refine below_set ?_ (by first | omega | (simp; omega) | simp)))); rintro e w7 ⟨rfl, hb⟩; refine ⟨_, rfl, ?_⟩; have hsw7 : w.heap.size + 2 ≤ w7.heap.size := (by have h_ := hb.size; simpa using h_); have HB_w7 : Aside0 (Below w.heap.size w w7) := Aside0.mk (below_step (by repeat (first | (with_reducible first | exact Below.refl _ _ | apply below_alloc | apply pw_below_drewN | apply below_drew1) | refine below_set ?_ (by first | omega | (simp; omega) | simp))) hb); have cw7_140 := fun o_ : Nat => hb.cell (p := ⟨w.heap.size, o_, none⟩) (by first | omega | (simp; done) | (simp; omega)); have fw7_140 := fun o_ : Nat => hb.frozen (p := ⟨w.heap.size, o_, none⟩) (by first | omega | (simp; done) | (simp; omega)); have cw7_141 := fun o_ : Nat => hb.cell (p := ⟨w.heap.size + 1, o_, none⟩) (by first | omega | (simp; done) | (simp; omega)); have fw7_141 := fun o_ : Nat => hb.frozen (p := ⟨w.heap.size + 1, o_, none⟩) (by first | omega | (simp; done) | (simp; omega)); clear hb; have hlw7_140_0 : w.heap.size < w7.heap.size := (by omega); have hlw7_141_0 : w.heap.size + 1 < w7.heap.size := (by omega)))
        refine bodyPost_ret ?_ rfl ⟨rfl, ?_⟩
        · simp [results, Try.results16, go_sem, cw7_140, fw7_140, cw7_141, fw7_141, hlw7_140_0, hlw7_141_0]
        · exact (by repeat (first | (with_reducible first | exact HB_w7.out | exact Below.refl _ _ | apply below_alloc | apply pw_below_drewN | apply below_drew1) | refine below_set ?_ (by first | omega | (simp; omega) | simp)))
      · replace c6 := Bool.eq_false_iff.mpr c6; subst c6
        rw [if_neg (by decide)] at H
        simp only [Option.some.injEq, Prod.mk.injEq] at H
        obtain ⟨rfl, rfl, rfl, rfl⟩ := H
        go_enter Try.func16, Try.ntmps16
        go_wp2_with (first | ((with_reducible refine gate_callee (f := 24) rfl ?_); refine goesL_ (some 8) rfl rfl Try.func24 (by kernel_rfl) rfl #[.slice A0 l0.length c0, .agg #[.int .i64 a1_0, .int .i64 a1_1, .int .i64 a1_2, .bool false, .int .i64 a1_4, .bool a1_5, .int .i64 a1_6]] rfl (by (try simp only [List.map_toArray, List.map_cons, List.map_nil]); first | done | rfl | (simp only [List.length_drop, List.length_take]; rfl)) ?_; (with_reducible refine (saga_Check.calls k _ _ l0 a1_0 a1_1 a1_2 false a1_4 a1_5 a1_6 t142 _ ?sd0 HC0.out A2.out).mono ?_); (case sd0 => exact Kd.C_below HR0.out (by repeat (first | (with_reducible first | exact Below.refl _ _ | apply below_alloc | apply pw_below_drewN | apply below_drew1) | refine below_set ?_ (by first | omega | (simp; omega) | simp)))); rintro e w8 ⟨rfl, hb⟩; refine ⟨_, rfl, ?_⟩; have hsw8 : w.heap.size + 2 ≤ w8.heap.size := (by have h_ := hb.size; simpa using h_); have HB_w8 : Aside0 (Below w.heap.size w w8) := Aside0.mk (below_step (by repeat (first | (with_reducible first | exact Below.refl _ _ | apply below_alloc | apply pw_below_drewN | apply below_drew1) | refine below_set ?_ (by first | omega | (simp; omega) | simp))) hb); have cw8_140 := fun o_ : Nat => hb.cell (p := ⟨w.heap.size, o_, none⟩) (by first | omega | (simp; done) | (simp; omega)); have fw8_140 := fun o_ : Nat => hb.frozen (p := ⟨w.heap.size, o_, none⟩) (by first | omega | (simp; done) | (simp; omega)); have cw8_141 := fun o_ : Nat => hb.cell (p := ⟨w.heap.size + 1, o_, none⟩) (by first | omega | (simp; done) | (simp; omega)); have fw8_141 := fun o_ : Nat => hb.frozen (p := ⟨w.heap.size + 1, o_, none⟩) (by first | omega | (simp; done) | (simp; omega)); clear hb; have hlw8_140_0 : w.heap.size < w8.heap.size := (by omega); have hlw8_141_0 : w.heap.size + 1 < w8.heap.size := (by omega)))
        refine bodyPost_ret ?_ rfl ⟨rfl, ?_⟩
        · simp [results, Try.results16, go_sem, cw8_140, fw8_140, cw8_141, fw8_141, hlw8_140_0, hlw8_141_0]
        · exact (by repeat (first | (with_reducible first | exact HB_w8.out | exact Below.refl _ _ | apply below_alloc | apply pw_below_drewN | apply below_drew1) | refine below_set ?_ (by first | omega | (simp; omega) | simp)))
  · rw [if_neg c3] at H
    have c3b0 : (t142 == 0) = false := beq_eq_false_iff_ne.mpr c3
    have c3b1 : (t142 != 0) = true := bne_iff_ne.mpr c3
    clear c3
    simp only [Option.some.injEq, Prod.mk.injEq] at H
    obtain ⟨rfl, rfl, rfl, rfl⟩ := H
    go_enter Try.func16, Try.ntmps16
    go_wp2_with (first | ((with_reducible refine gate_callee (f := 24) rfl ?_); refine goesL_ (some 8) rfl rfl Try.func24 (by kernel_rfl) rfl #[.slice A0 l0.length c0, .agg #[.int .i64 a1_0, .int .i64 a1_1, .int .i64 a1_2, .bool a1_3, .int .i64 a1_4, .bool a1_5, .int .i64 a1_6]] rfl (by (try simp only [List.map_toArray, List.map_cons, List.map_nil]); first | done | rfl | (simp only [List.length_drop, List.length_take]; rfl)) ?_; (with_reducible refine (saga_Check.calls k _ _ l0 a1_0 a1_1 a1_2 a1_3 a1_4 a1_5 a1_6 t142 _ ?sd0 HC0.out A2.out).mono ?_); (case sd0 => exact Kd.C_below HR0.out (by repeat (first | (with_reducible first | exact Below.refl _ _ | apply below_alloc | apply pw_below_drewN | apply below_drew1) | refine below_set ?_ (by first | omega | (simp; omega) | simp)))); rintro e w9 ⟨rfl, hb⟩; refine ⟨_, rfl, ?_⟩; have hsw9 : w.heap.size + 2 ≤ w9.heap.size := (by have h_ := hb.size; simpa using h_); have HB_w9 : Aside0 (Below w.heap.size w w9) := Aside0.mk (below_step (by repeat (first | (with_reducible first | exact Below.refl _ _ | apply below_alloc | apply pw_below_drewN | apply below_drew1) | refine below_set ?_ (by first | omega | (simp; omega) | simp))) hb); have cw9_140 := fun o_ : Nat => hb.cell (p := ⟨w.heap.size, o_, none⟩) (by first | omega | (simp; done) | (simp; omega)); have fw9_140 := fun o_ : Nat => hb.frozen (p := ⟨w.heap.size, o_, none⟩) (by first | omega | (simp; done) | (simp; omega)); have cw9_141 := fun o_ : Nat => hb.cell (p := ⟨w.heap.size + 1, o_, none⟩) (by first | omega | (simp; done) | (simp; omega)); have fw9_141 := fun o_ : Nat => hb.frozen (p := ⟨w.heap.size + 1, o_, none⟩) (by first | omega | (simp; done) | (simp; omega)); clear hb; have hlw9_140_0 : w.heap.size < w9.heap.size := (by omega); have hlw9_141_0 : w.heap.size + 1 < w9.heap.size := (by omega)))
    refine bodyPost_ret ?_ rfl ⟨rfl, ?_⟩
    · simp [results, Try.results16, go_sem, cw9_140, fw9_140, cw9_141, fw9_141, hlw9_140_0, hlw9_141_0]
    · exact (by repeat (first | (with_reducible first | exact HB_w9.out | exact Below.refl _ _ | apply below_alloc | apply pw_below_drewN | apply below_drew1) | refine below_set ?_ (by first | omega | (simp; omega) | simp)))

/-! ### saga_Ask: function 14 -/
def saga_Ask.f (k : Nat) (l0 : List (S38)) (a1_0 : Int) (a1_1 : Int) (a1_2 : Int) (a1_3 : Bool) (a1_4 : Int) (a1_5 : Bool) (a1_6 : Int) : Option (Int × Int × Int × Bool × Int × Bool × Int × Int) := (saga_Check.f k l0 a1_0 a1_1 a1_2 a1_3 a1_4 a1_5 a1_6).bind fun t145 => (if t145 = 0 then ((saga_Next.f k l0 a1_0 a1_1 a1_2 a1_3 a1_4 a1_5 a1_6).bind fun bt146 => (if bt146.2.2.2 = true then (if 0 ≤ a1_1 then (if a1_1 < (l0.length : Int) then (some (a1_0, a1_1, bt146.2.2.1, true, (rd_T38 l0 a1_1).f2, a1_5, a1_6, 0)) else (none)) else (none)) else (some (0, 0, 0, false, 0, false, 0, 2)))) else (some (0, 0, 0, false, 0, false, 0, t145)))
theorem saga_Ask.mono : ∀ a0 a1 a2 a3 a4 a5 a6 a7 k, LeO (saga_Ask.f k a0 a1 a2 a3 a4 a5 a6 a7) (saga_Ask.f (k + 1) a0 a1 a2 a3 a4 a5 a6 a7) := by
  intro a0 a1 a2 a3 a4 a5 a6 a7 k
  unfold saga_Ask.f
  repeat' first
      | (with_reducible exact saga_Check.mono _ _ _ _ _ _ _ _ _)
      | (with_reducible exact saga_Next.mono _ _ _ _ _ _ _ _ _)
      | (with_reducible exact LeO.refl _)
      | (with_reducible exact LeO.none _)
      | (with_reducible refine LeO.ite ?_ ?_)
      | (with_reducible refine LeO.bind ?_ (fun _ => ?_))
      | exact saga_Check.mono _ _ _ _ _ _ _ _ _
      | exact saga_Next.mono _ _ _ _ _ _ _ _ _
      | exact LeO.none _
      | refine LeO.ite ?_ ?_
      | refine LeO.bind ?_ (fun _ => ?_)
attribute [local go_sem] cell_alloc_lt2 cell_set_ne2
set_option maxHeartbeats 8000000 in
set_option maxRecDepth 100000 in
theorem saga_Ask.calls (k : Nat) (A0 : Option Addr) (c0 : Nat) (l0 : List (S38)) (a1_0 : Int) (a1_1 : Int) (a1_2 : Int) (a1_3 : Bool) (a1_4 : Int) (a1_5 : Bool) (a1_6 : Int) (r1 : Int) (r2 : Int) (r3 : Int) (r4 : Bool) (r5 : Int) (r6 : Bool) (r7 : Int) (r8 : Int) (w : World) (hr0 : Kd.C k38 w A0 l0.length l0) (hc0 : l0.length ≤ c0) (h : saga_Ask.f k l0 a1_0 a1_1 a1_2 a1_3 a1_4 a1_5 a1_6 = some (r1, r2, r3, r4, r5, r6, r7, r8)) :
    Calls Try.prog 14 #[.slice A0 l0.length c0, .agg #[.int .i64 a1_0, .int .i64 a1_1, .int .i64 a1_2, .bool a1_3, .int .i64 a1_4, .bool a1_5, .int .i64 a1_6]] w fun e w' => e = .returned (.tuple #[.agg #[.int .i64 r1, .int .i64 r2, .int .i64 r3, .bool r4, .int .i64 r5, .bool r6, .int .i64 r7], .int .i64 r8]) ∧ Below w.heap.size w w' := by
  have hu28 := Try.underlying28
  have hu41 := Try.underlying41
  have HR0 := Aside0.mk hr0
  have HC0 := Aside0.mk hc0
  clear hr0 hc0
  have HB := Aside0.mk (Below.refl w.heap.size w)
  have H := h
  clear h
  unfold saga_Ask.f at H
  obtain ⟨t145, A_, H⟩ := Option.bind_eq_some_iff.mp H
  try dsimp only at H
  have A2 := Aside0.mk A_
  clear A_
  by_cases c3 : t145 = 0
  · rw [if_pos c3] at H
    have c3b0 : (t145 == 0) = true := beq_iff_eq.mpr c3
    have c3b1 : (t145 != 0) = false := bne_eq_false_iff_eq.mpr c3
    clear c3
    obtain ⟨⟨t146, t147, t148, t149⟩, A_, H⟩ := Option.bind_eq_some_iff.mp H
    try dsimp only at H
    have A4 := Aside0.mk A_
    clear A_
    by_cases c5 : t149 = true
    · subst c5
      rw [if_pos rfl] at H
      by_cases c6 : 0 ≤ a1_1
      · rw [if_pos c6] at H
        have c6b0 : decide (0 ≤ a1_1) = true := decide_eq_true c6
        clear c6
        by_cases c7 : a1_1 < (l0.length : Int)
        · rw [if_pos c7] at H
          have c7b0 : decide (a1_1 < (l0.length : Int)) = true := decide_eq_true c7
          clear c7
          simp only [Option.some.injEq, Prod.mk.injEq] at H
          obtain ⟨rfl, rfl, rfl, rfl, rfl, rfl, rfl, rfl⟩ := H
          go_enter Try.func14, Try.ntmps14
          go_wp2_with (first | ((with_reducible refine gate_callee (f := 24) rfl ?_); refine goesL_ (some 11) rfl rfl Try.func24 (by kernel_rfl) rfl #[.slice A0 l0.length c0, .agg #[.int .i64 a1_0, .int .i64 a1_1, .int .i64 a1_2, .bool a1_3, .int .i64 a1_4, .bool a1_5, .int .i64 a1_6]] rfl (by (try simp only [List.map_toArray, List.map_cons, List.map_nil]); first | done | rfl | (simp only [List.length_drop, List.length_take]; rfl)) ?_; (with_reducible refine (saga_Check.calls k _ _ l0 a1_0 a1_1 a1_2 a1_3 a1_4 a1_5 a1_6 t145 _ ?sd0 HC0.out A2.out).mono ?_); (case sd0 => exact Kd.C_below HR0.out (by repeat (first | (with_reducible first | exact Below.refl _ _ | apply below_alloc | apply pw_below_drewN | apply below_drew1) | refine below_set ?_ (by first | omega | (simp; omega) | simp)))); rintro e w8 ⟨rfl, hb⟩; refine ⟨_, rfl, ?_⟩; have hsw8 : w.heap.size + 2 ≤ w8.heap.size := (by have h_ := hb.size; simpa using h_); have HB_w8 : Aside0 (Below w.heap.size w w8) := Aside0.mk (below_step (by repeat (first | (with_reducible first | exact Below.refl _ _ | apply below_alloc | apply pw_below_drewN | apply below_drew1) | refine below_set ?_ (by first | omega | (simp; omega) | simp))) hb); have cw8_143 := fun o_ : Nat => hb.cell (p := ⟨w.heap.size, o_, none⟩) (by first | omega | (simp; done) | (simp; omega)); have fw8_143 := fun o_ : Nat => hb.frozen (p := ⟨w.heap.size, o_, none⟩) (by first | omega | (simp; done) | (simp; omega)); have cw8_144 := fun o_ : Nat => hb.cell (p := ⟨w.heap.size + 1, o_, none⟩) (by first | omega | (simp; done) | (simp; omega)); have fw8_144 := fun o_ : Nat => hb.frozen (p := ⟨w.heap.size + 1, o_, none⟩) (by first | omega | (simp; done) | (simp; omega)); clear hb; have hlw8_143_0 : w.heap.size < w8.heap.size := (by omega); have hlw8_144_0 : w.heap.size + 1 < w8.heap.size := (by omega)) | ((with_reducible refine gate_callee (f := 16) rfl ?_); refine goesL_ (some 19) rfl rfl Try.func16 (by kernel_rfl) rfl #[.slice A0 l0.length c0, .agg #[.int .i64 a1_0, .int .i64 a1_1, .int .i64 a1_2, .bool a1_3, .int .i64 a1_4, .bool a1_5, .int .i64 a1_6]] rfl (by (try simp only [List.map_toArray, List.map_cons, List.map_nil]); first | done | rfl | (simp only [List.length_drop, List.length_take]; rfl)) ?_; (with_reducible refine (saga_Next.calls k _ _ l0 a1_0 a1_1 a1_2 a1_3 a1_4 a1_5 a1_6 t146 t147 t148 true _ ?sd0 HC0.out A4.out).mono ?_); (case sd0 => exact Kd.C_below HR0.out (by repeat (first | (with_reducible first | exact HB_w8.out | exact Below.refl _ _ | apply below_alloc | apply pw_below_drewN | apply below_drew1) | refine below_set ?_ (by first | omega | (simp; omega) | simp)))); rintro e w9 ⟨rfl, hb⟩; refine ⟨_, rfl, ?_⟩; have hsw9 : w8.heap.size ≤ w9.heap.size := (by have h_ := hb.size; simpa using h_); have HB_w9 : Aside0 (Below w.heap.size w w9) := Aside0.mk (below_step (by repeat (first | (with_reducible first | exact HB_w8.out | exact Below.refl _ _ | apply below_alloc | apply pw_below_drewN | apply below_drew1) | refine below_set ?_ (by first | omega | (simp; omega) | simp))) hb); have cw9_143 := fun o_ : Nat => hb.cell (p := ⟨w.heap.size, o_, none⟩) (by first | omega | (simp; done) | (simp; omega)); have fw9_143 := fun o_ : Nat => hb.frozen (p := ⟨w.heap.size, o_, none⟩) (by first | omega | (simp; done) | (simp; omega)); have cw9_144 := fun o_ : Nat => hb.cell (p := ⟨w.heap.size + 1, o_, none⟩) (by first | omega | (simp; done) | (simp; omega)); have fw9_144 := fun o_ : Nat => hb.frozen (p := ⟨w.heap.size + 1, o_, none⟩) (by first | omega | (simp; done) | (simp; omega)); clear hb; have hlw9_143_0 : w.heap.size < w9.heap.size := (by omega); have hlw9_143_1 : w.heap.size < w9.heap.size + 1 := (by omega); have hnw9_143_0 : ¬ (w.heap.size = w9.heap.size) := (by omega); have hmw9_143_0 : ¬ (w9.heap.size = w.heap.size) := (by omega); have hlw9_144_0 : w.heap.size + 1 < w9.heap.size := (by omega); have hlw9_144_1 : w.heap.size + 1 < w9.heap.size + 1 := (by omega); have hnw9_144_0 : ¬ (w.heap.size + 1 = w9.heap.size) := (by omega); have hmw9_144_0 : ¬ (w9.heap.size = w.heap.size + 1) := (by omega); have p151 : 0 ≤ (a1_1 : Int) := of_decide_eq_true (by first | (with_reducible assumption) | assumption); have q151 : a1_1 < (l0.length : Int) := of_decide_eq_true (by first | (with_reducible assumption) | assumption); obtain ⟨ad151, A151_2, c151_2, e151, hx151_0, hx151_1, hx151_2, hx151_3, hx151_4, hx151_5, hl151_2, hg151_2⟩ := at_T38 (Kd.C_below HR0.out HB_w9.out) (a1_1) p151 q151; cases e151; have HG151_2 := Aside0.mk hg151_2; clear hg151_2; have HL151_2 := Aside0.mk hl151_2; clear hl151_2; have hw151 := cell_lt2 hx151_0; have hw151_1 := Nat.lt_add_right 1 hw151; have hbk151 := C_blk HR0.out (by omega) (by decide); have hne151_143 : ¬ ((ad151.add (a1_1.toNat * 6)).block = w.heap.size) := (by rw [add_block]; omega); have hnf151_143 : ¬ (w.heap.size = (ad151.add (a1_1.toNat * 6)).block) := (by rw [add_block]; omega); have hne151_144 : ¬ ((ad151.add (a1_1.toNat * 6)).block = w.heap.size + 1) := (by rw [add_block]; omega); have hnf151_144 : ¬ (w.heap.size + 1 = (ad151.add (a1_1.toNat * 6)).block) := (by rw [add_block]; omega); replace p151 := eq_true p151; replace q151 := eq_true q151))
          try (go_region; go_wp2)
          refine bodyPost_ret ?_ rfl ⟨rfl, ?_⟩
          · simp [results, Try.results14, go_sem, cw8_143, fw8_143, cw8_144, fw8_144, hlw8_143_0, hlw8_144_0, cw9_143, fw9_143, cw9_144, fw9_144, hlw9_143_0, hlw9_143_1, hnw9_143_0, hmw9_143_0, hlw9_144_0, hlw9_144_1, hnw9_144_0, hmw9_144_0]
          · exact (by repeat (first | (with_reducible first | exact HB_w9.out | exact Below.refl _ _ | apply below_alloc | apply pw_below_drewN | apply below_drew1) | refine below_set ?_ (by first | omega | (simp; omega) | simp)))
        · rw [if_neg c7] at H
          exact absurd H (by simp)
      · rw [if_neg c6] at H
        exact absurd H (by simp)
    · replace c5 := Bool.eq_false_iff.mpr c5; subst c5
      rw [if_neg (by decide)] at H
      simp only [Option.some.injEq, Prod.mk.injEq] at H
      obtain ⟨rfl, rfl, rfl, rfl, rfl, rfl, rfl, rfl⟩ := H
      go_enter Try.func14, Try.ntmps14
      go_wp2_with (first | ((with_reducible refine gate_callee (f := 24) rfl ?_); refine goesL_ (some 11) rfl rfl Try.func24 (by kernel_rfl) rfl #[.slice A0 l0.length c0, .agg #[.int .i64 a1_0, .int .i64 a1_1, .int .i64 a1_2, .bool a1_3, .int .i64 a1_4, .bool a1_5, .int .i64 a1_6]] rfl (by (try simp only [List.map_toArray, List.map_cons, List.map_nil]); first | done | rfl | (simp only [List.length_drop, List.length_take]; rfl)) ?_; (with_reducible refine (saga_Check.calls k _ _ l0 a1_0 a1_1 a1_2 a1_3 a1_4 a1_5 a1_6 t145 _ ?sd0 HC0.out A2.out).mono ?_); (case sd0 => exact Kd.C_below HR0.out (by repeat (first | (with_reducible first | exact Below.refl _ _ | apply below_alloc | apply pw_below_drewN | apply below_drew1) | refine below_set ?_ (by first | omega | (simp; omega) | simp)))); rintro e w10 ⟨rfl, hb⟩; refine ⟨_, rfl, ?_⟩; have hsw10 : w.heap.size + 2 ≤ w10.heap.size := (by have h_ := hb.size; simpa using h_); have HB_w10 : Aside0 (Below w.heap.size w w10) := Aside0.mk (below_step (by repeat (first | (with_reducible first | exact Below.refl _ _ | apply below_alloc | apply pw_below_drewN | apply below_drew1) | refine below_set ?_ (by first | omega | (simp; omega) | simp))) hb); have cw10_143 := fun o_ : Nat => hb.cell (p := ⟨w.heap.size, o_, none⟩) (by first | omega | (simp; done) | (simp; omega)); have fw10_143 := fun o_ : Nat => hb.frozen (p := ⟨w.heap.size, o_, none⟩) (by first | omega | (simp; done) | (simp; omega)); have cw10_144 := fun o_ : Nat => hb.cell (p := ⟨w.heap.size + 1, o_, none⟩) (by first | omega | (simp; done) | (simp; omega)); have fw10_144 := fun o_ : Nat => hb.frozen (p := ⟨w.heap.size + 1, o_, none⟩) (by first | omega | (simp; done) | (simp; omega)); clear hb; have hlw10_143_0 : w.heap.size < w10.heap.size := (by omega); have hlw10_144_0 : w.heap.size + 1 < w10.heap.size := (by omega)) | ((with_reducible refine gate_callee (f := 16) rfl ?_); refine goesL_ (some 19) rfl rfl Try.func16 (by kernel_rfl) rfl #[.slice A0 l0.length c0, .agg #[.int .i64 a1_0, .int .i64 a1_1, .int .i64 a1_2, .bool a1_3, .int .i64 a1_4, .bool a1_5, .int .i64 a1_6]] rfl (by (try simp only [List.map_toArray, List.map_cons, List.map_nil]); first | done | rfl | (simp only [List.length_drop, List.length_take]; rfl)) ?_; (with_reducible refine (saga_Next.calls k _ _ l0 a1_0 a1_1 a1_2 a1_3 a1_4 a1_5 a1_6 t146 t147 t148 false _ ?sd0 HC0.out A4.out).mono ?_); (case sd0 => exact Kd.C_below HR0.out (by repeat (first | (with_reducible first | exact HB_w10.out | exact Below.refl _ _ | apply below_alloc | apply pw_below_drewN | apply below_drew1) | refine below_set ?_ (by first | omega | (simp; omega) | simp)))); rintro e w11 ⟨rfl, hb⟩; refine ⟨_, rfl, ?_⟩; have hsw11 : w10.heap.size ≤ w11.heap.size := (by have h_ := hb.size; simpa using h_); have HB_w11 : Aside0 (Below w.heap.size w w11) := Aside0.mk (below_step (by repeat (first | (with_reducible first | exact HB_w10.out | exact Below.refl _ _ | apply below_alloc | apply pw_below_drewN | apply below_drew1) | refine below_set ?_ (by first | omega | (simp; omega) | simp))) hb); have cw11_143 := fun o_ : Nat => hb.cell (p := ⟨w.heap.size, o_, none⟩) (by first | omega | (simp; done) | (simp; omega)); have fw11_143 := fun o_ : Nat => hb.frozen (p := ⟨w.heap.size, o_, none⟩) (by first | omega | (simp; done) | (simp; omega)); have cw11_144 := fun o_ : Nat => hb.cell (p := ⟨w.heap.size + 1, o_, none⟩) (by first | omega | (simp; done) | (simp; omega)); have fw11_144 := fun o_ : Nat => hb.frozen (p := ⟨w.heap.size + 1, o_, none⟩) (by first | omega | (simp; done) | (simp; omega)); clear hb; have hlw11_143_0 : w.heap.size < w11.heap.size := (by omega); have hlw11_143_1 : w.heap.size < w11.heap.size + 1 := (by omega); have hnw11_143_0 : ¬ (w.heap.size = w11.heap.size) := (by omega); have hmw11_143_0 : ¬ (w11.heap.size = w.heap.size) := (by omega); have hlw11_144_0 : w.heap.size + 1 < w11.heap.size := (by omega); have hlw11_144_1 : w.heap.size + 1 < w11.heap.size + 1 := (by omega); have hnw11_144_0 : ¬ (w.heap.size + 1 = w11.heap.size) := (by omega); have hmw11_144_0 : ¬ (w11.heap.size = w.heap.size + 1) := (by omega)))
      try (go_region; go_wp2)
      refine bodyPost_ret ?_ rfl ⟨rfl, ?_⟩
      · simp [results, Try.results14, go_sem, cw10_143, fw10_143, cw10_144, fw10_144, hlw10_143_0, hlw10_144_0, cw11_143, fw11_143, cw11_144, fw11_144, hlw11_143_0, hlw11_143_1, hnw11_143_0, hmw11_143_0, hlw11_144_0, hlw11_144_1, hnw11_144_0, hmw11_144_0]
      · exact (by repeat (first | (with_reducible first | exact HB_w11.out | exact Below.refl _ _ | apply below_alloc | apply pw_below_drewN | apply below_drew1) | refine below_set ?_ (by first | omega | (simp; omega) | simp)))
  · rw [if_neg c3] at H
    have c3b0 : (t145 == 0) = false := beq_eq_false_iff_ne.mpr c3
    have c3b1 : (t145 != 0) = true := bne_iff_ne.mpr c3
    clear c3
    simp only [Option.some.injEq, Prod.mk.injEq] at H
    obtain ⟨rfl, rfl, rfl, rfl, rfl, rfl, rfl, rfl⟩ := H
    go_enter Try.func14, Try.ntmps14
    go_wp2_with (first | ((with_reducible refine gate_callee (f := 24) rfl ?_); refine goesL_ (some 11) rfl rfl Try.func24 (by kernel_rfl) rfl #[.slice A0 l0.length c0, .agg #[.int .i64 a1_0, .int .i64 a1_1, .int .i64 a1_2, .bool a1_3, .int .i64 a1_4, .bool a1_5, .int .i64 a1_6]] rfl (by (try simp only [List.map_toArray, List.map_cons, List.map_nil]); first | done | rfl | (simp only [List.length_drop, List.length_take]; rfl)) ?_; (with_reducible refine (saga_Check.calls k _ _ l0 a1_0 a1_1 a1_2 a1_3 a1_4 a1_5 a1_6 t145 _ ?sd0 HC0.out A2.out).mono ?_); (case sd0 => exact Kd.C_below HR0.out (by repeat (first | (with_reducible first | exact Below.refl _ _ | apply below_alloc | apply pw_below_drewN | apply below_drew1) | refine below_set ?_ (by first | omega | (simp; omega) | simp)))); rintro e w12 ⟨rfl, hb⟩; refine ⟨_, rfl, ?_⟩; have hsw12 : w.heap.size + 2 ≤ w12.heap.size := (by have h_ := hb.size; simpa using h_); have HB_w12 : Aside0 (Below w.heap.size w w12) := Aside0.mk (below_step (by repeat (first | (with_reducible first | exact Below.refl _ _ | apply below_alloc | apply pw_below_drewN | apply below_drew1) | refine below_set ?_ (by first | omega | (simp; omega) | simp))) hb); have cw12_143 := fun o_ : Nat => hb.cell (p := ⟨w.heap.size, o_, none⟩) (by first | omega | (simp; done) | (simp; omega)); have fw12_143 := fun o_ : Nat => hb.frozen (p := ⟨w.heap.size, o_, none⟩) (by first | omega | (simp; done) | (simp; omega)); have cw12_144 := fun o_ : Nat => hb.cell (p := ⟨w.heap.size + 1, o_, none⟩) (by first | omega | (simp; done) | (simp; omega)); have fw12_144 := fun o_ : Nat => hb.frozen (p := ⟨w.heap.size + 1, o_, none⟩) (by first | omega | (simp; done) | (simp; omega)); clear hb; have hlw12_143_0 : w.heap.size < w12.heap.size := (by omega); have hlw12_144_0 : w.heap.size + 1 < w12.heap.size := (by omega)))
    try (go_region; go_wp2)
    refine bodyPost_ret ?_ rfl ⟨rfl, ?_⟩
    · simp [results, Try.results14, go_sem, cw12_143, fw12_143, cw12_144, fw12_144, hlw12_143_0, hlw12_144_0]
    · exact (by repeat (first | (with_reducible first | exact HB_w12.out | exact Below.refl _ _ | apply below_alloc | apply pw_below_drewN | apply below_drew1) | refine below_set ?_ (by first | omega | (simp; omega) | simp)))

/-! ### saga_back: function 34 -/
def saga_back.l0 : Nat → List (S38) → Int → Option (Int × Int × Int × Bool × Int × Bool × Int)
  | 0, _, _ => none
  | k + 1, x0, x5 => if x5 ≥ 0 then (if 0 ≤ x5 then (if x5 < (x0.length : Int) then (if ((rd_T38 x0 x5).f3 = true) then (some (2, x5, 0, false, 0, false, 0)) else (saga_back.l0 k x0 (wrap64 (x5 - 1)))) else (none)) else (none)) else ((saga_over.f 2).bind fun bt154 => (some (bt154.1, bt154.2.1, bt154.2.2.1, bt154.2.2.2.1, bt154.2.2.2.2.1, bt154.2.2.2.2.2.1, bt154.2.2.2.2.2.2)))
def saga_back.f (k : Nat) (l0 : List (S38)) (a1 : Int) : Option (Int × Int × Int × Bool × Int × Bool × Int) := saga_back.l0 k l0 a1
theorem saga_back.mono_l : ∀ k, (∀ y0 y1, LeO (saga_back.l0 k y0 y1) (saga_back.l0 (k + 1) y0 y1))
  | 0 => fun _ _ r h => by simp [saga_back.l0] at h
  | k + 1 => by
    have ih0 := saga_back.mono_l k
    · intro y0 y1
      unfold saga_back.l0
      repeat' first
      | (with_reducible exact ih0 _ _)
      | (with_reducible exact LeO.refl _)
      | (with_reducible exact LeO.none _)
      | (with_reducible refine LeO.ite ?_ ?_)
      | (with_reducible refine LeO.bind ?_ (fun _ => ?_))
      | exact ih0 _ _
      | exact LeO.none _
      | refine LeO.ite ?_ ?_
      | refine LeO.bind ?_ (fun _ => ?_)
theorem saga_back.mono : ∀ a0 a1 k, LeO (saga_back.f k a0 a1) (saga_back.f (k + 1) a0 a1) := by
  intro a0 a1 k
  have ih0 := saga_back.mono_l k
  unfold saga_back.f
  repeat' first
      | (with_reducible exact ih0 _ _)
      | (with_reducible exact LeO.refl _)
      | (with_reducible exact LeO.none _)
      | (with_reducible refine LeO.ite ?_ ?_)
      | (with_reducible refine LeO.bind ?_ (fun _ => ?_))
      | exact ih0 _ _
      | exact LeO.none _
      | refine LeO.ite ?_ ?_
      | refine LeO.bind ?_ (fun _ => ?_)
attribute [local go_sem] cell_alloc_lt2 cell_set_ne2
set_option maxHeartbeats 8000000 in
set_option maxRecDepth 100000 in
theorem saga_back.calls (k : Nat) (A0 : Option Addr) (c0 : Nat) (l0 : List (S38)) (a1 : Int) (r1 : Int) (r2 : Int) (r3 : Int) (r4 : Bool) (r5 : Int) (r6 : Bool) (r7 : Int) (w : World) (hr0 : Kd.C k38 w A0 l0.length l0) (hc0 : l0.length ≤ c0) (h : saga_back.f k l0 a1 = some (r1, r2, r3, r4, r5, r6, r7)) :
    Calls Try.prog 34 #[.slice A0 l0.length c0, .int .i64 a1] w fun e w' => e = .returned (.agg #[.int .i64 r1, .int .i64 r2, .int .i64 r3, .bool r4, .int .i64 r5, .bool r6, .int .i64 r7]) ∧ Below w.heap.size w w' := by
  have hu28 := Try.underlying28
  have HR0 := Aside0.mk hr0
  have HC0 := Aside0.mk hc0
  clear hr0 hc0
  have HB := Aside0.mk (Below.refl w.heap.size w)
  have H := h
  clear h
  unfold saga_back.f at H
  have HC3 := Aside0.mk H
  clear H
  go_enter Try.func34, Try.ntmps34
  go_wp2
  go_step3
  try go_wp2
  try go_step3
  try go_wp2
  go_loopg [5] k (fun kq v5 wq2 => ∃ (x5_2 : Int) (x153000_2 : Int) (x153001_2 : Int) (x153002_2 : Int) (x153003_2 : Bool) (x153004_2 : Int) (x153005_2 : Bool) (x153006_2 : Int), v5 = .int .i64 x5_2 ∧ Aside0 (saga_back.l0 kq l0 x5_2 = some (r1, r2, r3, r4, r5, r6, r7)) ∧ Aside0 (kq ≤ k) ∧ Aside0 (BX wq2 (w.heap.size) [.int .i64 x153000_2, .int .i64 x153001_2, .int .i64 x153002_2, .bool x153003_2, .int .i64 x153004_2, .bool x153005_2, .int .i64 x153006_2]) ∧ Aside0 (Below w.heap.size w wq2))
  case atStart => exact ⟨(a1), (0), (0), (0), (false), (0), (false), (0), (by first | rfl | (simp; done) | (simp [*]; done)), HC3, ⟨Nat.le_refl _⟩, ⟨BX.mk7 (by go_simp) (by go_simp) (by go_simp) (by go_simp) (by go_simp) (by go_simp) (by go_simp) (by go_simp) (by go_simp) (by go_simp) (by go_simp) (by go_simp) (by go_simp) (by go_simp) (by first | omega | (simp; done) | (simp; omega))⟩, ⟨(by repeat (first | (with_reducible first | exact Below.refl _ _ | apply below_alloc | apply pw_below_drewN | apply below_drew1) | refine below_set ?_ (by first | omega | (simp; omega) | simp)))⟩⟩
  case round =>
    rename World => wr2
    clear HC3
    obtain ⟨x5_2, x153000_2, x153001_2, x153002_2, x153003_2, x153004_2, x153005_2, x153006_2, rfl, HA, HJ2, BX152_2, HB_2⟩ := hrel
    have hs2 : w.heap.size ≤ wr2.heap.size := HB_2.out.size
    obtain ⟨hz152_2_0, hz152_2_1, hz152_2_2, hz152_2_3, hz152_2_4, hz152_2_5, hz152_2_6, hf152_2_0, hf152_2_1, hf152_2_2, hf152_2_3, hf152_2_4, hf152_2_5, hf152_2_6, hlt152_2⟩ := BX152_2.out.out7
    cases gk with
    | zero => exact absurd HA.out (by simp [saga_back.l0])
    | succ k2 =>
      have H := HA.out
      clear HA
      simp only [saga_back.l0] at H
      by_cases c5 : x5_2 ≥ 0
      · rw [if_pos c5] at H
        have c5b0 : decide (0 ≤ x5_2) = true := decide_eq_true c5
        clear c5
        by_cases c6 : 0 ≤ x5_2
        · rw [if_pos c6] at H
          have c6b0 : decide (0 ≤ x5_2) = true := decide_eq_true c6
          clear c6
          by_cases c7 : x5_2 < (l0.length : Int)
          · rw [if_pos c7] at H
            have c7b0 : decide (x5_2 < (l0.length : Int)) = true := decide_eq_true c7
            clear c7
            by_cases c8 : ((rd_T38 l0 x5_2).f3 = true)
            · rw [if_pos c8] at H
              have c8b0 : (rd_T38 l0 x5_2).f3 = true := c8
              clear c8
              simp only [Option.some.injEq, Prod.mk.injEq] at H
              obtain ⟨rfl, rfl, rfl, rfl, rfl, rfl, rfl⟩ := H
              have hlwr2_152_0 : w.heap.size < wr2.heap.size := (by omega)
              have p153 : 0 ≤ (x5_2 : Int) := of_decide_eq_true (by first | (with_reducible assumption) | assumption)
              have q153 : x5_2 < (l0.length : Int) := of_decide_eq_true (by first | (with_reducible assumption) | assumption)
              obtain ⟨ad153, A153_2, c153_2, e153, hx153_0, hx153_1, hx153_2, hx153_3, hx153_4, hx153_5, hl153_2, hg153_2⟩ := at_T38 (Kd.C_below HR0.out HB_2.out) (x5_2) p153 q153
              cases e153
              have HG153_2 := Aside0.mk hg153_2
              clear hg153_2
              have HL153_2 := Aside0.mk hl153_2
              clear hl153_2
              have hw153 := cell_lt2 hx153_0
              have hbk153 := C_blk HR0.out (by omega) (by decide)
              have hne153_152 : ¬ ((ad153.add (x5_2.toNat * 6)).block = w.heap.size) := (by rw [add_block]; omega)
              have hnf153_152 : ¬ (w.heap.size = (ad153.add (x5_2.toNat * 6)).block) := (by rw [add_block]; omega)
              replace p153 := eq_true p153
              replace q153 := eq_true q153
              go_wp2
              rw [Exit.noGoto_ret]
              refine bodyPost_ret ?_ rfl ⟨rfl, ?_⟩
              · simp [results, Try.results34, go_sem, hz152_2_0, hz152_2_1, hz152_2_2, hz152_2_3, hz152_2_4, hz152_2_5, hz152_2_6, hf152_2_0, hf152_2_1, hf152_2_2, hf152_2_3, hf152_2_4, hf152_2_5, hf152_2_6, hlwr2_152_0]
              · exact (by repeat (first | (with_reducible first | exact HB_2.out | exact Below.refl _ _ | apply below_alloc | apply pw_below_drewN | apply below_drew1) | refine below_set ?_ (by first | omega | (simp; omega) | simp)))
            · rw [if_neg c8] at H
              have c8b0 : (rd_T38 l0 x5_2).f3 = false := by simpa using c8
              clear c8
              have H' := Aside0.mk H
              clear H
              have hlwr2_152_0 : w.heap.size < wr2.heap.size := (by omega)
              have p153 : 0 ≤ (x5_2 : Int) := of_decide_eq_true (by first | (with_reducible assumption) | assumption)
              have q153 : x5_2 < (l0.length : Int) := of_decide_eq_true (by first | (with_reducible assumption) | assumption)
              obtain ⟨ad153, A153_2, c153_2, e153, hx153_0, hx153_1, hx153_2, hx153_3, hx153_4, hx153_5, hl153_2, hg153_2⟩ := at_T38 (Kd.C_below HR0.out HB_2.out) (x5_2) p153 q153
              cases e153
              have HG153_2 := Aside0.mk hg153_2
              clear hg153_2
              have HL153_2 := Aside0.mk hl153_2
              clear hl153_2
              have hw153 := cell_lt2 hx153_0
              have hbk153 := C_blk HR0.out (by omega) (by decide)
              have hne153_152 : ¬ ((ad153.add (x5_2.toNat * 6)).block = w.heap.size) := (by rw [add_block]; omega)
              have hnf153_152 : ¬ (w.heap.size = (ad153.add (x5_2.toNat * 6)).block) := (by rw [add_block]; omega)
              replace p153 := eq_true p153
              replace q153 := eq_true q153
              go_wp2
              go_roundg k2
              case measure => have := HJ2.out; omega
              case rel => exact ⟨(wrap64 (x5_2 - 1)), (x153000_2), (x153001_2), (x153002_2), (x153003_2), (x153004_2), (x153005_2), (x153006_2), (by first | rfl | (simp; done) | (simp [*]; done)), H', ⟨by have := HJ2.out; omega⟩, ⟨BX.mk7 (by go_simp) (by go_simp) (by go_simp) (by go_simp) (by go_simp) (by go_simp) (by go_simp) (by go_simp) (by go_simp) (by go_simp) (by go_simp) (by go_simp) (by go_simp) (by go_simp) (by first | omega | (simp; done) | (simp; omega))⟩, ⟨(by repeat (first | (with_reducible first | exact HB_2.out | exact Below.refl _ _ | apply below_alloc | apply pw_below_drewN | apply below_drew1) | refine below_set ?_ (by first | omega | (simp; omega) | simp)))⟩⟩
          · rw [if_neg c7] at H
            exact absurd H (by simp)
        · rw [if_neg c6] at H
          exact absurd H (by simp)
      · rw [if_neg c5] at H
        have c5b0 : decide (0 ≤ x5_2) = false := decide_eq_false c5
        clear c5
        obtain ⟨⟨t154, t155, t156, t157, t158, t159, t160⟩, A_, H⟩ := Option.bind_eq_some_iff.mp H
        try dsimp only at H
        have A9 := Aside0.mk A_
        clear A_
        simp only [Option.some.injEq, Prod.mk.injEq] at H
        obtain ⟨rfl, rfl, rfl, rfl, rfl, rfl, rfl⟩ := H
        have hlwr2_152_0 : w.heap.size < wr2.heap.size := (by omega)
        go_wp2_with (first | ((with_reducible refine gate_callee (f := 36) rfl ?_); refine goesL_ (some 19) rfl rfl Try.func36 (by kernel_rfl) rfl #[.int .i64 2] rfl (by (try simp only [List.map_toArray, List.map_cons, List.map_nil]); first | done | rfl | (simp only [List.length_drop, List.length_take]; rfl)) ?_; (with_reducible refine (saga_over.calls 2 t154 t155 t156 t157 t158 t159 t160 _ A9.out).mono ?_); rintro e w10 ⟨rfl, hb⟩; refine ⟨_, rfl, ?_⟩; have hsw10 : wr2.heap.size ≤ w10.heap.size := (by have h_ := hb.size; simpa using h_); have HB_w10 : Aside0 (Below w.heap.size w w10) := Aside0.mk (below_step (by repeat (first | (with_reducible first | exact HB_2.out | exact Below.refl _ _ | apply below_alloc | apply pw_below_drewN | apply below_drew1) | refine below_set ?_ (by first | omega | (simp; omega) | simp))) hb); have cw10_152 := fun o_ : Nat => hb.cell (p := ⟨w.heap.size, o_, none⟩) (by first | omega | (simp; done) | (simp; omega)); have fw10_152 := fun o_ : Nat => hb.frozen (p := ⟨w.heap.size, o_, none⟩) (by first | omega | (simp; done) | (simp; omega)); clear hb; have hlw10_152_0 : w.heap.size < w10.heap.size := (by omega)))
        rw [Exit.noGoto_ret]
        refine bodyPost_ret ?_ rfl ⟨rfl, ?_⟩
        · simp [results, Try.results34, go_sem, hz152_2_0, hz152_2_1, hz152_2_2, hz152_2_3, hz152_2_4, hz152_2_5, hz152_2_6, hf152_2_0, hf152_2_1, hf152_2_2, hf152_2_3, hf152_2_4, hf152_2_5, hf152_2_6, hlwr2_152_0, cw10_152, fw10_152, hlw10_152_0]
        · exact (by repeat (first | (with_reducible first | exact HB_w10.out | exact Below.refl _ _ | apply below_alloc | apply pw_below_drewN | apply below_drew1) | refine below_set ?_ (by first | omega | (simp; omega) | simp)))

/-! ### saga_again: function 38 -/
def saga_again.f (a0_0 : Int) (a0_1 : Int) (a0_2 : Int) (a0_3 : Bool) (a0_4 : Int) (a0_5 : Bool) (a0_6 : Int) : Option (Int × Int × Int × Bool × Int × Bool × Int) := some (a0_0, a0_1, a0_2, false, 0, a0_5, a0_6)
attribute [local go_sem] cell_alloc_lt2 cell_set_ne2
set_option maxHeartbeats 8000000 in
set_option maxRecDepth 100000 in
theorem saga_again.calls (a0_0 : Int) (a0_1 : Int) (a0_2 : Int) (a0_3 : Bool) (a0_4 : Int) (a0_5 : Bool) (a0_6 : Int) (r1 : Int) (r2 : Int) (r3 : Int) (r4 : Bool) (r5 : Int) (r6 : Bool) (r7 : Int) (w : World) (h : saga_again.f a0_0 a0_1 a0_2 a0_3 a0_4 a0_5 a0_6 = some (r1, r2, r3, r4, r5, r6, r7)) :
    Calls Try.prog 38 #[.agg #[.int .i64 a0_0, .int .i64 a0_1, .int .i64 a0_2, .bool a0_3, .int .i64 a0_4, .bool a0_5, .int .i64 a0_6]] w fun e w' => e = .returned (.agg #[.int .i64 r1, .int .i64 r2, .int .i64 r3, .bool r4, .int .i64 r5, .bool r6, .int .i64 r7]) ∧ Below w.heap.size w w' := by
  have hu28 := Try.underlying28
  have HB := Aside0.mk (Below.refl w.heap.size w)
  have H := h
  clear h
  unfold saga_again.f at H
  simp only [Option.some.injEq, Prod.mk.injEq] at H
  obtain ⟨rfl, rfl, rfl, rfl, rfl, rfl, rfl⟩ := H
  go_enter Try.func38, Try.ntmps38
  go_wp2
  refine bodyPost_ret ?_ rfl ⟨rfl, ?_⟩
  · simp [results, Try.results38, go_sem]
  · exact (by repeat (first | (with_reducible first | exact Below.refl _ _ | apply below_alloc | apply pw_below_drewN | apply below_drew1) | refine below_set ?_ (by first | omega | (simp; omega) | simp)))

/-! ### saga_undone: function 31 -/
def saga_undone.j0 : Nat → List (S38) → Int → Int → Int → Bool → Int → Bool → Int → Option (Int × Int × Int × Bool × Int × Bool × Int)
  | 0, _, _, _, _, _, _, _, _ => none
  | k + 1, x0, x164000, x164001, x164002, x164003, x164004, x164005, x164006 => if 0 ≤ x164001 then (if x164001 < (x0.length : Int) then (if x164002 = ((rd_T38 x0 x164001).f1) then ((saga_over.f 3).bind fun bt173 => (some (bt173.1, bt173.2.1, bt173.2.2.1, bt173.2.2.2.1, bt173.2.2.2.2.1, bt173.2.2.2.2.2.1, bt173.2.2.2.2.2.2))) else ((saga_again.f x164000 x164001 x164002 x164003 x164004 x164005 x164006).bind fun bt180 => (some (bt180.1, bt180.2.1, bt180.2.2.1, bt180.2.2.2.1, bt180.2.2.2.2.1, bt180.2.2.2.2.2.1, bt180.2.2.2.2.2.2)))) else (none)) else (none)
def saga_undone.f (k : Nat) (l0 : List (S38)) (a1_0 : Int) (a1_1 : Int) (a1_2 : Int) (a1_3 : Bool) (a1_4 : Int) (a1_5 : Bool) (a1_6 : Int) (a2 : Int) : Option (Int × Int × Int × Bool × Int × Bool × Int) := if a2 = 1 then ((saga_back.f k l0 (wrap64 (a1_1 - 1))).bind fun bt165 => (some (bt165.1, bt165.2.1, bt165.2.2.1, bt165.2.2.2.1, bt165.2.2.2.2.1, bt165.2.2.2.2.2.1, bt165.2.2.2.2.2.2))) else (if a2 = 2 then (saga_undone.j0 k l0 a1_0 a1_1 a1_2 a1_3 a1_4 a1_5 a1_6) else (saga_undone.j0 k l0 a1_0 a1_1 a1_2 a1_3 a1_4 a1_5 a1_6))
theorem saga_undone.mono_l : ∀ k, (∀ y0 y1 y2 y3 y4 y5 y6 y7, LeO (saga_undone.j0 k y0 y1 y2 y3 y4 y5 y6 y7) (saga_undone.j0 (k + 1) y0 y1 y2 y3 y4 y5 y6 y7))
  | 0 => fun _ _ _ _ _ _ _ _ r h => by simp [saga_undone.j0] at h
  | k + 1 => by
    have ih0 := saga_undone.mono_l k
    · intro y0 y1 y2 y3 y4 y5 y6 y7
      unfold saga_undone.j0
      repeat' first
      | (with_reducible exact ih0 _ _ _ _ _ _ _ _)
      | (with_reducible exact saga_back.mono _ _ _)
      | (with_reducible exact LeO.refl _)
      | (with_reducible exact LeO.none _)
      | (with_reducible refine LeO.ite ?_ ?_)
      | (with_reducible refine LeO.bind ?_ (fun _ => ?_))
      | exact ih0 _ _ _ _ _ _ _ _
      | exact saga_back.mono _ _ _
      | exact LeO.none _
      | refine LeO.ite ?_ ?_
      | refine LeO.bind ?_ (fun _ => ?_)
theorem saga_undone.mono : ∀ a0 a1 a2 a3 a4 a5 a6 a7 a8 k, LeO (saga_undone.f k a0 a1 a2 a3 a4 a5 a6 a7 a8) (saga_undone.f (k + 1) a0 a1 a2 a3 a4 a5 a6 a7 a8) := by
  intro a0 a1 a2 a3 a4 a5 a6 a7 a8 k
  have ih0 := saga_undone.mono_l k
  unfold saga_undone.f
  repeat' first
      | (with_reducible exact ih0 _ _ _ _ _ _ _ _)
      | (with_reducible exact saga_back.mono _ _ _)
      | (with_reducible exact LeO.refl _)
      | (with_reducible exact LeO.none _)
      | (with_reducible refine LeO.ite ?_ ?_)
      | (with_reducible refine LeO.bind ?_ (fun _ => ?_))
      | exact ih0 _ _ _ _ _ _ _ _
      | exact saga_back.mono _ _ _
      | exact LeO.none _
      | refine LeO.ite ?_ ?_
      | refine LeO.bind ?_ (fun _ => ?_)
attribute [local go_sem] cell_alloc_lt2 cell_set_ne2
set_option maxHeartbeats 8000000 in
set_option maxRecDepth 100000 in
theorem saga_undone.calls (k : Nat) (A0 : Option Addr) (c0 : Nat) (l0 : List (S38)) (a1_0 : Int) (a1_1 : Int) (a1_2 : Int) (a1_3 : Bool) (a1_4 : Int) (a1_5 : Bool) (a1_6 : Int) (a2 : Int) (r1 : Int) (r2 : Int) (r3 : Int) (r4 : Bool) (r5 : Int) (r6 : Bool) (r7 : Int) (w : World) (hr0 : Kd.C k38 w A0 l0.length l0) (hc0 : l0.length ≤ c0) (h : saga_undone.f k l0 a1_0 a1_1 a1_2 a1_3 a1_4 a1_5 a1_6 a2 = some (r1, r2, r3, r4, r5, r6, r7)) :
    Calls Try.prog 31 #[.slice A0 l0.length c0, .agg #[.int .i64 a1_0, .int .i64 a1_1, .int .i64 a1_2, .bool a1_3, .int .i64 a1_4, .bool a1_5, .int .i64 a1_6], .int .i64 a2] w fun e w' => e = .returned (.agg #[.int .i64 r1, .int .i64 r2, .int .i64 r3, .bool r4, .int .i64 r5, .bool r6, .int .i64 r7]) ∧ Below w.heap.size w w' := by
  have hu28 := Try.underlying28
  have HR0 := Aside0.mk hr0
  have HC0 := Aside0.mk hc0
  clear hr0 hc0
  have HB := Aside0.mk (Below.refl w.heap.size w)
  have H := h
  clear h
  unfold saga_undone.f at H
  have HC3 := Aside0.mk H
  clear H
  go_enter Try.func31, Try.ntmps31
  go_upto_block 3 with (fail)
  repeat (go_quiet (fail); go_upto_block 3 with (fail))
  go_cut [] (fun wq2 => ∃ (kq : Nat) (x165000_2 : Int) (x165001_2 : Int) (x165002_2 : Int) (x165003_2 : Bool) (x165004_2 : Int) (x165005_2 : Bool) (x165006_2 : Int), Aside0 (saga_undone.j0 kq l0 a1_0 a1_1 a1_2 a1_3 a1_4 a1_5 a1_6 = some (r1, r2, r3, r4, r5, r6, r7)) ∧ Aside0 (kq ≤ k) ∧ Aside0 (BX wq2 (w.heap.size) [.int .i64 a1_0, .int .i64 a1_1, .int .i64 a1_2, .bool a1_3, .int .i64 a1_4, .bool a1_5, .int .i64 a1_6]) ∧ Aside0 (BX wq2 (w.heap.size + 1) [.int .i64 x165000_2, .int .i64 x165001_2, .int .i64 x165002_2, .bool x165003_2, .int .i64 x165004_2, .bool x165005_2, .int .i64 x165006_2]) ∧ Aside0 (Below w.heap.size w wq2))
  case first =>
    have H := HC3.out
    clear HC3
    by_cases c4 : a2 = 1
    · rw [if_pos c4] at H
      have c4b0 : (a2 == 1) = true := beq_iff_eq.mpr c4
      have c4b1 : (a2 != 1) = false := bne_eq_false_iff_eq.mpr c4
      clear c4
      obtain ⟨⟨t165, t166, t167, t168, t169, t170, t171⟩, A_, H⟩ := Option.bind_eq_some_iff.mp H
      try dsimp only at H
      have A5 := Aside0.mk A_
      clear A_
      simp only [Option.some.injEq, Prod.mk.injEq] at H
      obtain ⟨rfl, rfl, rfl, rfl, rfl, rfl, rfl⟩ := H
      try go_wp2_with (first | (go_at_call 34; (with_reducible refine (saga_back.calls k _ _ l0 (wrap64 (a1_1 - 1)) t165 t166 t167 t168 t169 t170 t171 _ ?sd0 HC0.out A5.out).mono ?_); (case sd0 => exact Kd.C_below HR0.out (by repeat (first | (with_reducible first | exact Below.refl _ _ | apply below_alloc | apply pw_below_drewN | apply below_drew1) | refine below_set ?_ (by first | omega | (simp; omega) | simp)))); rintro e w6 ⟨rfl, hb⟩; have hsw6 : w.heap.size + 2 ≤ w6.heap.size := (by have h_ := hb.size; simpa using h_); have HB_w6 : Aside0 (Below w.heap.size w w6) := Aside0.mk (below_step (by repeat (first | (with_reducible first | exact Below.refl _ _ | apply below_alloc | apply pw_below_drewN | apply below_drew1) | refine below_set ?_ (by first | omega | (simp; omega) | simp))) hb); have cw6_163 := fun o_ : Nat => hb.cell (p := ⟨w.heap.size, o_, none⟩) (by first | omega | (simp; done) | (simp; omega)); have fw6_163 := fun o_ : Nat => hb.frozen (p := ⟨w.heap.size, o_, none⟩) (by first | omega | (simp; done) | (simp; omega)); have cw6_164 := fun o_ : Nat => hb.cell (p := ⟨w.heap.size + 1, o_, none⟩) (by first | omega | (simp; done) | (simp; omega)); have fw6_164 := fun o_ : Nat => hb.frozen (p := ⟨w.heap.size + 1, o_, none⟩) (by first | omega | (simp; done) | (simp; omega)); clear hb; have hlw6_163_0 : w.heap.size < w6.heap.size := (by omega); have hlw6_164_0 : w.heap.size + 1 < w6.heap.size := (by omega)))
      repeat (go_quiet (first | (go_at_call 34; (with_reducible refine (saga_back.calls k _ _ l0 (wrap64 (a1_1 - 1)) t165 t166 t167 t168 t169 t170 t171 _ ?sd0 HC0.out A5.out).mono ?_); (case sd0 => exact Kd.C_below HR0.out (by repeat (first | (with_reducible first | exact Below.refl _ _ | apply below_alloc | apply pw_below_drewN | apply below_drew1) | refine below_set ?_ (by first | omega | (simp; omega) | simp)))); rintro e w6 ⟨rfl, hb⟩; have hsw6 : w.heap.size + 2 ≤ w6.heap.size := (by have h_ := hb.size; simpa using h_); have HB_w6 : Aside0 (Below w.heap.size w w6) := Aside0.mk (below_step (by repeat (first | (with_reducible first | exact Below.refl _ _ | apply below_alloc | apply pw_below_drewN | apply below_drew1) | refine below_set ?_ (by first | omega | (simp; omega) | simp))) hb); have cw6_163 := fun o_ : Nat => hb.cell (p := ⟨w.heap.size, o_, none⟩) (by first | omega | (simp; done) | (simp; omega)); have fw6_163 := fun o_ : Nat => hb.frozen (p := ⟨w.heap.size, o_, none⟩) (by first | omega | (simp; done) | (simp; omega)); have cw6_164 := fun o_ : Nat => hb.cell (p := ⟨w.heap.size + 1, o_, none⟩) (by first | omega | (simp; done) | (simp; omega)); have fw6_164 := fun o_ : Nat => hb.frozen (p := ⟨w.heap.size + 1, o_, none⟩) (by first | omega | (simp; done) | (simp; omega)); clear hb; have hlw6_163_0 : w.heap.size < w6.heap.size := (by omega); have hlw6_164_0 : w.heap.size + 1 < w6.heap.size := (by omega))); try go_wp2_with (first | (go_at_call 34; (with_reducible refine (saga_back.calls k _ _ l0 (wrap64 (a1_1 - 1)) t165 t166 t167 t168 t169 t170 t171 _ ?sd0 HC0.out A5.out).mono ?_); (case sd0 => exact Kd.C_below HR0.out (by repeat (first | (with_reducible first | exact Below.refl _ _ | apply below_alloc | apply pw_below_drewN | apply below_drew1) | refine below_set ?_ (by first | omega | (simp; omega) | simp)))); rintro e w6 ⟨rfl, hb⟩; have hsw6 : w.heap.size + 2 ≤ w6.heap.size := (by have h_ := hb.size; simpa using h_); have HB_w6 : Aside0 (Below w.heap.size w w6) := Aside0.mk (below_step (by repeat (first | (with_reducible first | exact Below.refl _ _ | apply below_alloc | apply pw_below_drewN | apply below_drew1) | refine below_set ?_ (by first | omega | (simp; omega) | simp))) hb); have cw6_163 := fun o_ : Nat => hb.cell (p := ⟨w.heap.size, o_, none⟩) (by first | omega | (simp; done) | (simp; omega)); have fw6_163 := fun o_ : Nat => hb.frozen (p := ⟨w.heap.size, o_, none⟩) (by first | omega | (simp; done) | (simp; omega)); have cw6_164 := fun o_ : Nat => hb.cell (p := ⟨w.heap.size + 1, o_, none⟩) (by first | omega | (simp; done) | (simp; omega)); have fw6_164 := fun o_ : Nat => hb.frozen (p := ⟨w.heap.size + 1, o_, none⟩) (by first | omega | (simp; done) | (simp; omega)); clear hb; have hlw6_163_0 : w.heap.size < w6.heap.size := (by omega); have hlw6_164_0 : w.heap.size + 1 < w6.heap.size := (by omega))))
      refine bodyPost_ret ?_ rfl ⟨rfl, ?_⟩
      · simp [results, Try.results31, go_sem, cw6_163, fw6_163, cw6_164, fw6_164, hlw6_163_0, hlw6_164_0]
      · exact (by repeat (first | (with_reducible first | exact HB_w6.out | exact Below.refl _ _ | apply below_alloc | apply pw_below_drewN | apply below_drew1) | refine below_set ?_ (by first | omega | (simp; omega) | simp)))
    · rw [if_neg c4] at H
      have c4b0 : (a2 == 1) = false := beq_eq_false_iff_ne.mpr c4
      have c4b1 : (a2 != 1) = true := bne_iff_ne.mpr c4
      clear c4
      by_cases c7 : a2 = 2
      · rw [if_pos c7] at H
        have c7b0 : (a2 == 2) = true := beq_iff_eq.mpr c7
        have c7b1 : (a2 != 2) = false := bne_eq_false_iff_eq.mpr c7
        clear c7
        have H' := Aside0.mk H
        clear H
        try go_wp2
        repeat (go_quiet (fail); try go_wp2)
        go_meet
        case rel => exact ⟨_, (0), (0), (0), (false), (0), (false), (0), H', ⟨by first | omega | exact Nat.le_refl _⟩, ⟨BX.mk7 (by go_simp) (by go_simp) (by go_simp) (by go_simp) (by go_simp) (by go_simp) (by go_simp) (by go_simp) (by go_simp) (by go_simp) (by go_simp) (by go_simp) (by go_simp) (by go_simp) (by first | omega | (simp; done) | (simp; omega))⟩, ⟨BX.mk7 (by go_simp) (by go_simp) (by go_simp) (by go_simp) (by go_simp) (by go_simp) (by go_simp) (by go_simp) (by go_simp) (by go_simp) (by go_simp) (by go_simp) (by go_simp) (by go_simp) (by first | omega | (simp; done) | (simp; omega))⟩, ⟨(by repeat (first | (with_reducible first | exact Below.refl _ _ | apply below_alloc | apply pw_below_drewN | apply below_drew1) | refine below_set ?_ (by first | omega | (simp; omega) | simp)))⟩⟩
      · rw [if_neg c7] at H
        have c7b0 : (a2 == 2) = false := beq_eq_false_iff_ne.mpr c7
        have c7b1 : (a2 != 2) = true := bne_iff_ne.mpr c7
        clear c7
        have H' := Aside0.mk H
        clear H
        try go_wp2
        repeat (go_quiet (fail); try go_wp2)
        go_meet
        case rel => exact ⟨_, (0), (0), (0), (false), (0), (false), (0), H', ⟨by first | omega | exact Nat.le_refl _⟩, ⟨BX.mk7 (by go_simp) (by go_simp) (by go_simp) (by go_simp) (by go_simp) (by go_simp) (by go_simp) (by go_simp) (by go_simp) (by go_simp) (by go_simp) (by go_simp) (by go_simp) (by go_simp) (by first | omega | (simp; done) | (simp; omega))⟩, ⟨BX.mk7 (by go_simp) (by go_simp) (by go_simp) (by go_simp) (by go_simp) (by go_simp) (by go_simp) (by go_simp) (by go_simp) (by go_simp) (by go_simp) (by go_simp) (by go_simp) (by go_simp) (by first | omega | (simp; done) | (simp; omega))⟩, ⟨(by repeat (first | (with_reducible first | exact Below.refl _ _ | apply below_alloc | apply pw_below_drewN | apply below_drew1) | refine below_set ?_ (by first | omega | (simp; omega) | simp)))⟩⟩
  case rest =>
    rename World => wc2
    clear HC3
    obtain ⟨kq, x165000_2, x165001_2, x165002_2, x165003_2, x165004_2, x165005_2, x165006_2, HA, HJ2, BX163_2, BX164_2, HB_2⟩ := hcut
    have hs2 : w.heap.size ≤ wc2.heap.size := HB_2.out.size
    obtain ⟨hz163_2_0, hz163_2_1, hz163_2_2, hz163_2_3, hz163_2_4, hz163_2_5, hz163_2_6, hf163_2_0, hf163_2_1, hf163_2_2, hf163_2_3, hf163_2_4, hf163_2_5, hf163_2_6, hlt163_2⟩ := BX163_2.out.out7
    obtain ⟨hz164_2_0, hz164_2_1, hz164_2_2, hz164_2_3, hz164_2_4, hz164_2_5, hz164_2_6, hf164_2_0, hf164_2_1, hf164_2_2, hf164_2_3, hf164_2_4, hf164_2_5, hf164_2_6, hlt164_2⟩ := BX164_2.out.out7
    cases kq with
    | zero => exact absurd HA.out (by simp [saga_undone.j0])
    | succ k2 =>
      have H := HA.out
      clear HA
      simp only [saga_undone.j0] at H
      by_cases c9 : 0 ≤ a1_1
      · rw [if_pos c9] at H
        have c9b0 : decide (0 ≤ a1_1) = true := decide_eq_true c9
        clear c9
        by_cases c10 : a1_1 < (l0.length : Int)
        · rw [if_pos c10] at H
          have c10b0 : decide (a1_1 < (l0.length : Int)) = true := decide_eq_true c10
          clear c10
          by_cases c11 : a1_2 = ((rd_T38 l0 a1_1).f1)
          · rw [if_pos c11] at H
            have c11b0 : (a1_2 == ((rd_T38 l0 a1_1).f1)) = true := beq_iff_eq.mpr c11
            have c11b1 : (a1_2 != ((rd_T38 l0 a1_1).f1)) = false := bne_eq_false_iff_eq.mpr c11
            clear c11
            obtain ⟨⟨t173, t174, t175, t176, t177, t178, t179⟩, A_, H⟩ := Option.bind_eq_some_iff.mp H
            try dsimp only at H
            have A12 := Aside0.mk A_
            clear A_
            simp only [Option.some.injEq, Prod.mk.injEq] at H
            obtain ⟨rfl, rfl, rfl, rfl, rfl, rfl, rfl⟩ := H
            have hlwc2_163_0 : w.heap.size < wc2.heap.size := (by omega)
            have hlwc2_164_0 : w.heap.size + 1 < wc2.heap.size := (by omega)
            have p172 : 0 ≤ (a1_1 : Int) := of_decide_eq_true (by first | (with_reducible assumption) | assumption)
            have q172 : a1_1 < (l0.length : Int) := of_decide_eq_true (by first | (with_reducible assumption) | assumption)
            obtain ⟨ad172, A172_2, c172_2, e172, hx172_0, hx172_1, hx172_2, hx172_3, hx172_4, hx172_5, hl172_2, hg172_2⟩ := at_T38 (Kd.C_below HR0.out HB_2.out) (a1_1) p172 q172
            cases e172
            have HG172_2 := Aside0.mk hg172_2
            clear hg172_2
            have HL172_2 := Aside0.mk hl172_2
            clear hl172_2
            have hw172 := cell_lt2 hx172_0
            have hbk172 := C_blk HR0.out (by omega) (by decide)
            have hne172_163 : ¬ ((ad172.add (a1_1.toNat * 6)).block = w.heap.size) := (by rw [add_block]; omega)
            have hnf172_163 : ¬ (w.heap.size = (ad172.add (a1_1.toNat * 6)).block) := (by rw [add_block]; omega)
            have hne172_164 : ¬ ((ad172.add (a1_1.toNat * 6)).block = w.heap.size + 1) := (by rw [add_block]; omega)
            have hnf172_164 : ¬ (w.heap.size + 1 = (ad172.add (a1_1.toNat * 6)).block) := (by rw [add_block]; omega)
            replace p172 := eq_true p172
            replace q172 := eq_true q172
            try go_wp2_with (first | (go_at_call 36; (with_reducible refine (saga_over.calls 3 t173 t174 t175 t176 t177 t178 t179 _ A12.out).mono ?_); rintro e w13 ⟨rfl, hb⟩; have hsw13 : wc2.heap.size ≤ w13.heap.size := (by have h_ := hb.size; simpa using h_); have HB_w13 : Aside0 (Below w.heap.size w w13) := Aside0.mk (below_step (by repeat (first | (with_reducible first | exact HB_2.out | exact Below.refl _ _ | apply below_alloc | apply pw_below_drewN | apply below_drew1) | refine below_set ?_ (by first | omega | (simp; omega) | simp))) hb); have cw13_163 := fun o_ : Nat => hb.cell (p := ⟨w.heap.size, o_, none⟩) (by first | omega | (simp; done) | (simp; omega)); have fw13_163 := fun o_ : Nat => hb.frozen (p := ⟨w.heap.size, o_, none⟩) (by first | omega | (simp; done) | (simp; omega)); have cw13_164 := fun o_ : Nat => hb.cell (p := ⟨w.heap.size + 1, o_, none⟩) (by first | omega | (simp; done) | (simp; omega)); have fw13_164 := fun o_ : Nat => hb.frozen (p := ⟨w.heap.size + 1, o_, none⟩) (by first | omega | (simp; done) | (simp; omega)); clear hb; have hlw13_163_0 : w.heap.size < w13.heap.size := (by omega); have hlw13_164_0 : w.heap.size + 1 < w13.heap.size := (by omega)))
            repeat (go_quiet (first | (go_at_call 36; (with_reducible refine (saga_over.calls 3 t173 t174 t175 t176 t177 t178 t179 _ A12.out).mono ?_); rintro e w13 ⟨rfl, hb⟩; have hsw13 : wc2.heap.size ≤ w13.heap.size := (by have h_ := hb.size; simpa using h_); have HB_w13 : Aside0 (Below w.heap.size w w13) := Aside0.mk (below_step (by repeat (first | (with_reducible first | exact HB_2.out | exact Below.refl _ _ | apply below_alloc | apply pw_below_drewN | apply below_drew1) | refine below_set ?_ (by first | omega | (simp; omega) | simp))) hb); have cw13_163 := fun o_ : Nat => hb.cell (p := ⟨w.heap.size, o_, none⟩) (by first | omega | (simp; done) | (simp; omega)); have fw13_163 := fun o_ : Nat => hb.frozen (p := ⟨w.heap.size, o_, none⟩) (by first | omega | (simp; done) | (simp; omega)); have cw13_164 := fun o_ : Nat => hb.cell (p := ⟨w.heap.size + 1, o_, none⟩) (by first | omega | (simp; done) | (simp; omega)); have fw13_164 := fun o_ : Nat => hb.frozen (p := ⟨w.heap.size + 1, o_, none⟩) (by first | omega | (simp; done) | (simp; omega)); clear hb; have hlw13_163_0 : w.heap.size < w13.heap.size := (by omega); have hlw13_164_0 : w.heap.size + 1 < w13.heap.size := (by omega))); try go_wp2_with (first | (go_at_call 36; (with_reducible refine (saga_over.calls 3 t173 t174 t175 t176 t177 t178 t179 _ A12.out).mono ?_); rintro e w13 ⟨rfl, hb⟩; have hsw13 : wc2.heap.size ≤ w13.heap.size := (by have h_ := hb.size; simpa using h_); have HB_w13 : Aside0 (Below w.heap.size w w13) := Aside0.mk (below_step (by repeat (first | (with_reducible first | exact HB_2.out | exact Below.refl _ _ | apply below_alloc | apply pw_below_drewN | apply below_drew1) | refine below_set ?_ (by first | omega | (simp; omega) | simp))) hb); have cw13_163 := fun o_ : Nat => hb.cell (p := ⟨w.heap.size, o_, none⟩) (by first | omega | (simp; done) | (simp; omega)); have fw13_163 := fun o_ : Nat => hb.frozen (p := ⟨w.heap.size, o_, none⟩) (by first | omega | (simp; done) | (simp; omega)); have cw13_164 := fun o_ : Nat => hb.cell (p := ⟨w.heap.size + 1, o_, none⟩) (by first | omega | (simp; done) | (simp; omega)); have fw13_164 := fun o_ : Nat => hb.frozen (p := ⟨w.heap.size + 1, o_, none⟩) (by first | omega | (simp; done) | (simp; omega)); clear hb; have hlw13_163_0 : w.heap.size < w13.heap.size := (by omega); have hlw13_164_0 : w.heap.size + 1 < w13.heap.size := (by omega))))
            refine bodyPost_ret ?_ rfl ⟨rfl, ?_⟩
            · simp [results, Try.results31, go_sem, hz163_2_0, hz163_2_1, hz163_2_2, hz163_2_3, hz163_2_4, hz163_2_5, hz163_2_6, hf163_2_0, hf163_2_1, hf163_2_2, hf163_2_3, hf163_2_4, hf163_2_5, hf163_2_6, hz164_2_0, hz164_2_1, hz164_2_2, hz164_2_3, hz164_2_4, hz164_2_5, hz164_2_6, hf164_2_0, hf164_2_1, hf164_2_2, hf164_2_3, hf164_2_4, hf164_2_5, hf164_2_6, hlwc2_163_0, hlwc2_164_0, cw13_163, fw13_163, cw13_164, fw13_164, hlw13_163_0, hlw13_164_0]
            · exact (by repeat (first | (with_reducible first | exact HB_w13.out | exact Below.refl _ _ | apply below_alloc | apply pw_below_drewN | apply below_drew1) | refine below_set ?_ (by first | omega | (simp; omega) | simp)))
          · rw [if_neg c11] at H
            have c11b0 : (a1_2 == ((rd_T38 l0 a1_1).f1)) = false := beq_eq_false_iff_ne.mpr c11
            have c11b1 : (a1_2 != ((rd_T38 l0 a1_1).f1)) = true := bne_iff_ne.mpr c11
            clear c11
            obtain ⟨⟨t180, t181, t182, t183, t184, t185, t186⟩, A_, H⟩ := Option.bind_eq_some_iff.mp H
            try dsimp only at H
            have A14 := Aside0.mk A_
            clear A_
            simp only [Option.some.injEq, Prod.mk.injEq] at H
            obtain ⟨rfl, rfl, rfl, rfl, rfl, rfl, rfl⟩ := H
            have hlwc2_163_0 : w.heap.size < wc2.heap.size := (by omega)
            have hlwc2_164_0 : w.heap.size + 1 < wc2.heap.size := (by omega)
            have p172 : 0 ≤ (a1_1 : Int) := of_decide_eq_true (by first | (with_reducible assumption) | assumption)
            have q172 : a1_1 < (l0.length : Int) := of_decide_eq_true (by first | (with_reducible assumption) | assumption)
            obtain ⟨ad172, A172_2, c172_2, e172, hx172_0, hx172_1, hx172_2, hx172_3, hx172_4, hx172_5, hl172_2, hg172_2⟩ := at_T38 (Kd.C_below HR0.out HB_2.out) (a1_1) p172 q172
            cases e172
            have HG172_2 := Aside0.mk hg172_2
            clear hg172_2
            have HL172_2 := Aside0.mk hl172_2
            clear hl172_2
            have hw172 := cell_lt2 hx172_0
            have hbk172 := C_blk HR0.out (by omega) (by decide)
            have hne172_163 : ¬ ((ad172.add (a1_1.toNat * 6)).block = w.heap.size) := (by rw [add_block]; omega)
            have hnf172_163 : ¬ (w.heap.size = (ad172.add (a1_1.toNat * 6)).block) := (by rw [add_block]; omega)
            have hne172_164 : ¬ ((ad172.add (a1_1.toNat * 6)).block = w.heap.size + 1) := (by rw [add_block]; omega)
            have hnf172_164 : ¬ (w.heap.size + 1 = (ad172.add (a1_1.toNat * 6)).block) := (by rw [add_block]; omega)
            replace p172 := eq_true p172
            replace q172 := eq_true q172
            try go_wp2_with (first | (go_at_call 38; (with_reducible refine (saga_again.calls a1_0 a1_1 a1_2 a1_3 a1_4 a1_5 a1_6 t180 t181 t182 t183 t184 t185 t186 _ A14.out).mono ?_); rintro e w15 ⟨rfl, hb⟩; have hsw15 : wc2.heap.size ≤ w15.heap.size := (by have h_ := hb.size; simpa using h_); have HB_w15 : Aside0 (Below w.heap.size w w15) := Aside0.mk (below_step (by repeat (first | (with_reducible first | exact HB_2.out | exact Below.refl _ _ | apply below_alloc | apply pw_below_drewN | apply below_drew1) | refine below_set ?_ (by first | omega | (simp; omega) | simp))) hb); have cw15_163 := fun o_ : Nat => hb.cell (p := ⟨w.heap.size, o_, none⟩) (by first | omega | (simp; done) | (simp; omega)); have fw15_163 := fun o_ : Nat => hb.frozen (p := ⟨w.heap.size, o_, none⟩) (by first | omega | (simp; done) | (simp; omega)); have cw15_164 := fun o_ : Nat => hb.cell (p := ⟨w.heap.size + 1, o_, none⟩) (by first | omega | (simp; done) | (simp; omega)); have fw15_164 := fun o_ : Nat => hb.frozen (p := ⟨w.heap.size + 1, o_, none⟩) (by first | omega | (simp; done) | (simp; omega)); clear hb; have hlw15_163_0 : w.heap.size < w15.heap.size := (by omega); have hlw15_164_0 : w.heap.size + 1 < w15.heap.size := (by omega)))
            repeat (go_quiet (first | (go_at_call 38; (with_reducible refine (saga_again.calls a1_0 a1_1 a1_2 a1_3 a1_4 a1_5 a1_6 t180 t181 t182 t183 t184 t185 t186 _ A14.out).mono ?_); rintro e w15 ⟨rfl, hb⟩; have hsw15 : wc2.heap.size ≤ w15.heap.size := (by have h_ := hb.size; simpa using h_); have HB_w15 : Aside0 (Below w.heap.size w w15) := Aside0.mk (below_step (by repeat (first | (with_reducible first | exact HB_2.out | exact Below.refl _ _ | apply below_alloc | apply pw_below_drewN | apply below_drew1) | refine below_set ?_ (by first | omega | (simp; omega) | simp))) hb); have cw15_163 := fun o_ : Nat => hb.cell (p := ⟨w.heap.size, o_, none⟩) (by first | omega | (simp; done) | (simp; omega)); have fw15_163 := fun o_ : Nat => hb.frozen (p := ⟨w.heap.size, o_, none⟩) (by first | omega | (simp; done) | (simp; omega)); have cw15_164 := fun o_ : Nat => hb.cell (p := ⟨w.heap.size + 1, o_, none⟩) (by first | omega | (simp; done) | (simp; omega)); have fw15_164 := fun o_ : Nat => hb.frozen (p := ⟨w.heap.size + 1, o_, none⟩) (by first | omega | (simp; done) | (simp; omega)); clear hb; have hlw15_163_0 : w.heap.size < w15.heap.size := (by omega); have hlw15_164_0 : w.heap.size + 1 < w15.heap.size := (by omega))); try go_wp2_with (first | (go_at_call 38; (with_reducible refine (saga_again.calls a1_0 a1_1 a1_2 a1_3 a1_4 a1_5 a1_6 t180 t181 t182 t183 t184 t185 t186 _ A14.out).mono ?_); rintro e w15 ⟨rfl, hb⟩; have hsw15 : wc2.heap.size ≤ w15.heap.size := (by have h_ := hb.size; simpa using h_); have HB_w15 : Aside0 (Below w.heap.size w w15) := Aside0.mk (below_step (by repeat (first | (with_reducible first | exact HB_2.out | exact Below.refl _ _ | apply below_alloc | apply pw_below_drewN | apply below_drew1) | refine below_set ?_ (by first | omega | (simp; omega) | simp))) hb); have cw15_163 := fun o_ : Nat => hb.cell (p := ⟨w.heap.size, o_, none⟩) (by first | omega | (simp; done) | (simp; omega)); have fw15_163 := fun o_ : Nat => hb.frozen (p := ⟨w.heap.size, o_, none⟩) (by first | omega | (simp; done) | (simp; omega)); have cw15_164 := fun o_ : Nat => hb.cell (p := ⟨w.heap.size + 1, o_, none⟩) (by first | omega | (simp; done) | (simp; omega)); have fw15_164 := fun o_ : Nat => hb.frozen (p := ⟨w.heap.size + 1, o_, none⟩) (by first | omega | (simp; done) | (simp; omega)); clear hb; have hlw15_163_0 : w.heap.size < w15.heap.size := (by omega); have hlw15_164_0 : w.heap.size + 1 < w15.heap.size := (by omega))))
            refine bodyPost_ret ?_ rfl ⟨rfl, ?_⟩
            · simp [results, Try.results31, go_sem, hz163_2_0, hz163_2_1, hz163_2_2, hz163_2_3, hz163_2_4, hz163_2_5, hz163_2_6, hf163_2_0, hf163_2_1, hf163_2_2, hf163_2_3, hf163_2_4, hf163_2_5, hf163_2_6, hz164_2_0, hz164_2_1, hz164_2_2, hz164_2_3, hz164_2_4, hz164_2_5, hz164_2_6, hf164_2_0, hf164_2_1, hf164_2_2, hf164_2_3, hf164_2_4, hf164_2_5, hf164_2_6, hlwc2_163_0, hlwc2_164_0, cw15_163, fw15_163, cw15_164, fw15_164, hlw15_163_0, hlw15_164_0]
            · exact (by repeat (first | (with_reducible first | exact HB_w15.out | exact Below.refl _ _ | apply below_alloc | apply pw_below_drewN | apply below_drew1) | refine below_set ?_ (by first | omega | (simp; omega) | simp)))
        · rw [if_neg c10] at H
          exact absurd H (by simp)
      · rw [if_neg c9] at H
        exact absurd H (by simp)

/-! ### saga_forward: function 32 -/
mutual
def saga_forward.j0 : Nat → List (S38) → Int → Bool → Int → Int → Int → Bool → Int → Bool → Int → Option (Int × Int × Int × Bool × Int × Bool × Int)
  | 0, _, _, _, _, _, _, _, _, _, _ => none
  | k + 1, x0, x2, x15, x188000, x188001, x188002, x188003, x188004, x188005, x188006 => if x15 = true then ((saga_again.f x188000 x188001 x188002 x188003 x188004 x188005 x188006).bind fun bt197 => (some (bt197.1, bt197.2.1, bt197.2.2.1, bt197.2.2.2.1, bt197.2.2.2.2.1, bt197.2.2.2.2.2.1, bt197.2.2.2.2.2.2))) else (if x2 = 3 then (saga_forward.j1 k x0 true x188000 x188001 x188002 x188003 x188004 x188005 x188006) else (saga_forward.j1 k x0 x188005 x188000 x188001 x188002 x188003 x188004 x188005 x188006))
def saga_forward.j1 : Nat → List (S38) → Bool → Int → Int → Int → Bool → Int → Bool → Int → Option (Int × Int × Int × Bool × Int × Bool × Int)
  | 0, _, _, _, _, _, _, _, _, _ => none
  | k + 1, x0, x36, x188000, x188001, x188002, x188003, x188004, x188005, x188006 => if x36 = true then ((saga_back.f k x0 x188001).bind fun bt204 => (some (bt204.1, bt204.2.1, bt204.2.2.1, bt204.2.2.2.1, bt204.2.2.2.2.1, bt204.2.2.2.2.2.1, bt204.2.2.2.2.2.2))) else (if x188001 = (wrap64 ((x0.length : Int) - 1)) then ((saga_over.f 1).bind fun bt211 => (some (bt211.1, bt211.2.1, bt211.2.2.1, bt211.2.2.2.1, bt211.2.2.2.2.1, bt211.2.2.2.2.2.1, bt211.2.2.2.2.2.2))) else (some (1, wrap64 (x188001 + 1), 0, false, 0, false, 0)))
end
def saga_forward.f (k : Nat) (l0 : List (S38)) (a1_0 : Int) (a1_1 : Int) (a1_2 : Int) (a1_3 : Bool) (a1_4 : Int) (a1_5 : Bool) (a1_6 : Int) (a2 : Int) : Option (Int × Int × Int × Bool × Int × Bool × Int) := if a2 = 2 then ((saga_back.f k l0 (wrap64 (a1_1 - 1))).bind fun bt189 => (some (bt189.1, bt189.2.1, bt189.2.2.1, bt189.2.2.2.1, bt189.2.2.2.2.1, bt189.2.2.2.2.2.1, bt189.2.2.2.2.2.2))) else (if a2 = 3 then (if a1_5 = true then (saga_forward.j0 k l0 a2 false a1_0 a1_1 a1_2 a1_3 a1_4 a1_5 a1_6) else (if 0 ≤ a1_1 then (if a1_1 < (l0.length : Int) then (saga_forward.j0 k l0 a2 (decide (a1_2 < ((rd_T38 l0 a1_1).f1))) a1_0 a1_1 a1_2 a1_3 a1_4 a1_5 a1_6) else (none)) else (none))) else (saga_forward.j0 k l0 a2 false a1_0 a1_1 a1_2 a1_3 a1_4 a1_5 a1_6))
theorem saga_forward.mono_l : ∀ k, (∀ y0 y1 y2 y3 y4 y5 y6 y7 y8 y9, LeO (saga_forward.j0 k y0 y1 y2 y3 y4 y5 y6 y7 y8 y9) (saga_forward.j0 (k + 1) y0 y1 y2 y3 y4 y5 y6 y7 y8 y9)) ∧ (∀ y0 y1 y2 y3 y4 y5 y6 y7 y8, LeO (saga_forward.j1 k y0 y1 y2 y3 y4 y5 y6 y7 y8) (saga_forward.j1 (k + 1) y0 y1 y2 y3 y4 y5 y6 y7 y8))
  | 0 => ⟨fun _ _ _ _ _ _ _ _ _ _ r h => by simp [saga_forward.j0] at h, fun _ _ _ _ _ _ _ _ _ r h => by simp [saga_forward.j1] at h⟩
  | k + 1 => by
    obtain ⟨ih0, ih1⟩ := saga_forward.mono_l k
    refine ⟨?_, ?_⟩
    · intro y0 y1 y2 y3 y4 y5 y6 y7 y8 y9
      unfold saga_forward.j0
      repeat' first
      | (with_reducible exact ih0 _ _ _ _ _ _ _ _ _ _)
      | (with_reducible exact ih1 _ _ _ _ _ _ _ _ _)
      | (with_reducible exact saga_back.mono _ _ _)
      | (with_reducible exact LeO.refl _)
      | (with_reducible exact LeO.none _)
      | (with_reducible refine LeO.ite ?_ ?_)
      | (with_reducible refine LeO.bind ?_ (fun _ => ?_))
      | exact ih0 _ _ _ _ _ _ _ _ _ _
      | exact ih1 _ _ _ _ _ _ _ _ _
      | exact saga_back.mono _ _ _
      | exact LeO.none _
      | refine LeO.ite ?_ ?_
      | refine LeO.bind ?_ (fun _ => ?_)
    · intro y0 y1 y2 y3 y4 y5 y6 y7 y8
      unfold saga_forward.j1
      repeat' first
      | (with_reducible exact ih0 _ _ _ _ _ _ _ _ _ _)
      | (with_reducible exact ih1 _ _ _ _ _ _ _ _ _)
      | (with_reducible exact saga_back.mono _ _ _)
      | (with_reducible exact LeO.refl _)
      | (with_reducible exact LeO.none _)
      | (with_reducible refine LeO.ite ?_ ?_)
      | (with_reducible refine LeO.bind ?_ (fun _ => ?_))
      | exact ih0 _ _ _ _ _ _ _ _ _ _
      | exact ih1 _ _ _ _ _ _ _ _ _
      | exact saga_back.mono _ _ _
      | exact LeO.none _
      | refine LeO.ite ?_ ?_
      | refine LeO.bind ?_ (fun _ => ?_)
theorem saga_forward.mono : ∀ a0 a1 a2 a3 a4 a5 a6 a7 a8 k, LeO (saga_forward.f k a0 a1 a2 a3 a4 a5 a6 a7 a8) (saga_forward.f (k + 1) a0 a1 a2 a3 a4 a5 a6 a7 a8) := by
  intro a0 a1 a2 a3 a4 a5 a6 a7 a8 k
  obtain ⟨ih0, ih1⟩ := saga_forward.mono_l k
  unfold saga_forward.f
  repeat' first
      | (with_reducible exact ih0 _ _ _ _ _ _ _ _ _ _)
      | (with_reducible exact ih1 _ _ _ _ _ _ _ _ _)
      | (with_reducible exact saga_back.mono _ _ _)
      | (with_reducible exact LeO.refl _)
      | (with_reducible exact LeO.none _)
      | (with_reducible refine LeO.ite ?_ ?_)
      | (with_reducible refine LeO.bind ?_ (fun _ => ?_))
      | exact ih0 _ _ _ _ _ _ _ _ _ _
      | exact ih1 _ _ _ _ _ _ _ _ _
      | exact saga_back.mono _ _ _
      | exact LeO.none _
      | refine LeO.ite ?_ ?_
      | refine LeO.bind ?_ (fun _ => ?_)
attribute [local go_sem] cell_alloc_lt2 cell_set_ne2
set_option maxHeartbeats 8000000 in
set_option maxRecDepth 100000 in
theorem saga_forward.calls (k : Nat) (A0 : Option Addr) (c0 : Nat) (l0 : List (S38)) (a1_0 : Int) (a1_1 : Int) (a1_2 : Int) (a1_3 : Bool) (a1_4 : Int) (a1_5 : Bool) (a1_6 : Int) (a2 : Int) (r1 : Int) (r2 : Int) (r3 : Int) (r4 : Bool) (r5 : Int) (r6 : Bool) (r7 : Int) (w : World) (hr0 : Kd.C k38 w A0 l0.length l0) (hc0 : l0.length ≤ c0) (h : saga_forward.f k l0 a1_0 a1_1 a1_2 a1_3 a1_4 a1_5 a1_6 a2 = some (r1, r2, r3, r4, r5, r6, r7)) :
    Calls Try.prog 32 #[.slice A0 l0.length c0, .agg #[.int .i64 a1_0, .int .i64 a1_1, .int .i64 a1_2, .bool a1_3, .int .i64 a1_4, .bool a1_5, .int .i64 a1_6], .int .i64 a2] w fun e w' => e = .returned (.agg #[.int .i64 r1, .int .i64 r2, .int .i64 r3, .bool r4, .int .i64 r5, .bool r6, .int .i64 r7]) ∧ Below w.heap.size w w' := by
  have hu28 := Try.underlying28
  have HR0 := Aside0.mk hr0
  have HC0 := Aside0.mk hc0
  clear hr0 hc0
  have HB := Aside0.mk (Below.refl w.heap.size w)
  have H := h
  clear h
  unfold saga_forward.f at H
  by_cases c2 : a2 = 2
  · rw [if_pos c2] at H
    have c2b0 : (a2 == 2) = true := beq_iff_eq.mpr c2
    have c2b1 : (a2 != 2) = false := bne_eq_false_iff_eq.mpr c2
    clear c2
    obtain ⟨⟨t189, t190, t191, t192, t193, t194, t195⟩, A_, H⟩ := Option.bind_eq_some_iff.mp H
    try dsimp only at H
    have A3 := Aside0.mk A_
    clear A_
    simp only [Option.some.injEq, Prod.mk.injEq] at H
    obtain ⟨rfl, rfl, rfl, rfl, rfl, rfl, rfl⟩ := H
    go_enter Try.func32, Try.ntmps32
    try go_wp2_with (first | (go_at_call 34; (with_reducible refine (saga_back.calls k _ _ l0 (wrap64 (a1_1 - 1)) t189 t190 t191 t192 t193 t194 t195 _ ?sd0 HC0.out A3.out).mono ?_); (case sd0 => exact Kd.C_below HR0.out (by repeat (first | (with_reducible first | exact Below.refl _ _ | apply below_alloc | apply pw_below_drewN | apply below_drew1) | refine below_set ?_ (by first | omega | (simp; omega) | simp)))); rintro e w4 ⟨rfl, hb⟩; have hsw4 : w.heap.size + 2 ≤ w4.heap.size := (by have h_ := hb.size; simpa using h_); have HB_w4 : Aside0 (Below w.heap.size w w4) := Aside0.mk (below_step (by repeat (first | (with_reducible first | exact Below.refl _ _ | apply below_alloc | apply pw_below_drewN | apply below_drew1) | refine below_set ?_ (by first | omega | (simp; omega) | simp))) hb); have cw4_187 := fun o_ : Nat => hb.cell (p := ⟨w.heap.size, o_, none⟩) (by first | omega | (simp; done) | (simp; omega)); have fw4_187 := fun o_ : Nat => hb.frozen (p := ⟨w.heap.size, o_, none⟩) (by first | omega | (simp; done) | (simp; omega)); have cw4_188 := fun o_ : Nat => hb.cell (p := ⟨w.heap.size + 1, o_, none⟩) (by first | omega | (simp; done) | (simp; omega)); have fw4_188 := fun o_ : Nat => hb.frozen (p := ⟨w.heap.size + 1, o_, none⟩) (by first | omega | (simp; done) | (simp; omega)); clear hb; have hlw4_187_0 : w.heap.size < w4.heap.size := (by omega); have hlw4_188_0 : w.heap.size + 1 < w4.heap.size := (by omega)))
    repeat (go_quiet (first | (go_at_call 34; (with_reducible refine (saga_back.calls k _ _ l0 (wrap64 (a1_1 - 1)) t189 t190 t191 t192 t193 t194 t195 _ ?sd0 HC0.out A3.out).mono ?_); (case sd0 => exact Kd.C_below HR0.out (by repeat (first | (with_reducible first | exact Below.refl _ _ | apply below_alloc | apply pw_below_drewN | apply below_drew1) | refine below_set ?_ (by first | omega | (simp; omega) | simp)))); rintro e w4 ⟨rfl, hb⟩; have hsw4 : w.heap.size + 2 ≤ w4.heap.size := (by have h_ := hb.size; simpa using h_); have HB_w4 : Aside0 (Below w.heap.size w w4) := Aside0.mk (below_step (by repeat (first | (with_reducible first | exact Below.refl _ _ | apply below_alloc | apply pw_below_drewN | apply below_drew1) | refine below_set ?_ (by first | omega | (simp; omega) | simp))) hb); have cw4_187 := fun o_ : Nat => hb.cell (p := ⟨w.heap.size, o_, none⟩) (by first | omega | (simp; done) | (simp; omega)); have fw4_187 := fun o_ : Nat => hb.frozen (p := ⟨w.heap.size, o_, none⟩) (by first | omega | (simp; done) | (simp; omega)); have cw4_188 := fun o_ : Nat => hb.cell (p := ⟨w.heap.size + 1, o_, none⟩) (by first | omega | (simp; done) | (simp; omega)); have fw4_188 := fun o_ : Nat => hb.frozen (p := ⟨w.heap.size + 1, o_, none⟩) (by first | omega | (simp; done) | (simp; omega)); clear hb; have hlw4_187_0 : w.heap.size < w4.heap.size := (by omega); have hlw4_188_0 : w.heap.size + 1 < w4.heap.size := (by omega))); try go_wp2_with (first | (go_at_call 34; (with_reducible refine (saga_back.calls k _ _ l0 (wrap64 (a1_1 - 1)) t189 t190 t191 t192 t193 t194 t195 _ ?sd0 HC0.out A3.out).mono ?_); (case sd0 => exact Kd.C_below HR0.out (by repeat (first | (with_reducible first | exact Below.refl _ _ | apply below_alloc | apply pw_below_drewN | apply below_drew1) | refine below_set ?_ (by first | omega | (simp; omega) | simp)))); rintro e w4 ⟨rfl, hb⟩; have hsw4 : w.heap.size + 2 ≤ w4.heap.size := (by have h_ := hb.size; simpa using h_); have HB_w4 : Aside0 (Below w.heap.size w w4) := Aside0.mk (below_step (by repeat (first | (with_reducible first | exact Below.refl _ _ | apply below_alloc | apply pw_below_drewN | apply below_drew1) | refine below_set ?_ (by first | omega | (simp; omega) | simp))) hb); have cw4_187 := fun o_ : Nat => hb.cell (p := ⟨w.heap.size, o_, none⟩) (by first | omega | (simp; done) | (simp; omega)); have fw4_187 := fun o_ : Nat => hb.frozen (p := ⟨w.heap.size, o_, none⟩) (by first | omega | (simp; done) | (simp; omega)); have cw4_188 := fun o_ : Nat => hb.cell (p := ⟨w.heap.size + 1, o_, none⟩) (by first | omega | (simp; done) | (simp; omega)); have fw4_188 := fun o_ : Nat => hb.frozen (p := ⟨w.heap.size + 1, o_, none⟩) (by first | omega | (simp; done) | (simp; omega)); clear hb; have hlw4_187_0 : w.heap.size < w4.heap.size := (by omega); have hlw4_188_0 : w.heap.size + 1 < w4.heap.size := (by omega))))
    refine bodyPost_ret ?_ rfl ⟨rfl, ?_⟩
    · simp [results, Try.results32, go_sem, cw4_187, fw4_187, cw4_188, fw4_188, hlw4_187_0, hlw4_188_0]
    · exact (by repeat (first | (with_reducible first | exact HB_w4.out | exact Below.refl _ _ | apply below_alloc | apply pw_below_drewN | apply below_drew1) | refine below_set ?_ (by first | omega | (simp; omega) | simp)))
  · rw [if_neg c2] at H
    have c2b0 : (a2 == 2) = false := beq_eq_false_iff_ne.mpr c2
    have c2b1 : (a2 != 2) = true := bne_iff_ne.mpr c2
    clear c2
    have HC6 := Aside0.mk H
    clear H
    go_enter Try.func32, Try.ntmps32
    go_upto_region 3 with (fail)
    repeat (go_quiet (fail); go_upto_region 3 with (fail))
    go_cut [15] (fun v15 wq5 => ∃ (kq : Nat) (x15_5 : Bool), v15 = .bool x15_5 ∧ Aside0 (saga_forward.j0 kq l0 a2 x15_5 a1_0 a1_1 a1_2 a1_3 a1_4 a1_5 a1_6 = some (r1, r2, r3, r4, r5, r6, r7)) ∧ Aside0 (kq ≤ k) ∧ Aside0 (BX wq5 (w.heap.size) [.int .i64 a1_0, .int .i64 a1_1, .int .i64 a1_2, .bool a1_3, .int .i64 a1_4, .bool a1_5, .int .i64 a1_6]) ∧ Aside0 (BX wq5 (w.heap.size + 1) [.int .i64 0, .int .i64 0, .int .i64 0, .bool false, .int .i64 0, .bool false, .int .i64 0]) ∧ Aside0 (Below w.heap.size w wq5))
    case first =>
      have H := HC6.out
      clear HC6
      by_cases c7 : a2 = 3
      · rw [if_pos c7] at H
        have c7b0 : (a2 == 3) = true := beq_iff_eq.mpr c7
        have c7b1 : (a2 != 3) = false := bne_eq_false_iff_eq.mpr c7
        clear c7
        by_cases c8 : a1_5 = true
        · subst c8
          rw [if_pos rfl] at H
          have H' := Aside0.mk H
          clear H
          try go_wp2
          repeat (go_quiet (fail); try go_wp2)
          go_meet
          case rel => exact ⟨_, (false), (by first | rfl | (simp; done) | (simp [*]; done)), H', ⟨by first | omega | exact Nat.le_refl _⟩, ⟨BX.mk7 (by go_simp) (by go_simp) (by go_simp) (by go_simp) (by go_simp) (by go_simp) (by go_simp) (by go_simp) (by go_simp) (by go_simp) (by go_simp) (by go_simp) (by go_simp) (by go_simp) (by first | omega | (simp; done) | (simp; omega))⟩, ⟨BX.mk7 (by go_simp) (by go_simp) (by go_simp) (by go_simp) (by go_simp) (by go_simp) (by go_simp) (by go_simp) (by go_simp) (by go_simp) (by go_simp) (by go_simp) (by go_simp) (by go_simp) (by first | omega | (simp; done) | (simp; omega))⟩, ⟨(by repeat (first | (with_reducible first | exact Below.refl _ _ | apply below_alloc | apply pw_below_drewN | apply below_drew1) | refine below_set ?_ (by first | omega | (simp; omega) | simp)))⟩⟩
        · replace c8 := Bool.eq_false_iff.mpr c8; subst c8
          rw [if_neg (by decide)] at H
          by_cases c9 : 0 ≤ a1_1
          · rw [if_pos c9] at H
            have c9b0 : decide (0 ≤ a1_1) = true := decide_eq_true c9
            clear c9
            by_cases c10 : a1_1 < (l0.length : Int)
            · rw [if_pos c10] at H
              have c10b0 : decide (a1_1 < (l0.length : Int)) = true := decide_eq_true c10
              clear c10
              have H' := Aside0.mk H
              clear H
              have p196 : 0 ≤ (a1_1 : Int) := of_decide_eq_true (by first | (with_reducible assumption) | assumption)
              have q196 : a1_1 < (l0.length : Int) := of_decide_eq_true (by first | (with_reducible assumption) | assumption)
              obtain ⟨ad196, A196_2, c196_2, e196, hx196_0, hx196_1, hx196_2, hx196_3, hx196_4, hx196_5, hl196_2, hg196_2⟩ := at_T38 HR0.out (a1_1) p196 q196
              cases e196
              have HG196_2 := Aside0.mk hg196_2
              clear hg196_2
              have HL196_2 := Aside0.mk hl196_2
              clear hl196_2
              have hw196 := cell_lt2 hx196_0
              replace p196 := eq_true p196
              replace q196 := eq_true q196
              try go_wp2
              repeat (go_quiet (fail); try go_wp2)
              go_meet
              case rel => exact ⟨_, (decide (a1_2 < ((rd_T38 l0 a1_1).f1))), (by first | rfl | (simp; done) | (simp [*]; done)), H', ⟨by first | omega | exact Nat.le_refl _⟩, ⟨BX.mk7 (by go_simp) (by go_simp) (by go_simp) (by go_simp) (by go_simp) (by go_simp) (by go_simp) (by go_simp) (by go_simp) (by go_simp) (by go_simp) (by go_simp) (by go_simp) (by go_simp) (by first | omega | (simp; done) | (simp; omega))⟩, ⟨BX.mk7 (by go_simp) (by go_simp) (by go_simp) (by go_simp) (by go_simp) (by go_simp) (by go_simp) (by go_simp) (by go_simp) (by go_simp) (by go_simp) (by go_simp) (by go_simp) (by go_simp) (by first | omega | (simp; done) | (simp; omega))⟩, ⟨(by repeat (first | (with_reducible first | exact Below.refl _ _ | apply below_alloc | apply pw_below_drewN | apply below_drew1) | refine below_set ?_ (by first | omega | (simp; omega) | simp)))⟩⟩
            · rw [if_neg c10] at H
              exact absurd H (by simp)
          · rw [if_neg c9] at H
            exact absurd H (by simp)
      · rw [if_neg c7] at H
        have c7b0 : (a2 == 3) = false := beq_eq_false_iff_ne.mpr c7
        have c7b1 : (a2 != 3) = true := bne_iff_ne.mpr c7
        clear c7
        have H' := Aside0.mk H
        clear H
        try go_wp2
        repeat (go_quiet (fail); try go_wp2)
        go_meet
        case rel => exact ⟨_, (false), (by first | rfl | (simp; done) | (simp [*]; done)), H', ⟨by first | omega | exact Nat.le_refl _⟩, ⟨BX.mk7 (by go_simp) (by go_simp) (by go_simp) (by go_simp) (by go_simp) (by go_simp) (by go_simp) (by go_simp) (by go_simp) (by go_simp) (by go_simp) (by go_simp) (by go_simp) (by go_simp) (by first | omega | (simp; done) | (simp; omega))⟩, ⟨BX.mk7 (by go_simp) (by go_simp) (by go_simp) (by go_simp) (by go_simp) (by go_simp) (by go_simp) (by go_simp) (by go_simp) (by go_simp) (by go_simp) (by go_simp) (by go_simp) (by go_simp) (by first | omega | (simp; done) | (simp; omega))⟩, ⟨(by repeat (first | (with_reducible first | exact Below.refl _ _ | apply below_alloc | apply pw_below_drewN | apply below_drew1) | refine below_set ?_ (by first | omega | (simp; omega) | simp)))⟩⟩
    case rest =>
      rename World => wc5
      clear HC6
      obtain ⟨kq, x15_5, rfl, HA, HJ5, BX187_5, BX188_5, HB_5⟩ := hcut
      have hs5 : w.heap.size ≤ wc5.heap.size := HB_5.out.size
      obtain ⟨hz187_5_0, hz187_5_1, hz187_5_2, hz187_5_3, hz187_5_4, hz187_5_5, hz187_5_6, hf187_5_0, hf187_5_1, hf187_5_2, hf187_5_3, hf187_5_4, hf187_5_5, hf187_5_6, hlt187_5⟩ := BX187_5.out.out7
      obtain ⟨hz188_5_0, hz188_5_1, hz188_5_2, hz188_5_3, hz188_5_4, hz188_5_5, hz188_5_6, hf188_5_0, hf188_5_1, hf188_5_2, hf188_5_3, hf188_5_4, hf188_5_5, hf188_5_6, hlt188_5⟩ := BX188_5.out.out7
      cases kq with
      | zero => exact absurd HA.out (by simp [saga_forward.j0])
      | succ k5 =>
        have H := HA.out
        clear HA
        simp only [saga_forward.j0] at H
        by_cases c12 : x15_5 = true
        · subst c12
          rw [if_pos rfl] at H
          obtain ⟨⟨t197, t198, t199, t200, t201, t202, t203⟩, A_, H⟩ := Option.bind_eq_some_iff.mp H
          try dsimp only at H
          have A13 := Aside0.mk A_
          clear A_
          simp only [Option.some.injEq, Prod.mk.injEq] at H
          obtain ⟨rfl, rfl, rfl, rfl, rfl, rfl, rfl⟩ := H
          have hlwc5_187_0 : w.heap.size < wc5.heap.size := (by omega)
          have hlwc5_188_0 : w.heap.size + 1 < wc5.heap.size := (by omega)
          try go_wp2_with (first | (go_at_call 38; (with_reducible refine (saga_again.calls a1_0 a1_1 a1_2 a1_3 a1_4 a1_5 a1_6 t197 t198 t199 t200 t201 t202 t203 _ A13.out).mono ?_); rintro e w14 ⟨rfl, hb⟩; have hsw14 : wc5.heap.size ≤ w14.heap.size := (by have h_ := hb.size; simpa using h_); have HB_w14 : Aside0 (Below w.heap.size w w14) := Aside0.mk (below_step (by repeat (first | (with_reducible first | exact HB_5.out | exact Below.refl _ _ | apply below_alloc | apply pw_below_drewN | apply below_drew1) | refine below_set ?_ (by first | omega | (simp; omega) | simp))) hb); have cw14_187 := fun o_ : Nat => hb.cell (p := ⟨w.heap.size, o_, none⟩) (by first | omega | (simp; done) | (simp; omega)); have fw14_187 := fun o_ : Nat => hb.frozen (p := ⟨w.heap.size, o_, none⟩) (by first | omega | (simp; done) | (simp; omega)); have cw14_188 := fun o_ : Nat => hb.cell (p := ⟨w.heap.size + 1, o_, none⟩) (by first | omega | (simp; done) | (simp; omega)); have fw14_188 := fun o_ : Nat => hb.frozen (p := ⟨w.heap.size + 1, o_, none⟩) (by first | omega | (simp; done) | (simp; omega)); clear hb; have hlw14_187_0 : w.heap.size < w14.heap.size := (by omega); have hlw14_188_0 : w.heap.size + 1 < w14.heap.size := (by omega)))
          repeat (go_quiet (first | (go_at_call 38; (with_reducible refine (saga_again.calls a1_0 a1_1 a1_2 a1_3 a1_4 a1_5 a1_6 t197 t198 t199 t200 t201 t202 t203 _ A13.out).mono ?_); rintro e w14 ⟨rfl, hb⟩; have hsw14 : wc5.heap.size ≤ w14.heap.size := (by have h_ := hb.size; simpa using h_); have HB_w14 : Aside0 (Below w.heap.size w w14) := Aside0.mk (below_step (by repeat (first | (with_reducible first | exact HB_5.out | exact Below.refl _ _ | apply below_alloc | apply pw_below_drewN | apply below_drew1) | refine below_set ?_ (by first | omega | (simp; omega) | simp))) hb); have cw14_187 := fun o_ : Nat => hb.cell (p := ⟨w.heap.size, o_, none⟩) (by first | omega | (simp; done) | (simp; omega)); have fw14_187 := fun o_ : Nat => hb.frozen (p := ⟨w.heap.size, o_, none⟩) (by first | omega | (simp; done) | (simp; omega)); have cw14_188 := fun o_ : Nat => hb.cell (p := ⟨w.heap.size + 1, o_, none⟩) (by first | omega | (simp; done) | (simp; omega)); have fw14_188 := fun o_ : Nat => hb.frozen (p := ⟨w.heap.size + 1, o_, none⟩) (by first | omega | (simp; done) | (simp; omega)); clear hb; have hlw14_187_0 : w.heap.size < w14.heap.size := (by omega); have hlw14_188_0 : w.heap.size + 1 < w14.heap.size := (by omega))); try go_wp2_with (first | (go_at_call 38; (with_reducible refine (saga_again.calls a1_0 a1_1 a1_2 a1_3 a1_4 a1_5 a1_6 t197 t198 t199 t200 t201 t202 t203 _ A13.out).mono ?_); rintro e w14 ⟨rfl, hb⟩; have hsw14 : wc5.heap.size ≤ w14.heap.size := (by have h_ := hb.size; simpa using h_); have HB_w14 : Aside0 (Below w.heap.size w w14) := Aside0.mk (below_step (by repeat (first | (with_reducible first | exact HB_5.out | exact Below.refl _ _ | apply below_alloc | apply pw_below_drewN | apply below_drew1) | refine below_set ?_ (by first | omega | (simp; omega) | simp))) hb); have cw14_187 := fun o_ : Nat => hb.cell (p := ⟨w.heap.size, o_, none⟩) (by first | omega | (simp; done) | (simp; omega)); have fw14_187 := fun o_ : Nat => hb.frozen (p := ⟨w.heap.size, o_, none⟩) (by first | omega | (simp; done) | (simp; omega)); have cw14_188 := fun o_ : Nat => hb.cell (p := ⟨w.heap.size + 1, o_, none⟩) (by first | omega | (simp; done) | (simp; omega)); have fw14_188 := fun o_ : Nat => hb.frozen (p := ⟨w.heap.size + 1, o_, none⟩) (by first | omega | (simp; done) | (simp; omega)); clear hb; have hlw14_187_0 : w.heap.size < w14.heap.size := (by omega); have hlw14_188_0 : w.heap.size + 1 < w14.heap.size := (by omega))))
          refine bodyPost_ret ?_ rfl ⟨rfl, ?_⟩
          · simp [results, Try.results32, go_sem, hz187_5_0, hz187_5_1, hz187_5_2, hz187_5_3, hz187_5_4, hz187_5_5, hz187_5_6, hf187_5_0, hf187_5_1, hf187_5_2, hf187_5_3, hf187_5_4, hf187_5_5, hf187_5_6, hz188_5_0, hz188_5_1, hz188_5_2, hz188_5_3, hz188_5_4, hz188_5_5, hz188_5_6, hf188_5_0, hf188_5_1, hf188_5_2, hf188_5_3, hf188_5_4, hf188_5_5, hf188_5_6, hlwc5_187_0, hlwc5_188_0, cw14_187, fw14_187, cw14_188, fw14_188, hlw14_187_0, hlw14_188_0]
          · exact (by repeat (first | (with_reducible first | exact HB_w14.out | exact Below.refl _ _ | apply below_alloc | apply pw_below_drewN | apply below_drew1) | refine below_set ?_ (by first | omega | (simp; omega) | simp)))
        · replace c12 := Bool.eq_false_iff.mpr c12; subst c12
          rw [if_neg (by decide)] at H
          have HC16 := Aside0.mk H
          clear H
          have hlwc5_187_0 : w.heap.size < wc5.heap.size := (by omega)
          have hlwc5_188_0 : w.heap.size + 1 < wc5.heap.size := (by omega)
          go_upto_region 5 with (fail)
          repeat (go_quiet (fail); go_upto_region 5 with (fail))
          go_cut [36] (fun v36 wq15 => ∃ (kq : Nat) (x36_15 : Bool), v36 = .bool x36_15 ∧ Aside0 (saga_forward.j1 kq l0 x36_15 a1_0 a1_1 a1_2 a1_3 a1_4 a1_5 a1_6 = some (r1, r2, r3, r4, r5, r6, r7)) ∧ Aside0 (kq ≤ k5) ∧ Aside0 (BX wq15 (w.heap.size) [.int .i64 a1_0, .int .i64 a1_1, .int .i64 a1_2, .bool a1_3, .int .i64 a1_4, .bool a1_5, .int .i64 a1_6]) ∧ Aside0 (BX wq15 (w.heap.size + 1) [.int .i64 0, .int .i64 0, .int .i64 0, .bool false, .int .i64 0, .bool false, .int .i64 0]) ∧ Aside0 (Below w.heap.size w wq15))
          case first =>
            have H := HC16.out
            clear HC16
            by_cases c17 : a2 = 3
            · rw [if_pos c17] at H
              have c17b0 : (a2 == 3) = true := beq_iff_eq.mpr c17
              have c17b1 : (a2 != 3) = false := bne_eq_false_iff_eq.mpr c17
              clear c17
              have H' := Aside0.mk H
              clear H
              have hlwc5_187_0 : w.heap.size < wc5.heap.size := (by omega)
              have hlwc5_188_0 : w.heap.size + 1 < wc5.heap.size := (by omega)
              try go_wp2
              repeat (go_quiet (fail); try go_wp2)
              go_meet
              case rel => exact ⟨_, (true), (by first | rfl | (simp; done) | (simp [*]; done)), H', ⟨by have := HJ5.out; first | omega | exact Nat.le_refl _⟩, ⟨BX.mk7 (by go_simp) (by go_simp) (by go_simp) (by go_simp) (by go_simp) (by go_simp) (by go_simp) (by go_simp) (by go_simp) (by go_simp) (by go_simp) (by go_simp) (by go_simp) (by go_simp) (by first | omega | (simp; done) | (simp; omega))⟩, ⟨BX.mk7 (by go_simp) (by go_simp) (by go_simp) (by go_simp) (by go_simp) (by go_simp) (by go_simp) (by go_simp) (by go_simp) (by go_simp) (by go_simp) (by go_simp) (by go_simp) (by go_simp) (by first | omega | (simp; done) | (simp; omega))⟩, ⟨(by repeat (first | (with_reducible first | exact HB_5.out | exact Below.refl _ _ | apply below_alloc | apply pw_below_drewN | apply below_drew1) | refine below_set ?_ (by first | omega | (simp; omega) | simp)))⟩⟩
            · rw [if_neg c17] at H
              have c17b0 : (a2 == 3) = false := beq_eq_false_iff_ne.mpr c17
              have c17b1 : (a2 != 3) = true := bne_iff_ne.mpr c17
              clear c17
              have H' := Aside0.mk H
              clear H
              have hlwc5_187_0 : w.heap.size < wc5.heap.size := (by omega)
              have hlwc5_188_0 : w.heap.size + 1 < wc5.heap.size := (by omega)
              try go_wp2
              repeat (go_quiet (fail); try go_wp2)
              go_meet
              case rel => exact ⟨_, (a1_5), (by first | rfl | (simp; done) | (simp [*]; done)), H', ⟨by have := HJ5.out; first | omega | exact Nat.le_refl _⟩, ⟨BX.mk7 (by go_simp) (by go_simp) (by go_simp) (by go_simp) (by go_simp) (by go_simp) (by go_simp) (by go_simp) (by go_simp) (by go_simp) (by go_simp) (by go_simp) (by go_simp) (by go_simp) (by first | omega | (simp; done) | (simp; omega))⟩, ⟨BX.mk7 (by go_simp) (by go_simp) (by go_simp) (by go_simp) (by go_simp) (by go_simp) (by go_simp) (by go_simp) (by go_simp) (by go_simp) (by go_simp) (by go_simp) (by go_simp) (by go_simp) (by first | omega | (simp; done) | (simp; omega))⟩, ⟨(by repeat (first | (with_reducible first | exact HB_5.out | exact Below.refl _ _ | apply below_alloc | apply pw_below_drewN | apply below_drew1) | refine below_set ?_ (by first | omega | (simp; omega) | simp)))⟩⟩
          case rest =>
            rename World => wc15
            clear HC16
            obtain ⟨kq, x36_15, rfl, HA, HJ15, BX187_15, BX188_15, HB_15⟩ := hcut
            have hs15 : w.heap.size ≤ wc15.heap.size := HB_15.out.size
            obtain ⟨hz187_15_0, hz187_15_1, hz187_15_2, hz187_15_3, hz187_15_4, hz187_15_5, hz187_15_6, hf187_15_0, hf187_15_1, hf187_15_2, hf187_15_3, hf187_15_4, hf187_15_5, hf187_15_6, hlt187_15⟩ := BX187_15.out.out7
            obtain ⟨hz188_15_0, hz188_15_1, hz188_15_2, hz188_15_3, hz188_15_4, hz188_15_5, hz188_15_6, hf188_15_0, hf188_15_1, hf188_15_2, hf188_15_3, hf188_15_4, hf188_15_5, hf188_15_6, hlt188_15⟩ := BX188_15.out.out7
            cases kq with
            | zero => exact absurd HA.out (by simp [saga_forward.j1])
            | succ k15 =>
              have H := HA.out
              clear HA
              simp only [saga_forward.j1] at H
              by_cases c19 : x36_15 = true
              · subst c19
                rw [if_pos rfl] at H
                obtain ⟨⟨t204, t205, t206, t207, t208, t209, t210⟩, A_, H⟩ := Option.bind_eq_some_iff.mp H
                try dsimp only at H
                have A20 := Aside0.mk A_
                clear A_
                simp only [Option.some.injEq, Prod.mk.injEq] at H
                obtain ⟨rfl, rfl, rfl, rfl, rfl, rfl, rfl⟩ := H
                have hlwc15_187_0 : w.heap.size < wc15.heap.size := (by omega)
                have hlwc15_188_0 : w.heap.size + 1 < wc15.heap.size := (by omega)
                try go_wp2_with (first | (go_at_call 34; (with_reducible refine (saga_back.calls k15 _ _ l0 a1_1 t204 t205 t206 t207 t208 t209 t210 _ ?sd0 HC0.out A20.out).mono ?_); (case sd0 => exact Kd.C_below HR0.out (by repeat (first | (with_reducible first | exact HB_15.out | exact Below.refl _ _ | apply below_alloc | apply pw_below_drewN | apply below_drew1) | refine below_set ?_ (by first | omega | (simp; omega) | simp)))); rintro e w21 ⟨rfl, hb⟩; have hsw21 : wc15.heap.size ≤ w21.heap.size := (by have h_ := hb.size; simpa using h_); have HB_w21 : Aside0 (Below w.heap.size w w21) := Aside0.mk (below_step (by repeat (first | (with_reducible first | exact HB_15.out | exact Below.refl _ _ | apply below_alloc | apply pw_below_drewN | apply below_drew1) | refine below_set ?_ (by first | omega | (simp; omega) | simp))) hb); have cw21_187 := fun o_ : Nat => hb.cell (p := ⟨w.heap.size, o_, none⟩) (by first | omega | (simp; done) | (simp; omega)); have fw21_187 := fun o_ : Nat => hb.frozen (p := ⟨w.heap.size, o_, none⟩) (by first | omega | (simp; done) | (simp; omega)); have cw21_188 := fun o_ : Nat => hb.cell (p := ⟨w.heap.size + 1, o_, none⟩) (by first | omega | (simp; done) | (simp; omega)); have fw21_188 := fun o_ : Nat => hb.frozen (p := ⟨w.heap.size + 1, o_, none⟩) (by first | omega | (simp; done) | (simp; omega)); clear hb; have hlw21_187_0 : w.heap.size < w21.heap.size := (by omega); have hlw21_188_0 : w.heap.size + 1 < w21.heap.size := (by omega)))
                repeat (go_quiet (first | (go_at_call 34; (with_reducible refine (saga_back.calls k15 _ _ l0 a1_1 t204 t205 t206 t207 t208 t209 t210 _ ?sd0 HC0.out A20.out).mono ?_); (case sd0 => exact Kd.C_below HR0.out (by repeat (first | (with_reducible first | exact HB_15.out | exact Below.refl _ _ | apply below_alloc | apply pw_below_drewN | apply below_drew1) | refine below_set ?_ (by first | omega | (simp; omega) | simp)))); rintro e w21 ⟨rfl, hb⟩; have hsw21 : wc15.heap.size ≤ w21.heap.size := (by have h_ := hb.size; simpa using h_); have HB_w21 : Aside0 (Below w.heap.size w w21) := Aside0.mk (below_step (by repeat (first | (with_reducible first | exact HB_15.out | exact Below.refl _ _ | apply below_alloc | apply pw_below_drewN | apply below_drew1) | refine below_set ?_ (by first | omega | (simp; omega) | simp))) hb); have cw21_187 := fun o_ : Nat => hb.cell (p := ⟨w.heap.size, o_, none⟩) (by first | omega | (simp; done) | (simp; omega)); have fw21_187 := fun o_ : Nat => hb.frozen (p := ⟨w.heap.size, o_, none⟩) (by first | omega | (simp; done) | (simp; omega)); have cw21_188 := fun o_ : Nat => hb.cell (p := ⟨w.heap.size + 1, o_, none⟩) (by first | omega | (simp; done) | (simp; omega)); have fw21_188 := fun o_ : Nat => hb.frozen (p := ⟨w.heap.size + 1, o_, none⟩) (by first | omega | (simp; done) | (simp; omega)); clear hb; have hlw21_187_0 : w.heap.size < w21.heap.size := (by omega); have hlw21_188_0 : w.heap.size + 1 < w21.heap.size := (by omega))); try go_wp2_with (first | (go_at_call 34; (with_reducible refine (saga_back.calls k15 _ _ l0 a1_1 t204 t205 t206 t207 t208 t209 t210 _ ?sd0 HC0.out A20.out).mono ?_); (case sd0 => exact Kd.C_below HR0.out (by repeat (first | (with_reducible first | exact HB_15.out | exact Below.refl _ _ | apply below_alloc | apply pw_below_drewN | apply below_drew1) | refine below_set ?_ (by first | omega | (simp; omega) | simp)))); rintro e w21 ⟨rfl, hb⟩; have hsw21 : wc15.heap.size ≤ w21.heap.size := (by have h_ := hb.size; simpa using h_); have HB_w21 : Aside0 (Below w.heap.size w w21) := Aside0.mk (below_step (by repeat (first | (with_reducible first | exact HB_15.out | exact Below.refl _ _ | apply below_alloc | apply pw_below_drewN | apply below_drew1) | refine below_set ?_ (by first | omega | (simp; omega) | simp))) hb); have cw21_187 := fun o_ : Nat => hb.cell (p := ⟨w.heap.size, o_, none⟩) (by first | omega | (simp; done) | (simp; omega)); have fw21_187 := fun o_ : Nat => hb.frozen (p := ⟨w.heap.size, o_, none⟩) (by first | omega | (simp; done) | (simp; omega)); have cw21_188 := fun o_ : Nat => hb.cell (p := ⟨w.heap.size + 1, o_, none⟩) (by first | omega | (simp; done) | (simp; omega)); have fw21_188 := fun o_ : Nat => hb.frozen (p := ⟨w.heap.size + 1, o_, none⟩) (by first | omega | (simp; done) | (simp; omega)); clear hb; have hlw21_187_0 : w.heap.size < w21.heap.size := (by omega); have hlw21_188_0 : w.heap.size + 1 < w21.heap.size := (by omega))))
                refine bodyPost_ret ?_ rfl ⟨rfl, ?_⟩
                · simp [results, Try.results32, go_sem, hz187_15_0, hz187_15_1, hz187_15_2, hz187_15_3, hz187_15_4, hz187_15_5, hz187_15_6, hf187_15_0, hf187_15_1, hf187_15_2, hf187_15_3, hf187_15_4, hf187_15_5, hf187_15_6, hz188_15_0, hz188_15_1, hz188_15_2, hz188_15_3, hz188_15_4, hz188_15_5, hz188_15_6, hf188_15_0, hf188_15_1, hf188_15_2, hf188_15_3, hf188_15_4, hf188_15_5, hf188_15_6, hlwc15_187_0, hlwc15_188_0, cw21_187, fw21_187, cw21_188, fw21_188, hlw21_187_0, hlw21_188_0]
                · exact (by repeat (first | (with_reducible first | exact HB_w21.out | exact Below.refl _ _ | apply below_alloc | apply pw_below_drewN | apply below_drew1) | refine below_set ?_ (by first | omega | (simp; omega) | simp)))
              · replace c19 := Bool.eq_false_iff.mpr c19; subst c19
                rw [if_neg (by decide)] at H
                by_cases c22 : a1_1 = (wrap64 ((l0.length : Int) - 1))
                · rw [if_pos c22] at H
                  have c22b0 : (a1_1 == (wrap64 ((l0.length : Int) - 1))) = true := beq_iff_eq.mpr c22
                  have c22b1 : (a1_1 != (wrap64 ((l0.length : Int) - 1))) = false := bne_eq_false_iff_eq.mpr c22
                  clear c22
                  obtain ⟨⟨t211, t212, t213, t214, t215, t216, t217⟩, A_, H⟩ := Option.bind_eq_some_iff.mp H
                  try dsimp only at H
                  have A23 := Aside0.mk A_
                  clear A_
                  simp only [Option.some.injEq, Prod.mk.injEq] at H
                  obtain ⟨rfl, rfl, rfl, rfl, rfl, rfl, rfl⟩ := H
                  have hlwc15_187_0 : w.heap.size < wc15.heap.size := (by omega)
                  have hlwc15_188_0 : w.heap.size + 1 < wc15.heap.size := (by omega)
                  try go_wp2_with (first | (go_at_call 36; (with_reducible refine (saga_over.calls 1 t211 t212 t213 t214 t215 t216 t217 _ A23.out).mono ?_); rintro e w24 ⟨rfl, hb⟩; have hsw24 : wc15.heap.size ≤ w24.heap.size := (by have h_ := hb.size; simpa using h_); have HB_w24 : Aside0 (Below w.heap.size w w24) := Aside0.mk (below_step (by repeat (first | (with_reducible first | exact HB_15.out | exact Below.refl _ _ | apply below_alloc | apply pw_below_drewN | apply below_drew1) | refine below_set ?_ (by first | omega | (simp; omega) | simp))) hb); have cw24_187 := fun o_ : Nat => hb.cell (p := ⟨w.heap.size, o_, none⟩) (by first | omega | (simp; done) | (simp; omega)); have fw24_187 := fun o_ : Nat => hb.frozen (p := ⟨w.heap.size, o_, none⟩) (by first | omega | (simp; done) | (simp; omega)); have cw24_188 := fun o_ : Nat => hb.cell (p := ⟨w.heap.size + 1, o_, none⟩) (by first | omega | (simp; done) | (simp; omega)); have fw24_188 := fun o_ : Nat => hb.frozen (p := ⟨w.heap.size + 1, o_, none⟩) (by first | omega | (simp; done) | (simp; omega)); clear hb; have hlw24_187_0 : w.heap.size < w24.heap.size := (by omega); have hlw24_188_0 : w.heap.size + 1 < w24.heap.size := (by omega)))
                  repeat (go_quiet (first | (go_at_call 36; (with_reducible refine (saga_over.calls 1 t211 t212 t213 t214 t215 t216 t217 _ A23.out).mono ?_); rintro e w24 ⟨rfl, hb⟩; have hsw24 : wc15.heap.size ≤ w24.heap.size := (by have h_ := hb.size; simpa using h_); have HB_w24 : Aside0 (Below w.heap.size w w24) := Aside0.mk (below_step (by repeat (first | (with_reducible first | exact HB_15.out | exact Below.refl _ _ | apply below_alloc | apply pw_below_drewN | apply below_drew1) | refine below_set ?_ (by first | omega | (simp; omega) | simp))) hb); have cw24_187 := fun o_ : Nat => hb.cell (p := ⟨w.heap.size, o_, none⟩) (by first | omega | (simp; done) | (simp; omega)); have fw24_187 := fun o_ : Nat => hb.frozen (p := ⟨w.heap.size, o_, none⟩) (by first | omega | (simp; done) | (simp; omega)); have cw24_188 := fun o_ : Nat => hb.cell (p := ⟨w.heap.size + 1, o_, none⟩) (by first | omega | (simp; done) | (simp; omega)); have fw24_188 := fun o_ : Nat => hb.frozen (p := ⟨w.heap.size + 1, o_, none⟩) (by first | omega | (simp; done) | (simp; omega)); clear hb; have hlw24_187_0 : w.heap.size < w24.heap.size := (by omega); have hlw24_188_0 : w.heap.size + 1 < w24.heap.size := (by omega))); try go_wp2_with (first | (go_at_call 36; (with_reducible refine (saga_over.calls 1 t211 t212 t213 t214 t215 t216 t217 _ A23.out).mono ?_); rintro e w24 ⟨rfl, hb⟩; have hsw24 : wc15.heap.size ≤ w24.heap.size := (by have h_ := hb.size; simpa using h_); have HB_w24 : Aside0 (Below w.heap.size w w24) := Aside0.mk (below_step (by repeat (first | (with_reducible first | exact HB_15.out | exact Below.refl _ _ | apply below_alloc | apply pw_below_drewN | apply below_drew1) | refine below_set ?_ (by first | omega | (simp; omega) | simp))) hb); have cw24_187 := fun o_ : Nat => hb.cell (p := ⟨w.heap.size, o_, none⟩) (by first | omega | (simp; done) | (simp; omega)); have fw24_187 := fun o_ : Nat => hb.frozen (p := ⟨w.heap.size, o_, none⟩) (by first | omega | (simp; done) | (simp; omega)); have cw24_188 := fun o_ : Nat => hb.cell (p := ⟨w.heap.size + 1, o_, none⟩) (by first | omega | (simp; done) | (simp; omega)); have fw24_188 := fun o_ : Nat => hb.frozen (p := ⟨w.heap.size + 1, o_, none⟩) (by first | omega | (simp; done) | (simp; omega)); clear hb; have hlw24_187_0 : w.heap.size < w24.heap.size := (by omega); have hlw24_188_0 : w.heap.size + 1 < w24.heap.size := (by omega))))
                  refine bodyPost_ret ?_ rfl ⟨rfl, ?_⟩
                  · simp [results, Try.results32, go_sem, hz187_15_0, hz187_15_1, hz187_15_2, hz187_15_3, hz187_15_4, hz187_15_5, hz187_15_6, hf187_15_0, hf187_15_1, hf187_15_2, hf187_15_3, hf187_15_4, hf187_15_5, hf187_15_6, hz188_15_0, hz188_15_1, hz188_15_2, hz188_15_3, hz188_15_4, hz188_15_5, hz188_15_6, hf188_15_0, hf188_15_1, hf188_15_2, hf188_15_3, hf188_15_4, hf188_15_5, hf188_15_6, hlwc15_187_0, hlwc15_188_0, cw24_187, fw24_187, cw24_188, fw24_188, hlw24_187_0, hlw24_188_0]
                  · exact (by repeat (first | (with_reducible first | exact HB_w24.out | exact Below.refl _ _ | apply below_alloc | apply pw_below_drewN | apply below_drew1) | refine below_set ?_ (by first | omega | (simp; omega) | simp)))
                · rw [if_neg c22] at H
                  have c22b0 : (a1_1 == (wrap64 ((l0.length : Int) - 1))) = false := beq_eq_false_iff_ne.mpr c22
                  have c22b1 : (a1_1 != (wrap64 ((l0.length : Int) - 1))) = true := bne_iff_ne.mpr c22
                  clear c22
                  simp only [Option.some.injEq, Prod.mk.injEq] at H
                  obtain ⟨rfl, rfl, rfl, rfl, rfl, rfl, rfl⟩ := H
                  have hlwc15_187_0 : w.heap.size < wc15.heap.size := (by omega)
                  have hlwc15_188_0 : w.heap.size + 1 < wc15.heap.size := (by omega)
                  try go_wp2
                  repeat (go_quiet (fail); try go_wp2)
                  refine bodyPost_ret ?_ rfl ⟨rfl, ?_⟩
                  · simp [results, Try.results32, go_sem, hz187_15_0, hz187_15_1, hz187_15_2, hz187_15_3, hz187_15_4, hz187_15_5, hz187_15_6, hf187_15_0, hf187_15_1, hf187_15_2, hf187_15_3, hf187_15_4, hf187_15_5, hf187_15_6, hz188_15_0, hz188_15_1, hz188_15_2, hz188_15_3, hz188_15_4, hz188_15_5, hz188_15_6, hf188_15_0, hf188_15_1, hf188_15_2, hf188_15_3, hf188_15_4, hf188_15_5, hf188_15_6, hlwc15_187_0, hlwc15_188_0]
                  · exact (by repeat (first | (with_reducible first | exact HB_15.out | exact Below.refl _ _ | apply below_alloc | apply pw_below_drewN | apply below_drew1) | refine below_set ?_ (by first | omega | (simp; omega) | simp)))

end Go.Proofs.Yteefdhgfcnjpoaa.PA
