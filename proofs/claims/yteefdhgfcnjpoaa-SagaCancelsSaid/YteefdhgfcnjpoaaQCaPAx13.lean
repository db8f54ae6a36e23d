-- printed by a program of this work (wip/tools/pr.py over the kit's print): the machine's side of SagaTries, SagaMoves, SagaStays, SagaOrder, SagaEnds, SagaTicks
import Derived.Test.YteefdhgfcnjpoaaQCaPAx0
import Derived.Test.YteefdhgfcnjpoaaQCaPAx7
import Derived.Test.YteefdhgfcnjpoaaQCaPAx9
import Derived.Test.YteefdhgfcnjpoaaQCaPAx11
import Derived.Test.YteefdhgfcnjpoaaQCaPAx12
namespace Go.Proofs.Yteefdhgfcnjpoaa.PA
open Go.RowKit Go.Proofs.YteefdhgfcnjpoaaW.PrintWords Go.Proofs.YteefdhgfcnjpoaaW.PrintLast Go.Proofs.YteefdhgfcnjpoaaW.PrintMore
attribute [local go_sem] max2_int min2_int max_two min_two max_three min_three max_four min_four   -- for this text's walks alone
set_option linter.unusedVariables false
set_option linter.unusedSimpArgs false

/-! ### drayageref14_Tell: function 19 -/
mutual
def drayageref14_Tell.j0 : Nat → List (S38) → Int → Bool → Int → Bool → Int → Int → Int → Bool → Int → Bool → Int → Option (Int × Int × Int × Bool × Int × Bool × Int × Int)
  | 0, _, _, _, _, _, _, _, _, _, _, _, _ => none
  | k + 1, x0, x2, x3, x4, x27, x387000, x387001, x387002, x387003, x387004, x387005, x387006 => if x27 = true then (some (0, 0, 0, false, 0, false, 0, 2)) else (if x387003 = true then (if x2 = x387001 then (drayageref14_Tell.j1 k x0 x4 (x3 != (x387000 == 2)) x387000 x387001 x387002 x387003 x387004 x387005 x387006) else (drayageref14_Tell.j1 k x0 x4 true x387000 x387001 x387002 x387003 x387004 x387005 x387006)) else (drayageref14_Tell.j1 k x0 x4 true x387000 x387001 x387002 x387003 x387004 x387005 x387006))
def drayageref14_Tell.j1 : Nat → List (S38) → Int → Bool → Int → Int → Int → Bool → Int → Bool → Int → Option (Int × Int × Int × Bool × Int × Bool × Int × Int)
  | 0, _, _, _, _, _, _, _, _, _, _ => none
  | k + 1, x0, x4, x44, x387000, x387001, x387002, x387003, x387004, x387005, x387006 => if x44 = true then (some (x387000, x387001, x387002, x387003, x387004, x387005, x387006, 0)) else (if 0 ≤ x387001 then (if x387001 < (x0.length : Int) then (if x387000 = 1 then (if x4 = 1 then (if x387005 = true then ((drayageref14_back.f k x0 x387001).bind fun bt391 => (some (bt391.1, bt391.2.1, bt391.2.2.1, bt391.2.2.2.1, bt391.2.2.2.2.1, bt391.2.2.2.2.2.1, bt391.2.2.2.2.2.2, 0))) else (if (wrap64 (x387001 + 1)) = (x0.length : Int) then (some (3, 0, 0, false, 0, false, 1, 0)) else (some (1, wrap64 (x387001 + 1), 0, false, 0, false, 0, 0)))) else (if x4 = 2 then ((drayageref14_back.f k x0 (wrap64 (x387001 - 1))).bind fun bt398 => (some (bt398.1, bt398.2.1, bt398.2.2.1, bt398.2.2.2.1, bt398.2.2.2.2.1, bt398.2.2.2.2.2.1, bt398.2.2.2.2.2.2, 0))) else (if x387005 = true then ((drayageref14_back.f k x0 x387001).bind fun bt405 => (some (bt405.1, bt405.2.1, bt405.2.2.1, bt405.2.2.2.1, bt405.2.2.2.2.1, bt405.2.2.2.2.2.1, bt405.2.2.2.2.2.2, 0))) else (if x387002 = ((rd_T38 x0 x387001).f1) then ((drayageref14_back.f k x0 x387001).bind fun bt412 => (some (bt412.1, bt412.2.1, bt412.2.2.1, bt412.2.2.2.1, bt412.2.2.2.2.1, bt412.2.2.2.2.2.1, bt412.2.2.2.2.2.2, 0))) else (some (x387000, x387001, x387002, false, 0, x387005, x387006, 0)))))) else (if x4 = 1 then ((drayageref14_back.f k x0 (wrap64 (x387001 - 1))).bind fun bt419 => (some (bt419.1, bt419.2.1, bt419.2.2.1, bt419.2.2.2.1, bt419.2.2.2.2.1, bt419.2.2.2.2.2.1, bt419.2.2.2.2.2.2, 0))) else (if x387002 = ((rd_T38 x0 x387001).f1) then (some (3, 0, 0, false, 0, false, 3, 0)) else (some (x387000, x387001, x387002, false, 0, x387005, x387006, 0))))) else (none)) else (none))
end
def drayageref14_Tell.f (k : Nat) (l0 : List (S38)) (a1_0 : Int) (a1_1 : Int) (a1_2 : Int) (a1_3 : Bool) (a1_4 : Int) (a1_5 : Bool) (a1_6 : Int) (a2 : Int) (a3 : Bool) (a4 : Int) : Option (Int × Int × Int × Bool × Int × Bool × Int × Int) := (drayageref14_Check.f k l0 a1_0 a1_1 a1_2 a1_3 a1_4 a1_5 a1_6).bind fun t388 => (if t388 = 0 then (if a4 < 1 then (drayageref14_Tell.j0 k l0 a2 a3 a4 true a1_0 a1_1 a1_2 a1_3 a1_4 a1_5 a1_6) else (drayageref14_Tell.j0 k l0 a2 a3 a4 (decide (a4 > 3)) a1_0 a1_1 a1_2 a1_3 a1_4 a1_5 a1_6)) else (some (0, 0, 0, false, 0, false, 0, t388)))

theorem size_drewN (w : World) (n : Nat) : (w.drewN n).heap.size = w.heap.size := (Eq.refl w.heap.size).trans (Eq.refl _)
theorem cell_alloc_drewN (w : World) (n : Nat) (c : Array Value) (t : TypeId) (i : Nat) : ((w.drewN n).alloc (.cells c t)).cell? ⟨w.heap.size, i, none⟩ = c[i]? := World.cell?_alloc_at _ _ _ _ rfl
theorem frozen_alloc_drewN (w : World) (n : Nat) (c : Array Value) (t : TypeId) (i : Nat) : ((w.drewN n).alloc (.cells c t)).frozen? ⟨w.heap.size, i, none⟩ = false := World.frozen?_alloc_at _ _ _ _ rfl
attribute [local go_sem] cell_alloc_lt2 cell_set_ne2
attribute [local go_sem] cell_alloc_drewN frozen_alloc_drewN
attribute [local go_sem ↓] size_drewN

/-! ### saga_Tick: function 20 -/
def saga_Tick.f (k : Nat) (l0 : List (S38)) (a1_0 : Int) (a1_1 : Int) (a1_2 : Int) (a1_3 : Bool) (a1_4 : Int) (a1_5 : Bool) (a1_6 : Int) : Option (Int × Int × Int × Bool × Int × Bool × Int × Int) := (saga_Check.f k l0 a1_0 a1_1 a1_2 a1_3 a1_4 a1_5 a1_6).bind fun t428 => (if t428 = 0 then (if a1_3 = true then (if a1_4 = 1 then ((saga_Tell.f k l0 a1_0 a1_1 a1_2 a1_3 a1_4 a1_5 a1_6 a1_1 (a1_0 == 2) 3).bind fun bt429 => (some (bt429.1, bt429.2.1, bt429.2.2.1, bt429.2.2.2.1, bt429.2.2.2.2.1, bt429.2.2.2.2.2.1, bt429.2.2.2.2.2.2.1, bt429.2.2.2.2.2.2.2))) else (some (a1_0, a1_1, a1_2, a1_3, wrap64 (a1_4 - 1), a1_5, a1_6, 0))) else (some (a1_0, a1_1, a1_2, a1_3, a1_4, a1_5, a1_6, 0))) else (some (0, 0, 0, false, 0, false, 0, t428)))

attribute [local go_sem] cell_alloc_lt2 cell_set_ne2
set_option maxHeartbeats 8000000 in
set_option maxRecDepth 100000 in
theorem saga_Tick.calls (k : Nat) (A0 : Option Addr) (c0 : Nat) (l0 : List (S38)) (a1_0 : Int) (a1_1 : Int) (a1_2 : Int) (a1_3 : Bool) (a1_4 : Int) (a1_5 : Bool) (a1_6 : Int) (r1 : Int) (r2 : Int) (r3 : Int) (r4 : Bool) (r5 : Int) (r6 : Bool) (r7 : Int) (r8 : Int) (w : World) (hr0 : Kd.C k38 w A0 l0.length l0) (hc0 : l0.length ≤ c0) (h : saga_Tick.f k l0 a1_0 a1_1 a1_2 a1_3 a1_4 a1_5 a1_6 = some (r1, r2, r3, r4, r5, r6, r7, r8)) :
    Calls Try.prog 20 #[.slice A0 l0.length c0, .agg #[.int .i64 a1_0, .int .i64 a1_1, .int .i64 a1_2, .bool a1_3, .int .i64 a1_4, .bool a1_5, .int .i64 a1_6]] w fun e w' => e = .returned (.tuple #[.agg #[.int .i64 r1, .int .i64 r2, .int .i64 r3, .bool r4, .int .i64 r5, .bool r6, .int .i64 r7], .int .i64 r8]) ∧ Below w.heap.size w w' := by
  have hu28 := Try.underlying28
  have HR0 := Aside0.mk hr0
  have HC0 := Aside0.mk hc0
  clear hr0 hc0
  have HB := Aside0.mk (Below.refl w.heap.size w)
  have H := h
  clear h
  unfold saga_Tick.f at H
  obtain ⟨t428, A_, H⟩ := Option.bind_eq_some_iff.mp H
  try dsimp only at H
  have A2 := Aside0.mk A_
  clear A_
  by_cases c3 : t428 = 0
  · rw [if_pos c3] at H
    have c3b0 : (t428 == 0) = true := beq_iff_eq.mpr c3
    have c3b1 : (t428 != 0) = false := bne_eq_false_iff_eq.mpr c3
    clear c3
    by_cases c4 : a1_3 = true
    · subst c4
      rw [if_pos rfl] at H
      by_cases c5 : a1_4 = 1
      · rw [if_pos c5] at H
        have c5b0 : (a1_4 == 1) = true := beq_iff_eq.mpr c5
        have c5b1 : (a1_4 != 1) = false := bne_eq_false_iff_eq.mpr c5
        clear c5
        obtain ⟨⟨t429, t430, t431, t432, t433, t434, t435, t436⟩, A_, H⟩ := Option.bind_eq_some_iff.mp H
        try dsimp only at H
        have A6 := Aside0.mk A_
        clear A_
        simp only [Option.some.injEq, Prod.mk.injEq] at H
        obtain ⟨rfl, rfl, rfl, rfl, rfl, rfl, rfl, rfl⟩ := H
        go_enter Try.func20, Try.ntmps20
        go_wp2_with (first | ((with_reducible refine gate_callee (f := 24) rfl ?_); refine goesL_ (some 9) rfl rfl Try.func24 (by kernel_rfl) rfl #[.slice A0 l0.length c0, .agg #[.int .i64 a1_0, .int .i64 a1_1, .int .i64 a1_2, .bool true, .int .i64 a1_4, .bool a1_5, .int .i64 a1_6]] rfl (by (try simp only [List.map_toArray, List.map_cons, List.map_nil]); first | done | rfl | (simp only [List.length_drop, List.length_take]; rfl)) ?_; (with_reducible refine (saga_Check.calls k _ _ l0 a1_0 a1_1 a1_2 true a1_4 a1_5 a1_6 t428 _ ?sd0 HC0.out A2.out).mono ?_); (case sd0 => exact Kd.C_below HR0.out (by repeat (first | (with_reducible first | exact Below.refl _ _ | apply below_alloc | apply pw_below_drewN | apply below_drew1) | refine below_set ?_ (by first | omega | (simp; omega) | simp)))); rintro e w7 ⟨rfl, hb⟩; refine ⟨_, rfl, ?_⟩; have hsw7 : w.heap.size + 2 ≤ w7.heap.size := (by have h_ := hb.size; simpa using h_); have HB_w7 : Aside0 (Below w.heap.size w w7) := Aside0.mk (below_step (by repeat (first | (with_reducible first | exact Below.refl _ _ | apply below_alloc | apply pw_below_drewN | apply below_drew1) | refine below_set ?_ (by first | omega | (simp; omega) | simp))) hb); have cw7_426 := fun o_ : Nat => hb.cell (p := ⟨w.heap.size, o_, none⟩) (by first | omega | (simp; done) | (simp; omega)); have fw7_426 := fun o_ : Nat => hb.frozen (p := ⟨w.heap.size, o_, none⟩) (by first | omega | (simp; done) | (simp; omega)); have cw7_427 := fun o_ : Nat => hb.cell (p := ⟨w.heap.size + 1, o_, none⟩) (by first | omega | (simp; done) | (simp; omega)); have fw7_427 := fun o_ : Nat => hb.frozen (p := ⟨w.heap.size + 1, o_, none⟩) (by first | omega | (simp; done) | (simp; omega)); clear hb; have hlw7_426_0 : w.heap.size < w7.heap.size := (by omega); have hlw7_427_0 : w.heap.size + 1 < w7.heap.size := (by omega)) | ((with_reducible refine gate_callee (f := 15) rfl ?_); refine goesL_ (some 31) rfl rfl Try.func15 (by kernel_rfl) rfl #[.slice A0 l0.length c0, .agg #[.int .i64 a1_0, .int .i64 a1_1, .int .i64 a1_2, .bool true, .int .i64 a1_4, .bool a1_5, .int .i64 a1_6], .int .i64 a1_1, .bool (a1_0 == 2), .int .i64 3] rfl (by (try simp only [List.map_toArray, List.map_cons, List.map_nil]); first | done | rfl | (simp only [List.length_drop, List.length_take]; rfl)) ?_; (with_reducible refine (saga_Tell.calls k _ _ l0 a1_0 a1_1 a1_2 true a1_4 a1_5 a1_6 a1_1 (a1_0 == 2) 3 t429 t430 t431 t432 t433 t434 t435 t436 _ ?sd0 HC0.out A6.out).mono ?_); (case sd0 => exact Kd.C_below HR0.out (by repeat (first | (with_reducible first | exact HB_w7.out | exact Below.refl _ _ | apply below_alloc | apply pw_below_drewN | apply below_drew1) | refine below_set ?_ (by first | omega | (simp; omega) | simp)))); rintro e w8 ⟨rfl, hb⟩; refine ⟨_, rfl, ?_⟩; have hsw8 : w7.heap.size ≤ w8.heap.size := (by have h_ := hb.size; simpa using h_); have HB_w8 : Aside0 (Below w.heap.size w w8) := Aside0.mk (below_step (by repeat (first | (with_reducible first | exact HB_w7.out | exact Below.refl _ _ | apply below_alloc | apply pw_below_drewN | apply below_drew1) | refine below_set ?_ (by first | omega | (simp; omega) | simp))) hb); have cw8_426 := fun o_ : Nat => hb.cell (p := ⟨w.heap.size, o_, none⟩) (by first | omega | (simp; done) | (simp; omega)); have fw8_426 := fun o_ : Nat => hb.frozen (p := ⟨w.heap.size, o_, none⟩) (by first | omega | (simp; done) | (simp; omega)); have cw8_427 := fun o_ : Nat => hb.cell (p := ⟨w.heap.size + 1, o_, none⟩) (by first | omega | (simp; done) | (simp; omega)); have fw8_427 := fun o_ : Nat => hb.frozen (p := ⟨w.heap.size + 1, o_, none⟩) (by first | omega | (simp; done) | (simp; omega)); clear hb; have hlw8_426_0 : w.heap.size < w8.heap.size := (by omega); have hlw8_427_0 : w.heap.size + 1 < w8.heap.size := (by omega)))
        refine bodyPost_ret ?_ rfl ⟨rfl, ?_⟩
        · simp [results, Try.results20, go_sem, cw7_426, fw7_426, cw7_427, fw7_427, hlw7_426_0, hlw7_427_0, cw8_426, fw8_426, cw8_427, fw8_427, hlw8_426_0, hlw8_427_0]
        · exact (by repeat (first | (with_reducible first | exact HB_w8.out | exact Below.refl _ _ | apply below_alloc | apply pw_below_drewN | apply below_drew1) | refine below_set ?_ (by first | omega | (simp; omega) | simp)))
      · rw [if_neg c5] at H
        have c5b0 : (a1_4 == 1) = false := beq_eq_false_iff_ne.mpr c5
        have c5b1 : (a1_4 != 1) = true := bne_iff_ne.mpr c5
        clear c5
        simp only [Option.some.injEq, Prod.mk.injEq] at H
        obtain ⟨rfl, rfl, rfl, rfl, rfl, rfl, rfl, rfl⟩ := H
        go_enter Try.func20, Try.ntmps20
        go_wp2_with (first | ((with_reducible refine gate_callee (f := 24) rfl ?_); refine goesL_ (some 9) rfl rfl Try.func24 (by kernel_rfl) rfl #[.slice A0 l0.length c0, .agg #[.int .i64 a1_0, .int .i64 a1_1, .int .i64 a1_2, .bool true, .int .i64 a1_4, .bool a1_5, .int .i64 a1_6]] rfl (by (try simp only [List.map_toArray, List.map_cons, List.map_nil]); first | done | rfl | (simp only [List.length_drop, List.length_take]; rfl)) ?_; (with_reducible refine (saga_Check.calls k _ _ l0 a1_0 a1_1 a1_2 true a1_4 a1_5 a1_6 t428 _ ?sd0 HC0.out A2.out).mono ?_); (case sd0 => exact Kd.C_below HR0.out (by repeat (first | (with_reducible first | exact Below.refl _ _ | apply below_alloc | apply pw_below_drewN | apply below_drew1) | refine below_set ?_ (by first | omega | (simp; omega) | simp)))); rintro e w9 ⟨rfl, hb⟩; refine ⟨_, rfl, ?_⟩; have hsw9 : w.heap.size + 2 ≤ w9.heap.size := (by have h_ := hb.size; simpa using h_); have HB_w9 : Aside0 (Below w.heap.size w w9) := Aside0.mk (below_step (by repeat (first | (with_reducible first | exact Below.refl _ _ | apply below_alloc | apply pw_below_drewN | apply below_drew1) | refine below_set ?_ (by first | omega | (simp; omega) | simp))) hb); have cw9_426 := fun o_ : Nat => hb.cell (p := ⟨w.heap.size, o_, none⟩) (by first | omega | (simp; done) | (simp; omega)); have fw9_426 := fun o_ : Nat => hb.frozen (p := ⟨w.heap.size, o_, none⟩) (by first | omega | (simp; done) | (simp; omega)); have cw9_427 := fun o_ : Nat => hb.cell (p := ⟨w.heap.size + 1, o_, none⟩) (by first | omega | (simp; done) | (simp; omega)); have fw9_427 := fun o_ : Nat => hb.frozen (p := ⟨w.heap.size + 1, o_, none⟩) (by first | omega | (simp; done) | (simp; omega)); clear hb; have hlw9_426_0 : w.heap.size < w9.heap.size := (by omega); have hlw9_427_0 : w.heap.size + 1 < w9.heap.size := (by omega)))
        refine bodyPost_ret ?_ rfl ⟨rfl, ?_⟩
        · simp [results, Try.results20, go_sem, cw9_426, fw9_426, cw9_427, fw9_427, hlw9_426_0, hlw9_427_0]
        · exact (by repeat (first | (with_reducible first | exact HB_w9.out | exact Below.refl _ _ | apply below_alloc | apply pw_below_drewN | apply below_drew1) | refine below_set ?_ (by first | omega | (simp; omega) | simp)))
    · replace c4 := Bool.eq_false_iff.mpr c4; subst c4
      rw [if_neg (by decide)] at H
      simp only [Option.some.injEq, Prod.mk.injEq] at H
      obtain ⟨rfl, rfl, rfl, rfl, rfl, rfl, rfl, rfl⟩ := H
      go_enter Try.func20, Try.ntmps20
      go_wp2_with (first | ((with_reducible refine gate_callee (f := 24) rfl ?_); refine goesL_ (some 9) rfl rfl Try.func24 (by kernel_rfl) rfl #[.slice A0 l0.length c0, .agg #[.int .i64 a1_0, .int .i64 a1_1, .int .i64 a1_2, .bool false, .int .i64 a1_4, .bool a1_5, .int .i64 a1_6]] rfl (by (try simp only [List.map_toArray, List.map_cons, List.map_nil]); first | done | rfl | (simp only [List.length_drop, List.length_take]; rfl)) ?_; (with_reducible refine (saga_Check.calls k _ _ l0 a1_0 a1_1 a1_2 false a1_4 a1_5 a1_6 t428 _ ?sd0 HC0.out A2.out).mono ?_); (case sd0 => exact Kd.C_below HR0.out (by repeat (first | (with_reducible first | exact Below.refl _ _ | apply below_alloc | apply pw_below_drewN | apply below_drew1) | refine below_set ?_ (by first | omega | (simp; omega) | simp)))); rintro e w10 ⟨rfl, hb⟩; refine ⟨_, rfl, ?_⟩; have hsw10 : w.heap.size + 2 ≤ w10.heap.size := (by have h_ := hb.size; simpa using h_); have HB_w10 : Aside0 (Below w.heap.size w w10) := Aside0.mk (below_step (by repeat (first | (with_reducible first | exact Below.refl _ _ | apply below_alloc | apply pw_below_drewN | apply below_drew1) | refine below_set ?_ (by first | omega | (simp; omega) | simp))) hb); have cw10_426 := fun o_ : Nat => hb.cell (p := ⟨w.heap.size, o_, none⟩) (by first | omega | (simp; done) | (simp; omega)); have fw10_426 := fun o_ : Nat => hb.frozen (p := ⟨w.heap.size, o_, none⟩) (by first | omega | (simp; done) | (simp; omega)); have cw10_427 := fun o_ : Nat => hb.cell (p := ⟨w.heap.size + 1, o_, none⟩) (by first | omega | (simp; done) | (simp; omega)); have fw10_427 := fun o_ : Nat => hb.frozen (p := ⟨w.heap.size + 1, o_, none⟩) (by first | omega | (simp; done) | (simp; omega)); clear hb; have hlw10_426_0 : w.heap.size < w10.heap.size := (by omega); have hlw10_427_0 : w.heap.size + 1 < w10.heap.size := (by omega)))
      refine bodyPost_ret ?_ rfl ⟨rfl, ?_⟩
      · simp [results, Try.results20, go_sem, cw10_426, fw10_426, cw10_427, fw10_427, hlw10_426_0, hlw10_427_0]
      · exact (by repeat (first | (with_reducible first | exact HB_w10.out | exact Below.refl _ _ | apply below_alloc | apply pw_below_drewN | apply below_drew1) | refine below_set ?_ (by first | omega | (simp; omega) | simp)))
  · rw [if_neg c3] at H
    have c3b0 : (t428 == 0) = false := beq_eq_false_iff_ne.mpr c3
    have c3b1 : (t428 != 0) = true := bne_iff_ne.mpr c3
    clear c3
    simp only [Option.some.injEq, Prod.mk.injEq] at H
    obtain ⟨rfl, rfl, rfl, rfl, rfl, rfl, rfl, rfl⟩ := H
    go_enter Try.func20, Try.ntmps20
    go_wp2_with (first | ((with_reducible refine gate_callee (f := 24) rfl ?_); refine goesL_ (some 9) rfl rfl Try.func24 (by kernel_rfl) rfl #[.slice A0 l0.length c0, .agg #[.int .i64 a1_0, .int .i64 a1_1, .int .i64 a1_2, .bool a1_3, .int .i64 a1_4, .bool a1_5, .int .i64 a1_6]] rfl (by (try simp only [List.map_toArray, List.map_cons, List.map_nil]); first | done | rfl | (simp only [List.length_drop, List.length_take]; rfl)) ?_; (with_reducible refine (saga_Check.calls k _ _ l0 a1_0 a1_1 a1_2 a1_3 a1_4 a1_5 a1_6 t428 _ ?sd0 HC0.out A2.out).mono ?_); (case sd0 => exact Kd.C_below HR0.out (by repeat (first | (with_reducible first | exact Below.refl _ _ | apply below_alloc | apply pw_below_drewN | apply below_drew1) | refine below_set ?_ (by first | omega | (simp; omega) | simp)))); rintro e w11 ⟨rfl, hb⟩; refine ⟨_, rfl, ?_⟩; have hsw11 : w.heap.size + 2 ≤ w11.heap.size := (by have h_ := hb.size; simpa using h_); have HB_w11 : Aside0 (Below w.heap.size w w11) := Aside0.mk (below_step (by repeat (first | (with_reducible first | exact Below.refl _ _ | apply below_alloc | apply pw_below_drewN | apply below_drew1) | refine below_set ?_ (by first | omega | (simp; omega) | simp))) hb); have cw11_426 := fun o_ : Nat => hb.cell (p := ⟨w.heap.size, o_, none⟩) (by first | omega | (simp; done) | (simp; omega)); have fw11_426 := fun o_ : Nat => hb.frozen (p := ⟨w.heap.size, o_, none⟩) (by first | omega | (simp; done) | (simp; omega)); have cw11_427 := fun o_ : Nat => hb.cell (p := ⟨w.heap.size + 1, o_, none⟩) (by first | omega | (simp; done) | (simp; omega)); have fw11_427 := fun o_ : Nat => hb.frozen (p := ⟨w.heap.size + 1, o_, none⟩) (by first | omega | (simp; done) | (simp; omega)); clear hb; have hlw11_426_0 : w.heap.size < w11.heap.size := (by omega); have hlw11_427_0 : w.heap.size + 1 < w11.heap.size := (by omega)))
    refine bodyPost_ret ?_ rfl ⟨rfl, ?_⟩
    · simp [results, Try.results20, go_sem, cw11_426, fw11_426, cw11_427, fw11_427, hlw11_426_0, hlw11_427_0]
    · exact (by repeat (first | (with_reducible first | exact HB_w11.out | exact Below.refl _ _ | apply below_alloc | apply pw_below_drewN | apply below_drew1) | refine below_set ?_ (by first | omega | (simp; omega) | simp)))

/-! ### drayageref14_Tick: function 21 -/
def drayageref14_Tick.f (k : Nat) (l0 : List (S38)) (a1_0 : Int) (a1_1 : Int) (a1_2 : Int) (a1_3 : Bool) (a1_4 : Int) (a1_5 : Bool) (a1_6 : Int) : Option (Int × Int × Int × Bool × Int × Bool × Int × Int) := (drayageref14_Check.f k l0 a1_0 a1_1 a1_2 a1_3 a1_4 a1_5 a1_6).bind fun t439 => (if t439 = 0 then (if a1_3 = true then (if a1_4 = 1 then ((drayageref14_Tell.f k l0 a1_0 a1_1 a1_2 a1_3 a1_4 a1_5 a1_6 a1_1 (a1_0 == 2) 3).bind fun bt440 => (some (bt440.1, bt440.2.1, bt440.2.2.1, bt440.2.2.2.1, bt440.2.2.2.2.1, bt440.2.2.2.2.2.1, bt440.2.2.2.2.2.2.1, bt440.2.2.2.2.2.2.2))) else (some (a1_0, a1_1, a1_2, a1_3, wrap64 (a1_4 - 1), a1_5, a1_6, 0))) else (some (a1_0, a1_1, a1_2, a1_3, a1_4, a1_5, a1_6, 0))) else (some (0, 0, 0, false, 0, false, 0, t439)))

attribute [local go_sem] cell_alloc_lt2 cell_set_ne2

end Go.Proofs.Yteefdhgfcnjpoaa.PA
