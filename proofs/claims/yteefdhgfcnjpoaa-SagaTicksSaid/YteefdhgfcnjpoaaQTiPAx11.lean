-- printed by a program of this work (wip/tools/pr.py over the kit's print): the machine's side of SagaTries, SagaMoves, SagaStays, SagaOrder, SagaEnds, SagaTicks
import Derived.Test.YteefdhgfcnjpoaaQTiPAx0
import Derived.Test.YteefdhgfcnjpoaaQTiPAx5
namespace Go.Proofs.Yteefdhgfcnjpoaa.PA
open Go.RowKit Go.Proofs.YteefdhgfcnjpoaaW.PrintWords Go.Proofs.YteefdhgfcnjpoaaW.PrintLast Go.Proofs.YteefdhgfcnjpoaaW.PrintMore
attribute [local go_sem] max2_int min2_int max_two min_two max_three min_three max_four min_four   -- for this text's walks alone
set_option linter.unusedVariables false
set_option linter.unusedSimpArgs false

/-! ### drayageref14_Check: function 25 -/
mutual
def drayageref14_Check.j0 : Nat → List (S38) → Bool → Int → Int → Int → Bool → Int → Bool → Int → Option (Int)
  | 0, _, _, _, _, _, _, _, _, _ => none
  | k + 1, x0, x48, x372000, x372001, x372002, x372003, x372004, x372005, x372006 => if x48 = true then (if x372001 < 0 then (drayageref14_Check.j1 k x0 true x372000 x372001 x372002 x372003 x372004 x372005 x372006) else (if x372001 ≥ (x0.length : Int) then (drayageref14_Check.j1 k x0 true x372000 x372001 x372002 x372003 x372004 x372005 x372006) else (if x372006 = 0 then (if x372002 < 0 then (drayageref14_Check.j1 k x0 true x372000 x372001 x372002 x372003 x372004 x372005 x372006) else (if 0 ≤ x372001 then (if x372001 < (x0.length : Int) then (drayageref14_Check.j1 k x0 (decide (x372002 > ((rd_T38 x0 x372001).f1))) x372000 x372001 x372002 x372003 x372004 x372005 x372006) else (none)) else (none))) else (drayageref14_Check.j1 k x0 true x372000 x372001 x372002 x372003 x372004 x372005 x372006)))) else (some 140)
def drayageref14_Check.j1 : Nat → List (S38) → Bool → Int → Int → Int → Bool → Int → Bool → Int → Option (Int)
  | 0, _, _, _, _, _, _, _, _, _ => none
  | k + 1, x0, x81, x372000, x372001, x372002, x372003, x372004, x372005, x372006 => if x81 = true then (some 140) else (if x372000 = 2 then (if x372005 = true then (drayageref14_Check.j2 k x0 true x372000 x372001 x372002 x372003 x372004 x372005 x372006) else (if 0 ≤ x372001 then (if x372001 < (x0.length : Int) then (drayageref14_Check.j2 k x0 (!((rd_T38 x0 x372001).f3)) x372000 x372001 x372002 x372003 x372004 x372005 x372006) else (none)) else (none))) else (drayageref14_Check.j2 k x0 false x372000 x372001 x372002 x372003 x372004 x372005 x372006))
def drayageref14_Check.j2 : Nat → List (S38) → Bool → Int → Int → Int → Bool → Int → Bool → Int → Option (Int)
  | 0, _, _, _, _, _, _, _, _, _ => none
  | k + 1, x0, x97, x372000, x372001, x372002, x372003, x372004, x372005, x372006 => if x97 = true then (some 140) else (if x372003 = true then (if x372002 = 0 then (drayageref14_Check.j3 k x0 true x372000 x372001 x372002 x372003 x372004 x372005 x372006) else (if x372004 < 1 then (drayageref14_Check.j3 k x0 true x372000 x372001 x372002 x372003 x372004 x372005 x372006) else (if 0 ≤ x372001 then (if x372001 < (x0.length : Int) then (drayageref14_Check.j3 k x0 (decide (x372004 > ((rd_T38 x0 x372001).f2))) x372000 x372001 x372002 x372003 x372004 x372005 x372006) else (none)) else (none)))) else (drayageref14_Check.j3 k x0 false x372000 x372001 x372002 x372003 x372004 x372005 x372006))
def drayageref14_Check.j3 : Nat → List (S38) → Bool → Int → Int → Int → Bool → Int → Bool → Int → Option (Int)
  | 0, _, _, _, _, _, _, _, _, _ => none
  | k + 1, x0, x120, x372000, x372001, x372002, x372003, x372004, x372005, x372006 => if x120 = true then (some 140) else (if x372003 = true then (some 0) else (if x372004 = 0 then (if 0 ≤ x372001 then (if x372001 < (x0.length : Int) then (if x372002 = ((rd_T38 x0 x372001).f1) then (some 140) else (some 0)) else (none)) else (none)) else (some 140)))
end
def drayageref14_Check.f (k : Nat) (l0 : List (S38)) (a1_0 : Int) (a1_1 : Int) (a1_2 : Int) (a1_3 : Bool) (a1_4 : Int) (a1_5 : Bool) (a1_6 : Int) : Option (Int) := (drayageref13_Check.f k l0).bind fun t372 => (if t372 = 0 then (if a1_0 = 3 then (if a1_6 ≥ 1 then (if a1_6 ≤ 3 then (if a1_1 = 0 then (if a1_2 = 0 then (if a1_3 = true then (some 140) else (if a1_4 = 0 then (if a1_5 = true then (some 140) else (some 0)) else (some 140))) else (some 140)) else (some 140)) else (some 140)) else (some 140)) else (if a1_0 = 1 then (drayageref14_Check.j0 k l0 (a1_0 == 1) a1_0 a1_1 a1_2 a1_3 a1_4 a1_5 a1_6) else (drayageref14_Check.j0 k l0 (a1_0 == 2) a1_0 a1_1 a1_2 a1_3 a1_4 a1_5 a1_6))) else (some t372))
theorem drayageref14_Check.mono_l : ∀ k, (∀ y0 y1 y2 y3 y4 y5 y6 y7 y8, LeO (drayageref14_Check.j0 k y0 y1 y2 y3 y4 y5 y6 y7 y8) (drayageref14_Check.j0 (k + 1) y0 y1 y2 y3 y4 y5 y6 y7 y8)) ∧ (∀ y0 y1 y2 y3 y4 y5 y6 y7 y8, LeO (drayageref14_Check.j1 k y0 y1 y2 y3 y4 y5 y6 y7 y8) (drayageref14_Check.j1 (k + 1) y0 y1 y2 y3 y4 y5 y6 y7 y8)) ∧ (∀ y0 y1 y2 y3 y4 y5 y6 y7 y8, LeO (drayageref14_Check.j2 k y0 y1 y2 y3 y4 y5 y6 y7 y8) (drayageref14_Check.j2 (k + 1) y0 y1 y2 y3 y4 y5 y6 y7 y8)) ∧ (∀ y0 y1 y2 y3 y4 y5 y6 y7 y8, LeO (drayageref14_Check.j3 k y0 y1 y2 y3 y4 y5 y6 y7 y8) (drayageref14_Check.j3 (k + 1) y0 y1 y2 y3 y4 y5 y6 y7 y8))
  | 0 => ⟨fun _ _ _ _ _ _ _ _ _ r h => by simp [drayageref14_Check.j0] at h, fun _ _ _ _ _ _ _ _ _ r h => by simp [drayageref14_Check.j1] at h, fun _ _ _ _ _ _ _ _ _ r h => by simp [drayageref14_Check.j2] at h, fun _ _ _ _ _ _ _ _ _ r h => by simp [drayageref14_Check.j3] at h⟩
  | k + 1 => by
    obtain ⟨ih0, ih1, ih2, ih3⟩ := drayageref14_Check.mono_l k
    refine ⟨?_, ?_, ?_, ?_⟩
    · intro y0 y1 y2 y3 y4 y5 y6 y7 y8
      unfold drayageref14_Check.j0
      repeat' first
      | (with_reducible exact ih0 _ _ _ _ _ _ _ _ _)
      | (with_reducible exact ih1 _ _ _ _ _ _ _ _ _)
      | (with_reducible exact ih2 _ _ _ _ _ _ _ _ _)
      | (with_reducible exact ih3 _ _ _ _ _ _ _ _ _)
      | (with_reducible exact drayageref13_Check.mono _ _)
      | (with_reducible exact LeO.refl _)
      | (with_reducible exact LeO.none _)
      | (with_reducible refine LeO.ite ?_ ?_)
      | (with_reducible refine LeO.bind ?_ (fun _ => ?_))
      | exact ih0 _ _ _ _ _ _ _ _ _
      | exact ih1 _ _ _ _ _ _ _ _ _
      | exact ih2 _ _ _ _ _ _ _ _ _
      | exact ih3 _ _ _ _ _ _ _ _ _
      | exact drayageref13_Check.mono _ _
      | exact LeO.none _
      | refine LeO.ite ?_ ?_
      | refine LeO.bind ?_ (fun _ => ?_)
    · intro y0 y1 y2 y3 y4 y5 y6 y7 y8
      unfold drayageref14_Check.j1
      repeat' first
      | (with_reducible exact ih0 _ _ _ _ _ _ _ _ _)
      | (with_reducible exact ih1 _ _ _ _ _ _ _ _ _)
      | (with_reducible exact ih2 _ _ _ _ _ _ _ _ _)
      | (with_reducible exact ih3 _ _ _ _ _ _ _ _ _)
      | (with_reducible exact drayageref13_Check.mono _ _)
      | (with_reducible exact LeO.refl _)
      | (with_reducible exact LeO.none _)
      | (with_reducible refine LeO.ite ?_ ?_)
      | (with_reducible refine LeO.bind ?_ (fun _ => ?_))
      | exact ih0 _ _ _ _ _ _ _ _ _
      | exact ih1 _ _ _ _ _ _ _ _ _
      | exact ih2 _ _ _ _ _ _ _ _ _
      | exact ih3 _ _ _ _ _ _ _ _ _
      | exact drayageref13_Check.mono _ _
      | exact LeO.none _
      | refine LeO.ite ?_ ?_
      | refine LeO.bind ?_ (fun _ => ?_)
    · intro y0 y1 y2 y3 y4 y5 y6 y7 y8
      unfold drayageref14_Check.j2
      repeat' first
      | (with_reducible exact ih0 _ _ _ _ _ _ _ _ _)
      | (with_reducible exact ih1 _ _ _ _ _ _ _ _ _)
      | (with_reducible exact ih2 _ _ _ _ _ _ _ _ _)
      | (with_reducible exact ih3 _ _ _ _ _ _ _ _ _)
      | (with_reducible exact drayageref13_Check.mono _ _)
      | (with_reducible exact LeO.refl _)
      | (with_reducible exact LeO.none _)
      | (with_reducible refine LeO.ite ?_ ?_)
      | (with_reducible refine LeO.bind ?_ (fun _ => ?_))
      | exact ih0 _ _ _ _ _ _ _ _ _
      | exact ih1 _ _ _ _ _ _ _ _ _
      | exact ih2 _ _ _ _ _ _ _ _ _
      | exact ih3 _ _ _ _ _ _ _ _ _
      | exact drayageref13_Check.mono _ _
      | exact LeO.none _
      | refine LeO.ite ?_ ?_
      | refine LeO.bind ?_ (fun _ => ?_)
    · intro y0 y1 y2 y3 y4 y5 y6 y7 y8
      unfold drayageref14_Check.j3
      repeat' first
      | (with_reducible exact ih0 _ _ _ _ _ _ _ _ _)
      | (with_reducible exact ih1 _ _ _ _ _ _ _ _ _)
      | (with_reducible exact ih2 _ _ _ _ _ _ _ _ _)
      | (with_reducible exact ih3 _ _ _ _ _ _ _ _ _)
      | (with_reducible exact drayageref13_Check.mono _ _)
      | (with_reducible exact LeO.refl _)
      | (with_reducible exact LeO.none _)
      | (with_reducible refine LeO.ite ?_ ?_)
      | (with_reducible refine LeO.bind ?_ (fun _ => ?_))
      | exact ih0 _ _ _ _ _ _ _ _ _
      | exact ih1 _ _ _ _ _ _ _ _ _
      | exact ih2 _ _ _ _ _ _ _ _ _
      | exact ih3 _ _ _ _ _ _ _ _ _
      | exact drayageref13_Check.mono _ _
      | exact LeO.none _
      | refine LeO.ite ?_ ?_
      | refine LeO.bind ?_ (fun _ => ?_)
theorem drayageref14_Check.mono : ∀ a0 a1 a2 a3 a4 a5 a6 a7 k, LeO (drayageref14_Check.f k a0 a1 a2 a3 a4 a5 a6 a7) (drayageref14_Check.f (k + 1) a0 a1 a2 a3 a4 a5 a6 a7) := by
  intro a0 a1 a2 a3 a4 a5 a6 a7 k
  obtain ⟨ih0, ih1, ih2, ih3⟩ := drayageref14_Check.mono_l k
  unfold drayageref14_Check.f
  repeat' first
      | (with_reducible exact ih0 _ _ _ _ _ _ _ _ _)
      | (with_reducible exact ih1 _ _ _ _ _ _ _ _ _)
      | (with_reducible exact ih2 _ _ _ _ _ _ _ _ _)
      | (with_reducible exact ih3 _ _ _ _ _ _ _ _ _)
      | (with_reducible exact drayageref13_Check.mono _ _)
      | (with_reducible exact LeO.refl _)
      | (with_reducible exact LeO.none _)
      | (with_reducible refine LeO.ite ?_ ?_)
      | (with_reducible refine LeO.bind ?_ (fun _ => ?_))
      | exact ih0 _ _ _ _ _ _ _ _ _
      | exact ih1 _ _ _ _ _ _ _ _ _
      | exact ih2 _ _ _ _ _ _ _ _ _
      | exact ih3 _ _ _ _ _ _ _ _ _
      | exact drayageref13_Check.mono _ _
      | exact LeO.none _
      | refine LeO.ite ?_ ?_
      | refine LeO.bind ?_ (fun _ => ?_)
attribute [local go_sem] cell_alloc_lt2 cell_set_ne2
set_option maxHeartbeats 8000000 in
set_option maxRecDepth 100000 in
theorem drayageref14_Check.calls (k : Nat) (A0 : Option Addr) (c0 : Nat) (l0 : List (S38)) (a1_0 : Int) (a1_1 : Int) (a1_2 : Int) (a1_3 : Bool) (a1_4 : Int) (a1_5 : Bool) (a1_6 : Int) (r : Int) (w : World) (hr0 : Kd.C k38 w A0 l0.length l0) (hc0 : l0.length ≤ c0) (h : drayageref14_Check.f k l0 a1_0 a1_1 a1_2 a1_3 a1_4 a1_5 a1_6 = some r) :
    Calls Try.prog 25 #[.slice A0 l0.length c0, .agg #[.int .i64 a1_0, .int .i64 a1_1, .int .i64 a1_2, .bool a1_3, .int .i64 a1_4, .bool a1_5, .int .i64 a1_6]] w fun e w' => e = .returned (.int .i64 r) ∧ Below w.heap.size w w' := by
  have hu28 := Try.underlying28
  have HR0 := Aside0.mk hr0
  have HC0 := Aside0.mk hc0
  clear hr0 hc0
  have HB := Aside0.mk (Below.refl w.heap.size w)
  have H := h
  clear h
  unfold drayageref14_Check.f at H
  obtain ⟨t372, A_, H⟩ := Option.bind_eq_some_iff.mp H
  try dsimp only at H
  have A2 := Aside0.mk A_
  clear A_
  by_cases c3 : t372 = 0
  · rw [if_pos c3] at H
    have c3b0 : (t372 == 0) = true := beq_iff_eq.mpr c3
    have c3b1 : (t372 != 0) = false := bne_eq_false_iff_eq.mpr c3
    clear c3
    by_cases c4 : a1_0 = 3
    · rw [if_pos c4] at H
      have c4b0 : (a1_0 == 3) = true := beq_iff_eq.mpr c4
      have c4b1 : (a1_0 != 3) = false := bne_eq_false_iff_eq.mpr c4
      clear c4
      by_cases c5 : a1_6 ≥ 1
      · rw [if_pos c5] at H
        have c5b0 : decide (1 ≤ a1_6) = true := decide_eq_true c5
        clear c5
        by_cases c6 : a1_6 ≤ 3
        · rw [if_pos c6] at H
          have c6b0 : decide (a1_6 ≤ 3) = true := decide_eq_true c6
          clear c6
          by_cases c7 : a1_1 = 0
          · rw [if_pos c7] at H
            have c7b0 : (a1_1 == 0) = true := beq_iff_eq.mpr c7
            have c7b1 : (a1_1 != 0) = false := bne_eq_false_iff_eq.mpr c7
            clear c7
            by_cases c8 : a1_2 = 0
            · rw [if_pos c8] at H
              have c8b0 : (a1_2 == 0) = true := beq_iff_eq.mpr c8
              have c8b1 : (a1_2 != 0) = false := bne_eq_false_iff_eq.mpr c8
              clear c8
              by_cases c9 : a1_3 = true
              · subst c9
                rw [if_pos rfl] at H
                obtain rfl := Option.some.inj H
                go_enter Try.func25, Try.ntmps25
                try go_wp2_with (first | (go_at_call 11; (with_reducible refine (drayageref13_Check.calls k _ _ l0 t372 _ ?sd0 HC0.out A2.out).mono ?_); (case sd0 => exact Kd.C_below HR0.out (by repeat (first | (with_reducible first | exact Below.refl _ _ | apply below_alloc | apply pw_below_drewN | apply below_drew1) | refine below_set ?_ (by first | omega | (simp; omega) | simp)))); rintro e w10 ⟨rfl, hb⟩; have hsw10 : w.heap.size + 1 ≤ w10.heap.size := (by have h_ := hb.size; simpa using h_); have HB_w10 : Aside0 (Below w.heap.size w w10) := Aside0.mk (below_step (by repeat (first | (with_reducible first | exact Below.refl _ _ | apply below_alloc | apply pw_below_drewN | apply below_drew1) | refine below_set ?_ (by first | omega | (simp; omega) | simp))) hb); have cw10_371 := fun o_ : Nat => hb.cell (p := ⟨w.heap.size, o_, none⟩) (by first | omega | (simp; done) | (simp; omega)); have fw10_371 := fun o_ : Nat => hb.frozen (p := ⟨w.heap.size, o_, none⟩) (by first | omega | (simp; done) | (simp; omega)); clear hb; have hlw10_371_0 : w.heap.size < w10.heap.size := (by omega)))
                repeat (go_quiet (first | (go_at_call 11; (with_reducible refine (drayageref13_Check.calls k _ _ l0 t372 _ ?sd0 HC0.out A2.out).mono ?_); (case sd0 => exact Kd.C_below HR0.out (by repeat (first | (with_reducible first | exact Below.refl _ _ | apply below_alloc | apply pw_below_drewN | apply below_drew1) | refine below_set ?_ (by first | omega | (simp; omega) | simp)))); rintro e w10 ⟨rfl, hb⟩; have hsw10 : w.heap.size + 1 ≤ w10.heap.size := (by have h_ := hb.size; simpa using h_); have HB_w10 : Aside0 (Below w.heap.size w w10) := Aside0.mk (below_step (by repeat (first | (with_reducible first | exact Below.refl _ _ | apply below_alloc | apply pw_below_drewN | apply below_drew1) | refine below_set ?_ (by first | omega | (simp; omega) | simp))) hb); have cw10_371 := fun o_ : Nat => hb.cell (p := ⟨w.heap.size, o_, none⟩) (by first | omega | (simp; done) | (simp; omega)); have fw10_371 := fun o_ : Nat => hb.frozen (p := ⟨w.heap.size, o_, none⟩) (by first | omega | (simp; done) | (simp; omega)); clear hb; have hlw10_371_0 : w.heap.size < w10.heap.size := (by omega))); try go_wp2_with (first | (go_at_call 11; (with_reducible refine (drayageref13_Check.calls k _ _ l0 t372 _ ?sd0 HC0.out A2.out).mono ?_); (case sd0 => exact Kd.C_below HR0.out (by repeat (first | (with_reducible first | exact Below.refl _ _ | apply below_alloc | apply pw_below_drewN | apply below_drew1) | refine below_set ?_ (by first | omega | (simp; omega) | simp)))); rintro e w10 ⟨rfl, hb⟩; have hsw10 : w.heap.size + 1 ≤ w10.heap.size := (by have h_ := hb.size; simpa using h_); have HB_w10 : Aside0 (Below w.heap.size w w10) := Aside0.mk (below_step (by repeat (first | (with_reducible first | exact Below.refl _ _ | apply below_alloc | apply pw_below_drewN | apply below_drew1) | refine below_set ?_ (by first | omega | (simp; omega) | simp))) hb); have cw10_371 := fun o_ : Nat => hb.cell (p := ⟨w.heap.size, o_, none⟩) (by first | omega | (simp; done) | (simp; omega)); have fw10_371 := fun o_ : Nat => hb.frozen (p := ⟨w.heap.size, o_, none⟩) (by first | omega | (simp; done) | (simp; omega)); clear hb; have hlw10_371_0 : w.heap.size < w10.heap.size := (by omega))))
                refine bodyPost_ret ?_ rfl ⟨rfl, ?_⟩
                · simp [results, Try.results25, go_sem, cw10_371, fw10_371, hlw10_371_0]
                · exact (by repeat (first | (with_reducible first | exact HB_w10.out | exact Below.refl _ _ | apply below_alloc | apply pw_below_drewN | apply below_drew1) | refine below_set ?_ (by first | omega | (simp; omega) | simp)))
              · replace c9 := Bool.eq_false_iff.mpr c9; subst c9
                rw [if_neg (by decide)] at H
                by_cases c11 : a1_4 = 0
                · rw [if_pos c11] at H
                  have c11b0 : (a1_4 == 0) = true := beq_iff_eq.mpr c11
                  have c11b1 : (a1_4 != 0) = false := bne_eq_false_iff_eq.mpr c11
                  clear c11
                  by_cases c12 : a1_5 = true
                  · subst c12
                    rw [if_pos rfl] at H
                    obtain rfl := Option.some.inj H
                    go_enter Try.func25, Try.ntmps25
                    try go_wp2_with (first | (go_at_call 11; (with_reducible refine (drayageref13_Check.calls k _ _ l0 t372 _ ?sd0 HC0.out A2.out).mono ?_); (case sd0 => exact Kd.C_below HR0.out (by repeat (first | (with_reducible first | exact Below.refl _ _ | apply below_alloc | apply pw_below_drewN | apply below_drew1) | refine below_set ?_ (by first | omega | (simp; omega) | simp)))); rintro e w13 ⟨rfl, hb⟩; have hsw13 : w.heap.size + 1 ≤ w13.heap.size := (by have h_ := hb.size; simpa using h_); have HB_w13 : Aside0 (Below w.heap.size w w13) := Aside0.mk (below_step (by repeat (first | (with_reducible first | exact Below.refl _ _ | apply below_alloc | apply pw_below_drewN | apply below_drew1) | refine below_set ?_ (by first | omega | (simp; omega) | simp))) hb); have cw13_371 := fun o_ : Nat => hb.cell (p := ⟨w.heap.size, o_, none⟩) (by first | omega | (simp; done) | (simp; omega)); have fw13_371 := fun o_ : Nat => hb.frozen (p := ⟨w.heap.size, o_, none⟩) (by first | omega | (simp; done) | (simp; omega)); clear hb; have hlw13_371_0 : w.heap.size < w13.heap.size := (by omega)))
                    repeat (go_quiet (first | (go_at_call 11; (with_reducible refine (drayageref13_Check.calls k _ _ l0 t372 _ ?sd0 HC0.out A2.out).mono ?_); (case sd0 => exact Kd.C_below HR0.out (by repeat (first | (with_reducible first | exact Below.refl _ _ | apply below_alloc | apply pw_below_drewN | apply below_drew1) | refine below_set ?_ (by first | omega | (simp; omega) | simp)))); rintro e w13 ⟨rfl, hb⟩; have hsw13 : w.heap.size + 1 ≤ w13.heap.size := (by have h_ := hb.size; simpa using h_); have HB_w13 : Aside0 (Below w.heap.size w w13) := Aside0.mk (below_step (by repeat (first | (with_reducible first | exact Below.refl _ _ | apply below_alloc | apply pw_below_drewN | apply below_drew1) | refine below_set ?_ (by first | omega | (simp; omega) | simp))) hb); have cw13_371 := fun o_ : Nat => hb.cell (p := ⟨w.heap.size, o_, none⟩) (by first | omega | (simp; done) | (simp; omega)); have fw13_371 := fun o_ : Nat => hb.frozen (p := ⟨w.heap.size, o_, none⟩) (by first | omega | (simp; done) | (simp; omega)); clear hb; have hlw13_371_0 : w.heap.size < w13.heap.size := (by omega))); try go_wp2_with (first | (go_at_call 11; (with_reducible refine (drayageref13_Check.calls k _ _ l0 t372 _ ?sd0 HC0.out A2.out).mono ?_); (case sd0 => exact Kd.C_below HR0.out (by repeat (first | (with_reducible first | exact Below.refl _ _ | apply below_alloc | apply pw_below_drewN | apply below_drew1) | refine below_set ?_ (by first | omega | (simp; omega) | simp)))); rintro e w13 ⟨rfl, hb⟩; have hsw13 : w.heap.size + 1 ≤ w13.heap.size := (by have h_ := hb.size; simpa using h_); have HB_w13 : Aside0 (Below w.heap.size w w13) := Aside0.mk (below_step (by repeat (first | (with_reducible first | exact Below.refl _ _ | apply below_alloc | apply pw_below_drewN | apply below_drew1) | refine below_set ?_ (by first | omega | (simp; omega) | simp))) hb); have cw13_371 := fun o_ : Nat => hb.cell (p := ⟨w.heap.size, o_, none⟩) (by first | omega | (simp; done) | (simp; omega)); have fw13_371 := fun o_ : Nat => hb.frozen (p := ⟨w.heap.size, o_, none⟩) (by first | omega | (simp; done) | (simp; omega)); clear hb; have hlw13_371_0 : w.heap.size < w13.heap.size := (by omega))))
                    refine bodyPost_ret ?_ rfl ⟨rfl, ?_⟩
                    · simp [results, Try.results25, go_sem, cw13_371, fw13_371, hlw13_371_0]
                    · exact (by repeat (first | (with_reducible first | exact HB_w13.out | exact Below.refl _ _ | apply below_alloc | apply pw_below_drewN | apply below_drew1) | refine below_set ?_ (by first | omega | (simp; omega) | simp)))
                  · replace c12 := Bool.eq_false_iff.mpr c12; subst c12
                    rw [if_neg (by decide)] at H
                    obtain rfl := Option.some.inj H
                    go_enter Try.func25, Try.ntmps25
                    try go_wp2_with (first | (go_at_call 11; (with_reducible refine (drayageref13_Check.calls k _ _ l0 t372 _ ?sd0 HC0.out A2.out).mono ?_); (case sd0 => exact Kd.C_below HR0.out (by repeat (first | (with_reducible first | exact Below.refl _ _ | apply below_alloc | apply pw_below_drewN | apply below_drew1) | refine below_set ?_ (by first | omega | (simp; omega) | simp)))); rintro e w14 ⟨rfl, hb⟩; have hsw14 : w.heap.size + 1 ≤ w14.heap.size := (by have h_ := hb.size; simpa using h_); have HB_w14 : Aside0 (Below w.heap.size w w14) := Aside0.mk (below_step (by repeat (first | (with_reducible first | exact Below.refl _ _ | apply below_alloc | apply pw_below_drewN | apply below_drew1) | refine below_set ?_ (by first | omega | (simp; omega) | simp))) hb); have cw14_371 := fun o_ : Nat => hb.cell (p := ⟨w.heap.size, o_, none⟩) (by first | omega | (simp; done) | (simp; omega)); have fw14_371 := fun o_ : Nat => hb.frozen (p := ⟨w.heap.size, o_, none⟩) (by first | omega | (simp; done) | (simp; omega)); clear hb; have hlw14_371_0 : w.heap.size < w14.heap.size := (by omega)))
                    repeat (go_quiet (first | (go_at_call 11; (with_reducible refine (drayageref13_Check.calls k _ _ l0 t372 _ ?sd0 HC0.out A2.out).mono ?_); (case sd0 => exact Kd.C_below HR0.out (by repeat (first | (with_reducible first | exact Below.refl _ _ | apply below_alloc | apply pw_below_drewN | apply below_drew1) | refine below_set ?_ (by first | omega | (simp; omega) | simp)))); rintro e w14 ⟨rfl, hb⟩; have hsw14 : w.heap.size + 1 ≤ w14.heap.size := (by have h_ := hb.size; simpa using h_); have HB_w14 : Aside0 (Below w.heap.size w w14) := Aside0.mk (below_step (by repeat (first | (with_reducible first | exact Below.refl _ _ | apply below_alloc | apply pw_below_drewN | apply below_drew1) | refine below_set ?_ (by first | omega | (simp; omega) | simp))) hb); have cw14_371 := fun o_ : Nat => hb.cell (p := ⟨w.heap.size, o_, none⟩) (by first | omega | (simp; done) | (simp; omega)); have fw14_371 := fun o_ : Nat => hb.frozen (p := ⟨w.heap.size, o_, none⟩) (by first | omega | (simp; done) | (simp; omega)); clear hb; have hlw14_371_0 : w.heap.size < w14.heap.size := (by omega))); try go_wp2_with (first | (go_at_call 11; (with_reducible refine (drayageref13_Check.calls k _ _ l0 t372 _ ?sd0 HC0.out A2.out).mono ?_); (case sd0 => exact Kd.C_below HR0.out (by repeat (first | (with_reducible first | exact Below.refl _ _ | apply below_alloc | apply pw_below_drewN | apply below_drew1) | refine below_set ?_ (by first | omega | (simp; omega) | simp)))); rintro e w14 ⟨rfl, hb⟩; have hsw14 : w.heap.size + 1 ≤ w14.heap.size := (by have h_ := hb.size; simpa using h_); have HB_w14 : Aside0 (Below w.heap.size w w14) := Aside0.mk (below_step (by repeat (first | (with_reducible first | exact Below.refl _ _ | apply below_alloc | apply pw_below_drewN | apply below_drew1) | refine below_set ?_ (by first | omega | (simp; omega) | simp))) hb); have cw14_371 := fun o_ : Nat => hb.cell (p := ⟨w.heap.size, o_, none⟩) (by first | omega | (simp; done) | (simp; omega)); have fw14_371 := fun o_ : Nat => hb.frozen (p := ⟨w.heap.size, o_, none⟩) (by first | omega | (simp; done) | (simp; omega)); clear hb; have hlw14_371_0 : w.heap.size < w14.heap.size := (by omega))))
                    refine bodyPost_ret ?_ rfl ⟨rfl, ?_⟩
                    · simp [results, Try.results25, go_sem, cw14_371, fw14_371, hlw14_371_0]
                    · exact (by repeat (first | (with_reducible first | exact HB_w14.out | exact Below.refl _ _ | apply below_alloc | apply pw_below_drewN | apply below_drew1) | refine below_set ?_ (by first | omega | (simp; omega) | simp)))
                · rw [if_neg c11] at H
                  have c11b0 : (a1_4 == 0) = false := beq_eq_false_iff_ne.mpr c11
                  have c11b1 : (a1_4 != 0) = true := bne_iff_ne.mpr c11
                  clear c11
                  obtain rfl := Option.some.inj H
                  go_enter Try.func25, Try.ntmps25
                  try go_wp2_with (first | (go_at_call 11; (with_reducible refine (drayageref13_Check.calls k _ _ l0 t372 _ ?sd0 HC0.out A2.out).mono ?_); (case sd0 => exact Kd.C_below HR0.out (by repeat (first | (with_reducible first | exact Below.refl _ _ | apply below_alloc | apply pw_below_drewN | apply below_drew1) | refine below_set ?_ (by first | omega | (simp; omega) | simp)))); rintro e w15 ⟨rfl, hb⟩; have hsw15 : w.heap.size + 1 ≤ w15.heap.size := (by have h_ := hb.size; simpa using h_); have HB_w15 : Aside0 (Below w.heap.size w w15) := Aside0.mk (below_step (by repeat (first | (with_reducible first | exact Below.refl _ _ | apply below_alloc | apply pw_below_drewN | apply below_drew1) | refine below_set ?_ (by first | omega | (simp; omega) | simp))) hb); have cw15_371 := fun o_ : Nat => hb.cell (p := ⟨w.heap.size, o_, none⟩) (by first | omega | (simp; done) | (simp; omega)); have fw15_371 := fun o_ : Nat => hb.frozen (p := ⟨w.heap.size, o_, none⟩) (by first | omega | (simp; done) | (simp; omega)); clear hb; have hlw15_371_0 : w.heap.size < w15.heap.size := (by omega)))
                  repeat (go_quiet (first | (go_at_call 11; (with_reducible refine (drayageref13_Check.calls k _ _ l0 t372 _ ?sd0 HC0.out A2.out).mono ?_); (case sd0 => exact Kd.C_below HR0.out (by repeat (first | (with_reducible first | exact Below.refl _ _ | apply below_alloc | apply pw_below_drewN | apply below_drew1) | refine below_set ?_ (by first | omega | (simp; omega) | simp)))); rintro e w15 ⟨rfl, hb⟩; have hsw15 : w.heap.size + 1 ≤ w15.heap.size := (by have h_ := hb.size; simpa using h_); have HB_w15 : Aside0 (Below w.heap.size w w15) := Aside0.mk (below_step (by repeat (first | (with_reducible first | exact Below.refl _ _ | apply below_alloc | apply pw_below_drewN | apply below_drew1) | refine below_set ?_ (by first | omega | (simp; omega) | simp))) hb); have cw15_371 := fun o_ : Nat => hb.cell (p := ⟨w.heap.size, o_, none⟩) (by first | omega | (simp; done) | (simp; omega)); have fw15_371 := fun o_ : Nat => hb.frozen (p := ⟨w.heap.size, o_, none⟩) (by first | omega | (simp; done) | (simp; omega)); clear hb; have hlw15_371_0 : w.heap.size < w15.heap.size := (by omega))); try go_wp2_with (first | (go_at_call 11; (with_reducible refine (drayageref13_Check.calls k _ _ l0 t372 _ ?sd0 HC0.out A2.out).mono ?_); (case sd0 => exact Kd.C_below HR0.out (by repeat (first | (with_reducible first | exact Below.refl _ _ | apply below_alloc | apply pw_below_drewN | apply below_drew1) | refine below_set ?_ (by first | omega | (simp; omega) | simp)))); rintro e w15 ⟨rfl, hb⟩; have hsw15 : w.heap.size + 1 ≤ w15.heap.size := (by have h_ := hb.size; simpa using h_); have HB_w15 : Aside0 (Below w.heap.size w w15) := Aside0.mk (below_step (by repeat (first | (with_reducible first | exact Below.refl _ _ | apply below_alloc | apply pw_below_drewN | apply below_drew1) | refine below_set ?_ (by first | omega | (simp; omega) | simp))) hb); have cw15_371 := fun o_ : Nat => hb.cell (p := ⟨w.heap.size, o_, none⟩) (by first | omega | (simp; done) | (simp; omega)); have fw15_371 := fun o_ : Nat => hb.frozen (p := ⟨w.heap.size, o_, none⟩) (by first | omega | (simp; done) | (simp; omega)); clear hb; have hlw15_371_0 : w.heap.size < w15.heap.size := (by omega))))
                  refine bodyPost_ret ?_ rfl ⟨rfl, ?_⟩
                  · simp [results, Try.results25, go_sem, cw15_371, fw15_371, hlw15_371_0]
                  · exact (by repeat (first | (with_reducible first | exact HB_w15.out | exact Below.refl _ _ | apply below_alloc | apply pw_below_drewN | apply below_drew1) | refine below_set ?_ (by first | omega | (simp; omega) | simp)))
            · rw [if_neg c8] at H
              have c8b0 : (a1_2 == 0) = false := beq_eq_false_iff_ne.mpr c8
              have c8b1 : (a1_2 != 0) = true := bne_iff_ne.mpr c8
              clear c8
              obtain rfl := Option.some.inj H
              go_enter Try.func25, Try.ntmps25
              try go_wp2_with (first | (go_at_call 11; (with_reducible refine (drayageref13_Check.calls k _ _ l0 t372 _ ?sd0 HC0.out A2.out).mono ?_); (case sd0 => exact Kd.C_below HR0.out (by repeat (first | (with_reducible first | exact Below.refl _ _ | apply below_alloc | apply pw_below_drewN | apply below_drew1) | refine below_set ?_ (by first | omega | (simp; omega) | simp)))); rintro e w16 ⟨rfl, hb⟩; have hsw16 : w.heap.size + 1 ≤ w16.heap.size := (by have h_ := hb.size; simpa using h_); have HB_w16 : Aside0 (Below w.heap.size w w16) := Aside0.mk (below_step (by repeat (first | (with_reducible first | exact Below.refl _ _ | apply below_alloc | apply pw_below_drewN | apply below_drew1) | refine below_set ?_ (by first | omega | (simp; omega) | simp))) hb); have cw16_371 := fun o_ : Nat => hb.cell (p := ⟨w.heap.size, o_, none⟩) (by first | omega | (simp; done) | (simp; omega)); have fw16_371 := fun o_ : Nat => hb.frozen (p := ⟨w.heap.size, o_, none⟩) (by first | omega | (simp; done) | (simp; omega)); clear hb; have hlw16_371_0 : w.heap.size < w16.heap.size := (by omega)))
              repeat (go_quiet (first | (go_at_call 11; (with_reducible refine (drayageref13_Check.calls k _ _ l0 t372 _ ?sd0 HC0.out A2.out).mono ?_); (case sd0 => exact Kd.C_below HR0.out (by repeat (first | (with_reducible first | exact Below.refl _ _ | apply below_alloc | apply pw_below_drewN | apply below_drew1) | refine below_set ?_ (by first | omega | (simp; omega) | simp)))); rintro e w16 ⟨rfl, hb⟩; have hsw16 : w.heap.size + 1 ≤ w16.heap.size := (by have h_ := hb.size; simpa using h_); have HB_w16 : Aside0 (Below w.heap.size w w16) := Aside0.mk (below_step (by repeat (first | (with_reducible first | exact Below.refl _ _ | apply below_alloc | apply pw_below_drewN | apply below_drew1) | refine below_set ?_ (by first | omega | (simp; omega) | simp))) hb); have cw16_371 := fun o_ : Nat => hb.cell (p := ⟨w.heap.size, o_, none⟩) (by first | omega | (simp; done) | (simp; omega)); have fw16_371 := fun o_ : Nat => hb.frozen (p := ⟨w.heap.size, o_, none⟩) (by first | omega | (simp; done) | (simp; omega)); clear hb; have hlw16_371_0 : w.heap.size < w16.heap.size := (by omega))); try go_wp2_with (first | (go_at_call 11; (with_reducible refine (drayageref13_Check.calls k _ _ l0 t372 _ ?sd0 HC0.out A2.out).mono ?_); (case sd0 => exact Kd.C_below HR0.out (by repeat (first | (with_reducible first | exact Below.refl _ _ | apply below_alloc | apply pw_below_drewN | apply below_drew1) | refine below_set ?_ (by first | omega | (simp; omega) | simp)))); rintro e w16 ⟨rfl, hb⟩; have hsw16 : w.heap.size + 1 ≤ w16.heap.size := (by have h_ := hb.size; simpa using h_); have HB_w16 : Aside0 (Below w.heap.size w w16) := Aside0.mk (below_step (by repeat (first | (with_reducible first | exact Below.refl _ _ | apply below_alloc | apply pw_below_drewN | apply below_drew1) | refine below_set ?_ (by first | omega | (simp; omega) | simp))) hb); have cw16_371 := fun o_ : Nat => hb.cell (p := ⟨w.heap.size, o_, none⟩) (by first | omega | (simp; done) | (simp; omega)); have fw16_371 := fun o_ : Nat => hb.frozen (p := ⟨w.heap.size, o_, none⟩) (by first | omega | (simp; done) | (simp; omega)); clear hb; have hlw16_371_0 : w.heap.size < w16.heap.size := (by omega))))
              refine bodyPost_ret ?_ rfl ⟨rfl, ?_⟩
              · simp [results, Try.results25, go_sem, cw16_371, fw16_371, hlw16_371_0]
              · exact (by repeat (first | (with_reducible first | exact HB_w16.out | exact Below.refl _ _ | apply below_alloc | apply pw_below_drewN | apply below_drew1) | refine below_set ?_ (by first | omega | (simp; omega) | simp)))
          · rw [if_neg c7] at H
            have c7b0 : (a1_1 == 0) = false := beq_eq_false_iff_ne.mpr c7
            have c7b1 : (a1_1 != 0) = true := bne_iff_ne.mpr c7
            clear c7
            obtain rfl := Option.some.inj H
            go_enter Try.func25, Try.ntmps25
            try go_wp2_with (first | (go_at_call 11; (with_reducible refine (drayageref13_Check.calls k _ _ l0 t372 _ ?sd0 HC0.out A2.out).mono ?_); (case sd0 => exact Kd.C_below HR0.out (by repeat (first | (with_reducible first | exact Below.refl _ _ | apply below_alloc | apply pw_below_drewN | apply below_drew1) | refine below_set ?_ (by first | omega | (simp; omega) | simp)))); rintro e w17 ⟨rfl, hb⟩; have hsw17 : w.heap.size + 1 ≤ w17.heap.size := (by have h_ := hb.size; simpa using h_); have HB_w17 : Aside0 (Below w.heap.size w w17) := Aside0.mk (below_step (by repeat (first | (with_reducible first | exact Below.refl _ _ | apply below_alloc | apply pw_below_drewN | apply below_drew1) | refine below_set ?_ (by first | omega | (simp; omega) | simp))) hb); have cw17_371 := fun o_ : Nat => hb.cell (p := ⟨w.heap.size, o_, none⟩) (by first | omega | (simp; done) | (simp; omega)); have fw17_371 := fun o_ : Nat => hb.frozen (p := ⟨w.heap.size, o_, none⟩) (by first | omega | (simp; done) | (simp; omega)); clear hb; have hlw17_371_0 : w.heap.size < w17.heap.size := (by omega)))
            repeat (go_quiet (first | (go_at_call 11; (with_reducible refine (drayageref13_Check.calls k _ _ l0 t372 _ ?sd0 HC0.out A2.out).mono ?_); (case sd0 => exact Kd.C_below HR0.out (by repeat (first | (with_reducible first | exact Below.refl _ _ | apply below_alloc | apply pw_below_drewN | apply below_drew1) | refine below_set ?_ (by first | omega | (simp; omega) | simp)))); rintro e w17 ⟨rfl, hb⟩; have hsw17 : w.heap.size + 1 ≤ w17.heap.size := (by have h_ := hb.size; simpa using h_); have HB_w17 : Aside0 (Below w.heap.size w w17) := Aside0.mk (below_step (by repeat (first | (with_reducible first | exact Below.refl _ _ | apply below_alloc | apply pw_below_drewN | apply below_drew1) | refine below_set ?_ (by first | omega | (simp; omega) | simp))) hb); have cw17_371 := fun o_ : Nat => hb.cell (p := ⟨w.heap.size, o_, none⟩) (by first | omega | (simp; done) | (simp; omega)); have fw17_371 := fun o_ : Nat => hb.frozen (p := ⟨w.heap.size, o_, none⟩) (by first | omega | (simp; done) | (simp; omega)); clear hb; have hlw17_371_0 : w.heap.size < w17.heap.size := (by omega))); try go_wp2_with (first | (go_at_call 11; (with_reducible refine (drayageref13_Check.calls k _ _ l0 t372 _ ?sd0 HC0.out A2.out).mono ?_); (case sd0 => exact Kd.C_below HR0.out (by repeat (first | (with_reducible first | exact Below.refl _ _ | apply below_alloc | apply pw_below_drewN | apply below_drew1) | refine below_set ?_ (by first | omega | (simp; omega) | simp)))); rintro e w17 ⟨rfl, hb⟩; have hsw17 : w.heap.size + 1 ≤ w17.heap.size := (by have h_ := hb.size; simpa using h_); have HB_w17 : Aside0 (Below w.heap.size w w17) := Aside0.mk (below_step (by repeat (first | (with_reducible first | exact Below.refl _ _ | apply below_alloc | apply pw_below_drewN | apply below_drew1) | refine below_set ?_ (by first | omega | (simp; omega) | simp))) hb); have cw17_371 := fun o_ : Nat => hb.cell (p := ⟨w.heap.size, o_, none⟩) (by first | omega | (simp; done) | (simp; omega)); have fw17_371 := fun o_ : Nat => hb.frozen (p := ⟨w.heap.size, o_, none⟩) (by first | omega | (simp; done) | (simp; omega)); clear hb; have hlw17_371_0 : w.heap.size < w17.heap.size := (by omega))))
            refine bodyPost_ret ?_ rfl ⟨rfl, ?_⟩
            · simp [results, Try.results25, go_sem, cw17_371, fw17_371, hlw17_371_0]
            · exact (by repeat (first | (with_reducible first | exact HB_w17.out | exact Below.refl _ _ | apply below_alloc | apply pw_below_drewN | apply below_drew1) | refine below_set ?_ (by first | omega | (simp; omega) | simp)))
        · rw [if_neg c6] at H
          have c6b0 : decide (a1_6 ≤ 3) = false := decide_eq_false c6
          clear c6
          obtain rfl := Option.some.inj H
          go_enter Try.func25, Try.ntmps25
          try go_wp2_with (first | (go_at_call 11; (with_reducible refine (drayageref13_Check.calls k _ _ l0 t372 _ ?sd0 HC0.out A2.out).mono ?_); (case sd0 => exact Kd.C_below HR0.out (by repeat (first | (with_reducible first | exact Below.refl _ _ | apply below_alloc | apply pw_below_drewN | apply below_drew1) | refine below_set ?_ (by first | omega | (simp; omega) | simp)))); rintro e w18 ⟨rfl, hb⟩; have hsw18 : w.heap.size + 1 ≤ w18.heap.size := (by have h_ := hb.size; simpa using h_); have HB_w18 : Aside0 (Below w.heap.size w w18) := Aside0.mk (below_step (by repeat (first | (with_reducible first | exact Below.refl _ _ | apply below_alloc | apply pw_below_drewN | apply below_drew1) | refine below_set ?_ (by first | omega | (simp; omega) | simp))) hb); have cw18_371 := fun o_ : Nat => hb.cell (p := ⟨w.heap.size, o_, none⟩) (by first | omega | (simp; done) | (simp; omega)); have fw18_371 := fun o_ : Nat => hb.frozen (p := ⟨w.heap.size, o_, none⟩) (by first | omega | (simp; done) | (simp; omega)); clear hb; have hlw18_371_0 : w.heap.size < w18.heap.size := (by omega)))
          repeat (go_quiet (first | (go_at_call 11; (with_reducible refine (drayageref13_Check.calls k _ _ l0 t372 _ ?sd0 HC0.out A2.out).mono ?_); (case sd0 => exact Kd.C_below HR0.out (by repeat (first | (with_reducible first | exact Below.refl _ _ | apply below_alloc | apply pw_below_drewN | apply below_drew1) | refine below_set ?_ (by first | omega | (simp; omega) | simp)))); rintro e w18 ⟨rfl, hb⟩; have hsw18 : w.heap.size + 1 ≤ w18.heap.size := (by have h_ := hb.size; simpa using h_); have HB_w18 : Aside0 (Below w.heap.size w w18) := Aside0.mk (below_step (by repeat (first | (with_reducible first | exact Below.refl _ _ | apply below_alloc | apply pw_below_drewN | apply below_drew1) | refine below_set ?_ (by first | omega | (simp; omega) | simp))) hb); have cw18_371 := fun o_ : Nat => hb.cell (p := ⟨w.heap.size, o_, none⟩) (by first | omega | (simp; done) | (simp; omega)); have fw18_371 := fun o_ : Nat => hb.frozen (p := ⟨w.heap.size, o_, none⟩) (by first | omega | (simp; done) | (simp; omega)); clear hb; have hlw18_371_0 : w.heap.size < w18.heap.size := (by omega))); try go_wp2_with (first | (go_at_call 11; (with_reducible refine (drayageref13_Check.calls k _ _ l0 t372 _ ?sd0 HC0.out A2.out).mono ?_); (case sd0 => exact Kd.C_below HR0.out (by repeat (first | (with_reducible first | exact Below.refl _ _ | apply below_alloc | apply pw_below_drewN | apply below_drew1) | refine below_set ?_ (by first | omega | (simp; omega) | simp)))); rintro e w18 ⟨rfl, hb⟩; have hsw18 : w.heap.size + 1 ≤ w18.heap.size := (by have h_ := hb.size; simpa using h_); have HB_w18 : Aside0 (Below w.heap.size w w18) := Aside0.mk (below_step (by repeat (first | (with_reducible first | exact Below.refl _ _ | apply below_alloc | apply pw_below_drewN | apply below_drew1) | refine below_set ?_ (by first | omega | (simp; omega) | simp))) hb); have cw18_371 := fun o_ : Nat => hb.cell (p := ⟨w.heap.size, o_, none⟩) (by first | omega | (simp; done) | (simp; omega)); have fw18_371 := fun o_ : Nat => hb.frozen (p := ⟨w.heap.size, o_, none⟩) (by first | omega | (simp; done) | (simp; omega)); clear hb; have hlw18_371_0 : w.heap.size < w18.heap.size := (by omega))))
          refine bodyPost_ret ?_ rfl ⟨rfl, ?_⟩
          · simp [results, Try.results25, go_sem, cw18_371, fw18_371, hlw18_371_0]
          · exact (by repeat (first | (with_reducible first | exact HB_w18.out | exact Below.refl _ _ | apply below_alloc | apply pw_below_drewN | apply below_drew1) | refine below_set ?_ (by first | omega | (simp; omega) | simp)))
      · rw [if_neg c5] at H
        have c5b0 : decide (1 ≤ a1_6) = false := decide_eq_false c5
        clear c5
        obtain rfl := Option.some.inj H
        go_enter Try.func25, Try.ntmps25
        try go_wp2_with (first | (go_at_call 11; (with_reducible refine (drayageref13_Check.calls k _ _ l0 t372 _ ?sd0 HC0.out A2.out).mono ?_); (case sd0 => exact Kd.C_below HR0.out (by repeat (first | (with_reducible first | exact Below.refl _ _ | apply below_alloc | apply pw_below_drewN | apply below_drew1) | refine below_set ?_ (by first | omega | (simp; omega) | simp)))); rintro e w19 ⟨rfl, hb⟩; have hsw19 : w.heap.size + 1 ≤ w19.heap.size := (by have h_ := hb.size; simpa using h_); have HB_w19 : Aside0 (Below w.heap.size w w19) := Aside0.mk (below_step (by repeat (first | (with_reducible first | exact Below.refl _ _ | apply below_alloc | apply pw_below_drewN | apply below_drew1) | refine below_set ?_ (by first | omega | (simp; omega) | simp))) hb); have cw19_371 := fun o_ : Nat => hb.cell (p := ⟨w.heap.size, o_, none⟩) (by first | omega | (simp; done) | (simp; omega)); have fw19_371 := fun o_ : Nat => hb.frozen (p := ⟨w.heap.size, o_, none⟩) (by first | omega | (simp; done) | (simp; omega)); clear hb; have hlw19_371_0 : w.heap.size < w19.heap.size := (by omega)))
        repeat (go_quiet (first | (go_at_call 11; (with_reducible refine (drayageref13_Check.calls k _ _ l0 t372 _ ?sd0 HC0.out A2.out).mono ?_); (case sd0 => exact Kd.C_below HR0.out (by repeat (first | (with_reducible first | exact Below.refl _ _ | apply below_alloc | apply pw_below_drewN | apply below_drew1) | refine below_set ?_ (by first | omega | (simp; omega) | simp)))); rintro e w19 ⟨rfl, hb⟩; have hsw19 : w.heap.size + 1 ≤ w19.heap.size := (by have h_ := hb.size; simpa using h_); have HB_w19 : Aside0 (Below w.heap.size w w19) := Aside0.mk (below_step (by repeat (first | (with_reducible first | exact Below.refl _ _ | apply below_alloc | apply pw_below_drewN | apply below_drew1) | refine below_set ?_ (by first | omega | (simp; omega) | simp))) hb); have cw19_371 := fun o_ : Nat => hb.cell (p := ⟨w.heap.size, o_, none⟩) (by first | omega | (simp; done) | (simp; omega)); have fw19_371 := fun o_ : Nat => hb.frozen (p := ⟨w.heap.size, o_, none⟩) (by first | omega | (simp; done) | (simp; omega)); clear hb; have hlw19_371_0 : w.heap.size < w19.heap.size := (by omega))); try go_wp2_with (first | (go_at_call 11; (with_reducible refine (drayageref13_Check.calls k _ _ l0 t372 _ ?sd0 HC0.out A2.out).mono ?_); (case sd0 => exact Kd.C_below HR0.out (by repeat (first | (with_reducible first | exact Below.refl _ _ | apply below_alloc | apply pw_below_drewN | apply below_drew1) | refine below_set ?_ (by first | omega | (simp; omega) | simp)))); rintro e w19 ⟨rfl, hb⟩; have hsw19 : w.heap.size + 1 ≤ w19.heap.size := (by have h_ := hb.size; simpa using h_); have HB_w19 : Aside0 (Below w.heap.size w w19) := Aside0.mk (below_step (by repeat (first | (with_reducible first | exact Below.refl _ _ | apply below_alloc | apply pw_below_drewN | apply below_drew1) | refine below_set ?_ (by first | omega | (simp; omega) | simp))) hb); have cw19_371 := fun o_ : Nat => hb.cell (p := ⟨w.heap.size, o_, none⟩) (by first | omega | (simp; done) | (simp; omega)); have fw19_371 := fun o_ : Nat => hb.frozen (p := ⟨w.heap.size, o_, none⟩) (by first | omega | (simp; done) | (simp; omega)); clear hb; have hlw19_371_0 : w.heap.size < w19.heap.size := (by omega))))
        refine bodyPost_ret ?_ rfl ⟨rfl, ?_⟩
        · simp [results, Try.results25, go_sem, cw19_371, fw19_371, hlw19_371_0]
        · exact (by repeat (first | (with_reducible first | exact HB_w19.out | exact Below.refl _ _ | apply below_alloc | apply pw_below_drewN | apply below_drew1) | refine below_set ?_ (by first | omega | (simp; omega) | simp)))
    · rw [if_neg c4] at H
      have c4b0 : (a1_0 == 3) = false := beq_eq_false_iff_ne.mpr c4
      have c4b1 : (a1_0 != 3) = true := bne_iff_ne.mpr c4
      clear c4
      have HC21 := Aside0.mk H
      clear H
      go_enter Try.func25, Try.ntmps25
      go_upto_if 48 with (first | (go_at_call 11; (with_reducible refine (drayageref13_Check.calls k _ _ l0 t372 _ ?sd0 HC0.out A2.out).mono ?_); (case sd0 => exact Kd.C_below HR0.out (by repeat (first | (with_reducible first | exact Below.refl _ _ | apply below_alloc | apply pw_below_drewN | apply below_drew1) | refine below_set ?_ (by first | omega | (simp; omega) | simp)))); rintro e w22 ⟨rfl, hb⟩; have hsw22 : w.heap.size + 1 ≤ w22.heap.size := (by have h_ := hb.size; simpa using h_); have HB_w22 : Aside0 (Below w.heap.size w w22) := Aside0.mk (below_step (by repeat (first | (with_reducible first | exact Below.refl _ _ | apply below_alloc | apply pw_below_drewN | apply below_drew1) | refine below_set ?_ (by first | omega | (simp; omega) | simp))) hb); have cw22_371 := fun o_ : Nat => hb.cell (p := ⟨w.heap.size, o_, none⟩) (by first | omega | (simp; done) | (simp; omega)); have fw22_371 := fun o_ : Nat => hb.frozen (p := ⟨w.heap.size, o_, none⟩) (by first | omega | (simp; done) | (simp; omega)); clear hb; have hlw22_371_0 : w.heap.size < w22.heap.size := (by omega)))
      repeat (go_quiet (first | (go_at_call 11; (with_reducible refine (drayageref13_Check.calls k _ _ l0 t372 _ ?sd0 HC0.out A2.out).mono ?_); (case sd0 => exact Kd.C_below HR0.out (by repeat (first | (with_reducible first | exact Below.refl _ _ | apply below_alloc | apply pw_below_drewN | apply below_drew1) | refine below_set ?_ (by first | omega | (simp; omega) | simp)))); rintro e w22 ⟨rfl, hb⟩; have hsw22 : w.heap.size + 1 ≤ w22.heap.size := (by have h_ := hb.size; simpa using h_); have HB_w22 : Aside0 (Below w.heap.size w w22) := Aside0.mk (below_step (by repeat (first | (with_reducible first | exact Below.refl _ _ | apply below_alloc | apply pw_below_drewN | apply below_drew1) | refine below_set ?_ (by first | omega | (simp; omega) | simp))) hb); have cw22_371 := fun o_ : Nat => hb.cell (p := ⟨w.heap.size, o_, none⟩) (by first | omega | (simp; done) | (simp; omega)); have fw22_371 := fun o_ : Nat => hb.frozen (p := ⟨w.heap.size, o_, none⟩) (by first | omega | (simp; done) | (simp; omega)); clear hb; have hlw22_371_0 : w.heap.size < w22.heap.size := (by omega))); go_upto_if 48 with (first | (go_at_call 11; (with_reducible refine (drayageref13_Check.calls k _ _ l0 t372 _ ?sd0 HC0.out A2.out).mono ?_); (case sd0 => exact Kd.C_below HR0.out (by repeat (first | (with_reducible first | exact Below.refl _ _ | apply below_alloc | apply pw_below_drewN | apply below_drew1) | refine below_set ?_ (by first | omega | (simp; omega) | simp)))); rintro e w22 ⟨rfl, hb⟩; have hsw22 : w.heap.size + 1 ≤ w22.heap.size := (by have h_ := hb.size; simpa using h_); have HB_w22 : Aside0 (Below w.heap.size w w22) := Aside0.mk (below_step (by repeat (first | (with_reducible first | exact Below.refl _ _ | apply below_alloc | apply pw_below_drewN | apply below_drew1) | refine below_set ?_ (by first | omega | (simp; omega) | simp))) hb); have cw22_371 := fun o_ : Nat => hb.cell (p := ⟨w.heap.size, o_, none⟩) (by first | omega | (simp; done) | (simp; omega)); have fw22_371 := fun o_ : Nat => hb.frozen (p := ⟨w.heap.size, o_, none⟩) (by first | omega | (simp; done) | (simp; omega)); clear hb; have hlw22_371_0 : w.heap.size < w22.heap.size := (by omega))))
      (try simp only [Act.put, List.setIfInBounds_toArray, List.set_cons_zero, List.set_cons_succ])
      go_cut [48] (fun v48 wq20 => ∃ (kq : Nat) (x48_20 : Bool), v48 = .bool x48_20 ∧ Aside0 (drayageref14_Check.j0 kq l0 x48_20 a1_0 a1_1 a1_2 a1_3 a1_4 a1_5 a1_6 = some r) ∧ Aside0 (kq ≤ k) ∧ Aside0 (BX wq20 (w.heap.size) [.int .i64 a1_0, .int .i64 a1_1, .int .i64 a1_2, .bool a1_3, .int .i64 a1_4, .bool a1_5, .int .i64 a1_6]) ∧ Aside0 (Below w.heap.size w wq20))
      case first =>
        have H := HC21.out
        clear HC21
        by_cases c23 : a1_0 = 1
        · rw [if_pos c23] at H
          have c23b0 : (a1_0 == 1) = true := beq_iff_eq.mpr c23
          have c23b1 : (a1_0 != 1) = false := bne_eq_false_iff_eq.mpr c23
          clear c23
          have H' := Aside0.mk H
          clear H
          have hlw22_371_0 : w.heap.size < w22.heap.size := (by omega)
          try go_wp2
          repeat (go_quiet (fail); try go_wp2)
          go_meet
          case rel => exact ⟨_, ((a1_0 == 1)), (by first | rfl | (simp; done) | (simp [*]; done)), H', ⟨by first | omega | exact Nat.le_refl _⟩, ⟨BX.mk7 (by go_simp) (by go_simp) (by go_simp) (by go_simp) (by go_simp) (by go_simp) (by go_simp) (by go_simp) (by go_simp) (by go_simp) (by go_simp) (by go_simp) (by go_simp) (by go_simp) (by first | omega | (simp; done) | (simp; omega))⟩, ⟨(by repeat (first | (with_reducible first | exact HB_w22.out | exact Below.refl _ _ | apply below_alloc | apply pw_below_drewN | apply below_drew1) | refine below_set ?_ (by first | omega | (simp; omega) | simp)))⟩⟩
        · rw [if_neg c23] at H
          have c23b0 : (a1_0 == 1) = false := beq_eq_false_iff_ne.mpr c23
          have c23b1 : (a1_0 != 1) = true := bne_iff_ne.mpr c23
          clear c23
          have H' := Aside0.mk H
          clear H
          have hlw22_371_0 : w.heap.size < w22.heap.size := (by omega)
          try go_wp2
          repeat (go_quiet (fail); try go_wp2)
          go_meet
          case rel => exact ⟨_, ((a1_0 == 2)), (by first | rfl | (simp; done) | (simp [*]; done)), H', ⟨by first | omega | exact Nat.le_refl _⟩, ⟨BX.mk7 (by go_simp) (by go_simp) (by go_simp) (by go_simp) (by go_simp) (by go_simp) (by go_simp) (by go_simp) (by go_simp) (by go_simp) (by go_simp) (by go_simp) (by go_simp) (by go_simp) (by first | omega | (simp; done) | (simp; omega))⟩, ⟨(by repeat (first | (with_reducible first | exact HB_w22.out | exact Below.refl _ _ | apply below_alloc | apply pw_below_drewN | apply below_drew1) | refine below_set ?_ (by first | omega | (simp; omega) | simp)))⟩⟩
      case rest =>
        rename World => wc20
        clear HC21
        obtain ⟨kq, x48_20, rfl, HA, HJ20, BX371_20, HB_20⟩ := hcut
        have hs20 : w.heap.size ≤ wc20.heap.size := HB_20.out.size
        obtain ⟨hz371_20_0, hz371_20_1, hz371_20_2, hz371_20_3, hz371_20_4, hz371_20_5, hz371_20_6, hf371_20_0, hf371_20_1, hf371_20_2, hf371_20_3, hf371_20_4, hf371_20_5, hf371_20_6, hlt371_20⟩ := BX371_20.out.out7
        cases kq with
        | zero => exact absurd HA.out (by simp [drayageref14_Check.j0])
        | succ k20 =>
          have H := HA.out
          clear HA
          simp only [drayageref14_Check.j0] at H
          by_cases c25 : x48_20 = true
          · subst c25
            rw [if_pos rfl] at H
            have HC27 := Aside0.mk H
            clear H
            have hlwc20_371_0 : w.heap.size < wc20.heap.size := (by omega)
            go_upto_region 11 with (fail)
            repeat (go_quiet (fail); go_upto_region 11 with (fail))
            go_cut [81] (fun v81 wq26 => ∃ (kq : Nat) (x81_26 : Bool), v81 = .bool x81_26 ∧ Aside0 (drayageref14_Check.j1 kq l0 x81_26 a1_0 a1_1 a1_2 a1_3 a1_4 a1_5 a1_6 = some r) ∧ Aside0 (kq ≤ k20) ∧ Aside0 (BX wq26 (w.heap.size) [.int .i64 a1_0, .int .i64 a1_1, .int .i64 a1_2, .bool a1_3, .int .i64 a1_4, .bool a1_5, .int .i64 a1_6]) ∧ Aside0 (Below w.heap.size w wq26))
            case first =>
              have H := HC27.out
              clear HC27
              by_cases c28 : a1_1 < 0
              · rw [if_pos c28] at H
                have c28b0 : decide (a1_1 < 0) = true := decide_eq_true c28
                clear c28
                have H' := Aside0.mk H
                clear H
                have hlwc20_371_0 : w.heap.size < wc20.heap.size := (by omega)
                try go_wp2
                repeat (go_quiet (fail); try go_wp2)
                go_meet
                case rel => exact ⟨_, (true), (by first | rfl | (simp; done) | (simp [*]; done)), H', ⟨by have := HJ20.out; first | omega | exact Nat.le_refl _⟩, ⟨BX.mk7 (by go_simp) (by go_simp) (by go_simp) (by go_simp) (by go_simp) (by go_simp) (by go_simp) (by go_simp) (by go_simp) (by go_simp) (by go_simp) (by go_simp) (by go_simp) (by go_simp) (by first | omega | (simp; done) | (simp; omega))⟩, ⟨(by repeat (first | (with_reducible first | exact HB_20.out | exact Below.refl _ _ | apply below_alloc | apply pw_below_drewN | apply below_drew1) | refine below_set ?_ (by first | omega | (simp; omega) | simp)))⟩⟩
              · rw [if_neg c28] at H
                have c28b0 : decide (a1_1 < 0) = false := decide_eq_false c28
                clear c28
                by_cases c29 : a1_1 ≥ (l0.length : Int)
                · rw [if_pos c29] at H
                  have c29b0 : decide ((l0.length : Int) ≤ a1_1) = true := decide_eq_true c29
                  clear c29
                  have H' := Aside0.mk H
                  clear H
                  have hlwc20_371_0 : w.heap.size < wc20.heap.size := (by omega)
                  try go_wp2
                  repeat (go_quiet (fail); try go_wp2)
                  go_meet
                  case rel => exact ⟨_, (true), (by first | rfl | (simp; done) | (simp [*]; done)), H', ⟨by have := HJ20.out; first | omega | exact Nat.le_refl _⟩, ⟨BX.mk7 (by go_simp) (by go_simp) (by go_simp) (by go_simp) (by go_simp) (by go_simp) (by go_simp) (by go_simp) (by go_simp) (by go_simp) (by go_simp) (by go_simp) (by go_simp) (by go_simp) (by first | omega | (simp; done) | (simp; omega))⟩, ⟨(by repeat (first | (with_reducible first | exact HB_20.out | exact Below.refl _ _ | apply below_alloc | apply pw_below_drewN | apply below_drew1) | refine below_set ?_ (by first | omega | (simp; omega) | simp)))⟩⟩
                · rw [if_neg c29] at H
                  have c29b0 : decide ((l0.length : Int) ≤ a1_1) = false := decide_eq_false c29
                  clear c29
                  by_cases c30 : a1_6 = 0
                  · rw [if_pos c30] at H
                    have c30b0 : (a1_6 == 0) = true := beq_iff_eq.mpr c30
                    have c30b1 : (a1_6 != 0) = false := bne_eq_false_iff_eq.mpr c30
                    clear c30
                    by_cases c31 : a1_2 < 0
                    · rw [if_pos c31] at H
                      have c31b0 : decide (a1_2 < 0) = true := decide_eq_true c31
                      clear c31
                      have H' := Aside0.mk H
                      clear H
                      have hlwc20_371_0 : w.heap.size < wc20.heap.size := (by omega)
                      try go_wp2
                      repeat (go_quiet (fail); try go_wp2)
                      go_meet
                      case rel => exact ⟨_, (true), (by first | rfl | (simp; done) | (simp [*]; done)), H', ⟨by have := HJ20.out; first | omega | exact Nat.le_refl _⟩, ⟨BX.mk7 (by go_simp) (by go_simp) (by go_simp) (by go_simp) (by go_simp) (by go_simp) (by go_simp) (by go_simp) (by go_simp) (by go_simp) (by go_simp) (by go_simp) (by go_simp) (by go_simp) (by first | omega | (simp; done) | (simp; omega))⟩, ⟨(by repeat (first | (with_reducible first | exact HB_20.out | exact Below.refl _ _ | apply below_alloc | apply pw_below_drewN | apply below_drew1) | refine below_set ?_ (by first | omega | (simp; omega) | simp)))⟩⟩
                    · rw [if_neg c31] at H
                      have c31b0 : decide (a1_2 < 0) = false := decide_eq_false c31
                      clear c31
                      by_cases c32 : 0 ≤ a1_1
                      · rw [if_pos c32] at H
                        have c32b0 : decide (0 ≤ a1_1) = true := decide_eq_true c32
                        clear c32
                        by_cases c33 : a1_1 < (l0.length : Int)
                        · rw [if_pos c33] at H
                          have c33b0 : decide (a1_1 < (l0.length : Int)) = true := decide_eq_true c33
                          clear c33
                          have H' := Aside0.mk H
                          clear H
                          have hlwc20_371_0 : w.heap.size < wc20.heap.size := (by omega)
                          have p373 : 0 ≤ (a1_1 : Int) := of_decide_eq_true (by first | (with_reducible assumption) | assumption)
                          have q373 : a1_1 < (l0.length : Int) := of_decide_eq_true (by first | (with_reducible assumption) | assumption)
                          obtain ⟨ad373, A373_2, c373_2, e373, hx373_0, hx373_1, hx373_2, hx373_3, hx373_4, hx373_5, hl373_2, hg373_2⟩ := at_T38 (Kd.C_below HR0.out HB_20.out) (a1_1) p373 q373
                          cases e373
                          have HG373_2 := Aside0.mk hg373_2
                          clear hg373_2
                          have HL373_2 := Aside0.mk hl373_2
                          clear hl373_2
                          have hw373 := cell_lt2 hx373_0
                          have hbk373 := C_blk HR0.out (by omega) (by decide)
                          have hne373_371 : ¬ ((ad373.add (a1_1.toNat * 6)).block = w.heap.size) := (by rw [add_block]; omega)
                          have hnf373_371 : ¬ (w.heap.size = (ad373.add (a1_1.toNat * 6)).block) := (by rw [add_block]; omega)
                          replace p373 := eq_true p373
                          replace q373 := eq_true q373
                          try go_wp2
                          repeat (go_quiet (fail); try go_wp2)
                          go_meet
                          case rel => exact ⟨_, (decide (a1_2 > ((rd_T38 l0 a1_1).f1))), (by first | rfl | (simp; done) | (simp [*]; done)), H', ⟨by have := HJ20.out; first | omega | exact Nat.le_refl _⟩, ⟨BX.mk7 (by go_simp) (by go_simp) (by go_simp) (by go_simp) (by go_simp) (by go_simp) (by go_simp) (by go_simp) (by go_simp) (by go_simp) (by go_simp) (by go_simp) (by go_simp) (by go_simp) (by first | omega | (simp; done) | (simp; omega))⟩, ⟨(by repeat (first | (with_reducible first | exact HB_20.out | exact Below.refl _ _ | apply below_alloc | apply pw_below_drewN | apply below_drew1) | refine below_set ?_ (by first | omega | (simp; omega) | simp)))⟩⟩
                        · rw [if_neg c33] at H
                          exact absurd H (by simp)
                      · rw [if_neg c32] at H
                        exact absurd H (by simp)
                  · rw [if_neg c30] at H
                    have c30b0 : (a1_6 == 0) = false := beq_eq_false_iff_ne.mpr c30
                    have c30b1 : (a1_6 != 0) = true := bne_iff_ne.mpr c30
                    clear c30
                    have H' := Aside0.mk H
                    clear H
                    have hlwc20_371_0 : w.heap.size < wc20.heap.size := (by omega)
                    try go_wp2
                    repeat (go_quiet (fail); try go_wp2)
                    go_meet
                    case rel => exact ⟨_, (true), (by first | rfl | (simp; done) | (simp [*]; done)), H', ⟨by have := HJ20.out; first | omega | exact Nat.le_refl _⟩, ⟨BX.mk7 (by go_simp) (by go_simp) (by go_simp) (by go_simp) (by go_simp) (by go_simp) (by go_simp) (by go_simp) (by go_simp) (by go_simp) (by go_simp) (by go_simp) (by go_simp) (by go_simp) (by first | omega | (simp; done) | (simp; omega))⟩, ⟨(by repeat (first | (with_reducible first | exact HB_20.out | exact Below.refl _ _ | apply below_alloc | apply pw_below_drewN | apply below_drew1) | refine below_set ?_ (by first | omega | (simp; omega) | simp)))⟩⟩
            case rest =>
              rename World => wc26
              clear HC27
              obtain ⟨kq, x81_26, rfl, HA, HJ26, BX371_26, HB_26⟩ := hcut
              have hs26 : w.heap.size ≤ wc26.heap.size := HB_26.out.size
              obtain ⟨hz371_26_0, hz371_26_1, hz371_26_2, hz371_26_3, hz371_26_4, hz371_26_5, hz371_26_6, hf371_26_0, hf371_26_1, hf371_26_2, hf371_26_3, hf371_26_4, hf371_26_5, hf371_26_6, hlt371_26⟩ := BX371_26.out.out7
              cases kq with
              | zero => exact absurd HA.out (by simp [drayageref14_Check.j1])
              | succ k26 =>
                have H := HA.out
                clear HA
                simp only [drayageref14_Check.j1] at H
                by_cases c35 : x81_26 = true
                · subst c35
                  rw [if_pos rfl] at H
                  obtain rfl := Option.some.inj H
                  have hlwc26_371_0 : w.heap.size < wc26.heap.size := (by omega)
                  try go_wp2
                  repeat (go_quiet (fail); try go_wp2)
                  refine bodyPost_ret ?_ rfl ⟨rfl, ?_⟩
                  · simp [results, Try.results25, go_sem, hz371_26_0, hz371_26_1, hz371_26_2, hz371_26_3, hz371_26_4, hz371_26_5, hz371_26_6, hf371_26_0, hf371_26_1, hf371_26_2, hf371_26_3, hf371_26_4, hf371_26_5, hf371_26_6, hlwc26_371_0]
                  · exact (by repeat (first | (with_reducible first | exact HB_26.out | exact Below.refl _ _ | apply below_alloc | apply pw_below_drewN | apply below_drew1) | refine below_set ?_ (by first | omega | (simp; omega) | simp)))
                · replace c35 := Bool.eq_false_iff.mpr c35; subst c35
                  rw [if_neg (by decide)] at H
                  have HC37 := Aside0.mk H
                  clear H
                  have hlwc26_371_0 : w.heap.size < wc26.heap.size := (by omega)
                  go_upto_region 13 with (fail)
                  repeat (go_quiet (fail); go_upto_region 13 with (fail))
                  go_cut [97] (fun v97 wq36 => ∃ (kq : Nat) (x97_36 : Bool), v97 = .bool x97_36 ∧ Aside0 (drayageref14_Check.j2 kq l0 x97_36 a1_0 a1_1 a1_2 a1_3 a1_4 a1_5 a1_6 = some r) ∧ Aside0 (kq ≤ k26) ∧ Aside0 (BX wq36 (w.heap.size) [.int .i64 a1_0, .int .i64 a1_1, .int .i64 a1_2, .bool a1_3, .int .i64 a1_4, .bool a1_5, .int .i64 a1_6]) ∧ Aside0 (Below w.heap.size w wq36))
                  case first =>
                    have H := HC37.out
                    clear HC37
                    by_cases c38 : a1_0 = 2
                    · rw [if_pos c38] at H
                      have c38b0 : (a1_0 == 2) = true := beq_iff_eq.mpr c38
                      have c38b1 : (a1_0 != 2) = false := bne_eq_false_iff_eq.mpr c38
                      clear c38
                      by_cases c39 : a1_5 = true
                      · subst c39
                        rw [if_pos rfl] at H
                        have H' := Aside0.mk H
                        clear H
                        have hlwc26_371_0 : w.heap.size < wc26.heap.size := (by omega)
                        try go_wp2
                        repeat (go_quiet (fail); try go_wp2)
                        go_meet
                        case rel => exact ⟨_, (true), (by first | rfl | (simp; done) | (simp [*]; done)), H', ⟨by have := HJ20.out; have := HJ26.out; first | omega | exact Nat.le_refl _⟩, ⟨BX.mk7 (by go_simp) (by go_simp) (by go_simp) (by go_simp) (by go_simp) (by go_simp) (by go_simp) (by go_simp) (by go_simp) (by go_simp) (by go_simp) (by go_simp) (by go_simp) (by go_simp) (by first | omega | (simp; done) | (simp; omega))⟩, ⟨(by repeat (first | (with_reducible first | exact HB_26.out | exact Below.refl _ _ | apply below_alloc | apply pw_below_drewN | apply below_drew1) | refine below_set ?_ (by first | omega | (simp; omega) | simp)))⟩⟩
                      · replace c39 := Bool.eq_false_iff.mpr c39; subst c39
                        rw [if_neg (by decide)] at H
                        by_cases c40 : 0 ≤ a1_1
                        · rw [if_pos c40] at H
                          have c40b0 : decide (0 ≤ a1_1) = true := decide_eq_true c40
                          clear c40
                          by_cases c41 : a1_1 < (l0.length : Int)
                          · rw [if_pos c41] at H
                            have c41b0 : decide (a1_1 < (l0.length : Int)) = true := decide_eq_true c41
                            clear c41
                            have H' := Aside0.mk H
                            clear H
                            have hlwc26_371_0 : w.heap.size < wc26.heap.size := (by omega)
                            have p374 : 0 ≤ (a1_1 : Int) := of_decide_eq_true (by first | (with_reducible assumption) | assumption)
                            have q374 : a1_1 < (l0.length : Int) := of_decide_eq_true (by first | (with_reducible assumption) | assumption)
                            obtain ⟨ad374, A374_2, c374_2, e374, hx374_0, hx374_1, hx374_2, hx374_3, hx374_4, hx374_5, hl374_2, hg374_2⟩ := at_T38 (Kd.C_below HR0.out HB_26.out) (a1_1) p374 q374
                            cases e374
                            have HG374_2 := Aside0.mk hg374_2
                            clear hg374_2
                            have HL374_2 := Aside0.mk hl374_2
                            clear hl374_2
                            have hw374 := cell_lt2 hx374_0
                            have hbk374 := C_blk HR0.out (by omega) (by decide)
                            have hne374_371 : ¬ ((ad374.add (a1_1.toNat * 6)).block = w.heap.size) := (by rw [add_block]; omega)
                            have hnf374_371 : ¬ (w.heap.size = (ad374.add (a1_1.toNat * 6)).block) := (by rw [add_block]; omega)
                            replace p374 := eq_true p374
                            replace q374 := eq_true q374
                            try go_wp2
                            repeat (go_quiet (fail); try go_wp2)
                            go_meet
                            case rel => exact ⟨_, (!((rd_T38 l0 a1_1).f3)), (by first | rfl | (simp; done) | (simp [*]; done)), H', ⟨by have := HJ20.out; have := HJ26.out; first | omega | exact Nat.le_refl _⟩, ⟨BX.mk7 (by go_simp) (by go_simp) (by go_simp) (by go_simp) (by go_simp) (by go_simp) (by go_simp) (by go_simp) (by go_simp) (by go_simp) (by go_simp) (by go_simp) (by go_simp) (by go_simp) (by first | omega | (simp; done) | (simp; omega))⟩, ⟨(by repeat (first | (with_reducible first | exact HB_26.out | exact Below.refl _ _ | apply below_alloc | apply pw_below_drewN | apply below_drew1) | refine below_set ?_ (by first | omega | (simp; omega) | simp)))⟩⟩
                          · rw [if_neg c41] at H
                            exact absurd H (by simp)
                        · rw [if_neg c40] at H
                          exact absurd H (by simp)
                    · rw [if_neg c38] at H
                      have c38b0 : (a1_0 == 2) = false := beq_eq_false_iff_ne.mpr c38
                      have c38b1 : (a1_0 != 2) = true := bne_iff_ne.mpr c38
                      clear c38
                      have H' := Aside0.mk H
                      clear H
                      have hlwc26_371_0 : w.heap.size < wc26.heap.size := (by omega)
                      try go_wp2
                      repeat (go_quiet (fail); try go_wp2)
                      go_meet
                      case rel => exact ⟨_, (false), (by first | rfl | (simp; done) | (simp [*]; done)), H', ⟨by have := HJ20.out; have := HJ26.out; first | omega | exact Nat.le_refl _⟩, ⟨BX.mk7 (by go_simp) (by go_simp) (by go_simp) (by go_simp) (by go_simp) (by go_simp) (by go_simp) (by go_simp) (by go_simp) (by go_simp) (by go_simp) (by go_simp) (by go_simp) (by go_simp) (by first | omega | (simp; done) | (simp; omega))⟩, ⟨(by repeat (first | (with_reducible first | exact HB_26.out | exact Below.refl _ _ | apply below_alloc | apply pw_below_drewN | apply below_drew1) | refine below_set ?_ (by first | omega | (simp; omega) | simp)))⟩⟩
                  case rest =>
                    rename World => wc36
                    clear HC37
                    obtain ⟨kq, x97_36, rfl, HA, HJ36, BX371_36, HB_36⟩ := hcut
                    have hs36 : w.heap.size ≤ wc36.heap.size := HB_36.out.size
                    obtain ⟨hz371_36_0, hz371_36_1, hz371_36_2, hz371_36_3, hz371_36_4, hz371_36_5, hz371_36_6, hf371_36_0, hf371_36_1, hf371_36_2, hf371_36_3, hf371_36_4, hf371_36_5, hf371_36_6, hlt371_36⟩ := BX371_36.out.out7
                    cases kq with
                    | zero => exact absurd HA.out (by simp [drayageref14_Check.j2])
                    | succ k36 =>
                      have H := HA.out
                      clear HA
                      simp only [drayageref14_Check.j2] at H
                      by_cases c43 : x97_36 = true
                      · subst c43
                        rw [if_pos rfl] at H
                        obtain rfl := Option.some.inj H
                        have hlwc36_371_0 : w.heap.size < wc36.heap.size := (by omega)
                        try go_wp2
                        repeat (go_quiet (fail); try go_wp2)
                        refine bodyPost_ret ?_ rfl ⟨rfl, ?_⟩
                        · simp [results, Try.results25, go_sem, hz371_36_0, hz371_36_1, hz371_36_2, hz371_36_3, hz371_36_4, hz371_36_5, hz371_36_6, hf371_36_0, hf371_36_1, hf371_36_2, hf371_36_3, hf371_36_4, hf371_36_5, hf371_36_6, hlwc36_371_0]
                        · exact (by repeat (first | (with_reducible first | exact HB_36.out | exact Below.refl _ _ | apply below_alloc | apply pw_below_drewN | apply below_drew1) | refine below_set ?_ (by first | omega | (simp; omega) | simp)))
                      · replace c43 := Bool.eq_false_iff.mpr c43; subst c43
                        rw [if_neg (by decide)] at H
                        have HC45 := Aside0.mk H
                        clear H
                        have hlwc36_371_0 : w.heap.size < wc36.heap.size := (by omega)
                        go_upto_region 15 with (fail)
                        repeat (go_quiet (fail); go_upto_region 15 with (fail))
                        go_cut [120] (fun v120 wq44 => ∃ (kq : Nat) (x120_44 : Bool), v120 = .bool x120_44 ∧ Aside0 (drayageref14_Check.j3 kq l0 x120_44 a1_0 a1_1 a1_2 a1_3 a1_4 a1_5 a1_6 = some r) ∧ Aside0 (kq ≤ k36) ∧ Aside0 (BX wq44 (w.heap.size) [.int .i64 a1_0, .int .i64 a1_1, .int .i64 a1_2, .bool a1_3, .int .i64 a1_4, .bool a1_5, .int .i64 a1_6]) ∧ Aside0 (Below w.heap.size w wq44))
                        case first =>
                          have H := HC45.out
                          clear HC45
                          by_cases c46 : a1_3 = true
                          · subst c46
                            rw [if_pos rfl] at H
                            by_cases c47 : a1_2 = 0
                            · rw [if_pos c47] at H
                              have c47b0 : (a1_2 == 0) = true := beq_iff_eq.mpr c47
                              have c47b1 : (a1_2 != 0) = false := bne_eq_false_iff_eq.mpr c47
                              clear c47
                              have H' := Aside0.mk H
                              clear H
                              have hlwc36_371_0 : w.heap.size < wc36.heap.size := (by omega)
                              try go_wp2
                              repeat (go_quiet (fail); try go_wp2)
                              go_meet
                              case rel => exact ⟨_, (true), (by first | rfl | (simp; done) | (simp [*]; done)), H', ⟨by have := HJ20.out; have := HJ26.out; have := HJ36.out; first | omega | exact Nat.le_refl _⟩, ⟨BX.mk7 (by go_simp) (by go_simp) (by go_simp) (by go_simp) (by go_simp) (by go_simp) (by go_simp) (by go_simp) (by go_simp) (by go_simp) (by go_simp) (by go_simp) (by go_simp) (by go_simp) (by first | omega | (simp; done) | (simp; omega))⟩, ⟨(by repeat (first | (with_reducible first | exact HB_36.out | exact Below.refl _ _ | apply below_alloc | apply pw_below_drewN | apply below_drew1) | refine below_set ?_ (by first | omega | (simp; omega) | simp)))⟩⟩
                            · rw [if_neg c47] at H
                              have c47b0 : (a1_2 == 0) = false := beq_eq_false_iff_ne.mpr c47
                              have c47b1 : (a1_2 != 0) = true := bne_iff_ne.mpr c47
                              clear c47
                              by_cases c48 : a1_4 < 1
                              · rw [if_pos c48] at H
                                have c48b0 : decide (a1_4 < 1) = true := decide_eq_true c48
                                clear c48
                                have H' := Aside0.mk H
                                clear H
                                have hlwc36_371_0 : w.heap.size < wc36.heap.size := (by omega)
                                try go_wp2
                                repeat (go_quiet (fail); try go_wp2)
                                go_meet
                                case rel => exact ⟨_, (true), (by first | rfl | (simp; done) | (simp [*]; done)), H', ⟨by have := HJ20.out; have := HJ26.out; have := HJ36.out; first | omega | exact Nat.le_refl _⟩, ⟨BX.mk7 (by go_simp) (by go_simp) (by go_simp) (by go_simp) (by go_simp) (by go_simp) (by go_simp) (by go_simp) (by go_simp) (by go_simp) (by go_simp) (by go_simp) (by go_simp) (by go_simp) (by first | omega | (simp; done) | (simp; omega))⟩, ⟨(by repeat (first | (with_reducible first | exact HB_36.out | exact Below.refl _ _ | apply below_alloc | apply pw_below_drewN | apply below_drew1) | refine below_set ?_ (by first | omega | (simp; omega) | simp)))⟩⟩
                              · rw [if_neg c48] at H
                                have c48b0 : decide (a1_4 < 1) = false := decide_eq_false c48
                                clear c48
                                by_cases c49 : 0 ≤ a1_1
                                · rw [if_pos c49] at H
                                  have c49b0 : decide (0 ≤ a1_1) = true := decide_eq_true c49
                                  clear c49
                                  by_cases c50 : a1_1 < (l0.length : Int)
                                  · rw [if_pos c50] at H
                                    have c50b0 : decide (a1_1 < (l0.length : Int)) = true := decide_eq_true c50
                                    clear c50
                                    have H' := Aside0.mk H
                                    clear H
                                    have hlwc36_371_0 : w.heap.size < wc36.heap.size := (by omega)
                                    have p375 : 0 ≤ (a1_1 : Int) := of_decide_eq_true (by first | (with_reducible assumption) | assumption)
                                    have q375 : a1_1 < (l0.length : Int) := of_decide_eq_true (by first | (with_reducible assumption) | assumption)
                                    obtain ⟨ad375, A375_2, c375_2, e375, hx375_0, hx375_1, hx375_2, hx375_3, hx375_4, hx375_5, hl375_2, hg375_2⟩ := at_T38 (Kd.C_below HR0.out HB_36.out) (a1_1) p375 q375
                                    cases e375
                                    have HG375_2 := Aside0.mk hg375_2
                                    clear hg375_2
                                    have HL375_2 := Aside0.mk hl375_2
                                    clear hl375_2
                                    have hw375 := cell_lt2 hx375_0
                                    have hbk375 := C_blk HR0.out (by omega) (by decide)
                                    have hne375_371 : ¬ ((ad375.add (a1_1.toNat * 6)).block = w.heap.size) := (by rw [add_block]; omega)
                                    have hnf375_371 : ¬ (w.heap.size = (ad375.add (a1_1.toNat * 6)).block) := (by rw [add_block]; omega)
                                    replace p375 := eq_true p375
                                    replace q375 := eq_true q375
                                    try go_wp2
                                    repeat (go_quiet (fail); try go_wp2)
                                    go_meet
                                    case rel => exact ⟨_, (decide (a1_4 > ((rd_T38 l0 a1_1).f2))), (by first | rfl | (simp; done) | (simp [*]; done)), H', ⟨by have := HJ20.out; have := HJ26.out; have := HJ36.out; first | omega | exact Nat.le_refl _⟩, ⟨BX.mk7 (by go_simp) (by go_simp) (by go_simp) (by go_simp) (by go_simp) (by go_simp) (by go_simp) (by go_simp) (by go_simp) (by go_simp) (by go_simp) (by go_simp) (by go_simp) (by go_simp) (by first | omega | (simp; done) | (simp; omega))⟩, ⟨(by repeat (first | (with_reducible first | exact HB_36.out | exact Below.refl _ _ | apply below_alloc | apply pw_below_drewN | apply below_drew1) | refine below_set ?_ (by first | omega | (simp; omega) | simp)))⟩⟩
                                  · rw [if_neg c50] at H
                                    exact absurd H (by simp)
                                · rw [if_neg c49] at H
                                  exact absurd H (by simp)
                          · replace c46 := Bool.eq_false_iff.mpr c46; subst c46
                            rw [if_neg (by decide)] at H
                            have H' := Aside0.mk H
                            clear H
                            have hlwc36_371_0 : w.heap.size < wc36.heap.size := (by omega)
                            try go_wp2
                            repeat (go_quiet (fail); try go_wp2)
                            go_meet
                            case rel => exact ⟨_, (false), (by first | rfl | (simp; done) | (simp [*]; done)), H', ⟨by have := HJ20.out; have := HJ26.out; have := HJ36.out; first | omega | exact Nat.le_refl _⟩, ⟨BX.mk7 (by go_simp) (by go_simp) (by go_simp) (by go_simp) (by go_simp) (by go_simp) (by go_simp) (by go_simp) (by go_simp) (by go_simp) (by go_simp) (by go_simp) (by go_simp) (by go_simp) (by first | omega | (simp; done) | (simp; omega))⟩, ⟨(by repeat (first | (with_reducible first | exact HB_36.out | exact Below.refl _ _ | apply below_alloc | apply pw_below_drewN | apply below_drew1) | refine below_set ?_ (by first | omega | (simp; omega) | simp)))⟩⟩
                        case rest =>
                          rename World => wc44
                          clear HC45
                          obtain ⟨kq, x120_44, rfl, HA, HJ44, BX371_44, HB_44⟩ := hcut
                          have hs44 : w.heap.size ≤ wc44.heap.size := HB_44.out.size
                          obtain ⟨hz371_44_0, hz371_44_1, hz371_44_2, hz371_44_3, hz371_44_4, hz371_44_5, hz371_44_6, hf371_44_0, hf371_44_1, hf371_44_2, hf371_44_3, hf371_44_4, hf371_44_5, hf371_44_6, hlt371_44⟩ := BX371_44.out.out7
                          cases kq with
                          | zero => exact absurd HA.out (by simp [drayageref14_Check.j3])
                          | succ k44 =>
                            have H := HA.out
                            clear HA
                            simp only [drayageref14_Check.j3] at H
                            by_cases c52 : x120_44 = true
                            · subst c52
                              rw [if_pos rfl] at H
                              obtain rfl := Option.some.inj H
                              have hlwc44_371_0 : w.heap.size < wc44.heap.size := (by omega)
                              try go_wp2
                              repeat (go_quiet (fail); try go_wp2)
                              refine bodyPost_ret ?_ rfl ⟨rfl, ?_⟩
                              · simp [results, Try.results25, go_sem, hz371_44_0, hz371_44_1, hz371_44_2, hz371_44_3, hz371_44_4, hz371_44_5, hz371_44_6, hf371_44_0, hf371_44_1, hf371_44_2, hf371_44_3, hf371_44_4, hf371_44_5, hf371_44_6, hlwc44_371_0]
                              · exact (by repeat (first | (with_reducible first | exact HB_44.out | exact Below.refl _ _ | apply below_alloc | apply pw_below_drewN | apply below_drew1) | refine below_set ?_ (by first | omega | (simp; omega) | simp)))
                            · replace c52 := Bool.eq_false_iff.mpr c52; subst c52
                              rw [if_neg (by decide)] at H
                              by_cases c53 : a1_3 = true
                              · subst c53
                                rw [if_pos rfl] at H
                                obtain rfl := Option.some.inj H
                                have hlwc44_371_0 : w.heap.size < wc44.heap.size := (by omega)
                                try go_wp2
                                repeat (go_quiet (fail); try go_wp2)
                                refine bodyPost_ret ?_ rfl ⟨rfl, ?_⟩
                                · simp [results, Try.results25, go_sem, hz371_44_0, hz371_44_1, hz371_44_2, hz371_44_3, hz371_44_4, hz371_44_5, hz371_44_6, hf371_44_0, hf371_44_1, hf371_44_2, hf371_44_3, hf371_44_4, hf371_44_5, hf371_44_6, hlwc44_371_0]
                                · exact (by repeat (first | (with_reducible first | exact HB_44.out | exact Below.refl _ _ | apply below_alloc | apply pw_below_drewN | apply below_drew1) | refine below_set ?_ (by first | omega | (simp; omega) | simp)))
                              · replace c53 := Bool.eq_false_iff.mpr c53; subst c53
                                rw [if_neg (by decide)] at H
                                by_cases c54 : a1_4 = 0
                                · rw [if_pos c54] at H
                                  have c54b0 : (a1_4 == 0) = true := beq_iff_eq.mpr c54
                                  have c54b1 : (a1_4 != 0) = false := bne_eq_false_iff_eq.mpr c54
                                  clear c54
                                  by_cases c55 : 0 ≤ a1_1
                                  · rw [if_pos c55] at H
                                    have c55b0 : decide (0 ≤ a1_1) = true := decide_eq_true c55
                                    clear c55
                                    by_cases c56 : a1_1 < (l0.length : Int)
                                    · rw [if_pos c56] at H
                                      have c56b0 : decide (a1_1 < (l0.length : Int)) = true := decide_eq_true c56
                                      clear c56
                                      by_cases c57 : a1_2 = ((rd_T38 l0 a1_1).f1)
                                      · rw [if_pos c57] at H
                                        have c57b0 : (a1_2 == ((rd_T38 l0 a1_1).f1)) = true := beq_iff_eq.mpr c57
                                        have c57b1 : (a1_2 != ((rd_T38 l0 a1_1).f1)) = false := bne_eq_false_iff_eq.mpr c57
                                        clear c57
                                        obtain rfl := Option.some.inj H
                                        have hlwc44_371_0 : w.heap.size < wc44.heap.size := (by omega)
                                        have p376 : 0 ≤ (a1_1 : Int) := of_decide_eq_true (by first | (with_reducible assumption) | assumption)
                                        have q376 : a1_1 < (l0.length : Int) := of_decide_eq_true (by first | (with_reducible assumption) | assumption)
                                        obtain ⟨ad376, A376_2, c376_2, e376, hx376_0, hx376_1, hx376_2, hx376_3, hx376_4, hx376_5, hl376_2, hg376_2⟩ := at_T38 (Kd.C_below HR0.out HB_44.out) (a1_1) p376 q376
                                        cases e376
                                        have HG376_2 := Aside0.mk hg376_2
                                        clear hg376_2
                                        have HL376_2 := Aside0.mk hl376_2
                                        clear hl376_2
                                        have hw376 := cell_lt2 hx376_0
                                        have hbk376 := C_blk HR0.out (by omega) (by decide)
                                        have hne376_371 : ¬ ((ad376.add (a1_1.toNat * 6)).block = w.heap.size) := (by rw [add_block]; omega)
                                        have hnf376_371 : ¬ (w.heap.size = (ad376.add (a1_1.toNat * 6)).block) := (by rw [add_block]; omega)
                                        replace p376 := eq_true p376
                                        replace q376 := eq_true q376
                                        try go_wp2
                                        repeat (go_quiet (fail); try go_wp2)
                                        refine bodyPost_ret ?_ rfl ⟨rfl, ?_⟩
                                        · simp [results, Try.results25, go_sem, hz371_44_0, hz371_44_1, hz371_44_2, hz371_44_3, hz371_44_4, hz371_44_5, hz371_44_6, hf371_44_0, hf371_44_1, hf371_44_2, hf371_44_3, hf371_44_4, hf371_44_5, hf371_44_6, hlwc44_371_0]
                                        · exact (by repeat (first | (with_reducible first | exact HB_44.out | exact Below.refl _ _ | apply below_alloc | apply pw_below_drewN | apply below_drew1) | refine below_set ?_ (by first | omega | (simp; omega) | simp)))
                                      · rw [if_neg c57] at H
                                        have c57b0 : (a1_2 == ((rd_T38 l0 a1_1).f1)) = false := beq_eq_false_iff_ne.mpr c57
                                        have c57b1 : (a1_2 != ((rd_T38 l0 a1_1).f1)) = true := bne_iff_ne.mpr c57
                                        clear c57
                                        obtain rfl := Option.some.inj H
                                        have hlwc44_371_0 : w.heap.size < wc44.heap.size := (by omega)
                                        have p376 : 0 ≤ (a1_1 : Int) := of_decide_eq_true (by first | (with_reducible assumption) | assumption)
                                        have q376 : a1_1 < (l0.length : Int) := of_decide_eq_true (by first | (with_reducible assumption) | assumption)
                                        obtain ⟨ad376, A376_2, c376_2, e376, hx376_0, hx376_1, hx376_2, hx376_3, hx376_4, hx376_5, hl376_2, hg376_2⟩ := at_T38 (Kd.C_below HR0.out HB_44.out) (a1_1) p376 q376
                                        cases e376
                                        have HG376_2 := Aside0.mk hg376_2
                                        clear hg376_2
                                        have HL376_2 := Aside0.mk hl376_2
                                        clear hl376_2
                                        have hw376 := cell_lt2 hx376_0
                                        have hbk376 := C_blk HR0.out (by omega) (by decide)
                                        have hne376_371 : ¬ ((ad376.add (a1_1.toNat * 6)).block = w.heap.size) := (by rw [add_block]; omega)
                                        have hnf376_371 : ¬ (w.heap.size = (ad376.add (a1_1.toNat * 6)).block) := (by rw [add_block]; omega)
                                        replace p376 := eq_true p376
                                        replace q376 := eq_true q376
                                        try go_wp2
                                        repeat (go_quiet (fail); try go_wp2)
                                        refine bodyPost_ret ?_ rfl ⟨rfl, ?_⟩
                                        · simp [results, Try.results25, go_sem, hz371_44_0, hz371_44_1, hz371_44_2, hz371_44_3, hz371_44_4, hz371_44_5, hz371_44_6, hf371_44_0, hf371_44_1, hf371_44_2, hf371_44_3, hf371_44_4, hf371_44_5, hf371_44_6, hlwc44_371_0]
                                        · exact (by repeat (first | (with_reducible first | exact HB_44.out | exact Below.refl _ _ | apply below_alloc | apply pw_below_drewN | apply below_drew1) | refine below_set ?_ (by first | omega | (simp; omega) | simp)))
                                    · rw [if_neg c56] at H
                                      exact absurd H (by simp)
                                  · rw [if_neg c55] at H
                                    exact absurd H (by simp)
                                · rw [if_neg c54] at H
                                  have c54b0 : (a1_4 == 0) = false := beq_eq_false_iff_ne.mpr c54
                                  have c54b1 : (a1_4 != 0) = true := bne_iff_ne.mpr c54
                                  clear c54
                                  obtain rfl := Option.some.inj H
                                  have hlwc44_371_0 : w.heap.size < wc44.heap.size := (by omega)
                                  try go_wp2
                                  repeat (go_quiet (fail); try go_wp2)
                                  refine bodyPost_ret ?_ rfl ⟨rfl, ?_⟩
                                  · simp [results, Try.results25, go_sem, hz371_44_0, hz371_44_1, hz371_44_2, hz371_44_3, hz371_44_4, hz371_44_5, hz371_44_6, hf371_44_0, hf371_44_1, hf371_44_2, hf371_44_3, hf371_44_4, hf371_44_5, hf371_44_6, hlwc44_371_0]
                                  · exact (by repeat (first | (with_reducible first | exact HB_44.out | exact Below.refl _ _ | apply below_alloc | apply pw_below_drewN | apply below_drew1) | refine below_set ?_ (by first | omega | (simp; omega) | simp)))
          · replace c25 := Bool.eq_false_iff.mpr c25; subst c25
            rw [if_neg (by decide)] at H
            obtain rfl := Option.some.inj H
            have hlwc20_371_0 : w.heap.size < wc20.heap.size := (by omega)
            try go_wp2
            repeat (go_quiet (fail); try go_wp2)
            refine bodyPost_ret ?_ rfl ⟨rfl, ?_⟩
            · simp [results, Try.results25, go_sem, hz371_20_0, hz371_20_1, hz371_20_2, hz371_20_3, hz371_20_4, hz371_20_5, hz371_20_6, hf371_20_0, hf371_20_1, hf371_20_2, hf371_20_3, hf371_20_4, hf371_20_5, hf371_20_6, hlwc20_371_0]
            · exact (by repeat (first | (with_reducible first | exact HB_20.out | exact Below.refl _ _ | apply below_alloc | apply pw_below_drewN | apply below_drew1) | refine below_set ?_ (by first | omega | (simp; omega) | simp)))
  · rw [if_neg c3] at H
    have c3b0 : (t372 == 0) = false := beq_eq_false_iff_ne.mpr c3
    have c3b1 : (t372 != 0) = true := bne_iff_ne.mpr c3
    clear c3
    obtain rfl := Option.some.inj H
    go_enter Try.func25, Try.ntmps25
    try go_wp2_with (first | (go_at_call 11; (with_reducible refine (drayageref13_Check.calls k _ _ l0 t372 _ ?sd0 HC0.out A2.out).mono ?_); (case sd0 => exact Kd.C_below HR0.out (by repeat (first | (with_reducible first | exact Below.refl _ _ | apply below_alloc | apply pw_below_drewN | apply below_drew1) | refine below_set ?_ (by first | omega | (simp; omega) | simp)))); rintro e w58 ⟨rfl, hb⟩; have hsw58 : w.heap.size + 1 ≤ w58.heap.size := (by have h_ := hb.size; simpa using h_); have HB_w58 : Aside0 (Below w.heap.size w w58) := Aside0.mk (below_step (by repeat (first | (with_reducible first | exact Below.refl _ _ | apply below_alloc | apply pw_below_drewN | apply below_drew1) | refine below_set ?_ (by first | omega | (simp; omega) | simp))) hb); have cw58_371 := fun o_ : Nat => hb.cell (p := ⟨w.heap.size, o_, none⟩) (by first | omega | (simp; done) | (simp; omega)); have fw58_371 := fun o_ : Nat => hb.frozen (p := ⟨w.heap.size, o_, none⟩) (by first | omega | (simp; done) | (simp; omega)); clear hb; have hlw58_371_0 : w.heap.size < w58.heap.size := (by omega)))
    repeat (go_quiet (first | (go_at_call 11; (with_reducible refine (drayageref13_Check.calls k _ _ l0 t372 _ ?sd0 HC0.out A2.out).mono ?_); (case sd0 => exact Kd.C_below HR0.out (by repeat (first | (with_reducible first | exact Below.refl _ _ | apply below_alloc | apply pw_below_drewN | apply below_drew1) | refine below_set ?_ (by first | omega | (simp; omega) | simp)))); rintro e w58 ⟨rfl, hb⟩; have hsw58 : w.heap.size + 1 ≤ w58.heap.size := (by have h_ := hb.size; simpa using h_); have HB_w58 : Aside0 (Below w.heap.size w w58) := Aside0.mk (below_step (by repeat (first | (with_reducible first | exact Below.refl _ _ | apply below_alloc | apply pw_below_drewN | apply below_drew1) | refine below_set ?_ (by first | omega | (simp; omega) | simp))) hb); have cw58_371 := fun o_ : Nat => hb.cell (p := ⟨w.heap.size, o_, none⟩) (by first | omega | (simp; done) | (simp; omega)); have fw58_371 := fun o_ : Nat => hb.frozen (p := ⟨w.heap.size, o_, none⟩) (by first | omega | (simp; done) | (simp; omega)); clear hb; have hlw58_371_0 : w.heap.size < w58.heap.size := (by omega))); try go_wp2_with (first | (go_at_call 11; (with_reducible refine (drayageref13_Check.calls k _ _ l0 t372 _ ?sd0 HC0.out A2.out).mono ?_); (case sd0 => exact Kd.C_below HR0.out (by repeat (first | (with_reducible first | exact Below.refl _ _ | apply below_alloc | apply pw_below_drewN | apply below_drew1) | refine below_set ?_ (by first | omega | (simp; omega) | simp)))); rintro e w58 ⟨rfl, hb⟩; have hsw58 : w.heap.size + 1 ≤ w58.heap.size := (by have h_ := hb.size; simpa using h_); have HB_w58 : Aside0 (Below w.heap.size w w58) := Aside0.mk (below_step (by repeat (first | (with_reducible first | exact Below.refl _ _ | apply below_alloc | apply pw_below_drewN | apply below_drew1) | refine below_set ?_ (by first | omega | (simp; omega) | simp))) hb); have cw58_371 := fun o_ : Nat => hb.cell (p := ⟨w.heap.size, o_, none⟩) (by first | omega | (simp; done) | (simp; omega)); have fw58_371 := fun o_ : Nat => hb.frozen (p := ⟨w.heap.size, o_, none⟩) (by first | omega | (simp; done) | (simp; omega)); clear hb; have hlw58_371_0 : w.heap.size < w58.heap.size := (by omega))))
    refine bodyPost_ret ?_ rfl ⟨rfl, ?_⟩
    · simp [results, Try.results25, go_sem, cw58_371, fw58_371, hlw58_371_0]
    · exact (by repeat (first | (with_reducible first | exact HB_w58.out | exact Below.refl _ _ | apply below_alloc | apply pw_below_drewN | apply below_drew1) | refine below_set ?_ (by first | omega | (simp; omega) | simp)))

/-! ### drayageref14_Next: function 17 -/
def drayageref14_Next.f (k : Nat) (l0 : List (S38)) (a1_0 : Int) (a1_1 : Int) (a1_2 : Int) (a1_3 : Bool) (a1_4 : Int) (a1_5 : Bool) (a1_6 : Int) : Option (Int × Bool × Int × Bool) := (drayageref14_Check.f k l0 a1_0 a1_1 a1_2 a1_3 a1_4 a1_5 a1_6).bind fun t379 => (if t379 = 0 then (if a1_0 = 3 then (some (0, false, 0, false)) else (if a1_3 = true then (some (0, false, 0, false)) else (some (a1_1, (a1_0 == 2), wrap64 (a1_2 + 1), true)))) else (some (0, false, 0, false)))

attribute [local go_sem] cell_alloc_lt2 cell_set_ne2

end Go.Proofs.Yteefdhgfcnjpoaa.PA
