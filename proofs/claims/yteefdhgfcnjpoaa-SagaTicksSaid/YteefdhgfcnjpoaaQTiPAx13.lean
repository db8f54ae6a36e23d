-- printed by a program of this work (wip/tools/pr.py over the kit's print): the machine's side of SagaTries, SagaMoves, SagaStays, SagaOrder, SagaEnds, SagaTicks
import Derived.Test.YteefdhgfcnjpoaaQTiPAx0
import Derived.Test.YteefdhgfcnjpoaaQTiPAx7
import Derived.Test.YteefdhgfcnjpoaaQTiPAx9
import Derived.Test.YteefdhgfcnjpoaaQTiPAx11
import Derived.Test.YteefdhgfcnjpoaaQTiPAx12
namespace Go.Proofs.Yteefdhgfcnjpoaa.PA
open Go.RowKit Go.Proofs.YteefdhgfcnjpoaaW.PrintWords Go.Proofs.YteefdhgfcnjpoaaW.PrintLast Go.Proofs.YteefdhgfcnjpoaaW.PrintMore
attribute [local go_sem] max2_int min2_int max_two min_two max_three min_three max_four min_four   -- for this text's walks alone
set_option linter.unusedVariables false
set_option linter.unusedSimpArgs false

/-! ### drayageref14_Tell: function 19 -/
mutual
def drayageref14_Tell.j0 : Nat → List (S38) → Int → Bool → Int → Bool → Int → Int → Int → Bool → Int → Bool → Int → Option (Int × Int × Int × Bool × Int × Bool × Int × Int)
  | 0, _, _, _, _, _, _, _, _, _, _, _, _ => none
  | k + 1, x0, x2, x3, x4, x27, x387000, x387001, x387002, x387003, x387004, x387005, x387006 => if x27 = true then (some (0, 0, 0, false, 0, false, 0, 2)) else (if x387003 = true then (if x2 = x387001 then (drayageref14_Tell.j1 k x0 x4 (x3 != (x387000 == 2)) x387000 x387001 x387002 x387003 x387004 x387005 x387006) else (drayageref14_Tell.j1 k x0 x4 true x387000 x387001 x387002 x387003 x387004 x387005 x387006)) else (drayageref14_Tell.j1 k x0 x4 true x387000 x387001 x387002 x387003 x387004 x387005 x387006))
def drayageref14_Tell.j1 : Nat → List (S38) → Int → Bool → Int → Int → Int → Bool → Int → Bool → Int → Option (Int × Int × Int × Bool × Int × Bool × Int × Int)
  | 0, _, _, _, _, _, _, _, _, _, _ => none
  | k + 1, x0, x4, x44, x387000, x387001, x387002, x387003, x387004, x387005, x387006 => if x44 = true then (some (x387000, x387001, x387002, x387003, x387004, x387005, x387006, 0)) else (if 0 ≤ x387001 then (if x387001 < (x0.length : Int) then (if x387000 = 1 then (if x4 = 1 then (if x387005 = true then ((drayageref14_back.f k x0 x387001).bind fun bt391 => (some (bt391.1, bt391.2.1, bt391.2.2.1, bt391.2.2.2.1, bt391.2.2.2.2.1, bt391.2.2.2.2.2.1, bt391.2.2.2.2.2.2, 0))) else (if (wrap64 (x387001 + 1)) = (x0.length : Int) then (some (3, 0, 0, false, 0, false, 1, 0)) else (some (1, wrap64 (x387001 + 1), 0, false, 0, false, 0, 0)))) else (if x4 = 2 then ((drayageref14_back.f k x0 (wrap64 (x387001 - 1))).bind fun bt398 => (some (bt398.1, bt398.2.1, bt398.2.2.1, bt398.2.2.2.1, bt398.2.2.2.2.1, bt398.2.2.2.2.2.1, bt398.2.2.2.2.2.2, 0))) else (if x387005 = true then ((drayageref14_back.f k x0 x387001).bind fun bt405 => (some (bt405.1, bt405.2.1, bt405.2.2.1, bt405.2.2.2.1, bt405.2.2.2.2.1, bt405.2.2.2.2.2.1, bt405.2.2.2.2.2.2, 0))) else (if x387002 = ((rd_T38 x0 x387001).f1) then ((drayageref14_back.f k x0 x387001).bind fun bt412 => (some (bt412.1, bt412.2.1, bt412.2.2.1, bt412.2.2.2.1, bt412.2.2.2.2.1, bt412.2.2.2.2.2.1, bt412.2.2.2.2.2.2, 0))) else (some (x387000, x387001, x387002, false, 0, x387005, x387006, 0)))))) else (if x4 = 1 then ((drayageref14_back.f k x0 (wrap64 (x387001 - 1))).bind fun bt419 => (some (bt419.1, bt419.2.1, bt419.2.2.1, bt419.2.2.2.1, bt419.2.2.2.2.1, bt419.2.2.2.2.2.1, bt419.2.2.2.2.2.2, 0))) else (if x387002 = ((rd_T38 x0 x387001).f1) then (some (3, 0, 0, false, 0, false, 3, 0)) else (some (x387000, x387001, x387002, false, 0, x387005, x387006, 0))))) else (none)) else (none))
end
def drayageref14_Tell.f (k : Nat) (l0 : List (S38)) (a1_0 : Int) (a1_1 : Int) (a1_2 : Int) (a1_3 : Bool) (a1_4 : Int) (a1_5 : Bool) (a1_6 : Int) (a2 : Int) (a3 : Bool) (a4 : Int) : Option (Int × Int × Int × Bool × Int × Bool × Int × Int) := (drayageref14_Check.f k l0 a1_0 a1_1 a1_2 a1_3 a1_4 a1_5 a1_6).bind fun t388 => (if t388 = 0 then (if a4 < 1 then (drayageref14_Tell.j0 k l0 a2 a3 a4 true a1_0 a1_1 a1_2 a1_3 a1_4 a1_5 a1_6) else (drayageref14_Tell.j0 k l0 a2 a3 a4 (decide (a4 > 3)) a1_0 a1_1 a1_2 a1_3 a1_4 a1_5 a1_6)) else (some (0, 0, 0, false, 0, false, 0, t388)))
theorem drayageref14_Tell.mono_l : ∀ k, (∀ y0 y1 y2 y3 y4 y5 y6 y7 y8 y9 y10 y11, LeO (drayageref14_Tell.j0 k y0 y1 y2 y3 y4 y5 y6 y7 y8 y9 y10 y11) (drayageref14_Tell.j0 (k + 1) y0 y1 y2 y3 y4 y5 y6 y7 y8 y9 y10 y11)) ∧ (∀ y0 y1 y2 y3 y4 y5 y6 y7 y8 y9, LeO (drayageref14_Tell.j1 k y0 y1 y2 y3 y4 y5 y6 y7 y8 y9) (drayageref14_Tell.j1 (k + 1) y0 y1 y2 y3 y4 y5 y6 y7 y8 y9))
  | 0 => ⟨fun _ _ _ _ _ _ _ _ _ _ _ _ r h => by simp [drayageref14_Tell.j0] at h, fun _ _ _ _ _ _ _ _ _ _ r h => by simp [drayageref14_Tell.j1] at h⟩
  | k + 1 => by
    obtain ⟨ih0, ih1⟩ := drayageref14_Tell.mono_l k
    refine ⟨?_, ?_⟩
    · intro y0 y1 y2 y3 y4 y5 y6 y7 y8 y9 y10 y11
      unfold drayageref14_Tell.j0
      repeat' first
      | (with_reducible exact ih0 _ _ _ _ _ _ _ _ _ _ _ _)
      | (with_reducible exact ih1 _ _ _ _ _ _ _ _ _ _)
      | (with_reducible exact drayageref14_Check.mono _ _ _ _ _ _ _ _ _)
      | (with_reducible exact drayageref14_back.mono _ _ _)
      | (with_reducible exact LeO.refl _)
      | (with_reducible exact LeO.none _)
      | (with_reducible refine LeO.ite ?_ ?_)
      | (with_reducible refine LeO.bind ?_ (fun _ => ?_))
      | exact ih0 _ _ _ _ _ _ _ _ _ _ _ _
      | exact ih1 _ _ _ _ _ _ _ _ _ _
      | exact drayageref14_Check.mono _ _ _ _ _ _ _ _ _
      | exact drayageref14_back.mono _ _ _
      | exact LeO.none _
      | refine LeO.ite ?_ ?_
      | refine LeO.bind ?_ (fun _ => ?_)
    · intro y0 y1 y2 y3 y4 y5 y6 y7 y8 y9
      unfold drayageref14_Tell.j1
      repeat' first
      | (with_reducible exact ih0 _ _ _ _ _ _ _ _ _ _ _ _)
      | (with_reducible exact ih1 _ _ _ _ _ _ _ _ _ _)
      | (with_reducible exact drayageref14_Check.mono _ _ _ _ _ _ _ _ _)
      | (with_reducible exact drayageref14_back.mono _ _ _)
      | (with_reducible exact LeO.refl _)
      | (with_reducible exact LeO.none _)
      | (with_reducible refine LeO.ite ?_ ?_)
      | (with_reducible refine LeO.bind ?_ (fun _ => ?_))
      | exact ih0 _ _ _ _ _ _ _ _ _ _ _ _
      | exact ih1 _ _ _ _ _ _ _ _ _ _
      | exact drayageref14_Check.mono _ _ _ _ _ _ _ _ _
      | exact drayageref14_back.mono _ _ _
      | exact LeO.none _
      | refine LeO.ite ?_ ?_
      | refine LeO.bind ?_ (fun _ => ?_)
theorem drayageref14_Tell.mono : ∀ a0 a1 a2 a3 a4 a5 a6 a7 a8 a9 a10 k, LeO (drayageref14_Tell.f k a0 a1 a2 a3 a4 a5 a6 a7 a8 a9 a10) (drayageref14_Tell.f (k + 1) a0 a1 a2 a3 a4 a5 a6 a7 a8 a9 a10) := by
  intro a0 a1 a2 a3 a4 a5 a6 a7 a8 a9 a10 k
  obtain ⟨ih0, ih1⟩ := drayageref14_Tell.mono_l k
  unfold drayageref14_Tell.f
  repeat' first
      | (with_reducible exact ih0 _ _ _ _ _ _ _ _ _ _ _ _)
      | (with_reducible exact ih1 _ _ _ _ _ _ _ _ _ _)
      | (with_reducible exact drayageref14_Check.mono _ _ _ _ _ _ _ _ _)
      | (with_reducible exact drayageref14_back.mono _ _ _)
      | (with_reducible exact LeO.refl _)
      | (with_reducible exact LeO.none _)
      | (with_reducible refine LeO.ite ?_ ?_)
      | (with_reducible refine LeO.bind ?_ (fun _ => ?_))
      | exact ih0 _ _ _ _ _ _ _ _ _ _ _ _
      | exact ih1 _ _ _ _ _ _ _ _ _ _
      | exact drayageref14_Check.mono _ _ _ _ _ _ _ _ _
      | exact drayageref14_back.mono _ _ _
      | exact LeO.none _
      | refine LeO.ite ?_ ?_
      | refine LeO.bind ?_ (fun _ => ?_)
theorem size_drewN (w : World) (n : Nat) : (w.drewN n).heap.size = w.heap.size := (Eq.refl w.heap.size).trans (Eq.refl _)
theorem cell_alloc_drewN (w : World) (n : Nat) (c : Array Value) (t : TypeId) (i : Nat) : ((w.drewN n).alloc (.cells c t)).cell? ⟨w.heap.size, i, none⟩ = c[i]? := World.cell?_alloc_at _ _ _ _ rfl
theorem frozen_alloc_drewN (w : World) (n : Nat) (c : Array Value) (t : TypeId) (i : Nat) : ((w.drewN n).alloc (.cells c t)).frozen? ⟨w.heap.size, i, none⟩ = false := World.frozen?_alloc_at _ _ _ _ rfl
attribute [local go_sem] cell_alloc_lt2 cell_set_ne2
attribute [local go_sem] cell_alloc_drewN frozen_alloc_drewN
attribute [local go_sem ↓] size_drewN
set_option maxHeartbeats 8000000 in
set_option maxRecDepth 100000 in
theorem drayageref14_Tell.calls (k : Nat) (A0 : Option Addr) (c0 : Nat) (l0 : List (S38)) (a1_0 : Int) (a1_1 : Int) (a1_2 : Int) (a1_3 : Bool) (a1_4 : Int) (a1_5 : Bool) (a1_6 : Int) (a2 : Int) (a3 : Bool) (a4 : Int) (r1 : Int) (r2 : Int) (r3 : Int) (r4 : Bool) (r5 : Int) (r6 : Bool) (r7 : Int) (r8 : Int) (w : World) (hr0 : Kd.C k38 w A0 l0.length l0) (hc0 : l0.length ≤ c0) (h : drayageref14_Tell.f k l0 a1_0 a1_1 a1_2 a1_3 a1_4 a1_5 a1_6 a2 a3 a4 = some (r1, r2, r3, r4, r5, r6, r7, r8)) :
    Calls Try.prog 19 #[.slice A0 l0.length c0, .agg #[.int .i64 a1_0, .int .i64 a1_1, .int .i64 a1_2, .bool a1_3, .int .i64 a1_4, .bool a1_5, .int .i64 a1_6], .int .i64 a2, .bool a3, .int .i64 a4] w fun e w' => e = .returned (.tuple #[.agg #[.int .i64 r1, .int .i64 r2, .int .i64 r3, .bool r4, .int .i64 r5, .bool r6, .int .i64 r7], .int .i64 r8]) ∧ Below w.heap.size w w' := by
  have hu28 := Try.underlying28
  have HR0 := Aside0.mk hr0
  have HC0 := Aside0.mk hc0
  clear hr0 hc0
  have HB := Aside0.mk (Below.refl w.heap.size w)
  have H := h
  clear h
  unfold drayageref14_Tell.f at H
  obtain ⟨t388, A_, H⟩ := Option.bind_eq_some_iff.mp H
  try dsimp only at H
  have A2 := Aside0.mk A_
  clear A_
  by_cases c3 : t388 = 0
  · rw [if_pos c3] at H
    have c3b0 : (t388 == 0) = true := beq_iff_eq.mpr c3
    have c3b1 : (t388 != 0) = false := bne_eq_false_iff_eq.mpr c3
    clear c3
    have HC5 := Aside0.mk H
    clear H
    go_enter Try.func19, Try.ntmps19
    go_upto_region 4 with (first | (go_at_call 25; (with_reducible refine (drayageref14_Check.calls k _ _ l0 a1_0 a1_1 a1_2 a1_3 a1_4 a1_5 a1_6 t388 _ ?sd0 HC0.out A2.out).mono ?_); (case sd0 => exact Kd.C_below HR0.out (by repeat (first | (with_reducible first | exact Below.refl _ _ | apply below_alloc | apply pw_below_drewN | apply below_drew1) | refine below_set ?_ (by first | omega | (simp; omega) | simp)))); rintro e w6 ⟨rfl, hb⟩; have hsw6 : w.heap.size + 2 ≤ w6.heap.size := (by have h_ := hb.size; simpa using h_); have HB_w6 : Aside0 (Below w.heap.size w w6) := Aside0.mk (below_step (by repeat (first | (with_reducible first | exact Below.refl _ _ | apply below_alloc | apply pw_below_drewN | apply below_drew1) | refine below_set ?_ (by first | omega | (simp; omega) | simp))) hb); have cw6_386 := fun o_ : Nat => hb.cell (p := ⟨w.heap.size, o_, none⟩) (by first | omega | (simp; done) | (simp; omega)); have fw6_386 := fun o_ : Nat => hb.frozen (p := ⟨w.heap.size, o_, none⟩) (by first | omega | (simp; done) | (simp; omega)); have cw6_387 := fun o_ : Nat => hb.cell (p := ⟨w.heap.size + 1, o_, none⟩) (by first | omega | (simp; done) | (simp; omega)); have fw6_387 := fun o_ : Nat => hb.frozen (p := ⟨w.heap.size + 1, o_, none⟩) (by first | omega | (simp; done) | (simp; omega)); clear hb; have hlw6_386_0 : w.heap.size < w6.heap.size := (by omega); have hlw6_387_0 : w.heap.size + 1 < w6.heap.size := (by omega)))
    repeat (go_quiet (first | (go_at_call 25; (with_reducible refine (drayageref14_Check.calls k _ _ l0 a1_0 a1_1 a1_2 a1_3 a1_4 a1_5 a1_6 t388 _ ?sd0 HC0.out A2.out).mono ?_); (case sd0 => exact Kd.C_below HR0.out (by repeat (first | (with_reducible first | exact Below.refl _ _ | apply below_alloc | apply pw_below_drewN | apply below_drew1) | refine below_set ?_ (by first | omega | (simp; omega) | simp)))); rintro e w6 ⟨rfl, hb⟩; have hsw6 : w.heap.size + 2 ≤ w6.heap.size := (by have h_ := hb.size; simpa using h_); have HB_w6 : Aside0 (Below w.heap.size w w6) := Aside0.mk (below_step (by repeat (first | (with_reducible first | exact Below.refl _ _ | apply below_alloc | apply pw_below_drewN | apply below_drew1) | refine below_set ?_ (by first | omega | (simp; omega) | simp))) hb); have cw6_386 := fun o_ : Nat => hb.cell (p := ⟨w.heap.size, o_, none⟩) (by first | omega | (simp; done) | (simp; omega)); have fw6_386 := fun o_ : Nat => hb.frozen (p := ⟨w.heap.size, o_, none⟩) (by first | omega | (simp; done) | (simp; omega)); have cw6_387 := fun o_ : Nat => hb.cell (p := ⟨w.heap.size + 1, o_, none⟩) (by first | omega | (simp; done) | (simp; omega)); have fw6_387 := fun o_ : Nat => hb.frozen (p := ⟨w.heap.size + 1, o_, none⟩) (by first | omega | (simp; done) | (simp; omega)); clear hb; have hlw6_386_0 : w.heap.size < w6.heap.size := (by omega); have hlw6_387_0 : w.heap.size + 1 < w6.heap.size := (by omega))); go_upto_region 4 with (first | (go_at_call 25; (with_reducible refine (drayageref14_Check.calls k _ _ l0 a1_0 a1_1 a1_2 a1_3 a1_4 a1_5 a1_6 t388 _ ?sd0 HC0.out A2.out).mono ?_); (case sd0 => exact Kd.C_below HR0.out (by repeat (first | (with_reducible first | exact Below.refl _ _ | apply below_alloc | apply pw_below_drewN | apply below_drew1) | refine below_set ?_ (by first | omega | (simp; omega) | simp)))); rintro e w6 ⟨rfl, hb⟩; have hsw6 : w.heap.size + 2 ≤ w6.heap.size := (by have h_ := hb.size; simpa using h_); have HB_w6 : Aside0 (Below w.heap.size w w6) := Aside0.mk (below_step (by repeat (first | (with_reducible first | exact Below.refl _ _ | apply below_alloc | apply pw_below_drewN | apply below_drew1) | refine below_set ?_ (by first | omega | (simp; omega) | simp))) hb); have cw6_386 := fun o_ : Nat => hb.cell (p := ⟨w.heap.size, o_, none⟩) (by first | omega | (simp; done) | (simp; omega)); have fw6_386 := fun o_ : Nat => hb.frozen (p := ⟨w.heap.size, o_, none⟩) (by first | omega | (simp; done) | (simp; omega)); have cw6_387 := fun o_ : Nat => hb.cell (p := ⟨w.heap.size + 1, o_, none⟩) (by first | omega | (simp; done) | (simp; omega)); have fw6_387 := fun o_ : Nat => hb.frozen (p := ⟨w.heap.size + 1, o_, none⟩) (by first | omega | (simp; done) | (simp; omega)); clear hb; have hlw6_386_0 : w.heap.size < w6.heap.size := (by omega); have hlw6_387_0 : w.heap.size + 1 < w6.heap.size := (by omega))))
    (try simp only [Act.put, List.setIfInBounds_toArray, List.set_cons_zero, List.set_cons_succ])
    go_cut [27] (fun v27 wq4 => ∃ (kq : Nat) (x27_4 : Bool), v27 = .bool x27_4 ∧ Aside0 (drayageref14_Tell.j0 kq l0 a2 a3 a4 x27_4 a1_0 a1_1 a1_2 a1_3 a1_4 a1_5 a1_6 = some (r1, r2, r3, r4, r5, r6, r7, r8)) ∧ Aside0 (kq ≤ k) ∧ Aside0 (BX wq4 (w.heap.size) [.int .i64 a1_0, .int .i64 a1_1, .int .i64 a1_2, .bool a1_3, .int .i64 a1_4, .bool a1_5, .int .i64 a1_6]) ∧ Aside0 (BX wq4 (w.heap.size + 1) [.int .i64 0, .int .i64 0, .int .i64 0, .bool false, .int .i64 0, .bool false, .int .i64 0]) ∧ Aside0 (Below w.heap.size w wq4))
    case first =>
      have H := HC5.out
      clear HC5
      by_cases c7 : a4 < 1
      · rw [if_pos c7] at H
        have c7b0 : decide (a4 < 1) = true := decide_eq_true c7
        clear c7
        have H' := Aside0.mk H
        clear H
        have hlw6_386_0 : w.heap.size < w6.heap.size := (by omega)
        have hlw6_387_0 : w.heap.size + 1 < w6.heap.size := (by omega)
        try go_wp2
        repeat (go_quiet (fail); try go_wp2)
        go_meet
        case rel => exact ⟨_, (true), (by first | rfl | (simp; done) | (simp [*]; done)), H', ⟨by first | omega | exact Nat.le_refl _⟩, ⟨BX.mk7 (by go_simp) (by go_simp) (by go_simp) (by go_simp) (by go_simp) (by go_simp) (by go_simp) (by go_simp) (by go_simp) (by go_simp) (by go_simp) (by go_simp) (by go_simp) (by go_simp) (by first | omega | (simp; done) | (simp; omega))⟩, ⟨BX.mk7 (by go_simp) (by go_simp) (by go_simp) (by go_simp) (by go_simp) (by go_simp) (by go_simp) (by go_simp) (by go_simp) (by go_simp) (by go_simp) (by go_simp) (by go_simp) (by go_simp) (by first | omega | (simp; done) | (simp; omega))⟩, ⟨(by repeat (first | (with_reducible first | exact HB_w6.out | exact Below.refl _ _ | apply below_alloc | apply pw_below_drewN | apply below_drew1) | refine below_set ?_ (by first | omega | (simp; omega) | simp)))⟩⟩
      · rw [if_neg c7] at H
        have c7b0 : decide (a4 < 1) = false := decide_eq_false c7
        clear c7
        have H' := Aside0.mk H
        clear H
        have hlw6_386_0 : w.heap.size < w6.heap.size := (by omega)
        have hlw6_387_0 : w.heap.size + 1 < w6.heap.size := (by omega)
        try go_wp2
        repeat (go_quiet (fail); try go_wp2)
        go_meet
        case rel => exact ⟨_, (decide (a4 > 3)), (by first | rfl | (simp; done) | (simp [*]; done)), H', ⟨by first | omega | exact Nat.le_refl _⟩, ⟨BX.mk7 (by go_simp) (by go_simp) (by go_simp) (by go_simp) (by go_simp) (by go_simp) (by go_simp) (by go_simp) (by go_simp) (by go_simp) (by go_simp) (by go_simp) (by go_simp) (by go_simp) (by first | omega | (simp; done) | (simp; omega))⟩, ⟨BX.mk7 (by go_simp) (by go_simp) (by go_simp) (by go_simp) (by go_simp) (by go_simp) (by go_simp) (by go_simp) (by go_simp) (by go_simp) (by go_simp) (by go_simp) (by go_simp) (by go_simp) (by first | omega | (simp; done) | (simp; omega))⟩, ⟨(by repeat (first | (with_reducible first | exact HB_w6.out | exact Below.refl _ _ | apply below_alloc | apply pw_below_drewN | apply below_drew1) | refine below_set ?_ (by first | omega | (simp; omega) | simp)))⟩⟩
    case rest =>
      rename World => wc4
      clear HC5
      obtain ⟨kq, x27_4, rfl, HA, HJ4, BX386_4, BX387_4, HB_4⟩ := hcut
      have hs4 : w.heap.size ≤ wc4.heap.size := HB_4.out.size
      obtain ⟨hz386_4_0, hz386_4_1, hz386_4_2, hz386_4_3, hz386_4_4, hz386_4_5, hz386_4_6, hf386_4_0, hf386_4_1, hf386_4_2, hf386_4_3, hf386_4_4, hf386_4_5, hf386_4_6, hlt386_4⟩ := BX386_4.out.out7
      obtain ⟨hz387_4_0, hz387_4_1, hz387_4_2, hz387_4_3, hz387_4_4, hz387_4_5, hz387_4_6, hf387_4_0, hf387_4_1, hf387_4_2, hf387_4_3, hf387_4_4, hf387_4_5, hf387_4_6, hlt387_4⟩ := BX387_4.out.out7
      cases kq with
      | zero => exact absurd HA.out (by simp [drayageref14_Tell.j0])
      | succ k4 =>
        have H := HA.out
        clear HA
        simp only [drayageref14_Tell.j0] at H
        by_cases c9 : x27_4 = true
        · subst c9
          rw [if_pos rfl] at H
          simp only [Option.some.injEq, Prod.mk.injEq] at H
          obtain ⟨rfl, rfl, rfl, rfl, rfl, rfl, rfl, rfl⟩ := H
          have hlwc4_386_0 : w.heap.size < wc4.heap.size := (by omega)
          have hlwc4_387_0 : w.heap.size + 1 < wc4.heap.size := (by omega)
          try go_wp2
          repeat (go_quiet (fail); try go_wp2)
          refine bodyPost_ret ?_ rfl ⟨rfl, ?_⟩
          · simp [results, Try.results19, go_sem, hz386_4_0, hz386_4_1, hz386_4_2, hz386_4_3, hz386_4_4, hz386_4_5, hz386_4_6, hf386_4_0, hf386_4_1, hf386_4_2, hf386_4_3, hf386_4_4, hf386_4_5, hf386_4_6, hz387_4_0, hz387_4_1, hz387_4_2, hz387_4_3, hz387_4_4, hz387_4_5, hz387_4_6, hf387_4_0, hf387_4_1, hf387_4_2, hf387_4_3, hf387_4_4, hf387_4_5, hf387_4_6, hlwc4_386_0, hlwc4_387_0]
          · exact (by repeat (first | (with_reducible first | exact HB_4.out | exact Below.refl _ _ | apply below_alloc | apply pw_below_drewN | apply below_drew1) | refine below_set ?_ (by first | omega | (simp; omega) | simp)))
        · replace c9 := Bool.eq_false_iff.mpr c9; subst c9
          rw [if_neg (by decide)] at H
          have HC11 := Aside0.mk H
          clear H
          have hlwc4_386_0 : w.heap.size < wc4.heap.size := (by omega)
          have hlwc4_387_0 : w.heap.size + 1 < wc4.heap.size := (by omega)
          go_upto_region 6 with (fail)
          repeat (go_quiet (fail); go_upto_region 6 with (fail))
          go_cut [44] (fun v44 wq10 => ∃ (kq : Nat) (x44_10 : Bool), v44 = .bool x44_10 ∧ Aside0 (drayageref14_Tell.j1 kq l0 a4 x44_10 a1_0 a1_1 a1_2 a1_3 a1_4 a1_5 a1_6 = some (r1, r2, r3, r4, r5, r6, r7, r8)) ∧ Aside0 (kq ≤ k4) ∧ Aside0 (BX wq10 (w.heap.size) [.int .i64 a1_0, .int .i64 a1_1, .int .i64 a1_2, .bool a1_3, .int .i64 a1_4, .bool a1_5, .int .i64 a1_6]) ∧ Aside0 (BX wq10 (w.heap.size + 1) [.int .i64 0, .int .i64 0, .int .i64 0, .bool false, .int .i64 0, .bool false, .int .i64 0]) ∧ Aside0 (Below w.heap.size w wq10))
          case first =>
            have H := HC11.out
            clear HC11
            by_cases c12 : a1_3 = true
            · subst c12
              rw [if_pos rfl] at H
              by_cases c13 : a2 = a1_1
              · rw [if_pos c13] at H
                have c13b0 : (a2 == a1_1) = true := beq_iff_eq.mpr c13
                have c13b1 : (a2 != a1_1) = false := bne_eq_false_iff_eq.mpr c13
                clear c13
                have H' := Aside0.mk H
                clear H
                have hlwc4_386_0 : w.heap.size < wc4.heap.size := (by omega)
                have hlwc4_387_0 : w.heap.size + 1 < wc4.heap.size := (by omega)
                try go_wp2
                repeat (go_quiet (fail); try go_wp2)
                go_meet
                case rel => exact ⟨_, ((a3 != (a1_0 == 2))), (by first | rfl | (simp; done) | (simp [*]; done)), H', ⟨by have := HJ4.out; first | omega | exact Nat.le_refl _⟩, ⟨BX.mk7 (by go_simp) (by go_simp) (by go_simp) (by go_simp) (by go_simp) (by go_simp) (by go_simp) (by go_simp) (by go_simp) (by go_simp) (by go_simp) (by go_simp) (by go_simp) (by go_simp) (by first | omega | (simp; done) | (simp; omega))⟩, ⟨BX.mk7 (by go_simp) (by go_simp) (by go_simp) (by go_simp) (by go_simp) (by go_simp) (by go_simp) (by go_simp) (by go_simp) (by go_simp) (by go_simp) (by go_simp) (by go_simp) (by go_simp) (by first | omega | (simp; done) | (simp; omega))⟩, ⟨(by repeat (first | (with_reducible first | exact HB_4.out | exact Below.refl _ _ | apply below_alloc | apply pw_below_drewN | apply below_drew1) | refine below_set ?_ (by first | omega | (simp; omega) | simp)))⟩⟩
              · rw [if_neg c13] at H
                have c13b0 : (a2 == a1_1) = false := beq_eq_false_iff_ne.mpr c13
                have c13b1 : (a2 != a1_1) = true := bne_iff_ne.mpr c13
                clear c13
                have H' := Aside0.mk H
                clear H
                have hlwc4_386_0 : w.heap.size < wc4.heap.size := (by omega)
                have hlwc4_387_0 : w.heap.size + 1 < wc4.heap.size := (by omega)
                try go_wp2
                repeat (go_quiet (fail); try go_wp2)
                go_meet
                case rel => exact ⟨_, (true), (by first | rfl | (simp; done) | (simp [*]; done)), H', ⟨by have := HJ4.out; first | omega | exact Nat.le_refl _⟩, ⟨BX.mk7 (by go_simp) (by go_simp) (by go_simp) (by go_simp) (by go_simp) (by go_simp) (by go_simp) (by go_simp) (by go_simp) (by go_simp) (by go_simp) (by go_simp) (by go_simp) (by go_simp) (by first | omega | (simp; done) | (simp; omega))⟩, ⟨BX.mk7 (by go_simp) (by go_simp) (by go_simp) (by go_simp) (by go_simp) (by go_simp) (by go_simp) (by go_simp) (by go_simp) (by go_simp) (by go_simp) (by go_simp) (by go_simp) (by go_simp) (by first | omega | (simp; done) | (simp; omega))⟩, ⟨(by repeat (first | (with_reducible first | exact HB_4.out | exact Below.refl _ _ | apply below_alloc | apply pw_below_drewN | apply below_drew1) | refine below_set ?_ (by first | omega | (simp; omega) | simp)))⟩⟩
            · replace c12 := Bool.eq_false_iff.mpr c12; subst c12
              rw [if_neg (by decide)] at H
              have H' := Aside0.mk H
              clear H
              have hlwc4_386_0 : w.heap.size < wc4.heap.size := (by omega)
              have hlwc4_387_0 : w.heap.size + 1 < wc4.heap.size := (by omega)
              try go_wp2
              repeat (go_quiet (fail); try go_wp2)
              go_meet
              case rel => exact ⟨_, (true), (by first | rfl | (simp; done) | (simp [*]; done)), H', ⟨by have := HJ4.out; first | omega | exact Nat.le_refl _⟩, ⟨BX.mk7 (by go_simp) (by go_simp) (by go_simp) (by go_simp) (by go_simp) (by go_simp) (by go_simp) (by go_simp) (by go_simp) (by go_simp) (by go_simp) (by go_simp) (by go_simp) (by go_simp) (by first | omega | (simp; done) | (simp; omega))⟩, ⟨BX.mk7 (by go_simp) (by go_simp) (by go_simp) (by go_simp) (by go_simp) (by go_simp) (by go_simp) (by go_simp) (by go_simp) (by go_simp) (by go_simp) (by go_simp) (by go_simp) (by go_simp) (by first | omega | (simp; done) | (simp; omega))⟩, ⟨(by repeat (first | (with_reducible first | exact HB_4.out | exact Below.refl _ _ | apply below_alloc | apply pw_below_drewN | apply below_drew1) | refine below_set ?_ (by first | omega | (simp; omega) | simp)))⟩⟩
          case rest =>
            rename World => wc10
            clear HC11
            obtain ⟨kq, x44_10, rfl, HA, HJ10, BX386_10, BX387_10, HB_10⟩ := hcut
            have hs10 : w.heap.size ≤ wc10.heap.size := HB_10.out.size
            obtain ⟨hz386_10_0, hz386_10_1, hz386_10_2, hz386_10_3, hz386_10_4, hz386_10_5, hz386_10_6, hf386_10_0, hf386_10_1, hf386_10_2, hf386_10_3, hf386_10_4, hf386_10_5, hf386_10_6, hlt386_10⟩ := BX386_10.out.out7
            obtain ⟨hz387_10_0, hz387_10_1, hz387_10_2, hz387_10_3, hz387_10_4, hz387_10_5, hz387_10_6, hf387_10_0, hf387_10_1, hf387_10_2, hf387_10_3, hf387_10_4, hf387_10_5, hf387_10_6, hlt387_10⟩ := BX387_10.out.out7
            cases kq with
            | zero => exact absurd HA.out (by simp [drayageref14_Tell.j1])
            | succ k10 =>
              have H := HA.out
              clear HA
              simp only [drayageref14_Tell.j1] at H
              by_cases c15 : x44_10 = true
              · subst c15
                rw [if_pos rfl] at H
                simp only [Option.some.injEq, Prod.mk.injEq] at H
                obtain ⟨rfl, rfl, rfl, rfl, rfl, rfl, rfl, rfl⟩ := H
                have hlwc10_386_0 : w.heap.size < wc10.heap.size := (by omega)
                have hlwc10_387_0 : w.heap.size + 1 < wc10.heap.size := (by omega)
                try go_wp2
                repeat (go_quiet (fail); try go_wp2)
                refine bodyPost_ret ?_ rfl ⟨rfl, ?_⟩
                · simp [results, Try.results19, go_sem, hz386_10_0, hz386_10_1, hz386_10_2, hz386_10_3, hz386_10_4, hz386_10_5, hz386_10_6, hf386_10_0, hf386_10_1, hf386_10_2, hf386_10_3, hf386_10_4, hf386_10_5, hf386_10_6, hz387_10_0, hz387_10_1, hz387_10_2, hz387_10_3, hz387_10_4, hz387_10_5, hz387_10_6, hf387_10_0, hf387_10_1, hf387_10_2, hf387_10_3, hf387_10_4, hf387_10_5, hf387_10_6, hlwc10_386_0, hlwc10_387_0]
                · exact (by repeat (first | (with_reducible first | exact HB_10.out | exact Below.refl _ _ | apply below_alloc | apply pw_below_drewN | apply below_drew1) | refine below_set ?_ (by first | omega | (simp; omega) | simp)))
              · replace c15 := Bool.eq_false_iff.mpr c15; subst c15
                rw [if_neg (by decide)] at H
                by_cases c16 : 0 ≤ a1_1
                · rw [if_pos c16] at H
                  have c16b0 : decide (0 ≤ a1_1) = true := decide_eq_true c16
                  clear c16
                  by_cases c17 : a1_1 < (l0.length : Int)
                  · rw [if_pos c17] at H
                    have c17b0 : decide (a1_1 < (l0.length : Int)) = true := decide_eq_true c17
                    clear c17
                    by_cases c18 : a1_0 = 1
                    · rw [if_pos c18] at H
                      have c18b0 : (a1_0 == 1) = true := beq_iff_eq.mpr c18
                      have c18b1 : (a1_0 != 1) = false := bne_eq_false_iff_eq.mpr c18
                      clear c18
                      by_cases c19 : a4 = 1
                      · rw [if_pos c19] at H
                        have c19b0 : (a4 == 1) = true := beq_iff_eq.mpr c19
                        have c19b1 : (a4 != 1) = false := bne_eq_false_iff_eq.mpr c19
                        clear c19
                        by_cases c20 : a1_5 = true
                        · subst c20
                          rw [if_pos rfl] at H
                          obtain ⟨⟨t391, t392, t393, t394, t395, t396, t397⟩, A_, H⟩ := Option.bind_eq_some_iff.mp H
                          try dsimp only at H
                          have A21 := Aside0.mk A_
                          clear A_
                          simp only [Option.some.injEq, Prod.mk.injEq] at H
                          obtain ⟨rfl, rfl, rfl, rfl, rfl, rfl, rfl, rfl⟩ := H
                          have hlwc10_386_0 : w.heap.size < wc10.heap.size := (by omega)
                          have hlwc10_386_1 : w.heap.size < wc10.heap.size + 1 := (by omega)
                          have hnwc10_386_0 : ¬ (w.heap.size = wc10.heap.size) := (by omega)
                          have hmwc10_386_0 : ¬ (wc10.heap.size = w.heap.size) := (by omega)
                          have hlwc10_387_0 : w.heap.size + 1 < wc10.heap.size := (by omega)
                          have hlwc10_387_1 : w.heap.size + 1 < wc10.heap.size + 1 := (by omega)
                          have hnwc10_387_0 : ¬ (w.heap.size + 1 = wc10.heap.size) := (by omega)
                          have hmwc10_387_0 : ¬ (wc10.heap.size = w.heap.size + 1) := (by omega)
                          have p389 : 0 ≤ (a1_1 : Int) := of_decide_eq_true (by first | (with_reducible assumption) | assumption)
                          have q389 : a1_1 < (l0.length : Int) := of_decide_eq_true (by first | (with_reducible assumption) | assumption)
                          obtain ⟨ad389, A389_2, c389_2, e389, hx389_0, hx389_1, hx389_2, hx389_3, hx389_4, hx389_5, hl389_2, hg389_2⟩ := at_T38 (Kd.C_below HR0.out HB_10.out) (a1_1) p389 q389
                          cases e389
                          have HG389_2 := Aside0.mk hg389_2
                          clear hg389_2
                          have HL389_2 := Aside0.mk hl389_2
                          clear hl389_2
                          have hw389 := cell_lt2 hx389_0
                          have hw389_1 := Nat.lt_add_right 1 hw389
                          have hbk389 := C_blk HR0.out (by omega) (by decide)
                          have hne389_386 : ¬ ((ad389.add (a1_1.toNat * 6)).block = w.heap.size) := (by rw [add_block]; omega)
                          have hnf389_386 : ¬ (w.heap.size = (ad389.add (a1_1.toNat * 6)).block) := (by rw [add_block]; omega)
                          have hne389_387 : ¬ ((ad389.add (a1_1.toNat * 6)).block = w.heap.size + 1) := (by rw [add_block]; omega)
                          have hnf389_387 : ¬ (w.heap.size + 1 = (ad389.add (a1_1.toNat * 6)).block) := (by rw [add_block]; omega)
                          replace p389 := eq_true p389
                          replace q389 := eq_true q389
                          try go_wp2_with (first | (go_at_call 33; (with_reducible refine (drayageref14_back.calls k10 _ _ l0 a1_1 t391 t392 t393 t394 t395 t396 t397 _ ?sd0 HC0.out A21.out).mono ?_); (case sd0 => exact Kd.C_below HR0.out (by repeat (first | (with_reducible first | exact HB_10.out | exact Below.refl _ _ | apply below_alloc | apply pw_below_drewN | apply below_drew1) | refine below_set ?_ (by first | omega | (simp; omega) | simp)))); rintro e w22 ⟨rfl, hb⟩; have hsw22 : wc10.heap.size + 1 ≤ w22.heap.size := (by have h_ := hb.size; simpa using h_); have HB_w22 : Aside0 (Below w.heap.size w w22) := Aside0.mk (below_step (by repeat (first | (with_reducible first | exact HB_10.out | exact Below.refl _ _ | apply below_alloc | apply pw_below_drewN | apply below_drew1) | refine below_set ?_ (by first | omega | (simp; omega) | simp))) hb); have cw22_386 := fun o_ : Nat => hb.cell (p := ⟨w.heap.size, o_, none⟩) (by first | omega | (simp; done) | (simp; omega)); have fw22_386 := fun o_ : Nat => hb.frozen (p := ⟨w.heap.size, o_, none⟩) (by first | omega | (simp; done) | (simp; omega)); have cw22_387 := fun o_ : Nat => hb.cell (p := ⟨w.heap.size + 1, o_, none⟩) (by first | omega | (simp; done) | (simp; omega)); have fw22_387 := fun o_ : Nat => hb.frozen (p := ⟨w.heap.size + 1, o_, none⟩) (by first | omega | (simp; done) | (simp; omega)); have cw22_390 := fun o_ : Nat => hb.cell (p := ⟨wc10.heap.size, o_, none⟩) (by first | omega | (simp; done) | (simp; omega)); have fw22_390 := fun o_ : Nat => hb.frozen (p := ⟨wc10.heap.size, o_, none⟩) (by first | omega | (simp; done) | (simp; omega)); clear hb; have hlw22_386_0 : w.heap.size < w22.heap.size := (by omega); have hlw22_387_0 : w.heap.size + 1 < w22.heap.size := (by omega); have hlw22_390_0 : wc10.heap.size < w22.heap.size := (by omega)))
                          repeat (go_quiet (first | (go_at_call 33; (with_reducible refine (drayageref14_back.calls k10 _ _ l0 a1_1 t391 t392 t393 t394 t395 t396 t397 _ ?sd0 HC0.out A21.out).mono ?_); (case sd0 => exact Kd.C_below HR0.out (by repeat (first | (with_reducible first | exact HB_10.out | exact Below.refl _ _ | apply below_alloc | apply pw_below_drewN | apply below_drew1) | refine below_set ?_ (by first | omega | (simp; omega) | simp)))); rintro e w22 ⟨rfl, hb⟩; have hsw22 : wc10.heap.size + 1 ≤ w22.heap.size := (by have h_ := hb.size; simpa using h_); have HB_w22 : Aside0 (Below w.heap.size w w22) := Aside0.mk (below_step (by repeat (first | (with_reducible first | exact HB_10.out | exact Below.refl _ _ | apply below_alloc | apply pw_below_drewN | apply below_drew1) | refine below_set ?_ (by first | omega | (simp; omega) | simp))) hb); have cw22_386 := fun o_ : Nat => hb.cell (p := ⟨w.heap.size, o_, none⟩) (by first | omega | (simp; done) | (simp; omega)); have fw22_386 := fun o_ : Nat => hb.frozen (p := ⟨w.heap.size, o_, none⟩) (by first | omega | (simp; done) | (simp; omega)); have cw22_387 := fun o_ : Nat => hb.cell (p := ⟨w.heap.size + 1, o_, none⟩) (by first | omega | (simp; done) | (simp; omega)); have fw22_387 := fun o_ : Nat => hb.frozen (p := ⟨w.heap.size + 1, o_, none⟩) (by first | omega | (simp; done) | (simp; omega)); have cw22_390 := fun o_ : Nat => hb.cell (p := ⟨wc10.heap.size, o_, none⟩) (by first | omega | (simp; done) | (simp; omega)); have fw22_390 := fun o_ : Nat => hb.frozen (p := ⟨wc10.heap.size, o_, none⟩) (by first | omega | (simp; done) | (simp; omega)); clear hb; have hlw22_386_0 : w.heap.size < w22.heap.size := (by omega); have hlw22_387_0 : w.heap.size + 1 < w22.heap.size := (by omega); have hlw22_390_0 : wc10.heap.size < w22.heap.size := (by omega))); try go_wp2_with (first | (go_at_call 33; (with_reducible refine (drayageref14_back.calls k10 _ _ l0 a1_1 t391 t392 t393 t394 t395 t396 t397 _ ?sd0 HC0.out A21.out).mono ?_); (case sd0 => exact Kd.C_below HR0.out (by repeat (first | (with_reducible first | exact HB_10.out | exact Below.refl _ _ | apply below_alloc | apply pw_below_drewN | apply below_drew1) | refine below_set ?_ (by first | omega | (simp; omega) | simp)))); rintro e w22 ⟨rfl, hb⟩; have hsw22 : wc10.heap.size + 1 ≤ w22.heap.size := (by have h_ := hb.size; simpa using h_); have HB_w22 : Aside0 (Below w.heap.size w w22) := Aside0.mk (below_step (by repeat (first | (with_reducible first | exact HB_10.out | exact Below.refl _ _ | apply below_alloc | apply pw_below_drewN | apply below_drew1) | refine below_set ?_ (by first | omega | (simp; omega) | simp))) hb); have cw22_386 := fun o_ : Nat => hb.cell (p := ⟨w.heap.size, o_, none⟩) (by first | omega | (simp; done) | (simp; omega)); have fw22_386 := fun o_ : Nat => hb.frozen (p := ⟨w.heap.size, o_, none⟩) (by first | omega | (simp; done) | (simp; omega)); have cw22_387 := fun o_ : Nat => hb.cell (p := ⟨w.heap.size + 1, o_, none⟩) (by first | omega | (simp; done) | (simp; omega)); have fw22_387 := fun o_ : Nat => hb.frozen (p := ⟨w.heap.size + 1, o_, none⟩) (by first | omega | (simp; done) | (simp; omega)); have cw22_390 := fun o_ : Nat => hb.cell (p := ⟨wc10.heap.size, o_, none⟩) (by first | omega | (simp; done) | (simp; omega)); have fw22_390 := fun o_ : Nat => hb.frozen (p := ⟨wc10.heap.size, o_, none⟩) (by first | omega | (simp; done) | (simp; omega)); clear hb; have hlw22_386_0 : w.heap.size < w22.heap.size := (by omega); have hlw22_387_0 : w.heap.size + 1 < w22.heap.size := (by omega); have hlw22_390_0 : wc10.heap.size < w22.heap.size := (by omega))))
                          refine bodyPost_ret ?_ rfl ⟨rfl, ?_⟩
                          · simp [results, Try.results19, go_sem, hz386_10_0, hz386_10_1, hz386_10_2, hz386_10_3, hz386_10_4, hz386_10_5, hz386_10_6, hf386_10_0, hf386_10_1, hf386_10_2, hf386_10_3, hf386_10_4, hf386_10_5, hf386_10_6, hz387_10_0, hz387_10_1, hz387_10_2, hz387_10_3, hz387_10_4, hz387_10_5, hz387_10_6, hf387_10_0, hf387_10_1, hf387_10_2, hf387_10_3, hf387_10_4, hf387_10_5, hf387_10_6, hlwc10_386_0, hlwc10_386_1, hnwc10_386_0, hmwc10_386_0, hlwc10_387_0, hlwc10_387_1, hnwc10_387_0, hmwc10_387_0, cw22_386, fw22_386, cw22_387, fw22_387, cw22_390, fw22_390, hlw22_386_0, hlw22_387_0, hlw22_390_0]
                          · exact (by repeat (first | (with_reducible first | exact HB_w22.out | exact Below.refl _ _ | apply below_alloc | apply pw_below_drewN | apply below_drew1) | refine below_set ?_ (by first | omega | (simp; omega) | simp)))
                        · replace c20 := Bool.eq_false_iff.mpr c20; subst c20
                          rw [if_neg (by decide)] at H
                          by_cases c23 : (wrap64 (a1_1 + 1)) = (l0.length : Int)
                          · rw [if_pos c23] at H
                            have c23b0 : ((wrap64 (a1_1 + 1)) == (l0.length : Int)) = true := beq_iff_eq.mpr c23
                            have c23b1 : ((wrap64 (a1_1 + 1)) != (l0.length : Int)) = false := bne_eq_false_iff_eq.mpr c23
                            clear c23
                            simp only [Option.some.injEq, Prod.mk.injEq] at H
                            obtain ⟨rfl, rfl, rfl, rfl, rfl, rfl, rfl, rfl⟩ := H
                            have hlwc10_386_0 : w.heap.size < wc10.heap.size := (by omega)
                            have hlwc10_386_1 : w.heap.size < wc10.heap.size + 1 := (by omega)
                            have hnwc10_386_0 : ¬ (w.heap.size = wc10.heap.size) := (by omega)
                            have hmwc10_386_0 : ¬ (wc10.heap.size = w.heap.size) := (by omega)
                            have hlwc10_387_0 : w.heap.size + 1 < wc10.heap.size := (by omega)
                            have hlwc10_387_1 : w.heap.size + 1 < wc10.heap.size + 1 := (by omega)
                            have hnwc10_387_0 : ¬ (w.heap.size + 1 = wc10.heap.size) := (by omega)
                            have hmwc10_387_0 : ¬ (wc10.heap.size = w.heap.size + 1) := (by omega)
                            have p389 : 0 ≤ (a1_1 : Int) := of_decide_eq_true (by first | (with_reducible assumption) | assumption)
                            have q389 : a1_1 < (l0.length : Int) := of_decide_eq_true (by first | (with_reducible assumption) | assumption)
                            obtain ⟨ad389, A389_2, c389_2, e389, hx389_0, hx389_1, hx389_2, hx389_3, hx389_4, hx389_5, hl389_2, hg389_2⟩ := at_T38 (Kd.C_below HR0.out HB_10.out) (a1_1) p389 q389
                            cases e389
                            have HG389_2 := Aside0.mk hg389_2
                            clear hg389_2
                            have HL389_2 := Aside0.mk hl389_2
                            clear hl389_2
                            have hw389 := cell_lt2 hx389_0
                            have hw389_1 := Nat.lt_add_right 1 hw389
                            have hbk389 := C_blk HR0.out (by omega) (by decide)
                            have hne389_386 : ¬ ((ad389.add (a1_1.toNat * 6)).block = w.heap.size) := (by rw [add_block]; omega)
                            have hnf389_386 : ¬ (w.heap.size = (ad389.add (a1_1.toNat * 6)).block) := (by rw [add_block]; omega)
                            have hne389_387 : ¬ ((ad389.add (a1_1.toNat * 6)).block = w.heap.size + 1) := (by rw [add_block]; omega)
                            have hnf389_387 : ¬ (w.heap.size + 1 = (ad389.add (a1_1.toNat * 6)).block) := (by rw [add_block]; omega)
                            replace p389 := eq_true p389
                            replace q389 := eq_true q389
                            try go_wp2
                            repeat (go_quiet (fail); try go_wp2)
                            refine bodyPost_ret ?_ rfl ⟨rfl, ?_⟩
                            · simp [results, Try.results19, go_sem, hz386_10_0, hz386_10_1, hz386_10_2, hz386_10_3, hz386_10_4, hz386_10_5, hz386_10_6, hf386_10_0, hf386_10_1, hf386_10_2, hf386_10_3, hf386_10_4, hf386_10_5, hf386_10_6, hz387_10_0, hz387_10_1, hz387_10_2, hz387_10_3, hz387_10_4, hz387_10_5, hz387_10_6, hf387_10_0, hf387_10_1, hf387_10_2, hf387_10_3, hf387_10_4, hf387_10_5, hf387_10_6, hlwc10_386_0, hlwc10_386_1, hnwc10_386_0, hmwc10_386_0, hlwc10_387_0, hlwc10_387_1, hnwc10_387_0, hmwc10_387_0]
                            · exact (by repeat (first | (with_reducible first | exact HB_10.out | exact Below.refl _ _ | apply below_alloc | apply pw_below_drewN | apply below_drew1) | refine below_set ?_ (by first | omega | (simp; omega) | simp)))
                          · rw [if_neg c23] at H
                            have c23b0 : ((wrap64 (a1_1 + 1)) == (l0.length : Int)) = false := beq_eq_false_iff_ne.mpr c23
                            have c23b1 : ((wrap64 (a1_1 + 1)) != (l0.length : Int)) = true := bne_iff_ne.mpr c23
                            clear c23
                            simp only [Option.some.injEq, Prod.mk.injEq] at H
                            obtain ⟨rfl, rfl, rfl, rfl, rfl, rfl, rfl, rfl⟩ := H
                            have hlwc10_386_0 : w.heap.size < wc10.heap.size := (by omega)
                            have hlwc10_386_1 : w.heap.size < wc10.heap.size + 1 := (by omega)
                            have hnwc10_386_0 : ¬ (w.heap.size = wc10.heap.size) := (by omega)
                            have hmwc10_386_0 : ¬ (wc10.heap.size = w.heap.size) := (by omega)
                            have hlwc10_387_0 : w.heap.size + 1 < wc10.heap.size := (by omega)
                            have hlwc10_387_1 : w.heap.size + 1 < wc10.heap.size + 1 := (by omega)
                            have hnwc10_387_0 : ¬ (w.heap.size + 1 = wc10.heap.size) := (by omega)
                            have hmwc10_387_0 : ¬ (wc10.heap.size = w.heap.size + 1) := (by omega)
                            have p389 : 0 ≤ (a1_1 : Int) := of_decide_eq_true (by first | (with_reducible assumption) | assumption)
                            have q389 : a1_1 < (l0.length : Int) := of_decide_eq_true (by first | (with_reducible assumption) | assumption)
                            obtain ⟨ad389, A389_2, c389_2, e389, hx389_0, hx389_1, hx389_2, hx389_3, hx389_4, hx389_5, hl389_2, hg389_2⟩ := at_T38 (Kd.C_below HR0.out HB_10.out) (a1_1) p389 q389
                            cases e389
                            have HG389_2 := Aside0.mk hg389_2
                            clear hg389_2
                            have HL389_2 := Aside0.mk hl389_2
                            clear hl389_2
                            have hw389 := cell_lt2 hx389_0
                            have hw389_1 := Nat.lt_add_right 1 hw389
                            have hbk389 := C_blk HR0.out (by omega) (by decide)
                            have hne389_386 : ¬ ((ad389.add (a1_1.toNat * 6)).block = w.heap.size) := (by rw [add_block]; omega)
                            have hnf389_386 : ¬ (w.heap.size = (ad389.add (a1_1.toNat * 6)).block) := (by rw [add_block]; omega)
                            have hne389_387 : ¬ ((ad389.add (a1_1.toNat * 6)).block = w.heap.size + 1) := (by rw [add_block]; omega)
                            have hnf389_387 : ¬ (w.heap.size + 1 = (ad389.add (a1_1.toNat * 6)).block) := (by rw [add_block]; omega)
                            replace p389 := eq_true p389
                            replace q389 := eq_true q389
                            try go_wp2
                            repeat (go_quiet (fail); try go_wp2)
                            refine bodyPost_ret ?_ rfl ⟨rfl, ?_⟩
                            · simp [results, Try.results19, go_sem, hz386_10_0, hz386_10_1, hz386_10_2, hz386_10_3, hz386_10_4, hz386_10_5, hz386_10_6, hf386_10_0, hf386_10_1, hf386_10_2, hf386_10_3, hf386_10_4, hf386_10_5, hf386_10_6, hz387_10_0, hz387_10_1, hz387_10_2, hz387_10_3, hz387_10_4, hz387_10_5, hz387_10_6, hf387_10_0, hf387_10_1, hf387_10_2, hf387_10_3, hf387_10_4, hf387_10_5, hf387_10_6, hlwc10_386_0, hlwc10_386_1, hnwc10_386_0, hmwc10_386_0, hlwc10_387_0, hlwc10_387_1, hnwc10_387_0, hmwc10_387_0]
                            · exact (by repeat (first | (with_reducible first | exact HB_10.out | exact Below.refl _ _ | apply below_alloc | apply pw_below_drewN | apply below_drew1) | refine below_set ?_ (by first | omega | (simp; omega) | simp)))
                      · rw [if_neg c19] at H
                        have c19b0 : (a4 == 1) = false := beq_eq_false_iff_ne.mpr c19
                        have c19b1 : (a4 != 1) = true := bne_iff_ne.mpr c19
                        clear c19
                        by_cases c24 : a4 = 2
                        · rw [if_pos c24] at H
                          have c24b0 : (a4 == 2) = true := beq_iff_eq.mpr c24
                          have c24b1 : (a4 != 2) = false := bne_eq_false_iff_eq.mpr c24
                          clear c24
                          obtain ⟨⟨t398, t399, t400, t401, t402, t403, t404⟩, A_, H⟩ := Option.bind_eq_some_iff.mp H
                          try dsimp only at H
                          have A25 := Aside0.mk A_
                          clear A_
                          simp only [Option.some.injEq, Prod.mk.injEq] at H
                          obtain ⟨rfl, rfl, rfl, rfl, rfl, rfl, rfl, rfl⟩ := H
                          have hlwc10_386_0 : w.heap.size < wc10.heap.size := (by omega)
                          have hlwc10_386_1 : w.heap.size < wc10.heap.size + 1 := (by omega)
                          have hnwc10_386_0 : ¬ (w.heap.size = wc10.heap.size) := (by omega)
                          have hmwc10_386_0 : ¬ (wc10.heap.size = w.heap.size) := (by omega)
                          have hlwc10_387_0 : w.heap.size + 1 < wc10.heap.size := (by omega)
                          have hlwc10_387_1 : w.heap.size + 1 < wc10.heap.size + 1 := (by omega)
                          have hnwc10_387_0 : ¬ (w.heap.size + 1 = wc10.heap.size) := (by omega)
                          have hmwc10_387_0 : ¬ (wc10.heap.size = w.heap.size + 1) := (by omega)
                          have p389 : 0 ≤ (a1_1 : Int) := of_decide_eq_true (by first | (with_reducible assumption) | assumption)
                          have q389 : a1_1 < (l0.length : Int) := of_decide_eq_true (by first | (with_reducible assumption) | assumption)
                          obtain ⟨ad389, A389_2, c389_2, e389, hx389_0, hx389_1, hx389_2, hx389_3, hx389_4, hx389_5, hl389_2, hg389_2⟩ := at_T38 (Kd.C_below HR0.out HB_10.out) (a1_1) p389 q389
                          cases e389
                          have HG389_2 := Aside0.mk hg389_2
                          clear hg389_2
                          have HL389_2 := Aside0.mk hl389_2
                          clear hl389_2
                          have hw389 := cell_lt2 hx389_0
                          have hw389_1 := Nat.lt_add_right 1 hw389
                          have hbk389 := C_blk HR0.out (by omega) (by decide)
                          have hne389_386 : ¬ ((ad389.add (a1_1.toNat * 6)).block = w.heap.size) := (by rw [add_block]; omega)
                          have hnf389_386 : ¬ (w.heap.size = (ad389.add (a1_1.toNat * 6)).block) := (by rw [add_block]; omega)
                          have hne389_387 : ¬ ((ad389.add (a1_1.toNat * 6)).block = w.heap.size + 1) := (by rw [add_block]; omega)
                          have hnf389_387 : ¬ (w.heap.size + 1 = (ad389.add (a1_1.toNat * 6)).block) := (by rw [add_block]; omega)
                          replace p389 := eq_true p389
                          replace q389 := eq_true q389
                          try go_wp2_with (first | (go_at_call 33; (with_reducible refine (drayageref14_back.calls k10 _ _ l0 (wrap64 (a1_1 - 1)) t398 t399 t400 t401 t402 t403 t404 _ ?sd0 HC0.out A25.out).mono ?_); (case sd0 => exact Kd.C_below HR0.out (by repeat (first | (with_reducible first | exact HB_10.out | exact Below.refl _ _ | apply below_alloc | apply pw_below_drewN | apply below_drew1) | refine below_set ?_ (by first | omega | (simp; omega) | simp)))); rintro e w26 ⟨rfl, hb⟩; have hsw26 : wc10.heap.size + 1 ≤ w26.heap.size := (by have h_ := hb.size; simpa using h_); have HB_w26 : Aside0 (Below w.heap.size w w26) := Aside0.mk (below_step (by repeat (first | (with_reducible first | exact HB_10.out | exact Below.refl _ _ | apply below_alloc | apply pw_below_drewN | apply below_drew1) | refine below_set ?_ (by first | omega | (simp; omega) | simp))) hb); have cw26_386 := fun o_ : Nat => hb.cell (p := ⟨w.heap.size, o_, none⟩) (by first | omega | (simp; done) | (simp; omega)); have fw26_386 := fun o_ : Nat => hb.frozen (p := ⟨w.heap.size, o_, none⟩) (by first | omega | (simp; done) | (simp; omega)); have cw26_387 := fun o_ : Nat => hb.cell (p := ⟨w.heap.size + 1, o_, none⟩) (by first | omega | (simp; done) | (simp; omega)); have fw26_387 := fun o_ : Nat => hb.frozen (p := ⟨w.heap.size + 1, o_, none⟩) (by first | omega | (simp; done) | (simp; omega)); have cw26_390 := fun o_ : Nat => hb.cell (p := ⟨wc10.heap.size, o_, none⟩) (by first | omega | (simp; done) | (simp; omega)); have fw26_390 := fun o_ : Nat => hb.frozen (p := ⟨wc10.heap.size, o_, none⟩) (by first | omega | (simp; done) | (simp; omega)); clear hb; have hlw26_386_0 : w.heap.size < w26.heap.size := (by omega); have hlw26_387_0 : w.heap.size + 1 < w26.heap.size := (by omega); have hlw26_390_0 : wc10.heap.size < w26.heap.size := (by omega)))
                          repeat (go_quiet (first | (go_at_call 33; (with_reducible refine (drayageref14_back.calls k10 _ _ l0 (wrap64 (a1_1 - 1)) t398 t399 t400 t401 t402 t403 t404 _ ?sd0 HC0.out A25.out).mono ?_); (case sd0 => exact Kd.C_below HR0.out (by repeat (first | (with_reducible first | exact HB_10.out | exact Below.refl _ _ | apply below_alloc | apply pw_below_drewN | apply below_drew1) | refine below_set ?_ (by first | omega | (simp; omega) | simp)))); rintro e w26 ⟨rfl, hb⟩; have hsw26 : wc10.heap.size + 1 ≤ w26.heap.size := (by have h_ := hb.size; simpa using h_); have HB_w26 : Aside0 (Below w.heap.size w w26) := Aside0.mk (below_step (by repeat (first | (with_reducible first | exact HB_10.out | exact Below.refl _ _ | apply below_alloc | apply pw_below_drewN | apply below_drew1) | refine below_set ?_ (by first | omega | (simp; omega) | simp))) hb); have cw26_386 := fun o_ : Nat => hb.cell (p := ⟨w.heap.size, o_, none⟩) (by first | omega | (simp; done) | (simp; omega)); have fw26_386 := fun o_ : Nat => hb.frozen (p := ⟨w.heap.size, o_, none⟩) (by first | omega | (simp; done) | (simp; omega)); have cw26_387 := fun o_ : Nat => hb.cell (p := ⟨w.heap.size + 1, o_, none⟩) (by first | omega | (simp; done) | (simp; omega)); have fw26_387 := fun o_ : Nat => hb.frozen (p := ⟨w.heap.size + 1, o_, none⟩) (by first | omega | (simp; done) | (simp; omega)); have cw26_390 := fun o_ : Nat => hb.cell (p := ⟨wc10.heap.size, o_, none⟩) (by first | omega | (simp; done) | (simp; omega)); have fw26_390 := fun o_ : Nat => hb.frozen (p := ⟨wc10.heap.size, o_, none⟩) (by first | omega | (simp; done) | (simp; omega)); clear hb; have hlw26_386_0 : w.heap.size < w26.heap.size := (by omega); have hlw26_387_0 : w.heap.size + 1 < w26.heap.size := (by omega); have hlw26_390_0 : wc10.heap.size < w26.heap.size := (by omega))); try go_wp2_with (first | (go_at_call 33; (with_reducible refine (drayageref14_back.calls k10 _ _ l0 (wrap64 (a1_1 - 1)) t398 t399 t400 t401 t402 t403 t404 _ ?sd0 HC0.out A25.out).mono ?_); (case sd0 => exact Kd.C_below HR0.out (by repeat (first | (with_reducible first | exact HB_10.out | exact Below.refl _ _ | apply below_alloc | apply pw_below_drewN | apply below_drew1) | refine below_set ?_ (by first | omega | (simp; omega) | simp)))); rintro e w26 ⟨rfl, hb⟩; have hsw26 : wc10.heap.size + 1 ≤ w26.heap.size := (by have h_ := hb.size; simpa using h_); have HB_w26 : Aside0 (Below w.heap.size w w26) := Aside0.mk (below_step (by repeat (first | (with_reducible first | exact HB_10.out | exact Below.refl _ _ | apply below_alloc | apply pw_below_drewN | apply below_drew1) | refine below_set ?_ (by first | omega | (simp; omega) | simp))) hb); have cw26_386 := fun o_ : Nat => hb.cell (p := ⟨w.heap.size, o_, none⟩) (by first | omega | (simp; done) | (simp; omega)); have fw26_386 := fun o_ : Nat => hb.frozen (p := ⟨w.heap.size, o_, none⟩) (by first | omega | (simp; done) | (simp; omega)); have cw26_387 := fun o_ : Nat => hb.cell (p := ⟨w.heap.size + 1, o_, none⟩) (by first | omega | (simp; done) | (simp; omega)); have fw26_387 := fun o_ : Nat => hb.frozen (p := ⟨w.heap.size + 1, o_, none⟩) (by first | omega | (simp; done) | (simp; omega)); have cw26_390 := fun o_ : Nat => hb.cell (p := ⟨wc10.heap.size, o_, none⟩) (by first | omega | (simp; done) | (simp; omega)); have fw26_390 := fun o_ : Nat => hb.frozen (p := ⟨wc10.heap.size, o_, none⟩) (by first | omega | (simp; done) | (simp; omega)); clear hb; have hlw26_386_0 : w.heap.size < w26.heap.size := (by omega); have hlw26_387_0 : w.heap.size + 1 < w26.heap.size := (by omega); have hlw26_390_0 : wc10.heap.size < w26.heap.size := (by omega))))
                          refine bodyPost_ret ?_ rfl ⟨rfl, ?_⟩
                          · simp [results, Try.results19, go_sem, hz386_10_0, hz386_10_1, hz386_10_2, hz386_10_3, hz386_10_4, hz386_10_5, hz386_10_6, hf386_10_0, hf386_10_1, hf386_10_2, hf386_10_3, hf386_10_4, hf386_10_5, hf386_10_6, hz387_10_0, hz387_10_1, hz387_10_2, hz387_10_3, hz387_10_4, hz387_10_5, hz387_10_6, hf387_10_0, hf387_10_1, hf387_10_2, hf387_10_3, hf387_10_4, hf387_10_5, hf387_10_6, hlwc10_386_0, hlwc10_386_1, hnwc10_386_0, hmwc10_386_0, hlwc10_387_0, hlwc10_387_1, hnwc10_387_0, hmwc10_387_0, cw26_386, fw26_386, cw26_387, fw26_387, cw26_390, fw26_390, hlw26_386_0, hlw26_387_0, hlw26_390_0]
                          · exact (by repeat (first | (with_reducible first | exact HB_w26.out | exact Below.refl _ _ | apply below_alloc | apply pw_below_drewN | apply below_drew1) | refine below_set ?_ (by first | omega | (simp; omega) | simp)))
                        · rw [if_neg c24] at H
                          have c24b0 : (a4 == 2) = false := beq_eq_false_iff_ne.mpr c24
                          have c24b1 : (a4 != 2) = true := bne_iff_ne.mpr c24
                          clear c24
                          by_cases c27 : a1_5 = true
                          · subst c27
                            rw [if_pos rfl] at H
                            obtain ⟨⟨t405, t406, t407, t408, t409, t410, t411⟩, A_, H⟩ := Option.bind_eq_some_iff.mp H
                            try dsimp only at H
                            have A28 := Aside0.mk A_
                            clear A_
                            simp only [Option.some.injEq, Prod.mk.injEq] at H
                            obtain ⟨rfl, rfl, rfl, rfl, rfl, rfl, rfl, rfl⟩ := H
                            have hlwc10_386_0 : w.heap.size < wc10.heap.size := (by omega)
                            have hlwc10_386_1 : w.heap.size < wc10.heap.size + 1 := (by omega)
                            have hnwc10_386_0 : ¬ (w.heap.size = wc10.heap.size) := (by omega)
                            have hmwc10_386_0 : ¬ (wc10.heap.size = w.heap.size) := (by omega)
                            have hlwc10_387_0 : w.heap.size + 1 < wc10.heap.size := (by omega)
                            have hlwc10_387_1 : w.heap.size + 1 < wc10.heap.size + 1 := (by omega)
                            have hnwc10_387_0 : ¬ (w.heap.size + 1 = wc10.heap.size) := (by omega)
                            have hmwc10_387_0 : ¬ (wc10.heap.size = w.heap.size + 1) := (by omega)
                            have p389 : 0 ≤ (a1_1 : Int) := of_decide_eq_true (by first | (with_reducible assumption) | assumption)
                            have q389 : a1_1 < (l0.length : Int) := of_decide_eq_true (by first | (with_reducible assumption) | assumption)
                            obtain ⟨ad389, A389_2, c389_2, e389, hx389_0, hx389_1, hx389_2, hx389_3, hx389_4, hx389_5, hl389_2, hg389_2⟩ := at_T38 (Kd.C_below HR0.out HB_10.out) (a1_1) p389 q389
                            cases e389
                            have HG389_2 := Aside0.mk hg389_2
                            clear hg389_2
                            have HL389_2 := Aside0.mk hl389_2
                            clear hl389_2
                            have hw389 := cell_lt2 hx389_0
                            have hw389_1 := Nat.lt_add_right 1 hw389
                            have hbk389 := C_blk HR0.out (by omega) (by decide)
                            have hne389_386 : ¬ ((ad389.add (a1_1.toNat * 6)).block = w.heap.size) := (by rw [add_block]; omega)
                            have hnf389_386 : ¬ (w.heap.size = (ad389.add (a1_1.toNat * 6)).block) := (by rw [add_block]; omega)
                            have hne389_387 : ¬ ((ad389.add (a1_1.toNat * 6)).block = w.heap.size + 1) := (by rw [add_block]; omega)
                            have hnf389_387 : ¬ (w.heap.size + 1 = (ad389.add (a1_1.toNat * 6)).block) := (by rw [add_block]; omega)
                            replace p389 := eq_true p389
                            replace q389 := eq_true q389
                            try go_wp2_with (first | (go_at_call 33; (with_reducible refine (drayageref14_back.calls k10 _ _ l0 a1_1 t405 t406 t407 t408 t409 t410 t411 _ ?sd0 HC0.out A28.out).mono ?_); (case sd0 => exact Kd.C_below HR0.out (by repeat (first | (with_reducible first | exact HB_10.out | exact Below.refl _ _ | apply below_alloc | apply pw_below_drewN | apply below_drew1) | refine below_set ?_ (by first | omega | (simp; omega) | simp)))); rintro e w29 ⟨rfl, hb⟩; have hsw29 : wc10.heap.size + 1 ≤ w29.heap.size := (by have h_ := hb.size; simpa using h_); have HB_w29 : Aside0 (Below w.heap.size w w29) := Aside0.mk (below_step (by repeat (first | (with_reducible first | exact HB_10.out | exact Below.refl _ _ | apply below_alloc | apply pw_below_drewN | apply below_drew1) | refine below_set ?_ (by first | omega | (simp; omega) | simp))) hb); have cw29_386 := fun o_ : Nat => hb.cell (p := ⟨w.heap.size, o_, none⟩) (by first | omega | (simp; done) | (simp; omega)); have fw29_386 := fun o_ : Nat => hb.frozen (p := ⟨w.heap.size, o_, none⟩) (by first | omega | (simp; done) | (simp; omega)); have cw29_387 := fun o_ : Nat => hb.cell (p := ⟨w.heap.size + 1, o_, none⟩) (by first | omega | (simp; done) | (simp; omega)); have fw29_387 := fun o_ : Nat => hb.frozen (p := ⟨w.heap.size + 1, o_, none⟩) (by first | omega | (simp; done) | (simp; omega)); have cw29_390 := fun o_ : Nat => hb.cell (p := ⟨wc10.heap.size, o_, none⟩) (by first | omega | (simp; done) | (simp; omega)); have fw29_390 := fun o_ : Nat => hb.frozen (p := ⟨wc10.heap.size, o_, none⟩) (by first | omega | (simp; done) | (simp; omega)); clear hb; have hlw29_386_0 : w.heap.size < w29.heap.size := (by omega); have hlw29_387_0 : w.heap.size + 1 < w29.heap.size := (by omega); have hlw29_390_0 : wc10.heap.size < w29.heap.size := (by omega)))
                            repeat (go_quiet (first | (go_at_call 33; (with_reducible refine (drayageref14_back.calls k10 _ _ l0 a1_1 t405 t406 t407 t408 t409 t410 t411 _ ?sd0 HC0.out A28.out).mono ?_); (case sd0 => exact Kd.C_below HR0.out (by repeat (first | (with_reducible first | exact HB_10.out | exact Below.refl _ _ | apply below_alloc | apply pw_below_drewN | apply below_drew1) | refine below_set ?_ (by first | omega | (simp; omega) | simp)))); rintro e w29 ⟨rfl, hb⟩; have hsw29 : wc10.heap.size + 1 ≤ w29.heap.size := (by have h_ := hb.size; simpa using h_); have HB_w29 : Aside0 (Below w.heap.size w w29) := Aside0.mk (below_step (by repeat (first | (with_reducible first | exact HB_10.out | exact Below.refl _ _ | apply below_alloc | apply pw_below_drewN | apply below_drew1) | refine below_set ?_ (by first | omega | (simp; omega) | simp))) hb); have cw29_386 := fun o_ : Nat => hb.cell (p := ⟨w.heap.size, o_, none⟩) (by first | omega | (simp; done) | (simp; omega)); have fw29_386 := fun o_ : Nat => hb.frozen (p := ⟨w.heap.size, o_, none⟩) (by first | omega | (simp; done) | (simp; omega)); have cw29_387 := fun o_ : Nat => hb.cell (p := ⟨w.heap.size + 1, o_, none⟩) (by first | omega | (simp; done) | (simp; omega)); have fw29_387 := fun o_ : Nat => hb.frozen (p := ⟨w.heap.size + 1, o_, none⟩) (by first | omega | (simp; done) | (simp; omega)); have cw29_390 := fun o_ : Nat => hb.cell (p := ⟨wc10.heap.size, o_, none⟩) (by first | omega | (simp; done) | (simp; omega)); have fw29_390 := fun o_ : Nat => hb.frozen (p := ⟨wc10.heap.size, o_, none⟩) (by first | omega | (simp; done) | (simp; omega)); clear hb; have hlw29_386_0 : w.heap.size < w29.heap.size := (by omega); have hlw29_387_0 : w.heap.size + 1 < w29.heap.size := (by omega); have hlw29_390_0 : wc10.heap.size < w29.heap.size := (by omega))); try go_wp2_with (first | (go_at_call 33; (with_reducible refine (drayageref14_back.calls k10 _ _ l0 a1_1 t405 t406 t407 t408 t409 t410 t411 _ ?sd0 HC0.out A28.out).mono ?_); (case sd0 => exact Kd.C_below HR0.out (by repeat (first | (with_reducible first | exact HB_10.out | exact Below.refl _ _ | apply below_alloc | apply pw_below_drewN | apply below_drew1) | refine below_set ?_ (by first | omega | (simp; omega) | simp)))); rintro e w29 ⟨rfl, hb⟩; have hsw29 : wc10.heap.size + 1 ≤ w29.heap.size := (by have h_ := hb.size; simpa using h_); have HB_w29 : Aside0 (Below w.heap.size w w29) := Aside0.mk (below_step (by repeat (first | (with_reducible first | exact HB_10.out | exact Below.refl _ _ | apply below_alloc | apply pw_below_drewN | apply below_drew1) | refine below_set ?_ (by first | omega | (simp; omega) | simp))) hb); have cw29_386 := fun o_ : Nat => hb.cell (p := ⟨w.heap.size, o_, none⟩) (by first | omega | (simp; done) | (simp; omega)); have fw29_386 := fun o_ : Nat => hb.frozen (p := ⟨w.heap.size, o_, none⟩) (by first | omega | (simp; done) | (simp; omega)); have cw29_387 := fun o_ : Nat => hb.cell (p := ⟨w.heap.size + 1, o_, none⟩) (by first | omega | (simp; done) | (simp; omega)); have fw29_387 := fun o_ : Nat => hb.frozen (p := ⟨w.heap.size + 1, o_, none⟩) (by first | omega | (simp; done) | (simp; omega)); have cw29_390 := fun o_ : Nat => hb.cell (p := ⟨wc10.heap.size, o_, none⟩) (by first | omega | (simp; done) | (simp; omega)); have fw29_390 := fun o_ : Nat => hb.frozen (p := ⟨wc10.heap.size, o_, none⟩) (by first | omega | (simp; done) | (simp; omega)); clear hb; have hlw29_386_0 : w.heap.size < w29.heap.size := (by omega); have hlw29_387_0 : w.heap.size + 1 < w29.heap.size := (by omega); have hlw29_390_0 : wc10.heap.size < w29.heap.size := (by omega))))
                            refine bodyPost_ret ?_ rfl ⟨rfl, ?_⟩
                            · simp [results, Try.results19, go_sem, hz386_10_0, hz386_10_1, hz386_10_2, hz386_10_3, hz386_10_4, hz386_10_5, hz386_10_6, hf386_10_0, hf386_10_1, hf386_10_2, hf386_10_3, hf386_10_4, hf386_10_5, hf386_10_6, hz387_10_0, hz387_10_1, hz387_10_2, hz387_10_3, hz387_10_4, hz387_10_5, hz387_10_6, hf387_10_0, hf387_10_1, hf387_10_2, hf387_10_3, hf387_10_4, hf387_10_5, hf387_10_6, hlwc10_386_0, hlwc10_386_1, hnwc10_386_0, hmwc10_386_0, hlwc10_387_0, hlwc10_387_1, hnwc10_387_0, hmwc10_387_0, cw29_386, fw29_386, cw29_387, fw29_387, cw29_390, fw29_390, hlw29_386_0, hlw29_387_0, hlw29_390_0]
                            · exact (by repeat (first | (with_reducible first | exact HB_w29.out | exact Below.refl _ _ | apply below_alloc | apply pw_below_drewN | apply below_drew1) | refine below_set ?_ (by first | omega | (simp; omega) | simp)))
                          · replace c27 := Bool.eq_false_iff.mpr c27; subst c27
                            rw [if_neg (by decide)] at H
                            by_cases c30 : a1_2 = ((rd_T38 l0 a1_1).f1)
                            · rw [if_pos c30] at H
                              have c30b0 : (a1_2 == ((rd_T38 l0 a1_1).f1)) = true := beq_iff_eq.mpr c30
                              have c30b1 : (a1_2 != ((rd_T38 l0 a1_1).f1)) = false := bne_eq_false_iff_eq.mpr c30
                              clear c30
                              obtain ⟨⟨t412, t413, t414, t415, t416, t417, t418⟩, A_, H⟩ := Option.bind_eq_some_iff.mp H
                              try dsimp only at H
                              have A31 := Aside0.mk A_
                              clear A_
                              simp only [Option.some.injEq, Prod.mk.injEq] at H
                              obtain ⟨rfl, rfl, rfl, rfl, rfl, rfl, rfl, rfl⟩ := H
                              have hlwc10_386_0 : w.heap.size < wc10.heap.size := (by omega)
                              have hlwc10_386_1 : w.heap.size < wc10.heap.size + 1 := (by omega)
                              have hnwc10_386_0 : ¬ (w.heap.size = wc10.heap.size) := (by omega)
                              have hmwc10_386_0 : ¬ (wc10.heap.size = w.heap.size) := (by omega)
                              have hlwc10_387_0 : w.heap.size + 1 < wc10.heap.size := (by omega)
                              have hlwc10_387_1 : w.heap.size + 1 < wc10.heap.size + 1 := (by omega)
                              have hnwc10_387_0 : ¬ (w.heap.size + 1 = wc10.heap.size) := (by omega)
                              have hmwc10_387_0 : ¬ (wc10.heap.size = w.heap.size + 1) := (by omega)
                              have p389 : 0 ≤ (a1_1 : Int) := of_decide_eq_true (by first | (with_reducible assumption) | assumption)
                              have q389 : a1_1 < (l0.length : Int) := of_decide_eq_true (by first | (with_reducible assumption) | assumption)
                              obtain ⟨ad389, A389_2, c389_2, e389, hx389_0, hx389_1, hx389_2, hx389_3, hx389_4, hx389_5, hl389_2, hg389_2⟩ := at_T38 (Kd.C_below HR0.out HB_10.out) (a1_1) p389 q389
                              cases e389
                              have HG389_2 := Aside0.mk hg389_2
                              clear hg389_2
                              have HL389_2 := Aside0.mk hl389_2
                              clear hl389_2
                              have hw389 := cell_lt2 hx389_0
                              have hw389_1 := Nat.lt_add_right 1 hw389
                              have hbk389 := C_blk HR0.out (by omega) (by decide)
                              have hne389_386 : ¬ ((ad389.add (a1_1.toNat * 6)).block = w.heap.size) := (by rw [add_block]; omega)
                              have hnf389_386 : ¬ (w.heap.size = (ad389.add (a1_1.toNat * 6)).block) := (by rw [add_block]; omega)
                              have hne389_387 : ¬ ((ad389.add (a1_1.toNat * 6)).block = w.heap.size + 1) := (by rw [add_block]; omega)
                              have hnf389_387 : ¬ (w.heap.size + 1 = (ad389.add (a1_1.toNat * 6)).block) := (by rw [add_block]; omega)
                              replace p389 := eq_true p389
                              replace q389 := eq_true q389
                              try go_wp2_with (first | (go_at_call 33; (with_reducible refine (drayageref14_back.calls k10 _ _ l0 a1_1 t412 t413 t414 t415 t416 t417 t418 _ ?sd0 HC0.out A31.out).mono ?_); (case sd0 => exact Kd.C_below HR0.out (by repeat (first | (with_reducible first | exact HB_10.out | exact Below.refl _ _ | apply below_alloc | apply pw_below_drewN | apply below_drew1) | refine below_set ?_ (by first | omega | (simp; omega) | simp)))); rintro e w32 ⟨rfl, hb⟩; have hsw32 : wc10.heap.size + 1 ≤ w32.heap.size := (by have h_ := hb.size; simpa using h_); have HB_w32 : Aside0 (Below w.heap.size w w32) := Aside0.mk (below_step (by repeat (first | (with_reducible first | exact HB_10.out | exact Below.refl _ _ | apply below_alloc | apply pw_below_drewN | apply below_drew1) | refine below_set ?_ (by first | omega | (simp; omega) | simp))) hb); have cw32_386 := fun o_ : Nat => hb.cell (p := ⟨w.heap.size, o_, none⟩) (by first | omega | (simp; done) | (simp; omega)); have fw32_386 := fun o_ : Nat => hb.frozen (p := ⟨w.heap.size, o_, none⟩) (by first | omega | (simp; done) | (simp; omega)); have cw32_387 := fun o_ : Nat => hb.cell (p := ⟨w.heap.size + 1, o_, none⟩) (by first | omega | (simp; done) | (simp; omega)); have fw32_387 := fun o_ : Nat => hb.frozen (p := ⟨w.heap.size + 1, o_, none⟩) (by first | omega | (simp; done) | (simp; omega)); have cw32_390 := fun o_ : Nat => hb.cell (p := ⟨wc10.heap.size, o_, none⟩) (by first | omega | (simp; done) | (simp; omega)); have fw32_390 := fun o_ : Nat => hb.frozen (p := ⟨wc10.heap.size, o_, none⟩) (by first | omega | (simp; done) | (simp; omega)); clear hb; have hlw32_386_0 : w.heap.size < w32.heap.size := (by omega); have hlw32_387_0 : w.heap.size + 1 < w32.heap.size := (by omega); have hlw32_390_0 : wc10.heap.size < w32.heap.size := (by omega)))
                              repeat (go_quiet (first | (go_at_call 33; (with_reducible refine (drayageref14_back.calls k10 _ _ l0 a1_1 t412 t413 t414 t415 t416 t417 t418 _ ?sd0 HC0.out A31.out).mono ?_); (case sd0 => exact Kd.C_below HR0.out (by repeat (first | (with_reducible first | exact HB_10.out | exact Below.refl _ _ | apply below_alloc | apply pw_below_drewN | apply below_drew1) | refine below_set ?_ (by first | omega | (simp; omega) | simp)))); rintro e w32 ⟨rfl, hb⟩; have hsw32 : wc10.heap.size + 1 ≤ w32.heap.size := (by have h_ := hb.size; simpa using h_); have HB_w32 : Aside0 (Below w.heap.size w w32) := Aside0.mk (below_step (by repeat (first | (with_reducible first | exact HB_10.out | exact Below.refl _ _ | apply below_alloc | apply pw_below_drewN | apply below_drew1) | refine below_set ?_ (by first | omega | (simp; omega) | simp))) hb); have cw32_386 := fun o_ : Nat => hb.cell (p := ⟨w.heap.size, o_, none⟩) (by first | omega | (simp; done) | (simp; omega)); have fw32_386 := fun o_ : Nat => hb.frozen (p := ⟨w.heap.size, o_, none⟩) (by first | omega | (simp; done) | (simp; omega)); have cw32_387 := fun o_ : Nat => hb.cell (p := ⟨w.heap.size + 1, o_, none⟩) (by first | omega | (simp; done) | (simp; omega)); have fw32_387 := fun o_ : Nat => hb.frozen (p := ⟨w.heap.size + 1, o_, none⟩) (by first | omega | (simp; done) | (simp; omega)); have cw32_390 := fun o_ : Nat => hb.cell (p := ⟨wc10.heap.size, o_, none⟩) (by first | omega | (simp; done) | (simp; omega)); have fw32_390 := fun o_ : Nat => hb.frozen (p := ⟨wc10.heap.size, o_, none⟩) (by first | omega | (simp; done) | (simp; omega)); clear hb; have hlw32_386_0 : w.heap.size < w32.heap.size := (by omega); have hlw32_387_0 : w.heap.size + 1 < w32.heap.size := (by omega); have hlw32_390_0 : wc10.heap.size < w32.heap.size := (by omega))); try go_wp2_with (first | (go_at_call 33; (with_reducible refine (drayageref14_back.calls k10 _ _ l0 a1_1 t412 t413 t414 t415 t416 t417 t418 _ ?sd0 HC0.out A31.out).mono ?_); (case sd0 => exact Kd.C_below HR0.out (by repeat (first | (with_reducible first | exact HB_10.out | exact Below.refl _ _ | apply below_alloc | apply pw_below_drewN | apply below_drew1) | refine below_set ?_ (by first | omega | (simp; omega) | simp)))); rintro e w32 ⟨rfl, hb⟩; have hsw32 : wc10.heap.size + 1 ≤ w32.heap.size := (by have h_ := hb.size; simpa using h_); have HB_w32 : Aside0 (Below w.heap.size w w32) := Aside0.mk (below_step (by repeat (first | (with_reducible first | exact HB_10.out | exact Below.refl _ _ | apply below_alloc | apply pw_below_drewN | apply below_drew1) | refine below_set ?_ (by first | omega | (simp; omega) | simp))) hb); have cw32_386 := fun o_ : Nat => hb.cell (p := ⟨w.heap.size, o_, none⟩) (by first | omega | (simp; done) | (simp; omega)); have fw32_386 := fun o_ : Nat => hb.frozen (p := ⟨w.heap.size, o_, none⟩) (by first | omega | (simp; done) | (simp; omega)); have cw32_387 := fun o_ : Nat => hb.cell (p := ⟨w.heap.size + 1, o_, none⟩) (by first | omega | (simp; done) | (simp; omega)); have fw32_387 := fun o_ : Nat => hb.frozen (p := ⟨w.heap.size + 1, o_, none⟩) (by first | omega | (simp; done) | (simp; omega)); have cw32_390 := fun o_ : Nat => hb.cell (p := ⟨wc10.heap.size, o_, none⟩) (by first | omega | (simp; done) | (simp; omega)); have fw32_390 := fun o_ : Nat => hb.frozen (p := ⟨wc10.heap.size, o_, none⟩) (by first | omega | (simp; done) | (simp; omega)); clear hb; have hlw32_386_0 : w.heap.size < w32.heap.size := (by omega); have hlw32_387_0 : w.heap.size + 1 < w32.heap.size := (by omega); have hlw32_390_0 : wc10.heap.size < w32.heap.size := (by omega))))
                              refine bodyPost_ret ?_ rfl ⟨rfl, ?_⟩
                              · simp [results, Try.results19, go_sem, hz386_10_0, hz386_10_1, hz386_10_2, hz386_10_3, hz386_10_4, hz386_10_5, hz386_10_6, hf386_10_0, hf386_10_1, hf386_10_2, hf386_10_3, hf386_10_4, hf386_10_5, hf386_10_6, hz387_10_0, hz387_10_1, hz387_10_2, hz387_10_3, hz387_10_4, hz387_10_5, hz387_10_6, hf387_10_0, hf387_10_1, hf387_10_2, hf387_10_3, hf387_10_4, hf387_10_5, hf387_10_6, hlwc10_386_0, hlwc10_386_1, hnwc10_386_0, hmwc10_386_0, hlwc10_387_0, hlwc10_387_1, hnwc10_387_0, hmwc10_387_0, cw32_386, fw32_386, cw32_387, fw32_387, cw32_390, fw32_390, hlw32_386_0, hlw32_387_0, hlw32_390_0]
                              · exact (by repeat (first | (with_reducible first | exact HB_w32.out | exact Below.refl _ _ | apply below_alloc | apply pw_below_drewN | apply below_drew1) | refine below_set ?_ (by first | omega | (simp; omega) | simp)))
                            · rw [if_neg c30] at H
                              have c30b0 : (a1_2 == ((rd_T38 l0 a1_1).f1)) = false := beq_eq_false_iff_ne.mpr c30
                              have c30b1 : (a1_2 != ((rd_T38 l0 a1_1).f1)) = true := bne_iff_ne.mpr c30
                              clear c30
                              simp only [Option.some.injEq, Prod.mk.injEq] at H
                              obtain ⟨rfl, rfl, rfl, rfl, rfl, rfl, rfl, rfl⟩ := H
                              have hlwc10_386_0 : w.heap.size < wc10.heap.size := (by omega)
                              have hlwc10_386_1 : w.heap.size < wc10.heap.size + 1 := (by omega)
                              have hnwc10_386_0 : ¬ (w.heap.size = wc10.heap.size) := (by omega)
                              have hmwc10_386_0 : ¬ (wc10.heap.size = w.heap.size) := (by omega)
                              have hlwc10_387_0 : w.heap.size + 1 < wc10.heap.size := (by omega)
                              have hlwc10_387_1 : w.heap.size + 1 < wc10.heap.size + 1 := (by omega)
                              have hnwc10_387_0 : ¬ (w.heap.size + 1 = wc10.heap.size) := (by omega)
                              have hmwc10_387_0 : ¬ (wc10.heap.size = w.heap.size + 1) := (by omega)
                              have p389 : 0 ≤ (a1_1 : Int) := of_decide_eq_true (by first | (with_reducible assumption) | assumption)
                              have q389 : a1_1 < (l0.length : Int) := of_decide_eq_true (by first | (with_reducible assumption) | assumption)
                              obtain ⟨ad389, A389_2, c389_2, e389, hx389_0, hx389_1, hx389_2, hx389_3, hx389_4, hx389_5, hl389_2, hg389_2⟩ := at_T38 (Kd.C_below HR0.out HB_10.out) (a1_1) p389 q389
                              cases e389
                              have HG389_2 := Aside0.mk hg389_2
                              clear hg389_2
                              have HL389_2 := Aside0.mk hl389_2
                              clear hl389_2
                              have hw389 := cell_lt2 hx389_0
                              have hw389_1 := Nat.lt_add_right 1 hw389
                              have hbk389 := C_blk HR0.out (by omega) (by decide)
                              have hne389_386 : ¬ ((ad389.add (a1_1.toNat * 6)).block = w.heap.size) := (by rw [add_block]; omega)
                              have hnf389_386 : ¬ (w.heap.size = (ad389.add (a1_1.toNat * 6)).block) := (by rw [add_block]; omega)
                              have hne389_387 : ¬ ((ad389.add (a1_1.toNat * 6)).block = w.heap.size + 1) := (by rw [add_block]; omega)
                              have hnf389_387 : ¬ (w.heap.size + 1 = (ad389.add (a1_1.toNat * 6)).block) := (by rw [add_block]; omega)
                              replace p389 := eq_true p389
                              replace q389 := eq_true q389
                              try go_wp2
                              repeat (go_quiet (fail); try go_wp2)
                              refine bodyPost_ret ?_ rfl ⟨rfl, ?_⟩
                              · simp [results, Try.results19, go_sem, hz386_10_0, hz386_10_1, hz386_10_2, hz386_10_3, hz386_10_4, hz386_10_5, hz386_10_6, hf386_10_0, hf386_10_1, hf386_10_2, hf386_10_3, hf386_10_4, hf386_10_5, hf386_10_6, hz387_10_0, hz387_10_1, hz387_10_2, hz387_10_3, hz387_10_4, hz387_10_5, hz387_10_6, hf387_10_0, hf387_10_1, hf387_10_2, hf387_10_3, hf387_10_4, hf387_10_5, hf387_10_6, hlwc10_386_0, hlwc10_386_1, hnwc10_386_0, hmwc10_386_0, hlwc10_387_0, hlwc10_387_1, hnwc10_387_0, hmwc10_387_0]
                              · exact (by repeat (first | (with_reducible first | exact HB_10.out | exact Below.refl _ _ | apply below_alloc | apply pw_below_drewN | apply below_drew1) | refine below_set ?_ (by first | omega | (simp; omega) | simp)))
                    · rw [if_neg c18] at H
                      have c18b0 : (a1_0 == 1) = false := beq_eq_false_iff_ne.mpr c18
                      have c18b1 : (a1_0 != 1) = true := bne_iff_ne.mpr c18
                      clear c18
                      by_cases c33 : a4 = 1
                      · rw [if_pos c33] at H
                        have c33b0 : (a4 == 1) = true := beq_iff_eq.mpr c33
                        have c33b1 : (a4 != 1) = false := bne_eq_false_iff_eq.mpr c33
                        clear c33
                        obtain ⟨⟨t419, t420, t421, t422, t423, t424, t425⟩, A_, H⟩ := Option.bind_eq_some_iff.mp H
                        try dsimp only at H
                        have A34 := Aside0.mk A_
                        clear A_
                        simp only [Option.some.injEq, Prod.mk.injEq] at H
                        obtain ⟨rfl, rfl, rfl, rfl, rfl, rfl, rfl, rfl⟩ := H
                        have hlwc10_386_0 : w.heap.size < wc10.heap.size := (by omega)
                        have hlwc10_386_1 : w.heap.size < wc10.heap.size + 1 := (by omega)
                        have hnwc10_386_0 : ¬ (w.heap.size = wc10.heap.size) := (by omega)
                        have hmwc10_386_0 : ¬ (wc10.heap.size = w.heap.size) := (by omega)
                        have hlwc10_387_0 : w.heap.size + 1 < wc10.heap.size := (by omega)
                        have hlwc10_387_1 : w.heap.size + 1 < wc10.heap.size + 1 := (by omega)
                        have hnwc10_387_0 : ¬ (w.heap.size + 1 = wc10.heap.size) := (by omega)
                        have hmwc10_387_0 : ¬ (wc10.heap.size = w.heap.size + 1) := (by omega)
                        have p389 : 0 ≤ (a1_1 : Int) := of_decide_eq_true (by first | (with_reducible assumption) | assumption)
                        have q389 : a1_1 < (l0.length : Int) := of_decide_eq_true (by first | (with_reducible assumption) | assumption)
                        obtain ⟨ad389, A389_2, c389_2, e389, hx389_0, hx389_1, hx389_2, hx389_3, hx389_4, hx389_5, hl389_2, hg389_2⟩ := at_T38 (Kd.C_below HR0.out HB_10.out) (a1_1) p389 q389
                        cases e389
                        have HG389_2 := Aside0.mk hg389_2
                        clear hg389_2
                        have HL389_2 := Aside0.mk hl389_2
                        clear hl389_2
                        have hw389 := cell_lt2 hx389_0
                        have hw389_1 := Nat.lt_add_right 1 hw389
                        have hbk389 := C_blk HR0.out (by omega) (by decide)
                        have hne389_386 : ¬ ((ad389.add (a1_1.toNat * 6)).block = w.heap.size) := (by rw [add_block]; omega)
                        have hnf389_386 : ¬ (w.heap.size = (ad389.add (a1_1.toNat * 6)).block) := (by rw [add_block]; omega)
                        have hne389_387 : ¬ ((ad389.add (a1_1.toNat * 6)).block = w.heap.size + 1) := (by rw [add_block]; omega)
                        have hnf389_387 : ¬ (w.heap.size + 1 = (ad389.add (a1_1.toNat * 6)).block) := (by rw [add_block]; omega)
                        replace p389 := eq_true p389
                        replace q389 := eq_true q389
                        try go_wp2_with (first | (go_at_call 33; (with_reducible refine (drayageref14_back.calls k10 _ _ l0 (wrap64 (a1_1 - 1)) t419 t420 t421 t422 t423 t424 t425 _ ?sd0 HC0.out A34.out).mono ?_); (case sd0 => exact Kd.C_below HR0.out (by repeat (first | (with_reducible first | exact HB_10.out | exact Below.refl _ _ | apply below_alloc | apply pw_below_drewN | apply below_drew1) | refine below_set ?_ (by first | omega | (simp; omega) | simp)))); rintro e w35 ⟨rfl, hb⟩; have hsw35 : wc10.heap.size + 1 ≤ w35.heap.size := (by have h_ := hb.size; simpa using h_); have HB_w35 : Aside0 (Below w.heap.size w w35) := Aside0.mk (below_step (by repeat (first | (with_reducible first | exact HB_10.out | exact Below.refl _ _ | apply below_alloc | apply pw_below_drewN | apply below_drew1) | refine below_set ?_ (by first | omega | (simp; omega) | simp))) hb); have cw35_386 := fun o_ : Nat => hb.cell (p := ⟨w.heap.size, o_, none⟩) (by first | omega | (simp; done) | (simp; omega)); have fw35_386 := fun o_ : Nat => hb.frozen (p := ⟨w.heap.size, o_, none⟩) (by first | omega | (simp; done) | (simp; omega)); have cw35_387 := fun o_ : Nat => hb.cell (p := ⟨w.heap.size + 1, o_, none⟩) (by first | omega | (simp; done) | (simp; omega)); have fw35_387 := fun o_ : Nat => hb.frozen (p := ⟨w.heap.size + 1, o_, none⟩) (by first | omega | (simp; done) | (simp; omega)); have cw35_390 := fun o_ : Nat => hb.cell (p := ⟨wc10.heap.size, o_, none⟩) (by first | omega | (simp; done) | (simp; omega)); have fw35_390 := fun o_ : Nat => hb.frozen (p := ⟨wc10.heap.size, o_, none⟩) (by first | omega | (simp; done) | (simp; omega)); clear hb; have hlw35_386_0 : w.heap.size < w35.heap.size := (by omega); have hlw35_387_0 : w.heap.size + 1 < w35.heap.size := (by omega); have hlw35_390_0 : wc10.heap.size < w35.heap.size := (by omega)))
                        repeat (go_quiet (first | (go_at_call 33; (with_reducible refine (drayageref14_back.calls k10 _ _ l0 (wrap64 (a1_1 - 1)) t419 t420 t421 t422 t423 t424 t425 _ ?sd0 HC0.out A34.out).mono ?_); (case sd0 => exact Kd.C_below HR0.out (by repeat (first | (with_reducible first | exact HB_10.out | exact Below.refl _ _ | apply below_alloc | apply pw_below_drewN | apply below_drew1) | refine below_set ?_ (by first | omega | (simp; omega) | simp)))); rintro e w35 ⟨rfl, hb⟩; have hsw35 : wc10.heap.size + 1 ≤ w35.heap.size := (by have h_ := hb.size; simpa using h_); have HB_w35 : Aside0 (Below w.heap.size w w35) := Aside0.mk (below_step (by repeat (first | (with_reducible first | exact HB_10.out | exact Below.refl _ _ | apply below_alloc | apply pw_below_drewN | apply below_drew1) | refine below_set ?_ (by first | omega | (simp; omega) | simp))) hb); have cw35_386 := fun o_ : Nat => hb.cell (p := ⟨w.heap.size, o_, none⟩) (by first | omega | (simp; done) | (simp; omega)); have fw35_386 := fun o_ : Nat => hb.frozen (p := ⟨w.heap.size, o_, none⟩) (by first | omega | (simp; done) | (simp; omega)); have cw35_387 := fun o_ : Nat => hb.cell (p := ⟨w.heap.size + 1, o_, none⟩) (by first | omega | (simp; done) | (simp; omega)); have fw35_387 := fun o_ : Nat => hb.frozen (p := ⟨w.heap.size + 1, o_, none⟩) (by first | omega | (simp; done) | (simp; omega)); have cw35_390 := fun o_ : Nat => hb.cell (p := ⟨wc10.heap.size, o_, none⟩) (by first | omega | (simp; done) | (simp; omega)); have fw35_390 := fun o_ : Nat => hb.frozen (p := ⟨wc10.heap.size, o_, none⟩) (by first | omega | (simp; done) | (simp; omega)); clear hb; have hlw35_386_0 : w.heap.size < w35.heap.size := (by omega); have hlw35_387_0 : w.heap.size + 1 < w35.heap.size := (by omega); have hlw35_390_0 : wc10.heap.size < w35.heap.size := (by omega))); try go_wp2_with (first | (go_at_call 33; (with_reducible refine (drayageref14_back.calls k10 _ _ l0 (wrap64 (a1_1 - 1)) t419 t420 t421 t422 t423 t424 t425 _ ?sd0 HC0.out A34.out).mono ?_); (case sd0 => exact Kd.C_below HR0.out (by repeat (first | (with_reducible first | exact HB_10.out | exact Below.refl _ _ | apply below_alloc | apply pw_below_drewN | apply below_drew1) | refine below_set ?_ (by first | omega | (simp; omega) | simp)))); rintro e w35 ⟨rfl, hb⟩; have hsw35 : wc10.heap.size + 1 ≤ w35.heap.size := (by have h_ := hb.size; simpa using h_); have HB_w35 : Aside0 (Below w.heap.size w w35) := Aside0.mk (below_step (by repeat (first | (with_reducible first | exact HB_10.out | exact Below.refl _ _ | apply below_alloc | apply pw_below_drewN | apply below_drew1) | refine below_set ?_ (by first | omega | (simp; omega) | simp))) hb); have cw35_386 := fun o_ : Nat => hb.cell (p := ⟨w.heap.size, o_, none⟩) (by first | omega | (simp; done) | (simp; omega)); have fw35_386 := fun o_ : Nat => hb.frozen (p := ⟨w.heap.size, o_, none⟩) (by first | omega | (simp; done) | (simp; omega)); have cw35_387 := fun o_ : Nat => hb.cell (p := ⟨w.heap.size + 1, o_, none⟩) (by first | omega | (simp; done) | (simp; omega)); have fw35_387 := fun o_ : Nat => hb.frozen (p := ⟨w.heap.size + 1, o_, none⟩) (by first | omega | (simp; done) | (simp; omega)); have cw35_390 := fun o_ : Nat => hb.cell (p := ⟨wc10.heap.size, o_, none⟩) (by first | omega | (simp; done) | (simp; omega)); have fw35_390 := fun o_ : Nat => hb.frozen (p := ⟨wc10.heap.size, o_, none⟩) (by first | omega | (simp; done) | (simp; omega)); clear hb; have hlw35_386_0 : w.heap.size < w35.heap.size := (by omega); have hlw35_387_0 : w.heap.size + 1 < w35.heap.size := (by omega); have hlw35_390_0 : wc10.heap.size < w35.heap.size := (by omega))))
                        refine bodyPost_ret ?_ rfl ⟨rfl, ?_⟩
                        · simp [results, Try.results19, go_sem, hz386_10_0, hz386_10_1, hz386_10_2, hz386_10_3, hz386_10_4, hz386_10_5, hz386_10_6, hf386_10_0, hf386_10_1, hf386_10_2, hf386_10_3, hf386_10_4, hf386_10_5, hf386_10_6, hz387_10_0, hz387_10_1, hz387_10_2, hz387_10_3, hz387_10_4, hz387_10_5, hz387_10_6, hf387_10_0, hf387_10_1, hf387_10_2, hf387_10_3, hf387_10_4, hf387_10_5, hf387_10_6, hlwc10_386_0, hlwc10_386_1, hnwc10_386_0, hmwc10_386_0, hlwc10_387_0, hlwc10_387_1, hnwc10_387_0, hmwc10_387_0, cw35_386, fw35_386, cw35_387, fw35_387, cw35_390, fw35_390, hlw35_386_0, hlw35_387_0, hlw35_390_0]
                        · exact (by repeat (first | (with_reducible first | exact HB_w35.out | exact Below.refl _ _ | apply below_alloc | apply pw_below_drewN | apply below_drew1) | refine below_set ?_ (by first | omega | (simp; omega) | simp)))
                      · rw [if_neg c33] at H
                        have c33b0 : (a4 == 1) = false := beq_eq_false_iff_ne.mpr c33
                        have c33b1 : (a4 != 1) = true := bne_iff_ne.mpr c33
                        clear c33
                        by_cases c36 : a1_2 = ((rd_T38 l0 a1_1).f1)
                        · rw [if_pos c36] at H
                          have c36b0 : (a1_2 == ((rd_T38 l0 a1_1).f1)) = true := beq_iff_eq.mpr c36
                          have c36b1 : (a1_2 != ((rd_T38 l0 a1_1).f1)) = false := bne_eq_false_iff_eq.mpr c36
                          clear c36
                          simp only [Option.some.injEq, Prod.mk.injEq] at H
                          obtain ⟨rfl, rfl, rfl, rfl, rfl, rfl, rfl, rfl⟩ := H
                          have hlwc10_386_0 : w.heap.size < wc10.heap.size := (by omega)
                          have hlwc10_386_1 : w.heap.size < wc10.heap.size + 1 := (by omega)
                          have hnwc10_386_0 : ¬ (w.heap.size = wc10.heap.size) := (by omega)
                          have hmwc10_386_0 : ¬ (wc10.heap.size = w.heap.size) := (by omega)
                          have hlwc10_387_0 : w.heap.size + 1 < wc10.heap.size := (by omega)
                          have hlwc10_387_1 : w.heap.size + 1 < wc10.heap.size + 1 := (by omega)
                          have hnwc10_387_0 : ¬ (w.heap.size + 1 = wc10.heap.size) := (by omega)
                          have hmwc10_387_0 : ¬ (wc10.heap.size = w.heap.size + 1) := (by omega)
                          have p389 : 0 ≤ (a1_1 : Int) := of_decide_eq_true (by first | (with_reducible assumption) | assumption)
                          have q389 : a1_1 < (l0.length : Int) := of_decide_eq_true (by first | (with_reducible assumption) | assumption)
                          obtain ⟨ad389, A389_2, c389_2, e389, hx389_0, hx389_1, hx389_2, hx389_3, hx389_4, hx389_5, hl389_2, hg389_2⟩ := at_T38 (Kd.C_below HR0.out HB_10.out) (a1_1) p389 q389
                          cases e389
                          have HG389_2 := Aside0.mk hg389_2
                          clear hg389_2
                          have HL389_2 := Aside0.mk hl389_2
                          clear hl389_2
                          have hw389 := cell_lt2 hx389_0
                          have hw389_1 := Nat.lt_add_right 1 hw389
                          have hbk389 := C_blk HR0.out (by omega) (by decide)
                          have hne389_386 : ¬ ((ad389.add (a1_1.toNat * 6)).block = w.heap.size) := (by rw [add_block]; omega)
                          have hnf389_386 : ¬ (w.heap.size = (ad389.add (a1_1.toNat * 6)).block) := (by rw [add_block]; omega)
                          have hne389_387 : ¬ ((ad389.add (a1_1.toNat * 6)).block = w.heap.size + 1) := (by rw [add_block]; omega)
                          have hnf389_387 : ¬ (w.heap.size + 1 = (ad389.add (a1_1.toNat * 6)).block) := (by rw [add_block]; omega)
                          replace p389 := eq_true p389
                          replace q389 := eq_true q389
                          try go_wp2
                          repeat (go_quiet (fail); try go_wp2)
                          refine bodyPost_ret ?_ rfl ⟨rfl, ?_⟩
                          · simp [results, Try.results19, go_sem, hz386_10_0, hz386_10_1, hz386_10_2, hz386_10_3, hz386_10_4, hz386_10_5, hz386_10_6, hf386_10_0, hf386_10_1, hf386_10_2, hf386_10_3, hf386_10_4, hf386_10_5, hf386_10_6, hz387_10_0, hz387_10_1, hz387_10_2, hz387_10_3, hz387_10_4, hz387_10_5, hz387_10_6, hf387_10_0, hf387_10_1, hf387_10_2, hf387_10_3, hf387_10_4, hf387_10_5, hf387_10_6, hlwc10_386_0, hlwc10_386_1, hnwc10_386_0, hmwc10_386_0, hlwc10_387_0, hlwc10_387_1, hnwc10_387_0, hmwc10_387_0]
                          · exact (by repeat (first | (with_reducible first | exact HB_10.out | exact Below.refl _ _ | apply below_alloc | apply pw_below_drewN | apply below_drew1) | refine below_set ?_ (by first | omega | (simp; omega) | simp)))
                        · rw [if_neg c36] at H
                          have c36b0 : (a1_2 == ((rd_T38 l0 a1_1).f1)) = false := beq_eq_false_iff_ne.mpr c36
                          have c36b1 : (a1_2 != ((rd_T38 l0 a1_1).f1)) = true := bne_iff_ne.mpr c36
                          clear c36
                          simp only [Option.some.injEq, Prod.mk.injEq] at H
                          obtain ⟨rfl, rfl, rfl, rfl, rfl, rfl, rfl, rfl⟩ := H
                          have hlwc10_386_0 : w.heap.size < wc10.heap.size := (by omega)
                          have hlwc10_386_1 : w.heap.size < wc10.heap.size + 1 := (by omega)
                          have hnwc10_386_0 : ¬ (w.heap.size = wc10.heap.size) := (by omega)
                          have hmwc10_386_0 : ¬ (wc10.heap.size = w.heap.size) := (by omega)
                          have hlwc10_387_0 : w.heap.size + 1 < wc10.heap.size := (by omega)
                          have hlwc10_387_1 : w.heap.size + 1 < wc10.heap.size + 1 := (by omega)
                          have hnwc10_387_0 : ¬ (w.heap.size + 1 = wc10.heap.size) := (by omega)
                          have hmwc10_387_0 : ¬ (wc10.heap.size = w.heap.size + 1) := (by omega)
                          have p389 : 0 ≤ (a1_1 : Int) := of_decide_eq_true (by first | (with_reducible assumption) | assumption)
                          have q389 : a1_1 < (l0.length : Int) := of_decide_eq_true (by first | (with_reducible assumption) | assumption)
                          obtain ⟨ad389, A389_2, c389_2, e389, hx389_0, hx389_1, hx389_2, hx389_3, hx389_4, hx389_5, hl389_2, hg389_2⟩ := at_T38 (Kd.C_below HR0.out HB_10.out) (a1_1) p389 q389
                          cases e389
                          have HG389_2 := Aside0.mk hg389_2
                          clear hg389_2
                          have HL389_2 := Aside0.mk hl389_2
                          clear hl389_2
                          have hw389 := cell_lt2 hx389_0
                          have hw389_1 := Nat.lt_add_right 1 hw389
                          have hbk389 := C_blk HR0.out (by omega) (by decide)
                          have hne389_386 : ¬ ((ad389.add (a1_1.toNat * 6)).block = w.heap.size) := (by rw [add_block]; omega)
                          have hnf389_386 : ¬ (w.heap.size = (ad389.add (a1_1.toNat * 6)).block) := (by rw [add_block]; omega)
                          have hne389_387 : ¬ ((ad389.add (a1_1.toNat * 6)).block = w.heap.size + 1) := (by rw [add_block]; omega)
                          have hnf389_387 : ¬ (w.heap.size + 1 = (ad389.add (a1_1.toNat * 6)).block) := (by rw [add_block]; omega)
                          replace p389 := eq_true p389
                          replace q389 := eq_true q389
                          try go_wp2
                          repeat (go_quiet (fail); try go_wp2)
                          refine bodyPost_ret ?_ rfl ⟨rfl, ?_⟩
                          · simp [results, Try.results19, go_sem, hz386_10_0, hz386_10_1, hz386_10_2, hz386_10_3, hz386_10_4, hz386_10_5, hz386_10_6, hf386_10_0, hf386_10_1, hf386_10_2, hf386_10_3, hf386_10_4, hf386_10_5, hf386_10_6, hz387_10_0, hz387_10_1, hz387_10_2, hz387_10_3, hz387_10_4, hz387_10_5, hz387_10_6, hf387_10_0, hf387_10_1, hf387_10_2, hf387_10_3, hf387_10_4, hf387_10_5, hf387_10_6, hlwc10_386_0, hlwc10_386_1, hnwc10_386_0, hmwc10_386_0, hlwc10_387_0, hlwc10_387_1, hnwc10_387_0, hmwc10_387_0]
                          · exact (by repeat (first | (with_reducible first | exact HB_10.out | exact Below.refl _ _ | apply below_alloc | apply pw_below_drewN | apply below_drew1) | refine below_set ?_ (by first | omega | (simp; omega) | simp)))
                  · rw [if_neg c17] at H
                    exact absurd H (by simp)
                · rw [if_neg c16] at H
                  exact absurd H (by simp)
  · rw [if_neg c3] at H
    have c3b0 : (t388 == 0) = false := beq_eq_false_iff_ne.mpr c3
    have c3b1 : (t388 != 0) = true := bne_iff_ne.mpr c3
    clear c3
    simp only [Option.some.injEq, Prod.mk.injEq] at H
    obtain ⟨rfl, rfl, rfl, rfl, rfl, rfl, rfl, rfl⟩ := H
    go_enter Try.func19, Try.ntmps19
    try go_wp2_with (first | (go_at_call 25; (with_reducible refine (drayageref14_Check.calls k _ _ l0 a1_0 a1_1 a1_2 a1_3 a1_4 a1_5 a1_6 t388 _ ?sd0 HC0.out A2.out).mono ?_); (case sd0 => exact Kd.C_below HR0.out (by repeat (first | (with_reducible first | exact Below.refl _ _ | apply below_alloc | apply pw_below_drewN | apply below_drew1) | refine below_set ?_ (by first | omega | (simp; omega) | simp)))); rintro e w37 ⟨rfl, hb⟩; have hsw37 : w.heap.size + 2 ≤ w37.heap.size := (by have h_ := hb.size; simpa using h_); have HB_w37 : Aside0 (Below w.heap.size w w37) := Aside0.mk (below_step (by repeat (first | (with_reducible first | exact Below.refl _ _ | apply below_alloc | apply pw_below_drewN | apply below_drew1) | refine below_set ?_ (by first | omega | (simp; omega) | simp))) hb); have cw37_386 := fun o_ : Nat => hb.cell (p := ⟨w.heap.size, o_, none⟩) (by first | omega | (simp; done) | (simp; omega)); have fw37_386 := fun o_ : Nat => hb.frozen (p := ⟨w.heap.size, o_, none⟩) (by first | omega | (simp; done) | (simp; omega)); have cw37_387 := fun o_ : Nat => hb.cell (p := ⟨w.heap.size + 1, o_, none⟩) (by first | omega | (simp; done) | (simp; omega)); have fw37_387 := fun o_ : Nat => hb.frozen (p := ⟨w.heap.size + 1, o_, none⟩) (by first | omega | (simp; done) | (simp; omega)); clear hb; have hlw37_386_0 : w.heap.size < w37.heap.size := (by omega); have hlw37_387_0 : w.heap.size + 1 < w37.heap.size := (by omega)))
    repeat (go_quiet (first | (go_at_call 25; (with_reducible refine (drayageref14_Check.calls k _ _ l0 a1_0 a1_1 a1_2 a1_3 a1_4 a1_5 a1_6 t388 _ ?sd0 HC0.out A2.out).mono ?_); (case sd0 => exact Kd.C_below HR0.out (by repeat (first | (with_reducible first | exact Below.refl _ _ | apply below_alloc | apply pw_below_drewN | apply below_drew1) | refine below_set ?_ (by first | omega | (simp; omega) | simp)))); rintro e w37 ⟨rfl, hb⟩; have hsw37 : w.heap.size + 2 ≤ w37.heap.size := (by have h_ := hb.size; simpa using h_); have HB_w37 : Aside0 (Below w.heap.size w w37) := Aside0.mk (below_step (by repeat (first | (with_reducible first | exact Below.refl _ _ | apply below_alloc | apply pw_below_drewN | apply below_drew1) | refine below_set ?_ (by first | omega | (simp; omega) | simp))) hb); have cw37_386 := fun o_ : Nat => hb.cell (p := ⟨w.heap.size, o_, none⟩) (by first | omega | (simp; done) | (simp; omega)); have fw37_386 := fun o_ : Nat => hb.frozen (p := ⟨w.heap.size, o_, none⟩) (by first | omega | (simp; done) | (simp; omega)); have cw37_387 := fun o_ : Nat => hb.cell (p := ⟨w.heap.size + 1, o_, none⟩) (by first | omega | (simp; done) | (simp; omega)); have fw37_387 := fun o_ : Nat => hb.frozen (p := ⟨w.heap.size + 1, o_, none⟩) (by first | omega | (simp; done) | (simp; omega)); clear hb; have hlw37_386_0 : w.heap.size < w37.heap.size := (by omega); have hlw37_387_0 : w.heap.size + 1 < w37.heap.size := (by omega))); try go_wp2_with (first | (go_at_call 25; (with_reducible refine (drayageref14_Check.calls k _ _ l0 a1_0 a1_1 a1_2 a1_3 a1_4 a1_5 a1_6 t388 _ ?sd0 HC0.out A2.out).mono ?_); (case sd0 => exact Kd.C_below HR0.out (by repeat (first | (with_reducible first | exact Below.refl _ _ | apply below_alloc | apply pw_below_drewN | apply below_drew1) | refine below_set ?_ (by first | omega | (simp; omega) | simp)))); rintro e w37 ⟨rfl, hb⟩; have hsw37 : w.heap.size + 2 ≤ w37.heap.size := (by have h_ := hb.size; simpa using h_); have HB_w37 : Aside0 (Below w.heap.size w w37) := Aside0.mk (below_step (by repeat (first | (with_reducible first | exact Below.refl _ _ | apply below_alloc | apply pw_below_drewN | apply below_drew1) | refine below_set ?_ (by first | omega | (simp; omega) | simp))) hb); have cw37_386 := fun o_ : Nat => hb.cell (p := ⟨w.heap.size, o_, none⟩) (by first | omega | (simp; done) | (simp; omega)); have fw37_386 := fun o_ : Nat => hb.frozen (p := ⟨w.heap.size, o_, none⟩) (by first | omega | (simp; done) | (simp; omega)); have cw37_387 := fun o_ : Nat => hb.cell (p := ⟨w.heap.size + 1, o_, none⟩) (by first | omega | (simp; done) | (simp; omega)); have fw37_387 := fun o_ : Nat => hb.frozen (p := ⟨w.heap.size + 1, o_, none⟩) (by first | omega | (simp; done) | (simp; omega)); clear hb; have hlw37_386_0 : w.heap.size < w37.heap.size := (by omega); have hlw37_387_0 : w.heap.size + 1 < w37.heap.size := (by omega))))
    refine bodyPost_ret ?_ rfl ⟨rfl, ?_⟩
    · simp [results, Try.results19, go_sem, cw37_386, fw37_386, cw37_387, fw37_387, hlw37_386_0, hlw37_387_0]
    · exact (by repeat (first | (with_reducible first | exact HB_w37.out | exact Below.refl _ _ | apply below_alloc | apply pw_below_drewN | apply below_drew1) | refine below_set ?_ (by first | omega | (simp; omega) | simp)))

/-! ### saga_Tick: function 20 -/
def saga_Tick.f (k : Nat) (l0 : List (S38)) (a1_0 : Int) (a1_1 : Int) (a1_2 : Int) (a1_3 : Bool) (a1_4 : Int) (a1_5 : Bool) (a1_6 : Int) : Option (Int × Int × Int × Bool × Int × Bool × Int × Int) := (saga_Check.f k l0 a1_0 a1_1 a1_2 a1_3 a1_4 a1_5 a1_6).bind fun t428 => (if t428 = 0 then (if a1_3 = true then (if a1_4 = 1 then ((saga_Tell.f k l0 a1_0 a1_1 a1_2 a1_3 a1_4 a1_5 a1_6 a1_1 (a1_0 == 2) 3).bind fun bt429 => (some (bt429.1, bt429.2.1, bt429.2.2.1, bt429.2.2.2.1, bt429.2.2.2.2.1, bt429.2.2.2.2.2.1, bt429.2.2.2.2.2.2.1, bt429.2.2.2.2.2.2.2))) else (some (a1_0, a1_1, a1_2, a1_3, wrap64 (a1_4 - 1), a1_5, a1_6, 0))) else (some (a1_0, a1_1, a1_2, a1_3, a1_4, a1_5, a1_6, 0))) else (some (0, 0, 0, false, 0, false, 0, t428)))
theorem saga_Tick.mono : ∀ a0 a1 a2 a3 a4 a5 a6 a7 k, LeO (saga_Tick.f k a0 a1 a2 a3 a4 a5 a6 a7) (saga_Tick.f (k + 1) a0 a1 a2 a3 a4 a5 a6 a7) := by
  intro a0 a1 a2 a3 a4 a5 a6 a7 k
  unfold saga_Tick.f
  repeat' first
      | (with_reducible exact saga_Check.mono _ _ _ _ _ _ _ _ _)
      | (with_reducible exact saga_Tell.mono _ _ _ _ _ _ _ _ _ _ _ _)
      | (with_reducible exact LeO.refl _)
      | (with_reducible exact LeO.none _)
      | (with_reducible refine LeO.ite ?_ ?_)
      | (with_reducible refine LeO.bind ?_ (fun _ => ?_))
      | exact saga_Check.mono _ _ _ _ _ _ _ _ _
      | exact saga_Tell.mono _ _ _ _ _ _ _ _ _ _ _ _
      | exact LeO.none _
      | refine LeO.ite ?_ ?_
      | refine LeO.bind ?_ (fun _ => ?_)
attribute [local go_sem] cell_alloc_lt2 cell_set_ne2
set_option maxHeartbeats 8000000 in
set_option maxRecDepth 100000 in
theorem saga_Tick.calls (k : Nat) (A0 : Option Addr) (c0 : Nat) (l0 : List (S38)) (a1_0 : Int) (a1_1 : Int) (a1_2 : Int) (a1_3 : Bool) (a1_4 : Int) (a1_5 : Bool) (a1_6 : Int) (r1 : Int) (r2 : Int) (r3 : Int) (r4 : Bool) (r5 : Int) (r6 : Bool) (r7 : Int) (r8 : Int) (w : World) (hr0 : Kd.C k38 w A0 l0.length l0) (hc0 : l0.length ≤ c0) (h : saga_Tick.f k l0 a1_0 a1_1 a1_2 a1_3 a1_4 a1_5 a1_6 = some (r1, r2, r3, r4, r5, r6, r7, r8)) :
    Calls Try.prog 20 #[.slice A0 l0.length c0, .agg #[.int .i64 a1_0, .int .i64 a1_1, .int .i64 a1_2, .bool a1_3, .int .i64 a1_4, .bool a1_5, .int .i64 a1_6]] w fun e w' => e = .returned (.tuple #[.agg #[.int .i64 r1, .int .i64 r2, .int .i64 r3, .bool r4, .int .i64 r5, .bool r6, .int .i64 r7], .int .i64 r8]) ∧ Below w.heap.size w w' := by
  have hu28 := Try.underlying28
  have HR0 := Aside0.mk hr0
  have HC0 := Aside0.mk hc0
  clear hr0 hc0
  have HB := Aside0.mk (Below.refl w.heap.size w)
  have H := h
  clear h
  unfold saga_Tick.f at H
  obtain ⟨t428, A_, H⟩ := Option.bind_eq_some_iff.mp H
  try dsimp only at H
  have A2 := Aside0.mk A_
  clear A_
  by_cases c3 : t428 = 0
  · rw [if_pos c3] at H
    have c3b0 : (t428 == 0) = true := beq_iff_eq.mpr c3
    have c3b1 : (t428 != 0) = false := bne_eq_false_iff_eq.mpr c3
    clear c3
    by_cases c4 : a1_3 = true
    · subst c4
      rw [if_pos rfl] at H
      by_cases c5 : a1_4 = 1
      · rw [if_pos c5] at H
        have c5b0 : (a1_4 == 1) = true := beq_iff_eq.mpr c5
        have c5b1 : (a1_4 != 1) = false := bne_eq_false_iff_eq.mpr c5
        clear c5
        obtain ⟨⟨t429, t430, t431, t432, t433, t434, t435, t436⟩, A_, H⟩ := Option.bind_eq_some_iff.mp H
        try dsimp only at H
        have A6 := Aside0.mk A_
        clear A_
        simp only [Option.some.injEq, Prod.mk.injEq] at H
        obtain ⟨rfl, rfl, rfl, rfl, rfl, rfl, rfl, rfl⟩ := H
        go_enter Try.func20, Try.ntmps20
        go_wp2_with (first | ((with_reducible refine gate_callee (f := 24) rfl ?_); refine goesL_ (some 9) rfl rfl Try.func24 (by kernel_rfl) rfl #[.slice A0 l0.length c0, .agg #[.int .i64 a1_0, .int .i64 a1_1, .int .i64 a1_2, .bool true, .int .i64 a1_4, .bool a1_5, .int .i64 a1_6]] rfl (by (try simp only [List.map_toArray, List.map_cons, List.map_nil]); first | done | rfl | (simp only [List.length_drop, List.length_take]; rfl)) ?_; (with_reducible refine (saga_Check.calls k _ _ l0 a1_0 a1_1 a1_2 true a1_4 a1_5 a1_6 t428 _ ?sd0 HC0.out A2.out).mono ?_); (case sd0 => exact Kd.C_below HR0.out (by repeat (first | (with_reducible first | exact Below.refl _ _ | apply below_alloc | apply pw_below_drewN | apply below_drew1) | refine below_set ?_ (by first | omega | (simp; omega) | simp)))); rintro e w7 ⟨rfl, hb⟩; refine ⟨_, rfl, ?_⟩; have hsw7 : w.heap.size + 2 ≤ w7.heap.size := (by have h_ := hb.size; simpa using h_); have HB_w7 : Aside0 (Below w.heap.size w w7) := Aside0.mk (below_step (by repeat (first | (with_reducible first | exact Below.refl _ _ | apply below_alloc | apply pw_below_drewN | apply below_drew1) | refine below_set ?_ (by first | omega | (simp; omega) | simp))) hb); have cw7_426 := fun o_ : Nat => hb.cell (p := ⟨w.heap.size, o_, none⟩) (by first | omega | (simp; done) | (simp; omega)); have fw7_426 := fun o_ : Nat => hb.frozen (p := ⟨w.heap.size, o_, none⟩) (by first | omega | (simp; done) | (simp; omega)); have cw7_427 := fun o_ : Nat => hb.cell (p := ⟨w.heap.size + 1, o_, none⟩) (by first | omega | (simp; done) | (simp; omega)); have fw7_427 := fun o_ : Nat => hb.frozen (p := ⟨w.heap.size + 1, o_, none⟩) (by first | omega | (simp; done) | (simp; omega)); clear hb; have hlw7_426_0 : w.heap.size < w7.heap.size := (by omega); have hlw7_427_0 : w.heap.size + 1 < w7.heap.size := (by omega)) | ((with_reducible refine gate_callee (f := 15) rfl ?_); refine goesL_ (some 31) rfl rfl Try.func15 (by kernel_rfl) rfl #[.slice A0 l0.length c0, .agg #[.int .i64 a1_0, .int .i64 a1_1, .int .i64 a1_2, .bool true, .int .i64 a1_4, .bool a1_5, .int .i64 a1_6], .int .i64 a1_1, .bool (a1_0 == 2), .int .i64 3] rfl (by (try simp only [List.map_toArray, List.map_cons, List.map_nil]); first | done | rfl | (simp only [List.length_drop, List.length_take]; rfl)) ?_; (with_reducible refine (saga_Tell.calls k _ _ l0 a1_0 a1_1 a1_2 true a1_4 a1_5 a1_6 a1_1 (a1_0 == 2) 3 t429 t430 t431 t432 t433 t434 t435 t436 _ ?sd0 HC0.out A6.out).mono ?_); (case sd0 => exact Kd.C_below HR0.out (by repeat (first | (with_reducible first | exact HB_w7.out | exact Below.refl _ _ | apply below_alloc | apply pw_below_drewN | apply below_drew1) | refine below_set ?_ (by first | omega | (simp; omega) | simp)))); rintro e w8 ⟨rfl, hb⟩; refine ⟨_, rfl, ?_⟩; have hsw8 : w7.heap.size ≤ w8.heap.size := (by have h_ := hb.size; simpa using h_); have HB_w8 : Aside0 (Below w.heap.size w w8) := Aside0.mk (below_step (by repeat (first | (with_reducible first | exact HB_w7.out | exact Below.refl _ _ | apply below_alloc | apply pw_below_drewN | apply below_drew1) | refine below_set ?_ (by first | omega | (simp; omega) | simp))) hb); have cw8_426 := fun o_ : Nat => hb.cell (p := ⟨w.heap.size, o_, none⟩) (by first | omega | (simp; done) | (simp; omega)); have fw8_426 := fun o_ : Nat => hb.frozen (p := ⟨w.heap.size, o_, none⟩) (by first | omega | (simp; done) | (simp; omega)); have cw8_427 := fun o_ : Nat => hb.cell (p := ⟨w.heap.size + 1, o_, none⟩) (by first | omega | (simp; done) | (simp; omega)); have fw8_427 := fun o_ : Nat => hb.frozen (p := ⟨w.heap.size + 1, o_, none⟩) (by first | omega | (simp; done) | (simp; omega)); clear hb; have hlw8_426_0 : w.heap.size < w8.heap.size := (by omega); have hlw8_427_0 : w.heap.size + 1 < w8.heap.size := (by omega)))
        refine bodyPost_ret ?_ rfl ⟨rfl, ?_⟩
        · simp [results, Try.results20, go_sem, cw7_426, fw7_426, cw7_427, fw7_427, hlw7_426_0, hlw7_427_0, cw8_426, fw8_426, cw8_427, fw8_427, hlw8_426_0, hlw8_427_0]
        · exact (by repeat (first | (with_reducible first | exact HB_w8.out | exact Below.refl _ _ | apply below_alloc | apply pw_below_drewN | apply below_drew1) | refine below_set ?_ (by first | omega | (simp; omega) | simp)))
      · rw [if_neg c5] at H
        have c5b0 : (a1_4 == 1) = false := beq_eq_false_iff_ne.mpr c5
        have c5b1 : (a1_4 != 1) = true := bne_iff_ne.mpr c5
        clear c5
        simp only [Option.some.injEq, Prod.mk.injEq] at H
        obtain ⟨rfl, rfl, rfl, rfl, rfl, rfl, rfl, rfl⟩ := H
        go_enter Try.func20, Try.ntmps20
        go_wp2_with (first | ((with_reducible refine gate_callee (f := 24) rfl ?_); refine goesL_ (some 9) rfl rfl Try.func24 (by kernel_rfl) rfl #[.slice A0 l0.length c0, .agg #[.int .i64 a1_0, .int .i64 a1_1, .int .i64 a1_2, .bool true, .int .i64 a1_4, .bool a1_5, .int .i64 a1_6]] rfl (by (try simp only [List.map_toArray, List.map_cons, List.map_nil]); first | done | rfl | (simp only [List.length_drop, List.length_take]; rfl)) ?_; (with_reducible refine (saga_Check.calls k _ _ l0 a1_0 a1_1 a1_2 true a1_4 a1_5 a1_6 t428 _ ?sd0 HC0.out A2.out).mono ?_); (case sd0 => exact Kd.C_below HR0.out (by repeat (first | (with_reducible first | exact Below.refl _ _ | apply below_alloc | apply pw_below_drewN | apply below_drew1) | refine below_set ?_ (by first | omega | (simp; omega) | simp)))); rintro e w9 ⟨rfl, hb⟩; refine ⟨_, rfl, ?_⟩; have hsw9 : w.heap.size + 2 ≤ w9.heap.size := (by have h_ := hb.size; simpa using h_); have HB_w9 : Aside0 (Below w.heap.size w w9) := Aside0.mk (below_step (by repeat (first | (with_reducible first | exact Below.refl _ _ | apply below_alloc | apply pw_below_drewN | apply below_drew1) | refine below_set ?_ (by first | omega | (simp; omega) | simp))) hb); have cw9_426 := fun o_ : Nat => hb.cell (p := ⟨w.heap.size, o_, none⟩) (by first | omega | (simp; done) | (simp; omega)); have fw9_426 := fun o_ : Nat => hb.frozen (p := ⟨w.heap.size, o_, none⟩) (by first | omega | (simp; done) | (simp; omega)); have cw9_427 := fun o_ : Nat => hb.cell (p := ⟨w.heap.size + 1, o_, none⟩) (by first | omega | (simp; done) | (simp; omega)); have fw9_427 := fun o_ : Nat => hb.frozen (p := ⟨w.heap.size + 1, o_, none⟩) (by first | omega | (simp; done) | (simp; omega)); clear hb; have hlw9_426_0 : w.heap.size < w9.heap.size := (by omega); have hlw9_427_0 : w.heap.size + 1 < w9.heap.size := (by omega)))
        refine bodyPost_ret ?_ rfl ⟨rfl, ?_⟩
        · simp [results, Try.results20, go_sem, cw9_426, fw9_426, cw9_427, fw9_427, hlw9_426_0, hlw9_427_0]
        · exact (by repeat (first | (with_reducible first | exact HB_w9.out | exact Below.refl _ _ | apply below_alloc | apply pw_below_drewN | apply below_drew1) | refine below_set ?_ (by first | omega | (simp; omega) | simp)))
    · replace c4 := Bool.eq_false_iff.mpr c4; subst c4
      rw [if_neg (by decide)] at H
      simp only [Option.some.injEq, Prod.mk.injEq] at H
      obtain ⟨rfl, rfl, rfl, rfl, rfl, rfl, rfl, rfl⟩ := H
      go_enter Try.func20, Try.ntmps20
      go_wp2_with (first | ((with_reducible refine gate_callee (f := 24) rfl ?_); refine goesL_ (some 9) rfl rfl Try.func24 (by kernel_rfl) rfl #[.slice A0 l0.length c0, .agg #[.int .i64 a1_0, .int .i64 a1_1, .int .i64 a1_2, .bool false, .int .i64 a1_4, .bool a1_5, .int .i64 a1_6]] rfl (by (try simp only [List.map_toArray, List.map_cons, List.map_nil]); first | done | rfl | (simp only [List.length_drop, List.length_take]; rfl)) ?_; (with_reducible refine (saga_Check.calls k _ _ l0 a1_0 a1_1 a1_2 false a1_4 a1_5 a1_6 t428 _ ?sd0 HC0.out A2.out).mono ?_); (case sd0 => exact Kd.C_below HR0.out (by repeat (first | (with_reducible first | exact Below.refl _ _ | apply below_alloc | apply pw_below_drewN | apply below_drew1) | refine below_set ?_ (by first | omega | (simp; omega) | simp)))); rintro e w10 ⟨rfl, hb⟩; refine ⟨_, rfl, ?_⟩; have hsw10 : w.heap.size + 2 ≤ w10.heap.size := (by have h_ := hb.size; simpa using h_); have HB_w10 : Aside0 (Below w.heap.size w w10) := Aside0.mk (below_step (by repeat (first | (with_reducible first | exact Below.refl _ _ | apply below_alloc | apply pw_below_drewN | apply below_drew1) | refine below_set ?_ (by first | omega | (simp; omega) | simp))) hb); have cw10_426 := fun o_ : Nat => hb.cell (p := ⟨w.heap.size, o_, none⟩) (by first | omega | (simp; done) | (simp; omega)); have fw10_426 := fun o_ : Nat => hb.frozen (p := ⟨w.heap.size, o_, none⟩) (by first | omega | (simp; done) | (simp; omega)); have cw10_427 := fun o_ : Nat => hb.cell (p := ⟨w.heap.size + 1, o_, none⟩) (by first | omega | (simp; done) | (simp; omega)); have fw10_427 := fun o_ : Nat => hb.frozen (p := ⟨w.heap.size + 1, o_, none⟩) (by first | omega | (simp; done) | (simp; omega)); clear hb; have hlw10_426_0 : w.heap.size < w10.heap.size := (by omega); have hlw10_427_0 : w.heap.size + 1 < w10.heap.size := (by omega)))
      refine bodyPost_ret ?_ rfl ⟨rfl, ?_⟩
      · simp [results, Try.results20, go_sem, cw10_426, fw10_426, cw10_427, fw10_427, hlw10_426_0, hlw10_427_0]
      · exact (by repeat (first | (with_reducible first | exact HB_w10.out | exact Below.refl _ _ | apply below_alloc | apply pw_below_drewN | apply below_drew1) | refine below_set ?_ (by first | omega | (simp; omega) | simp)))
  · rw [if_neg c3] at H
    have c3b0 : (t428 == 0) = false := beq_eq_false_iff_ne.mpr c3
    have c3b1 : (t428 != 0) = true := bne_iff_ne.mpr c3
    clear c3
    simp only [Option.some.injEq, Prod.mk.injEq] at H
    obtain ⟨rfl, rfl, rfl, rfl, rfl, rfl, rfl, rfl⟩ := H
    go_enter Try.func20, Try.ntmps20
    go_wp2_with (first | ((with_reducible refine gate_callee (f := 24) rfl ?_); refine goesL_ (some 9) rfl rfl Try.func24 (by kernel_rfl) rfl #[.slice A0 l0.length c0, .agg #[.int .i64 a1_0, .int .i64 a1_1, .int .i64 a1_2, .bool a1_3, .int .i64 a1_4, .bool a1_5, .int .i64 a1_6]] rfl (by (try simp only [List.map_toArray, List.map_cons, List.map_nil]); first | done | rfl | (simp only [List.length_drop, List.length_take]; rfl)) ?_; (with_reducible refine (saga_Check.calls k _ _ l0 a1_0 a1_1 a1_2 a1_3 a1_4 a1_5 a1_6 t428 _ ?sd0 HC0.out A2.out).mono ?_); (case sd0 => exact Kd.C_below HR0.out (by repeat (first | (with_reducible first | exact Below.refl _ _ | apply below_alloc | apply pw_below_drewN | apply below_drew1) | refine below_set ?_ (by first | omega | (simp; omega) | simp)))); rintro e w11 ⟨rfl, hb⟩; refine ⟨_, rfl, ?_⟩; have hsw11 : w.heap.size + 2 ≤ w11.heap.size := (by have h_ := hb.size; simpa using h_); have HB_w11 : Aside0 (Below w.heap.size w w11) := Aside0.mk (below_step (by repeat (first | (with_reducible first | exact Below.refl _ _ | apply below_alloc | apply pw_below_drewN | apply below_drew1) | refine below_set ?_ (by first | omega | (simp; omega) | simp))) hb); have cw11_426 := fun o_ : Nat => hb.cell (p := ⟨w.heap.size, o_, none⟩) (by first | omega | (simp; done) | (simp; omega)); have fw11_426 := fun o_ : Nat => hb.frozen (p := ⟨w.heap.size, o_, none⟩) (by first | omega | (simp; done) | (simp; omega)); have cw11_427 := fun o_ : Nat => hb.cell (p := ⟨w.heap.size + 1, o_, none⟩) (by first | omega | (simp; done) | (simp; omega)); have fw11_427 := fun o_ : Nat => hb.frozen (p := ⟨w.heap.size + 1, o_, none⟩) (by first | omega | (simp; done) | (simp; omega)); clear hb; have hlw11_426_0 : w.heap.size < w11.heap.size := (by omega); have hlw11_427_0 : w.heap.size + 1 < w11.heap.size := (by omega)))
    refine bodyPost_ret ?_ rfl ⟨rfl, ?_⟩
    · simp [results, Try.results20, go_sem, cw11_426, fw11_426, cw11_427, fw11_427, hlw11_426_0, hlw11_427_0]
    · exact (by repeat (first | (with_reducible first | exact HB_w11.out | exact Below.refl _ _ | apply below_alloc | apply pw_below_drewN | apply below_drew1) | refine below_set ?_ (by first | omega | (simp; omega) | simp)))

/-! ### drayageref14_Tick: function 21 -/
def drayageref14_Tick.f (k : Nat) (l0 : List (S38)) (a1_0 : Int) (a1_1 : Int) (a1_2 : Int) (a1_3 : Bool) (a1_4 : Int) (a1_5 : Bool) (a1_6 : Int) : Option (Int × Int × Int × Bool × Int × Bool × Int × Int) := (drayageref14_Check.f k l0 a1_0 a1_1 a1_2 a1_3 a1_4 a1_5 a1_6).bind fun t439 => (if t439 = 0 then (if a1_3 = true then (if a1_4 = 1 then ((drayageref14_Tell.f k l0 a1_0 a1_1 a1_2 a1_3 a1_4 a1_5 a1_6 a1_1 (a1_0 == 2) 3).bind fun bt440 => (some (bt440.1, bt440.2.1, bt440.2.2.1, bt440.2.2.2.1, bt440.2.2.2.2.1, bt440.2.2.2.2.2.1, bt440.2.2.2.2.2.2.1, bt440.2.2.2.2.2.2.2))) else (some (a1_0, a1_1, a1_2, a1_3, wrap64 (a1_4 - 1), a1_5, a1_6, 0))) else (some (a1_0, a1_1, a1_2, a1_3, a1_4, a1_5, a1_6, 0))) else (some (0, 0, 0, false, 0, false, 0, t439)))
theorem drayageref14_Tick.mono : ∀ a0 a1 a2 a3 a4 a5 a6 a7 k, LeO (drayageref14_Tick.f k a0 a1 a2 a3 a4 a5 a6 a7) (drayageref14_Tick.f (k + 1) a0 a1 a2 a3 a4 a5 a6 a7) := by
  intro a0 a1 a2 a3 a4 a5 a6 a7 k
  unfold drayageref14_Tick.f
  repeat' first
      | (with_reducible exact drayageref14_Check.mono _ _ _ _ _ _ _ _ _)
      | (with_reducible exact drayageref14_Tell.mono _ _ _ _ _ _ _ _ _ _ _ _)
      | (with_reducible exact LeO.refl _)
      | (with_reducible exact LeO.none _)
      | (with_reducible refine LeO.ite ?_ ?_)
      | (with_reducible refine LeO.bind ?_ (fun _ => ?_))
      | exact drayageref14_Check.mono _ _ _ _ _ _ _ _ _
      | exact drayageref14_Tell.mono _ _ _ _ _ _ _ _ _ _ _ _
      | exact LeO.none _
      | refine LeO.ite ?_ ?_
      | refine LeO.bind ?_ (fun _ => ?_)
attribute [local go_sem] cell_alloc_lt2 cell_set_ne2
set_option maxHeartbeats 8000000 in
set_option maxRecDepth 100000 in
theorem drayageref14_Tick.calls (k : Nat) (A0 : Option Addr) (c0 : Nat) (l0 : List (S38)) (a1_0 : Int) (a1_1 : Int) (a1_2 : Int) (a1_3 : Bool) (a1_4 : Int) (a1_5 : Bool) (a1_6 : Int) (r1 : Int) (r2 : Int) (r3 : Int) (r4 : Bool) (r5 : Int) (r6 : Bool) (r7 : Int) (r8 : Int) (w : World) (hr0 : Kd.C k38 w A0 l0.length l0) (hc0 : l0.length ≤ c0) (h : drayageref14_Tick.f k l0 a1_0 a1_1 a1_2 a1_3 a1_4 a1_5 a1_6 = some (r1, r2, r3, r4, r5, r6, r7, r8)) :
    Calls Try.prog 21 #[.slice A0 l0.length c0, .agg #[.int .i64 a1_0, .int .i64 a1_1, .int .i64 a1_2, .bool a1_3, .int .i64 a1_4, .bool a1_5, .int .i64 a1_6]] w fun e w' => e = .returned (.tuple #[.agg #[.int .i64 r1, .int .i64 r2, .int .i64 r3, .bool r4, .int .i64 r5, .bool r6, .int .i64 r7], .int .i64 r8]) ∧ Below w.heap.size w w' := by
  have hu28 := Try.underlying28
  have HR0 := Aside0.mk hr0
  have HC0 := Aside0.mk hc0
  clear hr0 hc0
  have HB := Aside0.mk (Below.refl w.heap.size w)
  have H := h
  clear h
  unfold drayageref14_Tick.f at H
  obtain ⟨t439, A_, H⟩ := Option.bind_eq_some_iff.mp H
  try dsimp only at H
  have A2 := Aside0.mk A_
  clear A_
  by_cases c3 : t439 = 0
  · rw [if_pos c3] at H
    have c3b0 : (t439 == 0) = true := beq_iff_eq.mpr c3
    have c3b1 : (t439 != 0) = false := bne_eq_false_iff_eq.mpr c3
    clear c3
    by_cases c4 : a1_3 = true
    · subst c4
      rw [if_pos rfl] at H
      by_cases c5 : a1_4 = 1
      · rw [if_pos c5] at H
        have c5b0 : (a1_4 == 1) = true := beq_iff_eq.mpr c5
        have c5b1 : (a1_4 != 1) = false := bne_eq_false_iff_eq.mpr c5
        clear c5
        obtain ⟨⟨t440, t441, t442, t443, t444, t445, t446, t447⟩, A_, H⟩ := Option.bind_eq_some_iff.mp H
        try dsimp only at H
        have A6 := Aside0.mk A_
        clear A_
        simp only [Option.some.injEq, Prod.mk.injEq] at H
        obtain ⟨rfl, rfl, rfl, rfl, rfl, rfl, rfl, rfl⟩ := H
        go_enter Try.func21, Try.ntmps21
        go_wp2_with (first | ((with_reducible refine gate_callee (f := 25) rfl ?_); refine goesL_ (some 9) rfl rfl Try.func25 (by kernel_rfl) rfl #[.slice A0 l0.length c0, .agg #[.int .i64 a1_0, .int .i64 a1_1, .int .i64 a1_2, .bool true, .int .i64 a1_4, .bool a1_5, .int .i64 a1_6]] rfl (by (try simp only [List.map_toArray, List.map_cons, List.map_nil]); first | done | rfl | (simp only [List.length_drop, List.length_take]; rfl)) ?_; (with_reducible refine (drayageref14_Check.calls k _ _ l0 a1_0 a1_1 a1_2 true a1_4 a1_5 a1_6 t439 _ ?sd0 HC0.out A2.out).mono ?_); (case sd0 => exact Kd.C_below HR0.out (by repeat (first | (with_reducible first | exact Below.refl _ _ | apply below_alloc | apply pw_below_drewN | apply below_drew1) | refine below_set ?_ (by first | omega | (simp; omega) | simp)))); rintro e w7 ⟨rfl, hb⟩; refine ⟨_, rfl, ?_⟩; have hsw7 : w.heap.size + 2 ≤ w7.heap.size := (by have h_ := hb.size; simpa using h_); have HB_w7 : Aside0 (Below w.heap.size w w7) := Aside0.mk (below_step (by repeat (first | (with_reducible first | exact Below.refl _ _ | apply below_alloc | apply pw_below_drewN | apply below_drew1) | refine below_set ?_ (by first | omega | (simp; omega) | simp))) hb); have cw7_437 := fun o_ : Nat => hb.cell (p := ⟨w.heap.size, o_, none⟩) (by first | omega | (simp; done) | (simp; omega)); have fw7_437 := fun o_ : Nat => hb.frozen (p := ⟨w.heap.size, o_, none⟩) (by first | omega | (simp; done) | (simp; omega)); have cw7_438 := fun o_ : Nat => hb.cell (p := ⟨w.heap.size + 1, o_, none⟩) (by first | omega | (simp; done) | (simp; omega)); have fw7_438 := fun o_ : Nat => hb.frozen (p := ⟨w.heap.size + 1, o_, none⟩) (by first | omega | (simp; done) | (simp; omega)); clear hb; have hlw7_437_0 : w.heap.size < w7.heap.size := (by omega); have hlw7_438_0 : w.heap.size + 1 < w7.heap.size := (by omega)) | ((with_reducible refine gate_callee (f := 19) rfl ?_); refine goesL_ (some 28) rfl rfl Try.func19 (by kernel_rfl) rfl #[.slice A0 l0.length c0, .agg #[.int .i64 a1_0, .int .i64 a1_1, .int .i64 a1_2, .bool true, .int .i64 a1_4, .bool a1_5, .int .i64 a1_6], .int .i64 a1_1, .bool (a1_0 == 2), .int .i64 3] rfl (by (try simp only [List.map_toArray, List.map_cons, List.map_nil]); first | done | rfl | (simp only [List.length_drop, List.length_take]; rfl)) ?_; (with_reducible refine (drayageref14_Tell.calls k _ _ l0 a1_0 a1_1 a1_2 true a1_4 a1_5 a1_6 a1_1 (a1_0 == 2) 3 t440 t441 t442 t443 t444 t445 t446 t447 _ ?sd0 HC0.out A6.out).mono ?_); (case sd0 => exact Kd.C_below HR0.out (by repeat (first | (with_reducible first | exact HB_w7.out | exact Below.refl _ _ | apply below_alloc | apply pw_below_drewN | apply below_drew1) | refine below_set ?_ (by first | omega | (simp; omega) | simp)))); rintro e w8 ⟨rfl, hb⟩; refine ⟨_, rfl, ?_⟩; have hsw8 : w7.heap.size ≤ w8.heap.size := (by have h_ := hb.size; simpa using h_); have HB_w8 : Aside0 (Below w.heap.size w w8) := Aside0.mk (below_step (by repeat (first | (with_reducible first | exact HB_w7.out | exact Below.refl _ _ | apply below_alloc | apply pw_below_drewN | apply below_drew1) | refine below_set ?_ (by first | omega | (simp; omega) | simp))) hb); have cw8_437 := fun o_ : Nat => hb.cell (p := ⟨w.heap.size, o_, none⟩) (by first | omega | (simp; done) | (simp; omega)); have fw8_437 := fun o_ : Nat => hb.frozen (p := ⟨w.heap.size, o_, none⟩) (by first | omega | (simp; done) | (simp; omega)); have cw8_438 := fun o_ : Nat => hb.cell (p := ⟨w.heap.size + 1, o_, none⟩) (by first | omega | (simp; done) | (simp; omega)); have fw8_438 := fun o_ : Nat => hb.frozen (p := ⟨w.heap.size + 1, o_, none⟩) (by first | omega | (simp; done) | (simp; omega)); clear hb; have hlw8_437_0 : w.heap.size < w8.heap.size := (by omega); have hlw8_438_0 : w.heap.size + 1 < w8.heap.size := (by omega)))
        refine bodyPost_ret ?_ rfl ⟨rfl, ?_⟩
        · simp [results, Try.results21, go_sem, cw7_437, fw7_437, cw7_438, fw7_438, hlw7_437_0, hlw7_438_0, cw8_437, fw8_437, cw8_438, fw8_438, hlw8_437_0, hlw8_438_0]
        · exact (by repeat (first | (with_reducible first | exact HB_w8.out | exact Below.refl _ _ | apply below_alloc | apply pw_below_drewN | apply below_drew1) | refine below_set ?_ (by first | omega | (simp; omega) | simp)))
      · rw [if_neg c5] at H
        have c5b0 : (a1_4 == 1) = false := beq_eq_false_iff_ne.mpr c5
        have c5b1 : (a1_4 != 1) = true := bne_iff_ne.mpr c5
        clear c5
        simp only [Option.some.injEq, Prod.mk.injEq] at H
        obtain ⟨rfl, rfl, rfl, rfl, rfl, rfl, rfl, rfl⟩ := H
        go_enter Try.func21, Try.ntmps21
        go_wp2_with (first | ((with_reducible refine gate_callee (f := 25) rfl ?_); refine goesL_ (some 9) rfl rfl Try.func25 (by kernel_rfl) rfl #[.slice A0 l0.length c0, .agg #[.int .i64 a1_0, .int .i64 a1_1, .int .i64 a1_2, .bool true, .int .i64 a1_4, .bool a1_5, .int .i64 a1_6]] rfl (by (try simp only [List.map_toArray, List.map_cons, List.map_nil]); first | done | rfl | (simp only [List.length_drop, List.length_take]; rfl)) ?_; (with_reducible refine (drayageref14_Check.calls k _ _ l0 a1_0 a1_1 a1_2 true a1_4 a1_5 a1_6 t439 _ ?sd0 HC0.out A2.out).mono ?_); (case sd0 => exact Kd.C_below HR0.out (by repeat (first | (with_reducible first | exact Below.refl _ _ | apply below_alloc | apply pw_below_drewN | apply below_drew1) | refine below_set ?_ (by first | omega | (simp; omega) | simp)))); rintro e w9 ⟨rfl, hb⟩; refine ⟨_, rfl, ?_⟩; have hsw9 : w.heap.size + 2 ≤ w9.heap.size := (by have h_ := hb.size; simpa using h_); have HB_w9 : Aside0 (Below w.heap.size w w9) := Aside0.mk (below_step (by repeat (first | (with_reducible first | exact Below.refl _ _ | apply below_alloc | apply pw_below_drewN | apply below_drew1) | refine below_set ?_ (by first | omega | (simp; omega) | simp))) hb); have cw9_437 := fun o_ : Nat => hb.cell (p := ⟨w.heap.size, o_, none⟩) (by first | omega | (simp; done) | (simp; omega)); have fw9_437 := fun o_ : Nat => hb.frozen (p := ⟨w.heap.size, o_, none⟩) (by first | omega | (simp; done) | (simp; omega)); have cw9_438 := fun o_ : Nat => hb.cell (p := ⟨w.heap.size + 1, o_, none⟩) (by first | omega | (simp; done) | (simp; omega)); have fw9_438 := fun o_ : Nat => hb.frozen (p := ⟨w.heap.size + 1, o_, none⟩) (by first | omega | (simp; done) | (simp; omega)); clear hb; have hlw9_437_0 : w.heap.size < w9.heap.size := (by omega); have hlw9_438_0 : w.heap.size + 1 < w9.heap.size := (by omega)))
        refine bodyPost_ret ?_ rfl ⟨rfl, ?_⟩
        · simp [results, Try.results21, go_sem, cw9_437, fw9_437, cw9_438, fw9_438, hlw9_437_0, hlw9_438_0]
        · exact (by repeat (first | (with_reducible first | exact HB_w9.out | exact Below.refl _ _ | apply below_alloc | apply pw_below_drewN | apply below_drew1) | refine below_set ?_ (by first | omega | (simp; omega) | simp)))
    · replace c4 := Bool.eq_false_iff.mpr c4; subst c4
      rw [if_neg (by decide)] at H
      simp only [Option.some.injEq, Prod.mk.injEq] at H
      obtain ⟨rfl, rfl, rfl, rfl, rfl, rfl, rfl, rfl⟩ := H
      go_enter Try.func21, Try.ntmps21
      go_wp2_with (first | ((with_reducible refine gate_callee (f := 25) rfl ?_); refine goesL_ (some 9) rfl rfl Try.func25 (by kernel_rfl) rfl #[.slice A0 l0.length c0, .agg #[.int .i64 a1_0, .int .i64 a1_1, .int .i64 a1_2, .bool false, .int .i64 a1_4, .bool a1_5, .int .i64 a1_6]] rfl (by (try simp only [List.map_toArray, List.map_cons, List.map_nil]); first | done | rfl | (simp only [List.length_drop, List.length_take]; rfl)) ?_; (with_reducible refine (drayageref14_Check.calls k _ _ l0 a1_0 a1_1 a1_2 false a1_4 a1_5 a1_6 t439 _ ?sd0 HC0.out A2.out).mono ?_); (case sd0 => exact Kd.C_below HR0.out (by repeat (first | (with_reducible first | exact Below.refl _ _ | apply below_alloc | apply pw_below_drewN | apply below_drew1) | refine below_set ?_ (by first | omega | (simp; omega) | simp)))); rintro e w10 ⟨rfl, hb⟩; refine ⟨_, rfl, ?_⟩; have hsw10 : w.heap.size + 2 ≤ w10.heap.size := (by have h_ := hb.size; simpa using h_); have HB_w10 : Aside0 (Below w.heap.size w w10) := Aside0.mk (below_step (by repeat (first | (with_reducible first | exact Below.refl _ _ | apply below_alloc | apply pw_below_drewN | apply below_drew1) | refine below_set ?_ (by first | omega | (simp; omega) | simp))) hb); have cw10_437 := fun o_ : Nat => hb.cell (p := ⟨w.heap.size, o_, none⟩) (by first | omega | (simp; done) | (simp; omega)); have fw10_437 := fun o_ : Nat => hb.frozen (p := ⟨w.heap.size, o_, none⟩) (by first | omega | (simp; done) | (simp; omega)); have cw10_438 := fun o_ : Nat => hb.cell (p := ⟨w.heap.size + 1, o_, none⟩) (by first | omega | (simp; done) | (simp; omega)); have fw10_438 := fun o_ : Nat => hb.frozen (p := ⟨w.heap.size + 1, o_, none⟩) (by first | omega | (simp; done) | (simp; omega)); clear hb; have hlw10_437_0 : w.heap.size < w10.heap.size := (by omega); have hlw10_438_0 : w.heap.size + 1 < w10.heap.size := (by omega)))
      refine bodyPost_ret ?_ rfl ⟨rfl, ?_⟩
      · simp [results, Try.results21, go_sem, cw10_437, fw10_437, cw10_438, fw10_438, hlw10_437_0, hlw10_438_0]
      · exact (by repeat (first | (with_reducible first | exact HB_w10.out | exact Below.refl _ _ | apply below_alloc | apply pw_below_drewN | apply below_drew1) | refine below_set ?_ (by first | omega | (simp; omega) | simp)))
  · rw [if_neg c3] at H
    have c3b0 : (t439 == 0) = false := beq_eq_false_iff_ne.mpr c3
    have c3b1 : (t439 != 0) = true := bne_iff_ne.mpr c3
    clear c3
    simp only [Option.some.injEq, Prod.mk.injEq] at H
    obtain ⟨rfl, rfl, rfl, rfl, rfl, rfl, rfl, rfl⟩ := H
    go_enter Try.func21, Try.ntmps21
    go_wp2_with (first | ((with_reducible refine gate_callee (f := 25) rfl ?_); refine goesL_ (some 9) rfl rfl Try.func25 (by kernel_rfl) rfl #[.slice A0 l0.length c0, .agg #[.int .i64 a1_0, .int .i64 a1_1, .int .i64 a1_2, .bool a1_3, .int .i64 a1_4, .bool a1_5, .int .i64 a1_6]] rfl (by (try simp only [List.map_toArray, List.map_cons, List.map_nil]); first | done | rfl | (simp only [List.length_drop, List.length_take]; rfl)) ?_; (with_reducible refine (drayageref14_Check.calls k _ _ l0 a1_0 a1_1 a1_2 a1_3 a1_4 a1_5 a1_6 t439 _ ?sd0 HC0.out A2.out).mono ?_); (case sd0 => exact Kd.C_below HR0.out (by repeat (first | (with_reducible first | exact Below.refl _ _ | apply below_alloc | apply pw_below_drewN | apply below_drew1) | refine below_set ?_ (by first | omega | (simp; omega) | simp)))); rintro e w11 ⟨rfl, hb⟩; refine ⟨_, rfl, ?_⟩; have hsw11 : w.heap.size + 2 ≤ w11.heap.size := (by have h_ := hb.size; simpa using h_); have HB_w11 : Aside0 (Below w.heap.size w w11) := Aside0.mk (below_step (by repeat (first | (with_reducible first | exact Below.refl _ _ | apply below_alloc | apply pw_below_drewN | apply below_drew1) | refine below_set ?_ (by first | omega | (simp; omega) | simp))) hb); have cw11_437 := fun o_ : Nat => hb.cell (p := ⟨w.heap.size, o_, none⟩) (by first | omega | (simp; done) | (simp; omega)); have fw11_437 := fun o_ : Nat => hb.frozen (p := ⟨w.heap.size, o_, none⟩) (by first | omega | (simp; done) | (simp; omega)); have cw11_438 := fun o_ : Nat => hb.cell (p := ⟨w.heap.size + 1, o_, none⟩) (by first | omega | (simp; done) | (simp; omega)); have fw11_438 := fun o_ : Nat => hb.frozen (p := ⟨w.heap.size + 1, o_, none⟩) (by first | omega | (simp; done) | (simp; omega)); clear hb; have hlw11_437_0 : w.heap.size < w11.heap.size := (by omega); have hlw11_438_0 : w.heap.size + 1 < w11.heap.size := (by omega)))
    refine bodyPost_ret ?_ rfl ⟨rfl, ?_⟩
    · simp [results, Try.results21, go_sem, cw11_437, fw11_437, cw11_438, fw11_438, hlw11_437_0, hlw11_438_0]
    · exact (by repeat (first | (with_reducible first | exact HB_w11.out | exact Below.refl _ _ | apply below_alloc | apply pw_below_drewN | apply below_drew1) | refine below_set ?_ (by first | omega | (simp; omega) | simp)))

end Go.Proofs.Yteefdhgfcnjpoaa.PA
