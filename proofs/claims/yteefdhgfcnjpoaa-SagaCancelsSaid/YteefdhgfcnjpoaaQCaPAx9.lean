-- printed by a program of this work (wip/tools/pr.py over the kit's print): the machine's side of SagaTries, SagaMoves, SagaStays, SagaOrder, SagaEnds, SagaTicks
import Derived.Test.YteefdhgfcnjpoaaQCaPAx0
import Derived.Test.YteefdhgfcnjpoaaQCaPAx1
import Derived.Test.YteefdhgfcnjpoaaQCaPAx2
import Derived.Test.YteefdhgfcnjpoaaQCaPAx5
import Derived.Test.YteefdhgfcnjpoaaQCaPAx7
import Derived.Test.YteefdhgfcnjpoaaQCaPAx8
namespace Go.Proofs.Yteefdhgfcnjpoaa.PA
open Go.RowKit Go.Proofs.YteefdhgfcnjpoaaW.PrintWords Go.Proofs.YteefdhgfcnjpoaaW.PrintLast Go.Proofs.YteefdhgfcnjpoaaW.PrintMore
attribute [local go_sem] max2_int min2_int max_two min_two max_three min_three max_four min_four   -- for this text's walks alone
set_option linter.unusedVariables false
set_option linter.unusedSimpArgs false

attribute [local go_sem high] eqA28 eqA41
/-! ### saga_Tell: function 15 -/
mutual
def saga_Tell.j0 : Nat → List (S38) → Int → Bool → Int → Bool → Int → Int → Int → Bool → Int → Bool → Int → Option (Int × Int × Int × Bool × Int × Bool × Int × Int)
  | 0, _, _, _, _, _, _, _, _, _, _, _, _ => none
  | k + 1, x0, x2, x3, x4, x21, x219000, x219001, x219002, x219003, x219004, x219005, x219006 => if x21 = true then (some (0, 0, 0, false, 0, false, 0, 2)) else (if x219003 = true then (if x2 = x219001 then (saga_Tell.j1 k x0 x3 x4 (x3 != (x219000 == 2)) x219000 x219001 x219002 x219003 x219004 x219005 x219006) else (saga_Tell.j1 k x0 x3 x4 true x219000 x219001 x219002 x219003 x219004 x219005 x219006)) else (saga_Tell.j1 k x0 x3 x4 true x219000 x219001 x219002 x219003 x219004 x219005 x219006))
def saga_Tell.j1 : Nat → List (S38) → Bool → Int → Bool → Int → Int → Int → Bool → Int → Bool → Int → Option (Int × Int × Int × Bool × Int × Bool × Int × Int)
  | 0, _, _, _, _, _, _, _, _, _, _, _ => none
  | k + 1, x0, x3, x4, x29, x219000, x219001, x219002, x219003, x219004, x219005, x219006 => if x29 = true then (some (x219000, x219001, x219002, x219003, x219004, x219005, x219006, 0)) else (if x3 = true then ((saga_undone.f k x0 x219000 x219001 x219002 x219003 x219004 x219005 x219006 x4).bind fun bt221 => (some (bt221.1, bt221.2.1, bt221.2.2.1, bt221.2.2.2.1, bt221.2.2.2.2.1, bt221.2.2.2.2.2.1, bt221.2.2.2.2.2.2, 0))) else ((saga_forward.f k x0 x219000 x219001 x219002 x219003 x219004 x219005 x219006 x4).bind fun bt228 => (some (bt228.1, bt228.2.1, bt228.2.2.1, bt228.2.2.2.1, bt228.2.2.2.2.1, bt228.2.2.2.2.2.1, bt228.2.2.2.2.2.2, 0))))
end
def saga_Tell.f (k : Nat) (l0 : List (S38)) (a1_0 : Int) (a1_1 : Int) (a1_2 : Int) (a1_3 : Bool) (a1_4 : Int) (a1_5 : Bool) (a1_6 : Int) (a2 : Int) (a3 : Bool) (a4 : Int) : Option (Int × Int × Int × Bool × Int × Bool × Int × Int) := (saga_Check.f k l0 a1_0 a1_1 a1_2 a1_3 a1_4 a1_5 a1_6).bind fun t220 => (if t220 = 0 then (if a4 < 1 then (saga_Tell.j0 k l0 a2 a3 a4 true a1_0 a1_1 a1_2 a1_3 a1_4 a1_5 a1_6) else (saga_Tell.j0 k l0 a2 a3 a4 (decide (a4 > 3)) a1_0 a1_1 a1_2 a1_3 a1_4 a1_5 a1_6)) else (some (0, 0, 0, false, 0, false, 0, t220)))
theorem saga_Tell.mono_l : ∀ k, (∀ y0 y1 y2 y3 y4 y5 y6 y7 y8 y9 y10 y11, LeO (saga_Tell.j0 k y0 y1 y2 y3 y4 y5 y6 y7 y8 y9 y10 y11) (saga_Tell.j0 (k + 1) y0 y1 y2 y3 y4 y5 y6 y7 y8 y9 y10 y11)) ∧ (∀ y0 y1 y2 y3 y4 y5 y6 y7 y8 y9 y10, LeO (saga_Tell.j1 k y0 y1 y2 y3 y4 y5 y6 y7 y8 y9 y10) (saga_Tell.j1 (k + 1) y0 y1 y2 y3 y4 y5 y6 y7 y8 y9 y10))
  | 0 => ⟨fun _ _ _ _ _ _ _ _ _ _ _ _ r h => by simp [saga_Tell.j0] at h, fun _ _ _ _ _ _ _ _ _ _ _ r h => by simp [saga_Tell.j1] at h⟩
  | k + 1 => by
    obtain ⟨ih0, ih1⟩ := saga_Tell.mono_l k
    refine ⟨?_, ?_⟩
    · intro y0 y1 y2 y3 y4 y5 y6 y7 y8 y9 y10 y11
      unfold saga_Tell.j0
      repeat' first
      | (with_reducible exact ih0 _ _ _ _ _ _ _ _ _ _ _ _)
      | (with_reducible exact ih1 _ _ _ _ _ _ _ _ _ _ _)
      | (with_reducible exact saga_Check.mono _ _ _ _ _ _ _ _ _)
      | (with_reducible exact saga_forward.mono _ _ _ _ _ _ _ _ _ _)
      | (with_reducible exact saga_undone.mono _ _ _ _ _ _ _ _ _ _)
      | (with_reducible exact LeO.refl _)
      | (with_reducible exact LeO.none _)
      | (with_reducible refine LeO.ite ?_ ?_)
      | (with_reducible refine LeO.bind ?_ (fun _ => ?_))
      | exact ih0 _ _ _ _ _ _ _ _ _ _ _ _
      | exact ih1 _ _ _ _ _ _ _ _ _ _ _
      | exact saga_Check.mono _ _ _ _ _ _ _ _ _
      | exact saga_forward.mono _ _ _ _ _ _ _ _ _ _
      | exact saga_undone.mono _ _ _ _ _ _ _ _ _ _
      | exact LeO.none _
      | refine LeO.ite ?_ ?_
      | refine LeO.bind ?_ (fun _ => ?_)
    · intro y0 y1 y2 y3 y4 y5 y6 y7 y8 y9 y10
      unfold saga_Tell.j1
      repeat' first
      | (with_reducible exact ih0 _ _ _ _ _ _ _ _ _ _ _ _)
      | (with_reducible exact ih1 _ _ _ _ _ _ _ _ _ _ _)
      | (with_reducible exact saga_Check.mono _ _ _ _ _ _ _ _ _)
      | (with_reducible exact saga_forward.mono _ _ _ _ _ _ _ _ _ _)
      | (with_reducible exact saga_undone.mono _ _ _ _ _ _ _ _ _ _)
      | (with_reducible exact LeO.refl _)
      | (with_reducible exact LeO.none _)
      | (with_reducible refine LeO.ite ?_ ?_)
      | (with_reducible refine LeO.bind ?_ (fun _ => ?_))
      | exact ih0 _ _ _ _ _ _ _ _ _ _ _ _
      | exact ih1 _ _ _ _ _ _ _ _ _ _ _
      | exact saga_Check.mono _ _ _ _ _ _ _ _ _
      | exact saga_forward.mono _ _ _ _ _ _ _ _ _ _
      | exact saga_undone.mono _ _ _ _ _ _ _ _ _ _
      | exact LeO.none _
      | refine LeO.ite ?_ ?_
      | refine LeO.bind ?_ (fun _ => ?_)
theorem saga_Tell.mono : ∀ a0 a1 a2 a3 a4 a5 a6 a7 a8 a9 a10 k, LeO (saga_Tell.f k a0 a1 a2 a3 a4 a5 a6 a7 a8 a9 a10) (saga_Tell.f (k + 1) a0 a1 a2 a3 a4 a5 a6 a7 a8 a9 a10) := by
  intro a0 a1 a2 a3 a4 a5 a6 a7 a8 a9 a10 k
  obtain ⟨ih0, ih1⟩ := saga_Tell.mono_l k
  unfold saga_Tell.f
  repeat' first
      | (with_reducible exact ih0 _ _ _ _ _ _ _ _ _ _ _ _)
      | (with_reducible exact ih1 _ _ _ _ _ _ _ _ _ _ _)
      | (with_reducible exact saga_Check.mono _ _ _ _ _ _ _ _ _)
      | (with_reducible exact saga_forward.mono _ _ _ _ _ _ _ _ _ _)
      | (with_reducible exact saga_undone.mono _ _ _ _ _ _ _ _ _ _)
      | (with_reducible exact LeO.refl _)
      | (with_reducible exact LeO.none _)
      | (with_reducible refine LeO.ite ?_ ?_)
      | (with_reducible refine LeO.bind ?_ (fun _ => ?_))
      | exact ih0 _ _ _ _ _ _ _ _ _ _ _ _
      | exact ih1 _ _ _ _ _ _ _ _ _ _ _
      | exact saga_Check.mono _ _ _ _ _ _ _ _ _
      | exact saga_forward.mono _ _ _ _ _ _ _ _ _ _
      | exact saga_undone.mono _ _ _ _ _ _ _ _ _ _
      | exact LeO.none _
      | refine LeO.ite ?_ ?_
      | refine LeO.bind ?_ (fun _ => ?_)
attribute [local go_sem] cell_alloc_lt2 cell_set_ne2
set_option maxHeartbeats 8000000 in
set_option maxRecDepth 100000 in
theorem saga_Tell.calls (k : Nat) (A0 : Option Addr) (c0 : Nat) (l0 : List (S38)) (a1_0 : Int) (a1_1 : Int) (a1_2 : Int) (a1_3 : Bool) (a1_4 : Int) (a1_5 : Bool) (a1_6 : Int) (a2 : Int) (a3 : Bool) (a4 : Int) (r1 : Int) (r2 : Int) (r3 : Int) (r4 : Bool) (r5 : Int) (r6 : Bool) (r7 : Int) (r8 : Int) (w : World) (hr0 : Kd.C k38 w A0 l0.length l0) (hc0 : l0.length ≤ c0) (h : saga_Tell.f k l0 a1_0 a1_1 a1_2 a1_3 a1_4 a1_5 a1_6 a2 a3 a4 = some (r1, r2, r3, r4, r5, r6, r7, r8)) :
    Calls Try.prog 15 #[.slice A0 l0.length c0, .agg #[.int .i64 a1_0, .int .i64 a1_1, .int .i64 a1_2, .bool a1_3, .int .i64 a1_4, .bool a1_5, .int .i64 a1_6], .int .i64 a2, .bool a3, .int .i64 a4] w fun e w' => e = .returned (.tuple #[.agg #[.int .i64 r1, .int .i64 r2, .int .i64 r3, .bool r4, .int .i64 r5, .bool r6, .int .i64 r7], .int .i64 r8]) ∧ Below w.heap.size w w' := by
  have hu28 := Try.underlying28
  have HR0 := Aside0.mk hr0
  have HC0 := Aside0.mk hc0
  clear hr0 hc0
  have HB := Aside0.mk (Below.refl w.heap.size w)
  have H := h
  clear h
  unfold saga_Tell.f at H
  obtain ⟨t220, A_, H⟩ := Option.bind_eq_some_iff.mp H
  try dsimp only at H
  have A2 := Aside0.mk A_
  clear A_
  by_cases c3 : t220 = 0
  · rw [if_pos c3] at H
    have c3b0 : (t220 == 0) = true := beq_iff_eq.mpr c3
    have c3b1 : (t220 != 0) = false := bne_eq_false_iff_eq.mpr c3
    clear c3
    have HC5 := Aside0.mk H
    clear H
    go_enter Try.func15, Try.ntmps15
    go_upto_region 4 with (first | ((with_reducible refine gate_callee (f := 24) rfl ?_); refine goesL_ (some 15) rfl rfl Try.func24 (by kernel_rfl) rfl #[.slice A0 l0.length c0, .agg #[.int .i64 a1_0, .int .i64 a1_1, .int .i64 a1_2, .bool a1_3, .int .i64 a1_4, .bool a1_5, .int .i64 a1_6]] rfl (by (try simp only [List.map_toArray, List.map_cons, List.map_nil]); first | done | rfl | (simp only [List.length_drop, List.length_take]; rfl)) ?_; (with_reducible refine (saga_Check.calls k _ _ l0 a1_0 a1_1 a1_2 a1_3 a1_4 a1_5 a1_6 t220 _ ?sd0 HC0.out A2.out).mono ?_); (case sd0 => exact Kd.C_below HR0.out (by repeat (first | (with_reducible first | exact Below.refl _ _ | apply below_alloc | apply pw_below_drewN | apply below_drew1) | refine below_set ?_ (by first | omega | (simp; omega) | simp)))); rintro e w6 ⟨rfl, hb⟩; refine ⟨_, rfl, ?_⟩; have hsw6 : w.heap.size + 2 ≤ w6.heap.size := (by have h_ := hb.size; simpa using h_); have HB_w6 : Aside0 (Below w.heap.size w w6) := Aside0.mk (below_step (by repeat (first | (with_reducible first | exact Below.refl _ _ | apply below_alloc | apply pw_below_drewN | apply below_drew1) | refine below_set ?_ (by first | omega | (simp; omega) | simp))) hb); have cw6_218 := fun o_ : Nat => hb.cell (p := ⟨w.heap.size, o_, none⟩) (by first | omega | (simp; done) | (simp; omega)); have fw6_218 := fun o_ : Nat => hb.frozen (p := ⟨w.heap.size, o_, none⟩) (by first | omega | (simp; done) | (simp; omega)); have cw6_219 := fun o_ : Nat => hb.cell (p := ⟨w.heap.size + 1, o_, none⟩) (by first | omega | (simp; done) | (simp; omega)); have fw6_219 := fun o_ : Nat => hb.frozen (p := ⟨w.heap.size + 1, o_, none⟩) (by first | omega | (simp; done) | (simp; omega)); clear hb; have hlw6_218_0 : w.heap.size < w6.heap.size := (by omega); have hlw6_219_0 : w.heap.size + 1 < w6.heap.size := (by omega)))
    (try simp only [Act.put, List.setIfInBounds_toArray, List.set_cons_zero, List.set_cons_succ])
    go_cut [21] (fun v21 wq4 => ∃ (kq : Nat) (x21_4 : Bool), v21 = .bool x21_4 ∧ Aside0 (saga_Tell.j0 kq l0 a2 a3 a4 x21_4 a1_0 a1_1 a1_2 a1_3 a1_4 a1_5 a1_6 = some (r1, r2, r3, r4, r5, r6, r7, r8)) ∧ Aside0 (kq ≤ k) ∧ Aside0 (BX wq4 (w.heap.size) [.int .i64 a1_0, .int .i64 a1_1, .int .i64 a1_2, .bool a1_3, .int .i64 a1_4, .bool a1_5, .int .i64 a1_6]) ∧ Aside0 (BX wq4 (w.heap.size + 1) [.int .i64 0, .int .i64 0, .int .i64 0, .bool false, .int .i64 0, .bool false, .int .i64 0]) ∧ Aside0 (Below w.heap.size w wq4))
    case first =>
      have H := HC5.out
      clear HC5
      by_cases c7 : a4 < 1
      · rw [if_pos c7] at H
        have c7b0 : decide (a4 < 1) = true := decide_eq_true c7
        clear c7
        have H' := Aside0.mk H
        clear H
        have hlw6_218_0 : w.heap.size < w6.heap.size := (by omega)
        have hlw6_219_0 : w.heap.size + 1 < w6.heap.size := (by omega)
        go_wp2
        go_meet
        case rel => exact ⟨_, (true), (by first | rfl | (simp; done) | (simp [*]; done)), H', ⟨by first | omega | exact Nat.le_refl _⟩, ⟨BX.mk7 (by go_simp) (by go_simp) (by go_simp) (by go_simp) (by go_simp) (by go_simp) (by go_simp) (by go_simp) (by go_simp) (by go_simp) (by go_simp) (by go_simp) (by go_simp) (by go_simp) (by first | omega | (simp; done) | (simp; omega))⟩, ⟨BX.mk7 (by go_simp) (by go_simp) (by go_simp) (by go_simp) (by go_simp) (by go_simp) (by go_simp) (by go_simp) (by go_simp) (by go_simp) (by go_simp) (by go_simp) (by go_simp) (by go_simp) (by first | omega | (simp; done) | (simp; omega))⟩, ⟨(by repeat (first | (with_reducible first | exact HB_w6.out | exact Below.refl _ _ | apply below_alloc | apply pw_below_drewN | apply below_drew1) | refine below_set ?_ (by first | omega | (simp; omega) | simp)))⟩⟩
      · rw [if_neg c7] at H
        have c7b0 : decide (a4 < 1) = false := decide_eq_false c7
        clear c7
        have H' := Aside0.mk H
        clear H
        have hlw6_218_0 : w.heap.size < w6.heap.size := (by omega)
        have hlw6_219_0 : w.heap.size + 1 < w6.heap.size := (by omega)
        go_wp2
        go_meet
        case rel => exact ⟨_, (decide (a4 > 3)), (by first | rfl | (simp; done) | (simp [*]; done)), H', ⟨by first | omega | exact Nat.le_refl _⟩, ⟨BX.mk7 (by go_simp) (by go_simp) (by go_simp) (by go_simp) (by go_simp) (by go_simp) (by go_simp) (by go_simp) (by go_simp) (by go_simp) (by go_simp) (by go_simp) (by go_simp) (by go_simp) (by first | omega | (simp; done) | (simp; omega))⟩, ⟨BX.mk7 (by go_simp) (by go_simp) (by go_simp) (by go_simp) (by go_simp) (by go_simp) (by go_simp) (by go_simp) (by go_simp) (by go_simp) (by go_simp) (by go_simp) (by go_simp) (by go_simp) (by first | omega | (simp; done) | (simp; omega))⟩, ⟨(by repeat (first | (with_reducible first | exact HB_w6.out | exact Below.refl _ _ | apply below_alloc | apply pw_below_drewN | apply below_drew1) | refine below_set ?_ (by first | omega | (simp; omega) | simp)))⟩⟩
    case rest =>
      rename World => wc4
      clear HC5
      obtain ⟨kq, x21_4, rfl, HA, HJ4, BX218_4, BX219_4, HB_4⟩ := hcut
      have hs4 : w.heap.size ≤ wc4.heap.size := HB_4.out.size
      obtain ⟨hz218_4_0, hz218_4_1, hz218_4_2, hz218_4_3, hz218_4_4, hz218_4_5, hz218_4_6, hf218_4_0, hf218_4_1, hf218_4_2, hf218_4_3, hf218_4_4, hf218_4_5, hf218_4_6, hlt218_4⟩ := BX218_4.out.out7
      obtain ⟨hz219_4_0, hz219_4_1, hz219_4_2, hz219_4_3, hz219_4_4, hz219_4_5, hz219_4_6, hf219_4_0, hf219_4_1, hf219_4_2, hf219_4_3, hf219_4_4, hf219_4_5, hf219_4_6, hlt219_4⟩ := BX219_4.out.out7
      cases kq with
      | zero => exact absurd HA.out (by simp [saga_Tell.j0])
      | succ k4 =>
        have H := HA.out
        clear HA
        simp only [saga_Tell.j0] at H
        by_cases c9 : x21_4 = true
        · subst c9
          rw [if_pos rfl] at H
          simp only [Option.some.injEq, Prod.mk.injEq] at H
          obtain ⟨rfl, rfl, rfl, rfl, rfl, rfl, rfl, rfl⟩ := H
          have hlwc4_218_0 : w.heap.size < wc4.heap.size := (by omega)
          have hlwc4_219_0 : w.heap.size + 1 < wc4.heap.size := (by omega)
          go_wp2
          refine bodyPost_ret ?_ rfl ⟨rfl, ?_⟩
          · simp [results, Try.results15, go_sem, hz218_4_0, hz218_4_1, hz218_4_2, hz218_4_3, hz218_4_4, hz218_4_5, hz218_4_6, hf218_4_0, hf218_4_1, hf218_4_2, hf218_4_3, hf218_4_4, hf218_4_5, hf218_4_6, hz219_4_0, hz219_4_1, hz219_4_2, hz219_4_3, hz219_4_4, hz219_4_5, hz219_4_6, hf219_4_0, hf219_4_1, hf219_4_2, hf219_4_3, hf219_4_4, hf219_4_5, hf219_4_6, hlwc4_218_0, hlwc4_219_0]
          · exact (by repeat (first | (with_reducible first | exact HB_4.out | exact Below.refl _ _ | apply below_alloc | apply pw_below_drewN | apply below_drew1) | refine below_set ?_ (by first | omega | (simp; omega) | simp)))
        · replace c9 := Bool.eq_false_iff.mpr c9; subst c9
          rw [if_neg (by decide)] at H
          have HC11 := Aside0.mk H
          clear H
          have hlwc4_218_0 : w.heap.size < wc4.heap.size := (by omega)
          have hlwc4_219_0 : w.heap.size + 1 < wc4.heap.size := (by omega)
          go_upto_region 6 with (fail)
          go_cut [29] (fun v29 wq10 => ∃ (kq : Nat) (x29_10 : Bool), v29 = .bool x29_10 ∧ Aside0 (saga_Tell.j1 kq l0 a3 a4 x29_10 a1_0 a1_1 a1_2 a1_3 a1_4 a1_5 a1_6 = some (r1, r2, r3, r4, r5, r6, r7, r8)) ∧ Aside0 (kq ≤ k4) ∧ Aside0 (BX wq10 (w.heap.size) [.int .i64 a1_0, .int .i64 a1_1, .int .i64 a1_2, .bool a1_3, .int .i64 a1_4, .bool a1_5, .int .i64 a1_6]) ∧ Aside0 (BX wq10 (w.heap.size + 1) [.int .i64 0, .int .i64 0, .int .i64 0, .bool false, .int .i64 0, .bool false, .int .i64 0]) ∧ Aside0 (Below w.heap.size w wq10))
          case first =>
            have H := HC11.out
            clear HC11
            by_cases c12 : a1_3 = true
            · subst c12
              rw [if_pos rfl] at H
              by_cases c13 : a2 = a1_1
              · rw [if_pos c13] at H
                have c13b0 : (a2 == a1_1) = true := beq_iff_eq.mpr c13
                have c13b1 : (a2 != a1_1) = false := bne_eq_false_iff_eq.mpr c13
                clear c13
                have H' := Aside0.mk H
                clear H
                have hlwc4_218_0 : w.heap.size < wc4.heap.size := (by omega)
                have hlwc4_219_0 : w.heap.size + 1 < wc4.heap.size := (by omega)
                go_wp2
                go_meet
                case rel => exact ⟨_, ((a3 != (a1_0 == 2))), (by first | rfl | (simp; done) | (simp [*]; done)), H', ⟨by have := HJ4.out; first | omega | exact Nat.le_refl _⟩, ⟨BX.mk7 (by go_simp) (by go_simp) (by go_simp) (by go_simp) (by go_simp) (by go_simp) (by go_simp) (by go_simp) (by go_simp) (by go_simp) (by go_simp) (by go_simp) (by go_simp) (by go_simp) (by first | omega | (simp; done) | (simp; omega))⟩, ⟨BX.mk7 (by go_simp) (by go_simp) (by go_simp) (by go_simp) (by go_simp) (by go_simp) (by go_simp) (by go_simp) (by go_simp) (by go_simp) (by go_simp) (by go_simp) (by go_simp) (by go_simp) (by first | omega | (simp; done) | (simp; omega))⟩, ⟨(by repeat (first | (with_reducible first | exact HB_4.out | exact Below.refl _ _ | apply below_alloc | apply pw_below_drewN | apply below_drew1) | refine below_set ?_ (by first | omega | (simp; omega) | simp)))⟩⟩
              · rw [if_neg c13] at H
                have c13b0 : (a2 == a1_1) = false := beq_eq_false_iff_ne.mpr c13
                have c13b1 : (a2 != a1_1) = true := bne_iff_ne.mpr c13
                clear c13
                have H' := Aside0.mk H
                clear H
                have hlwc4_218_0 : w.heap.size < wc4.heap.size := (by omega)
                have hlwc4_219_0 : w.heap.size + 1 < wc4.heap.size := (by omega)
                go_wp2
                go_meet
                case rel => exact ⟨_, (true), (by first | rfl | (simp; done) | (simp [*]; done)), H', ⟨by have := HJ4.out; first | omega | exact Nat.le_refl _⟩, ⟨BX.mk7 (by go_simp) (by go_simp) (by go_simp) (by go_simp) (by go_simp) (by go_simp) (by go_simp) (by go_simp) (by go_simp) (by go_simp) (by go_simp) (by go_simp) (by go_simp) (by go_simp) (by first | omega | (simp; done) | (simp; omega))⟩, ⟨BX.mk7 (by go_simp) (by go_simp) (by go_simp) (by go_simp) (by go_simp) (by go_simp) (by go_simp) (by go_simp) (by go_simp) (by go_simp) (by go_simp) (by go_simp) (by go_simp) (by go_simp) (by first | omega | (simp; done) | (simp; omega))⟩, ⟨(by repeat (first | (with_reducible first | exact HB_4.out | exact Below.refl _ _ | apply below_alloc | apply pw_below_drewN | apply below_drew1) | refine below_set ?_ (by first | omega | (simp; omega) | simp)))⟩⟩
            · replace c12 := Bool.eq_false_iff.mpr c12; subst c12
              rw [if_neg (by decide)] at H
              have H' := Aside0.mk H
              clear H
              have hlwc4_218_0 : w.heap.size < wc4.heap.size := (by omega)
              have hlwc4_219_0 : w.heap.size + 1 < wc4.heap.size := (by omega)
              go_wp2
              go_meet
              case rel => exact ⟨_, (true), (by first | rfl | (simp; done) | (simp [*]; done)), H', ⟨by have := HJ4.out; first | omega | exact Nat.le_refl _⟩, ⟨BX.mk7 (by go_simp) (by go_simp) (by go_simp) (by go_simp) (by go_simp) (by go_simp) (by go_simp) (by go_simp) (by go_simp) (by go_simp) (by go_simp) (by go_simp) (by go_simp) (by go_simp) (by first | omega | (simp; done) | (simp; omega))⟩, ⟨BX.mk7 (by go_simp) (by go_simp) (by go_simp) (by go_simp) (by go_simp) (by go_simp) (by go_simp) (by go_simp) (by go_simp) (by go_simp) (by go_simp) (by go_simp) (by go_simp) (by go_simp) (by first | omega | (simp; done) | (simp; omega))⟩, ⟨(by repeat (first | (with_reducible first | exact HB_4.out | exact Below.refl _ _ | apply below_alloc | apply pw_below_drewN | apply below_drew1) | refine below_set ?_ (by first | omega | (simp; omega) | simp)))⟩⟩
          case rest =>
            rename World => wc10
            clear HC11
            obtain ⟨kq, x29_10, rfl, HA, HJ10, BX218_10, BX219_10, HB_10⟩ := hcut
            have hs10 : w.heap.size ≤ wc10.heap.size := HB_10.out.size
            obtain ⟨hz218_10_0, hz218_10_1, hz218_10_2, hz218_10_3, hz218_10_4, hz218_10_5, hz218_10_6, hf218_10_0, hf218_10_1, hf218_10_2, hf218_10_3, hf218_10_4, hf218_10_5, hf218_10_6, hlt218_10⟩ := BX218_10.out.out7
            obtain ⟨hz219_10_0, hz219_10_1, hz219_10_2, hz219_10_3, hz219_10_4, hz219_10_5, hz219_10_6, hf219_10_0, hf219_10_1, hf219_10_2, hf219_10_3, hf219_10_4, hf219_10_5, hf219_10_6, hlt219_10⟩ := BX219_10.out.out7
            cases kq with
            | zero => exact absurd HA.out (by simp [saga_Tell.j1])
            | succ k10 =>
              have H := HA.out
              clear HA
              simp only [saga_Tell.j1] at H
              by_cases c15 : x29_10 = true
              · subst c15
                rw [if_pos rfl] at H
                simp only [Option.some.injEq, Prod.mk.injEq] at H
                obtain ⟨rfl, rfl, rfl, rfl, rfl, rfl, rfl, rfl⟩ := H
                have hlwc10_218_0 : w.heap.size < wc10.heap.size := (by omega)
                have hlwc10_219_0 : w.heap.size + 1 < wc10.heap.size := (by omega)
                go_wp2
                refine bodyPost_ret ?_ rfl ⟨rfl, ?_⟩
                · simp [results, Try.results15, go_sem, hz218_10_0, hz218_10_1, hz218_10_2, hz218_10_3, hz218_10_4, hz218_10_5, hz218_10_6, hf218_10_0, hf218_10_1, hf218_10_2, hf218_10_3, hf218_10_4, hf218_10_5, hf218_10_6, hz219_10_0, hz219_10_1, hz219_10_2, hz219_10_3, hz219_10_4, hz219_10_5, hz219_10_6, hf219_10_0, hf219_10_1, hf219_10_2, hf219_10_3, hf219_10_4, hf219_10_5, hf219_10_6, hlwc10_218_0, hlwc10_219_0]
                · exact (by repeat (first | (with_reducible first | exact HB_10.out | exact Below.refl _ _ | apply below_alloc | apply pw_below_drewN | apply below_drew1) | refine below_set ?_ (by first | omega | (simp; omega) | simp)))
              · replace c15 := Bool.eq_false_iff.mpr c15; subst c15
                rw [if_neg (by decide)] at H
                by_cases c16 : a3 = true
                · subst c16
                  rw [if_pos rfl] at H
                  obtain ⟨⟨t221, t222, t223, t224, t225, t226, t227⟩, A_, H⟩ := Option.bind_eq_some_iff.mp H
                  try dsimp only at H
                  have A17 := Aside0.mk A_
                  clear A_
                  simp only [Option.some.injEq, Prod.mk.injEq] at H
                  obtain ⟨rfl, rfl, rfl, rfl, rfl, rfl, rfl, rfl⟩ := H
                  have hlwc10_218_0 : w.heap.size < wc10.heap.size := (by omega)
                  have hlwc10_219_0 : w.heap.size + 1 < wc10.heap.size := (by omega)
                  go_wp2_with (first | ((with_reducible refine gate_callee (f := 31) rfl ?_); refine goesL_ (some 52) rfl rfl Try.func31 (by kernel_rfl) rfl #[.slice A0 l0.length c0, .agg #[.int .i64 a1_0, .int .i64 a1_1, .int .i64 a1_2, .bool a1_3, .int .i64 a1_4, .bool a1_5, .int .i64 a1_6], .int .i64 a4] rfl (by (try simp only [List.map_toArray, List.map_cons, List.map_nil]); first | done | rfl | (simp only [List.length_drop, List.length_take]; rfl)) ?_; (with_reducible refine (saga_undone.calls k10 _ _ l0 a1_0 a1_1 a1_2 a1_3 a1_4 a1_5 a1_6 a4 t221 t222 t223 t224 t225 t226 t227 _ ?sd0 HC0.out A17.out).mono ?_); (case sd0 => exact Kd.C_below HR0.out (by repeat (first | (with_reducible first | exact HB_10.out | exact Below.refl _ _ | apply below_alloc | apply pw_below_drewN | apply below_drew1) | refine below_set ?_ (by first | omega | (simp; omega) | simp)))); rintro e w18 ⟨rfl, hb⟩; refine ⟨_, rfl, ?_⟩; have hsw18 : wc10.heap.size ≤ w18.heap.size := (by have h_ := hb.size; simpa using h_); have HB_w18 : Aside0 (Below w.heap.size w w18) := Aside0.mk (below_step (by repeat (first | (with_reducible first | exact HB_10.out | exact Below.refl _ _ | apply below_alloc | apply pw_below_drewN | apply below_drew1) | refine below_set ?_ (by first | omega | (simp; omega) | simp))) hb); have cw18_218 := fun o_ : Nat => hb.cell (p := ⟨w.heap.size, o_, none⟩) (by first | omega | (simp; done) | (simp; omega)); have fw18_218 := fun o_ : Nat => hb.frozen (p := ⟨w.heap.size, o_, none⟩) (by first | omega | (simp; done) | (simp; omega)); have cw18_219 := fun o_ : Nat => hb.cell (p := ⟨w.heap.size + 1, o_, none⟩) (by first | omega | (simp; done) | (simp; omega)); have fw18_219 := fun o_ : Nat => hb.frozen (p := ⟨w.heap.size + 1, o_, none⟩) (by first | omega | (simp; done) | (simp; omega)); clear hb; have hlw18_218_0 : w.heap.size < w18.heap.size := (by omega); have hlw18_219_0 : w.heap.size + 1 < w18.heap.size := (by omega)))
                  refine bodyPost_ret ?_ rfl ⟨rfl, ?_⟩
                  · simp [results, Try.results15, go_sem, hz218_10_0, hz218_10_1, hz218_10_2, hz218_10_3, hz218_10_4, hz218_10_5, hz218_10_6, hf218_10_0, hf218_10_1, hf218_10_2, hf218_10_3, hf218_10_4, hf218_10_5, hf218_10_6, hz219_10_0, hz219_10_1, hz219_10_2, hz219_10_3, hz219_10_4, hz219_10_5, hz219_10_6, hf219_10_0, hf219_10_1, hf219_10_2, hf219_10_3, hf219_10_4, hf219_10_5, hf219_10_6, hlwc10_218_0, hlwc10_219_0, cw18_218, fw18_218, cw18_219, fw18_219, hlw18_218_0, hlw18_219_0]
                  · exact (by repeat (first | (with_reducible first | exact HB_w18.out | exact Below.refl _ _ | apply below_alloc | apply pw_below_drewN | apply below_drew1) | refine below_set ?_ (by first | omega | (simp; omega) | simp)))
                · replace c16 := Bool.eq_false_iff.mpr c16; subst c16
                  rw [if_neg (by decide)] at H
                  obtain ⟨⟨t228, t229, t230, t231, t232, t233, t234⟩, A_, H⟩ := Option.bind_eq_some_iff.mp H
                  try dsimp only at H
                  have A19 := Aside0.mk A_
                  clear A_
                  simp only [Option.some.injEq, Prod.mk.injEq] at H
                  obtain ⟨rfl, rfl, rfl, rfl, rfl, rfl, rfl, rfl⟩ := H
                  have hlwc10_218_0 : w.heap.size < wc10.heap.size := (by omega)
                  have hlwc10_219_0 : w.heap.size + 1 < wc10.heap.size := (by omega)
                  go_wp2_with (first | ((with_reducible refine gate_callee (f := 32) rfl ?_); refine goesL_ (some 56) rfl rfl Try.func32 (by kernel_rfl) rfl #[.slice A0 l0.length c0, .agg #[.int .i64 a1_0, .int .i64 a1_1, .int .i64 a1_2, .bool a1_3, .int .i64 a1_4, .bool a1_5, .int .i64 a1_6], .int .i64 a4] rfl (by (try simp only [List.map_toArray, List.map_cons, List.map_nil]); first | done | rfl | (simp only [List.length_drop, List.length_take]; rfl)) ?_; (with_reducible refine (saga_forward.calls k10 _ _ l0 a1_0 a1_1 a1_2 a1_3 a1_4 a1_5 a1_6 a4 t228 t229 t230 t231 t232 t233 t234 _ ?sd0 HC0.out A19.out).mono ?_); (case sd0 => exact Kd.C_below HR0.out (by repeat (first | (with_reducible first | exact HB_10.out | exact Below.refl _ _ | apply below_alloc | apply pw_below_drewN | apply below_drew1) | refine below_set ?_ (by first | omega | (simp; omega) | simp)))); rintro e w20 ⟨rfl, hb⟩; refine ⟨_, rfl, ?_⟩; have hsw20 : wc10.heap.size ≤ w20.heap.size := (by have h_ := hb.size; simpa using h_); have HB_w20 : Aside0 (Below w.heap.size w w20) := Aside0.mk (below_step (by repeat (first | (with_reducible first | exact HB_10.out | exact Below.refl _ _ | apply below_alloc | apply pw_below_drewN | apply below_drew1) | refine below_set ?_ (by first | omega | (simp; omega) | simp))) hb); have cw20_218 := fun o_ : Nat => hb.cell (p := ⟨w.heap.size, o_, none⟩) (by first | omega | (simp; done) | (simp; omega)); have fw20_218 := fun o_ : Nat => hb.frozen (p := ⟨w.heap.size, o_, none⟩) (by first | omega | (simp; done) | (simp; omega)); have cw20_219 := fun o_ : Nat => hb.cell (p := ⟨w.heap.size + 1, o_, none⟩) (by first | omega | (simp; done) | (simp; omega)); have fw20_219 := fun o_ : Nat => hb.frozen (p := ⟨w.heap.size + 1, o_, none⟩) (by first | omega | (simp; done) | (simp; omega)); clear hb; have hlw20_218_0 : w.heap.size < w20.heap.size := (by omega); have hlw20_219_0 : w.heap.size + 1 < w20.heap.size := (by omega)))
                  refine bodyPost_ret ?_ rfl ⟨rfl, ?_⟩
                  · simp [results, Try.results15, go_sem, hz218_10_0, hz218_10_1, hz218_10_2, hz218_10_3, hz218_10_4, hz218_10_5, hz218_10_6, hf218_10_0, hf218_10_1, hf218_10_2, hf218_10_3, hf218_10_4, hf218_10_5, hf218_10_6, hz219_10_0, hz219_10_1, hz219_10_2, hz219_10_3, hz219_10_4, hz219_10_5, hz219_10_6, hf219_10_0, hf219_10_1, hf219_10_2, hf219_10_3, hf219_10_4, hf219_10_5, hf219_10_6, hlwc10_218_0, hlwc10_219_0, cw20_218, fw20_218, cw20_219, fw20_219, hlw20_218_0, hlw20_219_0]
                  · exact (by repeat (first | (with_reducible first | exact HB_w20.out | exact Below.refl _ _ | apply below_alloc | apply pw_below_drewN | apply below_drew1) | refine below_set ?_ (by first | omega | (simp; omega) | simp)))
  · rw [if_neg c3] at H
    have c3b0 : (t220 == 0) = false := beq_eq_false_iff_ne.mpr c3
    have c3b1 : (t220 != 0) = true := bne_iff_ne.mpr c3
    clear c3
    simp only [Option.some.injEq, Prod.mk.injEq] at H
    obtain ⟨rfl, rfl, rfl, rfl, rfl, rfl, rfl, rfl⟩ := H
    go_enter Try.func15, Try.ntmps15
    go_wp2_with (first | ((with_reducible refine gate_callee (f := 24) rfl ?_); refine goesL_ (some 15) rfl rfl Try.func24 (by kernel_rfl) rfl #[.slice A0 l0.length c0, .agg #[.int .i64 a1_0, .int .i64 a1_1, .int .i64 a1_2, .bool a1_3, .int .i64 a1_4, .bool a1_5, .int .i64 a1_6]] rfl (by (try simp only [List.map_toArray, List.map_cons, List.map_nil]); first | done | rfl | (simp only [List.length_drop, List.length_take]; rfl)) ?_; (with_reducible refine (saga_Check.calls k _ _ l0 a1_0 a1_1 a1_2 a1_3 a1_4 a1_5 a1_6 t220 _ ?sd0 HC0.out A2.out).mono ?_); (case sd0 => exact Kd.C_below HR0.out (by repeat (first | (with_reducible first | exact Below.refl _ _ | apply below_alloc | apply pw_below_drewN | apply below_drew1) | refine below_set ?_ (by first | omega | (simp; omega) | simp)))); rintro e w21 ⟨rfl, hb⟩; refine ⟨_, rfl, ?_⟩; have hsw21 : w.heap.size + 2 ≤ w21.heap.size := (by have h_ := hb.size; simpa using h_); have HB_w21 : Aside0 (Below w.heap.size w w21) := Aside0.mk (below_step (by repeat (first | (with_reducible first | exact Below.refl _ _ | apply below_alloc | apply pw_below_drewN | apply below_drew1) | refine below_set ?_ (by first | omega | (simp; omega) | simp))) hb); have cw21_218 := fun o_ : Nat => hb.cell (p := ⟨w.heap.size, o_, none⟩) (by first | omega | (simp; done) | (simp; omega)); have fw21_218 := fun o_ : Nat => hb.frozen (p := ⟨w.heap.size, o_, none⟩) (by first | omega | (simp; done) | (simp; omega)); have cw21_219 := fun o_ : Nat => hb.cell (p := ⟨w.heap.size + 1, o_, none⟩) (by first | omega | (simp; done) | (simp; omega)); have fw21_219 := fun o_ : Nat => hb.frozen (p := ⟨w.heap.size + 1, o_, none⟩) (by first | omega | (simp; done) | (simp; omega)); clear hb; have hlw21_218_0 : w.heap.size < w21.heap.size := (by omega); have hlw21_219_0 : w.heap.size + 1 < w21.heap.size := (by omega)))
    refine bodyPost_ret ?_ rfl ⟨rfl, ?_⟩
    · simp [results, Try.results15, go_sem, cw21_218, fw21_218, cw21_219, fw21_219, hlw21_218_0, hlw21_219_0]
    · exact (by repeat (first | (with_reducible first | exact HB_w21.out | exact Below.refl _ _ | apply below_alloc | apply pw_below_drewN | apply below_drew1) | refine below_set ?_ (by first | omega | (simp; omega) | simp)))

/-! ### drayagelaw14_three: function 30 -/
def threeL : List S38 := [⟨⟨1, 1, [97]⟩, 2, 3, true⟩, ⟨⟨4, 0, []⟩, 2, 3, true⟩, ⟨⟨2, 0, []⟩, 2, 3, false⟩]
def drayagelaw14_three.f : Option (List S38) := some threeL
set_option maxHeartbeats 8000000 in
set_option maxRecDepth 100000 in
theorem drayagelaw14_three.calls (r : List (S38)) (w : World) (h : drayagelaw14_three.f = some r) :
    Calls Try.prog 30 #[] w fun e w' => ∃ v0_ : Value, e = .returned (v0_) ∧ (∃ A c, v0_ = .slice A r.length c ∧ r.length ≤ c ∧ Kd.C k38 w' A r.length r) ∧ Below w.heap.size w w' := by
  obtain rfl := Option.some.inj h
  clear h
  have kc := fun (w : World) (C : Array Value) (n c : Nat) => Lib.run_convert_bytes_const (P := Try.prog) w 34 5 C n c Try.underlying34 Try.underlying5
  have hu36 := Try.underlying36
  have hu38 := Try.underlying38
  go_enter Try.func30, Try.ntmps30
  go_wp2
  go_ret
  refine ⟨_, rfl, ?_, ?_⟩
  · refine ⟨some ⟨w.heap.size + 1, 0, none⟩, 3, rfl, by decide, ?_⟩
    have hz : (w.alloc (.cells #[.int .u8 97] 5 (1, 2))).heap.size = w.heap.size + 1 := by simp only [World.alloc, Array.size_push]
    have hb := heap_alloc_new (w.alloc (.cells #[.int .u8 97] 5 (1, 2))) (.cells #[.int .i64 1, .int .i64 1, .slice (some ⟨w.heap.size, 0, none⟩) 1 1, .int .i64 2, .int .i64 3, .bool true, .int .i64 4, .int .i64 0, .slice none 0 0, .int .i64 2, .int .i64 3, .bool true, .int .i64 2, .int .i64 0, .slice none 0 0, .int .i64 2, .int .i64 3, .bool false] 38)
    rw [hz] at hb
    refine C_lit hb threeL [[.int .i64 1, .int .i64 1, .slice (some ⟨w.heap.size, 0, none⟩) 1 1, .int .i64 2, .int .i64 3, .bool true], [.int .i64 4, .int .i64 0, .slice none 0 0, .int .i64 2, .int .i64 3, .bool true], [.int .i64 2, .int .i64 0, .slice none 0 0, .int .i64 2, .int .i64 3, .bool false]] ⟨?_, ?_, ?_, trivial⟩ rfl (by decide)
    · refine k38_mk _ ⟨⟨1, 1, [97]⟩, 2, 3, true⟩ (A2 := some ⟨w.heap.size, 0, none⟩) (c2 := 1) (by decide) ?_
      exact C_lit (d := Kd.int .u8) (bd3 _ (heap_alloc_new w (.cells #[.int .u8 97] 5 (1, 2)))) [97] [[.int .u8 97]] ⟨rfl, trivial⟩ rfl (by decide)
    · exact k38_mk _ ⟨⟨4, 0, []⟩, 2, 3, true⟩ (A2 := none) (c2 := 0) (by decide) (Kd.C_nil _ _)
    · exact k38_mk _ ⟨⟨2, 0, []⟩, 2, 3, false⟩ (A2 := none) (c2 := 0) (by decide) (Kd.C_nil _ _)
  · repeat (first | (with_reducible first | exact Below.refl _ _ | apply below_alloc))

/-! ### drayagelaw14_known: function 12 -/
def drayagelaw14_known.f (k : Nat)  : Option (Bool) := (drayagelaw14_three.f).bind fun t235 => ((saga_Start.f).bind fun bt238 => ((saga_Ask.f k t235 bt238.1 bt238.2.1 bt238.2.2.1 bt238.2.2.2.1 bt238.2.2.2.2.1 bt238.2.2.2.2.2.1 bt238.2.2.2.2.2.2).bind fun bt246 => ((saga_Tell.f k t235 bt246.1 bt246.2.1 bt246.2.2.1 bt246.2.2.2.1 bt246.2.2.2.2.1 bt246.2.2.2.2.2.1 bt246.2.2.2.2.2.2.1 0 false 1).bind fun bt255 => ((saga_Ask.f k t235 bt255.1 bt255.2.1 bt255.2.2.1 bt255.2.2.2.1 bt255.2.2.2.2.1 bt255.2.2.2.2.2.1 bt255.2.2.2.2.2.2.1).bind fun bt264 => ((saga_Tell.f k t235 bt264.1 bt264.2.1 bt264.2.2.1 bt264.2.2.2.1 bt264.2.2.2.2.1 bt264.2.2.2.2.2.1 bt264.2.2.2.2.2.2.1 1 false 2).bind fun bt273 => ((saga_Next.f k t235 bt273.1 bt273.2.1 bt273.2.2.1 bt273.2.2.2.1 bt273.2.2.2.2.1 bt273.2.2.2.2.2.1 bt273.2.2.2.2.2.2.1).bind fun bt282 => ((saga_Ask.f k t235 bt273.1 bt273.2.1 bt273.2.2.1 bt273.2.2.2.1 bt273.2.2.2.2.1 bt273.2.2.2.2.2.1 bt273.2.2.2.2.2.2.1).bind fun bt287 => ((saga_Tell.f k t235 bt287.1 bt287.2.1 bt287.2.2.1 bt287.2.2.2.1 bt287.2.2.2.2.1 bt287.2.2.2.2.2.1 bt287.2.2.2.2.2.2.1 0 true 1).bind fun bt296 => (if bt246.2.2.2.2.2.2.2 = 0 then (if (bt246.1 == 1 && (bt246.2.1 == 0 && (bt246.2.2.1 == 1 && (bt246.2.2.2.1 && (bt246.2.2.2.2.1 == 3 && (!bt246.2.2.2.2.2.1 && (bt246.2.2.2.2.2.2.1 == 0))))))) = true then (if bt255.2.2.2.2.2.2.2 = 0 then (if (bt255.1 == 1 && (bt255.2.1 == 1 && (bt255.2.2.1 == 0 && (!bt255.2.2.2.1 && (bt255.2.2.2.2.1 == 0 && (!bt255.2.2.2.2.2.1 && (bt255.2.2.2.2.2.2.1 == 0))))))) = true then (if (bt273.1 == 2 && (bt273.2.1 == 0 && (bt273.2.2.1 == 0 && (!bt273.2.2.2.1 && (bt273.2.2.2.2.1 == 0 && (!bt273.2.2.2.2.2.1 && (bt273.2.2.2.2.2.2.1 == 0))))))) = true then (if bt282.2.2.2 = true then (if (bt282.1 == 0 && (bt282.2.1 && (bt282.2.2.1 == 1))) = true then (if (bt296.1 == 3 && (bt296.2.1 == 0 && (bt296.2.2.1 == 0 && (!bt296.2.2.2.1 && (bt296.2.2.2.2.1 == 0 && (!bt296.2.2.2.2.2.1 && (bt296.2.2.2.2.2.2.1 == 2))))))) = true then ((saga_Check.f k t235 0 0 0 false 0 false 0).bind fun t305 => (some (t305 == 140))) else (none)) else (none)) else (none)) else (none)) else (none)) else (none)) else (none)) else (none))))))))))
theorem drayagelaw14_known.mono : ∀ k, LeO (drayagelaw14_known.f k ) (drayagelaw14_known.f (k + 1) ) := by
  intro  k
  unfold drayagelaw14_known.f
  repeat' first
      | (with_reducible exact saga_Ask.mono _ _ _ _ _ _ _ _ _)
      | (with_reducible exact saga_Check.mono _ _ _ _ _ _ _ _ _)
      | (with_reducible exact saga_Next.mono _ _ _ _ _ _ _ _ _)
      | (with_reducible exact saga_Tell.mono _ _ _ _ _ _ _ _ _ _ _ _)
      | (with_reducible exact LeO.refl _)
      | (with_reducible exact LeO.none _)
      | (with_reducible refine LeO.ite ?_ ?_)
      | (with_reducible refine LeO.bind ?_ (fun _ => ?_))
      | exact saga_Ask.mono _ _ _ _ _ _ _ _ _
      | exact saga_Check.mono _ _ _ _ _ _ _ _ _
      | exact saga_Next.mono _ _ _ _ _ _ _ _ _
      | exact saga_Tell.mono _ _ _ _ _ _ _ _ _ _ _ _
      | exact LeO.none _
      | refine LeO.ite ?_ ?_
      | refine LeO.bind ?_ (fun _ => ?_)
attribute [local go_sem] cell_alloc_lt2 cell_set_ne2
set_option maxHeartbeats 8000000 in
set_option maxRecDepth 100000 in
theorem drayagelaw14_known.calls (k : Nat)  (r : Bool) (w : World) (h : drayagelaw14_known.f k  = some r) :
    Calls Try.prog 12 #[] w fun e w' => e = .returned (.bool r) ∧ Below w.heap.size w w' := by
  have hu28 := Try.underlying28
  have hu41 := Try.underlying41
  have HB := Aside0.mk (Below.refl w.heap.size w)
  have H := h
  clear h
  unfold drayagelaw14_known.f at H
  obtain ⟨t235, A_, H⟩ := Option.bind_eq_some_iff.mp H
  try dsimp only at H
  have A2 := Aside0.mk A_
  clear A_
  obtain ⟨⟨t238, t239, t240, t241, t242, t243, t244⟩, A_, H⟩ := Option.bind_eq_some_iff.mp H
  try dsimp only at H
  have A3 := Aside0.mk A_
  clear A_
  obtain ⟨⟨t246, t247, t248, t249, t250, t251, t252, t253⟩, A_, H⟩ := Option.bind_eq_some_iff.mp H
  try dsimp only at H
  have A4 := Aside0.mk A_
  clear A_
  obtain ⟨⟨t255, t256, t257, t258, t259, t260, t261, t262⟩, A_, H⟩ := Option.bind_eq_some_iff.mp H
  try dsimp only at H
  have A5 := Aside0.mk A_
  clear A_
  obtain ⟨⟨t264, t265, t266, t267, t268, t269, t270, t271⟩, A_, H⟩ := Option.bind_eq_some_iff.mp H
  try dsimp only at H
  have A6 := Aside0.mk A_
  clear A_
  obtain ⟨⟨t273, t274, t275, t276, t277, t278, t279, t280⟩, A_, H⟩ := Option.bind_eq_some_iff.mp H
  try dsimp only at H
  have A7 := Aside0.mk A_
  clear A_
  obtain ⟨⟨t282, t283, t284, t285⟩, A_, H⟩ := Option.bind_eq_some_iff.mp H
  try dsimp only at H
  have A8 := Aside0.mk A_
  clear A_
  obtain ⟨⟨t287, t288, t289, t290, t291, t292, t293, t294⟩, A_, H⟩ := Option.bind_eq_some_iff.mp H
  try dsimp only at H
  have A9 := Aside0.mk A_
  clear A_
  obtain ⟨⟨t296, t297, t298, t299, t300, t301, t302, t303⟩, A_, H⟩ := Option.bind_eq_some_iff.mp H
  try dsimp only at H
  have A10 := Aside0.mk A_
  clear A_
  by_cases c11 : t253 = 0
  · rw [if_pos c11] at H
    have c11b0 : (t253 == 0) = true := beq_iff_eq.mpr c11
    have c11b1 : (t253 != 0) = false := bne_eq_false_iff_eq.mpr c11
    clear c11
    by_cases c12 : (t246 == 1 && (t247 == 0 && (t248 == 1 && (t249 && (t250 == 3 && (!t251 && (t252 == 0))))))) = true
    · rw [if_pos c12] at H
      have c12b0 : (t246 == 1 && (t247 == 0 && (t248 == 1 && (t249 && (t250 == 3 && (!t251 && (t252 == 0))))))) = true := c12
      (try have c12b1 : decide (t246 = 1 && (t247 == 0 && (t248 == 1 && (t249 && (t250 == 3 && (!t251 && (t252 == 0))))))) = true := by simpa using c12)
      (try have c12b2 : (t246 == 1 && (t247 == 0 && (t248 == 1 && (t249 && (t250 == 3 && (!t251 && (t252 == 0))))))) = true := by simpa using c12)
      clear c12
      by_cases c13 : t262 = 0
      · rw [if_pos c13] at H
        have c13b0 : (t262 == 0) = true := beq_iff_eq.mpr c13
        have c13b1 : (t262 != 0) = false := bne_eq_false_iff_eq.mpr c13
        clear c13
        by_cases c14 : (t255 == 1 && (t256 == 1 && (t257 == 0 && (!t258 && (t259 == 0 && (!t260 && (t261 == 0))))))) = true
        · rw [if_pos c14] at H
          have c14b0 : (t255 == 1 && (t256 == 1 && (t257 == 0 && (!t258 && (t259 == 0 && (!t260 && (t261 == 0))))))) = true := c14
          (try have c14b1 : decide (t255 = 1 && (t256 == 1 && (t257 == 0 && (!t258 && (t259 == 0 && (!t260 && (t261 == 0))))))) = true := by simpa using c14)
          (try have c14b2 : (t255 == 1 && (t256 == 1 && (t257 == 0 && (!t258 && (t259 == 0 && (!t260 && (t261 == 0))))))) = true := by simpa using c14)
          clear c14
          by_cases c15 : (t273 == 2 && (t274 == 0 && (t275 == 0 && (!t276 && (t277 == 0 && (!t278 && (t279 == 0))))))) = true
          · rw [if_pos c15] at H
            have c15b0 : (t273 == 2 && (t274 == 0 && (t275 == 0 && (!t276 && (t277 == 0 && (!t278 && (t279 == 0))))))) = true := c15
            (try have c15b1 : decide (t273 = 2 && (t274 == 0 && (t275 == 0 && (!t276 && (t277 == 0 && (!t278 && (t279 == 0))))))) = true := by simpa using c15)
            (try have c15b2 : (t273 == 2 && (t274 == 0 && (t275 == 0 && (!t276 && (t277 == 0 && (!t278 && (t279 == 0))))))) = true := by simpa using c15)
            clear c15
            by_cases c16 : t285 = true
            · subst c16
              rw [if_pos rfl] at H
              by_cases c17 : (t282 == 0 && (t283 && (t284 == 1))) = true
              · rw [if_pos c17] at H
                have c17b0 : (t282 == 0 && (t283 && (t284 == 1))) = true := c17
                (try have c17b1 : decide (t282 = 0 && (t283 && (t284 == 1))) = true := by simpa using c17)
                (try have c17b2 : (t282 == 0 && (t283 && (t284 == 1))) = true := by simpa using c17)
                clear c17
                by_cases c18 : (t296 == 3 && (t297 == 0 && (t298 == 0 && (!t299 && (t300 == 0 && (!t301 && (t302 == 2))))))) = true
                · rw [if_pos c18] at H
                  have c18b0 : (t296 == 3 && (t297 == 0 && (t298 == 0 && (!t299 && (t300 == 0 && (!t301 && (t302 == 2))))))) = true := c18
                  (try have c18b1 : decide (t296 = 3 && (t297 == 0 && (t298 == 0 && (!t299 && (t300 == 0 && (!t301 && (t302 == 2))))))) = true := by simpa using c18)
                  (try have c18b2 : (t296 == 3 && (t297 == 0 && (t298 == 0 && (!t299 && (t300 == 0 && (!t301 && (t302 == 2))))))) = true := by simpa using c18)
                  clear c18
                  obtain ⟨t305, A_, H⟩ := Option.bind_eq_some_iff.mp H
                  try dsimp only at H
                  have A19 := Aside0.mk A_
                  clear A_
                  obtain rfl := Option.some.inj H
                  go_enter Try.func12, Try.ntmps12
                  go_wp2_with (first | ((with_reducible refine gate_callee (f := 30) rfl ?_); refine goesL_ (some 17) rfl rfl Try.func30 (by kernel_rfl) rfl #[] rfl (by (try simp only [List.map_toArray, List.map_cons, List.map_nil]); first | done | rfl | (simp only [List.length_drop, List.length_take]; rfl)) ?_; (with_reducible refine (drayagelaw14_three.calls  t235 _ A2.out).mono ?_); rintro e w20 ⟨v21, rfl, ho22, hb⟩; refine ⟨_, rfl, ?_⟩; have hsw20 : w.heap.size ≤ w20.heap.size := (by have h_ := hb.size; simpa using h_); have HB_w20 : Aside0 (Below w.heap.size w w20) := Aside0.mk (below_step (by repeat (first | (with_reducible first | exact Below.refl _ _ | apply below_alloc | apply pw_below_drewN | apply below_drew1) | refine below_set ?_ (by first | omega | (simp; omega) | simp))) hb); clear hb; obtain ⟨Av21, cv21, rfl, hlv21, hCv21⟩ := rows_read (by first | exact Kd.R_reads ho22 | exact Kd.N_reads ho22 | exact Kd.S_reads ho22 | exact Kd.Q_reads ho22 | exact ho22); clear ho22; have HRv21 := Aside0.mk hCv21; have HCv21 := Aside0.mk hlv21; clear hCv21 hlv21) | ((with_reducible refine gate_callee (f := 13) rfl ?_); refine goesL_ (some 18) rfl rfl Try.func13 (by kernel_rfl) rfl #[] rfl (by (try simp only [List.map_toArray, List.map_cons, List.map_nil]); first | done | rfl | (simp only [List.length_drop, List.length_take]; rfl)) ?_; (with_reducible refine (saga_Start.calls  t238 t239 t240 t241 t242 t243 t244 _ A3.out).mono ?_); rintro e w23 ⟨rfl, hb⟩; refine ⟨_, rfl, ?_⟩; have hsw23 : w20.heap.size ≤ w23.heap.size := (by have h_ := hb.size; simpa using h_); have HB_w23 : Aside0 (Below w.heap.size w w23) := Aside0.mk (below_step (by repeat (first | (with_reducible first | exact HB_w20.out | exact Below.refl _ _ | apply below_alloc | apply pw_below_drewN | apply below_drew1) | refine below_set ?_ (by first | omega | (simp; omega) | simp))) hb); have HB_w20_w23 : Aside0 (Below w20.heap.size w20 w23) := Aside0.mk (below_step (by repeat (first | (with_reducible first | exact Below.refl _ _ | apply below_alloc | apply pw_below_drewN | apply below_drew1) | refine below_set ?_ (by first | omega | (simp; omega) | simp))) hb); clear hb) | ((with_reducible refine gate_callee (f := 14) rfl ?_); refine goesL_ (some 22) rfl rfl Try.func14 (by kernel_rfl) rfl #[.slice Av21 t235.length cv21, .agg #[.int .i64 t238, .int .i64 t239, .int .i64 t240, .bool t241, .int .i64 t242, .bool t243, .int .i64 t244]] rfl (by (try simp only [List.map_toArray, List.map_cons, List.map_nil]); first | done | rfl | (simp only [List.length_drop, List.length_take]; rfl)) ?_; (with_reducible refine (saga_Ask.calls k _ _ t235 t238 t239 t240 t241 t242 t243 t244 t246 t247 t248 t249 t250 t251 t252 t253 _ ?sd0 HCv21.out A4.out).mono ?_); (case sd0 => exact Kd.C_below HRv21.out (by repeat (first | (with_reducible first | exact HB_w20_w23.out | exact Below.refl _ _ | apply below_alloc | apply pw_below_drewN | apply below_drew1) | refine below_set ?_ (by first | omega | (simp; omega) | simp)))); rintro e w24 ⟨rfl, hb⟩; refine ⟨_, rfl, ?_⟩; have hsw24 : w23.heap.size + 1 ≤ w24.heap.size := (by have h_ := hb.size; simpa using h_); have HB_w24 : Aside0 (Below w.heap.size w w24) := Aside0.mk (below_step (by repeat (first | (with_reducible first | exact HB_w23.out | exact Below.refl _ _ | apply below_alloc | apply pw_below_drewN | apply below_drew1) | refine below_set ?_ (by first | omega | (simp; omega) | simp))) hb); have HB_w20_w24 : Aside0 (Below w20.heap.size w20 w24) := Aside0.mk (below_step (by repeat (first | (with_reducible first | exact HB_w20_w23.out | exact Below.refl _ _ | apply below_alloc | apply pw_below_drewN | apply below_drew1) | refine below_set ?_ (by first | omega | (simp; omega) | simp))) hb); have cw24_245 := fun o_ : Nat => hb.cell (p := ⟨w23.heap.size, o_, none⟩) (by first | omega | (simp; done) | (simp; omega)); have fw24_245 := fun o_ : Nat => hb.frozen (p := ⟨w23.heap.size, o_, none⟩) (by first | omega | (simp; done) | (simp; omega)); clear hb; have hlw24_245_0 : w23.heap.size < w24.heap.size := (by omega); have hlw24_245_1 : w23.heap.size < w24.heap.size + 1 := (by omega); have hnw24_245_0 : ¬ (w23.heap.size = w24.heap.size) := (by omega); have hmw24_245_0 : ¬ (w24.heap.size = w23.heap.size) := (by omega)) | ((with_reducible refine gate_callee (f := 15) rfl ?_); refine goesL_ (some 28) rfl rfl Try.func15 (by kernel_rfl) rfl #[.slice Av21 t235.length cv21, .agg #[.int .i64 t246, .int .i64 t247, .int .i64 t248, .bool t249, .int .i64 t250, .bool t251, .int .i64 t252], .int .i64 0, .bool false, .int .i64 1] rfl (by (try simp only [List.map_toArray, List.map_cons, List.map_nil]); first | done | rfl | (simp only [List.length_drop, List.length_take]; rfl)) ?_; (with_reducible refine (saga_Tell.calls k _ _ t235 t246 t247 t248 t249 t250 t251 t252 0 false 1 t255 t256 t257 t258 t259 t260 t261 t262 _ ?sd0 HCv21.out A5.out).mono ?_); (case sd0 => exact Kd.C_below HRv21.out (by repeat (first | (with_reducible first | exact HB_w20_w24.out | exact Below.refl _ _ | apply below_alloc | apply pw_below_drewN | apply below_drew1) | refine below_set ?_ (by first | omega | (simp; omega) | simp)))); rintro e w25 ⟨rfl, hb⟩; refine ⟨_, rfl, ?_⟩; have hsw25 : w24.heap.size + 1 ≤ w25.heap.size := (by have h_ := hb.size; simpa using h_); have HB_w25 : Aside0 (Below w.heap.size w w25) := Aside0.mk (below_step (by repeat (first | (with_reducible first | exact HB_w24.out | exact Below.refl _ _ | apply below_alloc | apply pw_below_drewN | apply below_drew1) | refine below_set ?_ (by first | omega | (simp; omega) | simp))) hb); have HB_w20_w25 : Aside0 (Below w20.heap.size w20 w25) := Aside0.mk (below_step (by repeat (first | (with_reducible first | exact HB_w20_w24.out | exact Below.refl _ _ | apply below_alloc | apply pw_below_drewN | apply below_drew1) | refine below_set ?_ (by first | omega | (simp; omega) | simp))) hb); have cw25_245 := fun o_ : Nat => hb.cell (p := ⟨w23.heap.size, o_, none⟩) (by first | omega | (simp; done) | (simp; omega)); have fw25_245 := fun o_ : Nat => hb.frozen (p := ⟨w23.heap.size, o_, none⟩) (by first | omega | (simp; done) | (simp; omega)); have cw25_254 := fun o_ : Nat => hb.cell (p := ⟨w24.heap.size, o_, none⟩) (by first | omega | (simp; done) | (simp; omega)); have fw25_254 := fun o_ : Nat => hb.frozen (p := ⟨w24.heap.size, o_, none⟩) (by first | omega | (simp; done) | (simp; omega)); clear hb; have hlw25_245_0 : w23.heap.size < w25.heap.size := (by omega); have hlw25_245_1 : w23.heap.size < w25.heap.size + 1 := (by omega); have hnw25_245_0 : ¬ (w23.heap.size = w25.heap.size) := (by omega); have hmw25_245_0 : ¬ (w25.heap.size = w23.heap.size) := (by omega); have hlw25_254_0 : w24.heap.size < w25.heap.size := (by omega); have hlw25_254_1 : w24.heap.size < w25.heap.size + 1 := (by omega); have hnw25_254_0 : ¬ (w24.heap.size = w25.heap.size) := (by omega); have hmw25_254_0 : ¬ (w25.heap.size = w24.heap.size) := (by omega)) | ((with_reducible refine gate_callee (f := 14) rfl ?_); refine goesL_ (some 34) rfl rfl Try.func14 (by kernel_rfl) rfl #[.slice Av21 t235.length cv21, .agg #[.int .i64 t255, .int .i64 t256, .int .i64 t257, .bool t258, .int .i64 t259, .bool t260, .int .i64 t261]] rfl (by (try simp only [List.map_toArray, List.map_cons, List.map_nil]); first | done | rfl | (simp only [List.length_drop, List.length_take]; rfl)) ?_; (with_reducible refine (saga_Ask.calls k _ _ t235 t255 t256 t257 t258 t259 t260 t261 t264 t265 t266 t267 t268 t269 t270 t271 _ ?sd0 HCv21.out A6.out).mono ?_); (case sd0 => exact Kd.C_below HRv21.out (by repeat (first | (with_reducible first | exact HB_w20_w25.out | exact Below.refl _ _ | apply below_alloc | apply pw_below_drewN | apply below_drew1) | refine below_set ?_ (by first | omega | (simp; omega) | simp)))); rintro e w26 ⟨rfl, hb⟩; refine ⟨_, rfl, ?_⟩; have hsw26 : w25.heap.size + 1 ≤ w26.heap.size := (by have h_ := hb.size; simpa using h_); have HB_w26 : Aside0 (Below w.heap.size w w26) := Aside0.mk (below_step (by repeat (first | (with_reducible first | exact HB_w25.out | exact Below.refl _ _ | apply below_alloc | apply pw_below_drewN | apply below_drew1) | refine below_set ?_ (by first | omega | (simp; omega) | simp))) hb); have HB_w20_w26 : Aside0 (Below w20.heap.size w20 w26) := Aside0.mk (below_step (by repeat (first | (with_reducible first | exact HB_w20_w25.out | exact Below.refl _ _ | apply below_alloc | apply pw_below_drewN | apply below_drew1) | refine below_set ?_ (by first | omega | (simp; omega) | simp))) hb); have cw26_245 := fun o_ : Nat => hb.cell (p := ⟨w23.heap.size, o_, none⟩) (by first | omega | (simp; done) | (simp; omega)); have fw26_245 := fun o_ : Nat => hb.frozen (p := ⟨w23.heap.size, o_, none⟩) (by first | omega | (simp; done) | (simp; omega)); have cw26_254 := fun o_ : Nat => hb.cell (p := ⟨w24.heap.size, o_, none⟩) (by first | omega | (simp; done) | (simp; omega)); have fw26_254 := fun o_ : Nat => hb.frozen (p := ⟨w24.heap.size, o_, none⟩) (by first | omega | (simp; done) | (simp; omega)); have cw26_263 := fun o_ : Nat => hb.cell (p := ⟨w25.heap.size, o_, none⟩) (by first | omega | (simp; done) | (simp; omega)); have fw26_263 := fun o_ : Nat => hb.frozen (p := ⟨w25.heap.size, o_, none⟩) (by first | omega | (simp; done) | (simp; omega)); clear hb; have hlw26_245_0 : w23.heap.size < w26.heap.size := (by omega); have hlw26_245_1 : w23.heap.size < w26.heap.size + 1 := (by omega); have hnw26_245_0 : ¬ (w23.heap.size = w26.heap.size) := (by omega); have hmw26_245_0 : ¬ (w26.heap.size = w23.heap.size) := (by omega); have hlw26_254_0 : w24.heap.size < w26.heap.size := (by omega); have hlw26_254_1 : w24.heap.size < w26.heap.size + 1 := (by omega); have hnw26_254_0 : ¬ (w24.heap.size = w26.heap.size) := (by omega); have hmw26_254_0 : ¬ (w26.heap.size = w24.heap.size) := (by omega); have hlw26_263_0 : w25.heap.size < w26.heap.size := (by omega); have hlw26_263_1 : w25.heap.size < w26.heap.size + 1 := (by omega); have hnw26_263_0 : ¬ (w25.heap.size = w26.heap.size) := (by omega); have hmw26_263_0 : ¬ (w26.heap.size = w25.heap.size) := (by omega)) | ((with_reducible refine gate_callee (f := 15) rfl ?_); refine goesL_ (some 40) rfl rfl Try.func15 (by kernel_rfl) rfl #[.slice Av21 t235.length cv21, .agg #[.int .i64 t264, .int .i64 t265, .int .i64 t266, .bool t267, .int .i64 t268, .bool t269, .int .i64 t270], .int .i64 1, .bool false, .int .i64 2] rfl (by (try simp only [List.map_toArray, List.map_cons, List.map_nil]); first | done | rfl | (simp only [List.length_drop, List.length_take]; rfl)) ?_; (with_reducible refine (saga_Tell.calls k _ _ t235 t264 t265 t266 t267 t268 t269 t270 1 false 2 t273 t274 t275 t276 t277 t278 t279 t280 _ ?sd0 HCv21.out A7.out).mono ?_); (case sd0 => exact Kd.C_below HRv21.out (by repeat (first | (with_reducible first | exact HB_w20_w26.out | exact Below.refl _ _ | apply below_alloc | apply pw_below_drewN | apply below_drew1) | refine below_set ?_ (by first | omega | (simp; omega) | simp)))); rintro e w27 ⟨rfl, hb⟩; refine ⟨_, rfl, ?_⟩; have hsw27 : w26.heap.size + 1 ≤ w27.heap.size := (by have h_ := hb.size; simpa using h_); have HB_w27 : Aside0 (Below w.heap.size w w27) := Aside0.mk (below_step (by repeat (first | (with_reducible first | exact HB_w26.out | exact Below.refl _ _ | apply below_alloc | apply pw_below_drewN | apply below_drew1) | refine below_set ?_ (by first | omega | (simp; omega) | simp))) hb); have HB_w20_w27 : Aside0 (Below w20.heap.size w20 w27) := Aside0.mk (below_step (by repeat (first | (with_reducible first | exact HB_w20_w26.out | exact Below.refl _ _ | apply below_alloc | apply pw_below_drewN | apply below_drew1) | refine below_set ?_ (by first | omega | (simp; omega) | simp))) hb); have cw27_245 := fun o_ : Nat => hb.cell (p := ⟨w23.heap.size, o_, none⟩) (by first | omega | (simp; done) | (simp; omega)); have fw27_245 := fun o_ : Nat => hb.frozen (p := ⟨w23.heap.size, o_, none⟩) (by first | omega | (simp; done) | (simp; omega)); have cw27_254 := fun o_ : Nat => hb.cell (p := ⟨w24.heap.size, o_, none⟩) (by first | omega | (simp; done) | (simp; omega)); have fw27_254 := fun o_ : Nat => hb.frozen (p := ⟨w24.heap.size, o_, none⟩) (by first | omega | (simp; done) | (simp; omega)); have cw27_263 := fun o_ : Nat => hb.cell (p := ⟨w25.heap.size, o_, none⟩) (by first | omega | (simp; done) | (simp; omega)); have fw27_263 := fun o_ : Nat => hb.frozen (p := ⟨w25.heap.size, o_, none⟩) (by first | omega | (simp; done) | (simp; omega)); have cw27_272 := fun o_ : Nat => hb.cell (p := ⟨w26.heap.size, o_, none⟩) (by first | omega | (simp; done) | (simp; omega)); have fw27_272 := fun o_ : Nat => hb.frozen (p := ⟨w26.heap.size, o_, none⟩) (by first | omega | (simp; done) | (simp; omega)); clear hb; have hlw27_245_0 : w23.heap.size < w27.heap.size := (by omega); have hlw27_245_1 : w23.heap.size < w27.heap.size + 1 := (by omega); have hnw27_245_0 : ¬ (w23.heap.size = w27.heap.size) := (by omega); have hmw27_245_0 : ¬ (w27.heap.size = w23.heap.size) := (by omega); have hlw27_254_0 : w24.heap.size < w27.heap.size := (by omega); have hlw27_254_1 : w24.heap.size < w27.heap.size + 1 := (by omega); have hnw27_254_0 : ¬ (w24.heap.size = w27.heap.size) := (by omega); have hmw27_254_0 : ¬ (w27.heap.size = w24.heap.size) := (by omega); have hlw27_263_0 : w25.heap.size < w27.heap.size := (by omega); have hlw27_263_1 : w25.heap.size < w27.heap.size + 1 := (by omega); have hnw27_263_0 : ¬ (w25.heap.size = w27.heap.size) := (by omega); have hmw27_263_0 : ¬ (w27.heap.size = w25.heap.size) := (by omega); have hlw27_272_0 : w26.heap.size < w27.heap.size := (by omega); have hlw27_272_1 : w26.heap.size < w27.heap.size + 1 := (by omega); have hnw27_272_0 : ¬ (w26.heap.size = w27.heap.size) := (by omega); have hmw27_272_0 : ¬ (w27.heap.size = w26.heap.size) := (by omega)) | ((with_reducible refine gate_callee (f := 16) rfl ?_); refine goesL_ (some 46) rfl rfl Try.func16 (by kernel_rfl) rfl #[.slice Av21 t235.length cv21, .agg #[.int .i64 t273, .int .i64 t274, .int .i64 t275, .bool t276, .int .i64 t277, .bool t278, .int .i64 t279]] rfl (by (try simp only [List.map_toArray, List.map_cons, List.map_nil]); first | done | rfl | (simp only [List.length_drop, List.length_take]; rfl)) ?_; (with_reducible refine (saga_Next.calls k _ _ t235 t273 t274 t275 t276 t277 t278 t279 t282 t283 t284 true _ ?sd0 HCv21.out A8.out).mono ?_); (case sd0 => exact Kd.C_below HRv21.out (by repeat (first | (with_reducible first | exact HB_w20_w27.out | exact Below.refl _ _ | apply below_alloc | apply pw_below_drewN | apply below_drew1) | refine below_set ?_ (by first | omega | (simp; omega) | simp)))); rintro e w28 ⟨rfl, hb⟩; refine ⟨_, rfl, ?_⟩; have hsw28 : w27.heap.size + 1 ≤ w28.heap.size := (by have h_ := hb.size; simpa using h_); have HB_w28 : Aside0 (Below w.heap.size w w28) := Aside0.mk (below_step (by repeat (first | (with_reducible first | exact HB_w27.out | exact Below.refl _ _ | apply below_alloc | apply pw_below_drewN | apply below_drew1) | refine below_set ?_ (by first | omega | (simp; omega) | simp))) hb); have HB_w20_w28 : Aside0 (Below w20.heap.size w20 w28) := Aside0.mk (below_step (by repeat (first | (with_reducible first | exact HB_w20_w27.out | exact Below.refl _ _ | apply below_alloc | apply pw_below_drewN | apply below_drew1) | refine below_set ?_ (by first | omega | (simp; omega) | simp))) hb); have cw28_245 := fun o_ : Nat => hb.cell (p := ⟨w23.heap.size, o_, none⟩) (by first | omega | (simp; done) | (simp; omega)); have fw28_245 := fun o_ : Nat => hb.frozen (p := ⟨w23.heap.size, o_, none⟩) (by first | omega | (simp; done) | (simp; omega)); have cw28_254 := fun o_ : Nat => hb.cell (p := ⟨w24.heap.size, o_, none⟩) (by first | omega | (simp; done) | (simp; omega)); have fw28_254 := fun o_ : Nat => hb.frozen (p := ⟨w24.heap.size, o_, none⟩) (by first | omega | (simp; done) | (simp; omega)); have cw28_263 := fun o_ : Nat => hb.cell (p := ⟨w25.heap.size, o_, none⟩) (by first | omega | (simp; done) | (simp; omega)); have fw28_263 := fun o_ : Nat => hb.frozen (p := ⟨w25.heap.size, o_, none⟩) (by first | omega | (simp; done) | (simp; omega)); have cw28_272 := fun o_ : Nat => hb.cell (p := ⟨w26.heap.size, o_, none⟩) (by first | omega | (simp; done) | (simp; omega)); have fw28_272 := fun o_ : Nat => hb.frozen (p := ⟨w26.heap.size, o_, none⟩) (by first | omega | (simp; done) | (simp; omega)); have cw28_281 := fun o_ : Nat => hb.cell (p := ⟨w27.heap.size, o_, none⟩) (by first | omega | (simp; done) | (simp; omega)); have fw28_281 := fun o_ : Nat => hb.frozen (p := ⟨w27.heap.size, o_, none⟩) (by first | omega | (simp; done) | (simp; omega)); clear hb; have hlw28_245_0 : w23.heap.size < w28.heap.size := (by omega); have hlw28_245_1 : w23.heap.size < w28.heap.size + 1 := (by omega); have hnw28_245_0 : ¬ (w23.heap.size = w28.heap.size) := (by omega); have hmw28_245_0 : ¬ (w28.heap.size = w23.heap.size) := (by omega); have hlw28_254_0 : w24.heap.size < w28.heap.size := (by omega); have hlw28_254_1 : w24.heap.size < w28.heap.size + 1 := (by omega); have hnw28_254_0 : ¬ (w24.heap.size = w28.heap.size) := (by omega); have hmw28_254_0 : ¬ (w28.heap.size = w24.heap.size) := (by omega); have hlw28_263_0 : w25.heap.size < w28.heap.size := (by omega); have hlw28_263_1 : w25.heap.size < w28.heap.size + 1 := (by omega); have hnw28_263_0 : ¬ (w25.heap.size = w28.heap.size) := (by omega); have hmw28_263_0 : ¬ (w28.heap.size = w25.heap.size) := (by omega); have hlw28_272_0 : w26.heap.size < w28.heap.size := (by omega); have hlw28_272_1 : w26.heap.size < w28.heap.size + 1 := (by omega); have hnw28_272_0 : ¬ (w26.heap.size = w28.heap.size) := (by omega); have hmw28_272_0 : ¬ (w28.heap.size = w26.heap.size) := (by omega); have hlw28_281_0 : w27.heap.size < w28.heap.size := (by omega); have hlw28_281_1 : w27.heap.size < w28.heap.size + 1 := (by omega); have hnw28_281_0 : ¬ (w27.heap.size = w28.heap.size) := (by omega); have hmw28_281_0 : ¬ (w28.heap.size = w27.heap.size) := (by omega)) | ((with_reducible refine gate_callee (f := 14) rfl ?_); refine goesL_ (some 52) rfl rfl Try.func14 (by kernel_rfl) rfl #[.slice Av21 t235.length cv21, .agg #[.int .i64 t273, .int .i64 t274, .int .i64 t275, .bool t276, .int .i64 t277, .bool t278, .int .i64 t279]] rfl (by (try simp only [List.map_toArray, List.map_cons, List.map_nil]); first | done | rfl | (simp only [List.length_drop, List.length_take]; rfl)) ?_; (with_reducible refine (saga_Ask.calls k _ _ t235 t273 t274 t275 t276 t277 t278 t279 t287 t288 t289 t290 t291 t292 t293 t294 _ ?sd0 HCv21.out A9.out).mono ?_); (case sd0 => exact Kd.C_below HRv21.out (by repeat (first | (with_reducible first | exact HB_w20_w28.out | exact Below.refl _ _ | apply below_alloc | apply pw_below_drewN | apply below_drew1) | refine below_set ?_ (by first | omega | (simp; omega) | simp)))); rintro e w29 ⟨rfl, hb⟩; refine ⟨_, rfl, ?_⟩; have hsw29 : w28.heap.size + 1 ≤ w29.heap.size := (by have h_ := hb.size; simpa using h_); have HB_w29 : Aside0 (Below w.heap.size w w29) := Aside0.mk (below_step (by repeat (first | (with_reducible first | exact HB_w28.out | exact Below.refl _ _ | apply below_alloc | apply pw_below_drewN | apply below_drew1) | refine below_set ?_ (by first | omega | (simp; omega) | simp))) hb); have HB_w20_w29 : Aside0 (Below w20.heap.size w20 w29) := Aside0.mk (below_step (by repeat (first | (with_reducible first | exact HB_w20_w28.out | exact Below.refl _ _ | apply below_alloc | apply pw_below_drewN | apply below_drew1) | refine below_set ?_ (by first | omega | (simp; omega) | simp))) hb); have cw29_245 := fun o_ : Nat => hb.cell (p := ⟨w23.heap.size, o_, none⟩) (by first | omega | (simp; done) | (simp; omega)); have fw29_245 := fun o_ : Nat => hb.frozen (p := ⟨w23.heap.size, o_, none⟩) (by first | omega | (simp; done) | (simp; omega)); have cw29_254 := fun o_ : Nat => hb.cell (p := ⟨w24.heap.size, o_, none⟩) (by first | omega | (simp; done) | (simp; omega)); have fw29_254 := fun o_ : Nat => hb.frozen (p := ⟨w24.heap.size, o_, none⟩) (by first | omega | (simp; done) | (simp; omega)); have cw29_263 := fun o_ : Nat => hb.cell (p := ⟨w25.heap.size, o_, none⟩) (by first | omega | (simp; done) | (simp; omega)); have fw29_263 := fun o_ : Nat => hb.frozen (p := ⟨w25.heap.size, o_, none⟩) (by first | omega | (simp; done) | (simp; omega)); have cw29_272 := fun o_ : Nat => hb.cell (p := ⟨w26.heap.size, o_, none⟩) (by first | omega | (simp; done) | (simp; omega)); have fw29_272 := fun o_ : Nat => hb.frozen (p := ⟨w26.heap.size, o_, none⟩) (by first | omega | (simp; done) | (simp; omega)); have cw29_281 := fun o_ : Nat => hb.cell (p := ⟨w27.heap.size, o_, none⟩) (by first | omega | (simp; done) | (simp; omega)); have fw29_281 := fun o_ : Nat => hb.frozen (p := ⟨w27.heap.size, o_, none⟩) (by first | omega | (simp; done) | (simp; omega)); have cw29_286 := fun o_ : Nat => hb.cell (p := ⟨w28.heap.size, o_, none⟩) (by first | omega | (simp; done) | (simp; omega)); have fw29_286 := fun o_ : Nat => hb.frozen (p := ⟨w28.heap.size, o_, none⟩) (by first | omega | (simp; done) | (simp; omega)); clear hb; have hlw29_245_0 : w23.heap.size < w29.heap.size := (by omega); have hlw29_245_1 : w23.heap.size < w29.heap.size + 1 := (by omega); have hnw29_245_0 : ¬ (w23.heap.size = w29.heap.size) := (by omega); have hmw29_245_0 : ¬ (w29.heap.size = w23.heap.size) := (by omega); have hlw29_254_0 : w24.heap.size < w29.heap.size := (by omega); have hlw29_254_1 : w24.heap.size < w29.heap.size + 1 := (by omega); have hnw29_254_0 : ¬ (w24.heap.size = w29.heap.size) := (by omega); have hmw29_254_0 : ¬ (w29.heap.size = w24.heap.size) := (by omega); have hlw29_263_0 : w25.heap.size < w29.heap.size := (by omega); have hlw29_263_1 : w25.heap.size < w29.heap.size + 1 := (by omega); have hnw29_263_0 : ¬ (w25.heap.size = w29.heap.size) := (by omega); have hmw29_263_0 : ¬ (w29.heap.size = w25.heap.size) := (by omega); have hlw29_272_0 : w26.heap.size < w29.heap.size := (by omega); have hlw29_272_1 : w26.heap.size < w29.heap.size + 1 := (by omega); have hnw29_272_0 : ¬ (w26.heap.size = w29.heap.size) := (by omega); have hmw29_272_0 : ¬ (w29.heap.size = w26.heap.size) := (by omega); have hlw29_281_0 : w27.heap.size < w29.heap.size := (by omega); have hlw29_281_1 : w27.heap.size < w29.heap.size + 1 := (by omega); have hnw29_281_0 : ¬ (w27.heap.size = w29.heap.size) := (by omega); have hmw29_281_0 : ¬ (w29.heap.size = w27.heap.size) := (by omega); have hlw29_286_0 : w28.heap.size < w29.heap.size := (by omega); have hlw29_286_1 : w28.heap.size < w29.heap.size + 1 := (by omega); have hnw29_286_0 : ¬ (w28.heap.size = w29.heap.size) := (by omega); have hmw29_286_0 : ¬ (w29.heap.size = w28.heap.size) := (by omega)) | ((with_reducible refine gate_callee (f := 15) rfl ?_); refine goesL_ (some 58) rfl rfl Try.func15 (by kernel_rfl) rfl #[.slice Av21 t235.length cv21, .agg #[.int .i64 t287, .int .i64 t288, .int .i64 t289, .bool t290, .int .i64 t291, .bool t292, .int .i64 t293], .int .i64 0, .bool true, .int .i64 1] rfl (by (try simp only [List.map_toArray, List.map_cons, List.map_nil]); first | done | rfl | (simp only [List.length_drop, List.length_take]; rfl)) ?_; (with_reducible refine (saga_Tell.calls k _ _ t235 t287 t288 t289 t290 t291 t292 t293 0 true 1 t296 t297 t298 t299 t300 t301 t302 t303 _ ?sd0 HCv21.out A10.out).mono ?_); (case sd0 => exact Kd.C_below HRv21.out (by repeat (first | (with_reducible first | exact HB_w20_w29.out | exact Below.refl _ _ | apply below_alloc | apply pw_below_drewN | apply below_drew1) | refine below_set ?_ (by first | omega | (simp; omega) | simp)))); rintro e w30 ⟨rfl, hb⟩; refine ⟨_, rfl, ?_⟩; have hsw30 : w29.heap.size + 1 ≤ w30.heap.size := (by have h_ := hb.size; simpa using h_); have HB_w30 : Aside0 (Below w.heap.size w w30) := Aside0.mk (below_step (by repeat (first | (with_reducible first | exact HB_w29.out | exact Below.refl _ _ | apply below_alloc | apply pw_below_drewN | apply below_drew1) | refine below_set ?_ (by first | omega | (simp; omega) | simp))) hb); have HB_w20_w30 : Aside0 (Below w20.heap.size w20 w30) := Aside0.mk (below_step (by repeat (first | (with_reducible first | exact HB_w20_w29.out | exact Below.refl _ _ | apply below_alloc | apply pw_below_drewN | apply below_drew1) | refine below_set ?_ (by first | omega | (simp; omega) | simp))) hb); have cw30_245 := fun o_ : Nat => hb.cell (p := ⟨w23.heap.size, o_, none⟩) (by first | omega | (simp; done) | (simp; omega)); have fw30_245 := fun o_ : Nat => hb.frozen (p := ⟨w23.heap.size, o_, none⟩) (by first | omega | (simp; done) | (simp; omega)); have cw30_254 := fun o_ : Nat => hb.cell (p := ⟨w24.heap.size, o_, none⟩) (by first | omega | (simp; done) | (simp; omega)); have fw30_254 := fun o_ : Nat => hb.frozen (p := ⟨w24.heap.size, o_, none⟩) (by first | omega | (simp; done) | (simp; omega)); have cw30_263 := fun o_ : Nat => hb.cell (p := ⟨w25.heap.size, o_, none⟩) (by first | omega | (simp; done) | (simp; omega)); have fw30_263 := fun o_ : Nat => hb.frozen (p := ⟨w25.heap.size, o_, none⟩) (by first | omega | (simp; done) | (simp; omega)); have cw30_272 := fun o_ : Nat => hb.cell (p := ⟨w26.heap.size, o_, none⟩) (by first | omega | (simp; done) | (simp; omega)); have fw30_272 := fun o_ : Nat => hb.frozen (p := ⟨w26.heap.size, o_, none⟩) (by first | omega | (simp; done) | (simp; omega)); have cw30_281 := fun o_ : Nat => hb.cell (p := ⟨w27.heap.size, o_, none⟩) (by first | omega | (simp; done) | (simp; omega)); have fw30_281 := fun o_ : Nat => hb.frozen (p := ⟨w27.heap.size, o_, none⟩) (by first | omega | (simp; done) | (simp; omega)); have cw30_286 := fun o_ : Nat => hb.cell (p := ⟨w28.heap.size, o_, none⟩) (by first | omega | (simp; done) | (simp; omega)); have fw30_286 := fun o_ : Nat => hb.frozen (p := ⟨w28.heap.size, o_, none⟩) (by first | omega | (simp; done) | (simp; omega)); have cw30_295 := fun o_ : Nat => hb.cell (p := ⟨w29.heap.size, o_, none⟩) (by first | omega | (simp; done) | (simp; omega)); have fw30_295 := fun o_ : Nat => hb.frozen (p := ⟨w29.heap.size, o_, none⟩) (by first | omega | (simp; done) | (simp; omega)); clear hb; have hlw30_245_0 : w23.heap.size < w30.heap.size := (by omega); have hlw30_245_1 : w23.heap.size < w30.heap.size + 1 := (by omega); have hnw30_245_0 : ¬ (w23.heap.size = w30.heap.size) := (by omega); have hmw30_245_0 : ¬ (w30.heap.size = w23.heap.size) := (by omega); have hlw30_254_0 : w24.heap.size < w30.heap.size := (by omega); have hlw30_254_1 : w24.heap.size < w30.heap.size + 1 := (by omega); have hnw30_254_0 : ¬ (w24.heap.size = w30.heap.size) := (by omega); have hmw30_254_0 : ¬ (w30.heap.size = w24.heap.size) := (by omega); have hlw30_263_0 : w25.heap.size < w30.heap.size := (by omega); have hlw30_263_1 : w25.heap.size < w30.heap.size + 1 := (by omega); have hnw30_263_0 : ¬ (w25.heap.size = w30.heap.size) := (by omega); have hmw30_263_0 : ¬ (w30.heap.size = w25.heap.size) := (by omega); have hlw30_272_0 : w26.heap.size < w30.heap.size := (by omega); have hlw30_272_1 : w26.heap.size < w30.heap.size + 1 := (by omega); have hnw30_272_0 : ¬ (w26.heap.size = w30.heap.size) := (by omega); have hmw30_272_0 : ¬ (w30.heap.size = w26.heap.size) := (by omega); have hlw30_281_0 : w27.heap.size < w30.heap.size := (by omega); have hlw30_281_1 : w27.heap.size < w30.heap.size + 1 := (by omega); have hnw30_281_0 : ¬ (w27.heap.size = w30.heap.size) := (by omega); have hmw30_281_0 : ¬ (w30.heap.size = w27.heap.size) := (by omega); have hlw30_286_0 : w28.heap.size < w30.heap.size := (by omega); have hlw30_286_1 : w28.heap.size < w30.heap.size + 1 := (by omega); have hnw30_286_0 : ¬ (w28.heap.size = w30.heap.size) := (by omega); have hmw30_286_0 : ¬ (w30.heap.size = w28.heap.size) := (by omega); have hlw30_295_0 : w29.heap.size < w30.heap.size := (by omega); have hlw30_295_1 : w29.heap.size < w30.heap.size + 1 := (by omega); have hnw30_295_0 : ¬ (w29.heap.size = w30.heap.size) := (by omega); have hmw30_295_0 : ¬ (w30.heap.size = w29.heap.size) := (by omega)) | (go_at_call 24; (with_reducible refine (saga_Check.calls k _ _ t235 0 0 0 false 0 false 0 t305 _ ?sd0 HCv21.out A19.out).mono ?_); (case sd0 => exact Kd.C_below HRv21.out (by repeat (first | (with_reducible first | exact HB_w20_w30.out | exact Below.refl _ _ | apply below_alloc | apply pw_below_drewN | apply below_drew1) | refine below_set ?_ (by first | omega | (simp; omega) | simp)))); rintro e w31 ⟨rfl, hb⟩; have hsw31 : w30.heap.size + 1 ≤ w31.heap.size := (by have h_ := hb.size; simpa using h_); have HB_w31 : Aside0 (Below w.heap.size w w31) := Aside0.mk (below_step (by repeat (first | (with_reducible first | exact HB_w30.out | exact Below.refl _ _ | apply below_alloc | apply pw_below_drewN | apply below_drew1) | refine below_set ?_ (by first | omega | (simp; omega) | simp))) hb); have HB_w20_w31 : Aside0 (Below w20.heap.size w20 w31) := Aside0.mk (below_step (by repeat (first | (with_reducible first | exact HB_w20_w30.out | exact Below.refl _ _ | apply below_alloc | apply pw_below_drewN | apply below_drew1) | refine below_set ?_ (by first | omega | (simp; omega) | simp))) hb); have cw31_245 := fun o_ : Nat => hb.cell (p := ⟨w23.heap.size, o_, none⟩) (by first | omega | (simp; done) | (simp; omega)); have fw31_245 := fun o_ : Nat => hb.frozen (p := ⟨w23.heap.size, o_, none⟩) (by first | omega | (simp; done) | (simp; omega)); have cw31_254 := fun o_ : Nat => hb.cell (p := ⟨w24.heap.size, o_, none⟩) (by first | omega | (simp; done) | (simp; omega)); have fw31_254 := fun o_ : Nat => hb.frozen (p := ⟨w24.heap.size, o_, none⟩) (by first | omega | (simp; done) | (simp; omega)); have cw31_263 := fun o_ : Nat => hb.cell (p := ⟨w25.heap.size, o_, none⟩) (by first | omega | (simp; done) | (simp; omega)); have fw31_263 := fun o_ : Nat => hb.frozen (p := ⟨w25.heap.size, o_, none⟩) (by first | omega | (simp; done) | (simp; omega)); have cw31_272 := fun o_ : Nat => hb.cell (p := ⟨w26.heap.size, o_, none⟩) (by first | omega | (simp; done) | (simp; omega)); have fw31_272 := fun o_ : Nat => hb.frozen (p := ⟨w26.heap.size, o_, none⟩) (by first | omega | (simp; done) | (simp; omega)); have cw31_281 := fun o_ : Nat => hb.cell (p := ⟨w27.heap.size, o_, none⟩) (by first | omega | (simp; done) | (simp; omega)); have fw31_281 := fun o_ : Nat => hb.frozen (p := ⟨w27.heap.size, o_, none⟩) (by first | omega | (simp; done) | (simp; omega)); have cw31_286 := fun o_ : Nat => hb.cell (p := ⟨w28.heap.size, o_, none⟩) (by first | omega | (simp; done) | (simp; omega)); have fw31_286 := fun o_ : Nat => hb.frozen (p := ⟨w28.heap.size, o_, none⟩) (by first | omega | (simp; done) | (simp; omega)); have cw31_295 := fun o_ : Nat => hb.cell (p := ⟨w29.heap.size, o_, none⟩) (by first | omega | (simp; done) | (simp; omega)); have fw31_295 := fun o_ : Nat => hb.frozen (p := ⟨w29.heap.size, o_, none⟩) (by first | omega | (simp; done) | (simp; omega)); have cw31_304 := fun o_ : Nat => hb.cell (p := ⟨w30.heap.size, o_, none⟩) (by first | omega | (simp; done) | (simp; omega)); have fw31_304 := fun o_ : Nat => hb.frozen (p := ⟨w30.heap.size, o_, none⟩) (by first | omega | (simp; done) | (simp; omega)); clear hb; have hlw31_245_0 : w23.heap.size < w31.heap.size := (by omega); have hlw31_254_0 : w24.heap.size < w31.heap.size := (by omega); have hlw31_263_0 : w25.heap.size < w31.heap.size := (by omega); have hlw31_272_0 : w26.heap.size < w31.heap.size := (by omega); have hlw31_281_0 : w27.heap.size < w31.heap.size := (by omega); have hlw31_286_0 : w28.heap.size < w31.heap.size := (by omega); have hlw31_295_0 : w29.heap.size < w31.heap.size := (by omega); have hlw31_304_0 : w30.heap.size < w31.heap.size := (by omega)))
                  refine bodyPost_ret ?_ rfl ⟨rfl, ?_⟩
                  · simp [results, Try.results12, go_sem, cw24_245, fw24_245, hlw24_245_0, hlw24_245_1, hnw24_245_0, hmw24_245_0, cw25_245, fw25_245, cw25_254, fw25_254, hlw25_245_0, hlw25_245_1, hnw25_245_0, hmw25_245_0, hlw25_254_0, hlw25_254_1, hnw25_254_0, hmw25_254_0, cw26_245, fw26_245, cw26_254, fw26_254, cw26_263, fw26_263, hlw26_245_0, hlw26_245_1, hnw26_245_0, hmw26_245_0, hlw26_254_0, hlw26_254_1, hnw26_254_0, hmw26_254_0, hlw26_263_0, hlw26_263_1, hnw26_263_0, hmw26_263_0, cw27_245, fw27_245, cw27_254, fw27_254, cw27_263, fw27_263, cw27_272, fw27_272, hlw27_245_0, hlw27_245_1, hnw27_245_0, hmw27_245_0, hlw27_254_0, hlw27_254_1, hnw27_254_0, hmw27_254_0, hlw27_263_0, hlw27_263_1, hnw27_263_0, hmw27_263_0, hlw27_272_0, hlw27_272_1, hnw27_272_0, hmw27_272_0, cw28_245, fw28_245, cw28_254, fw28_254, cw28_263, fw28_263, cw28_272, fw28_272, cw28_281, fw28_281, hlw28_245_0, hlw28_245_1, hnw28_245_0, hmw28_245_0, hlw28_254_0, hlw28_254_1, hnw28_254_0, hmw28_254_0, hlw28_263_0, hlw28_263_1, hnw28_263_0, hmw28_263_0, hlw28_272_0, hlw28_272_1, hnw28_272_0, hmw28_272_0, hlw28_281_0, hlw28_281_1, hnw28_281_0, hmw28_281_0, cw29_245, fw29_245, cw29_254, fw29_254, cw29_263, fw29_263, cw29_272, fw29_272, cw29_281, fw29_281, cw29_286, fw29_286, hlw29_245_0, hlw29_245_1, hnw29_245_0, hmw29_245_0, hlw29_254_0, hlw29_254_1, hnw29_254_0, hmw29_254_0, hlw29_263_0, hlw29_263_1, hnw29_263_0, hmw29_263_0, hlw29_272_0, hlw29_272_1, hnw29_272_0, hmw29_272_0, hlw29_281_0, hlw29_281_1, hnw29_281_0, hmw29_281_0, hlw29_286_0, hlw29_286_1, hnw29_286_0, hmw29_286_0, cw30_245, fw30_245, cw30_254, fw30_254, cw30_263, fw30_263, cw30_272, fw30_272, cw30_281, fw30_281, cw30_286, fw30_286, cw30_295, fw30_295, hlw30_245_0, hlw30_245_1, hnw30_245_0, hmw30_245_0, hlw30_254_0, hlw30_254_1, hnw30_254_0, hmw30_254_0, hlw30_263_0, hlw30_263_1, hnw30_263_0, hmw30_263_0, hlw30_272_0, hlw30_272_1, hnw30_272_0, hmw30_272_0, hlw30_281_0, hlw30_281_1, hnw30_281_0, hmw30_281_0, hlw30_286_0, hlw30_286_1, hnw30_286_0, hmw30_286_0, hlw30_295_0, hlw30_295_1, hnw30_295_0, hmw30_295_0, cw31_245, fw31_245, cw31_254, fw31_254, cw31_263, fw31_263, cw31_272, fw31_272, cw31_281, fw31_281, cw31_286, fw31_286, cw31_295, fw31_295, cw31_304, fw31_304, hlw31_245_0, hlw31_254_0, hlw31_263_0, hlw31_272_0, hlw31_281_0, hlw31_286_0, hlw31_295_0, hlw31_304_0]
                  · exact (by repeat (first | (with_reducible first | exact HB_w31.out | exact Below.refl _ _ | apply below_alloc | apply pw_below_drewN | apply below_drew1) | refine below_set ?_ (by first | omega | (simp; omega) | simp)))
                · rw [if_neg c18] at H
                  exact absurd H (by simp)
              · rw [if_neg c17] at H
                exact absurd H (by simp)
            · rw [if_neg c16] at H
              exact absurd H (by simp)
          · rw [if_neg c15] at H
            exact absurd H (by simp)
        · rw [if_neg c14] at H
          exact absurd H (by simp)
      · rw [if_neg c13] at H
        exact absurd H (by simp)
    · rw [if_neg c12] at H
      exact absurd H (by simp)
  · rw [if_neg c11] at H
    exact absurd H (by simp)

end Go.Proofs.Yteefdhgfcnjpoaa.PA
