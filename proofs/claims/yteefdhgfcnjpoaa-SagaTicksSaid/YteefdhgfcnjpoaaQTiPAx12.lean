-- printed by a program of this work (wip/tools/pr.py over the kit's print): the machine's side of SagaTries, SagaMoves, SagaStays, SagaOrder, SagaEnds, SagaTicks
import Derived.Test.YteefdhgfcnjpoaaQTiPAx0
import Derived.Test.YteefdhgfcnjpoaaQTiPAx11
namespace Go.Proofs.Yteefdhgfcnjpoaa.PA
open Go.RowKit Go.Proofs.YteefdhgfcnjpoaaW.PrintWords Go.Proofs.YteefdhgfcnjpoaaW.PrintLast Go.Proofs.YteefdhgfcnjpoaaW.PrintMore
attribute [local go_sem] max2_int min2_int max_two min_two max_three min_three max_four min_four   -- for this text's walks alone
set_option linter.unusedVariables false
set_option linter.unusedSimpArgs false

/-! ### drayageref14_Ask: function 18 -/
def drayageref14_Ask.f (k : Nat) (l0 : List (S38)) (a1_0 : Int) (a1_1 : Int) (a1_2 : Int) (a1_3 : Bool) (a1_4 : Int) (a1_5 : Bool) (a1_6 : Int) : Option (Int × Int × Int × Bool × Int × Bool × Int × Int) := (drayageref14_Check.f k l0 a1_0 a1_1 a1_2 a1_3 a1_4 a1_5 a1_6).bind fun t382 => (if t382 = 0 then (if a1_0 = 3 then (some (0, 0, 0, false, 0, false, 0, 2)) else (if a1_3 = true then (some (0, 0, 0, false, 0, false, 0, 2)) else (if 0 ≤ a1_1 then (if a1_1 < (l0.length : Int) then (some (a1_0, a1_1, wrap64 (a1_2 + 1), true, (rd_T38 l0 a1_1).f2, a1_5, a1_6, 0)) else (none)) else (none)))) else (some (0, 0, 0, false, 0, false, 0, t382)))

attribute [local go_sem] cell_alloc_lt2 cell_set_ne2

/-! ### drayageref14_back: function 33 -/
def drayageref14_back.l0 : Nat → List (S38) → Int → Int → Int → Option (Int × Int × Int × Bool × Int × Bool × Int)
  | 0, _, _, _, _ => none
  | k + 1, x0, x1, x5, x6 => if x6 < (x0.length : Int) then (if x6 ≤ x1 then (if 0 ≤ x6 then (if (rd_T38 x0 x6).f3 = true then (drayageref14_back.l0 k x0 x1 x6 (wrap64 (x6 + 1))) else (drayageref14_back.l0 k x0 x1 x5 (wrap64 (x6 + 1)))) else (none)) else (drayageref14_back.l0 k x0 x1 x5 (wrap64 (x6 + 1)))) else (if x5 < 0 then (some (3, 0, 0, false, 0, false, 2)) else (some (2, x5, 0, false, 0, false, 0)))
def drayageref14_back.f (k : Nat) (l0 : List (S38)) (a1 : Int) : Option (Int × Int × Int × Bool × Int × Bool × Int) := drayageref14_back.l0 k l0 a1 (-1) 0
theorem drayageref14_back.mono_l : ∀ k, (∀ y0 y1 y2 y3, LeO (drayageref14_back.l0 k y0 y1 y2 y3) (drayageref14_back.l0 (k + 1) y0 y1 y2 y3))
  | 0 => fun _ _ _ _ r h => by simp [drayageref14_back.l0] at h
  | k + 1 => by
    have ih0 := drayageref14_back.mono_l k
    · intro y0 y1 y2 y3
      unfold drayageref14_back.l0
      repeat' first
      | (with_reducible exact ih0 _ _ _ _)
      | (with_reducible exact LeO.refl _)
      | (with_reducible exact LeO.none _)
      | (with_reducible refine LeO.ite ?_ ?_)
      | (with_reducible refine LeO.bind ?_ (fun _ => ?_))
      | exact ih0 _ _ _ _
      | exact LeO.none _
      | refine LeO.ite ?_ ?_
      | refine LeO.bind ?_ (fun _ => ?_)
theorem drayageref14_back.mono : ∀ a0 a1 k, LeO (drayageref14_back.f k a0 a1) (drayageref14_back.f (k + 1) a0 a1) := by
  intro a0 a1 k
  have ih0 := drayageref14_back.mono_l k
  unfold drayageref14_back.f
  repeat' first
      | (with_reducible exact ih0 _ _ _ _)
      | (with_reducible exact LeO.refl _)
      | (with_reducible exact LeO.none _)
      | (with_reducible refine LeO.ite ?_ ?_)
      | (with_reducible refine LeO.bind ?_ (fun _ => ?_))
      | exact ih0 _ _ _ _
      | exact LeO.none _
      | refine LeO.ite ?_ ?_
      | refine LeO.bind ?_ (fun _ => ?_)
attribute [local go_sem] cell_alloc_lt2 cell_set_ne2
set_option maxHeartbeats 8000000 in
set_option maxRecDepth 100000 in
theorem drayageref14_back.calls (k : Nat) (A0 : Option Addr) (c0 : Nat) (l0 : List (S38)) (a1 : Int) (r1 : Int) (r2 : Int) (r3 : Int) (r4 : Bool) (r5 : Int) (r6 : Bool) (r7 : Int) (w : World) (hr0 : Kd.C k38 w A0 l0.length l0) (hc0 : l0.length ≤ c0) (h : drayageref14_back.f k l0 a1 = some (r1, r2, r3, r4, r5, r6, r7)) :
    Calls Try.prog 33 #[.slice A0 l0.length c0, .int .i64 a1] w fun e w' => e = .returned (.agg #[.int .i64 r1, .int .i64 r2, .int .i64 r3, .bool r4, .int .i64 r5, .bool r6, .int .i64 r7]) ∧ Below w.heap.size w w' := by
  have hu28 := Try.underlying28
  have HR0 := Aside0.mk hr0
  have HC0 := Aside0.mk hc0
  clear hr0 hc0
  have HB := Aside0.mk (Below.refl w.heap.size w)
  have H := h
  clear h
  unfold drayageref14_back.f at H
  have HC3 := Aside0.mk H
  clear H
  go_enter Try.func33, Try.ntmps33
  go_wp2
  go_loopg [5, 6] k (fun kq v5 v6 wq2 => ∃ (x5_2 : Int) (x6_2 : Int), v5 = .int .i64 x5_2 ∧ v6 = .int .i64 x6_2 ∧ Aside0 (drayageref14_back.l0 kq l0 a1 x5_2 x6_2 = some (r1, r2, r3, r4, r5, r6, r7)) ∧ Aside0 (kq ≤ k) ∧ Aside0 (BX wq2 (w.heap.size) [.int .i64 0, .int .i64 0, .int .i64 0, .bool false, .int .i64 0, .bool false, .int .i64 0]) ∧ Aside0 (Below w.heap.size w wq2))
  case atStart => exact ⟨((-1)), (0), (by first | rfl | (simp; done) | (simp [*]; done)), (by first | rfl | (simp; done) | (simp [*]; done)), HC3, ⟨Nat.le_refl _⟩, ⟨BX.mk7 (by go_simp) (by go_simp) (by go_simp) (by go_simp) (by go_simp) (by go_simp) (by go_simp) (by go_simp) (by go_simp) (by go_simp) (by go_simp) (by go_simp) (by go_simp) (by go_simp) (by first | omega | (simp; done) | (simp; omega))⟩, ⟨(by repeat (first | (with_reducible first | exact Below.refl _ _ | apply below_alloc | apply pw_below_drewN | apply below_drew1) | refine below_set ?_ (by first | omega | (simp; omega) | simp)))⟩⟩
  case round =>
    rename World => wr2
    clear HC3
    obtain ⟨x5_2, x6_2, rfl, rfl, HA, HJ2, BX384_2, HB_2⟩ := hrel
    have hs2 : w.heap.size ≤ wr2.heap.size := HB_2.out.size
    obtain ⟨hz384_2_0, hz384_2_1, hz384_2_2, hz384_2_3, hz384_2_4, hz384_2_5, hz384_2_6, hf384_2_0, hf384_2_1, hf384_2_2, hf384_2_3, hf384_2_4, hf384_2_5, hf384_2_6, hlt384_2⟩ := BX384_2.out.out7
    cases gk with
    | zero => exact absurd HA.out (by simp [drayageref14_back.l0])
    | succ k2 =>
      have H := HA.out
      clear HA
      simp only [drayageref14_back.l0] at H
      by_cases c5 : x6_2 < (l0.length : Int)
      · rw [if_pos c5] at H
        have c5b0 : decide (x6_2 < (l0.length : Int)) = true := decide_eq_true c5
        clear c5
        by_cases c6 : x6_2 ≤ a1
        · rw [if_pos c6] at H
          have c6b0 : decide (x6_2 ≤ a1) = true := decide_eq_true c6
          clear c6
          by_cases c7 : 0 ≤ x6_2
          · rw [if_pos c7] at H
            have c7b0 : decide (0 ≤ x6_2) = true := decide_eq_true c7
            clear c7
            by_cases c8 : (rd_T38 l0 x6_2).f3 = true
            · rw [if_pos c8] at H
              have c8b0 : (rd_T38 l0 x6_2).f3 = true := c8
              clear c8
              have H' := Aside0.mk H
              clear H
              have hlwr2_384_0 : w.heap.size < wr2.heap.size := (by omega)
              have p385 : 0 ≤ (x6_2 : Int) := of_decide_eq_true (by first | (with_reducible assumption) | assumption)
              have q385 : x6_2 < (l0.length : Int) := of_decide_eq_true (by first | (with_reducible assumption) | assumption)
              obtain ⟨ad385, A385_2, c385_2, e385, hx385_0, hx385_1, hx385_2, hx385_3, hx385_4, hx385_5, hl385_2, hg385_2⟩ := at_T38 (Kd.C_below HR0.out HB_2.out) (x6_2) p385 q385
              cases e385
              have HG385_2 := Aside0.mk hg385_2
              clear hg385_2
              have HL385_2 := Aside0.mk hl385_2
              clear hl385_2
              have hw385 := cell_lt2 hx385_0
              have hbk385 := C_blk HR0.out (by omega) (by decide)
              have hne385_384 : ¬ ((ad385.add (x6_2.toNat * 6)).block = w.heap.size) := (by rw [add_block]; omega)
              have hnf385_384 : ¬ (w.heap.size = (ad385.add (x6_2.toNat * 6)).block) := (by rw [add_block]; omega)
              replace p385 := eq_true p385
              replace q385 := eq_true q385
              go_wp2
              go_roundg k2
              case measure => have := HJ2.out; omega
              case rel => exact ⟨(x6_2), (wrap64 (x6_2 + 1)), (by first | rfl | (simp; done) | (simp [*]; done)), (by first | rfl | (simp; done) | (simp [*]; done)), H', ⟨by have := HJ2.out; omega⟩, ⟨BX.mk7 (by go_simp) (by go_simp) (by go_simp) (by go_simp) (by go_simp) (by go_simp) (by go_simp) (by go_simp) (by go_simp) (by go_simp) (by go_simp) (by go_simp) (by go_simp) (by go_simp) (by first | omega | (simp; done) | (simp; omega))⟩, ⟨(by repeat (first | (with_reducible first | exact HB_2.out | exact Below.refl _ _ | apply below_alloc | apply pw_below_drewN | apply below_drew1) | refine below_set ?_ (by first | omega | (simp; omega) | simp)))⟩⟩
            · rw [if_neg c8] at H
              have c8b0 : (rd_T38 l0 x6_2).f3 = false := by simpa using c8
              clear c8
              have H' := Aside0.mk H
              clear H
              have hlwr2_384_0 : w.heap.size < wr2.heap.size := (by omega)
              have p385 : 0 ≤ (x6_2 : Int) := of_decide_eq_true (by first | (with_reducible assumption) | assumption)
              have q385 : x6_2 < (l0.length : Int) := of_decide_eq_true (by first | (with_reducible assumption) | assumption)
              obtain ⟨ad385, A385_2, c385_2, e385, hx385_0, hx385_1, hx385_2, hx385_3, hx385_4, hx385_5, hl385_2, hg385_2⟩ := at_T38 (Kd.C_below HR0.out HB_2.out) (x6_2) p385 q385
              cases e385
              have HG385_2 := Aside0.mk hg385_2
              clear hg385_2
              have HL385_2 := Aside0.mk hl385_2
              clear hl385_2
              have hw385 := cell_lt2 hx385_0
              have hbk385 := C_blk HR0.out (by omega) (by decide)
              have hne385_384 : ¬ ((ad385.add (x6_2.toNat * 6)).block = w.heap.size) := (by rw [add_block]; omega)
              have hnf385_384 : ¬ (w.heap.size = (ad385.add (x6_2.toNat * 6)).block) := (by rw [add_block]; omega)
              replace p385 := eq_true p385
              replace q385 := eq_true q385
              go_wp2
              go_roundg k2
              case measure => have := HJ2.out; omega
              case rel => exact ⟨(x5_2), (wrap64 (x6_2 + 1)), (by first | rfl | (simp; done) | (simp [*]; done)), (by first | rfl | (simp; done) | (simp [*]; done)), H', ⟨by have := HJ2.out; omega⟩, ⟨BX.mk7 (by go_simp) (by go_simp) (by go_simp) (by go_simp) (by go_simp) (by go_simp) (by go_simp) (by go_simp) (by go_simp) (by go_simp) (by go_simp) (by go_simp) (by go_simp) (by go_simp) (by first | omega | (simp; done) | (simp; omega))⟩, ⟨(by repeat (first | (with_reducible first | exact HB_2.out | exact Below.refl _ _ | apply below_alloc | apply pw_below_drewN | apply below_drew1) | refine below_set ?_ (by first | omega | (simp; omega) | simp)))⟩⟩
          · rw [if_neg c7] at H
            exact absurd H (by simp)
        · rw [if_neg c6] at H
          have c6b0 : decide (x6_2 ≤ a1) = false := decide_eq_false c6
          clear c6
          have H' := Aside0.mk H
          clear H
          have hlwr2_384_0 : w.heap.size < wr2.heap.size := (by omega)
          go_wp2
          go_roundg k2
          case measure => have := HJ2.out; omega
          case rel => exact ⟨(x5_2), (wrap64 (x6_2 + 1)), (by first | rfl | (simp; done) | (simp [*]; done)), (by first | rfl | (simp; done) | (simp [*]; done)), H', ⟨by have := HJ2.out; omega⟩, ⟨BX.mk7 (by go_simp) (by go_simp) (by go_simp) (by go_simp) (by go_simp) (by go_simp) (by go_simp) (by go_simp) (by go_simp) (by go_simp) (by go_simp) (by go_simp) (by go_simp) (by go_simp) (by first | omega | (simp; done) | (simp; omega))⟩, ⟨(by repeat (first | (with_reducible first | exact HB_2.out | exact Below.refl _ _ | apply below_alloc | apply pw_below_drewN | apply below_drew1) | refine below_set ?_ (by first | omega | (simp; omega) | simp)))⟩⟩
      · rw [if_neg c5] at H
        have c5b0 : decide (x6_2 < (l0.length : Int)) = false := decide_eq_false c5
        clear c5
        by_cases c9 : x5_2 < 0
        · rw [if_pos c9] at H
          have c9b0 : decide (x5_2 < 0) = true := decide_eq_true c9
          clear c9
          simp only [Option.some.injEq, Prod.mk.injEq] at H
          obtain ⟨rfl, rfl, rfl, rfl, rfl, rfl, rfl⟩ := H
          have hlwr2_384_0 : w.heap.size < wr2.heap.size := (by omega)
          go_wp2
          refine bodyPost_ret ?_ rfl ⟨rfl, ?_⟩
          · simp [results, Try.results33, go_sem, hz384_2_0, hz384_2_1, hz384_2_2, hz384_2_3, hz384_2_4, hz384_2_5, hz384_2_6, hf384_2_0, hf384_2_1, hf384_2_2, hf384_2_3, hf384_2_4, hf384_2_5, hf384_2_6, hlwr2_384_0]
          · exact (by repeat (first | (with_reducible first | exact HB_2.out | exact Below.refl _ _ | apply below_alloc | apply pw_below_drewN | apply below_drew1) | refine below_set ?_ (by first | omega | (simp; omega) | simp)))
        · rw [if_neg c9] at H
          have c9b0 : decide (x5_2 < 0) = false := decide_eq_false c9
          clear c9
          simp only [Option.some.injEq, Prod.mk.injEq] at H
          obtain ⟨rfl, rfl, rfl, rfl, rfl, rfl, rfl⟩ := H
          have hlwr2_384_0 : w.heap.size < wr2.heap.size := (by omega)
          go_wp2
          refine bodyPost_ret ?_ rfl ⟨rfl, ?_⟩
          · simp [results, Try.results33, go_sem, hz384_2_0, hz384_2_1, hz384_2_2, hz384_2_3, hz384_2_4, hz384_2_5, hz384_2_6, hf384_2_0, hf384_2_1, hf384_2_2, hf384_2_3, hf384_2_4, hf384_2_5, hf384_2_6, hlwr2_384_0]
          · exact (by repeat (first | (with_reducible first | exact HB_2.out | exact Below.refl _ _ | apply below_alloc | apply pw_below_drewN | apply below_drew1) | refine below_set ?_ (by first | omega | (simp; omega) | simp)))

end Go.Proofs.Yteefdhgfcnjpoaa.PA
