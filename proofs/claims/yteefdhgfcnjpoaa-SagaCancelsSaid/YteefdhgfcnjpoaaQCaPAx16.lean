-- printed by a program of this work (wip/tools/pr.py over the kit's print): the machine's side of SagaTries, SagaMoves, SagaStays, SagaOrder, SagaEnds, SagaTicks
import Derived.Test.YteefdhgfcnjpoaaQCaPAx0
import Derived.Test.YteefdhgfcnjpoaaQCaPAx8
import Derived.Test.YteefdhgfcnjpoaaQCaPAx9
import Derived.Test.YteefdhgfcnjpoaaQCaPAx13
import Derived.Test.YteefdhgfcnjpoaaQCaPAx14
namespace Go.Proofs.Yteefdhgfcnjpoaa.PA
open Go.RowKit Go.Proofs.YteefdhgfcnjpoaaW.PrintWords Go.Proofs.YteefdhgfcnjpoaaW.PrintLast Go.Proofs.YteefdhgfcnjpoaaW.PrintMore
attribute [local go_sem] max2_int min2_int max_two min_two max_three min_three max_four min_four   -- for this text's walks alone
set_option linter.unusedVariables false
set_option linter.unusedSimpArgs false

/-! ### drayagelaw14_happens: function 26 -/
mutual
def drayagelaw14_happens.j0 : Nat → List (S38) → Int → Int → Bool → Int → Int → Int → Bool → Int → Bool → Int → Int → Int → Int → Option (Int × Int × Int × Bool × Int × Bool × Int × Bool)
  | 0, _, _, _, _, _, _, _, _, _, _, _, _, _, _ => none
  | k + 1, x0, x8, x21, x38, x571000, x571001, x571002, x571003, x571004, x571005, x571006, x572000, x572001, x572002 => if x38 = true then ((saga_Next.f k x0 x571000 x571001 x571002 x571003 x571004 x571005 x571006).bind fun bt574 => (if bt574.2.2.2 = true then ((saga_Ask.f k x0 x571000 x571001 x571002 x571003 x571004 x571005 x571006).bind fun bt579 => (some (bt579.1, bt579.2.1, bt579.2.2.1, bt579.2.2.2.1, bt579.2.2.2.2.1, bt579.2.2.2.2.2.1, bt579.2.2.2.2.2.2.1, (bt579.2.2.2.2.2.2.2 == 0)))) else (some (x571000, x571001, x571002, x571003, x571004, x571005, x571006, true)))) else (if x21 = 2 then (drayagelaw14_happens.j1 k x0 x8 x21 (x21 == 2) x571000 x571001 x571002 x571003 x571004 x571005 x571006 x572000 x572001 x572002) else (if x21 = 3 then (drayagelaw14_happens.j1 k x0 x8 x21 (x21 == 3) x571000 x571001 x571002 x571003 x571004 x571005 x571006 x572000 x572001 x572002) else (drayagelaw14_happens.j1 k x0 x8 x21 (x21 == 4) x571000 x571001 x571002 x571003 x571004 x571005 x571006 x572000 x572001 x572002)))
def drayagelaw14_happens.j1 : Nat → List (S38) → Int → Int → Bool → Int → Int → Int → Bool → Int → Bool → Int → Int → Int → Int → Option (Int × Int × Int × Bool × Int × Bool × Int × Bool)
  | 0, _, _, _, _, _, _, _, _, _, _, _, _, _, _ => none
  | k + 1, x0, x8, x21, x56, x571000, x571001, x571002, x571003, x571004, x571005, x571006, x572000, x572001, x572002 => if x56 = true then ((saga_Tell.f k x0 x571000 x571001 x571002 x571003 x571004 x571005 x571006 x571001 (x571000 == 2) x8).bind fun bt587 => (some (bt587.1, bt587.2.1, bt587.2.2.1, bt587.2.2.2.1, bt587.2.2.2.2.1, bt587.2.2.2.2.2.1, bt587.2.2.2.2.2.2.1, (bt587.2.2.2.2.2.2.2 == 0)))) else (if x21 = 5 then ((saga_Tick.f k x0 x571000 x571001 x571002 x571003 x571004 x571005 x571006).bind fun bt595 => (some (bt595.1, bt595.2.1, bt595.2.2.1, bt595.2.2.2.1, bt595.2.2.2.2.1, bt595.2.2.2.2.2.1, bt595.2.2.2.2.2.2.1, (bt595.2.2.2.2.2.2.2 == 0)))) else (if x21 = 6 then ((saga_Cancel.f k x0 x571000 x571001 x571002 x571003 x571004 x571005 x571006).bind fun bt603 => (some (bt603.1, bt603.2.1, bt603.2.2.1, bt603.2.2.2.1, bt603.2.2.2.2.1, bt603.2.2.2.2.2.1, bt603.2.2.2.2.2.2.1, (bt603.2.2.2.2.2.2.2 == 0)))) else ((saga_Tell.f k x0 x571000 x571001 x571002 x571003 x571004 x571005 x571006 (wrap64 (Int.tmod (IntKind.u64.wrap (x572001)) 16)) ((Int.tmod x572001 2) == 0) x8).bind fun bt611 => (some (bt611.1, bt611.2.1, bt611.2.2.1, bt611.2.2.2.1, bt611.2.2.2.2.1, bt611.2.2.2.2.2.1, bt611.2.2.2.2.2.2.1, (bt611.2.2.2.2.2.2.2 == 0))))))
end
def drayagelaw14_happens.f (k : Nat) (l0 : List (S38)) (a1_0 : Int) (a1_1 : Int) (a1_2 : Int) (a1_3 : Bool) (a1_4 : Int) (a1_5 : Bool) (a1_6 : Int) (a2_0 : Int) (a2_1 : Int) (a2_2 : Int) : Option (Int × Int × Int × Bool × Int × Bool × Int × Bool) := if a2_0 = 0 then (drayagelaw14_happens.j0 k l0 (wrap64 (1 + (wrap64 (Int.tmod (IntKind.u64.wrap (a2_2)) 3)))) a2_0 (a2_0 == 0) a1_0 a1_1 a1_2 a1_3 a1_4 a1_5 a1_6 a2_0 a2_1 a2_2) else (drayagelaw14_happens.j0 k l0 (wrap64 (1 + (wrap64 (Int.tmod (IntKind.u64.wrap (a2_2)) 3)))) a2_0 (a2_0 == 1) a1_0 a1_1 a1_2 a1_3 a1_4 a1_5 a1_6 a2_0 a2_1 a2_2)

attribute [local go_sem] cell_alloc_lt2 cell_set_ne2
set_option maxHeartbeats 8000000 in
set_option maxRecDepth 100000 in
theorem drayagelaw14_happens.calls (k : Nat) (A0 : Option Addr) (c0 : Nat) (l0 : List (S38)) (a1_0 : Int) (a1_1 : Int) (a1_2 : Int) (a1_3 : Bool) (a1_4 : Int) (a1_5 : Bool) (a1_6 : Int) (a2_0 : Int) (a2_1 : Int) (a2_2 : Int) (r1 : Int) (r2 : Int) (r3 : Int) (r4 : Bool) (r5 : Int) (r6 : Bool) (r7 : Int) (r8 : Bool) (w : World) (hr0 : Kd.C k38 w A0 l0.length l0) (hc0 : l0.length ≤ c0) (h : drayagelaw14_happens.f k l0 a1_0 a1_1 a1_2 a1_3 a1_4 a1_5 a1_6 a2_0 a2_1 a2_2 = some (r1, r2, r3, r4, r5, r6, r7, r8)) :
    Calls Try.prog 26 #[.slice A0 l0.length c0, .agg #[.int .i64 a1_0, .int .i64 a1_1, .int .i64 a1_2, .bool a1_3, .int .i64 a1_4, .bool a1_5, .int .i64 a1_6], .agg #[.int .i64 a2_0, .int .i64 a2_1, .int .i64 a2_2]] w fun e w' => e = .returned (.tuple #[.agg #[.int .i64 r1, .int .i64 r2, .int .i64 r3, .bool r4, .int .i64 r5, .bool r6, .int .i64 r7], .bool r8]) ∧ Below w.heap.size w w' := by
  have hu28 := Try.underlying28
  have hu54 := Try.underlying54
  have hu41 := Try.underlying41
  have HR0 := Aside0.mk hr0
  have HC0 := Aside0.mk hc0
  clear hr0 hc0
  have HB := Aside0.mk (Below.refl w.heap.size w)
  have H := h
  clear h
  unfold drayagelaw14_happens.f at H
  have HC3 := Aside0.mk H
  clear H
  go_enter Try.func26, Try.ntmps26
  go_upto_if 38 with (fail)
  go_cut [38] (fun v38 wq2 => ∃ (kq : Nat) (x38_2 : Bool), v38 = .bool x38_2 ∧ Aside0 (drayagelaw14_happens.j0 kq l0 (wrap64 (1 + (wrap64 (Int.tmod (IntKind.u64.wrap (a2_2)) 3)))) a2_0 x38_2 a1_0 a1_1 a1_2 a1_3 a1_4 a1_5 a1_6 a2_0 a2_1 a2_2 = some (r1, r2, r3, r4, r5, r6, r7, r8)) ∧ Aside0 (kq ≤ k) ∧ Aside0 (BX wq2 (w.heap.size) [.int .i64 a1_0, .int .i64 a1_1, .int .i64 a1_2, .bool a1_3, .int .i64 a1_4, .bool a1_5, .int .i64 a1_6]) ∧ Aside0 (BX wq2 (w.heap.size + 1) [.int .i64 a2_0, .int .i64 a2_1, .int .i64 a2_2]) ∧ Aside0 (BX wq2 (w.heap.size + 2) [.int .i64 0, .int .i64 0, .int .i64 0, .bool false, .int .i64 0, .bool false, .int .i64 0]) ∧ Aside0 (BX wq2 (w.heap.size + 3) [.int .i64 a1_0, .int .i64 a1_1, .int .i64 a1_2, .bool a1_3, .int .i64 a1_4, .bool a1_5, .int .i64 a1_6]) ∧ Aside0 (Below w.heap.size w wq2))
  case first =>
    have H := HC3.out
    clear HC3
    by_cases c4 : a2_0 = 0
    · rw [if_pos c4] at H
      have c4b0 : (a2_0 == 0) = true := beq_iff_eq.mpr c4
      have c4b1 : (a2_0 != 0) = false := bne_eq_false_iff_eq.mpr c4
      clear c4
      have H' := Aside0.mk H
      clear H
      go_wp2
      go_meet
      case rel => exact ⟨_, ((a2_0 == 0)), (by first | rfl | (simp; done) | (simp [*]; done)), H', ⟨by first | omega | exact Nat.le_refl _⟩, ⟨BX.mk7 (by go_simp) (by go_simp) (by go_simp) (by go_simp) (by go_simp) (by go_simp) (by go_simp) (by go_simp) (by go_simp) (by go_simp) (by go_simp) (by go_simp) (by go_simp) (by go_simp) (by first | omega | (simp; done) | (simp; omega))⟩, ⟨BX.mk3 (by go_simp) (by go_simp) (by go_simp) (by go_simp) (by go_simp) (by go_simp) (by first | omega | (simp; done) | (simp; omega))⟩, ⟨BX.mk7 (by go_simp) (by go_simp) (by go_simp) (by go_simp) (by go_simp) (by go_simp) (by go_simp) (by go_simp) (by go_simp) (by go_simp) (by go_simp) (by go_simp) (by go_simp) (by go_simp) (by first | omega | (simp; done) | (simp; omega))⟩, ⟨BX.mk7 (by go_simp) (by go_simp) (by go_simp) (by go_simp) (by go_simp) (by go_simp) (by go_simp) (by go_simp) (by go_simp) (by go_simp) (by go_simp) (by go_simp) (by go_simp) (by go_simp) (by first | omega | (simp; done) | (simp; omega))⟩, ⟨(by repeat (first | (with_reducible first | exact Below.refl _ _ | apply below_alloc | apply pw_below_drewN | apply below_drew1) | refine below_set ?_ (by first | omega | (simp; omega) | simp)))⟩⟩
    · rw [if_neg c4] at H
      have c4b0 : (a2_0 == 0) = false := beq_eq_false_iff_ne.mpr c4
      have c4b1 : (a2_0 != 0) = true := bne_iff_ne.mpr c4
      clear c4
      have H' := Aside0.mk H
      clear H
      go_wp2
      go_meet
      case rel => exact ⟨_, ((a2_0 == 1)), (by first | rfl | (simp; done) | (simp [*]; done)), H', ⟨by first | omega | exact Nat.le_refl _⟩, ⟨BX.mk7 (by go_simp) (by go_simp) (by go_simp) (by go_simp) (by go_simp) (by go_simp) (by go_simp) (by go_simp) (by go_simp) (by go_simp) (by go_simp) (by go_simp) (by go_simp) (by go_simp) (by first | omega | (simp; done) | (simp; omega))⟩, ⟨BX.mk3 (by go_simp) (by go_simp) (by go_simp) (by go_simp) (by go_simp) (by go_simp) (by first | omega | (simp; done) | (simp; omega))⟩, ⟨BX.mk7 (by go_simp) (by go_simp) (by go_simp) (by go_simp) (by go_simp) (by go_simp) (by go_simp) (by go_simp) (by go_simp) (by go_simp) (by go_simp) (by go_simp) (by go_simp) (by go_simp) (by first | omega | (simp; done) | (simp; omega))⟩, ⟨BX.mk7 (by go_simp) (by go_simp) (by go_simp) (by go_simp) (by go_simp) (by go_simp) (by go_simp) (by go_simp) (by go_simp) (by go_simp) (by go_simp) (by go_simp) (by go_simp) (by go_simp) (by first | omega | (simp; done) | (simp; omega))⟩, ⟨(by repeat (first | (with_reducible first | exact Below.refl _ _ | apply below_alloc | apply pw_below_drewN | apply below_drew1) | refine below_set ?_ (by first | omega | (simp; omega) | simp)))⟩⟩
  case rest =>
    rename World => wc2
    clear HC3
    obtain ⟨kq, x38_2, rfl, HA, HJ2, BX570_2, BX571_2, BX572_2, BX573_2, HB_2⟩ := hcut
    have hs2 : w.heap.size ≤ wc2.heap.size := HB_2.out.size
    obtain ⟨hz570_2_0, hz570_2_1, hz570_2_2, hz570_2_3, hz570_2_4, hz570_2_5, hz570_2_6, hf570_2_0, hf570_2_1, hf570_2_2, hf570_2_3, hf570_2_4, hf570_2_5, hf570_2_6, hlt570_2⟩ := BX570_2.out.out7
    obtain ⟨hz571_2_0, hz571_2_1, hz571_2_2, hf571_2_0, hf571_2_1, hf571_2_2, hlt571_2⟩ := BX571_2.out.out3
    obtain ⟨hz572_2_0, hz572_2_1, hz572_2_2, hz572_2_3, hz572_2_4, hz572_2_5, hz572_2_6, hf572_2_0, hf572_2_1, hf572_2_2, hf572_2_3, hf572_2_4, hf572_2_5, hf572_2_6, hlt572_2⟩ := BX572_2.out.out7
    obtain ⟨hz573_2_0, hz573_2_1, hz573_2_2, hz573_2_3, hz573_2_4, hz573_2_5, hz573_2_6, hf573_2_0, hf573_2_1, hf573_2_2, hf573_2_3, hf573_2_4, hf573_2_5, hf573_2_6, hlt573_2⟩ := BX573_2.out.out7
    cases kq with
    | zero => exact absurd HA.out (by simp [drayagelaw14_happens.j0])
    | succ k2 =>
      have H := HA.out
      clear HA
      simp only [drayagelaw14_happens.j0] at H
      by_cases c6 : x38_2 = true
      · subst c6
        rw [if_pos rfl] at H
        obtain ⟨⟨t574, t575, t576, t577⟩, A_, H⟩ := Option.bind_eq_some_iff.mp H
        try dsimp only at H
        have A7 := Aside0.mk A_
        clear A_
        by_cases c8 : t577 = true
        · subst c8
          rw [if_pos rfl] at H
          obtain ⟨⟨t579, t580, t581, t582, t583, t584, t585, t586⟩, A_, H⟩ := Option.bind_eq_some_iff.mp H
          try dsimp only at H
          have A9 := Aside0.mk A_
          clear A_
          simp only [Option.some.injEq, Prod.mk.injEq] at H
          obtain ⟨rfl, rfl, rfl, rfl, rfl, rfl, rfl, rfl⟩ := H
          have hlwc2_570_0 : w.heap.size < wc2.heap.size := (by omega)
          have hlwc2_571_0 : w.heap.size + 1 < wc2.heap.size := (by omega)
          have hlwc2_572_0 : w.heap.size + 2 < wc2.heap.size := (by omega)
          have hlwc2_573_0 : w.heap.size + 3 < wc2.heap.size := (by omega)
          go_wp2_with (first | ((with_reducible refine gate_callee (f := 16) rfl ?_); refine goesL_ (some 44) rfl rfl Try.func16 (by kernel_rfl) rfl #[.slice A0 l0.length c0, .agg #[.int .i64 a1_0, .int .i64 a1_1, .int .i64 a1_2, .bool a1_3, .int .i64 a1_4, .bool a1_5, .int .i64 a1_6]] rfl (by (try simp only [List.map_toArray, List.map_cons, List.map_nil]); first | done | rfl | (simp only [List.length_drop, List.length_take]; rfl)) ?_; (with_reducible refine (saga_Next.calls k2 _ _ l0 a1_0 a1_1 a1_2 a1_3 a1_4 a1_5 a1_6 t574 t575 t576 true _ ?sd0 HC0.out A7.out).mono ?_); (case sd0 => exact Kd.C_below HR0.out (by repeat (first | (with_reducible first | exact HB_2.out | exact Below.refl _ _ | apply below_alloc | apply pw_below_drewN | apply below_drew1) | refine below_set ?_ (by first | omega | (simp; omega) | simp)))); rintro e w10 ⟨rfl, hb⟩; refine ⟨_, rfl, ?_⟩; have hsw10 : wc2.heap.size ≤ w10.heap.size := (by have h_ := hb.size; simpa using h_); have HB_w10 : Aside0 (Below w.heap.size w w10) := Aside0.mk (below_step (by repeat (first | (with_reducible first | exact HB_2.out | exact Below.refl _ _ | apply below_alloc | apply pw_below_drewN | apply below_drew1) | refine below_set ?_ (by first | omega | (simp; omega) | simp))) hb); have cw10_570 := fun o_ : Nat => hb.cell (p := ⟨w.heap.size, o_, none⟩) (by first | omega | (simp; done) | (simp; omega)); have fw10_570 := fun o_ : Nat => hb.frozen (p := ⟨w.heap.size, o_, none⟩) (by first | omega | (simp; done) | (simp; omega)); have cw10_571 := fun o_ : Nat => hb.cell (p := ⟨w.heap.size + 1, o_, none⟩) (by first | omega | (simp; done) | (simp; omega)); have fw10_571 := fun o_ : Nat => hb.frozen (p := ⟨w.heap.size + 1, o_, none⟩) (by first | omega | (simp; done) | (simp; omega)); have cw10_572 := fun o_ : Nat => hb.cell (p := ⟨w.heap.size + 2, o_, none⟩) (by first | omega | (simp; done) | (simp; omega)); have fw10_572 := fun o_ : Nat => hb.frozen (p := ⟨w.heap.size + 2, o_, none⟩) (by first | omega | (simp; done) | (simp; omega)); have cw10_573 := fun o_ : Nat => hb.cell (p := ⟨w.heap.size + 3, o_, none⟩) (by first | omega | (simp; done) | (simp; omega)); have fw10_573 := fun o_ : Nat => hb.frozen (p := ⟨w.heap.size + 3, o_, none⟩) (by first | omega | (simp; done) | (simp; omega)); clear hb; have hlw10_570_0 : w.heap.size < w10.heap.size := (by omega); have hlw10_570_1 : w.heap.size < w10.heap.size + 1 := (by omega); have hnw10_570_0 : ¬ (w.heap.size = w10.heap.size) := (by omega); have hmw10_570_0 : ¬ (w10.heap.size = w.heap.size) := (by omega); have hlw10_571_0 : w.heap.size + 1 < w10.heap.size := (by omega); have hlw10_571_1 : w.heap.size + 1 < w10.heap.size + 1 := (by omega); have hnw10_571_0 : ¬ (w.heap.size + 1 = w10.heap.size) := (by omega); have hmw10_571_0 : ¬ (w10.heap.size = w.heap.size + 1) := (by omega); have hlw10_572_0 : w.heap.size + 2 < w10.heap.size := (by omega); have hlw10_572_1 : w.heap.size + 2 < w10.heap.size + 1 := (by omega); have hnw10_572_0 : ¬ (w.heap.size + 2 = w10.heap.size) := (by omega); have hmw10_572_0 : ¬ (w10.heap.size = w.heap.size + 2) := (by omega); have hlw10_573_0 : w.heap.size + 3 < w10.heap.size := (by omega); have hlw10_573_1 : w.heap.size + 3 < w10.heap.size + 1 := (by omega); have hnw10_573_0 : ¬ (w.heap.size + 3 = w10.heap.size) := (by omega); have hmw10_573_0 : ¬ (w10.heap.size = w.heap.size + 3) := (by omega)) | ((with_reducible refine gate_callee (f := 14) rfl ?_); refine goesL_ (some 53) rfl rfl Try.func14 (by kernel_rfl) rfl #[.slice A0 l0.length c0, .agg #[.int .i64 a1_0, .int .i64 a1_1, .int .i64 a1_2, .bool a1_3, .int .i64 a1_4, .bool a1_5, .int .i64 a1_6]] rfl (by (try simp only [List.map_toArray, List.map_cons, List.map_nil]); first | done | rfl | (simp only [List.length_drop, List.length_take]; rfl)) ?_; (with_reducible refine (saga_Ask.calls k2 _ _ l0 a1_0 a1_1 a1_2 a1_3 a1_4 a1_5 a1_6 t579 t580 t581 t582 t583 t584 t585 t586 _ ?sd0 HC0.out A9.out).mono ?_); (case sd0 => exact Kd.C_below HR0.out (by repeat (first | (with_reducible first | exact HB_w10.out | exact Below.refl _ _ | apply below_alloc | apply pw_below_drewN | apply below_drew1) | refine below_set ?_ (by first | omega | (simp; omega) | simp)))); rintro e w11 ⟨rfl, hb⟩; refine ⟨_, rfl, ?_⟩; have hsw11 : w10.heap.size + 1 ≤ w11.heap.size := (by have h_ := hb.size; simpa using h_); have HB_w11 : Aside0 (Below w.heap.size w w11) := Aside0.mk (below_step (by repeat (first | (with_reducible first | exact HB_w10.out | exact Below.refl _ _ | apply below_alloc | apply pw_below_drewN | apply below_drew1) | refine below_set ?_ (by first | omega | (simp; omega) | simp))) hb); have cw11_570 := fun o_ : Nat => hb.cell (p := ⟨w.heap.size, o_, none⟩) (by first | omega | (simp; done) | (simp; omega)); have fw11_570 := fun o_ : Nat => hb.frozen (p := ⟨w.heap.size, o_, none⟩) (by first | omega | (simp; done) | (simp; omega)); have cw11_571 := fun o_ : Nat => hb.cell (p := ⟨w.heap.size + 1, o_, none⟩) (by first | omega | (simp; done) | (simp; omega)); have fw11_571 := fun o_ : Nat => hb.frozen (p := ⟨w.heap.size + 1, o_, none⟩) (by first | omega | (simp; done) | (simp; omega)); have cw11_572 := fun o_ : Nat => hb.cell (p := ⟨w.heap.size + 2, o_, none⟩) (by first | omega | (simp; done) | (simp; omega)); have fw11_572 := fun o_ : Nat => hb.frozen (p := ⟨w.heap.size + 2, o_, none⟩) (by first | omega | (simp; done) | (simp; omega)); have cw11_573 := fun o_ : Nat => hb.cell (p := ⟨w.heap.size + 3, o_, none⟩) (by first | omega | (simp; done) | (simp; omega)); have fw11_573 := fun o_ : Nat => hb.frozen (p := ⟨w.heap.size + 3, o_, none⟩) (by first | omega | (simp; done) | (simp; omega)); have cw11_578 := fun o_ : Nat => hb.cell (p := ⟨w10.heap.size, o_, none⟩) (by first | omega | (simp; done) | (simp; omega)); have fw11_578 := fun o_ : Nat => hb.frozen (p := ⟨w10.heap.size, o_, none⟩) (by first | omega | (simp; done) | (simp; omega)); clear hb; have hlw11_570_0 : w.heap.size < w11.heap.size := (by omega); have hlw11_571_0 : w.heap.size + 1 < w11.heap.size := (by omega); have hlw11_572_0 : w.heap.size + 2 < w11.heap.size := (by omega); have hlw11_573_0 : w.heap.size + 3 < w11.heap.size := (by omega); have hlw11_578_0 : w10.heap.size < w11.heap.size := (by omega)))
          refine bodyPost_ret ?_ rfl ⟨rfl, ?_⟩
          · simp [results, Try.results26, go_sem, hz570_2_0, hz570_2_1, hz570_2_2, hz570_2_3, hz570_2_4, hz570_2_5, hz570_2_6, hf570_2_0, hf570_2_1, hf570_2_2, hf570_2_3, hf570_2_4, hf570_2_5, hf570_2_6, hz571_2_0, hz571_2_1, hz571_2_2, hf571_2_0, hf571_2_1, hf571_2_2, hz572_2_0, hz572_2_1, hz572_2_2, hz572_2_3, hz572_2_4, hz572_2_5, hz572_2_6, hf572_2_0, hf572_2_1, hf572_2_2, hf572_2_3, hf572_2_4, hf572_2_5, hf572_2_6, hz573_2_0, hz573_2_1, hz573_2_2, hz573_2_3, hz573_2_4, hz573_2_5, hz573_2_6, hf573_2_0, hf573_2_1, hf573_2_2, hf573_2_3, hf573_2_4, hf573_2_5, hf573_2_6, hlwc2_570_0, hlwc2_571_0, hlwc2_572_0, hlwc2_573_0, cw10_570, fw10_570, cw10_571, fw10_571, cw10_572, fw10_572, cw10_573, fw10_573, hlw10_570_0, hlw10_570_1, hnw10_570_0, hmw10_570_0, hlw10_571_0, hlw10_571_1, hnw10_571_0, hmw10_571_0, hlw10_572_0, hlw10_572_1, hnw10_572_0, hmw10_572_0, hlw10_573_0, hlw10_573_1, hnw10_573_0, hmw10_573_0, cw11_570, fw11_570, cw11_571, fw11_571, cw11_572, fw11_572, cw11_573, fw11_573, cw11_578, fw11_578, hlw11_570_0, hlw11_571_0, hlw11_572_0, hlw11_573_0, hlw11_578_0]
          · exact (by repeat (first | (with_reducible first | exact HB_w11.out | exact Below.refl _ _ | apply below_alloc | apply pw_below_drewN | apply below_drew1) | refine below_set ?_ (by first | omega | (simp; omega) | simp)))
        · replace c8 := Bool.eq_false_iff.mpr c8; subst c8
          rw [if_neg (by decide)] at H
          simp only [Option.some.injEq, Prod.mk.injEq] at H
          obtain ⟨rfl, rfl, rfl, rfl, rfl, rfl, rfl, rfl⟩ := H
          have hlwc2_570_0 : w.heap.size < wc2.heap.size := (by omega)
          have hlwc2_571_0 : w.heap.size + 1 < wc2.heap.size := (by omega)
          have hlwc2_572_0 : w.heap.size + 2 < wc2.heap.size := (by omega)
          have hlwc2_573_0 : w.heap.size + 3 < wc2.heap.size := (by omega)
          go_wp2_with (first | ((with_reducible refine gate_callee (f := 16) rfl ?_); refine goesL_ (some 44) rfl rfl Try.func16 (by kernel_rfl) rfl #[.slice A0 l0.length c0, .agg #[.int .i64 a1_0, .int .i64 a1_1, .int .i64 a1_2, .bool a1_3, .int .i64 a1_4, .bool a1_5, .int .i64 a1_6]] rfl (by (try simp only [List.map_toArray, List.map_cons, List.map_nil]); first | done | rfl | (simp only [List.length_drop, List.length_take]; rfl)) ?_; (with_reducible refine (saga_Next.calls k2 _ _ l0 a1_0 a1_1 a1_2 a1_3 a1_4 a1_5 a1_6 t574 t575 t576 false _ ?sd0 HC0.out A7.out).mono ?_); (case sd0 => exact Kd.C_below HR0.out (by repeat (first | (with_reducible first | exact HB_2.out | exact Below.refl _ _ | apply below_alloc | apply pw_below_drewN | apply below_drew1) | refine below_set ?_ (by first | omega | (simp; omega) | simp)))); rintro e w12 ⟨rfl, hb⟩; refine ⟨_, rfl, ?_⟩; have hsw12 : wc2.heap.size ≤ w12.heap.size := (by have h_ := hb.size; simpa using h_); have HB_w12 : Aside0 (Below w.heap.size w w12) := Aside0.mk (below_step (by repeat (first | (with_reducible first | exact HB_2.out | exact Below.refl _ _ | apply below_alloc | apply pw_below_drewN | apply below_drew1) | refine below_set ?_ (by first | omega | (simp; omega) | simp))) hb); have cw12_570 := fun o_ : Nat => hb.cell (p := ⟨w.heap.size, o_, none⟩) (by first | omega | (simp; done) | (simp; omega)); have fw12_570 := fun o_ : Nat => hb.frozen (p := ⟨w.heap.size, o_, none⟩) (by first | omega | (simp; done) | (simp; omega)); have cw12_571 := fun o_ : Nat => hb.cell (p := ⟨w.heap.size + 1, o_, none⟩) (by first | omega | (simp; done) | (simp; omega)); have fw12_571 := fun o_ : Nat => hb.frozen (p := ⟨w.heap.size + 1, o_, none⟩) (by first | omega | (simp; done) | (simp; omega)); have cw12_572 := fun o_ : Nat => hb.cell (p := ⟨w.heap.size + 2, o_, none⟩) (by first | omega | (simp; done) | (simp; omega)); have fw12_572 := fun o_ : Nat => hb.frozen (p := ⟨w.heap.size + 2, o_, none⟩) (by first | omega | (simp; done) | (simp; omega)); have cw12_573 := fun o_ : Nat => hb.cell (p := ⟨w.heap.size + 3, o_, none⟩) (by first | omega | (simp; done) | (simp; omega)); have fw12_573 := fun o_ : Nat => hb.frozen (p := ⟨w.heap.size + 3, o_, none⟩) (by first | omega | (simp; done) | (simp; omega)); clear hb; have hlw12_570_0 : w.heap.size < w12.heap.size := (by omega); have hlw12_570_1 : w.heap.size < w12.heap.size + 1 := (by omega); have hnw12_570_0 : ¬ (w.heap.size = w12.heap.size) := (by omega); have hmw12_570_0 : ¬ (w12.heap.size = w.heap.size) := (by omega); have hlw12_571_0 : w.heap.size + 1 < w12.heap.size := (by omega); have hlw12_571_1 : w.heap.size + 1 < w12.heap.size + 1 := (by omega); have hnw12_571_0 : ¬ (w.heap.size + 1 = w12.heap.size) := (by omega); have hmw12_571_0 : ¬ (w12.heap.size = w.heap.size + 1) := (by omega); have hlw12_572_0 : w.heap.size + 2 < w12.heap.size := (by omega); have hlw12_572_1 : w.heap.size + 2 < w12.heap.size + 1 := (by omega); have hnw12_572_0 : ¬ (w.heap.size + 2 = w12.heap.size) := (by omega); have hmw12_572_0 : ¬ (w12.heap.size = w.heap.size + 2) := (by omega); have hlw12_573_0 : w.heap.size + 3 < w12.heap.size := (by omega); have hlw12_573_1 : w.heap.size + 3 < w12.heap.size + 1 := (by omega); have hnw12_573_0 : ¬ (w.heap.size + 3 = w12.heap.size) := (by omega); have hmw12_573_0 : ¬ (w12.heap.size = w.heap.size + 3) := (by omega)))
          refine bodyPost_ret ?_ rfl ⟨rfl, ?_⟩
          · simp [results, Try.results26, go_sem, hz570_2_0, hz570_2_1, hz570_2_2, hz570_2_3, hz570_2_4, hz570_2_5, hz570_2_6, hf570_2_0, hf570_2_1, hf570_2_2, hf570_2_3, hf570_2_4, hf570_2_5, hf570_2_6, hz571_2_0, hz571_2_1, hz571_2_2, hf571_2_0, hf571_2_1, hf571_2_2, hz572_2_0, hz572_2_1, hz572_2_2, hz572_2_3, hz572_2_4, hz572_2_5, hz572_2_6, hf572_2_0, hf572_2_1, hf572_2_2, hf572_2_3, hf572_2_4, hf572_2_5, hf572_2_6, hz573_2_0, hz573_2_1, hz573_2_2, hz573_2_3, hz573_2_4, hz573_2_5, hz573_2_6, hf573_2_0, hf573_2_1, hf573_2_2, hf573_2_3, hf573_2_4, hf573_2_5, hf573_2_6, hlwc2_570_0, hlwc2_571_0, hlwc2_572_0, hlwc2_573_0, cw12_570, fw12_570, cw12_571, fw12_571, cw12_572, fw12_572, cw12_573, fw12_573, hlw12_570_0, hlw12_570_1, hnw12_570_0, hmw12_570_0, hlw12_571_0, hlw12_571_1, hnw12_571_0, hmw12_571_0, hlw12_572_0, hlw12_572_1, hnw12_572_0, hmw12_572_0, hlw12_573_0, hlw12_573_1, hnw12_573_0, hmw12_573_0]
          · exact (by repeat (first | (with_reducible first | exact HB_w12.out | exact Below.refl _ _ | apply below_alloc | apply pw_below_drewN | apply below_drew1) | refine below_set ?_ (by first | omega | (simp; omega) | simp)))
      · replace c6 := Bool.eq_false_iff.mpr c6; subst c6
        rw [if_neg (by decide)] at H
        have HC14 := Aside0.mk H
        clear H
        have hlwc2_570_0 : w.heap.size < wc2.heap.size := (by omega)
        have hlwc2_571_0 : w.heap.size + 1 < wc2.heap.size := (by omega)
        have hlwc2_572_0 : w.heap.size + 2 < wc2.heap.size := (by omega)
        have hlwc2_573_0 : w.heap.size + 3 < wc2.heap.size := (by omega)
        go_upto_if 56 with (fail)
        go_cut [56] (fun v56 wq13 => ∃ (kq : Nat) (x56_13 : Bool), v56 = .bool x56_13 ∧ Aside0 (drayagelaw14_happens.j1 kq l0 (wrap64 (1 + (wrap64 (Int.tmod (IntKind.u64.wrap (a2_2)) 3)))) a2_0 x56_13 a1_0 a1_1 a1_2 a1_3 a1_4 a1_5 a1_6 a2_0 a2_1 a2_2 = some (r1, r2, r3, r4, r5, r6, r7, r8)) ∧ Aside0 (kq ≤ k2) ∧ Aside0 (BX wq13 (w.heap.size) [.int .i64 a1_0, .int .i64 a1_1, .int .i64 a1_2, .bool a1_3, .int .i64 a1_4, .bool a1_5, .int .i64 a1_6]) ∧ Aside0 (BX wq13 (w.heap.size + 1) [.int .i64 a2_0, .int .i64 a2_1, .int .i64 a2_2]) ∧ Aside0 (BX wq13 (w.heap.size + 2) [.int .i64 0, .int .i64 0, .int .i64 0, .bool false, .int .i64 0, .bool false, .int .i64 0]) ∧ Aside0 (BX wq13 (w.heap.size + 3) [.int .i64 a1_0, .int .i64 a1_1, .int .i64 a1_2, .bool a1_3, .int .i64 a1_4, .bool a1_5, .int .i64 a1_6]) ∧ Aside0 (Below w.heap.size w wq13))
        case first =>
          have H := HC14.out
          clear HC14
          by_cases c15 : a2_0 = 2
          · rw [if_pos c15] at H
            have c15b0 : (a2_0 == 2) = true := beq_iff_eq.mpr c15
            have c15b1 : (a2_0 != 2) = false := bne_eq_false_iff_eq.mpr c15
            clear c15
            have H' := Aside0.mk H
            clear H
            have hlwc2_570_0 : w.heap.size < wc2.heap.size := (by omega)
            have hlwc2_571_0 : w.heap.size + 1 < wc2.heap.size := (by omega)
            have hlwc2_572_0 : w.heap.size + 2 < wc2.heap.size := (by omega)
            have hlwc2_573_0 : w.heap.size + 3 < wc2.heap.size := (by omega)
            go_wp2
            go_meet
            case rel => exact ⟨_, ((a2_0 == 2)), (by first | rfl | (simp; done) | (simp [*]; done)), H', ⟨by have := HJ2.out; first | omega | exact Nat.le_refl _⟩, ⟨BX.mk7 (by go_simp) (by go_simp) (by go_simp) (by go_simp) (by go_simp) (by go_simp) (by go_simp) (by go_simp) (by go_simp) (by go_simp) (by go_simp) (by go_simp) (by go_simp) (by go_simp) (by first | omega | (simp; done) | (simp; omega))⟩, ⟨BX.mk3 (by go_simp) (by go_simp) (by go_simp) (by go_simp) (by go_simp) (by go_simp) (by first | omega | (simp; done) | (simp; omega))⟩, ⟨BX.mk7 (by go_simp) (by go_simp) (by go_simp) (by go_simp) (by go_simp) (by go_simp) (by go_simp) (by go_simp) (by go_simp) (by go_simp) (by go_simp) (by go_simp) (by go_simp) (by go_simp) (by first | omega | (simp; done) | (simp; omega))⟩, ⟨BX.mk7 (by go_simp) (by go_simp) (by go_simp) (by go_simp) (by go_simp) (by go_simp) (by go_simp) (by go_simp) (by go_simp) (by go_simp) (by go_simp) (by go_simp) (by go_simp) (by go_simp) (by first | omega | (simp; done) | (simp; omega))⟩, ⟨(by repeat (first | (with_reducible first | exact HB_2.out | exact Below.refl _ _ | apply below_alloc | apply pw_below_drewN | apply below_drew1) | refine below_set ?_ (by first | omega | (simp; omega) | simp)))⟩⟩
          · rw [if_neg c15] at H
            have c15b0 : (a2_0 == 2) = false := beq_eq_false_iff_ne.mpr c15
            have c15b1 : (a2_0 != 2) = true := bne_iff_ne.mpr c15
            clear c15
            by_cases c16 : a2_0 = 3
            · rw [if_pos c16] at H
              have c16b0 : (a2_0 == 3) = true := beq_iff_eq.mpr c16
              have c16b1 : (a2_0 != 3) = false := bne_eq_false_iff_eq.mpr c16
              clear c16
              have H' := Aside0.mk H
              clear H
              have hlwc2_570_0 : w.heap.size < wc2.heap.size := (by omega)
              have hlwc2_571_0 : w.heap.size + 1 < wc2.heap.size := (by omega)
              have hlwc2_572_0 : w.heap.size + 2 < wc2.heap.size := (by omega)
              have hlwc2_573_0 : w.heap.size + 3 < wc2.heap.size := (by omega)
              go_wp2
              go_meet
              case rel => exact ⟨_, ((a2_0 == 3)), (by first | rfl | (simp; done) | (simp [*]; done)), H', ⟨by have := HJ2.out; first | omega | exact Nat.le_refl _⟩, ⟨BX.mk7 (by go_simp) (by go_simp) (by go_simp) (by go_simp) (by go_simp) (by go_simp) (by go_simp) (by go_simp) (by go_simp) (by go_simp) (by go_simp) (by go_simp) (by go_simp) (by go_simp) (by first | omega | (simp; done) | (simp; omega))⟩, ⟨BX.mk3 (by go_simp) (by go_simp) (by go_simp) (by go_simp) (by go_simp) (by go_simp) (by first | omega | (simp; done) | (simp; omega))⟩, ⟨BX.mk7 (by go_simp) (by go_simp) (by go_simp) (by go_simp) (by go_simp) (by go_simp) (by go_simp) (by go_simp) (by go_simp) (by go_simp) (by go_simp) (by go_simp) (by go_simp) (by go_simp) (by first | omega | (simp; done) | (simp; omega))⟩, ⟨BX.mk7 (by go_simp) (by go_simp) (by go_simp) (by go_simp) (by go_simp) (by go_simp) (by go_simp) (by go_simp) (by go_simp) (by go_simp) (by go_simp) (by go_simp) (by go_simp) (by go_simp) (by first | omega | (simp; done) | (simp; omega))⟩, ⟨(by repeat (first | (with_reducible first | exact HB_2.out | exact Below.refl _ _ | apply below_alloc | apply pw_below_drewN | apply below_drew1) | refine below_set ?_ (by first | omega | (simp; omega) | simp)))⟩⟩
            · rw [if_neg c16] at H
              have c16b0 : (a2_0 == 3) = false := beq_eq_false_iff_ne.mpr c16
              have c16b1 : (a2_0 != 3) = true := bne_iff_ne.mpr c16
              clear c16
              have H' := Aside0.mk H
              clear H
              have hlwc2_570_0 : w.heap.size < wc2.heap.size := (by omega)
              have hlwc2_571_0 : w.heap.size + 1 < wc2.heap.size := (by omega)
              have hlwc2_572_0 : w.heap.size + 2 < wc2.heap.size := (by omega)
              have hlwc2_573_0 : w.heap.size + 3 < wc2.heap.size := (by omega)
              go_wp2
              go_meet
              case rel => exact ⟨_, ((a2_0 == 4)), (by first | rfl | (simp; done) | (simp [*]; done)), H', ⟨by have := HJ2.out; first | omega | exact Nat.le_refl _⟩, ⟨BX.mk7 (by go_simp) (by go_simp) (by go_simp) (by go_simp) (by go_simp) (by go_simp) (by go_simp) (by go_simp) (by go_simp) (by go_simp) (by go_simp) (by go_simp) (by go_simp) (by go_simp) (by first | omega | (simp; done) | (simp; omega))⟩, ⟨BX.mk3 (by go_simp) (by go_simp) (by go_simp) (by go_simp) (by go_simp) (by go_simp) (by first | omega | (simp; done) | (simp; omega))⟩, ⟨BX.mk7 (by go_simp) (by go_simp) (by go_simp) (by go_simp) (by go_simp) (by go_simp) (by go_simp) (by go_simp) (by go_simp) (by go_simp) (by go_simp) (by go_simp) (by go_simp) (by go_simp) (by first | omega | (simp; done) | (simp; omega))⟩, ⟨BX.mk7 (by go_simp) (by go_simp) (by go_simp) (by go_simp) (by go_simp) (by go_simp) (by go_simp) (by go_simp) (by go_simp) (by go_simp) (by go_simp) (by go_simp) (by go_simp) (by go_simp) (by first | omega | (simp; done) | (simp; omega))⟩, ⟨(by repeat (first | (with_reducible first | exact HB_2.out | exact Below.refl _ _ | apply below_alloc | apply pw_below_drewN | apply below_drew1) | refine below_set ?_ (by first | omega | (simp; omega) | simp)))⟩⟩
        case rest =>
          rename World => wc13
          clear HC14
          obtain ⟨kq, x56_13, rfl, HA, HJ13, BX570_13, BX571_13, BX572_13, BX573_13, HB_13⟩ := hcut
          have hs13 : w.heap.size ≤ wc13.heap.size := HB_13.out.size
          obtain ⟨hz570_13_0, hz570_13_1, hz570_13_2, hz570_13_3, hz570_13_4, hz570_13_5, hz570_13_6, hf570_13_0, hf570_13_1, hf570_13_2, hf570_13_3, hf570_13_4, hf570_13_5, hf570_13_6, hlt570_13⟩ := BX570_13.out.out7
          obtain ⟨hz571_13_0, hz571_13_1, hz571_13_2, hf571_13_0, hf571_13_1, hf571_13_2, hlt571_13⟩ := BX571_13.out.out3
          obtain ⟨hz572_13_0, hz572_13_1, hz572_13_2, hz572_13_3, hz572_13_4, hz572_13_5, hz572_13_6, hf572_13_0, hf572_13_1, hf572_13_2, hf572_13_3, hf572_13_4, hf572_13_5, hf572_13_6, hlt572_13⟩ := BX572_13.out.out7
          obtain ⟨hz573_13_0, hz573_13_1, hz573_13_2, hz573_13_3, hz573_13_4, hz573_13_5, hz573_13_6, hf573_13_0, hf573_13_1, hf573_13_2, hf573_13_3, hf573_13_4, hf573_13_5, hf573_13_6, hlt573_13⟩ := BX573_13.out.out7
          cases kq with
          | zero => exact absurd HA.out (by simp [drayagelaw14_happens.j1])
          | succ k13 =>
            have H := HA.out
            clear HA
            simp only [drayagelaw14_happens.j1] at H
            by_cases c18 : x56_13 = true
            · subst c18
              rw [if_pos rfl] at H
              obtain ⟨⟨t587, t588, t589, t590, t591, t592, t593, t594⟩, A_, H⟩ := Option.bind_eq_some_iff.mp H
              try dsimp only at H
              have A19 := Aside0.mk A_
              clear A_
              simp only [Option.some.injEq, Prod.mk.injEq] at H
              obtain ⟨rfl, rfl, rfl, rfl, rfl, rfl, rfl, rfl⟩ := H
              have hlwc13_570_0 : w.heap.size < wc13.heap.size := (by omega)
              have hlwc13_571_0 : w.heap.size + 1 < wc13.heap.size := (by omega)
              have hlwc13_572_0 : w.heap.size + 2 < wc13.heap.size := (by omega)
              have hlwc13_573_0 : w.heap.size + 3 < wc13.heap.size := (by omega)
              go_wp2_with (first | ((with_reducible refine gate_callee (f := 15) rfl ?_); refine goesL_ (some 69) rfl rfl Try.func15 (by kernel_rfl) rfl #[.slice A0 l0.length c0, .agg #[.int .i64 a1_0, .int .i64 a1_1, .int .i64 a1_2, .bool a1_3, .int .i64 a1_4, .bool a1_5, .int .i64 a1_6], .int .i64 a1_1, .bool (a1_0 == 2), .int .i64 (wrap64 (1 + (wrap64 (Int.tmod (IntKind.u64.wrap (a2_2)) 3))))] rfl (by (try simp only [List.map_toArray, List.map_cons, List.map_nil]); first | done | rfl | (simp only [List.length_drop, List.length_take]; rfl)) ?_; (with_reducible refine (saga_Tell.calls k13 _ _ l0 a1_0 a1_1 a1_2 a1_3 a1_4 a1_5 a1_6 a1_1 (a1_0 == 2) (wrap64 (1 + (wrap64 (Int.tmod (IntKind.u64.wrap (a2_2)) 3)))) t587 t588 t589 t590 t591 t592 t593 t594 _ ?sd0 HC0.out A19.out).mono ?_); (case sd0 => exact Kd.C_below HR0.out (by repeat (first | (with_reducible first | exact HB_13.out | exact Below.refl _ _ | apply below_alloc | apply pw_below_drewN | apply below_drew1) | refine below_set ?_ (by first | omega | (simp; omega) | simp)))); rintro e w20 ⟨rfl, hb⟩; refine ⟨_, rfl, ?_⟩; have hsw20 : wc13.heap.size ≤ w20.heap.size := (by have h_ := hb.size; simpa using h_); have HB_w20 : Aside0 (Below w.heap.size w w20) := Aside0.mk (below_step (by repeat (first | (with_reducible first | exact HB_13.out | exact Below.refl _ _ | apply below_alloc | apply pw_below_drewN | apply below_drew1) | refine below_set ?_ (by first | omega | (simp; omega) | simp))) hb); have cw20_570 := fun o_ : Nat => hb.cell (p := ⟨w.heap.size, o_, none⟩) (by first | omega | (simp; done) | (simp; omega)); have fw20_570 := fun o_ : Nat => hb.frozen (p := ⟨w.heap.size, o_, none⟩) (by first | omega | (simp; done) | (simp; omega)); have cw20_571 := fun o_ : Nat => hb.cell (p := ⟨w.heap.size + 1, o_, none⟩) (by first | omega | (simp; done) | (simp; omega)); have fw20_571 := fun o_ : Nat => hb.frozen (p := ⟨w.heap.size + 1, o_, none⟩) (by first | omega | (simp; done) | (simp; omega)); have cw20_572 := fun o_ : Nat => hb.cell (p := ⟨w.heap.size + 2, o_, none⟩) (by first | omega | (simp; done) | (simp; omega)); have fw20_572 := fun o_ : Nat => hb.frozen (p := ⟨w.heap.size + 2, o_, none⟩) (by first | omega | (simp; done) | (simp; omega)); have cw20_573 := fun o_ : Nat => hb.cell (p := ⟨w.heap.size + 3, o_, none⟩) (by first | omega | (simp; done) | (simp; omega)); have fw20_573 := fun o_ : Nat => hb.frozen (p := ⟨w.heap.size + 3, o_, none⟩) (by first | omega | (simp; done) | (simp; omega)); clear hb; have hlw20_570_0 : w.heap.size < w20.heap.size := (by omega); have hlw20_571_0 : w.heap.size + 1 < w20.heap.size := (by omega); have hlw20_572_0 : w.heap.size + 2 < w20.heap.size := (by omega); have hlw20_573_0 : w.heap.size + 3 < w20.heap.size := (by omega)))
              refine bodyPost_ret ?_ rfl ⟨rfl, ?_⟩
              · simp [results, Try.results26, go_sem, hz570_13_0, hz570_13_1, hz570_13_2, hz570_13_3, hz570_13_4, hz570_13_5, hz570_13_6, hf570_13_0, hf570_13_1, hf570_13_2, hf570_13_3, hf570_13_4, hf570_13_5, hf570_13_6, hz571_13_0, hz571_13_1, hz571_13_2, hf571_13_0, hf571_13_1, hf571_13_2, hz572_13_0, hz572_13_1, hz572_13_2, hz572_13_3, hz572_13_4, hz572_13_5, hz572_13_6, hf572_13_0, hf572_13_1, hf572_13_2, hf572_13_3, hf572_13_4, hf572_13_5, hf572_13_6, hz573_13_0, hz573_13_1, hz573_13_2, hz573_13_3, hz573_13_4, hz573_13_5, hz573_13_6, hf573_13_0, hf573_13_1, hf573_13_2, hf573_13_3, hf573_13_4, hf573_13_5, hf573_13_6, hlwc13_570_0, hlwc13_571_0, hlwc13_572_0, hlwc13_573_0, cw20_570, fw20_570, cw20_571, fw20_571, cw20_572, fw20_572, cw20_573, fw20_573, hlw20_570_0, hlw20_571_0, hlw20_572_0, hlw20_573_0]
              · exact (by repeat (first | (with_reducible first | exact HB_w20.out | exact Below.refl _ _ | apply below_alloc | apply pw_below_drewN | apply below_drew1) | refine below_set ?_ (by first | omega | (simp; omega) | simp)))
            · replace c18 := Bool.eq_false_iff.mpr c18; subst c18
              rw [if_neg (by decide)] at H
              by_cases c21 : a2_0 = 5
              · rw [if_pos c21] at H
                have c21b0 : (a2_0 == 5) = true := beq_iff_eq.mpr c21
                have c21b1 : (a2_0 != 5) = false := bne_eq_false_iff_eq.mpr c21
                clear c21
                obtain ⟨⟨t595, t596, t597, t598, t599, t600, t601, t602⟩, A_, H⟩ := Option.bind_eq_some_iff.mp H
                try dsimp only at H
                have A22 := Aside0.mk A_
                clear A_
                simp only [Option.some.injEq, Prod.mk.injEq] at H
                obtain ⟨rfl, rfl, rfl, rfl, rfl, rfl, rfl, rfl⟩ := H
                have hlwc13_570_0 : w.heap.size < wc13.heap.size := (by omega)
                have hlwc13_571_0 : w.heap.size + 1 < wc13.heap.size := (by omega)
                have hlwc13_572_0 : w.heap.size + 2 < wc13.heap.size := (by omega)
                have hlwc13_573_0 : w.heap.size + 3 < wc13.heap.size := (by omega)
                go_wp2_with (first | ((with_reducible refine gate_callee (f := 20) rfl ?_); refine goesL_ (some 77) rfl rfl Try.func20 (by kernel_rfl) rfl #[.slice A0 l0.length c0, .agg #[.int .i64 a1_0, .int .i64 a1_1, .int .i64 a1_2, .bool a1_3, .int .i64 a1_4, .bool a1_5, .int .i64 a1_6]] rfl (by (try simp only [List.map_toArray, List.map_cons, List.map_nil]); first | done | rfl | (simp only [List.length_drop, List.length_take]; rfl)) ?_; (with_reducible refine (saga_Tick.calls k13 _ _ l0 a1_0 a1_1 a1_2 a1_3 a1_4 a1_5 a1_6 t595 t596 t597 t598 t599 t600 t601 t602 _ ?sd0 HC0.out A22.out).mono ?_); (case sd0 => exact Kd.C_below HR0.out (by repeat (first | (with_reducible first | exact HB_13.out | exact Below.refl _ _ | apply below_alloc | apply pw_below_drewN | apply below_drew1) | refine below_set ?_ (by first | omega | (simp; omega) | simp)))); rintro e w23 ⟨rfl, hb⟩; refine ⟨_, rfl, ?_⟩; have hsw23 : wc13.heap.size ≤ w23.heap.size := (by have h_ := hb.size; simpa using h_); have HB_w23 : Aside0 (Below w.heap.size w w23) := Aside0.mk (below_step (by repeat (first | (with_reducible first | exact HB_13.out | exact Below.refl _ _ | apply below_alloc | apply pw_below_drewN | apply below_drew1) | refine below_set ?_ (by first | omega | (simp; omega) | simp))) hb); have cw23_570 := fun o_ : Nat => hb.cell (p := ⟨w.heap.size, o_, none⟩) (by first | omega | (simp; done) | (simp; omega)); have fw23_570 := fun o_ : Nat => hb.frozen (p := ⟨w.heap.size, o_, none⟩) (by first | omega | (simp; done) | (simp; omega)); have cw23_571 := fun o_ : Nat => hb.cell (p := ⟨w.heap.size + 1, o_, none⟩) (by first | omega | (simp; done) | (simp; omega)); have fw23_571 := fun o_ : Nat => hb.frozen (p := ⟨w.heap.size + 1, o_, none⟩) (by first | omega | (simp; done) | (simp; omega)); have cw23_572 := fun o_ : Nat => hb.cell (p := ⟨w.heap.size + 2, o_, none⟩) (by first | omega | (simp; done) | (simp; omega)); have fw23_572 := fun o_ : Nat => hb.frozen (p := ⟨w.heap.size + 2, o_, none⟩) (by first | omega | (simp; done) | (simp; omega)); have cw23_573 := fun o_ : Nat => hb.cell (p := ⟨w.heap.size + 3, o_, none⟩) (by first | omega | (simp; done) | (simp; omega)); have fw23_573 := fun o_ : Nat => hb.frozen (p := ⟨w.heap.size + 3, o_, none⟩) (by first | omega | (simp; done) | (simp; omega)); clear hb; have hlw23_570_0 : w.heap.size < w23.heap.size := (by omega); have hlw23_571_0 : w.heap.size + 1 < w23.heap.size := (by omega); have hlw23_572_0 : w.heap.size + 2 < w23.heap.size := (by omega); have hlw23_573_0 : w.heap.size + 3 < w23.heap.size := (by omega)))
                refine bodyPost_ret ?_ rfl ⟨rfl, ?_⟩
                · simp [results, Try.results26, go_sem, hz570_13_0, hz570_13_1, hz570_13_2, hz570_13_3, hz570_13_4, hz570_13_5, hz570_13_6, hf570_13_0, hf570_13_1, hf570_13_2, hf570_13_3, hf570_13_4, hf570_13_5, hf570_13_6, hz571_13_0, hz571_13_1, hz571_13_2, hf571_13_0, hf571_13_1, hf571_13_2, hz572_13_0, hz572_13_1, hz572_13_2, hz572_13_3, hz572_13_4, hz572_13_5, hz572_13_6, hf572_13_0, hf572_13_1, hf572_13_2, hf572_13_3, hf572_13_4, hf572_13_5, hf572_13_6, hz573_13_0, hz573_13_1, hz573_13_2, hz573_13_3, hz573_13_4, hz573_13_5, hz573_13_6, hf573_13_0, hf573_13_1, hf573_13_2, hf573_13_3, hf573_13_4, hf573_13_5, hf573_13_6, hlwc13_570_0, hlwc13_571_0, hlwc13_572_0, hlwc13_573_0, cw23_570, fw23_570, cw23_571, fw23_571, cw23_572, fw23_572, cw23_573, fw23_573, hlw23_570_0, hlw23_571_0, hlw23_572_0, hlw23_573_0]
                · exact (by repeat (first | (with_reducible first | exact HB_w23.out | exact Below.refl _ _ | apply below_alloc | apply pw_below_drewN | apply below_drew1) | refine below_set ?_ (by first | omega | (simp; omega) | simp)))
              · rw [if_neg c21] at H
                have c21b0 : (a2_0 == 5) = false := beq_eq_false_iff_ne.mpr c21
                have c21b1 : (a2_0 != 5) = true := bne_iff_ne.mpr c21
                clear c21
                by_cases c24 : a2_0 = 6
                · rw [if_pos c24] at H
                  have c24b0 : (a2_0 == 6) = true := beq_iff_eq.mpr c24
                  have c24b1 : (a2_0 != 6) = false := bne_eq_false_iff_eq.mpr c24
                  clear c24
                  obtain ⟨⟨t603, t604, t605, t606, t607, t608, t609, t610⟩, A_, H⟩ := Option.bind_eq_some_iff.mp H
                  try dsimp only at H
                  have A25 := Aside0.mk A_
                  clear A_
                  simp only [Option.some.injEq, Prod.mk.injEq] at H
                  obtain ⟨rfl, rfl, rfl, rfl, rfl, rfl, rfl, rfl⟩ := H
                  have hlwc13_570_0 : w.heap.size < wc13.heap.size := (by omega)
                  have hlwc13_571_0 : w.heap.size + 1 < wc13.heap.size := (by omega)
                  have hlwc13_572_0 : w.heap.size + 2 < wc13.heap.size := (by omega)
                  have hlwc13_573_0 : w.heap.size + 3 < wc13.heap.size := (by omega)
                  go_wp2_with (first | ((with_reducible refine gate_callee (f := 22) rfl ?_); refine goesL_ (some 85) rfl rfl Try.func22 (by kernel_rfl) rfl #[.slice A0 l0.length c0, .agg #[.int .i64 a1_0, .int .i64 a1_1, .int .i64 a1_2, .bool a1_3, .int .i64 a1_4, .bool a1_5, .int .i64 a1_6]] rfl (by (try simp only [List.map_toArray, List.map_cons, List.map_nil]); first | done | rfl | (simp only [List.length_drop, List.length_take]; rfl)) ?_; (with_reducible refine (saga_Cancel.calls k13 _ _ l0 a1_0 a1_1 a1_2 a1_3 a1_4 a1_5 a1_6 t603 t604 t605 t606 t607 t608 t609 t610 _ ?sd0 HC0.out A25.out).mono ?_); (case sd0 => exact Kd.C_below HR0.out (by repeat (first | (with_reducible first | exact HB_13.out | exact Below.refl _ _ | apply below_alloc | apply pw_below_drewN | apply below_drew1) | refine below_set ?_ (by first | omega | (simp; omega) | simp)))); rintro e w26 ⟨rfl, hb⟩; refine ⟨_, rfl, ?_⟩; have hsw26 : wc13.heap.size ≤ w26.heap.size := (by have h_ := hb.size; simpa using h_); have HB_w26 : Aside0 (Below w.heap.size w w26) := Aside0.mk (below_step (by repeat (first | (with_reducible first | exact HB_13.out | exact Below.refl _ _ | apply below_alloc | apply pw_below_drewN | apply below_drew1) | refine below_set ?_ (by first | omega | (simp; omega) | simp))) hb); have cw26_570 := fun o_ : Nat => hb.cell (p := ⟨w.heap.size, o_, none⟩) (by first | omega | (simp; done) | (simp; omega)); have fw26_570 := fun o_ : Nat => hb.frozen (p := ⟨w.heap.size, o_, none⟩) (by first | omega | (simp; done) | (simp; omega)); have cw26_571 := fun o_ : Nat => hb.cell (p := ⟨w.heap.size + 1, o_, none⟩) (by first | omega | (simp; done) | (simp; omega)); have fw26_571 := fun o_ : Nat => hb.frozen (p := ⟨w.heap.size + 1, o_, none⟩) (by first | omega | (simp; done) | (simp; omega)); have cw26_572 := fun o_ : Nat => hb.cell (p := ⟨w.heap.size + 2, o_, none⟩) (by first | omega | (simp; done) | (simp; omega)); have fw26_572 := fun o_ : Nat => hb.frozen (p := ⟨w.heap.size + 2, o_, none⟩) (by first | omega | (simp; done) | (simp; omega)); have cw26_573 := fun o_ : Nat => hb.cell (p := ⟨w.heap.size + 3, o_, none⟩) (by first | omega | (simp; done) | (simp; omega)); have fw26_573 := fun o_ : Nat => hb.frozen (p := ⟨w.heap.size + 3, o_, none⟩) (by first | omega | (simp; done) | (simp; omega)); clear hb; have hlw26_570_0 : w.heap.size < w26.heap.size := (by omega); have hlw26_571_0 : w.heap.size + 1 < w26.heap.size := (by omega); have hlw26_572_0 : w.heap.size + 2 < w26.heap.size := (by omega); have hlw26_573_0 : w.heap.size + 3 < w26.heap.size := (by omega)))
                  refine bodyPost_ret ?_ rfl ⟨rfl, ?_⟩
                  · simp [results, Try.results26, go_sem, hz570_13_0, hz570_13_1, hz570_13_2, hz570_13_3, hz570_13_4, hz570_13_5, hz570_13_6, hf570_13_0, hf570_13_1, hf570_13_2, hf570_13_3, hf570_13_4, hf570_13_5, hf570_13_6, hz571_13_0, hz571_13_1, hz571_13_2, hf571_13_0, hf571_13_1, hf571_13_2, hz572_13_0, hz572_13_1, hz572_13_2, hz572_13_3, hz572_13_4, hz572_13_5, hz572_13_6, hf572_13_0, hf572_13_1, hf572_13_2, hf572_13_3, hf572_13_4, hf572_13_5, hf572_13_6, hz573_13_0, hz573_13_1, hz573_13_2, hz573_13_3, hz573_13_4, hz573_13_5, hz573_13_6, hf573_13_0, hf573_13_1, hf573_13_2, hf573_13_3, hf573_13_4, hf573_13_5, hf573_13_6, hlwc13_570_0, hlwc13_571_0, hlwc13_572_0, hlwc13_573_0, cw26_570, fw26_570, cw26_571, fw26_571, cw26_572, fw26_572, cw26_573, fw26_573, hlw26_570_0, hlw26_571_0, hlw26_572_0, hlw26_573_0]
                  · exact (by repeat (first | (with_reducible first | exact HB_w26.out | exact Below.refl _ _ | apply below_alloc | apply pw_below_drewN | apply below_drew1) | refine below_set ?_ (by first | omega | (simp; omega) | simp)))
                · rw [if_neg c24] at H
                  have c24b0 : (a2_0 == 6) = false := beq_eq_false_iff_ne.mpr c24
                  have c24b1 : (a2_0 != 6) = true := bne_iff_ne.mpr c24
                  clear c24
                  obtain ⟨⟨t611, t612, t613, t614, t615, t616, t617, t618⟩, A_, H⟩ := Option.bind_eq_some_iff.mp H
                  try dsimp only at H
                  have A27 := Aside0.mk A_
                  clear A_
                  simp only [Option.some.injEq, Prod.mk.injEq] at H
                  obtain ⟨rfl, rfl, rfl, rfl, rfl, rfl, rfl, rfl⟩ := H
                  have hlwc13_570_0 : w.heap.size < wc13.heap.size := (by omega)
                  have hlwc13_571_0 : w.heap.size + 1 < wc13.heap.size := (by omega)
                  have hlwc13_572_0 : w.heap.size + 2 < wc13.heap.size := (by omega)
                  have hlwc13_573_0 : w.heap.size + 3 < wc13.heap.size := (by omega)
                  go_wp2_with (first | ((with_reducible refine gate_callee (f := 15) rfl ?_); refine goesL_ (some 35) rfl rfl Try.func15 (by kernel_rfl) rfl #[.slice A0 l0.length c0, .agg #[.int .i64 a1_0, .int .i64 a1_1, .int .i64 a1_2, .bool a1_3, .int .i64 a1_4, .bool a1_5, .int .i64 a1_6], .int .i64 (wrap64 (Int.tmod (IntKind.u64.wrap (a2_1)) 16)), .bool ((Int.tmod a2_1 2) == 0), .int .i64 (wrap64 (1 + (wrap64 (Int.tmod (IntKind.u64.wrap (a2_2)) 3))))] rfl (by (try simp only [List.map_toArray, List.map_cons, List.map_nil]); first | done | rfl | (simp only [List.length_drop, List.length_take]; rfl)) ?_; (with_reducible refine (saga_Tell.calls k13 _ _ l0 a1_0 a1_1 a1_2 a1_3 a1_4 a1_5 a1_6 (wrap64 (Int.tmod (IntKind.u64.wrap (a2_1)) 16)) ((Int.tmod a2_1 2) == 0) (wrap64 (1 + (wrap64 (Int.tmod (IntKind.u64.wrap (a2_2)) 3)))) t611 t612 t613 t614 t615 t616 t617 t618 _ ?sd0 HC0.out A27.out).mono ?_); (case sd0 => exact Kd.C_below HR0.out (by repeat (first | (with_reducible first | exact HB_13.out | exact Below.refl _ _ | apply below_alloc | apply pw_below_drewN | apply below_drew1) | refine below_set ?_ (by first | omega | (simp; omega) | simp)))); rintro e w28 ⟨rfl, hb⟩; refine ⟨_, rfl, ?_⟩; have hsw28 : wc13.heap.size ≤ w28.heap.size := (by have h_ := hb.size; simpa using h_); have HB_w28 : Aside0 (Below w.heap.size w w28) := Aside0.mk (below_step (by repeat (first | (with_reducible first | exact HB_13.out | exact Below.refl _ _ | apply below_alloc | apply pw_below_drewN | apply below_drew1) | refine below_set ?_ (by first | omega | (simp; omega) | simp))) hb); have cw28_570 := fun o_ : Nat => hb.cell (p := ⟨w.heap.size, o_, none⟩) (by first | omega | (simp; done) | (simp; omega)); have fw28_570 := fun o_ : Nat => hb.frozen (p := ⟨w.heap.size, o_, none⟩) (by first | omega | (simp; done) | (simp; omega)); have cw28_571 := fun o_ : Nat => hb.cell (p := ⟨w.heap.size + 1, o_, none⟩) (by first | omega | (simp; done) | (simp; omega)); have fw28_571 := fun o_ : Nat => hb.frozen (p := ⟨w.heap.size + 1, o_, none⟩) (by first | omega | (simp; done) | (simp; omega)); have cw28_572 := fun o_ : Nat => hb.cell (p := ⟨w.heap.size + 2, o_, none⟩) (by first | omega | (simp; done) | (simp; omega)); have fw28_572 := fun o_ : Nat => hb.frozen (p := ⟨w.heap.size + 2, o_, none⟩) (by first | omega | (simp; done) | (simp; omega)); have cw28_573 := fun o_ : Nat => hb.cell (p := ⟨w.heap.size + 3, o_, none⟩) (by first | omega | (simp; done) | (simp; omega)); have fw28_573 := fun o_ : Nat => hb.frozen (p := ⟨w.heap.size + 3, o_, none⟩) (by first | omega | (simp; done) | (simp; omega)); clear hb; have hlw28_570_0 : w.heap.size < w28.heap.size := (by omega); have hlw28_571_0 : w.heap.size + 1 < w28.heap.size := (by omega); have hlw28_572_0 : w.heap.size + 2 < w28.heap.size := (by omega); have hlw28_573_0 : w.heap.size + 3 < w28.heap.size := (by omega)))
                  refine bodyPost_ret ?_ rfl ⟨rfl, ?_⟩
                  · simp [results, Try.results26, go_sem, hz570_13_0, hz570_13_1, hz570_13_2, hz570_13_3, hz570_13_4, hz570_13_5, hz570_13_6, hf570_13_0, hf570_13_1, hf570_13_2, hf570_13_3, hf570_13_4, hf570_13_5, hf570_13_6, hz571_13_0, hz571_13_1, hz571_13_2, hf571_13_0, hf571_13_1, hf571_13_2, hz572_13_0, hz572_13_1, hz572_13_2, hz572_13_3, hz572_13_4, hz572_13_5, hz572_13_6, hf572_13_0, hf572_13_1, hf572_13_2, hf572_13_3, hf572_13_4, hf572_13_5, hf572_13_6, hz573_13_0, hz573_13_1, hz573_13_2, hz573_13_3, hz573_13_4, hz573_13_5, hz573_13_6, hf573_13_0, hf573_13_1, hf573_13_2, hf573_13_3, hf573_13_4, hf573_13_5, hf573_13_6, hlwc13_570_0, hlwc13_571_0, hlwc13_572_0, hlwc13_573_0, cw28_570, fw28_570, cw28_571, fw28_571, cw28_572, fw28_572, cw28_573, fw28_573, hlw28_570_0, hlw28_571_0, hlw28_572_0, hlw28_573_0]
                  · exact (by repeat (first | (with_reducible first | exact HB_w28.out | exact Below.refl _ _ | apply below_alloc | apply pw_below_drewN | apply below_drew1) | refine below_set ?_ (by first | omega | (simp; omega) | simp)))

end Go.Proofs.Yteefdhgfcnjpoaa.PA
