-- printed by a program of this work (wip/tools/pr.py over the kit's print): the machine's side of SagaCancels
import Derived.Test.YteefdhgfcnjpoaaQCaPAx25
import Derived.Test.YteefdhgfcnjpoaaQCaPAx13
import Derived.Test.YteefdhgfcnjpoaaQCaPAx0
import Derived.Test.YteefdhgfcnjpoaaQCaPAx3
import Derived.Test.YteefdhgfcnjpoaaQCaPAx5
import Derived.Test.YteefdhgfcnjpoaaQCaPAx9
import Derived.Test.YteefdhgfcnjpoaaQCaPAx14
import Derived.Test.YteefdhgfcnjpoaaQCaPAx16
import Derived.Test.YteefdhgfcnjpoaaQCaPAx1
import Derived.Test.YteefdhgfcnjpoaaQCaPAx2
namespace Go.Proofs.Yteefdhgfcnjpoaa.PA
open Go.RowKit Go.Proofs.YteefdhgfcnjpoaaW.PrintWords Go.Proofs.YteefdhgfcnjpoaaW.PrintLast Go.Proofs.YteefdhgfcnjpoaaW.PrintMore
attribute [local go_sem] max2_int min2_int max_two min_two max_three min_three max_four min_four   -- for this text's walks alone
set_option linter.unusedVariables false
set_option linter.unusedSimpArgs false

attribute [local go_sem high] eqA28
attribute [local go_sem] cell_alloc_lt2 cell_set_ne2 cell_alloc_drewN frozen_alloc_drewN
attribute [local go_sem ↓] size_drewN
theorem BX_drew {w : World} {g : Nat} {l : List Value} (h : BX w g l) : BX w.drew g l := ⟨fun i u hu => h.1 i u hu, h.2⟩
theorem BX_below {w w1 : World} {g : Nat} {l : List Value} (h : BX w g l) (hb : Below w.heap.size w w1) : BX w1 g l := ⟨fun i u hu => ⟨(hb.cell (p := ⟨g, i, none⟩) h.2).trans (h.1 i u hu).1, (hb.frozen (p := ⟨g, i, none⟩) h.2).trans (h.1 i u hu).2⟩, Nat.lt_of_lt_of_le h.2 hb.size⟩
set_option maxHeartbeats 8000000 in
set_option maxRecDepth 100000 in
theorem drayagelaw14_SagaCancels.calls (k : Nat) (A0 : Option Addr) (c0 : Nat) (l0 : List (S38)) (A1 : Option Addr) (c1 : Nat) (l1 : List (S54)) (A2 : Option Addr) (c2 : Nat) (l2 : List (S54)) (r : Bool) (w : World) (hr0 : Kd.C k38 w A0 l0.length l0) (hc0 : l0.length ≤ c0) (hr1 : Kd.C k54 w A1 l1.length l1) (hc1 : l1.length ≤ c1) (hr2 : Kd.C k54 w A2 l2.length l2) (hc2 : l2.length ≤ c2) (h : drayagelaw14_SagaCancels.f k l0 l1 l2 = some r) :
  Calls Try.prog 9 #[.slice A0 l0.length c0, .slice A1 l1.length c1, .slice A2 l2.length c2] w fun e w' => e = .returned (.bool r) ∧ Below w.heap.size w w' := by
 have hu28 := Try.underlying28
 have hu54 := Try.underlying54
 have HR0 := Aside0.mk hr0
 have HC0 := Aside0.mk hc0
 clear hr0 hc0
 have HR1 := Aside0.mk hr1
 have HC1 := Aside0.mk hc1
 clear hr1 hc1
 have HR2 := Aside0.mk hr2
 have HC2 := Aside0.mk hc2
 clear hr2 hc2
 have HB := Aside0.mk (Below.refl w.heap.size w)
 have H := h
 clear h
 unfold drayagelaw14_SagaCancels.f at H
 have HC3 := Aside0.mk H
 clear H
 go_enter Try.func9, Try.ntmps9
 go_upto_region 1 with (fail)
 repeat (go_quiet (fail); go_upto_region 1 with (fail))
 go_cut [26] (fun v26 wq2 => ∃ (kq : Nat) (x26_2 : Bool), v26 = .bool x26_2 ∧ Aside0 (drayagelaw14_SagaCancels.j0 kq l0 l1 l2 x26_2 = some r) ∧ Aside0 (kq ≤ k) ∧ Aside0 (Below w.heap.size w wq2))
 case first =>
  have H := HC3.out
  clear HC3
  obtain ⟨t383, A_, H⟩ := Option.bind_eq_some_iff.mp H
  try dsimp only at H
  have A4 := Aside0.mk A_
  clear A_
  by_cases c5 : t383 = true
  ·
   subst c5
   rw [if_pos rfl] at H
   have H' := Aside0.mk H
   clear H
   try go_wp2_with (first | (go_at_call 10; (with_reducible refine (drayagelaw14_long.calls k _ _ l0 true _ ?sd0 HC0.out A4.out).mono ?_); (case sd0 => exact Kd.C_below HR0.out (by repeat (first | (with_reducible first | exact Below.refl _ _ | apply below_alloc | apply pw_below_drewN | apply below_drew1) | refine below_set ?_ (by first | omega | (simp; omega) | simp)))); rintro e w' ⟨rfl, ⟨nd, rfl⟩⟩; (try first | exact ⟨rfl, _, World.drewN_drewN _ _ _⟩ | exact ⟨rfl, _, Eq.trans (World.drewN_drewN _ _ _) (congrArg (World.drewN _) (Nat.add_assoc _ _ _))⟩)))
   repeat (go_quiet (first | (go_at_call 10; (with_reducible refine (drayagelaw14_long.calls k _ _ l0 true _ ?sd0 HC0.out A4.out).mono ?_); (case sd0 => exact Kd.C_below HR0.out (by repeat (first | (with_reducible first | exact Below.refl _ _ | apply below_alloc | apply pw_below_drewN | apply below_drew1) | refine below_set ?_ (by first | omega | (simp; omega) | simp)))); rintro e w' ⟨rfl, ⟨nd, rfl⟩⟩; (try first | exact ⟨rfl, _, World.drewN_drewN _ _ _⟩ | exact ⟨rfl, _, Eq.trans (World.drewN_drewN _ _ _) (congrArg (World.drewN _) (Nat.add_assoc _ _ _))⟩))); try go_wp2_with (first | (go_at_call 10; (with_reducible refine (drayagelaw14_long.calls k _ _ l0 true _ ?sd0 HC0.out A4.out).mono ?_); (case sd0 => exact Kd.C_below HR0.out (by repeat (first | (with_reducible first | exact Below.refl _ _ | apply below_alloc | apply pw_below_drewN | apply below_drew1) | refine below_set ?_ (by first | omega | (simp; omega) | simp)))); rintro e w' ⟨rfl, ⟨nd, rfl⟩⟩; (try first | exact ⟨rfl, _, World.drewN_drewN _ _ _⟩ | exact ⟨rfl, _, Eq.trans (World.drewN_drewN _ _ _) (congrArg (World.drewN _) (Nat.add_assoc _ _ _))⟩))))
   go_meet
   case rel => exact ⟨_, (true), (by first | rfl | (simp; done) | (simp [*]; done)), H', ⟨by first | omega | exact Nat.le_refl _⟩, ⟨(by repeat (first | (with_reducible first | exact Below.refl _ _ | apply below_alloc | apply pw_below_drewN | apply below_drew1) | refine below_set ?_ (by first | omega | (simp; omega) | simp)))⟩⟩
  ·
   replace c5 := Bool.eq_false_iff.mpr c5; subst c5
   rw [if_neg (by decide)] at H
   obtain ⟨t384, A_, H⟩ := Option.bind_eq_some_iff.mp H
   try dsimp only at H
   have A6 := Aside0.mk A_
   clear A_
   have H' := Aside0.mk H
   clear H
   try go_wp2_with (first | (go_at_call 10; (with_reducible refine (drayagelaw14_long.calls k _ _ l0 false _ ?sd0 HC0.out A4.out).mono ?_); (case sd0 => exact Kd.C_below HR0.out (by repeat (first | (with_reducible first | exact Below.refl _ _ | apply below_alloc | apply pw_below_drewN | apply below_drew1) | refine below_set ?_ (by first | omega | (simp; omega) | simp)))); rintro e w' ⟨rfl, ⟨nd, rfl⟩⟩; (try first | exact ⟨rfl, _, World.drewN_drewN _ _ _⟩ | exact ⟨rfl, _, Eq.trans (World.drewN_drewN _ _ _) (congrArg (World.drewN _) (Nat.add_assoc _ _ _))⟩)) | (go_at_call 11; (with_reducible refine (drayageref13_Check.calls k _ _ l0 t384 _ ?sd0 HC0.out A6.out).mono ?_); (case sd0 => exact Kd.C_below HR0.out (by repeat (first | (with_reducible first | exact Below.refl _ _ | apply below_alloc | apply pw_below_drewN | apply below_drew1) | refine below_set ?_ (by first | omega | (simp; omega) | simp)))); rintro e w7 ⟨rfl, hb⟩; have hsw7 : w.heap.size ≤ w7.heap.size := (by have h_ := hb.size; simpa using h_); have HB_w7 : Aside0 (Below w.heap.size w w7) := Aside0.mk (below_step (by repeat (first | (with_reducible first | exact Below.refl _ _ | apply below_alloc | apply pw_below_drewN | apply below_drew1) | refine below_set ?_ (by first | omega | (simp; omega) | simp))) hb); clear hb))
   repeat (go_quiet (first | (go_at_call 10; (with_reducible refine (drayagelaw14_long.calls k _ _ l0 false _ ?sd0 HC0.out A4.out).mono ?_); (case sd0 => exact Kd.C_below HR0.out (by repeat (first | (with_reducible first | exact Below.refl _ _ | apply below_alloc | apply pw_below_drewN | apply below_drew1) | refine below_set ?_ (by first | omega | (simp; omega) | simp)))); rintro e w' ⟨rfl, ⟨nd, rfl⟩⟩; (try first | exact ⟨rfl, _, World.drewN_drewN _ _ _⟩ | exact ⟨rfl, _, Eq.trans (World.drewN_drewN _ _ _) (congrArg (World.drewN _) (Nat.add_assoc _ _ _))⟩)) | (go_at_call 11; (with_reducible refine (drayageref13_Check.calls k _ _ l0 t384 _ ?sd0 HC0.out A6.out).mono ?_); (case sd0 => exact Kd.C_below HR0.out (by repeat (first | (with_reducible first | exact Below.refl _ _ | apply below_alloc | apply pw_below_drewN | apply below_drew1) | refine below_set ?_ (by first | omega | (simp; omega) | simp)))); rintro e w7 ⟨rfl, hb⟩; have hsw7 : w.heap.size ≤ w7.heap.size := (by have h_ := hb.size; simpa using h_); have HB_w7 : Aside0 (Below w.heap.size w w7) := Aside0.mk (below_step (by repeat (first | (with_reducible first | exact Below.refl _ _ | apply below_alloc | apply pw_below_drewN | apply below_drew1) | refine below_set ?_ (by first | omega | (simp; omega) | simp))) hb); clear hb)); try go_wp2_with (first | (go_at_call 10; (with_reducible refine (drayagelaw14_long.calls k _ _ l0 false _ ?sd0 HC0.out A4.out).mono ?_); (case sd0 => exact Kd.C_below HR0.out (by repeat (first | (with_reducible first | exact Below.refl _ _ | apply below_alloc | apply pw_below_drewN | apply below_drew1) | refine below_set ?_ (by first | omega | (simp; omega) | simp)))); rintro e w' ⟨rfl, ⟨nd, rfl⟩⟩; (try first | exact ⟨rfl, _, World.drewN_drewN _ _ _⟩ | exact ⟨rfl, _, Eq.trans (World.drewN_drewN _ _ _) (congrArg (World.drewN _) (Nat.add_assoc _ _ _))⟩)) | (go_at_call 11; (with_reducible refine (drayageref13_Check.calls k _ _ l0 t384 _ ?sd0 HC0.out A6.out).mono ?_); (case sd0 => exact Kd.C_below HR0.out (by repeat (first | (with_reducible first | exact Below.refl _ _ | apply below_alloc | apply pw_below_drewN | apply below_drew1) | refine below_set ?_ (by first | omega | (simp; omega) | simp)))); rintro e w7 ⟨rfl, hb⟩; have hsw7 : w.heap.size ≤ w7.heap.size := (by have h_ := hb.size; simpa using h_); have HB_w7 : Aside0 (Below w.heap.size w w7) := Aside0.mk (below_step (by repeat (first | (with_reducible first | exact Below.refl _ _ | apply below_alloc | apply pw_below_drewN | apply below_drew1) | refine below_set ?_ (by first | omega | (simp; omega) | simp))) hb); clear hb)))
   go_meet
   case rel => exact ⟨_, ((t384 != 0)), (by first | rfl | (simp; done) | (simp [*]; done)), H', ⟨by first | omega | exact Nat.le_refl _⟩, ⟨(by repeat (first | (with_reducible first | exact HB_w7.out | exact Below.refl _ _ | apply below_alloc | apply pw_below_drewN | apply below_drew1) | refine below_set ?_ (by first | omega | (simp; omega) | simp)))⟩⟩
 case rest =>
  rename World => wc2
  clear HC3
  obtain ⟨kq, x26_2, rfl, HA, HJ2, HB_2⟩ := hcut
  have hs2 : w.heap.size ≤ wc2.heap.size := HB_2.out.size
  cases kq with
  | zero => exact absurd HA.out (by simp [drayagelaw14_SagaCancels.j0])
  | succ k2 =>
   have H := HA.out
   clear HA
   simp only [drayagelaw14_SagaCancels.j0] at H
   by_cases c9 : x26_2 = true
   ·
    subst c9
    rw [if_pos rfl] at H
    obtain ⟨t385, A_, H⟩ := Option.bind_eq_some_iff.mp H
    try dsimp only at H
    have A10 := Aside0.mk A_
    clear A_
    obtain rfl := Option.some.inj H
    try go_wp2_with (first | (go_at_call 12; (with_reducible refine (drayagelaw14_known.calls k2  t385 _ A10.out).mono ?_); rintro e w11 ⟨rfl, hb⟩; have hsw11 : wc2.heap.size ≤ w11.heap.size := (by have h_ := hb.size; simpa using h_); have HB_w11 : Aside0 (Below w.heap.size w w11) := Aside0.mk (below_step (by repeat (first | (with_reducible first | exact HB_2.out | exact Below.refl _ _ | apply below_alloc | apply pw_below_drewN | apply below_drew1) | refine below_set ?_ (by first | omega | (simp; omega) | simp))) hb); clear hb))
    repeat (go_quiet (first | (go_at_call 12; (with_reducible refine (drayagelaw14_known.calls k2  t385 _ A10.out).mono ?_); rintro e w11 ⟨rfl, hb⟩; have hsw11 : wc2.heap.size ≤ w11.heap.size := (by have h_ := hb.size; simpa using h_); have HB_w11 : Aside0 (Below w.heap.size w w11) := Aside0.mk (below_step (by repeat (first | (with_reducible first | exact HB_2.out | exact Below.refl _ _ | apply below_alloc | apply pw_below_drewN | apply below_drew1) | refine below_set ?_ (by first | omega | (simp; omega) | simp))) hb); clear hb)); try go_wp2_with (first | (go_at_call 12; (with_reducible refine (drayagelaw14_known.calls k2  t385 _ A10.out).mono ?_); rintro e w11 ⟨rfl, hb⟩; have hsw11 : wc2.heap.size ≤ w11.heap.size := (by have h_ := hb.size; simpa using h_); have HB_w11 : Aside0 (Below w.heap.size w w11) := Aside0.mk (below_step (by repeat (first | (with_reducible first | exact HB_2.out | exact Below.refl _ _ | apply below_alloc | apply pw_below_drewN | apply below_drew1) | refine below_set ?_ (by first | omega | (simp; omega) | simp))) hb); clear hb)))
    refine bodyPost_ret ?_ rfl ⟨rfl, ?_⟩
    ·
     simp [results, Try.results9, go_sem]
    ·
     exact (by repeat (first | (with_reducible first | exact HB_w11.out | exact Below.refl _ _ | apply below_alloc | apply pw_below_drewN | apply below_drew1) | refine below_set ?_ (by first | omega | (simp; omega) | simp)))
   ·
    replace c9 := Bool.eq_false_iff.mpr c9; subst c9
    rw [if_neg (by decide)] at H
    obtain ⟨⟨t386, t387, t388, t389, t390, t391, t392⟩, A_, H⟩ := Option.bind_eq_some_iff.mp H
    try dsimp only at H
    have A12 := Aside0.mk A_
    clear A_
    obtain ⟨⟨t393, t394, t395, t396, t397, t398, t399, t400⟩, A_, H⟩ := Option.bind_eq_some_iff.mp H
    try dsimp only at H
    have A13 := Aside0.mk A_
    clear A_
    have HC15 := Aside0.mk H
    clear H
    go_upto_region 4 with (first | (go_at_call 13; (with_reducible refine (saga_Start.calls  t386 t387 t388 t389 t390 t391 t392 _ A12.out).mono ?_); rintro e w16 ⟨rfl, hb⟩; have hsw16 : wc2.heap.size ≤ w16.heap.size := (by have h_ := hb.size; simpa using h_); have HB_w16 : Aside0 (Below w.heap.size w w16) := Aside0.mk (below_step (by repeat (first | (with_reducible first | exact HB_2.out | exact Below.refl _ _ | apply below_alloc | apply pw_below_drewN | apply below_drew1) | refine below_set ?_ (by first | omega | (simp; omega) | simp))) hb); clear hb) | (go_at_call 22; (with_reducible refine (saga_Cancel.calls k2 _ _ l0 t386 t387 t388 t389 t390 t391 t392 t393 t394 t395 t396 t397 t398 t399 t400 _ ?sd0 HC0.out A13.out).mono ?_); (case sd0 => exact Kd.C_below HR0.out (by repeat (first | (with_reducible first | exact HB_w16.out | exact Below.refl _ _ | apply below_alloc | apply pw_below_drewN | apply below_drew1) | refine below_set ?_ (by first | omega | (simp; omega) | simp)))); rintro e w17 ⟨rfl, hb⟩; have hsw17 : w16.heap.size ≤ w17.heap.size := (by have h_ := hb.size; simpa using h_); have HB_w17 : Aside0 (Below w.heap.size w w17) := Aside0.mk (below_step (by repeat (first | (with_reducible first | exact HB_w16.out | exact Below.refl _ _ | apply below_alloc | apply pw_below_drewN | apply below_drew1) | refine below_set ?_ (by first | omega | (simp; omega) | simp))) hb); clear hb))
    repeat (go_quiet (first | (go_at_call 13; (with_reducible refine (saga_Start.calls  t386 t387 t388 t389 t390 t391 t392 _ A12.out).mono ?_); rintro e w16 ⟨rfl, hb⟩; have hsw16 : wc2.heap.size ≤ w16.heap.size := (by have h_ := hb.size; simpa using h_); have HB_w16 : Aside0 (Below w.heap.size w w16) := Aside0.mk (below_step (by repeat (first | (with_reducible first | exact HB_2.out | exact Below.refl _ _ | apply below_alloc | apply pw_below_drewN | apply below_drew1) | refine below_set ?_ (by first | omega | (simp; omega) | simp))) hb); clear hb) | (go_at_call 22; (with_reducible refine (saga_Cancel.calls k2 _ _ l0 t386 t387 t388 t389 t390 t391 t392 t393 t394 t395 t396 t397 t398 t399 t400 _ ?sd0 HC0.out A13.out).mono ?_); (case sd0 => exact Kd.C_below HR0.out (by repeat (first | (with_reducible first | exact HB_w16.out | exact Below.refl _ _ | apply below_alloc | apply pw_below_drewN | apply below_drew1) | refine below_set ?_ (by first | omega | (simp; omega) | simp)))); rintro e w17 ⟨rfl, hb⟩; have hsw17 : w16.heap.size ≤ w17.heap.size := (by have h_ := hb.size; simpa using h_); have HB_w17 : Aside0 (Below w.heap.size w w17) := Aside0.mk (below_step (by repeat (first | (with_reducible first | exact HB_w16.out | exact Below.refl _ _ | apply below_alloc | apply pw_below_drewN | apply below_drew1) | refine below_set ?_ (by first | omega | (simp; omega) | simp))) hb); clear hb)); go_upto_region 4 with (first | (go_at_call 13; (with_reducible refine (saga_Start.calls  t386 t387 t388 t389 t390 t391 t392 _ A12.out).mono ?_); rintro e w16 ⟨rfl, hb⟩; have hsw16 : wc2.heap.size ≤ w16.heap.size := (by have h_ := hb.size; simpa using h_); have HB_w16 : Aside0 (Below w.heap.size w w16) := Aside0.mk (below_step (by repeat (first | (with_reducible first | exact HB_2.out | exact Below.refl _ _ | apply below_alloc | apply pw_below_drewN | apply below_drew1) | refine below_set ?_ (by first | omega | (simp; omega) | simp))) hb); clear hb) | (go_at_call 22; (with_reducible refine (saga_Cancel.calls k2 _ _ l0 t386 t387 t388 t389 t390 t391 t392 t393 t394 t395 t396 t397 t398 t399 t400 _ ?sd0 HC0.out A13.out).mono ?_); (case sd0 => exact Kd.C_below HR0.out (by repeat (first | (with_reducible first | exact HB_w16.out | exact Below.refl _ _ | apply below_alloc | apply pw_below_drewN | apply below_drew1) | refine below_set ?_ (by first | omega | (simp; omega) | simp)))); rintro e w17 ⟨rfl, hb⟩; have hsw17 : w16.heap.size ≤ w17.heap.size := (by have h_ := hb.size; simpa using h_); have HB_w17 : Aside0 (Below w.heap.size w w17) := Aside0.mk (below_step (by repeat (first | (with_reducible first | exact HB_w16.out | exact Below.refl _ _ | apply below_alloc | apply pw_below_drewN | apply below_drew1) | refine below_set ?_ (by first | omega | (simp; omega) | simp))) hb); clear hb)))
    (try simp only [Act.put, List.setIfInBounds_toArray, List.set_cons_zero, List.set_cons_succ])
    go_cut [40] (fun v40 wq14 => ∃ (kq : Nat) (x40_14 : Bool), v40 = .bool x40_14 ∧ Aside0 (drayagelaw14_SagaCancels.j1 kq l0 l1 l2 x40_14 = some r) ∧ Aside0 (kq ≤ k2) ∧ Aside0 (BX wq14 (w17.heap.size) [.int .i64 t393, .int .i64 t394, .int .i64 t395, .bool t396, .int .i64 t397, .bool t398, .int .i64 t399]) ∧ Aside0 (Below w.heap.size w wq14))
    case first =>
     have H := HC15.out
     clear HC15
     by_cases c18 : t400 = 0
     ·
      rw [if_pos c18] at H
      have c18b0 : (t400 == 0) = true := beq_iff_eq.mpr c18
      have c18b1 : (t400 != 0) = false := bne_eq_false_iff_eq.mpr c18
      clear c18
      have H' := Aside0.mk H
      clear H
      try go_wp2
      repeat (go_quiet (fail); try go_wp2)
      go_meet
      case rel => exact ⟨_, ((!(t393 == 3) || (!(t394 == 0) || (!(t395 == 0) || (t396 || (!(t397 == 0) || (t398 || (!(t399 == 2))))))))), (by first | rfl | (simp; done) | (simp [*]; done)), H', ⟨by have := HJ2.out; first | omega | exact Nat.le_refl _⟩, ⟨BX.mk7 (by first | (go_simp; done) | (simp (maxDischargeDepth := 8) [go_sem, *]; done)) (by first | (go_simp; done) | (simp (maxDischargeDepth := 8) [go_sem, *]; done)) (by first | (go_simp; done) | (simp (maxDischargeDepth := 8) [go_sem, *]; done)) (by first | (go_simp; done) | (simp (maxDischargeDepth := 8) [go_sem, *]; done)) (by first | (go_simp; done) | (simp (maxDischargeDepth := 8) [go_sem, *]; done)) (by first | (go_simp; done) | (simp (maxDischargeDepth := 8) [go_sem, *]; done)) (by first | (go_simp; done) | (simp (maxDischargeDepth := 8) [go_sem, *]; done)) (by first | (go_simp; done) | (simp (maxDischargeDepth := 8) [go_sem, *]; done)) (by first | (go_simp; done) | (simp (maxDischargeDepth := 8) [go_sem, *]; done)) (by first | (go_simp; done) | (simp (maxDischargeDepth := 8) [go_sem, *]; done)) (by first | (go_simp; done) | (simp (maxDischargeDepth := 8) [go_sem, *]; done)) (by first | (go_simp; done) | (simp (maxDischargeDepth := 8) [go_sem, *]; done)) (by first | (go_simp; done) | (simp (maxDischargeDepth := 8) [go_sem, *]; done)) (by first | (go_simp; done) | (simp (maxDischargeDepth := 8) [go_sem, *]; done)) (by first | omega | (simp; done) | (simp; omega))⟩, ⟨(by repeat (first | (with_reducible first | exact HB_w17.out | exact Below.refl _ _ | apply below_alloc | apply pw_below_drewN | apply below_drew1) | refine below_set ?_ (by first | omega | (simp; omega) | simp)))⟩⟩
     ·
      rw [if_neg c18] at H
      have c18b0 : (t400 == 0) = false := beq_eq_false_iff_ne.mpr c18
      have c18b1 : (t400 != 0) = true := bne_iff_ne.mpr c18
      clear c18
      have H' := Aside0.mk H
      clear H
      try go_wp2
      repeat (go_quiet (fail); try go_wp2)
      go_meet
      case rel => exact ⟨_, (true), (by first | rfl | (simp; done) | (simp [*]; done)), H', ⟨by have := HJ2.out; first | omega | exact Nat.le_refl _⟩, ⟨BX.mk7 (by first | (go_simp; done) | (simp (maxDischargeDepth := 8) [go_sem, *]; done)) (by first | (go_simp; done) | (simp (maxDischargeDepth := 8) [go_sem, *]; done)) (by first | (go_simp; done) | (simp (maxDischargeDepth := 8) [go_sem, *]; done)) (by first | (go_simp; done) | (simp (maxDischargeDepth := 8) [go_sem, *]; done)) (by first | (go_simp; done) | (simp (maxDischargeDepth := 8) [go_sem, *]; done)) (by first | (go_simp; done) | (simp (maxDischargeDepth := 8) [go_sem, *]; done)) (by first | (go_simp; done) | (simp (maxDischargeDepth := 8) [go_sem, *]; done)) (by first | (go_simp; done) | (simp (maxDischargeDepth := 8) [go_sem, *]; done)) (by first | (go_simp; done) | (simp (maxDischargeDepth := 8) [go_sem, *]; done)) (by first | (go_simp; done) | (simp (maxDischargeDepth := 8) [go_sem, *]; done)) (by first | (go_simp; done) | (simp (maxDischargeDepth := 8) [go_sem, *]; done)) (by first | (go_simp; done) | (simp (maxDischargeDepth := 8) [go_sem, *]; done)) (by first | (go_simp; done) | (simp (maxDischargeDepth := 8) [go_sem, *]; done)) (by first | (go_simp; done) | (simp (maxDischargeDepth := 8) [go_sem, *]; done)) (by first | omega | (simp; done) | (simp; omega))⟩, ⟨(by repeat (first | (with_reducible first | exact HB_w17.out | exact Below.refl _ _ | apply below_alloc | apply pw_below_drewN | apply below_drew1) | refine below_set ?_ (by first | omega | (simp; omega) | simp)))⟩⟩
    case rest =>
     rename World => wc14
     clear HC15
     obtain ⟨kq, x40_14, rfl, HA, HJ14, BX401_14, HB_14⟩ := hcut
     have hs14 : w.heap.size ≤ wc14.heap.size := HB_14.out.size
     obtain ⟨hz401_14_0, hz401_14_1, hz401_14_2, hz401_14_3, hz401_14_4, hz401_14_5, hz401_14_6, hf401_14_0, hf401_14_1, hf401_14_2, hf401_14_3, hf401_14_4, hf401_14_5, hf401_14_6, hlt401_14⟩ := BX401_14.out.out7
     cases kq with
     | zero => exact absurd HA.out (by simp [drayagelaw14_SagaCancels.j1])
     | succ k14 =>
      have H := HA.out
      clear HA
      simp only [drayagelaw14_SagaCancels.j1] at H
      by_cases c20 : x40_14 = true
      ·
       rw [if_pos c20] at H
       exact absurd H (by simp)
      ·
       replace c20 := Bool.eq_false_iff.mpr c20; subst c20
       rw [if_neg (by decide)] at H
       obtain ⟨⟨t402, t403, t404, t405, t406, t407, t408⟩, A_, H⟩ := Option.bind_eq_some_iff.mp H
       try dsimp only at H
       have A21 := Aside0.mk A_
       clear A_
       have HC23 := Aside0.mk H
       clear H
       have hlwc14_401_0 : w17.heap.size < wc14.heap.size := (by omega)
       try go_wp2_with (first | (go_at_call 13; (with_reducible refine (saga_Start.calls  t402 t403 t404 t405 t406 t407 t408 _ A21.out).mono ?_); rintro e w24 ⟨rfl, hb⟩; have hsw24 : wc14.heap.size ≤ w24.heap.size := (by have h_ := hb.size; simpa using h_); have HB_w24 : Aside0 (Below w.heap.size w w24) := Aside0.mk (below_step (by repeat (first | (with_reducible first | exact HB_14.out | exact Below.refl _ _ | apply below_alloc | apply pw_below_drewN | apply below_drew1) | refine below_set ?_ (by first | omega | (simp; omega) | simp))) hb); have cw24_401 := fun o_ : Nat => hb.cell (p := ⟨w17.heap.size, o_, none⟩) (by first | omega | (simp; done) | (simp; omega)); have fw24_401 := fun o_ : Nat => hb.frozen (p := ⟨w17.heap.size, o_, none⟩) (by first | omega | (simp; done) | (simp; omega)); clear hb; have hlw24_401_0 : w17.heap.size < w24.heap.size := (by omega); have hlw24_401_1 : w17.heap.size < w24.heap.size + 1 := (by omega); have hnw24_401_0 : ¬ (w17.heap.size = w24.heap.size) := (by omega); have hmw24_401_0 : ¬ (w24.heap.size = w17.heap.size) := (by omega)))
       repeat (go_quiet (first | (go_at_call 13; (with_reducible refine (saga_Start.calls  t402 t403 t404 t405 t406 t407 t408 _ A21.out).mono ?_); rintro e w24 ⟨rfl, hb⟩; have hsw24 : wc14.heap.size ≤ w24.heap.size := (by have h_ := hb.size; simpa using h_); have HB_w24 : Aside0 (Below w.heap.size w w24) := Aside0.mk (below_step (by repeat (first | (with_reducible first | exact HB_14.out | exact Below.refl _ _ | apply below_alloc | apply pw_below_drewN | apply below_drew1) | refine below_set ?_ (by first | omega | (simp; omega) | simp))) hb); have cw24_401 := fun o_ : Nat => hb.cell (p := ⟨w17.heap.size, o_, none⟩) (by first | omega | (simp; done) | (simp; omega)); have fw24_401 := fun o_ : Nat => hb.frozen (p := ⟨w17.heap.size, o_, none⟩) (by first | omega | (simp; done) | (simp; omega)); clear hb; have hlw24_401_0 : w17.heap.size < w24.heap.size := (by omega); have hlw24_401_1 : w17.heap.size < w24.heap.size + 1 := (by omega); have hnw24_401_0 : ¬ (w17.heap.size = w24.heap.size) := (by omega); have hmw24_401_0 : ¬ (w24.heap.size = w17.heap.size) := (by omega))); try go_wp2_with (first | (go_at_call 13; (with_reducible refine (saga_Start.calls  t402 t403 t404 t405 t406 t407 t408 _ A21.out).mono ?_); rintro e w24 ⟨rfl, hb⟩; have hsw24 : wc14.heap.size ≤ w24.heap.size := (by have h_ := hb.size; simpa using h_); have HB_w24 : Aside0 (Below w.heap.size w w24) := Aside0.mk (below_step (by repeat (first | (with_reducible first | exact HB_14.out | exact Below.refl _ _ | apply below_alloc | apply pw_below_drewN | apply below_drew1) | refine below_set ?_ (by first | omega | (simp; omega) | simp))) hb); have cw24_401 := fun o_ : Nat => hb.cell (p := ⟨w17.heap.size, o_, none⟩) (by first | omega | (simp; done) | (simp; omega)); have fw24_401 := fun o_ : Nat => hb.frozen (p := ⟨w17.heap.size, o_, none⟩) (by first | omega | (simp; done) | (simp; omega)); clear hb; have hlw24_401_0 : w17.heap.size < w24.heap.size := (by omega); have hlw24_401_1 : w17.heap.size < w24.heap.size + 1 := (by omega); have hnw24_401_0 : ¬ (w17.heap.size = w24.heap.size) := (by omega); have hmw24_401_0 : ¬ (w24.heap.size = w17.heap.size) := (by omega))))
       go_loopg [10] k14 (fun kq v10 wq22 => ∃ (x10_22 : Int) (x410000_22 : Int) (x410001_22 : Int) (x410002_22 : Int) (x410003_22 : Bool) (x410004_22 : Int) (x410005_22 : Bool) (x410006_22 : Int), v10 = .int .i64 x10_22 ∧ Aside0 (drayagelaw14_SagaCancels.l0 kq l0 l1 l2 x10_22 x410000_22 x410001_22 x410002_22 x410003_22 x410004_22 x410005_22 x410006_22 = some r) ∧ Aside0 (kq ≤ k14) ∧ Aside0 (BX wq22 (w17.heap.size) [.int .i64 t393, .int .i64 t394, .int .i64 t395, .bool t396, .int .i64 t397, .bool t398, .int .i64 t399]) ∧ Aside0 (BX wq22 (w24.heap.size) [.int .i64 x410000_22, .int .i64 x410001_22, .int .i64 x410002_22, .bool x410003_22, .int .i64 x410004_22, .bool x410005_22, .int .i64 x410006_22]) ∧ Aside0 (Below w.heap.size w wq22))
       case atStart => exact ⟨(0), (t402), (t403), (t404), (t405), (t406), (t407), (t408), (by first | rfl | (simp; done) | (simp [*]; done)), HC23, ⟨Nat.le_refl _⟩, ⟨BX.mk7 (by first | (go_simp; done) | (simp (maxDischargeDepth := 8) [go_sem, *]; done)) (by first | (go_simp; done) | (simp (maxDischargeDepth := 8) [go_sem, *]; done)) (by first | (go_simp; done) | (simp (maxDischargeDepth := 8) [go_sem, *]; done)) (by first | (go_simp; done) | (simp (maxDischargeDepth := 8) [go_sem, *]; done)) (by first | (go_simp; done) | (simp (maxDischargeDepth := 8) [go_sem, *]; done)) (by first | (go_simp; done) | (simp (maxDischargeDepth := 8) [go_sem, *]; done)) (by first | (go_simp; done) | (simp (maxDischargeDepth := 8) [go_sem, *]; done)) (by first | (go_simp; done) | (simp (maxDischargeDepth := 8) [go_sem, *]; done)) (by first | (go_simp; done) | (simp (maxDischargeDepth := 8) [go_sem, *]; done)) (by first | (go_simp; done) | (simp (maxDischargeDepth := 8) [go_sem, *]; done)) (by first | (go_simp; done) | (simp (maxDischargeDepth := 8) [go_sem, *]; done)) (by first | (go_simp; done) | (simp (maxDischargeDepth := 8) [go_sem, *]; done)) (by first | (go_simp; done) | (simp (maxDischargeDepth := 8) [go_sem, *]; done)) (by first | (go_simp; done) | (simp (maxDischargeDepth := 8) [go_sem, *]; done)) (by first | omega | (simp; done) | (simp; omega))⟩, ⟨BX.mk7 (by first | (go_simp; done) | (simp (maxDischargeDepth := 8) [go_sem, *]; done)) (by first | (go_simp; done) | (simp (maxDischargeDepth := 8) [go_sem, *]; done)) (by first | (go_simp; done) | (simp (maxDischargeDepth := 8) [go_sem, *]; done)) (by first | (go_simp; done) | (simp (maxDischargeDepth := 8) [go_sem, *]; done)) (by first | (go_simp; done) | (simp (maxDischargeDepth := 8) [go_sem, *]; done)) (by first | (go_simp; done) | (simp (maxDischargeDepth := 8) [go_sem, *]; done)) (by first | (go_simp; done) | (simp (maxDischargeDepth := 8) [go_sem, *]; done)) (by first | (go_simp; done) | (simp (maxDischargeDepth := 8) [go_sem, *]; done)) (by first | (go_simp; done) | (simp (maxDischargeDepth := 8) [go_sem, *]; done)) (by first | (go_simp; done) | (simp (maxDischargeDepth := 8) [go_sem, *]; done)) (by first | (go_simp; done) | (simp (maxDischargeDepth := 8) [go_sem, *]; done)) (by first | (go_simp; done) | (simp (maxDischargeDepth := 8) [go_sem, *]; done)) (by first | (go_simp; done) | (simp (maxDischargeDepth := 8) [go_sem, *]; done)) (by first | (go_simp; done) | (simp (maxDischargeDepth := 8) [go_sem, *]; done)) (by first | omega | (simp; done) | (simp; omega))⟩, ⟨(by repeat (first | (with_reducible first | exact HB_w24.out | exact Below.refl _ _ | apply below_alloc | apply pw_below_drewN | apply below_drew1) | refine below_set ?_ (by first | omega | (simp; omega) | simp)))⟩⟩
       case round =>
        rename World => wr22
        clear HC23
        obtain ⟨x10_22, x410000_22, x410001_22, x410002_22, x410003_22, x410004_22, x410005_22, x410006_22, rfl, HA, HJ22, BX401_22, BX409_22, HB_22⟩ := hrel
        have hs22 : w.heap.size ≤ wr22.heap.size := HB_22.out.size
        obtain ⟨hz401_22_0, hz401_22_1, hz401_22_2, hz401_22_3, hz401_22_4, hz401_22_5, hz401_22_6, hf401_22_0, hf401_22_1, hf401_22_2, hf401_22_3, hf401_22_4, hf401_22_5, hf401_22_6, hlt401_22⟩ := BX401_22.out.out7
        obtain ⟨hz409_22_0, hz409_22_1, hz409_22_2, hz409_22_3, hz409_22_4, hz409_22_5, hz409_22_6, hf409_22_0, hf409_22_1, hf409_22_2, hf409_22_3, hf409_22_4, hf409_22_5, hf409_22_6, hlt409_22⟩ := BX409_22.out.out7
        cases gk with
        | zero => exact absurd HA.out (by simp [drayagelaw14_SagaCancels.l0])
        | succ k22 =>
         have H := HA.out
         clear HA
         simp only [drayagelaw14_SagaCancels.l0] at H
         have HC27 := Aside0.mk H
         clear H
         have hlwr22_401_0 : w17.heap.size < wr22.heap.size := (by omega)
         have hlwr22_409_0 : w24.heap.size < wr22.heap.size := (by omega)
         go_upto_region 8 with (fail)
         repeat (go_quiet (fail); go_upto_region 8 with (fail))
         go_cut [49] (fun v49 wq26 => ∃ (kq : Nat) (x49_26 : Bool), v49 = .bool x49_26 ∧ Aside0 (drayagelaw14_SagaCancels.j3 kq l0 l1 l2 x10_22 x49_26 x410000_22 x410001_22 x410002_22 x410003_22 x410004_22 x410005_22 x410006_22 = some r) ∧ Aside0 (kq ≤ k22) ∧ Aside0 (BX wq26 (w17.heap.size) [.int .i64 t393, .int .i64 t394, .int .i64 t395, .bool t396, .int .i64 t397, .bool t398, .int .i64 t399]) ∧ Aside0 (BX wq26 (w24.heap.size) [.int .i64 x410000_22, .int .i64 x410001_22, .int .i64 x410002_22, .bool x410003_22, .int .i64 x410004_22, .bool x410005_22, .int .i64 x410006_22]) ∧ Aside0 (Below w.heap.size w wq26))
         case first =>
          have H := HC27.out
          clear HC27
          by_cases c28 : x10_22 < (l1.length : Int)
          ·
           rw [if_pos c28] at H
           have c28b0 : decide (x10_22 < (l1.length : Int)) = true := decide_eq_true c28
           clear c28
           have H' := Aside0.mk H
           clear H
           have hlwr22_401_0 : w17.heap.size < wr22.heap.size := (by omega)
           have hlwr22_409_0 : w24.heap.size < wr22.heap.size := (by omega)
           try go_wp2
           repeat (go_quiet (fail); try go_wp2)
           go_meet
           case rel => exact ⟨_, (decide (x10_22 < 60)), (by first | rfl | (simp; done) | (simp [*]; done)), H', ⟨by have := HJ2.out; have := HJ14.out; have := HJ22.out; first | omega | exact Nat.le_refl _⟩, ⟨BX.mk7 (by first | (go_simp; done) | (simp (maxDischargeDepth := 8) [go_sem, *]; done)) (by first | (go_simp; done) | (simp (maxDischargeDepth := 8) [go_sem, *]; done)) (by first | (go_simp; done) | (simp (maxDischargeDepth := 8) [go_sem, *]; done)) (by first | (go_simp; done) | (simp (maxDischargeDepth := 8) [go_sem, *]; done)) (by first | (go_simp; done) | (simp (maxDischargeDepth := 8) [go_sem, *]; done)) (by first | (go_simp; done) | (simp (maxDischargeDepth := 8) [go_sem, *]; done)) (by first | (go_simp; done) | (simp (maxDischargeDepth := 8) [go_sem, *]; done)) (by first | (go_simp; done) | (simp (maxDischargeDepth := 8) [go_sem, *]; done)) (by first | (go_simp; done) | (simp (maxDischargeDepth := 8) [go_sem, *]; done)) (by first | (go_simp; done) | (simp (maxDischargeDepth := 8) [go_sem, *]; done)) (by first | (go_simp; done) | (simp (maxDischargeDepth := 8) [go_sem, *]; done)) (by first | (go_simp; done) | (simp (maxDischargeDepth := 8) [go_sem, *]; done)) (by first | (go_simp; done) | (simp (maxDischargeDepth := 8) [go_sem, *]; done)) (by first | (go_simp; done) | (simp (maxDischargeDepth := 8) [go_sem, *]; done)) (by first | omega | (simp; done) | (simp; omega))⟩, ⟨BX.mk7 (by first | (go_simp; done) | (simp (maxDischargeDepth := 8) [go_sem, *]; done)) (by first | (go_simp; done) | (simp (maxDischargeDepth := 8) [go_sem, *]; done)) (by first | (go_simp; done) | (simp (maxDischargeDepth := 8) [go_sem, *]; done)) (by first | (go_simp; done) | (simp (maxDischargeDepth := 8) [go_sem, *]; done)) (by first | (go_simp; done) | (simp (maxDischargeDepth := 8) [go_sem, *]; done)) (by first | (go_simp; done) | (simp (maxDischargeDepth := 8) [go_sem, *]; done)) (by first | (go_simp; done) | (simp (maxDischargeDepth := 8) [go_sem, *]; done)) (by first | (go_simp; done) | (simp (maxDischargeDepth := 8) [go_sem, *]; done)) (by first | (go_simp; done) | (simp (maxDischargeDepth := 8) [go_sem, *]; done)) (by first | (go_simp; done) | (simp (maxDischargeDepth := 8) [go_sem, *]; done)) (by first | (go_simp; done) | (simp (maxDischargeDepth := 8) [go_sem, *]; done)) (by first | (go_simp; done) | (simp (maxDischargeDepth := 8) [go_sem, *]; done)) (by first | (go_simp; done) | (simp (maxDischargeDepth := 8) [go_sem, *]; done)) (by first | (go_simp; done) | (simp (maxDischargeDepth := 8) [go_sem, *]; done)) (by first | omega | (simp; done) | (simp; omega))⟩, ⟨(by repeat (first | (with_reducible first | exact HB_22.out | exact Below.refl _ _ | apply below_alloc | apply pw_below_drewN | apply below_drew1) | refine below_set ?_ (by first | omega | (simp; omega) | simp)))⟩⟩
          ·
           rw [if_neg c28] at H
           have c28b0 : decide (x10_22 < (l1.length : Int)) = false := decide_eq_false c28
           clear c28
           have H' := Aside0.mk H
           clear H
           have hlwr22_401_0 : w17.heap.size < wr22.heap.size := (by omega)
           have hlwr22_409_0 : w24.heap.size < wr22.heap.size := (by omega)
           try go_wp2
           repeat (go_quiet (fail); try go_wp2)
           go_meet
           case rel => exact ⟨_, (false), (by first | rfl | (simp; done) | (simp [*]; done)), H', ⟨by have := HJ2.out; have := HJ14.out; have := HJ22.out; first | omega | exact Nat.le_refl _⟩, ⟨BX.mk7 (by first | (go_simp; done) | (simp (maxDischargeDepth := 8) [go_sem, *]; done)) (by first | (go_simp; done) | (simp (maxDischargeDepth := 8) [go_sem, *]; done)) (by first | (go_simp; done) | (simp (maxDischargeDepth := 8) [go_sem, *]; done)) (by first | (go_simp; done) | (simp (maxDischargeDepth := 8) [go_sem, *]; done)) (by first | (go_simp; done) | (simp (maxDischargeDepth := 8) [go_sem, *]; done)) (by first | (go_simp; done) | (simp (maxDischargeDepth := 8) [go_sem, *]; done)) (by first | (go_simp; done) | (simp (maxDischargeDepth := 8) [go_sem, *]; done)) (by first | (go_simp; done) | (simp (maxDischargeDepth := 8) [go_sem, *]; done)) (by first | (go_simp; done) | (simp (maxDischargeDepth := 8) [go_sem, *]; done)) (by first | (go_simp; done) | (simp (maxDischargeDepth := 8) [go_sem, *]; done)) (by first | (go_simp; done) | (simp (maxDischargeDepth := 8) [go_sem, *]; done)) (by first | (go_simp; done) | (simp (maxDischargeDepth := 8) [go_sem, *]; done)) (by first | (go_simp; done) | (simp (maxDischargeDepth := 8) [go_sem, *]; done)) (by first | (go_simp; done) | (simp (maxDischargeDepth := 8) [go_sem, *]; done)) (by first | omega | (simp; done) | (simp; omega))⟩, ⟨BX.mk7 (by first | (go_simp; done) | (simp (maxDischargeDepth := 8) [go_sem, *]; done)) (by first | (go_simp; done) | (simp (maxDischargeDepth := 8) [go_sem, *]; done)) (by first | (go_simp; done) | (simp (maxDischargeDepth := 8) [go_sem, *]; done)) (by first | (go_simp; done) | (simp (maxDischargeDepth := 8) [go_sem, *]; done)) (by first | (go_simp; done) | (simp (maxDischargeDepth := 8) [go_sem, *]; done)) (by first | (go_simp; done) | (simp (maxDischargeDepth := 8) [go_sem, *]; done)) (by first | (go_simp; done) | (simp (maxDischargeDepth := 8) [go_sem, *]; done)) (by first | (go_simp; done) | (simp (maxDischargeDepth := 8) [go_sem, *]; done)) (by first | (go_simp; done) | (simp (maxDischargeDepth := 8) [go_sem, *]; done)) (by first | (go_simp; done) | (simp (maxDischargeDepth := 8) [go_sem, *]; done)) (by first | (go_simp; done) | (simp (maxDischargeDepth := 8) [go_sem, *]; done)) (by first | (go_simp; done) | (simp (maxDischargeDepth := 8) [go_sem, *]; done)) (by first | (go_simp; done) | (simp (maxDischargeDepth := 8) [go_sem, *]; done)) (by first | (go_simp; done) | (simp (maxDischargeDepth := 8) [go_sem, *]; done)) (by first | omega | (simp; done) | (simp; omega))⟩, ⟨(by repeat (first | (with_reducible first | exact HB_22.out | exact Below.refl _ _ | apply below_alloc | apply pw_below_drewN | apply below_drew1) | refine below_set ?_ (by first | omega | (simp; omega) | simp)))⟩⟩
         case rest =>
          rename World => wc26
          clear HC27
          obtain ⟨kq, x49_26, rfl, HA, HJ26, BX401_26, BX409_26, HB_26⟩ := hcut
          have hs26 : w.heap.size ≤ wc26.heap.size := HB_26.out.size
          obtain ⟨hz401_26_0, hz401_26_1, hz401_26_2, hz401_26_3, hz401_26_4, hz401_26_5, hz401_26_6, hf401_26_0, hf401_26_1, hf401_26_2, hf401_26_3, hf401_26_4, hf401_26_5, hf401_26_6, hlt401_26⟩ := BX401_26.out.out7
          obtain ⟨hz409_26_0, hz409_26_1, hz409_26_2, hz409_26_3, hz409_26_4, hz409_26_5, hz409_26_6, hf409_26_0, hf409_26_1, hf409_26_2, hf409_26_3, hf409_26_4, hf409_26_5, hf409_26_6, hlt409_26⟩ := BX409_26.out.out7
          cases kq with
          | zero => exact absurd HA.out (by simp [drayagelaw14_SagaCancels.j3])
          | succ k26 =>
           have H := HA.out
           clear HA
           simp only [drayagelaw14_SagaCancels.j3] at H
           by_cases c30 : x49_26 = true
           ·
            subst c30
            rw [if_pos rfl] at H
            by_cases c31 : 0 ≤ x10_22
            ·
             rw [if_pos c31] at H
             have c31b0 : decide (0 ≤ x10_22) = true := decide_eq_true c31
             clear c31
             by_cases c32 : x10_22 < (l1.length : Int)
             ·
              rw [if_pos c32] at H
              have c32b0 : decide (x10_22 < (l1.length : Int)) = true := decide_eq_true c32
              clear c32
              obtain ⟨⟨t411, t412, t413, t414, t415, t416, t417, t418⟩, A_, H⟩ := Option.bind_eq_some_iff.mp H
              try dsimp only at H
              have A33 := Aside0.mk A_
              clear A_
              by_cases c34 : t418 = true
              ·
               subst c34
               rw [if_pos rfl] at H
               have H' := Aside0.mk H
               clear H
               try go_wp2
               have BR401 := Aside0.mk (BX_drew BX401_26.out)
               have BR409 := Aside0.mk (BX_drew BX409_26.out)
               have HBR := Aside0.mk (below_drew1 HB_26.out)
               have p410 : 0 ≤ (x10_22 : Int) := of_decide_eq_true (by first | (with_reducible assumption) | assumption)
               have q410 : x10_22 < (l1.length : Int) := of_decide_eq_true (by first | (with_reducible assumption) | assumption)
               obtain ⟨ad410, e410, hx410_0, hx410_1, hx410_2⟩ := at_T54 HR1.out (x10_22) p410 q410
               have hw410_0 := hx410_0
               have hw410_1 := hx410_1
               have hw410_2 := hx410_2
               cases e410
               replace hx410_0 := (HBR.out.cell (World.block_lt_of_cell? w _ hx410_0)).trans hx410_0
               replace hx410_1 := (HBR.out.cell (World.block_lt_of_cell? w _ hx410_1)).trans hx410_1
               replace hx410_2 := (HBR.out.cell (World.block_lt_of_cell? w _ hx410_2)).trans hx410_2
               replace p410 := eq_true p410
               replace q410 := eq_true q410
               refine start_ (n := 13) (S := fun w' => w'.cell? ⟨w24.heap.size, 0, none⟩ = some (.int .i64 x410000_22) ∧ w'.cell? ⟨w24.heap.size, 1, none⟩ = some (.int .i64 x410001_22) ∧ w'.cell? ⟨w24.heap.size, 2, none⟩ = some (.int .i64 x410002_22) ∧ w'.cell? ⟨w24.heap.size, 3, none⟩ = some (.bool x410003_22) ∧ w'.cell? ⟨w24.heap.size, 4, none⟩ = some (.int .i64 x410004_22) ∧ w'.cell? ⟨w24.heap.size, 5, none⟩ = some (.bool x410005_22) ∧ w'.cell? ⟨w24.heap.size, 6, none⟩ = some (.int .i64 x410006_22) ∧ w'.cell? (ad410.add ((x10_22).toNat * 3)) = some (.int .i64 ((rd_T54 l1 x10_22).f0)) ∧ w'.cell? ⟨(ad410.add ((x10_22).toNat * 3)).block, (ad410.add ((x10_22).toNat * 3)).off + 1, none⟩ = some (.int .i64 ((rd_T54 l1 x10_22).f1)) ∧ w'.cell? ⟨(ad410.add ((x10_22).toNat * 3)).block, (ad410.add ((x10_22).toNat * 3)).off + 2, none⟩ = some (.int .i64 ((rd_T54 l1 x10_22).f2))) (ds := []) #[false, false, false, false, false, false, false, false, false, false, false, false, false] (by kernel_rfl) rfl rfl ⟨(BR409.out.1 0 _ rfl).1, (BR409.out.1 1 _ rfl).1, (BR409.out.1 2 _ rfl).1, (BR409.out.1 3 _ rfl).1, (BR409.out.1 4 _ rfl).1, (BR409.out.1 5 _ rfl).1, (BR409.out.1 6 _ rfl).1, ((HBR.out.cell (World.block_lt_of_cell? w _ hw410_0)).trans hw410_0), ((HBR.out.cell (World.block_lt_of_cell? w _ hw410_1)).trans hw410_1), ((HBR.out.cell (World.block_lt_of_cell? w _ hw410_2)).trans hw410_2)⟩ (fun hHeld => ?_); refine with_tabW drayagelaw14_SagaCancels.tab10 drayagelaw14_SagaCancels.bits10 (fun HT_ HW_ => ?_)
               generalize wc26.drew = wd410 at BR401 BR409 HBR hx410_0 hx410_1 hx410_2 hHeld ⊢
               refine pure_ (i := 0) (N := some 53) (v := ?_) (a' := ?_) #[true, false, false, false, false, false, false, false, false, false, false, false, false] rfl rfl (any_of HT_.out (by kernel_rfl)) (fun _ _ _ h => h) (Or.inl ⟨by rfl, ?_⟩) ?_ ?_
               rotate_left
               ·
                intro w'; go_simp; with_reducible rfl
               rotate_left
               ·
                simp only [Act.put, List.setIfInBounds_toArray, List.set_cons_zero, List.set_cons_succ, i64_w, i32_w]; rfl
               refine pure_ (i := 2) (N := some 55) (v := ?_) (a' := ?_) #[true, false, true, false, false, false, false, false, false, false, false, false, false] rfl rfl (any_of HT_.out (by kernel_rfl)) (fun _ _ _ h => h) (Or.inl ⟨by rfl, ?_⟩) ?_ ?_
               rotate_left
               ·
                intro w'; go_simp; with_reducible rfl
               rotate_left
               ·
                simp only [Act.put, List.setIfInBounds_toArray, List.set_cons_zero, List.set_cons_succ, i64_w, i32_w]; rfl
               refine pure_ (i := 3) (N := some 56) (v := ?_) (a' := ?_) #[true, false, true, true, false, false, false, false, false, false, false, false, false] rfl rfl (any_of HT_.out (by kernel_rfl)) (fun _ _ _ h => h) (Or.inl ⟨by rfl, ?_⟩) ?_ ?_
               rotate_left
               ·
                intro w'; go_simp; with_reducible rfl
               rotate_left
               ·
                simp only [Act.put, List.setIfInBounds_toArray, List.set_cons_zero, List.set_cons_succ, i64_w, i32_w]; rfl
               refine pure_ (i := 4) (N := some 57) (v := ?_) (a' := ?_) #[true, false, true, true, true, false, false, false, false, false, false, false, false] rfl rfl (any_of HT_.out (by kernel_rfl)) (fun _ _ _ h => h) (Or.inl ⟨by rfl, ?_⟩) ?_ ?_
               rotate_left
               ·
                intro w'; go_simp; with_reducible rfl
               rotate_left
               ·
                simp only [Act.put, List.setIfInBounds_toArray, List.set_cons_zero, List.set_cons_succ, i64_w, i32_w]; rfl
               refine take_ (i := 1) (N := some 54) (v := ?_) (a' := ?_) #[true, true, true, true, true, false, false, false, false, false, false, false, false] rfl rfl (take_ofW HT_.out HW_.out (by kernel_rfl)) (fun _ _ _ h => h) (Or.inl ⟨by rfl, ?_⟩) hHeld ?_ ?_
               rotate_left
               ·
                rintro w' ⟨s0, s1, s2, s3, s4, s5, s6, s7, s8, s9⟩; go_simp; with_reducible rfl
               rotate_left
               ·
                simp only [Act.put, List.setIfInBounds_toArray, List.set_cons_zero, List.set_cons_succ, i64_w, i32_w]; rfl
               refine take_ (i := 5) (N := some 58) (v := ?_) (a' := ?_) #[true, true, true, true, true, true, false, false, false, false, false, false, false] rfl rfl (take_ofW HT_.out HW_.out (by kernel_rfl)) (fun _ _ _ h => h) (Or.inl ⟨by rfl, ?_⟩) hHeld ?_ ?_
               rotate_left
               ·
                rintro w' ⟨s0, s1, s2, s3, s4, s5, s6, s7, s8, s9⟩; go_simp; with_reducible rfl
               rotate_left
               ·
                simp only [Act.put, List.setIfInBounds_toArray, List.set_cons_zero, List.set_cons_succ, i64_w, i32_w]; rfl
               refine join_ (σ := Nat) 2 #[true, true, true, true, true, true, true, true, true, true, true, false, false] (fun s_ => [(59, .tuple #[.agg #[.int .i64 t411, .int .i64 t412, .int .i64 t413, .bool t414, .int .i64 t415, .bool t416, .int .i64 t417], .bool true]), (11, .pointer (some ⟨s_, 0, none⟩)), (52, .tuple #[.agg #[.int .i64 t411, .int .i64 t412, .int .i64 t413, .bool t414, .int .i64 t415, .bool t416, .int .i64 t417], .bool true]), (60, .agg #[.int .i64 t411, .int .i64 t412, .int .i64 t413, .bool t414, .int .i64 t415, .bool t416, .int .i64 t417]), (61, .bool true)]) (fun s_ w' => (w'.cell? ⟨w24.heap.size, 0, none⟩ = some (.int .i64 x410000_22) ∧ w'.cell? ⟨w24.heap.size, 1, none⟩ = some (.int .i64 x410001_22) ∧ w'.cell? ⟨w24.heap.size, 2, none⟩ = some (.int .i64 x410002_22) ∧ w'.cell? ⟨w24.heap.size, 3, none⟩ = some (.bool x410003_22) ∧ w'.cell? ⟨w24.heap.size, 4, none⟩ = some (.int .i64 x410004_22) ∧ w'.cell? ⟨w24.heap.size, 5, none⟩ = some (.bool x410005_22) ∧ w'.cell? ⟨w24.heap.size, 6, none⟩ = some (.int .i64 x410006_22) ∧ w'.cell? (ad410.add ((x10_22).toNat * 3)) = some (.int .i64 ((rd_T54 l1 x10_22).f0)) ∧ w'.cell? ⟨(ad410.add ((x10_22).toNat * 3)).block, (ad410.add ((x10_22).toNat * 3)).off + 1, none⟩ = some (.int .i64 ((rd_T54 l1 x10_22).f1)) ∧ w'.cell? ⟨(ad410.add ((x10_22).toNat * 3)).block, (ad410.add ((x10_22).toNat * 3)).off + 2, none⟩ = some (.int .i64 ((rd_T54 l1 x10_22).f2))) ∧ BX w' (w17.heap.size) [.int .i64 t393, .int .i64 t394, .int .i64 t395, .bool t396, .int .i64 t397, .bool t398, .int .i64 t399] ∧ BX w' (w24.heap.size) [.int .i64 x410000_22, .int .i64 x410001_22, .int .i64 x410002_22, .bool x410003_22, .int .i64 x410004_22, .bool x410005_22, .int .i64 x410006_22] ∧ (w'.heap[s_]? = some (.cells #[.int .i64 0, .int .i64 0, .int .i64 0, .bool false, .int .i64 0, .bool false, .int .i64 0] 28 (0, 0))) ∧ (w.heap.size ≤ s_) ∧ (w17.heap.size ≠ s_) ∧ (s_ ≠ w17.heap.size) ∧ (w24.heap.size ≠ s_) ∧ (s_ ≠ w24.heap.size) ∧ (Below w.heap.size w w')) ?_ ?_
               rotate_left
               ·
                intro hCont
                refine two_ (i := 6) (j := 10) (Ni := some 59) (Nj := some 11) #[true, true, true, true, true, true, true, false, false, false, false, false, false] #[true, true, true, true, true, true, false, false, false, false, true, false, false] rfl rfl rfl rfl (two_of HT_.out (by kernel_rfl)) (by decide) (by decide) (fun K hK => ?_) (fun K hK => ?_)
                ·
                 refine goes_ Try.func26 (by kernel_rfl) rfl #[.slice A0 l0.length c0, .agg #[.int .i64 x410000_22, .int .i64 x410001_22, .int .i64 x410002_22, .bool x410003_22, .int .i64 x410004_22, .bool x410005_22, .int .i64 x410006_22], .agg #[.int .i64 ((rd_T54 l1 x10_22).f0), .int .i64 ((rd_T54 l1 x10_22).f1), .int .i64 ((rd_T54 l1 x10_22).f2)]] (by rfl) rfl rfl (by (try simp only [List.map_toArray, List.map_cons, List.map_nil]); first | done | rfl | (simp only [List.length_drop, List.length_take]; rfl)) ?_
                 with_reducible refine (drayagelaw14_happens.calls k26 _ _ l0 x410000_22 x410001_22 x410002_22 x410003_22 x410004_22 x410005_22 x410006_22 ((rd_T54 l1 x10_22).f0) ((rd_T54 l1 x10_22).f1) ((rd_T54 l1 x10_22).f2) t411 t412 t413 t414 t415 t416 t417 true _ ?side1 HC0.out A33.out).mono ?_
                 (case side1 => exact Kd.C_below HR0.out HBR.out)
                 rintro e wc_ ⟨rfl, hb⟩
                 refine ⟨_, rfl, ?_⟩
                 replace BR401 := Aside0.mk (BX_below BR401.out hb)
                 replace BR409 := Aside0.mk (BX_below BR409.out hb)
                 replace HBR := Aside0.mk (below_step HBR.out hb)
                 clear hb
                 refine hK.out _ _ ⟨(BR409.out.1 0 _ rfl).1, (BR409.out.1 1 _ rfl).1, (BR409.out.1 2 _ rfl).1, (BR409.out.1 3 _ rfl).1, (BR409.out.1 4 _ rfl).1, (BR409.out.1 5 _ rfl).1, (BR409.out.1 6 _ rfl).1, ((HBR.out.cell (World.block_lt_of_cell? w _ hw410_0)).trans hw410_0), ((HBR.out.cell (World.block_lt_of_cell? w _ hw410_1)).trans hw410_1), ((HBR.out.cell (World.block_lt_of_cell? w _ hw410_2)).trans hw410_2)⟩ (fun hHeld => ?_)
                 clear hK K
                 refine norm_ (a' := ?_) ?_ ?_
                 rotate_left
                 ·
                  show Act.put _ (some 59) _ = _
                  simp only [Act.put, List.setIfInBounds_toArray, List.set_cons_zero, List.set_cons_succ, i64_w, i32_w]; rfl
                 refine pure_ (i := 7) (N := some 52) (v := ?_) (a' := ?_) #[true, true, true, true, true, true, true, true, false, false, false, false, false] rfl rfl (any_of HT_.out (by kernel_rfl)) (fun _ _ _ h => h) (Or.inl ⟨by rfl, ?_⟩) ?_ ?_
                 rotate_left
                 ·
                  intro w'; go_simp; with_reducible rfl
                 rotate_left
                 ·
                  simp only [Act.put, List.setIfInBounds_toArray, List.set_cons_zero, List.set_cons_succ, i64_w, i32_w]; rfl
                 refine pure_ (i := 8) (N := some 60) (v := ?_) (a' := ?_) #[true, true, true, true, true, true, true, true, true, false, false, false, false] rfl rfl (any_of HT_.out (by kernel_rfl)) (fun _ _ _ h => h) (Or.inl ⟨by rfl, ?_⟩) ?_ ?_
                 rotate_left
                 ·
                  intro w'; go_simp; with_reducible rfl
                 rotate_left
                 ·
                  simp only [Act.put, List.setIfInBounds_toArray, List.set_cons_zero, List.set_cons_succ, i64_w, i32_w]; rfl
                 refine pure_ (i := 9) (N := some 61) (v := ?_) (a' := ?_) #[true, true, true, true, true, true, true, true, true, true, false, false, false] rfl rfl (any_of HT_.out (by kernel_rfl)) (fun _ _ _ h => h) (Or.inl ⟨by rfl, ?_⟩) ?_ ?_
                 rotate_left
                 ·
                  intro w'; go_simp; with_reducible rfl
                 rotate_left
                 ·
                  simp only [Act.put, List.setIfInBounds_toArray, List.set_cons_zero, List.set_cons_succ, i64_w, i32_w]; rfl
                 refine one_ (i := 10) (N := some 11) #[true, true, true, true, true, true, true, true, true, true, true, false, false] rfl rfl (one_of HT_.out (by kernel_rfl)) (by decide) (fun K hK => ?_)
                 refine box_step ?hg (N := 11) ?hd (cs := #[.int .i64 0, .int .i64 0, .int .i64 0, .bool false, .int .i64 0, .bool false, .int .i64 0]) (t := 28) ?hr ?_; (case hd => rfl); (case hg => rfl); (case hr => first | (go_simp; done) | (go_simp; rfl))
                 intro gb410 hg wb_ hbox hb
                 have NA401 := Aside0.mk (show w17.heap.size ≠ gb410 by rw [hg]; exact Nat.ne_of_lt BR401.out.2)
                 have NB401 := Aside0.mk (show gb410 ≠ w17.heap.size by rw [hg]; exact Nat.ne_of_gt BR401.out.2)
                 have NA409 := Aside0.mk (show w24.heap.size ≠ gb410 by rw [hg]; exact Nat.ne_of_lt BR409.out.2)
                 have NB409 := Aside0.mk (show gb410 ≠ w24.heap.size by rw [hg]; exact Nat.ne_of_gt BR409.out.2)
                 have GW410 := Aside0.mk (show w.heap.size ≤ gb410 by rw [hg]; exact below_size HBR.out)
                 replace BR401 := Aside0.mk (BX_below BR401.out hb)
                 replace BR409 := Aside0.mk (BX_below BR409.out hb)
                 replace HBR := Aside0.mk (below_step HBR.out hb)
                 have BK410 := Aside0.mk hbox
                 clear hb hbox hg
                 refine hK.out _ _ ⟨(BR409.out.1 0 _ rfl).1, (BR409.out.1 1 _ rfl).1, (BR409.out.1 2 _ rfl).1, (BR409.out.1 3 _ rfl).1, (BR409.out.1 4 _ rfl).1, (BR409.out.1 5 _ rfl).1, (BR409.out.1 6 _ rfl).1, ((HBR.out.cell (World.block_lt_of_cell? w _ hw410_0)).trans hw410_0), ((HBR.out.cell (World.block_lt_of_cell? w _ hw410_1)).trans hw410_1), ((HBR.out.cell (World.block_lt_of_cell? w _ hw410_2)).trans hw410_2)⟩ (fun hHeld => ?_)
                 clear hK K
                 refine norm_ (a' := ?_) ?_ ?_
                 rotate_left
                 ·
                  show Act.put _ (some 11) _ = _
                  simp only [Act.put, List.setIfInBounds_toArray, List.set_cons_zero, List.set_cons_succ, i64_w, i32_w]; rfl
                 exact norm_ (by simp only [putAll, Act.put, List.setIfInBounds_toArray, List.set_cons_zero, List.set_cons_succ]) (hCont (gb410) _ ⟨hHeld, BR401.out, BR409.out, BK410.out, GW410.out, NA401.out, NB401.out, NA409.out, NB409.out, HBR.out⟩)
                ·
                 refine box_step ?hg (N := 11) ?hd (cs := #[.int .i64 0, .int .i64 0, .int .i64 0, .bool false, .int .i64 0, .bool false, .int .i64 0]) (t := 28) ?hr ?_; (case hd => rfl); (case hg => rfl); (case hr => first | (go_simp; done) | (go_simp; rfl))
                 intro gb410 hg wb_ hbox hb
                 have NA401 := Aside0.mk (show w17.heap.size ≠ gb410 by rw [hg]; exact Nat.ne_of_lt BR401.out.2)
                 have NB401 := Aside0.mk (show gb410 ≠ w17.heap.size by rw [hg]; exact Nat.ne_of_gt BR401.out.2)
                 have NA409 := Aside0.mk (show w24.heap.size ≠ gb410 by rw [hg]; exact Nat.ne_of_lt BR409.out.2)
                 have NB409 := Aside0.mk (show gb410 ≠ w24.heap.size by rw [hg]; exact Nat.ne_of_gt BR409.out.2)
                 have GW410 := Aside0.mk (show w.heap.size ≤ gb410 by rw [hg]; exact below_size HBR.out)
                 replace BR401 := Aside0.mk (BX_below BR401.out hb)
                 replace BR409 := Aside0.mk (BX_below BR409.out hb)
                 replace HBR := Aside0.mk (below_step HBR.out hb)
                 have BK410 := Aside0.mk hbox
                 clear hb hbox hg
                 refine hK.out _ _ ⟨(BR409.out.1 0 _ rfl).1, (BR409.out.1 1 _ rfl).1, (BR409.out.1 2 _ rfl).1, (BR409.out.1 3 _ rfl).1, (BR409.out.1 4 _ rfl).1, (BR409.out.1 5 _ rfl).1, (BR409.out.1 6 _ rfl).1, ((HBR.out.cell (World.block_lt_of_cell? w _ hw410_0)).trans hw410_0), ((HBR.out.cell (World.block_lt_of_cell? w _ hw410_1)).trans hw410_1), ((HBR.out.cell (World.block_lt_of_cell? w _ hw410_2)).trans hw410_2)⟩ (fun hHeld => ?_)
                 clear hK K
                 refine norm_ (a' := ?_) ?_ ?_
                 rotate_left
                 ·
                  show Act.put _ (some 11) _ = _
                  simp only [Act.put, List.setIfInBounds_toArray, List.set_cons_zero, List.set_cons_succ, i64_w, i32_w]; rfl
                 refine one_ (i := 6) (N := some 59) #[true, true, true, true, true, true, true, false, false, false, true, false, false] rfl rfl (one_of HT_.out (by kernel_rfl)) (by decide) (fun K hK => ?_)
                 refine goes_ Try.func26 (by kernel_rfl) rfl #[.slice A0 l0.length c0, .agg #[.int .i64 x410000_22, .int .i64 x410001_22, .int .i64 x410002_22, .bool x410003_22, .int .i64 x410004_22, .bool x410005_22, .int .i64 x410006_22], .agg #[.int .i64 ((rd_T54 l1 x10_22).f0), .int .i64 ((rd_T54 l1 x10_22).f1), .int .i64 ((rd_T54 l1 x10_22).f2)]] (by rfl) rfl rfl (by (try simp only [List.map_toArray, List.map_cons, List.map_nil]); first | done | rfl | (simp only [List.length_drop, List.length_take]; rfl)) ?_
                 with_reducible refine (drayagelaw14_happens.calls k26 _ _ l0 x410000_22 x410001_22 x410002_22 x410003_22 x410004_22 x410005_22 x410006_22 ((rd_T54 l1 x10_22).f0) ((rd_T54 l1 x10_22).f1) ((rd_T54 l1 x10_22).f2) t411 t412 t413 t414 t415 t416 t417 true _ ?side1 HC0.out A33.out).mono ?_
                 (case side1 => exact Kd.C_below HR0.out HBR.out)
                 rintro e wc_ ⟨rfl, hb⟩
                 refine ⟨_, rfl, ?_⟩
                 replace BR401 := Aside0.mk (BX_below BR401.out hb)
                 replace BR409 := Aside0.mk (BX_below BR409.out hb)
                 replace BK410 := Aside0.mk (blk_below BK410.out hb)
                 replace HBR := Aside0.mk (below_step HBR.out hb)
                 clear hb
                 refine hK.out _ _ ⟨(BR409.out.1 0 _ rfl).1, (BR409.out.1 1 _ rfl).1, (BR409.out.1 2 _ rfl).1, (BR409.out.1 3 _ rfl).1, (BR409.out.1 4 _ rfl).1, (BR409.out.1 5 _ rfl).1, (BR409.out.1 6 _ rfl).1, ((HBR.out.cell (World.block_lt_of_cell? w _ hw410_0)).trans hw410_0), ((HBR.out.cell (World.block_lt_of_cell? w _ hw410_1)).trans hw410_1), ((HBR.out.cell (World.block_lt_of_cell? w _ hw410_2)).trans hw410_2)⟩ (fun hHeld => ?_)
                 clear hK K
                 refine norm_ (a' := ?_) ?_ ?_
                 rotate_left
                 ·
                  show Act.put _ (some 59) _ = _
                  simp only [Act.put, List.setIfInBounds_toArray, List.set_cons_zero, List.set_cons_succ, i64_w, i32_w]; rfl
                 refine pure_ (i := 7) (N := some 52) (v := ?_) (a' := ?_) #[true, true, true, true, true, true, true, true, false, false, true, false, false] rfl rfl (any_of HT_.out (by kernel_rfl)) (fun _ _ _ h => h) (Or.inl ⟨by rfl, ?_⟩) ?_ ?_
                 rotate_left
                 ·
                  intro w'; go_simp; with_reducible rfl
                 rotate_left
                 ·
                  simp only [Act.put, List.setIfInBounds_toArray, List.set_cons_zero, List.set_cons_succ, i64_w, i32_w]; rfl
                 refine pure_ (i := 8) (N := some 60) (v := ?_) (a' := ?_) #[true, true, true, true, true, true, true, true, true, false, true, false, false] rfl rfl (any_of HT_.out (by kernel_rfl)) (fun _ _ _ h => h) (Or.inl ⟨by rfl, ?_⟩) ?_ ?_
                 rotate_left
                 ·
                  intro w'; go_simp; with_reducible rfl
                 rotate_left
                 ·
                  simp only [Act.put, List.setIfInBounds_toArray, List.set_cons_zero, List.set_cons_succ, i64_w, i32_w]; rfl
                 refine pure_ (i := 9) (N := some 61) (v := ?_) (a' := ?_) #[true, true, true, true, true, true, true, true, true, true, true, false, false] rfl rfl (any_of HT_.out (by kernel_rfl)) (fun _ _ _ h => h) (Or.inl ⟨by rfl, ?_⟩) ?_ ?_
                 rotate_left
                 ·
                  intro w'; go_simp; with_reducible rfl
                 rotate_left
                 ·
                  simp only [Act.put, List.setIfInBounds_toArray, List.set_cons_zero, List.set_cons_succ, i64_w, i32_w]; rfl
                 exact norm_ (by simp only [putAll, Act.put, List.setIfInBounds_toArray, List.set_cons_zero, List.set_cons_succ]) (hCont (gb410) _ ⟨hHeld, BR401.out, BR409.out, BK410.out, GW410.out, NA401.out, NB401.out, NA409.out, NB409.out, HBR.out⟩)
               clear HBR BR401 BR409
               rintro gb410 w35 ⟨hHeld, b1_401, b1_409, b2_, h2_, ha401_410, hb401_410, ha409_410, hb409_410, h5_⟩
               have BR401 := Aside0.mk b1_401
               obtain ⟨hz401_w35_0, hz401_w35_1, hz401_w35_2, hz401_w35_3, hz401_w35_4, hz401_w35_5, hz401_w35_6, hf401_w35_0, hf401_w35_1, hf401_w35_2, hf401_w35_3, hf401_w35_4, hf401_w35_5, hf401_w35_6, hlt401_w35⟩ := b1_401.out7
               have BR409 := Aside0.mk b1_409
               obtain ⟨hz409_w35_0, hz409_w35_1, hz409_w35_2, hz409_w35_3, hz409_w35_4, hz409_w35_5, hz409_w35_6, hf409_w35_0, hf409_w35_1, hf409_w35_2, hf409_w35_3, hf409_w35_4, hf409_w35_5, hf409_w35_6, hlt409_w35⟩ := b1_409.out7
               have HB_w35 := Aside0.mk h5_
               have hsw35 : w.heap.size ≤ w35.heap.size := h5_.size
               clear h5_ b1_401 b1_409
               have hlt410_w35 := blk_lt b2_
               obtain ⟨hz410_w35_0, hz410_w35_1, hz410_w35_2, hz410_w35_3, hz410_w35_4, hz410_w35_5, hz410_w35_6, hf410_w35_0, hf410_w35_1, hf410_w35_2, hf410_w35_3, hf410_w35_4, hf410_w35_5, hf410_w35_6⟩ := blk_all7 b2_
               clear b2_
               refine norm_ (a' := ?_) ?_ ?_
               rotate_left
               ·
                simp only [putAll, Act.put, List.setIfInBounds_toArray, List.set_cons_zero, List.set_cons_succ]; rfl
               refine one_ (i := 11) (N := none) #[true, true, true, true, true, true, true, true, true, true, true, true, false] rfl rfl (one_of HT_.out (by kernel_rfl)) (by decide) (fun K hK => ?_)
               refine skip_ (w1 := ?_) (by rfl) rfl ?_ ?_
               rotate_left
               ·
                go_simp; rfl
               refine hK.out _ _ ⟨((cell_far (p := ⟨gb410, _, none⟩) ha409_410 _).trans ((cell_far (p := ⟨gb410, _, none⟩) ha409_410 _).trans ((cell_far (p := ⟨gb410, _, none⟩) ha409_410 _).trans ((cell_far (p := ⟨gb410, _, none⟩) ha409_410 _).trans ((cell_far (p := ⟨gb410, _, none⟩) ha409_410 _).trans ((cell_far (p := ⟨gb410, _, none⟩) ha409_410 _).trans ((cell_far (p := ⟨gb410, _, none⟩) ha409_410 _).trans (hz409_w35_0)))))))), ((cell_far (p := ⟨gb410, _, none⟩) ha409_410 _).trans ((cell_far (p := ⟨gb410, _, none⟩) ha409_410 _).trans ((cell_far (p := ⟨gb410, _, none⟩) ha409_410 _).trans ((cell_far (p := ⟨gb410, _, none⟩) ha409_410 _).trans ((cell_far (p := ⟨gb410, _, none⟩) ha409_410 _).trans ((cell_far (p := ⟨gb410, _, none⟩) ha409_410 _).trans ((cell_far (p := ⟨gb410, _, none⟩) ha409_410 _).trans (hz409_w35_1)))))))), ((cell_far (p := ⟨gb410, _, none⟩) ha409_410 _).trans ((cell_far (p := ⟨gb410, _, none⟩) ha409_410 _).trans ((cell_far (p := ⟨gb410, _, none⟩) ha409_410 _).trans ((cell_far (p := ⟨gb410, _, none⟩) ha409_410 _).trans ((cell_far (p := ⟨gb410, _, none⟩) ha409_410 _).trans ((cell_far (p := ⟨gb410, _, none⟩) ha409_410 _).trans ((cell_far (p := ⟨gb410, _, none⟩) ha409_410 _).trans (hz409_w35_2)))))))), ((cell_far (p := ⟨gb410, _, none⟩) ha409_410 _).trans ((cell_far (p := ⟨gb410, _, none⟩) ha409_410 _).trans ((cell_far (p := ⟨gb410, _, none⟩) ha409_410 _).trans ((cell_far (p := ⟨gb410, _, none⟩) ha409_410 _).trans ((cell_far (p := ⟨gb410, _, none⟩) ha409_410 _).trans ((cell_far (p := ⟨gb410, _, none⟩) ha409_410 _).trans ((cell_far (p := ⟨gb410, _, none⟩) ha409_410 _).trans (hz409_w35_3)))))))), ((cell_far (p := ⟨gb410, _, none⟩) ha409_410 _).trans ((cell_far (p := ⟨gb410, _, none⟩) ha409_410 _).trans ((cell_far (p := ⟨gb410, _, none⟩) ha409_410 _).trans ((cell_far (p := ⟨gb410, _, none⟩) ha409_410 _).trans ((cell_far (p := ⟨gb410, _, none⟩) ha409_410 _).trans ((cell_far (p := ⟨gb410, _, none⟩) ha409_410 _).trans ((cell_far (p := ⟨gb410, _, none⟩) ha409_410 _).trans (hz409_w35_4)))))))), ((cell_far (p := ⟨gb410, _, none⟩) ha409_410 _).trans ((cell_far (p := ⟨gb410, _, none⟩) ha409_410 _).trans ((cell_far (p := ⟨gb410, _, none⟩) ha409_410 _).trans ((cell_far (p := ⟨gb410, _, none⟩) ha409_410 _).trans ((cell_far (p := ⟨gb410, _, none⟩) ha409_410 _).trans ((cell_far (p := ⟨gb410, _, none⟩) ha409_410 _).trans ((cell_far (p := ⟨gb410, _, none⟩) ha409_410 _).trans (hz409_w35_5)))))))), ((cell_far (p := ⟨gb410, _, none⟩) ha409_410 _).trans ((cell_far (p := ⟨gb410, _, none⟩) ha409_410 _).trans ((cell_far (p := ⟨gb410, _, none⟩) ha409_410 _).trans ((cell_far (p := ⟨gb410, _, none⟩) ha409_410 _).trans ((cell_far (p := ⟨gb410, _, none⟩) ha409_410 _).trans ((cell_far (p := ⟨gb410, _, none⟩) ha409_410 _).trans ((cell_far (p := ⟨gb410, _, none⟩) ha409_410 _).trans (hz409_w35_6)))))))), (((below_set (below_set (below_set (below_set (below_set (below_set (below_set HB_w35.out h2_) h2_) h2_) h2_) h2_) h2_) h2_).cell (World.block_lt_of_cell? w _ hw410_0)).trans hw410_0), (((below_set (below_set (below_set (below_set (below_set (below_set (below_set HB_w35.out h2_) h2_) h2_) h2_) h2_) h2_) h2_).cell (World.block_lt_of_cell? w _ hw410_1)).trans hw410_1), (((below_set (below_set (below_set (below_set (below_set (below_set (below_set HB_w35.out h2_) h2_) h2_) h2_) h2_) h2_) h2_).cell (World.block_lt_of_cell? w _ hw410_2)).trans hw410_2)⟩ (fun hHeld => ?_)
               clear hK K
               refine pure_ (i := 12) (N := some 12) (v := ?_) (a' := ?_) #[true, true, true, true, true, true, true, true, true, true, true, true, true] rfl rfl (any_of HT_.out (by kernel_rfl)) (fun _ _ _ h => h) (Or.inl ⟨by rfl, ?_⟩) ?_ ?_
               rotate_left
               ·
                intro w'; go_simp; with_reducible rfl
               rotate_left
               ·
                simp only [Act.put, List.setIfInBounds_toArray, List.set_cons_zero, List.set_cons_succ, i64_w, i32_w]; rfl
               refine done_ (done_of HT_.out (by kernel_rfl)) ?_
               clear HT_ HW_ hHeld
               try go_wp2
               repeat (go_quiet (fail); try go_wp2)
               go_roundg k26
               case measure => have := HJ2.out; have := HJ14.out; have := HJ22.out; have := HJ26.out; omega
               case rel => exact ⟨(wrap64 (x10_22 + 1)), (t411), (t412), (t413), (t414), (t415), (t416), (t417), (by first | rfl | (simp; done) | (simp [*]; done)), H', ⟨by have := HJ2.out; have := HJ14.out; have := HJ22.out; have := HJ26.out; omega⟩, ⟨BX.mk7 (by first | (go_simp; done) | (simp (maxDischargeDepth := 8) [go_sem, *]; done)) (by first | (go_simp; done) | (simp (maxDischargeDepth := 8) [go_sem, *]; done)) (by first | (go_simp; done) | (simp (maxDischargeDepth := 8) [go_sem, *]; done)) (by first | (go_simp; done) | (simp (maxDischargeDepth := 8) [go_sem, *]; done)) (by first | (go_simp; done) | (simp (maxDischargeDepth := 8) [go_sem, *]; done)) (by first | (go_simp; done) | (simp (maxDischargeDepth := 8) [go_sem, *]; done)) (by first | (go_simp; done) | (simp (maxDischargeDepth := 8) [go_sem, *]; done)) (by first | (go_simp; done) | (simp (maxDischargeDepth := 8) [go_sem, *]; done)) (by first | (go_simp; done) | (simp (maxDischargeDepth := 8) [go_sem, *]; done)) (by first | (go_simp; done) | (simp (maxDischargeDepth := 8) [go_sem, *]; done)) (by first | (go_simp; done) | (simp (maxDischargeDepth := 8) [go_sem, *]; done)) (by first | (go_simp; done) | (simp (maxDischargeDepth := 8) [go_sem, *]; done)) (by first | (go_simp; done) | (simp (maxDischargeDepth := 8) [go_sem, *]; done)) (by first | (go_simp; done) | (simp (maxDischargeDepth := 8) [go_sem, *]; done)) (by first | omega | (simp; done) | (simp; omega))⟩, ⟨BX.mk7 (by first | (go_simp; done) | (simp (maxDischargeDepth := 8) [go_sem, *]; done)) (by first | (go_simp; done) | (simp (maxDischargeDepth := 8) [go_sem, *]; done)) (by first | (go_simp; done) | (simp (maxDischargeDepth := 8) [go_sem, *]; done)) (by first | (go_simp; done) | (simp (maxDischargeDepth := 8) [go_sem, *]; done)) (by first | (go_simp; done) | (simp (maxDischargeDepth := 8) [go_sem, *]; done)) (by first | (go_simp; done) | (simp (maxDischargeDepth := 8) [go_sem, *]; done)) (by first | (go_simp; done) | (simp (maxDischargeDepth := 8) [go_sem, *]; done)) (by first | (go_simp; done) | (simp (maxDischargeDepth := 8) [go_sem, *]; done)) (by first | (go_simp; done) | (simp (maxDischargeDepth := 8) [go_sem, *]; done)) (by first | (go_simp; done) | (simp (maxDischargeDepth := 8) [go_sem, *]; done)) (by first | (go_simp; done) | (simp (maxDischargeDepth := 8) [go_sem, *]; done)) (by first | (go_simp; done) | (simp (maxDischargeDepth := 8) [go_sem, *]; done)) (by first | (go_simp; done) | (simp (maxDischargeDepth := 8) [go_sem, *]; done)) (by first | (go_simp; done) | (simp (maxDischargeDepth := 8) [go_sem, *]; done)) (by first | omega | (simp; done) | (simp; omega))⟩, ⟨(by repeat (first | (with_reducible first | exact HB_w35.out | exact Below.refl _ _ | apply below_alloc | apply pw_below_drewN | apply below_drew1) | refine below_set ?_ (by first | omega | (simp; omega) | simp)))⟩⟩
              ·
               rw [if_neg c34] at H
               exact absurd H (by simp)
             ·
              rw [if_neg c32] at H
              exact absurd H (by simp)
            ·
             rw [if_neg c31] at H
             exact absurd H (by simp)
           ·
            replace c30 := Bool.eq_false_iff.mpr c30; subst c30
            rw [if_neg (by decide)] at H
            by_cases c36 : x410000_22 = 3
            ·
             rw [if_pos c36] at H
             have c36b0 : (x410000_22 == 3) = true := beq_iff_eq.mpr c36
             have c36b1 : (x410000_22 != 3) = false := bne_eq_false_iff_eq.mpr c36
             clear c36
             obtain ⟨t420, A_, H⟩ := Option.bind_eq_some_iff.mp H
             try dsimp only at H
             have A37 := Aside0.mk A_
             clear A_
             obtain rfl := Option.some.inj H
             have hlwc26_401_0 : w17.heap.size < wc26.heap.size := (by omega)
             have hlwc26_409_0 : w24.heap.size < wc26.heap.size := (by omega)
             try go_wp2_with (first | (go_at_call 12; (with_reducible refine (drayagelaw14_known.calls k26  t420 _ A37.out).mono ?_); rintro e w38 ⟨rfl, hb⟩; have hsw38 : wc26.heap.size ≤ w38.heap.size := (by have h_ := hb.size; simpa using h_); have HB_w38 : Aside0 (Below w.heap.size w w38) := Aside0.mk (below_step (by repeat (first | (with_reducible first | exact HB_26.out | exact Below.refl _ _ | apply below_alloc | apply pw_below_drewN | apply below_drew1) | refine below_set ?_ (by first | omega | (simp; omega) | simp))) hb); have cw38_401 := fun o_ : Nat => hb.cell (p := ⟨w17.heap.size, o_, none⟩) (by first | omega | (simp; done) | (simp; omega)); have fw38_401 := fun o_ : Nat => hb.frozen (p := ⟨w17.heap.size, o_, none⟩) (by first | omega | (simp; done) | (simp; omega)); have cw38_409 := fun o_ : Nat => hb.cell (p := ⟨w24.heap.size, o_, none⟩) (by first | omega | (simp; done) | (simp; omega)); have fw38_409 := fun o_ : Nat => hb.frozen (p := ⟨w24.heap.size, o_, none⟩) (by first | omega | (simp; done) | (simp; omega)); clear hb; have hlw38_401_0 : w17.heap.size < w38.heap.size := (by omega); have hlw38_409_0 : w24.heap.size < w38.heap.size := (by omega)))
             repeat (go_quiet (first | (go_at_call 12; (with_reducible refine (drayagelaw14_known.calls k26  t420 _ A37.out).mono ?_); rintro e w38 ⟨rfl, hb⟩; have hsw38 : wc26.heap.size ≤ w38.heap.size := (by have h_ := hb.size; simpa using h_); have HB_w38 : Aside0 (Below w.heap.size w w38) := Aside0.mk (below_step (by repeat (first | (with_reducible first | exact HB_26.out | exact Below.refl _ _ | apply below_alloc | apply pw_below_drewN | apply below_drew1) | refine below_set ?_ (by first | omega | (simp; omega) | simp))) hb); have cw38_401 := fun o_ : Nat => hb.cell (p := ⟨w17.heap.size, o_, none⟩) (by first | omega | (simp; done) | (simp; omega)); have fw38_401 := fun o_ : Nat => hb.frozen (p := ⟨w17.heap.size, o_, none⟩) (by first | omega | (simp; done) | (simp; omega)); have cw38_409 := fun o_ : Nat => hb.cell (p := ⟨w24.heap.size, o_, none⟩) (by first | omega | (simp; done) | (simp; omega)); have fw38_409 := fun o_ : Nat => hb.frozen (p := ⟨w24.heap.size, o_, none⟩) (by first | omega | (simp; done) | (simp; omega)); clear hb; have hlw38_401_0 : w17.heap.size < w38.heap.size := (by omega); have hlw38_409_0 : w24.heap.size < w38.heap.size := (by omega))); try go_wp2_with (first | (go_at_call 12; (with_reducible refine (drayagelaw14_known.calls k26  t420 _ A37.out).mono ?_); rintro e w38 ⟨rfl, hb⟩; have hsw38 : wc26.heap.size ≤ w38.heap.size := (by have h_ := hb.size; simpa using h_); have HB_w38 : Aside0 (Below w.heap.size w w38) := Aside0.mk (below_step (by repeat (first | (with_reducible first | exact HB_26.out | exact Below.refl _ _ | apply below_alloc | apply pw_below_drewN | apply below_drew1) | refine below_set ?_ (by first | omega | (simp; omega) | simp))) hb); have cw38_401 := fun o_ : Nat => hb.cell (p := ⟨w17.heap.size, o_, none⟩) (by first | omega | (simp; done) | (simp; omega)); have fw38_401 := fun o_ : Nat => hb.frozen (p := ⟨w17.heap.size, o_, none⟩) (by first | omega | (simp; done) | (simp; omega)); have cw38_409 := fun o_ : Nat => hb.cell (p := ⟨w24.heap.size, o_, none⟩) (by first | omega | (simp; done) | (simp; omega)); have fw38_409 := fun o_ : Nat => hb.frozen (p := ⟨w24.heap.size, o_, none⟩) (by first | omega | (simp; done) | (simp; omega)); clear hb; have hlw38_401_0 : w17.heap.size < w38.heap.size := (by omega); have hlw38_409_0 : w24.heap.size < w38.heap.size := (by omega))))
             refine bodyPost_ret ?_ rfl ⟨rfl, ?_⟩
             ·
              simp [results, Try.results9, go_sem, hz401_26_0, hz401_26_1, hz401_26_2, hz401_26_3, hz401_26_4, hz401_26_5, hz401_26_6, hf401_26_0, hf401_26_1, hf401_26_2, hf401_26_3, hf401_26_4, hf401_26_5, hf401_26_6, hz409_26_0, hz409_26_1, hz409_26_2, hz409_26_3, hz409_26_4, hz409_26_5, hz409_26_6, hf409_26_0, hf409_26_1, hf409_26_2, hf409_26_3, hf409_26_4, hf409_26_5, hf409_26_6, hlwc26_401_0, hlwc26_409_0, cw38_401, fw38_401, cw38_409, fw38_409, hlw38_401_0, hlw38_409_0]
             ·
              exact (by repeat (first | (with_reducible first | exact HB_w38.out | exact Below.refl _ _ | apply below_alloc | apply pw_below_drewN | apply below_drew1) | refine below_set ?_ (by first | omega | (simp; omega) | simp)))
            ·
             rw [if_neg c36] at H
             have c36b0 : (x410000_22 == 3) = false := beq_eq_false_iff_ne.mpr c36
             have c36b1 : (x410000_22 != 3) = true := bne_iff_ne.mpr c36
             clear c36
             obtain ⟨⟨t421, t422, t423, t424, t425, t426, t427, t428⟩, A_, H⟩ := Option.bind_eq_some_iff.mp H
             try dsimp only at H
             have A39 := Aside0.mk A_
             clear A_
             obtain ⟨⟨t430, t431, t432, t433, t434, t435, t436, t437⟩, A_, H⟩ := Option.bind_eq_some_iff.mp H
             try dsimp only at H
             have A40 := Aside0.mk A_
             clear A_
             have HC42 := Aside0.mk H
             clear H
             have hlwc26_401_0 : w17.heap.size < wc26.heap.size := (by omega)
             have hlwc26_409_0 : w24.heap.size < wc26.heap.size := (by omega)
             go_upto_region 18 with (first | (go_at_call 22; (with_reducible refine (saga_Cancel.calls k26 _ _ l0 x410000_22 x410001_22 x410002_22 x410003_22 x410004_22 x410005_22 x410006_22 t421 t422 t423 t424 t425 t426 t427 t428 _ ?sd0 HC0.out A39.out).mono ?_); (case sd0 => exact Kd.C_below HR0.out (by repeat (first | (with_reducible first | exact HB_26.out | exact Below.refl _ _ | apply below_alloc | apply pw_below_drewN | apply below_drew1) | refine below_set ?_ (by first | omega | (simp; omega) | simp)))); rintro e w43 ⟨rfl, hb⟩; have hsw43 : wc26.heap.size ≤ w43.heap.size := (by have h_ := hb.size; simpa using h_); have HB_w43 : Aside0 (Below w.heap.size w w43) := Aside0.mk (below_step (by repeat (first | (with_reducible first | exact HB_26.out | exact Below.refl _ _ | apply below_alloc | apply pw_below_drewN | apply below_drew1) | refine below_set ?_ (by first | omega | (simp; omega) | simp))) hb); have cw43_401 := fun o_ : Nat => hb.cell (p := ⟨w17.heap.size, o_, none⟩) (by first | omega | (simp; done) | (simp; omega)); have fw43_401 := fun o_ : Nat => hb.frozen (p := ⟨w17.heap.size, o_, none⟩) (by first | omega | (simp; done) | (simp; omega)); have cw43_409 := fun o_ : Nat => hb.cell (p := ⟨w24.heap.size, o_, none⟩) (by first | omega | (simp; done) | (simp; omega)); have fw43_409 := fun o_ : Nat => hb.frozen (p := ⟨w24.heap.size, o_, none⟩) (by first | omega | (simp; done) | (simp; omega)); clear hb; have hlw43_401_0 : w17.heap.size < w43.heap.size := (by omega); have hlw43_401_1 : w17.heap.size < w43.heap.size + 1 := (by omega); have hnw43_401_0 : ¬ (w17.heap.size = w43.heap.size) := (by omega); have hmw43_401_0 : ¬ (w43.heap.size = w17.heap.size) := (by omega); have hlw43_409_0 : w24.heap.size < w43.heap.size := (by omega); have hlw43_409_1 : w24.heap.size < w43.heap.size + 1 := (by omega); have hnw43_409_0 : ¬ (w24.heap.size = w43.heap.size) := (by omega); have hmw43_409_0 : ¬ (w43.heap.size = w24.heap.size) := (by omega)) | (go_at_call 22; (with_reducible refine (saga_Cancel.calls k26 _ _ l0 t421 t422 t423 t424 t425 t426 t427 t430 t431 t432 t433 t434 t435 t436 t437 _ ?sd0 HC0.out A40.out).mono ?_); (case sd0 => exact Kd.C_below HR0.out (by repeat (first | (with_reducible first | exact HB_w43.out | exact Below.refl _ _ | apply below_alloc | apply pw_below_drewN | apply below_drew1) | refine below_set ?_ (by first | omega | (simp; omega) | simp)))); rintro e w44 ⟨rfl, hb⟩; have hsw44 : w43.heap.size + 1 ≤ w44.heap.size := (by have h_ := hb.size; simpa using h_); have HB_w44 : Aside0 (Below w.heap.size w w44) := Aside0.mk (below_step (by repeat (first | (with_reducible first | exact HB_w43.out | exact Below.refl _ _ | apply below_alloc | apply pw_below_drewN | apply below_drew1) | refine below_set ?_ (by first | omega | (simp; omega) | simp))) hb); have cw44_401 := fun o_ : Nat => hb.cell (p := ⟨w17.heap.size, o_, none⟩) (by first | omega | (simp; done) | (simp; omega)); have fw44_401 := fun o_ : Nat => hb.frozen (p := ⟨w17.heap.size, o_, none⟩) (by first | omega | (simp; done) | (simp; omega)); have cw44_409 := fun o_ : Nat => hb.cell (p := ⟨w24.heap.size, o_, none⟩) (by first | omega | (simp; done) | (simp; omega)); have fw44_409 := fun o_ : Nat => hb.frozen (p := ⟨w24.heap.size, o_, none⟩) (by first | omega | (simp; done) | (simp; omega)); have cw44_429 := fun o_ : Nat => hb.cell (p := ⟨w43.heap.size, o_, none⟩) (by first | omega | (simp; done) | (simp; omega)); have fw44_429 := fun o_ : Nat => hb.frozen (p := ⟨w43.heap.size, o_, none⟩) (by first | omega | (simp; done) | (simp; omega)); clear hb; have hlw44_401_0 : w17.heap.size < w44.heap.size := (by omega); have hlw44_401_1 : w17.heap.size < w44.heap.size + 1 := (by omega); have hnw44_401_0 : ¬ (w17.heap.size = w44.heap.size) := (by omega); have hmw44_401_0 : ¬ (w44.heap.size = w17.heap.size) := (by omega); have hlw44_409_0 : w24.heap.size < w44.heap.size := (by omega); have hlw44_409_1 : w24.heap.size < w44.heap.size + 1 := (by omega); have hnw44_409_0 : ¬ (w24.heap.size = w44.heap.size) := (by omega); have hmw44_409_0 : ¬ (w44.heap.size = w24.heap.size) := (by omega); have hlw44_429_0 : w43.heap.size < w44.heap.size := (by omega); have hlw44_429_1 : w43.heap.size < w44.heap.size + 1 := (by omega); have hnw44_429_0 : ¬ (w43.heap.size = w44.heap.size) := (by omega); have hmw44_429_0 : ¬ (w44.heap.size = w43.heap.size) := (by omega)))
             repeat (go_quiet (first | (go_at_call 22; (with_reducible refine (saga_Cancel.calls k26 _ _ l0 x410000_22 x410001_22 x410002_22 x410003_22 x410004_22 x410005_22 x410006_22 t421 t422 t423 t424 t425 t426 t427 t428 _ ?sd0 HC0.out A39.out).mono ?_); (case sd0 => exact Kd.C_below HR0.out (by repeat (first | (with_reducible first | exact HB_26.out | exact Below.refl _ _ | apply below_alloc | apply pw_below_drewN | apply below_drew1) | refine below_set ?_ (by first | omega | (simp; omega) | simp)))); rintro e w43 ⟨rfl, hb⟩; have hsw43 : wc26.heap.size ≤ w43.heap.size := (by have h_ := hb.size; simpa using h_); have HB_w43 : Aside0 (Below w.heap.size w w43) := Aside0.mk (below_step (by repeat (first | (with_reducible first | exact HB_26.out | exact Below.refl _ _ | apply below_alloc | apply pw_below_drewN | apply below_drew1) | refine below_set ?_ (by first | omega | (simp; omega) | simp))) hb); have cw43_401 := fun o_ : Nat => hb.cell (p := ⟨w17.heap.size, o_, none⟩) (by first | omega | (simp; done) | (simp; omega)); have fw43_401 := fun o_ : Nat => hb.frozen (p := ⟨w17.heap.size, o_, none⟩) (by first | omega | (simp; done) | (simp; omega)); have cw43_409 := fun o_ : Nat => hb.cell (p := ⟨w24.heap.size, o_, none⟩) (by first | omega | (simp; done) | (simp; omega)); have fw43_409 := fun o_ : Nat => hb.frozen (p := ⟨w24.heap.size, o_, none⟩) (by first | omega | (simp; done) | (simp; omega)); clear hb; have hlw43_401_0 : w17.heap.size < w43.heap.size := (by omega); have hlw43_401_1 : w17.heap.size < w43.heap.size + 1 := (by omega); have hnw43_401_0 : ¬ (w17.heap.size = w43.heap.size) := (by omega); have hmw43_401_0 : ¬ (w43.heap.size = w17.heap.size) := (by omega); have hlw43_409_0 : w24.heap.size < w43.heap.size := (by omega); have hlw43_409_1 : w24.heap.size < w43.heap.size + 1 := (by omega); have hnw43_409_0 : ¬ (w24.heap.size = w43.heap.size) := (by omega); have hmw43_409_0 : ¬ (w43.heap.size = w24.heap.size) := (by omega)) | (go_at_call 22; (with_reducible refine (saga_Cancel.calls k26 _ _ l0 t421 t422 t423 t424 t425 t426 t427 t430 t431 t432 t433 t434 t435 t436 t437 _ ?sd0 HC0.out A40.out).mono ?_); (case sd0 => exact Kd.C_below HR0.out (by repeat (first | (with_reducible first | exact HB_w43.out | exact Below.refl _ _ | apply below_alloc | apply pw_below_drewN | apply below_drew1) | refine below_set ?_ (by first | omega | (simp; omega) | simp)))); rintro e w44 ⟨rfl, hb⟩; have hsw44 : w43.heap.size + 1 ≤ w44.heap.size := (by have h_ := hb.size; simpa using h_); have HB_w44 : Aside0 (Below w.heap.size w w44) := Aside0.mk (below_step (by repeat (first | (with_reducible first | exact HB_w43.out | exact Below.refl _ _ | apply below_alloc | apply pw_below_drewN | apply below_drew1) | refine below_set ?_ (by first | omega | (simp; omega) | simp))) hb); have cw44_401 := fun o_ : Nat => hb.cell (p := ⟨w17.heap.size, o_, none⟩) (by first | omega | (simp; done) | (simp; omega)); have fw44_401 := fun o_ : Nat => hb.frozen (p := ⟨w17.heap.size, o_, none⟩) (by first | omega | (simp; done) | (simp; omega)); have cw44_409 := fun o_ : Nat => hb.cell (p := ⟨w24.heap.size, o_, none⟩) (by first | omega | (simp; done) | (simp; omega)); have fw44_409 := fun o_ : Nat => hb.frozen (p := ⟨w24.heap.size, o_, none⟩) (by first | omega | (simp; done) | (simp; omega)); have cw44_429 := fun o_ : Nat => hb.cell (p := ⟨w43.heap.size, o_, none⟩) (by first | omega | (simp; done) | (simp; omega)); have fw44_429 := fun o_ : Nat => hb.frozen (p := ⟨w43.heap.size, o_, none⟩) (by first | omega | (simp; done) | (simp; omega)); clear hb; have hlw44_401_0 : w17.heap.size < w44.heap.size := (by omega); have hlw44_401_1 : w17.heap.size < w44.heap.size + 1 := (by omega); have hnw44_401_0 : ¬ (w17.heap.size = w44.heap.size) := (by omega); have hmw44_401_0 : ¬ (w44.heap.size = w17.heap.size) := (by omega); have hlw44_409_0 : w24.heap.size < w44.heap.size := (by omega); have hlw44_409_1 : w24.heap.size < w44.heap.size + 1 := (by omega); have hnw44_409_0 : ¬ (w24.heap.size = w44.heap.size) := (by omega); have hmw44_409_0 : ¬ (w44.heap.size = w24.heap.size) := (by omega); have hlw44_429_0 : w43.heap.size < w44.heap.size := (by omega); have hlw44_429_1 : w43.heap.size < w44.heap.size + 1 := (by omega); have hnw44_429_0 : ¬ (w43.heap.size = w44.heap.size) := (by omega); have hmw44_429_0 : ¬ (w44.heap.size = w43.heap.size) := (by omega))); go_upto_region 18 with (first | (go_at_call 22; (with_reducible refine (saga_Cancel.calls k26 _ _ l0 x410000_22 x410001_22 x410002_22 x410003_22 x410004_22 x410005_22 x410006_22 t421 t422 t423 t424 t425 t426 t427 t428 _ ?sd0 HC0.out A39.out).mono ?_); (case sd0 => exact Kd.C_below HR0.out (by repeat (first | (with_reducible first | exact HB_26.out | exact Below.refl _ _ | apply below_alloc | apply pw_below_drewN | apply below_drew1) | refine below_set ?_ (by first | omega | (simp; omega) | simp)))); rintro e w43 ⟨rfl, hb⟩; have hsw43 : wc26.heap.size ≤ w43.heap.size := (by have h_ := hb.size; simpa using h_); have HB_w43 : Aside0 (Below w.heap.size w w43) := Aside0.mk (below_step (by repeat (first | (with_reducible first | exact HB_26.out | exact Below.refl _ _ | apply below_alloc | apply pw_below_drewN | apply below_drew1) | refine below_set ?_ (by first | omega | (simp; omega) | simp))) hb); have cw43_401 := fun o_ : Nat => hb.cell (p := ⟨w17.heap.size, o_, none⟩) (by first | omega | (simp; done) | (simp; omega)); have fw43_401 := fun o_ : Nat => hb.frozen (p := ⟨w17.heap.size, o_, none⟩) (by first | omega | (simp; done) | (simp; omega)); have cw43_409 := fun o_ : Nat => hb.cell (p := ⟨w24.heap.size, o_, none⟩) (by first | omega | (simp; done) | (simp; omega)); have fw43_409 := fun o_ : Nat => hb.frozen (p := ⟨w24.heap.size, o_, none⟩) (by first | omega | (simp; done) | (simp; omega)); clear hb; have hlw43_401_0 : w17.heap.size < w43.heap.size := (by omega); have hlw43_401_1 : w17.heap.size < w43.heap.size + 1 := (by omega); have hnw43_401_0 : ¬ (w17.heap.size = w43.heap.size) := (by omega); have hmw43_401_0 : ¬ (w43.heap.size = w17.heap.size) := (by omega); have hlw43_409_0 : w24.heap.size < w43.heap.size := (by omega); have hlw43_409_1 : w24.heap.size < w43.heap.size + 1 := (by omega); have hnw43_409_0 : ¬ (w24.heap.size = w43.heap.size) := (by omega); have hmw43_409_0 : ¬ (w43.heap.size = w24.heap.size) := (by omega)) | (go_at_call 22; (with_reducible refine (saga_Cancel.calls k26 _ _ l0 t421 t422 t423 t424 t425 t426 t427 t430 t431 t432 t433 t434 t435 t436 t437 _ ?sd0 HC0.out A40.out).mono ?_); (case sd0 => exact Kd.C_below HR0.out (by repeat (first | (with_reducible first | exact HB_w43.out | exact Below.refl _ _ | apply below_alloc | apply pw_below_drewN | apply below_drew1) | refine below_set ?_ (by first | omega | (simp; omega) | simp)))); rintro e w44 ⟨rfl, hb⟩; have hsw44 : w43.heap.size + 1 ≤ w44.heap.size := (by have h_ := hb.size; simpa using h_); have HB_w44 : Aside0 (Below w.heap.size w w44) := Aside0.mk (below_step (by repeat (first | (with_reducible first | exact HB_w43.out | exact Below.refl _ _ | apply below_alloc | apply pw_below_drewN | apply below_drew1) | refine below_set ?_ (by first | omega | (simp; omega) | simp))) hb); have cw44_401 := fun o_ : Nat => hb.cell (p := ⟨w17.heap.size, o_, none⟩) (by first | omega | (simp; done) | (simp; omega)); have fw44_401 := fun o_ : Nat => hb.frozen (p := ⟨w17.heap.size, o_, none⟩) (by first | omega | (simp; done) | (simp; omega)); have cw44_409 := fun o_ : Nat => hb.cell (p := ⟨w24.heap.size, o_, none⟩) (by first | omega | (simp; done) | (simp; omega)); have fw44_409 := fun o_ : Nat => hb.frozen (p := ⟨w24.heap.size, o_, none⟩) (by first | omega | (simp; done) | (simp; omega)); have cw44_429 := fun o_ : Nat => hb.cell (p := ⟨w43.heap.size, o_, none⟩) (by first | omega | (simp; done) | (simp; omega)); have fw44_429 := fun o_ : Nat => hb.frozen (p := ⟨w43.heap.size, o_, none⟩) (by first | omega | (simp; done) | (simp; omega)); clear hb; have hlw44_401_0 : w17.heap.size < w44.heap.size := (by omega); have hlw44_401_1 : w17.heap.size < w44.heap.size + 1 := (by omega); have hnw44_401_0 : ¬ (w17.heap.size = w44.heap.size) := (by omega); have hmw44_401_0 : ¬ (w44.heap.size = w17.heap.size) := (by omega); have hlw44_409_0 : w24.heap.size < w44.heap.size := (by omega); have hlw44_409_1 : w24.heap.size < w44.heap.size + 1 := (by omega); have hnw44_409_0 : ¬ (w24.heap.size = w44.heap.size) := (by omega); have hmw44_409_0 : ¬ (w44.heap.size = w24.heap.size) := (by omega); have hlw44_429_0 : w43.heap.size < w44.heap.size := (by omega); have hlw44_429_1 : w43.heap.size < w44.heap.size + 1 := (by omega); have hnw44_429_0 : ¬ (w43.heap.size = w44.heap.size) := (by omega); have hmw44_429_0 : ¬ (w44.heap.size = w43.heap.size) := (by omega))))
             (try simp only [Act.put, List.setIfInBounds_toArray, List.set_cons_zero, List.set_cons_succ])
             go_cut [91] (fun v91 wq41 => ∃ (kq : Nat) (x91_41 : Bool), v91 = .bool x91_41 ∧ Aside0 (drayagelaw14_SagaCancels.j4 kq l0 l2 x91_41 x410000_22 x410001_22 x410002_22 x410003_22 x410004_22 x410005_22 x410006_22 t421 t422 t423 t424 t425 t426 t427 = some r) ∧ Aside0 (kq ≤ k26) ∧ Aside0 (BX wq41 (w17.heap.size) [.int .i64 t393, .int .i64 t394, .int .i64 t395, .bool t396, .int .i64 t397, .bool t398, .int .i64 t399]) ∧ Aside0 (BX wq41 (w24.heap.size) [.int .i64 x410000_22, .int .i64 x410001_22, .int .i64 x410002_22, .bool x410003_22, .int .i64 x410004_22, .bool x410005_22, .int .i64 x410006_22]) ∧ Aside0 (BX wq41 (w43.heap.size) [.int .i64 t421, .int .i64 t422, .int .i64 t423, .bool t424, .int .i64 t425, .bool t426, .int .i64 t427]) ∧ Aside0 (BX wq41 (w44.heap.size) [.int .i64 t430, .int .i64 t431, .int .i64 t432, .bool t433, .int .i64 t434, .bool t435, .int .i64 t436]) ∧ Aside0 (Below w.heap.size w wq41))
             case first =>
              have H := HC42.out
              clear HC42
              by_cases c45 : t428 = 0
              ·
               rw [if_pos c45] at H
               have c45b0 : (t428 == 0) = true := beq_iff_eq.mpr c45
               have c45b1 : (t428 != 0) = false := bne_eq_false_iff_eq.mpr c45
               clear c45
               by_cases c46 : t437 = 0
               ·
                rw [if_pos c46] at H
                have c46b0 : (t437 == 0) = true := beq_iff_eq.mpr c46
                have c46b1 : (t437 != 0) = false := bne_eq_false_iff_eq.mpr c46
                clear c46
                have H' := Aside0.mk H
                clear H
                have hlw44_401_0 : w17.heap.size < w44.heap.size := (by omega)
                have hlw44_409_0 : w24.heap.size < w44.heap.size := (by omega)
                have hlw44_429_0 : w43.heap.size < w44.heap.size := (by omega)
                try go_wp2
                repeat (go_quiet (fail); try go_wp2)
                go_meet
                case rel => exact ⟨_, ((!(t421 == t430) || (!(t422 == t431) || (!(t423 == t432) || (!(t424 == t433) || (!(t425 == t434) || (!(t426 == t435) || (!(t427 == t436))))))))), (by first | rfl | (simp; done) | (simp [*]; done)), H', ⟨by have := HJ2.out; have := HJ14.out; have := HJ22.out; have := HJ26.out; first | omega | exact Nat.le_refl _⟩, ⟨BX.mk7 (by first | (go_simp; done) | (simp (maxDischargeDepth := 8) [go_sem, *]; done)) (by first | (go_simp; done) | (simp (maxDischargeDepth := 8) [go_sem, *]; done)) (by first | (go_simp; done) | (simp (maxDischargeDepth := 8) [go_sem, *]; done)) (by first | (go_simp; done) | (simp (maxDischargeDepth := 8) [go_sem, *]; done)) (by first | (go_simp; done) | (simp (maxDischargeDepth := 8) [go_sem, *]; done)) (by first | (go_simp; done) | (simp (maxDischargeDepth := 8) [go_sem, *]; done)) (by first | (go_simp; done) | (simp (maxDischargeDepth := 8) [go_sem, *]; done)) (by first | (go_simp; done) | (simp (maxDischargeDepth := 8) [go_sem, *]; done)) (by first | (go_simp; done) | (simp (maxDischargeDepth := 8) [go_sem, *]; done)) (by first | (go_simp; done) | (simp (maxDischargeDepth := 8) [go_sem, *]; done)) (by first | (go_simp; done) | (simp (maxDischargeDepth := 8) [go_sem, *]; done)) (by first | (go_simp; done) | (simp (maxDischargeDepth := 8) [go_sem, *]; done)) (by first | (go_simp; done) | (simp (maxDischargeDepth := 8) [go_sem, *]; done)) (by first | (go_simp; done) | (simp (maxDischargeDepth := 8) [go_sem, *]; done)) (by first | omega | (simp; done) | (simp; omega))⟩, ⟨BX.mk7 (by first | (go_simp; done) | (simp (maxDischargeDepth := 8) [go_sem, *]; done)) (by first | (go_simp; done) | (simp (maxDischargeDepth := 8) [go_sem, *]; done)) (by first | (go_simp; done) | (simp (maxDischargeDepth := 8) [go_sem, *]; done)) (by first | (go_simp; done) | (simp (maxDischargeDepth := 8) [go_sem, *]; done)) (by first | (go_simp; done) | (simp (maxDischargeDepth := 8) [go_sem, *]; done)) (by first | (go_simp; done) | (simp (maxDischargeDepth := 8) [go_sem, *]; done)) (by first | (go_simp; done) | (simp (maxDischargeDepth := 8) [go_sem, *]; done)) (by first | (go_simp; done) | (simp (maxDischargeDepth := 8) [go_sem, *]; done)) (by first | (go_simp; done) | (simp (maxDischargeDepth := 8) [go_sem, *]; done)) (by first | (go_simp; done) | (simp (maxDischargeDepth := 8) [go_sem, *]; done)) (by first | (go_simp; done) | (simp (maxDischargeDepth := 8) [go_sem, *]; done)) (by first | (go_simp; done) | (simp (maxDischargeDepth := 8) [go_sem, *]; done)) (by first | (go_simp; done) | (simp (maxDischargeDepth := 8) [go_sem, *]; done)) (by first | (go_simp; done) | (simp (maxDischargeDepth := 8) [go_sem, *]; done)) (by first | omega | (simp; done) | (simp; omega))⟩, ⟨BX.mk7 (by first | (go_simp; done) | (simp (maxDischargeDepth := 8) [go_sem, *]; done)) (by first | (go_simp; done) | (simp (maxDischargeDepth := 8) [go_sem, *]; done)) (by first | (go_simp; done) | (simp (maxDischargeDepth := 8) [go_sem, *]; done)) (by first | (go_simp; done) | (simp (maxDischargeDepth := 8) [go_sem, *]; done)) (by first | (go_simp; done) | (simp (maxDischargeDepth := 8) [go_sem, *]; done)) (by first | (go_simp; done) | (simp (maxDischargeDepth := 8) [go_sem, *]; done)) (by first | (go_simp; done) | (simp (maxDischargeDepth := 8) [go_sem, *]; done)) (by first | (go_simp; done) | (simp (maxDischargeDepth := 8) [go_sem, *]; done)) (by first | (go_simp; done) | (simp (maxDischargeDepth := 8) [go_sem, *]; done)) (by first | (go_simp; done) | (simp (maxDischargeDepth := 8) [go_sem, *]; done)) (by first | (go_simp; done) | (simp (maxDischargeDepth := 8) [go_sem, *]; done)) (by first | (go_simp; done) | (simp (maxDischargeDepth := 8) [go_sem, *]; done)) (by first | (go_simp; done) | (simp (maxDischargeDepth := 8) [go_sem, *]; done)) (by first | (go_simp; done) | (simp (maxDischargeDepth := 8) [go_sem, *]; done)) (by first | omega | (simp; done) | (simp; omega))⟩, ⟨BX.mk7 (by first | (go_simp; done) | (simp (maxDischargeDepth := 8) [go_sem, *]; done)) (by first | (go_simp; done) | (simp (maxDischargeDepth := 8) [go_sem, *]; done)) (by first | (go_simp; done) | (simp (maxDischargeDepth := 8) [go_sem, *]; done)) (by first | (go_simp; done) | (simp (maxDischargeDepth := 8) [go_sem, *]; done)) (by first | (go_simp; done) | (simp (maxDischargeDepth := 8) [go_sem, *]; done)) (by first | (go_simp; done) | (simp (maxDischargeDepth := 8) [go_sem, *]; done)) (by first | (go_simp; done) | (simp (maxDischargeDepth := 8) [go_sem, *]; done)) (by first | (go_simp; done) | (simp (maxDischargeDepth := 8) [go_sem, *]; done)) (by first | (go_simp; done) | (simp (maxDischargeDepth := 8) [go_sem, *]; done)) (by first | (go_simp; done) | (simp (maxDischargeDepth := 8) [go_sem, *]; done)) (by first | (go_simp; done) | (simp (maxDischargeDepth := 8) [go_sem, *]; done)) (by first | (go_simp; done) | (simp (maxDischargeDepth := 8) [go_sem, *]; done)) (by first | (go_simp; done) | (simp (maxDischargeDepth := 8) [go_sem, *]; done)) (by first | (go_simp; done) | (simp (maxDischargeDepth := 8) [go_sem, *]; done)) (by first | omega | (simp; done) | (simp; omega))⟩, ⟨(by repeat (first | (with_reducible first | exact HB_w44.out | exact Below.refl _ _ | apply below_alloc | apply pw_below_drewN | apply below_drew1) | refine below_set ?_ (by first | omega | (simp; omega) | simp)))⟩⟩
               ·
                rw [if_neg c46] at H
                have c46b0 : (t437 == 0) = false := beq_eq_false_iff_ne.mpr c46
                have c46b1 : (t437 != 0) = true := bne_iff_ne.mpr c46
                clear c46
                have H' := Aside0.mk H
                clear H
                have hlw44_401_0 : w17.heap.size < w44.heap.size := (by omega)
                have hlw44_409_0 : w24.heap.size < w44.heap.size := (by omega)
                have hlw44_429_0 : w43.heap.size < w44.heap.size := (by omega)
                try go_wp2
                repeat (go_quiet (fail); try go_wp2)
                go_meet
                case rel => exact ⟨_, (true), (by first | rfl | (simp; done) | (simp [*]; done)), H', ⟨by have := HJ2.out; have := HJ14.out; have := HJ22.out; have := HJ26.out; first | omega | exact Nat.le_refl _⟩, ⟨BX.mk7 (by first | (go_simp; done) | (simp (maxDischargeDepth := 8) [go_sem, *]; done)) (by first | (go_simp; done) | (simp (maxDischargeDepth := 8) [go_sem, *]; done)) (by first | (go_simp; done) | (simp (maxDischargeDepth := 8) [go_sem, *]; done)) (by first | (go_simp; done) | (simp (maxDischargeDepth := 8) [go_sem, *]; done)) (by first | (go_simp; done) | (simp (maxDischargeDepth := 8) [go_sem, *]; done)) (by first | (go_simp; done) | (simp (maxDischargeDepth := 8) [go_sem, *]; done)) (by first | (go_simp; done) | (simp (maxDischargeDepth := 8) [go_sem, *]; done)) (by first | (go_simp; done) | (simp (maxDischargeDepth := 8) [go_sem, *]; done)) (by first | (go_simp; done) | (simp (maxDischargeDepth := 8) [go_sem, *]; done)) (by first | (go_simp; done) | (simp (maxDischargeDepth := 8) [go_sem, *]; done)) (by first | (go_simp; done) | (simp (maxDischargeDepth := 8) [go_sem, *]; done)) (by first | (go_simp; done) | (simp (maxDischargeDepth := 8) [go_sem, *]; done)) (by first | (go_simp; done) | (simp (maxDischargeDepth := 8) [go_sem, *]; done)) (by first | (go_simp; done) | (simp (maxDischargeDepth := 8) [go_sem, *]; done)) (by first | omega | (simp; done) | (simp; omega))⟩, ⟨BX.mk7 (by first | (go_simp; done) | (simp (maxDischargeDepth := 8) [go_sem, *]; done)) (by first | (go_simp; done) | (simp (maxDischargeDepth := 8) [go_sem, *]; done)) (by first | (go_simp; done) | (simp (maxDischargeDepth := 8) [go_sem, *]; done)) (by first | (go_simp; done) | (simp (maxDischargeDepth := 8) [go_sem, *]; done)) (by first | (go_simp; done) | (simp (maxDischargeDepth := 8) [go_sem, *]; done)) (by first | (go_simp; done) | (simp (maxDischargeDepth := 8) [go_sem, *]; done)) (by first | (go_simp; done) | (simp (maxDischargeDepth := 8) [go_sem, *]; done)) (by first | (go_simp; done) | (simp (maxDischargeDepth := 8) [go_sem, *]; done)) (by first | (go_simp; done) | (simp (maxDischargeDepth := 8) [go_sem, *]; done)) (by first | (go_simp; done) | (simp (maxDischargeDepth := 8) [go_sem, *]; done)) (by first | (go_simp; done) | (simp (maxDischargeDepth := 8) [go_sem, *]; done)) (by first | (go_simp; done) | (simp (maxDischargeDepth := 8) [go_sem, *]; done)) (by first | (go_simp; done) | (simp (maxDischargeDepth := 8) [go_sem, *]; done)) (by first | (go_simp; done) | (simp (maxDischargeDepth := 8) [go_sem, *]; done)) (by first | omega | (simp; done) | (simp; omega))⟩, ⟨BX.mk7 (by first | (go_simp; done) | (simp (maxDischargeDepth := 8) [go_sem, *]; done)) (by first | (go_simp; done) | (simp (maxDischargeDepth := 8) [go_sem, *]; done)) (by first | (go_simp; done) | (simp (maxDischargeDepth := 8) [go_sem, *]; done)) (by first | (go_simp; done) | (simp (maxDischargeDepth := 8) [go_sem, *]; done)) (by first | (go_simp; done) | (simp (maxDischargeDepth := 8) [go_sem, *]; done)) (by first | (go_simp; done) | (simp (maxDischargeDepth := 8) [go_sem, *]; done)) (by first | (go_simp; done) | (simp (maxDischargeDepth := 8) [go_sem, *]; done)) (by first | (go_simp; done) | (simp (maxDischargeDepth := 8) [go_sem, *]; done)) (by first | (go_simp; done) | (simp (maxDischargeDepth := 8) [go_sem, *]; done)) (by first | (go_simp; done) | (simp (maxDischargeDepth := 8) [go_sem, *]; done)) (by first | (go_simp; done) | (simp (maxDischargeDepth := 8) [go_sem, *]; done)) (by first | (go_simp; done) | (simp (maxDischargeDepth := 8) [go_sem, *]; done)) (by first | (go_simp; done) | (simp (maxDischargeDepth := 8) [go_sem, *]; done)) (by first | (go_simp; done) | (simp (maxDischargeDepth := 8) [go_sem, *]; done)) (by first | omega | (simp; done) | (simp; omega))⟩, ⟨BX.mk7 (by first | (go_simp; done) | (simp (maxDischargeDepth := 8) [go_sem, *]; done)) (by first | (go_simp; done) | (simp (maxDischargeDepth := 8) [go_sem, *]; done)) (by first | (go_simp; done) | (simp (maxDischargeDepth := 8) [go_sem, *]; done)) (by first | (go_simp; done) | (simp (maxDischargeDepth := 8) [go_sem, *]; done)) (by first | (go_simp; done) | (simp (maxDischargeDepth := 8) [go_sem, *]; done)) (by first | (go_simp; done) | (simp (maxDischargeDepth := 8) [go_sem, *]; done)) (by first | (go_simp; done) | (simp (maxDischargeDepth := 8) [go_sem, *]; done)) (by first | (go_simp; done) | (simp (maxDischargeDepth := 8) [go_sem, *]; done)) (by first | (go_simp; done) | (simp (maxDischargeDepth := 8) [go_sem, *]; done)) (by first | (go_simp; done) | (simp (maxDischargeDepth := 8) [go_sem, *]; done)) (by first | (go_simp; done) | (simp (maxDischargeDepth := 8) [go_sem, *]; done)) (by first | (go_simp; done) | (simp (maxDischargeDepth := 8) [go_sem, *]; done)) (by first | (go_simp; done) | (simp (maxDischargeDepth := 8) [go_sem, *]; done)) (by first | (go_simp; done) | (simp (maxDischargeDepth := 8) [go_sem, *]; done)) (by first | omega | (simp; done) | (simp; omega))⟩, ⟨(by repeat (first | (with_reducible first | exact HB_w44.out | exact Below.refl _ _ | apply below_alloc | apply pw_below_drewN | apply below_drew1) | refine below_set ?_ (by first | omega | (simp; omega) | simp)))⟩⟩
              ·
               rw [if_neg c45] at H
               have c45b0 : (t428 == 0) = false := beq_eq_false_iff_ne.mpr c45
               have c45b1 : (t428 != 0) = true := bne_iff_ne.mpr c45
               clear c45
               have H' := Aside0.mk H
               clear H
               have hlw44_401_0 : w17.heap.size < w44.heap.size := (by omega)
               have hlw44_409_0 : w24.heap.size < w44.heap.size := (by omega)
               have hlw44_429_0 : w43.heap.size < w44.heap.size := (by omega)
               try go_wp2
               repeat (go_quiet (fail); try go_wp2)
               go_meet
               case rel => exact ⟨_, (true), (by first | rfl | (simp; done) | (simp [*]; done)), H', ⟨by have := HJ2.out; have := HJ14.out; have := HJ22.out; have := HJ26.out; first | omega | exact Nat.le_refl _⟩, ⟨BX.mk7 (by first | (go_simp; done) | (simp (maxDischargeDepth := 8) [go_sem, *]; done)) (by first | (go_simp; done) | (simp (maxDischargeDepth := 8) [go_sem, *]; done)) (by first | (go_simp; done) | (simp (maxDischargeDepth := 8) [go_sem, *]; done)) (by first | (go_simp; done) | (simp (maxDischargeDepth := 8) [go_sem, *]; done)) (by first | (go_simp; done) | (simp (maxDischargeDepth := 8) [go_sem, *]; done)) (by first | (go_simp; done) | (simp (maxDischargeDepth := 8) [go_sem, *]; done)) (by first | (go_simp; done) | (simp (maxDischargeDepth := 8) [go_sem, *]; done)) (by first | (go_simp; done) | (simp (maxDischargeDepth := 8) [go_sem, *]; done)) (by first | (go_simp; done) | (simp (maxDischargeDepth := 8) [go_sem, *]; done)) (by first | (go_simp; done) | (simp (maxDischargeDepth := 8) [go_sem, *]; done)) (by first | (go_simp; done) | (simp (maxDischargeDepth := 8) [go_sem, *]; done)) (by first | (go_simp; done) | (simp (maxDischargeDepth := 8) [go_sem, *]; done)) (by first | (go_simp; done) | (simp (maxDischargeDepth := 8) [go_sem, *]; done)) (by first | (go_simp; done) | (simp (maxDischargeDepth := 8) [go_sem, *]; done)) (by first | omega | (simp; done) | (simp; omega))⟩, ⟨BX.mk7 (by first | (go_simp; done) | (simp (maxDischargeDepth := 8) [go_sem, *]; done)) (by first | (go_simp; done) | (simp (maxDischargeDepth := 8) [go_sem, *]; done)) (by first | (go_simp; done) | (simp (maxDischargeDepth := 8) [go_sem, *]; done)) (by first | (go_simp; done) | (simp (maxDischargeDepth := 8) [go_sem, *]; done)) (by first | (go_simp; done) | (simp (maxDischargeDepth := 8) [go_sem, *]; done)) (by first | (go_simp; done) | (simp (maxDischargeDepth := 8) [go_sem, *]; done)) (by first | (go_simp; done) | (simp (maxDischargeDepth := 8) [go_sem, *]; done)) (by first | (go_simp; done) | (simp (maxDischargeDepth := 8) [go_sem, *]; done)) (by first | (go_simp; done) | (simp (maxDischargeDepth := 8) [go_sem, *]; done)) (by first | (go_simp; done) | (simp (maxDischargeDepth := 8) [go_sem, *]; done)) (by first | (go_simp; done) | (simp (maxDischargeDepth := 8) [go_sem, *]; done)) (by first | (go_simp; done) | (simp (maxDischargeDepth := 8) [go_sem, *]; done)) (by first | (go_simp; done) | (simp (maxDischargeDepth := 8) [go_sem, *]; done)) (by first | (go_simp; done) | (simp (maxDischargeDepth := 8) [go_sem, *]; done)) (by first | omega | (simp; done) | (simp; omega))⟩, ⟨BX.mk7 (by first | (go_simp; done) | (simp (maxDischargeDepth := 8) [go_sem, *]; done)) (by first | (go_simp; done) | (simp (maxDischargeDepth := 8) [go_sem, *]; done)) (by first | (go_simp; done) | (simp (maxDischargeDepth := 8) [go_sem, *]; done)) (by first | (go_simp; done) | (simp (maxDischargeDepth := 8) [go_sem, *]; done)) (by first | (go_simp; done) | (simp (maxDischargeDepth := 8) [go_sem, *]; done)) (by first | (go_simp; done) | (simp (maxDischargeDepth := 8) [go_sem, *]; done)) (by first | (go_simp; done) | (simp (maxDischargeDepth := 8) [go_sem, *]; done)) (by first | (go_simp; done) | (simp (maxDischargeDepth := 8) [go_sem, *]; done)) (by first | (go_simp; done) | (simp (maxDischargeDepth := 8) [go_sem, *]; done)) (by first | (go_simp; done) | (simp (maxDischargeDepth := 8) [go_sem, *]; done)) (by first | (go_simp; done) | (simp (maxDischargeDepth := 8) [go_sem, *]; done)) (by first | (go_simp; done) | (simp (maxDischargeDepth := 8) [go_sem, *]; done)) (by first | (go_simp; done) | (simp (maxDischargeDepth := 8) [go_sem, *]; done)) (by first | (go_simp; done) | (simp (maxDischargeDepth := 8) [go_sem, *]; done)) (by first | omega | (simp; done) | (simp; omega))⟩, ⟨BX.mk7 (by first | (go_simp; done) | (simp (maxDischargeDepth := 8) [go_sem, *]; done)) (by first | (go_simp; done) | (simp (maxDischargeDepth := 8) [go_sem, *]; done)) (by first | (go_simp; done) | (simp (maxDischargeDepth := 8) [go_sem, *]; done)) (by first | (go_simp; done) | (simp (maxDischargeDepth := 8) [go_sem, *]; done)) (by first | (go_simp; done) | (simp (maxDischargeDepth := 8) [go_sem, *]; done)) (by first | (go_simp; done) | (simp (maxDischargeDepth := 8) [go_sem, *]; done)) (by first | (go_simp; done) | (simp (maxDischargeDepth := 8) [go_sem, *]; done)) (by first | (go_simp; done) | (simp (maxDischargeDepth := 8) [go_sem, *]; done)) (by first | (go_simp; done) | (simp (maxDischargeDepth := 8) [go_sem, *]; done)) (by first | (go_simp; done) | (simp (maxDischargeDepth := 8) [go_sem, *]; done)) (by first | (go_simp; done) | (simp (maxDischargeDepth := 8) [go_sem, *]; done)) (by first | (go_simp; done) | (simp (maxDischargeDepth := 8) [go_sem, *]; done)) (by first | (go_simp; done) | (simp (maxDischargeDepth := 8) [go_sem, *]; done)) (by first | (go_simp; done) | (simp (maxDischargeDepth := 8) [go_sem, *]; done)) (by first | omega | (simp; done) | (simp; omega))⟩, ⟨(by repeat (first | (with_reducible first | exact HB_w44.out | exact Below.refl _ _ | apply below_alloc | apply pw_below_drewN | apply below_drew1) | refine below_set ?_ (by first | omega | (simp; omega) | simp)))⟩⟩
             case rest =>
              rename World => wc41
              clear HC42
              obtain ⟨kq, x91_41, rfl, HA, HJ41, BX401_41, BX409_41, BX429_41, BX438_41, HB_41⟩ := hcut
              have hs41 : w.heap.size ≤ wc41.heap.size := HB_41.out.size
              obtain ⟨hz401_41_0, hz401_41_1, hz401_41_2, hz401_41_3, hz401_41_4, hz401_41_5, hz401_41_6, hf401_41_0, hf401_41_1, hf401_41_2, hf401_41_3, hf401_41_4, hf401_41_5, hf401_41_6, hlt401_41⟩ := BX401_41.out.out7
              obtain ⟨hz409_41_0, hz409_41_1, hz409_41_2, hz409_41_3, hz409_41_4, hz409_41_5, hz409_41_6, hf409_41_0, hf409_41_1, hf409_41_2, hf409_41_3, hf409_41_4, hf409_41_5, hf409_41_6, hlt409_41⟩ := BX409_41.out.out7
              obtain ⟨hz429_41_0, hz429_41_1, hz429_41_2, hz429_41_3, hz429_41_4, hz429_41_5, hz429_41_6, hf429_41_0, hf429_41_1, hf429_41_2, hf429_41_3, hf429_41_4, hf429_41_5, hf429_41_6, hlt429_41⟩ := BX429_41.out.out7
              obtain ⟨hz438_41_0, hz438_41_1, hz438_41_2, hz438_41_3, hz438_41_4, hz438_41_5, hz438_41_6, hf438_41_0, hf438_41_1, hf438_41_2, hf438_41_3, hf438_41_4, hf438_41_5, hf438_41_6, hlt438_41⟩ := BX438_41.out.out7
              cases kq with
              | zero => exact absurd HA.out (by simp [drayagelaw14_SagaCancels.j4])
              | succ k41 =>
               have H := HA.out
               clear HA
               simp only [drayagelaw14_SagaCancels.j4] at H
               by_cases c48 : x91_41 = true
               ·
                rw [if_pos c48] at H
                exact absurd H (by simp)
               ·
                replace c48 := Bool.eq_false_iff.mpr c48; subst c48
                rw [if_neg (by decide)] at H
                have HC50 := Aside0.mk H
                clear H
                have hlwc41_401_0 : w17.heap.size < wc41.heap.size := (by omega)
                have hlwc41_409_0 : w24.heap.size < wc41.heap.size := (by omega)
                have hlwc41_429_0 : w43.heap.size < wc41.heap.size := (by omega)
                have hlwc41_438_0 : w44.heap.size < wc41.heap.size := (by omega)
                try go_wp2
                repeat (go_quiet (fail); try go_wp2)
                go_loopg [17] k41 (fun kq v17 wq49 => ∃ (x17_49 : Int) (x430000_49 : Int) (x430001_49 : Int) (x430002_49 : Int) (x430003_49 : Bool) (x430004_49 : Int) (x430005_49 : Bool) (x430006_49 : Int), v17 = .int .i64 x17_49 ∧ Aside0 (drayagelaw14_SagaCancels.l1 kq l0 l2 x17_49 x410000_22 x410001_22 x410002_22 x410003_22 x410004_22 x410005_22 x410006_22 x430000_49 x430001_49 x430002_49 x430003_49 x430004_49 x430005_49 x430006_49 = some r) ∧ Aside0 (kq ≤ k41) ∧ Aside0 (BX wq49 (w17.heap.size) [.int .i64 t393, .int .i64 t394, .int .i64 t395, .bool t396, .int .i64 t397, .bool t398, .int .i64 t399]) ∧ Aside0 (BX wq49 (w24.heap.size) [.int .i64 x410000_22, .int .i64 x410001_22, .int .i64 x410002_22, .bool x410003_22, .int .i64 x410004_22, .bool x410005_22, .int .i64 x410006_22]) ∧ Aside0 (BX wq49 (w43.heap.size) [.int .i64 x430000_49, .int .i64 x430001_49, .int .i64 x430002_49, .bool x430003_49, .int .i64 x430004_49, .bool x430005_49, .int .i64 x430006_49]) ∧ Aside0 (BX wq49 (w44.heap.size) [.int .i64 t430, .int .i64 t431, .int .i64 t432, .bool t433, .int .i64 t434, .bool t435, .int .i64 t436]) ∧ Aside0 (Below w.heap.size w wq49))
                case atStart => exact ⟨(0), (t421), (t422), (t423), (t424), (t425), (t426), (t427), (by first | rfl | (simp; done) | (simp [*]; done)), HC50, ⟨Nat.le_refl _⟩, ⟨BX.mk7 (by first | (go_simp; done) | (simp (maxDischargeDepth := 8) [go_sem, *]; done)) (by first | (go_simp; done) | (simp (maxDischargeDepth := 8) [go_sem, *]; done)) (by first | (go_simp; done) | (simp (maxDischargeDepth := 8) [go_sem, *]; done)) (by first | (go_simp; done) | (simp (maxDischargeDepth := 8) [go_sem, *]; done)) (by first | (go_simp; done) | (simp (maxDischargeDepth := 8) [go_sem, *]; done)) (by first | (go_simp; done) | (simp (maxDischargeDepth := 8) [go_sem, *]; done)) (by first | (go_simp; done) | (simp (maxDischargeDepth := 8) [go_sem, *]; done)) (by first | (go_simp; done) | (simp (maxDischargeDepth := 8) [go_sem, *]; done)) (by first | (go_simp; done) | (simp (maxDischargeDepth := 8) [go_sem, *]; done)) (by first | (go_simp; done) | (simp (maxDischargeDepth := 8) [go_sem, *]; done)) (by first | (go_simp; done) | (simp (maxDischargeDepth := 8) [go_sem, *]; done)) (by first | (go_simp; done) | (simp (maxDischargeDepth := 8) [go_sem, *]; done)) (by first | (go_simp; done) | (simp (maxDischargeDepth := 8) [go_sem, *]; done)) (by first | (go_simp; done) | (simp (maxDischargeDepth := 8) [go_sem, *]; done)) (by first | omega | (simp; done) | (simp; omega))⟩, ⟨BX.mk7 (by first | (go_simp; done) | (simp (maxDischargeDepth := 8) [go_sem, *]; done)) (by first | (go_simp; done) | (simp (maxDischargeDepth := 8) [go_sem, *]; done)) (by first | (go_simp; done) | (simp (maxDischargeDepth := 8) [go_sem, *]; done)) (by first | (go_simp; done) | (simp (maxDischargeDepth := 8) [go_sem, *]; done)) (by first | (go_simp; done) | (simp (maxDischargeDepth := 8) [go_sem, *]; done)) (by first | (go_simp; done) | (simp (maxDischargeDepth := 8) [go_sem, *]; done)) (by first | (go_simp; done) | (simp (maxDischargeDepth := 8) [go_sem, *]; done)) (by first | (go_simp; done) | (simp (maxDischargeDepth := 8) [go_sem, *]; done)) (by first | (go_simp; done) | (simp (maxDischargeDepth := 8) [go_sem, *]; done)) (by first | (go_simp; done) | (simp (maxDischargeDepth := 8) [go_sem, *]; done)) (by first | (go_simp; done) | (simp (maxDischargeDepth := 8) [go_sem, *]; done)) (by first | (go_simp; done) | (simp (maxDischargeDepth := 8) [go_sem, *]; done)) (by first | (go_simp; done) | (simp (maxDischargeDepth := 8) [go_sem, *]; done)) (by first | (go_simp; done) | (simp (maxDischargeDepth := 8) [go_sem, *]; done)) (by first | omega | (simp; done) | (simp; omega))⟩, ⟨BX.mk7 (by first | (go_simp; done) | (simp (maxDischargeDepth := 8) [go_sem, *]; done)) (by first | (go_simp; done) | (simp (maxDischargeDepth := 8) [go_sem, *]; done)) (by first | (go_simp; done) | (simp (maxDischargeDepth := 8) [go_sem, *]; done)) (by first | (go_simp; done) | (simp (maxDischargeDepth := 8) [go_sem, *]; done)) (by first | (go_simp; done) | (simp (maxDischargeDepth := 8) [go_sem, *]; done)) (by first | (go_simp; done) | (simp (maxDischargeDepth := 8) [go_sem, *]; done)) (by first | (go_simp; done) | (simp (maxDischargeDepth := 8) [go_sem, *]; done)) (by first | (go_simp; done) | (simp (maxDischargeDepth := 8) [go_sem, *]; done)) (by first | (go_simp; done) | (simp (maxDischargeDepth := 8) [go_sem, *]; done)) (by first | (go_simp; done) | (simp (maxDischargeDepth := 8) [go_sem, *]; done)) (by first | (go_simp; done) | (simp (maxDischargeDepth := 8) [go_sem, *]; done)) (by first | (go_simp; done) | (simp (maxDischargeDepth := 8) [go_sem, *]; done)) (by first | (go_simp; done) | (simp (maxDischargeDepth := 8) [go_sem, *]; done)) (by first | (go_simp; done) | (simp (maxDischargeDepth := 8) [go_sem, *]; done)) (by first | omega | (simp; done) | (simp; omega))⟩, ⟨BX.mk7 (by first | (go_simp; done) | (simp (maxDischargeDepth := 8) [go_sem, *]; done)) (by first | (go_simp; done) | (simp (maxDischargeDepth := 8) [go_sem, *]; done)) (by first | (go_simp; done) | (simp (maxDischargeDepth := 8) [go_sem, *]; done)) (by first | (go_simp; done) | (simp (maxDischargeDepth := 8) [go_sem, *]; done)) (by first | (go_simp; done) | (simp (maxDischargeDepth := 8) [go_sem, *]; done)) (by first | (go_simp; done) | (simp (maxDischargeDepth := 8) [go_sem, *]; done)) (by first | (go_simp; done) | (simp (maxDischargeDepth := 8) [go_sem, *]; done)) (by first | (go_simp; done) | (simp (maxDischargeDepth := 8) [go_sem, *]; done)) (by first | (go_simp; done) | (simp (maxDischargeDepth := 8) [go_sem, *]; done)) (by first | (go_simp; done) | (simp (maxDischargeDepth := 8) [go_sem, *]; done)) (by first | (go_simp; done) | (simp (maxDischargeDepth := 8) [go_sem, *]; done)) (by first | (go_simp; done) | (simp (maxDischargeDepth := 8) [go_sem, *]; done)) (by first | (go_simp; done) | (simp (maxDischargeDepth := 8) [go_sem, *]; done)) (by first | (go_simp; done) | (simp (maxDischargeDepth := 8) [go_sem, *]; done)) (by first | omega | (simp; done) | (simp; omega))⟩, ⟨(by repeat (first | (with_reducible first | exact HB_41.out | exact Below.refl _ _ | apply below_alloc | apply pw_below_drewN | apply below_drew1) | refine below_set ?_ (by first | omega | (simp; omega) | simp)))⟩⟩
                case round =>
                 rename World => wr49
                 clear HC50
                 obtain ⟨x17_49, x430000_49, x430001_49, x430002_49, x430003_49, x430004_49, x430005_49, x430006_49, rfl, HA, HJ49, BX401_49, BX409_49, BX429_49, BX438_49, HB_49⟩ := hrel
                 have hs49 : w.heap.size ≤ wr49.heap.size := HB_49.out.size
                 obtain ⟨hz401_49_0, hz401_49_1, hz401_49_2, hz401_49_3, hz401_49_4, hz401_49_5, hz401_49_6, hf401_49_0, hf401_49_1, hf401_49_2, hf401_49_3, hf401_49_4, hf401_49_5, hf401_49_6, hlt401_49⟩ := BX401_49.out.out7
                 obtain ⟨hz409_49_0, hz409_49_1, hz409_49_2, hz409_49_3, hz409_49_4, hz409_49_5, hz409_49_6, hf409_49_0, hf409_49_1, hf409_49_2, hf409_49_3, hf409_49_4, hf409_49_5, hf409_49_6, hlt409_49⟩ := BX409_49.out.out7
                 obtain ⟨hz429_49_0, hz429_49_1, hz429_49_2, hz429_49_3, hz429_49_4, hz429_49_5, hz429_49_6, hf429_49_0, hf429_49_1, hf429_49_2, hf429_49_3, hf429_49_4, hf429_49_5, hf429_49_6, hlt429_49⟩ := BX429_49.out.out7
                 obtain ⟨hz438_49_0, hz438_49_1, hz438_49_2, hz438_49_3, hz438_49_4, hz438_49_5, hz438_49_6, hf438_49_0, hf438_49_1, hf438_49_2, hf438_49_3, hf438_49_4, hf438_49_5, hf438_49_6, hlt438_49⟩ := BX438_49.out.out7
                 cases gk with
                 | zero => exact absurd HA.out (by simp [drayagelaw14_SagaCancels.l1])
                 | succ k49 =>
                  have H := HA.out
                  clear HA
                  simp only [drayagelaw14_SagaCancels.l1] at H
                  have HC53 := Aside0.mk H
                  clear H
                  have hlwr49_401_0 : w17.heap.size < wr49.heap.size := (by omega)
                  have hlwr49_409_0 : w24.heap.size < wr49.heap.size := (by omega)
                  have hlwr49_429_0 : w43.heap.size < wr49.heap.size := (by omega)
                  have hlwr49_438_0 : w44.heap.size < wr49.heap.size := (by omega)
                  go_upto_region 21 with (fail)
                  repeat (go_quiet (fail); go_upto_region 21 with (fail))
                  go_cut [99] (fun v99 wq52 => ∃ (kq : Nat) (x99_52 : Bool), v99 = .bool x99_52 ∧ Aside0 (drayagelaw14_SagaCancels.j6 kq l0 l2 x17_49 x99_52 x410000_22 x410001_22 x410002_22 x410003_22 x410004_22 x410005_22 x410006_22 x430000_49 x430001_49 x430002_49 x430003_49 x430004_49 x430005_49 x430006_49 = some r) ∧ Aside0 (kq ≤ k49) ∧ Aside0 (BX wq52 (w17.heap.size) [.int .i64 t393, .int .i64 t394, .int .i64 t395, .bool t396, .int .i64 t397, .bool t398, .int .i64 t399]) ∧ Aside0 (BX wq52 (w24.heap.size) [.int .i64 x410000_22, .int .i64 x410001_22, .int .i64 x410002_22, .bool x410003_22, .int .i64 x410004_22, .bool x410005_22, .int .i64 x410006_22]) ∧ Aside0 (BX wq52 (w43.heap.size) [.int .i64 x430000_49, .int .i64 x430001_49, .int .i64 x430002_49, .bool x430003_49, .int .i64 x430004_49, .bool x430005_49, .int .i64 x430006_49]) ∧ Aside0 (BX wq52 (w44.heap.size) [.int .i64 t430, .int .i64 t431, .int .i64 t432, .bool t433, .int .i64 t434, .bool t435, .int .i64 t436]) ∧ Aside0 (Below w.heap.size w wq52))
                  case first =>
                   have H := HC53.out
                   clear HC53
                   by_cases c54 : x17_49 < (l2.length : Int)
                   ·
                    rw [if_pos c54] at H
                    have c54b0 : decide (x17_49 < (l2.length : Int)) = true := decide_eq_true c54
                    clear c54
                    have H' := Aside0.mk H
                    clear H
                    have hlwr49_401_0 : w17.heap.size < wr49.heap.size := (by omega)
                    have hlwr49_409_0 : w24.heap.size < wr49.heap.size := (by omega)
                    have hlwr49_429_0 : w43.heap.size < wr49.heap.size := (by omega)
                    have hlwr49_438_0 : w44.heap.size < wr49.heap.size := (by omega)
                    try go_wp2
                    repeat (go_quiet (fail); try go_wp2)
                    go_meet
                    case rel => exact ⟨_, (decide (x17_49 < 100)), (by first | rfl | (simp; done) | (simp [*]; done)), H', ⟨by have := HJ2.out; have := HJ14.out; have := HJ22.out; have := HJ26.out; have := HJ41.out; have := HJ49.out; first | omega | exact Nat.le_refl _⟩, ⟨BX.mk7 (by first | (go_simp; done) | (simp (maxDischargeDepth := 8) [go_sem, *]; done)) (by first | (go_simp; done) | (simp (maxDischargeDepth := 8) [go_sem, *]; done)) (by first | (go_simp; done) | (simp (maxDischargeDepth := 8) [go_sem, *]; done)) (by first | (go_simp; done) | (simp (maxDischargeDepth := 8) [go_sem, *]; done)) (by first | (go_simp; done) | (simp (maxDischargeDepth := 8) [go_sem, *]; done)) (by first | (go_simp; done) | (simp (maxDischargeDepth := 8) [go_sem, *]; done)) (by first | (go_simp; done) | (simp (maxDischargeDepth := 8) [go_sem, *]; done)) (by first | (go_simp; done) | (simp (maxDischargeDepth := 8) [go_sem, *]; done)) (by first | (go_simp; done) | (simp (maxDischargeDepth := 8) [go_sem, *]; done)) (by first | (go_simp; done) | (simp (maxDischargeDepth := 8) [go_sem, *]; done)) (by first | (go_simp; done) | (simp (maxDischargeDepth := 8) [go_sem, *]; done)) (by first | (go_simp; done) | (simp (maxDischargeDepth := 8) [go_sem, *]; done)) (by first | (go_simp; done) | (simp (maxDischargeDepth := 8) [go_sem, *]; done)) (by first | (go_simp; done) | (simp (maxDischargeDepth := 8) [go_sem, *]; done)) (by first | omega | (simp; done) | (simp; omega))⟩, ⟨BX.mk7 (by first | (go_simp; done) | (simp (maxDischargeDepth := 8) [go_sem, *]; done)) (by first | (go_simp; done) | (simp (maxDischargeDepth := 8) [go_sem, *]; done)) (by first | (go_simp; done) | (simp (maxDischargeDepth := 8) [go_sem, *]; done)) (by first | (go_simp; done) | (simp (maxDischargeDepth := 8) [go_sem, *]; done)) (by first | (go_simp; done) | (simp (maxDischargeDepth := 8) [go_sem, *]; done)) (by first | (go_simp; done) | (simp (maxDischargeDepth := 8) [go_sem, *]; done)) (by first | (go_simp; done) | (simp (maxDischargeDepth := 8) [go_sem, *]; done)) (by first | (go_simp; done) | (simp (maxDischargeDepth := 8) [go_sem, *]; done)) (by first | (go_simp; done) | (simp (maxDischargeDepth := 8) [go_sem, *]; done)) (by first | (go_simp; done) | (simp (maxDischargeDepth := 8) [go_sem, *]; done)) (by first | (go_simp; done) | (simp (maxDischargeDepth := 8) [go_sem, *]; done)) (by first | (go_simp; done) | (simp (maxDischargeDepth := 8) [go_sem, *]; done)) (by first | (go_simp; done) | (simp (maxDischargeDepth := 8) [go_sem, *]; done)) (by first | (go_simp; done) | (simp (maxDischargeDepth := 8) [go_sem, *]; done)) (by first | omega | (simp; done) | (simp; omega))⟩, ⟨BX.mk7 (by first | (go_simp; done) | (simp (maxDischargeDepth := 8) [go_sem, *]; done)) (by first | (go_simp; done) | (simp (maxDischargeDepth := 8) [go_sem, *]; done)) (by first | (go_simp; done) | (simp (maxDischargeDepth := 8) [go_sem, *]; done)) (by first | (go_simp; done) | (simp (maxDischargeDepth := 8) [go_sem, *]; done)) (by first | (go_simp; done) | (simp (maxDischargeDepth := 8) [go_sem, *]; done)) (by first | (go_simp; done) | (simp (maxDischargeDepth := 8) [go_sem, *]; done)) (by first | (go_simp; done) | (simp (maxDischargeDepth := 8) [go_sem, *]; done)) (by first | (go_simp; done) | (simp (maxDischargeDepth := 8) [go_sem, *]; done)) (by first | (go_simp; done) | (simp (maxDischargeDepth := 8) [go_sem, *]; done)) (by first | (go_simp; done) | (simp (maxDischargeDepth := 8) [go_sem, *]; done)) (by first | (go_simp; done) | (simp (maxDischargeDepth := 8) [go_sem, *]; done)) (by first | (go_simp; done) | (simp (maxDischargeDepth := 8) [go_sem, *]; done)) (by first | (go_simp; done) | (simp (maxDischargeDepth := 8) [go_sem, *]; done)) (by first | (go_simp; done) | (simp (maxDischargeDepth := 8) [go_sem, *]; done)) (by first | omega | (simp; done) | (simp; omega))⟩, ⟨BX.mk7 (by first | (go_simp; done) | (simp (maxDischargeDepth := 8) [go_sem, *]; done)) (by first | (go_simp; done) | (simp (maxDischargeDepth := 8) [go_sem, *]; done)) (by first | (go_simp; done) | (simp (maxDischargeDepth := 8) [go_sem, *]; done)) (by first | (go_simp; done) | (simp (maxDischargeDepth := 8) [go_sem, *]; done)) (by first | (go_simp; done) | (simp (maxDischargeDepth := 8) [go_sem, *]; done)) (by first | (go_simp; done) | (simp (maxDischargeDepth := 8) [go_sem, *]; done)) (by first | (go_simp; done) | (simp (maxDischargeDepth := 8) [go_sem, *]; done)) (by first | (go_simp; done) | (simp (maxDischargeDepth := 8) [go_sem, *]; done)) (by first | (go_simp; done) | (simp (maxDischargeDepth := 8) [go_sem, *]; done)) (by first | (go_simp; done) | (simp (maxDischargeDepth := 8) [go_sem, *]; done)) (by first | (go_simp; done) | (simp (maxDischargeDepth := 8) [go_sem, *]; done)) (by first | (go_simp; done) | (simp (maxDischargeDepth := 8) [go_sem, *]; done)) (by first | (go_simp; done) | (simp (maxDischargeDepth := 8) [go_sem, *]; done)) (by first | (go_simp; done) | (simp (maxDischargeDepth := 8) [go_sem, *]; done)) (by first | omega | (simp; done) | (simp; omega))⟩, ⟨(by repeat (first | (with_reducible first | exact HB_49.out | exact Below.refl _ _ | apply below_alloc | apply pw_below_drewN | apply below_drew1) | refine below_set ?_ (by first | omega | (simp; omega) | simp)))⟩⟩
                   ·
                    rw [if_neg c54] at H
                    have c54b0 : decide (x17_49 < (l2.length : Int)) = false := decide_eq_false c54
                    clear c54
                    have H' := Aside0.mk H
                    clear H
                    have hlwr49_401_0 : w17.heap.size < wr49.heap.size := (by omega)
                    have hlwr49_409_0 : w24.heap.size < wr49.heap.size := (by omega)
                    have hlwr49_429_0 : w43.heap.size < wr49.heap.size := (by omega)
                    have hlwr49_438_0 : w44.heap.size < wr49.heap.size := (by omega)
                    try go_wp2
                    repeat (go_quiet (fail); try go_wp2)
                    go_meet
                    case rel => exact ⟨_, (false), (by first | rfl | (simp; done) | (simp [*]; done)), H', ⟨by have := HJ2.out; have := HJ14.out; have := HJ22.out; have := HJ26.out; have := HJ41.out; have := HJ49.out; first | omega | exact Nat.le_refl _⟩, ⟨BX.mk7 (by first | (go_simp; done) | (simp (maxDischargeDepth := 8) [go_sem, *]; done)) (by first | (go_simp; done) | (simp (maxDischargeDepth := 8) [go_sem, *]; done)) (by first | (go_simp; done) | (simp (maxDischargeDepth := 8) [go_sem, *]; done)) (by first | (go_simp; done) | (simp (maxDischargeDepth := 8) [go_sem, *]; done)) (by first | (go_simp; done) | (simp (maxDischargeDepth := 8) [go_sem, *]; done)) (by first | (go_simp; done) | (simp (maxDischargeDepth := 8) [go_sem, *]; done)) (by first | (go_simp; done) | (simp (maxDischargeDepth := 8) [go_sem, *]; done)) (by first | (go_simp; done) | (simp (maxDischargeDepth := 8) [go_sem, *]; done)) (by first | (go_simp; done) | (simp (maxDischargeDepth := 8) [go_sem, *]; done)) (by first | (go_simp; done) | (simp (maxDischargeDepth := 8) [go_sem, *]; done)) (by first | (go_simp; done) | (simp (maxDischargeDepth := 8) [go_sem, *]; done)) (by first | (go_simp; done) | (simp (maxDischargeDepth := 8) [go_sem, *]; done)) (by first | (go_simp; done) | (simp (maxDischargeDepth := 8) [go_sem, *]; done)) (by first | (go_simp; done) | (simp (maxDischargeDepth := 8) [go_sem, *]; done)) (by first | omega | (simp; done) | (simp; omega))⟩, ⟨BX.mk7 (by first | (go_simp; done) | (simp (maxDischargeDepth := 8) [go_sem, *]; done)) (by first | (go_simp; done) | (simp (maxDischargeDepth := 8) [go_sem, *]; done)) (by first | (go_simp; done) | (simp (maxDischargeDepth := 8) [go_sem, *]; done)) (by first | (go_simp; done) | (simp (maxDischargeDepth := 8) [go_sem, *]; done)) (by first | (go_simp; done) | (simp (maxDischargeDepth := 8) [go_sem, *]; done)) (by first | (go_simp; done) | (simp (maxDischargeDepth := 8) [go_sem, *]; done)) (by first | (go_simp; done) | (simp (maxDischargeDepth := 8) [go_sem, *]; done)) (by first | (go_simp; done) | (simp (maxDischargeDepth := 8) [go_sem, *]; done)) (by first | (go_simp; done) | (simp (maxDischargeDepth := 8) [go_sem, *]; done)) (by first | (go_simp; done) | (simp (maxDischargeDepth := 8) [go_sem, *]; done)) (by first | (go_simp; done) | (simp (maxDischargeDepth := 8) [go_sem, *]; done)) (by first | (go_simp; done) | (simp (maxDischargeDepth := 8) [go_sem, *]; done)) (by first | (go_simp; done) | (simp (maxDischargeDepth := 8) [go_sem, *]; done)) (by first | (go_simp; done) | (simp (maxDischargeDepth := 8) [go_sem, *]; done)) (by first | omega | (simp; done) | (simp; omega))⟩, ⟨BX.mk7 (by first | (go_simp; done) | (simp (maxDischargeDepth := 8) [go_sem, *]; done)) (by first | (go_simp; done) | (simp (maxDischargeDepth := 8) [go_sem, *]; done)) (by first | (go_simp; done) | (simp (maxDischargeDepth := 8) [go_sem, *]; done)) (by first | (go_simp; done) | (simp (maxDischargeDepth := 8) [go_sem, *]; done)) (by first | (go_simp; done) | (simp (maxDischargeDepth := 8) [go_sem, *]; done)) (by first | (go_simp; done) | (simp (maxDischargeDepth := 8) [go_sem, *]; done)) (by first | (go_simp; done) | (simp (maxDischargeDepth := 8) [go_sem, *]; done)) (by first | (go_simp; done) | (simp (maxDischargeDepth := 8) [go_sem, *]; done)) (by first | (go_simp; done) | (simp (maxDischargeDepth := 8) [go_sem, *]; done)) (by first | (go_simp; done) | (simp (maxDischargeDepth := 8) [go_sem, *]; done)) (by first | (go_simp; done) | (simp (maxDischargeDepth := 8) [go_sem, *]; done)) (by first | (go_simp; done) | (simp (maxDischargeDepth := 8) [go_sem, *]; done)) (by first | (go_simp; done) | (simp (maxDischargeDepth := 8) [go_sem, *]; done)) (by first | (go_simp; done) | (simp (maxDischargeDepth := 8) [go_sem, *]; done)) (by first | omega | (simp; done) | (simp; omega))⟩, ⟨BX.mk7 (by first | (go_simp; done) | (simp (maxDischargeDepth := 8) [go_sem, *]; done)) (by first | (go_simp; done) | (simp (maxDischargeDepth := 8) [go_sem, *]; done)) (by first | (go_simp; done) | (simp (maxDischargeDepth := 8) [go_sem, *]; done)) (by first | (go_simp; done) | (simp (maxDischargeDepth := 8) [go_sem, *]; done)) (by first | (go_simp; done) | (simp (maxDischargeDepth := 8) [go_sem, *]; done)) (by first | (go_simp; done) | (simp (maxDischargeDepth := 8) [go_sem, *]; done)) (by first | (go_simp; done) | (simp (maxDischargeDepth := 8) [go_sem, *]; done)) (by first | (go_simp; done) | (simp (maxDischargeDepth := 8) [go_sem, *]; done)) (by first | (go_simp; done) | (simp (maxDischargeDepth := 8) [go_sem, *]; done)) (by first | (go_simp; done) | (simp (maxDischargeDepth := 8) [go_sem, *]; done)) (by first | (go_simp; done) | (simp (maxDischargeDepth := 8) [go_sem, *]; done)) (by first | (go_simp; done) | (simp (maxDischargeDepth := 8) [go_sem, *]; done)) (by first | (go_simp; done) | (simp (maxDischargeDepth := 8) [go_sem, *]; done)) (by first | (go_simp; done) | (simp (maxDischargeDepth := 8) [go_sem, *]; done)) (by first | omega | (simp; done) | (simp; omega))⟩, ⟨(by repeat (first | (with_reducible first | exact HB_49.out | exact Below.refl _ _ | apply below_alloc | apply pw_below_drewN | apply below_drew1) | refine below_set ?_ (by first | omega | (simp; omega) | simp)))⟩⟩
                  case rest =>
                   rename World => wc52
                   clear HC53
                   obtain ⟨kq, x99_52, rfl, HA, HJ52, BX401_52, BX409_52, BX429_52, BX438_52, HB_52⟩ := hcut
                   have hs52 : w.heap.size ≤ wc52.heap.size := HB_52.out.size
                   obtain ⟨hz401_52_0, hz401_52_1, hz401_52_2, hz401_52_3, hz401_52_4, hz401_52_5, hz401_52_6, hf401_52_0, hf401_52_1, hf401_52_2, hf401_52_3, hf401_52_4, hf401_52_5, hf401_52_6, hlt401_52⟩ := BX401_52.out.out7
                   obtain ⟨hz409_52_0, hz409_52_1, hz409_52_2, hz409_52_3, hz409_52_4, hz409_52_5, hz409_52_6, hf409_52_0, hf409_52_1, hf409_52_2, hf409_52_3, hf409_52_4, hf409_52_5, hf409_52_6, hlt409_52⟩ := BX409_52.out.out7
                   obtain ⟨hz429_52_0, hz429_52_1, hz429_52_2, hz429_52_3, hz429_52_4, hz429_52_5, hz429_52_6, hf429_52_0, hf429_52_1, hf429_52_2, hf429_52_3, hf429_52_4, hf429_52_5, hf429_52_6, hlt429_52⟩ := BX429_52.out.out7
                   obtain ⟨hz438_52_0, hz438_52_1, hz438_52_2, hz438_52_3, hz438_52_4, hz438_52_5, hz438_52_6, hf438_52_0, hf438_52_1, hf438_52_2, hf438_52_3, hf438_52_4, hf438_52_5, hf438_52_6, hlt438_52⟩ := BX438_52.out.out7
                   cases kq with
                   | zero => exact absurd HA.out (by simp [drayagelaw14_SagaCancels.j6])
                   | succ k52 =>
                    have H := HA.out
                    clear HA
                    simp only [drayagelaw14_SagaCancels.j6] at H
                    by_cases c56 : x99_52 = true
                    ·
                     subst c56
                     rw [if_pos rfl] at H
                     by_cases c57 : 0 ≤ x17_49
                     ·
                      rw [if_pos c57] at H
                      have c57b0 : decide (0 ≤ x17_49) = true := decide_eq_true c57
                      clear c57
                      by_cases c58 : x17_49 < (l2.length : Int)
                      ·
                       rw [if_pos c58] at H
                       have c58b0 : decide (x17_49 < (l2.length : Int)) = true := decide_eq_true c58
                       clear c58
                       obtain ⟨⟨t440, t441, t442, t443, t444, t445, t446, t447⟩, A_, H⟩ := Option.bind_eq_some_iff.mp H
                       try dsimp only at H
                       have A59 := Aside0.mk A_
                       clear A_
                       by_cases c60 : t447 = true
                       ·
                        subst c60
                        rw [if_pos rfl] at H
                        have HK_ := Aside0.mk H
                        clear H
                        try go_wp2
                        have BR401 := Aside0.mk (BX_drew BX401_52.out)
                        have BR409 := Aside0.mk (BX_drew BX409_52.out)
                        have BR429 := Aside0.mk (BX_drew BX429_52.out)
                        have BR438 := Aside0.mk (BX_drew BX438_52.out)
                        have HBR := Aside0.mk (below_drew1 HB_52.out)
                        have p439 : 0 ≤ (x17_49 : Int) := of_decide_eq_true (by first | (with_reducible assumption) | assumption)
                        have q439 : x17_49 < (l2.length : Int) := of_decide_eq_true (by first | (with_reducible assumption) | assumption)
                        obtain ⟨ad439, e439, hx439_0, hx439_1, hx439_2⟩ := at_T54 HR2.out (x17_49) p439 q439
                        have hw439_0 := hx439_0
                        have hw439_1 := hx439_1
                        have hw439_2 := hx439_2
                        cases e439
                        replace hx439_0 := (HBR.out.cell (World.block_lt_of_cell? w _ hx439_0)).trans hx439_0
                        replace hx439_1 := (HBR.out.cell (World.block_lt_of_cell? w _ hx439_1)).trans hx439_1
                        replace hx439_2 := (HBR.out.cell (World.block_lt_of_cell? w _ hx439_2)).trans hx439_2
                        replace p439 := eq_true p439
                        replace q439 := eq_true q439
                        refine start_ (n := 13) (S := fun w' => w'.cell? ⟨w43.heap.size, 0, none⟩ = some (.int .i64 x430000_49) ∧ w'.cell? ⟨w43.heap.size, 1, none⟩ = some (.int .i64 x430001_49) ∧ w'.cell? ⟨w43.heap.size, 2, none⟩ = some (.int .i64 x430002_49) ∧ w'.cell? ⟨w43.heap.size, 3, none⟩ = some (.bool x430003_49) ∧ w'.cell? ⟨w43.heap.size, 4, none⟩ = some (.int .i64 x430004_49) ∧ w'.cell? ⟨w43.heap.size, 5, none⟩ = some (.bool x430005_49) ∧ w'.cell? ⟨w43.heap.size, 6, none⟩ = some (.int .i64 x430006_49) ∧ w'.cell? (ad439.add ((x17_49).toNat * 3)) = some (.int .i64 ((rd_T54 l2 x17_49).f0)) ∧ w'.cell? ⟨(ad439.add ((x17_49).toNat * 3)).block, (ad439.add ((x17_49).toNat * 3)).off + 1, none⟩ = some (.int .i64 ((rd_T54 l2 x17_49).f1)) ∧ w'.cell? ⟨(ad439.add ((x17_49).toNat * 3)).block, (ad439.add ((x17_49).toNat * 3)).off + 2, none⟩ = some (.int .i64 ((rd_T54 l2 x17_49).f2))) (ds := []) #[false, false, false, false, false, false, false, false, false, false, false, false, false] (by kernel_rfl) rfl rfl ⟨(BR429.out.1 0 _ rfl).1, (BR429.out.1 1 _ rfl).1, (BR429.out.1 2 _ rfl).1, (BR429.out.1 3 _ rfl).1, (BR429.out.1 4 _ rfl).1, (BR429.out.1 5 _ rfl).1, (BR429.out.1 6 _ rfl).1, ((HBR.out.cell (World.block_lt_of_cell? w _ hw439_0)).trans hw439_0), ((HBR.out.cell (World.block_lt_of_cell? w _ hw439_1)).trans hw439_1), ((HBR.out.cell (World.block_lt_of_cell? w _ hw439_2)).trans hw439_2)⟩ (fun hHeld => ?_); refine with_tabW drayagelaw14_SagaCancels.tab23 drayagelaw14_SagaCancels.bits23 (fun HT_ HW_ => ?_)
                        generalize wc52.drew = wd439 at BR401 BR409 BR429 BR438 HBR hx439_0 hx439_1 hx439_2 hHeld ⊢
                        refine pure_ (i := 0) (N := some 103) (v := ?_) (a' := ?_) #[true, false, false, false, false, false, false, false, false, false, false, false, false] rfl rfl (any_of HT_.out (by kernel_rfl)) (fun _ _ _ h => h) (Or.inl ⟨by rfl, ?_⟩) ?_ ?_
                        rotate_left
                        ·
                         intro w'; go_simp; with_reducible rfl
                        rotate_left
                        ·
                         simp only [Act.put, List.setIfInBounds_toArray, List.set_cons_zero, List.set_cons_succ, i64_w, i32_w]; rfl
                        refine pure_ (i := 2) (N := some 105) (v := ?_) (a' := ?_) #[true, false, true, false, false, false, false, false, false, false, false, false, false] rfl rfl (any_of HT_.out (by kernel_rfl)) (fun _ _ _ h => h) (Or.inl ⟨by rfl, ?_⟩) ?_ ?_
                        rotate_left
                        ·
                         intro w'; go_simp; with_reducible rfl
                        rotate_left
                        ·
                         simp only [Act.put, List.setIfInBounds_toArray, List.set_cons_zero, List.set_cons_succ, i64_w, i32_w]; rfl
                        refine pure_ (i := 3) (N := some 106) (v := ?_) (a' := ?_) #[true, false, true, true, false, false, false, false, false, false, false, false, false] rfl rfl (any_of HT_.out (by kernel_rfl)) (fun _ _ _ h => h) (Or.inl ⟨by rfl, ?_⟩) ?_ ?_
                        rotate_left
                        ·
                         intro w'; go_simp; with_reducible rfl
                        rotate_left
                        ·
                         simp only [Act.put, List.setIfInBounds_toArray, List.set_cons_zero, List.set_cons_succ, i64_w, i32_w]; rfl
                        refine pure_ (i := 4) (N := some 107) (v := ?_) (a' := ?_) #[true, false, true, true, true, false, false, false, false, false, false, false, false] rfl rfl (any_of HT_.out (by kernel_rfl)) (fun _ _ _ h => h) (Or.inl ⟨by rfl, ?_⟩) ?_ ?_
                        rotate_left
                        ·
                         intro w'; go_simp; with_reducible rfl
                        rotate_left
                        ·
                         simp only [Act.put, List.setIfInBounds_toArray, List.set_cons_zero, List.set_cons_succ, i64_w, i32_w]; rfl
                        refine take_ (i := 1) (N := some 104) (v := ?_) (a' := ?_) #[true, true, true, true, true, false, false, false, false, false, false, false, false] rfl rfl (take_ofW HT_.out HW_.out (by kernel_rfl)) (fun _ _ _ h => h) (Or.inl ⟨by rfl, ?_⟩) hHeld ?_ ?_
                        rotate_left
                        ·
                         rintro w' ⟨s0, s1, s2, s3, s4, s5, s6, s7, s8, s9⟩; go_simp; with_reducible rfl
                        rotate_left
                        ·
                         simp only [Act.put, List.setIfInBounds_toArray, List.set_cons_zero, List.set_cons_succ, i64_w, i32_w]; rfl
                        refine take_ (i := 5) (N := some 108) (v := ?_) (a' := ?_) #[true, true, true, true, true, true, false, false, false, false, false, false, false] rfl rfl (take_ofW HT_.out HW_.out (by kernel_rfl)) (fun _ _ _ h => h) (Or.inl ⟨by rfl, ?_⟩) hHeld ?_ ?_
                        rotate_left
                        ·
                         rintro w' ⟨s0, s1, s2, s3, s4, s5, s6, s7, s8, s9⟩; go_simp; with_reducible rfl
                        rotate_left
                        ·
                         simp only [Act.put, List.setIfInBounds_toArray, List.set_cons_zero, List.set_cons_succ, i64_w, i32_w]; rfl
                        refine join_ (σ := Nat) 2 #[true, true, true, true, true, true, true, true, true, true, true, false, false] (fun s_ => [(109, .tuple #[.agg #[.int .i64 t440, .int .i64 t441, .int .i64 t442, .bool t443, .int .i64 t444, .bool t445, .int .i64 t446], .bool true]), (18, .pointer (some ⟨s_, 0, none⟩)), (102, .tuple #[.agg #[.int .i64 t440, .int .i64 t441, .int .i64 t442, .bool t443, .int .i64 t444, .bool t445, .int .i64 t446], .bool true]), (110, .agg #[.int .i64 t440, .int .i64 t441, .int .i64 t442, .bool t443, .int .i64 t444, .bool t445, .int .i64 t446]), (111, .bool true)]) (fun s_ w' => (w'.cell? ⟨w43.heap.size, 0, none⟩ = some (.int .i64 x430000_49) ∧ w'.cell? ⟨w43.heap.size, 1, none⟩ = some (.int .i64 x430001_49) ∧ w'.cell? ⟨w43.heap.size, 2, none⟩ = some (.int .i64 x430002_49) ∧ w'.cell? ⟨w43.heap.size, 3, none⟩ = some (.bool x430003_49) ∧ w'.cell? ⟨w43.heap.size, 4, none⟩ = some (.int .i64 x430004_49) ∧ w'.cell? ⟨w43.heap.size, 5, none⟩ = some (.bool x430005_49) ∧ w'.cell? ⟨w43.heap.size, 6, none⟩ = some (.int .i64 x430006_49) ∧ w'.cell? (ad439.add ((x17_49).toNat * 3)) = some (.int .i64 ((rd_T54 l2 x17_49).f0)) ∧ w'.cell? ⟨(ad439.add ((x17_49).toNat * 3)).block, (ad439.add ((x17_49).toNat * 3)).off + 1, none⟩ = some (.int .i64 ((rd_T54 l2 x17_49).f1)) ∧ w'.cell? ⟨(ad439.add ((x17_49).toNat * 3)).block, (ad439.add ((x17_49).toNat * 3)).off + 2, none⟩ = some (.int .i64 ((rd_T54 l2 x17_49).f2))) ∧ BX w' (w17.heap.size) [.int .i64 t393, .int .i64 t394, .int .i64 t395, .bool t396, .int .i64 t397, .bool t398, .int .i64 t399] ∧ BX w' (w24.heap.size) [.int .i64 x410000_22, .int .i64 x410001_22, .int .i64 x410002_22, .bool x410003_22, .int .i64 x410004_22, .bool x410005_22, .int .i64 x410006_22] ∧ BX w' (w43.heap.size) [.int .i64 x430000_49, .int .i64 x430001_49, .int .i64 x430002_49, .bool x430003_49, .int .i64 x430004_49, .bool x430005_49, .int .i64 x430006_49] ∧ BX w' (w44.heap.size) [.int .i64 t430, .int .i64 t431, .int .i64 t432, .bool t433, .int .i64 t434, .bool t435, .int .i64 t436] ∧ (w'.heap[s_]? = some (.cells #[.int .i64 0, .int .i64 0, .int .i64 0, .bool false, .int .i64 0, .bool false, .int .i64 0] 28 (0, 0))) ∧ (w.heap.size ≤ s_) ∧ (w17.heap.size ≠ s_) ∧ (s_ ≠ w17.heap.size) ∧ (w24.heap.size ≠ s_) ∧ (s_ ≠ w24.heap.size) ∧ (w43.heap.size ≠ s_) ∧ (s_ ≠ w43.heap.size) ∧ (w44.heap.size ≠ s_) ∧ (s_ ≠ w44.heap.size) ∧ (Below w.heap.size w w')) ?_ ?_
                        rotate_left
                        ·
                         intro hCont
                         refine two_ (i := 6) (j := 10) (Ni := some 109) (Nj := some 18) #[true, true, true, true, true, true, true, false, false, false, false, false, false] #[true, true, true, true, true, true, false, false, false, false, true, false, false] rfl rfl rfl rfl (two_of HT_.out (by kernel_rfl)) (by decide) (by decide) (fun K hK => ?_) (fun K hK => ?_)
                         ·
                          refine goes_ Try.func26 (by kernel_rfl) rfl #[.slice A0 l0.length c0, .agg #[.int .i64 x430000_49, .int .i64 x430001_49, .int .i64 x430002_49, .bool x430003_49, .int .i64 x430004_49, .bool x430005_49, .int .i64 x430006_49], .agg #[.int .i64 ((rd_T54 l2 x17_49).f0), .int .i64 ((rd_T54 l2 x17_49).f1), .int .i64 ((rd_T54 l2 x17_49).f2)]] (by rfl) rfl rfl (by (try simp only [List.map_toArray, List.map_cons, List.map_nil]); first | done | rfl | (simp only [List.length_drop, List.length_take]; rfl)) ?_
                          with_reducible refine (drayagelaw14_happens.calls k52 _ _ l0 x430000_49 x430001_49 x430002_49 x430003_49 x430004_49 x430005_49 x430006_49 ((rd_T54 l2 x17_49).f0) ((rd_T54 l2 x17_49).f1) ((rd_T54 l2 x17_49).f2) t440 t441 t442 t443 t444 t445 t446 true _ ?side1 HC0.out A59.out).mono ?_
                          (case side1 => exact Kd.C_below HR0.out HBR.out)
                          rintro e wc_ ⟨rfl, hb⟩
                          refine ⟨_, rfl, ?_⟩
                          replace BR401 := Aside0.mk (BX_below BR401.out hb)
                          replace BR409 := Aside0.mk (BX_below BR409.out hb)
                          replace BR429 := Aside0.mk (BX_below BR429.out hb)
                          replace BR438 := Aside0.mk (BX_below BR438.out hb)
                          replace HBR := Aside0.mk (below_step HBR.out hb)
                          clear hb
                          refine hK.out _ _ ⟨(BR429.out.1 0 _ rfl).1, (BR429.out.1 1 _ rfl).1, (BR429.out.1 2 _ rfl).1, (BR429.out.1 3 _ rfl).1, (BR429.out.1 4 _ rfl).1, (BR429.out.1 5 _ rfl).1, (BR429.out.1 6 _ rfl).1, ((HBR.out.cell (World.block_lt_of_cell? w _ hw439_0)).trans hw439_0), ((HBR.out.cell (World.block_lt_of_cell? w _ hw439_1)).trans hw439_1), ((HBR.out.cell (World.block_lt_of_cell? w _ hw439_2)).trans hw439_2)⟩ (fun hHeld => ?_)
                          clear hK K
                          refine norm_ (a' := ?_) ?_ ?_
                          rotate_left
                          ·
                           show Act.put _ (some 109) _ = _
                           simp only [Act.put, List.setIfInBounds_toArray, List.set_cons_zero, List.set_cons_succ, i64_w, i32_w]; rfl
                          refine pure_ (i := 7) (N := some 102) (v := ?_) (a' := ?_) #[true, true, true, true, true, true, true, true, false, false, false, false, false] rfl rfl (any_of HT_.out (by kernel_rfl)) (fun _ _ _ h => h) (Or.inl ⟨by rfl, ?_⟩) ?_ ?_
                          rotate_left
                          ·
                           intro w'; go_simp; with_reducible rfl
                          rotate_left
                          ·
                           simp only [Act.put, List.setIfInBounds_toArray, List.set_cons_zero, List.set_cons_succ, i64_w, i32_w]; rfl
                          refine pure_ (i := 8) (N := some 110) (v := ?_) (a' := ?_) #[true, true, true, true, true, true, true, true, true, false, false, false, false] rfl rfl (any_of HT_.out (by kernel_rfl)) (fun _ _ _ h => h) (Or.inl ⟨by rfl, ?_⟩) ?_ ?_
                          rotate_left
                          ·
                           intro w'; go_simp; with_reducible rfl
                          rotate_left
                          ·
                           simp only [Act.put, List.setIfInBounds_toArray, List.set_cons_zero, List.set_cons_succ, i64_w, i32_w]; rfl
                          refine pure_ (i := 9) (N := some 111) (v := ?_) (a' := ?_) #[true, true, true, true, true, true, true, true, true, true, false, false, false] rfl rfl (any_of HT_.out (by kernel_rfl)) (fun _ _ _ h => h) (Or.inl ⟨by rfl, ?_⟩) ?_ ?_
                          rotate_left
                          ·
                           intro w'; go_simp; with_reducible rfl
                          rotate_left
                          ·
                           simp only [Act.put, List.setIfInBounds_toArray, List.set_cons_zero, List.set_cons_succ, i64_w, i32_w]; rfl
                          refine one_ (i := 10) (N := some 18) #[true, true, true, true, true, true, true, true, true, true, true, false, false] rfl rfl (one_of HT_.out (by kernel_rfl)) (by decide) (fun K hK => ?_)
                          refine box_step ?hg (N := 18) ?hd (cs := #[.int .i64 0, .int .i64 0, .int .i64 0, .bool false, .int .i64 0, .bool false, .int .i64 0]) (t := 28) ?hr ?_; (case hd => rfl); (case hg => rfl); (case hr => first | (go_simp; done) | (go_simp; rfl))
                          intro gb439 hg wb_ hbox hb
                          have NA401 := Aside0.mk (show w17.heap.size ≠ gb439 by rw [hg]; exact Nat.ne_of_lt BR401.out.2)
                          have NB401 := Aside0.mk (show gb439 ≠ w17.heap.size by rw [hg]; exact Nat.ne_of_gt BR401.out.2)
                          have NA409 := Aside0.mk (show w24.heap.size ≠ gb439 by rw [hg]; exact Nat.ne_of_lt BR409.out.2)
                          have NB409 := Aside0.mk (show gb439 ≠ w24.heap.size by rw [hg]; exact Nat.ne_of_gt BR409.out.2)
                          have NA429 := Aside0.mk (show w43.heap.size ≠ gb439 by rw [hg]; exact Nat.ne_of_lt BR429.out.2)
                          have NB429 := Aside0.mk (show gb439 ≠ w43.heap.size by rw [hg]; exact Nat.ne_of_gt BR429.out.2)
                          have NA438 := Aside0.mk (show w44.heap.size ≠ gb439 by rw [hg]; exact Nat.ne_of_lt BR438.out.2)
                          have NB438 := Aside0.mk (show gb439 ≠ w44.heap.size by rw [hg]; exact Nat.ne_of_gt BR438.out.2)
                          have GW439 := Aside0.mk (show w.heap.size ≤ gb439 by rw [hg]; exact below_size HBR.out)
                          replace BR401 := Aside0.mk (BX_below BR401.out hb)
                          replace BR409 := Aside0.mk (BX_below BR409.out hb)
                          replace BR429 := Aside0.mk (BX_below BR429.out hb)
                          replace BR438 := Aside0.mk (BX_below BR438.out hb)
                          replace HBR := Aside0.mk (below_step HBR.out hb)
                          have BK439 := Aside0.mk hbox
                          clear hb hbox hg
                          refine hK.out _ _ ⟨(BR429.out.1 0 _ rfl).1, (BR429.out.1 1 _ rfl).1, (BR429.out.1 2 _ rfl).1, (BR429.out.1 3 _ rfl).1, (BR429.out.1 4 _ rfl).1, (BR429.out.1 5 _ rfl).1, (BR429.out.1 6 _ rfl).1, ((HBR.out.cell (World.block_lt_of_cell? w _ hw439_0)).trans hw439_0), ((HBR.out.cell (World.block_lt_of_cell? w _ hw439_1)).trans hw439_1), ((HBR.out.cell (World.block_lt_of_cell? w _ hw439_2)).trans hw439_2)⟩ (fun hHeld => ?_)
                          clear hK K
                          refine norm_ (a' := ?_) ?_ ?_
                          rotate_left
                          ·
                           show Act.put _ (some 18) _ = _
                           simp only [Act.put, List.setIfInBounds_toArray, List.set_cons_zero, List.set_cons_succ, i64_w, i32_w]; rfl
                          exact norm_ (by simp only [putAll, Act.put, List.setIfInBounds_toArray, List.set_cons_zero, List.set_cons_succ]) (hCont (gb439) _ ⟨hHeld, BR401.out, BR409.out, BR429.out, BR438.out, BK439.out, GW439.out, NA401.out, NB401.out, NA409.out, NB409.out, NA429.out, NB429.out, NA438.out, NB438.out, HBR.out⟩)
                         ·
                          refine box_step ?hg (N := 18) ?hd (cs := #[.int .i64 0, .int .i64 0, .int .i64 0, .bool false, .int .i64 0, .bool false, .int .i64 0]) (t := 28) ?hr ?_; (case hd => rfl); (case hg => rfl); (case hr => first | (go_simp; done) | (go_simp; rfl))
                          intro gb439 hg wb_ hbox hb
                          have NA401 := Aside0.mk (show w17.heap.size ≠ gb439 by rw [hg]; exact Nat.ne_of_lt BR401.out.2)
                          have NB401 := Aside0.mk (show gb439 ≠ w17.heap.size by rw [hg]; exact Nat.ne_of_gt BR401.out.2)
                          have NA409 := Aside0.mk (show w24.heap.size ≠ gb439 by rw [hg]; exact Nat.ne_of_lt BR409.out.2)
                          have NB409 := Aside0.mk (show gb439 ≠ w24.heap.size by rw [hg]; exact Nat.ne_of_gt BR409.out.2)
                          have NA429 := Aside0.mk (show w43.heap.size ≠ gb439 by rw [hg]; exact Nat.ne_of_lt BR429.out.2)
                          have NB429 := Aside0.mk (show gb439 ≠ w43.heap.size by rw [hg]; exact Nat.ne_of_gt BR429.out.2)
                          have NA438 := Aside0.mk (show w44.heap.size ≠ gb439 by rw [hg]; exact Nat.ne_of_lt BR438.out.2)
                          have NB438 := Aside0.mk (show gb439 ≠ w44.heap.size by rw [hg]; exact Nat.ne_of_gt BR438.out.2)
                          have GW439 := Aside0.mk (show w.heap.size ≤ gb439 by rw [hg]; exact below_size HBR.out)
                          replace BR401 := Aside0.mk (BX_below BR401.out hb)
                          replace BR409 := Aside0.mk (BX_below BR409.out hb)
                          replace BR429 := Aside0.mk (BX_below BR429.out hb)
                          replace BR438 := Aside0.mk (BX_below BR438.out hb)
                          replace HBR := Aside0.mk (below_step HBR.out hb)
                          have BK439 := Aside0.mk hbox
                          clear hb hbox hg
                          refine hK.out _ _ ⟨(BR429.out.1 0 _ rfl).1, (BR429.out.1 1 _ rfl).1, (BR429.out.1 2 _ rfl).1, (BR429.out.1 3 _ rfl).1, (BR429.out.1 4 _ rfl).1, (BR429.out.1 5 _ rfl).1, (BR429.out.1 6 _ rfl).1, ((HBR.out.cell (World.block_lt_of_cell? w _ hw439_0)).trans hw439_0), ((HBR.out.cell (World.block_lt_of_cell? w _ hw439_1)).trans hw439_1), ((HBR.out.cell (World.block_lt_of_cell? w _ hw439_2)).trans hw439_2)⟩ (fun hHeld => ?_)
                          clear hK K
                          refine norm_ (a' := ?_) ?_ ?_
                          rotate_left
                          ·
                           show Act.put _ (some 18) _ = _
                           simp only [Act.put, List.setIfInBounds_toArray, List.set_cons_zero, List.set_cons_succ, i64_w, i32_w]; rfl
                          refine one_ (i := 6) (N := some 109) #[true, true, true, true, true, true, true, false, false, false, true, false, false] rfl rfl (one_of HT_.out (by kernel_rfl)) (by decide) (fun K hK => ?_)
                          refine goes_ Try.func26 (by kernel_rfl) rfl #[.slice A0 l0.length c0, .agg #[.int .i64 x430000_49, .int .i64 x430001_49, .int .i64 x430002_49, .bool x430003_49, .int .i64 x430004_49, .bool x430005_49, .int .i64 x430006_49], .agg #[.int .i64 ((rd_T54 l2 x17_49).f0), .int .i64 ((rd_T54 l2 x17_49).f1), .int .i64 ((rd_T54 l2 x17_49).f2)]] (by rfl) rfl rfl (by (try simp only [List.map_toArray, List.map_cons, List.map_nil]); first | done | rfl | (simp only [List.length_drop, List.length_take]; rfl)) ?_
                          with_reducible refine (drayagelaw14_happens.calls k52 _ _ l0 x430000_49 x430001_49 x430002_49 x430003_49 x430004_49 x430005_49 x430006_49 ((rd_T54 l2 x17_49).f0) ((rd_T54 l2 x17_49).f1) ((rd_T54 l2 x17_49).f2) t440 t441 t442 t443 t444 t445 t446 true _ ?side1 HC0.out A59.out).mono ?_
                          (case side1 => exact Kd.C_below HR0.out HBR.out)
                          rintro e wc_ ⟨rfl, hb⟩
                          refine ⟨_, rfl, ?_⟩
                          replace BR401 := Aside0.mk (BX_below BR401.out hb)
                          replace BR409 := Aside0.mk (BX_below BR409.out hb)
                          replace BR429 := Aside0.mk (BX_below BR429.out hb)
                          replace BR438 := Aside0.mk (BX_below BR438.out hb)
                          replace BK439 := Aside0.mk (blk_below BK439.out hb)
                          replace HBR := Aside0.mk (below_step HBR.out hb)
                          clear hb
                          refine hK.out _ _ ⟨(BR429.out.1 0 _ rfl).1, (BR429.out.1 1 _ rfl).1, (BR429.out.1 2 _ rfl).1, (BR429.out.1 3 _ rfl).1, (BR429.out.1 4 _ rfl).1, (BR429.out.1 5 _ rfl).1, (BR429.out.1 6 _ rfl).1, ((HBR.out.cell (World.block_lt_of_cell? w _ hw439_0)).trans hw439_0), ((HBR.out.cell (World.block_lt_of_cell? w _ hw439_1)).trans hw439_1), ((HBR.out.cell (World.block_lt_of_cell? w _ hw439_2)).trans hw439_2)⟩ (fun hHeld => ?_)
                          clear hK K
                          refine norm_ (a' := ?_) ?_ ?_
                          rotate_left
                          ·
                           show Act.put _ (some 109) _ = _
                           simp only [Act.put, List.setIfInBounds_toArray, List.set_cons_zero, List.set_cons_succ, i64_w, i32_w]; rfl
                          refine pure_ (i := 7) (N := some 102) (v := ?_) (a' := ?_) #[true, true, true, true, true, true, true, true, false, false, true, false, false] rfl rfl (any_of HT_.out (by kernel_rfl)) (fun _ _ _ h => h) (Or.inl ⟨by rfl, ?_⟩) ?_ ?_
                          rotate_left
                          ·
                           intro w'; go_simp; with_reducible rfl
                          rotate_left
                          ·
                           simp only [Act.put, List.setIfInBounds_toArray, List.set_cons_zero, List.set_cons_succ, i64_w, i32_w]; rfl
                          refine pure_ (i := 8) (N := some 110) (v := ?_) (a' := ?_) #[true, true, true, true, true, true, true, true, true, false, true, false, false] rfl rfl (any_of HT_.out (by kernel_rfl)) (fun _ _ _ h => h) (Or.inl ⟨by rfl, ?_⟩) ?_ ?_
                          rotate_left
                          ·
                           intro w'; go_simp; with_reducible rfl
                          rotate_left
                          ·
                           simp only [Act.put, List.setIfInBounds_toArray, List.set_cons_zero, List.set_cons_succ, i64_w, i32_w]; rfl
                          refine pure_ (i := 9) (N := some 111) (v := ?_) (a' := ?_) #[true, true, true, true, true, true, true, true, true, true, true, false, false] rfl rfl (any_of HT_.out (by kernel_rfl)) (fun _ _ _ h => h) (Or.inl ⟨by rfl, ?_⟩) ?_ ?_
                          rotate_left
                          ·
                           intro w'; go_simp; with_reducible rfl
                          rotate_left
                          ·
                           simp only [Act.put, List.setIfInBounds_toArray, List.set_cons_zero, List.set_cons_succ, i64_w, i32_w]; rfl
                          exact norm_ (by simp only [putAll, Act.put, List.setIfInBounds_toArray, List.set_cons_zero, List.set_cons_succ]) (hCont (gb439) _ ⟨hHeld, BR401.out, BR409.out, BR429.out, BR438.out, BK439.out, GW439.out, NA401.out, NB401.out, NA409.out, NB409.out, NA429.out, NB429.out, NA438.out, NB438.out, HBR.out⟩)
                        clear HBR BR401 BR409 BR429 BR438
                        rintro gb439 w66 ⟨hHeld, b1_401, b1_409, b1_429, b1_438, b2_, h2_, ha401_439, hb401_439, ha409_439, hb409_439, ha429_439, hb429_439, ha438_439, hb438_439, h5_⟩
                        have BR401 := Aside0.mk b1_401
                        obtain ⟨hz401_w66_0, hz401_w66_1, hz401_w66_2, hz401_w66_3, hz401_w66_4, hz401_w66_5, hz401_w66_6, hf401_w66_0, hf401_w66_1, hf401_w66_2, hf401_w66_3, hf401_w66_4, hf401_w66_5, hf401_w66_6, hlt401_w66⟩ := b1_401.out7
                        have BR409 := Aside0.mk b1_409
                        obtain ⟨hz409_w66_0, hz409_w66_1, hz409_w66_2, hz409_w66_3, hz409_w66_4, hz409_w66_5, hz409_w66_6, hf409_w66_0, hf409_w66_1, hf409_w66_2, hf409_w66_3, hf409_w66_4, hf409_w66_5, hf409_w66_6, hlt409_w66⟩ := b1_409.out7
                        have BR429 := Aside0.mk b1_429
                        obtain ⟨hz429_w66_0, hz429_w66_1, hz429_w66_2, hz429_w66_3, hz429_w66_4, hz429_w66_5, hz429_w66_6, hf429_w66_0, hf429_w66_1, hf429_w66_2, hf429_w66_3, hf429_w66_4, hf429_w66_5, hf429_w66_6, hlt429_w66⟩ := b1_429.out7
                        have BR438 := Aside0.mk b1_438
                        obtain ⟨hz438_w66_0, hz438_w66_1, hz438_w66_2, hz438_w66_3, hz438_w66_4, hz438_w66_5, hz438_w66_6, hf438_w66_0, hf438_w66_1, hf438_w66_2, hf438_w66_3, hf438_w66_4, hf438_w66_5, hf438_w66_6, hlt438_w66⟩ := b1_438.out7
                        have HB_w66 := Aside0.mk h5_
                        have hsw66 : w.heap.size ≤ w66.heap.size := h5_.size
                        clear h5_ b1_401 b1_409 b1_429 b1_438
                        have hlt439_w66 := blk_lt b2_
                        obtain ⟨hz439_w66_0, hz439_w66_1, hz439_w66_2, hz439_w66_3, hz439_w66_4, hz439_w66_5, hz439_w66_6, hf439_w66_0, hf439_w66_1, hf439_w66_2, hf439_w66_3, hf439_w66_4, hf439_w66_5, hf439_w66_6⟩ := blk_all7 b2_
                        clear b2_
                        refine norm_ (a' := ?_) ?_ ?_
                        rotate_left
                        ·
                         simp only [putAll, Act.put, List.setIfInBounds_toArray, List.set_cons_zero, List.set_cons_succ]; rfl
                        refine one_ (i := 11) (N := none) #[true, true, true, true, true, true, true, true, true, true, true, true, false] rfl rfl (one_of HT_.out (by kernel_rfl)) (by decide) (fun K hK => ?_)
                        refine skip_ (w1 := ?_) (by rfl) rfl ?_ ?_
                        rotate_left
                        ·
                         go_simp; rfl
                        refine hK.out _ _ ⟨((cell_far (p := ⟨gb439, _, none⟩) ha429_439 _).trans ((cell_far (p := ⟨gb439, _, none⟩) ha429_439 _).trans ((cell_far (p := ⟨gb439, _, none⟩) ha429_439 _).trans ((cell_far (p := ⟨gb439, _, none⟩) ha429_439 _).trans ((cell_far (p := ⟨gb439, _, none⟩) ha429_439 _).trans ((cell_far (p := ⟨gb439, _, none⟩) ha429_439 _).trans ((cell_far (p := ⟨gb439, _, none⟩) ha429_439 _).trans (hz429_w66_0)))))))), ((cell_far (p := ⟨gb439, _, none⟩) ha429_439 _).trans ((cell_far (p := ⟨gb439, _, none⟩) ha429_439 _).trans ((cell_far (p := ⟨gb439, _, none⟩) ha429_439 _).trans ((cell_far (p := ⟨gb439, _, none⟩) ha429_439 _).trans ((cell_far (p := ⟨gb439, _, none⟩) ha429_439 _).trans ((cell_far (p := ⟨gb439, _, none⟩) ha429_439 _).trans ((cell_far (p := ⟨gb439, _, none⟩) ha429_439 _).trans (hz429_w66_1)))))))), ((cell_far (p := ⟨gb439, _, none⟩) ha429_439 _).trans ((cell_far (p := ⟨gb439, _, none⟩) ha429_439 _).trans ((cell_far (p := ⟨gb439, _, none⟩) ha429_439 _).trans ((cell_far (p := ⟨gb439, _, none⟩) ha429_439 _).trans ((cell_far (p := ⟨gb439, _, none⟩) ha429_439 _).trans ((cell_far (p := ⟨gb439, _, none⟩) ha429_439 _).trans ((cell_far (p := ⟨gb439, _, none⟩) ha429_439 _).trans (hz429_w66_2)))))))), ((cell_far (p := ⟨gb439, _, none⟩) ha429_439 _).trans ((cell_far (p := ⟨gb439, _, none⟩) ha429_439 _).trans ((cell_far (p := ⟨gb439, _, none⟩) ha429_439 _).trans ((cell_far (p := ⟨gb439, _, none⟩) ha429_439 _).trans ((cell_far (p := ⟨gb439, _, none⟩) ha429_439 _).trans ((cell_far (p := ⟨gb439, _, none⟩) ha429_439 _).trans ((cell_far (p := ⟨gb439, _, none⟩) ha429_439 _).trans (hz429_w66_3)))))))), ((cell_far (p := ⟨gb439, _, none⟩) ha429_439 _).trans ((cell_far (p := ⟨gb439, _, none⟩) ha429_439 _).trans ((cell_far (p := ⟨gb439, _, none⟩) ha429_439 _).trans ((cell_far (p := ⟨gb439, _, none⟩) ha429_439 _).trans ((cell_far (p := ⟨gb439, _, none⟩) ha429_439 _).trans ((cell_far (p := ⟨gb439, _, none⟩) ha429_439 _).trans ((cell_far (p := ⟨gb439, _, none⟩) ha429_439 _).trans (hz429_w66_4)))))))), ((cell_far (p := ⟨gb439, _, none⟩) ha429_439 _).trans ((cell_far (p := ⟨gb439, _, none⟩) ha429_439 _).trans ((cell_far (p := ⟨gb439, _, none⟩) ha429_439 _).trans ((cell_far (p := ⟨gb439, _, none⟩) ha429_439 _).trans ((cell_far (p := ⟨gb439, _, none⟩) ha429_439 _).trans ((cell_far (p := ⟨gb439, _, none⟩) ha429_439 _).trans ((cell_far (p := ⟨gb439, _, none⟩) ha429_439 _).trans (hz429_w66_5)))))))), ((cell_far (p := ⟨gb439, _, none⟩) ha429_439 _).trans ((cell_far (p := ⟨gb439, _, none⟩) ha429_439 _).trans ((cell_far (p := ⟨gb439, _, none⟩) ha429_439 _).trans ((cell_far (p := ⟨gb439, _, none⟩) ha429_439 _).trans ((cell_far (p := ⟨gb439, _, none⟩) ha429_439 _).trans ((cell_far (p := ⟨gb439, _, none⟩) ha429_439 _).trans ((cell_far (p := ⟨gb439, _, none⟩) ha429_439 _).trans (hz429_w66_6)))))))), (((below_set (below_set (below_set (below_set (below_set (below_set (below_set HB_w66.out h2_) h2_) h2_) h2_) h2_) h2_) h2_).cell (World.block_lt_of_cell? w _ hw439_0)).trans hw439_0), (((below_set (below_set (below_set (below_set (below_set (below_set (below_set HB_w66.out h2_) h2_) h2_) h2_) h2_) h2_) h2_).cell (World.block_lt_of_cell? w _ hw439_1)).trans hw439_1), (((below_set (below_set (below_set (below_set (below_set (below_set (below_set HB_w66.out h2_) h2_) h2_) h2_) h2_) h2_) h2_).cell (World.block_lt_of_cell? w _ hw439_2)).trans hw439_2)⟩ (fun hHeld => ?_)
                        clear hK K
                        refine pure_ (i := 12) (N := some 19) (v := ?_) (a' := ?_) #[true, true, true, true, true, true, true, true, true, true, true, true, true] rfl rfl (any_of HT_.out (by kernel_rfl)) (fun _ _ _ h => h) (Or.inl ⟨by rfl, ?_⟩) ?_ ?_
                        rotate_left
                        ·
                         intro w'; go_simp; with_reducible rfl
                        rotate_left
                        ·
                         simp only [Act.put, List.setIfInBounds_toArray, List.set_cons_zero, List.set_cons_succ, i64_w, i32_w]; rfl
                        refine done_ (done_of HT_.out (by kernel_rfl)) ?_
                        clear HT_ HW_ hHeld
                        have H := HK_.out
                        clear HK_
                        by_cases c61 : t440 = 3
                        ·
                         rw [if_pos c61] at H
                         have c61b0 : (t440 == 3) = true := beq_iff_eq.mpr c61
                         have c61b1 : (t440 != 3) = false := bne_eq_false_iff_eq.mpr c61
                         clear c61
                         by_cases c62 : t446 = 1
                         ·
                          rw [if_pos c62] at H
                          exact absurd H (by simp)
                         ·
                          rw [if_neg c62] at H
                          have c62b0 : (t446 == 1) = false := beq_eq_false_iff_ne.mpr c62
                          have c62b1 : (t446 != 1) = true := bne_iff_ne.mpr c62
                          clear c62
                          by_cases c63 : t440 = 1
                          ·
                           rw [if_pos c63] at H
                           have c63b0 : (t440 == 1) = true := beq_iff_eq.mpr c63
                           have c63b1 : (t440 != 1) = false := bne_eq_false_iff_eq.mpr c63
                           clear c63
                           by_cases c64 : t445 = true
                           ·
                            subst c64
                            rw [if_pos rfl] at H
                            by_cases c65 : t441 = x410001_22
                            ·
                             rw [if_pos c65] at H
                             have c65b0 : (t441 == x410001_22) = true := beq_iff_eq.mpr c65
                             have c65b1 : (t441 != x410001_22) = false := bne_eq_false_iff_eq.mpr c65
                             clear c65
                             have H' := Aside0.mk H
                             clear H
                             try go_wp2
                             repeat (go_quiet (fail); try go_wp2)
                             go_roundg k52
                             case measure => have := HJ2.out; have := HJ14.out; have := HJ22.out; have := HJ26.out; have := HJ41.out; have := HJ49.out; have := HJ52.out; omega
                             case rel => exact ⟨(wrap64 (x17_49 + 1)), (t440), (t441), (t442), (t443), (t444), (true), (t446), (by first | rfl | (simp; done) | (simp [*]; done)), H', ⟨by have := HJ2.out; have := HJ14.out; have := HJ22.out; have := HJ26.out; have := HJ41.out; have := HJ49.out; have := HJ52.out; omega⟩, ⟨BX.mk7 (by first | (go_simp; done) | (simp (maxDischargeDepth := 8) [go_sem, *]; done)) (by first | (go_simp; done) | (simp (maxDischargeDepth := 8) [go_sem, *]; done)) (by first | (go_simp; done) | (simp (maxDischargeDepth := 8) [go_sem, *]; done)) (by first | (go_simp; done) | (simp (maxDischargeDepth := 8) [go_sem, *]; done)) (by first | (go_simp; done) | (simp (maxDischargeDepth := 8) [go_sem, *]; done)) (by first | (go_simp; done) | (simp (maxDischargeDepth := 8) [go_sem, *]; done)) (by first | (go_simp; done) | (simp (maxDischargeDepth := 8) [go_sem, *]; done)) (by first | (go_simp; done) | (simp (maxDischargeDepth := 8) [go_sem, *]; done)) (by first | (go_simp; done) | (simp (maxDischargeDepth := 8) [go_sem, *]; done)) (by first | (go_simp; done) | (simp (maxDischargeDepth := 8) [go_sem, *]; done)) (by first | (go_simp; done) | (simp (maxDischargeDepth := 8) [go_sem, *]; done)) (by first | (go_simp; done) | (simp (maxDischargeDepth := 8) [go_sem, *]; done)) (by first | (go_simp; done) | (simp (maxDischargeDepth := 8) [go_sem, *]; done)) (by first | (go_simp; done) | (simp (maxDischargeDepth := 8) [go_sem, *]; done)) (by first | omega | (simp; done) | (simp; omega))⟩, ⟨BX.mk7 (by first | (go_simp; done) | (simp (maxDischargeDepth := 8) [go_sem, *]; done)) (by first | (go_simp; done) | (simp (maxDischargeDepth := 8) [go_sem, *]; done)) (by first | (go_simp; done) | (simp (maxDischargeDepth := 8) [go_sem, *]; done)) (by first | (go_simp; done) | (simp (maxDischargeDepth := 8) [go_sem, *]; done)) (by first | (go_simp; done) | (simp (maxDischargeDepth := 8) [go_sem, *]; done)) (by first | (go_simp; done) | (simp (maxDischargeDepth := 8) [go_sem, *]; done)) (by first | (go_simp; done) | (simp (maxDischargeDepth := 8) [go_sem, *]; done)) (by first | (go_simp; done) | (simp (maxDischargeDepth := 8) [go_sem, *]; done)) (by first | (go_simp; done) | (simp (maxDischargeDepth := 8) [go_sem, *]; done)) (by first | (go_simp; done) | (simp (maxDischargeDepth := 8) [go_sem, *]; done)) (by first | (go_simp; done) | (simp (maxDischargeDepth := 8) [go_sem, *]; done)) (by first | (go_simp; done) | (simp (maxDischargeDepth := 8) [go_sem, *]; done)) (by first | (go_simp; done) | (simp (maxDischargeDepth := 8) [go_sem, *]; done)) (by first | (go_simp; done) | (simp (maxDischargeDepth := 8) [go_sem, *]; done)) (by first | omega | (simp; done) | (simp; omega))⟩, ⟨BX.mk7 (by first | (go_simp; done) | (simp (maxDischargeDepth := 8) [go_sem, *]; done)) (by first | (go_simp; done) | (simp (maxDischargeDepth := 8) [go_sem, *]; done)) (by first | (go_simp; done) | (simp (maxDischargeDepth := 8) [go_sem, *]; done)) (by first | (go_simp; done) | (simp (maxDischargeDepth := 8) [go_sem, *]; done)) (by first | (go_simp; done) | (simp (maxDischargeDepth := 8) [go_sem, *]; done)) (by first | (go_simp; done) | (simp (maxDischargeDepth := 8) [go_sem, *]; done)) (by first | (go_simp; done) | (simp (maxDischargeDepth := 8) [go_sem, *]; done)) (by first | (go_simp; done) | (simp (maxDischargeDepth := 8) [go_sem, *]; done)) (by first | (go_simp; done) | (simp (maxDischargeDepth := 8) [go_sem, *]; done)) (by first | (go_simp; done) | (simp (maxDischargeDepth := 8) [go_sem, *]; done)) (by first | (go_simp; done) | (simp (maxDischargeDepth := 8) [go_sem, *]; done)) (by first | (go_simp; done) | (simp (maxDischargeDepth := 8) [go_sem, *]; done)) (by first | (go_simp; done) | (simp (maxDischargeDepth := 8) [go_sem, *]; done)) (by first | (go_simp; done) | (simp (maxDischargeDepth := 8) [go_sem, *]; done)) (by first | omega | (simp; done) | (simp; omega))⟩, ⟨BX.mk7 (by first | (go_simp; done) | (simp (maxDischargeDepth := 8) [go_sem, *]; done)) (by first | (go_simp; done) | (simp (maxDischargeDepth := 8) [go_sem, *]; done)) (by first | (go_simp; done) | (simp (maxDischargeDepth := 8) [go_sem, *]; done)) (by first | (go_simp; done) | (simp (maxDischargeDepth := 8) [go_sem, *]; done)) (by first | (go_simp; done) | (simp (maxDischargeDepth := 8) [go_sem, *]; done)) (by first | (go_simp; done) | (simp (maxDischargeDepth := 8) [go_sem, *]; done)) (by first | (go_simp; done) | (simp (maxDischargeDepth := 8) [go_sem, *]; done)) (by first | (go_simp; done) | (simp (maxDischargeDepth := 8) [go_sem, *]; done)) (by first | (go_simp; done) | (simp (maxDischargeDepth := 8) [go_sem, *]; done)) (by first | (go_simp; done) | (simp (maxDischargeDepth := 8) [go_sem, *]; done)) (by first | (go_simp; done) | (simp (maxDischargeDepth := 8) [go_sem, *]; done)) (by first | (go_simp; done) | (simp (maxDischargeDepth := 8) [go_sem, *]; done)) (by first | (go_simp; done) | (simp (maxDischargeDepth := 8) [go_sem, *]; done)) (by first | (go_simp; done) | (simp (maxDischargeDepth := 8) [go_sem, *]; done)) (by first | omega | (simp; done) | (simp; omega))⟩, ⟨(by repeat (first | (with_reducible first | exact HB_w66.out | exact Below.refl _ _ | apply below_alloc | apply pw_below_drewN | apply below_drew1) | refine below_set ?_ (by first | omega | (simp; omega) | simp)))⟩⟩
                            ·
                             rw [if_neg c65] at H
                             exact absurd H (by simp)
                           ·
                            rw [if_neg c64] at H
                            exact absurd H (by simp)
                          ·
                           rw [if_neg c63] at H
                           have c63b0 : (t440 == 1) = false := beq_eq_false_iff_ne.mpr c63
                           have c63b1 : (t440 != 1) = true := bne_iff_ne.mpr c63
                           clear c63
                           have H' := Aside0.mk H
                           clear H
                           try go_wp2
                           repeat (go_quiet (fail); try go_wp2)
                           go_roundg k52
                           case measure => have := HJ2.out; have := HJ14.out; have := HJ22.out; have := HJ26.out; have := HJ41.out; have := HJ49.out; have := HJ52.out; omega
                           case rel => exact ⟨(wrap64 (x17_49 + 1)), (t440), (t441), (t442), (t443), (t444), (t445), (t446), (by first | rfl | (simp; done) | (simp [*]; done)), H', ⟨by have := HJ2.out; have := HJ14.out; have := HJ22.out; have := HJ26.out; have := HJ41.out; have := HJ49.out; have := HJ52.out; omega⟩, ⟨BX.mk7 (by first | (go_simp; done) | (simp (maxDischargeDepth := 8) [go_sem, *]; done)) (by first | (go_simp; done) | (simp (maxDischargeDepth := 8) [go_sem, *]; done)) (by first | (go_simp; done) | (simp (maxDischargeDepth := 8) [go_sem, *]; done)) (by first | (go_simp; done) | (simp (maxDischargeDepth := 8) [go_sem, *]; done)) (by first | (go_simp; done) | (simp (maxDischargeDepth := 8) [go_sem, *]; done)) (by first | (go_simp; done) | (simp (maxDischargeDepth := 8) [go_sem, *]; done)) (by first | (go_simp; done) | (simp (maxDischargeDepth := 8) [go_sem, *]; done)) (by first | (go_simp; done) | (simp (maxDischargeDepth := 8) [go_sem, *]; done)) (by first | (go_simp; done) | (simp (maxDischargeDepth := 8) [go_sem, *]; done)) (by first | (go_simp; done) | (simp (maxDischargeDepth := 8) [go_sem, *]; done)) (by first | (go_simp; done) | (simp (maxDischargeDepth := 8) [go_sem, *]; done)) (by first | (go_simp; done) | (simp (maxDischargeDepth := 8) [go_sem, *]; done)) (by first | (go_simp; done) | (simp (maxDischargeDepth := 8) [go_sem, *]; done)) (by first | (go_simp; done) | (simp (maxDischargeDepth := 8) [go_sem, *]; done)) (by first | omega | (simp; done) | (simp; omega))⟩, ⟨BX.mk7 (by first | (go_simp; done) | (simp (maxDischargeDepth := 8) [go_sem, *]; done)) (by first | (go_simp; done) | (simp (maxDischargeDepth := 8) [go_sem, *]; done)) (by first | (go_simp; done) | (simp (maxDischargeDepth := 8) [go_sem, *]; done)) (by first | (go_simp; done) | (simp (maxDischargeDepth := 8) [go_sem, *]; done)) (by first | (go_simp; done) | (simp (maxDischargeDepth := 8) [go_sem, *]; done)) (by first | (go_simp; done) | (simp (maxDischargeDepth := 8) [go_sem, *]; done)) (by first | (go_simp; done) | (simp (maxDischargeDepth := 8) [go_sem, *]; done)) (by first | (go_simp; done) | (simp (maxDischargeDepth := 8) [go_sem, *]; done)) (by first | (go_simp; done) | (simp (maxDischargeDepth := 8) [go_sem, *]; done)) (by first | (go_simp; done) | (simp (maxDischargeDepth := 8) [go_sem, *]; done)) (by first | (go_simp; done) | (simp (maxDischargeDepth := 8) [go_sem, *]; done)) (by first | (go_simp; done) | (simp (maxDischargeDepth := 8) [go_sem, *]; done)) (by first | (go_simp; done) | (simp (maxDischargeDepth := 8) [go_sem, *]; done)) (by first | (go_simp; done) | (simp (maxDischargeDepth := 8) [go_sem, *]; done)) (by first | omega | (simp; done) | (simp; omega))⟩, ⟨BX.mk7 (by first | (go_simp; done) | (simp (maxDischargeDepth := 8) [go_sem, *]; done)) (by first | (go_simp; done) | (simp (maxDischargeDepth := 8) [go_sem, *]; done)) (by first | (go_simp; done) | (simp (maxDischargeDepth := 8) [go_sem, *]; done)) (by first | (go_simp; done) | (simp (maxDischargeDepth := 8) [go_sem, *]; done)) (by first | (go_simp; done) | (simp (maxDischargeDepth := 8) [go_sem, *]; done)) (by first | (go_simp; done) | (simp (maxDischargeDepth := 8) [go_sem, *]; done)) (by first | (go_simp; done) | (simp (maxDischargeDepth := 8) [go_sem, *]; done)) (by first | (go_simp; done) | (simp (maxDischargeDepth := 8) [go_sem, *]; done)) (by first | (go_simp; done) | (simp (maxDischargeDepth := 8) [go_sem, *]; done)) (by first | (go_simp; done) | (simp (maxDischargeDepth := 8) [go_sem, *]; done)) (by first | (go_simp; done) | (simp (maxDischargeDepth := 8) [go_sem, *]; done)) (by first | (go_simp; done) | (simp (maxDischargeDepth := 8) [go_sem, *]; done)) (by first | (go_simp; done) | (simp (maxDischargeDepth := 8) [go_sem, *]; done)) (by first | (go_simp; done) | (simp (maxDischargeDepth := 8) [go_sem, *]; done)) (by first | omega | (simp; done) | (simp; omega))⟩, ⟨BX.mk7 (by first | (go_simp; done) | (simp (maxDischargeDepth := 8) [go_sem, *]; done)) (by first | (go_simp; done) | (simp (maxDischargeDepth := 8) [go_sem, *]; done)) (by first | (go_simp; done) | (simp (maxDischargeDepth := 8) [go_sem, *]; done)) (by first | (go_simp; done) | (simp (maxDischargeDepth := 8) [go_sem, *]; done)) (by first | (go_simp; done) | (simp (maxDischargeDepth := 8) [go_sem, *]; done)) (by first | (go_simp; done) | (simp (maxDischargeDepth := 8) [go_sem, *]; done)) (by first | (go_simp; done) | (simp (maxDischargeDepth := 8) [go_sem, *]; done)) (by first | (go_simp; done) | (simp (maxDischargeDepth := 8) [go_sem, *]; done)) (by first | (go_simp; done) | (simp (maxDischargeDepth := 8) [go_sem, *]; done)) (by first | (go_simp; done) | (simp (maxDischargeDepth := 8) [go_sem, *]; done)) (by first | (go_simp; done) | (simp (maxDischargeDepth := 8) [go_sem, *]; done)) (by first | (go_simp; done) | (simp (maxDischargeDepth := 8) [go_sem, *]; done)) (by first | (go_simp; done) | (simp (maxDischargeDepth := 8) [go_sem, *]; done)) (by first | (go_simp; done) | (simp (maxDischargeDepth := 8) [go_sem, *]; done)) (by first | omega | (simp; done) | (simp; omega))⟩, ⟨(by repeat (first | (with_reducible first | exact HB_w66.out | exact Below.refl _ _ | apply below_alloc | apply pw_below_drewN | apply below_drew1) | refine below_set ?_ (by first | omega | (simp; omega) | simp)))⟩⟩
                        ·
                         rw [if_neg c61] at H
                         have c61b0 : (t440 == 3) = false := beq_eq_false_iff_ne.mpr c61
                         have c61b1 : (t440 != 3) = true := bne_iff_ne.mpr c61
                         clear c61
                         by_cases c68 : t440 = 1
                         ·
                          rw [if_pos c68] at H
                          have c68b0 : (t440 == 1) = true := beq_iff_eq.mpr c68
                          have c68b1 : (t440 != 1) = false := bne_eq_false_iff_eq.mpr c68
                          clear c68
                          by_cases c69 : t445 = true
                          ·
                           subst c69
                           rw [if_pos rfl] at H
                           by_cases c70 : t441 = x410001_22
                           ·
                            rw [if_pos c70] at H
                            have c70b0 : (t441 == x410001_22) = true := beq_iff_eq.mpr c70
                            have c70b1 : (t441 != x410001_22) = false := bne_eq_false_iff_eq.mpr c70
                            clear c70
                            have H' := Aside0.mk H
                            clear H
                            try go_wp2
                            repeat (go_quiet (fail); try go_wp2)
                            go_roundg k52
                            case measure => have := HJ2.out; have := HJ14.out; have := HJ22.out; have := HJ26.out; have := HJ41.out; have := HJ49.out; have := HJ52.out; omega
                            case rel => exact ⟨(wrap64 (x17_49 + 1)), (t440), (t441), (t442), (t443), (t444), (true), (t446), (by first | rfl | (simp; done) | (simp [*]; done)), H', ⟨by have := HJ2.out; have := HJ14.out; have := HJ22.out; have := HJ26.out; have := HJ41.out; have := HJ49.out; have := HJ52.out; omega⟩, ⟨BX.mk7 (by first | (go_simp; done) | (simp (maxDischargeDepth := 8) [go_sem, *]; done)) (by first | (go_simp; done) | (simp (maxDischargeDepth := 8) [go_sem, *]; done)) (by first | (go_simp; done) | (simp (maxDischargeDepth := 8) [go_sem, *]; done)) (by first | (go_simp; done) | (simp (maxDischargeDepth := 8) [go_sem, *]; done)) (by first | (go_simp; done) | (simp (maxDischargeDepth := 8) [go_sem, *]; done)) (by first | (go_simp; done) | (simp (maxDischargeDepth := 8) [go_sem, *]; done)) (by first | (go_simp; done) | (simp (maxDischargeDepth := 8) [go_sem, *]; done)) (by first | (go_simp; done) | (simp (maxDischargeDepth := 8) [go_sem, *]; done)) (by first | (go_simp; done) | (simp (maxDischargeDepth := 8) [go_sem, *]; done)) (by first | (go_simp; done) | (simp (maxDischargeDepth := 8) [go_sem, *]; done)) (by first | (go_simp; done) | (simp (maxDischargeDepth := 8) [go_sem, *]; done)) (by first | (go_simp; done) | (simp (maxDischargeDepth := 8) [go_sem, *]; done)) (by first | (go_simp; done) | (simp (maxDischargeDepth := 8) [go_sem, *]; done)) (by first | (go_simp; done) | (simp (maxDischargeDepth := 8) [go_sem, *]; done)) (by first | omega | (simp; done) | (simp; omega))⟩, ⟨BX.mk7 (by first | (go_simp; done) | (simp (maxDischargeDepth := 8) [go_sem, *]; done)) (by first | (go_simp; done) | (simp (maxDischargeDepth := 8) [go_sem, *]; done)) (by first | (go_simp; done) | (simp (maxDischargeDepth := 8) [go_sem, *]; done)) (by first | (go_simp; done) | (simp (maxDischargeDepth := 8) [go_sem, *]; done)) (by first | (go_simp; done) | (simp (maxDischargeDepth := 8) [go_sem, *]; done)) (by first | (go_simp; done) | (simp (maxDischargeDepth := 8) [go_sem, *]; done)) (by first | (go_simp; done) | (simp (maxDischargeDepth := 8) [go_sem, *]; done)) (by first | (go_simp; done) | (simp (maxDischargeDepth := 8) [go_sem, *]; done)) (by first | (go_simp; done) | (simp (maxDischargeDepth := 8) [go_sem, *]; done)) (by first | (go_simp; done) | (simp (maxDischargeDepth := 8) [go_sem, *]; done)) (by first | (go_simp; done) | (simp (maxDischargeDepth := 8) [go_sem, *]; done)) (by first | (go_simp; done) | (simp (maxDischargeDepth := 8) [go_sem, *]; done)) (by first | (go_simp; done) | (simp (maxDischargeDepth := 8) [go_sem, *]; done)) (by first | (go_simp; done) | (simp (maxDischargeDepth := 8) [go_sem, *]; done)) (by first | omega | (simp; done) | (simp; omega))⟩, ⟨BX.mk7 (by first | (go_simp; done) | (simp (maxDischargeDepth := 8) [go_sem, *]; done)) (by first | (go_simp; done) | (simp (maxDischargeDepth := 8) [go_sem, *]; done)) (by first | (go_simp; done) | (simp (maxDischargeDepth := 8) [go_sem, *]; done)) (by first | (go_simp; done) | (simp (maxDischargeDepth := 8) [go_sem, *]; done)) (by first | (go_simp; done) | (simp (maxDischargeDepth := 8) [go_sem, *]; done)) (by first | (go_simp; done) | (simp (maxDischargeDepth := 8) [go_sem, *]; done)) (by first | (go_simp; done) | (simp (maxDischargeDepth := 8) [go_sem, *]; done)) (by first | (go_simp; done) | (simp (maxDischargeDepth := 8) [go_sem, *]; done)) (by first | (go_simp; done) | (simp (maxDischargeDepth := 8) [go_sem, *]; done)) (by first | (go_simp; done) | (simp (maxDischargeDepth := 8) [go_sem, *]; done)) (by first | (go_simp; done) | (simp (maxDischargeDepth := 8) [go_sem, *]; done)) (by first | (go_simp; done) | (simp (maxDischargeDepth := 8) [go_sem, *]; done)) (by first | (go_simp; done) | (simp (maxDischargeDepth := 8) [go_sem, *]; done)) (by first | (go_simp; done) | (simp (maxDischargeDepth := 8) [go_sem, *]; done)) (by first | omega | (simp; done) | (simp; omega))⟩, ⟨BX.mk7 (by first | (go_simp; done) | (simp (maxDischargeDepth := 8) [go_sem, *]; done)) (by first | (go_simp; done) | (simp (maxDischargeDepth := 8) [go_sem, *]; done)) (by first | (go_simp; done) | (simp (maxDischargeDepth := 8) [go_sem, *]; done)) (by first | (go_simp; done) | (simp (maxDischargeDepth := 8) [go_sem, *]; done)) (by first | (go_simp; done) | (simp (maxDischargeDepth := 8) [go_sem, *]; done)) (by first | (go_simp; done) | (simp (maxDischargeDepth := 8) [go_sem, *]; done)) (by first | (go_simp; done) | (simp (maxDischargeDepth := 8) [go_sem, *]; done)) (by first | (go_simp; done) | (simp (maxDischargeDepth := 8) [go_sem, *]; done)) (by first | (go_simp; done) | (simp (maxDischargeDepth := 8) [go_sem, *]; done)) (by first | (go_simp; done) | (simp (maxDischargeDepth := 8) [go_sem, *]; done)) (by first | (go_simp; done) | (simp (maxDischargeDepth := 8) [go_sem, *]; done)) (by first | (go_simp; done) | (simp (maxDischargeDepth := 8) [go_sem, *]; done)) (by first | (go_simp; done) | (simp (maxDischargeDepth := 8) [go_sem, *]; done)) (by first | (go_simp; done) | (simp (maxDischargeDepth := 8) [go_sem, *]; done)) (by first | omega | (simp; done) | (simp; omega))⟩, ⟨(by repeat (first | (with_reducible first | exact HB_w66.out | exact Below.refl _ _ | apply below_alloc | apply pw_below_drewN | apply below_drew1) | refine below_set ?_ (by first | omega | (simp; omega) | simp)))⟩⟩
                           ·
                            rw [if_neg c70] at H
                            exact absurd H (by simp)
                          ·
                           rw [if_neg c69] at H
                           exact absurd H (by simp)
                         ·
                          rw [if_neg c68] at H
                          have c68b0 : (t440 == 1) = false := beq_eq_false_iff_ne.mpr c68
                          have c68b1 : (t440 != 1) = true := bne_iff_ne.mpr c68
                          clear c68
                          have H' := Aside0.mk H
                          clear H
                          try go_wp2
                          repeat (go_quiet (fail); try go_wp2)
                          go_roundg k52
                          case measure => have := HJ2.out; have := HJ14.out; have := HJ22.out; have := HJ26.out; have := HJ41.out; have := HJ49.out; have := HJ52.out; omega
                          case rel => exact ⟨(wrap64 (x17_49 + 1)), (t440), (t441), (t442), (t443), (t444), (t445), (t446), (by first | rfl | (simp; done) | (simp [*]; done)), H', ⟨by have := HJ2.out; have := HJ14.out; have := HJ22.out; have := HJ26.out; have := HJ41.out; have := HJ49.out; have := HJ52.out; omega⟩, ⟨BX.mk7 (by first | (go_simp; done) | (simp (maxDischargeDepth := 8) [go_sem, *]; done)) (by first | (go_simp; done) | (simp (maxDischargeDepth := 8) [go_sem, *]; done)) (by first | (go_simp; done) | (simp (maxDischargeDepth := 8) [go_sem, *]; done)) (by first | (go_simp; done) | (simp (maxDischargeDepth := 8) [go_sem, *]; done)) (by first | (go_simp; done) | (simp (maxDischargeDepth := 8) [go_sem, *]; done)) (by first | (go_simp; done) | (simp (maxDischargeDepth := 8) [go_sem, *]; done)) (by first | (go_simp; done) | (simp (maxDischargeDepth := 8) [go_sem, *]; done)) (by first | (go_simp; done) | (simp (maxDischargeDepth := 8) [go_sem, *]; done)) (by first | (go_simp; done) | (simp (maxDischargeDepth := 8) [go_sem, *]; done)) (by first | (go_simp; done) | (simp (maxDischargeDepth := 8) [go_sem, *]; done)) (by first | (go_simp; done) | (simp (maxDischargeDepth := 8) [go_sem, *]; done)) (by first | (go_simp; done) | (simp (maxDischargeDepth := 8) [go_sem, *]; done)) (by first | (go_simp; done) | (simp (maxDischargeDepth := 8) [go_sem, *]; done)) (by first | (go_simp; done) | (simp (maxDischargeDepth := 8) [go_sem, *]; done)) (by first | omega | (simp; done) | (simp; omega))⟩, ⟨BX.mk7 (by first | (go_simp; done) | (simp (maxDischargeDepth := 8) [go_sem, *]; done)) (by first | (go_simp; done) | (simp (maxDischargeDepth := 8) [go_sem, *]; done)) (by first | (go_simp; done) | (simp (maxDischargeDepth := 8) [go_sem, *]; done)) (by first | (go_simp; done) | (simp (maxDischargeDepth := 8) [go_sem, *]; done)) (by first | (go_simp; done) | (simp (maxDischargeDepth := 8) [go_sem, *]; done)) (by first | (go_simp; done) | (simp (maxDischargeDepth := 8) [go_sem, *]; done)) (by first | (go_simp; done) | (simp (maxDischargeDepth := 8) [go_sem, *]; done)) (by first | (go_simp; done) | (simp (maxDischargeDepth := 8) [go_sem, *]; done)) (by first | (go_simp; done) | (simp (maxDischargeDepth := 8) [go_sem, *]; done)) (by first | (go_simp; done) | (simp (maxDischargeDepth := 8) [go_sem, *]; done)) (by first | (go_simp; done) | (simp (maxDischargeDepth := 8) [go_sem, *]; done)) (by first | (go_simp; done) | (simp (maxDischargeDepth := 8) [go_sem, *]; done)) (by first | (go_simp; done) | (simp (maxDischargeDepth := 8) [go_sem, *]; done)) (by first | (go_simp; done) | (simp (maxDischargeDepth := 8) [go_sem, *]; done)) (by first | omega | (simp; done) | (simp; omega))⟩, ⟨BX.mk7 (by first | (go_simp; done) | (simp (maxDischargeDepth := 8) [go_sem, *]; done)) (by first | (go_simp; done) | (simp (maxDischargeDepth := 8) [go_sem, *]; done)) (by first | (go_simp; done) | (simp (maxDischargeDepth := 8) [go_sem, *]; done)) (by first | (go_simp; done) | (simp (maxDischargeDepth := 8) [go_sem, *]; done)) (by first | (go_simp; done) | (simp (maxDischargeDepth := 8) [go_sem, *]; done)) (by first | (go_simp; done) | (simp (maxDischargeDepth := 8) [go_sem, *]; done)) (by first | (go_simp; done) | (simp (maxDischargeDepth := 8) [go_sem, *]; done)) (by first | (go_simp; done) | (simp (maxDischargeDepth := 8) [go_sem, *]; done)) (by first | (go_simp; done) | (simp (maxDischargeDepth := 8) [go_sem, *]; done)) (by first | (go_simp; done) | (simp (maxDischargeDepth := 8) [go_sem, *]; done)) (by first | (go_simp; done) | (simp (maxDischargeDepth := 8) [go_sem, *]; done)) (by first | (go_simp; done) | (simp (maxDischargeDepth := 8) [go_sem, *]; done)) (by first | (go_simp; done) | (simp (maxDischargeDepth := 8) [go_sem, *]; done)) (by first | (go_simp; done) | (simp (maxDischargeDepth := 8) [go_sem, *]; done)) (by first | omega | (simp; done) | (simp; omega))⟩, ⟨BX.mk7 (by first | (go_simp; done) | (simp (maxDischargeDepth := 8) [go_sem, *]; done)) (by first | (go_simp; done) | (simp (maxDischargeDepth := 8) [go_sem, *]; done)) (by first | (go_simp; done) | (simp (maxDischargeDepth := 8) [go_sem, *]; done)) (by first | (go_simp; done) | (simp (maxDischargeDepth := 8) [go_sem, *]; done)) (by first | (go_simp; done) | (simp (maxDischargeDepth := 8) [go_sem, *]; done)) (by first | (go_simp; done) | (simp (maxDischargeDepth := 8) [go_sem, *]; done)) (by first | (go_simp; done) | (simp (maxDischargeDepth := 8) [go_sem, *]; done)) (by first | (go_simp; done) | (simp (maxDischargeDepth := 8) [go_sem, *]; done)) (by first | (go_simp; done) | (simp (maxDischargeDepth := 8) [go_sem, *]; done)) (by first | (go_simp; done) | (simp (maxDischargeDepth := 8) [go_sem, *]; done)) (by first | (go_simp; done) | (simp (maxDischargeDepth := 8) [go_sem, *]; done)) (by first | (go_simp; done) | (simp (maxDischargeDepth := 8) [go_sem, *]; done)) (by first | (go_simp; done) | (simp (maxDischargeDepth := 8) [go_sem, *]; done)) (by first | (go_simp; done) | (simp (maxDischargeDepth := 8) [go_sem, *]; done)) (by first | omega | (simp; done) | (simp; omega))⟩, ⟨(by repeat (first | (with_reducible first | exact HB_w66.out | exact Below.refl _ _ | apply below_alloc | apply pw_below_drewN | apply below_drew1) | refine below_set ?_ (by first | omega | (simp; omega) | simp)))⟩⟩
                       ·
                        rw [if_neg c60] at H
                        exact absurd H (by simp)
                      ·
                       rw [if_neg c58] at H
                       exact absurd H (by simp)
                     ·
                      rw [if_neg c57] at H
                      exact absurd H (by simp)
                    ·
                     replace c56 := Bool.eq_false_iff.mpr c56; subst c56
                     rw [if_neg (by decide)] at H
                     obtain ⟨t449, A_, H⟩ := Option.bind_eq_some_iff.mp H
                     try dsimp only at H
                     have A73 := Aside0.mk A_
                     clear A_
                     obtain rfl := Option.some.inj H
                     have hlwc52_401_0 : w17.heap.size < wc52.heap.size := (by omega)
                     have hlwc52_409_0 : w24.heap.size < wc52.heap.size := (by omega)
                     have hlwc52_429_0 : w43.heap.size < wc52.heap.size := (by omega)
                     have hlwc52_438_0 : w44.heap.size < wc52.heap.size := (by omega)
                     try go_wp2_with (first | (go_at_call 12; (with_reducible refine (drayagelaw14_known.calls k52  t449 _ A73.out).mono ?_); rintro e w74 ⟨rfl, hb⟩; have hsw74 : wc52.heap.size ≤ w74.heap.size := (by have h_ := hb.size; simpa using h_); have HB_w74 : Aside0 (Below w.heap.size w w74) := Aside0.mk (below_step (by repeat (first | (with_reducible first | exact HB_52.out | exact Below.refl _ _ | apply below_alloc | apply pw_below_drewN | apply below_drew1) | refine below_set ?_ (by first | omega | (simp; omega) | simp))) hb); have cw74_401 := fun o_ : Nat => hb.cell (p := ⟨w17.heap.size, o_, none⟩) (by first | omega | (simp; done) | (simp; omega)); have fw74_401 := fun o_ : Nat => hb.frozen (p := ⟨w17.heap.size, o_, none⟩) (by first | omega | (simp; done) | (simp; omega)); have cw74_409 := fun o_ : Nat => hb.cell (p := ⟨w24.heap.size, o_, none⟩) (by first | omega | (simp; done) | (simp; omega)); have fw74_409 := fun o_ : Nat => hb.frozen (p := ⟨w24.heap.size, o_, none⟩) (by first | omega | (simp; done) | (simp; omega)); have cw74_429 := fun o_ : Nat => hb.cell (p := ⟨w43.heap.size, o_, none⟩) (by first | omega | (simp; done) | (simp; omega)); have fw74_429 := fun o_ : Nat => hb.frozen (p := ⟨w43.heap.size, o_, none⟩) (by first | omega | (simp; done) | (simp; omega)); have cw74_438 := fun o_ : Nat => hb.cell (p := ⟨w44.heap.size, o_, none⟩) (by first | omega | (simp; done) | (simp; omega)); have fw74_438 := fun o_ : Nat => hb.frozen (p := ⟨w44.heap.size, o_, none⟩) (by first | omega | (simp; done) | (simp; omega)); clear hb; have hlw74_401_0 : w17.heap.size < w74.heap.size := (by omega); have hlw74_409_0 : w24.heap.size < w74.heap.size := (by omega); have hlw74_429_0 : w43.heap.size < w74.heap.size := (by omega); have hlw74_438_0 : w44.heap.size < w74.heap.size := (by omega)))
                     repeat (go_quiet (first | (go_at_call 12; (with_reducible refine (drayagelaw14_known.calls k52  t449 _ A73.out).mono ?_); rintro e w74 ⟨rfl, hb⟩; have hsw74 : wc52.heap.size ≤ w74.heap.size := (by have h_ := hb.size; simpa using h_); have HB_w74 : Aside0 (Below w.heap.size w w74) := Aside0.mk (below_step (by repeat (first | (with_reducible first | exact HB_52.out | exact Below.refl _ _ | apply below_alloc | apply pw_below_drewN | apply below_drew1) | refine below_set ?_ (by first | omega | (simp; omega) | simp))) hb); have cw74_401 := fun o_ : Nat => hb.cell (p := ⟨w17.heap.size, o_, none⟩) (by first | omega | (simp; done) | (simp; omega)); have fw74_401 := fun o_ : Nat => hb.frozen (p := ⟨w17.heap.size, o_, none⟩) (by first | omega | (simp; done) | (simp; omega)); have cw74_409 := fun o_ : Nat => hb.cell (p := ⟨w24.heap.size, o_, none⟩) (by first | omega | (simp; done) | (simp; omega)); have fw74_409 := fun o_ : Nat => hb.frozen (p := ⟨w24.heap.size, o_, none⟩) (by first | omega | (simp; done) | (simp; omega)); have cw74_429 := fun o_ : Nat => hb.cell (p := ⟨w43.heap.size, o_, none⟩) (by first | omega | (simp; done) | (simp; omega)); have fw74_429 := fun o_ : Nat => hb.frozen (p := ⟨w43.heap.size, o_, none⟩) (by first | omega | (simp; done) | (simp; omega)); have cw74_438 := fun o_ : Nat => hb.cell (p := ⟨w44.heap.size, o_, none⟩) (by first | omega | (simp; done) | (simp; omega)); have fw74_438 := fun o_ : Nat => hb.frozen (p := ⟨w44.heap.size, o_, none⟩) (by first | omega | (simp; done) | (simp; omega)); clear hb; have hlw74_401_0 : w17.heap.size < w74.heap.size := (by omega); have hlw74_409_0 : w24.heap.size < w74.heap.size := (by omega); have hlw74_429_0 : w43.heap.size < w74.heap.size := (by omega); have hlw74_438_0 : w44.heap.size < w74.heap.size := (by omega))); try go_wp2_with (first | (go_at_call 12; (with_reducible refine (drayagelaw14_known.calls k52  t449 _ A73.out).mono ?_); rintro e w74 ⟨rfl, hb⟩; have hsw74 : wc52.heap.size ≤ w74.heap.size := (by have h_ := hb.size; simpa using h_); have HB_w74 : Aside0 (Below w.heap.size w w74) := Aside0.mk (below_step (by repeat (first | (with_reducible first | exact HB_52.out | exact Below.refl _ _ | apply below_alloc | apply pw_below_drewN | apply below_drew1) | refine below_set ?_ (by first | omega | (simp; omega) | simp))) hb); have cw74_401 := fun o_ : Nat => hb.cell (p := ⟨w17.heap.size, o_, none⟩) (by first | omega | (simp; done) | (simp; omega)); have fw74_401 := fun o_ : Nat => hb.frozen (p := ⟨w17.heap.size, o_, none⟩) (by first | omega | (simp; done) | (simp; omega)); have cw74_409 := fun o_ : Nat => hb.cell (p := ⟨w24.heap.size, o_, none⟩) (by first | omega | (simp; done) | (simp; omega)); have fw74_409 := fun o_ : Nat => hb.frozen (p := ⟨w24.heap.size, o_, none⟩) (by first | omega | (simp; done) | (simp; omega)); have cw74_429 := fun o_ : Nat => hb.cell (p := ⟨w43.heap.size, o_, none⟩) (by first | omega | (simp; done) | (simp; omega)); have fw74_429 := fun o_ : Nat => hb.frozen (p := ⟨w43.heap.size, o_, none⟩) (by first | omega | (simp; done) | (simp; omega)); have cw74_438 := fun o_ : Nat => hb.cell (p := ⟨w44.heap.size, o_, none⟩) (by first | omega | (simp; done) | (simp; omega)); have fw74_438 := fun o_ : Nat => hb.frozen (p := ⟨w44.heap.size, o_, none⟩) (by first | omega | (simp; done) | (simp; omega)); clear hb; have hlw74_401_0 : w17.heap.size < w74.heap.size := (by omega); have hlw74_409_0 : w24.heap.size < w74.heap.size := (by omega); have hlw74_429_0 : w43.heap.size < w74.heap.size := (by omega); have hlw74_438_0 : w44.heap.size < w74.heap.size := (by omega))))
                     refine bodyPost_ret ?_ rfl ⟨rfl, ?_⟩
                     ·
                      simp [results, Try.results9, go_sem, hz401_52_0, hz401_52_1, hz401_52_2, hz401_52_3, hz401_52_4, hz401_52_5, hz401_52_6, hf401_52_0, hf401_52_1, hf401_52_2, hf401_52_3, hf401_52_4, hf401_52_5, hf401_52_6, hz409_52_0, hz409_52_1, hz409_52_2, hz409_52_3, hz409_52_4, hz409_52_5, hz409_52_6, hf409_52_0, hf409_52_1, hf409_52_2, hf409_52_3, hf409_52_4, hf409_52_5, hf409_52_6, hz429_52_0, hz429_52_1, hz429_52_2, hz429_52_3, hz429_52_4, hz429_52_5, hz429_52_6, hf429_52_0, hf429_52_1, hf429_52_2, hf429_52_3, hf429_52_4, hf429_52_5, hf429_52_6, hz438_52_0, hz438_52_1, hz438_52_2, hz438_52_3, hz438_52_4, hz438_52_5, hz438_52_6, hf438_52_0, hf438_52_1, hf438_52_2, hf438_52_3, hf438_52_4, hf438_52_5, hf438_52_6, hlwc52_401_0, hlwc52_409_0, hlwc52_429_0, hlwc52_438_0, cw74_401, fw74_401, cw74_409, fw74_409, cw74_429, fw74_429, cw74_438, fw74_438, hlw74_401_0, hlw74_409_0, hlw74_429_0, hlw74_438_0]
                     ·
                      exact (by repeat (first | (with_reducible first | exact HB_w74.out | exact Below.refl _ _ | apply below_alloc | apply pw_below_drewN | apply below_drew1) | refine below_set ?_ (by first | omega | (simp; omega) | simp)))

end Go.Proofs.Yteefdhgfcnjpoaa.PA
