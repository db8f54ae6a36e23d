-- printed by a program of this work (wip/tools/pr.py over the kit's print): the machine's side of SagaTries, SagaMoves, SagaStays, SagaOrder, SagaEnds, SagaTicks
import Derived.Test.YteefdhgfcnjpoaaQTrPAx0
import Derived.Test.YteefdhgfcnjpoaaQTrPAx3
import Derived.Test.YteefdhgfcnjpoaaQTrPAx5
import Derived.Test.YteefdhgfcnjpoaaQTrPAx8
import Derived.Test.YteefdhgfcnjpoaaQTrPAx9
namespace Go.Proofs.Yteefdhgfcnjpoaa.PA
open Go.RowKit Go.Proofs.YteefdhgfcnjpoaaW.PrintWords Go.Proofs.YteefdhgfcnjpoaaW.PrintLast Go.Proofs.YteefdhgfcnjpoaaW.PrintMore
attribute [local go_sem] max2_int min2_int max_two min_two max_three min_three max_four min_four   -- for this text's walks alone
set_option linter.unusedVariables false
set_option linter.unusedSimpArgs false

/-! ### drayagelaw14_SagaTries: function 3 -/
mutual
def drayagelaw14_SagaTries.j0 : Nat → List (S38) → Int → Bool → Option (Bool)
  | 0, _, _, _ => none
  | k + 1, x0, x1, x18 => if x18 = true then ((drayagelaw14_known.f k).bind fun t308 => (some t308)) else (if (IntKind.u64.wrap ((x0.length : Int))) = 0 then (none) else ((saga_Start.f).bind fun bt309 => (drayagelaw14_SagaTries.l0 k x0 (wrap64 (Int.tmod (IntKind.u64.wrap (x1)) (IntKind.u64.wrap ((x0.length : Int))))) 0 bt309.1 bt309.2.1 bt309.2.2.1 bt309.2.2.2.1 bt309.2.2.2.2.1 bt309.2.2.2.2.2.1 bt309.2.2.2.2.2.2)))
def drayagelaw14_SagaTries.l0 : Nat → List (S38) → Int → Int → Int → Int → Int → Bool → Int → Bool → Int → Option (Bool)
  | 0, _, _, _, _, _, _, _, _, _, _ => none
  | k + 1, x0, x5, x7, x317000, x317001, x317002, x317003, x317004, x317005, x317006 => if x7 < x5 then ((saga_Ask.f k x0 x317000 x317001 x317002 x317003 x317004 x317005 x317006).bind fun bt317 => ((saga_Tell.f k x0 bt317.1 bt317.2.1 bt317.2.2.1 bt317.2.2.2.1 bt317.2.2.2.2.1 bt317.2.2.2.2.2.1 bt317.2.2.2.2.2.2.1 x7 false 1).bind fun bt325 => (drayagelaw14_SagaTries.l0 k x0 x5 (wrap64 (x7 + 1)) bt325.1 bt325.2.1 bt325.2.2.1 bt325.2.2.2.1 bt325.2.2.2.2.1 bt325.2.2.2.2.2.1 bt325.2.2.2.2.2.2.1))) else (drayagelaw14_SagaTries.l1 k x0 x5 0 x317000 x317001 x317002 x317003 x317004 x317005 x317006)
def drayagelaw14_SagaTries.l1 : Nat → List (S38) → Int → Int → Int → Int → Int → Bool → Int → Bool → Int → Option (Bool)
  | 0, _, _, _, _, _, _, _, _, _, _ => none
  | k + 1, x0, x5, x8, x317000, x317001, x317002, x317003, x317004, x317005, x317006 => if x317000 = 1 then (if x317001 = x5 then (drayagelaw14_SagaTries.j3 k x0 x5 x8 (decide (x8 ≤ 255)) x317000 x317001 x317002 x317003 x317004 x317005 x317006) else (drayagelaw14_SagaTries.j3 k x0 x5 x8 false x317000 x317001 x317002 x317003 x317004 x317005 x317006)) else (drayagelaw14_SagaTries.j3 k x0 x5 x8 false x317000 x317001 x317002 x317003 x317004 x317005 x317006)
def drayagelaw14_SagaTries.j3 : Nat → List (S38) → Int → Int → Bool → Int → Int → Int → Bool → Int → Bool → Int → Option (Bool)
  | 0, _, _, _, _, _, _, _, _, _, _, _ => none
  | k + 1, x0, x5, x8, x58, x317000, x317001, x317002, x317003, x317004, x317005, x317006 => if x58 = true then ((saga_Ask.f k x0 x317000 x317001 x317002 x317003 x317004 x317005 x317006).bind fun bt333 => ((saga_Tell.f k x0 bt333.1 bt333.2.1 bt333.2.2.1 bt333.2.2.2.1 bt333.2.2.2.2.1 bt333.2.2.2.2.2.1 bt333.2.2.2.2.2.2.1 x5 false 3).bind fun bt341 => (drayagelaw14_SagaTries.l1 k x0 x5 (wrap64 (x8 + 1)) bt341.1 bt341.2.1 bt341.2.2.1 bt341.2.2.2.1 bt341.2.2.2.2.1 bt341.2.2.2.2.2.1 bt341.2.2.2.2.2.2.1))) else (if 0 ≤ x5 then (if x5 < (x0.length : Int) then (if x8 = ((rd_T38 x0 x5).f1) then (if x317000 = 3 then (drayagelaw14_SagaTries.l2 k x0 x5 0 x317000 x317001 x317002 x317003 x317004 x317005 x317006) else (drayagelaw14_SagaTries.l3 k x0 x5 x317001 0 x317000 x317001 x317002 x317003 x317004 x317005 x317006)) else (none)) else (none)) else (none))
def drayagelaw14_SagaTries.l2 : Nat → List (S38) → Int → Int → Int → Int → Int → Bool → Int → Bool → Int → Option (Bool)
  | 0, _, _, _, _, _, _, _, _, _, _ => none
  | k + 1, x0, x5, x9, x317000, x317001, x317002, x317003, x317004, x317005, x317006 => if x9 ≤ x5 then (if 0 ≤ x9 then (if x9 < (x0.length : Int) then (if (rd_T38 x0 x9).f3 = true then (none) else (drayagelaw14_SagaTries.l2 k x0 x5 (wrap64 (x9 + 1)) x317000 x317001 x317002 x317003 x317004 x317005 x317006)) else (none)) else (none)) else (if x317006 = 2 then ((drayagelaw14_known.f k).bind fun t351 => (some t351)) else (none))
def drayagelaw14_SagaTries.l3 : Nat → List (S38) → Int → Int → Int → Int → Int → Int → Bool → Int → Bool → Int → Option (Bool)
  | 0, _, _, _, _, _, _, _, _, _, _, _ => none
  | k + 1, x0, x5, x10, x11, x317000, x317001, x317002, x317003, x317004, x317005, x317006 => if x317000 = 2 then (drayagelaw14_SagaTries.j6 k x0 x5 x10 x11 (decide (x11 ≤ 255)) x317000 x317001 x317002 x317003 x317004 x317005 x317006) else (drayagelaw14_SagaTries.j6 k x0 x5 x10 x11 false x317000 x317001 x317002 x317003 x317004 x317005 x317006)
def drayagelaw14_SagaTries.j6 : Nat → List (S38) → Int → Int → Int → Bool → Int → Int → Int → Bool → Int → Bool → Int → Option (Bool)
  | 0, _, _, _, _, _, _, _, _, _, _, _, _ => none
  | k + 1, x0, x5, x10, x11, x108, x317000, x317001, x317002, x317003, x317004, x317005, x317006 => if x108 = true then ((saga_Ask.f k x0 x317000 x317001 x317002 x317003 x317004 x317005 x317006).bind fun bt352 => ((saga_Tell.f k x0 bt352.1 bt352.2.1 bt352.2.2.1 bt352.2.2.2.1 bt352.2.2.2.2.1 bt352.2.2.2.2.2.1 bt352.2.2.2.2.2.2.1 x10 true 3).bind fun bt360 => (drayagelaw14_SagaTries.l3 k x0 x5 x10 (wrap64 (x11 + 1)) bt360.1 bt360.2.1 bt360.2.2.1 bt360.2.2.2.1 bt360.2.2.2.2.1 bt360.2.2.2.2.2.1 bt360.2.2.2.2.2.2.1))) else (if 0 ≤ x10 then (if x10 < (x0.length : Int) then (if x11 = ((rd_T38 x0 x10).f1) then (if x10 ≤ x5 then (if (rd_T38 x0 x10).f3 = true then (if x317000 = 3 then (if x317006 = 3 then ((drayagelaw14_known.f k).bind fun t370 => (some t370)) else (none)) else (none)) else (none)) else (none)) else (none)) else (none)) else (none))
end
def drayagelaw14_SagaTries.f (k : Nat) (l0 : List (S38)) (a1 : Int) : Option (Bool) := (drayagelaw14_long.f k l0).bind fun t306 => (if t306 = true then (drayagelaw14_SagaTries.j0 k l0 a1 true) else ((drayageref13_Check.f k l0).bind fun t307 => (drayagelaw14_SagaTries.j0 k l0 a1 (t307 != 0))))

attribute [local go_sem] cell_alloc_lt2 cell_set_ne2
set_option maxHeartbeats 8000000 in
set_option maxRecDepth 100000 in
theorem drayagelaw14_SagaTries.calls (k : Nat) (A0 : Option Addr) (c0 : Nat) (l0 : List (S38)) (a1 : Int) (r : Bool) (w : World) (hr0 : Kd.C k38 w A0 l0.length l0) (hc0 : l0.length ≤ c0) (h : drayagelaw14_SagaTries.f k l0 a1 = some r) :
    Calls Try.prog 3 #[.slice A0 l0.length c0, .int .i64 a1] w fun e w' => e = .returned (.bool r) ∧ Below w.heap.size w w' := by
  have hu28 := Try.underlying28
  have HR0 := Aside0.mk hr0
  have HC0 := Aside0.mk hc0
  clear hr0 hc0
  have HB := Aside0.mk (Below.refl w.heap.size w)
  have H := h
  clear h
  unfold drayagelaw14_SagaTries.f at H
  have HC3 := Aside0.mk H
  clear H
  go_enter Try.func3, Try.ntmps3
  go_upto_region 1 with (fail)
  go_cut [18] (fun v18 wq2 => ∃ (kq : Nat) (x18_2 : Bool), v18 = .bool x18_2 ∧ Aside0 (drayagelaw14_SagaTries.j0 kq l0 a1 x18_2 = some r) ∧ Aside0 (kq ≤ k) ∧ Aside0 (Below w.heap.size w wq2))
  case first =>
    have H := HC3.out
    clear HC3
    obtain ⟨t306, A_, H⟩ := Option.bind_eq_some_iff.mp H
    try dsimp only at H
    have A4 := Aside0.mk A_
    clear A_
    by_cases c5 : t306 = true
    · subst c5
      rw [if_pos rfl] at H
      have H' := Aside0.mk H
      clear H
      go_wp2_with (first | ((with_reducible refine gate_callee (f := 10) rfl ?_); refine goesL_ (some 13) rfl rfl Try.func10 (by kernel_rfl) rfl #[.slice _ l0.length c0] rfl (by (try simp only [List.map_toArray, List.map_cons, List.map_nil]); first | done | rfl | (simp only [List.length_drop, List.length_take]; rfl)) ?_; (with_reducible refine (drayagelaw14_long.calls k _ _ l0 true _ ?sd0 HC0.out A4.out).mono ?_); (case sd0 => exact Kd.C_below HR0.out (by repeat (first | (with_reducible first | exact Below.refl _ _ | apply below_alloc | apply pw_below_drewN | apply below_drew1) | refine below_set ?_ (by first | omega | (simp; omega) | simp)))); rintro e w' ⟨rfl, ⟨nd, rfl⟩⟩; refine ⟨_, rfl, ?_⟩))
      go_meet
      case rel => exact ⟨_, (true), (by first | rfl | (simp; done) | (simp [*]; done)), H', ⟨by first | omega | exact Nat.le_refl _⟩, ⟨(by repeat (first | (with_reducible first | exact Below.refl _ _ | apply below_alloc | apply pw_below_drewN | apply below_drew1) | refine below_set ?_ (by first | omega | (simp; omega) | simp)))⟩⟩
    · replace c5 := Bool.eq_false_iff.mpr c5; subst c5
      rw [if_neg (by decide)] at H
      obtain ⟨t307, A_, H⟩ := Option.bind_eq_some_iff.mp H
      try dsimp only at H
      have A6 := Aside0.mk A_
      clear A_
      have H' := Aside0.mk H
      clear H
      go_wp2_with (first | ((with_reducible refine gate_callee (f := 10) rfl ?_); refine goesL_ (some 13) rfl rfl Try.func10 (by kernel_rfl) rfl #[.slice _ l0.length c0] rfl (by (try simp only [List.map_toArray, List.map_cons, List.map_nil]); first | done | rfl | (simp only [List.length_drop, List.length_take]; rfl)) ?_; (with_reducible refine (drayagelaw14_long.calls k _ _ l0 false _ ?sd0 HC0.out A4.out).mono ?_); (case sd0 => exact Kd.C_below HR0.out (by repeat (first | (with_reducible first | exact Below.refl _ _ | apply below_alloc | apply pw_below_drewN | apply below_drew1) | refine below_set ?_ (by first | omega | (simp; omega) | simp)))); rintro e w' ⟨rfl, ⟨nd, rfl⟩⟩; refine ⟨_, rfl, ?_⟩) | (go_at_call 11; (with_reducible refine (drayageref13_Check.calls k _ _ l0 t307 _ ?sd0 HC0.out A6.out).mono ?_); (case sd0 => exact Kd.C_below HR0.out (by repeat (first | (with_reducible first | exact Below.refl _ _ | apply below_alloc | apply pw_below_drewN | apply below_drew1) | refine below_set ?_ (by first | omega | (simp; omega) | simp)))); rintro e w7 ⟨rfl, hb⟩; have hsw7 : w.heap.size ≤ w7.heap.size := (by have h_ := hb.size; simpa using h_); have HB_w7 : Aside0 (Below w.heap.size w w7) := Aside0.mk (below_step (by repeat (first | (with_reducible first | exact Below.refl _ _ | apply below_alloc | apply pw_below_drewN | apply below_drew1) | refine below_set ?_ (by first | omega | (simp; omega) | simp))) hb); clear hb))
      go_meet
      case rel => exact ⟨_, ((t307 != 0)), (by first | rfl | (simp; done) | (simp [*]; done)), H', ⟨by first | omega | exact Nat.le_refl _⟩, ⟨(by repeat (first | (with_reducible first | exact HB_w7.out | exact Below.refl _ _ | apply below_alloc | apply pw_below_drewN | apply below_drew1) | refine below_set ?_ (by first | omega | (simp; omega) | simp)))⟩⟩
  case rest =>
    rename World => wc2
    clear HC3
    obtain ⟨kq, x18_2, rfl, HA, HJ2, HB_2⟩ := hcut
    have hs2 : w.heap.size ≤ wc2.heap.size := HB_2.out.size
    cases kq with
    | zero => exact absurd HA.out (by simp [drayagelaw14_SagaTries.j0])
    | succ k2 =>
      have H := HA.out
      clear HA
      simp only [drayagelaw14_SagaTries.j0] at H
      by_cases c9 : x18_2 = true
      · subst c9
        rw [if_pos rfl] at H
        obtain ⟨t308, A_, H⟩ := Option.bind_eq_some_iff.mp H
        try dsimp only at H
        have A10 := Aside0.mk A_
        clear A_
        obtain rfl := Option.some.inj H
        go_wp2_with (first | ((with_reducible refine gate_callee (f := 12) rfl ?_); refine goesL_ (some 19) rfl rfl Try.func12 (by kernel_rfl) rfl #[] rfl (by (try simp only [List.map_toArray, List.map_cons, List.map_nil]); first | done | rfl | (simp only [List.length_drop, List.length_take]; rfl)) ?_; (with_reducible refine (drayagelaw14_known.calls k2  t308 _ A10.out).mono ?_); rintro e w11 ⟨rfl, hb⟩; refine ⟨_, rfl, ?_⟩; have hsw11 : wc2.heap.size ≤ w11.heap.size := (by have h_ := hb.size; simpa using h_); have HB_w11 : Aside0 (Below w.heap.size w w11) := Aside0.mk (below_step (by repeat (first | (with_reducible first | exact HB_2.out | exact Below.refl _ _ | apply below_alloc | apply pw_below_drewN | apply below_drew1) | refine below_set ?_ (by first | omega | (simp; omega) | simp))) hb); clear hb))
        refine bodyPost_ret ?_ rfl ⟨rfl, ?_⟩
        · simp [results, Try.results3, go_sem]
        · exact (by repeat (first | (with_reducible first | exact HB_w11.out | exact Below.refl _ _ | apply below_alloc | apply pw_below_drewN | apply below_drew1) | refine below_set ?_ (by first | omega | (simp; omega) | simp)))
      · replace c9 := Bool.eq_false_iff.mpr c9; subst c9
        rw [if_neg (by decide)] at H
        by_cases c12 : (IntKind.u64.wrap ((l0.length : Int))) = 0
        · rw [if_pos c12] at H
          exact absurd H (by simp)
        · rw [if_neg c12] at H
          have c12b0 : ((IntKind.u64.wrap ((l0.length : Int))) == 0) = false := beq_eq_false_iff_ne.mpr c12
          have c12b1 : ((IntKind.u64.wrap ((l0.length : Int))) != 0) = true := bne_iff_ne.mpr c12
          obtain ⟨⟨t309, t310, t311, t312, t313, t314, t315⟩, A_, H⟩ := Option.bind_eq_some_iff.mp H
          try dsimp only at H
          have A13 := Aside0.mk A_
          clear A_
          have HC15 := Aside0.mk H
          clear H
          go_wp2_with (first | ((with_reducible refine gate_callee (f := 13) rfl ?_); refine goesL_ (some 27) rfl rfl Try.func13 (by kernel_rfl) rfl #[] rfl (by (try simp only [List.map_toArray, List.map_cons, List.map_nil]); first | done | rfl | (simp only [List.length_drop, List.length_take]; rfl)) ?_; (with_reducible refine (saga_Start.calls  t309 t310 t311 t312 t313 t314 t315 _ A13.out).mono ?_); rintro e w16 ⟨rfl, hb⟩; refine ⟨_, rfl, ?_⟩; have hsw16 : wc2.heap.size ≤ w16.heap.size := (by have h_ := hb.size; simpa using h_); have HB_w16 : Aside0 (Below w.heap.size w w16) := Aside0.mk (below_step (by repeat (first | (with_reducible first | exact HB_2.out | exact Below.refl _ _ | apply below_alloc | apply pw_below_drewN | apply below_drew1) | refine below_set ?_ (by first | omega | (simp; omega) | simp))) hb); clear hb))
          go_loopg [7] k2 (fun kq v7 wq14 => ∃ (x7_14 : Int) (x317000_14 : Int) (x317001_14 : Int) (x317002_14 : Int) (x317003_14 : Bool) (x317004_14 : Int) (x317005_14 : Bool) (x317006_14 : Int), v7 = .int .i64 x7_14 ∧ Aside0 (drayagelaw14_SagaTries.l0 kq l0 (wrap64 (Int.tmod (IntKind.u64.wrap (a1)) (IntKind.u64.wrap ((l0.length : Int))))) x7_14 x317000_14 x317001_14 x317002_14 x317003_14 x317004_14 x317005_14 x317006_14 = some r) ∧ Aside0 (kq ≤ k2) ∧ Aside0 (BX wq14 (w16.heap.size) [.int .i64 x317000_14, .int .i64 x317001_14, .int .i64 x317002_14, .bool x317003_14, .int .i64 x317004_14, .bool x317005_14, .int .i64 x317006_14]) ∧ Aside0 (Below w.heap.size w wq14))
          case atStart => exact ⟨(0), (t309), (t310), (t311), (t312), (t313), (t314), (t315), (by first | rfl | (simp; done) | (simp [*]; done)), HC15, ⟨Nat.le_refl _⟩, ⟨BX.mk7 (by first | (go_simp; done) | (simp (maxDischargeDepth := 8) [go_sem, *]; done)) (by first | (go_simp; done) | (simp (maxDischargeDepth := 8) [go_sem, *]; done)) (by first | (go_simp; done) | (simp (maxDischargeDepth := 8) [go_sem, *]; done)) (by first | (go_simp; done) | (simp (maxDischargeDepth := 8) [go_sem, *]; done)) (by first | (go_simp; done) | (simp (maxDischargeDepth := 8) [go_sem, *]; done)) (by first | (go_simp; done) | (simp (maxDischargeDepth := 8) [go_sem, *]; done)) (by first | (go_simp; done) | (simp (maxDischargeDepth := 8) [go_sem, *]; done)) (by first | (go_simp; done) | (simp (maxDischargeDepth := 8) [go_sem, *]; done)) (by first | (go_simp; done) | (simp (maxDischargeDepth := 8) [go_sem, *]; done)) (by first | (go_simp; done) | (simp (maxDischargeDepth := 8) [go_sem, *]; done)) (by first | (go_simp; done) | (simp (maxDischargeDepth := 8) [go_sem, *]; done)) (by first | (go_simp; done) | (simp (maxDischargeDepth := 8) [go_sem, *]; done)) (by first | (go_simp; done) | (simp (maxDischargeDepth := 8) [go_sem, *]; done)) (by first | (go_simp; done) | (simp (maxDischargeDepth := 8) [go_sem, *]; done)) (by first | omega | (simp; done) | (simp; omega))⟩, ⟨(by repeat (first | (with_reducible first | exact HB_w16.out | exact Below.refl _ _ | apply below_alloc | apply pw_below_drewN | apply below_drew1) | refine below_set ?_ (by first | omega | (simp; omega) | simp)))⟩⟩
          case round =>
            rename World => wr14
            clear HC15
            obtain ⟨x7_14, x317000_14, x317001_14, x317002_14, x317003_14, x317004_14, x317005_14, x317006_14, rfl, HA, HJ14, BX316_14, HB_14⟩ := hrel
            have hs14 : w.heap.size ≤ wr14.heap.size := HB_14.out.size
            obtain ⟨hz316_14_0, hz316_14_1, hz316_14_2, hz316_14_3, hz316_14_4, hz316_14_5, hz316_14_6, hf316_14_0, hf316_14_1, hf316_14_2, hf316_14_3, hf316_14_4, hf316_14_5, hf316_14_6, hlt316_14⟩ := BX316_14.out.out7
            cases gk with
            | zero => exact absurd HA.out (by simp [drayagelaw14_SagaTries.l0])
            | succ k14 =>
              have H := HA.out
              clear HA
              simp only [drayagelaw14_SagaTries.l0] at H
              by_cases c18 : x7_14 < (wrap64 (Int.tmod (IntKind.u64.wrap (a1)) (IntKind.u64.wrap ((l0.length : Int)))))
              · rw [if_pos c18] at H
                have c18b0 : decide (x7_14 < (wrap64 (Int.tmod (IntKind.u64.wrap (a1)) (IntKind.u64.wrap ((l0.length : Int)))))) = true := decide_eq_true c18
                clear c18
                obtain ⟨⟨t317, t318, t319, t320, t321, t322, t323, t324⟩, A_, H⟩ := Option.bind_eq_some_iff.mp H
                try dsimp only at H
                have A19 := Aside0.mk A_
                clear A_
                obtain ⟨⟨t325, t326, t327, t328, t329, t330, t331, t332⟩, A_, H⟩ := Option.bind_eq_some_iff.mp H
                try dsimp only at H
                have A20 := Aside0.mk A_
                clear A_
                have H' := Aside0.mk H
                clear H
                have hlwr14_316_0 : w16.heap.size < wr14.heap.size := (by omega)
                go_wp2_with (first | ((with_reducible refine gate_callee (f := 14) rfl ?_); refine goesL_ (some 36) rfl rfl Try.func14 (by kernel_rfl) rfl #[.slice _ l0.length c0, .agg #[.int .i64 x317000_14, .int .i64 x317001_14, .int .i64 x317002_14, .bool x317003_14, .int .i64 x317004_14, .bool x317005_14, .int .i64 x317006_14]] rfl (by (try simp only [List.map_toArray, List.map_cons, List.map_nil]); first | done | rfl | (simp only [List.length_drop, List.length_take]; rfl)) ?_; (with_reducible refine (saga_Ask.calls k14 _ _ l0 x317000_14 x317001_14 x317002_14 x317003_14 x317004_14 x317005_14 x317006_14 t317 t318 t319 t320 t321 t322 t323 t324 _ ?sd0 HC0.out A19.out).mono ?_); (case sd0 => exact Kd.C_below HR0.out (by repeat (first | (with_reducible first | exact HB_14.out | exact Below.refl _ _ | apply below_alloc | apply pw_below_drewN | apply below_drew1) | refine below_set ?_ (by first | omega | (simp; omega) | simp)))); rintro e w21 ⟨rfl, hb⟩; refine ⟨_, rfl, ?_⟩; have hsw21 : wr14.heap.size ≤ w21.heap.size := (by have h_ := hb.size; simpa using h_); have HB_w21 : Aside0 (Below w.heap.size w w21) := Aside0.mk (below_step (by repeat (first | (with_reducible first | exact HB_14.out | exact Below.refl _ _ | apply below_alloc | apply pw_below_drewN | apply below_drew1) | refine below_set ?_ (by first | omega | (simp; omega) | simp))) hb); have cw21_316 := fun o_ : Nat => hb.cell (p := ⟨w16.heap.size, o_, none⟩) (by first | omega | (simp; done) | (simp; omega)); have fw21_316 := fun o_ : Nat => hb.frozen (p := ⟨w16.heap.size, o_, none⟩) (by first | omega | (simp; done) | (simp; omega)); clear hb; have hlw21_316_0 : w16.heap.size < w21.heap.size := (by omega)) | ((with_reducible refine gate_callee (f := 15) rfl ?_); refine goesL_ (some 43) rfl rfl Try.func15 (by kernel_rfl) rfl #[.slice _ l0.length c0, .agg #[.int .i64 t317, .int .i64 t318, .int .i64 t319, .bool t320, .int .i64 t321, .bool t322, .int .i64 t323], .int .i64 x7_14, .bool false, .int .i64 1] rfl (by (try simp only [List.map_toArray, List.map_cons, List.map_nil]); first | done | rfl | (simp only [List.length_drop, List.length_take]; rfl)) ?_; (with_reducible refine (saga_Tell.calls k14 _ _ l0 t317 t318 t319 t320 t321 t322 t323 x7_14 false 1 t325 t326 t327 t328 t329 t330 t331 t332 _ ?sd0 HC0.out A20.out).mono ?_); (case sd0 => exact Kd.C_below HR0.out (by repeat (first | (with_reducible first | exact HB_w21.out | exact Below.refl _ _ | apply below_alloc | apply pw_below_drewN | apply below_drew1) | refine below_set ?_ (by first | omega | (simp; omega) | simp)))); rintro e w22 ⟨rfl, hb⟩; refine ⟨_, rfl, ?_⟩; have hsw22 : w21.heap.size ≤ w22.heap.size := (by have h_ := hb.size; simpa using h_); have HB_w22 : Aside0 (Below w.heap.size w w22) := Aside0.mk (below_step (by repeat (first | (with_reducible first | exact HB_w21.out | exact Below.refl _ _ | apply below_alloc | apply pw_below_drewN | apply below_drew1) | refine below_set ?_ (by first | omega | (simp; omega) | simp))) hb); have cw22_316 := fun o_ : Nat => hb.cell (p := ⟨w16.heap.size, o_, none⟩) (by first | omega | (simp; done) | (simp; omega)); have fw22_316 := fun o_ : Nat => hb.frozen (p := ⟨w16.heap.size, o_, none⟩) (by first | omega | (simp; done) | (simp; omega)); clear hb; have hlw22_316_0 : w16.heap.size < w22.heap.size := (by omega)))
                go_roundg k14
                case measure => have := HJ2.out; have := HJ14.out; omega
                case rel => exact ⟨(wrap64 (x7_14 + 1)), (t325), (t326), (t327), (t328), (t329), (t330), (t331), (by first | rfl | (simp; done) | (simp [*]; done)), H', ⟨by have := HJ2.out; have := HJ14.out; omega⟩, ⟨BX.mk7 (by first | (go_simp; done) | (simp (maxDischargeDepth := 8) [go_sem, *]; done)) (by first | (go_simp; done) | (simp (maxDischargeDepth := 8) [go_sem, *]; done)) (by first | (go_simp; done) | (simp (maxDischargeDepth := 8) [go_sem, *]; done)) (by first | (go_simp; done) | (simp (maxDischargeDepth := 8) [go_sem, *]; done)) (by first | (go_simp; done) | (simp (maxDischargeDepth := 8) [go_sem, *]; done)) (by first | (go_simp; done) | (simp (maxDischargeDepth := 8) [go_sem, *]; done)) (by first | (go_simp; done) | (simp (maxDischargeDepth := 8) [go_sem, *]; done)) (by first | (go_simp; done) | (simp (maxDischargeDepth := 8) [go_sem, *]; done)) (by first | (go_simp; done) | (simp (maxDischargeDepth := 8) [go_sem, *]; done)) (by first | (go_simp; done) | (simp (maxDischargeDepth := 8) [go_sem, *]; done)) (by first | (go_simp; done) | (simp (maxDischargeDepth := 8) [go_sem, *]; done)) (by first | (go_simp; done) | (simp (maxDischargeDepth := 8) [go_sem, *]; done)) (by first | (go_simp; done) | (simp (maxDischargeDepth := 8) [go_sem, *]; done)) (by first | (go_simp; done) | (simp (maxDischargeDepth := 8) [go_sem, *]; done)) (by first | omega | (simp; done) | (simp; omega))⟩, ⟨(by repeat (first | (with_reducible first | exact HB_w22.out | exact Below.refl _ _ | apply below_alloc | apply pw_below_drewN | apply below_drew1) | refine below_set ?_ (by first | omega | (simp; omega) | simp)))⟩⟩
              · rw [if_neg c18] at H
                have c18b0 : decide (x7_14 < (wrap64 (Int.tmod (IntKind.u64.wrap (a1)) (IntKind.u64.wrap ((l0.length : Int)))))) = false := decide_eq_false c18
                clear c18
                have HC24 := Aside0.mk H
                clear H
                have hlwr14_316_0 : w16.heap.size < wr14.heap.size := (by omega)
                go_wp2
                go_loopg [8] k14 (fun kq v8 wq23 => ∃ (x8_23 : Int) (x317000_23 : Int) (x317001_23 : Int) (x317002_23 : Int) (x317003_23 : Bool) (x317004_23 : Int) (x317005_23 : Bool) (x317006_23 : Int), v8 = .int .i64 x8_23 ∧ Aside0 (drayagelaw14_SagaTries.l1 kq l0 (wrap64 (Int.tmod (IntKind.u64.wrap (a1)) (IntKind.u64.wrap ((l0.length : Int))))) x8_23 x317000_23 x317001_23 x317002_23 x317003_23 x317004_23 x317005_23 x317006_23 = some r) ∧ Aside0 (kq ≤ k14) ∧ Aside0 (BX wq23 (w16.heap.size) [.int .i64 x317000_23, .int .i64 x317001_23, .int .i64 x317002_23, .bool x317003_23, .int .i64 x317004_23, .bool x317005_23, .int .i64 x317006_23]) ∧ Aside0 (Below w.heap.size w wq23))
                case atStart => exact ⟨(0), (x317000_14), (x317001_14), (x317002_14), (x317003_14), (x317004_14), (x317005_14), (x317006_14), (by first | rfl | (simp; done) | (simp [*]; done)), HC24, ⟨Nat.le_refl _⟩, ⟨BX.mk7 (by first | (go_simp; done) | (simp (maxDischargeDepth := 8) [go_sem, *]; done)) (by first | (go_simp; done) | (simp (maxDischargeDepth := 8) [go_sem, *]; done)) (by first | (go_simp; done) | (simp (maxDischargeDepth := 8) [go_sem, *]; done)) (by first | (go_simp; done) | (simp (maxDischargeDepth := 8) [go_sem, *]; done)) (by first | (go_simp; done) | (simp (maxDischargeDepth := 8) [go_sem, *]; done)) (by first | (go_simp; done) | (simp (maxDischargeDepth := 8) [go_sem, *]; done)) (by first | (go_simp; done) | (simp (maxDischargeDepth := 8) [go_sem, *]; done)) (by first | (go_simp; done) | (simp (maxDischargeDepth := 8) [go_sem, *]; done)) (by first | (go_simp; done) | (simp (maxDischargeDepth := 8) [go_sem, *]; done)) (by first | (go_simp; done) | (simp (maxDischargeDepth := 8) [go_sem, *]; done)) (by first | (go_simp; done) | (simp (maxDischargeDepth := 8) [go_sem, *]; done)) (by first | (go_simp; done) | (simp (maxDischargeDepth := 8) [go_sem, *]; done)) (by first | (go_simp; done) | (simp (maxDischargeDepth := 8) [go_sem, *]; done)) (by first | (go_simp; done) | (simp (maxDischargeDepth := 8) [go_sem, *]; done)) (by first | omega | (simp; done) | (simp; omega))⟩, ⟨(by repeat (first | (with_reducible first | exact HB_14.out | exact Below.refl _ _ | apply below_alloc | apply pw_below_drewN | apply below_drew1) | refine below_set ?_ (by first | omega | (simp; omega) | simp)))⟩⟩
                case round =>
                  rename World => wr23
                  clear HC24
                  obtain ⟨x8_23, x317000_23, x317001_23, x317002_23, x317003_23, x317004_23, x317005_23, x317006_23, rfl, HA, HJ23, BX316_23, HB_23⟩ := hrel
                  have hs23 : w.heap.size ≤ wr23.heap.size := HB_23.out.size
                  obtain ⟨hz316_23_0, hz316_23_1, hz316_23_2, hz316_23_3, hz316_23_4, hz316_23_5, hz316_23_6, hf316_23_0, hf316_23_1, hf316_23_2, hf316_23_3, hf316_23_4, hf316_23_5, hf316_23_6, hlt316_23⟩ := BX316_23.out.out7
                  cases gk with
                  | zero => exact absurd HA.out (by simp [drayagelaw14_SagaTries.l1])
                  | succ k23 =>
                    have H := HA.out
                    clear HA
                    simp only [drayagelaw14_SagaTries.l1] at H
                    have HC27 := Aside0.mk H
                    clear H
                    have hlwr23_316_0 : w16.heap.size < wr23.heap.size := (by omega)
                    go_upto_region 11 with (fail)
                    go_cut [58] (fun v58 wq26 => ∃ (kq : Nat) (x58_26 : Bool), v58 = .bool x58_26 ∧ Aside0 (drayagelaw14_SagaTries.j3 kq l0 (wrap64 (Int.tmod (IntKind.u64.wrap (a1)) (IntKind.u64.wrap ((l0.length : Int))))) x8_23 x58_26 x317000_23 x317001_23 x317002_23 x317003_23 x317004_23 x317005_23 x317006_23 = some r) ∧ Aside0 (kq ≤ k23) ∧ Aside0 (BX wq26 (w16.heap.size) [.int .i64 x317000_23, .int .i64 x317001_23, .int .i64 x317002_23, .bool x317003_23, .int .i64 x317004_23, .bool x317005_23, .int .i64 x317006_23]) ∧ Aside0 (Below w.heap.size w wq26))
                    case first =>
                      have H := HC27.out
                      clear HC27
                      by_cases c28 : x317000_23 = 1
                      · rw [if_pos c28] at H
                        have c28b0 : (x317000_23 == 1) = true := beq_iff_eq.mpr c28
                        have c28b1 : (x317000_23 != 1) = false := bne_eq_false_iff_eq.mpr c28
                        clear c28
                        by_cases c29 : x317001_23 = (wrap64 (Int.tmod (IntKind.u64.wrap (a1)) (IntKind.u64.wrap ((l0.length : Int)))))
                        · rw [if_pos c29] at H
                          have c29b0 : (x317001_23 == (wrap64 (Int.tmod (IntKind.u64.wrap (a1)) (IntKind.u64.wrap ((l0.length : Int)))))) = true := beq_iff_eq.mpr c29
                          have c29b1 : (x317001_23 != (wrap64 (Int.tmod (IntKind.u64.wrap (a1)) (IntKind.u64.wrap ((l0.length : Int)))))) = false := bne_eq_false_iff_eq.mpr c29
                          clear c29
                          have H' := Aside0.mk H
                          clear H
                          have hlwr23_316_0 : w16.heap.size < wr23.heap.size := (by omega)
                          go_wp2
                          go_meet
                          case rel => exact ⟨_, (decide (x8_23 ≤ 255)), (by first | rfl | (simp; done) | (simp [*]; done)), H', ⟨by have := HJ2.out; have := HJ14.out; have := HJ23.out; first | omega | exact Nat.le_refl _⟩, ⟨BX.mk7 (by first | (go_simp; done) | (simp (maxDischargeDepth := 8) [go_sem, *]; done)) (by first | (go_simp; done) | (simp (maxDischargeDepth := 8) [go_sem, *]; done)) (by first | (go_simp; done) | (simp (maxDischargeDepth := 8) [go_sem, *]; done)) (by first | (go_simp; done) | (simp (maxDischargeDepth := 8) [go_sem, *]; done)) (by first | (go_simp; done) | (simp (maxDischargeDepth := 8) [go_sem, *]; done)) (by first | (go_simp; done) | (simp (maxDischargeDepth := 8) [go_sem, *]; done)) (by first | (go_simp; done) | (simp (maxDischargeDepth := 8) [go_sem, *]; done)) (by first | (go_simp; done) | (simp (maxDischargeDepth := 8) [go_sem, *]; done)) (by first | (go_simp; done) | (simp (maxDischargeDepth := 8) [go_sem, *]; done)) (by first | (go_simp; done) | (simp (maxDischargeDepth := 8) [go_sem, *]; done)) (by first | (go_simp; done) | (simp (maxDischargeDepth := 8) [go_sem, *]; done)) (by first | (go_simp; done) | (simp (maxDischargeDepth := 8) [go_sem, *]; done)) (by first | (go_simp; done) | (simp (maxDischargeDepth := 8) [go_sem, *]; done)) (by first | (go_simp; done) | (simp (maxDischargeDepth := 8) [go_sem, *]; done)) (by first | omega | (simp; done) | (simp; omega))⟩, ⟨(by repeat (first | (with_reducible first | exact HB_23.out | exact Below.refl _ _ | apply below_alloc | apply pw_below_drewN | apply below_drew1) | refine below_set ?_ (by first | omega | (simp; omega) | simp)))⟩⟩
                        · rw [if_neg c29] at H
                          have c29b0 : (x317001_23 == (wrap64 (Int.tmod (IntKind.u64.wrap (a1)) (IntKind.u64.wrap ((l0.length : Int)))))) = false := beq_eq_false_iff_ne.mpr c29
                          have c29b1 : (x317001_23 != (wrap64 (Int.tmod (IntKind.u64.wrap (a1)) (IntKind.u64.wrap ((l0.length : Int)))))) = true := bne_iff_ne.mpr c29
                          clear c29
                          have H' := Aside0.mk H
                          clear H
                          have hlwr23_316_0 : w16.heap.size < wr23.heap.size := (by omega)
                          go_wp2
                          go_meet
                          case rel => exact ⟨_, (false), (by first | rfl | (simp; done) | (simp [*]; done)), H', ⟨by have := HJ2.out; have := HJ14.out; have := HJ23.out; first | omega | exact Nat.le_refl _⟩, ⟨BX.mk7 (by first | (go_simp; done) | (simp (maxDischargeDepth := 8) [go_sem, *]; done)) (by first | (go_simp; done) | (simp (maxDischargeDepth := 8) [go_sem, *]; done)) (by first | (go_simp; done) | (simp (maxDischargeDepth := 8) [go_sem, *]; done)) (by first | (go_simp; done) | (simp (maxDischargeDepth := 8) [go_sem, *]; done)) (by first | (go_simp; done) | (simp (maxDischargeDepth := 8) [go_sem, *]; done)) (by first | (go_simp; done) | (simp (maxDischargeDepth := 8) [go_sem, *]; done)) (by first | (go_simp; done) | (simp (maxDischargeDepth := 8) [go_sem, *]; done)) (by first | (go_simp; done) | (simp (maxDischargeDepth := 8) [go_sem, *]; done)) (by first | (go_simp; done) | (simp (maxDischargeDepth := 8) [go_sem, *]; done)) (by first | (go_simp; done) | (simp (maxDischargeDepth := 8) [go_sem, *]; done)) (by first | (go_simp; done) | (simp (maxDischargeDepth := 8) [go_sem, *]; done)) (by first | (go_simp; done) | (simp (maxDischargeDepth := 8) [go_sem, *]; done)) (by first | (go_simp; done) | (simp (maxDischargeDepth := 8) [go_sem, *]; done)) (by first | (go_simp; done) | (simp (maxDischargeDepth := 8) [go_sem, *]; done)) (by first | omega | (simp; done) | (simp; omega))⟩, ⟨(by repeat (first | (with_reducible first | exact HB_23.out | exact Below.refl _ _ | apply below_alloc | apply pw_below_drewN | apply below_drew1) | refine below_set ?_ (by first | omega | (simp; omega) | simp)))⟩⟩
                      · rw [if_neg c28] at H
                        have c28b0 : (x317000_23 == 1) = false := beq_eq_false_iff_ne.mpr c28
                        have c28b1 : (x317000_23 != 1) = true := bne_iff_ne.mpr c28
                        clear c28
                        have H' := Aside0.mk H
                        clear H
                        have hlwr23_316_0 : w16.heap.size < wr23.heap.size := (by omega)
                        go_wp2
                        go_meet
                        case rel => exact ⟨_, (false), (by first | rfl | (simp; done) | (simp [*]; done)), H', ⟨by have := HJ2.out; have := HJ14.out; have := HJ23.out; first | omega | exact Nat.le_refl _⟩, ⟨BX.mk7 (by first | (go_simp; done) | (simp (maxDischargeDepth := 8) [go_sem, *]; done)) (by first | (go_simp; done) | (simp (maxDischargeDepth := 8) [go_sem, *]; done)) (by first | (go_simp; done) | (simp (maxDischargeDepth := 8) [go_sem, *]; done)) (by first | (go_simp; done) | (simp (maxDischargeDepth := 8) [go_sem, *]; done)) (by first | (go_simp; done) | (simp (maxDischargeDepth := 8) [go_sem, *]; done)) (by first | (go_simp; done) | (simp (maxDischargeDepth := 8) [go_sem, *]; done)) (by first | (go_simp; done) | (simp (maxDischargeDepth := 8) [go_sem, *]; done)) (by first | (go_simp; done) | (simp (maxDischargeDepth := 8) [go_sem, *]; done)) (by first | (go_simp; done) | (simp (maxDischargeDepth := 8) [go_sem, *]; done)) (by first | (go_simp; done) | (simp (maxDischargeDepth := 8) [go_sem, *]; done)) (by first | (go_simp; done) | (simp (maxDischargeDepth := 8) [go_sem, *]; done)) (by first | (go_simp; done) | (simp (maxDischargeDepth := 8) [go_sem, *]; done)) (by first | (go_simp; done) | (simp (maxDischargeDepth := 8) [go_sem, *]; done)) (by first | (go_simp; done) | (simp (maxDischargeDepth := 8) [go_sem, *]; done)) (by first | omega | (simp; done) | (simp; omega))⟩, ⟨(by repeat (first | (with_reducible first | exact HB_23.out | exact Below.refl _ _ | apply below_alloc | apply pw_below_drewN | apply below_drew1) | refine below_set ?_ (by first | omega | (simp; omega) | simp)))⟩⟩
                    case rest =>
                      rename World => wc26
                      clear HC27
                      obtain ⟨kq, x58_26, rfl, HA, HJ26, BX316_26, HB_26⟩ := hcut
                      have hs26 : w.heap.size ≤ wc26.heap.size := HB_26.out.size
                      obtain ⟨hz316_26_0, hz316_26_1, hz316_26_2, hz316_26_3, hz316_26_4, hz316_26_5, hz316_26_6, hf316_26_0, hf316_26_1, hf316_26_2, hf316_26_3, hf316_26_4, hf316_26_5, hf316_26_6, hlt316_26⟩ := BX316_26.out.out7
                      cases kq with
                      | zero => exact absurd HA.out (by simp [drayagelaw14_SagaTries.j3])
                      | succ k26 =>
                        have H := HA.out
                        clear HA
                        simp only [drayagelaw14_SagaTries.j3] at H
                        by_cases c31 : x58_26 = true
                        · subst c31
                          rw [if_pos rfl] at H
                          obtain ⟨⟨t333, t334, t335, t336, t337, t338, t339, t340⟩, A_, H⟩ := Option.bind_eq_some_iff.mp H
                          try dsimp only at H
                          have A32 := Aside0.mk A_
                          clear A_
                          obtain ⟨⟨t341, t342, t343, t344, t345, t346, t347, t348⟩, A_, H⟩ := Option.bind_eq_some_iff.mp H
                          try dsimp only at H
                          have A33 := Aside0.mk A_
                          clear A_
                          have H' := Aside0.mk H
                          clear H
                          have hlwc26_316_0 : w16.heap.size < wc26.heap.size := (by omega)
                          go_wp2_with (first | ((with_reducible refine gate_callee (f := 14) rfl ?_); refine goesL_ (some 62) rfl rfl Try.func14 (by kernel_rfl) rfl #[.slice _ l0.length c0, .agg #[.int .i64 x317000_23, .int .i64 x317001_23, .int .i64 x317002_23, .bool x317003_23, .int .i64 x317004_23, .bool x317005_23, .int .i64 x317006_23]] rfl (by (try simp only [List.map_toArray, List.map_cons, List.map_nil]); first | done | rfl | (simp only [List.length_drop, List.length_take]; rfl)) ?_; (with_reducible refine (saga_Ask.calls k26 _ _ l0 x317000_23 x317001_23 x317002_23 x317003_23 x317004_23 x317005_23 x317006_23 t333 t334 t335 t336 t337 t338 t339 t340 _ ?sd0 HC0.out A32.out).mono ?_); (case sd0 => exact Kd.C_below HR0.out (by repeat (first | (with_reducible first | exact HB_26.out | exact Below.refl _ _ | apply below_alloc | apply pw_below_drewN | apply below_drew1) | refine below_set ?_ (by first | omega | (simp; omega) | simp)))); rintro e w34 ⟨rfl, hb⟩; refine ⟨_, rfl, ?_⟩; have hsw34 : wc26.heap.size ≤ w34.heap.size := (by have h_ := hb.size; simpa using h_); have HB_w34 : Aside0 (Below w.heap.size w w34) := Aside0.mk (below_step (by repeat (first | (with_reducible first | exact HB_26.out | exact Below.refl _ _ | apply below_alloc | apply pw_below_drewN | apply below_drew1) | refine below_set ?_ (by first | omega | (simp; omega) | simp))) hb); have cw34_316 := fun o_ : Nat => hb.cell (p := ⟨w16.heap.size, o_, none⟩) (by first | omega | (simp; done) | (simp; omega)); have fw34_316 := fun o_ : Nat => hb.frozen (p := ⟨w16.heap.size, o_, none⟩) (by first | omega | (simp; done) | (simp; omega)); clear hb; have hlw34_316_0 : w16.heap.size < w34.heap.size := (by omega)) | ((with_reducible refine gate_callee (f := 15) rfl ?_); refine goesL_ (some 69) rfl rfl Try.func15 (by kernel_rfl) rfl #[.slice _ l0.length c0, .agg #[.int .i64 t333, .int .i64 t334, .int .i64 t335, .bool t336, .int .i64 t337, .bool t338, .int .i64 t339], .int .i64 (wrap64 (Int.tmod (IntKind.u64.wrap (a1)) (IntKind.u64.wrap ((l0.length : Int))))), .bool false, .int .i64 3] rfl (by (try simp only [List.map_toArray, List.map_cons, List.map_nil]); first | done | rfl | (simp only [List.length_drop, List.length_take]; rfl)) ?_; (with_reducible refine (saga_Tell.calls k26 _ _ l0 t333 t334 t335 t336 t337 t338 t339 (wrap64 (Int.tmod (IntKind.u64.wrap (a1)) (IntKind.u64.wrap ((l0.length : Int))))) false 3 t341 t342 t343 t344 t345 t346 t347 t348 _ ?sd0 HC0.out A33.out).mono ?_); (case sd0 => exact Kd.C_below HR0.out (by repeat (first | (with_reducible first | exact HB_w34.out | exact Below.refl _ _ | apply below_alloc | apply pw_below_drewN | apply below_drew1) | refine below_set ?_ (by first | omega | (simp; omega) | simp)))); rintro e w35 ⟨rfl, hb⟩; refine ⟨_, rfl, ?_⟩; have hsw35 : w34.heap.size ≤ w35.heap.size := (by have h_ := hb.size; simpa using h_); have HB_w35 : Aside0 (Below w.heap.size w w35) := Aside0.mk (below_step (by repeat (first | (with_reducible first | exact HB_w34.out | exact Below.refl _ _ | apply below_alloc | apply pw_below_drewN | apply below_drew1) | refine below_set ?_ (by first | omega | (simp; omega) | simp))) hb); have cw35_316 := fun o_ : Nat => hb.cell (p := ⟨w16.heap.size, o_, none⟩) (by first | omega | (simp; done) | (simp; omega)); have fw35_316 := fun o_ : Nat => hb.frozen (p := ⟨w16.heap.size, o_, none⟩) (by first | omega | (simp; done) | (simp; omega)); clear hb; have hlw35_316_0 : w16.heap.size < w35.heap.size := (by omega)))
                          go_roundg k26
                          case measure => have := HJ2.out; have := HJ14.out; have := HJ23.out; have := HJ26.out; omega
                          case rel => exact ⟨(wrap64 (x8_23 + 1)), (t341), (t342), (t343), (t344), (t345), (t346), (t347), (by first | rfl | (simp; done) | (simp [*]; done)), H', ⟨by have := HJ2.out; have := HJ14.out; have := HJ23.out; have := HJ26.out; omega⟩, ⟨BX.mk7 (by first | (go_simp; done) | (simp (maxDischargeDepth := 8) [go_sem, *]; done)) (by first | (go_simp; done) | (simp (maxDischargeDepth := 8) [go_sem, *]; done)) (by first | (go_simp; done) | (simp (maxDischargeDepth := 8) [go_sem, *]; done)) (by first | (go_simp; done) | (simp (maxDischargeDepth := 8) [go_sem, *]; done)) (by first | (go_simp; done) | (simp (maxDischargeDepth := 8) [go_sem, *]; done)) (by first | (go_simp; done) | (simp (maxDischargeDepth := 8) [go_sem, *]; done)) (by first | (go_simp; done) | (simp (maxDischargeDepth := 8) [go_sem, *]; done)) (by first | (go_simp; done) | (simp (maxDischargeDepth := 8) [go_sem, *]; done)) (by first | (go_simp; done) | (simp (maxDischargeDepth := 8) [go_sem, *]; done)) (by first | (go_simp; done) | (simp (maxDischargeDepth := 8) [go_sem, *]; done)) (by first | (go_simp; done) | (simp (maxDischargeDepth := 8) [go_sem, *]; done)) (by first | (go_simp; done) | (simp (maxDischargeDepth := 8) [go_sem, *]; done)) (by first | (go_simp; done) | (simp (maxDischargeDepth := 8) [go_sem, *]; done)) (by first | (go_simp; done) | (simp (maxDischargeDepth := 8) [go_sem, *]; done)) (by first | omega | (simp; done) | (simp; omega))⟩, ⟨(by repeat (first | (with_reducible first | exact HB_w35.out | exact Below.refl _ _ | apply below_alloc | apply pw_below_drewN | apply below_drew1) | refine below_set ?_ (by first | omega | (simp; omega) | simp)))⟩⟩
                        · replace c31 := Bool.eq_false_iff.mpr c31; subst c31
                          rw [if_neg (by decide)] at H
                          by_cases c36 : 0 ≤ (wrap64 (Int.tmod (IntKind.u64.wrap (a1)) (IntKind.u64.wrap ((l0.length : Int)))))
                          · rw [if_pos c36] at H
                            have c36b0 : decide (0 ≤ (wrap64 (Int.tmod (IntKind.u64.wrap (a1)) (IntKind.u64.wrap ((l0.length : Int)))))) = true := decide_eq_true c36
                            clear c36
                            by_cases c37 : (wrap64 (Int.tmod (IntKind.u64.wrap (a1)) (IntKind.u64.wrap ((l0.length : Int))))) < (l0.length : Int)
                            · rw [if_pos c37] at H
                              have c37b0 : decide ((wrap64 (Int.tmod (IntKind.u64.wrap (a1)) (IntKind.u64.wrap ((l0.length : Int))))) < (l0.length : Int)) = true := decide_eq_true c37
                              clear c37
                              by_cases c38 : x8_23 = ((rd_T38 l0 (wrap64 (Int.tmod (IntKind.u64.wrap (a1)) (IntKind.u64.wrap ((l0.length : Int)))))).f1)
                              · rw [if_pos c38] at H
                                have c38b0 : (x8_23 == ((rd_T38 l0 (wrap64 (Int.tmod (IntKind.u64.wrap (a1)) (IntKind.u64.wrap ((l0.length : Int)))))).f1)) = true := beq_iff_eq.mpr c38
                                have c38b1 : (x8_23 != ((rd_T38 l0 (wrap64 (Int.tmod (IntKind.u64.wrap (a1)) (IntKind.u64.wrap ((l0.length : Int)))))).f1)) = false := bne_eq_false_iff_eq.mpr c38
                                clear c38
                                by_cases c39 : x317000_23 = 3
                                · rw [if_pos c39] at H
                                  have c39b0 : (x317000_23 == 3) = true := beq_iff_eq.mpr c39
                                  have c39b1 : (x317000_23 != 3) = false := bne_eq_false_iff_eq.mpr c39
                                  clear c39
                                  have HC41 := Aside0.mk H
                                  clear H
                                  have hlwc26_316_0 : w16.heap.size < wc26.heap.size := (by omega)
                                  have p349 : 0 ≤ ((wrap64 (Int.tmod (IntKind.u64.wrap (a1)) (IntKind.u64.wrap ((l0.length : Int))))) : Int) := of_decide_eq_true (by first | (with_reducible assumption) | assumption)
                                  have q349 : (wrap64 (Int.tmod (IntKind.u64.wrap (a1)) (IntKind.u64.wrap ((l0.length : Int))))) < (l0.length : Int) := of_decide_eq_true (by first | (with_reducible assumption) | assumption)
                                  obtain ⟨ad349, A349_2, c349_2, e349, hx349_0, hx349_1, hx349_2, hx349_3, hx349_4, hx349_5, hl349_2, hg349_2⟩ := at_T38 (Kd.C_below HR0.out HB_26.out) ((wrap64 (Int.tmod (IntKind.u64.wrap (a1)) (IntKind.u64.wrap ((l0.length : Int)))))) p349 q349
                                  first | (replace e349 := (Option.some.inj e349).symm; subst e349) | cases e349
                                  have HG349_2 := Aside0.mk hg349_2
                                  clear hg349_2
                                  have HL349_2 := Aside0.mk hl349_2
                                  clear hl349_2
                                  have hw349 := cell_lt2 hx349_0
                                  have hbk349 := C_blk HR0.out (by omega) (by decide)
                                  have hne349_316 : ¬ ((ad349.add ((wrap64 (Int.tmod (IntKind.u64.wrap (a1)) (IntKind.u64.wrap ((l0.length : Int))))).toNat * 6)).block = w16.heap.size) := (by rw [add_block]; omega)
                                  have hnf349_316 : ¬ (w16.heap.size = (ad349.add ((wrap64 (Int.tmod (IntKind.u64.wrap (a1)) (IntKind.u64.wrap ((l0.length : Int))))).toNat * 6)).block) := (by rw [add_block]; omega)
                                  replace p349 := eq_true p349
                                  replace q349 := eq_true q349
                                  go_wp2
                                  go_loopg [9] k26 (fun kq v9 wq40 => ∃ (x9_40 : Int), v9 = .int .i64 x9_40 ∧ Aside0 (drayagelaw14_SagaTries.l2 kq l0 (wrap64 (Int.tmod (IntKind.u64.wrap (a1)) (IntKind.u64.wrap ((l0.length : Int))))) x9_40 x317000_23 x317001_23 x317002_23 x317003_23 x317004_23 x317005_23 x317006_23 = some r) ∧ Aside0 (kq ≤ k26) ∧ Aside0 (BX wq40 (w16.heap.size) [.int .i64 x317000_23, .int .i64 x317001_23, .int .i64 x317002_23, .bool x317003_23, .int .i64 x317004_23, .bool x317005_23, .int .i64 x317006_23]) ∧ Aside0 (Below w.heap.size w wq40))
                                  case atStart => exact ⟨(0), (by first | rfl | (simp; done) | (simp [*]; done)), HC41, ⟨Nat.le_refl _⟩, ⟨BX.mk7 (by first | (go_simp; done) | (simp (maxDischargeDepth := 8) [go_sem, *]; done)) (by first | (go_simp; done) | (simp (maxDischargeDepth := 8) [go_sem, *]; done)) (by first | (go_simp; done) | (simp (maxDischargeDepth := 8) [go_sem, *]; done)) (by first | (go_simp; done) | (simp (maxDischargeDepth := 8) [go_sem, *]; done)) (by first | (go_simp; done) | (simp (maxDischargeDepth := 8) [go_sem, *]; done)) (by first | (go_simp; done) | (simp (maxDischargeDepth := 8) [go_sem, *]; done)) (by first | (go_simp; done) | (simp (maxDischargeDepth := 8) [go_sem, *]; done)) (by first | (go_simp; done) | (simp (maxDischargeDepth := 8) [go_sem, *]; done)) (by first | (go_simp; done) | (simp (maxDischargeDepth := 8) [go_sem, *]; done)) (by first | (go_simp; done) | (simp (maxDischargeDepth := 8) [go_sem, *]; done)) (by first | (go_simp; done) | (simp (maxDischargeDepth := 8) [go_sem, *]; done)) (by first | (go_simp; done) | (simp (maxDischargeDepth := 8) [go_sem, *]; done)) (by first | (go_simp; done) | (simp (maxDischargeDepth := 8) [go_sem, *]; done)) (by first | (go_simp; done) | (simp (maxDischargeDepth := 8) [go_sem, *]; done)) (by first | omega | (simp; done) | (simp; omega))⟩, ⟨(by repeat (first | (with_reducible first | exact HB_26.out | exact Below.refl _ _ | apply below_alloc | apply pw_below_drewN | apply below_drew1) | refine below_set ?_ (by first | omega | (simp; omega) | simp)))⟩⟩
                                  case round =>
                                    rename World => wr40
                                    clear HC41
                                    obtain ⟨x9_40, rfl, HA, HJ40, BX316_40, HB_40⟩ := hrel
                                    have hs40 : w.heap.size ≤ wr40.heap.size := HB_40.out.size
                                    obtain ⟨hz316_40_0, hz316_40_1, hz316_40_2, hz316_40_3, hz316_40_4, hz316_40_5, hz316_40_6, hf316_40_0, hf316_40_1, hf316_40_2, hf316_40_3, hf316_40_4, hf316_40_5, hf316_40_6, hlt316_40⟩ := BX316_40.out.out7
                                    cases gk with
                                    | zero => exact absurd HA.out (by simp [drayagelaw14_SagaTries.l2])
                                    | succ k40 =>
                                      have H := HA.out
                                      clear HA
                                      simp only [drayagelaw14_SagaTries.l2] at H
                                      by_cases c43 : x9_40 ≤ (wrap64 (Int.tmod (IntKind.u64.wrap (a1)) (IntKind.u64.wrap ((l0.length : Int)))))
                                      · rw [if_pos c43] at H
                                        have c43b0 : decide (x9_40 ≤ (wrap64 (Int.tmod (IntKind.u64.wrap (a1)) (IntKind.u64.wrap ((l0.length : Int)))))) = true := decide_eq_true c43
                                        clear c43
                                        by_cases c44 : 0 ≤ x9_40
                                        · rw [if_pos c44] at H
                                          have c44b0 : decide (0 ≤ x9_40) = true := decide_eq_true c44
                                          clear c44
                                          by_cases c45 : x9_40 < (l0.length : Int)
                                          · rw [if_pos c45] at H
                                            have c45b0 : decide (x9_40 < (l0.length : Int)) = true := decide_eq_true c45
                                            clear c45
                                            by_cases c46 : (rd_T38 l0 x9_40).f3 = true
                                            · rw [if_pos c46] at H
                                              exact absurd H (by simp)
                                            · rw [if_neg c46] at H
                                              have c46b0 : (rd_T38 l0 x9_40).f3 = false := by simpa using c46
                                              clear c46
                                              have H' := Aside0.mk H
                                              clear H
                                              have hlwr40_316_0 : w16.heap.size < wr40.heap.size := (by omega)
                                              have p350 : 0 ≤ (x9_40 : Int) := of_decide_eq_true (by first | (with_reducible assumption) | assumption)
                                              have q350 : x9_40 < (l0.length : Int) := of_decide_eq_true (by first | (with_reducible assumption) | assumption)
                                              obtain ⟨ad350, A350_2, c350_2, e350, hx350_0, hx350_1, hx350_2, hx350_3, hx350_4, hx350_5, hl350_2, hg350_2⟩ := at_T38 (Kd.C_below HR0.out HB_40.out) (x9_40) p350 q350
                                              first | (replace e350 := (Option.some.inj e350).symm; subst e350) | cases e350
                                              have HG350_2 := Aside0.mk hg350_2
                                              clear hg350_2
                                              have HL350_2 := Aside0.mk hl350_2
                                              clear hl350_2
                                              have hw350 := cell_lt2 hx350_0
                                              have hbk350 := C_blk HR0.out (by omega) (by decide)
                                              have hne350_316 : ¬ ((ad350.add (x9_40.toNat * 6)).block = w16.heap.size) := (by rw [add_block]; omega)
                                              have hnf350_316 : ¬ (w16.heap.size = (ad350.add (x9_40.toNat * 6)).block) := (by rw [add_block]; omega)
                                              replace p350 := eq_true p350
                                              replace q350 := eq_true q350
                                              go_wp2
                                              go_roundg k40
                                              case measure => have := HJ2.out; have := HJ14.out; have := HJ23.out; have := HJ26.out; have := HJ40.out; omega
                                              case rel => exact ⟨(wrap64 (x9_40 + 1)), (by first | rfl | (simp; done) | (simp [*]; done)), H', ⟨by have := HJ2.out; have := HJ14.out; have := HJ23.out; have := HJ26.out; have := HJ40.out; omega⟩, ⟨BX.mk7 (by first | (go_simp; done) | (simp (maxDischargeDepth := 8) [go_sem, *]; done)) (by first | (go_simp; done) | (simp (maxDischargeDepth := 8) [go_sem, *]; done)) (by first | (go_simp; done) | (simp (maxDischargeDepth := 8) [go_sem, *]; done)) (by first | (go_simp; done) | (simp (maxDischargeDepth := 8) [go_sem, *]; done)) (by first | (go_simp; done) | (simp (maxDischargeDepth := 8) [go_sem, *]; done)) (by first | (go_simp; done) | (simp (maxDischargeDepth := 8) [go_sem, *]; done)) (by first | (go_simp; done) | (simp (maxDischargeDepth := 8) [go_sem, *]; done)) (by first | (go_simp; done) | (simp (maxDischargeDepth := 8) [go_sem, *]; done)) (by first | (go_simp; done) | (simp (maxDischargeDepth := 8) [go_sem, *]; done)) (by first | (go_simp; done) | (simp (maxDischargeDepth := 8) [go_sem, *]; done)) (by first | (go_simp; done) | (simp (maxDischargeDepth := 8) [go_sem, *]; done)) (by first | (go_simp; done) | (simp (maxDischargeDepth := 8) [go_sem, *]; done)) (by first | (go_simp; done) | (simp (maxDischargeDepth := 8) [go_sem, *]; done)) (by first | (go_simp; done) | (simp (maxDischargeDepth := 8) [go_sem, *]; done)) (by first | omega | (simp; done) | (simp; omega))⟩, ⟨(by repeat (first | (with_reducible first | exact HB_40.out | exact Below.refl _ _ | apply below_alloc | apply pw_below_drewN | apply below_drew1) | refine below_set ?_ (by first | omega | (simp; omega) | simp)))⟩⟩
                                          · rw [if_neg c45] at H
                                            exact absurd H (by simp)
                                        · rw [if_neg c44] at H
                                          exact absurd H (by simp)
                                      · rw [if_neg c43] at H
                                        have c43b0 : decide (x9_40 ≤ (wrap64 (Int.tmod (IntKind.u64.wrap (a1)) (IntKind.u64.wrap ((l0.length : Int)))))) = false := decide_eq_false c43
                                        clear c43
                                        by_cases c47 : x317006_23 = 2
                                        · rw [if_pos c47] at H
                                          have c47b0 : (x317006_23 == 2) = true := beq_iff_eq.mpr c47
                                          have c47b1 : (x317006_23 != 2) = false := bne_eq_false_iff_eq.mpr c47
                                          clear c47
                                          obtain ⟨t351, A_, H⟩ := Option.bind_eq_some_iff.mp H
                                          try dsimp only at H
                                          have A48 := Aside0.mk A_
                                          clear A_
                                          obtain rfl := Option.some.inj H
                                          have hlwr40_316_0 : w16.heap.size < wr40.heap.size := (by omega)
                                          go_wp2_with (first | (go_at_call 12; (with_reducible refine (drayagelaw14_known.calls k40  t351 _ A48.out).mono ?_); rintro e w49 ⟨rfl, hb⟩; have hsw49 : wr40.heap.size ≤ w49.heap.size := (by have h_ := hb.size; simpa using h_); have HB_w49 : Aside0 (Below w.heap.size w w49) := Aside0.mk (below_step (by repeat (first | (with_reducible first | exact HB_40.out | exact Below.refl _ _ | apply below_alloc | apply pw_below_drewN | apply below_drew1) | refine below_set ?_ (by first | omega | (simp; omega) | simp))) hb); have cw49_316 := fun o_ : Nat => hb.cell (p := ⟨w16.heap.size, o_, none⟩) (by first | omega | (simp; done) | (simp; omega)); have fw49_316 := fun o_ : Nat => hb.frozen (p := ⟨w16.heap.size, o_, none⟩) (by first | omega | (simp; done) | (simp; omega)); clear hb; have hlw49_316_0 : w16.heap.size < w49.heap.size := (by omega)))
                                          refine bodyPost_ret ?_ rfl ⟨rfl, ?_⟩
                                          · simp [results, Try.results3, go_sem, hz316_40_0, hz316_40_1, hz316_40_2, hz316_40_3, hz316_40_4, hz316_40_5, hz316_40_6, hf316_40_0, hf316_40_1, hf316_40_2, hf316_40_3, hf316_40_4, hf316_40_5, hf316_40_6, hlwr40_316_0, cw49_316, fw49_316, hlw49_316_0]
                                          · exact (by repeat (first | (with_reducible first | exact HB_w49.out | exact Below.refl _ _ | apply below_alloc | apply pw_below_drewN | apply below_drew1) | refine below_set ?_ (by first | omega | (simp; omega) | simp)))
                                        · rw [if_neg c47] at H
                                          exact absurd H (by simp)
                                · rw [if_neg c39] at H
                                  have c39b0 : (x317000_23 == 3) = false := beq_eq_false_iff_ne.mpr c39
                                  have c39b1 : (x317000_23 != 3) = true := bne_iff_ne.mpr c39
                                  clear c39
                                  have HC51 := Aside0.mk H
                                  clear H
                                  have hlwc26_316_0 : w16.heap.size < wc26.heap.size := (by omega)
                                  have p349 : 0 ≤ ((wrap64 (Int.tmod (IntKind.u64.wrap (a1)) (IntKind.u64.wrap ((l0.length : Int))))) : Int) := of_decide_eq_true (by first | (with_reducible assumption) | assumption)
                                  have q349 : (wrap64 (Int.tmod (IntKind.u64.wrap (a1)) (IntKind.u64.wrap ((l0.length : Int))))) < (l0.length : Int) := of_decide_eq_true (by first | (with_reducible assumption) | assumption)
                                  obtain ⟨ad349, A349_2, c349_2, e349, hx349_0, hx349_1, hx349_2, hx349_3, hx349_4, hx349_5, hl349_2, hg349_2⟩ := at_T38 (Kd.C_below HR0.out HB_26.out) ((wrap64 (Int.tmod (IntKind.u64.wrap (a1)) (IntKind.u64.wrap ((l0.length : Int)))))) p349 q349
                                  first | (replace e349 := (Option.some.inj e349).symm; subst e349) | cases e349
                                  have HG349_2 := Aside0.mk hg349_2
                                  clear hg349_2
                                  have HL349_2 := Aside0.mk hl349_2
                                  clear hl349_2
                                  have hw349 := cell_lt2 hx349_0
                                  have hbk349 := C_blk HR0.out (by omega) (by decide)
                                  have hne349_316 : ¬ ((ad349.add ((wrap64 (Int.tmod (IntKind.u64.wrap (a1)) (IntKind.u64.wrap ((l0.length : Int))))).toNat * 6)).block = w16.heap.size) := (by rw [add_block]; omega)
                                  have hnf349_316 : ¬ (w16.heap.size = (ad349.add ((wrap64 (Int.tmod (IntKind.u64.wrap (a1)) (IntKind.u64.wrap ((l0.length : Int))))).toNat * 6)).block) := (by rw [add_block]; omega)
                                  replace p349 := eq_true p349
                                  replace q349 := eq_true q349
                                  go_wp2
                                  go_loopg [11] k26 (fun kq v11 wq50 => ∃ (x11_50 : Int) (x317000_50 : Int) (x317001_50 : Int) (x317002_50 : Int) (x317003_50 : Bool) (x317004_50 : Int) (x317005_50 : Bool) (x317006_50 : Int), v11 = .int .i64 x11_50 ∧ Aside0 (drayagelaw14_SagaTries.l3 kq l0 (wrap64 (Int.tmod (IntKind.u64.wrap (a1)) (IntKind.u64.wrap ((l0.length : Int))))) x317001_23 x11_50 x317000_50 x317001_50 x317002_50 x317003_50 x317004_50 x317005_50 x317006_50 = some r) ∧ Aside0 (kq ≤ k26) ∧ Aside0 (BX wq50 (w16.heap.size) [.int .i64 x317000_50, .int .i64 x317001_50, .int .i64 x317002_50, .bool x317003_50, .int .i64 x317004_50, .bool x317005_50, .int .i64 x317006_50]) ∧ Aside0 (Below w.heap.size w wq50))
                                  case atStart => exact ⟨(0), (x317000_23), (x317001_23), (x317002_23), (x317003_23), (x317004_23), (x317005_23), (x317006_23), (by first | rfl | (simp; done) | (simp [*]; done)), HC51, ⟨Nat.le_refl _⟩, ⟨BX.mk7 (by first | (go_simp; done) | (simp (maxDischargeDepth := 8) [go_sem, *]; done)) (by first | (go_simp; done) | (simp (maxDischargeDepth := 8) [go_sem, *]; done)) (by first | (go_simp; done) | (simp (maxDischargeDepth := 8) [go_sem, *]; done)) (by first | (go_simp; done) | (simp (maxDischargeDepth := 8) [go_sem, *]; done)) (by first | (go_simp; done) | (simp (maxDischargeDepth := 8) [go_sem, *]; done)) (by first | (go_simp; done) | (simp (maxDischargeDepth := 8) [go_sem, *]; done)) (by first | (go_simp; done) | (simp (maxDischargeDepth := 8) [go_sem, *]; done)) (by first | (go_simp; done) | (simp (maxDischargeDepth := 8) [go_sem, *]; done)) (by first | (go_simp; done) | (simp (maxDischargeDepth := 8) [go_sem, *]; done)) (by first | (go_simp; done) | (simp (maxDischargeDepth := 8) [go_sem, *]; done)) (by first | (go_simp; done) | (simp (maxDischargeDepth := 8) [go_sem, *]; done)) (by first | (go_simp; done) | (simp (maxDischargeDepth := 8) [go_sem, *]; done)) (by first | (go_simp; done) | (simp (maxDischargeDepth := 8) [go_sem, *]; done)) (by first | (go_simp; done) | (simp (maxDischargeDepth := 8) [go_sem, *]; done)) (by first | omega | (simp; done) | (simp; omega))⟩, ⟨(by repeat (first | (with_reducible first | exact HB_26.out | exact Below.refl _ _ | apply below_alloc | apply pw_below_drewN | apply below_drew1) | refine below_set ?_ (by first | omega | (simp; omega) | simp)))⟩⟩
                                  case round =>
                                    rename World => wr50
                                    clear HC51
                                    obtain ⟨x11_50, x317000_50, x317001_50, x317002_50, x317003_50, x317004_50, x317005_50, x317006_50, rfl, HA, HJ50, BX316_50, HB_50⟩ := hrel
                                    have hs50 : w.heap.size ≤ wr50.heap.size := HB_50.out.size
                                    obtain ⟨hz316_50_0, hz316_50_1, hz316_50_2, hz316_50_3, hz316_50_4, hz316_50_5, hz316_50_6, hf316_50_0, hf316_50_1, hf316_50_2, hf316_50_3, hf316_50_4, hf316_50_5, hf316_50_6, hlt316_50⟩ := BX316_50.out.out7
                                    cases gk with
                                    | zero => exact absurd HA.out (by simp [drayagelaw14_SagaTries.l3])
                                    | succ k50 =>
                                      have H := HA.out
                                      clear HA
                                      simp only [drayagelaw14_SagaTries.l3] at H
                                      have HC54 := Aside0.mk H
                                      clear H
                                      have hlwr50_316_0 : w16.heap.size < wr50.heap.size := (by omega)
                                      go_upto_region 26 with (fail)
                                      go_cut [108] (fun v108 wq53 => ∃ (kq : Nat) (x108_53 : Bool), v108 = .bool x108_53 ∧ Aside0 (drayagelaw14_SagaTries.j6 kq l0 (wrap64 (Int.tmod (IntKind.u64.wrap (a1)) (IntKind.u64.wrap ((l0.length : Int))))) x317001_23 x11_50 x108_53 x317000_50 x317001_50 x317002_50 x317003_50 x317004_50 x317005_50 x317006_50 = some r) ∧ Aside0 (kq ≤ k50) ∧ Aside0 (BX wq53 (w16.heap.size) [.int .i64 x317000_50, .int .i64 x317001_50, .int .i64 x317002_50, .bool x317003_50, .int .i64 x317004_50, .bool x317005_50, .int .i64 x317006_50]) ∧ Aside0 (Below w.heap.size w wq53))
                                      case first =>
                                        have H := HC54.out
                                        clear HC54
                                        by_cases c55 : x317000_50 = 2
                                        · rw [if_pos c55] at H
                                          have c55b0 : (x317000_50 == 2) = true := beq_iff_eq.mpr c55
                                          have c55b1 : (x317000_50 != 2) = false := bne_eq_false_iff_eq.mpr c55
                                          clear c55
                                          have H' := Aside0.mk H
                                          clear H
                                          have hlwr50_316_0 : w16.heap.size < wr50.heap.size := (by omega)
                                          go_wp2
                                          go_meet
                                          case rel => exact ⟨_, (decide (x11_50 ≤ 255)), (by first | rfl | (simp; done) | (simp [*]; done)), H', ⟨by have := HJ2.out; have := HJ14.out; have := HJ23.out; have := HJ26.out; have := HJ50.out; first | omega | exact Nat.le_refl _⟩, ⟨BX.mk7 (by first | (go_simp; done) | (simp (maxDischargeDepth := 8) [go_sem, *]; done)) (by first | (go_simp; done) | (simp (maxDischargeDepth := 8) [go_sem, *]; done)) (by first | (go_simp; done) | (simp (maxDischargeDepth := 8) [go_sem, *]; done)) (by first | (go_simp; done) | (simp (maxDischargeDepth := 8) [go_sem, *]; done)) (by first | (go_simp; done) | (simp (maxDischargeDepth := 8) [go_sem, *]; done)) (by first | (go_simp; done) | (simp (maxDischargeDepth := 8) [go_sem, *]; done)) (by first | (go_simp; done) | (simp (maxDischargeDepth := 8) [go_sem, *]; done)) (by first | (go_simp; done) | (simp (maxDischargeDepth := 8) [go_sem, *]; done)) (by first | (go_simp; done) | (simp (maxDischargeDepth := 8) [go_sem, *]; done)) (by first | (go_simp; done) | (simp (maxDischargeDepth := 8) [go_sem, *]; done)) (by first | (go_simp; done) | (simp (maxDischargeDepth := 8) [go_sem, *]; done)) (by first | (go_simp; done) | (simp (maxDischargeDepth := 8) [go_sem, *]; done)) (by first | (go_simp; done) | (simp (maxDischargeDepth := 8) [go_sem, *]; done)) (by first | (go_simp; done) | (simp (maxDischargeDepth := 8) [go_sem, *]; done)) (by first | omega | (simp; done) | (simp; omega))⟩, ⟨(by repeat (first | (with_reducible first | exact HB_50.out | exact Below.refl _ _ | apply below_alloc | apply pw_below_drewN | apply below_drew1) | refine below_set ?_ (by first | omega | (simp; omega) | simp)))⟩⟩
                                        · rw [if_neg c55] at H
                                          have c55b0 : (x317000_50 == 2) = false := beq_eq_false_iff_ne.mpr c55
                                          have c55b1 : (x317000_50 != 2) = true := bne_iff_ne.mpr c55
                                          clear c55
                                          have H' := Aside0.mk H
                                          clear H
                                          have hlwr50_316_0 : w16.heap.size < wr50.heap.size := (by omega)
                                          go_wp2
                                          go_meet
                                          case rel => exact ⟨_, (false), (by first | rfl | (simp; done) | (simp [*]; done)), H', ⟨by have := HJ2.out; have := HJ14.out; have := HJ23.out; have := HJ26.out; have := HJ50.out; first | omega | exact Nat.le_refl _⟩, ⟨BX.mk7 (by first | (go_simp; done) | (simp (maxDischargeDepth := 8) [go_sem, *]; done)) (by first | (go_simp; done) | (simp (maxDischargeDepth := 8) [go_sem, *]; done)) (by first | (go_simp; done) | (simp (maxDischargeDepth := 8) [go_sem, *]; done)) (by first | (go_simp; done) | (simp (maxDischargeDepth := 8) [go_sem, *]; done)) (by first | (go_simp; done) | (simp (maxDischargeDepth := 8) [go_sem, *]; done)) (by first | (go_simp; done) | (simp (maxDischargeDepth := 8) [go_sem, *]; done)) (by first | (go_simp; done) | (simp (maxDischargeDepth := 8) [go_sem, *]; done)) (by first | (go_simp; done) | (simp (maxDischargeDepth := 8) [go_sem, *]; done)) (by first | (go_simp; done) | (simp (maxDischargeDepth := 8) [go_sem, *]; done)) (by first | (go_simp; done) | (simp (maxDischargeDepth := 8) [go_sem, *]; done)) (by first | (go_simp; done) | (simp (maxDischargeDepth := 8) [go_sem, *]; done)) (by first | (go_simp; done) | (simp (maxDischargeDepth := 8) [go_sem, *]; done)) (by first | (go_simp; done) | (simp (maxDischargeDepth := 8) [go_sem, *]; done)) (by first | (go_simp; done) | (simp (maxDischargeDepth := 8) [go_sem, *]; done)) (by first | omega | (simp; done) | (simp; omega))⟩, ⟨(by repeat (first | (with_reducible first | exact HB_50.out | exact Below.refl _ _ | apply below_alloc | apply pw_below_drewN | apply below_drew1) | refine below_set ?_ (by first | omega | (simp; omega) | simp)))⟩⟩
                                      case rest =>
                                        rename World => wc53
                                        clear HC54
                                        obtain ⟨kq, x108_53, rfl, HA, HJ53, BX316_53, HB_53⟩ := hcut
                                        have hs53 : w.heap.size ≤ wc53.heap.size := HB_53.out.size
                                        obtain ⟨hz316_53_0, hz316_53_1, hz316_53_2, hz316_53_3, hz316_53_4, hz316_53_5, hz316_53_6, hf316_53_0, hf316_53_1, hf316_53_2, hf316_53_3, hf316_53_4, hf316_53_5, hf316_53_6, hlt316_53⟩ := BX316_53.out.out7
                                        cases kq with
                                        | zero => exact absurd HA.out (by simp [drayagelaw14_SagaTries.j6])
                                        | succ k53 =>
                                          have H := HA.out
                                          clear HA
                                          simp only [drayagelaw14_SagaTries.j6] at H
                                          by_cases c57 : x108_53 = true
                                          · subst c57
                                            rw [if_pos rfl] at H
                                            obtain ⟨⟨t352, t353, t354, t355, t356, t357, t358, t359⟩, A_, H⟩ := Option.bind_eq_some_iff.mp H
                                            try dsimp only at H
                                            have A58 := Aside0.mk A_
                                            clear A_
                                            obtain ⟨⟨t360, t361, t362, t363, t364, t365, t366, t367⟩, A_, H⟩ := Option.bind_eq_some_iff.mp H
                                            try dsimp only at H
                                            have A59 := Aside0.mk A_
                                            clear A_
                                            have H' := Aside0.mk H
                                            clear H
                                            have hlwc53_316_0 : w16.heap.size < wc53.heap.size := (by omega)
                                            go_wp2_with (first | ((with_reducible refine gate_callee (f := 14) rfl ?_); refine goesL_ (some 112) rfl rfl Try.func14 (by kernel_rfl) rfl #[.slice _ l0.length c0, .agg #[.int .i64 x317000_50, .int .i64 x317001_50, .int .i64 x317002_50, .bool x317003_50, .int .i64 x317004_50, .bool x317005_50, .int .i64 x317006_50]] rfl (by (try simp only [List.map_toArray, List.map_cons, List.map_nil]); first | done | rfl | (simp only [List.length_drop, List.length_take]; rfl)) ?_; (with_reducible refine (saga_Ask.calls k53 _ _ l0 x317000_50 x317001_50 x317002_50 x317003_50 x317004_50 x317005_50 x317006_50 t352 t353 t354 t355 t356 t357 t358 t359 _ ?sd0 HC0.out A58.out).mono ?_); (case sd0 => exact Kd.C_below HR0.out (by repeat (first | (with_reducible first | exact HB_53.out | exact Below.refl _ _ | apply below_alloc | apply pw_below_drewN | apply below_drew1) | refine below_set ?_ (by first | omega | (simp; omega) | simp)))); rintro e w60 ⟨rfl, hb⟩; refine ⟨_, rfl, ?_⟩; have hsw60 : wc53.heap.size ≤ w60.heap.size := (by have h_ := hb.size; simpa using h_); have HB_w60 : Aside0 (Below w.heap.size w w60) := Aside0.mk (below_step (by repeat (first | (with_reducible first | exact HB_53.out | exact Below.refl _ _ | apply below_alloc | apply pw_below_drewN | apply below_drew1) | refine below_set ?_ (by first | omega | (simp; omega) | simp))) hb); have cw60_316 := fun o_ : Nat => hb.cell (p := ⟨w16.heap.size, o_, none⟩) (by first | omega | (simp; done) | (simp; omega)); have fw60_316 := fun o_ : Nat => hb.frozen (p := ⟨w16.heap.size, o_, none⟩) (by first | omega | (simp; done) | (simp; omega)); clear hb; have hlw60_316_0 : w16.heap.size < w60.heap.size := (by omega)) | ((with_reducible refine gate_callee (f := 15) rfl ?_); refine goesL_ (some 119) rfl rfl Try.func15 (by kernel_rfl) rfl #[.slice _ l0.length c0, .agg #[.int .i64 t352, .int .i64 t353, .int .i64 t354, .bool t355, .int .i64 t356, .bool t357, .int .i64 t358], .int .i64 x317001_23, .bool true, .int .i64 3] rfl (by (try simp only [List.map_toArray, List.map_cons, List.map_nil]); first | done | rfl | (simp only [List.length_drop, List.length_take]; rfl)) ?_; (with_reducible refine (saga_Tell.calls k53 _ _ l0 t352 t353 t354 t355 t356 t357 t358 x317001_23 true 3 t360 t361 t362 t363 t364 t365 t366 t367 _ ?sd0 HC0.out A59.out).mono ?_); (case sd0 => exact Kd.C_below HR0.out (by repeat (first | (with_reducible first | exact HB_w60.out | exact Below.refl _ _ | apply below_alloc | apply pw_below_drewN | apply below_drew1) | refine below_set ?_ (by first | omega | (simp; omega) | simp)))); rintro e w61 ⟨rfl, hb⟩; refine ⟨_, rfl, ?_⟩; have hsw61 : w60.heap.size ≤ w61.heap.size := (by have h_ := hb.size; simpa using h_); have HB_w61 : Aside0 (Below w.heap.size w w61) := Aside0.mk (below_step (by repeat (first | (with_reducible first | exact HB_w60.out | exact Below.refl _ _ | apply below_alloc | apply pw_below_drewN | apply below_drew1) | refine below_set ?_ (by first | omega | (simp; omega) | simp))) hb); have cw61_316 := fun o_ : Nat => hb.cell (p := ⟨w16.heap.size, o_, none⟩) (by first | omega | (simp; done) | (simp; omega)); have fw61_316 := fun o_ : Nat => hb.frozen (p := ⟨w16.heap.size, o_, none⟩) (by first | omega | (simp; done) | (simp; omega)); clear hb; have hlw61_316_0 : w16.heap.size < w61.heap.size := (by omega)))
                                            go_roundg k53
                                            case measure => have := HJ2.out; have := HJ14.out; have := HJ23.out; have := HJ26.out; have := HJ50.out; have := HJ53.out; omega
                                            case rel => exact ⟨(wrap64 (x11_50 + 1)), (t360), (t361), (t362), (t363), (t364), (t365), (t366), (by first | rfl | (simp; done) | (simp [*]; done)), H', ⟨by have := HJ2.out; have := HJ14.out; have := HJ23.out; have := HJ26.out; have := HJ50.out; have := HJ53.out; omega⟩, ⟨BX.mk7 (by first | (go_simp; done) | (simp (maxDischargeDepth := 8) [go_sem, *]; done)) (by first | (go_simp; done) | (simp (maxDischargeDepth := 8) [go_sem, *]; done)) (by first | (go_simp; done) | (simp (maxDischargeDepth := 8) [go_sem, *]; done)) (by first | (go_simp; done) | (simp (maxDischargeDepth := 8) [go_sem, *]; done)) (by first | (go_simp; done) | (simp (maxDischargeDepth := 8) [go_sem, *]; done)) (by first | (go_simp; done) | (simp (maxDischargeDepth := 8) [go_sem, *]; done)) (by first | (go_simp; done) | (simp (maxDischargeDepth := 8) [go_sem, *]; done)) (by first | (go_simp; done) | (simp (maxDischargeDepth := 8) [go_sem, *]; done)) (by first | (go_simp; done) | (simp (maxDischargeDepth := 8) [go_sem, *]; done)) (by first | (go_simp; done) | (simp (maxDischargeDepth := 8) [go_sem, *]; done)) (by first | (go_simp; done) | (simp (maxDischargeDepth := 8) [go_sem, *]; done)) (by first | (go_simp; done) | (simp (maxDischargeDepth := 8) [go_sem, *]; done)) (by first | (go_simp; done) | (simp (maxDischargeDepth := 8) [go_sem, *]; done)) (by first | (go_simp; done) | (simp (maxDischargeDepth := 8) [go_sem, *]; done)) (by first | omega | (simp; done) | (simp; omega))⟩, ⟨(by repeat (first | (with_reducible first | exact HB_w61.out | exact Below.refl _ _ | apply below_alloc | apply pw_below_drewN | apply below_drew1) | refine below_set ?_ (by first | omega | (simp; omega) | simp)))⟩⟩
                                          · replace c57 := Bool.eq_false_iff.mpr c57; subst c57
                                            rw [if_neg (by decide)] at H
                                            by_cases c62 : 0 ≤ x317001_23
                                            · rw [if_pos c62] at H
                                              have c62b0 : decide (0 ≤ x317001_23) = true := decide_eq_true c62
                                              clear c62
                                              by_cases c63 : x317001_23 < (l0.length : Int)
                                              · rw [if_pos c63] at H
                                                have c63b0 : decide (x317001_23 < (l0.length : Int)) = true := decide_eq_true c63
                                                clear c63
                                                by_cases c64 : x11_50 = ((rd_T38 l0 x317001_23).f1)
                                                · rw [if_pos c64] at H
                                                  have c64b0 : (x11_50 == ((rd_T38 l0 x317001_23).f1)) = true := beq_iff_eq.mpr c64
                                                  have c64b1 : (x11_50 != ((rd_T38 l0 x317001_23).f1)) = false := bne_eq_false_iff_eq.mpr c64
                                                  clear c64
                                                  by_cases c65 : x317001_23 ≤ (wrap64 (Int.tmod (IntKind.u64.wrap (a1)) (IntKind.u64.wrap ((l0.length : Int)))))
                                                  · rw [if_pos c65] at H
                                                    have c65b0 : decide (x317001_23 ≤ (wrap64 (Int.tmod (IntKind.u64.wrap (a1)) (IntKind.u64.wrap ((l0.length : Int)))))) = true := decide_eq_true c65
                                                    clear c65
                                                    by_cases c66 : (rd_T38 l0 x317001_23).f3 = true
                                                    · rw [if_pos c66] at H
                                                      have c66b0 : (rd_T38 l0 x317001_23).f3 = true := c66
                                                      clear c66
                                                      by_cases c67 : x317000_50 = 3
                                                      · rw [if_pos c67] at H
                                                        have c67b0 : (x317000_50 == 3) = true := beq_iff_eq.mpr c67
                                                        have c67b1 : (x317000_50 != 3) = false := bne_eq_false_iff_eq.mpr c67
                                                        clear c67
                                                        by_cases c68 : x317006_50 = 3
                                                        · rw [if_pos c68] at H
                                                          have c68b0 : (x317006_50 == 3) = true := beq_iff_eq.mpr c68
                                                          have c68b1 : (x317006_50 != 3) = false := bne_eq_false_iff_eq.mpr c68
                                                          clear c68
                                                          obtain ⟨t370, A_, H⟩ := Option.bind_eq_some_iff.mp H
                                                          try dsimp only at H
                                                          have A69 := Aside0.mk A_
                                                          clear A_
                                                          obtain rfl := Option.some.inj H
                                                          have hlwc53_316_0 : w16.heap.size < wc53.heap.size := (by omega)
                                                          have p368 : 0 ≤ (x317001_23 : Int) := of_decide_eq_true (by first | (with_reducible assumption) | assumption)
                                                          have q368 : x317001_23 < (l0.length : Int) := of_decide_eq_true (by first | (with_reducible assumption) | assumption)
                                                          obtain ⟨ad368, A368_2, c368_2, e368, hx368_0, hx368_1, hx368_2, hx368_3, hx368_4, hx368_5, hl368_2, hg368_2⟩ := at_T38 (Kd.C_below HR0.out HB_53.out) (x317001_23) p368 q368
                                                          first | (replace e368 := (Option.some.inj e368).symm; subst e368) | cases e368
                                                          have HG368_2 := Aside0.mk hg368_2
                                                          clear hg368_2
                                                          have HL368_2 := Aside0.mk hl368_2
                                                          clear hl368_2
                                                          have hw368 := cell_lt2 hx368_0
                                                          have hbk368 := C_blk HR0.out (by omega) (by decide)
                                                          have hne368_316 : ¬ ((ad368.add (x317001_23.toNat * 6)).block = w16.heap.size) := (by rw [add_block]; omega)
                                                          have hnf368_316 : ¬ (w16.heap.size = (ad368.add (x317001_23.toNat * 6)).block) := (by rw [add_block]; omega)
                                                          replace p368 := eq_true p368
                                                          replace q368 := eq_true q368
                                                          have p369 : 0 ≤ (x317001_23 : Int) := of_decide_eq_true (by first | (with_reducible assumption) | assumption)
                                                          have q369 : x317001_23 < (l0.length : Int) := of_decide_eq_true (by first | (with_reducible assumption) | assumption)
                                                          obtain ⟨ad369, A369_2, c369_2, e369, hx369_0, hx369_1, hx369_2, hx369_3, hx369_4, hx369_5, hl369_2, hg369_2⟩ := at_T38 (Kd.C_below HR0.out HB_53.out) (x317001_23) p369 q369
                                                          obtain rfl : ad368 = ad369 := (by injection e369)
                                                          have HG369_2 := Aside0.mk hg369_2
                                                          clear hg369_2
                                                          have HL369_2 := Aside0.mk hl369_2
                                                          clear hl369_2
                                                          have hw369 := cell_lt2 hx369_0
                                                          have hne369_316 : ¬ ((ad368.add (x317001_23.toNat * 6)).block = w16.heap.size) := (by rw [add_block]; omega)
                                                          have hnf369_316 : ¬ (w16.heap.size = (ad368.add (x317001_23.toNat * 6)).block) := (by rw [add_block]; omega)
                                                          replace p369 := eq_true p369
                                                          replace q369 := eq_true q369
                                                          go_wp2_with (first | (go_at_call 12; (with_reducible refine (drayagelaw14_known.calls k53  t370 _ A69.out).mono ?_); rintro e w70 ⟨rfl, hb⟩; have hsw70 : wc53.heap.size ≤ w70.heap.size := (by have h_ := hb.size; simpa using h_); have HB_w70 : Aside0 (Below w.heap.size w w70) := Aside0.mk (below_step (by repeat (first | (with_reducible first | exact HB_53.out | exact Below.refl _ _ | apply below_alloc | apply pw_below_drewN | apply below_drew1) | refine below_set ?_ (by first | omega | (simp; omega) | simp))) hb); have cw70_316 := fun o_ : Nat => hb.cell (p := ⟨w16.heap.size, o_, none⟩) (by first | omega | (simp; done) | (simp; omega)); have fw70_316 := fun o_ : Nat => hb.frozen (p := ⟨w16.heap.size, o_, none⟩) (by first | omega | (simp; done) | (simp; omega)); clear hb; have hlw70_316_0 : w16.heap.size < w70.heap.size := (by omega)))
                                                          refine bodyPost_ret ?_ rfl ⟨rfl, ?_⟩
                                                          · simp [results, Try.results3, go_sem, hz316_53_0, hz316_53_1, hz316_53_2, hz316_53_3, hz316_53_4, hz316_53_5, hz316_53_6, hf316_53_0, hf316_53_1, hf316_53_2, hf316_53_3, hf316_53_4, hf316_53_5, hf316_53_6, hlwc53_316_0, cw70_316, fw70_316, hlw70_316_0]
                                                          · exact (by repeat (first | (with_reducible first | exact HB_w70.out | exact Below.refl _ _ | apply below_alloc | apply pw_below_drewN | apply below_drew1) | refine below_set ?_ (by first | omega | (simp; omega) | simp)))
                                                        · rw [if_neg c68] at H
                                                          exact absurd H (by simp)
                                                      · rw [if_neg c67] at H
                                                        exact absurd H (by simp)
                                                    · rw [if_neg c66] at H
                                                      exact absurd H (by simp)
                                                  · rw [if_neg c65] at H
                                                    exact absurd H (by simp)
                                                · rw [if_neg c64] at H
                                                  exact absurd H (by simp)
                                              · rw [if_neg c63] at H
                                                exact absurd H (by simp)
                                            · rw [if_neg c62] at H
                                              exact absurd H (by simp)
                              · rw [if_neg c38] at H
                                exact absurd H (by simp)
                            · rw [if_neg c37] at H
                              exact absurd H (by simp)
                          · rw [if_neg c36] at H
                            exact absurd H (by simp)

end Go.Proofs.Yteefdhgfcnjpoaa.PA
