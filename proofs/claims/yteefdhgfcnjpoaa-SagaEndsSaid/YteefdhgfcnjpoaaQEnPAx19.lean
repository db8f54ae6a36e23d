-- printed by a program of this work (wip/tools/pr.py over the kit's print): the machine's side of SagaTries, SagaMoves, SagaStays, SagaOrder, SagaEnds, SagaTicks
import Derived.Test.YteefdhgfcnjpoaaQEnPAx0
import Derived.Test.YteefdhgfcnjpoaaQEnPAx3
import Derived.Test.YteefdhgfcnjpoaaQEnPAx5
import Derived.Test.YteefdhgfcnjpoaaQEnPAx8
import Derived.Test.YteefdhgfcnjpoaaQEnPAx9
import Derived.Test.YteefdhgfcnjpoaaQEnPAx16
namespace Go.Proofs.Yteefdhgfcnjpoaa.PA
open Go.RowKit Go.Proofs.YteefdhgfcnjpoaaW.PrintWords Go.Proofs.YteefdhgfcnjpoaaW.PrintLast Go.Proofs.YteefdhgfcnjpoaaW.PrintMore
attribute [local go_sem] max2_int min2_int max_two min_two max_three min_three max_four min_four   -- for this text's walks alone
set_option linter.unusedVariables false
set_option linter.unusedSimpArgs false

/-! ### drayagelaw14_SagaEnds: function 7 -/
mutual
def drayagelaw14_SagaEnds.j0 : Nat → List (S38) → List (S54) → Int → Bool → Option (Bool)
  | 0, _, _, _, _ => none
  | k + 1, x0, x1, x2, x26 => if x26 = true then ((drayagelaw14_known.f k).bind fun t672 => (some t672)) else ((saga_Start.f).bind fun bt673 => (drayagelaw14_SagaEnds.l0 k x0 x1 x2 0 bt673.1 bt673.2.1 bt673.2.2.1 bt673.2.2.2.1 bt673.2.2.2.2.1 bt673.2.2.2.2.2.1 bt673.2.2.2.2.2.2))
def drayagelaw14_SagaEnds.l0 : Nat → List (S38) → List (S54) → Int → Int → Int → Int → Int → Bool → Int → Bool → Int → Option (Bool)
  | 0, _, _, _, _, _, _, _, _, _, _, _ => none
  | k + 1, x0, x1, x2, x8, x681000, x681001, x681002, x681003, x681004, x681005, x681006 => if x8 < (x1.length : Int) then (drayagelaw14_SagaEnds.j2 k x0 x1 x2 x8 (decide (x8 < 60)) x681000 x681001 x681002 x681003 x681004 x681005 x681006) else (drayagelaw14_SagaEnds.j2 k x0 x1 x2 x8 false x681000 x681001 x681002 x681003 x681004 x681005 x681006)
def drayagelaw14_SagaEnds.j2 : Nat → List (S38) → List (S54) → Int → Int → Bool → Int → Int → Int → Bool → Int → Bool → Int → Option (Bool)
  | 0, _, _, _, _, _, _, _, _, _, _, _, _ => none
  | k + 1, x0, x1, x2, x8, x36, x681000, x681001, x681002, x681003, x681004, x681005, x681006 => if x36 = true then (if 0 ≤ x8 then (if x8 < (x1.length : Int) then ((drayagelaw14_happens.f k x0 x681000 x681001 x681002 x681003 x681004 x681005 x681006 ((rd_T54 x1 x8).f0) ((rd_T54 x1 x8).f1) ((rd_T54 x1 x8).f2)).bind fun bt682 => (if bt682.2.2.2.2.2.2.2 = true then (drayagelaw14_SagaEnds.l0 k x0 x1 x2 (wrap64 (x8 + 1)) bt682.1 bt682.2.1 bt682.2.2.1 bt682.2.2.2.1 bt682.2.2.2.2.1 bt682.2.2.2.2.2.1 bt682.2.2.2.2.2.2.1) else (none))) else (none)) else (none)) else (drayagelaw14_SagaEnds.l1 k x0 x2 0 0 x681000 x681001 x681002 x681003 x681004 x681005 x681006)
def drayagelaw14_SagaEnds.l1 : Nat → List (S38) → Int → Int → Int → Int → Int → Int → Bool → Int → Bool → Int → Option (Bool)
  | 0, _, _, _, _, _, _, _, _, _, _, _ => none
  | k + 1, x0, x2, x11, x12, x681000, x681001, x681002, x681003, x681004, x681005, x681006 => if x12 < (x0.length : Int) then (if 0 ≤ x12 then (drayagelaw14_SagaEnds.l1 k x0 x2 (wrap64 (x11 + (wrap64 (2 * ((rd_T38 x0 x12).f1))))) (wrap64 (x12 + 1)) x681000 x681001 x681002 x681003 x681004 x681005 x681006) else (none)) else (drayagelaw14_SagaEnds.l2 k x0 x2 x11 0 x681000 x681001 x681002 x681003 x681004 x681005 x681006)
def drayagelaw14_SagaEnds.l2 : Nat → List (S38) → Int → Int → Int → Int → Int → Int → Bool → Int → Bool → Int → Option (Bool)
  | 0, _, _, _, _, _, _, _, _, _, _, _ => none
  | k + 1, x0, x2, x11, x13, x681000, x681001, x681002, x681003, x681004, x681005, x681006 => if x681000 < 3 then (if x681003 = true then (drayagelaw14_SagaEnds.j5 k x0 x2 x11 x13 x681000 x681001 x681002 x681003 x681004 x681005 x681006) else ((saga_Ask.f k x0 x681000 x681001 x681002 x681003 x681004 x681005 x681006).bind fun bt692 => (drayagelaw14_SagaEnds.j5 k x0 x2 x11 (wrap64 (x13 + 1)) bt692.1 bt692.2.1 bt692.2.2.1 bt692.2.2.2.1 bt692.2.2.2.2.1 bt692.2.2.2.2.2.1 bt692.2.2.2.2.2.2.1))) else ((saga_Start.f).bind fun bt716 => (if (IntKind.u64.wrap (wrap64 ((x0.length : Int) + 1))) = 0 then (none) else (drayagelaw14_SagaEnds.l3 k x0 (wrap64 (Int.tmod (IntKind.u64.wrap (x2)) (IntKind.u64.wrap (wrap64 ((x0.length : Int) + 1))))) 0 bt716.1 bt716.2.1 bt716.2.2.1 bt716.2.2.2.1 bt716.2.2.2.2.1 bt716.2.2.2.2.2.1 bt716.2.2.2.2.2.2)))
def drayagelaw14_SagaEnds.j5 : Nat → List (S38) → Int → Int → Int → Int → Int → Int → Bool → Int → Bool → Int → Option (Bool)
  | 0, _, _, _, _, _, _, _, _, _, _, _ => none
  | k + 1, x0, x2, x11, x13, x681000, x681001, x681002, x681003, x681004, x681005, x681006 => if (Int.tmod x2 2) = 0 then ((saga_Tell.f k x0 x681000 x681001 x681002 x681003 x681004 x681005 x681006 x681001 (x681000 == 2) 1).bind fun bt700 => (if x13 > x11 then (none) else (if bt700.1 = 0 then (none) else (drayagelaw14_SagaEnds.l2 k x0 x2 x11 x13 bt700.1 bt700.2.1 bt700.2.2.1 bt700.2.2.2.1 bt700.2.2.2.2.1 bt700.2.2.2.2.2.1 bt700.2.2.2.2.2.2.1)))) else ((saga_Tell.f k x0 x681000 x681001 x681002 x681003 x681004 x681005 x681006 x681001 (x681000 == 2) 3).bind fun bt708 => (if x13 > x11 then (none) else (if bt708.1 = 0 then (none) else (drayagelaw14_SagaEnds.l2 k x0 x2 x11 x13 bt708.1 bt708.2.1 bt708.2.2.1 bt708.2.2.2.1 bt708.2.2.2.2.1 bt708.2.2.2.2.2.1 bt708.2.2.2.2.2.2.1))))
def drayagelaw14_SagaEnds.l3 : Nat → List (S38) → Int → Int → Int → Int → Int → Bool → Int → Bool → Int → Option (Bool)
  | 0, _, _, _, _, _, _, _, _, _, _ => none
  | k + 1, x0, x16, x17, x724000, x724001, x724002, x724003, x724004, x724005, x724006 => if x17 < (wrap64 ((wrap64 (2 * (x0.length : Int))) + 1)) then (drayagelaw14_SagaEnds.j7 k x0 x16 x17 (decide (x724000 < 3)) x724000 x724001 x724002 x724003 x724004 x724005 x724006) else (drayagelaw14_SagaEnds.j7 k x0 x16 x17 false x724000 x724001 x724002 x724003 x724004 x724005 x724006)
def drayagelaw14_SagaEnds.j7 : Nat → List (S38) → Int → Int → Bool → Int → Int → Int → Bool → Int → Bool → Int → Option (Bool)
  | 0, _, _, _, _, _, _, _, _, _, _, _ => none
  | k + 1, x0, x16, x17, x122, x724000, x724001, x724002, x724003, x724004, x724005, x724006 => if x122 = true then (if x724000 = 1 then (drayagelaw14_SagaEnds.j8 k x0 x16 x17 1 (x724001 == x16) x724000 x724001 x724002 x724003 x724004 x724005 x724006) else (drayagelaw14_SagaEnds.j8 k x0 x16 x17 1 false x724000 x724001 x724002 x724003 x724004 x724005 x724006)) else (if x16 = (x0.length : Int) then (if x724000 = 3 then (if x724006 = 1 then ((drayagelaw14_known.f k).bind fun t724 => (some t724)) else (none)) else (none)) else (if x724000 = 3 then (if x724006 = 2 then ((drayagelaw14_known.f k).bind fun t725 => (some t725)) else (none)) else (none)))
def drayagelaw14_SagaEnds.j8 : Nat → List (S38) → Int → Int → Int → Bool → Int → Int → Int → Bool → Int → Bool → Int → Option (Bool)
  | 0, _, _, _, _, _, _, _, _, _, _, _, _ => none
  | k + 1, x0, x16, x17, x18, x133, x724000, x724001, x724002, x724003, x724004, x724005, x724006 => if x133 = true then ((saga_Ask.f k x0 x724000 x724001 x724002 x724003 x724004 x724005 x724006).bind fun bt726 => ((saga_Tell.f k x0 bt726.1 bt726.2.1 bt726.2.2.1 bt726.2.2.2.1 bt726.2.2.2.2.1 bt726.2.2.2.2.2.1 bt726.2.2.2.2.2.2.1 bt726.2.1 (bt726.1 == 2) 2).bind fun bt734 => (drayagelaw14_SagaEnds.l3 k x0 x16 (wrap64 (x17 + 1)) bt734.1 bt734.2.1 bt734.2.2.1 bt734.2.2.2.1 bt734.2.2.2.2.1 bt734.2.2.2.2.2.1 bt734.2.2.2.2.2.2.1))) else ((saga_Ask.f k x0 x724000 x724001 x724002 x724003 x724004 x724005 x724006).bind fun bt742 => ((saga_Tell.f k x0 bt742.1 bt742.2.1 bt742.2.2.1 bt742.2.2.2.1 bt742.2.2.2.2.1 bt742.2.2.2.2.2.1 bt742.2.2.2.2.2.2.1 bt742.2.1 (bt742.1 == 2) x18).bind fun bt750 => (drayagelaw14_SagaEnds.l3 k x0 x16 (wrap64 (x17 + 1)) bt750.1 bt750.2.1 bt750.2.2.1 bt750.2.2.2.1 bt750.2.2.2.2.1 bt750.2.2.2.2.2.1 bt750.2.2.2.2.2.2.1)))
end
def drayagelaw14_SagaEnds.f (k : Nat) (l0 : List (S38)) (l1 : List (S54)) (a2 : Int) : Option (Bool) := (drayagelaw14_long.f k l0).bind fun t670 => (if t670 = true then (drayagelaw14_SagaEnds.j0 k l0 l1 a2 true) else ((drayageref13_Check.f k l0).bind fun t671 => (drayagelaw14_SagaEnds.j0 k l0 l1 a2 (t671 != 0))))

def drayagelaw14_SagaEnds.T7 : Bool × List (List Nat × List Nat) := (true, [([], []), ([], []), ([], []), ([], []), ([2, 3], [2, 3]), ([4], [4]), ([0, 1, 5], [0, 1, 5]), ([6], [6]), ([7], [7]), ([7], [7]), ([], []), ([10, 8, 6, 0, 1, 2, 3, 4, 5, 6, 7, 8, 10], [8, 10]), ([9, 11, 0, 1, 2, 3, 4, 5, 6, 7, 8, 9, 10, 11], [9])])
def drayagelaw14_SagaEnds.B7 : List Nat := [0, 0, 0, 0, 12, 28, 63, 127, 255, 255, 0, 1535, 4095]
theorem drayagelaw14_SagaEnds.tab7 : rtab .any (opsOf Try.f7 7) = drayagelaw14_SagaEnds.T7 := by kernel_rfl
theorem drayagelaw14_SagaEnds.bits7 : waitsOk drayagelaw14_SagaEnds.T7.2 drayagelaw14_SagaEnds.B7 = true := by kernel_rfl
set_option maxHeartbeats 8000000 in
set_option maxRecDepth 100000 in
theorem drayagelaw14_SagaEnds.calls (k : Nat) (A0 : Option Addr) (c0 : Nat) (l0 : List (S38)) (A1 : Option Addr) (c1 : Nat) (l1 : List (S54)) (a2 : Int) (r : Bool) (w : World) (hr0 : Kd.C k38 w A0 l0.length l0) (hc0 : l0.length ≤ c0) (hr1 : Kd.C k54 w A1 l1.length l1) (hc1 : l1.length ≤ c1) (h : drayagelaw14_SagaEnds.f k l0 l1 a2 = some r) :
    Calls Try.prog 7 #[.slice A0 l0.length c0, .slice A1 l1.length c1, .int .i64 a2] w fun e w' => e = .returned (.bool r) ∧ Below w.heap.size w w' := by
  have hu28 := Try.underlying28
  have hu54 := Try.underlying54
  have HR0 := Aside0.mk hr0
  have HC0 := Aside0.mk hc0
  clear hr0 hc0
  have HR1 := Aside0.mk hr1
  have HC1 := Aside0.mk hc1
  clear hr1 hc1
  have HB := Aside0.mk (Below.refl w.heap.size w)
  have H : ((drayagelaw14_long.f k l0).bind fun t670 => (if t670 = true then (drayagelaw14_SagaEnds.j0 k l0 l1 a2 true) else ((drayageref13_Check.f k l0).bind fun t671 => (drayagelaw14_SagaEnds.j0 k l0 l1 a2 (t671 != 0))))) = some r := h
  clear h
  have HC4 := Aside0.mk H
  clear H
  go_enter Try.func7, Try.ntmps7
  go_upto_region 1 with (fail)
  go_cut [26] (fun v26 wc => ∃ (kq : Nat) (x26_3 : Bool), v26 = .bool x26_3 ∧ Aside0 (drayagelaw14_SagaEnds.j0 kq l0 l1 a2 x26_3 = some r) ∧ Aside0 (kq ≤ k) ∧ Aside0 (Below w.heap.size w wc))
  case first =>
    have H := HC4.out
    clear HC4
    replace H := Option.bind_eq_some_iff.mp H
    obtain ⟨t670, A50, H⟩ := H
    replace H : (if t670 = true then (drayagelaw14_SagaEnds.j0 k l0 l1 a2 true) else ((drayageref13_Check.f k l0).bind fun t671 => (drayagelaw14_SagaEnds.j0 k l0 l1 a2 (t671 != 0)))) = some r := H
    have A5 := Aside0.mk A50
    clear A50
    by_cases c6 : t670 = true
    · subst c6
      have H1 : (drayagelaw14_SagaEnds.j0 k l0 l1 a2 true) = some r := by rw [if_pos rfl] at H; exact H
      clear H
      have H := H1
      clear H1
      have H' := Aside0.mk H
      clear H
      go_wp2_with (first | ((with_reducible refine gate_callee (f := 10) rfl ?_); refine goesL_ (some 21) rfl rfl Try.func10 (by kernel_rfl) rfl #[.slice A0 l0.length c0] rfl (by (try simp only [List.map_toArray, List.map_cons, List.map_nil]); first | done | rfl | (simp only [List.length_drop, List.length_take]; rfl)) ?_; (with_reducible refine (drayagelaw14_long.calls k _ _ l0 true _ ?side1 ?side2 A5.out).mono ?_); (case side1 => repeat (first | exact (Kd.C_below HR0.out HB.out) | (with_reducible refine Kd.C_alloc ?_ _) | (with_reducible refine Kd.C_drewN ?_ _) | (with_reducible refine Kd.C_drew ?_))); (case side2 => exact HC0.out); rintro e w' ⟨rfl, ⟨nd, rfl⟩⟩; refine ⟨_, rfl, ?_⟩))
      go_meet
      case rel => exact ⟨_, (true), (by first | rfl | (simp; done) | (simp [*]; done)), H', ⟨by first | omega | exact Nat.le_refl _⟩, ⟨by repeat (first | (with_reducible first | exact HB.out | apply below_alloc | apply pw_below_drewN | apply below_drew1) | exact HB.out)⟩⟩
    · replace c6 := Bool.eq_false_iff.mpr c6
      subst c6
      have H1 : ((drayageref13_Check.f k l0).bind fun t671 => (drayagelaw14_SagaEnds.j0 k l0 l1 a2 (t671 != 0))) = some r := by rw [if_neg (show ¬ (false = true) by decide)] at H; exact H
      clear H
      have H := H1
      clear H1
      replace H := Option.bind_eq_some_iff.mp H
      obtain ⟨t671, A70, H⟩ := H
      replace H : (drayagelaw14_SagaEnds.j0 k l0 l1 a2 (t671 != 0)) = some r := H
      have A7 := Aside0.mk A70
      clear A70
      have H' := Aside0.mk H
      clear H
      go_wp2_with (first | ((with_reducible refine gate_callee (f := 10) rfl ?_); refine goesL_ (some 21) rfl rfl Try.func10 (by kernel_rfl) rfl #[.slice A0 l0.length c0] rfl (by (try simp only [List.map_toArray, List.map_cons, List.map_nil]); first | done | rfl | (simp only [List.length_drop, List.length_take]; rfl)) ?_; (with_reducible refine (drayagelaw14_long.calls k _ _ l0 false _ ?side1 ?side2 A5.out).mono ?_); (case side1 => repeat (first | exact (Kd.C_below HR0.out HB.out) | (with_reducible refine Kd.C_alloc ?_ _) | (with_reducible refine Kd.C_drewN ?_ _) | (with_reducible refine Kd.C_drew ?_))); (case side2 => exact HC0.out); rintro e w' ⟨rfl, ⟨nd, rfl⟩⟩; refine ⟨_, rfl, ?_⟩) | (go_at_call 11; (with_reducible refine (drayageref13_Check.calls k _ _ l0 t671 _ ?side1 ?side2 A7.out).mono ?_); (case side1 => repeat (first | exact (Kd.C_below HR0.out (by repeat (first | (with_reducible first | exact HB.out | apply below_alloc | apply pw_below_drewN | apply below_drew1) | exact HB.out))) | (with_reducible refine Kd.C_alloc ?_ _) | (with_reducible refine Kd.C_drewN ?_ _) | (with_reducible refine Kd.C_drew ?_))); (case side2 => exact HC0.out); rintro e w8 ⟨rfl, hb⟩; have n0_ := Aside0.mk (below_step (by repeat (first | (with_reducible first | exact HB.out | apply below_alloc | apply pw_below_drewN | apply below_drew1) | exact HB.out)) hb); clear HB; have HB := n0_; clear n0_; (try clear hb); (try clear hb2); (try clear hk); (try clear hi)))
      go_meet
      case rel => exact ⟨_, ((t671 != 0)), (by first | rfl | (simp; done) | (simp [*]; done)), H', ⟨by first | omega | exact Nat.le_refl _⟩, ⟨by repeat (first | (with_reducible first | exact HB.out | apply below_alloc | apply pw_below_drewN | apply below_drew1) | exact HB.out)⟩⟩
  case rest =>
    clear HC4
    try clear c1
    try clear p2
    try clear c6
    try clear c7
    obtain ⟨kq, x26_3, rfl, HA, HJ3, HB⟩ := hcut
    cases kq with
    | zero => exact absurd HA.out (by simp [drayagelaw14_SagaEnds.j0])
    | succ kj3 =>
      have H := HA.out
      clear HA
      simp only [drayagelaw14_SagaEnds.j0] at H
      by_cases c9 : x26_3 = true
      · subst c9
        have H1 : ((drayagelaw14_known.f kj3).bind fun t672 => (some t672)) = some r := by rw [if_pos rfl] at H; exact H
        clear H
        have H := H1
        clear H1
        replace H := Option.bind_eq_some_iff.mp H
        obtain ⟨t672, A100, H⟩ := H
        replace H : (some t672) = some r := H
        have A10 := Aside0.mk A100
        clear A100
        obtain rfl := Option.some.inj H
        go_wp2_with (first | ((with_reducible refine gate_callee (f := 12) rfl ?_); refine goesL_ (some 27) rfl rfl Try.func12 (by kernel_rfl) rfl #[] rfl (by (try simp only [List.map_toArray, List.map_cons, List.map_nil]); first | done | rfl | (simp only [List.length_drop, List.length_take]; rfl)) ?_; (with_reducible refine (drayagelaw14_known.calls kj3  t672 _ A10.out).mono ?_); rintro e w11 ⟨rfl, hb⟩; refine ⟨_, rfl, ?_⟩; have n0_ := Aside0.mk (below_step (by repeat (first | (with_reducible first | exact HB.out | apply below_alloc | apply pw_below_drewN | apply below_drew1) | exact HB.out)) hb); clear HB; have HB := n0_; clear n0_; (try clear hb); (try clear hb2); (try clear hk); (try clear hi)))
        go_ret
        exact ⟨by first | rfl | (simp [errW_none, errW_some] <;> rfl) | (simp [*, errW_none, errW_some] <;> rfl), by repeat (first | (with_reducible first | exact HB.out | apply below_alloc | apply pw_below_drewN | apply below_drew1) | exact HB.out)⟩
      · replace c9 := Bool.eq_false_iff.mpr c9
        subst c9
        have H1 : ((saga_Start.f).bind fun bt673 => (drayagelaw14_SagaEnds.l0 kj3 l0 l1 a2 0 bt673.1 bt673.2.1 bt673.2.2.1 bt673.2.2.2.1 bt673.2.2.2.2.1 bt673.2.2.2.2.2.1 bt673.2.2.2.2.2.2)) = some r := by rw [if_neg (show ¬ (false = true) by decide)] at H; exact H
        clear H
        have H := H1
        clear H1
        replace H := Option.bind_eq_some_iff.mp H
        obtain ⟨⟨t673, t674, t675, t676, t677, t678, t679⟩, A120, H⟩ := H
        replace H : (drayagelaw14_SagaEnds.l0 kj3 l0 l1 a2 0 t673 t674 t675 t676 t677 t678 t679) = some r := H
        have A12 := Aside0.mk A120
        clear A120
        have H' := Aside0.mk H
        clear H
        go_wp2_with (first | ((with_reducible refine gate_callee (f := 13) rfl ?_); refine goesL_ (some 28) rfl rfl Try.func13 (by kernel_rfl) rfl #[] rfl (by (try simp only [List.map_toArray, List.map_cons, List.map_nil]); first | done | rfl | (simp only [List.length_drop, List.length_take]; rfl)) ?_; (with_reducible refine (saga_Start.calls  t673 t674 t675 t676 t677 t678 t679 _ A12.out).mono ?_); rintro e w13 ⟨rfl, hb⟩; refine ⟨_, rfl, ?_⟩; have n0_ := Aside0.mk (below_step (by repeat (first | (with_reducible first | exact HB.out | apply below_alloc | apply pw_below_drewN | apply below_drew1) | exact HB.out)) hb); clear HB; have HB := n0_; clear n0_; (try clear hb); (try clear hb2); (try clear hk); (try clear hi)) | ((with_reducible refine gate_dst (N := 7) rfl ?_); refine box_event ?hg (N := 7) ?hd (cs := #[.int .i64 0, .int .i64 0, .int .i64 0, .bool false, .int .i64 0, .bool false, .int .i64 0]) (t := 28) ?hr ?_; (case hd => rfl); (case hg => rfl); (case hr => first | (go_simp; done) | (go_simp; rfl)); intro gb680 hg w14 hbox hb; have n0_ := Aside0.mk (below_step (by repeat (first | (with_reducible first | exact HB.out | apply below_alloc | apply pw_below_drewN | apply below_drew1) | exact HB.out)) hb); have n1_ := Aside0.mk (hbox); have n2_ := Aside0.mk ((by rw [hg]; exact (below_size (by repeat (first | (with_reducible first | exact HB.out | apply below_alloc | apply pw_below_drewN | apply below_drew1) | exact HB.out))) : w.heap.size ≤ gb680)); have n3_ := Aside0.mk ((by rw [hg]; exact (below_size (by repeat (first | (with_reducible first | exact HB.out | apply below_alloc | apply pw_below_drewN | apply below_drew1) | exact HB.out))) : w.heap.size ≤ gb680)); clear HB; have HB := n0_; have BK680 := n1_; have GW680 := n2_; have GE680 := n3_; clear n0_ n1_ n2_ n3_; clear hb hbox hg; obtain ⟨hcz15_0, hcz15_1, hcz15_2, hcz15_3, hcz15_4, hcz15_5, hcz15_6, hfz15_0, hfz15_1, hfz15_2, hfz15_3, hfz15_4, hfz15_5, hfz15_6⟩ := blk_all7 BK680.out))
        go_loopg [8] kj3 (fun kq v8 w' => ∃ (x8_2 : Int) (x681000_2 : Int) (x681001_2 : Int) (x681002_2 : Int) (x681003_2 : Bool) (x681004_2 : Int) (x681005_2 : Bool) (x681006_2 : Int), v8 = .int .i64 x8_2 ∧ Aside0 (drayagelaw14_SagaEnds.l0 kq l0 l1 a2 x8_2 x681000_2 x681001_2 x681002_2 x681003_2 x681004_2 x681005_2 x681006_2 = some r) ∧ Aside0 (kq ≤ kj3) ∧ Aside0 (w'.heap[gb680]? = some (.cells #[.int .i64 x681000_2, .int .i64 x681001_2, .int .i64 x681002_2, .bool x681003_2, .int .i64 x681004_2, .bool x681005_2, .int .i64 x681006_2] 28 (0, 0))) ∧ Aside0 (Below w.heap.size w w'))
        case atStart => exact ⟨(0), (t673), (t674), (t675), (t676), (t677), (t678), (t679), (by first | rfl | (simp; done) | (simp [*]; done)), H', ⟨Nat.le_refl _⟩, ⟨by (with_reducible repeat (first | apply bd1 | apply bd2 | apply bd3)); refine blk_put (cs := #[.int .i64 t673, .int .i64 t674, .int .i64 t675, .bool t676, .int .i64 t677, .bool t678, .int .i64 0]) ?_ 6 _ rfl; (with_reducible repeat (first | apply bd1 | apply bd2 | apply bd3)); refine blk_put (cs := #[.int .i64 t673, .int .i64 t674, .int .i64 t675, .bool t676, .int .i64 t677, .bool false, .int .i64 0]) ?_ 5 _ rfl; (with_reducible repeat (first | apply bd1 | apply bd2 | apply bd3)); refine blk_put (cs := #[.int .i64 t673, .int .i64 t674, .int .i64 t675, .bool t676, .int .i64 0, .bool false, .int .i64 0]) ?_ 4 _ rfl; (with_reducible repeat (first | apply bd1 | apply bd2 | apply bd3)); refine blk_put (cs := #[.int .i64 t673, .int .i64 t674, .int .i64 t675, .bool false, .int .i64 0, .bool false, .int .i64 0]) ?_ 3 _ rfl; (with_reducible repeat (first | apply bd1 | apply bd2 | apply bd3)); refine blk_put (cs := #[.int .i64 t673, .int .i64 t674, .int .i64 0, .bool false, .int .i64 0, .bool false, .int .i64 0]) ?_ 2 _ rfl; (with_reducible repeat (first | apply bd1 | apply bd2 | apply bd3)); refine blk_put (cs := #[.int .i64 t673, .int .i64 0, .int .i64 0, .bool false, .int .i64 0, .bool false, .int .i64 0]) ?_ 1 _ rfl; (with_reducible repeat (first | apply bd1 | apply bd2 | apply bd3)); refine blk_put (cs := #[.int .i64 0, .int .i64 0, .int .i64 0, .bool false, .int .i64 0, .bool false, .int .i64 0]) ?_ 0 _ rfl; (with_reducible repeat (first | apply bd1 | apply bd2 | apply bd3)); exact BK680.out⟩, ⟨by repeat (first | (with_reducible first | exact HB.out | apply below_alloc | apply pw_below_drewN | apply below_drew1 | refine below_set ?_ GE680.out) | exact HB.out)⟩⟩
        case round =>
          clear H'
          try clear c1
          try clear p2
          try clear c6
          try clear c7
          try clear c9
          try clear c10
          try clear c12
          try clear c13
          try clear hcz15_0
          try clear hcz15_1
          try clear hcz15_2
          try clear hcz15_3
          try clear hcz15_4
          try clear hcz15_5
          try clear hcz15_6
          try clear hfz15_0
          try clear hfz15_1
          try clear hfz15_2
          try clear hfz15_3
          try clear hfz15_4
          try clear hfz15_5
          try clear hfz15_6
          try clear p2
          obtain ⟨x8_2, x681000_2, x681001_2, x681002_2, x681003_2, x681004_2, x681005_2, x681006_2, rfl, HA, HK2, BK680, HB⟩ := hrel
          cases gk with
          | zero => exact absurd HA.out (by simp [drayagelaw14_SagaEnds.l0])
          | succ k2 =>
            have H := HA.out
            clear HA
            simp only [drayagelaw14_SagaEnds.l0] at H
            have HC16 := Aside0.mk H
            clear H
            go_upto_region 5 with (fail)
            go_cut [36] (fun v36 wc => ∃ (kq : Nat) (x36_15 : Bool), v36 = .bool x36_15 ∧ Aside0 (drayagelaw14_SagaEnds.j2 kq l0 l1 a2 x8_2 x36_15 x681000_2 x681001_2 x681002_2 x681003_2 x681004_2 x681005_2 x681006_2 = some r) ∧ Aside0 (kq ≤ k2) ∧ Aside0 (wc.heap[gb680]? = some (.cells #[.int .i64 x681000_2, .int .i64 x681001_2, .int .i64 x681002_2, .bool x681003_2, .int .i64 x681004_2, .bool x681005_2, .int .i64 x681006_2] 28 (0, 0))) ∧ Aside0 (Below w.heap.size w wc))
            case first =>
              have H := HC16.out
              clear HC16
              by_cases c17 : x8_2 < (l1.length : Int)
              · rw [if_pos c17] at H
                have c17b0 : decide (x8_2 < (l1.length : Int)) = true := decide_eq_true c17
                clear c17
                (first | rw [c17b0] | (simp only [i64_w, i32_w]; rw [c17b0]) | skip)
                have H' := Aside0.mk H
                clear H
                go_wp2
                go_meet
                case rel => exact ⟨_, (decide (x8_2 < 60)), (by first | rfl | (simp; done) | (simp [*]; done)), H', ⟨by have := HJ3.out; have := HK2.out; first | omega | exact Nat.le_refl _⟩, ⟨by (with_reducible repeat (first | apply bd1 | apply bd2 | apply bd3)); exact BK680.out⟩, ⟨by repeat (first | (with_reducible first | exact HB.out | apply below_alloc | apply pw_below_drewN | apply below_drew1 | refine below_set ?_ GE680.out) | exact HB.out)⟩⟩
              · rw [if_neg c17] at H
                have c17b0 : decide (x8_2 < (l1.length : Int)) = false := decide_eq_false c17
                clear c17
                (first | rw [c17b0] | (simp only [i64_w, i32_w]; rw [c17b0]) | skip)
                have H' := Aside0.mk H
                clear H
                go_wp2
                go_meet
                case rel => exact ⟨_, (false), (by first | rfl | (simp; done) | (simp [*]; done)), H', ⟨by have := HJ3.out; have := HK2.out; first | omega | exact Nat.le_refl _⟩, ⟨by (with_reducible repeat (first | apply bd1 | apply bd2 | apply bd3)); exact BK680.out⟩, ⟨by repeat (first | (with_reducible first | exact HB.out | apply below_alloc | apply pw_below_drewN | apply below_drew1 | refine below_set ?_ GE680.out) | exact HB.out)⟩⟩
            case rest =>
              clear HC16
              try clear c1
              try clear p2
              try clear c6
              try clear c7
              try clear c9
              try clear c10
              try clear c12
              try clear c13
              try clear c17
              try clear c17b0
              try clear hcz15_0
              try clear hcz15_1
              try clear hcz15_2
              try clear hcz15_3
              try clear hcz15_4
              try clear hcz15_5
              try clear hcz15_6
              try clear hfz15_0
              try clear hfz15_1
              try clear hfz15_2
              try clear hfz15_3
              try clear hfz15_4
              try clear hfz15_5
              try clear hfz15_6
              try clear p2
              obtain ⟨kq, x36_15, rfl, HA, HJ15, BK680, HB⟩ := hcut
              cases kq with
              | zero => exact absurd HA.out (by simp [drayagelaw14_SagaEnds.j2])
              | succ kj15 =>
                have H := HA.out
                clear HA
                simp only [drayagelaw14_SagaEnds.j2] at H
                by_cases c18 : x36_15 = true
                · subst c18
                  have H1 : (if 0 ≤ x8_2 then (if x8_2 < (l1.length : Int) then ((drayagelaw14_happens.f kj15 l0 x681000_2 x681001_2 x681002_2 x681003_2 x681004_2 x681005_2 x681006_2 ((rd_T54 l1 x8_2).f0) ((rd_T54 l1 x8_2).f1) ((rd_T54 l1 x8_2).f2)).bind fun bt682 => (if bt682.2.2.2.2.2.2.2 = true then (drayagelaw14_SagaEnds.l0 kj15 l0 l1 a2 (wrap64 (x8_2 + 1)) bt682.1 bt682.2.1 bt682.2.2.1 bt682.2.2.2.1 bt682.2.2.2.2.1 bt682.2.2.2.2.2.1 bt682.2.2.2.2.2.2.1) else (none))) else (none)) else (none)) = some r := by rw [if_pos rfl] at H; exact H
                  clear H
                  have H := H1
                  clear H1
                  by_cases c19 : 0 ≤ x8_2
                  · rw [if_pos c19] at H
                    have c19b0 : decide (0 ≤ x8_2) = true := decide_eq_true c19
                    clear c19
                    by_cases c20 : x8_2 < (l1.length : Int)
                    · rw [if_pos c20] at H
                      have c20b0 : decide (x8_2 < (l1.length : Int)) = true := decide_eq_true c20
                      clear c20
                      replace H := Option.bind_eq_some_iff.mp H
                      obtain ⟨⟨t682, t683, t684, t685, t686, t687, t688, t689⟩, A210, H⟩ := H
                      replace H : (if t689 = true then (drayagelaw14_SagaEnds.l0 kj15 l0 l1 a2 (wrap64 (x8_2 + 1)) t682 t683 t684 t685 t686 t687 t688) else (none)) = some r := H
                      have A21 := Aside0.mk A210
                      clear A210
                      by_cases c22 : t689 = true
                      · subst c22
                        have H1 : (drayagelaw14_SagaEnds.l0 kj15 l0 l1 a2 (wrap64 (x8_2 + 1)) t682 t683 t684 t685 t686 t687 t688) = some r := by rw [if_pos rfl] at H; exact H
                        clear H
                        have H := H1
                        clear H1
                        have H' := Aside0.mk H
                        clear H
                        try go_wp2
                        have n0_ := Aside0.mk (blk_drew BK680.out)
                        have n1_ := Aside0.mk (below_drew1 HB.out)
                        clear BK680
                        clear HB
                        have BK680 := n0_
                        have HB := n1_
                        clear n0_ n1_
                        have p681 : 0 ≤ (x8_2 : Int) := of_decide_eq_true (by first | (with_reducible assumption) | assumption)
                        have q681 : x8_2 < (l1.length : Int) := of_decide_eq_true (by first | (with_reducible assumption) | assumption)
                        obtain ⟨ad681, e681, hx681_0, hx681_1, hx681_2⟩ := at_T54 HR1.out x8_2 p681 q681
                        have hw681_2 := hx681_2
                        have hw681_1 := hx681_1
                        have hw681_0 := hx681_0
                        cases e681
                        replace hx681_0 := (HB.out.cell (World.block_lt_of_cell? w _ hx681_0)).trans hx681_0
                        replace hx681_1 := (HB.out.cell (World.block_lt_of_cell? w _ hx681_1)).trans hx681_1
                        replace hx681_2 := (HB.out.cell (World.block_lt_of_cell? w _ hx681_2)).trans hx681_2
                        replace p681 := eq_true p681
                        replace q681 := eq_true q681
                        refine start_ (n := 13) (S := fun w' => w'.cell? ⟨gb680, 0, none⟩ = some (.int .i64 x681000_2) ∧ w'.cell? ⟨gb680, 1, none⟩ = some (.int .i64 x681001_2) ∧ w'.cell? ⟨gb680, 2, none⟩ = some (.int .i64 x681002_2) ∧ w'.cell? ⟨gb680, 3, none⟩ = some (.bool x681003_2) ∧ w'.cell? ⟨gb680, 4, none⟩ = some (.int .i64 x681004_2) ∧ w'.cell? ⟨gb680, 5, none⟩ = some (.bool x681005_2) ∧ w'.cell? ⟨gb680, 6, none⟩ = some (.int .i64 x681006_2) ∧ w'.cell? (ad681.add ((x8_2).toNat * 3)) = some (.int .i64 ((rd_T54 l1 x8_2).f0)) ∧ w'.cell? ⟨(ad681.add ((x8_2).toNat * 3)).block, (ad681.add ((x8_2).toNat * 3)).off + 1, none⟩ = some (.int .i64 ((rd_T54 l1 x8_2).f1)) ∧ w'.cell? ⟨(ad681.add ((x8_2).toNat * 3)).block, (ad681.add ((x8_2).toNat * 3)).off + 2, none⟩ = some (.int .i64 ((rd_T54 l1 x8_2).f2))) (ds := []) #[false, false, false, false, false, false, false, false, false, false, false, false, false] (by kernel_rfl) rfl rfl ⟨(blk_cell BK680.out 0).trans rfl, (blk_cell BK680.out 1).trans rfl, (blk_cell BK680.out 2).trans rfl, (blk_cell BK680.out 3).trans rfl, (blk_cell BK680.out 4).trans rfl, (blk_cell BK680.out 5).trans rfl, (blk_cell BK680.out 6).trans rfl, ((HB.out.cell (World.block_lt_of_cell? w _ hw681_0)).trans hw681_0), ((HB.out.cell (World.block_lt_of_cell? w _ hw681_1)).trans hw681_1), ((HB.out.cell (World.block_lt_of_cell? w _ hw681_2)).trans hw681_2)⟩ (fun hHeld => ?_); refine with_tabW drayagelaw14_SagaEnds.tab7 drayagelaw14_SagaEnds.bits7 (fun HT_ HW_ => ?_)
                        generalize wc.drew = w23 at BK680 HB hx681_0 hx681_1 hx681_2 hHeld ⊢
                        refine pure_ (i := 0) (N := some 40) (v := ?_) (a' := ?_) #[true, false, false, false, false, false, false, false, false, false, false, false, false] rfl rfl (any_of HT_.out (by kernel_rfl)) (fun _ _ _ h => h) (Or.inl ⟨by rfl, ?_⟩) ?_ ?_
                        rotate_left
                        · intro w'
                          go_simp
                          with_reducible rfl
                        rotate_left
                        · simp only [Act.put, List.setIfInBounds_toArray, List.set_cons_zero, List.set_cons_succ, i64_w, i32_w]
                          rfl
                        refine pure_ (i := 2) (N := some 42) (v := ?_) (a' := ?_) #[true, false, true, false, false, false, false, false, false, false, false, false, false] rfl rfl (any_of HT_.out (by kernel_rfl)) (fun _ _ _ h => h) (Or.inl ⟨by rfl, ?_⟩) ?_ ?_
                        rotate_left
                        · intro w'
                          go_simp
                          with_reducible rfl
                        rotate_left
                        · simp only [Act.put, List.setIfInBounds_toArray, List.set_cons_zero, List.set_cons_succ, i64_w, i32_w]
                          rfl
                        refine pure_ (i := 3) (N := some 43) (v := ?_) (a' := ?_) #[true, false, true, true, false, false, false, false, false, false, false, false, false] rfl rfl (any_of HT_.out (by kernel_rfl)) (fun _ _ _ h => h) (Or.inl ⟨by rfl, ?_⟩) ?_ ?_
                        rotate_left
                        · intro w'
                          go_simp
                          with_reducible rfl
                        rotate_left
                        · simp only [Act.put, List.setIfInBounds_toArray, List.set_cons_zero, List.set_cons_succ, i64_w, i32_w]
                          rfl
                        refine pure_ (i := 4) (N := some 44) (v := ?_) (a' := ?_) #[true, false, true, true, true, false, false, false, false, false, false, false, false] rfl rfl (any_of HT_.out (by kernel_rfl)) (fun _ _ _ h => h) (Or.inl ⟨by rfl, ?_⟩) ?_ ?_
                        rotate_left
                        · intro w'
                          go_simp
                          with_reducible rfl
                        rotate_left
                        · simp only [Act.put, List.setIfInBounds_toArray, List.set_cons_zero, List.set_cons_succ, i64_w, i32_w]
                          rfl
                        refine take_ (i := 1) (N := some 41) (v := ?_) (a' := ?_) #[true, true, true, true, true, false, false, false, false, false, false, false, false] rfl rfl (take_ofW HT_.out HW_.out (by kernel_rfl)) (fun _ _ _ h => h) (Or.inl ⟨by rfl, ?_⟩) hHeld ?_ ?_
                        rotate_left
                        · rintro w' ⟨s0, s1, s2, s3, s4, s5, s6, s7, s8, s9⟩
                          go_simp
                          with_reducible rfl
                        rotate_left
                        · simp only [Act.put, List.setIfInBounds_toArray, List.set_cons_zero, List.set_cons_succ, i64_w, i32_w]
                          rfl
                        refine take_ (i := 5) (N := some 45) (v := ?_) (a' := ?_) #[true, true, true, true, true, true, false, false, false, false, false, false, false] rfl rfl (take_ofW HT_.out HW_.out (by kernel_rfl)) (fun _ _ _ h => h) (Or.inl ⟨by rfl, ?_⟩) hHeld ?_ ?_
                        rotate_left
                        · rintro w' ⟨s0, s1, s2, s3, s4, s5, s6, s7, s8, s9⟩
                          go_simp
                          with_reducible rfl
                        rotate_left
                        · simp only [Act.put, List.setIfInBounds_toArray, List.set_cons_zero, List.set_cons_succ, i64_w, i32_w]
                          rfl
                        refine join_ (σ := Nat) 2 #[true, true, true, true, true, true, true, true, true, true, true, false, false] (fun s_ => [(46, .tuple #[.agg #[.int .i64 t682, .int .i64 t683, .int .i64 t684, .bool t685, .int .i64 t686, .bool t687, .int .i64 t688], .bool true]), (9, .pointer (some ⟨s_, 0, none⟩)), (39, .tuple #[.agg #[.int .i64 t682, .int .i64 t683, .int .i64 t684, .bool t685, .int .i64 t686, .bool t687, .int .i64 t688], .bool true]), (47, .agg #[.int .i64 t682, .int .i64 t683, .int .i64 t684, .bool t685, .int .i64 t686, .bool t687, .int .i64 t688]), (48, .bool true)]) (fun s_ w' => (w'.cell? ⟨gb680, 0, none⟩ = some (.int .i64 x681000_2) ∧ w'.cell? ⟨gb680, 1, none⟩ = some (.int .i64 x681001_2) ∧ w'.cell? ⟨gb680, 2, none⟩ = some (.int .i64 x681002_2) ∧ w'.cell? ⟨gb680, 3, none⟩ = some (.bool x681003_2) ∧ w'.cell? ⟨gb680, 4, none⟩ = some (.int .i64 x681004_2) ∧ w'.cell? ⟨gb680, 5, none⟩ = some (.bool x681005_2) ∧ w'.cell? ⟨gb680, 6, none⟩ = some (.int .i64 x681006_2) ∧ w'.cell? (ad681.add ((x8_2).toNat * 3)) = some (.int .i64 ((rd_T54 l1 x8_2).f0)) ∧ w'.cell? ⟨(ad681.add ((x8_2).toNat * 3)).block, (ad681.add ((x8_2).toNat * 3)).off + 1, none⟩ = some (.int .i64 ((rd_T54 l1 x8_2).f1)) ∧ w'.cell? ⟨(ad681.add ((x8_2).toNat * 3)).block, (ad681.add ((x8_2).toNat * 3)).off + 2, none⟩ = some (.int .i64 ((rd_T54 l1 x8_2).f2))) ∧ (w'.heap[gb680]? = some (.cells #[.int .i64 x681000_2, .int .i64 x681001_2, .int .i64 x681002_2, .bool x681003_2, .int .i64 x681004_2, .bool x681005_2, .int .i64 x681006_2] 28 (0, 0))) ∧ (w'.heap[s_]? = some (.cells #[.int .i64 0, .int .i64 0, .int .i64 0, .bool false, .int .i64 0, .bool false, .int .i64 0] 28 (0, 0))) ∧ (w.heap.size ≤ s_) ∧ (w.heap.size ≤ s_) ∧ (gb680 ≠ s_) ∧ (s_ ≠ gb680) ∧ (Below w.heap.size w w')) ?_ ?_
                        rotate_left
                        · intro hCont
                          refine two_ (i := 6) (j := 10) (Ni := some 46) (Nj := some 9) #[true, true, true, true, true, true, true, false, false, false, false, false, false] #[true, true, true, true, true, true, false, false, false, false, true, false, false] rfl rfl rfl rfl (two_of HT_.out (by kernel_rfl)) (by decide) (by decide) (fun K hK => ?_) (fun K hK => ?_)
                          · skip
                            refine goes_ Try.func26 (by kernel_rfl) rfl #[.slice A0 l0.length c0, .agg #[.int .i64 x681000_2, .int .i64 x681001_2, .int .i64 x681002_2, .bool x681003_2, .int .i64 x681004_2, .bool x681005_2, .int .i64 x681006_2], .agg #[.int .i64 ((rd_T54 l1 x8_2).f0), .int .i64 ((rd_T54 l1 x8_2).f1), .int .i64 ((rd_T54 l1 x8_2).f2)]] (by rfl) rfl rfl (by (try simp only [List.map_toArray, List.map_cons, List.map_nil]); first | done | rfl | (simp only [List.length_drop, List.length_take]; rfl)) ?_
                            with_reducible refine (drayagelaw14_happens.calls kj15 _ _ l0 x681000_2 x681001_2 x681002_2 x681003_2 x681004_2 x681005_2 x681006_2 ((rd_T54 l1 x8_2).f0) ((rd_T54 l1 x8_2).f1) ((rd_T54 l1 x8_2).f2) t682 t683 t684 t685 t686 t687 t688 true _ ?side1 ?side2 A21.out).mono ?_
                            (case side1 => repeat (first | exact (Kd.C_below HR0.out HB.out) | (with_reducible refine Kd.C_alloc ?_ _) | (with_reducible refine Kd.C_drewN ?_ _) | (with_reducible refine Kd.C_drew ?_)))
                            (case side2 => exact HC0.out)
                            rintro e w24 ⟨rfl, hb⟩
                            refine ⟨_, rfl, ?_⟩
                            have n0_ := Aside0.mk (blk_below (g := gb680) (o := .cells #[.int .i64 x681000_2, .int .i64 x681001_2, .int .i64 x681002_2, .bool x681003_2, .int .i64 x681004_2, .bool x681005_2, .int .i64 x681006_2] 28 (0, 0)) (by (with_reducible repeat (first | apply bd1 | apply bd2 | apply bd3)); exact BK680.out) hb)
                            have n1_ := Aside0.mk (below_step (by repeat (first | (with_reducible first | exact HB.out | apply below_alloc | apply pw_below_drewN | apply below_drew1 | refine below_set ?_ GE680.out) | exact HB.out)) hb)
                            clear BK680
                            clear HB
                            have BK680 := n0_
                            have HB := n1_
                            clear n0_ n1_
                            (try clear hb)
                            (try clear hb2)
                            (try clear hk)
                            (try clear hi)
                            refine hK.out _ _ ⟨(blk_cell BK680.out 0).trans rfl, (blk_cell BK680.out 1).trans rfl, (blk_cell BK680.out 2).trans rfl, (blk_cell BK680.out 3).trans rfl, (blk_cell BK680.out 4).trans rfl, (blk_cell BK680.out 5).trans rfl, (blk_cell BK680.out 6).trans rfl, ((HB.out.cell (World.block_lt_of_cell? w _ hw681_0)).trans hw681_0), ((HB.out.cell (World.block_lt_of_cell? w _ hw681_1)).trans hw681_1), ((HB.out.cell (World.block_lt_of_cell? w _ hw681_2)).trans hw681_2)⟩ (fun hHeld => ?_)
                            clear hK K
                            refine norm_ (a' := ?_) ?_ ?_
                            rotate_left
                            · show Act.put _ (some 46) _ = _
                              simp only [Act.put, List.setIfInBounds_toArray, List.set_cons_zero, List.set_cons_succ, i64_w, i32_w]
                              rfl
                            refine pure_ (i := 7) (N := some 39) (v := ?_) (a' := ?_) #[true, true, true, true, true, true, true, true, false, false, false, false, false] rfl rfl (any_of HT_.out (by kernel_rfl)) (fun _ _ _ h => h) (Or.inl ⟨by rfl, ?_⟩) ?_ ?_
                            rotate_left
                            · intro w'
                              go_simp
                              with_reducible rfl
                            rotate_left
                            · simp only [Act.put, List.setIfInBounds_toArray, List.set_cons_zero, List.set_cons_succ, i64_w, i32_w]
                              rfl
                            refine pure_ (i := 8) (N := some 47) (v := ?_) (a' := ?_) #[true, true, true, true, true, true, true, true, true, false, false, false, false] rfl rfl (any_of HT_.out (by kernel_rfl)) (fun _ _ _ h => h) (Or.inl ⟨by rfl, ?_⟩) ?_ ?_
                            rotate_left
                            · intro w'
                              go_simp
                              with_reducible rfl
                            rotate_left
                            · simp only [Act.put, List.setIfInBounds_toArray, List.set_cons_zero, List.set_cons_succ, i64_w, i32_w]
                              rfl
                            refine pure_ (i := 9) (N := some 48) (v := ?_) (a' := ?_) #[true, true, true, true, true, true, true, true, true, true, false, false, false] rfl rfl (any_of HT_.out (by kernel_rfl)) (fun _ _ _ h => h) (Or.inl ⟨by rfl, ?_⟩) ?_ ?_
                            rotate_left
                            · intro w'
                              go_simp
                              with_reducible rfl
                            rotate_left
                            · simp only [Act.put, List.setIfInBounds_toArray, List.set_cons_zero, List.set_cons_succ, i64_w, i32_w]
                              rfl
                            refine one_ (i := 10) (N := some 9) #[true, true, true, true, true, true, true, true, true, true, true, false, false] rfl rfl (one_of HT_.out (by kernel_rfl)) (by decide) (fun K hK => ?_)
                            refine box_step ?hg (N := 9) ?hd (cs := #[.int .i64 0, .int .i64 0, .int .i64 0, .bool false, .int .i64 0, .bool false, .int .i64 0]) (t := 28) ?hr ?_; (case hd => rfl); (case hg => rfl); (case hr => first | (go_simp; done) | (go_simp; rfl))
                            intro gb690 hg w25 hbox hb
                            have n0_ := Aside0.mk (blk_below (g := gb680) (o := .cells #[.int .i64 x681000_2, .int .i64 x681001_2, .int .i64 x681002_2, .bool x681003_2, .int .i64 x681004_2, .bool x681005_2, .int .i64 x681006_2] 28 (0, 0)) (by (with_reducible repeat (first | apply bd1 | apply bd2 | apply bd3)); exact BK680.out) hb)
                            have n1_ := Aside0.mk (below_step (by repeat (first | (with_reducible first | exact HB.out | apply below_alloc | apply pw_below_drewN | apply below_drew1 | refine below_set ?_ GE680.out) | exact HB.out)) hb)
                            have n2_ := Aside0.mk (hbox)
                            have n3_ := Aside0.mk ((by rw [hg]; exact (below_size (by repeat (first | (with_reducible first | exact HB.out | apply below_alloc | apply pw_below_drewN | apply below_drew1 | refine below_set ?_ GE680.out) | exact HB.out))) : w.heap.size ≤ gb690))
                            have n4_ := Aside0.mk ((by rw [hg]; exact (below_size (by repeat (first | (with_reducible first | exact HB.out | apply below_alloc | apply pw_below_drewN | apply below_drew1 | refine below_set ?_ GE680.out) | exact HB.out))) : w.heap.size ≤ gb690))
                            have n5_ := Aside0.mk ((by rw [hg]; exact Nat.ne_of_lt (blk_lt (g := gb680) (o := .cells #[.int .i64 x681000_2, .int .i64 x681001_2, .int .i64 x681002_2, .bool x681003_2, .int .i64 x681004_2, .bool x681005_2, .int .i64 x681006_2] 28 (0, 0)) (by (with_reducible repeat (first | apply bd1 | apply bd2 | apply bd3)); exact BK680.out)) : gb680 ≠ gb690))
                            have n6_ := Aside0.mk ((by rw [hg]; exact Nat.ne_of_gt (blk_lt (g := gb680) (o := .cells #[.int .i64 x681000_2, .int .i64 x681001_2, .int .i64 x681002_2, .bool x681003_2, .int .i64 x681004_2, .bool x681005_2, .int .i64 x681006_2] 28 (0, 0)) (by (with_reducible repeat (first | apply bd1 | apply bd2 | apply bd3)); exact BK680.out)) : gb690 ≠ gb680))
                            clear BK680
                            clear HB
                            have BK680 := n0_
                            have HB := n1_
                            have BK690 := n2_
                            have GW690 := n3_
                            have GE690 := n4_
                            have NB680_690 := n5_
                            have NB690_680 := n6_
                            clear n0_ n1_ n2_ n3_ n4_ n5_ n6_
                            clear hb hbox hg
                            refine hK.out _ _ ⟨(blk_cell BK680.out 0).trans rfl, (blk_cell BK680.out 1).trans rfl, (blk_cell BK680.out 2).trans rfl, (blk_cell BK680.out 3).trans rfl, (blk_cell BK680.out 4).trans rfl, (blk_cell BK680.out 5).trans rfl, (blk_cell BK680.out 6).trans rfl, ((HB.out.cell (World.block_lt_of_cell? w _ hw681_0)).trans hw681_0), ((HB.out.cell (World.block_lt_of_cell? w _ hw681_1)).trans hw681_1), ((HB.out.cell (World.block_lt_of_cell? w _ hw681_2)).trans hw681_2)⟩ (fun hHeld => ?_)
                            clear hK K
                            refine norm_ (a' := ?_) ?_ ?_
                            rotate_left
                            · show Act.put _ (some 9) _ = _
                              simp only [Act.put, List.setIfInBounds_toArray, List.set_cons_zero, List.set_cons_succ, i64_w, i32_w]
                              rfl
                            exact norm_ (by simp only [putAll, Act.put, List.setIfInBounds_toArray, List.set_cons_zero, List.set_cons_succ]) (hCont (gb690) _ ⟨hHeld, (by (with_reducible repeat (first | apply bd1 | apply bd2 | apply bd3)); exact BK680.out), (by (with_reducible repeat (first | apply bd1 | apply bd2 | apply bd3)); exact BK690.out), GW690.out, GE690.out, NB680_690.out, NB690_680.out, (by repeat (first | (with_reducible first | exact HB.out | apply below_alloc | apply pw_below_drewN | apply below_drew1 | refine below_set ?_ GE680.out | refine below_set ?_ GE690.out) | exact HB.out))⟩)
                          · skip
                            refine box_step ?hg (N := 9) ?hd (cs := #[.int .i64 0, .int .i64 0, .int .i64 0, .bool false, .int .i64 0, .bool false, .int .i64 0]) (t := 28) ?hr ?_; (case hd => rfl); (case hg => rfl); (case hr => first | (go_simp; done) | (go_simp; rfl))
                            intro gb690 hg w24 hbox hb
                            have n0_ := Aside0.mk (blk_below (g := gb680) (o := .cells #[.int .i64 x681000_2, .int .i64 x681001_2, .int .i64 x681002_2, .bool x681003_2, .int .i64 x681004_2, .bool x681005_2, .int .i64 x681006_2] 28 (0, 0)) (by (with_reducible repeat (first | apply bd1 | apply bd2 | apply bd3)); exact BK680.out) hb)
                            have n1_ := Aside0.mk (below_step (by repeat (first | (with_reducible first | exact HB.out | apply below_alloc | apply pw_below_drewN | apply below_drew1 | refine below_set ?_ GE680.out) | exact HB.out)) hb)
                            have n2_ := Aside0.mk (hbox)
                            have n3_ := Aside0.mk ((by rw [hg]; exact (below_size (by repeat (first | (with_reducible first | exact HB.out | apply below_alloc | apply pw_below_drewN | apply below_drew1 | refine below_set ?_ GE680.out) | exact HB.out))) : w.heap.size ≤ gb690))
                            have n4_ := Aside0.mk ((by rw [hg]; exact (below_size (by repeat (first | (with_reducible first | exact HB.out | apply below_alloc | apply pw_below_drewN | apply below_drew1 | refine below_set ?_ GE680.out) | exact HB.out))) : w.heap.size ≤ gb690))
                            have n5_ := Aside0.mk ((by rw [hg]; exact Nat.ne_of_lt (blk_lt (g := gb680) (o := .cells #[.int .i64 x681000_2, .int .i64 x681001_2, .int .i64 x681002_2, .bool x681003_2, .int .i64 x681004_2, .bool x681005_2, .int .i64 x681006_2] 28 (0, 0)) (by (with_reducible repeat (first | apply bd1 | apply bd2 | apply bd3)); exact BK680.out)) : gb680 ≠ gb690))
                            have n6_ := Aside0.mk ((by rw [hg]; exact Nat.ne_of_gt (blk_lt (g := gb680) (o := .cells #[.int .i64 x681000_2, .int .i64 x681001_2, .int .i64 x681002_2, .bool x681003_2, .int .i64 x681004_2, .bool x681005_2, .int .i64 x681006_2] 28 (0, 0)) (by (with_reducible repeat (first | apply bd1 | apply bd2 | apply bd3)); exact BK680.out)) : gb690 ≠ gb680))
                            clear BK680
                            clear HB
                            have BK680 := n0_
                            have HB := n1_
                            have BK690 := n2_
                            have GW690 := n3_
                            have GE690 := n4_
                            have NB680_690 := n5_
                            have NB690_680 := n6_
                            clear n0_ n1_ n2_ n3_ n4_ n5_ n6_
                            clear hb hbox hg
                            refine hK.out _ _ ⟨(blk_cell BK680.out 0).trans rfl, (blk_cell BK680.out 1).trans rfl, (blk_cell BK680.out 2).trans rfl, (blk_cell BK680.out 3).trans rfl, (blk_cell BK680.out 4).trans rfl, (blk_cell BK680.out 5).trans rfl, (blk_cell BK680.out 6).trans rfl, ((HB.out.cell (World.block_lt_of_cell? w _ hw681_0)).trans hw681_0), ((HB.out.cell (World.block_lt_of_cell? w _ hw681_1)).trans hw681_1), ((HB.out.cell (World.block_lt_of_cell? w _ hw681_2)).trans hw681_2)⟩ (fun hHeld => ?_)
                            clear hK K
                            refine norm_ (a' := ?_) ?_ ?_
                            rotate_left
                            · show Act.put _ (some 9) _ = _
                              simp only [Act.put, List.setIfInBounds_toArray, List.set_cons_zero, List.set_cons_succ, i64_w, i32_w]
                              rfl
                            refine one_ (i := 6) (N := some 46) #[true, true, true, true, true, true, true, false, false, false, true, false, false] rfl rfl (one_of HT_.out (by kernel_rfl)) (by decide) (fun K hK => ?_)
                            refine goes_ Try.func26 (by kernel_rfl) rfl #[.slice A0 l0.length c0, .agg #[.int .i64 x681000_2, .int .i64 x681001_2, .int .i64 x681002_2, .bool x681003_2, .int .i64 x681004_2, .bool x681005_2, .int .i64 x681006_2], .agg #[.int .i64 ((rd_T54 l1 x8_2).f0), .int .i64 ((rd_T54 l1 x8_2).f1), .int .i64 ((rd_T54 l1 x8_2).f2)]] (by rfl) rfl rfl (by (try simp only [List.map_toArray, List.map_cons, List.map_nil]); first | done | rfl | (simp only [List.length_drop, List.length_take]; rfl)) ?_
                            with_reducible refine (drayagelaw14_happens.calls kj15 _ _ l0 x681000_2 x681001_2 x681002_2 x681003_2 x681004_2 x681005_2 x681006_2 ((rd_T54 l1 x8_2).f0) ((rd_T54 l1 x8_2).f1) ((rd_T54 l1 x8_2).f2) t682 t683 t684 t685 t686 t687 t688 true _ ?side1 ?side2 A21.out).mono ?_
                            (case side1 => repeat (first | exact (Kd.C_below HR0.out HB.out) | (with_reducible refine Kd.C_alloc ?_ _) | (with_reducible refine Kd.C_drewN ?_ _) | (with_reducible refine Kd.C_drew ?_)))
                            (case side2 => exact HC0.out)
                            rintro e w25 ⟨rfl, hb⟩
                            refine ⟨_, rfl, ?_⟩
                            have n0_ := Aside0.mk (blk_below (g := gb680) (o := .cells #[.int .i64 x681000_2, .int .i64 x681001_2, .int .i64 x681002_2, .bool x681003_2, .int .i64 x681004_2, .bool x681005_2, .int .i64 x681006_2] 28 (0, 0)) (by (with_reducible repeat (first | apply bd1 | apply bd2 | apply bd3)); exact BK680.out) hb)
                            have n1_ := Aside0.mk (blk_below (g := gb690) (o := .cells #[.int .i64 0, .int .i64 0, .int .i64 0, .bool false, .int .i64 0, .bool false, .int .i64 0] 28 (0, 0)) (by (with_reducible repeat (first | apply bd1 | apply bd2 | apply bd3)); exact BK690.out) hb)
                            have n2_ := Aside0.mk (below_step (by repeat (first | (with_reducible first | exact HB.out | apply below_alloc | apply pw_below_drewN | apply below_drew1 | refine below_set ?_ GE680.out | refine below_set ?_ GE690.out) | exact HB.out)) hb)
                            clear BK680
                            clear BK690
                            clear HB
                            have BK680 := n0_
                            have BK690 := n1_
                            have HB := n2_
                            clear n0_ n1_ n2_
                            (try clear hb)
                            (try clear hb2)
                            (try clear hk)
                            (try clear hi)
                            refine hK.out _ _ ⟨(blk_cell BK680.out 0).trans rfl, (blk_cell BK680.out 1).trans rfl, (blk_cell BK680.out 2).trans rfl, (blk_cell BK680.out 3).trans rfl, (blk_cell BK680.out 4).trans rfl, (blk_cell BK680.out 5).trans rfl, (blk_cell BK680.out 6).trans rfl, ((HB.out.cell (World.block_lt_of_cell? w _ hw681_0)).trans hw681_0), ((HB.out.cell (World.block_lt_of_cell? w _ hw681_1)).trans hw681_1), ((HB.out.cell (World.block_lt_of_cell? w _ hw681_2)).trans hw681_2)⟩ (fun hHeld => ?_)
                            clear hK K
                            refine norm_ (a' := ?_) ?_ ?_
                            rotate_left
                            · show Act.put _ (some 46) _ = _
                              simp only [Act.put, List.setIfInBounds_toArray, List.set_cons_zero, List.set_cons_succ, i64_w, i32_w]
                              rfl
                            refine pure_ (i := 7) (N := some 39) (v := ?_) (a' := ?_) #[true, true, true, true, true, true, true, true, false, false, true, false, false] rfl rfl (any_of HT_.out (by kernel_rfl)) (fun _ _ _ h => h) (Or.inl ⟨by rfl, ?_⟩) ?_ ?_
                            rotate_left
                            · intro w'
                              go_simp
                              with_reducible rfl
                            rotate_left
                            · simp only [Act.put, List.setIfInBounds_toArray, List.set_cons_zero, List.set_cons_succ, i64_w, i32_w]
                              rfl
                            refine pure_ (i := 8) (N := some 47) (v := ?_) (a' := ?_) #[true, true, true, true, true, true, true, true, true, false, true, false, false] rfl rfl (any_of HT_.out (by kernel_rfl)) (fun _ _ _ h => h) (Or.inl ⟨by rfl, ?_⟩) ?_ ?_
                            rotate_left
                            · intro w'
                              go_simp
                              with_reducible rfl
                            rotate_left
                            · simp only [Act.put, List.setIfInBounds_toArray, List.set_cons_zero, List.set_cons_succ, i64_w, i32_w]
                              rfl
                            refine pure_ (i := 9) (N := some 48) (v := ?_) (a' := ?_) #[true, true, true, true, true, true, true, true, true, true, true, false, false] rfl rfl (any_of HT_.out (by kernel_rfl)) (fun _ _ _ h => h) (Or.inl ⟨by rfl, ?_⟩) ?_ ?_
                            rotate_left
                            · intro w'
                              go_simp
                              with_reducible rfl
                            rotate_left
                            · simp only [Act.put, List.setIfInBounds_toArray, List.set_cons_zero, List.set_cons_succ, i64_w, i32_w]
                              rfl
                            exact norm_ (by simp only [putAll, Act.put, List.setIfInBounds_toArray, List.set_cons_zero, List.set_cons_succ]) (hCont (gb690) _ ⟨hHeld, (by (with_reducible repeat (first | apply bd1 | apply bd2 | apply bd3)); exact BK680.out), (by (with_reducible repeat (first | apply bd1 | apply bd2 | apply bd3)); exact BK690.out), GW690.out, GE690.out, NB680_690.out, NB690_680.out, (by repeat (first | (with_reducible first | exact HB.out | apply below_alloc | apply pw_below_drewN | apply below_drew1 | refine below_set ?_ GE680.out | refine below_set ?_ GE690.out) | exact HB.out))⟩)
                        rintro gb690 w26 ⟨hS_, h0_, h1_, h2_, h3_, h4_, h5_, h6_⟩
                        have n0_ : Aside0 (w26.heap[gb680]? = some (.cells #[.int .i64 x681000_2, .int .i64 x681001_2, .int .i64 x681002_2, .bool x681003_2, .int .i64 x681004_2, .bool x681005_2, .int .i64 x681006_2] 28 (0, 0))) := ⟨h0_⟩
                        have n1_ : Aside0 (w26.heap[gb690]? = some (.cells #[.int .i64 0, .int .i64 0, .int .i64 0, .bool false, .int .i64 0, .bool false, .int .i64 0] 28 (0, 0))) := ⟨h1_⟩
                        have n2_ : Aside0 (w.heap.size ≤ gb690) := ⟨h2_⟩
                        have n3_ : Aside0 (w.heap.size ≤ gb690) := ⟨h3_⟩
                        have n4_ : Aside0 (gb680 ≠ gb690) := ⟨h4_⟩
                        have n5_ : Aside0 (gb690 ≠ gb680) := ⟨h5_⟩
                        have n6_ : Aside0 (Below w.heap.size w w26) := ⟨h6_⟩
                        clear BK680
                        clear HB
                        clear h0_ h1_ h2_ h3_ h4_ h5_ h6_
                        have BK680 := n0_
                        have BK690 := n1_
                        have GW690 := n2_
                        have GE690 := n3_
                        have NB680_690 := n4_
                        have NB690_680 := n5_
                        have HB := n6_
                        clear n0_ n1_ n2_ n3_ n4_ n5_ n6_
                        have hHeld : w26.cell? ⟨gb680, 0, none⟩ = some (.int .i64 x681000_2) ∧ w26.cell? ⟨gb680, 1, none⟩ = some (.int .i64 x681001_2) ∧ w26.cell? ⟨gb680, 2, none⟩ = some (.int .i64 x681002_2) ∧ w26.cell? ⟨gb680, 3, none⟩ = some (.bool x681003_2) ∧ w26.cell? ⟨gb680, 4, none⟩ = some (.int .i64 x681004_2) ∧ w26.cell? ⟨gb680, 5, none⟩ = some (.bool x681005_2) ∧ w26.cell? ⟨gb680, 6, none⟩ = some (.int .i64 x681006_2) ∧ w26.cell? (ad681.add ((x8_2).toNat * 3)) = some (.int .i64 ((rd_T54 l1 x8_2).f0)) ∧ w26.cell? ⟨(ad681.add ((x8_2).toNat * 3)).block, (ad681.add ((x8_2).toNat * 3)).off + 1, none⟩ = some (.int .i64 ((rd_T54 l1 x8_2).f1)) ∧ w26.cell? ⟨(ad681.add ((x8_2).toNat * 3)).block, (ad681.add ((x8_2).toNat * 3)).off + 2, none⟩ = some (.int .i64 ((rd_T54 l1 x8_2).f2)) := hS_
                        refine norm_ (a' := ?_) ?_ ?_
                        rotate_left
                        · simp only [putAll, Act.put, List.setIfInBounds_toArray, List.set_cons_zero, List.set_cons_succ]
                          rfl
                        refine one_ (i := 11) (N := none) #[true, true, true, true, true, true, true, true, true, true, true, true, false] rfl rfl (one_of HT_.out (by kernel_rfl)) (by decide) (fun K hK => ?_)
                        have hs27 : w26.cell? ⟨gb690, 0, none⟩ = some (.int .i64 0) := (blk_cell BK690.out 0).trans rfl
                        have hfs27 := blk_frozen BK690.out 0
                        have hns27_0 := NB680_690.out
                        have hms27_0 := NB690_680.out
                        have hs28 : w26.cell? ⟨gb690, 1, none⟩ = some (.int .i64 0) := (blk_cell BK690.out 1).trans rfl
                        have hfs28 := blk_frozen BK690.out 1
                        have hns28_0 := NB680_690.out
                        have hms28_0 := NB690_680.out
                        have hs29 : w26.cell? ⟨gb690, 2, none⟩ = some (.int .i64 0) := (blk_cell BK690.out 2).trans rfl
                        have hfs29 := blk_frozen BK690.out 2
                        have hns29_0 := NB680_690.out
                        have hms29_0 := NB690_680.out
                        have hs30 : w26.cell? ⟨gb690, 3, none⟩ = some (.bool false) := (blk_cell BK690.out 3).trans rfl
                        have hfs30 := blk_frozen BK690.out 3
                        have hns30_0 := NB680_690.out
                        have hms30_0 := NB690_680.out
                        have hs31 : w26.cell? ⟨gb690, 4, none⟩ = some (.int .i64 0) := (blk_cell BK690.out 4).trans rfl
                        have hfs31 := blk_frozen BK690.out 4
                        have hns31_0 := NB680_690.out
                        have hms31_0 := NB690_680.out
                        have hs32 : w26.cell? ⟨gb690, 5, none⟩ = some (.bool false) := (blk_cell BK690.out 5).trans rfl
                        have hfs32 := blk_frozen BK690.out 5
                        have hns32_0 := NB680_690.out
                        have hms32_0 := NB690_680.out
                        have hs33 : w26.cell? ⟨gb690, 6, none⟩ = some (.int .i64 0) := (blk_cell BK690.out 6).trans rfl
                        have hfs33 := blk_frozen BK690.out 6
                        have hns33_0 := NB680_690.out
                        have hms33_0 := NB690_680.out
                        refine skip_ (w1 := ?_) (by rfl) rfl ?_ ?_
                        rotate_left
                        · go_simp
                          rfl
                        refine hK.out _ _ ⟨((cell_far (p := ⟨gb690, _, none⟩) NB680_690.out _).trans (((cell_far (p := ⟨gb690, _, none⟩) NB680_690.out _).trans (((cell_far (p := ⟨gb690, _, none⟩) NB680_690.out _).trans (((cell_far (p := ⟨gb690, _, none⟩) NB680_690.out _).trans (((cell_far (p := ⟨gb690, _, none⟩) NB680_690.out _).trans (((cell_far (p := ⟨gb690, _, none⟩) NB680_690.out _).trans (((cell_far (p := ⟨gb690, _, none⟩) NB680_690.out _).trans (hHeld.1)))))))))))))), ((cell_far (p := ⟨gb690, _, none⟩) NB680_690.out _).trans (((cell_far (p := ⟨gb690, _, none⟩) NB680_690.out _).trans (((cell_far (p := ⟨gb690, _, none⟩) NB680_690.out _).trans (((cell_far (p := ⟨gb690, _, none⟩) NB680_690.out _).trans (((cell_far (p := ⟨gb690, _, none⟩) NB680_690.out _).trans (((cell_far (p := ⟨gb690, _, none⟩) NB680_690.out _).trans (((cell_far (p := ⟨gb690, _, none⟩) NB680_690.out _).trans (hHeld.2.1)))))))))))))), ((cell_far (p := ⟨gb690, _, none⟩) NB680_690.out _).trans (((cell_far (p := ⟨gb690, _, none⟩) NB680_690.out _).trans (((cell_far (p := ⟨gb690, _, none⟩) NB680_690.out _).trans (((cell_far (p := ⟨gb690, _, none⟩) NB680_690.out _).trans (((cell_far (p := ⟨gb690, _, none⟩) NB680_690.out _).trans (((cell_far (p := ⟨gb690, _, none⟩) NB680_690.out _).trans (((cell_far (p := ⟨gb690, _, none⟩) NB680_690.out _).trans (hHeld.2.2.1)))))))))))))), ((cell_far (p := ⟨gb690, _, none⟩) NB680_690.out _).trans (((cell_far (p := ⟨gb690, _, none⟩) NB680_690.out _).trans (((cell_far (p := ⟨gb690, _, none⟩) NB680_690.out _).trans (((cell_far (p := ⟨gb690, _, none⟩) NB680_690.out _).trans (((cell_far (p := ⟨gb690, _, none⟩) NB680_690.out _).trans (((cell_far (p := ⟨gb690, _, none⟩) NB680_690.out _).trans (((cell_far (p := ⟨gb690, _, none⟩) NB680_690.out _).trans (hHeld.2.2.2.1)))))))))))))), ((cell_far (p := ⟨gb690, _, none⟩) NB680_690.out _).trans (((cell_far (p := ⟨gb690, _, none⟩) NB680_690.out _).trans (((cell_far (p := ⟨gb690, _, none⟩) NB680_690.out _).trans (((cell_far (p := ⟨gb690, _, none⟩) NB680_690.out _).trans (((cell_far (p := ⟨gb690, _, none⟩) NB680_690.out _).trans (((cell_far (p := ⟨gb690, _, none⟩) NB680_690.out _).trans (((cell_far (p := ⟨gb690, _, none⟩) NB680_690.out _).trans (hHeld.2.2.2.2.1)))))))))))))), ((cell_far (p := ⟨gb690, _, none⟩) NB680_690.out _).trans (((cell_far (p := ⟨gb690, _, none⟩) NB680_690.out _).trans (((cell_far (p := ⟨gb690, _, none⟩) NB680_690.out _).trans (((cell_far (p := ⟨gb690, _, none⟩) NB680_690.out _).trans (((cell_far (p := ⟨gb690, _, none⟩) NB680_690.out _).trans (((cell_far (p := ⟨gb690, _, none⟩) NB680_690.out _).trans (((cell_far (p := ⟨gb690, _, none⟩) NB680_690.out _).trans (hHeld.2.2.2.2.2.1)))))))))))))), ((cell_far (p := ⟨gb690, _, none⟩) NB680_690.out _).trans (((cell_far (p := ⟨gb690, _, none⟩) NB680_690.out _).trans (((cell_far (p := ⟨gb690, _, none⟩) NB680_690.out _).trans (((cell_far (p := ⟨gb690, _, none⟩) NB680_690.out _).trans (((cell_far (p := ⟨gb690, _, none⟩) NB680_690.out _).trans (((cell_far (p := ⟨gb690, _, none⟩) NB680_690.out _).trans (((cell_far (p := ⟨gb690, _, none⟩) NB680_690.out _).trans (hHeld.2.2.2.2.2.2.1)))))))))))))), ((cell_far (p := ⟨gb690, _, none⟩) (by first | exact Nat.ne_of_lt (Nat.lt_of_lt_of_le (by have := World.block_lt_of_cell? _ _ hw681_0; first | rwa [add_block] at this | exact this) GW690.out) | (rw [add_block]; exact Nat.ne_of_lt (Nat.lt_of_lt_of_le (by have := World.block_lt_of_cell? _ _ hw681_0; first | rwa [add_block] at this | exact this) GW690.out)) | (show (Addr.add _ _).block ≠ _; rw [add_block]; exact Nat.ne_of_lt (Nat.lt_of_lt_of_le (by have := World.block_lt_of_cell? _ _ hw681_0; first | rwa [add_block] at this | exact this) GW690.out)) | (dsimp only; exact Nat.ne_of_lt (Nat.lt_of_lt_of_le (by have := World.block_lt_of_cell? _ _ hw681_0; first | rwa [add_block] at this | exact this) GW690.out))) _).trans (((cell_far (p := ⟨gb690, _, none⟩) (by first | exact Nat.ne_of_lt (Nat.lt_of_lt_of_le (by have := World.block_lt_of_cell? _ _ hw681_0; first | rwa [add_block] at this | exact this) GW690.out) | (rw [add_block]; exact Nat.ne_of_lt (Nat.lt_of_lt_of_le (by have := World.block_lt_of_cell? _ _ hw681_0; first | rwa [add_block] at this | exact this) GW690.out)) | (show (Addr.add _ _).block ≠ _; rw [add_block]; exact Nat.ne_of_lt (Nat.lt_of_lt_of_le (by have := World.block_lt_of_cell? _ _ hw681_0; first | rwa [add_block] at this | exact this) GW690.out)) | (dsimp only; exact Nat.ne_of_lt (Nat.lt_of_lt_of_le (by have := World.block_lt_of_cell? _ _ hw681_0; first | rwa [add_block] at this | exact this) GW690.out))) _).trans (((cell_far (p := ⟨gb690, _, none⟩) (by first | exact Nat.ne_of_lt (Nat.lt_of_lt_of_le (by have := World.block_lt_of_cell? _ _ hw681_0; first | rwa [add_block] at this | exact this) GW690.out) | (rw [add_block]; exact Nat.ne_of_lt (Nat.lt_of_lt_of_le (by have := World.block_lt_of_cell? _ _ hw681_0; first | rwa [add_block] at this | exact this) GW690.out)) | (show (Addr.add _ _).block ≠ _; rw [add_block]; exact Nat.ne_of_lt (Nat.lt_of_lt_of_le (by have := World.block_lt_of_cell? _ _ hw681_0; first | rwa [add_block] at this | exact this) GW690.out)) | (dsimp only; exact Nat.ne_of_lt (Nat.lt_of_lt_of_le (by have := World.block_lt_of_cell? _ _ hw681_0; first | rwa [add_block] at this | exact this) GW690.out))) _).trans (((cell_far (p := ⟨gb690, _, none⟩) (by first | exact Nat.ne_of_lt (Nat.lt_of_lt_of_le (by have := World.block_lt_of_cell? _ _ hw681_0; first | rwa [add_block] at this | exact this) GW690.out) | (rw [add_block]; exact Nat.ne_of_lt (Nat.lt_of_lt_of_le (by have := World.block_lt_of_cell? _ _ hw681_0; first | rwa [add_block] at this | exact this) GW690.out)) | (show (Addr.add _ _).block ≠ _; rw [add_block]; exact Nat.ne_of_lt (Nat.lt_of_lt_of_le (by have := World.block_lt_of_cell? _ _ hw681_0; first | rwa [add_block] at this | exact this) GW690.out)) | (dsimp only; exact Nat.ne_of_lt (Nat.lt_of_lt_of_le (by have := World.block_lt_of_cell? _ _ hw681_0; first | rwa [add_block] at this | exact this) GW690.out))) _).trans (((cell_far (p := ⟨gb690, _, none⟩) (by first | exact Nat.ne_of_lt (Nat.lt_of_lt_of_le (by have := World.block_lt_of_cell? _ _ hw681_0; first | rwa [add_block] at this | exact this) GW690.out) | (rw [add_block]; exact Nat.ne_of_lt (Nat.lt_of_lt_of_le (by have := World.block_lt_of_cell? _ _ hw681_0; first | rwa [add_block] at this | exact this) GW690.out)) | (show (Addr.add _ _).block ≠ _; rw [add_block]; exact Nat.ne_of_lt (Nat.lt_of_lt_of_le (by have := World.block_lt_of_cell? _ _ hw681_0; first | rwa [add_block] at this | exact this) GW690.out)) | (dsimp only; exact Nat.ne_of_lt (Nat.lt_of_lt_of_le (by have := World.block_lt_of_cell? _ _ hw681_0; first | rwa [add_block] at this | exact this) GW690.out))) _).trans (((cell_far (p := ⟨gb690, _, none⟩) (by first | exact Nat.ne_of_lt (Nat.lt_of_lt_of_le (by have := World.block_lt_of_cell? _ _ hw681_0; first | rwa [add_block] at this | exact this) GW690.out) | (rw [add_block]; exact Nat.ne_of_lt (Nat.lt_of_lt_of_le (by have := World.block_lt_of_cell? _ _ hw681_0; first | rwa [add_block] at this | exact this) GW690.out)) | (show (Addr.add _ _).block ≠ _; rw [add_block]; exact Nat.ne_of_lt (Nat.lt_of_lt_of_le (by have := World.block_lt_of_cell? _ _ hw681_0; first | rwa [add_block] at this | exact this) GW690.out)) | (dsimp only; exact Nat.ne_of_lt (Nat.lt_of_lt_of_le (by have := World.block_lt_of_cell? _ _ hw681_0; first | rwa [add_block] at this | exact this) GW690.out))) _).trans (((cell_far (p := ⟨gb690, _, none⟩) (by first | exact Nat.ne_of_lt (Nat.lt_of_lt_of_le (by have := World.block_lt_of_cell? _ _ hw681_0; first | rwa [add_block] at this | exact this) GW690.out) | (rw [add_block]; exact Nat.ne_of_lt (Nat.lt_of_lt_of_le (by have := World.block_lt_of_cell? _ _ hw681_0; first | rwa [add_block] at this | exact this) GW690.out)) | (show (Addr.add _ _).block ≠ _; rw [add_block]; exact Nat.ne_of_lt (Nat.lt_of_lt_of_le (by have := World.block_lt_of_cell? _ _ hw681_0; first | rwa [add_block] at this | exact this) GW690.out)) | (dsimp only; exact Nat.ne_of_lt (Nat.lt_of_lt_of_le (by have := World.block_lt_of_cell? _ _ hw681_0; first | rwa [add_block] at this | exact this) GW690.out))) _).trans (hHeld.2.2.2.2.2.2.2.1)))))))))))))), ((cell_far (p := ⟨gb690, _, none⟩) (by first | exact Nat.ne_of_lt (Nat.lt_of_lt_of_le (by have := World.block_lt_of_cell? _ _ hw681_1; first | rwa [add_block] at this | exact this) GW690.out) | (rw [add_block]; exact Nat.ne_of_lt (Nat.lt_of_lt_of_le (by have := World.block_lt_of_cell? _ _ hw681_1; first | rwa [add_block] at this | exact this) GW690.out)) | (show (Addr.add _ _).block ≠ _; rw [add_block]; exact Nat.ne_of_lt (Nat.lt_of_lt_of_le (by have := World.block_lt_of_cell? _ _ hw681_1; first | rwa [add_block] at this | exact this) GW690.out)) | (dsimp only; exact Nat.ne_of_lt (Nat.lt_of_lt_of_le (by have := World.block_lt_of_cell? _ _ hw681_1; first | rwa [add_block] at this | exact this) GW690.out))) _).trans (((cell_far (p := ⟨gb690, _, none⟩) (by first | exact Nat.ne_of_lt (Nat.lt_of_lt_of_le (by have := World.block_lt_of_cell? _ _ hw681_1; first | rwa [add_block] at this | exact this) GW690.out) | (rw [add_block]; exact Nat.ne_of_lt (Nat.lt_of_lt_of_le (by have := World.block_lt_of_cell? _ _ hw681_1; first | rwa [add_block] at this | exact this) GW690.out)) | (show (Addr.add _ _).block ≠ _; rw [add_block]; exact Nat.ne_of_lt (Nat.lt_of_lt_of_le (by have := World.block_lt_of_cell? _ _ hw681_1; first | rwa [add_block] at this | exact this) GW690.out)) | (dsimp only; exact Nat.ne_of_lt (Nat.lt_of_lt_of_le (by have := World.block_lt_of_cell? _ _ hw681_1; first | rwa [add_block] at this | exact this) GW690.out))) _).trans (((cell_far (p := ⟨gb690, _, none⟩) (by first | exact Nat.ne_of_lt (Nat.lt_of_lt_of_le (by have := World.block_lt_of_cell? _ _ hw681_1; first | rwa [add_block] at this | exact this) GW690.out) | (rw [add_block]; exact Nat.ne_of_lt (Nat.lt_of_lt_of_le (by have := World.block_lt_of_cell? _ _ hw681_1; first | rwa [add_block] at this | exact this) GW690.out)) | (show (Addr.add _ _).block ≠ _; rw [add_block]; exact Nat.ne_of_lt (Nat.lt_of_lt_of_le (by have := World.block_lt_of_cell? _ _ hw681_1; first | rwa [add_block] at this | exact this) GW690.out)) | (dsimp only; exact Nat.ne_of_lt (Nat.lt_of_lt_of_le (by have := World.block_lt_of_cell? _ _ hw681_1; first | rwa [add_block] at this | exact this) GW690.out))) _).trans (((cell_far (p := ⟨gb690, _, none⟩) (by first | exact Nat.ne_of_lt (Nat.lt_of_lt_of_le (by have := World.block_lt_of_cell? _ _ hw681_1; first | rwa [add_block] at this | exact this) GW690.out) | (rw [add_block]; exact Nat.ne_of_lt (Nat.lt_of_lt_of_le (by have := World.block_lt_of_cell? _ _ hw681_1; first | rwa [add_block] at this | exact this) GW690.out)) | (show (Addr.add _ _).block ≠ _; rw [add_block]; exact Nat.ne_of_lt (Nat.lt_of_lt_of_le (by have := World.block_lt_of_cell? _ _ hw681_1; first | rwa [add_block] at this | exact this) GW690.out)) | (dsimp only; exact Nat.ne_of_lt (Nat.lt_of_lt_of_le (by have := World.block_lt_of_cell? _ _ hw681_1; first | rwa [add_block] at this | exact this) GW690.out))) _).trans (((cell_far (p := ⟨gb690, _, none⟩) (by first | exact Nat.ne_of_lt (Nat.lt_of_lt_of_le (by have := World.block_lt_of_cell? _ _ hw681_1; first | rwa [add_block] at this | exact this) GW690.out) | (rw [add_block]; exact Nat.ne_of_lt (Nat.lt_of_lt_of_le (by have := World.block_lt_of_cell? _ _ hw681_1; first | rwa [add_block] at this | exact this) GW690.out)) | (show (Addr.add _ _).block ≠ _; rw [add_block]; exact Nat.ne_of_lt (Nat.lt_of_lt_of_le (by have := World.block_lt_of_cell? _ _ hw681_1; first | rwa [add_block] at this | exact this) GW690.out)) | (dsimp only; exact Nat.ne_of_lt (Nat.lt_of_lt_of_le (by have := World.block_lt_of_cell? _ _ hw681_1; first | rwa [add_block] at this | exact this) GW690.out))) _).trans (((cell_far (p := ⟨gb690, _, none⟩) (by first | exact Nat.ne_of_lt (Nat.lt_of_lt_of_le (by have := World.block_lt_of_cell? _ _ hw681_1; first | rwa [add_block] at this | exact this) GW690.out) | (rw [add_block]; exact Nat.ne_of_lt (Nat.lt_of_lt_of_le (by have := World.block_lt_of_cell? _ _ hw681_1; first | rwa [add_block] at this | exact this) GW690.out)) | (show (Addr.add _ _).block ≠ _; rw [add_block]; exact Nat.ne_of_lt (Nat.lt_of_lt_of_le (by have := World.block_lt_of_cell? _ _ hw681_1; first | rwa [add_block] at this | exact this) GW690.out)) | (dsimp only; exact Nat.ne_of_lt (Nat.lt_of_lt_of_le (by have := World.block_lt_of_cell? _ _ hw681_1; first | rwa [add_block] at this | exact this) GW690.out))) _).trans (((cell_far (p := ⟨gb690, _, none⟩) (by first | exact Nat.ne_of_lt (Nat.lt_of_lt_of_le (by have := World.block_lt_of_cell? _ _ hw681_1; first | rwa [add_block] at this | exact this) GW690.out) | (rw [add_block]; exact Nat.ne_of_lt (Nat.lt_of_lt_of_le (by have := World.block_lt_of_cell? _ _ hw681_1; first | rwa [add_block] at this | exact this) GW690.out)) | (show (Addr.add _ _).block ≠ _; rw [add_block]; exact Nat.ne_of_lt (Nat.lt_of_lt_of_le (by have := World.block_lt_of_cell? _ _ hw681_1; first | rwa [add_block] at this | exact this) GW690.out)) | (dsimp only; exact Nat.ne_of_lt (Nat.lt_of_lt_of_le (by have := World.block_lt_of_cell? _ _ hw681_1; first | rwa [add_block] at this | exact this) GW690.out))) _).trans (hHeld.2.2.2.2.2.2.2.2.1)))))))))))))), ((cell_far (p := ⟨gb690, _, none⟩) (by first | exact Nat.ne_of_lt (Nat.lt_of_lt_of_le (by have := World.block_lt_of_cell? _ _ hw681_2; first | rwa [add_block] at this | exact this) GW690.out) | (rw [add_block]; exact Nat.ne_of_lt (Nat.lt_of_lt_of_le (by have := World.block_lt_of_cell? _ _ hw681_2; first | rwa [add_block] at this | exact this) GW690.out)) | (show (Addr.add _ _).block ≠ _; rw [add_block]; exact Nat.ne_of_lt (Nat.lt_of_lt_of_le (by have := World.block_lt_of_cell? _ _ hw681_2; first | rwa [add_block] at this | exact this) GW690.out)) | (dsimp only; exact Nat.ne_of_lt (Nat.lt_of_lt_of_le (by have := World.block_lt_of_cell? _ _ hw681_2; first | rwa [add_block] at this | exact this) GW690.out))) _).trans (((cell_far (p := ⟨gb690, _, none⟩) (by first | exact Nat.ne_of_lt (Nat.lt_of_lt_of_le (by have := World.block_lt_of_cell? _ _ hw681_2; first | rwa [add_block] at this | exact this) GW690.out) | (rw [add_block]; exact Nat.ne_of_lt (Nat.lt_of_lt_of_le (by have := World.block_lt_of_cell? _ _ hw681_2; first | rwa [add_block] at this | exact this) GW690.out)) | (show (Addr.add _ _).block ≠ _; rw [add_block]; exact Nat.ne_of_lt (Nat.lt_of_lt_of_le (by have := World.block_lt_of_cell? _ _ hw681_2; first | rwa [add_block] at this | exact this) GW690.out)) | (dsimp only; exact Nat.ne_of_lt (Nat.lt_of_lt_of_le (by have := World.block_lt_of_cell? _ _ hw681_2; first | rwa [add_block] at this | exact this) GW690.out))) _).trans (((cell_far (p := ⟨gb690, _, none⟩) (by first | exact Nat.ne_of_lt (Nat.lt_of_lt_of_le (by have := World.block_lt_of_cell? _ _ hw681_2; first | rwa [add_block] at this | exact this) GW690.out) | (rw [add_block]; exact Nat.ne_of_lt (Nat.lt_of_lt_of_le (by have := World.block_lt_of_cell? _ _ hw681_2; first | rwa [add_block] at this | exact this) GW690.out)) | (show (Addr.add _ _).block ≠ _; rw [add_block]; exact Nat.ne_of_lt (Nat.lt_of_lt_of_le (by have := World.block_lt_of_cell? _ _ hw681_2; first | rwa [add_block] at this | exact this) GW690.out)) | (dsimp only; exact Nat.ne_of_lt (Nat.lt_of_lt_of_le (by have := World.block_lt_of_cell? _ _ hw681_2; first | rwa [add_block] at this | exact this) GW690.out))) _).trans (((cell_far (p := ⟨gb690, _, none⟩) (by first | exact Nat.ne_of_lt (Nat.lt_of_lt_of_le (by have := World.block_lt_of_cell? _ _ hw681_2; first | rwa [add_block] at this | exact this) GW690.out) | (rw [add_block]; exact Nat.ne_of_lt (Nat.lt_of_lt_of_le (by have := World.block_lt_of_cell? _ _ hw681_2; first | rwa [add_block] at this | exact this) GW690.out)) | (show (Addr.add _ _).block ≠ _; rw [add_block]; exact Nat.ne_of_lt (Nat.lt_of_lt_of_le (by have := World.block_lt_of_cell? _ _ hw681_2; first | rwa [add_block] at this | exact this) GW690.out)) | (dsimp only; exact Nat.ne_of_lt (Nat.lt_of_lt_of_le (by have := World.block_lt_of_cell? _ _ hw681_2; first | rwa [add_block] at this | exact this) GW690.out))) _).trans (((cell_far (p := ⟨gb690, _, none⟩) (by first | exact Nat.ne_of_lt (Nat.lt_of_lt_of_le (by have := World.block_lt_of_cell? _ _ hw681_2; first | rwa [add_block] at this | exact this) GW690.out) | (rw [add_block]; exact Nat.ne_of_lt (Nat.lt_of_lt_of_le (by have := World.block_lt_of_cell? _ _ hw681_2; first | rwa [add_block] at this | exact this) GW690.out)) | (show (Addr.add _ _).block ≠ _; rw [add_block]; exact Nat.ne_of_lt (Nat.lt_of_lt_of_le (by have := World.block_lt_of_cell? _ _ hw681_2; first | rwa [add_block] at this | exact this) GW690.out)) | (dsimp only; exact Nat.ne_of_lt (Nat.lt_of_lt_of_le (by have := World.block_lt_of_cell? _ _ hw681_2; first | rwa [add_block] at this | exact this) GW690.out))) _).trans (((cell_far (p := ⟨gb690, _, none⟩) (by first | exact Nat.ne_of_lt (Nat.lt_of_lt_of_le (by have := World.block_lt_of_cell? _ _ hw681_2; first | rwa [add_block] at this | exact this) GW690.out) | (rw [add_block]; exact Nat.ne_of_lt (Nat.lt_of_lt_of_le (by have := World.block_lt_of_cell? _ _ hw681_2; first | rwa [add_block] at this | exact this) GW690.out)) | (show (Addr.add _ _).block ≠ _; rw [add_block]; exact Nat.ne_of_lt (Nat.lt_of_lt_of_le (by have := World.block_lt_of_cell? _ _ hw681_2; first | rwa [add_block] at this | exact this) GW690.out)) | (dsimp only; exact Nat.ne_of_lt (Nat.lt_of_lt_of_le (by have := World.block_lt_of_cell? _ _ hw681_2; first | rwa [add_block] at this | exact this) GW690.out))) _).trans (((cell_far (p := ⟨gb690, _, none⟩) (by first | exact Nat.ne_of_lt (Nat.lt_of_lt_of_le (by have := World.block_lt_of_cell? _ _ hw681_2; first | rwa [add_block] at this | exact this) GW690.out) | (rw [add_block]; exact Nat.ne_of_lt (Nat.lt_of_lt_of_le (by have := World.block_lt_of_cell? _ _ hw681_2; first | rwa [add_block] at this | exact this) GW690.out)) | (show (Addr.add _ _).block ≠ _; rw [add_block]; exact Nat.ne_of_lt (Nat.lt_of_lt_of_le (by have := World.block_lt_of_cell? _ _ hw681_2; first | rwa [add_block] at this | exact this) GW690.out)) | (dsimp only; exact Nat.ne_of_lt (Nat.lt_of_lt_of_le (by have := World.block_lt_of_cell? _ _ hw681_2; first | rwa [add_block] at this | exact this) GW690.out))) _).trans (hHeld.2.2.2.2.2.2.2.2.2))))))))))))))⟩ (fun hHeld => ?_)
                        clear hK K
                        refine pure_ (i := 12) (N := some 10) (v := ?_) (a' := ?_) #[true, true, true, true, true, true, true, true, true, true, true, true, true] rfl rfl (any_of HT_.out (by kernel_rfl)) (fun _ _ _ h => h) (Or.inl ⟨by rfl, ?_⟩) ?_ ?_
                        rotate_left
                        · intro w'
                          go_simp
                          with_reducible rfl
                        rotate_left
                        · simp only [Act.put, List.setIfInBounds_toArray, List.set_cons_zero, List.set_cons_succ, i64_w, i32_w]
                          rfl
                        refine done_ (done_of HT_.out (by kernel_rfl)) ?_
                        have hnb34 := NB690_680.out
                        have hnc34 := NB680_690.out
                        obtain ⟨hcz35_0, hcz35_1, hcz35_2, hcz35_3, hcz35_4, hcz35_5, hcz35_6, hfz35_0, hfz35_1, hfz35_2, hfz35_3, hfz35_4, hfz35_5, hfz35_6⟩ := blk_all7 BK690.out
                        obtain ⟨hcz36_0, hcz36_1, hcz36_2, hcz36_3, hcz36_4, hcz36_5, hcz36_6, hfz36_0, hfz36_1, hfz36_2, hfz36_3, hfz36_4, hfz36_5, hfz36_6⟩ := blk_all7 BK680.out
                        try go_wp2
                        go_roundg kj15
                        case measure => have := HJ3.out; have := HK2.out; have := HJ15.out; omega
                        case rel => exact ⟨(wrap64 (x8_2 + 1)), (t682), (t683), (t684), (t685), (t686), (t687), (t688), (by first | rfl | (simp; done) | (simp [*]; done)), H', ⟨by have := HJ3.out; have := HK2.out; have := HJ15.out; omega⟩, ⟨by (with_reducible repeat (first | apply bd1 | apply bd2 | apply bd3)); refine blk_put (cs := #[.int .i64 t682, .int .i64 t683, .int .i64 t684, .bool t685, .int .i64 t686, .bool t687, .int .i64 x681006_2]) ?_ 6 _ rfl; (with_reducible repeat (first | apply bd1 | apply bd2 | apply bd3)); refine blk_put (cs := #[.int .i64 t682, .int .i64 t683, .int .i64 t684, .bool t685, .int .i64 t686, .bool x681005_2, .int .i64 x681006_2]) ?_ 5 _ rfl; (with_reducible repeat (first | apply bd1 | apply bd2 | apply bd3)); refine blk_put (cs := #[.int .i64 t682, .int .i64 t683, .int .i64 t684, .bool t685, .int .i64 x681004_2, .bool x681005_2, .int .i64 x681006_2]) ?_ 4 _ rfl; (with_reducible repeat (first | apply bd1 | apply bd2 | apply bd3)); refine blk_put (cs := #[.int .i64 t682, .int .i64 t683, .int .i64 t684, .bool x681003_2, .int .i64 x681004_2, .bool x681005_2, .int .i64 x681006_2]) ?_ 3 _ rfl; (with_reducible repeat (first | apply bd1 | apply bd2 | apply bd3)); refine blk_put (cs := #[.int .i64 t682, .int .i64 t683, .int .i64 x681002_2, .bool x681003_2, .int .i64 x681004_2, .bool x681005_2, .int .i64 x681006_2]) ?_ 2 _ rfl; (with_reducible repeat (first | apply bd1 | apply bd2 | apply bd3)); refine blk_put (cs := #[.int .i64 t682, .int .i64 x681001_2, .int .i64 x681002_2, .bool x681003_2, .int .i64 x681004_2, .bool x681005_2, .int .i64 x681006_2]) ?_ 1 _ rfl; (with_reducible repeat (first | apply bd1 | apply bd2 | apply bd3)); refine blk_put (cs := #[.int .i64 x681000_2, .int .i64 x681001_2, .int .i64 x681002_2, .bool x681003_2, .int .i64 x681004_2, .bool x681005_2, .int .i64 x681006_2]) ?_ 0 _ rfl; (with_reducible repeat (first | apply bd1 | apply bd2 | apply bd3)); refine blk_far ?_ NB680_690.out _; (with_reducible repeat (first | apply bd1 | apply bd2 | apply bd3)); refine blk_far ?_ NB680_690.out _; (with_reducible repeat (first | apply bd1 | apply bd2 | apply bd3)); refine blk_far ?_ NB680_690.out _; (with_reducible repeat (first | apply bd1 | apply bd2 | apply bd3)); refine blk_far ?_ NB680_690.out _; (with_reducible repeat (first | apply bd1 | apply bd2 | apply bd3)); refine blk_far ?_ NB680_690.out _; (with_reducible repeat (first | apply bd1 | apply bd2 | apply bd3)); refine blk_far ?_ NB680_690.out _; (with_reducible repeat (first | apply bd1 | apply bd2 | apply bd3)); refine blk_far ?_ NB680_690.out _; (with_reducible repeat (first | apply bd1 | apply bd2 | apply bd3)); exact BK680.out⟩, ⟨by repeat (first | (with_reducible first | exact HB.out | apply below_alloc | apply pw_below_drewN | apply below_drew1 | refine below_set ?_ GE680.out | refine below_set ?_ GE690.out) | exact HB.out)⟩⟩
                      · replace c22 := Bool.eq_false_iff.mpr c22
                        subst c22
                        have H1 : (none) = some r := by rw [if_neg (show ¬ (false = true) by decide)] at H; exact H
                        clear H
                        have H := H1
                        clear H1
                        exact absurd H (by simp)
                    · rw [if_neg c20] at H
                      exact absurd H (by simp)
                  · rw [if_neg c19] at H
                    exact absurd H (by simp)
                · replace c18 := Bool.eq_false_iff.mpr c18
                  subst c18
                  have H1 : (drayagelaw14_SagaEnds.l1 kj15 l0 a2 0 0 x681000_2 x681001_2 x681002_2 x681003_2 x681004_2 x681005_2 x681006_2) = some r := by rw [if_neg (show ¬ (false = true) by decide)] at H; exact H
                  clear H
                  have H := H1
                  clear H1
                  have H' := Aside0.mk H
                  clear H
                  go_wp2
                  go_loopg [11, 12] kj15 (fun kq v11 v12 w' => ∃ (x11_4 : Int) (x12_4 : Int), v11 = .int .i64 x11_4 ∧ v12 = .int .i64 x12_4 ∧ Aside0 (drayagelaw14_SagaEnds.l1 kq l0 a2 x11_4 x12_4 x681000_2 x681001_2 x681002_2 x681003_2 x681004_2 x681005_2 x681006_2 = some r) ∧ Aside0 (kq ≤ kj15) ∧ Aside0 (w'.heap[gb680]? = some (.cells #[.int .i64 x681000_2, .int .i64 x681001_2, .int .i64 x681002_2, .bool x681003_2, .int .i64 x681004_2, .bool x681005_2, .int .i64 x681006_2] 28 (0, 0))) ∧ Aside0 (Below w.heap.size w w'))
                  case atStart => exact ⟨(0), (0), (by first | rfl | (simp; done) | (simp [*]; done)), (by first | rfl | (simp; done) | (simp [*]; done)), H', ⟨Nat.le_refl _⟩, ⟨by (with_reducible repeat (first | apply bd1 | apply bd2 | apply bd3)); exact BK680.out⟩, ⟨by repeat (first | (with_reducible first | exact HB.out | apply below_alloc | apply pw_below_drewN | apply below_drew1 | refine below_set ?_ GE680.out) | exact HB.out)⟩⟩
                  case round =>
                    clear H'
                    try clear c1
                    try clear c2
                    try clear p2
                    try clear c3
                    try clear c6
                    try clear p6
                    try clear q6
                    try clear hx6
                    try clear c7
                    try clear c9
                    try clear c10
                    try clear c12
                    try clear c13
                    try clear c17
                    try clear c17b0
                    try clear c18
                    try clear c19
                    try clear c19b0
                    try clear c20
                    try clear c20b0
                    try clear c22
                    try clear c26
                    try clear c34
                    try clear hcz15_0
                    try clear hcz15_1
                    try clear hcz15_2
                    try clear hcz15_3
                    try clear hcz15_4
                    try clear hcz15_5
                    try clear hcz15_6
                    try clear hcz35_0
                    try clear hcz35_1
                    try clear hcz35_2
                    try clear hcz35_3
                    try clear hcz35_4
                    try clear hcz35_5
                    try clear hcz35_6
                    try clear hcz36_0
                    try clear hcz36_1
                    try clear hcz36_2
                    try clear hcz36_3
                    try clear hcz36_4
                    try clear hcz36_5
                    try clear hcz36_6
                    try clear hfz15_0
                    try clear hfz15_1
                    try clear hfz15_2
                    try clear hfz15_3
                    try clear hfz15_4
                    try clear hfz15_5
                    try clear hfz15_6
                    try clear hfz35_0
                    try clear hfz35_1
                    try clear hfz35_2
                    try clear hfz35_3
                    try clear hfz35_4
                    try clear hfz35_5
                    try clear hfz35_6
                    try clear hfz36_0
                    try clear hfz36_1
                    try clear hfz36_2
                    try clear hfz36_3
                    try clear hfz36_4
                    try clear hfz36_5
                    try clear hfz36_6
                    try clear hx681_0
                    try clear hx681_1
                    try clear hx681_2
                    try clear p2
                    try clear p681
                    try clear q681
                    obtain ⟨x11_4, x12_4, rfl, rfl, HA, HK4, BK680, HB⟩ := hrel
                    cases gk with
                    | zero => exact absurd HA.out (by simp [drayagelaw14_SagaEnds.l1])
                    | succ k4 =>
                      have H := HA.out
                      clear HA
                      simp only [drayagelaw14_SagaEnds.l1] at H
                      by_cases c37 : x12_4 < (l0.length : Int)
                      · rw [if_pos c37] at H
                        have c37b0 : decide (x12_4 < (l0.length : Int)) = true := decide_eq_true c37
                        clear c37
                        by_cases c38 : 0 ≤ x12_4
                        · rw [if_pos c38] at H
                          have c38b0 : decide (0 ≤ x12_4) = true := decide_eq_true c38
                          clear c38
                          have H' := Aside0.mk H
                          clear H
                          have p691 : 0 ≤ (x12_4 : Int) := of_decide_eq_true (by first | (with_reducible assumption) | assumption)
                          have q691 : x12_4 < (l0.length : Int) := of_decide_eq_true (by first | (with_reducible assumption) | assumption)
                          obtain ⟨ad691, A691_2, c691_2, e691, hx691_0, hx691_1, hx691_2, hx691_3, hx691_4, hx691_5, hl691_2, hi691_2⟩ := at_T38 HR0.out x12_4 p691 q691
                          cases e691
                          replace hx691_0 := (HB.out.cell (World.block_lt_of_cell? w _ hx691_0)).trans hx691_0
                          replace hx691_1 := (HB.out.cell (World.block_lt_of_cell? w _ hx691_1)).trans hx691_1
                          replace hx691_2 := (HB.out.cell (World.block_lt_of_cell? w _ hx691_2)).trans hx691_2
                          replace hx691_3 := (HB.out.cell (World.block_lt_of_cell? w _ hx691_3)).trans hx691_3
                          replace hx691_4 := (HB.out.cell (World.block_lt_of_cell? w _ hx691_4)).trans hx691_4
                          replace hx691_5 := (HB.out.cell (World.block_lt_of_cell? w _ hx691_5)).trans hx691_5
                          have HR691_2 := Aside0.mk hi691_2
                          have HC691_2 := Aside0.mk hl691_2
                          clear hi691_2 hl691_2
                          replace p691 := eq_true p691
                          replace q691 := eq_true q691
                          go_wp2
                          go_roundg k4
                          case measure => have := HJ3.out; have := HK2.out; have := HJ15.out; have := HK4.out; omega
                          case rel => exact ⟨(wrap64 (x11_4 + (wrap64 (2 * ((rd_T38 l0 x12_4).f1))))), (wrap64 (x12_4 + 1)), (by first | rfl | (simp; done) | (simp [*]; done)), (by first | rfl | (simp; done) | (simp [*]; done)), H', ⟨by have := HJ3.out; have := HK2.out; have := HJ15.out; have := HK4.out; omega⟩, ⟨by (with_reducible repeat (first | apply bd1 | apply bd2 | apply bd3)); exact BK680.out⟩, ⟨by repeat (first | (with_reducible first | exact HB.out | apply below_alloc | apply pw_below_drewN | apply below_drew1 | refine below_set ?_ GE680.out) | exact HB.out)⟩⟩
                        · rw [if_neg c38] at H
                          exact absurd H (by simp)
                      · rw [if_neg c37] at H
                        have c37b0 : decide (x12_4 < (l0.length : Int)) = false := decide_eq_false c37
                        clear c37
                        have H' := Aside0.mk H
                        clear H
                        go_wp2
                        go_loopg [13] k4 (fun kq v13 w' => ∃ (x13_5 : Int) (x681000_5 : Int) (x681001_5 : Int) (x681002_5 : Int) (x681003_5 : Bool) (x681004_5 : Int) (x681005_5 : Bool) (x681006_5 : Int), v13 = .int .i64 x13_5 ∧ Aside0 (drayagelaw14_SagaEnds.l2 kq l0 a2 x11_4 x13_5 x681000_5 x681001_5 x681002_5 x681003_5 x681004_5 x681005_5 x681006_5 = some r) ∧ Aside0 (kq ≤ k4) ∧ Aside0 (w'.heap[gb680]? = some (.cells #[.int .i64 x681000_5, .int .i64 x681001_5, .int .i64 x681002_5, .bool x681003_5, .int .i64 x681004_5, .bool x681005_5, .int .i64 x681006_5] 28 (0, 0))) ∧ Aside0 (Below w.heap.size w w'))
                        case atStart => exact ⟨(0), (x681000_2), (x681001_2), (x681002_2), (x681003_2), (x681004_2), (x681005_2), (x681006_2), (by first | rfl | (simp; done) | (simp [*]; done)), H', ⟨Nat.le_refl _⟩, ⟨by (with_reducible repeat (first | apply bd1 | apply bd2 | apply bd3)); exact BK680.out⟩, ⟨by repeat (first | (with_reducible first | exact HB.out | apply below_alloc | apply pw_below_drewN | apply below_drew1 | refine below_set ?_ GE680.out) | exact HB.out)⟩⟩
                        case round =>
                          clear H'
                          try clear c1
                          try clear c2
                          try clear p2
                          try clear c3
                          try clear c6
                          try clear p6
                          try clear q6
                          try clear hx6
                          try clear c7
                          try clear c9
                          try clear c10
                          try clear c12
                          try clear c13
                          try clear c17
                          try clear c17b0
                          try clear c18
                          try clear c19
                          try clear c19b0
                          try clear c20
                          try clear c20b0
                          try clear c22
                          try clear c26
                          try clear c34
                          try clear c37
                          try clear c37b0
                          try clear c38
                          try clear c38b0
                          try clear hcz15_0
                          try clear hcz15_1
                          try clear hcz15_2
                          try clear hcz15_3
                          try clear hcz15_4
                          try clear hcz15_5
                          try clear hcz15_6
                          try clear hcz35_0
                          try clear hcz35_1
                          try clear hcz35_2
                          try clear hcz35_3
                          try clear hcz35_4
                          try clear hcz35_5
                          try clear hcz35_6
                          try clear hcz36_0
                          try clear hcz36_1
                          try clear hcz36_2
                          try clear hcz36_3
                          try clear hcz36_4
                          try clear hcz36_5
                          try clear hcz36_6
                          try clear hfz15_0
                          try clear hfz15_1
                          try clear hfz15_2
                          try clear hfz15_3
                          try clear hfz15_4
                          try clear hfz15_5
                          try clear hfz15_6
                          try clear hfz35_0
                          try clear hfz35_1
                          try clear hfz35_2
                          try clear hfz35_3
                          try clear hfz35_4
                          try clear hfz35_5
                          try clear hfz35_6
                          try clear hfz36_0
                          try clear hfz36_1
                          try clear hfz36_2
                          try clear hfz36_3
                          try clear hfz36_4
                          try clear hfz36_5
                          try clear hfz36_6
                          try clear hx681_0
                          try clear hx681_1
                          try clear hx681_2
                          try clear hx691_0
                          try clear hx691_1
                          try clear hx691_2
                          try clear hx691_3
                          try clear hx691_4
                          try clear hx691_5
                          try clear p2
                          try clear p6
                          try clear p681
                          try clear p691
                          try clear q6
                          try clear q681
                          try clear q691
                          obtain ⟨x13_5, x681000_5, x681001_5, x681002_5, x681003_5, x681004_5, x681005_5, x681006_5, rfl, HA, HK5, BK680, HB⟩ := hrel
                          cases gk with
                          | zero => exact absurd HA.out (by simp [drayagelaw14_SagaEnds.l2])
                          | succ k5 =>
                            have H := HA.out
                            clear HA
                            simp only [drayagelaw14_SagaEnds.l2] at H
                            by_cases c39 : x681000_5 < 3
                            · rw [if_pos c39] at H
                              have c39b0 : decide (x681000_5 < 3) = true := decide_eq_true c39
                              clear c39
                              have HC40 := Aside0.mk H
                              clear H
                              obtain ⟨hcz41_0, hcz41_1, hcz41_2, hcz41_3, hcz41_4, hcz41_5, hcz41_6, hfz41_0, hfz41_1, hfz41_2, hfz41_3, hfz41_4, hfz41_5, hfz41_6⟩ := blk_all7 BK680.out
                              go_upto_if 71 with (fail)
                              go_cut [13] (fun v13 wc => ∃ (kq : Nat) (x13_39 : Int) (x681000_39 : Int) (x681001_39 : Int) (x681002_39 : Int) (x681003_39 : Bool) (x681004_39 : Int) (x681005_39 : Bool) (x681006_39 : Int), v13 = .int .i64 x13_39 ∧ Aside0 (drayagelaw14_SagaEnds.j5 kq l0 a2 x11_4 x13_39 x681000_39 x681001_39 x681002_39 x681003_39 x681004_39 x681005_39 x681006_39 = some r) ∧ Aside0 (kq ≤ k5) ∧ Aside0 (wc.heap[gb680]? = some (.cells #[.int .i64 x681000_39, .int .i64 x681001_39, .int .i64 x681002_39, .bool x681003_39, .int .i64 x681004_39, .bool x681005_39, .int .i64 x681006_39] 28 (0, 0))) ∧ Aside0 (Below w.heap.size w wc))
                              case first =>
                                have H := HC40.out
                                clear HC40
                                by_cases c42 : x681003_5 = true
                                · subst c42
                                  have H1 : (drayagelaw14_SagaEnds.j5 k5 l0 a2 x11_4 x13_5 x681000_5 x681001_5 x681002_5 true x681004_5 x681005_5 x681006_5) = some r := by rw [if_pos rfl] at H; exact H
                                  clear H
                                  have H := H1
                                  clear H1
                                  have H' := Aside0.mk H
                                  clear H
                                  go_wp2
                                  go_meet
                                  case rel => exact ⟨_, (x13_5), (x681000_5), (x681001_5), (x681002_5), (true), (x681004_5), (x681005_5), (x681006_5), (by first | rfl | (simp; done) | (simp [*]; done)), H', ⟨by have := HJ3.out; have := HK2.out; have := HJ15.out; have := HK4.out; have := HK5.out; first | omega | exact Nat.le_refl _⟩, ⟨by (with_reducible repeat (first | apply bd1 | apply bd2 | apply bd3)); exact BK680.out⟩, ⟨by repeat (first | (with_reducible first | exact HB.out | apply below_alloc | apply pw_below_drewN | apply below_drew1 | refine below_set ?_ GE680.out) | exact HB.out)⟩⟩
                                · replace c42 := Bool.eq_false_iff.mpr c42
                                  subst c42
                                  have H1 : ((saga_Ask.f k5 l0 x681000_5 x681001_5 x681002_5 false x681004_5 x681005_5 x681006_5).bind fun bt692 => (drayagelaw14_SagaEnds.j5 k5 l0 a2 x11_4 (wrap64 (x13_5 + 1)) bt692.1 bt692.2.1 bt692.2.2.1 bt692.2.2.2.1 bt692.2.2.2.2.1 bt692.2.2.2.2.2.1 bt692.2.2.2.2.2.2.1)) = some r := by rw [if_neg (show ¬ (false = true) by decide)] at H; exact H
                                  clear H
                                  have H := H1
                                  clear H1
                                  replace H := Option.bind_eq_some_iff.mp H
                                  obtain ⟨⟨t692, t693, t694, t695, t696, t697, t698, t699⟩, A430, H⟩ := H
                                  replace H : (drayagelaw14_SagaEnds.j5 k5 l0 a2 x11_4 (wrap64 (x13_5 + 1)) t692 t693 t694 t695 t696 t697 t698) = some r := H
                                  have A43 := Aside0.mk A430
                                  clear A430
                                  have H' := Aside0.mk H
                                  clear H
                                  obtain ⟨hcz44_0, hcz44_1, hcz44_2, hcz44_3, hcz44_4, hcz44_5, hcz44_6, hfz44_0, hfz44_1, hfz44_2, hfz44_3, hfz44_4, hfz44_5, hfz44_6⟩ := blk_all7 BK680.out
                                  go_wp2_with (first | ((with_reducible refine gate_callee (f := 14) rfl ?_); refine goesL_ (some 75) rfl rfl Try.func14 (by kernel_rfl) rfl #[.slice A0 l0.length c0, .agg #[.int .i64 x681000_5, .int .i64 x681001_5, .int .i64 x681002_5, .bool false, .int .i64 x681004_5, .bool x681005_5, .int .i64 x681006_5]] rfl (by (try simp only [List.map_toArray, List.map_cons, List.map_nil]); first | done | rfl | (simp only [List.length_drop, List.length_take]; rfl)) ?_; (with_reducible refine (saga_Ask.calls k5 _ _ l0 x681000_5 x681001_5 x681002_5 false x681004_5 x681005_5 x681006_5 t692 t693 t694 t695 t696 t697 t698 t699 _ ?side1 ?side2 A43.out).mono ?_); (case side1 => repeat (first | exact (Kd.C_below HR0.out HB.out) | (with_reducible refine Kd.C_alloc ?_ _) | (with_reducible refine Kd.C_drewN ?_ _) | (with_reducible refine Kd.C_drew ?_))); (case side2 => exact HC0.out); rintro e w45 ⟨rfl, hb⟩; refine ⟨_, rfl, ?_⟩; have n0_ := Aside0.mk (blk_below (g := gb680) (o := .cells #[.int .i64 x681000_5, .int .i64 x681001_5, .int .i64 x681002_5, .bool false, .int .i64 x681004_5, .bool x681005_5, .int .i64 x681006_5] 28 (0, 0)) (by (with_reducible repeat (first | apply bd1 | apply bd2 | apply bd3)); exact BK680.out) hb); have n1_ := Aside0.mk (below_step (by repeat (first | (with_reducible first | exact HB.out | apply below_alloc | apply pw_below_drewN | apply below_drew1 | refine below_set ?_ GE680.out) | exact HB.out)) hb); clear BK680; clear HB; have BK680 := n0_; have HB := n1_; clear n0_ n1_; (try clear hb); (try clear hb2); (try clear hk); (try clear hi); obtain ⟨hcz46_0, hcz46_1, hcz46_2, hcz46_3, hcz46_4, hcz46_5, hcz46_6, hfz46_0, hfz46_1, hfz46_2, hfz46_3, hfz46_4, hfz46_5, hfz46_6⟩ := blk_all7 BK680.out))
                                  go_meet
                                  case rel => exact ⟨_, (wrap64 (x13_5 + 1)), (t692), (t693), (t694), (t695), (t696), (t697), (t698), (by first | rfl | (simp; done) | (simp [*]; done)), H', ⟨by have := HJ3.out; have := HK2.out; have := HJ15.out; have := HK4.out; have := HK5.out; first | omega | exact Nat.le_refl _⟩, ⟨by (with_reducible repeat (first | apply bd1 | apply bd2 | apply bd3)); refine blk_put (cs := #[.int .i64 t692, .int .i64 t693, .int .i64 t694, .bool t695, .int .i64 t696, .bool t697, .int .i64 x681006_5]) ?_ 6 _ rfl; (with_reducible repeat (first | apply bd1 | apply bd2 | apply bd3)); refine blk_put (cs := #[.int .i64 t692, .int .i64 t693, .int .i64 t694, .bool t695, .int .i64 t696, .bool x681005_5, .int .i64 x681006_5]) ?_ 5 _ rfl; (with_reducible repeat (first | apply bd1 | apply bd2 | apply bd3)); refine blk_put (cs := #[.int .i64 t692, .int .i64 t693, .int .i64 t694, .bool t695, .int .i64 x681004_5, .bool x681005_5, .int .i64 x681006_5]) ?_ 4 _ rfl; (with_reducible repeat (first | apply bd1 | apply bd2 | apply bd3)); refine blk_put (cs := #[.int .i64 t692, .int .i64 t693, .int .i64 t694, .bool false, .int .i64 x681004_5, .bool x681005_5, .int .i64 x681006_5]) ?_ 3 _ rfl; (with_reducible repeat (first | apply bd1 | apply bd2 | apply bd3)); refine blk_put (cs := #[.int .i64 t692, .int .i64 t693, .int .i64 x681002_5, .bool false, .int .i64 x681004_5, .bool x681005_5, .int .i64 x681006_5]) ?_ 2 _ rfl; (with_reducible repeat (first | apply bd1 | apply bd2 | apply bd3)); refine blk_put (cs := #[.int .i64 t692, .int .i64 x681001_5, .int .i64 x681002_5, .bool false, .int .i64 x681004_5, .bool x681005_5, .int .i64 x681006_5]) ?_ 1 _ rfl; (with_reducible repeat (first | apply bd1 | apply bd2 | apply bd3)); refine blk_put (cs := #[.int .i64 x681000_5, .int .i64 x681001_5, .int .i64 x681002_5, .bool false, .int .i64 x681004_5, .bool x681005_5, .int .i64 x681006_5]) ?_ 0 _ rfl; (with_reducible repeat (first | apply bd1 | apply bd2 | apply bd3)); exact BK680.out⟩, ⟨by repeat (first | (with_reducible first | exact HB.out | apply below_alloc | apply pw_below_drewN | apply below_drew1 | refine below_set ?_ GE680.out) | exact HB.out)⟩⟩
                              case rest =>
                                clear HC40
                                try clear c1
                                try clear c2
                                try clear p2
                                try clear c3
                                try clear c4
                                try clear c6
                                try clear p6
                                try clear q6
                                try clear hx6
                                try clear c7
                                try clear c9
                                try clear c10
                                try clear c12
                                try clear c13
                                try clear c14
                                try clear c17
                                try clear c17b0
                                try clear c18
                                try clear c19
                                try clear c19b0
                                try clear c20
                                try clear c20b0
                                try clear c22
                                try clear c26
                                try clear c34
                                try clear c37
                                try clear c37b0
                                try clear c38
                                try clear c38b0
                                try clear c39
                                try clear c39b0
                                try clear c42
                                try clear hcz15_0
                                try clear hcz15_1
                                try clear hcz15_2
                                try clear hcz15_3
                                try clear hcz15_4
                                try clear hcz15_5
                                try clear hcz15_6
                                try clear hcz35_0
                                try clear hcz35_1
                                try clear hcz35_2
                                try clear hcz35_3
                                try clear hcz35_4
                                try clear hcz35_5
                                try clear hcz35_6
                                try clear hcz36_0
                                try clear hcz36_1
                                try clear hcz36_2
                                try clear hcz36_3
                                try clear hcz36_4
                                try clear hcz36_5
                                try clear hcz36_6
                                try clear hcz41_0
                                try clear hcz41_1
                                try clear hcz41_2
                                try clear hcz41_3
                                try clear hcz41_4
                                try clear hcz41_5
                                try clear hcz41_6
                                try clear hcz44_0
                                try clear hcz44_1
                                try clear hcz44_2
                                try clear hcz44_3
                                try clear hcz44_4
                                try clear hcz44_5
                                try clear hcz44_6
                                try clear hcz46_0
                                try clear hcz46_1
                                try clear hcz46_2
                                try clear hcz46_3
                                try clear hcz46_4
                                try clear hcz46_5
                                try clear hcz46_6
                                try clear hfz15_0
                                try clear hfz15_1
                                try clear hfz15_2
                                try clear hfz15_3
                                try clear hfz15_4
                                try clear hfz15_5
                                try clear hfz15_6
                                try clear hfz35_0
                                try clear hfz35_1
                                try clear hfz35_2
                                try clear hfz35_3
                                try clear hfz35_4
                                try clear hfz35_5
                                try clear hfz35_6
                                try clear hfz36_0
                                try clear hfz36_1
                                try clear hfz36_2
                                try clear hfz36_3
                                try clear hfz36_4
                                try clear hfz36_5
                                try clear hfz36_6
                                try clear hfz41_0
                                try clear hfz41_1
                                try clear hfz41_2
                                try clear hfz41_3
                                try clear hfz41_4
                                try clear hfz41_5
                                try clear hfz41_6
                                try clear hfz44_0
                                try clear hfz44_1
                                try clear hfz44_2
                                try clear hfz44_3
                                try clear hfz44_4
                                try clear hfz44_5
                                try clear hfz44_6
                                try clear hfz46_0
                                try clear hfz46_1
                                try clear hfz46_2
                                try clear hfz46_3
                                try clear hfz46_4
                                try clear hfz46_5
                                try clear hfz46_6
                                try clear hx681_0
                                try clear hx681_1
                                try clear hx681_2
                                try clear hx691_0
                                try clear hx691_1
                                try clear hx691_2
                                try clear hx691_3
                                try clear hx691_4
                                try clear hx691_5
                                try clear p2
                                try clear p6
                                try clear p681
                                try clear p691
                                try clear q6
                                try clear q681
                                try clear q691
                                obtain ⟨kq, x13_39, x681000_39, x681001_39, x681002_39, x681003_39, x681004_39, x681005_39, x681006_39, rfl, HA, HJ39, BK680, HB⟩ := hcut
                                cases kq with
                                | zero => exact absurd HA.out (by simp [drayagelaw14_SagaEnds.j5])
                                | succ kj39 =>
                                  have H := HA.out
                                  clear HA
                                  simp only [drayagelaw14_SagaEnds.j5] at H
                                  by_cases c47 : (Int.tmod a2 2) = 0
                                  · rw [if_pos c47] at H
                                    have c47b0 : ((Int.tmod a2 2) == 0) = true := beq_iff_eq.mpr c47
                                    have c47b1 : ((Int.tmod a2 2) != 0) = false := bne_eq_false_iff_eq.mpr c47
                                    clear c47
                                    replace H := Option.bind_eq_some_iff.mp H
                                    obtain ⟨⟨t700, t701, t702, t703, t704, t705, t706, t707⟩, A480, H⟩ := H
                                    replace H : (if x13_39 > x11_4 then (none) else (if t700 = 0 then (none) else (drayagelaw14_SagaEnds.l2 kj39 l0 a2 x11_4 x13_39 t700 t701 t702 t703 t704 t705 t706))) = some r := H
                                    have A48 := Aside0.mk A480
                                    clear A480
                                    by_cases c49 : x13_39 > x11_4
                                    · rw [if_pos c49] at H
                                      exact absurd H (by simp)
                                    · rw [if_neg c49] at H
                                      have c49b0 : decide (x11_4 < x13_39) = false := decide_eq_false c49
                                      clear c49
                                      by_cases c50 : t700 = 0
                                      · rw [if_pos c50] at H
                                        exact absurd H (by simp)
                                      · rw [if_neg c50] at H
                                        have c50b0 : (t700 == 0) = false := beq_eq_false_iff_ne.mpr c50
                                        have c50b1 : (t700 != 0) = true := bne_iff_ne.mpr c50
                                        have H' := Aside0.mk H
                                        clear H
                                        obtain ⟨hcz51_0, hcz51_1, hcz51_2, hcz51_3, hcz51_4, hcz51_5, hcz51_6, hfz51_0, hfz51_1, hfz51_2, hfz51_3, hfz51_4, hfz51_5, hfz51_6⟩ := blk_all7 BK680.out
                                        go_wp2_with (first | ((with_reducible refine gate_callee (f := 15) rfl ?_); refine goesL_ (some 92) rfl rfl Try.func15 (by kernel_rfl) rfl #[.slice A0 l0.length c0, .agg #[.int .i64 x681000_39, .int .i64 x681001_39, .int .i64 x681002_39, .bool x681003_39, .int .i64 x681004_39, .bool x681005_39, .int .i64 x681006_39], .int .i64 x681001_39, .bool (x681000_39 == 2), .int .i64 1] rfl (by (try simp only [List.map_toArray, List.map_cons, List.map_nil]); first | done | rfl | (simp only [List.length_drop, List.length_take]; rfl)) ?_; (with_reducible refine (saga_Tell.calls kj39 _ _ l0 x681000_39 x681001_39 x681002_39 x681003_39 x681004_39 x681005_39 x681006_39 x681001_39 (x681000_39 == 2) 1 t700 t701 t702 t703 t704 t705 t706 t707 _ ?side1 ?side2 A48.out).mono ?_); (case side1 => repeat (first | exact (Kd.C_below HR0.out HB.out) | (with_reducible refine Kd.C_alloc ?_ _) | (with_reducible refine Kd.C_drewN ?_ _) | (with_reducible refine Kd.C_drew ?_))); (case side2 => exact HC0.out); rintro e w52 ⟨rfl, hb⟩; refine ⟨_, rfl, ?_⟩; have n0_ := Aside0.mk (blk_below (g := gb680) (o := .cells #[.int .i64 x681000_39, .int .i64 x681001_39, .int .i64 x681002_39, .bool x681003_39, .int .i64 x681004_39, .bool x681005_39, .int .i64 x681006_39] 28 (0, 0)) (by (with_reducible repeat (first | apply bd1 | apply bd2 | apply bd3)); exact BK680.out) hb); have n1_ := Aside0.mk (below_step (by repeat (first | (with_reducible first | exact HB.out | apply below_alloc | apply pw_below_drewN | apply below_drew1 | refine below_set ?_ GE680.out) | exact HB.out)) hb); clear BK680; clear HB; have BK680 := n0_; have HB := n1_; clear n0_ n1_; (try clear hb); (try clear hb2); (try clear hk); (try clear hi); obtain ⟨hcz53_0, hcz53_1, hcz53_2, hcz53_3, hcz53_4, hcz53_5, hcz53_6, hfz53_0, hfz53_1, hfz53_2, hfz53_3, hfz53_4, hfz53_5, hfz53_6⟩ := blk_all7 BK680.out))
                                        go_roundg kj39
                                        case measure => have := HJ3.out; have := HK2.out; have := HJ15.out; have := HK4.out; have := HK5.out; have := HJ39.out; omega
                                        case rel => exact ⟨(x13_39), (t700), (t701), (t702), (t703), (t704), (t705), (t706), (by first | rfl | (simp; done) | (simp [*]; done)), H', ⟨by have := HJ3.out; have := HK2.out; have := HJ15.out; have := HK4.out; have := HK5.out; have := HJ39.out; omega⟩, ⟨by (with_reducible repeat (first | apply bd1 | apply bd2 | apply bd3)); refine blk_put (cs := #[.int .i64 t700, .int .i64 t701, .int .i64 t702, .bool t703, .int .i64 t704, .bool t705, .int .i64 x681006_39]) ?_ 6 _ rfl; (with_reducible repeat (first | apply bd1 | apply bd2 | apply bd3)); refine blk_put (cs := #[.int .i64 t700, .int .i64 t701, .int .i64 t702, .bool t703, .int .i64 t704, .bool x681005_39, .int .i64 x681006_39]) ?_ 5 _ rfl; (with_reducible repeat (first | apply bd1 | apply bd2 | apply bd3)); refine blk_put (cs := #[.int .i64 t700, .int .i64 t701, .int .i64 t702, .bool t703, .int .i64 x681004_39, .bool x681005_39, .int .i64 x681006_39]) ?_ 4 _ rfl; (with_reducible repeat (first | apply bd1 | apply bd2 | apply bd3)); refine blk_put (cs := #[.int .i64 t700, .int .i64 t701, .int .i64 t702, .bool x681003_39, .int .i64 x681004_39, .bool x681005_39, .int .i64 x681006_39]) ?_ 3 _ rfl; (with_reducible repeat (first | apply bd1 | apply bd2 | apply bd3)); refine blk_put (cs := #[.int .i64 t700, .int .i64 t701, .int .i64 x681002_39, .bool x681003_39, .int .i64 x681004_39, .bool x681005_39, .int .i64 x681006_39]) ?_ 2 _ rfl; (with_reducible repeat (first | apply bd1 | apply bd2 | apply bd3)); refine blk_put (cs := #[.int .i64 t700, .int .i64 x681001_39, .int .i64 x681002_39, .bool x681003_39, .int .i64 x681004_39, .bool x681005_39, .int .i64 x681006_39]) ?_ 1 _ rfl; (with_reducible repeat (first | apply bd1 | apply bd2 | apply bd3)); refine blk_put (cs := #[.int .i64 x681000_39, .int .i64 x681001_39, .int .i64 x681002_39, .bool x681003_39, .int .i64 x681004_39, .bool x681005_39, .int .i64 x681006_39]) ?_ 0 _ rfl; (with_reducible repeat (first | apply bd1 | apply bd2 | apply bd3)); exact BK680.out⟩, ⟨by repeat (first | (with_reducible first | exact HB.out | apply below_alloc | apply pw_below_drewN | apply below_drew1 | refine below_set ?_ GE680.out) | exact HB.out)⟩⟩
                                  · rw [if_neg c47] at H
                                    have c47b0 : ((Int.tmod a2 2) == 0) = false := beq_eq_false_iff_ne.mpr c47
                                    have c47b1 : ((Int.tmod a2 2) != 0) = true := bne_iff_ne.mpr c47
                                    replace H := Option.bind_eq_some_iff.mp H
                                    obtain ⟨⟨t708, t709, t710, t711, t712, t713, t714, t715⟩, A540, H⟩ := H
                                    replace H : (if x13_39 > x11_4 then (none) else (if t708 = 0 then (none) else (drayagelaw14_SagaEnds.l2 kj39 l0 a2 x11_4 x13_39 t708 t709 t710 t711 t712 t713 t714))) = some r := H
                                    have A54 := Aside0.mk A540
                                    clear A540
                                    by_cases c55 : x13_39 > x11_4
                                    · rw [if_pos c55] at H
                                      exact absurd H (by simp)
                                    · rw [if_neg c55] at H
                                      have c55b0 : decide (x11_4 < x13_39) = false := decide_eq_false c55
                                      clear c55
                                      by_cases c56 : t708 = 0
                                      · rw [if_pos c56] at H
                                        exact absurd H (by simp)
                                      · rw [if_neg c56] at H
                                        have c56b0 : (t708 == 0) = false := beq_eq_false_iff_ne.mpr c56
                                        have c56b1 : (t708 != 0) = true := bne_iff_ne.mpr c56
                                        have H' := Aside0.mk H
                                        clear H
                                        obtain ⟨hcz57_0, hcz57_1, hcz57_2, hcz57_3, hcz57_4, hcz57_5, hcz57_6, hfz57_0, hfz57_1, hfz57_2, hfz57_3, hfz57_4, hfz57_5, hfz57_6⟩ := blk_all7 BK680.out
                                        go_wp2_with (first | ((with_reducible refine gate_callee (f := 15) rfl ?_); refine goesL_ (some 92) rfl rfl Try.func15 (by kernel_rfl) rfl #[.slice A0 l0.length c0, .agg #[.int .i64 x681000_39, .int .i64 x681001_39, .int .i64 x681002_39, .bool x681003_39, .int .i64 x681004_39, .bool x681005_39, .int .i64 x681006_39], .int .i64 x681001_39, .bool (x681000_39 == 2), .int .i64 3] rfl (by (try simp only [List.map_toArray, List.map_cons, List.map_nil]); first | done | rfl | (simp only [List.length_drop, List.length_take]; rfl)) ?_; (with_reducible refine (saga_Tell.calls kj39 _ _ l0 x681000_39 x681001_39 x681002_39 x681003_39 x681004_39 x681005_39 x681006_39 x681001_39 (x681000_39 == 2) 3 t708 t709 t710 t711 t712 t713 t714 t715 _ ?side1 ?side2 A54.out).mono ?_); (case side1 => repeat (first | exact (Kd.C_below HR0.out HB.out) | (with_reducible refine Kd.C_alloc ?_ _) | (with_reducible refine Kd.C_drewN ?_ _) | (with_reducible refine Kd.C_drew ?_))); (case side2 => exact HC0.out); rintro e w58 ⟨rfl, hb⟩; refine ⟨_, rfl, ?_⟩; have n0_ := Aside0.mk (blk_below (g := gb680) (o := .cells #[.int .i64 x681000_39, .int .i64 x681001_39, .int .i64 x681002_39, .bool x681003_39, .int .i64 x681004_39, .bool x681005_39, .int .i64 x681006_39] 28 (0, 0)) (by (with_reducible repeat (first | apply bd1 | apply bd2 | apply bd3)); exact BK680.out) hb); have n1_ := Aside0.mk (below_step (by repeat (first | (with_reducible first | exact HB.out | apply below_alloc | apply pw_below_drewN | apply below_drew1 | refine below_set ?_ GE680.out) | exact HB.out)) hb); clear BK680; clear HB; have BK680 := n0_; have HB := n1_; clear n0_ n1_; (try clear hb); (try clear hb2); (try clear hk); (try clear hi); obtain ⟨hcz59_0, hcz59_1, hcz59_2, hcz59_3, hcz59_4, hcz59_5, hcz59_6, hfz59_0, hfz59_1, hfz59_2, hfz59_3, hfz59_4, hfz59_5, hfz59_6⟩ := blk_all7 BK680.out))
                                        go_roundg kj39
                                        case measure => have := HJ3.out; have := HK2.out; have := HJ15.out; have := HK4.out; have := HK5.out; have := HJ39.out; omega
                                        case rel => exact ⟨(x13_39), (t708), (t709), (t710), (t711), (t712), (t713), (t714), (by first | rfl | (simp; done) | (simp [*]; done)), H', ⟨by have := HJ3.out; have := HK2.out; have := HJ15.out; have := HK4.out; have := HK5.out; have := HJ39.out; omega⟩, ⟨by (with_reducible repeat (first | apply bd1 | apply bd2 | apply bd3)); refine blk_put (cs := #[.int .i64 t708, .int .i64 t709, .int .i64 t710, .bool t711, .int .i64 t712, .bool t713, .int .i64 x681006_39]) ?_ 6 _ rfl; (with_reducible repeat (first | apply bd1 | apply bd2 | apply bd3)); refine blk_put (cs := #[.int .i64 t708, .int .i64 t709, .int .i64 t710, .bool t711, .int .i64 t712, .bool x681005_39, .int .i64 x681006_39]) ?_ 5 _ rfl; (with_reducible repeat (first | apply bd1 | apply bd2 | apply bd3)); refine blk_put (cs := #[.int .i64 t708, .int .i64 t709, .int .i64 t710, .bool t711, .int .i64 x681004_39, .bool x681005_39, .int .i64 x681006_39]) ?_ 4 _ rfl; (with_reducible repeat (first | apply bd1 | apply bd2 | apply bd3)); refine blk_put (cs := #[.int .i64 t708, .int .i64 t709, .int .i64 t710, .bool x681003_39, .int .i64 x681004_39, .bool x681005_39, .int .i64 x681006_39]) ?_ 3 _ rfl; (with_reducible repeat (first | apply bd1 | apply bd2 | apply bd3)); refine blk_put (cs := #[.int .i64 t708, .int .i64 t709, .int .i64 x681002_39, .bool x681003_39, .int .i64 x681004_39, .bool x681005_39, .int .i64 x681006_39]) ?_ 2 _ rfl; (with_reducible repeat (first | apply bd1 | apply bd2 | apply bd3)); refine blk_put (cs := #[.int .i64 t708, .int .i64 x681001_39, .int .i64 x681002_39, .bool x681003_39, .int .i64 x681004_39, .bool x681005_39, .int .i64 x681006_39]) ?_ 1 _ rfl; (with_reducible repeat (first | apply bd1 | apply bd2 | apply bd3)); refine blk_put (cs := #[.int .i64 x681000_39, .int .i64 x681001_39, .int .i64 x681002_39, .bool x681003_39, .int .i64 x681004_39, .bool x681005_39, .int .i64 x681006_39]) ?_ 0 _ rfl; (with_reducible repeat (first | apply bd1 | apply bd2 | apply bd3)); exact BK680.out⟩, ⟨by repeat (first | (with_reducible first | exact HB.out | apply below_alloc | apply pw_below_drewN | apply below_drew1 | refine below_set ?_ GE680.out) | exact HB.out)⟩⟩
                            · rw [if_neg c39] at H
                              have c39b0 : decide (x681000_5 < 3) = false := decide_eq_false c39
                              clear c39
                              replace H := Option.bind_eq_some_iff.mp H
                              obtain ⟨⟨t716, t717, t718, t719, t720, t721, t722⟩, A600, H⟩ := H
                              replace H : (if (IntKind.u64.wrap (wrap64 ((l0.length : Int) + 1))) = 0 then (none) else (drayagelaw14_SagaEnds.l3 k5 l0 (wrap64 (Int.tmod (IntKind.u64.wrap (a2)) (IntKind.u64.wrap (wrap64 ((l0.length : Int) + 1))))) 0 t716 t717 t718 t719 t720 t721 t722)) = some r := H
                              have A60 := Aside0.mk A600
                              clear A600
                              by_cases c61 : (IntKind.u64.wrap (wrap64 ((l0.length : Int) + 1))) = 0
                              · rw [if_pos c61] at H
                                exact absurd H (by simp)
                              · rw [if_neg c61] at H
                                have c61b0 : ((IntKind.u64.wrap (wrap64 ((l0.length : Int) + 1))) == 0) = false := beq_eq_false_iff_ne.mpr c61
                                have c61b1 : ((IntKind.u64.wrap (wrap64 ((l0.length : Int) + 1))) != 0) = true := bne_iff_ne.mpr c61
                                have H' := Aside0.mk H
                                clear H
                                obtain ⟨hcz62_0, hcz62_1, hcz62_2, hcz62_3, hcz62_4, hcz62_5, hcz62_6, hfz62_0, hfz62_1, hfz62_2, hfz62_3, hfz62_4, hfz62_5, hfz62_6⟩ := blk_all7 BK680.out
                                go_wp2_with (first | ((with_reducible refine gate_callee (f := 13) rfl ?_); refine goesL_ (some 103) rfl rfl Try.func13 (by kernel_rfl) rfl #[] rfl (by (try simp only [List.map_toArray, List.map_cons, List.map_nil]); first | done | rfl | (simp only [List.length_drop, List.length_take]; rfl)) ?_; (with_reducible refine (saga_Start.calls  t716 t717 t718 t719 t720 t721 t722 _ A60.out).mono ?_); rintro e w63 ⟨rfl, hb⟩; refine ⟨_, rfl, ?_⟩; have n0_ := Aside0.mk (blk_below (g := gb680) (o := .cells #[.int .i64 x681000_5, .int .i64 x681001_5, .int .i64 x681002_5, .bool x681003_5, .int .i64 x681004_5, .bool x681005_5, .int .i64 x681006_5] 28 (0, 0)) (by (with_reducible repeat (first | apply bd1 | apply bd2 | apply bd3)); exact BK680.out) hb); have n1_ := Aside0.mk (below_step (by repeat (first | (with_reducible first | exact HB.out | apply below_alloc | apply pw_below_drewN | apply below_drew1 | refine below_set ?_ GE680.out) | exact HB.out)) hb); clear BK680; clear HB; have BK680 := n0_; have HB := n1_; clear n0_ n1_; (try clear hb); (try clear hb2); (try clear hk); (try clear hi)) | ((with_reducible refine gate_dst (N := 15) rfl ?_); refine box_event ?hg (N := 15) ?hd (cs := #[.int .i64 0, .int .i64 0, .int .i64 0, .bool false, .int .i64 0, .bool false, .int .i64 0]) (t := 28) ?hr ?_; (case hd => rfl); (case hg => rfl); (case hr => first | (go_simp; done) | (go_simp; rfl)); intro gb723 hg w64 hbox hb; have n0_ := Aside0.mk (blk_below (g := gb680) (o := .cells #[.int .i64 x681000_5, .int .i64 x681001_5, .int .i64 x681002_5, .bool x681003_5, .int .i64 x681004_5, .bool x681005_5, .int .i64 x681006_5] 28 (0, 0)) (by (with_reducible repeat (first | apply bd1 | apply bd2 | apply bd3)); exact BK680.out) hb); have n1_ := Aside0.mk (below_step (by repeat (first | (with_reducible first | exact HB.out | apply below_alloc | apply pw_below_drewN | apply below_drew1 | refine below_set ?_ GE680.out) | exact HB.out)) hb); have n2_ := Aside0.mk (hbox); have n3_ := Aside0.mk ((by rw [hg]; exact (below_size (by repeat (first | (with_reducible first | exact HB.out | apply below_alloc | apply pw_below_drewN | apply below_drew1 | refine below_set ?_ GE680.out) | exact HB.out))) : w.heap.size ≤ gb723)); have n4_ := Aside0.mk ((by rw [hg]; exact (below_size (by repeat (first | (with_reducible first | exact HB.out | apply below_alloc | apply pw_below_drewN | apply below_drew1 | refine below_set ?_ GE680.out) | exact HB.out))) : w.heap.size ≤ gb723)); have n5_ := Aside0.mk ((by rw [hg]; exact Nat.ne_of_lt (blk_lt (g := gb680) (o := .cells #[.int .i64 x681000_5, .int .i64 x681001_5, .int .i64 x681002_5, .bool x681003_5, .int .i64 x681004_5, .bool x681005_5, .int .i64 x681006_5] 28 (0, 0)) (by (with_reducible repeat (first | apply bd1 | apply bd2 | apply bd3)); exact BK680.out)) : gb680 ≠ gb723)); have n6_ := Aside0.mk ((by rw [hg]; exact Nat.ne_of_gt (blk_lt (g := gb680) (o := .cells #[.int .i64 x681000_5, .int .i64 x681001_5, .int .i64 x681002_5, .bool x681003_5, .int .i64 x681004_5, .bool x681005_5, .int .i64 x681006_5] 28 (0, 0)) (by (with_reducible repeat (first | apply bd1 | apply bd2 | apply bd3)); exact BK680.out)) : gb723 ≠ gb680)); clear BK680; clear HB; have BK680 := n0_; have HB := n1_; have BK723 := n2_; have GW723 := n3_; have GE723 := n4_; have NB680_723 := n5_; have NB723_680 := n6_; clear n0_ n1_ n2_ n3_ n4_ n5_ n6_; clear hb hbox hg; have hnb65 := NB723_680.out; have hnc65 := NB680_723.out; obtain ⟨hcz66_0, hcz66_1, hcz66_2, hcz66_3, hcz66_4, hcz66_5, hcz66_6, hfz66_0, hfz66_1, hfz66_2, hfz66_3, hfz66_4, hfz66_5, hfz66_6⟩ := blk_all7 BK723.out))
                                go_loopg [17] k5 (fun kq v17 w' => ∃ (x17_6 : Int) (x724000_6 : Int) (x724001_6 : Int) (x724002_6 : Int) (x724003_6 : Bool) (x724004_6 : Int) (x724005_6 : Bool) (x724006_6 : Int), v17 = .int .i64 x17_6 ∧ Aside0 (drayagelaw14_SagaEnds.l3 kq l0 (wrap64 (Int.tmod (IntKind.u64.wrap (a2)) (IntKind.u64.wrap (wrap64 ((l0.length : Int) + 1))))) x17_6 x724000_6 x724001_6 x724002_6 x724003_6 x724004_6 x724005_6 x724006_6 = some r) ∧ Aside0 (kq ≤ k5) ∧ Aside0 (w'.heap[gb680]? = some (.cells #[.int .i64 x681000_5, .int .i64 x681001_5, .int .i64 x681002_5, .bool x681003_5, .int .i64 x681004_5, .bool x681005_5, .int .i64 x681006_5] 28 (0, 0))) ∧ Aside0 (w'.heap[gb723]? = some (.cells #[.int .i64 x724000_6, .int .i64 x724001_6, .int .i64 x724002_6, .bool x724003_6, .int .i64 x724004_6, .bool x724005_6, .int .i64 x724006_6] 28 (0, 0))) ∧ Aside0 (Below w.heap.size w w'))
                                case atStart => exact ⟨(0), (t716), (t717), (t718), (t719), (t720), (t721), (t722), (by first | rfl | (simp; done) | (simp [*]; done)), H', ⟨Nat.le_refl _⟩, ⟨by (with_reducible repeat (first | apply bd1 | apply bd2 | apply bd3)); refine blk_far ?_ NB680_723.out _; (with_reducible repeat (first | apply bd1 | apply bd2 | apply bd3)); refine blk_far ?_ NB680_723.out _; (with_reducible repeat (first | apply bd1 | apply bd2 | apply bd3)); refine blk_far ?_ NB680_723.out _; (with_reducible repeat (first | apply bd1 | apply bd2 | apply bd3)); refine blk_far ?_ NB680_723.out _; (with_reducible repeat (first | apply bd1 | apply bd2 | apply bd3)); refine blk_far ?_ NB680_723.out _; (with_reducible repeat (first | apply bd1 | apply bd2 | apply bd3)); refine blk_far ?_ NB680_723.out _; (with_reducible repeat (first | apply bd1 | apply bd2 | apply bd3)); refine blk_far ?_ NB680_723.out _; (with_reducible repeat (first | apply bd1 | apply bd2 | apply bd3)); exact BK680.out⟩, ⟨by (with_reducible repeat (first | apply bd1 | apply bd2 | apply bd3)); refine blk_put (cs := #[.int .i64 t716, .int .i64 t717, .int .i64 t718, .bool t719, .int .i64 t720, .bool t721, .int .i64 0]) ?_ 6 _ rfl; (with_reducible repeat (first | apply bd1 | apply bd2 | apply bd3)); refine blk_put (cs := #[.int .i64 t716, .int .i64 t717, .int .i64 t718, .bool t719, .int .i64 t720, .bool false, .int .i64 0]) ?_ 5 _ rfl; (with_reducible repeat (first | apply bd1 | apply bd2 | apply bd3)); refine blk_put (cs := #[.int .i64 t716, .int .i64 t717, .int .i64 t718, .bool t719, .int .i64 0, .bool false, .int .i64 0]) ?_ 4 _ rfl; (with_reducible repeat (first | apply bd1 | apply bd2 | apply bd3)); refine blk_put (cs := #[.int .i64 t716, .int .i64 t717, .int .i64 t718, .bool false, .int .i64 0, .bool false, .int .i64 0]) ?_ 3 _ rfl; (with_reducible repeat (first | apply bd1 | apply bd2 | apply bd3)); refine blk_put (cs := #[.int .i64 t716, .int .i64 t717, .int .i64 0, .bool false, .int .i64 0, .bool false, .int .i64 0]) ?_ 2 _ rfl; (with_reducible repeat (first | apply bd1 | apply bd2 | apply bd3)); refine blk_put (cs := #[.int .i64 t716, .int .i64 0, .int .i64 0, .bool false, .int .i64 0, .bool false, .int .i64 0]) ?_ 1 _ rfl; (with_reducible repeat (first | apply bd1 | apply bd2 | apply bd3)); refine blk_put (cs := #[.int .i64 0, .int .i64 0, .int .i64 0, .bool false, .int .i64 0, .bool false, .int .i64 0]) ?_ 0 _ rfl; (with_reducible repeat (first | apply bd1 | apply bd2 | apply bd3)); exact BK723.out⟩, ⟨by repeat (first | (with_reducible first | exact HB.out | apply below_alloc | apply pw_below_drewN | apply below_drew1 | refine below_set ?_ GE680.out | refine below_set ?_ GE723.out) | exact HB.out)⟩⟩
                                case round =>
                                  clear H'
                                  try clear c1
                                  try clear c2
                                  try clear p2
                                  try clear c3
                                  try clear c4
                                  try clear c5
                                  try clear c6
                                  try clear p6
                                  try clear q6
                                  try clear hx6
                                  try clear c7
                                  try clear c9
                                  try clear c10
                                  try clear c12
                                  try clear c13
                                  try clear c14
                                  try clear c15
                                  try clear c17
                                  try clear c17b0
                                  try clear c18
                                  try clear c19
                                  try clear c19b0
                                  try clear c20
                                  try clear c20b0
                                  try clear c22
                                  try clear c26
                                  try clear c34
                                  try clear c37
                                  try clear c37b0
                                  try clear c38
                                  try clear c38b0
                                  try clear c39
                                  try clear c39b0
                                  try clear c42
                                  try clear c47
                                  try clear c47b0
                                  try clear c47b1
                                  try clear c49
                                  try clear c49b0
                                  try clear c50
                                  try clear c50b0
                                  try clear c50b1
                                  try clear c55
                                  try clear c55b0
                                  try clear c56
                                  try clear c56b0
                                  try clear c56b1
                                  try clear c61
                                  try clear c61b0
                                  try clear c61b1
                                  try clear p64
                                  try clear c65
                                  try clear hcz15_0
                                  try clear hcz15_1
                                  try clear hcz15_2
                                  try clear hcz15_3
                                  try clear hcz15_4
                                  try clear hcz15_5
                                  try clear hcz15_6
                                  try clear hcz35_0
                                  try clear hcz35_1
                                  try clear hcz35_2
                                  try clear hcz35_3
                                  try clear hcz35_4
                                  try clear hcz35_5
                                  try clear hcz35_6
                                  try clear hcz36_0
                                  try clear hcz36_1
                                  try clear hcz36_2
                                  try clear hcz36_3
                                  try clear hcz36_4
                                  try clear hcz36_5
                                  try clear hcz36_6
                                  try clear hcz41_0
                                  try clear hcz41_1
                                  try clear hcz41_2
                                  try clear hcz41_3
                                  try clear hcz41_4
                                  try clear hcz41_5
                                  try clear hcz41_6
                                  try clear hcz44_0
                                  try clear hcz44_1
                                  try clear hcz44_2
                                  try clear hcz44_3
                                  try clear hcz44_4
                                  try clear hcz44_5
                                  try clear hcz44_6
                                  try clear hcz46_0
                                  try clear hcz46_1
                                  try clear hcz46_2
                                  try clear hcz46_3
                                  try clear hcz46_4
                                  try clear hcz46_5
                                  try clear hcz46_6
                                  try clear hcz51_0
                                  try clear hcz51_1
                                  try clear hcz51_2
                                  try clear hcz51_3
                                  try clear hcz51_4
                                  try clear hcz51_5
                                  try clear hcz51_6
                                  try clear hcz53_0
                                  try clear hcz53_1
                                  try clear hcz53_2
                                  try clear hcz53_3
                                  try clear hcz53_4
                                  try clear hcz53_5
                                  try clear hcz53_6
                                  try clear hcz57_0
                                  try clear hcz57_1
                                  try clear hcz57_2
                                  try clear hcz57_3
                                  try clear hcz57_4
                                  try clear hcz57_5
                                  try clear hcz57_6
                                  try clear hcz59_0
                                  try clear hcz59_1
                                  try clear hcz59_2
                                  try clear hcz59_3
                                  try clear hcz59_4
                                  try clear hcz59_5
                                  try clear hcz59_6
                                  try clear hcz62_0
                                  try clear hcz62_1
                                  try clear hcz62_2
                                  try clear hcz62_3
                                  try clear hcz62_4
                                  try clear hcz62_5
                                  try clear hcz62_6
                                  try clear hcz66_0
                                  try clear hcz66_1
                                  try clear hcz66_2
                                  try clear hcz66_3
                                  try clear hcz66_4
                                  try clear hcz66_5
                                  try clear hcz66_6
                                  try clear hfz15_0
                                  try clear hfz15_1
                                  try clear hfz15_2
                                  try clear hfz15_3
                                  try clear hfz15_4
                                  try clear hfz15_5
                                  try clear hfz15_6
                                  try clear hfz35_0
                                  try clear hfz35_1
                                  try clear hfz35_2
                                  try clear hfz35_3
                                  try clear hfz35_4
                                  try clear hfz35_5
                                  try clear hfz35_6
                                  try clear hfz36_0
                                  try clear hfz36_1
                                  try clear hfz36_2
                                  try clear hfz36_3
                                  try clear hfz36_4
                                  try clear hfz36_5
                                  try clear hfz36_6
                                  try clear hfz41_0
                                  try clear hfz41_1
                                  try clear hfz41_2
                                  try clear hfz41_3
                                  try clear hfz41_4
                                  try clear hfz41_5
                                  try clear hfz41_6
                                  try clear hfz44_0
                                  try clear hfz44_1
                                  try clear hfz44_2
                                  try clear hfz44_3
                                  try clear hfz44_4
                                  try clear hfz44_5
                                  try clear hfz44_6
                                  try clear hfz46_0
                                  try clear hfz46_1
                                  try clear hfz46_2
                                  try clear hfz46_3
                                  try clear hfz46_4
                                  try clear hfz46_5
                                  try clear hfz46_6
                                  try clear hfz51_0
                                  try clear hfz51_1
                                  try clear hfz51_2
                                  try clear hfz51_3
                                  try clear hfz51_4
                                  try clear hfz51_5
                                  try clear hfz51_6
                                  try clear hfz53_0
                                  try clear hfz53_1
                                  try clear hfz53_2
                                  try clear hfz53_3
                                  try clear hfz53_4
                                  try clear hfz53_5
                                  try clear hfz53_6
                                  try clear hfz57_0
                                  try clear hfz57_1
                                  try clear hfz57_2
                                  try clear hfz57_3
                                  try clear hfz57_4
                                  try clear hfz57_5
                                  try clear hfz57_6
                                  try clear hfz59_0
                                  try clear hfz59_1
                                  try clear hfz59_2
                                  try clear hfz59_3
                                  try clear hfz59_4
                                  try clear hfz59_5
                                  try clear hfz59_6
                                  try clear hfz62_0
                                  try clear hfz62_1
                                  try clear hfz62_2
                                  try clear hfz62_3
                                  try clear hfz62_4
                                  try clear hfz62_5
                                  try clear hfz62_6
                                  try clear hfz66_0
                                  try clear hfz66_1
                                  try clear hfz66_2
                                  try clear hfz66_3
                                  try clear hfz66_4
                                  try clear hfz66_5
                                  try clear hfz66_6
                                  try clear hx681_0
                                  try clear hx681_1
                                  try clear hx681_2
                                  try clear hx691_0
                                  try clear hx691_1
                                  try clear hx691_2
                                  try clear hx691_3
                                  try clear hx691_4
                                  try clear hx691_5
                                  try clear p2
                                  try clear p6
                                  try clear p681
                                  try clear p691
                                  try clear q6
                                  try clear q681
                                  try clear q691
                                  obtain ⟨x17_6, x724000_6, x724001_6, x724002_6, x724003_6, x724004_6, x724005_6, x724006_6, rfl, HA, HK6, BK680, BK723, HB⟩ := hrel
                                  cases gk with
                                  | zero => exact absurd HA.out (by simp [drayagelaw14_SagaEnds.l3])
                                  | succ k6 =>
                                    have H := HA.out
                                    clear HA
                                    simp only [drayagelaw14_SagaEnds.l3] at H
                                    have HC67 := Aside0.mk H
                                    clear H
                                    go_upto_region 30 with (fail)
                                    go_cut [122] (fun v122 wc => ∃ (kq : Nat) (x122_66 : Bool), v122 = .bool x122_66 ∧ Aside0 (drayagelaw14_SagaEnds.j7 kq l0 (wrap64 (Int.tmod (IntKind.u64.wrap (a2)) (IntKind.u64.wrap (wrap64 ((l0.length : Int) + 1))))) x17_6 x122_66 x724000_6 x724001_6 x724002_6 x724003_6 x724004_6 x724005_6 x724006_6 = some r) ∧ Aside0 (kq ≤ k6) ∧ Aside0 (wc.heap[gb680]? = some (.cells #[.int .i64 x681000_5, .int .i64 x681001_5, .int .i64 x681002_5, .bool x681003_5, .int .i64 x681004_5, .bool x681005_5, .int .i64 x681006_5] 28 (0, 0))) ∧ Aside0 (wc.heap[gb723]? = some (.cells #[.int .i64 x724000_6, .int .i64 x724001_6, .int .i64 x724002_6, .bool x724003_6, .int .i64 x724004_6, .bool x724005_6, .int .i64 x724006_6] 28 (0, 0))) ∧ Aside0 (Below w.heap.size w wc))
                                    case first =>
                                      have H := HC67.out
                                      clear HC67
                                      by_cases c68 : x17_6 < (wrap64 ((wrap64 (2 * (l0.length : Int))) + 1))
                                      · rw [if_pos c68] at H
                                        have c68b0 : decide (x17_6 < (wrap64 ((wrap64 (2 * (l0.length : Int))) + 1))) = true := decide_eq_true c68
                                        clear c68
                                        (first | rw [c68b0] | (simp only [i64_w, i32_w]; rw [c68b0]) | skip)
                                        have H' := Aside0.mk H
                                        clear H
                                        have hnb69 := NB723_680.out
                                        have hnc69 := NB680_723.out
                                        obtain ⟨hcz70_0, hcz70_1, hcz70_2, hcz70_3, hcz70_4, hcz70_5, hcz70_6, hfz70_0, hfz70_1, hfz70_2, hfz70_3, hfz70_4, hfz70_5, hfz70_6⟩ := blk_all7 BK723.out
                                        go_wp2
                                        go_meet
                                        case rel => exact ⟨_, (decide (x724000_6 < 3)), (by first | rfl | (simp; done) | (simp [*]; done)), H', ⟨by have := HJ3.out; have := HK2.out; have := HJ15.out; have := HK4.out; have := HK5.out; have := HK6.out; first | omega | exact Nat.le_refl _⟩, ⟨by (with_reducible repeat (first | apply bd1 | apply bd2 | apply bd3)); exact BK680.out⟩, ⟨by (with_reducible repeat (first | apply bd1 | apply bd2 | apply bd3)); exact BK723.out⟩, ⟨by repeat (first | (with_reducible first | exact HB.out | apply below_alloc | apply pw_below_drewN | apply below_drew1 | refine below_set ?_ GE680.out | refine below_set ?_ GE723.out) | exact HB.out)⟩⟩
                                      · rw [if_neg c68] at H
                                        have c68b0 : decide (x17_6 < (wrap64 ((wrap64 (2 * (l0.length : Int))) + 1))) = false := decide_eq_false c68
                                        clear c68
                                        (first | rw [c68b0] | (simp only [i64_w, i32_w]; rw [c68b0]) | skip)
                                        have H' := Aside0.mk H
                                        clear H
                                        go_wp2
                                        go_meet
                                        case rel => exact ⟨_, (false), (by first | rfl | (simp; done) | (simp [*]; done)), H', ⟨by have := HJ3.out; have := HK2.out; have := HJ15.out; have := HK4.out; have := HK5.out; have := HK6.out; first | omega | exact Nat.le_refl _⟩, ⟨by (with_reducible repeat (first | apply bd1 | apply bd2 | apply bd3)); exact BK680.out⟩, ⟨by (with_reducible repeat (first | apply bd1 | apply bd2 | apply bd3)); exact BK723.out⟩, ⟨by repeat (first | (with_reducible first | exact HB.out | apply below_alloc | apply pw_below_drewN | apply below_drew1 | refine below_set ?_ GE680.out | refine below_set ?_ GE723.out) | exact HB.out)⟩⟩
                                    case rest =>
                                      clear HC67
                                      try clear c1
                                      try clear c2
                                      try clear p2
                                      try clear c3
                                      try clear c4
                                      try clear c5
                                      try clear c6
                                      try clear p6
                                      try clear q6
                                      try clear hx6
                                      try clear c7
                                      try clear c9
                                      try clear c10
                                      try clear c12
                                      try clear c13
                                      try clear c14
                                      try clear c15
                                      try clear c17
                                      try clear c17b0
                                      try clear c18
                                      try clear c19
                                      try clear c19b0
                                      try clear c20
                                      try clear c20b0
                                      try clear c22
                                      try clear c26
                                      try clear c34
                                      try clear c37
                                      try clear c37b0
                                      try clear c38
                                      try clear c38b0
                                      try clear c39
                                      try clear c39b0
                                      try clear c42
                                      try clear c47
                                      try clear c47b0
                                      try clear c47b1
                                      try clear c49
                                      try clear c49b0
                                      try clear c50
                                      try clear c50b0
                                      try clear c50b1
                                      try clear c55
                                      try clear c55b0
                                      try clear c56
                                      try clear c56b0
                                      try clear c56b1
                                      try clear c61
                                      try clear c61b0
                                      try clear c61b1
                                      try clear p64
                                      try clear c65
                                      try clear c68
                                      try clear c68b0
                                      try clear p68
                                      try clear q68
                                      try clear hx68
                                      try clear c69
                                      try clear p69
                                      try clear q69
                                      try clear hx69
                                      try clear hcz15_0
                                      try clear hcz15_1
                                      try clear hcz15_2
                                      try clear hcz15_3
                                      try clear hcz15_4
                                      try clear hcz15_5
                                      try clear hcz15_6
                                      try clear hcz35_0
                                      try clear hcz35_1
                                      try clear hcz35_2
                                      try clear hcz35_3
                                      try clear hcz35_4
                                      try clear hcz35_5
                                      try clear hcz35_6
                                      try clear hcz36_0
                                      try clear hcz36_1
                                      try clear hcz36_2
                                      try clear hcz36_3
                                      try clear hcz36_4
                                      try clear hcz36_5
                                      try clear hcz36_6
                                      try clear hcz41_0
                                      try clear hcz41_1
                                      try clear hcz41_2
                                      try clear hcz41_3
                                      try clear hcz41_4
                                      try clear hcz41_5
                                      try clear hcz41_6
                                      try clear hcz44_0
                                      try clear hcz44_1
                                      try clear hcz44_2
                                      try clear hcz44_3
                                      try clear hcz44_4
                                      try clear hcz44_5
                                      try clear hcz44_6
                                      try clear hcz46_0
                                      try clear hcz46_1
                                      try clear hcz46_2
                                      try clear hcz46_3
                                      try clear hcz46_4
                                      try clear hcz46_5
                                      try clear hcz46_6
                                      try clear hcz51_0
                                      try clear hcz51_1
                                      try clear hcz51_2
                                      try clear hcz51_3
                                      try clear hcz51_4
                                      try clear hcz51_5
                                      try clear hcz51_6
                                      try clear hcz53_0
                                      try clear hcz53_1
                                      try clear hcz53_2
                                      try clear hcz53_3
                                      try clear hcz53_4
                                      try clear hcz53_5
                                      try clear hcz53_6
                                      try clear hcz57_0
                                      try clear hcz57_1
                                      try clear hcz57_2
                                      try clear hcz57_3
                                      try clear hcz57_4
                                      try clear hcz57_5
                                      try clear hcz57_6
                                      try clear hcz59_0
                                      try clear hcz59_1
                                      try clear hcz59_2
                                      try clear hcz59_3
                                      try clear hcz59_4
                                      try clear hcz59_5
                                      try clear hcz59_6
                                      try clear hcz62_0
                                      try clear hcz62_1
                                      try clear hcz62_2
                                      try clear hcz62_3
                                      try clear hcz62_4
                                      try clear hcz62_5
                                      try clear hcz62_6
                                      try clear hcz66_0
                                      try clear hcz66_1
                                      try clear hcz66_2
                                      try clear hcz66_3
                                      try clear hcz66_4
                                      try clear hcz66_5
                                      try clear hcz66_6
                                      try clear hcz70_0
                                      try clear hcz70_1
                                      try clear hcz70_2
                                      try clear hcz70_3
                                      try clear hcz70_4
                                      try clear hcz70_5
                                      try clear hcz70_6
                                      try clear hfz15_0
                                      try clear hfz15_1
                                      try clear hfz15_2
                                      try clear hfz15_3
                                      try clear hfz15_4
                                      try clear hfz15_5
                                      try clear hfz15_6
                                      try clear hfz35_0
                                      try clear hfz35_1
                                      try clear hfz35_2
                                      try clear hfz35_3
                                      try clear hfz35_4
                                      try clear hfz35_5
                                      try clear hfz35_6
                                      try clear hfz36_0
                                      try clear hfz36_1
                                      try clear hfz36_2
                                      try clear hfz36_3
                                      try clear hfz36_4
                                      try clear hfz36_5
                                      try clear hfz36_6
                                      try clear hfz41_0
                                      try clear hfz41_1
                                      try clear hfz41_2
                                      try clear hfz41_3
                                      try clear hfz41_4
                                      try clear hfz41_5
                                      try clear hfz41_6
                                      try clear hfz44_0
                                      try clear hfz44_1
                                      try clear hfz44_2
                                      try clear hfz44_3
                                      try clear hfz44_4
                                      try clear hfz44_5
                                      try clear hfz44_6
                                      try clear hfz46_0
                                      try clear hfz46_1
                                      try clear hfz46_2
                                      try clear hfz46_3
                                      try clear hfz46_4
                                      try clear hfz46_5
                                      try clear hfz46_6
                                      try clear hfz51_0
                                      try clear hfz51_1
                                      try clear hfz51_2
                                      try clear hfz51_3
                                      try clear hfz51_4
                                      try clear hfz51_5
                                      try clear hfz51_6
                                      try clear hfz53_0
                                      try clear hfz53_1
                                      try clear hfz53_2
                                      try clear hfz53_3
                                      try clear hfz53_4
                                      try clear hfz53_5
                                      try clear hfz53_6
                                      try clear hfz57_0
                                      try clear hfz57_1
                                      try clear hfz57_2
                                      try clear hfz57_3
                                      try clear hfz57_4
                                      try clear hfz57_5
                                      try clear hfz57_6
                                      try clear hfz59_0
                                      try clear hfz59_1
                                      try clear hfz59_2
                                      try clear hfz59_3
                                      try clear hfz59_4
                                      try clear hfz59_5
                                      try clear hfz59_6
                                      try clear hfz62_0
                                      try clear hfz62_1
                                      try clear hfz62_2
                                      try clear hfz62_3
                                      try clear hfz62_4
                                      try clear hfz62_5
                                      try clear hfz62_6
                                      try clear hfz66_0
                                      try clear hfz66_1
                                      try clear hfz66_2
                                      try clear hfz66_3
                                      try clear hfz66_4
                                      try clear hfz66_5
                                      try clear hfz66_6
                                      try clear hfz70_0
                                      try clear hfz70_1
                                      try clear hfz70_2
                                      try clear hfz70_3
                                      try clear hfz70_4
                                      try clear hfz70_5
                                      try clear hfz70_6
                                      try clear hx681_0
                                      try clear hx681_1
                                      try clear hx681_2
                                      try clear hx691_0
                                      try clear hx691_1
                                      try clear hx691_2
                                      try clear hx691_3
                                      try clear hx691_4
                                      try clear hx691_5
                                      try clear p2
                                      try clear p6
                                      try clear p64
                                      try clear p681
                                      try clear p691
                                      try clear q6
                                      try clear q681
                                      try clear q691
                                      obtain ⟨kq, x122_66, rfl, HA, HJ66, BK680, BK723, HB⟩ := hcut
                                      cases kq with
                                      | zero => exact absurd HA.out (by simp [drayagelaw14_SagaEnds.j7])
                                      | succ kj66 =>
                                        have H := HA.out
                                        clear HA
                                        simp only [drayagelaw14_SagaEnds.j7] at H
                                        by_cases c71 : x122_66 = true
                                        · subst c71
                                          have H1 : (if x724000_6 = 1 then (drayagelaw14_SagaEnds.j8 kj66 l0 (wrap64 (Int.tmod (IntKind.u64.wrap (a2)) (IntKind.u64.wrap (wrap64 ((l0.length : Int) + 1))))) x17_6 1 (x724001_6 == (wrap64 (Int.tmod (IntKind.u64.wrap (a2)) (IntKind.u64.wrap (wrap64 ((l0.length : Int) + 1)))))) x724000_6 x724001_6 x724002_6 x724003_6 x724004_6 x724005_6 x724006_6) else (drayagelaw14_SagaEnds.j8 kj66 l0 (wrap64 (Int.tmod (IntKind.u64.wrap (a2)) (IntKind.u64.wrap (wrap64 ((l0.length : Int) + 1))))) x17_6 1 false x724000_6 x724001_6 x724002_6 x724003_6 x724004_6 x724005_6 x724006_6)) = some r := by rw [if_pos rfl] at H; exact H
                                          clear H
                                          have H := H1
                                          clear H1
                                          have HC72 := Aside0.mk H
                                          clear H
                                          go_upto_region 33 with (fail)
                                          go_cut [133] (fun v133 wc => ∃ (kq : Nat) (x133_71 : Bool), v133 = .bool x133_71 ∧ Aside0 (drayagelaw14_SagaEnds.j8 kq l0 (wrap64 (Int.tmod (IntKind.u64.wrap (a2)) (IntKind.u64.wrap (wrap64 ((l0.length : Int) + 1))))) x17_6 1 x133_71 x724000_6 x724001_6 x724002_6 x724003_6 x724004_6 x724005_6 x724006_6 = some r) ∧ Aside0 (kq ≤ kj66) ∧ Aside0 (wc.heap[gb680]? = some (.cells #[.int .i64 x681000_5, .int .i64 x681001_5, .int .i64 x681002_5, .bool x681003_5, .int .i64 x681004_5, .bool x681005_5, .int .i64 x681006_5] 28 (0, 0))) ∧ Aside0 (wc.heap[gb723]? = some (.cells #[.int .i64 x724000_6, .int .i64 x724001_6, .int .i64 x724002_6, .bool x724003_6, .int .i64 x724004_6, .bool x724005_6, .int .i64 x724006_6] 28 (0, 0))) ∧ Aside0 (Below w.heap.size w wc))
                                          case first =>
                                            have H := HC72.out
                                            clear HC72
                                            by_cases c73 : x724000_6 = 1
                                            · rw [if_pos c73] at H
                                              have c73b0 : (x724000_6 == 1) = true := beq_iff_eq.mpr c73
                                              have c73b1 : (x724000_6 != 1) = false := bne_eq_false_iff_eq.mpr c73
                                              clear c73
                                              (first | rw [c73b0] | (simp only [i64_w, i32_w]; rw [c73b0]) | skip)
                                              have H' := Aside0.mk H
                                              clear H
                                              have hnb74 := NB723_680.out
                                              have hnc74 := NB680_723.out
                                              obtain ⟨hcz75_0, hcz75_1, hcz75_2, hcz75_3, hcz75_4, hcz75_5, hcz75_6, hfz75_0, hfz75_1, hfz75_2, hfz75_3, hfz75_4, hfz75_5, hfz75_6⟩ := blk_all7 BK723.out
                                              go_wp2
                                              go_meet
                                              case rel => exact ⟨_, ((x724001_6 == (wrap64 (Int.tmod (IntKind.u64.wrap (a2)) (IntKind.u64.wrap (wrap64 ((l0.length : Int) + 1))))))), (by first | rfl | (simp; done) | (simp [*]; done)), H', ⟨by have := HJ3.out; have := HK2.out; have := HJ15.out; have := HK4.out; have := HK5.out; have := HK6.out; have := HJ66.out; first | omega | exact Nat.le_refl _⟩, ⟨by (with_reducible repeat (first | apply bd1 | apply bd2 | apply bd3)); exact BK680.out⟩, ⟨by (with_reducible repeat (first | apply bd1 | apply bd2 | apply bd3)); exact BK723.out⟩, ⟨by repeat (first | (with_reducible first | exact HB.out | apply below_alloc | apply pw_below_drewN | apply below_drew1 | refine below_set ?_ GE680.out | refine below_set ?_ GE723.out) | exact HB.out)⟩⟩
                                            · rw [if_neg c73] at H
                                              have c73b0 : (x724000_6 == 1) = false := beq_eq_false_iff_ne.mpr c73
                                              have c73b1 : (x724000_6 != 1) = true := bne_iff_ne.mpr c73
                                              (first | rw [c73b0] | (simp only [i64_w, i32_w]; rw [c73b0]) | skip)
                                              have H' := Aside0.mk H
                                              clear H
                                              have hnb76 := NB723_680.out
                                              have hnc76 := NB680_723.out
                                              obtain ⟨hcz77_0, hcz77_1, hcz77_2, hcz77_3, hcz77_4, hcz77_5, hcz77_6, hfz77_0, hfz77_1, hfz77_2, hfz77_3, hfz77_4, hfz77_5, hfz77_6⟩ := blk_all7 BK723.out
                                              go_wp2
                                              go_meet
                                              case rel => exact ⟨_, (false), (by first | rfl | (simp; done) | (simp [*]; done)), H', ⟨by have := HJ3.out; have := HK2.out; have := HJ15.out; have := HK4.out; have := HK5.out; have := HK6.out; have := HJ66.out; first | omega | exact Nat.le_refl _⟩, ⟨by (with_reducible repeat (first | apply bd1 | apply bd2 | apply bd3)); exact BK680.out⟩, ⟨by (with_reducible repeat (first | apply bd1 | apply bd2 | apply bd3)); exact BK723.out⟩, ⟨by repeat (first | (with_reducible first | exact HB.out | apply below_alloc | apply pw_below_drewN | apply below_drew1 | refine below_set ?_ GE680.out | refine below_set ?_ GE723.out) | exact HB.out)⟩⟩
                                          case rest =>
                                            clear HC72
                                            try clear c1
                                            try clear c2
                                            try clear p2
                                            try clear c3
                                            try clear c4
                                            try clear c5
                                            try clear c6
                                            try clear p6
                                            try clear q6
                                            try clear hx6
                                            try clear c7
                                            try clear c9
                                            try clear c10
                                            try clear c12
                                            try clear c13
                                            try clear c14
                                            try clear c15
                                            try clear c17
                                            try clear c17b0
                                            try clear c18
                                            try clear c19
                                            try clear c19b0
                                            try clear c20
                                            try clear c20b0
                                            try clear c22
                                            try clear c26
                                            try clear c34
                                            try clear c37
                                            try clear c37b0
                                            try clear c38
                                            try clear c38b0
                                            try clear c39
                                            try clear c39b0
                                            try clear c42
                                            try clear c47
                                            try clear c47b0
                                            try clear c47b1
                                            try clear c49
                                            try clear c49b0
                                            try clear c50
                                            try clear c50b0
                                            try clear c50b1
                                            try clear c55
                                            try clear c55b0
                                            try clear c56
                                            try clear c56b0
                                            try clear c56b1
                                            try clear c61
                                            try clear c61b0
                                            try clear c61b1
                                            try clear p64
                                            try clear c65
                                            try clear c68
                                            try clear c68b0
                                            try clear p68
                                            try clear q68
                                            try clear hx68
                                            try clear c69
                                            try clear p69
                                            try clear q69
                                            try clear hx69
                                            try clear c71
                                            try clear c73
                                            try clear c73b0
                                            try clear c73b1
                                            try clear c74
                                            try clear c76
                                            try clear hcz15_0
                                            try clear hcz15_1
                                            try clear hcz15_2
                                            try clear hcz15_3
                                            try clear hcz15_4
                                            try clear hcz15_5
                                            try clear hcz15_6
                                            try clear hcz35_0
                                            try clear hcz35_1
                                            try clear hcz35_2
                                            try clear hcz35_3
                                            try clear hcz35_4
                                            try clear hcz35_5
                                            try clear hcz35_6
                                            try clear hcz36_0
                                            try clear hcz36_1
                                            try clear hcz36_2
                                            try clear hcz36_3
                                            try clear hcz36_4
                                            try clear hcz36_5
                                            try clear hcz36_6
                                            try clear hcz41_0
                                            try clear hcz41_1
                                            try clear hcz41_2
                                            try clear hcz41_3
                                            try clear hcz41_4
                                            try clear hcz41_5
                                            try clear hcz41_6
                                            try clear hcz44_0
                                            try clear hcz44_1
                                            try clear hcz44_2
                                            try clear hcz44_3
                                            try clear hcz44_4
                                            try clear hcz44_5
                                            try clear hcz44_6
                                            try clear hcz46_0
                                            try clear hcz46_1
                                            try clear hcz46_2
                                            try clear hcz46_3
                                            try clear hcz46_4
                                            try clear hcz46_5
                                            try clear hcz46_6
                                            try clear hcz51_0
                                            try clear hcz51_1
                                            try clear hcz51_2
                                            try clear hcz51_3
                                            try clear hcz51_4
                                            try clear hcz51_5
                                            try clear hcz51_6
                                            try clear hcz53_0
                                            try clear hcz53_1
                                            try clear hcz53_2
                                            try clear hcz53_3
                                            try clear hcz53_4
                                            try clear hcz53_5
                                            try clear hcz53_6
                                            try clear hcz57_0
                                            try clear hcz57_1
                                            try clear hcz57_2
                                            try clear hcz57_3
                                            try clear hcz57_4
                                            try clear hcz57_5
                                            try clear hcz57_6
                                            try clear hcz59_0
                                            try clear hcz59_1
                                            try clear hcz59_2
                                            try clear hcz59_3
                                            try clear hcz59_4
                                            try clear hcz59_5
                                            try clear hcz59_6
                                            try clear hcz62_0
                                            try clear hcz62_1
                                            try clear hcz62_2
                                            try clear hcz62_3
                                            try clear hcz62_4
                                            try clear hcz62_5
                                            try clear hcz62_6
                                            try clear hcz66_0
                                            try clear hcz66_1
                                            try clear hcz66_2
                                            try clear hcz66_3
                                            try clear hcz66_4
                                            try clear hcz66_5
                                            try clear hcz66_6
                                            try clear hcz70_0
                                            try clear hcz70_1
                                            try clear hcz70_2
                                            try clear hcz70_3
                                            try clear hcz70_4
                                            try clear hcz70_5
                                            try clear hcz70_6
                                            try clear hcz75_0
                                            try clear hcz75_1
                                            try clear hcz75_2
                                            try clear hcz75_3
                                            try clear hcz75_4
                                            try clear hcz75_5
                                            try clear hcz75_6
                                            try clear hcz77_0
                                            try clear hcz77_1
                                            try clear hcz77_2
                                            try clear hcz77_3
                                            try clear hcz77_4
                                            try clear hcz77_5
                                            try clear hcz77_6
                                            try clear hfz15_0
                                            try clear hfz15_1
                                            try clear hfz15_2
                                            try clear hfz15_3
                                            try clear hfz15_4
                                            try clear hfz15_5
                                            try clear hfz15_6
                                            try clear hfz35_0
                                            try clear hfz35_1
                                            try clear hfz35_2
                                            try clear hfz35_3
                                            try clear hfz35_4
                                            try clear hfz35_5
                                            try clear hfz35_6
                                            try clear hfz36_0
                                            try clear hfz36_1
                                            try clear hfz36_2
                                            try clear hfz36_3
                                            try clear hfz36_4
                                            try clear hfz36_5
                                            try clear hfz36_6
                                            try clear hfz41_0
                                            try clear hfz41_1
                                            try clear hfz41_2
                                            try clear hfz41_3
                                            try clear hfz41_4
                                            try clear hfz41_5
                                            try clear hfz41_6
                                            try clear hfz44_0
                                            try clear hfz44_1
                                            try clear hfz44_2
                                            try clear hfz44_3
                                            try clear hfz44_4
                                            try clear hfz44_5
                                            try clear hfz44_6
                                            try clear hfz46_0
                                            try clear hfz46_1
                                            try clear hfz46_2
                                            try clear hfz46_3
                                            try clear hfz46_4
                                            try clear hfz46_5
                                            try clear hfz46_6
                                            try clear hfz51_0
                                            try clear hfz51_1
                                            try clear hfz51_2
                                            try clear hfz51_3
                                            try clear hfz51_4
                                            try clear hfz51_5
                                            try clear hfz51_6
                                            try clear hfz53_0
                                            try clear hfz53_1
                                            try clear hfz53_2
                                            try clear hfz53_3
                                            try clear hfz53_4
                                            try clear hfz53_5
                                            try clear hfz53_6
                                            try clear hfz57_0
                                            try clear hfz57_1
                                            try clear hfz57_2
                                            try clear hfz57_3
                                            try clear hfz57_4
                                            try clear hfz57_5
                                            try clear hfz57_6
                                            try clear hfz59_0
                                            try clear hfz59_1
                                            try clear hfz59_2
                                            try clear hfz59_3
                                            try clear hfz59_4
                                            try clear hfz59_5
                                            try clear hfz59_6
                                            try clear hfz62_0
                                            try clear hfz62_1
                                            try clear hfz62_2
                                            try clear hfz62_3
                                            try clear hfz62_4
                                            try clear hfz62_5
                                            try clear hfz62_6
                                            try clear hfz66_0
                                            try clear hfz66_1
                                            try clear hfz66_2
                                            try clear hfz66_3
                                            try clear hfz66_4
                                            try clear hfz66_5
                                            try clear hfz66_6
                                            try clear hfz70_0
                                            try clear hfz70_1
                                            try clear hfz70_2
                                            try clear hfz70_3
                                            try clear hfz70_4
                                            try clear hfz70_5
                                            try clear hfz70_6
                                            try clear hfz75_0
                                            try clear hfz75_1
                                            try clear hfz75_2
                                            try clear hfz75_3
                                            try clear hfz75_4
                                            try clear hfz75_5
                                            try clear hfz75_6
                                            try clear hfz77_0
                                            try clear hfz77_1
                                            try clear hfz77_2
                                            try clear hfz77_3
                                            try clear hfz77_4
                                            try clear hfz77_5
                                            try clear hfz77_6
                                            try clear hx681_0
                                            try clear hx681_1
                                            try clear hx681_2
                                            try clear hx691_0
                                            try clear hx691_1
                                            try clear hx691_2
                                            try clear hx691_3
                                            try clear hx691_4
                                            try clear hx691_5
                                            try clear p2
                                            try clear p6
                                            try clear p64
                                            try clear p68
                                            try clear p681
                                            try clear p69
                                            try clear p691
                                            try clear q6
                                            try clear q68
                                            try clear q681
                                            try clear q69
                                            try clear q691
                                            obtain ⟨kq, x133_71, rfl, HA, HJ71, BK680, BK723, HB⟩ := hcut
                                            cases kq with
                                            | zero => exact absurd HA.out (by simp [drayagelaw14_SagaEnds.j8])
                                            | succ kj71 =>
                                              have H := HA.out
                                              clear HA
                                              simp only [drayagelaw14_SagaEnds.j8] at H
                                              by_cases c78 : x133_71 = true
                                              · subst c78
                                                have H1 : ((saga_Ask.f kj71 l0 x724000_6 x724001_6 x724002_6 x724003_6 x724004_6 x724005_6 x724006_6).bind fun bt726 => ((saga_Tell.f kj71 l0 bt726.1 bt726.2.1 bt726.2.2.1 bt726.2.2.2.1 bt726.2.2.2.2.1 bt726.2.2.2.2.2.1 bt726.2.2.2.2.2.2.1 bt726.2.1 (bt726.1 == 2) 2).bind fun bt734 => (drayagelaw14_SagaEnds.l3 kj71 l0 (wrap64 (Int.tmod (IntKind.u64.wrap (a2)) (IntKind.u64.wrap (wrap64 ((l0.length : Int) + 1))))) (wrap64 (x17_6 + 1)) bt734.1 bt734.2.1 bt734.2.2.1 bt734.2.2.2.1 bt734.2.2.2.2.1 bt734.2.2.2.2.2.1 bt734.2.2.2.2.2.2.1))) = some r := by rw [if_pos rfl] at H; exact H
                                                clear H
                                                have H := H1
                                                clear H1
                                                replace H := Option.bind_eq_some_iff.mp H
                                                obtain ⟨⟨t726, t727, t728, t729, t730, t731, t732, t733⟩, A790, H⟩ := H
                                                replace H : ((saga_Tell.f kj71 l0 t726 t727 t728 t729 t730 t731 t732 t727 (t726 == 2) 2).bind fun bt734 => (drayagelaw14_SagaEnds.l3 kj71 l0 (wrap64 (Int.tmod (IntKind.u64.wrap (a2)) (IntKind.u64.wrap (wrap64 ((l0.length : Int) + 1))))) (wrap64 (x17_6 + 1)) bt734.1 bt734.2.1 bt734.2.2.1 bt734.2.2.2.1 bt734.2.2.2.2.1 bt734.2.2.2.2.2.1 bt734.2.2.2.2.2.2.1)) = some r := H
                                                have A79 := Aside0.mk A790
                                                clear A790
                                                replace H := Option.bind_eq_some_iff.mp H
                                                obtain ⟨⟨t734, t735, t736, t737, t738, t739, t740, t741⟩, A800, H⟩ := H
                                                replace H : (drayagelaw14_SagaEnds.l3 kj71 l0 (wrap64 (Int.tmod (IntKind.u64.wrap (a2)) (IntKind.u64.wrap (wrap64 ((l0.length : Int) + 1))))) (wrap64 (x17_6 + 1)) t734 t735 t736 t737 t738 t739 t740) = some r := H
                                                have A80 := Aside0.mk A800
                                                clear A800
                                                have H' := Aside0.mk H
                                                clear H
                                                have hnb81 := NB723_680.out
                                                have hnc81 := NB680_723.out
                                                obtain ⟨hcz82_0, hcz82_1, hcz82_2, hcz82_3, hcz82_4, hcz82_5, hcz82_6, hfz82_0, hfz82_1, hfz82_2, hfz82_3, hfz82_4, hfz82_5, hfz82_6⟩ := blk_all7 BK723.out
                                                go_wp2_with (first | ((with_reducible refine gate_callee (f := 14) rfl ?_); refine goesL_ (some 137) rfl rfl Try.func14 (by kernel_rfl) rfl #[.slice A0 l0.length c0, .agg #[.int .i64 x724000_6, .int .i64 x724001_6, .int .i64 x724002_6, .bool x724003_6, .int .i64 x724004_6, .bool x724005_6, .int .i64 x724006_6]] rfl (by (try simp only [List.map_toArray, List.map_cons, List.map_nil]); first | done | rfl | (simp only [List.length_drop, List.length_take]; rfl)) ?_; (with_reducible refine (saga_Ask.calls kj71 _ _ l0 x724000_6 x724001_6 x724002_6 x724003_6 x724004_6 x724005_6 x724006_6 t726 t727 t728 t729 t730 t731 t732 t733 _ ?side1 ?side2 A79.out).mono ?_); (case side1 => repeat (first | exact (Kd.C_below HR0.out HB.out) | (with_reducible refine Kd.C_alloc ?_ _) | (with_reducible refine Kd.C_drewN ?_ _) | (with_reducible refine Kd.C_drew ?_))); (case side2 => exact HC0.out); rintro e w83 ⟨rfl, hb⟩; refine ⟨_, rfl, ?_⟩; have n0_ := Aside0.mk (blk_below (g := gb680) (o := .cells #[.int .i64 x681000_5, .int .i64 x681001_5, .int .i64 x681002_5, .bool x681003_5, .int .i64 x681004_5, .bool x681005_5, .int .i64 x681006_5] 28 (0, 0)) (by (with_reducible repeat (first | apply bd1 | apply bd2 | apply bd3)); exact BK680.out) hb); have n1_ := Aside0.mk (blk_below (g := gb723) (o := .cells #[.int .i64 x724000_6, .int .i64 x724001_6, .int .i64 x724002_6, .bool x724003_6, .int .i64 x724004_6, .bool x724005_6, .int .i64 x724006_6] 28 (0, 0)) (by (with_reducible repeat (first | apply bd1 | apply bd2 | apply bd3)); exact BK723.out) hb); have n2_ := Aside0.mk (below_step (by repeat (first | (with_reducible first | exact HB.out | apply below_alloc | apply pw_below_drewN | apply below_drew1 | refine below_set ?_ GE680.out | refine below_set ?_ GE723.out) | exact HB.out)) hb); clear BK680; clear BK723; clear HB; have BK680 := n0_; have BK723 := n1_; have HB := n2_; clear n0_ n1_ n2_; (try clear hb); (try clear hb2); (try clear hk); (try clear hi); obtain ⟨hcz84_0, hcz84_1, hcz84_2, hcz84_3, hcz84_4, hcz84_5, hcz84_6, hfz84_0, hfz84_1, hfz84_2, hfz84_3, hfz84_4, hfz84_5, hfz84_6⟩ := blk_all7 BK723.out) | ((with_reducible refine gate_callee (f := 15) rfl ?_); refine goesL_ (some 149) rfl rfl Try.func15 (by kernel_rfl) rfl #[.slice A0 l0.length c0, .agg #[.int .i64 t726, .int .i64 t727, .int .i64 t728, .bool t729, .int .i64 t730, .bool t731, .int .i64 t732], .int .i64 t727, .bool (t726 == 2), .int .i64 2] rfl (by (try simp only [List.map_toArray, List.map_cons, List.map_nil]); first | done | rfl | (simp only [List.length_drop, List.length_take]; rfl)) ?_; (with_reducible refine (saga_Tell.calls kj71 _ _ l0 t726 t727 t728 t729 t730 t731 t732 t727 (t726 == 2) 2 t734 t735 t736 t737 t738 t739 t740 t741 _ ?side1 ?side2 A80.out).mono ?_); (case side1 => exact Kd.C_below HR0.out (by repeat (first | (with_reducible first | exact HB.out | apply below_alloc | apply pw_below_drewN | apply below_drew1 | refine below_set ?_ GE680.out | refine below_set ?_ GE723.out) | exact HB.out))); (case side2 => exact HC0.out); rintro e w85 ⟨rfl, hb⟩; refine ⟨_, rfl, ?_⟩; have n0_ := Aside0.mk (blk_below (g := gb680) (o := .cells #[.int .i64 x681000_5, .int .i64 x681001_5, .int .i64 x681002_5, .bool x681003_5, .int .i64 x681004_5, .bool x681005_5, .int .i64 x681006_5] 28 (0, 0)) (by (with_reducible repeat (first | apply bd1 | apply bd2 | apply bd3)); refine blk_far ?_ NB680_723.out _; (with_reducible repeat (first | apply bd1 | apply bd2 | apply bd3)); refine blk_far ?_ NB680_723.out _; (with_reducible repeat (first | apply bd1 | apply bd2 | apply bd3)); refine blk_far ?_ NB680_723.out _; (with_reducible repeat (first | apply bd1 | apply bd2 | apply bd3)); refine blk_far ?_ NB680_723.out _; (with_reducible repeat (first | apply bd1 | apply bd2 | apply bd3)); refine blk_far ?_ NB680_723.out _; (with_reducible repeat (first | apply bd1 | apply bd2 | apply bd3)); refine blk_far ?_ NB680_723.out _; (with_reducible repeat (first | apply bd1 | apply bd2 | apply bd3)); refine blk_far ?_ NB680_723.out _; (with_reducible repeat (first | apply bd1 | apply bd2 | apply bd3)); exact BK680.out) hb); have n1_ := Aside0.mk (blk_below (g := gb723) (o := .cells #[.int .i64 t726, .int .i64 t727, .int .i64 t728, .bool t729, .int .i64 t730, .bool t731, .int .i64 t732] 28 (0, 0)) (by (with_reducible repeat (first | apply bd1 | apply bd2 | apply bd3)); refine blk_put (cs := #[.int .i64 t726, .int .i64 t727, .int .i64 t728, .bool t729, .int .i64 t730, .bool t731, .int .i64 x724006_6]) ?_ 6 _ rfl; (with_reducible repeat (first | apply bd1 | apply bd2 | apply bd3)); refine blk_put (cs := #[.int .i64 t726, .int .i64 t727, .int .i64 t728, .bool t729, .int .i64 t730, .bool x724005_6, .int .i64 x724006_6]) ?_ 5 _ rfl; (with_reducible repeat (first | apply bd1 | apply bd2 | apply bd3)); refine blk_put (cs := #[.int .i64 t726, .int .i64 t727, .int .i64 t728, .bool t729, .int .i64 x724004_6, .bool x724005_6, .int .i64 x724006_6]) ?_ 4 _ rfl; (with_reducible repeat (first | apply bd1 | apply bd2 | apply bd3)); refine blk_put (cs := #[.int .i64 t726, .int .i64 t727, .int .i64 t728, .bool x724003_6, .int .i64 x724004_6, .bool x724005_6, .int .i64 x724006_6]) ?_ 3 _ rfl; (with_reducible repeat (first | apply bd1 | apply bd2 | apply bd3)); refine blk_put (cs := #[.int .i64 t726, .int .i64 t727, .int .i64 x724002_6, .bool x724003_6, .int .i64 x724004_6, .bool x724005_6, .int .i64 x724006_6]) ?_ 2 _ rfl; (with_reducible repeat (first | apply bd1 | apply bd2 | apply bd3)); refine blk_put (cs := #[.int .i64 t726, .int .i64 x724001_6, .int .i64 x724002_6, .bool x724003_6, .int .i64 x724004_6, .bool x724005_6, .int .i64 x724006_6]) ?_ 1 _ rfl; (with_reducible repeat (first | apply bd1 | apply bd2 | apply bd3)); refine blk_put (cs := #[.int .i64 x724000_6, .int .i64 x724001_6, .int .i64 x724002_6, .bool x724003_6, .int .i64 x724004_6, .bool x724005_6, .int .i64 x724006_6]) ?_ 0 _ rfl; (with_reducible repeat (first | apply bd1 | apply bd2 | apply bd3)); exact BK723.out) hb); have n2_ := Aside0.mk (below_step (by repeat (first | (with_reducible first | exact HB.out | apply below_alloc | apply pw_below_drewN | apply below_drew1 | refine below_set ?_ GE680.out | refine below_set ?_ GE723.out) | exact HB.out)) hb); clear BK680; clear BK723; clear HB; have BK680 := n0_; have BK723 := n1_; have HB := n2_; clear n0_ n1_ n2_; (try clear hb); (try clear hb2); (try clear hk); (try clear hi); obtain ⟨hcz86_0, hcz86_1, hcz86_2, hcz86_3, hcz86_4, hcz86_5, hcz86_6, hfz86_0, hfz86_1, hfz86_2, hfz86_3, hfz86_4, hfz86_5, hfz86_6⟩ := blk_all7 BK723.out))
                                                go_roundg kj71
                                                case measure => have := HJ3.out; have := HK2.out; have := HJ15.out; have := HK4.out; have := HK5.out; have := HK6.out; have := HJ66.out; have := HJ71.out; omega
                                                case rel => exact ⟨(wrap64 (x17_6 + 1)), (t734), (t735), (t736), (t737), (t738), (t739), (t740), (by first | rfl | (simp; done) | (simp [*]; done)), H', ⟨by have := HJ3.out; have := HK2.out; have := HJ15.out; have := HK4.out; have := HK5.out; have := HK6.out; have := HJ66.out; have := HJ71.out; omega⟩, ⟨by (with_reducible repeat (first | apply bd1 | apply bd2 | apply bd3)); refine blk_far ?_ NB680_723.out _; (with_reducible repeat (first | apply bd1 | apply bd2 | apply bd3)); refine blk_far ?_ NB680_723.out _; (with_reducible repeat (first | apply bd1 | apply bd2 | apply bd3)); refine blk_far ?_ NB680_723.out _; (with_reducible repeat (first | apply bd1 | apply bd2 | apply bd3)); refine blk_far ?_ NB680_723.out _; (with_reducible repeat (first | apply bd1 | apply bd2 | apply bd3)); refine blk_far ?_ NB680_723.out _; (with_reducible repeat (first | apply bd1 | apply bd2 | apply bd3)); refine blk_far ?_ NB680_723.out _; (with_reducible repeat (first | apply bd1 | apply bd2 | apply bd3)); refine blk_far ?_ NB680_723.out _; (with_reducible repeat (first | apply bd1 | apply bd2 | apply bd3)); exact BK680.out⟩, ⟨by (with_reducible repeat (first | apply bd1 | apply bd2 | apply bd3)); refine blk_put (cs := #[.int .i64 t734, .int .i64 t735, .int .i64 t736, .bool t737, .int .i64 t738, .bool t739, .int .i64 t732]) ?_ 6 _ rfl; (with_reducible repeat (first | apply bd1 | apply bd2 | apply bd3)); refine blk_put (cs := #[.int .i64 t734, .int .i64 t735, .int .i64 t736, .bool t737, .int .i64 t738, .bool t731, .int .i64 t732]) ?_ 5 _ rfl; (with_reducible repeat (first | apply bd1 | apply bd2 | apply bd3)); refine blk_put (cs := #[.int .i64 t734, .int .i64 t735, .int .i64 t736, .bool t737, .int .i64 t730, .bool t731, .int .i64 t732]) ?_ 4 _ rfl; (with_reducible repeat (first | apply bd1 | apply bd2 | apply bd3)); refine blk_put (cs := #[.int .i64 t734, .int .i64 t735, .int .i64 t736, .bool t729, .int .i64 t730, .bool t731, .int .i64 t732]) ?_ 3 _ rfl; (with_reducible repeat (first | apply bd1 | apply bd2 | apply bd3)); refine blk_put (cs := #[.int .i64 t734, .int .i64 t735, .int .i64 t728, .bool t729, .int .i64 t730, .bool t731, .int .i64 t732]) ?_ 2 _ rfl; (with_reducible repeat (first | apply bd1 | apply bd2 | apply bd3)); refine blk_put (cs := #[.int .i64 t734, .int .i64 t727, .int .i64 t728, .bool t729, .int .i64 t730, .bool t731, .int .i64 t732]) ?_ 1 _ rfl; (with_reducible repeat (first | apply bd1 | apply bd2 | apply bd3)); refine blk_put (cs := #[.int .i64 t726, .int .i64 t727, .int .i64 t728, .bool t729, .int .i64 t730, .bool t731, .int .i64 t732]) ?_ 0 _ rfl; (with_reducible repeat (first | apply bd1 | apply bd2 | apply bd3)); exact BK723.out⟩, ⟨by repeat (first | (with_reducible first | exact HB.out | apply below_alloc | apply pw_below_drewN | apply below_drew1 | refine below_set ?_ GE680.out | refine below_set ?_ GE723.out) | exact HB.out)⟩⟩
                                              · replace c78 := Bool.eq_false_iff.mpr c78
                                                subst c78
                                                have H1 : ((saga_Ask.f kj71 l0 x724000_6 x724001_6 x724002_6 x724003_6 x724004_6 x724005_6 x724006_6).bind fun bt742 => ((saga_Tell.f kj71 l0 bt742.1 bt742.2.1 bt742.2.2.1 bt742.2.2.2.1 bt742.2.2.2.2.1 bt742.2.2.2.2.2.1 bt742.2.2.2.2.2.2.1 bt742.2.1 (bt742.1 == 2) 1).bind fun bt750 => (drayagelaw14_SagaEnds.l3 kj71 l0 (wrap64 (Int.tmod (IntKind.u64.wrap (a2)) (IntKind.u64.wrap (wrap64 ((l0.length : Int) + 1))))) (wrap64 (x17_6 + 1)) bt750.1 bt750.2.1 bt750.2.2.1 bt750.2.2.2.1 bt750.2.2.2.2.1 bt750.2.2.2.2.2.1 bt750.2.2.2.2.2.2.1))) = some r := by rw [if_neg (show ¬ (false = true) by decide)] at H; exact H
                                                clear H
                                                have H := H1
                                                clear H1
                                                replace H := Option.bind_eq_some_iff.mp H
                                                obtain ⟨⟨t742, t743, t744, t745, t746, t747, t748, t749⟩, A870, H⟩ := H
                                                replace H : ((saga_Tell.f kj71 l0 t742 t743 t744 t745 t746 t747 t748 t743 (t742 == 2) 1).bind fun bt750 => (drayagelaw14_SagaEnds.l3 kj71 l0 (wrap64 (Int.tmod (IntKind.u64.wrap (a2)) (IntKind.u64.wrap (wrap64 ((l0.length : Int) + 1))))) (wrap64 (x17_6 + 1)) bt750.1 bt750.2.1 bt750.2.2.1 bt750.2.2.2.1 bt750.2.2.2.2.1 bt750.2.2.2.2.2.1 bt750.2.2.2.2.2.2.1)) = some r := H
                                                have A87 := Aside0.mk A870
                                                clear A870
                                                replace H := Option.bind_eq_some_iff.mp H
                                                obtain ⟨⟨t750, t751, t752, t753, t754, t755, t756, t757⟩, A880, H⟩ := H
                                                replace H : (drayagelaw14_SagaEnds.l3 kj71 l0 (wrap64 (Int.tmod (IntKind.u64.wrap (a2)) (IntKind.u64.wrap (wrap64 ((l0.length : Int) + 1))))) (wrap64 (x17_6 + 1)) t750 t751 t752 t753 t754 t755 t756) = some r := H
                                                have A88 := Aside0.mk A880
                                                clear A880
                                                have H' := Aside0.mk H
                                                clear H
                                                have hnb89 := NB723_680.out
                                                have hnc89 := NB680_723.out
                                                obtain ⟨hcz90_0, hcz90_1, hcz90_2, hcz90_3, hcz90_4, hcz90_5, hcz90_6, hfz90_0, hfz90_1, hfz90_2, hfz90_3, hfz90_4, hfz90_5, hfz90_6⟩ := blk_all7 BK723.out
                                                go_wp2_with (first | ((with_reducible refine gate_callee (f := 14) rfl ?_); refine goesL_ (some 137) rfl rfl Try.func14 (by kernel_rfl) rfl #[.slice A0 l0.length c0, .agg #[.int .i64 x724000_6, .int .i64 x724001_6, .int .i64 x724002_6, .bool x724003_6, .int .i64 x724004_6, .bool x724005_6, .int .i64 x724006_6]] rfl (by (try simp only [List.map_toArray, List.map_cons, List.map_nil]); first | done | rfl | (simp only [List.length_drop, List.length_take]; rfl)) ?_; (with_reducible refine (saga_Ask.calls kj71 _ _ l0 x724000_6 x724001_6 x724002_6 x724003_6 x724004_6 x724005_6 x724006_6 t742 t743 t744 t745 t746 t747 t748 t749 _ ?side1 ?side2 A87.out).mono ?_); (case side1 => repeat (first | exact (Kd.C_below HR0.out HB.out) | (with_reducible refine Kd.C_alloc ?_ _) | (with_reducible refine Kd.C_drewN ?_ _) | (with_reducible refine Kd.C_drew ?_))); (case side2 => exact HC0.out); rintro e w91 ⟨rfl, hb⟩; refine ⟨_, rfl, ?_⟩; have n0_ := Aside0.mk (blk_below (g := gb680) (o := .cells #[.int .i64 x681000_5, .int .i64 x681001_5, .int .i64 x681002_5, .bool x681003_5, .int .i64 x681004_5, .bool x681005_5, .int .i64 x681006_5] 28 (0, 0)) (by (with_reducible repeat (first | apply bd1 | apply bd2 | apply bd3)); exact BK680.out) hb); have n1_ := Aside0.mk (blk_below (g := gb723) (o := .cells #[.int .i64 x724000_6, .int .i64 x724001_6, .int .i64 x724002_6, .bool x724003_6, .int .i64 x724004_6, .bool x724005_6, .int .i64 x724006_6] 28 (0, 0)) (by (with_reducible repeat (first | apply bd1 | apply bd2 | apply bd3)); exact BK723.out) hb); have n2_ := Aside0.mk (below_step (by repeat (first | (with_reducible first | exact HB.out | apply below_alloc | apply pw_below_drewN | apply below_drew1 | refine below_set ?_ GE680.out | refine below_set ?_ GE723.out) | exact HB.out)) hb); clear BK680; clear BK723; clear HB; have BK680 := n0_; have BK723 := n1_; have HB := n2_; clear n0_ n1_ n2_; (try clear hb); (try clear hb2); (try clear hk); (try clear hi); obtain ⟨hcz92_0, hcz92_1, hcz92_2, hcz92_3, hcz92_4, hcz92_5, hcz92_6, hfz92_0, hfz92_1, hfz92_2, hfz92_3, hfz92_4, hfz92_5, hfz92_6⟩ := blk_all7 BK723.out) | ((with_reducible refine gate_callee (f := 15) rfl ?_); refine goesL_ (some 149) rfl rfl Try.func15 (by kernel_rfl) rfl #[.slice A0 l0.length c0, .agg #[.int .i64 t742, .int .i64 t743, .int .i64 t744, .bool t745, .int .i64 t746, .bool t747, .int .i64 t748], .int .i64 t743, .bool (t742 == 2), .int .i64 1] rfl (by (try simp only [List.map_toArray, List.map_cons, List.map_nil]); first | done | rfl | (simp only [List.length_drop, List.length_take]; rfl)) ?_; (with_reducible refine (saga_Tell.calls kj71 _ _ l0 t742 t743 t744 t745 t746 t747 t748 t743 (t742 == 2) 1 t750 t751 t752 t753 t754 t755 t756 t757 _ ?side1 ?side2 A88.out).mono ?_); (case side1 => exact Kd.C_below HR0.out (by repeat (first | (with_reducible first | exact HB.out | apply below_alloc | apply pw_below_drewN | apply below_drew1 | refine below_set ?_ GE680.out | refine below_set ?_ GE723.out) | exact HB.out))); (case side2 => exact HC0.out); rintro e w93 ⟨rfl, hb⟩; refine ⟨_, rfl, ?_⟩; have n0_ := Aside0.mk (blk_below (g := gb680) (o := .cells #[.int .i64 x681000_5, .int .i64 x681001_5, .int .i64 x681002_5, .bool x681003_5, .int .i64 x681004_5, .bool x681005_5, .int .i64 x681006_5] 28 (0, 0)) (by (with_reducible repeat (first | apply bd1 | apply bd2 | apply bd3)); refine blk_far ?_ NB680_723.out _; (with_reducible repeat (first | apply bd1 | apply bd2 | apply bd3)); refine blk_far ?_ NB680_723.out _; (with_reducible repeat (first | apply bd1 | apply bd2 | apply bd3)); refine blk_far ?_ NB680_723.out _; (with_reducible repeat (first | apply bd1 | apply bd2 | apply bd3)); refine blk_far ?_ NB680_723.out _; (with_reducible repeat (first | apply bd1 | apply bd2 | apply bd3)); refine blk_far ?_ NB680_723.out _; (with_reducible repeat (first | apply bd1 | apply bd2 | apply bd3)); refine blk_far ?_ NB680_723.out _; (with_reducible repeat (first | apply bd1 | apply bd2 | apply bd3)); refine blk_far ?_ NB680_723.out _; (with_reducible repeat (first | apply bd1 | apply bd2 | apply bd3)); exact BK680.out) hb); have n1_ := Aside0.mk (blk_below (g := gb723) (o := .cells #[.int .i64 t742, .int .i64 t743, .int .i64 t744, .bool t745, .int .i64 t746, .bool t747, .int .i64 t748] 28 (0, 0)) (by (with_reducible repeat (first | apply bd1 | apply bd2 | apply bd3)); refine blk_put (cs := #[.int .i64 t742, .int .i64 t743, .int .i64 t744, .bool t745, .int .i64 t746, .bool t747, .int .i64 x724006_6]) ?_ 6 _ rfl; (with_reducible repeat (first | apply bd1 | apply bd2 | apply bd3)); refine blk_put (cs := #[.int .i64 t742, .int .i64 t743, .int .i64 t744, .bool t745, .int .i64 t746, .bool x724005_6, .int .i64 x724006_6]) ?_ 5 _ rfl; (with_reducible repeat (first | apply bd1 | apply bd2 | apply bd3)); refine blk_put (cs := #[.int .i64 t742, .int .i64 t743, .int .i64 t744, .bool t745, .int .i64 x724004_6, .bool x724005_6, .int .i64 x724006_6]) ?_ 4 _ rfl; (with_reducible repeat (first | apply bd1 | apply bd2 | apply bd3)); refine blk_put (cs := #[.int .i64 t742, .int .i64 t743, .int .i64 t744, .bool x724003_6, .int .i64 x724004_6, .bool x724005_6, .int .i64 x724006_6]) ?_ 3 _ rfl; (with_reducible repeat (first | apply bd1 | apply bd2 | apply bd3)); refine blk_put (cs := #[.int .i64 t742, .int .i64 t743, .int .i64 x724002_6, .bool x724003_6, .int .i64 x724004_6, .bool x724005_6, .int .i64 x724006_6]) ?_ 2 _ rfl; (with_reducible repeat (first | apply bd1 | apply bd2 | apply bd3)); refine blk_put (cs := #[.int .i64 t742, .int .i64 x724001_6, .int .i64 x724002_6, .bool x724003_6, .int .i64 x724004_6, .bool x724005_6, .int .i64 x724006_6]) ?_ 1 _ rfl; (with_reducible repeat (first | apply bd1 | apply bd2 | apply bd3)); refine blk_put (cs := #[.int .i64 x724000_6, .int .i64 x724001_6, .int .i64 x724002_6, .bool x724003_6, .int .i64 x724004_6, .bool x724005_6, .int .i64 x724006_6]) ?_ 0 _ rfl; (with_reducible repeat (first | apply bd1 | apply bd2 | apply bd3)); exact BK723.out) hb); have n2_ := Aside0.mk (below_step (by repeat (first | (with_reducible first | exact HB.out | apply below_alloc | apply pw_below_drewN | apply below_drew1 | refine below_set ?_ GE680.out | refine below_set ?_ GE723.out) | exact HB.out)) hb); clear BK680; clear BK723; clear HB; have BK680 := n0_; have BK723 := n1_; have HB := n2_; clear n0_ n1_ n2_; (try clear hb); (try clear hb2); (try clear hk); (try clear hi); obtain ⟨hcz94_0, hcz94_1, hcz94_2, hcz94_3, hcz94_4, hcz94_5, hcz94_6, hfz94_0, hfz94_1, hfz94_2, hfz94_3, hfz94_4, hfz94_5, hfz94_6⟩ := blk_all7 BK723.out))
                                                go_roundg kj71
                                                case measure => have := HJ3.out; have := HK2.out; have := HJ15.out; have := HK4.out; have := HK5.out; have := HK6.out; have := HJ66.out; have := HJ71.out; omega
                                                case rel => exact ⟨(wrap64 (x17_6 + 1)), (t750), (t751), (t752), (t753), (t754), (t755), (t756), (by first | rfl | (simp; done) | (simp [*]; done)), H', ⟨by have := HJ3.out; have := HK2.out; have := HJ15.out; have := HK4.out; have := HK5.out; have := HK6.out; have := HJ66.out; have := HJ71.out; omega⟩, ⟨by (with_reducible repeat (first | apply bd1 | apply bd2 | apply bd3)); refine blk_far ?_ NB680_723.out _; (with_reducible repeat (first | apply bd1 | apply bd2 | apply bd3)); refine blk_far ?_ NB680_723.out _; (with_reducible repeat (first | apply bd1 | apply bd2 | apply bd3)); refine blk_far ?_ NB680_723.out _; (with_reducible repeat (first | apply bd1 | apply bd2 | apply bd3)); refine blk_far ?_ NB680_723.out _; (with_reducible repeat (first | apply bd1 | apply bd2 | apply bd3)); refine blk_far ?_ NB680_723.out _; (with_reducible repeat (first | apply bd1 | apply bd2 | apply bd3)); refine blk_far ?_ NB680_723.out _; (with_reducible repeat (first | apply bd1 | apply bd2 | apply bd3)); refine blk_far ?_ NB680_723.out _; (with_reducible repeat (first | apply bd1 | apply bd2 | apply bd3)); exact BK680.out⟩, ⟨by (with_reducible repeat (first | apply bd1 | apply bd2 | apply bd3)); refine blk_put (cs := #[.int .i64 t750, .int .i64 t751, .int .i64 t752, .bool t753, .int .i64 t754, .bool t755, .int .i64 t748]) ?_ 6 _ rfl; (with_reducible repeat (first | apply bd1 | apply bd2 | apply bd3)); refine blk_put (cs := #[.int .i64 t750, .int .i64 t751, .int .i64 t752, .bool t753, .int .i64 t754, .bool t747, .int .i64 t748]) ?_ 5 _ rfl; (with_reducible repeat (first | apply bd1 | apply bd2 | apply bd3)); refine blk_put (cs := #[.int .i64 t750, .int .i64 t751, .int .i64 t752, .bool t753, .int .i64 t746, .bool t747, .int .i64 t748]) ?_ 4 _ rfl; (with_reducible repeat (first | apply bd1 | apply bd2 | apply bd3)); refine blk_put (cs := #[.int .i64 t750, .int .i64 t751, .int .i64 t752, .bool t745, .int .i64 t746, .bool t747, .int .i64 t748]) ?_ 3 _ rfl; (with_reducible repeat (first | apply bd1 | apply bd2 | apply bd3)); refine blk_put (cs := #[.int .i64 t750, .int .i64 t751, .int .i64 t744, .bool t745, .int .i64 t746, .bool t747, .int .i64 t748]) ?_ 2 _ rfl; (with_reducible repeat (first | apply bd1 | apply bd2 | apply bd3)); refine blk_put (cs := #[.int .i64 t750, .int .i64 t743, .int .i64 t744, .bool t745, .int .i64 t746, .bool t747, .int .i64 t748]) ?_ 1 _ rfl; (with_reducible repeat (first | apply bd1 | apply bd2 | apply bd3)); refine blk_put (cs := #[.int .i64 t742, .int .i64 t743, .int .i64 t744, .bool t745, .int .i64 t746, .bool t747, .int .i64 t748]) ?_ 0 _ rfl; (with_reducible repeat (first | apply bd1 | apply bd2 | apply bd3)); exact BK723.out⟩, ⟨by repeat (first | (with_reducible first | exact HB.out | apply below_alloc | apply pw_below_drewN | apply below_drew1 | refine below_set ?_ GE680.out | refine below_set ?_ GE723.out) | exact HB.out)⟩⟩
                                        · replace c71 := Bool.eq_false_iff.mpr c71
                                          subst c71
                                          have H1 : (if (wrap64 (Int.tmod (IntKind.u64.wrap (a2)) (IntKind.u64.wrap (wrap64 ((l0.length : Int) + 1))))) = (l0.length : Int) then (if x724000_6 = 3 then (if x724006_6 = 1 then ((drayagelaw14_known.f kj66).bind fun t724 => (some t724)) else (none)) else (none)) else (if x724000_6 = 3 then (if x724006_6 = 2 then ((drayagelaw14_known.f kj66).bind fun t725 => (some t725)) else (none)) else (none))) = some r := by rw [if_neg (show ¬ (false = true) by decide)] at H; exact H
                                          clear H
                                          have H := H1
                                          clear H1
                                          by_cases c95 : (wrap64 (Int.tmod (IntKind.u64.wrap (a2)) (IntKind.u64.wrap (wrap64 ((l0.length : Int) + 1))))) = (l0.length : Int)
                                          · rw [if_pos c95] at H
                                            have c95b0 : ((wrap64 (Int.tmod (IntKind.u64.wrap (a2)) (IntKind.u64.wrap (wrap64 ((l0.length : Int) + 1))))) == (l0.length : Int)) = true := beq_iff_eq.mpr c95
                                            have c95b1 : ((wrap64 (Int.tmod (IntKind.u64.wrap (a2)) (IntKind.u64.wrap (wrap64 ((l0.length : Int) + 1))))) != (l0.length : Int)) = false := bne_eq_false_iff_eq.mpr c95
                                            clear c95
                                            by_cases c96 : x724000_6 = 3
                                            · rw [if_pos c96] at H
                                              have c96b0 : (x724000_6 == 3) = true := beq_iff_eq.mpr c96
                                              have c96b1 : (x724000_6 != 3) = false := bne_eq_false_iff_eq.mpr c96
                                              clear c96
                                              by_cases c97 : x724006_6 = 1
                                              · rw [if_pos c97] at H
                                                have c97b0 : (x724006_6 == 1) = true := beq_iff_eq.mpr c97
                                                have c97b1 : (x724006_6 != 1) = false := bne_eq_false_iff_eq.mpr c97
                                                clear c97
                                                replace H := Option.bind_eq_some_iff.mp H
                                                obtain ⟨t724, A980, H⟩ := H
                                                replace H : (some t724) = some r := H
                                                have A98 := Aside0.mk A980
                                                clear A980
                                                obtain rfl := Option.some.inj H
                                                have hnb99 := NB723_680.out
                                                have hnc99 := NB680_723.out
                                                obtain ⟨hcz100_0, hcz100_1, hcz100_2, hcz100_3, hcz100_4, hcz100_5, hcz100_6, hfz100_0, hfz100_1, hfz100_2, hfz100_3, hfz100_4, hfz100_5, hfz100_6⟩ := blk_all7 BK723.out
                                                go_wp2_with (first | (go_at_call 12; (with_reducible refine (drayagelaw14_known.calls kj66  t724 _ A98.out).mono ?_); rintro e w101 ⟨rfl, hb⟩; have n0_ := Aside0.mk (blk_below (g := gb680) (o := .cells #[.int .i64 x681000_5, .int .i64 x681001_5, .int .i64 x681002_5, .bool x681003_5, .int .i64 x681004_5, .bool x681005_5, .int .i64 x681006_5] 28 (0, 0)) (by (with_reducible repeat (first | apply bd1 | apply bd2 | apply bd3)); exact BK680.out) hb); have n1_ := Aside0.mk (blk_below (g := gb723) (o := .cells #[.int .i64 x724000_6, .int .i64 x724001_6, .int .i64 x724002_6, .bool x724003_6, .int .i64 x724004_6, .bool x724005_6, .int .i64 x724006_6] 28 (0, 0)) (by (with_reducible repeat (first | apply bd1 | apply bd2 | apply bd3)); exact BK723.out) hb); have n2_ := Aside0.mk (below_step (by repeat (first | (with_reducible first | exact HB.out | apply below_alloc | apply pw_below_drewN | apply below_drew1 | refine below_set ?_ GE680.out | refine below_set ?_ GE723.out) | exact HB.out)) hb); clear BK680; clear BK723; clear HB; have BK680 := n0_; have BK723 := n1_; have HB := n2_; clear n0_ n1_ n2_; (try clear hb); (try clear hb2); (try clear hk); (try clear hi)))
                                                go_ret
                                                exact ⟨by first | rfl | (simp [errW_none, errW_some] <;> rfl) | (simp [*, errW_none, errW_some] <;> rfl), by repeat (first | (with_reducible first | exact HB.out | apply below_alloc | apply pw_below_drewN | apply below_drew1 | refine below_set ?_ GE680.out | refine below_set ?_ GE723.out) | exact HB.out)⟩
                                              · rw [if_neg c97] at H
                                                exact absurd H (by simp)
                                            · rw [if_neg c96] at H
                                              exact absurd H (by simp)
                                          · rw [if_neg c95] at H
                                            have c95b0 : ((wrap64 (Int.tmod (IntKind.u64.wrap (a2)) (IntKind.u64.wrap (wrap64 ((l0.length : Int) + 1))))) == (l0.length : Int)) = false := beq_eq_false_iff_ne.mpr c95
                                            have c95b1 : ((wrap64 (Int.tmod (IntKind.u64.wrap (a2)) (IntKind.u64.wrap (wrap64 ((l0.length : Int) + 1))))) != (l0.length : Int)) = true := bne_iff_ne.mpr c95
                                            by_cases c102 : x724000_6 = 3
                                            · rw [if_pos c102] at H
                                              have c102b0 : (x724000_6 == 3) = true := beq_iff_eq.mpr c102
                                              have c102b1 : (x724000_6 != 3) = false := bne_eq_false_iff_eq.mpr c102
                                              clear c102
                                              by_cases c103 : x724006_6 = 2
                                              · rw [if_pos c103] at H
                                                have c103b0 : (x724006_6 == 2) = true := beq_iff_eq.mpr c103
                                                have c103b1 : (x724006_6 != 2) = false := bne_eq_false_iff_eq.mpr c103
                                                clear c103
                                                replace H := Option.bind_eq_some_iff.mp H
                                                obtain ⟨t725, A1040, H⟩ := H
                                                replace H : (some t725) = some r := H
                                                have A104 := Aside0.mk A1040
                                                clear A1040
                                                obtain rfl := Option.some.inj H
                                                have hnb105 := NB723_680.out
                                                have hnc105 := NB680_723.out
                                                obtain ⟨hcz106_0, hcz106_1, hcz106_2, hcz106_3, hcz106_4, hcz106_5, hcz106_6, hfz106_0, hfz106_1, hfz106_2, hfz106_3, hfz106_4, hfz106_5, hfz106_6⟩ := blk_all7 BK723.out
                                                go_wp2_with (first | (go_at_call 12; (with_reducible refine (drayagelaw14_known.calls kj66  t725 _ A104.out).mono ?_); rintro e w107 ⟨rfl, hb⟩; have n0_ := Aside0.mk (blk_below (g := gb680) (o := .cells #[.int .i64 x681000_5, .int .i64 x681001_5, .int .i64 x681002_5, .bool x681003_5, .int .i64 x681004_5, .bool x681005_5, .int .i64 x681006_5] 28 (0, 0)) (by (with_reducible repeat (first | apply bd1 | apply bd2 | apply bd3)); exact BK680.out) hb); have n1_ := Aside0.mk (blk_below (g := gb723) (o := .cells #[.int .i64 x724000_6, .int .i64 x724001_6, .int .i64 x724002_6, .bool x724003_6, .int .i64 x724004_6, .bool x724005_6, .int .i64 x724006_6] 28 (0, 0)) (by (with_reducible repeat (first | apply bd1 | apply bd2 | apply bd3)); exact BK723.out) hb); have n2_ := Aside0.mk (below_step (by repeat (first | (with_reducible first | exact HB.out | apply below_alloc | apply pw_below_drewN | apply below_drew1 | refine below_set ?_ GE680.out | refine below_set ?_ GE723.out) | exact HB.out)) hb); clear BK680; clear BK723; clear HB; have BK680 := n0_; have BK723 := n1_; have HB := n2_; clear n0_ n1_ n2_; (try clear hb); (try clear hb2); (try clear hk); (try clear hi)))
                                                go_ret
                                                exact ⟨by first | rfl | (simp [errW_none, errW_some] <;> rfl) | (simp [*, errW_none, errW_some] <;> rfl), by repeat (first | (with_reducible first | exact HB.out | apply below_alloc | apply pw_below_drewN | apply below_drew1 | refine below_set ?_ GE680.out | refine below_set ?_ GE723.out) | exact HB.out)⟩
                                              · rw [if_neg c103] at H
                                                exact absurd H (by simp)
                                            · rw [if_neg c102] at H
                                              exact absurd H (by simp)

end Go.Proofs.Yteefdhgfcnjpoaa.PA
