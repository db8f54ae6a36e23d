-- printed by a program of this work (wip/tools/pr.py over the kit's print): the machine's side of SagaTries, SagaMoves, SagaStays, SagaOrder, SagaEnds, SagaTicks
import Derived.Test.YteefdhgfcnjpoaaQStPAx0
import Derived.Test.YteefdhgfcnjpoaaQStPAx1
import Derived.Test.YteefdhgfcnjpoaaQStPAx3
import Derived.Test.YteefdhgfcnjpoaaQStPAx5
import Derived.Test.YteefdhgfcnjpoaaQStPAx7
import Derived.Test.YteefdhgfcnjpoaaQStPAx9
import Derived.Test.YteefdhgfcnjpoaaQStPAx16
namespace Go.Proofs.Yteefdhgfcnjpoaa.PA
open Go.RowKit Go.Proofs.YteefdhgfcnjpoaaW.PrintWords Go.Proofs.YteefdhgfcnjpoaaW.PrintLast Go.Proofs.YteefdhgfcnjpoaaW.PrintMore
attribute [local go_sem] max2_int min2_int max_two min_two max_three min_three max_four min_four   -- for this text's walks alone
set_option linter.unusedVariables false
set_option linter.unusedSimpArgs false

attribute [local go_sem high] eqA28
/-! ### drayagelaw14_SagaStays: function 5 -/
mutual
def drayagelaw14_SagaStays.j0 : Nat → List (S38) → List (S54) → Bool → Option (Bool)
  | 0, _, _, _ => none
  | k + 1, x0, x1, x15 => if x15 = true then ((drayagelaw14_known.f k).bind fun t621 => (some t621)) else ((saga_Start.f).bind fun bt622 => (drayagelaw14_SagaStays.l0 k x0 x1 0 bt622.1 bt622.2.1 bt622.2.2.1 bt622.2.2.2.1 bt622.2.2.2.2.1 bt622.2.2.2.2.2.1 bt622.2.2.2.2.2.2))
def drayagelaw14_SagaStays.l0 : Nat → List (S38) → List (S54) → Int → Int → Int → Int → Bool → Int → Bool → Int → Option (Bool)
  | 0, _, _, _, _, _, _, _, _, _, _ => none
  | k + 1, x0, x1, x6, x630000, x630001, x630002, x630003, x630004, x630005, x630006 => if x6 < (x1.length : Int) then (drayagelaw14_SagaStays.j2 k x0 x1 x6 (decide (x6 < 150)) x630000 x630001 x630002 x630003 x630004 x630005 x630006) else (drayagelaw14_SagaStays.j2 k x0 x1 x6 false x630000 x630001 x630002 x630003 x630004 x630005 x630006)
def drayagelaw14_SagaStays.j2 : Nat → List (S38) → List (S54) → Int → Bool → Int → Int → Int → Bool → Int → Bool → Int → Option (Bool)
  | 0, _, _, _, _, _, _, _, _, _, _, _ => none
  | k + 1, x0, x1, x6, x25, x630000, x630001, x630002, x630003, x630004, x630005, x630006 => if x25 = true then (if 0 ≤ x6 then (if x6 < (x1.length : Int) then ((drayagelaw14_happens.f k x0 x630000 x630001 x630002 x630003 x630004 x630005 x630006 ((rd_T54 x1 x6).f0) ((rd_T54 x1 x6).f1) ((rd_T54 x1 x6).f2)).bind fun bt632 => (if bt632.2.2.2.2.2.2.2 = true then ((saga_Check.f k x0 bt632.1 bt632.2.1 bt632.2.2.1 bt632.2.2.2.1 bt632.2.2.2.2.1 bt632.2.2.2.2.2.1 bt632.2.2.2.2.2.2.1).bind fun t641 => (if t641 = 0 then (if x630000 = 3 then (if (!(bt632.1 == x630000) || (!(bt632.2.1 == x630001) || (!(bt632.2.2.1 == x630002) || (!(bt632.2.2.2.1 == x630003) || (!(bt632.2.2.2.2.1 == x630004) || (!(bt632.2.2.2.2.2.1 == x630005) || (!(bt632.2.2.2.2.2.2.1 == x630006)))))))) = true then (drayagelaw14_SagaStays.j3 k x0 x1 x6 true bt632.1 bt632.2.1 bt632.2.2.1 bt632.2.2.2.1 bt632.2.2.2.2.1 bt632.2.2.2.2.2.1 bt632.2.2.2.2.2.2.1) else (drayagelaw14_SagaStays.j3 k x0 x1 x6 (decide (bt632.1 < x630000)) bt632.1 bt632.2.1 bt632.2.2.1 bt632.2.2.2.1 bt632.2.2.2.2.1 bt632.2.2.2.2.2.1 bt632.2.2.2.2.2.2.1)) else (drayagelaw14_SagaStays.j3 k x0 x1 x6 (decide (bt632.1 < x630000)) bt632.1 bt632.2.1 bt632.2.2.1 bt632.2.2.2.1 bt632.2.2.2.2.1 bt632.2.2.2.2.2.1 bt632.2.2.2.2.2.2.1)) else (drayagelaw14_SagaStays.j3 k x0 x1 x6 true bt632.1 bt632.2.1 bt632.2.2.1 bt632.2.2.2.1 bt632.2.2.2.2.1 bt632.2.2.2.2.2.1 bt632.2.2.2.2.2.2.1))) else (drayagelaw14_SagaStays.j3 k x0 x1 x6 true bt632.1 bt632.2.1 bt632.2.2.1 bt632.2.2.2.1 bt632.2.2.2.2.1 bt632.2.2.2.2.2.1 bt632.2.2.2.2.2.2.1))) else (none)) else (none)) else ((drayagelaw14_known.f k).bind fun t630 => (some t630))
def drayagelaw14_SagaStays.j3 : Nat → List (S38) → List (S54) → Int → Bool → Int → Int → Int → Bool → Int → Bool → Int → Option (Bool)
  | 0, _, _, _, _, _, _, _, _, _, _, _ => none
  | k + 1, x0, x1, x6, x62, x641000, x641001, x641002, x641003, x641004, x641005, x641006 => if x62 = true then (none) else (if x641000 < 3 then (if 0 ≤ x641001 then (if x641001 < (x0.length : Int) then (if x641002 > ((rd_T38 x0 x641001).f1) then (none) else (drayagelaw14_SagaStays.l0 k x0 x1 (wrap64 (x6 + 1)) x641000 x641001 x641002 x641003 x641004 x641005 x641006)) else (none)) else (none)) else (drayagelaw14_SagaStays.l0 k x0 x1 (wrap64 (x6 + 1)) x641000 x641001 x641002 x641003 x641004 x641005 x641006))
end
def drayagelaw14_SagaStays.f (k : Nat) (l0 : List (S38)) (l1 : List (S54)) : Option (Bool) := (drayagelaw14_long.f k l0).bind fun t619 => (if t619 = true then (drayagelaw14_SagaStays.j0 k l0 l1 true) else ((drayageref13_Check.f k l0).bind fun t620 => (drayagelaw14_SagaStays.j0 k l0 l1 (t620 != 0))))

def drayagelaw14_SagaStays.T7 : Bool × List (List Nat × List Nat) := (true, [([], []), ([], []), ([], []), ([], []), ([2, 3], [2, 3]), ([4], [4]), ([0, 1, 5], [0, 1, 5]), ([6], [6]), ([7], [7]), ([7], [7]), ([], []), ([10, 8, 6, 0, 1, 2, 3, 4, 5, 6, 7, 8, 10], [8, 10]), ([9, 11, 0, 1, 2, 3, 4, 5, 6, 7, 8, 9, 10, 11], [9])])
def drayagelaw14_SagaStays.B7 : List Nat := [0, 0, 0, 0, 12, 28, 63, 127, 255, 255, 0, 1535, 4095]
theorem drayagelaw14_SagaStays.tab7 : rtab .any (opsOf Try.f5 7) = drayagelaw14_SagaStays.T7 := by kernel_rfl
theorem drayagelaw14_SagaStays.bits7 : waitsOk drayagelaw14_SagaStays.T7.2 drayagelaw14_SagaStays.B7 = true := by kernel_rfl
def drayagelaw14_SagaStays.T10 : Bool × List (List Nat × List Nat) := (true, [([], []), ([0], [0]), ([1], [1]), ([2], [2]), ([3], [3]), ([4, 3], [3, 4]), ([3], [3]), ([3], [3]), ([7, 3], [3, 7]), ([6, 8, 3], [3, 6, 8]), ([9, 3], [3, 9]), ([10, 3], [3, 10]), ([5, 11, 3], [3, 5, 11]), ([3, 12], [3, 12])])
def drayagelaw14_SagaStays.B10 : List Nat := [0, 1, 3, 7, 15, 31, 15, 15, 143, 463, 975, 1999, 4095, 8191]
theorem drayagelaw14_SagaStays.tab10 : rtab .any (opsOf Try.f5 10) = drayagelaw14_SagaStays.T10 := by kernel_rfl
theorem drayagelaw14_SagaStays.bits10 : waitsOk drayagelaw14_SagaStays.T10.2 drayagelaw14_SagaStays.B10 = true := by kernel_rfl
set_option maxHeartbeats 8000000 in
set_option maxRecDepth 100000 in
theorem drayagelaw14_SagaStays.calls (k : Nat) (A0 : Option Addr) (c0 : Nat) (l0 : List (S38)) (A1 : Option Addr) (c1 : Nat) (l1 : List (S54)) (r : Bool) (w : World) (hr0 : Kd.C k38 w A0 l0.length l0) (hc0 : l0.length ≤ c0) (hr1 : Kd.C k54 w A1 l1.length l1) (hc1 : l1.length ≤ c1) (h : drayagelaw14_SagaStays.f k l0 l1 = some r) :
    Calls Try.prog 5 #[.slice A0 l0.length c0, .slice A1 l1.length c1] w fun e w' => e = .returned (.bool r) ∧ Below w.heap.size w w' := by
  have hu28 := Try.underlying28
  have hu54 := Try.underlying54
  have HR0 := Aside0.mk hr0
  have HC0 := Aside0.mk hc0
  clear hr0 hc0
  have HR1 := Aside0.mk hr1
  have HC1 := Aside0.mk hc1
  clear hr1 hc1
  have HB := Aside0.mk (Below.refl w.heap.size w)
  have H : ((drayagelaw14_long.f k l0).bind fun t619 => (if t619 = true then (drayagelaw14_SagaStays.j0 k l0 l1 true) else ((drayageref13_Check.f k l0).bind fun t620 => (drayagelaw14_SagaStays.j0 k l0 l1 (t620 != 0))))) = some r := h
  clear h
  have HC3 := Aside0.mk H
  clear H
  go_enter Try.func5, Try.ntmps5
  go_upto_region 1 with (fail)
  go_cut [15] (fun v15 wc => ∃ (kq : Nat) (x15_2 : Bool), v15 = .bool x15_2 ∧ Aside0 (drayagelaw14_SagaStays.j0 kq l0 l1 x15_2 = some r) ∧ Aside0 (kq ≤ k) ∧ Aside0 (Below w.heap.size w wc))
  case first =>
    have H := HC3.out
    clear HC3
    replace H := Option.bind_eq_some_iff.mp H
    obtain ⟨t619, A40, H⟩ := H
    replace H : (if t619 = true then (drayagelaw14_SagaStays.j0 k l0 l1 true) else ((drayageref13_Check.f k l0).bind fun t620 => (drayagelaw14_SagaStays.j0 k l0 l1 (t620 != 0)))) = some r := H
    have A4 := Aside0.mk A40
    clear A40
    by_cases c5 : t619 = true
    · subst c5
      have H1 : (drayagelaw14_SagaStays.j0 k l0 l1 true) = some r := by rw [if_pos rfl] at H; exact H
      clear H
      have H := H1
      clear H1
      have H' := Aside0.mk H
      clear H
      go_wp2_with (first | ((with_reducible refine gate_callee (f := 10) rfl ?_); refine goesL_ (some 10) rfl rfl Try.func10 (by kernel_rfl) rfl #[.slice A0 l0.length c0] rfl (by (try simp only [List.map_toArray, List.map_cons, List.map_nil]); first | done | rfl | (simp only [List.length_drop, List.length_take]; rfl)) ?_; (with_reducible refine (drayagelaw14_long.calls k _ _ l0 true _ ?side1 ?side2 A4.out).mono ?_); (case side1 => repeat (first | exact (Kd.C_below HR0.out HB.out) | (with_reducible refine Kd.C_alloc ?_ _) | (with_reducible refine Kd.C_drewN ?_ _) | (with_reducible refine Kd.C_drew ?_))); (case side2 => exact HC0.out); rintro e w' ⟨rfl, ⟨nd, rfl⟩⟩; refine ⟨_, rfl, ?_⟩))
      go_meet
      case rel => exact ⟨_, (true), (by first | rfl | (simp; done) | (simp [*]; done)), H', ⟨by first | omega | exact Nat.le_refl _⟩, ⟨by repeat (first | (with_reducible first | exact HB.out | apply below_alloc | apply pw_below_drewN | apply below_drew1) | exact HB.out)⟩⟩
    · replace c5 := Bool.eq_false_iff.mpr c5
      subst c5
      have H1 : ((drayageref13_Check.f k l0).bind fun t620 => (drayagelaw14_SagaStays.j0 k l0 l1 (t620 != 0))) = some r := by rw [if_neg (show ¬ (false = true) by decide)] at H; exact H
      clear H
      have H := H1
      clear H1
      replace H := Option.bind_eq_some_iff.mp H
      obtain ⟨t620, A60, H⟩ := H
      replace H : (drayagelaw14_SagaStays.j0 k l0 l1 (t620 != 0)) = some r := H
      have A6 := Aside0.mk A60
      clear A60
      have H' := Aside0.mk H
      clear H
      go_wp2_with (first | ((with_reducible refine gate_callee (f := 10) rfl ?_); refine goesL_ (some 10) rfl rfl Try.func10 (by kernel_rfl) rfl #[.slice A0 l0.length c0] rfl (by (try simp only [List.map_toArray, List.map_cons, List.map_nil]); first | done | rfl | (simp only [List.length_drop, List.length_take]; rfl)) ?_; (with_reducible refine (drayagelaw14_long.calls k _ _ l0 false _ ?side1 ?side2 A4.out).mono ?_); (case side1 => repeat (first | exact (Kd.C_below HR0.out HB.out) | (with_reducible refine Kd.C_alloc ?_ _) | (with_reducible refine Kd.C_drewN ?_ _) | (with_reducible refine Kd.C_drew ?_))); (case side2 => exact HC0.out); rintro e w' ⟨rfl, ⟨nd, rfl⟩⟩; refine ⟨_, rfl, ?_⟩) | (go_at_call 11; (with_reducible refine (drayageref13_Check.calls k _ _ l0 t620 _ ?side1 ?side2 A6.out).mono ?_); (case side1 => repeat (first | exact (Kd.C_below HR0.out (by repeat (first | (with_reducible first | exact HB.out | apply below_alloc | apply pw_below_drewN | apply below_drew1) | exact HB.out))) | (with_reducible refine Kd.C_alloc ?_ _) | (with_reducible refine Kd.C_drewN ?_ _) | (with_reducible refine Kd.C_drew ?_))); (case side2 => exact HC0.out); rintro e w7 ⟨rfl, hb⟩; have n0_ := Aside0.mk (below_step (by repeat (first | (with_reducible first | exact HB.out | apply below_alloc | apply pw_below_drewN | apply below_drew1) | exact HB.out)) hb); clear HB; have HB := n0_; clear n0_; (try clear hb); (try clear hb2); (try clear hk); (try clear hi)))
      go_meet
      case rel => exact ⟨_, ((t620 != 0)), (by first | rfl | (simp; done) | (simp [*]; done)), H', ⟨by first | omega | exact Nat.le_refl _⟩, ⟨by repeat (first | (with_reducible first | exact HB.out | apply below_alloc | apply pw_below_drewN | apply below_drew1) | exact HB.out)⟩⟩
  case rest =>
    clear HC3
    try clear c1
    try clear p2
    try clear c5
    obtain ⟨kq, x15_2, rfl, HA, HJ2, HB⟩ := hcut
    cases kq with
    | zero => exact absurd HA.out (by simp [drayagelaw14_SagaStays.j0])
    | succ kj2 =>
      have H := HA.out
      clear HA
      simp only [drayagelaw14_SagaStays.j0] at H
      by_cases c8 : x15_2 = true
      · subst c8
        have H1 : ((drayagelaw14_known.f kj2).bind fun t621 => (some t621)) = some r := by rw [if_pos rfl] at H; exact H
        clear H
        have H := H1
        clear H1
        replace H := Option.bind_eq_some_iff.mp H
        obtain ⟨t621, A90, H⟩ := H
        replace H : (some t621) = some r := H
        have A9 := Aside0.mk A90
        clear A90
        obtain rfl := Option.some.inj H
        go_wp2_with (first | ((with_reducible refine gate_callee (f := 12) rfl ?_); refine goesL_ (some 16) rfl rfl Try.func12 (by kernel_rfl) rfl #[] rfl (by (try simp only [List.map_toArray, List.map_cons, List.map_nil]); first | done | rfl | (simp only [List.length_drop, List.length_take]; rfl)) ?_; (with_reducible refine (drayagelaw14_known.calls kj2  t621 _ A9.out).mono ?_); rintro e w10 ⟨rfl, hb⟩; refine ⟨_, rfl, ?_⟩; have n0_ := Aside0.mk (below_step (by repeat (first | (with_reducible first | exact HB.out | apply below_alloc | apply pw_below_drewN | apply below_drew1) | exact HB.out)) hb); clear HB; have HB := n0_; clear n0_; (try clear hb); (try clear hb2); (try clear hk); (try clear hi)))
        go_ret
        exact ⟨by first | rfl | (simp [errW_none, errW_some] <;> rfl) | (simp [*, errW_none, errW_some] <;> rfl), by repeat (first | (with_reducible first | exact HB.out | apply below_alloc | apply pw_below_drewN | apply below_drew1) | exact HB.out)⟩
      · replace c8 := Bool.eq_false_iff.mpr c8
        subst c8
        have H1 : ((saga_Start.f).bind fun bt622 => (drayagelaw14_SagaStays.l0 kj2 l0 l1 0 bt622.1 bt622.2.1 bt622.2.2.1 bt622.2.2.2.1 bt622.2.2.2.2.1 bt622.2.2.2.2.2.1 bt622.2.2.2.2.2.2)) = some r := by rw [if_neg (show ¬ (false = true) by decide)] at H; exact H
        clear H
        have H := H1
        clear H1
        replace H := Option.bind_eq_some_iff.mp H
        obtain ⟨⟨t622, t623, t624, t625, t626, t627, t628⟩, A110, H⟩ := H
        replace H : (drayagelaw14_SagaStays.l0 kj2 l0 l1 0 t622 t623 t624 t625 t626 t627 t628) = some r := H
        have A11 := Aside0.mk A110
        clear A110
        have H' := Aside0.mk H
        clear H
        go_wp2_with (first | ((with_reducible refine gate_callee (f := 13) rfl ?_); refine goesL_ (some 17) rfl rfl Try.func13 (by kernel_rfl) rfl #[] rfl (by (try simp only [List.map_toArray, List.map_cons, List.map_nil]); first | done | rfl | (simp only [List.length_drop, List.length_take]; rfl)) ?_; (with_reducible refine (saga_Start.calls  t622 t623 t624 t625 t626 t627 t628 _ A11.out).mono ?_); rintro e w12 ⟨rfl, hb⟩; refine ⟨_, rfl, ?_⟩; have n0_ := Aside0.mk (below_step (by repeat (first | (with_reducible first | exact HB.out | apply below_alloc | apply pw_below_drewN | apply below_drew1) | exact HB.out)) hb); clear HB; have HB := n0_; clear n0_; (try clear hb); (try clear hb2); (try clear hk); (try clear hi)) | ((with_reducible refine gate_dst (N := 5) rfl ?_); refine box_event ?hg (N := 5) ?hd (cs := #[.int .i64 0, .int .i64 0, .int .i64 0, .bool false, .int .i64 0, .bool false, .int .i64 0]) (t := 28) ?hr ?_; (case hd => rfl); (case hg => rfl); (case hr => first | (go_simp; done) | (go_simp; rfl)); intro gb629 hg w13 hbox hb; have n0_ := Aside0.mk (below_step (by repeat (first | (with_reducible first | exact HB.out | apply below_alloc | apply pw_below_drewN | apply below_drew1) | exact HB.out)) hb); have n1_ := Aside0.mk (hbox); have n2_ := Aside0.mk ((by rw [hg]; exact (below_size (by repeat (first | (with_reducible first | exact HB.out | apply below_alloc | apply pw_below_drewN | apply below_drew1) | exact HB.out))) : w.heap.size ≤ gb629)); have n3_ := Aside0.mk ((by rw [hg]; exact (below_size (by repeat (first | (with_reducible first | exact HB.out | apply below_alloc | apply pw_below_drewN | apply below_drew1) | exact HB.out))) : w.heap.size ≤ gb629)); clear HB; have HB := n0_; have BK629 := n1_; have GW629 := n2_; have GE629 := n3_; clear n0_ n1_ n2_ n3_; clear hb hbox hg; obtain ⟨hcz14_0, hcz14_1, hcz14_2, hcz14_3, hcz14_4, hcz14_5, hcz14_6, hfz14_0, hfz14_1, hfz14_2, hfz14_3, hfz14_4, hfz14_5, hfz14_6⟩ := blk_all7 BK629.out))
        go_loopg [6] kj2 (fun kq v6 w' => ∃ (x6_2 : Int) (x630000_2 : Int) (x630001_2 : Int) (x630002_2 : Int) (x630003_2 : Bool) (x630004_2 : Int) (x630005_2 : Bool) (x630006_2 : Int), v6 = .int .i64 x6_2 ∧ Aside0 (drayagelaw14_SagaStays.l0 kq l0 l1 x6_2 x630000_2 x630001_2 x630002_2 x630003_2 x630004_2 x630005_2 x630006_2 = some r) ∧ Aside0 (kq ≤ kj2) ∧ Aside0 (w'.heap[gb629]? = some (.cells #[.int .i64 x630000_2, .int .i64 x630001_2, .int .i64 x630002_2, .bool x630003_2, .int .i64 x630004_2, .bool x630005_2, .int .i64 x630006_2] 28 (0, 0))) ∧ Aside0 (Below w.heap.size w w'))
        case atStart => exact ⟨(0), (t622), (t623), (t624), (t625), (t626), (t627), (t628), (by first | rfl | (simp; done) | (simp [*]; done)), H', ⟨Nat.le_refl _⟩, ⟨by (with_reducible repeat (first | apply bd1 | apply bd2 | apply bd3)); refine blk_put (cs := #[.int .i64 t622, .int .i64 t623, .int .i64 t624, .bool t625, .int .i64 t626, .bool t627, .int .i64 0]) ?_ 6 _ rfl; (with_reducible repeat (first | apply bd1 | apply bd2 | apply bd3)); refine blk_put (cs := #[.int .i64 t622, .int .i64 t623, .int .i64 t624, .bool t625, .int .i64 t626, .bool false, .int .i64 0]) ?_ 5 _ rfl; (with_reducible repeat (first | apply bd1 | apply bd2 | apply bd3)); refine blk_put (cs := #[.int .i64 t622, .int .i64 t623, .int .i64 t624, .bool t625, .int .i64 0, .bool false, .int .i64 0]) ?_ 4 _ rfl; (with_reducible repeat (first | apply bd1 | apply bd2 | apply bd3)); refine blk_put (cs := #[.int .i64 t622, .int .i64 t623, .int .i64 t624, .bool false, .int .i64 0, .bool false, .int .i64 0]) ?_ 3 _ rfl; (with_reducible repeat (first | apply bd1 | apply bd2 | apply bd3)); refine blk_put (cs := #[.int .i64 t622, .int .i64 t623, .int .i64 0, .bool false, .int .i64 0, .bool false, .int .i64 0]) ?_ 2 _ rfl; (with_reducible repeat (first | apply bd1 | apply bd2 | apply bd3)); refine blk_put (cs := #[.int .i64 t622, .int .i64 0, .int .i64 0, .bool false, .int .i64 0, .bool false, .int .i64 0]) ?_ 1 _ rfl; (with_reducible repeat (first | apply bd1 | apply bd2 | apply bd3)); refine blk_put (cs := #[.int .i64 0, .int .i64 0, .int .i64 0, .bool false, .int .i64 0, .bool false, .int .i64 0]) ?_ 0 _ rfl; (with_reducible repeat (first | apply bd1 | apply bd2 | apply bd3)); exact BK629.out⟩, ⟨by repeat (first | (with_reducible first | exact HB.out | apply below_alloc | apply pw_below_drewN | apply below_drew1 | refine below_set ?_ GE629.out) | exact HB.out)⟩⟩
        case round =>
          clear H'
          try clear c1
          try clear p2
          try clear c5
          try clear c8
          try clear c10
          try clear c12
          try clear c13
          try clear hcz14_0
          try clear hcz14_1
          try clear hcz14_2
          try clear hcz14_3
          try clear hcz14_4
          try clear hcz14_5
          try clear hcz14_6
          try clear hfz14_0
          try clear hfz14_1
          try clear hfz14_2
          try clear hfz14_3
          try clear hfz14_4
          try clear hfz14_5
          try clear hfz14_6
          try clear p2
          obtain ⟨x6_2, x630000_2, x630001_2, x630002_2, x630003_2, x630004_2, x630005_2, x630006_2, rfl, HA, HK2, BK629, HB⟩ := hrel
          cases gk with
          | zero => exact absurd HA.out (by simp [drayagelaw14_SagaStays.l0])
          | succ k2 =>
            have H := HA.out
            clear HA
            simp only [drayagelaw14_SagaStays.l0] at H
            have HC15 := Aside0.mk H
            clear H
            go_upto_region 5 with (fail)
            go_cut [25] (fun v25 wc => ∃ (kq : Nat) (x25_14 : Bool), v25 = .bool x25_14 ∧ Aside0 (drayagelaw14_SagaStays.j2 kq l0 l1 x6_2 x25_14 x630000_2 x630001_2 x630002_2 x630003_2 x630004_2 x630005_2 x630006_2 = some r) ∧ Aside0 (kq ≤ k2) ∧ Aside0 (wc.heap[gb629]? = some (.cells #[.int .i64 x630000_2, .int .i64 x630001_2, .int .i64 x630002_2, .bool x630003_2, .int .i64 x630004_2, .bool x630005_2, .int .i64 x630006_2] 28 (0, 0))) ∧ Aside0 (Below w.heap.size w wc))
            case first =>
              have H := HC15.out
              clear HC15
              by_cases c16 : x6_2 < (l1.length : Int)
              · rw [if_pos c16] at H
                have c16b0 : decide (x6_2 < (l1.length : Int)) = true := decide_eq_true c16
                clear c16
                (first | rw [c16b0] | (simp only [i64_w, i32_w]; rw [c16b0]) | skip)
                have H' := Aside0.mk H
                clear H
                go_wp2
                go_meet
                case rel => exact ⟨_, (decide (x6_2 < 150)), (by first | rfl | (simp; done) | (simp [*]; done)), H', ⟨by have := HJ2.out; have := HK2.out; first | omega | exact Nat.le_refl _⟩, ⟨by (with_reducible repeat (first | apply bd1 | apply bd2 | apply bd3)); exact BK629.out⟩, ⟨by repeat (first | (with_reducible first | exact HB.out | apply below_alloc | apply pw_below_drewN | apply below_drew1 | refine below_set ?_ GE629.out) | exact HB.out)⟩⟩
              · rw [if_neg c16] at H
                have c16b0 : decide (x6_2 < (l1.length : Int)) = false := decide_eq_false c16
                clear c16
                (first | rw [c16b0] | (simp only [i64_w, i32_w]; rw [c16b0]) | skip)
                have H' := Aside0.mk H
                clear H
                go_wp2
                go_meet
                case rel => exact ⟨_, (false), (by first | rfl | (simp; done) | (simp [*]; done)), H', ⟨by have := HJ2.out; have := HK2.out; first | omega | exact Nat.le_refl _⟩, ⟨by (with_reducible repeat (first | apply bd1 | apply bd2 | apply bd3)); exact BK629.out⟩, ⟨by repeat (first | (with_reducible first | exact HB.out | apply below_alloc | apply pw_below_drewN | apply below_drew1 | refine below_set ?_ GE629.out) | exact HB.out)⟩⟩
            case rest =>
              clear HC15
              try clear c1
              try clear p2
              try clear c5
              try clear c8
              try clear c10
              try clear c12
              try clear c13
              try clear c16
              try clear c16b0
              try clear hcz14_0
              try clear hcz14_1
              try clear hcz14_2
              try clear hcz14_3
              try clear hcz14_4
              try clear hcz14_5
              try clear hcz14_6
              try clear hfz14_0
              try clear hfz14_1
              try clear hfz14_2
              try clear hfz14_3
              try clear hfz14_4
              try clear hfz14_5
              try clear hfz14_6
              try clear p2
              obtain ⟨kq, x25_14, rfl, HA, HJ14, BK629, HB⟩ := hcut
              cases kq with
              | zero => exact absurd HA.out (by simp [drayagelaw14_SagaStays.j2])
              | succ kj14 =>
                have H := HA.out
                clear HA
                simp only [drayagelaw14_SagaStays.j2] at H
                by_cases c17 : x25_14 = true
                · subst c17
                  have H1 : (if 0 ≤ x6_2 then (if x6_2 < (l1.length : Int) then ((drayagelaw14_happens.f kj14 l0 x630000_2 x630001_2 x630002_2 x630003_2 x630004_2 x630005_2 x630006_2 ((rd_T54 l1 x6_2).f0) ((rd_T54 l1 x6_2).f1) ((rd_T54 l1 x6_2).f2)).bind fun bt632 => (if bt632.2.2.2.2.2.2.2 = true then ((saga_Check.f kj14 l0 bt632.1 bt632.2.1 bt632.2.2.1 bt632.2.2.2.1 bt632.2.2.2.2.1 bt632.2.2.2.2.2.1 bt632.2.2.2.2.2.2.1).bind fun t641 => (if t641 = 0 then (if x630000_2 = 3 then (if (!(bt632.1 == x630000_2) || (!(bt632.2.1 == x630001_2) || (!(bt632.2.2.1 == x630002_2) || (!(bt632.2.2.2.1 == x630003_2) || (!(bt632.2.2.2.2.1 == x630004_2) || (!(bt632.2.2.2.2.2.1 == x630005_2) || (!(bt632.2.2.2.2.2.2.1 == x630006_2)))))))) = true then (drayagelaw14_SagaStays.j3 kj14 l0 l1 x6_2 true bt632.1 bt632.2.1 bt632.2.2.1 bt632.2.2.2.1 bt632.2.2.2.2.1 bt632.2.2.2.2.2.1 bt632.2.2.2.2.2.2.1) else (drayagelaw14_SagaStays.j3 kj14 l0 l1 x6_2 (decide (bt632.1 < x630000_2)) bt632.1 bt632.2.1 bt632.2.2.1 bt632.2.2.2.1 bt632.2.2.2.2.1 bt632.2.2.2.2.2.1 bt632.2.2.2.2.2.2.1)) else (drayagelaw14_SagaStays.j3 kj14 l0 l1 x6_2 (decide (bt632.1 < x630000_2)) bt632.1 bt632.2.1 bt632.2.2.1 bt632.2.2.2.1 bt632.2.2.2.2.1 bt632.2.2.2.2.2.1 bt632.2.2.2.2.2.2.1)) else (drayagelaw14_SagaStays.j3 kj14 l0 l1 x6_2 true bt632.1 bt632.2.1 bt632.2.2.1 bt632.2.2.2.1 bt632.2.2.2.2.1 bt632.2.2.2.2.2.1 bt632.2.2.2.2.2.2.1))) else (drayagelaw14_SagaStays.j3 kj14 l0 l1 x6_2 true bt632.1 bt632.2.1 bt632.2.2.1 bt632.2.2.2.1 bt632.2.2.2.2.1 bt632.2.2.2.2.2.1 bt632.2.2.2.2.2.2.1))) else (none)) else (none)) = some r := by rw [if_pos rfl] at H; exact H
                  clear H
                  have H := H1
                  clear H1
                  by_cases c18 : 0 ≤ x6_2
                  · rw [if_pos c18] at H
                    have c18b0 : decide (0 ≤ x6_2) = true := decide_eq_true c18
                    clear c18
                    by_cases c19 : x6_2 < (l1.length : Int)
                    · rw [if_pos c19] at H
                      have c19b0 : decide (x6_2 < (l1.length : Int)) = true := decide_eq_true c19
                      clear c19
                      replace H := Option.bind_eq_some_iff.mp H
                      obtain ⟨⟨t632, t633, t634, t635, t636, t637, t638, t639⟩, A200, H⟩ := H
                      replace H : (if t639 = true then ((saga_Check.f kj14 l0 t632 t633 t634 t635 t636 t637 t638).bind fun t641 => (if t641 = 0 then (if x630000_2 = 3 then (if (!(t632 == x630000_2) || (!(t633 == x630001_2) || (!(t634 == x630002_2) || (!(t635 == x630003_2) || (!(t636 == x630004_2) || (!(t637 == x630005_2) || (!(t638 == x630006_2)))))))) = true then (drayagelaw14_SagaStays.j3 kj14 l0 l1 x6_2 true t632 t633 t634 t635 t636 t637 t638) else (drayagelaw14_SagaStays.j3 kj14 l0 l1 x6_2 (decide (t632 < x630000_2)) t632 t633 t634 t635 t636 t637 t638)) else (drayagelaw14_SagaStays.j3 kj14 l0 l1 x6_2 (decide (t632 < x630000_2)) t632 t633 t634 t635 t636 t637 t638)) else (drayagelaw14_SagaStays.j3 kj14 l0 l1 x6_2 true t632 t633 t634 t635 t636 t637 t638))) else (drayagelaw14_SagaStays.j3 kj14 l0 l1 x6_2 true t632 t633 t634 t635 t636 t637 t638)) = some r := H
                      have A20 := Aside0.mk A200
                      clear A200
                      have HC21 := Aside0.mk H
                      clear H
                      try go_wp2
                      have n0_ := Aside0.mk (blk_drew BK629.out)
                      have n1_ := Aside0.mk (below_drew1 HB.out)
                      clear BK629
                      clear HB
                      have BK629 := n0_
                      have HB := n1_
                      clear n0_ n1_
                      have p631 : 0 ≤ (x6_2 : Int) := of_decide_eq_true (by first | (with_reducible assumption) | assumption)
                      have q631 : x6_2 < (l1.length : Int) := of_decide_eq_true (by first | (with_reducible assumption) | assumption)
                      obtain ⟨ad631, e631, hx631_0, hx631_1, hx631_2⟩ := at_T54 HR1.out x6_2 p631 q631
                      have hw631_2 := hx631_2
                      have hw631_1 := hx631_1
                      have hw631_0 := hx631_0
                      cases e631
                      replace hx631_0 := (HB.out.cell (World.block_lt_of_cell? w _ hx631_0)).trans hx631_0
                      replace hx631_1 := (HB.out.cell (World.block_lt_of_cell? w _ hx631_1)).trans hx631_1
                      replace hx631_2 := (HB.out.cell (World.block_lt_of_cell? w _ hx631_2)).trans hx631_2
                      replace p631 := eq_true p631
                      replace q631 := eq_true q631
                      refine start_ (n := 13) (S := fun w' => w'.cell? ⟨gb629, 0, none⟩ = some (.int .i64 x630000_2) ∧ w'.cell? ⟨gb629, 1, none⟩ = some (.int .i64 x630001_2) ∧ w'.cell? ⟨gb629, 2, none⟩ = some (.int .i64 x630002_2) ∧ w'.cell? ⟨gb629, 3, none⟩ = some (.bool x630003_2) ∧ w'.cell? ⟨gb629, 4, none⟩ = some (.int .i64 x630004_2) ∧ w'.cell? ⟨gb629, 5, none⟩ = some (.bool x630005_2) ∧ w'.cell? ⟨gb629, 6, none⟩ = some (.int .i64 x630006_2) ∧ w'.cell? (ad631.add ((x6_2).toNat * 3)) = some (.int .i64 ((rd_T54 l1 x6_2).f0)) ∧ w'.cell? ⟨(ad631.add ((x6_2).toNat * 3)).block, (ad631.add ((x6_2).toNat * 3)).off + 1, none⟩ = some (.int .i64 ((rd_T54 l1 x6_2).f1)) ∧ w'.cell? ⟨(ad631.add ((x6_2).toNat * 3)).block, (ad631.add ((x6_2).toNat * 3)).off + 2, none⟩ = some (.int .i64 ((rd_T54 l1 x6_2).f2))) (ds := []) #[false, false, false, false, false, false, false, false, false, false, false, false, false] (by kernel_rfl) rfl rfl ⟨(blk_cell BK629.out 0).trans rfl, (blk_cell BK629.out 1).trans rfl, (blk_cell BK629.out 2).trans rfl, (blk_cell BK629.out 3).trans rfl, (blk_cell BK629.out 4).trans rfl, (blk_cell BK629.out 5).trans rfl, (blk_cell BK629.out 6).trans rfl, ((HB.out.cell (World.block_lt_of_cell? w _ hw631_0)).trans hw631_0), ((HB.out.cell (World.block_lt_of_cell? w _ hw631_1)).trans hw631_1), ((HB.out.cell (World.block_lt_of_cell? w _ hw631_2)).trans hw631_2)⟩ (fun hHeld => ?_); refine with_tabW drayagelaw14_SagaStays.tab7 drayagelaw14_SagaStays.bits7 (fun HT_ HW_ => ?_)
                      generalize wc.drew = w22 at BK629 HB hx631_0 hx631_1 hx631_2 hHeld ⊢
                      refine pure_ (i := 0) (N := some 29) (v := ?_) (a' := ?_) #[true, false, false, false, false, false, false, false, false, false, false, false, false] rfl rfl (any_of HT_.out (by kernel_rfl)) (fun _ _ _ h => h) (Or.inl ⟨by rfl, ?_⟩) ?_ ?_
                      rotate_left
                      · intro w'
                        go_simp
                        with_reducible rfl
                      rotate_left
                      · simp only [Act.put, List.setIfInBounds_toArray, List.set_cons_zero, List.set_cons_succ, i64_w, i32_w]
                        rfl
                      refine pure_ (i := 2) (N := some 31) (v := ?_) (a' := ?_) #[true, false, true, false, false, false, false, false, false, false, false, false, false] rfl rfl (any_of HT_.out (by kernel_rfl)) (fun _ _ _ h => h) (Or.inl ⟨by rfl, ?_⟩) ?_ ?_
                      rotate_left
                      · intro w'
                        go_simp
                        with_reducible rfl
                      rotate_left
                      · simp only [Act.put, List.setIfInBounds_toArray, List.set_cons_zero, List.set_cons_succ, i64_w, i32_w]
                        rfl
                      refine pure_ (i := 3) (N := some 32) (v := ?_) (a' := ?_) #[true, false, true, true, false, false, false, false, false, false, false, false, false] rfl rfl (any_of HT_.out (by kernel_rfl)) (fun _ _ _ h => h) (Or.inl ⟨by rfl, ?_⟩) ?_ ?_
                      rotate_left
                      · intro w'
                        go_simp
                        with_reducible rfl
                      rotate_left
                      · simp only [Act.put, List.setIfInBounds_toArray, List.set_cons_zero, List.set_cons_succ, i64_w, i32_w]
                        rfl
                      refine pure_ (i := 4) (N := some 33) (v := ?_) (a' := ?_) #[true, false, true, true, true, false, false, false, false, false, false, false, false] rfl rfl (any_of HT_.out (by kernel_rfl)) (fun _ _ _ h => h) (Or.inl ⟨by rfl, ?_⟩) ?_ ?_
                      rotate_left
                      · intro w'
                        go_simp
                        with_reducible rfl
                      rotate_left
                      · simp only [Act.put, List.setIfInBounds_toArray, List.set_cons_zero, List.set_cons_succ, i64_w, i32_w]
                        rfl
                      refine take_ (i := 1) (N := some 30) (v := ?_) (a' := ?_) #[true, true, true, true, true, false, false, false, false, false, false, false, false] rfl rfl (take_ofW HT_.out HW_.out (by kernel_rfl)) (fun _ _ _ h => h) (Or.inl ⟨by rfl, ?_⟩) hHeld ?_ ?_
                      rotate_left
                      · rintro w' ⟨s0, s1, s2, s3, s4, s5, s6, s7, s8, s9⟩
                        go_simp
                        with_reducible rfl
                      rotate_left
                      · simp only [Act.put, List.setIfInBounds_toArray, List.set_cons_zero, List.set_cons_succ, i64_w, i32_w]
                        rfl
                      refine take_ (i := 5) (N := some 34) (v := ?_) (a' := ?_) #[true, true, true, true, true, true, false, false, false, false, false, false, false] rfl rfl (take_ofW HT_.out HW_.out (by kernel_rfl)) (fun _ _ _ h => h) (Or.inl ⟨by rfl, ?_⟩) hHeld ?_ ?_
                      rotate_left
                      · rintro w' ⟨s0, s1, s2, s3, s4, s5, s6, s7, s8, s9⟩
                        go_simp
                        with_reducible rfl
                      rotate_left
                      · simp only [Act.put, List.setIfInBounds_toArray, List.set_cons_zero, List.set_cons_succ, i64_w, i32_w]
                        rfl
                      refine join_ (σ := Nat) 2 #[true, true, true, true, true, true, true, true, true, true, true, false, false] (fun s_ => [(35, .tuple #[.agg #[.int .i64 t632, .int .i64 t633, .int .i64 t634, .bool t635, .int .i64 t636, .bool t637, .int .i64 t638], .bool t639]), (7, .pointer (some ⟨s_, 0, none⟩)), (28, .tuple #[.agg #[.int .i64 t632, .int .i64 t633, .int .i64 t634, .bool t635, .int .i64 t636, .bool t637, .int .i64 t638], .bool t639]), (36, .agg #[.int .i64 t632, .int .i64 t633, .int .i64 t634, .bool t635, .int .i64 t636, .bool t637, .int .i64 t638]), (37, .bool t639)]) (fun s_ w' => (w'.cell? ⟨gb629, 0, none⟩ = some (.int .i64 x630000_2) ∧ w'.cell? ⟨gb629, 1, none⟩ = some (.int .i64 x630001_2) ∧ w'.cell? ⟨gb629, 2, none⟩ = some (.int .i64 x630002_2) ∧ w'.cell? ⟨gb629, 3, none⟩ = some (.bool x630003_2) ∧ w'.cell? ⟨gb629, 4, none⟩ = some (.int .i64 x630004_2) ∧ w'.cell? ⟨gb629, 5, none⟩ = some (.bool x630005_2) ∧ w'.cell? ⟨gb629, 6, none⟩ = some (.int .i64 x630006_2) ∧ w'.cell? (ad631.add ((x6_2).toNat * 3)) = some (.int .i64 ((rd_T54 l1 x6_2).f0)) ∧ w'.cell? ⟨(ad631.add ((x6_2).toNat * 3)).block, (ad631.add ((x6_2).toNat * 3)).off + 1, none⟩ = some (.int .i64 ((rd_T54 l1 x6_2).f1)) ∧ w'.cell? ⟨(ad631.add ((x6_2).toNat * 3)).block, (ad631.add ((x6_2).toNat * 3)).off + 2, none⟩ = some (.int .i64 ((rd_T54 l1 x6_2).f2))) ∧ (w'.heap[gb629]? = some (.cells #[.int .i64 x630000_2, .int .i64 x630001_2, .int .i64 x630002_2, .bool x630003_2, .int .i64 x630004_2, .bool x630005_2, .int .i64 x630006_2] 28 (0, 0))) ∧ (w'.heap[s_]? = some (.cells #[.int .i64 0, .int .i64 0, .int .i64 0, .bool false, .int .i64 0, .bool false, .int .i64 0] 28 (0, 0))) ∧ (w.heap.size ≤ s_) ∧ (w.heap.size ≤ s_) ∧ (gb629 ≠ s_) ∧ (s_ ≠ gb629) ∧ (Below w.heap.size w w')) ?_ ?_
                      rotate_left
                      · intro hCont
                        refine two_ (i := 6) (j := 10) (Ni := some 35) (Nj := some 7) #[true, true, true, true, true, true, true, false, false, false, false, false, false] #[true, true, true, true, true, true, false, false, false, false, true, false, false] rfl rfl rfl rfl (two_of HT_.out (by kernel_rfl)) (by decide) (by decide) (fun K hK => ?_) (fun K hK => ?_)
                        · skip
                          refine goes_ Try.func26 (by kernel_rfl) rfl #[.slice A0 l0.length c0, .agg #[.int .i64 x630000_2, .int .i64 x630001_2, .int .i64 x630002_2, .bool x630003_2, .int .i64 x630004_2, .bool x630005_2, .int .i64 x630006_2], .agg #[.int .i64 ((rd_T54 l1 x6_2).f0), .int .i64 ((rd_T54 l1 x6_2).f1), .int .i64 ((rd_T54 l1 x6_2).f2)]] (by rfl) rfl rfl (by (try simp only [List.map_toArray, List.map_cons, List.map_nil]); first | done | rfl | (simp only [List.length_drop, List.length_take]; rfl)) ?_
                          with_reducible refine (drayagelaw14_happens.calls kj14 _ _ l0 x630000_2 x630001_2 x630002_2 x630003_2 x630004_2 x630005_2 x630006_2 ((rd_T54 l1 x6_2).f0) ((rd_T54 l1 x6_2).f1) ((rd_T54 l1 x6_2).f2) t632 t633 t634 t635 t636 t637 t638 t639 _ ?side1 ?side2 A20.out).mono ?_
                          (case side1 => repeat (first | exact (Kd.C_below HR0.out HB.out) | (with_reducible refine Kd.C_alloc ?_ _) | (with_reducible refine Kd.C_drewN ?_ _) | (with_reducible refine Kd.C_drew ?_)))
                          (case side2 => exact HC0.out)
                          rintro e w23 ⟨rfl, hb⟩
                          refine ⟨_, rfl, ?_⟩
                          have n0_ := Aside0.mk (blk_below (g := gb629) (o := .cells #[.int .i64 x630000_2, .int .i64 x630001_2, .int .i64 x630002_2, .bool x630003_2, .int .i64 x630004_2, .bool x630005_2, .int .i64 x630006_2] 28 (0, 0)) (by (with_reducible repeat (first | apply bd1 | apply bd2 | apply bd3)); exact BK629.out) hb)
                          have n1_ := Aside0.mk (below_step (by repeat (first | (with_reducible first | exact HB.out | apply below_alloc | apply pw_below_drewN | apply below_drew1 | refine below_set ?_ GE629.out) | exact HB.out)) hb)
                          clear BK629
                          clear HB
                          have BK629 := n0_
                          have HB := n1_
                          clear n0_ n1_
                          (try clear hb)
                          (try clear hb2)
                          (try clear hk)
                          (try clear hi)
                          refine hK.out _ _ ⟨(blk_cell BK629.out 0).trans rfl, (blk_cell BK629.out 1).trans rfl, (blk_cell BK629.out 2).trans rfl, (blk_cell BK629.out 3).trans rfl, (blk_cell BK629.out 4).trans rfl, (blk_cell BK629.out 5).trans rfl, (blk_cell BK629.out 6).trans rfl, ((HB.out.cell (World.block_lt_of_cell? w _ hw631_0)).trans hw631_0), ((HB.out.cell (World.block_lt_of_cell? w _ hw631_1)).trans hw631_1), ((HB.out.cell (World.block_lt_of_cell? w _ hw631_2)).trans hw631_2)⟩ (fun hHeld => ?_)
                          clear hK K
                          refine norm_ (a' := ?_) ?_ ?_
                          rotate_left
                          · show Act.put _ (some 35) _ = _
                            simp only [Act.put, List.setIfInBounds_toArray, List.set_cons_zero, List.set_cons_succ, i64_w, i32_w]
                            rfl
                          refine pure_ (i := 7) (N := some 28) (v := ?_) (a' := ?_) #[true, true, true, true, true, true, true, true, false, false, false, false, false] rfl rfl (any_of HT_.out (by kernel_rfl)) (fun _ _ _ h => h) (Or.inl ⟨by rfl, ?_⟩) ?_ ?_
                          rotate_left
                          · intro w'
                            go_simp
                            with_reducible rfl
                          rotate_left
                          · simp only [Act.put, List.setIfInBounds_toArray, List.set_cons_zero, List.set_cons_succ, i64_w, i32_w]
                            rfl
                          refine pure_ (i := 8) (N := some 36) (v := ?_) (a' := ?_) #[true, true, true, true, true, true, true, true, true, false, false, false, false] rfl rfl (any_of HT_.out (by kernel_rfl)) (fun _ _ _ h => h) (Or.inl ⟨by rfl, ?_⟩) ?_ ?_
                          rotate_left
                          · intro w'
                            go_simp
                            with_reducible rfl
                          rotate_left
                          · simp only [Act.put, List.setIfInBounds_toArray, List.set_cons_zero, List.set_cons_succ, i64_w, i32_w]
                            rfl
                          refine pure_ (i := 9) (N := some 37) (v := ?_) (a' := ?_) #[true, true, true, true, true, true, true, true, true, true, false, false, false] rfl rfl (any_of HT_.out (by kernel_rfl)) (fun _ _ _ h => h) (Or.inl ⟨by rfl, ?_⟩) ?_ ?_
                          rotate_left
                          · intro w'
                            go_simp
                            with_reducible rfl
                          rotate_left
                          · simp only [Act.put, List.setIfInBounds_toArray, List.set_cons_zero, List.set_cons_succ, i64_w, i32_w]
                            rfl
                          refine one_ (i := 10) (N := some 7) #[true, true, true, true, true, true, true, true, true, true, true, false, false] rfl rfl (one_of HT_.out (by kernel_rfl)) (by decide) (fun K hK => ?_)
                          refine box_step ?hg (N := 7) ?hd (cs := #[.int .i64 0, .int .i64 0, .int .i64 0, .bool false, .int .i64 0, .bool false, .int .i64 0]) (t := 28) ?hr ?_; (case hd => rfl); (case hg => rfl); (case hr => first | (go_simp; done) | (go_simp; rfl))
                          intro gb640 hg w24 hbox hb
                          have n0_ := Aside0.mk (blk_below (g := gb629) (o := .cells #[.int .i64 x630000_2, .int .i64 x630001_2, .int .i64 x630002_2, .bool x630003_2, .int .i64 x630004_2, .bool x630005_2, .int .i64 x630006_2] 28 (0, 0)) (by (with_reducible repeat (first | apply bd1 | apply bd2 | apply bd3)); exact BK629.out) hb)
                          have n1_ := Aside0.mk (below_step (by repeat (first | (with_reducible first | exact HB.out | apply below_alloc | apply pw_below_drewN | apply below_drew1 | refine below_set ?_ GE629.out) | exact HB.out)) hb)
                          have n2_ := Aside0.mk (hbox)
                          have n3_ := Aside0.mk ((by rw [hg]; exact (below_size (by repeat (first | (with_reducible first | exact HB.out | apply below_alloc | apply pw_below_drewN | apply below_drew1 | refine below_set ?_ GE629.out) | exact HB.out))) : w.heap.size ≤ gb640))
                          have n4_ := Aside0.mk ((by rw [hg]; exact (below_size (by repeat (first | (with_reducible first | exact HB.out | apply below_alloc | apply pw_below_drewN | apply below_drew1 | refine below_set ?_ GE629.out) | exact HB.out))) : w.heap.size ≤ gb640))
                          have n5_ := Aside0.mk ((by rw [hg]; exact Nat.ne_of_lt (blk_lt (g := gb629) (o := .cells #[.int .i64 x630000_2, .int .i64 x630001_2, .int .i64 x630002_2, .bool x630003_2, .int .i64 x630004_2, .bool x630005_2, .int .i64 x630006_2] 28 (0, 0)) (by (with_reducible repeat (first | apply bd1 | apply bd2 | apply bd3)); exact BK629.out)) : gb629 ≠ gb640))
                          have n6_ := Aside0.mk ((by rw [hg]; exact Nat.ne_of_gt (blk_lt (g := gb629) (o := .cells #[.int .i64 x630000_2, .int .i64 x630001_2, .int .i64 x630002_2, .bool x630003_2, .int .i64 x630004_2, .bool x630005_2, .int .i64 x630006_2] 28 (0, 0)) (by (with_reducible repeat (first | apply bd1 | apply bd2 | apply bd3)); exact BK629.out)) : gb640 ≠ gb629))
                          clear BK629
                          clear HB
                          have BK629 := n0_
                          have HB := n1_
                          have BK640 := n2_
                          have GW640 := n3_
                          have GE640 := n4_
                          have NB629_640 := n5_
                          have NB640_629 := n6_
                          clear n0_ n1_ n2_ n3_ n4_ n5_ n6_
                          clear hb hbox hg
                          refine hK.out _ _ ⟨(blk_cell BK629.out 0).trans rfl, (blk_cell BK629.out 1).trans rfl, (blk_cell BK629.out 2).trans rfl, (blk_cell BK629.out 3).trans rfl, (blk_cell BK629.out 4).trans rfl, (blk_cell BK629.out 5).trans rfl, (blk_cell BK629.out 6).trans rfl, ((HB.out.cell (World.block_lt_of_cell? w _ hw631_0)).trans hw631_0), ((HB.out.cell (World.block_lt_of_cell? w _ hw631_1)).trans hw631_1), ((HB.out.cell (World.block_lt_of_cell? w _ hw631_2)).trans hw631_2)⟩ (fun hHeld => ?_)
                          clear hK K
                          refine norm_ (a' := ?_) ?_ ?_
                          rotate_left
                          · show Act.put _ (some 7) _ = _
                            simp only [Act.put, List.setIfInBounds_toArray, List.set_cons_zero, List.set_cons_succ, i64_w, i32_w]
                            rfl
                          exact norm_ (by simp only [putAll, Act.put, List.setIfInBounds_toArray, List.set_cons_zero, List.set_cons_succ]) (hCont (gb640) _ ⟨hHeld, (by (with_reducible repeat (first | apply bd1 | apply bd2 | apply bd3)); exact BK629.out), (by (with_reducible repeat (first | apply bd1 | apply bd2 | apply bd3)); exact BK640.out), GW640.out, GE640.out, NB629_640.out, NB640_629.out, (by repeat (first | (with_reducible first | exact HB.out | apply below_alloc | apply pw_below_drewN | apply below_drew1 | refine below_set ?_ GE629.out | refine below_set ?_ GE640.out) | exact HB.out))⟩)
                        · skip
                          refine box_step ?hg (N := 7) ?hd (cs := #[.int .i64 0, .int .i64 0, .int .i64 0, .bool false, .int .i64 0, .bool false, .int .i64 0]) (t := 28) ?hr ?_; (case hd => rfl); (case hg => rfl); (case hr => first | (go_simp; done) | (go_simp; rfl))
                          intro gb640 hg w23 hbox hb
                          have n0_ := Aside0.mk (blk_below (g := gb629) (o := .cells #[.int .i64 x630000_2, .int .i64 x630001_2, .int .i64 x630002_2, .bool x630003_2, .int .i64 x630004_2, .bool x630005_2, .int .i64 x630006_2] 28 (0, 0)) (by (with_reducible repeat (first | apply bd1 | apply bd2 | apply bd3)); exact BK629.out) hb)
                          have n1_ := Aside0.mk (below_step (by repeat (first | (with_reducible first | exact HB.out | apply below_alloc | apply pw_below_drewN | apply below_drew1 | refine below_set ?_ GE629.out) | exact HB.out)) hb)
                          have n2_ := Aside0.mk (hbox)
                          have n3_ := Aside0.mk ((by rw [hg]; exact (below_size (by repeat (first | (with_reducible first | exact HB.out | apply below_alloc | apply pw_below_drewN | apply below_drew1 | refine below_set ?_ GE629.out) | exact HB.out))) : w.heap.size ≤ gb640))
                          have n4_ := Aside0.mk ((by rw [hg]; exact (below_size (by repeat (first | (with_reducible first | exact HB.out | apply below_alloc | apply pw_below_drewN | apply below_drew1 | refine below_set ?_ GE629.out) | exact HB.out))) : w.heap.size ≤ gb640))
                          have n5_ := Aside0.mk ((by rw [hg]; exact Nat.ne_of_lt (blk_lt (g := gb629) (o := .cells #[.int .i64 x630000_2, .int .i64 x630001_2, .int .i64 x630002_2, .bool x630003_2, .int .i64 x630004_2, .bool x630005_2, .int .i64 x630006_2] 28 (0, 0)) (by (with_reducible repeat (first | apply bd1 | apply bd2 | apply bd3)); exact BK629.out)) : gb629 ≠ gb640))
                          have n6_ := Aside0.mk ((by rw [hg]; exact Nat.ne_of_gt (blk_lt (g := gb629) (o := .cells #[.int .i64 x630000_2, .int .i64 x630001_2, .int .i64 x630002_2, .bool x630003_2, .int .i64 x630004_2, .bool x630005_2, .int .i64 x630006_2] 28 (0, 0)) (by (with_reducible repeat (first | apply bd1 | apply bd2 | apply bd3)); exact BK629.out)) : gb640 ≠ gb629))
                          clear BK629
                          clear HB
                          have BK629 := n0_
                          have HB := n1_
                          have BK640 := n2_
                          have GW640 := n3_
                          have GE640 := n4_
                          have NB629_640 := n5_
                          have NB640_629 := n6_
                          clear n0_ n1_ n2_ n3_ n4_ n5_ n6_
                          clear hb hbox hg
                          refine hK.out _ _ ⟨(blk_cell BK629.out 0).trans rfl, (blk_cell BK629.out 1).trans rfl, (blk_cell BK629.out 2).trans rfl, (blk_cell BK629.out 3).trans rfl, (blk_cell BK629.out 4).trans rfl, (blk_cell BK629.out 5).trans rfl, (blk_cell BK629.out 6).trans rfl, ((HB.out.cell (World.block_lt_of_cell? w _ hw631_0)).trans hw631_0), ((HB.out.cell (World.block_lt_of_cell? w _ hw631_1)).trans hw631_1), ((HB.out.cell (World.block_lt_of_cell? w _ hw631_2)).trans hw631_2)⟩ (fun hHeld => ?_)
                          clear hK K
                          refine norm_ (a' := ?_) ?_ ?_
                          rotate_left
                          · show Act.put _ (some 7) _ = _
                            simp only [Act.put, List.setIfInBounds_toArray, List.set_cons_zero, List.set_cons_succ, i64_w, i32_w]
                            rfl
                          refine one_ (i := 6) (N := some 35) #[true, true, true, true, true, true, true, false, false, false, true, false, false] rfl rfl (one_of HT_.out (by kernel_rfl)) (by decide) (fun K hK => ?_)
                          refine goes_ Try.func26 (by kernel_rfl) rfl #[.slice A0 l0.length c0, .agg #[.int .i64 x630000_2, .int .i64 x630001_2, .int .i64 x630002_2, .bool x630003_2, .int .i64 x630004_2, .bool x630005_2, .int .i64 x630006_2], .agg #[.int .i64 ((rd_T54 l1 x6_2).f0), .int .i64 ((rd_T54 l1 x6_2).f1), .int .i64 ((rd_T54 l1 x6_2).f2)]] (by rfl) rfl rfl (by (try simp only [List.map_toArray, List.map_cons, List.map_nil]); first | done | rfl | (simp only [List.length_drop, List.length_take]; rfl)) ?_
                          with_reducible refine (drayagelaw14_happens.calls kj14 _ _ l0 x630000_2 x630001_2 x630002_2 x630003_2 x630004_2 x630005_2 x630006_2 ((rd_T54 l1 x6_2).f0) ((rd_T54 l1 x6_2).f1) ((rd_T54 l1 x6_2).f2) t632 t633 t634 t635 t636 t637 t638 t639 _ ?side1 ?side2 A20.out).mono ?_
                          (case side1 => repeat (first | exact (Kd.C_below HR0.out HB.out) | (with_reducible refine Kd.C_alloc ?_ _) | (with_reducible refine Kd.C_drewN ?_ _) | (with_reducible refine Kd.C_drew ?_)))
                          (case side2 => exact HC0.out)
                          rintro e w24 ⟨rfl, hb⟩
                          refine ⟨_, rfl, ?_⟩
                          have n0_ := Aside0.mk (blk_below (g := gb629) (o := .cells #[.int .i64 x630000_2, .int .i64 x630001_2, .int .i64 x630002_2, .bool x630003_2, .int .i64 x630004_2, .bool x630005_2, .int .i64 x630006_2] 28 (0, 0)) (by (with_reducible repeat (first | apply bd1 | apply bd2 | apply bd3)); exact BK629.out) hb)
                          have n1_ := Aside0.mk (blk_below (g := gb640) (o := .cells #[.int .i64 0, .int .i64 0, .int .i64 0, .bool false, .int .i64 0, .bool false, .int .i64 0] 28 (0, 0)) (by (with_reducible repeat (first | apply bd1 | apply bd2 | apply bd3)); exact BK640.out) hb)
                          have n2_ := Aside0.mk (below_step (by repeat (first | (with_reducible first | exact HB.out | apply below_alloc | apply pw_below_drewN | apply below_drew1 | refine below_set ?_ GE629.out | refine below_set ?_ GE640.out) | exact HB.out)) hb)
                          clear BK629
                          clear BK640
                          clear HB
                          have BK629 := n0_
                          have BK640 := n1_
                          have HB := n2_
                          clear n0_ n1_ n2_
                          (try clear hb)
                          (try clear hb2)
                          (try clear hk)
                          (try clear hi)
                          refine hK.out _ _ ⟨(blk_cell BK629.out 0).trans rfl, (blk_cell BK629.out 1).trans rfl, (blk_cell BK629.out 2).trans rfl, (blk_cell BK629.out 3).trans rfl, (blk_cell BK629.out 4).trans rfl, (blk_cell BK629.out 5).trans rfl, (blk_cell BK629.out 6).trans rfl, ((HB.out.cell (World.block_lt_of_cell? w _ hw631_0)).trans hw631_0), ((HB.out.cell (World.block_lt_of_cell? w _ hw631_1)).trans hw631_1), ((HB.out.cell (World.block_lt_of_cell? w _ hw631_2)).trans hw631_2)⟩ (fun hHeld => ?_)
                          clear hK K
                          refine norm_ (a' := ?_) ?_ ?_
                          rotate_left
                          · show Act.put _ (some 35) _ = _
                            simp only [Act.put, List.setIfInBounds_toArray, List.set_cons_zero, List.set_cons_succ, i64_w, i32_w]
                            rfl
                          refine pure_ (i := 7) (N := some 28) (v := ?_) (a' := ?_) #[true, true, true, true, true, true, true, true, false, false, true, false, false] rfl rfl (any_of HT_.out (by kernel_rfl)) (fun _ _ _ h => h) (Or.inl ⟨by rfl, ?_⟩) ?_ ?_
                          rotate_left
                          · intro w'
                            go_simp
                            with_reducible rfl
                          rotate_left
                          · simp only [Act.put, List.setIfInBounds_toArray, List.set_cons_zero, List.set_cons_succ, i64_w, i32_w]
                            rfl
                          refine pure_ (i := 8) (N := some 36) (v := ?_) (a' := ?_) #[true, true, true, true, true, true, true, true, true, false, true, false, false] rfl rfl (any_of HT_.out (by kernel_rfl)) (fun _ _ _ h => h) (Or.inl ⟨by rfl, ?_⟩) ?_ ?_
                          rotate_left
                          · intro w'
                            go_simp
                            with_reducible rfl
                          rotate_left
                          · simp only [Act.put, List.setIfInBounds_toArray, List.set_cons_zero, List.set_cons_succ, i64_w, i32_w]
                            rfl
                          refine pure_ (i := 9) (N := some 37) (v := ?_) (a' := ?_) #[true, true, true, true, true, true, true, true, true, true, true, false, false] rfl rfl (any_of HT_.out (by kernel_rfl)) (fun _ _ _ h => h) (Or.inl ⟨by rfl, ?_⟩) ?_ ?_
                          rotate_left
                          · intro w'
                            go_simp
                            with_reducible rfl
                          rotate_left
                          · simp only [Act.put, List.setIfInBounds_toArray, List.set_cons_zero, List.set_cons_succ, i64_w, i32_w]
                            rfl
                          exact norm_ (by simp only [putAll, Act.put, List.setIfInBounds_toArray, List.set_cons_zero, List.set_cons_succ]) (hCont (gb640) _ ⟨hHeld, (by (with_reducible repeat (first | apply bd1 | apply bd2 | apply bd3)); exact BK629.out), (by (with_reducible repeat (first | apply bd1 | apply bd2 | apply bd3)); exact BK640.out), GW640.out, GE640.out, NB629_640.out, NB640_629.out, (by repeat (first | (with_reducible first | exact HB.out | apply below_alloc | apply pw_below_drewN | apply below_drew1 | refine below_set ?_ GE629.out | refine below_set ?_ GE640.out) | exact HB.out))⟩)
                      rintro gb640 w25 ⟨hS_, h0_, h1_, h2_, h3_, h4_, h5_, h6_⟩
                      have n0_ : Aside0 (w25.heap[gb629]? = some (.cells #[.int .i64 x630000_2, .int .i64 x630001_2, .int .i64 x630002_2, .bool x630003_2, .int .i64 x630004_2, .bool x630005_2, .int .i64 x630006_2] 28 (0, 0))) := ⟨h0_⟩
                      have n1_ : Aside0 (w25.heap[gb640]? = some (.cells #[.int .i64 0, .int .i64 0, .int .i64 0, .bool false, .int .i64 0, .bool false, .int .i64 0] 28 (0, 0))) := ⟨h1_⟩
                      have n2_ : Aside0 (w.heap.size ≤ gb640) := ⟨h2_⟩
                      have n3_ : Aside0 (w.heap.size ≤ gb640) := ⟨h3_⟩
                      have n4_ : Aside0 (gb629 ≠ gb640) := ⟨h4_⟩
                      have n5_ : Aside0 (gb640 ≠ gb629) := ⟨h5_⟩
                      have n6_ : Aside0 (Below w.heap.size w w25) := ⟨h6_⟩
                      clear BK629
                      clear HB
                      clear h0_ h1_ h2_ h3_ h4_ h5_ h6_
                      have BK629 := n0_
                      have BK640 := n1_
                      have GW640 := n2_
                      have GE640 := n3_
                      have NB629_640 := n4_
                      have NB640_629 := n5_
                      have HB := n6_
                      clear n0_ n1_ n2_ n3_ n4_ n5_ n6_
                      have hHeld : w25.cell? ⟨gb629, 0, none⟩ = some (.int .i64 x630000_2) ∧ w25.cell? ⟨gb629, 1, none⟩ = some (.int .i64 x630001_2) ∧ w25.cell? ⟨gb629, 2, none⟩ = some (.int .i64 x630002_2) ∧ w25.cell? ⟨gb629, 3, none⟩ = some (.bool x630003_2) ∧ w25.cell? ⟨gb629, 4, none⟩ = some (.int .i64 x630004_2) ∧ w25.cell? ⟨gb629, 5, none⟩ = some (.bool x630005_2) ∧ w25.cell? ⟨gb629, 6, none⟩ = some (.int .i64 x630006_2) ∧ w25.cell? (ad631.add ((x6_2).toNat * 3)) = some (.int .i64 ((rd_T54 l1 x6_2).f0)) ∧ w25.cell? ⟨(ad631.add ((x6_2).toNat * 3)).block, (ad631.add ((x6_2).toNat * 3)).off + 1, none⟩ = some (.int .i64 ((rd_T54 l1 x6_2).f1)) ∧ w25.cell? ⟨(ad631.add ((x6_2).toNat * 3)).block, (ad631.add ((x6_2).toNat * 3)).off + 2, none⟩ = some (.int .i64 ((rd_T54 l1 x6_2).f2)) := hS_
                      refine norm_ (a' := ?_) ?_ ?_
                      rotate_left
                      · simp only [putAll, Act.put, List.setIfInBounds_toArray, List.set_cons_zero, List.set_cons_succ]
                        rfl
                      refine one_ (i := 11) (N := none) #[true, true, true, true, true, true, true, true, true, true, true, true, false] rfl rfl (one_of HT_.out (by kernel_rfl)) (by decide) (fun K hK => ?_)
                      have hs26 : w25.cell? ⟨gb640, 0, none⟩ = some (.int .i64 0) := (blk_cell BK640.out 0).trans rfl
                      have hfs26 := blk_frozen BK640.out 0
                      have hns26_0 := NB629_640.out
                      have hms26_0 := NB640_629.out
                      have hs27 : w25.cell? ⟨gb640, 1, none⟩ = some (.int .i64 0) := (blk_cell BK640.out 1).trans rfl
                      have hfs27 := blk_frozen BK640.out 1
                      have hns27_0 := NB629_640.out
                      have hms27_0 := NB640_629.out
                      have hs28 : w25.cell? ⟨gb640, 2, none⟩ = some (.int .i64 0) := (blk_cell BK640.out 2).trans rfl
                      have hfs28 := blk_frozen BK640.out 2
                      have hns28_0 := NB629_640.out
                      have hms28_0 := NB640_629.out
                      have hs29 : w25.cell? ⟨gb640, 3, none⟩ = some (.bool false) := (blk_cell BK640.out 3).trans rfl
                      have hfs29 := blk_frozen BK640.out 3
                      have hns29_0 := NB629_640.out
                      have hms29_0 := NB640_629.out
                      have hs30 : w25.cell? ⟨gb640, 4, none⟩ = some (.int .i64 0) := (blk_cell BK640.out 4).trans rfl
                      have hfs30 := blk_frozen BK640.out 4
                      have hns30_0 := NB629_640.out
                      have hms30_0 := NB640_629.out
                      have hs31 : w25.cell? ⟨gb640, 5, none⟩ = some (.bool false) := (blk_cell BK640.out 5).trans rfl
                      have hfs31 := blk_frozen BK640.out 5
                      have hns31_0 := NB629_640.out
                      have hms31_0 := NB640_629.out
                      have hs32 : w25.cell? ⟨gb640, 6, none⟩ = some (.int .i64 0) := (blk_cell BK640.out 6).trans rfl
                      have hfs32 := blk_frozen BK640.out 6
                      have hns32_0 := NB629_640.out
                      have hms32_0 := NB640_629.out
                      refine skip_ (w1 := ?_) (by rfl) rfl ?_ ?_
                      rotate_left
                      · go_simp
                        rfl
                      refine hK.out _ _ ⟨((cell_far (p := ⟨gb640, _, none⟩) NB629_640.out _).trans (((cell_far (p := ⟨gb640, _, none⟩) NB629_640.out _).trans (((cell_far (p := ⟨gb640, _, none⟩) NB629_640.out _).trans (((cell_far (p := ⟨gb640, _, none⟩) NB629_640.out _).trans (((cell_far (p := ⟨gb640, _, none⟩) NB629_640.out _).trans (((cell_far (p := ⟨gb640, _, none⟩) NB629_640.out _).trans (((cell_far (p := ⟨gb640, _, none⟩) NB629_640.out _).trans (hHeld.1)))))))))))))), ((cell_far (p := ⟨gb640, _, none⟩) NB629_640.out _).trans (((cell_far (p := ⟨gb640, _, none⟩) NB629_640.out _).trans (((cell_far (p := ⟨gb640, _, none⟩) NB629_640.out _).trans (((cell_far (p := ⟨gb640, _, none⟩) NB629_640.out _).trans (((cell_far (p := ⟨gb640, _, none⟩) NB629_640.out _).trans (((cell_far (p := ⟨gb640, _, none⟩) NB629_640.out _).trans (((cell_far (p := ⟨gb640, _, none⟩) NB629_640.out _).trans (hHeld.2.1)))))))))))))), ((cell_far (p := ⟨gb640, _, none⟩) NB629_640.out _).trans (((cell_far (p := ⟨gb640, _, none⟩) NB629_640.out _).trans (((cell_far (p := ⟨gb640, _, none⟩) NB629_640.out _).trans (((cell_far (p := ⟨gb640, _, none⟩) NB629_640.out _).trans (((cell_far (p := ⟨gb640, _, none⟩) NB629_640.out _).trans (((cell_far (p := ⟨gb640, _, none⟩) NB629_640.out _).trans (((cell_far (p := ⟨gb640, _, none⟩) NB629_640.out _).trans (hHeld.2.2.1)))))))))))))), ((cell_far (p := ⟨gb640, _, none⟩) NB629_640.out _).trans (((cell_far (p := ⟨gb640, _, none⟩) NB629_640.out _).trans (((cell_far (p := ⟨gb640, _, none⟩) NB629_640.out _).trans (((cell_far (p := ⟨gb640, _, none⟩) NB629_640.out _).trans (((cell_far (p := ⟨gb640, _, none⟩) NB629_640.out _).trans (((cell_far (p := ⟨gb640, _, none⟩) NB629_640.out _).trans (((cell_far (p := ⟨gb640, _, none⟩) NB629_640.out _).trans (hHeld.2.2.2.1)))))))))))))), ((cell_far (p := ⟨gb640, _, none⟩) NB629_640.out _).trans (((cell_far (p := ⟨gb640, _, none⟩) NB629_640.out _).trans (((cell_far (p := ⟨gb640, _, none⟩) NB629_640.out _).trans (((cell_far (p := ⟨gb640, _, none⟩) NB629_640.out _).trans (((cell_far (p := ⟨gb640, _, none⟩) NB629_640.out _).trans (((cell_far (p := ⟨gb640, _, none⟩) NB629_640.out _).trans (((cell_far (p := ⟨gb640, _, none⟩) NB629_640.out _).trans (hHeld.2.2.2.2.1)))))))))))))), ((cell_far (p := ⟨gb640, _, none⟩) NB629_640.out _).trans (((cell_far (p := ⟨gb640, _, none⟩) NB629_640.out _).trans (((cell_far (p := ⟨gb640, _, none⟩) NB629_640.out _).trans (((cell_far (p := ⟨gb640, _, none⟩) NB629_640.out _).trans (((cell_far (p := ⟨gb640, _, none⟩) NB629_640.out _).trans (((cell_far (p := ⟨gb640, _, none⟩) NB629_640.out _).trans (((cell_far (p := ⟨gb640, _, none⟩) NB629_640.out _).trans (hHeld.2.2.2.2.2.1)))))))))))))), ((cell_far (p := ⟨gb640, _, none⟩) NB629_640.out _).trans (((cell_far (p := ⟨gb640, _, none⟩) NB629_640.out _).trans (((cell_far (p := ⟨gb640, _, none⟩) NB629_640.out _).trans (((cell_far (p := ⟨gb640, _, none⟩) NB629_640.out _).trans (((cell_far (p := ⟨gb640, _, none⟩) NB629_640.out _).trans (((cell_far (p := ⟨gb640, _, none⟩) NB629_640.out _).trans (((cell_far (p := ⟨gb640, _, none⟩) NB629_640.out _).trans (hHeld.2.2.2.2.2.2.1)))))))))))))), ((cell_far (p := ⟨gb640, _, none⟩) (by first | exact Nat.ne_of_lt (Nat.lt_of_lt_of_le (by have := World.block_lt_of_cell? _ _ hw631_0; first | rwa [add_block] at this | exact this) GW640.out) | (rw [add_block]; exact Nat.ne_of_lt (Nat.lt_of_lt_of_le (by have := World.block_lt_of_cell? _ _ hw631_0; first | rwa [add_block] at this | exact this) GW640.out)) | (show (Addr.add _ _).block ≠ _; rw [add_block]; exact Nat.ne_of_lt (Nat.lt_of_lt_of_le (by have := World.block_lt_of_cell? _ _ hw631_0; first | rwa [add_block] at this | exact this) GW640.out)) | (dsimp only; exact Nat.ne_of_lt (Nat.lt_of_lt_of_le (by have := World.block_lt_of_cell? _ _ hw631_0; first | rwa [add_block] at this | exact this) GW640.out))) _).trans (((cell_far (p := ⟨gb640, _, none⟩) (by first | exact Nat.ne_of_lt (Nat.lt_of_lt_of_le (by have := World.block_lt_of_cell? _ _ hw631_0; first | rwa [add_block] at this | exact this) GW640.out) | (rw [add_block]; exact Nat.ne_of_lt (Nat.lt_of_lt_of_le (by have := World.block_lt_of_cell? _ _ hw631_0; first | rwa [add_block] at this | exact this) GW640.out)) | (show (Addr.add _ _).block ≠ _; rw [add_block]; exact Nat.ne_of_lt (Nat.lt_of_lt_of_le (by have := World.block_lt_of_cell? _ _ hw631_0; first | rwa [add_block] at this | exact this) GW640.out)) | (dsimp only; exact Nat.ne_of_lt (Nat.lt_of_lt_of_le (by have := World.block_lt_of_cell? _ _ hw631_0; first | rwa [add_block] at this | exact this) GW640.out))) _).trans (((cell_far (p := ⟨gb640, _, none⟩) (by first | exact Nat.ne_of_lt (Nat.lt_of_lt_of_le (by have := World.block_lt_of_cell? _ _ hw631_0; first | rwa [add_block] at this | exact this) GW640.out) | (rw [add_block]; exact Nat.ne_of_lt (Nat.lt_of_lt_of_le (by have := World.block_lt_of_cell? _ _ hw631_0; first | rwa [add_block] at this | exact this) GW640.out)) | (show (Addr.add _ _).block ≠ _; rw [add_block]; exact Nat.ne_of_lt (Nat.lt_of_lt_of_le (by have := World.block_lt_of_cell? _ _ hw631_0; first | rwa [add_block] at this | exact this) GW640.out)) | (dsimp only; exact Nat.ne_of_lt (Nat.lt_of_lt_of_le (by have := World.block_lt_of_cell? _ _ hw631_0; first | rwa [add_block] at this | exact this) GW640.out))) _).trans (((cell_far (p := ⟨gb640, _, none⟩) (by first | exact Nat.ne_of_lt (Nat.lt_of_lt_of_le (by have := World.block_lt_of_cell? _ _ hw631_0; first | rwa [add_block] at this | exact this) GW640.out) | (rw [add_block]; exact Nat.ne_of_lt (Nat.lt_of_lt_of_le (by have := World.block_lt_of_cell? _ _ hw631_0; first | rwa [add_block] at this | exact this) GW640.out)) | (show (Addr.add _ _).block ≠ _; rw [add_block]; exact Nat.ne_of_lt (Nat.lt_of_lt_of_le (by have := World.block_lt_of_cell? _ _ hw631_0; first | rwa [add_block] at this | exact this) GW640.out)) | (dsimp only; exact Nat.ne_of_lt (Nat.lt_of_lt_of_le (by have := World.block_lt_of_cell? _ _ hw631_0; first | rwa [add_block] at this | exact this) GW640.out))) _).trans (((cell_far (p := ⟨gb640, _, none⟩) (by first | exact Nat.ne_of_lt (Nat.lt_of_lt_of_le (by have := World.block_lt_of_cell? _ _ hw631_0; first | rwa [add_block] at this | exact this) GW640.out) | (rw [add_block]; exact Nat.ne_of_lt (Nat.lt_of_lt_of_le (by have := World.block_lt_of_cell? _ _ hw631_0; first | rwa [add_block] at this | exact this) GW640.out)) | (show (Addr.add _ _).block ≠ _; rw [add_block]; exact Nat.ne_of_lt (Nat.lt_of_lt_of_le (by have := World.block_lt_of_cell? _ _ hw631_0; first | rwa [add_block] at this | exact this) GW640.out)) | (dsimp only; exact Nat.ne_of_lt (Nat.lt_of_lt_of_le (by have := World.block_lt_of_cell? _ _ hw631_0; first | rwa [add_block] at this | exact this) GW640.out))) _).trans (((cell_far (p := ⟨gb640, _, none⟩) (by first | exact Nat.ne_of_lt (Nat.lt_of_lt_of_le (by have := World.block_lt_of_cell? _ _ hw631_0; first | rwa [add_block] at this | exact this) GW640.out) | (rw [add_block]; exact Nat.ne_of_lt (Nat.lt_of_lt_of_le (by have := World.block_lt_of_cell? _ _ hw631_0; first | rwa [add_block] at this | exact this) GW640.out)) | (show (Addr.add _ _).block ≠ _; rw [add_block]; exact Nat.ne_of_lt (Nat.lt_of_lt_of_le (by have := World.block_lt_of_cell? _ _ hw631_0; first | rwa [add_block] at this | exact this) GW640.out)) | (dsimp only; exact Nat.ne_of_lt (Nat.lt_of_lt_of_le (by have := World.block_lt_of_cell? _ _ hw631_0; first | rwa [add_block] at this | exact this) GW640.out))) _).trans (((cell_far (p := ⟨gb640, _, none⟩) (by first | exact Nat.ne_of_lt (Nat.lt_of_lt_of_le (by have := World.block_lt_of_cell? _ _ hw631_0; first | rwa [add_block] at this | exact this) GW640.out) | (rw [add_block]; exact Nat.ne_of_lt (Nat.lt_of_lt_of_le (by have := World.block_lt_of_cell? _ _ hw631_0; first | rwa [add_block] at this | exact this) GW640.out)) | (show (Addr.add _ _).block ≠ _; rw [add_block]; exact Nat.ne_of_lt (Nat.lt_of_lt_of_le (by have := World.block_lt_of_cell? _ _ hw631_0; first | rwa [add_block] at this | exact this) GW640.out)) | (dsimp only; exact Nat.ne_of_lt (Nat.lt_of_lt_of_le (by have := World.block_lt_of_cell? _ _ hw631_0; first | rwa [add_block] at this | exact this) GW640.out))) _).trans (hHeld.2.2.2.2.2.2.2.1)))))))))))))), ((cell_far (p := ⟨gb640, _, none⟩) (by first | exact Nat.ne_of_lt (Nat.lt_of_lt_of_le (by have := World.block_lt_of_cell? _ _ hw631_1; first | rwa [add_block] at this | exact this) GW640.out) | (rw [add_block]; exact Nat.ne_of_lt (Nat.lt_of_lt_of_le (by have := World.block_lt_of_cell? _ _ hw631_1; first | rwa [add_block] at this | exact this) GW640.out)) | (show (Addr.add _ _).block ≠ _; rw [add_block]; exact Nat.ne_of_lt (Nat.lt_of_lt_of_le (by have := World.block_lt_of_cell? _ _ hw631_1; first | rwa [add_block] at this | exact this) GW640.out)) | (dsimp only; exact Nat.ne_of_lt (Nat.lt_of_lt_of_le (by have := World.block_lt_of_cell? _ _ hw631_1; first | rwa [add_block] at this | exact this) GW640.out))) _).trans (((cell_far (p := ⟨gb640, _, none⟩) (by first | exact Nat.ne_of_lt (Nat.lt_of_lt_of_le (by have := World.block_lt_of_cell? _ _ hw631_1; first | rwa [add_block] at this | exact this) GW640.out) | (rw [add_block]; exact Nat.ne_of_lt (Nat.lt_of_lt_of_le (by have := World.block_lt_of_cell? _ _ hw631_1; first | rwa [add_block] at this | exact this) GW640.out)) | (show (Addr.add _ _).block ≠ _; rw [add_block]; exact Nat.ne_of_lt (Nat.lt_of_lt_of_le (by have := World.block_lt_of_cell? _ _ hw631_1; first | rwa [add_block] at this | exact this) GW640.out)) | (dsimp only; exact Nat.ne_of_lt (Nat.lt_of_lt_of_le (by have := World.block_lt_of_cell? _ _ hw631_1; first | rwa [add_block] at this | exact this) GW640.out))) _).trans (((cell_far (p := ⟨gb640, _, none⟩) (by first | exact Nat.ne_of_lt (Nat.lt_of_lt_of_le (by have := World.block_lt_of_cell? _ _ hw631_1; first | rwa [add_block] at this | exact this) GW640.out) | (rw [add_block]; exact Nat.ne_of_lt (Nat.lt_of_lt_of_le (by have := World.block_lt_of_cell? _ _ hw631_1; first | rwa [add_block] at this | exact this) GW640.out)) | (show (Addr.add _ _).block ≠ _; rw [add_block]; exact Nat.ne_of_lt (Nat.lt_of_lt_of_le (by have := World.block_lt_of_cell? _ _ hw631_1; first | rwa [add_block] at this | exact this) GW640.out)) | (dsimp only; exact Nat.ne_of_lt (Nat.lt_of_lt_of_le (by have := World.block_lt_of_cell? _ _ hw631_1; first | rwa [add_block] at this | exact this) GW640.out))) _).trans (((cell_far (p := ⟨gb640, _, none⟩) (by first | exact Nat.ne_of_lt (Nat.lt_of_lt_of_le (by have := World.block_lt_of_cell? _ _ hw631_1; first | rwa [add_block] at this | exact this) GW640.out) | (rw [add_block]; exact Nat.ne_of_lt (Nat.lt_of_lt_of_le (by have := World.block_lt_of_cell? _ _ hw631_1; first | rwa [add_block] at this | exact this) GW640.out)) | (show (Addr.add _ _).block ≠ _; rw [add_block]; exact Nat.ne_of_lt (Nat.lt_of_lt_of_le (by have := World.block_lt_of_cell? _ _ hw631_1; first | rwa [add_block] at this | exact this) GW640.out)) | (dsimp only; exact Nat.ne_of_lt (Nat.lt_of_lt_of_le (by have := World.block_lt_of_cell? _ _ hw631_1; first | rwa [add_block] at this | exact this) GW640.out))) _).trans (((cell_far (p := ⟨gb640, _, none⟩) (by first | exact Nat.ne_of_lt (Nat.lt_of_lt_of_le (by have := World.block_lt_of_cell? _ _ hw631_1; first | rwa [add_block] at this | exact this) GW640.out) | (rw [add_block]; exact Nat.ne_of_lt (Nat.lt_of_lt_of_le (by have := World.block_lt_of_cell? _ _ hw631_1; first | rwa [add_block] at this | exact this) GW640.out)) | (show (Addr.add _ _).block ≠ _; rw [add_block]; exact Nat.ne_of_lt (Nat.lt_of_lt_of_le (by have := World.block_lt_of_cell? _ _ hw631_1; first | rwa [add_block] at this | exact this) GW640.out)) | (dsimp only; exact Nat.ne_of_lt (Nat.lt_of_lt_of_le (by have := World.block_lt_of_cell? _ _ hw631_1; first | rwa [add_block] at this | exact this) GW640.out))) _).trans (((cell_far (p := ⟨gb640, _, none⟩) (by first | exact Nat.ne_of_lt (Nat.lt_of_lt_of_le (by have := World.block_lt_of_cell? _ _ hw631_1; first | rwa [add_block] at this | exact this) GW640.out) | (rw [add_block]; exact Nat.ne_of_lt (Nat.lt_of_lt_of_le (by have := World.block_lt_of_cell? _ _ hw631_1; first | rwa [add_block] at this | exact this) GW640.out)) | (show (Addr.add _ _).block ≠ _; rw [add_block]; exact Nat.ne_of_lt (Nat.lt_of_lt_of_le (by have := World.block_lt_of_cell? _ _ hw631_1; first | rwa [add_block] at this | exact this) GW640.out)) | (dsimp only; exact Nat.ne_of_lt (Nat.lt_of_lt_of_le (by have := World.block_lt_of_cell? _ _ hw631_1; first | rwa [add_block] at this | exact this) GW640.out))) _).trans (((cell_far (p := ⟨gb640, _, none⟩) (by first | exact Nat.ne_of_lt (Nat.lt_of_lt_of_le (by have := World.block_lt_of_cell? _ _ hw631_1; first | rwa [add_block] at this | exact this) GW640.out) | (rw [add_block]; exact Nat.ne_of_lt (Nat.lt_of_lt_of_le (by have := World.block_lt_of_cell? _ _ hw631_1; first | rwa [add_block] at this | exact this) GW640.out)) | (show (Addr.add _ _).block ≠ _; rw [add_block]; exact Nat.ne_of_lt (Nat.lt_of_lt_of_le (by have := World.block_lt_of_cell? _ _ hw631_1; first | rwa [add_block] at this | exact this) GW640.out)) | (dsimp only; exact Nat.ne_of_lt (Nat.lt_of_lt_of_le (by have := World.block_lt_of_cell? _ _ hw631_1; first | rwa [add_block] at this | exact this) GW640.out))) _).trans (hHeld.2.2.2.2.2.2.2.2.1)))))))))))))), ((cell_far (p := ⟨gb640, _, none⟩) (by first | exact Nat.ne_of_lt (Nat.lt_of_lt_of_le (by have := World.block_lt_of_cell? _ _ hw631_2; first | rwa [add_block] at this | exact this) GW640.out) | (rw [add_block]; exact Nat.ne_of_lt (Nat.lt_of_lt_of_le (by have := World.block_lt_of_cell? _ _ hw631_2; first | rwa [add_block] at this | exact this) GW640.out)) | (show (Addr.add _ _).block ≠ _; rw [add_block]; exact Nat.ne_of_lt (Nat.lt_of_lt_of_le (by have := World.block_lt_of_cell? _ _ hw631_2; first | rwa [add_block] at this | exact this) GW640.out)) | (dsimp only; exact Nat.ne_of_lt (Nat.lt_of_lt_of_le (by have := World.block_lt_of_cell? _ _ hw631_2; first | rwa [add_block] at this | exact this) GW640.out))) _).trans (((cell_far (p := ⟨gb640, _, none⟩) (by first | exact Nat.ne_of_lt (Nat.lt_of_lt_of_le (by have := World.block_lt_of_cell? _ _ hw631_2; first | rwa [add_block] at this | exact this) GW640.out) | (rw [add_block]; exact Nat.ne_of_lt (Nat.lt_of_lt_of_le (by have := World.block_lt_of_cell? _ _ hw631_2; first | rwa [add_block] at this | exact this) GW640.out)) | (show (Addr.add _ _).block ≠ _; rw [add_block]; exact Nat.ne_of_lt (Nat.lt_of_lt_of_le (by have := World.block_lt_of_cell? _ _ hw631_2; first | rwa [add_block] at this | exact this) GW640.out)) | (dsimp only; exact Nat.ne_of_lt (Nat.lt_of_lt_of_le (by have := World.block_lt_of_cell? _ _ hw631_2; first | rwa [add_block] at this | exact this) GW640.out))) _).trans (((cell_far (p := ⟨gb640, _, none⟩) (by first | exact Nat.ne_of_lt (Nat.lt_of_lt_of_le (by have := World.block_lt_of_cell? _ _ hw631_2; first | rwa [add_block] at this | exact this) GW640.out) | (rw [add_block]; exact Nat.ne_of_lt (Nat.lt_of_lt_of_le (by have := World.block_lt_of_cell? _ _ hw631_2; first | rwa [add_block] at this | exact this) GW640.out)) | (show (Addr.add _ _).block ≠ _; rw [add_block]; exact Nat.ne_of_lt (Nat.lt_of_lt_of_le (by have := World.block_lt_of_cell? _ _ hw631_2; first | rwa [add_block] at this | exact this) GW640.out)) | (dsimp only; exact Nat.ne_of_lt (Nat.lt_of_lt_of_le (by have := World.block_lt_of_cell? _ _ hw631_2; first | rwa [add_block] at this | exact this) GW640.out))) _).trans (((cell_far (p := ⟨gb640, _, none⟩) (by first | exact Nat.ne_of_lt (Nat.lt_of_lt_of_le (by have := World.block_lt_of_cell? _ _ hw631_2; first | rwa [add_block] at this | exact this) GW640.out) | (rw [add_block]; exact Nat.ne_of_lt (Nat.lt_of_lt_of_le (by have := World.block_lt_of_cell? _ _ hw631_2; first | rwa [add_block] at this | exact this) GW640.out)) | (show (Addr.add _ _).block ≠ _; rw [add_block]; exact Nat.ne_of_lt (Nat.lt_of_lt_of_le (by have := World.block_lt_of_cell? _ _ hw631_2; first | rwa [add_block] at this | exact this) GW640.out)) | (dsimp only; exact Nat.ne_of_lt (Nat.lt_of_lt_of_le (by have := World.block_lt_of_cell? _ _ hw631_2; first | rwa [add_block] at this | exact this) GW640.out))) _).trans (((cell_far (p := ⟨gb640, _, none⟩) (by first | exact Nat.ne_of_lt (Nat.lt_of_lt_of_le (by have := World.block_lt_of_cell? _ _ hw631_2; first | rwa [add_block] at this | exact this) GW640.out) | (rw [add_block]; exact Nat.ne_of_lt (Nat.lt_of_lt_of_le (by have := World.block_lt_of_cell? _ _ hw631_2; first | rwa [add_block] at this | exact this) GW640.out)) | (show (Addr.add _ _).block ≠ _; rw [add_block]; exact Nat.ne_of_lt (Nat.lt_of_lt_of_le (by have := World.block_lt_of_cell? _ _ hw631_2; first | rwa [add_block] at this | exact this) GW640.out)) | (dsimp only; exact Nat.ne_of_lt (Nat.lt_of_lt_of_le (by have := World.block_lt_of_cell? _ _ hw631_2; first | rwa [add_block] at this | exact this) GW640.out))) _).trans (((cell_far (p := ⟨gb640, _, none⟩) (by first | exact Nat.ne_of_lt (Nat.lt_of_lt_of_le (by have := World.block_lt_of_cell? _ _ hw631_2; first | rwa [add_block] at this | exact this) GW640.out) | (rw [add_block]; exact Nat.ne_of_lt (Nat.lt_of_lt_of_le (by have := World.block_lt_of_cell? _ _ hw631_2; first | rwa [add_block] at this | exact this) GW640.out)) | (show (Addr.add _ _).block ≠ _; rw [add_block]; exact Nat.ne_of_lt (Nat.lt_of_lt_of_le (by have := World.block_lt_of_cell? _ _ hw631_2; first | rwa [add_block] at this | exact this) GW640.out)) | (dsimp only; exact Nat.ne_of_lt (Nat.lt_of_lt_of_le (by have := World.block_lt_of_cell? _ _ hw631_2; first | rwa [add_block] at this | exact this) GW640.out))) _).trans (((cell_far (p := ⟨gb640, _, none⟩) (by first | exact Nat.ne_of_lt (Nat.lt_of_lt_of_le (by have := World.block_lt_of_cell? _ _ hw631_2; first | rwa [add_block] at this | exact this) GW640.out) | (rw [add_block]; exact Nat.ne_of_lt (Nat.lt_of_lt_of_le (by have := World.block_lt_of_cell? _ _ hw631_2; first | rwa [add_block] at this | exact this) GW640.out)) | (show (Addr.add _ _).block ≠ _; rw [add_block]; exact Nat.ne_of_lt (Nat.lt_of_lt_of_le (by have := World.block_lt_of_cell? _ _ hw631_2; first | rwa [add_block] at this | exact this) GW640.out)) | (dsimp only; exact Nat.ne_of_lt (Nat.lt_of_lt_of_le (by have := World.block_lt_of_cell? _ _ hw631_2; first | rwa [add_block] at this | exact this) GW640.out))) _).trans (hHeld.2.2.2.2.2.2.2.2.2))))))))))))))⟩ (fun hHeld => ?_)
                      clear hK K
                      refine pure_ (i := 12) (N := some 8) (v := ?_) (a' := ?_) #[true, true, true, true, true, true, true, true, true, true, true, true, true] rfl rfl (any_of HT_.out (by kernel_rfl)) (fun _ _ _ h => h) (Or.inl ⟨by rfl, ?_⟩) ?_ ?_
                      rotate_left
                      · intro w'
                        go_simp
                        with_reducible rfl
                      rotate_left
                      · simp only [Act.put, List.setIfInBounds_toArray, List.set_cons_zero, List.set_cons_succ, i64_w, i32_w]
                        rfl
                      refine done_ (done_of HT_.out (by kernel_rfl)) ?_
                      go_upto_region 8 with (fail)
                      go_cut [62] (fun v62 wc => ∃ (kq : Nat) (x62_20 : Bool), v62 = .bool x62_20 ∧ Aside0 (drayagelaw14_SagaStays.j3 kq l0 l1 x6_2 x62_20 t632 t633 t634 t635 t636 t637 t638 = some r) ∧ Aside0 (kq ≤ kj14) ∧ Aside0 (wc.heap[gb629]? = some (.cells #[.int .i64 x630000_2, .int .i64 x630001_2, .int .i64 x630002_2, .bool x630003_2, .int .i64 x630004_2, .bool x630005_2, .int .i64 x630006_2] 28 (0, 0))) ∧ Aside0 (wc.heap[gb640]? = some (.cells #[.int .i64 t632, .int .i64 t633, .int .i64 t634, .bool t635, .int .i64 t636, .bool t637, .int .i64 t638] 28 (0, 0))) ∧ Aside0 (Below w.heap.size w wc))
                      case first =>
                        have H := HC21.out
                        clear HC21
                        by_cases c33 : t639 = true
                        · subst c33
                          have H1 : ((saga_Check.f kj14 l0 t632 t633 t634 t635 t636 t637 t638).bind fun t641 => (if t641 = 0 then (if x630000_2 = 3 then (if (!(t632 == x630000_2) || (!(t633 == x630001_2) || (!(t634 == x630002_2) || (!(t635 == x630003_2) || (!(t636 == x630004_2) || (!(t637 == x630005_2) || (!(t638 == x630006_2)))))))) = true then (drayagelaw14_SagaStays.j3 kj14 l0 l1 x6_2 true t632 t633 t634 t635 t636 t637 t638) else (drayagelaw14_SagaStays.j3 kj14 l0 l1 x6_2 (decide (t632 < x630000_2)) t632 t633 t634 t635 t636 t637 t638)) else (drayagelaw14_SagaStays.j3 kj14 l0 l1 x6_2 (decide (t632 < x630000_2)) t632 t633 t634 t635 t636 t637 t638)) else (drayagelaw14_SagaStays.j3 kj14 l0 l1 x6_2 true t632 t633 t634 t635 t636 t637 t638))) = some r := by rw [if_pos rfl] at H; exact H
                          clear H
                          have H := H1
                          clear H1
                          replace H := Option.bind_eq_some_iff.mp H
                          obtain ⟨t641, A340, H⟩ := H
                          replace H : (if t641 = 0 then (if x630000_2 = 3 then (if (!(t632 == x630000_2) || (!(t633 == x630001_2) || (!(t634 == x630002_2) || (!(t635 == x630003_2) || (!(t636 == x630004_2) || (!(t637 == x630005_2) || (!(t638 == x630006_2)))))))) = true then (drayagelaw14_SagaStays.j3 kj14 l0 l1 x6_2 true t632 t633 t634 t635 t636 t637 t638) else (drayagelaw14_SagaStays.j3 kj14 l0 l1 x6_2 (decide (t632 < x630000_2)) t632 t633 t634 t635 t636 t637 t638)) else (drayagelaw14_SagaStays.j3 kj14 l0 l1 x6_2 (decide (t632 < x630000_2)) t632 t633 t634 t635 t636 t637 t638)) else (drayagelaw14_SagaStays.j3 kj14 l0 l1 x6_2 true t632 t633 t634 t635 t636 t637 t638)) = some r := H
                          have A34 := Aside0.mk A340
                          clear A340
                          by_cases c35 : t641 = 0
                          · rw [if_pos c35] at H
                            have c35b0 : (t641 == 0) = true := beq_iff_eq.mpr c35
                            have c35b1 : (t641 != 0) = false := bne_eq_false_iff_eq.mpr c35
                            clear c35
                            (first | rw [c35b0] | (simp only [i64_w, i32_w]; rw [c35b0]) | skip)
                            by_cases c36 : x630000_2 = 3
                            · rw [if_pos c36] at H
                              have c36b0 : (x630000_2 == 3) = true := beq_iff_eq.mpr c36
                              have c36b1 : (x630000_2 != 3) = false := bne_eq_false_iff_eq.mpr c36
                              clear c36
                              by_cases c37 : (!(t632 == x630000_2) || (!(t633 == x630001_2) || (!(t634 == x630002_2) || (!(t635 == x630003_2) || (!(t636 == x630004_2) || (!(t637 == x630005_2) || (!(t638 == x630006_2)))))))) = true
                              · rw [if_pos c37] at H
                                have c37b0 : (!(t632 == x630000_2) || (!(t633 == x630001_2) || (!(t634 == x630002_2) || (!(t635 == x630003_2) || (!(t636 == x630004_2) || (!(t637 == x630005_2) || (!(t638 == x630006_2)))))))) = true := c37
                                clear c37
                                have H' := Aside0.mk H
                                clear H
                                have hnb38 := NB640_629.out
                                have hnc38 := NB629_640.out
                                obtain ⟨hcz39_0, hcz39_1, hcz39_2, hcz39_3, hcz39_4, hcz39_5, hcz39_6, hfz39_0, hfz39_1, hfz39_2, hfz39_3, hfz39_4, hfz39_5, hfz39_6⟩ := blk_all7 BK640.out
                                go_wp2_with (first | (go_at_call 24; (with_reducible refine (saga_Check.calls kj14 _ _ l0 t632 t633 t634 t635 t636 t637 t638 t641 _ ?side1 ?side2 A34.out).mono ?_); (case side1 => exact Kd.C_below HR0.out (by repeat (first | (with_reducible first | exact HB.out | apply below_alloc | apply pw_below_drewN | apply below_drew1 | refine below_set ?_ GE629.out | refine below_set ?_ GE640.out) | exact HB.out))); (case side2 => exact HC0.out); rintro e w40 ⟨rfl, hb⟩; have n0_ := Aside0.mk (blk_below (g := gb629) (o := .cells #[.int .i64 x630000_2, .int .i64 x630001_2, .int .i64 x630002_2, .bool x630003_2, .int .i64 x630004_2, .bool x630005_2, .int .i64 x630006_2] 28 (0, 0)) (by (with_reducible repeat (first | apply bd1 | apply bd2 | apply bd3)); refine blk_far ?_ NB629_640.out _; (with_reducible repeat (first | apply bd1 | apply bd2 | apply bd3)); refine blk_far ?_ NB629_640.out _; (with_reducible repeat (first | apply bd1 | apply bd2 | apply bd3)); refine blk_far ?_ NB629_640.out _; (with_reducible repeat (first | apply bd1 | apply bd2 | apply bd3)); refine blk_far ?_ NB629_640.out _; (with_reducible repeat (first | apply bd1 | apply bd2 | apply bd3)); refine blk_far ?_ NB629_640.out _; (with_reducible repeat (first | apply bd1 | apply bd2 | apply bd3)); refine blk_far ?_ NB629_640.out _; (with_reducible repeat (first | apply bd1 | apply bd2 | apply bd3)); refine blk_far ?_ NB629_640.out _; (with_reducible repeat (first | apply bd1 | apply bd2 | apply bd3)); exact BK629.out) hb); have n1_ := Aside0.mk (blk_below (g := gb640) (o := .cells #[.int .i64 t632, .int .i64 t633, .int .i64 t634, .bool t635, .int .i64 t636, .bool t637, .int .i64 t638] 28 (0, 0)) (by (with_reducible repeat (first | apply bd1 | apply bd2 | apply bd3)); refine blk_put (cs := #[.int .i64 t632, .int .i64 t633, .int .i64 t634, .bool t635, .int .i64 t636, .bool t637, .int .i64 0]) ?_ 6 _ rfl; (with_reducible repeat (first | apply bd1 | apply bd2 | apply bd3)); refine blk_put (cs := #[.int .i64 t632, .int .i64 t633, .int .i64 t634, .bool t635, .int .i64 t636, .bool false, .int .i64 0]) ?_ 5 _ rfl; (with_reducible repeat (first | apply bd1 | apply bd2 | apply bd3)); refine blk_put (cs := #[.int .i64 t632, .int .i64 t633, .int .i64 t634, .bool t635, .int .i64 0, .bool false, .int .i64 0]) ?_ 4 _ rfl; (with_reducible repeat (first | apply bd1 | apply bd2 | apply bd3)); refine blk_put (cs := #[.int .i64 t632, .int .i64 t633, .int .i64 t634, .bool false, .int .i64 0, .bool false, .int .i64 0]) ?_ 3 _ rfl; (with_reducible repeat (first | apply bd1 | apply bd2 | apply bd3)); refine blk_put (cs := #[.int .i64 t632, .int .i64 t633, .int .i64 0, .bool false, .int .i64 0, .bool false, .int .i64 0]) ?_ 2 _ rfl; (with_reducible repeat (first | apply bd1 | apply bd2 | apply bd3)); refine blk_put (cs := #[.int .i64 t632, .int .i64 0, .int .i64 0, .bool false, .int .i64 0, .bool false, .int .i64 0]) ?_ 1 _ rfl; (with_reducible repeat (first | apply bd1 | apply bd2 | apply bd3)); refine blk_put (cs := #[.int .i64 0, .int .i64 0, .int .i64 0, .bool false, .int .i64 0, .bool false, .int .i64 0]) ?_ 0 _ rfl; (with_reducible repeat (first | apply bd1 | apply bd2 | apply bd3)); exact BK640.out) hb); have n2_ := Aside0.mk (below_step (by repeat (first | (with_reducible first | exact HB.out | apply below_alloc | apply pw_below_drewN | apply below_drew1 | refine below_set ?_ GE629.out | refine below_set ?_ GE640.out) | exact HB.out)) hb); clear BK629; clear BK640; clear HB; have BK629 := n0_; have BK640 := n1_; have HB := n2_; clear n0_ n1_ n2_; (try clear hb); (try clear hb2); (try clear hk); (try clear hi); obtain ⟨hcz41_0, hcz41_1, hcz41_2, hcz41_3, hcz41_4, hcz41_5, hcz41_6, hfz41_0, hfz41_1, hfz41_2, hfz41_3, hfz41_4, hfz41_5, hfz41_6⟩ := blk_all7 BK629.out; obtain ⟨hcz42_0, hcz42_1, hcz42_2, hcz42_3, hcz42_4, hcz42_5, hcz42_6, hfz42_0, hfz42_1, hfz42_2, hfz42_3, hfz42_4, hfz42_5, hfz42_6⟩ := blk_all7 BK640.out))
                                go_meet
                                case rel => exact ⟨_, (true), (by first | rfl | (simp; done) | (simp [*]; done)), H', ⟨by have := HJ2.out; have := HK2.out; have := HJ14.out; first | omega | exact Nat.le_refl _⟩, ⟨by (with_reducible repeat (first | apply bd1 | apply bd2 | apply bd3)); exact BK629.out⟩, ⟨by (with_reducible repeat (first | apply bd1 | apply bd2 | apply bd3)); exact BK640.out⟩, ⟨by repeat (first | (with_reducible first | exact HB.out | apply below_alloc | apply pw_below_drewN | apply below_drew1 | refine below_set ?_ GE629.out | refine below_set ?_ GE640.out) | exact HB.out)⟩⟩
                              · rw [if_neg c37] at H
                                have c37b0 : (!(t632 == x630000_2) || (!(t633 == x630001_2) || (!(t634 == x630002_2) || (!(t635 == x630003_2) || (!(t636 == x630004_2) || (!(t637 == x630005_2) || (!(t638 == x630006_2)))))))) = false := by simpa using c37
                                clear c37
                                have H' := Aside0.mk H
                                clear H
                                have hnb43 := NB640_629.out
                                have hnc43 := NB629_640.out
                                obtain ⟨hcz44_0, hcz44_1, hcz44_2, hcz44_3, hcz44_4, hcz44_5, hcz44_6, hfz44_0, hfz44_1, hfz44_2, hfz44_3, hfz44_4, hfz44_5, hfz44_6⟩ := blk_all7 BK640.out
                                go_wp2_with (first | (go_at_call 24; (with_reducible refine (saga_Check.calls kj14 _ _ l0 t632 t633 t634 t635 t636 t637 t638 t641 _ ?side1 ?side2 A34.out).mono ?_); (case side1 => exact Kd.C_below HR0.out (by repeat (first | (with_reducible first | exact HB.out | apply below_alloc | apply pw_below_drewN | apply below_drew1 | refine below_set ?_ GE629.out | refine below_set ?_ GE640.out) | exact HB.out))); (case side2 => exact HC0.out); rintro e w45 ⟨rfl, hb⟩; have n0_ := Aside0.mk (blk_below (g := gb629) (o := .cells #[.int .i64 x630000_2, .int .i64 x630001_2, .int .i64 x630002_2, .bool x630003_2, .int .i64 x630004_2, .bool x630005_2, .int .i64 x630006_2] 28 (0, 0)) (by (with_reducible repeat (first | apply bd1 | apply bd2 | apply bd3)); refine blk_far ?_ NB629_640.out _; (with_reducible repeat (first | apply bd1 | apply bd2 | apply bd3)); refine blk_far ?_ NB629_640.out _; (with_reducible repeat (first | apply bd1 | apply bd2 | apply bd3)); refine blk_far ?_ NB629_640.out _; (with_reducible repeat (first | apply bd1 | apply bd2 | apply bd3)); refine blk_far ?_ NB629_640.out _; (with_reducible repeat (first | apply bd1 | apply bd2 | apply bd3)); refine blk_far ?_ NB629_640.out _; (with_reducible repeat (first | apply bd1 | apply bd2 | apply bd3)); refine blk_far ?_ NB629_640.out _; (with_reducible repeat (first | apply bd1 | apply bd2 | apply bd3)); refine blk_far ?_ NB629_640.out _; (with_reducible repeat (first | apply bd1 | apply bd2 | apply bd3)); exact BK629.out) hb); have n1_ := Aside0.mk (blk_below (g := gb640) (o := .cells #[.int .i64 t632, .int .i64 t633, .int .i64 t634, .bool t635, .int .i64 t636, .bool t637, .int .i64 t638] 28 (0, 0)) (by (with_reducible repeat (first | apply bd1 | apply bd2 | apply bd3)); refine blk_put (cs := #[.int .i64 t632, .int .i64 t633, .int .i64 t634, .bool t635, .int .i64 t636, .bool t637, .int .i64 0]) ?_ 6 _ rfl; (with_reducible repeat (first | apply bd1 | apply bd2 | apply bd3)); refine blk_put (cs := #[.int .i64 t632, .int .i64 t633, .int .i64 t634, .bool t635, .int .i64 t636, .bool false, .int .i64 0]) ?_ 5 _ rfl; (with_reducible repeat (first | apply bd1 | apply bd2 | apply bd3)); refine blk_put (cs := #[.int .i64 t632, .int .i64 t633, .int .i64 t634, .bool t635, .int .i64 0, .bool false, .int .i64 0]) ?_ 4 _ rfl; (with_reducible repeat (first | apply bd1 | apply bd2 | apply bd3)); refine blk_put (cs := #[.int .i64 t632, .int .i64 t633, .int .i64 t634, .bool false, .int .i64 0, .bool false, .int .i64 0]) ?_ 3 _ rfl; (with_reducible repeat (first | apply bd1 | apply bd2 | apply bd3)); refine blk_put (cs := #[.int .i64 t632, .int .i64 t633, .int .i64 0, .bool false, .int .i64 0, .bool false, .int .i64 0]) ?_ 2 _ rfl; (with_reducible repeat (first | apply bd1 | apply bd2 | apply bd3)); refine blk_put (cs := #[.int .i64 t632, .int .i64 0, .int .i64 0, .bool false, .int .i64 0, .bool false, .int .i64 0]) ?_ 1 _ rfl; (with_reducible repeat (first | apply bd1 | apply bd2 | apply bd3)); refine blk_put (cs := #[.int .i64 0, .int .i64 0, .int .i64 0, .bool false, .int .i64 0, .bool false, .int .i64 0]) ?_ 0 _ rfl; (with_reducible repeat (first | apply bd1 | apply bd2 | apply bd3)); exact BK640.out) hb); have n2_ := Aside0.mk (below_step (by repeat (first | (with_reducible first | exact HB.out | apply below_alloc | apply pw_below_drewN | apply below_drew1 | refine below_set ?_ GE629.out | refine below_set ?_ GE640.out) | exact HB.out)) hb); clear BK629; clear BK640; clear HB; have BK629 := n0_; have BK640 := n1_; have HB := n2_; clear n0_ n1_ n2_; (try clear hb); (try clear hb2); (try clear hk); (try clear hi); obtain ⟨hcz46_0, hcz46_1, hcz46_2, hcz46_3, hcz46_4, hcz46_5, hcz46_6, hfz46_0, hfz46_1, hfz46_2, hfz46_3, hfz46_4, hfz46_5, hfz46_6⟩ := blk_all7 BK629.out; obtain ⟨hcz47_0, hcz47_1, hcz47_2, hcz47_3, hcz47_4, hcz47_5, hcz47_6, hfz47_0, hfz47_1, hfz47_2, hfz47_3, hfz47_4, hfz47_5, hfz47_6⟩ := blk_all7 BK640.out))
                                go_meet
                                case rel => exact ⟨_, (decide (t632 < x630000_2)), (by first | rfl | (simp; done) | (simp [*]; done)), H', ⟨by have := HJ2.out; have := HK2.out; have := HJ14.out; first | omega | exact Nat.le_refl _⟩, ⟨by (with_reducible repeat (first | apply bd1 | apply bd2 | apply bd3)); exact BK629.out⟩, ⟨by (with_reducible repeat (first | apply bd1 | apply bd2 | apply bd3)); exact BK640.out⟩, ⟨by repeat (first | (with_reducible first | exact HB.out | apply below_alloc | apply pw_below_drewN | apply below_drew1 | refine below_set ?_ GE629.out | refine below_set ?_ GE640.out) | exact HB.out)⟩⟩
                            · rw [if_neg c36] at H
                              have c36b0 : (x630000_2 == 3) = false := beq_eq_false_iff_ne.mpr c36
                              have c36b1 : (x630000_2 != 3) = true := bne_iff_ne.mpr c36
                              have H' := Aside0.mk H
                              clear H
                              have hnb48 := NB640_629.out
                              have hnc48 := NB629_640.out
                              obtain ⟨hcz49_0, hcz49_1, hcz49_2, hcz49_3, hcz49_4, hcz49_5, hcz49_6, hfz49_0, hfz49_1, hfz49_2, hfz49_3, hfz49_4, hfz49_5, hfz49_6⟩ := blk_all7 BK640.out
                              go_wp2_with (first | (go_at_call 24; (with_reducible refine (saga_Check.calls kj14 _ _ l0 t632 t633 t634 t635 t636 t637 t638 t641 _ ?side1 ?side2 A34.out).mono ?_); (case side1 => exact Kd.C_below HR0.out (by repeat (first | (with_reducible first | exact HB.out | apply below_alloc | apply pw_below_drewN | apply below_drew1 | refine below_set ?_ GE629.out | refine below_set ?_ GE640.out) | exact HB.out))); (case side2 => exact HC0.out); rintro e w50 ⟨rfl, hb⟩; have n0_ := Aside0.mk (blk_below (g := gb629) (o := .cells #[.int .i64 x630000_2, .int .i64 x630001_2, .int .i64 x630002_2, .bool x630003_2, .int .i64 x630004_2, .bool x630005_2, .int .i64 x630006_2] 28 (0, 0)) (by (with_reducible repeat (first | apply bd1 | apply bd2 | apply bd3)); refine blk_far ?_ NB629_640.out _; (with_reducible repeat (first | apply bd1 | apply bd2 | apply bd3)); refine blk_far ?_ NB629_640.out _; (with_reducible repeat (first | apply bd1 | apply bd2 | apply bd3)); refine blk_far ?_ NB629_640.out _; (with_reducible repeat (first | apply bd1 | apply bd2 | apply bd3)); refine blk_far ?_ NB629_640.out _; (with_reducible repeat (first | apply bd1 | apply bd2 | apply bd3)); refine blk_far ?_ NB629_640.out _; (with_reducible repeat (first | apply bd1 | apply bd2 | apply bd3)); refine blk_far ?_ NB629_640.out _; (with_reducible repeat (first | apply bd1 | apply bd2 | apply bd3)); refine blk_far ?_ NB629_640.out _; (with_reducible repeat (first | apply bd1 | apply bd2 | apply bd3)); exact BK629.out) hb); have n1_ := Aside0.mk (blk_below (g := gb640) (o := .cells #[.int .i64 t632, .int .i64 t633, .int .i64 t634, .bool t635, .int .i64 t636, .bool t637, .int .i64 t638] 28 (0, 0)) (by (with_reducible repeat (first | apply bd1 | apply bd2 | apply bd3)); refine blk_put (cs := #[.int .i64 t632, .int .i64 t633, .int .i64 t634, .bool t635, .int .i64 t636, .bool t637, .int .i64 0]) ?_ 6 _ rfl; (with_reducible repeat (first | apply bd1 | apply bd2 | apply bd3)); refine blk_put (cs := #[.int .i64 t632, .int .i64 t633, .int .i64 t634, .bool t635, .int .i64 t636, .bool false, .int .i64 0]) ?_ 5 _ rfl; (with_reducible repeat (first | apply bd1 | apply bd2 | apply bd3)); refine blk_put (cs := #[.int .i64 t632, .int .i64 t633, .int .i64 t634, .bool t635, .int .i64 0, .bool false, .int .i64 0]) ?_ 4 _ rfl; (with_reducible repeat (first | apply bd1 | apply bd2 | apply bd3)); refine blk_put (cs := #[.int .i64 t632, .int .i64 t633, .int .i64 t634, .bool false, .int .i64 0, .bool false, .int .i64 0]) ?_ 3 _ rfl; (with_reducible repeat (first | apply bd1 | apply bd2 | apply bd3)); refine blk_put (cs := #[.int .i64 t632, .int .i64 t633, .int .i64 0, .bool false, .int .i64 0, .bool false, .int .i64 0]) ?_ 2 _ rfl; (with_reducible repeat (first | apply bd1 | apply bd2 | apply bd3)); refine blk_put (cs := #[.int .i64 t632, .int .i64 0, .int .i64 0, .bool false, .int .i64 0, .bool false, .int .i64 0]) ?_ 1 _ rfl; (with_reducible repeat (first | apply bd1 | apply bd2 | apply bd3)); refine blk_put (cs := #[.int .i64 0, .int .i64 0, .int .i64 0, .bool false, .int .i64 0, .bool false, .int .i64 0]) ?_ 0 _ rfl; (with_reducible repeat (first | apply bd1 | apply bd2 | apply bd3)); exact BK640.out) hb); have n2_ := Aside0.mk (below_step (by repeat (first | (with_reducible first | exact HB.out | apply below_alloc | apply pw_below_drewN | apply below_drew1 | refine below_set ?_ GE629.out | refine below_set ?_ GE640.out) | exact HB.out)) hb); clear BK629; clear BK640; clear HB; have BK629 := n0_; have BK640 := n1_; have HB := n2_; clear n0_ n1_ n2_; (try clear hb); (try clear hb2); (try clear hk); (try clear hi); obtain ⟨hcz51_0, hcz51_1, hcz51_2, hcz51_3, hcz51_4, hcz51_5, hcz51_6, hfz51_0, hfz51_1, hfz51_2, hfz51_3, hfz51_4, hfz51_5, hfz51_6⟩ := blk_all7 BK629.out; obtain ⟨hcz52_0, hcz52_1, hcz52_2, hcz52_3, hcz52_4, hcz52_5, hcz52_6, hfz52_0, hfz52_1, hfz52_2, hfz52_3, hfz52_4, hfz52_5, hfz52_6⟩ := blk_all7 BK640.out))
                              go_meet
                              case rel => exact ⟨_, (decide (t632 < x630000_2)), (by first | rfl | (simp; done) | (simp [*]; done)), H', ⟨by have := HJ2.out; have := HK2.out; have := HJ14.out; first | omega | exact Nat.le_refl _⟩, ⟨by (with_reducible repeat (first | apply bd1 | apply bd2 | apply bd3)); exact BK629.out⟩, ⟨by (with_reducible repeat (first | apply bd1 | apply bd2 | apply bd3)); exact BK640.out⟩, ⟨by repeat (first | (with_reducible first | exact HB.out | apply below_alloc | apply pw_below_drewN | apply below_drew1 | refine below_set ?_ GE629.out | refine below_set ?_ GE640.out) | exact HB.out)⟩⟩
                          · rw [if_neg c35] at H
                            have c35b0 : (t641 == 0) = false := beq_eq_false_iff_ne.mpr c35
                            have c35b1 : (t641 != 0) = true := bne_iff_ne.mpr c35
                            (first | rw [c35b0] | (simp only [i64_w, i32_w]; rw [c35b0]) | skip)
                            have H' := Aside0.mk H
                            clear H
                            have hnb53 := NB640_629.out
                            have hnc53 := NB629_640.out
                            obtain ⟨hcz54_0, hcz54_1, hcz54_2, hcz54_3, hcz54_4, hcz54_5, hcz54_6, hfz54_0, hfz54_1, hfz54_2, hfz54_3, hfz54_4, hfz54_5, hfz54_6⟩ := blk_all7 BK640.out
                            go_wp2_with (first | (go_at_call 24; (with_reducible refine (saga_Check.calls kj14 _ _ l0 t632 t633 t634 t635 t636 t637 t638 t641 _ ?side1 ?side2 A34.out).mono ?_); (case side1 => exact Kd.C_below HR0.out (by repeat (first | (with_reducible first | exact HB.out | apply below_alloc | apply pw_below_drewN | apply below_drew1 | refine below_set ?_ GE629.out | refine below_set ?_ GE640.out) | exact HB.out))); (case side2 => exact HC0.out); rintro e w55 ⟨rfl, hb⟩; have n0_ := Aside0.mk (blk_below (g := gb629) (o := .cells #[.int .i64 x630000_2, .int .i64 x630001_2, .int .i64 x630002_2, .bool x630003_2, .int .i64 x630004_2, .bool x630005_2, .int .i64 x630006_2] 28 (0, 0)) (by (with_reducible repeat (first | apply bd1 | apply bd2 | apply bd3)); refine blk_far ?_ NB629_640.out _; (with_reducible repeat (first | apply bd1 | apply bd2 | apply bd3)); refine blk_far ?_ NB629_640.out _; (with_reducible repeat (first | apply bd1 | apply bd2 | apply bd3)); refine blk_far ?_ NB629_640.out _; (with_reducible repeat (first | apply bd1 | apply bd2 | apply bd3)); refine blk_far ?_ NB629_640.out _; (with_reducible repeat (first | apply bd1 | apply bd2 | apply bd3)); refine blk_far ?_ NB629_640.out _; (with_reducible repeat (first | apply bd1 | apply bd2 | apply bd3)); refine blk_far ?_ NB629_640.out _; (with_reducible repeat (first | apply bd1 | apply bd2 | apply bd3)); refine blk_far ?_ NB629_640.out _; (with_reducible repeat (first | apply bd1 | apply bd2 | apply bd3)); exact BK629.out) hb); have n1_ := Aside0.mk (blk_below (g := gb640) (o := .cells #[.int .i64 t632, .int .i64 t633, .int .i64 t634, .bool t635, .int .i64 t636, .bool t637, .int .i64 t638] 28 (0, 0)) (by (with_reducible repeat (first | apply bd1 | apply bd2 | apply bd3)); refine blk_put (cs := #[.int .i64 t632, .int .i64 t633, .int .i64 t634, .bool t635, .int .i64 t636, .bool t637, .int .i64 0]) ?_ 6 _ rfl; (with_reducible repeat (first | apply bd1 | apply bd2 | apply bd3)); refine blk_put (cs := #[.int .i64 t632, .int .i64 t633, .int .i64 t634, .bool t635, .int .i64 t636, .bool false, .int .i64 0]) ?_ 5 _ rfl; (with_reducible repeat (first | apply bd1 | apply bd2 | apply bd3)); refine blk_put (cs := #[.int .i64 t632, .int .i64 t633, .int .i64 t634, .bool t635, .int .i64 0, .bool false, .int .i64 0]) ?_ 4 _ rfl; (with_reducible repeat (first | apply bd1 | apply bd2 | apply bd3)); refine blk_put (cs := #[.int .i64 t632, .int .i64 t633, .int .i64 t634, .bool false, .int .i64 0, .bool false, .int .i64 0]) ?_ 3 _ rfl; (with_reducible repeat (first | apply bd1 | apply bd2 | apply bd3)); refine blk_put (cs := #[.int .i64 t632, .int .i64 t633, .int .i64 0, .bool false, .int .i64 0, .bool false, .int .i64 0]) ?_ 2 _ rfl; (with_reducible repeat (first | apply bd1 | apply bd2 | apply bd3)); refine blk_put (cs := #[.int .i64 t632, .int .i64 0, .int .i64 0, .bool false, .int .i64 0, .bool false, .int .i64 0]) ?_ 1 _ rfl; (with_reducible repeat (first | apply bd1 | apply bd2 | apply bd3)); refine blk_put (cs := #[.int .i64 0, .int .i64 0, .int .i64 0, .bool false, .int .i64 0, .bool false, .int .i64 0]) ?_ 0 _ rfl; (with_reducible repeat (first | apply bd1 | apply bd2 | apply bd3)); exact BK640.out) hb); have n2_ := Aside0.mk (below_step (by repeat (first | (with_reducible first | exact HB.out | apply below_alloc | apply pw_below_drewN | apply below_drew1 | refine below_set ?_ GE629.out | refine below_set ?_ GE640.out) | exact HB.out)) hb); clear BK629; clear BK640; clear HB; have BK629 := n0_; have BK640 := n1_; have HB := n2_; clear n0_ n1_ n2_; (try clear hb); (try clear hb2); (try clear hk); (try clear hi)))
                            go_meet
                            case rel => exact ⟨_, (true), (by first | rfl | (simp; done) | (simp [*]; done)), H', ⟨by have := HJ2.out; have := HK2.out; have := HJ14.out; first | omega | exact Nat.le_refl _⟩, ⟨by (with_reducible repeat (first | apply bd1 | apply bd2 | apply bd3)); exact BK629.out⟩, ⟨by (with_reducible repeat (first | apply bd1 | apply bd2 | apply bd3)); exact BK640.out⟩, ⟨by repeat (first | (with_reducible first | exact HB.out | apply below_alloc | apply pw_below_drewN | apply below_drew1 | refine below_set ?_ GE629.out | refine below_set ?_ GE640.out) | exact HB.out)⟩⟩
                        · replace c33 := Bool.eq_false_iff.mpr c33
                          subst c33
                          have H1 : (drayagelaw14_SagaStays.j3 kj14 l0 l1 x6_2 true t632 t633 t634 t635 t636 t637 t638) = some r := by rw [if_neg (show ¬ (false = true) by decide)] at H; exact H
                          clear H
                          have H := H1
                          clear H1
                          have H' := Aside0.mk H
                          clear H
                          go_wp2
                          go_meet
                          case rel => exact ⟨_, (true), (by first | rfl | (simp; done) | (simp [*]; done)), H', ⟨by have := HJ2.out; have := HK2.out; have := HJ14.out; first | omega | exact Nat.le_refl _⟩, ⟨by (with_reducible repeat (first | apply bd1 | apply bd2 | apply bd3)); refine blk_far ?_ NB629_640.out _; (with_reducible repeat (first | apply bd1 | apply bd2 | apply bd3)); refine blk_far ?_ NB629_640.out _; (with_reducible repeat (first | apply bd1 | apply bd2 | apply bd3)); refine blk_far ?_ NB629_640.out _; (with_reducible repeat (first | apply bd1 | apply bd2 | apply bd3)); refine blk_far ?_ NB629_640.out _; (with_reducible repeat (first | apply bd1 | apply bd2 | apply bd3)); refine blk_far ?_ NB629_640.out _; (with_reducible repeat (first | apply bd1 | apply bd2 | apply bd3)); refine blk_far ?_ NB629_640.out _; (with_reducible repeat (first | apply bd1 | apply bd2 | apply bd3)); refine blk_far ?_ NB629_640.out _; (with_reducible repeat (first | apply bd1 | apply bd2 | apply bd3)); exact BK629.out⟩, ⟨by (with_reducible repeat (first | apply bd1 | apply bd2 | apply bd3)); refine blk_put (cs := #[.int .i64 t632, .int .i64 t633, .int .i64 t634, .bool t635, .int .i64 t636, .bool t637, .int .i64 0]) ?_ 6 _ rfl; (with_reducible repeat (first | apply bd1 | apply bd2 | apply bd3)); refine blk_put (cs := #[.int .i64 t632, .int .i64 t633, .int .i64 t634, .bool t635, .int .i64 t636, .bool false, .int .i64 0]) ?_ 5 _ rfl; (with_reducible repeat (first | apply bd1 | apply bd2 | apply bd3)); refine blk_put (cs := #[.int .i64 t632, .int .i64 t633, .int .i64 t634, .bool t635, .int .i64 0, .bool false, .int .i64 0]) ?_ 4 _ rfl; (with_reducible repeat (first | apply bd1 | apply bd2 | apply bd3)); refine blk_put (cs := #[.int .i64 t632, .int .i64 t633, .int .i64 t634, .bool false, .int .i64 0, .bool false, .int .i64 0]) ?_ 3 _ rfl; (with_reducible repeat (first | apply bd1 | apply bd2 | apply bd3)); refine blk_put (cs := #[.int .i64 t632, .int .i64 t633, .int .i64 0, .bool false, .int .i64 0, .bool false, .int .i64 0]) ?_ 2 _ rfl; (with_reducible repeat (first | apply bd1 | apply bd2 | apply bd3)); refine blk_put (cs := #[.int .i64 t632, .int .i64 0, .int .i64 0, .bool false, .int .i64 0, .bool false, .int .i64 0]) ?_ 1 _ rfl; (with_reducible repeat (first | apply bd1 | apply bd2 | apply bd3)); refine blk_put (cs := #[.int .i64 0, .int .i64 0, .int .i64 0, .bool false, .int .i64 0, .bool false, .int .i64 0]) ?_ 0 _ rfl; (with_reducible repeat (first | apply bd1 | apply bd2 | apply bd3)); exact BK640.out⟩, ⟨by repeat (first | (with_reducible first | exact HB.out | apply below_alloc | apply pw_below_drewN | apply below_drew1 | refine below_set ?_ GE629.out | refine below_set ?_ GE640.out) | exact HB.out)⟩⟩
                      case rest =>
                        clear HC21
                        try clear c1
                        try clear c2
                        try clear p2
                        try clear c3
                        try clear c4
                        try clear c5
                        try clear p6
                        try clear q6
                        try clear hx6
                        try clear c8
                        try clear c10
                        try clear c12
                        try clear c13
                        try clear c16
                        try clear c16b0
                        try clear c17
                        try clear c18
                        try clear c18b0
                        try clear c19
                        try clear c19b0
                        try clear c26
                        try clear c33
                        try clear c35
                        try clear c35b0
                        try clear c35b1
                        try clear c36
                        try clear c36b0
                        try clear c36b1
                        try clear c37
                        try clear c37b0
                        try clear c38
                        try clear c43
                        try clear c48
                        try clear c53
                        try clear hcz14_0
                        try clear hcz14_1
                        try clear hcz14_2
                        try clear hcz14_3
                        try clear hcz14_4
                        try clear hcz14_5
                        try clear hcz14_6
                        try clear hcz39_0
                        try clear hcz39_1
                        try clear hcz39_2
                        try clear hcz39_3
                        try clear hcz39_4
                        try clear hcz39_5
                        try clear hcz39_6
                        try clear hcz41_0
                        try clear hcz41_1
                        try clear hcz41_2
                        try clear hcz41_3
                        try clear hcz41_4
                        try clear hcz41_5
                        try clear hcz41_6
                        try clear hcz42_0
                        try clear hcz42_1
                        try clear hcz42_2
                        try clear hcz42_3
                        try clear hcz42_4
                        try clear hcz42_5
                        try clear hcz42_6
                        try clear hcz44_0
                        try clear hcz44_1
                        try clear hcz44_2
                        try clear hcz44_3
                        try clear hcz44_4
                        try clear hcz44_5
                        try clear hcz44_6
                        try clear hcz46_0
                        try clear hcz46_1
                        try clear hcz46_2
                        try clear hcz46_3
                        try clear hcz46_4
                        try clear hcz46_5
                        try clear hcz46_6
                        try clear hcz47_0
                        try clear hcz47_1
                        try clear hcz47_2
                        try clear hcz47_3
                        try clear hcz47_4
                        try clear hcz47_5
                        try clear hcz47_6
                        try clear hcz49_0
                        try clear hcz49_1
                        try clear hcz49_2
                        try clear hcz49_3
                        try clear hcz49_4
                        try clear hcz49_5
                        try clear hcz49_6
                        try clear hcz51_0
                        try clear hcz51_1
                        try clear hcz51_2
                        try clear hcz51_3
                        try clear hcz51_4
                        try clear hcz51_5
                        try clear hcz51_6
                        try clear hcz52_0
                        try clear hcz52_1
                        try clear hcz52_2
                        try clear hcz52_3
                        try clear hcz52_4
                        try clear hcz52_5
                        try clear hcz52_6
                        try clear hcz54_0
                        try clear hcz54_1
                        try clear hcz54_2
                        try clear hcz54_3
                        try clear hcz54_4
                        try clear hcz54_5
                        try clear hcz54_6
                        try clear hfz14_0
                        try clear hfz14_1
                        try clear hfz14_2
                        try clear hfz14_3
                        try clear hfz14_4
                        try clear hfz14_5
                        try clear hfz14_6
                        try clear hfz39_0
                        try clear hfz39_1
                        try clear hfz39_2
                        try clear hfz39_3
                        try clear hfz39_4
                        try clear hfz39_5
                        try clear hfz39_6
                        try clear hfz41_0
                        try clear hfz41_1
                        try clear hfz41_2
                        try clear hfz41_3
                        try clear hfz41_4
                        try clear hfz41_5
                        try clear hfz41_6
                        try clear hfz42_0
                        try clear hfz42_1
                        try clear hfz42_2
                        try clear hfz42_3
                        try clear hfz42_4
                        try clear hfz42_5
                        try clear hfz42_6
                        try clear hfz44_0
                        try clear hfz44_1
                        try clear hfz44_2
                        try clear hfz44_3
                        try clear hfz44_4
                        try clear hfz44_5
                        try clear hfz44_6
                        try clear hfz46_0
                        try clear hfz46_1
                        try clear hfz46_2
                        try clear hfz46_3
                        try clear hfz46_4
                        try clear hfz46_5
                        try clear hfz46_6
                        try clear hfz47_0
                        try clear hfz47_1
                        try clear hfz47_2
                        try clear hfz47_3
                        try clear hfz47_4
                        try clear hfz47_5
                        try clear hfz47_6
                        try clear hfz49_0
                        try clear hfz49_1
                        try clear hfz49_2
                        try clear hfz49_3
                        try clear hfz49_4
                        try clear hfz49_5
                        try clear hfz49_6
                        try clear hfz51_0
                        try clear hfz51_1
                        try clear hfz51_2
                        try clear hfz51_3
                        try clear hfz51_4
                        try clear hfz51_5
                        try clear hfz51_6
                        try clear hfz52_0
                        try clear hfz52_1
                        try clear hfz52_2
                        try clear hfz52_3
                        try clear hfz52_4
                        try clear hfz52_5
                        try clear hfz52_6
                        try clear hfz54_0
                        try clear hfz54_1
                        try clear hfz54_2
                        try clear hfz54_3
                        try clear hfz54_4
                        try clear hfz54_5
                        try clear hfz54_6
                        try clear hx631_0
                        try clear hx631_1
                        try clear hx631_2
                        try clear p2
                        try clear p631
                        try clear q631
                        obtain ⟨kq, x62_20, rfl, HA, HJ20, BK629, BK640, HB⟩ := hcut
                        cases kq with
                        | zero => exact absurd HA.out (by simp [drayagelaw14_SagaStays.j3])
                        | succ kj20 =>
                          have H := HA.out
                          clear HA
                          simp only [drayagelaw14_SagaStays.j3] at H
                          by_cases c56 : x62_20 = true
                          · subst c56
                            have H1 : (none) = some r := by rw [if_pos rfl] at H; exact H
                            clear H
                            have H := H1
                            clear H1
                            exact absurd H (by simp)
                          · replace c56 := Bool.eq_false_iff.mpr c56
                            subst c56
                            have H1 : (if t632 < 3 then (if 0 ≤ t633 then (if t633 < (l0.length : Int) then (if t634 > ((rd_T38 l0 t633).f1) then (none) else (drayagelaw14_SagaStays.l0 kj20 l0 l1 (wrap64 (x6_2 + 1)) t632 t633 t634 t635 t636 t637 t638)) else (none)) else (none)) else (drayagelaw14_SagaStays.l0 kj20 l0 l1 (wrap64 (x6_2 + 1)) t632 t633 t634 t635 t636 t637 t638)) = some r := by rw [if_neg (show ¬ (false = true) by decide)] at H; exact H
                            clear H
                            have H := H1
                            clear H1
                            by_cases c57 : t632 < 3
                            · rw [if_pos c57] at H
                              have c57b0 : decide (t632 < 3) = true := decide_eq_true c57
                              clear c57
                              by_cases c58 : 0 ≤ t633
                              · rw [if_pos c58] at H
                                have c58b0 : decide (0 ≤ t633) = true := decide_eq_true c58
                                clear c58
                                by_cases c59 : t633 < (l0.length : Int)
                                · rw [if_pos c59] at H
                                  have c59b0 : decide (t633 < (l0.length : Int)) = true := decide_eq_true c59
                                  clear c59
                                  by_cases c60 : t634 > ((rd_T38 l0 t633).f1)
                                  · rw [if_pos c60] at H
                                    exact absurd H (by simp)
                                  · rw [if_neg c60] at H
                                    have c60b0 : decide (((rd_T38 l0 t633).f1) < t634) = false := decide_eq_false c60
                                    clear c60
                                    have H' := Aside0.mk H
                                    clear H
                                    try go_wp2
                                    have n0_ := Aside0.mk (blk_drew BK629.out)
                                    have n1_ := Aside0.mk (blk_drew BK640.out)
                                    have n2_ := Aside0.mk (below_drew1 HB.out)
                                    clear BK629
                                    clear BK640
                                    clear HB
                                    have BK629 := n0_
                                    have BK640 := n1_
                                    have HB := n2_
                                    clear n0_ n1_ n2_
                                    have p642 : 0 ≤ (t633 : Int) := of_decide_eq_true (by first | (with_reducible assumption) | assumption)
                                    have q642 : t633 < (l0.length : Int) := of_decide_eq_true (by first | (with_reducible assumption) | assumption)
                                    obtain ⟨ad642, A642_2, c642_2, e642, hx642_0, hx642_1, hx642_2, hx642_3, hx642_4, hx642_5, hl642_2, hi642_2⟩ := at_T38 HR0.out t633 p642 q642
                                    have hw642_5 := hx642_5
                                    have hw642_4 := hx642_4
                                    have hw642_3 := hx642_3
                                    have hw642_2 := hx642_2
                                    have hw642_1 := hx642_1
                                    have hw642_0 := hx642_0
                                    cases e642
                                    replace hx642_0 := (HB.out.cell (World.block_lt_of_cell? w _ hx642_0)).trans hx642_0
                                    replace hx642_1 := (HB.out.cell (World.block_lt_of_cell? w _ hx642_1)).trans hx642_1
                                    replace hx642_2 := (HB.out.cell (World.block_lt_of_cell? w _ hx642_2)).trans hx642_2
                                    replace hx642_3 := (HB.out.cell (World.block_lt_of_cell? w _ hx642_3)).trans hx642_3
                                    replace hx642_4 := (HB.out.cell (World.block_lt_of_cell? w _ hx642_4)).trans hx642_4
                                    replace hx642_5 := (HB.out.cell (World.block_lt_of_cell? w _ hx642_5)).trans hx642_5
                                    have HR642_2 := Aside0.mk hi642_2
                                    have HC642_2 := Aside0.mk hl642_2
                                    clear hi642_2 hl642_2
                                    replace p642 := eq_true p642
                                    replace q642 := eq_true q642
                                    refine start_ (n := 14) (S := fun w' => w'.cell? ⟨gb640, 0, none⟩ = some (.int .i64 t632) ∧ w'.cell? ⟨gb640, 1, none⟩ = some (.int .i64 t633) ∧ w'.cell? ⟨gb640, 2, none⟩ = some (.int .i64 t634) ∧ w'.cell? ⟨gb640, 3, none⟩ = some (.bool t635) ∧ w'.cell? ⟨gb640, 4, none⟩ = some (.int .i64 t636) ∧ w'.cell? ⟨gb640, 5, none⟩ = some (.bool t637) ∧ w'.cell? ⟨gb640, 6, none⟩ = some (.int .i64 t638) ∧ w'.cell? (ad642.add ((t633).toNat * 6)) = some (.int .i64 ((rd_T38 l0 t633).f0.f0)) ∧ w'.cell? ⟨(ad642.add ((t633).toNat * 6)).block, (ad642.add ((t633).toNat * 6)).off + 1, none⟩ = some (.int .i64 ((rd_T38 l0 t633).f0.f1)) ∧ w'.cell? ⟨(ad642.add ((t633).toNat * 6)).block, (ad642.add ((t633).toNat * 6)).off + 2, none⟩ = some (.slice A642_2 ((rd_T38 l0 t633).f0.f2).length c642_2) ∧ w'.cell? ⟨(ad642.add ((t633).toNat * 6)).block, (ad642.add ((t633).toNat * 6)).off + 3, none⟩ = some (.int .i64 ((rd_T38 l0 t633).f1)) ∧ w'.cell? ⟨(ad642.add ((t633).toNat * 6)).block, (ad642.add ((t633).toNat * 6)).off + 4, none⟩ = some (.int .i64 ((rd_T38 l0 t633).f2)) ∧ w'.cell? ⟨(ad642.add ((t633).toNat * 6)).block, (ad642.add ((t633).toNat * 6)).off + 5, none⟩ = some (.bool ((rd_T38 l0 t633).f3))) (ds := []) #[false, false, false, false, false, false, false, false, false, false, false, false, false, false] (by kernel_rfl) rfl rfl ⟨(blk_cell BK640.out 0).trans rfl, (blk_cell BK640.out 1).trans rfl, (blk_cell BK640.out 2).trans rfl, (blk_cell BK640.out 3).trans rfl, (blk_cell BK640.out 4).trans rfl, (blk_cell BK640.out 5).trans rfl, (blk_cell BK640.out 6).trans rfl, ((HB.out.cell (World.block_lt_of_cell? w _ hw642_0)).trans hw642_0), ((HB.out.cell (World.block_lt_of_cell? w _ hw642_1)).trans hw642_1), ((HB.out.cell (World.block_lt_of_cell? w _ hw642_2)).trans hw642_2), ((HB.out.cell (World.block_lt_of_cell? w _ hw642_3)).trans hw642_3), ((HB.out.cell (World.block_lt_of_cell? w _ hw642_4)).trans hw642_4), ((HB.out.cell (World.block_lt_of_cell? w _ hw642_5)).trans hw642_5)⟩ (fun hHeld => ?_); refine with_tabW drayagelaw14_SagaStays.tab10 drayagelaw14_SagaStays.bits10 (fun HT_ HW_ => ?_)
                                    generalize wc.drew = w61 at BK629 BK640 HB HR642_2 hx642_0 hx642_1 hx642_2 hx642_3 hx642_4 hx642_5 hHeld ⊢
                                    refine pure_ (i := 0) (N := some 63) (v := ?_) (a' := ?_) #[true, false, false, false, false, false, false, false, false, false, false, false, false, false] rfl rfl (any_of HT_.out (by kernel_rfl)) (fun _ _ _ h => h) (Or.inl ⟨by rfl, ?_⟩) ?_ ?_
                                    rotate_left
                                    · intro w'
                                      go_simp
                                      with_reducible rfl
                                    rotate_left
                                    · simp only [Act.put, List.setIfInBounds_toArray, List.set_cons_zero, List.set_cons_succ, i64_w, i32_w]
                                      rfl
                                    refine take_ (i := 1) (N := some 64) (v := ?_) (a' := ?_) #[true, true, false, false, false, false, false, false, false, false, false, false, false, false] rfl rfl (take_ofW HT_.out HW_.out (by kernel_rfl)) (fun _ _ _ h => h) (Or.inl ⟨by rfl, ?_⟩) hHeld ?_ ?_
                                    rotate_left
                                    · rintro w' ⟨s0, s1, s2, s3, s4, s5, s6, s7, s8, s9, s10, s11, s12⟩
                                      go_simp
                                      with_reducible rfl
                                    rotate_left
                                    · simp only [Act.put, List.setIfInBounds_toArray, List.set_cons_zero, List.set_cons_succ, i64_w, i32_w]
                                      rfl
                                    refine pure_ (i := 2) (N := some 65) (v := ?_) (a' := ?_) #[true, true, true, false, false, false, false, false, false, false, false, false, false, false] rfl rfl (any_of HT_.out (by kernel_rfl)) (fun _ _ _ h => h) (Or.inl ⟨by rfl, ?_⟩) ?_ ?_
                                    rotate_left
                                    · intro w'
                                      go_simp
                                      with_reducible rfl
                                    rotate_left
                                    · simp only [Act.put, List.setIfInBounds_toArray, List.set_cons_zero, List.set_cons_succ, i64_w, i32_w]
                                      rfl
                                    refine pure_ (i := 3) (N := some 66) (v := ?_) (a' := ?_) #[true, true, true, true, false, false, false, false, false, false, false, false, false, false] rfl rfl (any_of HT_.out (by kernel_rfl)) (fun _ _ _ h => h) (Or.inl ⟨by rfl, ?_⟩) ?_ ?_
                                    rotate_left
                                    · intro w'
                                      go_simp
                                      with_reducible rfl
                                    rotate_left
                                    · simp only [Act.put, List.setIfInBounds_toArray, List.set_cons_zero, List.set_cons_succ, i64_w, i32_w]
                                      rfl
                                    refine pure_ (i := 4) (N := some 67) (v := ?_) (a' := ?_) #[true, true, true, true, true, false, false, false, false, false, false, false, false, false] rfl rfl (any_of HT_.out (by kernel_rfl)) (fun _ _ _ h => h) (Or.inl ⟨by rfl, ?_⟩) ?_ ?_
                                    rotate_left
                                    · intro w'
                                      go_simp
                                      with_reducible rfl
                                    rotate_left
                                    · simp only [Act.put, List.setIfInBounds_toArray, List.set_cons_zero, List.set_cons_succ, i64_w, i32_w]
                                      rfl
                                    refine pure_ (i := 6) (N := some 69) (v := ?_) (a' := ?_) #[true, true, true, true, true, false, true, false, false, false, false, false, false, false] rfl rfl (any_of HT_.out (by kernel_rfl)) (fun _ _ _ h => h) (Or.inl ⟨by rfl, ?_⟩) ?_ ?_
                                    rotate_left
                                    · intro w'
                                      go_simp
                                      with_reducible rfl
                                    rotate_left
                                    · simp only [Act.put, List.setIfInBounds_toArray, List.set_cons_zero, List.set_cons_succ, i64_w, i32_w]
                                      rfl
                                    refine pure_ (i := 7) (N := some 70) (v := ?_) (a' := ?_) #[true, true, true, true, true, false, true, true, false, false, false, false, false, false] rfl rfl (any_of HT_.out (by kernel_rfl)) (fun _ _ _ h => h) (Or.inl ⟨by rfl, ?_⟩) ?_ ?_
                                    rotate_left
                                    · intro w'
                                      go_simp
                                      with_reducible rfl
                                    rotate_left
                                    · simp only [Act.put, List.setIfInBounds_toArray, List.set_cons_zero, List.set_cons_succ, i64_w, i32_w]
                                      rfl
                                    refine take_ (i := 5) (N := some 68) (v := ?_) (a' := ?_) #[true, true, true, true, true, true, true, true, false, false, false, false, false, false] rfl rfl (take_ofW HT_.out HW_.out (by kernel_rfl)) (fun _ _ _ h => h) (Or.inl ⟨by rfl, ?_⟩) hHeld ?_ ?_
                                    rotate_left
                                    · rintro w' ⟨s0, s1, s2, s3, s4, s5, s6, s7, s8, s9, s10, s11, s12⟩
                                      go_simp
                                      with_reducible rfl
                                    rotate_left
                                    · simp only [Act.put, List.setIfInBounds_toArray, List.set_cons_zero, List.set_cons_succ, i64_w, i32_w]
                                      rfl
                                    refine take_ (i := 8) (N := some 71) (v := ?_) (a' := ?_) #[true, true, true, true, true, true, true, true, true, false, false, false, false, false] rfl rfl (take_ofW HT_.out HW_.out (by kernel_rfl)) (fun _ _ _ h => h) (Or.inl ⟨by rfl, ?_⟩) hHeld ?_ ?_
                                    rotate_left
                                    · rintro w' ⟨s0, s1, s2, s3, s4, s5, s6, s7, s8, s9, s10, s11, s12⟩
                                      go_simp
                                      with_reducible rfl
                                    rotate_left
                                    · simp only [Act.put, List.setIfInBounds_toArray, List.set_cons_zero, List.set_cons_succ, i64_w, i32_w]
                                      rfl
                                    refine pure_ (i := 9) (N := some 72) (v := ?_) (a' := ?_) #[true, true, true, true, true, true, true, true, true, true, false, false, false, false] rfl rfl (any_of HT_.out (by kernel_rfl)) (fun _ _ _ h => h) (Or.inl ⟨by rfl, ?_⟩) ?_ ?_
                                    rotate_left
                                    · intro w'
                                      go_simp
                                      with_reducible rfl
                                    rotate_left
                                    · simp only [Act.put, List.setIfInBounds_toArray, List.set_cons_zero, List.set_cons_succ, i64_w, i32_w]
                                      rfl
                                    refine pure_ (i := 10) (N := some 73) (v := ?_) (a' := ?_) #[true, true, true, true, true, true, true, true, true, true, true, false, false, false] rfl rfl (any_of HT_.out (by kernel_rfl)) (fun _ _ _ h => h) (Or.inl ⟨by rfl, ?_⟩) ?_ ?_
                                    rotate_left
                                    · intro w'
                                      go_simp
                                      with_reducible rfl
                                    rotate_left
                                    · simp only [Act.put, List.setIfInBounds_toArray, List.set_cons_zero, List.set_cons_succ, i64_w, i32_w]
                                      rfl
                                    refine take_ (i := 11) (N := some 74) (v := ?_) (a' := ?_) #[true, true, true, true, true, true, true, true, true, true, true, true, false, false] rfl rfl (take_ofW HT_.out HW_.out (by kernel_rfl)) (fun _ _ _ h => h) (Or.inl ⟨by rfl, ?_⟩) hHeld ?_ ?_
                                    rotate_left
                                    · rintro w' ⟨s0, s1, s2, s3, s4, s5, s6, s7, s8, s9, s10, s11, s12⟩
                                      go_simp
                                      with_reducible rfl
                                    rotate_left
                                    · simp only [Act.put, List.setIfInBounds_toArray, List.set_cons_zero, List.set_cons_succ, i64_w, i32_w]
                                      rfl
                                    refine pure_ (i := 12) (N := some 75) (v := ?_) (a' := ?_) #[true, true, true, true, true, true, true, true, true, true, true, true, true, false] rfl rfl (any_of HT_.out (by kernel_rfl)) (fun _ _ _ h => h) (Or.inl ⟨by rfl, ?_⟩) ?_ ?_
                                    rotate_left
                                    · intro w'
                                      go_simp
                                      with_reducible rfl
                                    rotate_left
                                    · simp only [Act.put, List.setIfInBounds_toArray, List.set_cons_zero, List.set_cons_succ, i64_w, i32_w]
                                      rfl
                                    refine pure_ (i := 13) (N := some 76) (v := ?_) (a' := ?_) #[true, true, true, true, true, true, true, true, true, true, true, true, true, true] rfl rfl (any_of HT_.out (by kernel_rfl)) (fun _ _ _ h => h) (Or.inl ⟨by rfl, ?_⟩) ?_ ?_
                                    rotate_left
                                    · intro w'
                                      go_simp
                                      with_reducible rfl
                                    rotate_left
                                    · simp only [Act.put, List.setIfInBounds_toArray, List.set_cons_zero, List.set_cons_succ, i64_w, i32_w]
                                      rfl
                                    refine done_ (done_of HT_.out (by kernel_rfl)) ?_
                                    have hnb62 := NB640_629.out
                                    have hnc62 := NB629_640.out
                                    obtain ⟨hcz63_0, hcz63_1, hcz63_2, hcz63_3, hcz63_4, hcz63_5, hcz63_6, hfz63_0, hfz63_1, hfz63_2, hfz63_3, hfz63_4, hfz63_5, hfz63_6⟩ := blk_all7 BK640.out
                                    obtain ⟨hcz64_0, hcz64_1, hcz64_2, hcz64_3, hcz64_4, hcz64_5, hcz64_6, hfz64_0, hfz64_1, hfz64_2, hfz64_3, hfz64_4, hfz64_5, hfz64_6⟩ := blk_all7 BK629.out
                                    try go_wp2
                                    go_roundg kj20
                                    case measure => have := HJ2.out; have := HK2.out; have := HJ14.out; have := HJ20.out; omega
                                    case rel => exact ⟨(wrap64 (x6_2 + 1)), (t632), (t633), (t634), (t635), (t636), (t637), (t638), (by first | rfl | (simp; done) | (simp [*]; done)), H', ⟨by have := HJ2.out; have := HK2.out; have := HJ14.out; have := HJ20.out; omega⟩, ⟨by (with_reducible repeat (first | apply bd1 | apply bd2 | apply bd3)); refine blk_put (cs := #[.int .i64 t632, .int .i64 t633, .int .i64 t634, .bool t635, .int .i64 t636, .bool t637, .int .i64 x630006_2]) ?_ 6 _ rfl; (with_reducible repeat (first | apply bd1 | apply bd2 | apply bd3)); refine blk_put (cs := #[.int .i64 t632, .int .i64 t633, .int .i64 t634, .bool t635, .int .i64 t636, .bool x630005_2, .int .i64 x630006_2]) ?_ 5 _ rfl; (with_reducible repeat (first | apply bd1 | apply bd2 | apply bd3)); refine blk_put (cs := #[.int .i64 t632, .int .i64 t633, .int .i64 t634, .bool t635, .int .i64 x630004_2, .bool x630005_2, .int .i64 x630006_2]) ?_ 4 _ rfl; (with_reducible repeat (first | apply bd1 | apply bd2 | apply bd3)); refine blk_put (cs := #[.int .i64 t632, .int .i64 t633, .int .i64 t634, .bool x630003_2, .int .i64 x630004_2, .bool x630005_2, .int .i64 x630006_2]) ?_ 3 _ rfl; (with_reducible repeat (first | apply bd1 | apply bd2 | apply bd3)); refine blk_put (cs := #[.int .i64 t632, .int .i64 t633, .int .i64 x630002_2, .bool x630003_2, .int .i64 x630004_2, .bool x630005_2, .int .i64 x630006_2]) ?_ 2 _ rfl; (with_reducible repeat (first | apply bd1 | apply bd2 | apply bd3)); refine blk_put (cs := #[.int .i64 t632, .int .i64 x630001_2, .int .i64 x630002_2, .bool x630003_2, .int .i64 x630004_2, .bool x630005_2, .int .i64 x630006_2]) ?_ 1 _ rfl; (with_reducible repeat (first | apply bd1 | apply bd2 | apply bd3)); refine blk_put (cs := #[.int .i64 x630000_2, .int .i64 x630001_2, .int .i64 x630002_2, .bool x630003_2, .int .i64 x630004_2, .bool x630005_2, .int .i64 x630006_2]) ?_ 0 _ rfl; (with_reducible repeat (first | apply bd1 | apply bd2 | apply bd3)); exact BK629.out⟩, ⟨by repeat (first | (with_reducible first | exact HB.out | apply below_alloc | apply pw_below_drewN | apply below_drew1 | refine below_set ?_ GE629.out | refine below_set ?_ GE640.out) | exact HB.out)⟩⟩
                                · rw [if_neg c59] at H
                                  exact absurd H (by simp)
                              · rw [if_neg c58] at H
                                exact absurd H (by simp)
                            · rw [if_neg c57] at H
                              have c57b0 : decide (t632 < 3) = false := decide_eq_false c57
                              clear c57
                              have H' := Aside0.mk H
                              clear H
                              try go_wp2
                              have n0_ := Aside0.mk (blk_drew BK629.out)
                              have n1_ := Aside0.mk (blk_drew BK640.out)
                              have n2_ := Aside0.mk (below_drew1 HB.out)
                              clear BK629
                              clear BK640
                              clear HB
                              have BK629 := n0_
                              have BK640 := n1_
                              have HB := n2_
                              clear n0_ n1_ n2_
                              refine start_ (n := 14) (S := fun w' => w'.cell? ⟨gb640, 0, none⟩ = some (.int .i64 t632) ∧ w'.cell? ⟨gb640, 1, none⟩ = some (.int .i64 t633) ∧ w'.cell? ⟨gb640, 2, none⟩ = some (.int .i64 t634) ∧ w'.cell? ⟨gb640, 3, none⟩ = some (.bool t635) ∧ w'.cell? ⟨gb640, 4, none⟩ = some (.int .i64 t636) ∧ w'.cell? ⟨gb640, 5, none⟩ = some (.bool t637) ∧ w'.cell? ⟨gb640, 6, none⟩ = some (.int .i64 t638)) (ds := []) #[false, false, false, false, false, false, false, false, false, false, false, false, false, false] (by kernel_rfl) rfl rfl ⟨(blk_cell BK640.out 0).trans rfl, (blk_cell BK640.out 1).trans rfl, (blk_cell BK640.out 2).trans rfl, (blk_cell BK640.out 3).trans rfl, (blk_cell BK640.out 4).trans rfl, (blk_cell BK640.out 5).trans rfl, (blk_cell BK640.out 6).trans rfl⟩ (fun hHeld => ?_); refine with_tabW drayagelaw14_SagaStays.tab10 drayagelaw14_SagaStays.bits10 (fun HT_ HW_ => ?_)
                              generalize wc.drew = w65 at BK629 BK640 HB hHeld ⊢
                              refine pure_ (i := 0) (N := some 63) (v := ?_) (a' := ?_) #[true, false, false, false, false, false, false, false, false, false, false, false, false, false] rfl rfl (any_of HT_.out (by kernel_rfl)) (fun _ _ _ h => h) (Or.inl ⟨by rfl, ?_⟩) ?_ ?_
                              rotate_left
                              · intro w'
                                go_simp
                                with_reducible rfl
                              rotate_left
                              · simp only [Act.put, List.setIfInBounds_toArray, List.set_cons_zero, List.set_cons_succ, i64_w, i32_w]
                                rfl
                              refine take_ (i := 1) (N := some 64) (v := ?_) (a' := ?_) #[true, true, false, false, false, false, false, false, false, false, false, false, false, false] rfl rfl (take_ofW HT_.out HW_.out (by kernel_rfl)) (fun _ _ _ h => h) (Or.inl ⟨by rfl, ?_⟩) hHeld ?_ ?_
                              rotate_left
                              · rintro w' ⟨s0, s1, s2, s3, s4, s5, s6⟩
                                go_simp
                                with_reducible rfl
                              rotate_left
                              · simp only [Act.put, List.setIfInBounds_toArray, List.set_cons_zero, List.set_cons_succ, i64_w, i32_w]
                                rfl
                              refine pure_ (i := 2) (N := some 65) (v := ?_) (a' := ?_) #[true, true, true, false, false, false, false, false, false, false, false, false, false, false] rfl rfl (any_of HT_.out (by kernel_rfl)) (fun _ _ _ h => h) (Or.inl ⟨by rfl, ?_⟩) ?_ ?_
                              rotate_left
                              · intro w'
                                go_simp
                                with_reducible rfl
                              rotate_left
                              · simp only [Act.put, List.setIfInBounds_toArray, List.set_cons_zero, List.set_cons_succ, i64_w, i32_w]
                                rfl
                              refine pure_ (i := 3) (N := some 66) (v := ?_) (a' := ?_) #[true, true, true, true, false, false, false, false, false, false, false, false, false, false] rfl rfl (any_of HT_.out (by kernel_rfl)) (fun _ _ _ h => h) (Or.inl ⟨by rfl, ?_⟩) ?_ ?_
                              rotate_left
                              · intro w'
                                go_simp
                                with_reducible rfl
                              rotate_left
                              · simp only [Act.put, List.setIfInBounds_toArray, List.set_cons_zero, List.set_cons_succ, i64_w, i32_w]
                                rfl
                              refine pure_ (i := 4) (N := some 67) (v := undef) (a' := ?_) #[true, true, true, true, true, false, false, false, false, false, false, false, false, false] rfl rfl (any_of HT_.out (by kernel_rfl)) (fun _ _ _ h => h) (Or.inr ⟨by rfl, rfl⟩) ?_ ?_
                              rotate_left
                              · simp only [Act.put, List.setIfInBounds_toArray, List.set_cons_zero, List.set_cons_succ, i64_w, i32_w]
                                rfl
                              refine pure_ (i := 5) (N := some 68) (v := undef) (a' := ?_) #[true, true, true, true, true, true, false, false, false, false, false, false, false, false] rfl rfl (any_of HT_.out (by kernel_rfl)) (fun _ _ _ h => h) (Or.inr ⟨by rfl, rfl⟩) ?_ ?_
                              rotate_left
                              · simp only [Act.put, List.setIfInBounds_toArray, List.set_cons_zero, List.set_cons_succ, i64_w, i32_w]
                                rfl
                              refine pure_ (i := 6) (N := some 69) (v := undef) (a' := ?_) #[true, true, true, true, true, true, true, false, false, false, false, false, false, false] rfl rfl (any_of HT_.out (by kernel_rfl)) (fun _ _ _ h => h) (Or.inr ⟨by rfl, rfl⟩) ?_ ?_
                              rotate_left
                              · simp only [Act.put, List.setIfInBounds_toArray, List.set_cons_zero, List.set_cons_succ, i64_w, i32_w]
                                rfl
                              refine pure_ (i := 7) (N := some 70) (v := undef) (a' := ?_) #[true, true, true, true, true, true, true, true, false, false, false, false, false, false] rfl rfl (any_of HT_.out (by kernel_rfl)) (fun _ _ _ h => h) (Or.inr ⟨by rfl, rfl⟩) ?_ ?_
                              rotate_left
                              · simp only [Act.put, List.setIfInBounds_toArray, List.set_cons_zero, List.set_cons_succ, i64_w, i32_w]
                                rfl
                              refine pure_ (i := 8) (N := some 71) (v := undef) (a' := ?_) #[true, true, true, true, true, true, true, true, true, false, false, false, false, false] rfl rfl (any_of HT_.out (by kernel_rfl)) (fun _ _ _ h => h) (Or.inr ⟨by rfl, rfl⟩) ?_ ?_
                              rotate_left
                              · simp only [Act.put, List.setIfInBounds_toArray, List.set_cons_zero, List.set_cons_succ, i64_w, i32_w]
                                rfl
                              refine pure_ (i := 9) (N := some 72) (v := undef) (a' := ?_) #[true, true, true, true, true, true, true, true, true, true, false, false, false, false] rfl rfl (any_of HT_.out (by kernel_rfl)) (fun _ _ _ h => h) (Or.inr ⟨by rfl, rfl⟩) ?_ ?_
                              rotate_left
                              · simp only [Act.put, List.setIfInBounds_toArray, List.set_cons_zero, List.set_cons_succ, i64_w, i32_w]
                                rfl
                              refine pure_ (i := 10) (N := some 73) (v := undef) (a' := ?_) #[true, true, true, true, true, true, true, true, true, true, true, false, false, false] rfl rfl (any_of HT_.out (by kernel_rfl)) (fun _ _ _ h => h) (Or.inr ⟨by rfl, rfl⟩) ?_ ?_
                              rotate_left
                              · simp only [Act.put, List.setIfInBounds_toArray, List.set_cons_zero, List.set_cons_succ, i64_w, i32_w]
                                rfl
                              refine pure_ (i := 11) (N := some 74) (v := undef) (a' := ?_) #[true, true, true, true, true, true, true, true, true, true, true, true, false, false] rfl rfl (any_of HT_.out (by kernel_rfl)) (fun _ _ _ h => h) (Or.inr ⟨by rfl, rfl⟩) ?_ ?_
                              rotate_left
                              · simp only [Act.put, List.setIfInBounds_toArray, List.set_cons_zero, List.set_cons_succ, i64_w, i32_w]
                                rfl
                              refine pure_ (i := 12) (N := some 75) (v := undef) (a' := ?_) #[true, true, true, true, true, true, true, true, true, true, true, true, true, false] rfl rfl (any_of HT_.out (by kernel_rfl)) (fun _ _ _ h => h) (Or.inr ⟨by rfl, rfl⟩) ?_ ?_
                              rotate_left
                              · simp only [Act.put, List.setIfInBounds_toArray, List.set_cons_zero, List.set_cons_succ, i64_w, i32_w]
                                rfl
                              refine pure_ (i := 13) (N := some 76) (v := ?_) (a' := ?_) #[true, true, true, true, true, true, true, true, true, true, true, true, true, true] rfl rfl (any_of HT_.out (by kernel_rfl)) (fun _ _ _ h => h) (Or.inl ⟨by rfl, ?_⟩) ?_ ?_
                              rotate_left
                              · intro w'
                                go_simp
                                with_reducible rfl
                              rotate_left
                              · simp only [Act.put, List.setIfInBounds_toArray, List.set_cons_zero, List.set_cons_succ, i64_w, i32_w]
                                rfl
                              refine done_ (done_of HT_.out (by kernel_rfl)) ?_
                              have hnb66 := NB640_629.out
                              have hnc66 := NB629_640.out
                              obtain ⟨hcz67_0, hcz67_1, hcz67_2, hcz67_3, hcz67_4, hcz67_5, hcz67_6, hfz67_0, hfz67_1, hfz67_2, hfz67_3, hfz67_4, hfz67_5, hfz67_6⟩ := blk_all7 BK640.out
                              obtain ⟨hcz68_0, hcz68_1, hcz68_2, hcz68_3, hcz68_4, hcz68_5, hcz68_6, hfz68_0, hfz68_1, hfz68_2, hfz68_3, hfz68_4, hfz68_5, hfz68_6⟩ := blk_all7 BK629.out
                              try go_wp2
                              go_roundg kj20
                              case measure => have := HJ2.out; have := HK2.out; have := HJ14.out; have := HJ20.out; omega
                              case rel => exact ⟨(wrap64 (x6_2 + 1)), (t632), (t633), (t634), (t635), (t636), (t637), (t638), (by first | rfl | (simp; done) | (simp [*]; done)), H', ⟨by have := HJ2.out; have := HK2.out; have := HJ14.out; have := HJ20.out; omega⟩, ⟨by (with_reducible repeat (first | apply bd1 | apply bd2 | apply bd3)); refine blk_put (cs := #[.int .i64 t632, .int .i64 t633, .int .i64 t634, .bool t635, .int .i64 t636, .bool t637, .int .i64 x630006_2]) ?_ 6 _ rfl; (with_reducible repeat (first | apply bd1 | apply bd2 | apply bd3)); refine blk_put (cs := #[.int .i64 t632, .int .i64 t633, .int .i64 t634, .bool t635, .int .i64 t636, .bool x630005_2, .int .i64 x630006_2]) ?_ 5 _ rfl; (with_reducible repeat (first | apply bd1 | apply bd2 | apply bd3)); refine blk_put (cs := #[.int .i64 t632, .int .i64 t633, .int .i64 t634, .bool t635, .int .i64 x630004_2, .bool x630005_2, .int .i64 x630006_2]) ?_ 4 _ rfl; (with_reducible repeat (first | apply bd1 | apply bd2 | apply bd3)); refine blk_put (cs := #[.int .i64 t632, .int .i64 t633, .int .i64 t634, .bool x630003_2, .int .i64 x630004_2, .bool x630005_2, .int .i64 x630006_2]) ?_ 3 _ rfl; (with_reducible repeat (first | apply bd1 | apply bd2 | apply bd3)); refine blk_put (cs := #[.int .i64 t632, .int .i64 t633, .int .i64 x630002_2, .bool x630003_2, .int .i64 x630004_2, .bool x630005_2, .int .i64 x630006_2]) ?_ 2 _ rfl; (with_reducible repeat (first | apply bd1 | apply bd2 | apply bd3)); refine blk_put (cs := #[.int .i64 t632, .int .i64 x630001_2, .int .i64 x630002_2, .bool x630003_2, .int .i64 x630004_2, .bool x630005_2, .int .i64 x630006_2]) ?_ 1 _ rfl; (with_reducible repeat (first | apply bd1 | apply bd2 | apply bd3)); refine blk_put (cs := #[.int .i64 x630000_2, .int .i64 x630001_2, .int .i64 x630002_2, .bool x630003_2, .int .i64 x630004_2, .bool x630005_2, .int .i64 x630006_2]) ?_ 0 _ rfl; (with_reducible repeat (first | apply bd1 | apply bd2 | apply bd3)); exact BK629.out⟩, ⟨by repeat (first | (with_reducible first | exact HB.out | apply below_alloc | apply pw_below_drewN | apply below_drew1 | refine below_set ?_ GE629.out | refine below_set ?_ GE640.out) | exact HB.out)⟩⟩
                    · rw [if_neg c19] at H
                      exact absurd H (by simp)
                  · rw [if_neg c18] at H
                    exact absurd H (by simp)
                · replace c17 := Bool.eq_false_iff.mpr c17
                  subst c17
                  have H1 : ((drayagelaw14_known.f kj14).bind fun t630 => (some t630)) = some r := by rw [if_neg (show ¬ (false = true) by decide)] at H; exact H
                  clear H
                  have H := H1
                  clear H1
                  replace H := Option.bind_eq_some_iff.mp H
                  obtain ⟨t630, A690, H⟩ := H
                  replace H : (some t630) = some r := H
                  have A69 := Aside0.mk A690
                  clear A690
                  obtain rfl := Option.some.inj H
                  go_wp2_with (first | ((with_reducible refine gate_callee (f := 12) rfl ?_); refine goesL_ (some 78) rfl rfl Try.func12 (by kernel_rfl) rfl #[] rfl (by (try simp only [List.map_toArray, List.map_cons, List.map_nil]); first | done | rfl | (simp only [List.length_drop, List.length_take]; rfl)) ?_; (with_reducible refine (drayagelaw14_known.calls kj14  t630 _ A69.out).mono ?_); rintro e w70 ⟨rfl, hb⟩; refine ⟨_, rfl, ?_⟩; have n0_ := Aside0.mk (blk_below (g := gb629) (o := .cells #[.int .i64 x630000_2, .int .i64 x630001_2, .int .i64 x630002_2, .bool x630003_2, .int .i64 x630004_2, .bool x630005_2, .int .i64 x630006_2] 28 (0, 0)) (by (with_reducible repeat (first | apply bd1 | apply bd2 | apply bd3)); exact BK629.out) hb); have n1_ := Aside0.mk (below_step (by repeat (first | (with_reducible first | exact HB.out | apply below_alloc | apply pw_below_drewN | apply below_drew1 | refine below_set ?_ GE629.out) | exact HB.out)) hb); clear BK629; clear HB; have BK629 := n0_; have HB := n1_; clear n0_ n1_; (try clear hb); (try clear hb2); (try clear hk); (try clear hi)))
                  go_ret
                  exact ⟨by first | rfl | (simp [errW_none, errW_some] <;> rfl) | (simp [*, errW_none, errW_some] <;> rfl), by repeat (first | (with_reducible first | exact HB.out | apply below_alloc | apply pw_below_drewN | apply below_drew1 | refine below_set ?_ GE629.out) | exact HB.out)⟩

end Go.Proofs.Yteefdhgfcnjpoaa.PA
