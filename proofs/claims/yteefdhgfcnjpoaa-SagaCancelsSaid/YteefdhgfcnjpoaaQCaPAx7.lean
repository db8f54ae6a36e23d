-- printed by a program of this work (wip/tools/pr.py over the kit's print): the machine's side of SagaTries, SagaMoves, SagaStays, SagaOrder, SagaEnds, SagaTicks
import Derived.Test.YteefdhgfcnjpoaaQCaPAx0
import Derived.Test.YteefdhgfcnjpoaaQCaPAx1
import Derived.Test.YteefdhgfcnjpoaaQCaPAx6
namespace Go.Proofs.Yteefdhgfcnjpoaa.PA
open Go.RowKit Go.Proofs.YteefdhgfcnjpoaaW.PrintWords Go.Proofs.YteefdhgfcnjpoaaW.PrintLast Go.Proofs.YteefdhgfcnjpoaaW.PrintMore
attribute [local go_sem] max2_int min2_int max_two min_two max_three min_three max_four min_four   -- for this text's walks alone
set_option linter.unusedVariables false
set_option linter.unusedSimpArgs false

attribute [local go_sem high] eqA28
/-! ### saga_Check: function 24 -/
mutual
def saga_Check.j0 : Nat → List (S38) → Bool → Int → Int → Int → Bool → Int → Bool → Int → Option (Int)
  | 0, _, _, _, _, _, _, _, _, _ => none
  | k + 1, x0, x55, x130000, x130001, x130002, x130003, x130004, x130005, x130006 => if x55 = true then (some 140) else (if 0 ≤ x130001 then (if x130001 < (x0.length : Int) then (if x130002 ≥ 0 then (if x130002 < ((rd_T38 x0 x130001).f1) then (saga_Check.j1 k (x130004 == 0) x130000 x130001 x130002 x130003 x130004 x130005 x130006 ((rd_T38 x0 x130001).f0.f0) ((rd_T38 x0 x130001).f0.f1) ((rd_T38 x0 x130001).f0.f2) ((rd_T38 x0 x130001).f1) ((rd_T38 x0 x130001).f2) ((rd_T38 x0 x130001).f3)) else (saga_Check.j1 k false x130000 x130001 x130002 x130003 x130004 x130005 x130006 ((rd_T38 x0 x130001).f0.f0) ((rd_T38 x0 x130001).f0.f1) ((rd_T38 x0 x130001).f0.f2) ((rd_T38 x0 x130001).f1) ((rd_T38 x0 x130001).f2) ((rd_T38 x0 x130001).f3))) else (saga_Check.j1 k false x130000 x130001 x130002 x130003 x130004 x130005 x130006 ((rd_T38 x0 x130001).f0.f0) ((rd_T38 x0 x130001).f0.f1) ((rd_T38 x0 x130001).f0.f2) ((rd_T38 x0 x130001).f1) ((rd_T38 x0 x130001).f2) ((rd_T38 x0 x130001).f3))) else (none)) else (none))
def saga_Check.j1 : Nat → Bool → Int → Int → Int → Bool → Int → Bool → Int → Int → Int → List Int → Int → Int → Bool → Option (Int)
  | 0, _, _, _, _, _, _, _, _, _, _, _, _, _, _ => none
  | k + 1, x7, x130000, x130001, x130002, x130003, x130004, x130005, x130006, x140000, x140001, x140002, x140003, x140004, x140005 => if x130003 = true then (if x130002 ≥ 1 then (if x130002 ≤ x140003 then (if x130004 ≥ 1 then (if x130004 ≤ x140004 then (if x130000 = 2 then (if x140005 = true then (if x130005 = true then (some 140) else (some 0)) else (some 140)) else (some 0)) else (some 140)) else (some 140)) else (some 140)) else (some 140)) else (if x7 = true then (if x130000 = 2 then (if x140005 = true then (if x130005 = true then (some 140) else (some 0)) else (some 140)) else (some 0)) else (some 140))
end
def saga_Check.f (k : Nat) (l0 : List (S38)) (a1_0 : Int) (a1_1 : Int) (a1_2 : Int) (a1_3 : Bool) (a1_4 : Int) (a1_5 : Bool) (a1_6 : Int) : Option (Int) := (plan_Check.f k l0).bind fun t130 => (if t130 = 0 then (if a1_0 = 3 then (if a1_6 < 1 then (some 140) else (if a1_6 > 3 then (some 140) else ((saga_over.f a1_6).bind fun bt131 => (if (!(a1_0 == bt131.1) || (!(a1_1 == bt131.2.1) || (!(a1_2 == bt131.2.2.1) || (!(a1_3 == bt131.2.2.2.1) || (!(a1_4 == bt131.2.2.2.2.1) || (!(a1_5 == bt131.2.2.2.2.2.1) || (!(a1_6 == bt131.2.2.2.2.2.2)))))))) = true then (some 140) else (some 0))))) else (if a1_0 < 1 then (saga_Check.j0 k l0 true a1_0 a1_1 a1_2 a1_3 a1_4 a1_5 a1_6) else (if a1_0 > 3 then (saga_Check.j0 k l0 true a1_0 a1_1 a1_2 a1_3 a1_4 a1_5 a1_6) else (if a1_1 < 0 then (saga_Check.j0 k l0 true a1_0 a1_1 a1_2 a1_3 a1_4 a1_5 a1_6) else (if a1_1 ≥ (l0.length : Int) then (saga_Check.j0 k l0 true a1_0 a1_1 a1_2 a1_3 a1_4 a1_5 a1_6) else (saga_Check.j0 k l0 (a1_6 != 0) a1_0 a1_1 a1_2 a1_3 a1_4 a1_5 a1_6)))))) else (some t130))
theorem saga_Check.mono_l : ∀ k, (∀ y0 y1 y2 y3 y4 y5 y6 y7 y8, LeO (saga_Check.j0 k y0 y1 y2 y3 y4 y5 y6 y7 y8) (saga_Check.j0 (k + 1) y0 y1 y2 y3 y4 y5 y6 y7 y8)) ∧ (∀ y0 y1 y2 y3 y4 y5 y6 y7 y8 y9 y10 y11 y12 y13, LeO (saga_Check.j1 k y0 y1 y2 y3 y4 y5 y6 y7 y8 y9 y10 y11 y12 y13) (saga_Check.j1 (k + 1) y0 y1 y2 y3 y4 y5 y6 y7 y8 y9 y10 y11 y12 y13))
  | 0 => ⟨fun _ _ _ _ _ _ _ _ _ r h => by simp [saga_Check.j0] at h, fun _ _ _ _ _ _ _ _ _ _ _ _ _ _ r h => by simp [saga_Check.j1] at h⟩
  | k + 1 => by
    obtain ⟨ih0, ih1⟩ := saga_Check.mono_l k
    refine ⟨?_, ?_⟩
    · intro y0 y1 y2 y3 y4 y5 y6 y7 y8
      unfold saga_Check.j0
      repeat' first
      | (with_reducible exact ih0 _ _ _ _ _ _ _ _ _)
      | (with_reducible exact ih1 _ _ _ _ _ _ _ _ _ _ _ _ _ _)
      | (with_reducible exact plan_Check.mono _ _)
      | (with_reducible exact LeO.refl _)
      | (with_reducible exact LeO.none _)
      | (with_reducible refine LeO.ite ?_ ?_)
      | (with_reducible refine LeO.bind ?_ (fun _ => ?_))
      | exact ih0 _ _ _ _ _ _ _ _ _
      | exact ih1 _ _ _ _ _ _ _ _ _ _ _ _ _ _
      | exact plan_Check.mono _ _
      | exact LeO.none _
      | refine LeO.ite ?_ ?_
      | refine LeO.bind ?_ (fun _ => ?_)
    · intro y0 y1 y2 y3 y4 y5 y6 y7 y8 y9 y10 y11 y12 y13
      unfold saga_Check.j1
      repeat' first
      | (with_reducible exact ih0 _ _ _ _ _ _ _ _ _)
      | (with_reducible exact ih1 _ _ _ _ _ _ _ _ _ _ _ _ _ _)
      | (with_reducible exact plan_Check.mono _ _)
      | (with_reducible exact LeO.refl _)
      | (with_reducible exact LeO.none _)
      | (with_reducible refine LeO.ite ?_ ?_)
      | (with_reducible refine LeO.bind ?_ (fun _ => ?_))
      | exact ih0 _ _ _ _ _ _ _ _ _
      | exact ih1 _ _ _ _ _ _ _ _ _ _ _ _ _ _
      | exact plan_Check.mono _ _
      | exact LeO.none _
      | refine LeO.ite ?_ ?_
      | refine LeO.bind ?_ (fun _ => ?_)
theorem saga_Check.mono : ∀ a0 a1 a2 a3 a4 a5 a6 a7 k, LeO (saga_Check.f k a0 a1 a2 a3 a4 a5 a6 a7) (saga_Check.f (k + 1) a0 a1 a2 a3 a4 a5 a6 a7) := by
  intro a0 a1 a2 a3 a4 a5 a6 a7 k
  obtain ⟨ih0, ih1⟩ := saga_Check.mono_l k
  unfold saga_Check.f
  repeat' first
      | (with_reducible exact ih0 _ _ _ _ _ _ _ _ _)
      | (with_reducible exact ih1 _ _ _ _ _ _ _ _ _ _ _ _ _ _)
      | (with_reducible exact plan_Check.mono _ _)
      | (with_reducible exact LeO.refl _)
      | (with_reducible exact LeO.none _)
      | (with_reducible refine LeO.ite ?_ ?_)
      | (with_reducible refine LeO.bind ?_ (fun _ => ?_))
      | exact ih0 _ _ _ _ _ _ _ _ _
      | exact ih1 _ _ _ _ _ _ _ _ _ _ _ _ _ _
      | exact plan_Check.mono _ _
      | exact LeO.none _
      | refine LeO.ite ?_ ?_
      | refine LeO.bind ?_ (fun _ => ?_)
def saga_Check.T5 : Bool × List (List Nat × List Nat) := (true, [([], []), ([0], [0]), ([1], [1]), ([2], [2]), ([3], [3]), ([4, 3], [3, 4]), ([5, 3], [3, 5]), ([3, 6], [3, 6]), ([7, 3], [7]), ([8], [8]), ([8], [8]), ([10, 8], [8, 10]), ([11, 8, 8], [8, 11]), ([9, 12, 8], [8, 9, 12]), ([8, 13], [8, 13])])
def saga_Check.B5 : List Nat := [0, 1, 3, 7, 15, 31, 63, 127, 255, 511, 511, 1535, 3583, 8191, 16383]
theorem saga_Check.tab5 : rtab .any (opsOf Try.f24 5) = saga_Check.T5 := by kernel_rfl
theorem saga_Check.bits5 : waitsOk saga_Check.T5.2 saga_Check.B5 = true := by kernel_rfl
set_option maxHeartbeats 8000000 in
set_option maxRecDepth 100000 in
theorem saga_Check.calls (k : Nat) (A0 : Option Addr) (c0 : Nat) (l0 : List (S38)) (a1_0 : Int) (a1_1 : Int) (a1_2 : Int) (a1_3 : Bool) (a1_4 : Int) (a1_5 : Bool) (a1_6 : Int) (r : Int) (w : World) (hr0 : Kd.C k38 w A0 l0.length l0) (hc0 : l0.length ≤ c0) (h : saga_Check.f k l0 a1_0 a1_1 a1_2 a1_3 a1_4 a1_5 a1_6 = some r) :
    Calls Try.prog 24 #[.slice A0 l0.length c0, .agg #[.int .i64 a1_0, .int .i64 a1_1, .int .i64 a1_2, .bool a1_3, .int .i64 a1_4, .bool a1_5, .int .i64 a1_6]] w fun e w' => e = .returned (.int .i64 r) ∧ Below w.heap.size w w' := by
  have hu28 := Try.underlying28
  have hu38 := Try.underlying38
  have HR0 := Aside0.mk hr0
  have HC0 := Aside0.mk hc0
  clear hr0 hc0
  have HB := Aside0.mk (Below.refl w.heap.size w)
  have H : ((plan_Check.f k l0).bind fun t130 => (if t130 = 0 then (if a1_0 = 3 then (if a1_6 < 1 then (some 140) else (if a1_6 > 3 then (some 140) else ((saga_over.f a1_6).bind fun bt131 => (if (!(a1_0 == bt131.1) || (!(a1_1 == bt131.2.1) || (!(a1_2 == bt131.2.2.1) || (!(a1_3 == bt131.2.2.2.1) || (!(a1_4 == bt131.2.2.2.2.1) || (!(a1_5 == bt131.2.2.2.2.2.1) || (!(a1_6 == bt131.2.2.2.2.2.2)))))))) = true then (some 140) else (some 0))))) else (if a1_0 < 1 then (saga_Check.j0 k l0 true a1_0 a1_1 a1_2 a1_3 a1_4 a1_5 a1_6) else (if a1_0 > 3 then (saga_Check.j0 k l0 true a1_0 a1_1 a1_2 a1_3 a1_4 a1_5 a1_6) else (if a1_1 < 0 then (saga_Check.j0 k l0 true a1_0 a1_1 a1_2 a1_3 a1_4 a1_5 a1_6) else (if a1_1 ≥ (l0.length : Int) then (saga_Check.j0 k l0 true a1_0 a1_1 a1_2 a1_3 a1_4 a1_5 a1_6) else (saga_Check.j0 k l0 (a1_6 != 0) a1_0 a1_1 a1_2 a1_3 a1_4 a1_5 a1_6)))))) else (some t130))) = some r := h
  clear h
  replace H := Option.bind_eq_some_iff.mp H
  obtain ⟨t130, A30, H⟩ := H
  replace H : (if t130 = 0 then (if a1_0 = 3 then (if a1_6 < 1 then (some 140) else (if a1_6 > 3 then (some 140) else ((saga_over.f a1_6).bind fun bt131 => (if (!(a1_0 == bt131.1) || (!(a1_1 == bt131.2.1) || (!(a1_2 == bt131.2.2.1) || (!(a1_3 == bt131.2.2.2.1) || (!(a1_4 == bt131.2.2.2.2.1) || (!(a1_5 == bt131.2.2.2.2.2.1) || (!(a1_6 == bt131.2.2.2.2.2.2)))))))) = true then (some 140) else (some 0))))) else (if a1_0 < 1 then (saga_Check.j0 k l0 true a1_0 a1_1 a1_2 a1_3 a1_4 a1_5 a1_6) else (if a1_0 > 3 then (saga_Check.j0 k l0 true a1_0 a1_1 a1_2 a1_3 a1_4 a1_5 a1_6) else (if a1_1 < 0 then (saga_Check.j0 k l0 true a1_0 a1_1 a1_2 a1_3 a1_4 a1_5 a1_6) else (if a1_1 ≥ (l0.length : Int) then (saga_Check.j0 k l0 true a1_0 a1_1 a1_2 a1_3 a1_4 a1_5 a1_6) else (saga_Check.j0 k l0 (a1_6 != 0) a1_0 a1_1 a1_2 a1_3 a1_4 a1_5 a1_6)))))) else (some t130)) = some r := H
  have A3 := Aside0.mk A30
  clear A30
  by_cases c4 : t130 = 0
  · rw [if_pos c4] at H
    have c4b0 : (t130 == 0) = true := beq_iff_eq.mpr c4
    have c4b1 : (t130 != 0) = false := bne_eq_false_iff_eq.mpr c4
    clear c4
    by_cases c5 : a1_0 = 3
    · rw [if_pos c5] at H
      have c5b0 : (a1_0 == 3) = true := beq_iff_eq.mpr c5
      have c5b1 : (a1_0 != 3) = false := bne_eq_false_iff_eq.mpr c5
      clear c5
      by_cases c6 : a1_6 < 1
      · rw [if_pos c6] at H
        have c6b0 : decide (a1_6 < 1) = true := decide_eq_true c6
        clear c6
        obtain rfl := Option.some.inj H
        go_enter Try.func24, Try.ntmps24
        try go_wp2_with (first | ((with_reducible refine gate_dst (N := 3) rfl ?_); (try (refine gate_guard (by rfl) ?_; dsimp only)); refine box_event ?hg (N := 3) ?hd (cs := #[.int .i64 a1_0, .int .i64 a1_1, .int .i64 a1_2, .bool a1_3, .int .i64 a1_4, .bool a1_5, .int .i64 a1_6]) (t := 28) ?hr ?_; (case hd => rfl); (case hg => rfl); (case hr => first | (go_simp; done) | (go_simp; rfl)); intro gb129 hg w7 hbox hb; have n0_ := Aside0.mk (below_step (by repeat (first | (with_reducible first | exact HB.out | apply below_alloc | apply pw_below_drewN | apply below_drew1) | exact HB.out)) hb); have n1_ := Aside0.mk (hbox); have n2_ := Aside0.mk ((by rw [hg]; exact (below_size (by repeat (first | (with_reducible first | exact HB.out | apply below_alloc | apply pw_below_drewN | apply below_drew1) | exact HB.out))) : w.heap.size ≤ gb129)); have n3_ := Aside0.mk ((by rw [hg]; exact (below_size (by repeat (first | (with_reducible first | exact HB.out | apply below_alloc | apply pw_below_drewN | apply below_drew1) | exact HB.out))) : w.heap.size ≤ gb129)); clear HB; have HB := n0_; have BK129 := n1_; have GW129 := n2_; have GE129 := n3_; clear n0_ n1_ n2_ n3_; clear hb hbox hg) | ((with_reducible refine gate_callee (f := 35) rfl ?_); refine goesL_ (some 9) rfl rfl Try.func35 (by kernel_rfl) rfl #[.slice A0 l0.length c0] rfl (by (try simp only [List.map_toArray, List.map_cons, List.map_nil]); first | done | rfl | (simp only [List.length_drop, List.length_take]; rfl)) ?_; (with_reducible refine (plan_Check.calls k _ _ l0 t130 _ ?side1 ?side2 A3.out).mono ?_); (case side1 => repeat (first | exact (Kd.C_below HR0.out HB.out) | (with_reducible refine Kd.C_alloc ?_ _) | (with_reducible refine Kd.C_drewN ?_ _) | (with_reducible refine Kd.C_drew ?_))); (case side2 => exact HC0.out); rintro e w8 ⟨rfl, hb⟩; refine ⟨_, rfl, ?_⟩; have n0_ := Aside0.mk (blk_below (g := gb129) (o := .cells #[.int .i64 a1_0, .int .i64 a1_1, .int .i64 a1_2, .bool a1_3, .int .i64 a1_4, .bool a1_5, .int .i64 a1_6] 28 (0, 0)) (by (with_reducible repeat (first | apply bd1 | apply bd2 | apply bd3)); exact BK129.out) hb); have n1_ := Aside0.mk (below_step (by repeat (first | (with_reducible first | exact HB.out | apply below_alloc | apply pw_below_drewN | apply below_drew1 | refine below_set ?_ GE129.out) | exact HB.out)) hb); clear BK129; clear HB; have BK129 := n0_; have HB := n1_; clear n0_ n1_; (try clear hb); (try clear hb2); (try clear hk); (try clear hi); obtain ⟨hcz9_0, hcz9_1, hcz9_2, hcz9_3, hcz9_4, hcz9_5, hcz9_6, hfz9_0, hfz9_1, hfz9_2, hfz9_3, hfz9_4, hfz9_5, hfz9_6⟩ := blk_all7 BK129.out))
        have n0_ := Aside0.mk (blk_drew BK129.out)
        have n1_ := Aside0.mk (below_drew1 HB.out)
        clear BK129
        clear HB
        have BK129 := n0_
        have HB := n1_
        clear n0_ n1_
        refine start_ (n := 15) (S := fun w' => w'.cell? ⟨gb129, 0, none⟩ = some (.int .i64 a1_0) ∧ w'.cell? ⟨gb129, 1, none⟩ = some (.int .i64 a1_1) ∧ w'.cell? ⟨gb129, 2, none⟩ = some (.int .i64 a1_2) ∧ w'.cell? ⟨gb129, 3, none⟩ = some (.bool a1_3) ∧ w'.cell? ⟨gb129, 4, none⟩ = some (.int .i64 a1_4) ∧ w'.cell? ⟨gb129, 5, none⟩ = some (.bool a1_5) ∧ w'.cell? ⟨gb129, 6, none⟩ = some (.int .i64 a1_6)) (ds := []) #[false, false, false, false, false, false, false, false, false, false, false, false, false, false, false] (by kernel_rfl) rfl rfl ⟨(blk_cell BK129.out 0).trans rfl, (blk_cell BK129.out 1).trans rfl, (blk_cell BK129.out 2).trans rfl, (blk_cell BK129.out 3).trans rfl, (blk_cell BK129.out 4).trans rfl, (blk_cell BK129.out 5).trans rfl, (blk_cell BK129.out 6).trans rfl⟩ (fun hHeld => ?_); refine with_tabW saga_Check.tab5 saga_Check.bits5 (fun HT_ HW_ => ?_)
        generalize w8.drew = w10 at BK129 HB hHeld ⊢
        refine pure_ (i := 0) (N := some 16) (v := ?_) (a' := ?_) #[true, false, false, false, false, false, false, false, false, false, false, false, false, false, false] rfl rfl (any_of HT_.out (by kernel_rfl)) (fun _ _ _ h => h) (Or.inl ⟨by rfl, ?_⟩) ?_ ?_
        rotate_left
        · intro w'
          go_simp
          with_reducible rfl
        rotate_left
        · simp only [Act.put, List.setIfInBounds_toArray, List.set_cons_zero, List.set_cons_succ, i64_w, i32_w]
          rfl
        refine take_ (i := 1) (N := some 17) (v := ?_) (a' := ?_) #[true, true, false, false, false, false, false, false, false, false, false, false, false, false, false] rfl rfl (take_ofW HT_.out HW_.out (by kernel_rfl)) (fun _ _ _ h => h) (Or.inl ⟨by rfl, ?_⟩) hHeld ?_ ?_
        rotate_left
        · rintro w' ⟨s0, s1, s2, s3, s4, s5, s6⟩
          go_simp
          with_reducible rfl
        rotate_left
        · simp only [Act.put, List.setIfInBounds_toArray, List.set_cons_zero, List.set_cons_succ, i64_w, i32_w]
          rfl
        refine pure_ (i := 2) (N := some 18) (v := ?_) (a' := ?_) #[true, true, true, false, false, false, false, false, false, false, false, false, false, false, false] rfl rfl (any_of HT_.out (by kernel_rfl)) (fun _ _ _ h => h) (Or.inl ⟨by rfl, ?_⟩) ?_ ?_
        rotate_left
        · intro w'
          go_simp
          with_reducible rfl
        rotate_left
        · simp only [Act.put, List.setIfInBounds_toArray, List.set_cons_zero, List.set_cons_succ, i64_w, i32_w]
          rfl
        refine pure_ (i := 3) (N := some 19) (v := ?_) (a' := ?_) #[true, true, true, true, false, false, false, false, false, false, false, false, false, false, false] rfl rfl (any_of HT_.out (by kernel_rfl)) (fun _ _ _ h => h) (Or.inl ⟨by rfl, ?_⟩) ?_ ?_
        rotate_left
        · intro w'
          go_simp
          with_reducible rfl
        rotate_left
        · simp only [Act.put, List.setIfInBounds_toArray, List.set_cons_zero, List.set_cons_succ, i64_w, i32_w]
          rfl
        refine pure_ (i := 4) (N := some 20) (v := undef) (a' := ?_) #[true, true, true, true, true, false, false, false, false, false, false, false, false, false, false] rfl rfl (any_of HT_.out (by kernel_rfl)) (fun _ _ _ h => h) (Or.inr ⟨by rfl, rfl⟩) ?_ ?_
        rotate_left
        · simp only [Act.put, List.setIfInBounds_toArray, List.set_cons_zero, List.set_cons_succ, i64_w, i32_w]
          rfl
        refine pure_ (i := 5) (N := some 21) (v := undef) (a' := ?_) #[true, true, true, true, true, true, false, false, false, false, false, false, false, false, false] rfl rfl (any_of HT_.out (by kernel_rfl)) (fun _ _ _ h => h) (Or.inr ⟨by rfl, rfl⟩) ?_ ?_
        rotate_left
        · simp only [Act.put, List.setIfInBounds_toArray, List.set_cons_zero, List.set_cons_succ, i64_w, i32_w]
          rfl
        refine pure_ (i := 6) (N := some 22) (v := undef) (a' := ?_) #[true, true, true, true, true, true, true, false, false, false, false, false, false, false, false] rfl rfl (any_of HT_.out (by kernel_rfl)) (fun _ _ _ h => h) (Or.inr ⟨by rfl, rfl⟩) ?_ ?_
        rotate_left
        · simp only [Act.put, List.setIfInBounds_toArray, List.set_cons_zero, List.set_cons_succ, i64_w, i32_w]
          rfl
        refine pure_ (i := 7) (N := some 23) (v := ?_) (a' := ?_) #[true, true, true, true, true, true, true, true, false, false, false, false, false, false, false] rfl rfl (any_of HT_.out (by kernel_rfl)) (fun _ _ _ h => h) (Or.inl ⟨by rfl, ?_⟩) ?_ ?_
        rotate_left
        · intro w'
          go_simp
          with_reducible rfl
        rotate_left
        · simp only [Act.put, List.setIfInBounds_toArray, List.set_cons_zero, List.set_cons_succ, i64_w, i32_w]
          rfl
        refine pure_ (i := 8) (N := some 24) (v := ?_) (a' := ?_) #[true, true, true, true, true, true, true, true, true, false, false, false, false, false, false] rfl rfl (any_of HT_.out (by kernel_rfl)) (fun _ _ _ h => h) (Or.inl ⟨by rfl, ?_⟩) ?_ ?_
        rotate_left
        · intro w'
          go_simp
          with_reducible rfl
        rotate_left
        · simp only [Act.put, List.setIfInBounds_toArray, List.set_cons_zero, List.set_cons_succ, i64_w, i32_w]
          rfl
        refine pure_ (i := 9) (N := some 25) (v := undef) (a' := ?_) #[true, true, true, true, true, true, true, true, true, true, false, false, false, false, false] rfl rfl (any_of HT_.out (by kernel_rfl)) (fun _ _ _ h => h) (Or.inr ⟨by rfl, rfl⟩) ?_ ?_
        rotate_left
        · simp only [Act.put, List.setIfInBounds_toArray, List.set_cons_zero, List.set_cons_succ, i64_w, i32_w]
          rfl
        refine pure_ (i := 10) (N := some 26) (v := undef) (a' := ?_) #[true, true, true, true, true, true, true, true, true, true, true, false, false, false, false] rfl rfl (any_of HT_.out (by kernel_rfl)) (fun _ _ _ h => h) (Or.inr ⟨by rfl, rfl⟩) ?_ ?_
        rotate_left
        · simp only [Act.put, List.setIfInBounds_toArray, List.set_cons_zero, List.set_cons_succ, i64_w, i32_w]
          rfl
        refine pure_ (i := 11) (N := some 27) (v := undef) (a' := ?_) #[true, true, true, true, true, true, true, true, true, true, true, true, false, false, false] rfl rfl (any_of HT_.out (by kernel_rfl)) (fun _ _ _ h => h) (Or.inr ⟨by rfl, rfl⟩) ?_ ?_
        rotate_left
        · simp only [Act.put, List.setIfInBounds_toArray, List.set_cons_zero, List.set_cons_succ, i64_w, i32_w]
          rfl
        refine pure_ (i := 12) (N := some 28) (v := undef) (a' := ?_) #[true, true, true, true, true, true, true, true, true, true, true, true, true, false, false] rfl rfl (any_of HT_.out (by kernel_rfl)) (fun _ _ _ h => h) (Or.inr ⟨by rfl, rfl⟩) ?_ ?_
        rotate_left
        · simp only [Act.put, List.setIfInBounds_toArray, List.set_cons_zero, List.set_cons_succ, i64_w, i32_w]
          rfl
        refine pure_ (i := 13) (N := some 29) (v := undef) (a' := ?_) #[true, true, true, true, true, true, true, true, true, true, true, true, true, true, false] rfl rfl (any_of HT_.out (by kernel_rfl)) (fun _ _ _ h => h) (Or.inr ⟨by rfl, rfl⟩) ?_ ?_
        rotate_left
        · simp only [Act.put, List.setIfInBounds_toArray, List.set_cons_zero, List.set_cons_succ, i64_w, i32_w]
          rfl
        refine pure_ (i := 14) (N := some 30) (v := ?_) (a' := ?_) #[true, true, true, true, true, true, true, true, true, true, true, true, true, true, true] rfl rfl (any_of HT_.out (by kernel_rfl)) (fun _ _ _ h => h) (Or.inl ⟨by rfl, ?_⟩) ?_ ?_
        rotate_left
        · intro w'
          go_simp
          with_reducible rfl
        rotate_left
        · simp only [Act.put, List.setIfInBounds_toArray, List.set_cons_zero, List.set_cons_succ, i64_w, i32_w]
          rfl
        refine done_ (done_of HT_.out (by kernel_rfl)) ?_
        try go_wp2
        go_ret
        exact ⟨by first | rfl | (simp [errW_none, errW_some] <;> rfl) | (simp [*, errW_none, errW_some] <;> rfl), by repeat (first | (with_reducible first | exact HB.out | apply below_alloc | apply pw_below_drewN | apply below_drew1 | refine below_set ?_ GE129.out) | exact HB.out)⟩
      · rw [if_neg c6] at H
        have c6b0 : decide (a1_6 < 1) = false := decide_eq_false c6
        clear c6
        by_cases c11 : a1_6 > 3
        · rw [if_pos c11] at H
          have c11b0 : decide (3 < a1_6) = true := decide_eq_true c11
          clear c11
          obtain rfl := Option.some.inj H
          go_enter Try.func24, Try.ntmps24
          try go_wp2_with (first | ((with_reducible refine gate_dst (N := 3) rfl ?_); (try (refine gate_guard (by rfl) ?_; dsimp only)); refine box_event ?hg (N := 3) ?hd (cs := #[.int .i64 a1_0, .int .i64 a1_1, .int .i64 a1_2, .bool a1_3, .int .i64 a1_4, .bool a1_5, .int .i64 a1_6]) (t := 28) ?hr ?_; (case hd => rfl); (case hg => rfl); (case hr => first | (go_simp; done) | (go_simp; rfl)); intro gb129 hg w12 hbox hb; have n0_ := Aside0.mk (below_step (by repeat (first | (with_reducible first | exact HB.out | apply below_alloc | apply pw_below_drewN | apply below_drew1) | exact HB.out)) hb); have n1_ := Aside0.mk (hbox); have n2_ := Aside0.mk ((by rw [hg]; exact (below_size (by repeat (first | (with_reducible first | exact HB.out | apply below_alloc | apply pw_below_drewN | apply below_drew1) | exact HB.out))) : w.heap.size ≤ gb129)); have n3_ := Aside0.mk ((by rw [hg]; exact (below_size (by repeat (first | (with_reducible first | exact HB.out | apply below_alloc | apply pw_below_drewN | apply below_drew1) | exact HB.out))) : w.heap.size ≤ gb129)); clear HB; have HB := n0_; have BK129 := n1_; have GW129 := n2_; have GE129 := n3_; clear n0_ n1_ n2_ n3_; clear hb hbox hg) | ((with_reducible refine gate_callee (f := 35) rfl ?_); refine goesL_ (some 9) rfl rfl Try.func35 (by kernel_rfl) rfl #[.slice A0 l0.length c0] rfl (by (try simp only [List.map_toArray, List.map_cons, List.map_nil]); first | done | rfl | (simp only [List.length_drop, List.length_take]; rfl)) ?_; (with_reducible refine (plan_Check.calls k _ _ l0 t130 _ ?side1 ?side2 A3.out).mono ?_); (case side1 => repeat (first | exact (Kd.C_below HR0.out HB.out) | (with_reducible refine Kd.C_alloc ?_ _) | (with_reducible refine Kd.C_drewN ?_ _) | (with_reducible refine Kd.C_drew ?_))); (case side2 => exact HC0.out); rintro e w13 ⟨rfl, hb⟩; refine ⟨_, rfl, ?_⟩; have n0_ := Aside0.mk (blk_below (g := gb129) (o := .cells #[.int .i64 a1_0, .int .i64 a1_1, .int .i64 a1_2, .bool a1_3, .int .i64 a1_4, .bool a1_5, .int .i64 a1_6] 28 (0, 0)) (by (with_reducible repeat (first | apply bd1 | apply bd2 | apply bd3)); exact BK129.out) hb); have n1_ := Aside0.mk (below_step (by repeat (first | (with_reducible first | exact HB.out | apply below_alloc | apply pw_below_drewN | apply below_drew1 | refine below_set ?_ GE129.out) | exact HB.out)) hb); clear BK129; clear HB; have BK129 := n0_; have HB := n1_; clear n0_ n1_; (try clear hb); (try clear hb2); (try clear hk); (try clear hi); obtain ⟨hcz14_0, hcz14_1, hcz14_2, hcz14_3, hcz14_4, hcz14_5, hcz14_6, hfz14_0, hfz14_1, hfz14_2, hfz14_3, hfz14_4, hfz14_5, hfz14_6⟩ := blk_all7 BK129.out))
          have n0_ := Aside0.mk (blk_drew BK129.out)
          have n1_ := Aside0.mk (below_drew1 HB.out)
          clear BK129
          clear HB
          have BK129 := n0_
          have HB := n1_
          clear n0_ n1_
          refine start_ (n := 15) (S := fun w' => w'.cell? ⟨gb129, 0, none⟩ = some (.int .i64 a1_0) ∧ w'.cell? ⟨gb129, 1, none⟩ = some (.int .i64 a1_1) ∧ w'.cell? ⟨gb129, 2, none⟩ = some (.int .i64 a1_2) ∧ w'.cell? ⟨gb129, 3, none⟩ = some (.bool a1_3) ∧ w'.cell? ⟨gb129, 4, none⟩ = some (.int .i64 a1_4) ∧ w'.cell? ⟨gb129, 5, none⟩ = some (.bool a1_5) ∧ w'.cell? ⟨gb129, 6, none⟩ = some (.int .i64 a1_6)) (ds := []) #[false, false, false, false, false, false, false, false, false, false, false, false, false, false, false] (by kernel_rfl) rfl rfl ⟨(blk_cell BK129.out 0).trans rfl, (blk_cell BK129.out 1).trans rfl, (blk_cell BK129.out 2).trans rfl, (blk_cell BK129.out 3).trans rfl, (blk_cell BK129.out 4).trans rfl, (blk_cell BK129.out 5).trans rfl, (blk_cell BK129.out 6).trans rfl⟩ (fun hHeld => ?_); refine with_tabW saga_Check.tab5 saga_Check.bits5 (fun HT_ HW_ => ?_)
          generalize w13.drew = w15 at BK129 HB hHeld ⊢
          refine pure_ (i := 0) (N := some 16) (v := ?_) (a' := ?_) #[true, false, false, false, false, false, false, false, false, false, false, false, false, false, false] rfl rfl (any_of HT_.out (by kernel_rfl)) (fun _ _ _ h => h) (Or.inl ⟨by rfl, ?_⟩) ?_ ?_
          rotate_left
          · intro w'
            go_simp
            with_reducible rfl
          rotate_left
          · simp only [Act.put, List.setIfInBounds_toArray, List.set_cons_zero, List.set_cons_succ, i64_w, i32_w]
            rfl
          refine take_ (i := 1) (N := some 17) (v := ?_) (a' := ?_) #[true, true, false, false, false, false, false, false, false, false, false, false, false, false, false] rfl rfl (take_ofW HT_.out HW_.out (by kernel_rfl)) (fun _ _ _ h => h) (Or.inl ⟨by rfl, ?_⟩) hHeld ?_ ?_
          rotate_left
          · rintro w' ⟨s0, s1, s2, s3, s4, s5, s6⟩
            go_simp
            with_reducible rfl
          rotate_left
          · simp only [Act.put, List.setIfInBounds_toArray, List.set_cons_zero, List.set_cons_succ, i64_w, i32_w]
            rfl
          refine pure_ (i := 2) (N := some 18) (v := ?_) (a' := ?_) #[true, true, true, false, false, false, false, false, false, false, false, false, false, false, false] rfl rfl (any_of HT_.out (by kernel_rfl)) (fun _ _ _ h => h) (Or.inl ⟨by rfl, ?_⟩) ?_ ?_
          rotate_left
          · intro w'
            go_simp
            with_reducible rfl
          rotate_left
          · simp only [Act.put, List.setIfInBounds_toArray, List.set_cons_zero, List.set_cons_succ, i64_w, i32_w]
            rfl
          refine pure_ (i := 3) (N := some 19) (v := ?_) (a' := ?_) #[true, true, true, true, false, false, false, false, false, false, false, false, false, false, false] rfl rfl (any_of HT_.out (by kernel_rfl)) (fun _ _ _ h => h) (Or.inl ⟨by rfl, ?_⟩) ?_ ?_
          rotate_left
          · intro w'
            go_simp
            with_reducible rfl
          rotate_left
          · simp only [Act.put, List.setIfInBounds_toArray, List.set_cons_zero, List.set_cons_succ, i64_w, i32_w]
            rfl
          refine pure_ (i := 4) (N := some 20) (v := ?_) (a' := ?_) #[true, true, true, true, true, false, false, false, false, false, false, false, false, false, false] rfl rfl (any_of HT_.out (by kernel_rfl)) (fun _ _ _ h => h) (Or.inl ⟨by rfl, ?_⟩) ?_ ?_
          rotate_left
          · intro w'
            go_simp
            with_reducible rfl
          rotate_left
          · simp only [Act.put, List.setIfInBounds_toArray, List.set_cons_zero, List.set_cons_succ, i64_w, i32_w]
            rfl
          refine take_ (i := 5) (N := some 21) (v := ?_) (a' := ?_) #[true, true, true, true, true, true, false, false, false, false, false, false, false, false, false] rfl rfl (take_ofW HT_.out HW_.out (by kernel_rfl)) (fun _ _ _ h => h) (Or.inl ⟨by rfl, ?_⟩) hHeld ?_ ?_
          rotate_left
          · rintro w' ⟨s0, s1, s2, s3, s4, s5, s6⟩
            go_simp
            with_reducible rfl
          rotate_left
          · simp only [Act.put, List.setIfInBounds_toArray, List.set_cons_zero, List.set_cons_succ, i64_w, i32_w]
            rfl
          refine pure_ (i := 6) (N := some 22) (v := ?_) (a' := ?_) #[true, true, true, true, true, true, true, false, false, false, false, false, false, false, false] rfl rfl (any_of HT_.out (by kernel_rfl)) (fun _ _ _ h => h) (Or.inl ⟨by rfl, ?_⟩) ?_ ?_
          rotate_left
          · intro w'
            go_simp
            with_reducible rfl
          rotate_left
          · simp only [Act.put, List.setIfInBounds_toArray, List.set_cons_zero, List.set_cons_succ, i64_w, i32_w]
            rfl
          refine pure_ (i := 7) (N := some 23) (v := ?_) (a' := ?_) #[true, true, true, true, true, true, true, true, false, false, false, false, false, false, false] rfl rfl (any_of HT_.out (by kernel_rfl)) (fun _ _ _ h => h) (Or.inl ⟨by rfl, ?_⟩) ?_ ?_
          rotate_left
          · intro w'
            go_simp
            with_reducible rfl
          rotate_left
          · simp only [Act.put, List.setIfInBounds_toArray, List.set_cons_zero, List.set_cons_succ, i64_w, i32_w]
            rfl
          refine pure_ (i := 8) (N := some 24) (v := ?_) (a' := ?_) #[true, true, true, true, true, true, true, true, true, false, false, false, false, false, false] rfl rfl (any_of HT_.out (by kernel_rfl)) (fun _ _ _ h => h) (Or.inl ⟨by rfl, ?_⟩) ?_ ?_
          rotate_left
          · intro w'
            go_simp
            with_reducible rfl
          rotate_left
          · simp only [Act.put, List.setIfInBounds_toArray, List.set_cons_zero, List.set_cons_succ, i64_w, i32_w]
            rfl
          refine pure_ (i := 9) (N := some 25) (v := undef) (a' := ?_) #[true, true, true, true, true, true, true, true, true, true, false, false, false, false, false] rfl rfl (any_of HT_.out (by kernel_rfl)) (fun _ _ _ h => h) (Or.inr ⟨by rfl, rfl⟩) ?_ ?_
          rotate_left
          · simp only [Act.put, List.setIfInBounds_toArray, List.set_cons_zero, List.set_cons_succ, i64_w, i32_w]
            rfl
          refine pure_ (i := 10) (N := some 26) (v := undef) (a' := ?_) #[true, true, true, true, true, true, true, true, true, true, true, false, false, false, false] rfl rfl (any_of HT_.out (by kernel_rfl)) (fun _ _ _ h => h) (Or.inr ⟨by rfl, rfl⟩) ?_ ?_
          rotate_left
          · simp only [Act.put, List.setIfInBounds_toArray, List.set_cons_zero, List.set_cons_succ, i64_w, i32_w]
            rfl
          refine pure_ (i := 11) (N := some 27) (v := undef) (a' := ?_) #[true, true, true, true, true, true, true, true, true, true, true, true, false, false, false] rfl rfl (any_of HT_.out (by kernel_rfl)) (fun _ _ _ h => h) (Or.inr ⟨by rfl, rfl⟩) ?_ ?_
          rotate_left
          · simp only [Act.put, List.setIfInBounds_toArray, List.set_cons_zero, List.set_cons_succ, i64_w, i32_w]
            rfl
          refine pure_ (i := 12) (N := some 28) (v := undef) (a' := ?_) #[true, true, true, true, true, true, true, true, true, true, true, true, true, false, false] rfl rfl (any_of HT_.out (by kernel_rfl)) (fun _ _ _ h => h) (Or.inr ⟨by rfl, rfl⟩) ?_ ?_
          rotate_left
          · simp only [Act.put, List.setIfInBounds_toArray, List.set_cons_zero, List.set_cons_succ, i64_w, i32_w]
            rfl
          refine pure_ (i := 13) (N := some 29) (v := undef) (a' := ?_) #[true, true, true, true, true, true, true, true, true, true, true, true, true, true, false] rfl rfl (any_of HT_.out (by kernel_rfl)) (fun _ _ _ h => h) (Or.inr ⟨by rfl, rfl⟩) ?_ ?_
          rotate_left
          · simp only [Act.put, List.setIfInBounds_toArray, List.set_cons_zero, List.set_cons_succ, i64_w, i32_w]
            rfl
          refine pure_ (i := 14) (N := some 30) (v := ?_) (a' := ?_) #[true, true, true, true, true, true, true, true, true, true, true, true, true, true, true] rfl rfl (any_of HT_.out (by kernel_rfl)) (fun _ _ _ h => h) (Or.inl ⟨by rfl, ?_⟩) ?_ ?_
          rotate_left
          · intro w'
            go_simp
            with_reducible rfl
          rotate_left
          · simp only [Act.put, List.setIfInBounds_toArray, List.set_cons_zero, List.set_cons_succ, i64_w, i32_w]
            rfl
          refine done_ (done_of HT_.out (by kernel_rfl)) ?_
          try go_wp2
          go_ret
          exact ⟨by first | rfl | (simp [errW_none, errW_some] <;> rfl) | (simp [*, errW_none, errW_some] <;> rfl), by repeat (first | (with_reducible first | exact HB.out | apply below_alloc | apply pw_below_drewN | apply below_drew1 | refine below_set ?_ GE129.out) | exact HB.out)⟩
        · rw [if_neg c11] at H
          have c11b0 : decide (3 < a1_6) = false := decide_eq_false c11
          clear c11
          replace H := Option.bind_eq_some_iff.mp H
          obtain ⟨⟨t131, t132, t133, t134, t135, t136, t137⟩, A160, H⟩ := H
          replace H : (if (!(a1_0 == t131) || (!(a1_1 == t132) || (!(a1_2 == t133) || (!(a1_3 == t134) || (!(a1_4 == t135) || (!(a1_5 == t136) || (!(a1_6 == t137)))))))) = true then (some 140) else (some 0)) = some r := H
          have A16 := Aside0.mk A160
          clear A160
          by_cases c17 : (!(a1_0 == t131) || (!(a1_1 == t132) || (!(a1_2 == t133) || (!(a1_3 == t134) || (!(a1_4 == t135) || (!(a1_5 == t136) || (!(a1_6 == t137)))))))) = true
          · rw [if_pos c17] at H
            have c17b0 : (!(a1_0 == t131) || (!(a1_1 == t132) || (!(a1_2 == t133) || (!(a1_3 == t134) || (!(a1_4 == t135) || (!(a1_5 == t136) || (!(a1_6 == t137)))))))) = true := c17
            clear c17
            obtain rfl := Option.some.inj H
            go_enter Try.func24, Try.ntmps24
            try go_wp2_with (first | ((with_reducible refine gate_dst (N := 3) rfl ?_); (try (refine gate_guard (by rfl) ?_; dsimp only)); refine box_event ?hg (N := 3) ?hd (cs := #[.int .i64 a1_0, .int .i64 a1_1, .int .i64 a1_2, .bool a1_3, .int .i64 a1_4, .bool a1_5, .int .i64 a1_6]) (t := 28) ?hr ?_; (case hd => rfl); (case hg => rfl); (case hr => first | (go_simp; done) | (go_simp; rfl)); intro gb129 hg w18 hbox hb; have n0_ := Aside0.mk (below_step (by repeat (first | (with_reducible first | exact HB.out | apply below_alloc | apply pw_below_drewN | apply below_drew1) | exact HB.out)) hb); have n1_ := Aside0.mk (hbox); have n2_ := Aside0.mk ((by rw [hg]; exact (below_size (by repeat (first | (with_reducible first | exact HB.out | apply below_alloc | apply pw_below_drewN | apply below_drew1) | exact HB.out))) : w.heap.size ≤ gb129)); have n3_ := Aside0.mk ((by rw [hg]; exact (below_size (by repeat (first | (with_reducible first | exact HB.out | apply below_alloc | apply pw_below_drewN | apply below_drew1) | exact HB.out))) : w.heap.size ≤ gb129)); clear HB; have HB := n0_; have BK129 := n1_; have GW129 := n2_; have GE129 := n3_; clear n0_ n1_ n2_ n3_; clear hb hbox hg) | ((with_reducible refine gate_callee (f := 35) rfl ?_); refine goesL_ (some 9) rfl rfl Try.func35 (by kernel_rfl) rfl #[.slice A0 l0.length c0] rfl (by (try simp only [List.map_toArray, List.map_cons, List.map_nil]); first | done | rfl | (simp only [List.length_drop, List.length_take]; rfl)) ?_; (with_reducible refine (plan_Check.calls k _ _ l0 t130 _ ?side1 ?side2 A3.out).mono ?_); (case side1 => repeat (first | exact (Kd.C_below HR0.out HB.out) | (with_reducible refine Kd.C_alloc ?_ _) | (with_reducible refine Kd.C_drewN ?_ _) | (with_reducible refine Kd.C_drew ?_))); (case side2 => exact HC0.out); rintro e w19 ⟨rfl, hb⟩; refine ⟨_, rfl, ?_⟩; have n0_ := Aside0.mk (blk_below (g := gb129) (o := .cells #[.int .i64 a1_0, .int .i64 a1_1, .int .i64 a1_2, .bool a1_3, .int .i64 a1_4, .bool a1_5, .int .i64 a1_6] 28 (0, 0)) (by (with_reducible repeat (first | apply bd1 | apply bd2 | apply bd3)); exact BK129.out) hb); have n1_ := Aside0.mk (below_step (by repeat (first | (with_reducible first | exact HB.out | apply below_alloc | apply pw_below_drewN | apply below_drew1 | refine below_set ?_ GE129.out) | exact HB.out)) hb); clear BK129; clear HB; have BK129 := n0_; have HB := n1_; clear n0_ n1_; (try clear hb); (try clear hb2); (try clear hk); (try clear hi); obtain ⟨hcz20_0, hcz20_1, hcz20_2, hcz20_3, hcz20_4, hcz20_5, hcz20_6, hfz20_0, hfz20_1, hfz20_2, hfz20_3, hfz20_4, hfz20_5, hfz20_6⟩ := blk_all7 BK129.out))
            have n0_ := Aside0.mk (blk_drew BK129.out)
            have n1_ := Aside0.mk (below_drew1 HB.out)
            clear BK129
            clear HB
            have BK129 := n0_
            have HB := n1_
            clear n0_ n1_
            refine start_ (n := 15) (S := fun w' => w'.cell? ⟨gb129, 0, none⟩ = some (.int .i64 a1_0) ∧ w'.cell? ⟨gb129, 1, none⟩ = some (.int .i64 a1_1) ∧ w'.cell? ⟨gb129, 2, none⟩ = some (.int .i64 a1_2) ∧ w'.cell? ⟨gb129, 3, none⟩ = some (.bool a1_3) ∧ w'.cell? ⟨gb129, 4, none⟩ = some (.int .i64 a1_4) ∧ w'.cell? ⟨gb129, 5, none⟩ = some (.bool a1_5) ∧ w'.cell? ⟨gb129, 6, none⟩ = some (.int .i64 a1_6)) (ds := []) #[false, false, false, false, false, false, false, false, false, false, false, false, false, false, false] (by kernel_rfl) rfl rfl ⟨(blk_cell BK129.out 0).trans rfl, (blk_cell BK129.out 1).trans rfl, (blk_cell BK129.out 2).trans rfl, (blk_cell BK129.out 3).trans rfl, (blk_cell BK129.out 4).trans rfl, (blk_cell BK129.out 5).trans rfl, (blk_cell BK129.out 6).trans rfl⟩ (fun hHeld => ?_); refine with_tabW saga_Check.tab5 saga_Check.bits5 (fun HT_ HW_ => ?_)
            generalize w19.drew = w21 at BK129 HB hHeld ⊢
            refine pure_ (i := 0) (N := some 16) (v := ?_) (a' := ?_) #[true, false, false, false, false, false, false, false, false, false, false, false, false, false, false] rfl rfl (any_of HT_.out (by kernel_rfl)) (fun _ _ _ h => h) (Or.inl ⟨by rfl, ?_⟩) ?_ ?_
            rotate_left
            · intro w'
              go_simp
              with_reducible rfl
            rotate_left
            · simp only [Act.put, List.setIfInBounds_toArray, List.set_cons_zero, List.set_cons_succ, i64_w, i32_w]
              rfl
            refine take_ (i := 1) (N := some 17) (v := ?_) (a' := ?_) #[true, true, false, false, false, false, false, false, false, false, false, false, false, false, false] rfl rfl (take_ofW HT_.out HW_.out (by kernel_rfl)) (fun _ _ _ h => h) (Or.inl ⟨by rfl, ?_⟩) hHeld ?_ ?_
            rotate_left
            · rintro w' ⟨s0, s1, s2, s3, s4, s5, s6⟩
              go_simp
              with_reducible rfl
            rotate_left
            · simp only [Act.put, List.setIfInBounds_toArray, List.set_cons_zero, List.set_cons_succ, i64_w, i32_w]
              rfl
            refine pure_ (i := 2) (N := some 18) (v := ?_) (a' := ?_) #[true, true, true, false, false, false, false, false, false, false, false, false, false, false, false] rfl rfl (any_of HT_.out (by kernel_rfl)) (fun _ _ _ h => h) (Or.inl ⟨by rfl, ?_⟩) ?_ ?_
            rotate_left
            · intro w'
              go_simp
              with_reducible rfl
            rotate_left
            · simp only [Act.put, List.setIfInBounds_toArray, List.set_cons_zero, List.set_cons_succ, i64_w, i32_w]
              rfl
            refine pure_ (i := 3) (N := some 19) (v := ?_) (a' := ?_) #[true, true, true, true, false, false, false, false, false, false, false, false, false, false, false] rfl rfl (any_of HT_.out (by kernel_rfl)) (fun _ _ _ h => h) (Or.inl ⟨by rfl, ?_⟩) ?_ ?_
            rotate_left
            · intro w'
              go_simp
              with_reducible rfl
            rotate_left
            · simp only [Act.put, List.setIfInBounds_toArray, List.set_cons_zero, List.set_cons_succ, i64_w, i32_w]
              rfl
            refine pure_ (i := 4) (N := some 20) (v := ?_) (a' := ?_) #[true, true, true, true, true, false, false, false, false, false, false, false, false, false, false] rfl rfl (any_of HT_.out (by kernel_rfl)) (fun _ _ _ h => h) (Or.inl ⟨by rfl, ?_⟩) ?_ ?_
            rotate_left
            · intro w'
              go_simp
              with_reducible rfl
            rotate_left
            · simp only [Act.put, List.setIfInBounds_toArray, List.set_cons_zero, List.set_cons_succ, i64_w, i32_w]
              rfl
            refine take_ (i := 5) (N := some 21) (v := ?_) (a' := ?_) #[true, true, true, true, true, true, false, false, false, false, false, false, false, false, false] rfl rfl (take_ofW HT_.out HW_.out (by kernel_rfl)) (fun _ _ _ h => h) (Or.inl ⟨by rfl, ?_⟩) hHeld ?_ ?_
            rotate_left
            · rintro w' ⟨s0, s1, s2, s3, s4, s5, s6⟩
              go_simp
              with_reducible rfl
            rotate_left
            · simp only [Act.put, List.setIfInBounds_toArray, List.set_cons_zero, List.set_cons_succ, i64_w, i32_w]
              rfl
            refine pure_ (i := 6) (N := some 22) (v := ?_) (a' := ?_) #[true, true, true, true, true, true, true, false, false, false, false, false, false, false, false] rfl rfl (any_of HT_.out (by kernel_rfl)) (fun _ _ _ h => h) (Or.inl ⟨by rfl, ?_⟩) ?_ ?_
            rotate_left
            · intro w'
              go_simp
              with_reducible rfl
            rotate_left
            · simp only [Act.put, List.setIfInBounds_toArray, List.set_cons_zero, List.set_cons_succ, i64_w, i32_w]
              rfl
            refine pure_ (i := 7) (N := some 23) (v := ?_) (a' := ?_) #[true, true, true, true, true, true, true, true, false, false, false, false, false, false, false] rfl rfl (any_of HT_.out (by kernel_rfl)) (fun _ _ _ h => h) (Or.inl ⟨by rfl, ?_⟩) ?_ ?_
            rotate_left
            · intro w'
              go_simp
              with_reducible rfl
            rotate_left
            · simp only [Act.put, List.setIfInBounds_toArray, List.set_cons_zero, List.set_cons_succ, i64_w, i32_w]
              rfl
            refine pure_ (i := 8) (N := some 24) (v := ?_) (a' := ?_) #[true, true, true, true, true, true, true, true, true, false, false, false, false, false, false] rfl rfl (any_of HT_.out (by kernel_rfl)) (fun _ _ _ h => h) (Or.inl ⟨by rfl, ?_⟩) ?_ ?_
            rotate_left
            · intro w'
              go_simp
              with_reducible rfl
            rotate_left
            · simp only [Act.put, List.setIfInBounds_toArray, List.set_cons_zero, List.set_cons_succ, i64_w, i32_w]
              rfl
            refine pure_ (i := 10) (N := some 26) (v := ?_) (a' := ?_) #[true, true, true, true, true, true, true, true, true, false, true, false, false, false, false] rfl rfl (any_of HT_.out (by kernel_rfl)) (fun _ _ _ h => h) (Or.inl ⟨by rfl, ?_⟩) ?_ ?_
            rotate_left
            · intro w'
              go_simp
              with_reducible rfl
            rotate_left
            · simp only [Act.put, List.setIfInBounds_toArray, List.set_cons_zero, List.set_cons_succ, i64_w, i32_w]
              rfl
            refine take_ (i := 9) (N := some 25) (v := ?_) (a' := ?_) #[true, true, true, true, true, true, true, true, true, true, true, false, false, false, false] rfl rfl (take_ofW HT_.out HW_.out (by kernel_rfl)) (fun _ _ _ h => h) (Or.inl ⟨by rfl, ?_⟩) hHeld ?_ ?_
            rotate_left
            · rintro w' ⟨s0, s1, s2, s3, s4, s5, s6⟩
              go_simp
              with_reducible rfl
            rotate_left
            · simp only [Act.put, List.setIfInBounds_toArray, List.set_cons_zero, List.set_cons_succ, i64_w, i32_w]
              rfl
            refine take_ (i := 11) (N := some 27) (v := ?_) (a' := ?_) #[true, true, true, true, true, true, true, true, true, true, true, true, false, false, false] rfl rfl (take_ofW HT_.out HW_.out (by kernel_rfl)) (fun _ _ _ h => h) (Or.inl ⟨by rfl, ?_⟩) hHeld ?_ ?_
            rotate_left
            · rintro w' ⟨s0, s1, s2, s3, s4, s5, s6⟩
              go_simp
              with_reducible rfl
            rotate_left
            · simp only [Act.put, List.setIfInBounds_toArray, List.set_cons_zero, List.set_cons_succ, i64_w, i32_w]
              rfl
            refine one_ (i := 12) (N := some 28) #[true, true, true, true, true, true, true, true, true, true, true, true, true, false, false] rfl rfl (one_of HT_.out (by kernel_rfl)) (by decide) (fun K hK => ?_)
            refine goes_ Try.func36 (by kernel_rfl) rfl #[.int .i64 a1_6] (by rfl) rfl rfl (by (try simp only [List.map_toArray, List.map_cons, List.map_nil]); first | done | rfl | (simp only [List.length_drop, List.length_take]; rfl)) ?_
            with_reducible refine (saga_over.calls a1_6 t131 t132 t133 t134 t135 t136 t137 _ A16.out).mono ?_
            rintro e w22 ⟨rfl, hb⟩
            refine ⟨_, rfl, ?_⟩
            have n0_ := Aside0.mk (blk_below (g := gb129) (o := .cells #[.int .i64 a1_0, .int .i64 a1_1, .int .i64 a1_2, .bool a1_3, .int .i64 a1_4, .bool a1_5, .int .i64 a1_6] 28 (0, 0)) (by (with_reducible repeat (first | apply bd1 | apply bd2 | apply bd3)); exact BK129.out) hb)
            have n1_ := Aside0.mk (below_step (by repeat (first | (with_reducible first | exact HB.out | apply below_alloc | apply pw_below_drewN | apply below_drew1 | refine below_set ?_ GE129.out) | exact HB.out)) hb)
            clear BK129
            clear HB
            have BK129 := n0_
            have HB := n1_
            clear n0_ n1_
            (try clear hb)
            (try clear hb2)
            (try clear hk)
            (try clear hi)
            refine hK.out _ _ ⟨(blk_cell BK129.out 0).trans rfl, (blk_cell BK129.out 1).trans rfl, (blk_cell BK129.out 2).trans rfl, (blk_cell BK129.out 3).trans rfl, (blk_cell BK129.out 4).trans rfl, (blk_cell BK129.out 5).trans rfl, (blk_cell BK129.out 6).trans rfl⟩ (fun hHeld => ?_)
            clear hK K
            refine norm_ (a' := ?_) ?_ ?_
            rotate_left
            · show Act.put _ (some 28) _ = _
              simp only [Act.put, List.setIfInBounds_toArray, List.set_cons_zero, List.set_cons_succ, i64_w, i32_w]
              rfl
            refine pure_ (i := 13) (N := some 29) (v := ?_) (a' := ?_) #[true, true, true, true, true, true, true, true, true, true, true, true, true, true, false] rfl rfl (any_of HT_.out (by kernel_rfl)) (fun _ _ _ h => h) (Or.inl ⟨by rfl, ?_⟩) ?_ ?_
            rotate_left
            · intro w'
              go_simp
              with_reducible rfl
            rotate_left
            · simp only [Act.put, List.setIfInBounds_toArray, List.set_cons_zero, List.set_cons_succ, i64_w, i32_w]
              rfl
            refine pure_ (i := 14) (N := some 30) (v := ?_) (a' := ?_) #[true, true, true, true, true, true, true, true, true, true, true, true, true, true, true] rfl rfl (any_of HT_.out (by kernel_rfl)) (fun _ _ _ h => h) (Or.inl ⟨by rfl, ?_⟩) ?_ ?_
            rotate_left
            · intro w'
              go_simp
              with_reducible rfl
            rotate_left
            · simp only [Act.put, List.setIfInBounds_toArray, List.set_cons_zero, List.set_cons_succ, i64_w, i32_w]
              rfl
            refine done_ (done_of HT_.out (by kernel_rfl)) ?_
            try go_wp2
            go_ret
            exact ⟨by first | rfl | (simp [errW_none, errW_some] <;> rfl) | (simp [*, errW_none, errW_some] <;> rfl), by repeat (first | (with_reducible first | exact HB.out | apply below_alloc | apply pw_below_drewN | apply below_drew1 | refine below_set ?_ GE129.out) | exact HB.out)⟩
          · rw [if_neg c17] at H
            have c17b0 : (!(a1_0 == t131) || (!(a1_1 == t132) || (!(a1_2 == t133) || (!(a1_3 == t134) || (!(a1_4 == t135) || (!(a1_5 == t136) || (!(a1_6 == t137)))))))) = false := by simpa using c17
            clear c17
            obtain rfl := Option.some.inj H
            go_enter Try.func24, Try.ntmps24
            try go_wp2_with (first | ((with_reducible refine gate_dst (N := 3) rfl ?_); (try (refine gate_guard (by rfl) ?_; dsimp only)); refine box_event ?hg (N := 3) ?hd (cs := #[.int .i64 a1_0, .int .i64 a1_1, .int .i64 a1_2, .bool a1_3, .int .i64 a1_4, .bool a1_5, .int .i64 a1_6]) (t := 28) ?hr ?_; (case hd => rfl); (case hg => rfl); (case hr => first | (go_simp; done) | (go_simp; rfl)); intro gb129 hg w23 hbox hb; have n0_ := Aside0.mk (below_step (by repeat (first | (with_reducible first | exact HB.out | apply below_alloc | apply pw_below_drewN | apply below_drew1) | exact HB.out)) hb); have n1_ := Aside0.mk (hbox); have n2_ := Aside0.mk ((by rw [hg]; exact (below_size (by repeat (first | (with_reducible first | exact HB.out | apply below_alloc | apply pw_below_drewN | apply below_drew1) | exact HB.out))) : w.heap.size ≤ gb129)); have n3_ := Aside0.mk ((by rw [hg]; exact (below_size (by repeat (first | (with_reducible first | exact HB.out | apply below_alloc | apply pw_below_drewN | apply below_drew1) | exact HB.out))) : w.heap.size ≤ gb129)); clear HB; have HB := n0_; have BK129 := n1_; have GW129 := n2_; have GE129 := n3_; clear n0_ n1_ n2_ n3_; clear hb hbox hg) | ((with_reducible refine gate_callee (f := 35) rfl ?_); refine goesL_ (some 9) rfl rfl Try.func35 (by kernel_rfl) rfl #[.slice A0 l0.length c0] rfl (by (try simp only [List.map_toArray, List.map_cons, List.map_nil]); first | done | rfl | (simp only [List.length_drop, List.length_take]; rfl)) ?_; (with_reducible refine (plan_Check.calls k _ _ l0 t130 _ ?side1 ?side2 A3.out).mono ?_); (case side1 => repeat (first | exact (Kd.C_below HR0.out HB.out) | (with_reducible refine Kd.C_alloc ?_ _) | (with_reducible refine Kd.C_drewN ?_ _) | (with_reducible refine Kd.C_drew ?_))); (case side2 => exact HC0.out); rintro e w24 ⟨rfl, hb⟩; refine ⟨_, rfl, ?_⟩; have n0_ := Aside0.mk (blk_below (g := gb129) (o := .cells #[.int .i64 a1_0, .int .i64 a1_1, .int .i64 a1_2, .bool a1_3, .int .i64 a1_4, .bool a1_5, .int .i64 a1_6] 28 (0, 0)) (by (with_reducible repeat (first | apply bd1 | apply bd2 | apply bd3)); exact BK129.out) hb); have n1_ := Aside0.mk (below_step (by repeat (first | (with_reducible first | exact HB.out | apply below_alloc | apply pw_below_drewN | apply below_drew1 | refine below_set ?_ GE129.out) | exact HB.out)) hb); clear BK129; clear HB; have BK129 := n0_; have HB := n1_; clear n0_ n1_; (try clear hb); (try clear hb2); (try clear hk); (try clear hi); obtain ⟨hcz25_0, hcz25_1, hcz25_2, hcz25_3, hcz25_4, hcz25_5, hcz25_6, hfz25_0, hfz25_1, hfz25_2, hfz25_3, hfz25_4, hfz25_5, hfz25_6⟩ := blk_all7 BK129.out))
            have n0_ := Aside0.mk (blk_drew BK129.out)
            have n1_ := Aside0.mk (below_drew1 HB.out)
            clear BK129
            clear HB
            have BK129 := n0_
            have HB := n1_
            clear n0_ n1_
            refine start_ (n := 15) (S := fun w' => w'.cell? ⟨gb129, 0, none⟩ = some (.int .i64 a1_0) ∧ w'.cell? ⟨gb129, 1, none⟩ = some (.int .i64 a1_1) ∧ w'.cell? ⟨gb129, 2, none⟩ = some (.int .i64 a1_2) ∧ w'.cell? ⟨gb129, 3, none⟩ = some (.bool a1_3) ∧ w'.cell? ⟨gb129, 4, none⟩ = some (.int .i64 a1_4) ∧ w'.cell? ⟨gb129, 5, none⟩ = some (.bool a1_5) ∧ w'.cell? ⟨gb129, 6, none⟩ = some (.int .i64 a1_6)) (ds := []) #[false, false, false, false, false, false, false, false, false, false, false, false, false, false, false] (by kernel_rfl) rfl rfl ⟨(blk_cell BK129.out 0).trans rfl, (blk_cell BK129.out 1).trans rfl, (blk_cell BK129.out 2).trans rfl, (blk_cell BK129.out 3).trans rfl, (blk_cell BK129.out 4).trans rfl, (blk_cell BK129.out 5).trans rfl, (blk_cell BK129.out 6).trans rfl⟩ (fun hHeld => ?_); refine with_tabW saga_Check.tab5 saga_Check.bits5 (fun HT_ HW_ => ?_)
            generalize w24.drew = w26 at BK129 HB hHeld ⊢
            refine pure_ (i := 0) (N := some 16) (v := ?_) (a' := ?_) #[true, false, false, false, false, false, false, false, false, false, false, false, false, false, false] rfl rfl (any_of HT_.out (by kernel_rfl)) (fun _ _ _ h => h) (Or.inl ⟨by rfl, ?_⟩) ?_ ?_
            rotate_left
            · intro w'
              go_simp
              with_reducible rfl
            rotate_left
            · simp only [Act.put, List.setIfInBounds_toArray, List.set_cons_zero, List.set_cons_succ, i64_w, i32_w]
              rfl
            refine take_ (i := 1) (N := some 17) (v := ?_) (a' := ?_) #[true, true, false, false, false, false, false, false, false, false, false, false, false, false, false] rfl rfl (take_ofW HT_.out HW_.out (by kernel_rfl)) (fun _ _ _ h => h) (Or.inl ⟨by rfl, ?_⟩) hHeld ?_ ?_
            rotate_left
            · rintro w' ⟨s0, s1, s2, s3, s4, s5, s6⟩
              go_simp
              with_reducible rfl
            rotate_left
            · simp only [Act.put, List.setIfInBounds_toArray, List.set_cons_zero, List.set_cons_succ, i64_w, i32_w]
              rfl
            refine pure_ (i := 2) (N := some 18) (v := ?_) (a' := ?_) #[true, true, true, false, false, false, false, false, false, false, false, false, false, false, false] rfl rfl (any_of HT_.out (by kernel_rfl)) (fun _ _ _ h => h) (Or.inl ⟨by rfl, ?_⟩) ?_ ?_
            rotate_left
            · intro w'
              go_simp
              with_reducible rfl
            rotate_left
            · simp only [Act.put, List.setIfInBounds_toArray, List.set_cons_zero, List.set_cons_succ, i64_w, i32_w]
              rfl
            refine pure_ (i := 3) (N := some 19) (v := ?_) (a' := ?_) #[true, true, true, true, false, false, false, false, false, false, false, false, false, false, false] rfl rfl (any_of HT_.out (by kernel_rfl)) (fun _ _ _ h => h) (Or.inl ⟨by rfl, ?_⟩) ?_ ?_
            rotate_left
            · intro w'
              go_simp
              with_reducible rfl
            rotate_left
            · simp only [Act.put, List.setIfInBounds_toArray, List.set_cons_zero, List.set_cons_succ, i64_w, i32_w]
              rfl
            refine pure_ (i := 4) (N := some 20) (v := ?_) (a' := ?_) #[true, true, true, true, true, false, false, false, false, false, false, false, false, false, false] rfl rfl (any_of HT_.out (by kernel_rfl)) (fun _ _ _ h => h) (Or.inl ⟨by rfl, ?_⟩) ?_ ?_
            rotate_left
            · intro w'
              go_simp
              with_reducible rfl
            rotate_left
            · simp only [Act.put, List.setIfInBounds_toArray, List.set_cons_zero, List.set_cons_succ, i64_w, i32_w]
              rfl
            refine take_ (i := 5) (N := some 21) (v := ?_) (a' := ?_) #[true, true, true, true, true, true, false, false, false, false, false, false, false, false, false] rfl rfl (take_ofW HT_.out HW_.out (by kernel_rfl)) (fun _ _ _ h => h) (Or.inl ⟨by rfl, ?_⟩) hHeld ?_ ?_
            rotate_left
            · rintro w' ⟨s0, s1, s2, s3, s4, s5, s6⟩
              go_simp
              with_reducible rfl
            rotate_left
            · simp only [Act.put, List.setIfInBounds_toArray, List.set_cons_zero, List.set_cons_succ, i64_w, i32_w]
              rfl
            refine pure_ (i := 6) (N := some 22) (v := ?_) (a' := ?_) #[true, true, true, true, true, true, true, false, false, false, false, false, false, false, false] rfl rfl (any_of HT_.out (by kernel_rfl)) (fun _ _ _ h => h) (Or.inl ⟨by rfl, ?_⟩) ?_ ?_
            rotate_left
            · intro w'
              go_simp
              with_reducible rfl
            rotate_left
            · simp only [Act.put, List.setIfInBounds_toArray, List.set_cons_zero, List.set_cons_succ, i64_w, i32_w]
              rfl
            refine pure_ (i := 7) (N := some 23) (v := ?_) (a' := ?_) #[true, true, true, true, true, true, true, true, false, false, false, false, false, false, false] rfl rfl (any_of HT_.out (by kernel_rfl)) (fun _ _ _ h => h) (Or.inl ⟨by rfl, ?_⟩) ?_ ?_
            rotate_left
            · intro w'
              go_simp
              with_reducible rfl
            rotate_left
            · simp only [Act.put, List.setIfInBounds_toArray, List.set_cons_zero, List.set_cons_succ, i64_w, i32_w]
              rfl
            refine pure_ (i := 8) (N := some 24) (v := ?_) (a' := ?_) #[true, true, true, true, true, true, true, true, true, false, false, false, false, false, false] rfl rfl (any_of HT_.out (by kernel_rfl)) (fun _ _ _ h => h) (Or.inl ⟨by rfl, ?_⟩) ?_ ?_
            rotate_left
            · intro w'
              go_simp
              with_reducible rfl
            rotate_left
            · simp only [Act.put, List.setIfInBounds_toArray, List.set_cons_zero, List.set_cons_succ, i64_w, i32_w]
              rfl
            refine pure_ (i := 10) (N := some 26) (v := ?_) (a' := ?_) #[true, true, true, true, true, true, true, true, true, false, true, false, false, false, false] rfl rfl (any_of HT_.out (by kernel_rfl)) (fun _ _ _ h => h) (Or.inl ⟨by rfl, ?_⟩) ?_ ?_
            rotate_left
            · intro w'
              go_simp
              with_reducible rfl
            rotate_left
            · simp only [Act.put, List.setIfInBounds_toArray, List.set_cons_zero, List.set_cons_succ, i64_w, i32_w]
              rfl
            refine take_ (i := 9) (N := some 25) (v := ?_) (a' := ?_) #[true, true, true, true, true, true, true, true, true, true, true, false, false, false, false] rfl rfl (take_ofW HT_.out HW_.out (by kernel_rfl)) (fun _ _ _ h => h) (Or.inl ⟨by rfl, ?_⟩) hHeld ?_ ?_
            rotate_left
            · rintro w' ⟨s0, s1, s2, s3, s4, s5, s6⟩
              go_simp
              with_reducible rfl
            rotate_left
            · simp only [Act.put, List.setIfInBounds_toArray, List.set_cons_zero, List.set_cons_succ, i64_w, i32_w]
              rfl
            refine take_ (i := 11) (N := some 27) (v := ?_) (a' := ?_) #[true, true, true, true, true, true, true, true, true, true, true, true, false, false, false] rfl rfl (take_ofW HT_.out HW_.out (by kernel_rfl)) (fun _ _ _ h => h) (Or.inl ⟨by rfl, ?_⟩) hHeld ?_ ?_
            rotate_left
            · rintro w' ⟨s0, s1, s2, s3, s4, s5, s6⟩
              go_simp
              with_reducible rfl
            rotate_left
            · simp only [Act.put, List.setIfInBounds_toArray, List.set_cons_zero, List.set_cons_succ, i64_w, i32_w]
              rfl
            refine one_ (i := 12) (N := some 28) #[true, true, true, true, true, true, true, true, true, true, true, true, true, false, false] rfl rfl (one_of HT_.out (by kernel_rfl)) (by decide) (fun K hK => ?_)
            refine goes_ Try.func36 (by kernel_rfl) rfl #[.int .i64 a1_6] (by rfl) rfl rfl (by (try simp only [List.map_toArray, List.map_cons, List.map_nil]); first | done | rfl | (simp only [List.length_drop, List.length_take]; rfl)) ?_
            with_reducible refine (saga_over.calls a1_6 t131 t132 t133 t134 t135 t136 t137 _ A16.out).mono ?_
            rintro e w27 ⟨rfl, hb⟩
            refine ⟨_, rfl, ?_⟩
            have n0_ := Aside0.mk (blk_below (g := gb129) (o := .cells #[.int .i64 a1_0, .int .i64 a1_1, .int .i64 a1_2, .bool a1_3, .int .i64 a1_4, .bool a1_5, .int .i64 a1_6] 28 (0, 0)) (by (with_reducible repeat (first | apply bd1 | apply bd2 | apply bd3)); exact BK129.out) hb)
            have n1_ := Aside0.mk (below_step (by repeat (first | (with_reducible first | exact HB.out | apply below_alloc | apply pw_below_drewN | apply below_drew1 | refine below_set ?_ GE129.out) | exact HB.out)) hb)
            clear BK129
            clear HB
            have BK129 := n0_
            have HB := n1_
            clear n0_ n1_
            (try clear hb)
            (try clear hb2)
            (try clear hk)
            (try clear hi)
            refine hK.out _ _ ⟨(blk_cell BK129.out 0).trans rfl, (blk_cell BK129.out 1).trans rfl, (blk_cell BK129.out 2).trans rfl, (blk_cell BK129.out 3).trans rfl, (blk_cell BK129.out 4).trans rfl, (blk_cell BK129.out 5).trans rfl, (blk_cell BK129.out 6).trans rfl⟩ (fun hHeld => ?_)
            clear hK K
            refine norm_ (a' := ?_) ?_ ?_
            rotate_left
            · show Act.put _ (some 28) _ = _
              simp only [Act.put, List.setIfInBounds_toArray, List.set_cons_zero, List.set_cons_succ, i64_w, i32_w]
              rfl
            refine pure_ (i := 13) (N := some 29) (v := ?_) (a' := ?_) #[true, true, true, true, true, true, true, true, true, true, true, true, true, true, false] rfl rfl (any_of HT_.out (by kernel_rfl)) (fun _ _ _ h => h) (Or.inl ⟨by rfl, ?_⟩) ?_ ?_
            rotate_left
            · intro w'
              go_simp
              with_reducible rfl
            rotate_left
            · simp only [Act.put, List.setIfInBounds_toArray, List.set_cons_zero, List.set_cons_succ, i64_w, i32_w]
              rfl
            refine pure_ (i := 14) (N := some 30) (v := ?_) (a' := ?_) #[true, true, true, true, true, true, true, true, true, true, true, true, true, true, true] rfl rfl (any_of HT_.out (by kernel_rfl)) (fun _ _ _ h => h) (Or.inl ⟨by rfl, ?_⟩) ?_ ?_
            rotate_left
            · intro w'
              go_simp
              with_reducible rfl
            rotate_left
            · simp only [Act.put, List.setIfInBounds_toArray, List.set_cons_zero, List.set_cons_succ, i64_w, i32_w]
              rfl
            refine done_ (done_of HT_.out (by kernel_rfl)) ?_
            try go_wp2
            go_ret
            exact ⟨by first | rfl | (simp [errW_none, errW_some] <;> rfl) | (simp [*, errW_none, errW_some] <;> rfl), by repeat (first | (with_reducible first | exact HB.out | apply below_alloc | apply pw_below_drewN | apply below_drew1 | refine below_set ?_ GE129.out) | exact HB.out)⟩
    · rw [if_neg c5] at H
      have c5b0 : (a1_0 == 3) = false := beq_eq_false_iff_ne.mpr c5
      have c5b1 : (a1_0 != 3) = true := bne_iff_ne.mpr c5
      have HC28 := Aside0.mk H
      clear H
      go_enter Try.func24, Try.ntmps24
      go_upto_region 8 with (first | ((with_reducible refine gate_dst (N := 3) rfl ?_); (try (refine gate_guard (by rfl) ?_; dsimp only)); refine box_event ?hg (N := 3) ?hd (cs := #[.int .i64 a1_0, .int .i64 a1_1, .int .i64 a1_2, .bool a1_3, .int .i64 a1_4, .bool a1_5, .int .i64 a1_6]) (t := 28) ?hr ?_; (case hd => rfl); (case hg => rfl); (case hr => first | (go_simp; done) | (go_simp; rfl)); intro gb129 hg w29 hbox hb; have n0_ := Aside0.mk (below_step (by repeat (first | (with_reducible first | exact HB.out | apply below_alloc | apply pw_below_drewN | apply below_drew1) | exact HB.out)) hb); have n1_ := Aside0.mk (hbox); have n2_ := Aside0.mk ((by rw [hg]; exact (below_size (by repeat (first | (with_reducible first | exact HB.out | apply below_alloc | apply pw_below_drewN | apply below_drew1) | exact HB.out))) : w.heap.size ≤ gb129)); have n3_ := Aside0.mk ((by rw [hg]; exact (below_size (by repeat (first | (with_reducible first | exact HB.out | apply below_alloc | apply pw_below_drewN | apply below_drew1) | exact HB.out))) : w.heap.size ≤ gb129)); clear HB; have HB := n0_; have BK129 := n1_; have GW129 := n2_; have GE129 := n3_; clear n0_ n1_ n2_ n3_; clear hb hbox hg) | ((with_reducible refine gate_callee (f := 35) rfl ?_); refine goesL_ (some 9) rfl rfl Try.func35 (by kernel_rfl) rfl #[.slice A0 l0.length c0] rfl (by (try simp only [List.map_toArray, List.map_cons, List.map_nil]); first | done | rfl | (simp only [List.length_drop, List.length_take]; rfl)) ?_; (with_reducible refine (plan_Check.calls k _ _ l0 t130 _ ?side1 ?side2 A3.out).mono ?_); (case side1 => repeat (first | exact (Kd.C_below HR0.out HB.out) | (with_reducible refine Kd.C_alloc ?_ _) | (with_reducible refine Kd.C_drewN ?_ _) | (with_reducible refine Kd.C_drew ?_))); (case side2 => exact HC0.out); rintro e w30 ⟨rfl, hb⟩; refine ⟨_, rfl, ?_⟩; have n0_ := Aside0.mk (blk_below (g := gb129) (o := .cells #[.int .i64 a1_0, .int .i64 a1_1, .int .i64 a1_2, .bool a1_3, .int .i64 a1_4, .bool a1_5, .int .i64 a1_6] 28 (0, 0)) (by (with_reducible repeat (first | apply bd1 | apply bd2 | apply bd3)); exact BK129.out) hb); have n1_ := Aside0.mk (below_step (by repeat (first | (with_reducible first | exact HB.out | apply below_alloc | apply pw_below_drewN | apply below_drew1 | refine below_set ?_ GE129.out) | exact HB.out)) hb); clear BK129; clear HB; have BK129 := n0_; have HB := n1_; clear n0_ n1_; (try clear hb); (try clear hb2); (try clear hk); (try clear hi); obtain ⟨hcz31_0, hcz31_1, hcz31_2, hcz31_3, hcz31_4, hcz31_5, hcz31_6, hfz31_0, hfz31_1, hfz31_2, hfz31_3, hfz31_4, hfz31_5, hfz31_6⟩ := blk_all7 BK129.out))
      (try simp only [Act.put, List.setIfInBounds_toArray, List.set_cons_zero, List.set_cons_succ])
      go_cut [55] (fun v55 wc => ∃ (kq : Nat) (x55_27 : Bool), v55 = .bool x55_27 ∧ Aside0 (saga_Check.j0 kq l0 x55_27 a1_0 a1_1 a1_2 a1_3 a1_4 a1_5 a1_6 = some r) ∧ Aside0 (kq ≤ k) ∧ Aside0 (wc.heap[gb129]? = some (.cells #[.int .i64 a1_0, .int .i64 a1_1, .int .i64 a1_2, .bool a1_3, .int .i64 a1_4, .bool a1_5, .int .i64 a1_6] 28 (0, 0))) ∧ Aside0 (Below w.heap.size w wc))
      case first =>
        have H := HC28.out
        clear HC28
        by_cases c32 : a1_0 < 1
        · rw [if_pos c32] at H
          have c32b0 : decide (a1_0 < 1) = true := decide_eq_true c32
          clear c32
          (first | rw [c32b0] | (simp only [i64_w, i32_w]; rw [c32b0]) | skip)
          have H' := Aside0.mk H
          clear H
          obtain ⟨hcz33_0, hcz33_1, hcz33_2, hcz33_3, hcz33_4, hcz33_5, hcz33_6, hfz33_0, hfz33_1, hfz33_2, hfz33_3, hfz33_4, hfz33_5, hfz33_6⟩ := blk_all7 BK129.out
          go_wp2
          go_meet
          case rel => exact ⟨_, (true), (by first | rfl | (simp; done) | (simp [*]; done)), H', ⟨by first | omega | exact Nat.le_refl _⟩, ⟨by (with_reducible repeat (first | apply bd1 | apply bd2 | apply bd3)); exact BK129.out⟩, ⟨by repeat (first | (with_reducible first | exact HB.out | apply below_alloc | apply pw_below_drewN | apply below_drew1 | refine below_set ?_ GE129.out) | exact HB.out)⟩⟩
        · rw [if_neg c32] at H
          have c32b0 : decide (a1_0 < 1) = false := decide_eq_false c32
          clear c32
          (first | rw [c32b0] | (simp only [i64_w, i32_w]; rw [c32b0]) | skip)
          by_cases c34 : a1_0 > 3
          · rw [if_pos c34] at H
            have c34b0 : decide (3 < a1_0) = true := decide_eq_true c34
            clear c34
            have H' := Aside0.mk H
            clear H
            obtain ⟨hcz35_0, hcz35_1, hcz35_2, hcz35_3, hcz35_4, hcz35_5, hcz35_6, hfz35_0, hfz35_1, hfz35_2, hfz35_3, hfz35_4, hfz35_5, hfz35_6⟩ := blk_all7 BK129.out
            go_wp2
            go_meet
            case rel => exact ⟨_, (true), (by first | rfl | (simp; done) | (simp [*]; done)), H', ⟨by first | omega | exact Nat.le_refl _⟩, ⟨by (with_reducible repeat (first | apply bd1 | apply bd2 | apply bd3)); exact BK129.out⟩, ⟨by repeat (first | (with_reducible first | exact HB.out | apply below_alloc | apply pw_below_drewN | apply below_drew1 | refine below_set ?_ GE129.out) | exact HB.out)⟩⟩
          · rw [if_neg c34] at H
            have c34b0 : decide (3 < a1_0) = false := decide_eq_false c34
            clear c34
            by_cases c36 : a1_1 < 0
            · rw [if_pos c36] at H
              have c36b0 : decide (a1_1 < 0) = true := decide_eq_true c36
              clear c36
              have H' := Aside0.mk H
              clear H
              obtain ⟨hcz37_0, hcz37_1, hcz37_2, hcz37_3, hcz37_4, hcz37_5, hcz37_6, hfz37_0, hfz37_1, hfz37_2, hfz37_3, hfz37_4, hfz37_5, hfz37_6⟩ := blk_all7 BK129.out
              go_wp2
              go_meet
              case rel => exact ⟨_, (true), (by first | rfl | (simp; done) | (simp [*]; done)), H', ⟨by first | omega | exact Nat.le_refl _⟩, ⟨by (with_reducible repeat (first | apply bd1 | apply bd2 | apply bd3)); exact BK129.out⟩, ⟨by repeat (first | (with_reducible first | exact HB.out | apply below_alloc | apply pw_below_drewN | apply below_drew1 | refine below_set ?_ GE129.out) | exact HB.out)⟩⟩
            · rw [if_neg c36] at H
              have c36b0 : decide (a1_1 < 0) = false := decide_eq_false c36
              clear c36
              by_cases c38 : a1_1 ≥ (l0.length : Int)
              · rw [if_pos c38] at H
                have c38b0 : decide ((l0.length : Int) ≤ a1_1) = true := decide_eq_true c38
                clear c38
                have H' := Aside0.mk H
                clear H
                obtain ⟨hcz39_0, hcz39_1, hcz39_2, hcz39_3, hcz39_4, hcz39_5, hcz39_6, hfz39_0, hfz39_1, hfz39_2, hfz39_3, hfz39_4, hfz39_5, hfz39_6⟩ := blk_all7 BK129.out
                go_wp2
                go_meet
                case rel => exact ⟨_, (true), (by first | rfl | (simp; done) | (simp [*]; done)), H', ⟨by first | omega | exact Nat.le_refl _⟩, ⟨by (with_reducible repeat (first | apply bd1 | apply bd2 | apply bd3)); exact BK129.out⟩, ⟨by repeat (first | (with_reducible first | exact HB.out | apply below_alloc | apply pw_below_drewN | apply below_drew1 | refine below_set ?_ GE129.out) | exact HB.out)⟩⟩
              · rw [if_neg c38] at H
                have c38b0 : decide ((l0.length : Int) ≤ a1_1) = false := decide_eq_false c38
                clear c38
                have H' := Aside0.mk H
                clear H
                obtain ⟨hcz40_0, hcz40_1, hcz40_2, hcz40_3, hcz40_4, hcz40_5, hcz40_6, hfz40_0, hfz40_1, hfz40_2, hfz40_3, hfz40_4, hfz40_5, hfz40_6⟩ := blk_all7 BK129.out
                go_wp2
                go_meet
                case rel => exact ⟨_, ((a1_6 != 0)), (by first | rfl | (simp; done) | (simp [*]; done)), H', ⟨by first | omega | exact Nat.le_refl _⟩, ⟨by (with_reducible repeat (first | apply bd1 | apply bd2 | apply bd3)); exact BK129.out⟩, ⟨by repeat (first | (with_reducible first | exact HB.out | apply below_alloc | apply pw_below_drewN | apply below_drew1 | refine below_set ?_ GE129.out) | exact HB.out)⟩⟩
      case rest =>
        clear HC28
        try clear c1
        try clear c2
        try clear p2
        try clear c3
        try clear c5
        try clear c5b0
        try clear c5b1
        try clear c6
        try clear c6b0
        try clear c11
        try clear c11b0
        try clear c17
        try clear c17b0
        try clear c24
        try clear c32
        try clear c32b0
        try clear c34
        try clear c34b0
        try clear c35
        try clear c36
        try clear c36b0
        try clear c38
        try clear c38b0
        try clear hcz14_0
        try clear hcz14_1
        try clear hcz14_2
        try clear hcz14_3
        try clear hcz14_4
        try clear hcz14_5
        try clear hcz14_6
        try clear hcz20_0
        try clear hcz20_1
        try clear hcz20_2
        try clear hcz20_3
        try clear hcz20_4
        try clear hcz20_5
        try clear hcz20_6
        try clear hcz25_0
        try clear hcz25_1
        try clear hcz25_2
        try clear hcz25_3
        try clear hcz25_4
        try clear hcz25_5
        try clear hcz25_6
        try clear hcz31_0
        try clear hcz31_1
        try clear hcz31_2
        try clear hcz31_3
        try clear hcz31_4
        try clear hcz31_5
        try clear hcz31_6
        try clear hcz33_0
        try clear hcz33_1
        try clear hcz33_2
        try clear hcz33_3
        try clear hcz33_4
        try clear hcz33_5
        try clear hcz33_6
        try clear hcz35_0
        try clear hcz35_1
        try clear hcz35_2
        try clear hcz35_3
        try clear hcz35_4
        try clear hcz35_5
        try clear hcz35_6
        try clear hcz37_0
        try clear hcz37_1
        try clear hcz37_2
        try clear hcz37_3
        try clear hcz37_4
        try clear hcz37_5
        try clear hcz37_6
        try clear hcz39_0
        try clear hcz39_1
        try clear hcz39_2
        try clear hcz39_3
        try clear hcz39_4
        try clear hcz39_5
        try clear hcz39_6
        try clear hcz40_0
        try clear hcz40_1
        try clear hcz40_2
        try clear hcz40_3
        try clear hcz40_4
        try clear hcz40_5
        try clear hcz40_6
        try clear hfz14_0
        try clear hfz14_1
        try clear hfz14_2
        try clear hfz14_3
        try clear hfz14_4
        try clear hfz14_5
        try clear hfz14_6
        try clear hfz20_0
        try clear hfz20_1
        try clear hfz20_2
        try clear hfz20_3
        try clear hfz20_4
        try clear hfz20_5
        try clear hfz20_6
        try clear hfz25_0
        try clear hfz25_1
        try clear hfz25_2
        try clear hfz25_3
        try clear hfz25_4
        try clear hfz25_5
        try clear hfz25_6
        try clear hfz31_0
        try clear hfz31_1
        try clear hfz31_2
        try clear hfz31_3
        try clear hfz31_4
        try clear hfz31_5
        try clear hfz31_6
        try clear hfz33_0
        try clear hfz33_1
        try clear hfz33_2
        try clear hfz33_3
        try clear hfz33_4
        try clear hfz33_5
        try clear hfz33_6
        try clear hfz35_0
        try clear hfz35_1
        try clear hfz35_2
        try clear hfz35_3
        try clear hfz35_4
        try clear hfz35_5
        try clear hfz35_6
        try clear hfz37_0
        try clear hfz37_1
        try clear hfz37_2
        try clear hfz37_3
        try clear hfz37_4
        try clear hfz37_5
        try clear hfz37_6
        try clear hfz39_0
        try clear hfz39_1
        try clear hfz39_2
        try clear hfz39_3
        try clear hfz39_4
        try clear hfz39_5
        try clear hfz39_6
        try clear hfz40_0
        try clear hfz40_1
        try clear hfz40_2
        try clear hfz40_3
        try clear hfz40_4
        try clear hfz40_5
        try clear hfz40_6
        obtain ⟨kq, x55_27, rfl, HA, HJ27, BK129, HB⟩ := hcut
        cases kq with
        | zero => exact absurd HA.out (by simp [saga_Check.j0])
        | succ kj27 =>
          have H := HA.out
          clear HA
          simp only [saga_Check.j0] at H
          by_cases c41 : x55_27 = true
          · subst c41
            have H1 : (some 140) = some r := by rw [if_pos rfl] at H; exact H
            clear H
            have H := H1
            clear H1
            obtain rfl := Option.some.inj H
            go_wp2
            go_ret
            exact ⟨by first | rfl | (simp [errW_none, errW_some] <;> rfl) | (simp [*, errW_none, errW_some] <;> rfl), by repeat (first | (with_reducible first | exact HB.out | apply below_alloc | apply pw_below_drewN | apply below_drew1 | refine below_set ?_ GE129.out) | exact HB.out)⟩
          · replace c41 := Bool.eq_false_iff.mpr c41
            subst c41
            have H1 : (if 0 ≤ a1_1 then (if a1_1 < (l0.length : Int) then (if a1_2 ≥ 0 then (if a1_2 < ((rd_T38 l0 a1_1).f1) then (saga_Check.j1 kj27 (a1_4 == 0) a1_0 a1_1 a1_2 a1_3 a1_4 a1_5 a1_6 ((rd_T38 l0 a1_1).f0.f0) ((rd_T38 l0 a1_1).f0.f1) ((rd_T38 l0 a1_1).f0.f2) ((rd_T38 l0 a1_1).f1) ((rd_T38 l0 a1_1).f2) ((rd_T38 l0 a1_1).f3)) else (saga_Check.j1 kj27 false a1_0 a1_1 a1_2 a1_3 a1_4 a1_5 a1_6 ((rd_T38 l0 a1_1).f0.f0) ((rd_T38 l0 a1_1).f0.f1) ((rd_T38 l0 a1_1).f0.f2) ((rd_T38 l0 a1_1).f1) ((rd_T38 l0 a1_1).f2) ((rd_T38 l0 a1_1).f3))) else (saga_Check.j1 kj27 false a1_0 a1_1 a1_2 a1_3 a1_4 a1_5 a1_6 ((rd_T38 l0 a1_1).f0.f0) ((rd_T38 l0 a1_1).f0.f1) ((rd_T38 l0 a1_1).f0.f2) ((rd_T38 l0 a1_1).f1) ((rd_T38 l0 a1_1).f2) ((rd_T38 l0 a1_1).f3))) else (none)) else (none)) = some r := by rw [if_neg (show ¬ (false = true) by decide)] at H; exact H
            clear H
            have H := H1
            clear H1
            by_cases c42 : 0 ≤ a1_1
            · rw [if_pos c42] at H
              have c42b0 : decide (0 ≤ a1_1) = true := decide_eq_true c42
              clear c42
              by_cases c43 : a1_1 < (l0.length : Int)
              · rw [if_pos c43] at H
                have c43b0 : decide (a1_1 < (l0.length : Int)) = true := decide_eq_true c43
                clear c43
                have HC44 := Aside0.mk H
                clear H
                obtain ⟨hcz45_0, hcz45_1, hcz45_2, hcz45_3, hcz45_4, hcz45_5, hcz45_6, hfz45_0, hfz45_1, hfz45_2, hfz45_3, hfz45_4, hfz45_5, hfz45_6⟩ := blk_all7 BK129.out
                have p138 : 0 ≤ (a1_1 : Int) := of_decide_eq_true (by first | (with_reducible assumption) | assumption)
                have q138 : a1_1 < (l0.length : Int) := of_decide_eq_true (by first | (with_reducible assumption) | assumption)
                obtain ⟨ad138, A138_2, c138_2, e138, hx138_0, hx138_1, hx138_2, hx138_3, hx138_4, hx138_5, hl138_2, hi138_2⟩ := at_T38 HR0.out a1_1 p138 q138
                cases e138
                replace hx138_0 := (HB.out.cell (World.block_lt_of_cell? w _ hx138_0)).trans hx138_0
                replace hx138_1 := (HB.out.cell (World.block_lt_of_cell? w _ hx138_1)).trans hx138_1
                replace hx138_2 := (HB.out.cell (World.block_lt_of_cell? w _ hx138_2)).trans hx138_2
                replace hx138_3 := (HB.out.cell (World.block_lt_of_cell? w _ hx138_3)).trans hx138_3
                replace hx138_4 := (HB.out.cell (World.block_lt_of_cell? w _ hx138_4)).trans hx138_4
                replace hx138_5 := (HB.out.cell (World.block_lt_of_cell? w _ hx138_5)).trans hx138_5
                have HR138_2 := Aside0.mk hi138_2
                have HC138_2 := Aside0.mk hl138_2
                clear hi138_2 hl138_2
                replace p138 := eq_true p138
                replace q138 := eq_true q138
                go_upto_region 11 with (first | ((with_reducible refine gate_dst (N := 6) rfl ?_); (try (refine gate_guard (by rfl) ?_; dsimp only)); refine box_event ?hg (N := 6) ?hd (cs := #[.int .i64 0, .int .i64 0, .slice none 0 0, .int .i64 0, .int .i64 0, .bool false]) (t := 38) ?hr ?_; (case hd => rfl); (case hg => rfl); (case hr => first | (go_simp; done) | (go_simp; rfl)); intro gb139 hg w46 hbox hb; have n0_ := Aside0.mk (blk_below (g := gb129) (o := .cells #[.int .i64 a1_0, .int .i64 a1_1, .int .i64 a1_2, .bool a1_3, .int .i64 a1_4, .bool a1_5, .int .i64 a1_6] 28 (0, 0)) (by (with_reducible repeat (first | apply bd1 | apply bd2 | apply bd3)); exact BK129.out) hb); have n1_ := Aside0.mk (below_step (by repeat (first | (with_reducible first | exact HB.out | apply below_alloc | apply pw_below_drewN | apply below_drew1 | refine below_set ?_ GE129.out) | exact HB.out)) hb); have n2_ := Aside0.mk (hbox); have n3_ := Aside0.mk ((by rw [hg]; exact (below_size (by repeat (first | (with_reducible first | exact HB.out | apply below_alloc | apply pw_below_drewN | apply below_drew1 | refine below_set ?_ GE129.out) | exact HB.out))) : w.heap.size ≤ gb139)); have n4_ := Aside0.mk ((by rw [hg]; exact (below_size (by repeat (first | (with_reducible first | exact HB.out | apply below_alloc | apply pw_below_drewN | apply below_drew1 | refine below_set ?_ GE129.out) | exact HB.out))) : w.heap.size ≤ gb139)); have n5_ := Aside0.mk ((by rw [hg]; exact Nat.ne_of_lt (blk_lt (g := gb129) (o := .cells #[.int .i64 a1_0, .int .i64 a1_1, .int .i64 a1_2, .bool a1_3, .int .i64 a1_4, .bool a1_5, .int .i64 a1_6] 28 (0, 0)) (by (with_reducible repeat (first | apply bd1 | apply bd2 | apply bd3)); exact BK129.out)) : gb129 ≠ gb139)); have n6_ := Aside0.mk ((by rw [hg]; exact Nat.ne_of_gt (blk_lt (g := gb129) (o := .cells #[.int .i64 a1_0, .int .i64 a1_1, .int .i64 a1_2, .bool a1_3, .int .i64 a1_4, .bool a1_5, .int .i64 a1_6] 28 (0, 0)) (by (with_reducible repeat (first | apply bd1 | apply bd2 | apply bd3)); exact BK129.out)) : gb139 ≠ gb129)); clear BK129; clear HB; have BK129 := n0_; have HB := n1_; have BK139 := n2_; have GW139 := n3_; have GE139 := n4_; have NB129_139 := n5_; have NB139_129 := n6_; clear n0_ n1_ n2_ n3_ n4_ n5_ n6_; clear hb hbox hg; have hnb47 := NB139_129.out; have hnc47 := NB129_139.out; obtain ⟨hcz48_0, hcz48_1, hcz48_2, hcz48_3, hcz48_4, hcz48_5, hfz48_0, hfz48_1, hfz48_2, hfz48_3, hfz48_4, hfz48_5⟩ := blk_all6 BK139.out))
                (try simp only [Act.put, List.setIfInBounds_toArray, List.set_cons_zero, List.set_cons_succ])
                go_cut [7] (fun v7 wc => ∃ (kq : Nat) (x7_43 : Bool), v7 = .bool x7_43 ∧ Aside0 (saga_Check.j1 kq x7_43 a1_0 a1_1 a1_2 a1_3 a1_4 a1_5 a1_6 ((rd_T38 l0 a1_1).f0.f0) ((rd_T38 l0 a1_1).f0.f1) ((rd_T38 l0 a1_1).f0.f2) ((rd_T38 l0 a1_1).f1) ((rd_T38 l0 a1_1).f2) ((rd_T38 l0 a1_1).f3) = some r) ∧ Aside0 (kq ≤ kj27) ∧ Aside0 (wc.heap[gb129]? = some (.cells #[.int .i64 a1_0, .int .i64 a1_1, .int .i64 a1_2, .bool a1_3, .int .i64 a1_4, .bool a1_5, .int .i64 a1_6] 28 (0, 0))) ∧ Aside0 (wc.heap[gb139]? = some (.cells #[.int .i64 ((rd_T38 l0 a1_1).f0.f0), .int .i64 ((rd_T38 l0 a1_1).f0.f1), (.slice A138_2 ((rd_T38 l0 a1_1).f0.f2).length c138_2), .int .i64 ((rd_T38 l0 a1_1).f1), .int .i64 ((rd_T38 l0 a1_1).f2), .bool ((rd_T38 l0 a1_1).f3)] 38 (0, 0))) ∧ Aside0 (Below w.heap.size w wc))
                case first =>
                  have H := HC44.out
                  clear HC44
                  by_cases c49 : a1_2 ≥ 0
                  · rw [if_pos c49] at H
                    have c49b0 : decide (0 ≤ a1_2) = true := decide_eq_true c49
                    clear c49
                    (first | rw [c49b0] | (simp only [i64_w, i32_w]; rw [c49b0]) | skip)
                    by_cases c50 : a1_2 < ((rd_T38 l0 a1_1).f1)
                    · rw [if_pos c50] at H
                      have c50b0 : decide (a1_2 < ((rd_T38 l0 a1_1).f1)) = true := decide_eq_true c50
                      clear c50
                      have H' := Aside0.mk H
                      clear H
                      have hnb51 := NB129_139.out
                      have hnc51 := NB139_129.out
                      obtain ⟨hcz52_0, hcz52_1, hcz52_2, hcz52_3, hcz52_4, hcz52_5, hcz52_6, hfz52_0, hfz52_1, hfz52_2, hfz52_3, hfz52_4, hfz52_5, hfz52_6⟩ := blk_all7 BK129.out
                      obtain ⟨hcz53_0, hcz53_1, hcz53_2, hcz53_3, hcz53_4, hcz53_5, hfz53_0, hfz53_1, hfz53_2, hfz53_3, hfz53_4, hfz53_5⟩ := blk_all6 BK139.out
                      go_wp2
                      go_meet
                      case rel => exact ⟨_, ((a1_4 == 0)), (by first | rfl | (simp; done) | (simp [*]; done)), H', ⟨by have := HJ27.out; first | omega | exact Nat.le_refl _⟩, ⟨by (with_reducible repeat (first | apply bd1 | apply bd2 | apply bd3)); refine blk_far ?_ NB129_139.out _; (with_reducible repeat (first | apply bd1 | apply bd2 | apply bd3)); refine blk_far ?_ NB129_139.out _; (with_reducible repeat (first | apply bd1 | apply bd2 | apply bd3)); refine blk_far ?_ NB129_139.out _; (with_reducible repeat (first | apply bd1 | apply bd2 | apply bd3)); refine blk_far ?_ NB129_139.out _; (with_reducible repeat (first | apply bd1 | apply bd2 | apply bd3)); refine blk_far ?_ NB129_139.out _; (with_reducible repeat (first | apply bd1 | apply bd2 | apply bd3)); refine blk_far ?_ NB129_139.out _; (with_reducible repeat (first | apply bd1 | apply bd2 | apply bd3)); exact BK129.out⟩, ⟨by (with_reducible repeat (first | apply bd1 | apply bd2 | apply bd3)); refine blk_put (cs := #[.int .i64 ((rd_T38 l0 a1_1).f0.f0), .int .i64 ((rd_T38 l0 a1_1).f0.f1), .slice A138_2 ((rd_T38 l0 a1_1).f0.f2).length c138_2, .int .i64 ((rd_T38 l0 a1_1).f1), .int .i64 ((rd_T38 l0 a1_1).f2), .bool false]) ?_ 5 _ rfl; (with_reducible repeat (first | apply bd1 | apply bd2 | apply bd3)); refine blk_put (cs := #[.int .i64 ((rd_T38 l0 a1_1).f0.f0), .int .i64 ((rd_T38 l0 a1_1).f0.f1), .slice A138_2 ((rd_T38 l0 a1_1).f0.f2).length c138_2, .int .i64 ((rd_T38 l0 a1_1).f1), .int .i64 0, .bool false]) ?_ 4 _ rfl; (with_reducible repeat (first | apply bd1 | apply bd2 | apply bd3)); refine blk_put (cs := #[.int .i64 ((rd_T38 l0 a1_1).f0.f0), .int .i64 ((rd_T38 l0 a1_1).f0.f1), .slice A138_2 ((rd_T38 l0 a1_1).f0.f2).length c138_2, .int .i64 0, .int .i64 0, .bool false]) ?_ 3 _ rfl; (with_reducible repeat (first | apply bd1 | apply bd2 | apply bd3)); refine blk_put (cs := #[.int .i64 ((rd_T38 l0 a1_1).f0.f0), .int .i64 ((rd_T38 l0 a1_1).f0.f1), .slice none 0 0, .int .i64 0, .int .i64 0, .bool false]) ?_ 2 _ rfl; (with_reducible repeat (first | apply bd1 | apply bd2 | apply bd3)); refine blk_put (cs := #[.int .i64 ((rd_T38 l0 a1_1).f0.f0), .int .i64 0, .slice none 0 0, .int .i64 0, .int .i64 0, .bool false]) ?_ 1 _ rfl; (with_reducible repeat (first | apply bd1 | apply bd2 | apply bd3)); refine blk_put (cs := #[.int .i64 0, .int .i64 0, .slice none 0 0, .int .i64 0, .int .i64 0, .bool false]) ?_ 0 _ rfl; (with_reducible repeat (first | apply bd1 | apply bd2 | apply bd3)); exact BK139.out⟩, ⟨by repeat (first | (with_reducible first | exact HB.out | apply below_alloc | apply pw_below_drewN | apply below_drew1 | refine below_set ?_ GE129.out | refine below_set ?_ GE139.out) | exact HB.out)⟩⟩
                    · rw [if_neg c50] at H
                      have c50b0 : decide (a1_2 < ((rd_T38 l0 a1_1).f1)) = false := decide_eq_false c50
                      clear c50
                      have H' := Aside0.mk H
                      clear H
                      have hnb54 := NB129_139.out
                      have hnc54 := NB139_129.out
                      obtain ⟨hcz55_0, hcz55_1, hcz55_2, hcz55_3, hcz55_4, hcz55_5, hcz55_6, hfz55_0, hfz55_1, hfz55_2, hfz55_3, hfz55_4, hfz55_5, hfz55_6⟩ := blk_all7 BK129.out
                      obtain ⟨hcz56_0, hcz56_1, hcz56_2, hcz56_3, hcz56_4, hcz56_5, hfz56_0, hfz56_1, hfz56_2, hfz56_3, hfz56_4, hfz56_5⟩ := blk_all6 BK139.out
                      go_wp2
                      go_meet
                      case rel => exact ⟨_, (false), (by first | rfl | (simp; done) | (simp [*]; done)), H', ⟨by have := HJ27.out; first | omega | exact Nat.le_refl _⟩, ⟨by (with_reducible repeat (first | apply bd1 | apply bd2 | apply bd3)); refine blk_far ?_ NB129_139.out _; (with_reducible repeat (first | apply bd1 | apply bd2 | apply bd3)); refine blk_far ?_ NB129_139.out _; (with_reducible repeat (first | apply bd1 | apply bd2 | apply bd3)); refine blk_far ?_ NB129_139.out _; (with_reducible repeat (first | apply bd1 | apply bd2 | apply bd3)); refine blk_far ?_ NB129_139.out _; (with_reducible repeat (first | apply bd1 | apply bd2 | apply bd3)); refine blk_far ?_ NB129_139.out _; (with_reducible repeat (first | apply bd1 | apply bd2 | apply bd3)); refine blk_far ?_ NB129_139.out _; (with_reducible repeat (first | apply bd1 | apply bd2 | apply bd3)); exact BK129.out⟩, ⟨by (with_reducible repeat (first | apply bd1 | apply bd2 | apply bd3)); refine blk_put (cs := #[.int .i64 ((rd_T38 l0 a1_1).f0.f0), .int .i64 ((rd_T38 l0 a1_1).f0.f1), .slice A138_2 ((rd_T38 l0 a1_1).f0.f2).length c138_2, .int .i64 ((rd_T38 l0 a1_1).f1), .int .i64 ((rd_T38 l0 a1_1).f2), .bool false]) ?_ 5 _ rfl; (with_reducible repeat (first | apply bd1 | apply bd2 | apply bd3)); refine blk_put (cs := #[.int .i64 ((rd_T38 l0 a1_1).f0.f0), .int .i64 ((rd_T38 l0 a1_1).f0.f1), .slice A138_2 ((rd_T38 l0 a1_1).f0.f2).length c138_2, .int .i64 ((rd_T38 l0 a1_1).f1), .int .i64 0, .bool false]) ?_ 4 _ rfl; (with_reducible repeat (first | apply bd1 | apply bd2 | apply bd3)); refine blk_put (cs := #[.int .i64 ((rd_T38 l0 a1_1).f0.f0), .int .i64 ((rd_T38 l0 a1_1).f0.f1), .slice A138_2 ((rd_T38 l0 a1_1).f0.f2).length c138_2, .int .i64 0, .int .i64 0, .bool false]) ?_ 3 _ rfl; (with_reducible repeat (first | apply bd1 | apply bd2 | apply bd3)); refine blk_put (cs := #[.int .i64 ((rd_T38 l0 a1_1).f0.f0), .int .i64 ((rd_T38 l0 a1_1).f0.f1), .slice none 0 0, .int .i64 0, .int .i64 0, .bool false]) ?_ 2 _ rfl; (with_reducible repeat (first | apply bd1 | apply bd2 | apply bd3)); refine blk_put (cs := #[.int .i64 ((rd_T38 l0 a1_1).f0.f0), .int .i64 0, .slice none 0 0, .int .i64 0, .int .i64 0, .bool false]) ?_ 1 _ rfl; (with_reducible repeat (first | apply bd1 | apply bd2 | apply bd3)); refine blk_put (cs := #[.int .i64 0, .int .i64 0, .slice none 0 0, .int .i64 0, .int .i64 0, .bool false]) ?_ 0 _ rfl; (with_reducible repeat (first | apply bd1 | apply bd2 | apply bd3)); exact BK139.out⟩, ⟨by repeat (first | (with_reducible first | exact HB.out | apply below_alloc | apply pw_below_drewN | apply below_drew1 | refine below_set ?_ GE129.out | refine below_set ?_ GE139.out) | exact HB.out)⟩⟩
                  · rw [if_neg c49] at H
                    have c49b0 : decide (0 ≤ a1_2) = false := decide_eq_false c49
                    clear c49
                    (first | rw [c49b0] | (simp only [i64_w, i32_w]; rw [c49b0]) | skip)
                    have H' := Aside0.mk H
                    clear H
                    have hnb57 := NB129_139.out
                    have hnc57 := NB139_129.out
                    obtain ⟨hcz58_0, hcz58_1, hcz58_2, hcz58_3, hcz58_4, hcz58_5, hcz58_6, hfz58_0, hfz58_1, hfz58_2, hfz58_3, hfz58_4, hfz58_5, hfz58_6⟩ := blk_all7 BK129.out
                    go_wp2
                    go_meet
                    case rel => exact ⟨_, (false), (by first | rfl | (simp; done) | (simp [*]; done)), H', ⟨by have := HJ27.out; first | omega | exact Nat.le_refl _⟩, ⟨by (with_reducible repeat (first | apply bd1 | apply bd2 | apply bd3)); refine blk_far ?_ NB129_139.out _; (with_reducible repeat (first | apply bd1 | apply bd2 | apply bd3)); refine blk_far ?_ NB129_139.out _; (with_reducible repeat (first | apply bd1 | apply bd2 | apply bd3)); refine blk_far ?_ NB129_139.out _; (with_reducible repeat (first | apply bd1 | apply bd2 | apply bd3)); refine blk_far ?_ NB129_139.out _; (with_reducible repeat (first | apply bd1 | apply bd2 | apply bd3)); refine blk_far ?_ NB129_139.out _; (with_reducible repeat (first | apply bd1 | apply bd2 | apply bd3)); refine blk_far ?_ NB129_139.out _; (with_reducible repeat (first | apply bd1 | apply bd2 | apply bd3)); exact BK129.out⟩, ⟨by (with_reducible repeat (first | apply bd1 | apply bd2 | apply bd3)); refine blk_put (cs := #[.int .i64 ((rd_T38 l0 a1_1).f0.f0), .int .i64 ((rd_T38 l0 a1_1).f0.f1), .slice A138_2 ((rd_T38 l0 a1_1).f0.f2).length c138_2, .int .i64 ((rd_T38 l0 a1_1).f1), .int .i64 ((rd_T38 l0 a1_1).f2), .bool false]) ?_ 5 _ rfl; (with_reducible repeat (first | apply bd1 | apply bd2 | apply bd3)); refine blk_put (cs := #[.int .i64 ((rd_T38 l0 a1_1).f0.f0), .int .i64 ((rd_T38 l0 a1_1).f0.f1), .slice A138_2 ((rd_T38 l0 a1_1).f0.f2).length c138_2, .int .i64 ((rd_T38 l0 a1_1).f1), .int .i64 0, .bool false]) ?_ 4 _ rfl; (with_reducible repeat (first | apply bd1 | apply bd2 | apply bd3)); refine blk_put (cs := #[.int .i64 ((rd_T38 l0 a1_1).f0.f0), .int .i64 ((rd_T38 l0 a1_1).f0.f1), .slice A138_2 ((rd_T38 l0 a1_1).f0.f2).length c138_2, .int .i64 0, .int .i64 0, .bool false]) ?_ 3 _ rfl; (with_reducible repeat (first | apply bd1 | apply bd2 | apply bd3)); refine blk_put (cs := #[.int .i64 ((rd_T38 l0 a1_1).f0.f0), .int .i64 ((rd_T38 l0 a1_1).f0.f1), .slice none 0 0, .int .i64 0, .int .i64 0, .bool false]) ?_ 2 _ rfl; (with_reducible repeat (first | apply bd1 | apply bd2 | apply bd3)); refine blk_put (cs := #[.int .i64 ((rd_T38 l0 a1_1).f0.f0), .int .i64 0, .slice none 0 0, .int .i64 0, .int .i64 0, .bool false]) ?_ 1 _ rfl; (with_reducible repeat (first | apply bd1 | apply bd2 | apply bd3)); refine blk_put (cs := #[.int .i64 0, .int .i64 0, .slice none 0 0, .int .i64 0, .int .i64 0, .bool false]) ?_ 0 _ rfl; (with_reducible repeat (first | apply bd1 | apply bd2 | apply bd3)); exact BK139.out⟩, ⟨by repeat (first | (with_reducible first | exact HB.out | apply below_alloc | apply pw_below_drewN | apply below_drew1 | refine below_set ?_ GE129.out | refine below_set ?_ GE139.out) | exact HB.out)⟩⟩
                case rest =>
                  clear HC44
                  try clear c1
                  try clear p1
                  try clear q1
                  try clear hx1
                  try clear c2
                  try clear p2
                  try clear c3
                  try clear c4
                  try clear c5
                  try clear c5b0
                  try clear c5b1
                  try clear c6
                  try clear c6b0
                  try clear c11
                  try clear c11b0
                  try clear c13
                  try clear p13
                  try clear q13
                  try clear hx13
                  try clear c17
                  try clear c17b0
                  try clear c24
                  try clear c32
                  try clear c32b0
                  try clear c34
                  try clear c34b0
                  try clear c35
                  try clear c36
                  try clear c36b0
                  try clear c38
                  try clear c38b0
                  try clear c41
                  try clear c42
                  try clear c42b0
                  try clear c43
                  try clear c43b0
                  try clear c47
                  try clear c49
                  try clear c49b0
                  try clear c50
                  try clear c50b0
                  try clear c51
                  try clear c54
                  try clear c57
                  try clear hcz14_0
                  try clear hcz14_1
                  try clear hcz14_2
                  try clear hcz14_3
                  try clear hcz14_4
                  try clear hcz14_5
                  try clear hcz14_6
                  try clear hcz20_0
                  try clear hcz20_1
                  try clear hcz20_2
                  try clear hcz20_3
                  try clear hcz20_4
                  try clear hcz20_5
                  try clear hcz20_6
                  try clear hcz25_0
                  try clear hcz25_1
                  try clear hcz25_2
                  try clear hcz25_3
                  try clear hcz25_4
                  try clear hcz25_5
                  try clear hcz25_6
                  try clear hcz31_0
                  try clear hcz31_1
                  try clear hcz31_2
                  try clear hcz31_3
                  try clear hcz31_4
                  try clear hcz31_5
                  try clear hcz31_6
                  try clear hcz33_0
                  try clear hcz33_1
                  try clear hcz33_2
                  try clear hcz33_3
                  try clear hcz33_4
                  try clear hcz33_5
                  try clear hcz33_6
                  try clear hcz35_0
                  try clear hcz35_1
                  try clear hcz35_2
                  try clear hcz35_3
                  try clear hcz35_4
                  try clear hcz35_5
                  try clear hcz35_6
                  try clear hcz37_0
                  try clear hcz37_1
                  try clear hcz37_2
                  try clear hcz37_3
                  try clear hcz37_4
                  try clear hcz37_5
                  try clear hcz37_6
                  try clear hcz39_0
                  try clear hcz39_1
                  try clear hcz39_2
                  try clear hcz39_3
                  try clear hcz39_4
                  try clear hcz39_5
                  try clear hcz39_6
                  try clear hcz40_0
                  try clear hcz40_1
                  try clear hcz40_2
                  try clear hcz40_3
                  try clear hcz40_4
                  try clear hcz40_5
                  try clear hcz40_6
                  try clear hcz45_0
                  try clear hcz45_1
                  try clear hcz45_2
                  try clear hcz45_3
                  try clear hcz45_4
                  try clear hcz45_5
                  try clear hcz45_6
                  try clear hcz48_0
                  try clear hcz48_1
                  try clear hcz48_2
                  try clear hcz48_3
                  try clear hcz48_4
                  try clear hcz48_5
                  try clear hcz52_0
                  try clear hcz52_1
                  try clear hcz52_2
                  try clear hcz52_3
                  try clear hcz52_4
                  try clear hcz52_5
                  try clear hcz52_6
                  try clear hcz53_0
                  try clear hcz53_1
                  try clear hcz53_2
                  try clear hcz53_3
                  try clear hcz53_4
                  try clear hcz53_5
                  try clear hcz55_0
                  try clear hcz55_1
                  try clear hcz55_2
                  try clear hcz55_3
                  try clear hcz55_4
                  try clear hcz55_5
                  try clear hcz55_6
                  try clear hcz56_0
                  try clear hcz56_1
                  try clear hcz56_2
                  try clear hcz56_3
                  try clear hcz56_4
                  try clear hcz56_5
                  try clear hcz58_0
                  try clear hcz58_1
                  try clear hcz58_2
                  try clear hcz58_3
                  try clear hcz58_4
                  try clear hcz58_5
                  try clear hcz58_6
                  try clear hfz14_0
                  try clear hfz14_1
                  try clear hfz14_2
                  try clear hfz14_3
                  try clear hfz14_4
                  try clear hfz14_5
                  try clear hfz14_6
                  try clear hfz20_0
                  try clear hfz20_1
                  try clear hfz20_2
                  try clear hfz20_3
                  try clear hfz20_4
                  try clear hfz20_5
                  try clear hfz20_6
                  try clear hfz25_0
                  try clear hfz25_1
                  try clear hfz25_2
                  try clear hfz25_3
                  try clear hfz25_4
                  try clear hfz25_5
                  try clear hfz25_6
                  try clear hfz31_0
                  try clear hfz31_1
                  try clear hfz31_2
                  try clear hfz31_3
                  try clear hfz31_4
                  try clear hfz31_5
                  try clear hfz31_6
                  try clear hfz33_0
                  try clear hfz33_1
                  try clear hfz33_2
                  try clear hfz33_3
                  try clear hfz33_4
                  try clear hfz33_5
                  try clear hfz33_6
                  try clear hfz35_0
                  try clear hfz35_1
                  try clear hfz35_2
                  try clear hfz35_3
                  try clear hfz35_4
                  try clear hfz35_5
                  try clear hfz35_6
                  try clear hfz37_0
                  try clear hfz37_1
                  try clear hfz37_2
                  try clear hfz37_3
                  try clear hfz37_4
                  try clear hfz37_5
                  try clear hfz37_6
                  try clear hfz39_0
                  try clear hfz39_1
                  try clear hfz39_2
                  try clear hfz39_3
                  try clear hfz39_4
                  try clear hfz39_5
                  try clear hfz39_6
                  try clear hfz40_0
                  try clear hfz40_1
                  try clear hfz40_2
                  try clear hfz40_3
                  try clear hfz40_4
                  try clear hfz40_5
                  try clear hfz40_6
                  try clear hfz45_0
                  try clear hfz45_1
                  try clear hfz45_2
                  try clear hfz45_3
                  try clear hfz45_4
                  try clear hfz45_5
                  try clear hfz45_6
                  try clear hfz48_0
                  try clear hfz48_1
                  try clear hfz48_2
                  try clear hfz48_3
                  try clear hfz48_4
                  try clear hfz48_5
                  try clear hfz52_0
                  try clear hfz52_1
                  try clear hfz52_2
                  try clear hfz52_3
                  try clear hfz52_4
                  try clear hfz52_5
                  try clear hfz52_6
                  try clear hfz53_0
                  try clear hfz53_1
                  try clear hfz53_2
                  try clear hfz53_3
                  try clear hfz53_4
                  try clear hfz53_5
                  try clear hfz55_0
                  try clear hfz55_1
                  try clear hfz55_2
                  try clear hfz55_3
                  try clear hfz55_4
                  try clear hfz55_5
                  try clear hfz55_6
                  try clear hfz56_0
                  try clear hfz56_1
                  try clear hfz56_2
                  try clear hfz56_3
                  try clear hfz56_4
                  try clear hfz56_5
                  try clear hfz58_0
                  try clear hfz58_1
                  try clear hfz58_2
                  try clear hfz58_3
                  try clear hfz58_4
                  try clear hfz58_5
                  try clear hfz58_6
                  try clear hx138_0
                  try clear hx138_1
                  try clear hx138_2
                  try clear hx138_3
                  try clear hx138_4
                  try clear hx138_5
                  try clear p138
                  try clear p2
                  try clear q138
                  obtain ⟨kq, x7_43, rfl, HA, HJ43, BK129, BK139, HB⟩ := hcut
                  cases kq with
                  | zero => exact absurd HA.out (by simp [saga_Check.j1])
                  | succ kj43 =>
                    have H := HA.out
                    clear HA
                    simp only [saga_Check.j1] at H
                    by_cases c59 : a1_3 = true
                    · subst c59
                      have H1 : (if a1_2 ≥ 1 then (if a1_2 ≤ ((rd_T38 l0 a1_1).f1) then (if a1_4 ≥ 1 then (if a1_4 ≤ ((rd_T38 l0 a1_1).f2) then (if a1_0 = 2 then (if ((rd_T38 l0 a1_1).f3) = true then (if a1_5 = true then (some 140) else (some 0)) else (some 140)) else (some 0)) else (some 140)) else (some 140)) else (some 140)) else (some 140)) = some r := by rw [if_pos rfl] at H; exact H
                      clear H
                      have H := H1
                      clear H1
                      by_cases c60 : a1_2 ≥ 1
                      · rw [if_pos c60] at H
                        have c60b0 : decide (1 ≤ a1_2) = true := decide_eq_true c60
                        clear c60
                        by_cases c61 : a1_2 ≤ ((rd_T38 l0 a1_1).f1)
                        · rw [if_pos c61] at H
                          have c61b0 : decide (a1_2 ≤ ((rd_T38 l0 a1_1).f1)) = true := decide_eq_true c61
                          clear c61
                          by_cases c62 : a1_4 ≥ 1
                          · rw [if_pos c62] at H
                            have c62b0 : decide (1 ≤ a1_4) = true := decide_eq_true c62
                            clear c62
                            by_cases c63 : a1_4 ≤ ((rd_T38 l0 a1_1).f2)
                            · rw [if_pos c63] at H
                              have c63b0 : decide (a1_4 ≤ ((rd_T38 l0 a1_1).f2)) = true := decide_eq_true c63
                              clear c63
                              by_cases c64 : a1_0 = 2
                              · rw [if_pos c64] at H
                                have c64b0 : (a1_0 == 2) = true := beq_iff_eq.mpr c64
                                have c64b1 : (a1_0 != 2) = false := bne_eq_false_iff_eq.mpr c64
                                clear c64
                                by_cases c65 : ((rd_T38 l0 a1_1).f3) = true
                                · rw [if_pos c65] at H
                                  have c65b0 : ((rd_T38 l0 a1_1).f3) = true := c65
                                  clear c65
                                  by_cases c66 : a1_5 = true
                                  · subst c66
                                    have H1 : (some 140) = some r := by rw [if_pos rfl] at H; exact H
                                    clear H
                                    have H := H1
                                    clear H1
                                    obtain rfl := Option.some.inj H
                                    have hnb67 := NB129_139.out
                                    have hnc67 := NB139_129.out
                                    obtain ⟨hcz68_0, hcz68_1, hcz68_2, hcz68_3, hcz68_4, hcz68_5, hcz68_6, hfz68_0, hfz68_1, hfz68_2, hfz68_3, hfz68_4, hfz68_5, hfz68_6⟩ := blk_all7 BK129.out
                                    obtain ⟨hcz69_0, hcz69_1, hcz69_2, hcz69_3, hcz69_4, hcz69_5, hfz69_0, hfz69_1, hfz69_2, hfz69_3, hfz69_4, hfz69_5⟩ := blk_all6 BK139.out
                                    go_wp2
                                    go_ret
                                    exact ⟨by first | rfl | (simp [errW_none, errW_some] <;> rfl) | (simp [*, errW_none, errW_some] <;> rfl), by repeat (first | (with_reducible first | exact HB.out | apply below_alloc | apply pw_below_drewN | apply below_drew1 | refine below_set ?_ GE129.out | refine below_set ?_ GE139.out) | exact HB.out)⟩
                                  · replace c66 := Bool.eq_false_iff.mpr c66
                                    subst c66
                                    have H1 : (some 0) = some r := by rw [if_neg (show ¬ (false = true) by decide)] at H; exact H
                                    clear H
                                    have H := H1
                                    clear H1
                                    obtain rfl := Option.some.inj H
                                    have hnb70 := NB129_139.out
                                    have hnc70 := NB139_129.out
                                    obtain ⟨hcz71_0, hcz71_1, hcz71_2, hcz71_3, hcz71_4, hcz71_5, hcz71_6, hfz71_0, hfz71_1, hfz71_2, hfz71_3, hfz71_4, hfz71_5, hfz71_6⟩ := blk_all7 BK129.out
                                    obtain ⟨hcz72_0, hcz72_1, hcz72_2, hcz72_3, hcz72_4, hcz72_5, hfz72_0, hfz72_1, hfz72_2, hfz72_3, hfz72_4, hfz72_5⟩ := blk_all6 BK139.out
                                    go_wp2
                                    go_ret
                                    exact ⟨by first | rfl | (simp [errW_none, errW_some] <;> rfl) | (simp [*, errW_none, errW_some] <;> rfl), by repeat (first | (with_reducible first | exact HB.out | apply below_alloc | apply pw_below_drewN | apply below_drew1 | refine below_set ?_ GE129.out | refine below_set ?_ GE139.out) | exact HB.out)⟩
                                · rw [if_neg c65] at H
                                  have c65b0 : ((rd_T38 l0 a1_1).f3) = false := by simpa using c65
                                  clear c65
                                  obtain rfl := Option.some.inj H
                                  have hnb73 := NB129_139.out
                                  have hnc73 := NB139_129.out
                                  obtain ⟨hcz74_0, hcz74_1, hcz74_2, hcz74_3, hcz74_4, hcz74_5, hcz74_6, hfz74_0, hfz74_1, hfz74_2, hfz74_3, hfz74_4, hfz74_5, hfz74_6⟩ := blk_all7 BK129.out
                                  obtain ⟨hcz75_0, hcz75_1, hcz75_2, hcz75_3, hcz75_4, hcz75_5, hfz75_0, hfz75_1, hfz75_2, hfz75_3, hfz75_4, hfz75_5⟩ := blk_all6 BK139.out
                                  go_wp2
                                  go_ret
                                  exact ⟨by first | rfl | (simp [errW_none, errW_some] <;> rfl) | (simp [*, errW_none, errW_some] <;> rfl), by repeat (first | (with_reducible first | exact HB.out | apply below_alloc | apply pw_below_drewN | apply below_drew1 | refine below_set ?_ GE129.out | refine below_set ?_ GE139.out) | exact HB.out)⟩
                              · rw [if_neg c64] at H
                                have c64b0 : (a1_0 == 2) = false := beq_eq_false_iff_ne.mpr c64
                                have c64b1 : (a1_0 != 2) = true := bne_iff_ne.mpr c64
                                obtain rfl := Option.some.inj H
                                have hnb76 := NB129_139.out
                                have hnc76 := NB139_129.out
                                obtain ⟨hcz77_0, hcz77_1, hcz77_2, hcz77_3, hcz77_4, hcz77_5, hcz77_6, hfz77_0, hfz77_1, hfz77_2, hfz77_3, hfz77_4, hfz77_5, hfz77_6⟩ := blk_all7 BK129.out
                                obtain ⟨hcz78_0, hcz78_1, hcz78_2, hcz78_3, hcz78_4, hcz78_5, hfz78_0, hfz78_1, hfz78_2, hfz78_3, hfz78_4, hfz78_5⟩ := blk_all6 BK139.out
                                go_wp2
                                go_ret
                                exact ⟨by first | rfl | (simp [errW_none, errW_some] <;> rfl) | (simp [*, errW_none, errW_some] <;> rfl), by repeat (first | (with_reducible first | exact HB.out | apply below_alloc | apply pw_below_drewN | apply below_drew1 | refine below_set ?_ GE129.out | refine below_set ?_ GE139.out) | exact HB.out)⟩
                            · rw [if_neg c63] at H
                              have c63b0 : decide (a1_4 ≤ ((rd_T38 l0 a1_1).f2)) = false := decide_eq_false c63
                              clear c63
                              obtain rfl := Option.some.inj H
                              have hnb79 := NB129_139.out
                              have hnc79 := NB139_129.out
                              obtain ⟨hcz80_0, hcz80_1, hcz80_2, hcz80_3, hcz80_4, hcz80_5, hcz80_6, hfz80_0, hfz80_1, hfz80_2, hfz80_3, hfz80_4, hfz80_5, hfz80_6⟩ := blk_all7 BK129.out
                              obtain ⟨hcz81_0, hcz81_1, hcz81_2, hcz81_3, hcz81_4, hcz81_5, hfz81_0, hfz81_1, hfz81_2, hfz81_3, hfz81_4, hfz81_5⟩ := blk_all6 BK139.out
                              go_wp2
                              go_ret
                              exact ⟨by first | rfl | (simp [errW_none, errW_some] <;> rfl) | (simp [*, errW_none, errW_some] <;> rfl), by repeat (first | (with_reducible first | exact HB.out | apply below_alloc | apply pw_below_drewN | apply below_drew1 | refine below_set ?_ GE129.out | refine below_set ?_ GE139.out) | exact HB.out)⟩
                          · rw [if_neg c62] at H
                            have c62b0 : decide (1 ≤ a1_4) = false := decide_eq_false c62
                            clear c62
                            obtain rfl := Option.some.inj H
                            have hnb82 := NB129_139.out
                            have hnc82 := NB139_129.out
                            obtain ⟨hcz83_0, hcz83_1, hcz83_2, hcz83_3, hcz83_4, hcz83_5, hcz83_6, hfz83_0, hfz83_1, hfz83_2, hfz83_3, hfz83_4, hfz83_5, hfz83_6⟩ := blk_all7 BK129.out
                            obtain ⟨hcz84_0, hcz84_1, hcz84_2, hcz84_3, hcz84_4, hcz84_5, hfz84_0, hfz84_1, hfz84_2, hfz84_3, hfz84_4, hfz84_5⟩ := blk_all6 BK139.out
                            go_wp2
                            go_ret
                            exact ⟨by first | rfl | (simp [errW_none, errW_some] <;> rfl) | (simp [*, errW_none, errW_some] <;> rfl), by repeat (first | (with_reducible first | exact HB.out | apply below_alloc | apply pw_below_drewN | apply below_drew1 | refine below_set ?_ GE129.out | refine below_set ?_ GE139.out) | exact HB.out)⟩
                        · rw [if_neg c61] at H
                          have c61b0 : decide (a1_2 ≤ ((rd_T38 l0 a1_1).f1)) = false := decide_eq_false c61
                          clear c61
                          obtain rfl := Option.some.inj H
                          have hnb85 := NB129_139.out
                          have hnc85 := NB139_129.out
                          obtain ⟨hcz86_0, hcz86_1, hcz86_2, hcz86_3, hcz86_4, hcz86_5, hcz86_6, hfz86_0, hfz86_1, hfz86_2, hfz86_3, hfz86_4, hfz86_5, hfz86_6⟩ := blk_all7 BK129.out
                          obtain ⟨hcz87_0, hcz87_1, hcz87_2, hcz87_3, hcz87_4, hcz87_5, hfz87_0, hfz87_1, hfz87_2, hfz87_3, hfz87_4, hfz87_5⟩ := blk_all6 BK139.out
                          go_wp2
                          go_ret
                          exact ⟨by first | rfl | (simp [errW_none, errW_some] <;> rfl) | (simp [*, errW_none, errW_some] <;> rfl), by repeat (first | (with_reducible first | exact HB.out | apply below_alloc | apply pw_below_drewN | apply below_drew1 | refine below_set ?_ GE129.out | refine below_set ?_ GE139.out) | exact HB.out)⟩
                      · rw [if_neg c60] at H
                        have c60b0 : decide (1 ≤ a1_2) = false := decide_eq_false c60
                        clear c60
                        obtain rfl := Option.some.inj H
                        have hnb88 := NB129_139.out
                        have hnc88 := NB139_129.out
                        obtain ⟨hcz89_0, hcz89_1, hcz89_2, hcz89_3, hcz89_4, hcz89_5, hcz89_6, hfz89_0, hfz89_1, hfz89_2, hfz89_3, hfz89_4, hfz89_5, hfz89_6⟩ := blk_all7 BK129.out
                        go_wp2
                        go_ret
                        exact ⟨by first | rfl | (simp [errW_none, errW_some] <;> rfl) | (simp [*, errW_none, errW_some] <;> rfl), by repeat (first | (with_reducible first | exact HB.out | apply below_alloc | apply pw_below_drewN | apply below_drew1 | refine below_set ?_ GE129.out | refine below_set ?_ GE139.out) | exact HB.out)⟩
                    · replace c59 := Bool.eq_false_iff.mpr c59
                      subst c59
                      have H1 : (if x7_43 = true then (if a1_0 = 2 then (if ((rd_T38 l0 a1_1).f3) = true then (if a1_5 = true then (some 140) else (some 0)) else (some 140)) else (some 0)) else (some 140)) = some r := by rw [if_neg (show ¬ (false = true) by decide)] at H; exact H
                      clear H
                      have H := H1
                      clear H1
                      by_cases c90 : x7_43 = true
                      · subst c90
                        have H1 : (if a1_0 = 2 then (if ((rd_T38 l0 a1_1).f3) = true then (if a1_5 = true then (some 140) else (some 0)) else (some 140)) else (some 0)) = some r := by rw [if_pos rfl] at H; exact H
                        clear H
                        have H := H1
                        clear H1
                        by_cases c91 : a1_0 = 2
                        · rw [if_pos c91] at H
                          have c91b0 : (a1_0 == 2) = true := beq_iff_eq.mpr c91
                          have c91b1 : (a1_0 != 2) = false := bne_eq_false_iff_eq.mpr c91
                          clear c91
                          by_cases c92 : ((rd_T38 l0 a1_1).f3) = true
                          · rw [if_pos c92] at H
                            have c92b0 : ((rd_T38 l0 a1_1).f3) = true := c92
                            clear c92
                            by_cases c93 : a1_5 = true
                            · subst c93
                              have H1 : (some 140) = some r := by rw [if_pos rfl] at H; exact H
                              clear H
                              have H := H1
                              clear H1
                              obtain rfl := Option.some.inj H
                              have hnb94 := NB129_139.out
                              have hnc94 := NB139_129.out
                              obtain ⟨hcz95_0, hcz95_1, hcz95_2, hcz95_3, hcz95_4, hcz95_5, hcz95_6, hfz95_0, hfz95_1, hfz95_2, hfz95_3, hfz95_4, hfz95_5, hfz95_6⟩ := blk_all7 BK129.out
                              obtain ⟨hcz96_0, hcz96_1, hcz96_2, hcz96_3, hcz96_4, hcz96_5, hfz96_0, hfz96_1, hfz96_2, hfz96_3, hfz96_4, hfz96_5⟩ := blk_all6 BK139.out
                              go_wp2
                              go_ret
                              exact ⟨by first | rfl | (simp [errW_none, errW_some] <;> rfl) | (simp [*, errW_none, errW_some] <;> rfl), by repeat (first | (with_reducible first | exact HB.out | apply below_alloc | apply pw_below_drewN | apply below_drew1 | refine below_set ?_ GE129.out | refine below_set ?_ GE139.out) | exact HB.out)⟩
                            · replace c93 := Bool.eq_false_iff.mpr c93
                              subst c93
                              have H1 : (some 0) = some r := by rw [if_neg (show ¬ (false = true) by decide)] at H; exact H
                              clear H
                              have H := H1
                              clear H1
                              obtain rfl := Option.some.inj H
                              have hnb97 := NB129_139.out
                              have hnc97 := NB139_129.out
                              obtain ⟨hcz98_0, hcz98_1, hcz98_2, hcz98_3, hcz98_4, hcz98_5, hcz98_6, hfz98_0, hfz98_1, hfz98_2, hfz98_3, hfz98_4, hfz98_5, hfz98_6⟩ := blk_all7 BK129.out
                              obtain ⟨hcz99_0, hcz99_1, hcz99_2, hcz99_3, hcz99_4, hcz99_5, hfz99_0, hfz99_1, hfz99_2, hfz99_3, hfz99_4, hfz99_5⟩ := blk_all6 BK139.out
                              go_wp2
                              go_ret
                              exact ⟨by first | rfl | (simp [errW_none, errW_some] <;> rfl) | (simp [*, errW_none, errW_some] <;> rfl), by repeat (first | (with_reducible first | exact HB.out | apply below_alloc | apply pw_below_drewN | apply below_drew1 | refine below_set ?_ GE129.out | refine below_set ?_ GE139.out) | exact HB.out)⟩
                          · rw [if_neg c92] at H
                            have c92b0 : ((rd_T38 l0 a1_1).f3) = false := by simpa using c92
                            clear c92
                            obtain rfl := Option.some.inj H
                            have hnb100 := NB129_139.out
                            have hnc100 := NB139_129.out
                            obtain ⟨hcz101_0, hcz101_1, hcz101_2, hcz101_3, hcz101_4, hcz101_5, hcz101_6, hfz101_0, hfz101_1, hfz101_2, hfz101_3, hfz101_4, hfz101_5, hfz101_6⟩ := blk_all7 BK129.out
                            obtain ⟨hcz102_0, hcz102_1, hcz102_2, hcz102_3, hcz102_4, hcz102_5, hfz102_0, hfz102_1, hfz102_2, hfz102_3, hfz102_4, hfz102_5⟩ := blk_all6 BK139.out
                            go_wp2
                            go_ret
                            exact ⟨by first | rfl | (simp [errW_none, errW_some] <;> rfl) | (simp [*, errW_none, errW_some] <;> rfl), by repeat (first | (with_reducible first | exact HB.out | apply below_alloc | apply pw_below_drewN | apply below_drew1 | refine below_set ?_ GE129.out | refine below_set ?_ GE139.out) | exact HB.out)⟩
                        · rw [if_neg c91] at H
                          have c91b0 : (a1_0 == 2) = false := beq_eq_false_iff_ne.mpr c91
                          have c91b1 : (a1_0 != 2) = true := bne_iff_ne.mpr c91
                          obtain rfl := Option.some.inj H
                          have hnb103 := NB129_139.out
                          have hnc103 := NB139_129.out
                          obtain ⟨hcz104_0, hcz104_1, hcz104_2, hcz104_3, hcz104_4, hcz104_5, hcz104_6, hfz104_0, hfz104_1, hfz104_2, hfz104_3, hfz104_4, hfz104_5, hfz104_6⟩ := blk_all7 BK129.out
                          go_wp2
                          go_ret
                          exact ⟨by first | rfl | (simp [errW_none, errW_some] <;> rfl) | (simp [*, errW_none, errW_some] <;> rfl), by repeat (first | (with_reducible first | exact HB.out | apply below_alloc | apply pw_below_drewN | apply below_drew1 | refine below_set ?_ GE129.out | refine below_set ?_ GE139.out) | exact HB.out)⟩
                      · replace c90 := Bool.eq_false_iff.mpr c90
                        subst c90
                        have H1 : (some 140) = some r := by rw [if_neg (show ¬ (false = true) by decide)] at H; exact H
                        clear H
                        have H := H1
                        clear H1
                        obtain rfl := Option.some.inj H
                        have hnb105 := NB129_139.out
                        have hnc105 := NB139_129.out
                        obtain ⟨hcz106_0, hcz106_1, hcz106_2, hcz106_3, hcz106_4, hcz106_5, hcz106_6, hfz106_0, hfz106_1, hfz106_2, hfz106_3, hfz106_4, hfz106_5, hfz106_6⟩ := blk_all7 BK129.out
                        go_wp2
                        go_ret
                        exact ⟨by first | rfl | (simp [errW_none, errW_some] <;> rfl) | (simp [*, errW_none, errW_some] <;> rfl), by repeat (first | (with_reducible first | exact HB.out | apply below_alloc | apply pw_below_drewN | apply below_drew1 | refine below_set ?_ GE129.out | refine below_set ?_ GE139.out) | exact HB.out)⟩
              · rw [if_neg c43] at H
                exact absurd H (by simp)
            · rw [if_neg c42] at H
              exact absurd H (by simp)
  · rw [if_neg c4] at H
    have c4b0 : (t130 == 0) = false := beq_eq_false_iff_ne.mpr c4
    have c4b1 : (t130 != 0) = true := bne_iff_ne.mpr c4
    obtain rfl := Option.some.inj H
    go_enter Try.func24, Try.ntmps24
    go_wp2_with (first | ((with_reducible refine gate_dst (N := 3) rfl ?_); (try (refine gate_guard (by rfl) ?_; dsimp only)); refine box_event ?hg (N := 3) ?hd (cs := #[.int .i64 a1_0, .int .i64 a1_1, .int .i64 a1_2, .bool a1_3, .int .i64 a1_4, .bool a1_5, .int .i64 a1_6]) (t := 28) ?hr ?_; (case hd => rfl); (case hg => rfl); (case hr => first | (go_simp; done) | (go_simp; rfl)); intro gb129 hg w107 hbox hb; have n0_ := Aside0.mk (below_step (by repeat (first | (with_reducible first | exact HB.out | apply below_alloc | apply pw_below_drewN | apply below_drew1) | exact HB.out)) hb); have n1_ := Aside0.mk (hbox); have n2_ := Aside0.mk ((by rw [hg]; exact (below_size (by repeat (first | (with_reducible first | exact HB.out | apply below_alloc | apply pw_below_drewN | apply below_drew1) | exact HB.out))) : w.heap.size ≤ gb129)); have n3_ := Aside0.mk ((by rw [hg]; exact (below_size (by repeat (first | (with_reducible first | exact HB.out | apply below_alloc | apply pw_below_drewN | apply below_drew1) | exact HB.out))) : w.heap.size ≤ gb129)); clear HB; have HB := n0_; have BK129 := n1_; have GW129 := n2_; have GE129 := n3_; clear n0_ n1_ n2_ n3_; clear hb hbox hg) | ((with_reducible refine gate_callee (f := 35) rfl ?_); refine goesL_ (some 9) rfl rfl Try.func35 (by kernel_rfl) rfl #[.slice A0 l0.length c0] rfl (by (try simp only [List.map_toArray, List.map_cons, List.map_nil]); first | done | rfl | (simp only [List.length_drop, List.length_take]; rfl)) ?_; (with_reducible refine (plan_Check.calls k _ _ l0 t130 _ ?side1 ?side2 A3.out).mono ?_); (case side1 => repeat (first | exact (Kd.C_below HR0.out HB.out) | (with_reducible refine Kd.C_alloc ?_ _) | (with_reducible refine Kd.C_drewN ?_ _) | (with_reducible refine Kd.C_drew ?_))); (case side2 => exact HC0.out); rintro e w108 ⟨rfl, hb⟩; refine ⟨_, rfl, ?_⟩; have n0_ := Aside0.mk (blk_below (g := gb129) (o := .cells #[.int .i64 a1_0, .int .i64 a1_1, .int .i64 a1_2, .bool a1_3, .int .i64 a1_4, .bool a1_5, .int .i64 a1_6] 28 (0, 0)) (by (with_reducible repeat (first | apply bd1 | apply bd2 | apply bd3)); exact BK129.out) hb); have n1_ := Aside0.mk (below_step (by repeat (first | (with_reducible first | exact HB.out | apply below_alloc | apply pw_below_drewN | apply below_drew1 | refine below_set ?_ GE129.out) | exact HB.out)) hb); clear BK129; clear HB; have BK129 := n0_; have HB := n1_; clear n0_ n1_; (try clear hb); (try clear hb2); (try clear hk); (try clear hi)))
    go_ret
    exact ⟨by first | rfl | (simp [errW_none, errW_some] <;> rfl) | (simp [*, errW_none, errW_some] <;> rfl), by repeat (first | (with_reducible first | exact HB.out | apply below_alloc | apply pw_below_drewN | apply below_drew1 | refine below_set ?_ GE129.out) | exact HB.out)⟩

end Go.Proofs.Yteefdhgfcnjpoaa.PA
