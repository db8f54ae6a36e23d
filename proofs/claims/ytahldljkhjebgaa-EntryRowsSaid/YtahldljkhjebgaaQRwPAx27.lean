-- printed by a program of this work (wip/tools/pr.py over the kit's print; laid by lift04.py): the machine's side of EntryRows
import Derived.Test.YtahldljkhjebgaaQRwPAx0
import Derived.Test.YtahldljkhjebgaaQRwPAx20
import Derived.Test.YtahldljkhjebgaaQRwPAx21
namespace Go.Proofs.Ytahldljkhjebgaa.PA
open Go.RowKit Go.Proofs.YtahldljkhjebgaaW.PrintWords Go.Proofs.YtahldljkhjebgaaW.PrintLast Go.Proofs.YtahldljkhjebgaaW.PrintMore
attribute [local go_sem] max2_int min2_int max_two min_two max_three min_three max_four min_four   -- for this text's walks alone
set_option linter.unusedVariables false
set_option linter.unusedSimpArgs false
set_option maxHeartbeats 8000000 in
set_option maxRecDepth 100000 in
theorem drayageref04_fields.calls_3 (k : Nat) (a0_0 : Int) (a0_1 : Int) (a0_2 : Int) (a0_3 : Int) (a0_4 : Int) (a0_5 : Bool) (a0_6 : Int) (a0_7 : Int) (a0_8 : Int) (P0_9_ : Nat → Prop) (A0_9 : Option Addr) (c0_9 : Nat) (l0_9 : List Int) (P0_10_ : Nat → Prop) (A0_10 : Option Addr) (c0_10 : Nat) (l0_10 : List Int) (r1 : List (S86)) (r2 : Bool) (w : World) (hs0_9 : Kd.V (Kd.int .u8) 5 w w.heap.size (fun k_ => P0_9_ k_) (.slice A0_9 l0_9.length c0_9) l0_9) (hs0_10 : Kd.V (Kd.int .u8) 5 w w.heap.size (fun k_ => P0_10_ k_) (.slice A0_10 l0_10.length c0_10) l0_10) (hk : Aside0 (a0_0 = 5)) (h : drayageref04_fields.f k a0_0 a0_1 a0_2 a0_3 a0_4 a0_5 a0_6 a0_7 a0_8 l0_9 l0_10 = some (r1, r2)) :
    Calls Try.prog 38 #[.agg #[.int .i64 a0_0, .int .u64 a0_1, .int .u32 a0_2, .int .u32 a0_3, .int .i64 a0_4, .bool a0_5, .int .i64 a0_6, .int .i64 a0_7, .int .u64 a0_8, .slice A0_9 l0_9.length c0_9, .slice A0_10 l0_10.length c0_10]] w fun e w' => ∃ v0_ : Value, e = .returned (.tuple #[v0_, .bool r2]) ∧ Kd.N k86 86 w' w.heap.size (fun k_ => ((P0_9_ k_ ∨ P0_10_ k_) ∨ w.heap.size ≤ k_)) v0_ r1 ∧ Below w.heap.size w w' := by
  have hu26 := Try.underlying26
  have hu86 := Try.underlying86
  have HO0_9 := Aside0.mk (show Kd.V (Kd.int .u8) 5 w w.heap.size (fun k_ => ((P0_9_ k_ ∨ P0_10_ k_) ∨ w.heap.size ≤ k_)) (.slice A0_9 l0_9.length c0_9) l0_9 from Kd.V_mono hs0_9 (fun k_ hk => .inl (.inl hk)))
  have HO0_10 := Aside0.mk (show Kd.V (Kd.int .u8) 5 w w.heap.size (fun k_ => ((P0_9_ k_ ∨ P0_10_ k_) ∨ w.heap.size ≤ k_)) (.slice A0_10 l0_10.length c0_10) l0_10 from Kd.V_mono hs0_10 (fun k_ hk => .inl (.inr hk)))
  have HB := Aside0.mk (Below.refl w.heap.size w)
  have H : ((some (([(⟨1, IntKind.u64.wrap (a0_0), ([] : List Int)⟩ : S86), (⟨8, a0_1, ([] : List Int)⟩ : S86), (⟨4, IntKind.u64.wrap (a0_2), ([] : List Int)⟩ : S86)] : List (S86)) : List (S86))).bind fun y154 => (if a0_5 = true then (drayageref04_fields.j0 k y154 1 a0_0 a0_1 a0_2 a0_3 a0_4 a0_5 a0_6 a0_7 a0_8 l0_9 l0_10 4 (IntKind.u64.wrap (a0_3))) else (drayageref04_fields.j0 k y154 0 a0_0 a0_1 a0_2 a0_3 a0_4 a0_5 a0_6 a0_7 a0_8 l0_9 l0_10 4 (IntKind.u64.wrap (a0_3))))) = some (r1, r2) := h
  clear h
  obtain ⟨y154, hy154⟩ : ∃ y_ : List (S86), y_ = (([(⟨1, IntKind.u64.wrap (a0_0), ([] : List Int)⟩ : S86), (⟨8, a0_1, ([] : List Int)⟩ : S86), (⟨4, IntKind.u64.wrap (a0_2), ([] : List Int)⟩ : S86)] : List (S86))) := ⟨_, rfl⟩
  replace H : (if a0_5 = true then (drayageref04_fields.j0 k y154 1 a0_0 a0_1 a0_2 a0_3 a0_4 a0_5 a0_6 a0_7 a0_8 l0_9 l0_10 4 (IntKind.u64.wrap (a0_3))) else (drayageref04_fields.j0 k y154 0 a0_0 a0_1 a0_2 a0_3 a0_4 a0_5 a0_6 a0_7 a0_8 l0_9 l0_10 4 (IntKind.u64.wrap (a0_3)))) = some (r1, r2) := by first | (rw [hy154]; with_reducible exact H) | (have H2_ := (Option.bind_some _ _).symm.trans H; rw [hy154]; with_reducible exact H2_) | (have H2_ := (Option.bind_some _ _).symm.trans H; with_reducible exact H2_) | with_reducible exact H | (rw [hy154]; exact H) | exact H
  have Ny154 := Aside0.mk hy154
  clear hy154
  have HC2 := Aside0.mk H
  clear H
  go_enter Try.func38, Try.ntmps38
  go_upto_if 25 with (first | ((with_reducible refine gate_dst (N := 1) rfl ?_); (try (refine gate_guard (by rfl) ?_; dsimp only)); refine box_event ?hg (N := 1) ?hd (cs := #[.int .i64 a0_0, .int .u64 a0_1, .int .u32 a0_2, .int .u32 a0_3, .int .i64 a0_4, .bool a0_5, .int .i64 a0_6, .int .i64 a0_7, .int .u64 a0_8, .slice A0_9 l0_9.length c0_9, .slice A0_10 l0_10.length c0_10]) (t := 26) ?hr ?_; (case hd => rfl); (case hg => rfl); (case hr => first | (go_simp; done) | (go_simp; rfl)); intro gb153 hg w3 hbox hb; have n0_ := Aside0.mk (Kd.V_below (Kd.V_elderB (by (with_reducible repeat (first | apply Kd.V_alloc | apply Kd.V_drewN | apply Kd.V_drew)); exact HO0_9.out) gb153 (Nat.le_of_eq hg.symm)) hb); have n1_ := Aside0.mk (Kd.V_below (Kd.V_elderB (by (with_reducible repeat (first | apply Kd.V_alloc | apply Kd.V_drewN | apply Kd.V_drew)); exact HO0_10.out) gb153 (Nat.le_of_eq hg.symm)) hb); have n2_ := Aside0.mk (below_step (by repeat (first | (with_reducible first | exact HB.out | apply below_alloc | apply pw_below_drewN | apply below_drew1) | exact HB.out)) hb); have n3_ := Aside0.mk (hbox); have n4_ := Aside0.mk ((by rw [hg]; exact (below_size (by repeat (first | (with_reducible first | exact HB.out | apply below_alloc | apply pw_below_drewN | apply below_drew1) | exact HB.out))) : w.heap.size ≤ gb153)); have n5_ := Aside0.mk ((by rw [hg]; exact (below_size (by repeat (first | (with_reducible first | exact HB.out | apply below_alloc | apply pw_below_drewN | apply below_drew1) | exact HB.out))) : w.heap.size ≤ gb153)); clear HO0_9; clear HO0_10; clear HB; have HO0_9 := n0_; have HO0_10 := n1_; have HB := n2_; have BK153 := n3_; have GW153 := n4_; have GE153 := n5_; clear n0_ n1_ n2_ n3_ n4_ n5_; clear hb hbox hg; obtain ⟨hcz4_0, hcz4_1, hcz4_2, hcz4_3, hcz4_4, hcz4_5, hcz4_6, hcz4_7, hcz4_8, hcz4_9, hcz4_10, hfz4_0, hfz4_1, hfz4_2, hfz4_3, hfz4_4, hfz4_5, hfz4_6, hfz4_7, hfz4_8, hfz4_9, hfz4_10⟩ := blk_all11 BK153.out) | ((with_reducible refine gate_dst (N := 19) rfl ?_); (try (refine gate_guard (by rfl) ?_; dsimp only)); refine Kd.N_lit k86 _ 86 ?hg (N' := 19) ?hd (xs := ([(⟨1, IntKind.u64.wrap (a0_0), ([] : List Int)⟩ : S86), (⟨8, a0_1, ([] : List Int)⟩ : S86), (⟨4, IntKind.u64.wrap (a0_2), ([] : List Int)⟩ : S86)] : List (S86))) (inner := [.int .i64 1, .int .u64 (IntKind.u64.wrap (a0_0)), .slice none 0 0, .int .i64 8, .int .u64 a0_1, .slice none 0 0, .int .i64 4, .int .u64 (IntKind.u64.wrap (a0_2)), .slice none 0 0]) (ok := (fun k_ => ((P0_9_ k_ ∨ P0_10_ k_) ∨ w.heap.size ≤ k_) ∧ k_ ≠ gb153)) (okp := (fun k_ => ((P0_9_ k_ ∨ P0_10_ k_) ∨ w.heap.size ≤ k_) ∧ k_ ≠ gb153)) ?hr ?hp (fun _ hk => hk) ((show ∀ k_, w3.heap.size ≤ k_ → (fun k_ => ((P0_9_ k_ ∨ P0_10_ k_) ∨ w.heap.size ≤ k_) ∧ k_ ≠ gb153) k_ from fun k_ hk => ⟨(.inr (Nat.le_trans (below_size (by repeat (first | (with_reducible first | exact HB.out | apply below_alloc | apply pw_below_drewN | apply below_drew1 | refine below_set ?_ GE153.out) | exact HB.out))) hk)), Kd.freshB (g := gb153) (o := .cells #[.int .i64 a0_0, .int .u64 a0_1, .int .u32 a0_2, .int .u32 a0_3, .int .i64 a0_4, .bool a0_5, .int .i64 a0_6, .int .i64 a0_7, .int .u64 a0_8, .slice A0_9 l0_9.length c0_9, .slice A0_10 l0_10.length c0_10] 26 (0, 0)) (by (with_reducible repeat (first | apply bd1 | apply bd2 | apply bd3)); exact BK153.out) k_ hk⟩) _ (Nat.le_refl _)) (Below.refl _ _) (Nat.le_refl _) (by simp) ?_; (case hd => rfl); (case hg => rfl); (case hr => first | (go_simp; done) | (go_simp; rfl)); (case hp => exact (Reps.c3 (show Kd.FK k86 _ _ (⟨1, IntKind.u64.wrap (a0_0), ([] : List Int)⟩ : S86) [.int .i64 1, .int .u64 (IntKind.u64.wrap (a0_0)), .slice none 0 0] from (k86_mkF _ _ (⟨1, IntKind.u64.wrap (a0_0), ([] : List Int)⟩ : S86) (Nat.le_refl _) (Kd.F_nil _ _ _))) (Reps.c3 (show Kd.FK k86 _ _ (⟨8, a0_1, ([] : List Int)⟩ : S86) [.int .i64 8, .int .u64 a0_1, .slice none 0 0] from (k86_mkF _ _ (⟨8, a0_1, ([] : List Int)⟩ : S86) (Nat.le_refl _) (Kd.F_nil _ _ _))) (Reps.c3 (show Kd.FK k86 _ _ (⟨4, IntKind.u64.wrap (a0_2), ([] : List Int)⟩ : S86) [.int .i64 4, .int .u64 (IntKind.u64.wrap (a0_2)), .slice none 0 0] from (k86_mkF _ _ (⟨4, IntKind.u64.wrap (a0_2), ([] : List Int)⟩ : S86) (Nat.le_refl _) (Kd.F_nil _ _ _))) (Reps.none _ _))))); intro v155 w5 ho6 hb hg_ hnew_; clear hg_ hnew_; (first | rw [← Ny154.out] at ho6 | (simp only [Int.reduceToNat] at ho6; rw [← Ny154.out] at ho6)); have n0_ := Aside0.mk (Kd.V_elder' (by (with_reducible repeat (first | apply Kd.V_alloc | apply Kd.V_drewN | apply Kd.V_drew)); exact HO0_9.out) (Kd.N_base ho6) hb); have n1_ := Aside0.mk (Kd.V_elder' (by (with_reducible repeat (first | apply Kd.V_alloc | apply Kd.V_drewN | apply Kd.V_drew)); exact HO0_10.out) (Kd.N_base ho6) hb); have n2_ := Aside0.mk (Kd.N_lower ho6 (below_size (by repeat (first | (with_reducible first | exact HB.out | apply below_alloc | apply pw_below_drewN | apply below_drew1 | refine below_set ?_ GE153.out) | exact HB.out)))); have n3_ := Aside0.mk (blk_below (g := gb153) (o := .cells #[.int .i64 a0_0, .int .u64 a0_1, .int .u32 a0_2, .int .u32 a0_3, .int .i64 a0_4, .bool a0_5, .int .i64 a0_6, .int .i64 a0_7, .int .u64 a0_8, .slice A0_9 l0_9.length c0_9, .slice A0_10 l0_10.length c0_10] 26 (0, 0)) (by (with_reducible repeat (first | apply bd1 | apply bd2 | apply bd3)); exact BK153.out) hb); have n4_ := Aside0.mk (below_step (by repeat (first | (with_reducible first | exact HB.out | apply below_alloc | apply pw_below_drewN | apply below_drew1 | refine below_set ?_ GE153.out) | exact HB.out)) hb); clear HO0_9; clear HO0_10; clear BK153; clear HB; have HO0_9 := n0_; have HO0_10 := n1_; have HO156 := n2_; have BK153 := n3_; have HB := n4_; clear n0_ n1_ n2_ n3_ n4_; clear hb ho6; obtain ⟨hcz7_0, hcz7_1, hcz7_2, hcz7_3, hcz7_4, hcz7_5, hcz7_6, hcz7_7, hcz7_8, hcz7_9, hcz7_10, hfz7_0, hfz7_1, hfz7_2, hfz7_3, hfz7_4, hfz7_5, hfz7_6, hfz7_7, hfz7_8, hfz7_9, hfz7_10⟩ := blk_all11 BK153.out) | ((with_reducible refine gate_dst (N := 5) rfl ?_); (try (refine gate_guard (by rfl) ?_; dsimp only)); refine box_event ?hg (N := 5) ?hd (cs := #[.int .i64 0, .int .u64 0, .slice none 0 0]) (t := 86) ?hr ?_; (case hd => rfl); (case hg => rfl); (case hr => first | (go_simp; done) | (go_simp; rfl)); intro gb157 hg w8 hbox hb; have n0_ := Aside0.mk (Kd.V_below (Kd.V_elderB (by (with_reducible repeat (first | apply Kd.V_alloc | apply Kd.V_drewN | apply Kd.V_drew)); exact HO0_9.out) gb157 (Nat.le_of_eq hg.symm)) hb); have n1_ := Aside0.mk (Kd.V_below (Kd.V_elderB (by (with_reducible repeat (first | apply Kd.V_alloc | apply Kd.V_drewN | apply Kd.V_drew)); exact HO0_10.out) gb157 (Nat.le_of_eq hg.symm)) hb); have n2_ := Aside0.mk (Kd.N_below (Kd.N_elderB (by (with_reducible repeat (first | apply Kd.N_alloc | apply Kd.N_drewN | apply Kd.N_drew)); exact HO156.out) gb157 (Nat.le_of_eq hg.symm)) hb); have n3_ := Aside0.mk (blk_below (g := gb153) (o := .cells #[.int .i64 a0_0, .int .u64 a0_1, .int .u32 a0_2, .int .u32 a0_3, .int .i64 a0_4, .bool a0_5, .int .i64 a0_6, .int .i64 a0_7, .int .u64 a0_8, .slice A0_9 l0_9.length c0_9, .slice A0_10 l0_10.length c0_10] 26 (0, 0)) (by (with_reducible repeat (first | apply bd1 | apply bd2 | apply bd3)); exact BK153.out) hb); have n4_ := Aside0.mk (below_step (by repeat (first | (with_reducible first | exact HB.out | apply below_alloc | apply pw_below_drewN | apply below_drew1 | refine below_set ?_ GE153.out) | exact HB.out)) hb); have n5_ := Aside0.mk (hbox); have n6_ := Aside0.mk ((by rw [hg]; exact (below_size (by repeat (first | (with_reducible first | exact HB.out | apply below_alloc | apply pw_below_drewN | apply below_drew1 | refine below_set ?_ GE153.out) | exact HB.out))) : w.heap.size ≤ gb157)); have n7_ := Aside0.mk ((by rw [hg]; exact (below_size (by repeat (first | (with_reducible first | exact HB.out | apply below_alloc | apply pw_below_drewN | apply below_drew1 | refine below_set ?_ GE153.out) | exact HB.out))) : w.heap.size ≤ gb157)); have n8_ := Aside0.mk ((by rw [hg]; exact Nat.ne_of_lt (blk_lt (g := gb153) (o := .cells #[.int .i64 a0_0, .int .u64 a0_1, .int .u32 a0_2, .int .u32 a0_3, .int .i64 a0_4, .bool a0_5, .int .i64 a0_6, .int .i64 a0_7, .int .u64 a0_8, .slice A0_9 l0_9.length c0_9, .slice A0_10 l0_10.length c0_10] 26 (0, 0)) (by (with_reducible repeat (first | apply bd1 | apply bd2 | apply bd3)); exact BK153.out)) : gb153 ≠ gb157)); have n9_ := Aside0.mk ((by rw [hg]; exact Nat.ne_of_gt (blk_lt (g := gb153) (o := .cells #[.int .i64 a0_0, .int .u64 a0_1, .int .u32 a0_2, .int .u32 a0_3, .int .i64 a0_4, .bool a0_5, .int .i64 a0_6, .int .i64 a0_7, .int .u64 a0_8, .slice A0_9 l0_9.length c0_9, .slice A0_10 l0_10.length c0_10] 26 (0, 0)) (by (with_reducible repeat (first | apply bd1 | apply bd2 | apply bd3)); exact BK153.out)) : gb157 ≠ gb153)); clear HO0_9; clear HO0_10; clear HO156; clear BK153; clear HB; have HO0_9 := n0_; have HO0_10 := n1_; have HO156 := n2_; have BK153 := n3_; have HB := n4_; have BK157 := n5_; have GW157 := n6_; have GE157 := n7_; have NB153_157 := n8_; have NB157_153 := n9_; clear n0_ n1_ n2_ n3_ n4_ n5_ n6_ n7_ n8_ n9_; clear hb hbox hg; have hnb9 := NB157_153.out; have hnc9 := NB153_157.out; obtain ⟨hcz10_0, hcz10_1, hcz10_2, hfz10_0, hfz10_1, hfz10_2⟩ := blk_all3 BK157.out; obtain ⟨hcz11_0, hcz11_1, hcz11_2, hcz11_3, hcz11_4, hcz11_5, hcz11_6, hcz11_7, hcz11_8, hcz11_9, hcz11_10, hfz11_0, hfz11_1, hfz11_2, hfz11_3, hfz11_4, hfz11_5, hfz11_6, hfz11_7, hfz11_8, hfz11_9, hfz11_10⟩ := blk_all11 BK153.out))
  repeat (go_quiet (fail); try go_wp2)
  (try simp only [Act.put, List.setIfInBounds_toArray, List.set_cons_zero, List.set_cons_succ])
  go_cut [6] (fun v6 wc => ∃ (kq : Nat) (x6_1 : Int), v6 = .int .u64 x6_1 ∧ Aside0 (drayageref04_fields.j0 kq y154 x6_1 a0_0 a0_1 a0_2 a0_3 a0_4 a0_5 a0_6 a0_7 a0_8 l0_9 l0_10 4 (IntKind.u64.wrap (a0_3)) = some (r1, r2)) ∧ Aside0 (kq ≤ k) ∧ Aside0 (Kd.N k86 86 wc w.heap.size (fun k_ => ((P0_9_ k_ ∨ P0_10_ k_) ∨ w.heap.size ≤ k_) ∧ k_ ≠ gb153 ∧ k_ ≠ gb157) v155 y154) ∧ Aside0 (Kd.V (Kd.int .u8) 5 wc w.heap.size (fun k_ => ((P0_9_ k_ ∨ P0_10_ k_) ∨ w.heap.size ≤ k_) ∧ some k_ ≠ (v155 : Value).ownBlock ∧ k_ ≠ gb153 ∧ k_ ≠ gb157) (.slice A0_9 l0_9.length c0_9) l0_9) ∧ Aside0 (Kd.V (Kd.int .u8) 5 wc w.heap.size (fun k_ => ((P0_9_ k_ ∨ P0_10_ k_) ∨ w.heap.size ≤ k_) ∧ some k_ ≠ (v155 : Value).ownBlock ∧ k_ ≠ gb153 ∧ k_ ≠ gb157) (.slice A0_10 l0_10.length c0_10) l0_10) ∧ Aside0 (wc.heap[gb153]? = some (.cells #[.int .i64 a0_0, .int .u64 a0_1, .int .u32 a0_2, .int .u32 a0_3, .int .i64 a0_4, .bool a0_5, .int .i64 a0_6, .int .i64 a0_7, .int .u64 a0_8, (.slice A0_9 l0_9.length c0_9), (.slice A0_10 l0_10.length c0_10)] 26 (0, 0))) ∧ Aside0 (wc.heap[gb157]? = some (.cells #[.int .i64 4, .int .u64 (IntKind.u64.wrap (a0_3)), (.slice none 0 0)] 86 (0, 0))) ∧ Aside0 (Below w.heap.size w wc))
  case first =>
    have H := HC2.out
    clear HC2
    by_cases c12 : a0_5 = true
    · subst c12
      have H1 : (drayageref04_fields.j0 k y154 1 a0_0 a0_1 a0_2 a0_3 a0_4 true a0_6 a0_7 a0_8 l0_9 l0_10 4 (IntKind.u64.wrap (a0_3))) = some (r1, r2) := by rw [if_pos rfl] at H; exact H
      clear H
      have H := H1
      clear H1
      have H' := Aside0.mk H
      clear H
      go_wp2
      repeat (go_quiet (fail); try go_wp2)
      go_meet
      case rel => exact ⟨_, (1), (by first | rfl | (simp; done) | (simp [*]; done)), H', ⟨by first | omega | exact Nat.le_refl _⟩, ⟨by (with_reducible repeat (first | apply Kd.N_alloc | apply Kd.N_drewN | apply Kd.N_drew)); exact Kd.N_mono (Kd.N_far (p := ⟨gb157, 2, none⟩) (Kd.N_far (p := ⟨gb157, 1, none⟩) (Kd.N_far (p := ⟨gb157, 0, none⟩) (Kd.N_mono HO156.out (fun k_ hk => (⟨hk, hk.2⟩ : _ ∧ k_ ≠ gb157))) (fun _ hk => hk.2) (.int .i64 4)) (fun _ hk => hk.2) (.int .u64 (IntKind.u64.wrap (a0_3)))) (fun _ hk => hk.2) (.slice none 0 0)) (fun _ hk => ⟨hk.1.1.1, ⟨hk.1.1.2, hk.1.2⟩⟩)⟩, ⟨by (with_reducible repeat (first | apply Kd.V_alloc | apply Kd.V_drewN | apply Kd.V_drew)); exact Kd.V_mono (Kd.V_far (p := ⟨gb157, 2, none⟩) (Kd.V_far (p := ⟨gb157, 1, none⟩) (Kd.V_far (p := ⟨gb157, 0, none⟩) (Kd.V_mono HO0_9.out (fun k_ hk => (⟨hk, hk.2⟩ : _ ∧ k_ ≠ gb157))) (fun _ hk => hk.2) (.int .i64 4)) (fun _ hk => hk.2) (.int .u64 (IntKind.u64.wrap (a0_3)))) (fun _ hk => hk.2) (.slice none 0 0)) (fun _ hk => ⟨hk.1.1.1.1, ⟨hk.1.1.2, ⟨hk.1.1.1.2, hk.1.2⟩⟩⟩)⟩, ⟨by (with_reducible repeat (first | apply Kd.V_alloc | apply Kd.V_drewN | apply Kd.V_drew)); exact Kd.V_mono (Kd.V_far (p := ⟨gb157, 2, none⟩) (Kd.V_far (p := ⟨gb157, 1, none⟩) (Kd.V_far (p := ⟨gb157, 0, none⟩) (Kd.V_mono HO0_10.out (fun k_ hk => (⟨hk, hk.2⟩ : _ ∧ k_ ≠ gb157))) (fun _ hk => hk.2) (.int .i64 4)) (fun _ hk => hk.2) (.int .u64 (IntKind.u64.wrap (a0_3)))) (fun _ hk => hk.2) (.slice none 0 0)) (fun _ hk => ⟨hk.1.1.1.1, ⟨hk.1.1.2, ⟨hk.1.1.1.2, hk.1.2⟩⟩⟩)⟩, ⟨by (with_reducible repeat (first | apply bd1 | apply bd2 | apply bd3)); refine blk_far ?_ NB153_157.out _; (with_reducible repeat (first | apply bd1 | apply bd2 | apply bd3)); refine blk_far ?_ NB153_157.out _; (with_reducible repeat (first | apply bd1 | apply bd2 | apply bd3)); refine blk_far ?_ NB153_157.out _; (with_reducible repeat (first | apply bd1 | apply bd2 | apply bd3)); exact BK153.out⟩, ⟨by (with_reducible repeat (first | apply bd1 | apply bd2 | apply bd3)); refine blk_put (cs := #[.int .i64 4, .int .u64 (IntKind.u64.wrap (a0_3)), .slice none 0 0]) ?_ 2 _ rfl; (with_reducible repeat (first | apply bd1 | apply bd2 | apply bd3)); refine blk_put (cs := #[.int .i64 4, .int .u64 0, .slice none 0 0]) ?_ 1 _ rfl; (with_reducible repeat (first | apply bd1 | apply bd2 | apply bd3)); refine blk_put (cs := #[.int .i64 0, .int .u64 0, .slice none 0 0]) ?_ 0 _ rfl; (with_reducible repeat (first | apply bd1 | apply bd2 | apply bd3)); exact BK157.out⟩, ⟨by repeat (first | (with_reducible first | exact HB.out | apply below_alloc | apply pw_below_drewN | apply below_drew1 | refine below_set ?_ GE153.out | refine below_set ?_ GE157.out) | exact HB.out)⟩⟩
    · replace c12 := Bool.eq_false_iff.mpr c12
      subst c12
      have H1 : (drayageref04_fields.j0 k y154 0 a0_0 a0_1 a0_2 a0_3 a0_4 false a0_6 a0_7 a0_8 l0_9 l0_10 4 (IntKind.u64.wrap (a0_3))) = some (r1, r2) := by rw [if_neg (show ¬ (false = true) by decide)] at H; exact H
      clear H
      have H := H1
      clear H1
      have H' := Aside0.mk H
      clear H
      go_wp2
      repeat (go_quiet (fail); try go_wp2)
      go_meet
      case rel => exact ⟨_, (0), (by first | rfl | (simp; done) | (simp [*]; done)), H', ⟨by first | omega | exact Nat.le_refl _⟩, ⟨by (with_reducible repeat (first | apply Kd.N_alloc | apply Kd.N_drewN | apply Kd.N_drew)); exact Kd.N_mono (Kd.N_far (p := ⟨gb157, 2, none⟩) (Kd.N_far (p := ⟨gb157, 1, none⟩) (Kd.N_far (p := ⟨gb157, 0, none⟩) (Kd.N_mono HO156.out (fun k_ hk => (⟨hk, hk.2⟩ : _ ∧ k_ ≠ gb157))) (fun _ hk => hk.2) (.int .i64 4)) (fun _ hk => hk.2) (.int .u64 (IntKind.u64.wrap (a0_3)))) (fun _ hk => hk.2) (.slice none 0 0)) (fun _ hk => ⟨hk.1.1.1, ⟨hk.1.1.2, hk.1.2⟩⟩)⟩, ⟨by (with_reducible repeat (first | apply Kd.V_alloc | apply Kd.V_drewN | apply Kd.V_drew)); exact Kd.V_mono (Kd.V_far (p := ⟨gb157, 2, none⟩) (Kd.V_far (p := ⟨gb157, 1, none⟩) (Kd.V_far (p := ⟨gb157, 0, none⟩) (Kd.V_mono HO0_9.out (fun k_ hk => (⟨hk, hk.2⟩ : _ ∧ k_ ≠ gb157))) (fun _ hk => hk.2) (.int .i64 4)) (fun _ hk => hk.2) (.int .u64 (IntKind.u64.wrap (a0_3)))) (fun _ hk => hk.2) (.slice none 0 0)) (fun _ hk => ⟨hk.1.1.1.1, ⟨hk.1.1.2, ⟨hk.1.1.1.2, hk.1.2⟩⟩⟩)⟩, ⟨by (with_reducible repeat (first | apply Kd.V_alloc | apply Kd.V_drewN | apply Kd.V_drew)); exact Kd.V_mono (Kd.V_far (p := ⟨gb157, 2, none⟩) (Kd.V_far (p := ⟨gb157, 1, none⟩) (Kd.V_far (p := ⟨gb157, 0, none⟩) (Kd.V_mono HO0_10.out (fun k_ hk => (⟨hk, hk.2⟩ : _ ∧ k_ ≠ gb157))) (fun _ hk => hk.2) (.int .i64 4)) (fun _ hk => hk.2) (.int .u64 (IntKind.u64.wrap (a0_3)))) (fun _ hk => hk.2) (.slice none 0 0)) (fun _ hk => ⟨hk.1.1.1.1, ⟨hk.1.1.2, ⟨hk.1.1.1.2, hk.1.2⟩⟩⟩)⟩, ⟨by (with_reducible repeat (first | apply bd1 | apply bd2 | apply bd3)); refine blk_far ?_ NB153_157.out _; (with_reducible repeat (first | apply bd1 | apply bd2 | apply bd3)); refine blk_far ?_ NB153_157.out _; (with_reducible repeat (first | apply bd1 | apply bd2 | apply bd3)); refine blk_far ?_ NB153_157.out _; (with_reducible repeat (first | apply bd1 | apply bd2 | apply bd3)); exact BK153.out⟩, ⟨by (with_reducible repeat (first | apply bd1 | apply bd2 | apply bd3)); refine blk_put (cs := #[.int .i64 4, .int .u64 (IntKind.u64.wrap (a0_3)), .slice none 0 0]) ?_ 2 _ rfl; (with_reducible repeat (first | apply bd1 | apply bd2 | apply bd3)); refine blk_put (cs := #[.int .i64 4, .int .u64 0, .slice none 0 0]) ?_ 1 _ rfl; (with_reducible repeat (first | apply bd1 | apply bd2 | apply bd3)); refine blk_put (cs := #[.int .i64 0, .int .u64 0, .slice none 0 0]) ?_ 0 _ rfl; (with_reducible repeat (first | apply bd1 | apply bd2 | apply bd3)); exact BK157.out⟩, ⟨by repeat (first | (with_reducible first | exact HB.out | apply below_alloc | apply pw_below_drewN | apply below_drew1 | refine below_set ?_ GE153.out | refine below_set ?_ GE157.out) | exact HB.out)⟩⟩
  case rest =>
    clear HC2
    try clear hcz10_0
    try clear hcz10_1
    try clear hcz10_2
    try clear hcz11_0
    try clear hcz11_1
    try clear hcz11_10
    try clear hcz11_2
    try clear hcz11_3
    try clear hcz11_4
    try clear hcz11_5
    try clear hcz11_6
    try clear hcz11_7
    try clear hcz11_8
    try clear hcz11_9
    try clear hcz4_0
    try clear hcz4_1
    try clear hcz4_10
    try clear hcz4_2
    try clear hcz4_3
    try clear hcz4_4
    try clear hcz4_5
    try clear hcz4_6
    try clear hcz4_7
    try clear hcz4_8
    try clear hcz4_9
    try clear hcz7_0
    try clear hcz7_1
    try clear hcz7_10
    try clear hcz7_2
    try clear hcz7_3
    try clear hcz7_4
    try clear hcz7_5
    try clear hcz7_6
    try clear hcz7_7
    try clear hcz7_8
    try clear hcz7_9
    try clear hfz10_0
    try clear hfz10_1
    try clear hfz10_2
    try clear hfz11_0
    try clear hfz11_1
    try clear hfz11_10
    try clear hfz11_2
    try clear hfz11_3
    try clear hfz11_4
    try clear hfz11_5
    try clear hfz11_6
    try clear hfz11_7
    try clear hfz11_8
    try clear hfz11_9
    try clear hfz4_0
    try clear hfz4_1
    try clear hfz4_10
    try clear hfz4_2
    try clear hfz4_3
    try clear hfz4_4
    try clear hfz4_5
    try clear hfz4_6
    try clear hfz4_7
    try clear hfz4_8
    try clear hfz4_9
    try clear hfz7_0
    try clear hfz7_1
    try clear hfz7_10
    try clear hfz7_2
    try clear hfz7_3
    try clear hfz7_4
    try clear hfz7_5
    try clear hfz7_6
    try clear hfz7_7
    try clear hfz7_8
    try clear hfz7_9
    obtain ⟨kq, x6_1, rfl, HA, HJ1, HO_4, HO_154009, HO_154010, BK153, BK157, HB⟩ := hcut
    cases kq with
    | zero => exact absurd HA.out (by simp [drayageref04_fields.j0])
    | succ kj1 =>
      have H := HA.out
      clear HA
      simp only [drayageref04_fields.j0] at H
      by_cases c13 : a0_0 = 1
      · exact absurd c13 (by have hk_ := hk.out; omega)
      · rw [if_neg c13] at H
        have c13b0 : (a0_0 == 1) = false := beq_eq_false_iff_ne.mpr c13
        have c13b1 : (a0_0 != 1) = true := bne_iff_ne.mpr c13
        by_cases c16 : a0_0 = 2
        · exact absurd c16 (by have hk_ := hk.out; omega)
        · rw [if_neg c16] at H
          have c16b0 : (a0_0 == 2) = false := beq_eq_false_iff_ne.mpr c16
          have c16b1 : (a0_0 != 2) = true := bne_iff_ne.mpr c16
          have HC37 := Aside0.mk H
          clear H
          have hnb38 := NB153_157.out
          have hnc38 := NB157_153.out
          obtain ⟨hcz39_0, hcz39_1, hcz39_2, hcz39_3, hcz39_4, hcz39_5, hcz39_6, hcz39_7, hcz39_8, hcz39_9, hcz39_10, hfz39_0, hfz39_1, hfz39_2, hfz39_3, hfz39_4, hfz39_5, hfz39_6, hfz39_7, hfz39_8, hfz39_9, hfz39_10⟩ := blk_all11 BK153.out
          go_upto_if 65 with (fail)
          repeat (go_quiet (fail); go_upto_if 65 with (fail))
          go_cut [65] (fun v65 wc => ∃ (kq : Nat) (x65_36 : Bool), v65 = .bool x65_36 ∧ Aside0 (drayageref04_fields.j2 kq y154 x6_1 a0_0 x65_36 a0_0 a0_1 a0_2 a0_3 a0_4 a0_5 a0_6 a0_7 a0_8 l0_9 l0_10 4 (IntKind.u64.wrap (a0_3)) = some (r1, r2)) ∧ Aside0 (kq ≤ kj1) ∧ Aside0 (Kd.N k86 86 wc w.heap.size (fun k_ => ((P0_9_ k_ ∨ P0_10_ k_) ∨ w.heap.size ≤ k_) ∧ k_ ≠ gb153 ∧ k_ ≠ gb157) v155 y154) ∧ Aside0 (Kd.V (Kd.int .u8) 5 wc w.heap.size (fun k_ => ((P0_9_ k_ ∨ P0_10_ k_) ∨ w.heap.size ≤ k_) ∧ some k_ ≠ (v155 : Value).ownBlock ∧ k_ ≠ gb153 ∧ k_ ≠ gb157) (.slice A0_9 l0_9.length c0_9) l0_9) ∧ Aside0 (Kd.V (Kd.int .u8) 5 wc w.heap.size (fun k_ => ((P0_9_ k_ ∨ P0_10_ k_) ∨ w.heap.size ≤ k_) ∧ some k_ ≠ (v155 : Value).ownBlock ∧ k_ ≠ gb153 ∧ k_ ≠ gb157) (.slice A0_10 l0_10.length c0_10) l0_10) ∧ Aside0 (wc.heap[gb153]? = some (.cells #[.int .i64 a0_0, .int .u64 a0_1, .int .u32 a0_2, .int .u32 a0_3, .int .i64 a0_4, .bool a0_5, .int .i64 a0_6, .int .i64 a0_7, .int .u64 a0_8, (.slice A0_9 l0_9.length c0_9), (.slice A0_10 l0_10.length c0_10)] 26 (0, 0))) ∧ Aside0 (wc.heap[gb157]? = some (.cells #[.int .i64 4, .int .u64 (IntKind.u64.wrap (a0_3)), (.slice none 0 0)] 86 (0, 0))) ∧ Aside0 (Below w.heap.size w wc) ∧ Aside0 (x65_36 = true → (a0_0 = 3 ∨ a0_0 = 4)))
          case first =>
            have H := HC37.out
            clear HC37
            by_cases c40 : a0_0 = 3
            · exact absurd c40 (by have hk_ := hk.out; omega)
            · rw [if_neg c40] at H
              have c40b0 : (a0_0 == 3) = false := beq_eq_false_iff_ne.mpr c40
              have c40b1 : (a0_0 != 3) = true := bne_iff_ne.mpr c40
              (first | rw [c40b0] | (simp only [i64_w, i32_w]; rw [c40b0]) | skip)
              have H' := Aside0.mk H
              clear H
              go_wp2
              repeat (go_quiet (fail); try go_wp2)
              go_meet
              case rel => exact ⟨_, ((a0_0 == 4)), (by first | rfl | (simp; done) | (simp [*]; done)), H', ⟨by have := HJ1.out; first | omega | exact Nat.le_refl _⟩, ⟨by (with_reducible repeat (first | apply Kd.N_alloc | apply Kd.N_drewN | apply Kd.N_drew)); exact HO_4.out⟩, ⟨by (with_reducible repeat (first | apply Kd.V_alloc | apply Kd.V_drewN | apply Kd.V_drew)); exact HO_154009.out⟩, ⟨by (with_reducible repeat (first | apply Kd.V_alloc | apply Kd.V_drewN | apply Kd.V_drew)); exact HO_154010.out⟩, ⟨by (with_reducible repeat (first | apply bd1 | apply bd2 | apply bd3)); exact BK153.out⟩, ⟨by (with_reducible repeat (first | apply bd1 | apply bd2 | apply bd3)); exact BK157.out⟩, ⟨by repeat (first | (with_reducible first | exact HB.out | apply below_alloc | apply pw_below_drewN | apply below_drew1 | refine below_set ?_ GE153.out | refine below_set ?_ GE157.out) | exact HB.out)⟩, ⟨fun h => Or.inr (beq_iff_eq.mp h)⟩⟩
          case rest =>
            clear HC37
            try clear c13
            try clear c13b0
            try clear c13b1
            try clear c16
            try clear c16b0
            try clear c16b1
            try clear hcz39_0
            try clear hcz39_1
            try clear hcz39_10
            try clear hcz39_2
            try clear hcz39_3
            try clear hcz39_4
            try clear hcz39_5
            try clear hcz39_6
            try clear hcz39_7
            try clear hcz39_8
            try clear hcz39_9
            try clear hfz39_0
            try clear hfz39_1
            try clear hfz39_10
            try clear hfz39_2
            try clear hfz39_3
            try clear hfz39_4
            try clear hfz39_5
            try clear hfz39_6
            try clear hfz39_7
            try clear hfz39_8
            try clear hfz39_9
            obtain ⟨kq, x65_36, rfl, HA, HJ36, HO_4, HO_154009, HO_154010, BK153, BK157, HB, HX65⟩ := hcut
            cases kq with
            | zero => exact absurd HA.out (by simp [drayageref04_fields.j2])
            | succ kj36 =>
              have H := HA.out
              clear HA
              simp only [drayageref04_fields.j2] at H
              by_cases c41 : x65_36 = true
              · exact absurd (HX65.out c41) (by have hk_ := hk.out; omega)
              · replace c41 := Bool.eq_false_iff.mpr c41
                subst c41
                have H1 : (if a0_0 = 5 then ((some (([(⟨4, (IntKind.u64.wrap (a0_3)), ([] : List Int)⟩ : S86), (⟨1, IntKind.u64.wrap (a0_7), ([] : List Int)⟩ : S86)] : List (S86)) : List (S86))).bind fun y173 => (if y154.length + y173.length < 3518437208883 then ((some (y154 ++ y173 : List (S86))).bind fun y176 => (if a0_3 ≥ 1 then (if a0_7 ≥ 1 then (drayageref04_fields.j6 kj36 y176 (decide (a0_7 ≤ 3))) else (drayageref04_fields.j6 kj36 y176 false)) else (drayageref04_fields.j6 kj36 y176 false))) else (none))) else (if a0_0 = 6 then (if y154.length < 3518437208883 then ((some (y154 ++ [(⟨1, IntKind.u64.wrap (a0_7), ([] : List Int)⟩ : S86)] : List (S86))).bind fun y179 => (if a0_7 = 1 then (some (y179, true)) else (some (y179, (a0_7 == 2))))) else (none)) else (if a0_0 = 7 then (if y154.length < 3518437208883 then (some ((y154 ++ [(⟨8, a0_8, ([] : List Int)⟩ : S86)]), decide (a0_8 < a0_1))) else (none)) else (some (([] : List (S86)), false))))) = some (r1, r2) := by rw [if_neg (show ¬ (false = true) by decide)] at H; exact H
                clear H
                have H := H1
                clear H1
                by_cases c80 : a0_0 = 5
                · rw [if_pos c80] at H
                  have c80b0 : (a0_0 == 5) = true := beq_iff_eq.mpr c80
                  have c80b1 : (a0_0 != 5) = false := bne_eq_false_iff_eq.mpr c80
                  clear c80
                  obtain ⟨y173, hy173⟩ : ∃ y_ : List (S86), y_ = (([(⟨4, (IntKind.u64.wrap (a0_3)), ([] : List Int)⟩ : S86), (⟨1, IntKind.u64.wrap (a0_7), ([] : List Int)⟩ : S86)] : List (S86))) := ⟨_, rfl⟩
                  replace H : (if y154.length + y173.length < 3518437208883 then ((some (y154 ++ y173 : List (S86))).bind fun y176 => (if a0_3 ≥ 1 then (if a0_7 ≥ 1 then (drayageref04_fields.j6 kj36 y176 (decide (a0_7 ≤ 3))) else (drayageref04_fields.j6 kj36 y176 false)) else (drayageref04_fields.j6 kj36 y176 false))) else (none)) = some (r1, r2) := by first | (rw [hy173]; with_reducible exact H) | (have H2_ := (Option.bind_some _ _).symm.trans H; rw [hy173]; with_reducible exact H2_) | (have H2_ := (Option.bind_some _ _).symm.trans H; with_reducible exact H2_) | with_reducible exact H | (rw [hy173]; exact H) | exact H
                  have Ny173 := Aside0.mk hy173
                  clear hy173
                  by_cases c81 : y154.length + y173.length < 3518437208883
                  · rw [if_pos c81] at H
                    have LMc81 := Aside0.mk c81
                    clear c81
                    obtain ⟨y176, hy176⟩ : ∃ y_ : List (S86), y_ = (y154 ++ y173) := ⟨_, rfl⟩
                    replace H : (if a0_3 ≥ 1 then (if a0_7 ≥ 1 then (drayageref04_fields.j6 kj36 y176 (decide (a0_7 ≤ 3))) else (drayageref04_fields.j6 kj36 y176 false)) else (drayageref04_fields.j6 kj36 y176 false)) = some (r1, r2) := by first | (rw [hy176]; with_reducible exact H) | (have H2_ := (Option.bind_some _ _).symm.trans H; rw [hy176]; with_reducible exact H2_) | (have H2_ := (Option.bind_some _ _).symm.trans H; with_reducible exact H2_) | with_reducible exact H | (rw [hy176]; exact H) | exact H
                    have Ny176 := Aside0.mk hy176
                    clear hy176
                    have HC82 := Aside0.mk H
                    clear H
                    have hnb83 := NB157_153.out
                    have hnc83 := NB153_157.out
                    obtain ⟨hcz84_0, hcz84_1, hcz84_2, hfz84_0, hfz84_1, hfz84_2⟩ := blk_all3 BK157.out
                    obtain ⟨hcz85_0, hcz85_1, hcz85_2, hcz85_3, hcz85_4, hcz85_5, hcz85_6, hcz85_7, hcz85_8, hcz85_9, hcz85_10, hfz85_0, hfz85_1, hfz85_2, hfz85_3, hfz85_4, hfz85_5, hfz85_6, hfz85_7, hfz85_8, hfz85_9, hfz85_10⟩ := blk_all11 BK153.out
                    go_upto_region 22 with (first | ((with_reducible refine gate_dst (N := 136) rfl ?_); (try (refine gate_guard (by rfl) ?_; dsimp only)); refine Kd.N_lit k86 _ 86 ?hg (N' := 136) ?hd (xs := ([(⟨4, (IntKind.u64.wrap (a0_3)), ([] : List Int)⟩ : S86), (⟨1, IntKind.u64.wrap (a0_7), ([] : List Int)⟩ : S86)] : List (S86))) (inner := [.int .i64 4, .int .u64 (IntKind.u64.wrap (a0_3)), .slice none 0 0, .int .i64 1, .int .u64 (IntKind.u64.wrap (a0_7)), .slice none 0 0]) (ok := (fun k_ => ((P0_9_ k_ ∨ P0_10_ k_) ∨ w.heap.size ≤ k_) ∧ some k_ ≠ (v155 : Value).ownBlock ∧ k_ ≠ gb153 ∧ k_ ≠ gb157)) (okp := (fun k_ => ((P0_9_ k_ ∨ P0_10_ k_) ∨ w.heap.size ≤ k_) ∧ some k_ ≠ (v155 : Value).ownBlock ∧ k_ ≠ gb153 ∧ k_ ≠ gb157)) ?hr ?hp (fun _ hk => hk) ((show ∀ k_, wc.heap.size ≤ k_ → (fun k_ => ((P0_9_ k_ ∨ P0_10_ k_) ∨ w.heap.size ≤ k_) ∧ some k_ ≠ (v155 : Value).ownBlock ∧ k_ ≠ gb153 ∧ k_ ≠ gb157) k_ from fun k_ hk => ⟨(.inr (Nat.le_trans (below_size (by repeat (first | (with_reducible first | exact HB.out | apply below_alloc | apply pw_below_drewN | apply below_drew1 | refine below_set ?_ GE153.out | refine below_set ?_ GE157.out) | exact HB.out))) hk)), Kd.fresh' (Kd.N_lt (by (with_reducible repeat (first | apply Kd.N_alloc | apply Kd.N_drewN | apply Kd.N_drew)); exact HO_4.out)) k_ hk, Kd.freshB (g := gb153) (o := .cells #[.int .i64 a0_0, .int .u64 a0_1, .int .u32 a0_2, .int .u32 a0_3, .int .i64 a0_4, .bool a0_5, .int .i64 a0_6, .int .i64 a0_7, .int .u64 a0_8, .slice A0_9 l0_9.length c0_9, .slice A0_10 l0_10.length c0_10] 26 (0, 0)) (by (with_reducible repeat (first | apply bd1 | apply bd2 | apply bd3)); exact BK153.out) k_ hk, Kd.freshB (g := gb157) (o := .cells #[.int .i64 4, .int .u64 (IntKind.u64.wrap (a0_3)), .slice none 0 0] 86 (0, 0)) (by (with_reducible repeat (first | apply bd1 | apply bd2 | apply bd3)); exact BK157.out) k_ hk⟩) _ (Nat.le_refl _)) (Below.refl _ _) (Nat.le_refl _) (by simp) ?_; (case hd => rfl); (case hg => rfl); (case hr => first | (go_simp; done) | (go_simp; rfl)); (case hp => exact (Reps.c3 (show Kd.FK k86 _ _ (⟨4, (IntKind.u64.wrap (a0_3)), ([] : List Int)⟩ : S86) [.int .i64 4, .int .u64 (IntKind.u64.wrap (a0_3)), .slice none 0 0] from (k86_mkF _ _ (⟨4, (IntKind.u64.wrap (a0_3)), ([] : List Int)⟩ : S86) (Nat.le_refl _) (Kd.F_nil _ _ _))) (Reps.c3 (show Kd.FK k86 _ _ (⟨1, IntKind.u64.wrap (a0_7), ([] : List Int)⟩ : S86) [.int .i64 1, .int .u64 (IntKind.u64.wrap (a0_7)), .slice none 0 0] from (k86_mkF _ _ (⟨1, IntKind.u64.wrap (a0_7), ([] : List Int)⟩ : S86) (Nat.le_refl _) (Kd.F_nil _ _ _))) (Reps.none _ _)))); intro v174 w86 ho87 hb hg_ hnew_; clear hg_ hnew_; (first | rw [← Ny173.out] at ho87 | (simp only [Int.reduceToNat] at ho87; rw [← Ny173.out] at ho87)); have n0_ := Aside0.mk (Kd.N_elder' (by (with_reducible repeat (first | apply Kd.N_alloc | apply Kd.N_drewN | apply Kd.N_drew)); exact HO_4.out) (Kd.N_base ho87) hb); have n1_ := Aside0.mk (Kd.V_elder' (by (with_reducible repeat (first | apply Kd.V_alloc | apply Kd.V_drewN | apply Kd.V_drew)); exact HO_154009.out) (Kd.N_base ho87) hb); have n2_ := Aside0.mk (Kd.V_elder' (by (with_reducible repeat (first | apply Kd.V_alloc | apply Kd.V_drewN | apply Kd.V_drew)); exact HO_154010.out) (Kd.N_base ho87) hb); have n3_ := Aside0.mk (Kd.N_lower ho87 (below_size (by repeat (first | (with_reducible first | exact HB.out | apply below_alloc | apply pw_below_drewN | apply below_drew1 | refine below_set ?_ GE153.out | refine below_set ?_ GE157.out) | exact HB.out)))); have n4_ := Aside0.mk (blk_below (g := gb153) (o := .cells #[.int .i64 a0_0, .int .u64 a0_1, .int .u32 a0_2, .int .u32 a0_3, .int .i64 a0_4, .bool a0_5, .int .i64 a0_6, .int .i64 a0_7, .int .u64 a0_8, .slice A0_9 l0_9.length c0_9, .slice A0_10 l0_10.length c0_10] 26 (0, 0)) (by (with_reducible repeat (first | apply bd1 | apply bd2 | apply bd3)); exact BK153.out) hb); have n5_ := Aside0.mk (blk_below (g := gb157) (o := .cells #[.int .i64 4, .int .u64 (IntKind.u64.wrap (a0_3)), .slice none 0 0] 86 (0, 0)) (by (with_reducible repeat (first | apply bd1 | apply bd2 | apply bd3)); exact BK157.out) hb); have n6_ := Aside0.mk (below_step (by repeat (first | (with_reducible first | exact HB.out | apply below_alloc | apply pw_below_drewN | apply below_drew1 | refine below_set ?_ GE153.out | refine below_set ?_ GE157.out) | exact HB.out)) hb); clear HO_4; clear HO_154009; clear HO_154010; clear BK153; clear BK157; clear HB; have HO_4 := n0_; have HO_154009 := n1_; have HO_154010 := n2_; have HO175 := n3_; have BK153 := n4_; have BK157 := n5_; have HB := n6_; clear n0_ n1_ n2_ n3_ n4_ n5_ n6_; clear hb ho87; obtain ⟨Ao89, co89, eo89⟩ := Kd.N_slice HO175.out; subst eo89) | ((with_reducible refine gate_builtin (b := .append) (xs := #[.tmp 130, .tmp 136]) rfl ?_); (try (refine gate_guard (by rfl) ?_; dsimp only)); at_builtin; refine Kd.N_append_rows k86 (w0 := w) w.heap.size rfl (.tmp 130) (.tmp 136) 67 86 (.agg #[(.int .i64 0), (.int .u64 0), (.slice none 0 0)]) 40 rfl Try.underlying67 info86 rfl (by decide) (by omega) v155 y154 y173 _ _ _ (fun k_ => ((P0_9_ k_ ∨ P0_10_ k_) ∨ w.heap.size ≤ k_) ∧ k_ ≠ gb153 ∧ k_ ≠ gb157) (fun k_ => ((fun k_ => ((P0_9_ k_ ∨ P0_10_ k_) ∨ w.heap.size ≤ k_) ∧ k_ ≠ gb153 ∧ k_ ≠ gb157)) k_ ∧ some k_ ≠ (v155 : Value).ownBlock) rfl rfl ?aO ?aR (fun _ hk => hk) ?aF ?aB ?aS ?aL ?_; (case aR => exact (by skip; exact Kd.N_F (Kd.N_mono (ok' := (fun k_ => ((fun k_ => ((P0_9_ k_ ∨ P0_10_ k_) ∨ w.heap.size ≤ k_) ∧ k_ ≠ gb153 ∧ k_ ≠ gb157)) k_ ∧ some k_ ≠ (v155 : Value).ownBlock)) (HO175.out) (fun k_ hk => ⟨⟨hk.1, ⟨hk.2.2.1, hk.2.2.2⟩⟩, hk.2.1⟩)))); (case aB => exact (by repeat (first | (with_reducible first | exact HB.out | apply below_alloc | apply pw_below_drewN | apply below_drew1 | refine below_set ?_ GE153.out | refine below_set ?_ GE157.out) | exact HB.out))); (case aF => exact (fun k_ hk => ⟨(.inr (Nat.le_trans (below_size (by repeat (first | (with_reducible first | exact HB.out | apply below_alloc | apply pw_below_drewN | apply below_drew1 | refine below_set ?_ GE153.out | refine below_set ?_ GE157.out) | exact HB.out))) hk)), Kd.freshB (g := gb153) (o := .cells #[.int .i64 a0_0, .int .u64 a0_1, .int .u32 a0_2, .int .u32 a0_3, .int .i64 a0_4, .bool a0_5, .int .i64 a0_6, .int .i64 a0_7, .int .u64 a0_8, .slice A0_9 l0_9.length c0_9, .slice A0_10 l0_10.length c0_10] 26 (0, 0)) (by (with_reducible repeat (first | apply bd1 | apply bd2 | apply bd3)); exact BK153.out) k_ hk, Kd.freshB (g := gb157) (o := .cells #[.int .i64 4, .int .u64 (IntKind.u64.wrap (a0_3)), .slice none 0 0] 86 (0, 0)) (by (with_reducible repeat (first | apply bd1 | apply bd2 | apply bd3)); exact BK157.out) k_ hk⟩)); (case aO => exact (by (with_reducible repeat (first | apply Kd.N_alloc | apply Kd.N_drewN | apply Kd.N_drew)); exact Kd.N_mono HO_4.out (fun _ hk => ⟨hk.1.1, ⟨hk.1.2.1, hk.1.2.2⟩⟩))); (case aS => exact (below_size (by repeat (first | (with_reducible first | exact HB.out | apply below_alloc | apply pw_below_drewN | apply below_drew1 | refine below_set ?_ GE153.out | refine below_set ?_ GE157.out) | exact HB.out)))); (case aL => have := LMc81.out; omega); intro v177 w88 ho hb hg hat; rw [← Ny176.out] at ho; have n0_ := Aside0.mk (Kd.V_afterv (ok := (fun k_ => ((P0_9_ k_ ∨ P0_10_ k_) ∨ w.heap.size ≤ k_) ∧ some k_ ≠ (.slice Ao89 y173.length co89 : Value).ownBlock ∧ k_ ≠ gb153 ∧ k_ ≠ gb157)) (by (with_reducible repeat (first | apply Kd.V_alloc | apply Kd.V_drewN | apply Kd.V_drew)); exact Kd.V_mono HO_154009.out (fun _ hk => ⟨⟨hk.1.1, ⟨hk.2, ⟨hk.1.2.2.1, hk.1.2.2.2⟩⟩⟩, hk.1.2.1⟩)) hg hat); have n1_ := Aside0.mk (Kd.V_afterv (ok := (fun k_ => ((P0_9_ k_ ∨ P0_10_ k_) ∨ w.heap.size ≤ k_) ∧ some k_ ≠ (.slice Ao89 y173.length co89 : Value).ownBlock ∧ k_ ≠ gb153 ∧ k_ ≠ gb157)) (by (with_reducible repeat (first | apply Kd.V_alloc | apply Kd.V_drewN | apply Kd.V_drew)); exact Kd.V_mono HO_154010.out (fun _ hk => ⟨⟨hk.1.1, ⟨hk.2, ⟨hk.1.2.2.1, hk.1.2.2.2⟩⟩⟩, hk.1.2.1⟩)) hg hat); have n2_ := Aside0.mk (blk_grown (g := gb153) (o := .cells #[.int .i64 a0_0, .int .u64 a0_1, .int .u32 a0_2, .int .u32 a0_3, .int .i64 a0_4, .bool a0_5, .int .i64 a0_6, .int .i64 a0_7, .int .u64 a0_8, .slice A0_9 l0_9.length c0_9, .slice A0_10 l0_10.length c0_10] 26 (0, 0)) (by (with_reducible repeat (first | apply bd1 | apply bd2 | apply bd3)); exact BK153.out) hg (Kd.N_ne HO_4.out BK153.out (by decide))); have n3_ := Aside0.mk (blk_grown (g := gb157) (o := .cells #[.int .i64 4, .int .u64 (IntKind.u64.wrap (a0_3)), .slice none 0 0] 86 (0, 0)) (by (with_reducible repeat (first | apply bd1 | apply bd2 | apply bd3)); exact BK157.out) hg (Kd.N_away HO_4.out (fun _ hk => hk.1.2.2))); have n4_ := Aside0.mk (Kd.N_afterv (ok := (fun k_ => ((P0_9_ k_ ∨ P0_10_ k_) ∨ w.heap.size ≤ k_) ∧ k_ ≠ gb153 ∧ k_ ≠ gb157)) (by (with_reducible repeat (first | apply Kd.N_alloc | apply Kd.N_drewN | apply Kd.N_drew)); exact Kd.N_mono HO175.out (fun _ hk => ⟨⟨hk.1, ⟨hk.2.2.1, hk.2.2.2⟩⟩, hk.2.1⟩)) hg hat); have n5_ := Aside0.mk (hb); have n6_ := Aside0.mk (ho); clear HO_154009; clear HO_154010; clear BK153; clear BK157; clear HO175; clear HB; clear HO_4; have HO_154009 := n0_; have HO_154010 := n1_; have BK153 := n2_; have BK157 := n3_; have HO175 := n4_; have HB := n5_; have HO178 := n6_; clear n0_ n1_ n2_ n3_ n4_ n5_ n6_; clear ho hb hg hat))
                    repeat (go_quiet (fail); try go_wp2)
                    (try simp only [Act.put, List.setIfInBounds_toArray, List.set_cons_zero, List.set_cons_succ])
                    go_cut [2, 3] (fun v2 v3 wc => ∃ (kq : Nat) (x2_81 : List (S86)) (x3_81 : Bool), v3 = .bool x3_81 ∧ Aside0 (drayageref04_fields.j6 kq x2_81 x3_81 = some (r1, r2)) ∧ Aside0 (kq ≤ kj36) ∧ Aside0 (Kd.N k86 86 wc w.heap.size (fun k_ => ((P0_9_ k_ ∨ P0_10_ k_) ∨ w.heap.size ≤ k_) ∧ k_ ≠ gb153 ∧ k_ ≠ gb157) v2 x2_81) ∧ Aside0 (Kd.V (Kd.int .u8) 5 wc w.heap.size (fun k_ => ((P0_9_ k_ ∨ P0_10_ k_) ∨ w.heap.size ≤ k_) ∧ some k_ ≠ (v2 : Value).ownBlock ∧ k_ ≠ gb153 ∧ k_ ≠ gb157) (.slice A0_9 l0_9.length c0_9) l0_9) ∧ Aside0 (Kd.V (Kd.int .u8) 5 wc w.heap.size (fun k_ => ((P0_9_ k_ ∨ P0_10_ k_) ∨ w.heap.size ≤ k_) ∧ some k_ ≠ (v2 : Value).ownBlock ∧ k_ ≠ gb153 ∧ k_ ≠ gb157) (.slice A0_10 l0_10.length c0_10) l0_10) ∧ Aside0 (wc.heap[gb153]? = some (.cells #[.int .i64 a0_0, .int .u64 a0_1, .int .u32 a0_2, .int .u32 a0_3, .int .i64 a0_4, .bool a0_5, .int .i64 a0_6, .int .i64 a0_7, .int .u64 a0_8, (.slice A0_9 l0_9.length c0_9), (.slice A0_10 l0_10.length c0_10)] 26 (0, 0))) ∧ Aside0 (wc.heap[gb157]? = some (.cells #[.int .i64 4, .int .u64 (IntKind.u64.wrap (a0_3)), (.slice none 0 0)] 86 (0, 0))) ∧ Aside0 (Below w.heap.size w wc))
                    case first =>
                      have H := HC82.out
                      clear HC82
                      by_cases c90 : a0_3 ≥ 1
                      · rw [if_pos c90] at H
                        have c90b0 : decide (1 ≤ a0_3) = true := decide_eq_true c90
                        clear c90
                        (first | rw [c90b0] | (simp only [i64_w, i32_w]; rw [c90b0]) | skip)
                        by_cases c91 : a0_7 ≥ 1
                        · rw [if_pos c91] at H
                          have c91b0 : decide (1 ≤ a0_7) = true := decide_eq_true c91
                          clear c91
                          have H' := Aside0.mk H
                          clear H
                          have hnb92 := NB153_157.out
                          have hnc92 := NB157_153.out
                          obtain ⟨hcz93_0, hcz93_1, hcz93_2, hcz93_3, hcz93_4, hcz93_5, hcz93_6, hcz93_7, hcz93_8, hcz93_9, hcz93_10, hfz93_0, hfz93_1, hfz93_2, hfz93_3, hfz93_4, hfz93_5, hfz93_6, hfz93_7, hfz93_8, hfz93_9, hfz93_10⟩ := blk_all11 BK153.out
                          go_wp2
                          repeat (go_quiet (fail); try go_wp2)
                          go_meet
                          case rel => exact ⟨_, (y176), (decide (a0_7 ≤ 3)), (by first | rfl | (simp; done) | (simp [*]; done)), H', ⟨by have := HJ1.out; have := HJ36.out; first | omega | exact Nat.le_refl _⟩, ⟨by (with_reducible repeat (first | apply Kd.N_alloc | apply Kd.N_drewN | apply Kd.N_drew)); exact HO178.out⟩, ⟨by (with_reducible repeat (first | apply Kd.V_alloc | apply Kd.V_drewN | apply Kd.V_drew)); exact Kd.V_mono HO_154009.out (fun _ hk => ⟨hk.1.1, ⟨hk.2, ⟨hk.1.2.2.1, hk.1.2.2.2⟩⟩⟩)⟩, ⟨by (with_reducible repeat (first | apply Kd.V_alloc | apply Kd.V_drewN | apply Kd.V_drew)); exact Kd.V_mono HO_154010.out (fun _ hk => ⟨hk.1.1, ⟨hk.2, ⟨hk.1.2.2.1, hk.1.2.2.2⟩⟩⟩)⟩, ⟨by (with_reducible repeat (first | apply bd1 | apply bd2 | apply bd3)); exact BK153.out⟩, ⟨by (with_reducible repeat (first | apply bd1 | apply bd2 | apply bd3)); exact BK157.out⟩, ⟨by repeat (first | (with_reducible first | exact HB.out | apply below_alloc | apply pw_below_drewN | apply below_drew1 | refine below_set ?_ GE153.out | refine below_set ?_ GE157.out) | exact HB.out)⟩⟩
                        · rw [if_neg c91] at H
                          have c91b0 : decide (1 ≤ a0_7) = false := decide_eq_false c91
                          clear c91
                          have H' := Aside0.mk H
                          clear H
                          have hnb94 := NB153_157.out
                          have hnc94 := NB157_153.out
                          obtain ⟨hcz95_0, hcz95_1, hcz95_2, hcz95_3, hcz95_4, hcz95_5, hcz95_6, hcz95_7, hcz95_8, hcz95_9, hcz95_10, hfz95_0, hfz95_1, hfz95_2, hfz95_3, hfz95_4, hfz95_5, hfz95_6, hfz95_7, hfz95_8, hfz95_9, hfz95_10⟩ := blk_all11 BK153.out
                          go_wp2
                          repeat (go_quiet (fail); try go_wp2)
                          go_meet
                          case rel => exact ⟨_, (y176), (false), (by first | rfl | (simp; done) | (simp [*]; done)), H', ⟨by have := HJ1.out; have := HJ36.out; first | omega | exact Nat.le_refl _⟩, ⟨by (with_reducible repeat (first | apply Kd.N_alloc | apply Kd.N_drewN | apply Kd.N_drew)); exact HO178.out⟩, ⟨by (with_reducible repeat (first | apply Kd.V_alloc | apply Kd.V_drewN | apply Kd.V_drew)); exact Kd.V_mono HO_154009.out (fun _ hk => ⟨hk.1.1, ⟨hk.2, ⟨hk.1.2.2.1, hk.1.2.2.2⟩⟩⟩)⟩, ⟨by (with_reducible repeat (first | apply Kd.V_alloc | apply Kd.V_drewN | apply Kd.V_drew)); exact Kd.V_mono HO_154010.out (fun _ hk => ⟨hk.1.1, ⟨hk.2, ⟨hk.1.2.2.1, hk.1.2.2.2⟩⟩⟩)⟩, ⟨by (with_reducible repeat (first | apply bd1 | apply bd2 | apply bd3)); exact BK153.out⟩, ⟨by (with_reducible repeat (first | apply bd1 | apply bd2 | apply bd3)); exact BK157.out⟩, ⟨by repeat (first | (with_reducible first | exact HB.out | apply below_alloc | apply pw_below_drewN | apply below_drew1 | refine below_set ?_ GE153.out | refine below_set ?_ GE157.out) | exact HB.out)⟩⟩
                      · rw [if_neg c90] at H
                        have c90b0 : decide (1 ≤ a0_3) = false := decide_eq_false c90
                        clear c90
                        (first | rw [c90b0] | (simp only [i64_w, i32_w]; rw [c90b0]) | skip)
                        have H' := Aside0.mk H
                        clear H
                        have hnb96 := NB153_157.out
                        have hnc96 := NB157_153.out
                        obtain ⟨hcz97_0, hcz97_1, hcz97_2, hcz97_3, hcz97_4, hcz97_5, hcz97_6, hcz97_7, hcz97_8, hcz97_9, hcz97_10, hfz97_0, hfz97_1, hfz97_2, hfz97_3, hfz97_4, hfz97_5, hfz97_6, hfz97_7, hfz97_8, hfz97_9, hfz97_10⟩ := blk_all11 BK153.out
                        go_wp2
                        repeat (go_quiet (fail); try go_wp2)
                        go_meet
                        case rel => exact ⟨_, (y176), (false), (by first | rfl | (simp; done) | (simp [*]; done)), H', ⟨by have := HJ1.out; have := HJ36.out; first | omega | exact Nat.le_refl _⟩, ⟨by (with_reducible repeat (first | apply Kd.N_alloc | apply Kd.N_drewN | apply Kd.N_drew)); exact HO178.out⟩, ⟨by (with_reducible repeat (first | apply Kd.V_alloc | apply Kd.V_drewN | apply Kd.V_drew)); exact Kd.V_mono HO_154009.out (fun _ hk => ⟨hk.1.1, ⟨hk.2, ⟨hk.1.2.2.1, hk.1.2.2.2⟩⟩⟩)⟩, ⟨by (with_reducible repeat (first | apply Kd.V_alloc | apply Kd.V_drewN | apply Kd.V_drew)); exact Kd.V_mono HO_154010.out (fun _ hk => ⟨hk.1.1, ⟨hk.2, ⟨hk.1.2.2.1, hk.1.2.2.2⟩⟩⟩)⟩, ⟨by (with_reducible repeat (first | apply bd1 | apply bd2 | apply bd3)); exact BK153.out⟩, ⟨by (with_reducible repeat (first | apply bd1 | apply bd2 | apply bd3)); exact BK157.out⟩, ⟨by repeat (first | (with_reducible first | exact HB.out | apply below_alloc | apply pw_below_drewN | apply below_drew1 | refine below_set ?_ GE153.out | refine below_set ?_ GE157.out) | exact HB.out)⟩⟩
                    case rest =>
                      clear HC82
                      try clear c41
                      try clear c80
                      try clear c80b0
                      try clear c80b1
                      try clear c81
                      try clear hcz84_0
                      try clear hcz84_1
                      try clear hcz84_2
                      try clear hcz85_0
                      try clear hcz85_1
                      try clear hcz85_10
                      try clear hcz85_2
                      try clear hcz85_3
                      try clear hcz85_4
                      try clear hcz85_5
                      try clear hcz85_6
                      try clear hcz85_7
                      try clear hcz85_8
                      try clear hcz85_9
                      try clear hfz84_0
                      try clear hfz84_1
                      try clear hfz84_2
                      try clear hfz85_0
                      try clear hfz85_1
                      try clear hfz85_10
                      try clear hfz85_2
                      try clear hfz85_3
                      try clear hfz85_4
                      try clear hfz85_5
                      try clear hfz85_6
                      try clear hfz85_7
                      try clear hfz85_8
                      try clear hfz85_9
                      obtain ⟨kq, x2_81, x3_81, rfl, HA, HJ81, HO_2, HO_154009, HO_154010, BK153, BK157, HB⟩ := hcut
                      cases kq with
                      | zero => exact absurd HA.out (by simp [drayageref04_fields.j6])
                      | succ kj81 =>
                        have H := HA.out
                        clear HA
                        simp only [drayageref04_fields.j6] at H
                        simp only [Option.some.injEq, Prod.mk.injEq] at H
                        obtain ⟨rfl, rfl⟩ := H
                        go_wp2
                        repeat (go_quiet (fail); try go_wp2)
                        go_ret2
                        exact ⟨_, by first | rfl | (simp [errW_none, errW_some] <;> rfl) | (simp [*, errW_none, errW_some] <;> rfl), by (with_reducible repeat (first | apply Kd.N_alloc | apply Kd.N_drewN | apply Kd.N_drew)); exact Kd.N_mono HO_2.out (fun _ hk => hk.1), by repeat (first | (with_reducible first | exact HB.out | apply below_alloc | apply pw_below_drewN | apply below_drew1 | refine below_set ?_ GE153.out | refine below_set ?_ GE157.out) | exact HB.out)⟩
                  · rw [if_neg c81] at H
                    exact absurd H (by simp)
                · exact absurd hk.out (by omega)
end Go.Proofs.Ytahldljkhjebgaa.PA
