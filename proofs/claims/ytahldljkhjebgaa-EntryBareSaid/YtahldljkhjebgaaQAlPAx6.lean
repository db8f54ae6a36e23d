-- printed by a program of this work (wip/tools/pr.py over the kit's print): the machine's side of EntryBare, EntryBegins, EntrySizes, EntryEpochs (bare04.py: the entry's store is walked once)
import Derived.Test.YtahldljkhjebgaaQAlPAx0
import Derived.Test.YtahldljkhjebgaaQAlPAx1
import Derived.Test.YtahldljkhjebgaaQAlPAx5
namespace Go.Proofs.Ytahldljkhjebgaa.PA
open Go.RowKit Go.Proofs.YtahldljkhjebgaaW.PrintWords Go.Proofs.YtahldljkhjebgaaW.PrintLast Go.Proofs.YtahldljkhjebgaaW.PrintMore
attribute [local go_sem] max2_int min2_int max_two min_two max_three min_three max_four min_four   -- for this text's walks alone
set_option linter.unusedVariables false
set_option linter.unusedSimpArgs false

/-! ### drayagelaw04_EntryBare: function 6 -/
def drayagelaw04_EntryBare.j0 : Nat → Int → Bool → Int → Int → Int → Int → Int → Bool → Int → Int → Int → List Int → List Int → Option (Bool)
  | 0, _, _, _, _, _, _, _, _, _, _, _, _, _ => none
  | k + 1, x1, x13, x154000, x154001, x154002, x154003, x154004, x154005, x154006, x154007, x154008, x154009, x154010 => if x13 = true then ((drayagelaw04_known.f k).bind fun t156 => (some t156)) else (if (wrap64 (Int.tmod (IntKind.u64.wrap (x1)) 8)) = 0 then (if x154000 ≥ 2 then (if x154000 ≤ 5 then ((drayagelaw04_known.f k).bind fun t158 => (some t158)) else ((entry_Check.f x154000 x154001 x154002 ((x154003 + 1) % 4294967296) x154004 x154005 x154006 x154007 x154008 x154009 x154010).bind fun t159 => (if t159 = 40 then ((drayagelaw04_known.f k).bind fun t160 => (some t160)) else (none)))) else ((entry_Check.f x154000 x154001 x154002 ((x154003 + 1) % 4294967296) x154004 x154005 x154006 x154007 x154008 x154009 x154010).bind fun t161 => (if t161 = 40 then ((drayagelaw04_known.f k).bind fun t162 => (some t162)) else (none)))) else (if (wrap64 (Int.tmod (IntKind.u64.wrap (x1)) 8)) = 1 then (if x154000 = 3 then ((drayagelaw04_known.f k).bind fun t163 => (some t163)) else (if x154000 = 4 then ((drayagelaw04_known.f k).bind fun t164 => (some t164)) else ((entry_Check.f x154000 x154001 x154002 x154003 (wrap64 (1 - (mn x154004 1))) x154005 x154006 x154007 x154008 x154009 x154010).bind fun t165 => (if t165 = 40 then ((drayagelaw04_known.f k).bind fun t166 => (some t166)) else (none))))) else (if (wrap64 (Int.tmod (IntKind.u64.wrap (x1)) 8)) = 2 then (if x154000 = 3 then ((drayagelaw04_known.f k).bind fun t167 => (some t167)) else (if x154000 = 4 then ((drayagelaw04_known.f k).bind fun t168 => (some t168)) else ((entry_Check.f x154000 x154001 x154002 x154003 x154004 (!x154005) x154006 x154007 x154008 x154009 x154010).bind fun t169 => (if t169 = 40 then ((drayagelaw04_known.f k).bind fun t170 => (some t170)) else (none))))) else (if (wrap64 (Int.tmod (IntKind.u64.wrap (x1)) 8)) = 3 then (if x154000 = 3 then ((drayagelaw04_known.f k).bind fun t171 => (some t171)) else (if x154000 = 4 then ((drayagelaw04_known.f k).bind fun t172 => (some t172)) else ((entry_Check.f x154000 x154001 x154002 x154003 x154004 x154005 (mx x154006 1) x154007 x154008 x154009 x154010).bind fun t173 => (if t173 = 40 then ((drayagelaw04_known.f k).bind fun t174 => (some t174)) else (none))))) else (if (wrap64 (Int.tmod (IntKind.u64.wrap (x1)) 8)) = 4 then (if x154000 ≥ 4 then (if x154000 ≤ 6 then ((drayagelaw04_known.f k).bind fun t175 => (some t175)) else ((entry_Check.f x154000 x154001 x154002 x154003 x154004 x154005 x154006 (mx x154007 1) x154008 x154009 x154010).bind fun t176 => (if t176 = 40 then ((drayagelaw04_known.f k).bind fun t177 => (some t177)) else (none)))) else ((entry_Check.f x154000 x154001 x154002 x154003 x154004 x154005 x154006 (mx x154007 1) x154008 x154009 x154010).bind fun t178 => (if t178 = 40 then ((drayagelaw04_known.f k).bind fun t179 => (some t179)) else (none)))) else (if (wrap64 (Int.tmod (IntKind.u64.wrap (x1)) 8)) = 5 then (if x154000 = 7 then ((drayagelaw04_known.f k).bind fun t180 => (some t180)) else ((entry_Check.f x154000 x154001 x154002 x154003 x154004 x154005 x154006 x154007 (mx x154008 1) x154009 x154010).bind fun t181 => (if t181 = 40 then ((drayagelaw04_known.f k).bind fun t182 => (some t182)) else (none)))) else (if (wrap64 (Int.tmod (IntKind.u64.wrap (x1)) 8)) = 6 then (if x154000 = 2 then ((drayagelaw04_known.f k).bind fun t186 => (some t186)) else ((entry_Check.f x154000 x154001 x154002 x154003 x154004 x154005 x154006 x154007 x154008 (([107] : List Int)) x154010).bind fun t187 => (if t187 = 40 then ((drayagelaw04_known.f k).bind fun t188 => (some t188)) else (none)))) else ((drayagelaw04_Beyond.f x1).bind fun t189 => ((entry_Check.f t189 x154001 x154002 x154003 x154004 x154005 x154006 x154007 x154008 x154009 x154010).bind fun t190 => (if t190 = 40 then ((drayagelaw04_known.f k).bind fun t191 => (some t191)) else (none)))))))))))
def drayagelaw04_EntryBare.f (k : Nat) (a0_0 : Int) (a0_1 : Int) (a0_2 : Int) (a0_3 : Int) (a0_4 : Int) (a0_5 : Bool) (a0_6 : Int) (a0_7 : Int) (a0_8 : Int) (l0_9 : List Int) (l0_10 : List Int) (a1 : Int) : Option (Bool) := (drayagelaw04_long.f a0_0 a0_1 a0_2 a0_3 a0_4 a0_5 a0_6 a0_7 a0_8 l0_9 l0_10).bind fun t154 => (if t154 = true then (drayagelaw04_EntryBare.j0 k a1 true a0_0 a0_1 a0_2 a0_3 a0_4 a0_5 a0_6 a0_7 a0_8 l0_9 l0_10) else ((entry_Check.f a0_0 a0_1 a0_2 a0_3 a0_4 a0_5 a0_6 a0_7 a0_8 l0_9 l0_10).bind fun t155 => (drayagelaw04_EntryBare.j0 k a1 (t155 != 0) a0_0 a0_1 a0_2 a0_3 a0_4 a0_5 a0_6 a0_7 a0_8 l0_9 l0_10)))

set_option maxHeartbeats 8000000 in
set_option maxRecDepth 100000 in
theorem drayagelaw04_EntryBare.calls (k : Nat) (a0_0 : Int) (a0_1 : Int) (a0_2 : Int) (a0_3 : Int) (a0_4 : Int) (a0_5 : Bool) (a0_6 : Int) (a0_7 : Int) (a0_8 : Int) (A0_9 : Option Addr) (c0_9 : Nat) (l0_9 : List Int) (A0_10 : Option Addr) (c0_10 : Nat) (l0_10 : List Int) (a1 : Int) (r : Bool) (w : World) (hr0_9 : Kd.C (Kd.int .u8) w A0_9 l0_9.length l0_9) (hc0_9 : l0_9.length ≤ c0_9) (hr0_10 : Kd.C (Kd.int .u8) w A0_10 l0_10.length l0_10) (hc0_10 : l0_10.length ≤ c0_10) (h : drayagelaw04_EntryBare.f k a0_0 a0_1 a0_2 a0_3 a0_4 a0_5 a0_6 a0_7 a0_8 l0_9 l0_10 a1 = some r) :
    Calls Try.prog 6 #[.agg #[.int .i64 a0_0, .int .u64 a0_1, .int .u32 a0_2, .int .u32 a0_3, .int .i64 a0_4, .bool a0_5, .int .i64 a0_6, .int .i64 a0_7, .int .u64 a0_8, .slice A0_9 l0_9.length c0_9, .slice A0_10 l0_10.length c0_10], .int .i64 a1] w fun e w' => e = .returned (.bool r) ∧ Below w.heap.size w w' := by
  have hu26 := Try.underlying26
  have HR0_9 := Aside0.mk hr0_9
  have HC0_9 := Aside0.mk hc0_9
  clear hr0_9 hc0_9
  have HR0_10 := Aside0.mk hr0_10
  have HC0_10 := Aside0.mk hc0_10
  clear hr0_10 hc0_10
  have HB := Aside0.mk (Below.refl w.heap.size w)
  have H : ((drayagelaw04_long.f a0_0 a0_1 a0_2 a0_3 a0_4 a0_5 a0_6 a0_7 a0_8 l0_9 l0_10).bind fun t154 => (if t154 = true then (drayagelaw04_EntryBare.j0 k a1 true a0_0 a0_1 a0_2 a0_3 a0_4 a0_5 a0_6 a0_7 a0_8 l0_9 l0_10) else ((entry_Check.f a0_0 a0_1 a0_2 a0_3 a0_4 a0_5 a0_6 a0_7 a0_8 l0_9 l0_10).bind fun t155 => (drayagelaw04_EntryBare.j0 k a1 (t155 != 0) a0_0 a0_1 a0_2 a0_3 a0_4 a0_5 a0_6 a0_7 a0_8 l0_9 l0_10)))) = some r := h
  clear h
  have HC3 := Aside0.mk H
  clear H
  go_enter Try.func6, Try.ntmps6
  go_upto_region 1 with (first | ((with_reducible refine gate_dst (N := 2) rfl ?_); refine box_event ?hg (N := 2) ?hd (cs := #[.int .i64 a0_0, .int .u64 a0_1, .int .u32 a0_2, .int .u32 a0_3, .int .i64 a0_4, .bool a0_5, .int .i64 a0_6, .int .i64 a0_7, .int .u64 a0_8, .slice A0_9 l0_9.length c0_9, .slice A0_10 l0_10.length c0_10]) (t := 26) ?hr ?_; (case hd => rfl); (case hg => rfl); (case hr => first | (go_simp; done) | (go_simp; rfl)); intro gb153 hg w4 hbox hb; have n0_ := Aside0.mk (below_step (by repeat (first | (with_reducible first | exact HB.out | apply below_alloc | apply pw_below_drewN | apply below_drew1) | exact HB.out)) hb); have n1_ := Aside0.mk (hbox); have n2_ := Aside0.mk ((by rw [hg]; exact (below_size (by repeat (first | (with_reducible first | exact HB.out | apply below_alloc | apply pw_below_drewN | apply below_drew1) | exact HB.out))) : w.heap.size ≤ gb153)); have n3_ := Aside0.mk ((by rw [hg]; exact (below_size (by repeat (first | (with_reducible first | exact HB.out | apply below_alloc | apply pw_below_drewN | apply below_drew1) | exact HB.out))) : w.heap.size ≤ gb153)); clear HB; have HB := n0_; have BK153 := n1_; have GW153 := n2_; have GE153 := n3_; clear n0_ n1_ n2_ n3_; clear hb hbox hg))
  (try simp only [Act.put, List.setIfInBounds_toArray, List.set_cons_zero, List.set_cons_succ])
  go_cut [13] (fun v13 wc => ∃ (kq : Nat) (x13_2 : Bool), v13 = .bool x13_2 ∧ Aside0 (drayagelaw04_EntryBare.j0 kq a1 x13_2 a0_0 a0_1 a0_2 a0_3 a0_4 a0_5 a0_6 a0_7 a0_8 l0_9 l0_10 = some r) ∧ Aside0 (kq ≤ k) ∧ Aside0 (wc.heap[gb153]? = some (.cells #[.int .i64 a0_0, .int .u64 a0_1, .int .u32 a0_2, .int .u32 a0_3, .int .i64 a0_4, .bool a0_5, .int .i64 a0_6, .int .i64 a0_7, .int .u64 a0_8, (.slice A0_9 l0_9.length c0_9), (.slice A0_10 l0_10.length c0_10)] 26 (0, 0))) ∧ Aside0 (Below w.heap.size w wc))
  case first =>
    have H := HC3.out
    clear HC3
    replace H := Option.bind_eq_some_iff.mp H
    obtain ⟨t154, A50, H⟩ := H
    replace H : (if t154 = true then (drayagelaw04_EntryBare.j0 k a1 true a0_0 a0_1 a0_2 a0_3 a0_4 a0_5 a0_6 a0_7 a0_8 l0_9 l0_10) else ((entry_Check.f a0_0 a0_1 a0_2 a0_3 a0_4 a0_5 a0_6 a0_7 a0_8 l0_9 l0_10).bind fun t155 => (drayagelaw04_EntryBare.j0 k a1 (t155 != 0) a0_0 a0_1 a0_2 a0_3 a0_4 a0_5 a0_6 a0_7 a0_8 l0_9 l0_10))) = some r := H
    have A5 := Aside0.mk A50
    clear A50
    by_cases c6 : t154 = true
    · subst c6
      have H1 : (drayagelaw04_EntryBare.j0 k a1 true a0_0 a0_1 a0_2 a0_3 a0_4 a0_5 a0_6 a0_7 a0_8 l0_9 l0_10) = some r := by rw [if_pos rfl] at H; exact H
      clear H
      have H := H1
      clear H1
      have H' := Aside0.mk H
      clear H
      obtain ⟨hcz7_0, hcz7_1, hcz7_2, hcz7_3, hcz7_4, hcz7_5, hcz7_6, hcz7_7, hcz7_8, hcz7_9, hcz7_10, hfz7_0, hfz7_1, hfz7_2, hfz7_3, hfz7_4, hfz7_5, hfz7_6, hfz7_7, hfz7_8, hfz7_9, hfz7_10⟩ := blk_all11 BK153.out
      go_wp2_with (first | ((with_reducible refine gate_callee (f := 11) rfl ?_); refine goesL_ (some 8) rfl rfl Try.func11 (by kernel_rfl) rfl #[.agg #[.int .i64 a0_0, .int .u64 a0_1, .int .u32 a0_2, .int .u32 a0_3, .int .i64 a0_4, .bool a0_5, .int .i64 a0_6, .int .i64 a0_7, .int .u64 a0_8, .slice A0_9 l0_9.length c0_9, .slice A0_10 l0_10.length c0_10]] rfl (by (try simp only [List.map_toArray, List.map_cons, List.map_nil]); first | done | rfl | (simp only [List.length_drop, List.length_take]; rfl)) ?_; (with_reducible refine (drayagelaw04_long.calls a0_0 a0_1 a0_2 a0_3 a0_4 a0_5 a0_6 a0_7 a0_8 _ _ l0_9 _ _ l0_10 true _ ?side1 ?side2 ?side3 ?side4 A5.out).mono ?_); (case side1 => repeat (first | exact (Kd.C_below HR0_9.out HB.out) | (with_reducible refine Kd.C_alloc ?_ _) | (with_reducible refine Kd.C_drewN ?_ _) | (with_reducible refine Kd.C_drew ?_))); (case side2 => exact HC0_9.out); (case side3 => repeat (first | exact (Kd.C_below HR0_10.out HB.out) | (with_reducible refine Kd.C_alloc ?_ _) | (with_reducible refine Kd.C_drewN ?_ _) | (with_reducible refine Kd.C_drew ?_))); (case side4 => exact HC0_10.out); rintro e w8 ⟨rfl, hb⟩; refine ⟨_, rfl, ?_⟩; have n0_ := Aside0.mk (blk_below (g := gb153) (o := .cells #[.int .i64 a0_0, .int .u64 a0_1, .int .u32 a0_2, .int .u32 a0_3, .int .i64 a0_4, .bool a0_5, .int .i64 a0_6, .int .i64 a0_7, .int .u64 a0_8, .slice A0_9 l0_9.length c0_9, .slice A0_10 l0_10.length c0_10] 26 (0, 0)) (by (with_reducible repeat (first | apply bd1 | apply bd2 | apply bd3)); exact BK153.out) hb); have n1_ := Aside0.mk (below_step (by repeat (first | (with_reducible first | exact HB.out | apply below_alloc | apply pw_below_drewN | apply below_drew1 | refine below_set ?_ GE153.out) | exact HB.out)) hb); clear BK153; clear HB; have BK153 := n0_; have HB := n1_; clear n0_ n1_; (try clear hb); (try clear hb2); (try clear hk); (try clear hi)))
      go_meet
      case rel => exact ⟨_, (true), (by first | rfl | (simp; done) | (simp [*]; done)), H', ⟨by first | omega | exact Nat.le_refl _⟩, ⟨by (with_reducible repeat (first | apply bd1 | apply bd2 | apply bd3)); exact BK153.out⟩, ⟨by repeat (first | (with_reducible first | exact HB.out | apply below_alloc | apply pw_below_drewN | apply below_drew1 | refine below_set ?_ GE153.out) | exact HB.out)⟩⟩
    · replace c6 := Bool.eq_false_iff.mpr c6
      subst c6
      have H1 : ((entry_Check.f a0_0 a0_1 a0_2 a0_3 a0_4 a0_5 a0_6 a0_7 a0_8 l0_9 l0_10).bind fun t155 => (drayagelaw04_EntryBare.j0 k a1 (t155 != 0) a0_0 a0_1 a0_2 a0_3 a0_4 a0_5 a0_6 a0_7 a0_8 l0_9 l0_10)) = some r := by rw [if_neg (show ¬ (false = true) by decide)] at H; exact H
      clear H
      have H := H1
      clear H1
      replace H := Option.bind_eq_some_iff.mp H
      obtain ⟨t155, A90, H⟩ := H
      replace H : (drayagelaw04_EntryBare.j0 k a1 (t155 != 0) a0_0 a0_1 a0_2 a0_3 a0_4 a0_5 a0_6 a0_7 a0_8 l0_9 l0_10) = some r := H
      have A9 := Aside0.mk A90
      clear A90
      have H' := Aside0.mk H
      clear H
      obtain ⟨hcz10_0, hcz10_1, hcz10_2, hcz10_3, hcz10_4, hcz10_5, hcz10_6, hcz10_7, hcz10_8, hcz10_9, hcz10_10, hfz10_0, hfz10_1, hfz10_2, hfz10_3, hfz10_4, hfz10_5, hfz10_6, hfz10_7, hfz10_8, hfz10_9, hfz10_10⟩ := blk_all11 BK153.out
      go_wp2_with (first | ((with_reducible refine gate_callee (f := 11) rfl ?_); refine goesL_ (some 8) rfl rfl Try.func11 (by kernel_rfl) rfl #[.agg #[.int .i64 a0_0, .int .u64 a0_1, .int .u32 a0_2, .int .u32 a0_3, .int .i64 a0_4, .bool a0_5, .int .i64 a0_6, .int .i64 a0_7, .int .u64 a0_8, .slice A0_9 l0_9.length c0_9, .slice A0_10 l0_10.length c0_10]] rfl (by (try simp only [List.map_toArray, List.map_cons, List.map_nil]); first | done | rfl | (simp only [List.length_drop, List.length_take]; rfl)) ?_; (with_reducible refine (drayagelaw04_long.calls a0_0 a0_1 a0_2 a0_3 a0_4 a0_5 a0_6 a0_7 a0_8 _ _ l0_9 _ _ l0_10 false _ ?side1 ?side2 ?side3 ?side4 A5.out).mono ?_); (case side1 => repeat (first | exact (Kd.C_below HR0_9.out HB.out) | (with_reducible refine Kd.C_alloc ?_ _) | (with_reducible refine Kd.C_drewN ?_ _) | (with_reducible refine Kd.C_drew ?_))); (case side2 => exact HC0_9.out); (case side3 => repeat (first | exact (Kd.C_below HR0_10.out HB.out) | (with_reducible refine Kd.C_alloc ?_ _) | (with_reducible refine Kd.C_drewN ?_ _) | (with_reducible refine Kd.C_drew ?_))); (case side4 => exact HC0_10.out); rintro e w11 ⟨rfl, hb⟩; refine ⟨_, rfl, ?_⟩; have n0_ := Aside0.mk (blk_below (g := gb153) (o := .cells #[.int .i64 a0_0, .int .u64 a0_1, .int .u32 a0_2, .int .u32 a0_3, .int .i64 a0_4, .bool a0_5, .int .i64 a0_6, .int .i64 a0_7, .int .u64 a0_8, .slice A0_9 l0_9.length c0_9, .slice A0_10 l0_10.length c0_10] 26 (0, 0)) (by (with_reducible repeat (first | apply bd1 | apply bd2 | apply bd3)); exact BK153.out) hb); have n1_ := Aside0.mk (below_step (by repeat (first | (with_reducible first | exact HB.out | apply below_alloc | apply pw_below_drewN | apply below_drew1 | refine below_set ?_ GE153.out) | exact HB.out)) hb); clear BK153; clear HB; have BK153 := n0_; have HB := n1_; clear n0_ n1_; (try clear hb); (try clear hb2); (try clear hk); (try clear hi); obtain ⟨hcz12_0, hcz12_1, hcz12_2, hcz12_3, hcz12_4, hcz12_5, hcz12_6, hcz12_7, hcz12_8, hcz12_9, hcz12_10, hfz12_0, hfz12_1, hfz12_2, hfz12_3, hfz12_4, hfz12_5, hfz12_6, hfz12_7, hfz12_8, hfz12_9, hfz12_10⟩ := blk_all11 BK153.out) | (go_at_call 15; (with_reducible refine (entry_Check.calls a0_0 a0_1 a0_2 a0_3 a0_4 a0_5 a0_6 a0_7 a0_8 _ _ l0_9 _ _ l0_10 t155 _ ?side1 ?side2 ?side3 ?side4 A9.out).mono ?_); (case side1 => repeat (first | exact (Kd.C_below HR0_9.out HB.out) | (with_reducible refine Kd.C_alloc ?_ _) | (with_reducible refine Kd.C_drewN ?_ _) | (with_reducible refine Kd.C_drew ?_))); (case side2 => exact HC0_9.out); (case side3 => repeat (first | exact (Kd.C_below HR0_10.out HB.out) | (with_reducible refine Kd.C_alloc ?_ _) | (with_reducible refine Kd.C_drewN ?_ _) | (with_reducible refine Kd.C_drew ?_))); (case side4 => exact HC0_10.out); rintro e w13 ⟨rfl, hb⟩; have n0_ := Aside0.mk (blk_below (g := gb153) (o := .cells #[.int .i64 a0_0, .int .u64 a0_1, .int .u32 a0_2, .int .u32 a0_3, .int .i64 a0_4, .bool a0_5, .int .i64 a0_6, .int .i64 a0_7, .int .u64 a0_8, .slice A0_9 l0_9.length c0_9, .slice A0_10 l0_10.length c0_10] 26 (0, 0)) (by (with_reducible repeat (first | apply bd1 | apply bd2 | apply bd3)); exact BK153.out) hb); have n1_ := Aside0.mk (below_step (by repeat (first | (with_reducible first | exact HB.out | apply below_alloc | apply pw_below_drewN | apply below_drew1 | refine below_set ?_ GE153.out) | exact HB.out)) hb); clear BK153; clear HB; have BK153 := n0_; have HB := n1_; clear n0_ n1_; (try clear hb); (try clear hb2); (try clear hk); (try clear hi)))
      go_meet
      case rel => exact ⟨_, ((t155 != 0)), (by first | rfl | (simp; done) | (simp [*]; done)), H', ⟨by first | omega | exact Nat.le_refl _⟩, ⟨by (with_reducible repeat (first | apply bd1 | apply bd2 | apply bd3)); exact BK153.out⟩, ⟨by repeat (first | (with_reducible first | exact HB.out | apply below_alloc | apply pw_below_drewN | apply below_drew1 | refine below_set ?_ GE153.out) | exact HB.out)⟩⟩
  case rest =>
    clear HC3
    try clear c1
    try clear p2
    try clear c6
    try clear c11
    try clear hcz10_0
    try clear hcz10_1
    try clear hcz10_10
    try clear hcz10_2
    try clear hcz10_3
    try clear hcz10_4
    try clear hcz10_5
    try clear hcz10_6
    try clear hcz10_7
    try clear hcz10_8
    try clear hcz10_9
    try clear hcz12_0
    try clear hcz12_1
    try clear hcz12_10
    try clear hcz12_2
    try clear hcz12_3
    try clear hcz12_4
    try clear hcz12_5
    try clear hcz12_6
    try clear hcz12_7
    try clear hcz12_8
    try clear hcz12_9
    try clear hcz7_0
    try clear hcz7_1
    try clear hcz7_10
    try clear hcz7_2
    try clear hcz7_3
    try clear hcz7_4
    try clear hcz7_5
    try clear hcz7_6
    try clear hcz7_7
    try clear hcz7_8
    try clear hcz7_9
    try clear hfz10_0
    try clear hfz10_1
    try clear hfz10_10
    try clear hfz10_2
    try clear hfz10_3
    try clear hfz10_4
    try clear hfz10_5
    try clear hfz10_6
    try clear hfz10_7
    try clear hfz10_8
    try clear hfz10_9
    try clear hfz12_0
    try clear hfz12_1
    try clear hfz12_10
    try clear hfz12_2
    try clear hfz12_3
    try clear hfz12_4
    try clear hfz12_5
    try clear hfz12_6
    try clear hfz12_7
    try clear hfz12_8
    try clear hfz12_9
    try clear hfz7_0
    try clear hfz7_1
    try clear hfz7_10
    try clear hfz7_2
    try clear hfz7_3
    try clear hfz7_4
    try clear hfz7_5
    try clear hfz7_6
    try clear hfz7_7
    try clear hfz7_8
    try clear hfz7_9
    obtain ⟨kq, x13_2, rfl, HA, HJ2, BK153, HB⟩ := hcut
    cases kq with
    | zero => exact absurd HA.out (by simp [drayagelaw04_EntryBare.j0])
    | succ kj2 =>
      have H := HA.out
      clear HA
      simp only [drayagelaw04_EntryBare.j0] at H
      by_cases c14 : x13_2 = true
      · subst c14
        have H1 : ((drayagelaw04_known.f kj2).bind fun t156 => (some t156)) = some r := by rw [if_pos rfl] at H; exact H
        clear H
        have H := H1
        clear H1
        replace H := Option.bind_eq_some_iff.mp H
        obtain ⟨t156, A150, H⟩ := H
        replace H : (some t156) = some r := H
        have A15 := Aside0.mk A150
        clear A150
        obtain rfl := Option.some.inj H
        go_wp2_with (first | ((with_reducible refine gate_callee (f := 12) rfl ?_); refine goesL_ (some 14) rfl rfl Try.func12 (by kernel_rfl) rfl #[] rfl (by (try simp only [List.map_toArray, List.map_cons, List.map_nil]); first | done | rfl | (simp only [List.length_drop, List.length_take]; rfl)) ?_; (with_reducible refine (drayagelaw04_known.calls kj2  t156 _ A15.out).mono ?_); rintro e w16 ⟨rfl, hb⟩; refine ⟨_, rfl, ?_⟩; have n0_ := Aside0.mk (blk_below (g := gb153) (o := .cells #[.int .i64 a0_0, .int .u64 a0_1, .int .u32 a0_2, .int .u32 a0_3, .int .i64 a0_4, .bool a0_5, .int .i64 a0_6, .int .i64 a0_7, .int .u64 a0_8, .slice A0_9 l0_9.length c0_9, .slice A0_10 l0_10.length c0_10] 26 (0, 0)) (by (with_reducible repeat (first | apply bd1 | apply bd2 | apply bd3)); exact BK153.out) hb); have n1_ := Aside0.mk (below_step (by repeat (first | (with_reducible first | exact HB.out | apply below_alloc | apply pw_below_drewN | apply below_drew1 | refine below_set ?_ GE153.out) | exact HB.out)) hb); clear BK153; clear HB; have BK153 := n0_; have HB := n1_; clear n0_ n1_; (try clear hb); (try clear hb2); (try clear hk); (try clear hi)))
        go_ret
        exact ⟨by first | rfl | (simp [errW_none, errW_some] <;> rfl) | (simp [*, errW_none, errW_some] <;> rfl), by repeat (first | (with_reducible first | exact HB.out | apply below_alloc | apply pw_below_drewN | apply below_drew1 | refine below_set ?_ GE153.out) | exact HB.out)⟩
      · replace c14 := Bool.eq_false_iff.mpr c14
        subst c14
        have H1 : (if (wrap64 (Int.tmod (IntKind.u64.wrap (a1)) 8)) = 0 then (if a0_0 ≥ 2 then (if a0_0 ≤ 5 then ((drayagelaw04_known.f kj2).bind fun t158 => (some t158)) else ((entry_Check.f a0_0 a0_1 a0_2 ((a0_3 + 1) % 4294967296) a0_4 a0_5 a0_6 a0_7 a0_8 l0_9 l0_10).bind fun t159 => (if t159 = 40 then ((drayagelaw04_known.f kj2).bind fun t160 => (some t160)) else (none)))) else ((entry_Check.f a0_0 a0_1 a0_2 ((a0_3 + 1) % 4294967296) a0_4 a0_5 a0_6 a0_7 a0_8 l0_9 l0_10).bind fun t161 => (if t161 = 40 then ((drayagelaw04_known.f kj2).bind fun t162 => (some t162)) else (none)))) else (if (wrap64 (Int.tmod (IntKind.u64.wrap (a1)) 8)) = 1 then (if a0_0 = 3 then ((drayagelaw04_known.f kj2).bind fun t163 => (some t163)) else (if a0_0 = 4 then ((drayagelaw04_known.f kj2).bind fun t164 => (some t164)) else ((entry_Check.f a0_0 a0_1 a0_2 a0_3 (wrap64 (1 - (mn a0_4 1))) a0_5 a0_6 a0_7 a0_8 l0_9 l0_10).bind fun t165 => (if t165 = 40 then ((drayagelaw04_known.f kj2).bind fun t166 => (some t166)) else (none))))) else (if (wrap64 (Int.tmod (IntKind.u64.wrap (a1)) 8)) = 2 then (if a0_0 = 3 then ((drayagelaw04_known.f kj2).bind fun t167 => (some t167)) else (if a0_0 = 4 then ((drayagelaw04_known.f kj2).bind fun t168 => (some t168)) else ((entry_Check.f a0_0 a0_1 a0_2 a0_3 a0_4 (!a0_5) a0_6 a0_7 a0_8 l0_9 l0_10).bind fun t169 => (if t169 = 40 then ((drayagelaw04_known.f kj2).bind fun t170 => (some t170)) else (none))))) else (if (wrap64 (Int.tmod (IntKind.u64.wrap (a1)) 8)) = 3 then (if a0_0 = 3 then ((drayagelaw04_known.f kj2).bind fun t171 => (some t171)) else (if a0_0 = 4 then ((drayagelaw04_known.f kj2).bind fun t172 => (some t172)) else ((entry_Check.f a0_0 a0_1 a0_2 a0_3 a0_4 a0_5 (mx a0_6 1) a0_7 a0_8 l0_9 l0_10).bind fun t173 => (if t173 = 40 then ((drayagelaw04_known.f kj2).bind fun t174 => (some t174)) else (none))))) else (if (wrap64 (Int.tmod (IntKind.u64.wrap (a1)) 8)) = 4 then (if a0_0 ≥ 4 then (if a0_0 ≤ 6 then ((drayagelaw04_known.f kj2).bind fun t175 => (some t175)) else ((entry_Check.f a0_0 a0_1 a0_2 a0_3 a0_4 a0_5 a0_6 (mx a0_7 1) a0_8 l0_9 l0_10).bind fun t176 => (if t176 = 40 then ((drayagelaw04_known.f kj2).bind fun t177 => (some t177)) else (none)))) else ((entry_Check.f a0_0 a0_1 a0_2 a0_3 a0_4 a0_5 a0_6 (mx a0_7 1) a0_8 l0_9 l0_10).bind fun t178 => (if t178 = 40 then ((drayagelaw04_known.f kj2).bind fun t179 => (some t179)) else (none)))) else (if (wrap64 (Int.tmod (IntKind.u64.wrap (a1)) 8)) = 5 then (if a0_0 = 7 then ((drayagelaw04_known.f kj2).bind fun t180 => (some t180)) else ((entry_Check.f a0_0 a0_1 a0_2 a0_3 a0_4 a0_5 a0_6 a0_7 (mx a0_8 1) l0_9 l0_10).bind fun t181 => (if t181 = 40 then ((drayagelaw04_known.f kj2).bind fun t182 => (some t182)) else (none)))) else (if (wrap64 (Int.tmod (IntKind.u64.wrap (a1)) 8)) = 6 then (if a0_0 = 2 then ((drayagelaw04_known.f kj2).bind fun t186 => (some t186)) else ((entry_Check.f a0_0 a0_1 a0_2 a0_3 a0_4 a0_5 a0_6 a0_7 a0_8 (([107] : List Int)) l0_10).bind fun t187 => (if t187 = 40 then ((drayagelaw04_known.f kj2).bind fun t188 => (some t188)) else (none)))) else ((drayagelaw04_Beyond.f a1).bind fun t189 => ((entry_Check.f t189 a0_1 a0_2 a0_3 a0_4 a0_5 a0_6 a0_7 a0_8 l0_9 l0_10).bind fun t190 => (if t190 = 40 then ((drayagelaw04_known.f kj2).bind fun t191 => (some t191)) else (none))))))))))) = some r := by rw [if_neg (show ¬ (false = true) by decide)] at H; exact H
        clear H
        have H := H1
        clear H1
        have HX := Aside0.mk H
        clear H
        obtain ⟨hcu0, hcu1, hcu2, hcu3, hcu4, hcu5, hcu6, hcu7, hcu8, hcu9, hcu10, hfu0, hfu1, hfu2, hfu3, hfu4, hfu5, hfu6, hfu7, hfu8, hfu9, hfu10⟩ := blk_all11 BK153.out
        go_upto_if 23 with (first | ((with_reducible refine gate_dst (N := 5) rfl ?_); refine box_event ?hg (N := 5) ?hd (cs := #[.int .i64 0, .int .u64 0, .int .u32 0, .int .u32 0, .int .i64 0, .bool false, .int .i64 0, .int .i64 0, .int .u64 0, .slice none 0 0, .slice none 0 0]) (t := 26) ?hr ?_; (case hd => rfl); (case hg => rfl); (case hr => first | (go_simp; done) | (go_simp; rfl)); intro gb157 hg w22 hbox hb; have n0_ := Aside0.mk (blk_below (g := gb153) (o := .cells #[.int .i64 a0_0, .int .u64 a0_1, .int .u32 a0_2, .int .u32 a0_3, .int .i64 a0_4, .bool a0_5, .int .i64 a0_6, .int .i64 a0_7, .int .u64 a0_8, .slice A0_9 l0_9.length c0_9, .slice A0_10 l0_10.length c0_10] 26 (0, 0)) (by (with_reducible repeat (first | apply bd1 | apply bd2 | apply bd3)); exact BK153.out) hb); have n1_ := Aside0.mk (below_step (by repeat (first | (with_reducible first | exact HB.out | apply below_alloc | apply pw_below_drewN | apply below_drew1 | refine below_set ?_ GE153.out) | exact HB.out)) hb); have n2_ := Aside0.mk (hbox); have n3_ := Aside0.mk ((by rw [hg]; exact (below_size (by repeat (first | (with_reducible first | exact HB.out | apply below_alloc | apply pw_below_drewN | apply below_drew1 | refine below_set ?_ GE153.out) | exact HB.out))) : w.heap.size ≤ gb157)); have n4_ := Aside0.mk ((by rw [hg]; exact (below_size (by repeat (first | (with_reducible first | exact HB.out | apply below_alloc | apply pw_below_drewN | apply below_drew1 | refine below_set ?_ GE153.out) | exact HB.out))) : w.heap.size ≤ gb157)); have n5_ := Aside0.mk ((by rw [hg]; exact Nat.ne_of_lt (blk_lt (g := gb153) (o := .cells #[.int .i64 a0_0, .int .u64 a0_1, .int .u32 a0_2, .int .u32 a0_3, .int .i64 a0_4, .bool a0_5, .int .i64 a0_6, .int .i64 a0_7, .int .u64 a0_8, .slice A0_9 l0_9.length c0_9, .slice A0_10 l0_10.length c0_10] 26 (0, 0)) (by (with_reducible repeat (first | apply bd1 | apply bd2 | apply bd3)); exact BK153.out)) : gb153 ≠ gb157)); have n6_ := Aside0.mk ((by rw [hg]; exact Nat.ne_of_gt (blk_lt (g := gb153) (o := .cells #[.int .i64 a0_0, .int .u64 a0_1, .int .u32 a0_2, .int .u32 a0_3, .int .i64 a0_4, .bool a0_5, .int .i64 a0_6, .int .i64 a0_7, .int .u64 a0_8, .slice A0_9 l0_9.length c0_9, .slice A0_10 l0_10.length c0_10] 26 (0, 0)) (by (with_reducible repeat (first | apply bd1 | apply bd2 | apply bd3)); exact BK153.out)) : gb157 ≠ gb153)); clear BK153; clear HB; have BK153 := n0_; have HB := n1_; have BK157 := n2_; have GW157 := n3_; have GE157 := n4_; have NB153_157 := n5_; have NB157_153 := n6_; clear n0_ n1_ n2_ n3_ n4_ n5_ n6_; clear hb hbox hg; have hnb23 := NB157_153.out; have hnc23 := NB153_157.out; obtain ⟨hcz24_0, hcz24_1, hcz24_2, hcz24_3, hcz24_4, hcz24_5, hcz24_6, hcz24_7, hcz24_8, hcz24_9, hcz24_10, hfz24_0, hfz24_1, hfz24_2, hfz24_3, hfz24_4, hfz24_5, hfz24_6, hfz24_7, hfz24_8, hfz24_9, hfz24_10⟩ := blk_all11 BK157.out; obtain ⟨hcz25_0, hcz25_1, hcz25_2, hcz25_3, hcz25_4, hcz25_5, hcz25_6, hcz25_7, hcz25_8, hcz25_9, hcz25_10, hfz25_0, hfz25_1, hfz25_2, hfz25_3, hfz25_4, hfz25_5, hfz25_6, hfz25_7, hfz25_8, hfz25_9, hfz25_10⟩ := blk_all11 BK153.out))
        obtain ⟨Wf, eW, hW1, hW2⟩ := entry_put (.int .i64 a0_0) (.int .u64 a0_1) (.int .u32 a0_2) (.int .u32 a0_3) (.int .i64 a0_4) (.bool a0_5) (.int .i64 a0_6) (.int .i64 a0_7) (.int .u64 a0_8) (.slice A0_9 l0_9.length c0_9) (.slice A0_10 l0_10.length c0_10) BK157.out
        rw [← eW]
        have m0_ := Aside0.mk ((hW2 gb153 NB153_157.out).trans BK153.out)
        have m1_ := Aside0.mk hW1
        have m2w : Below w.heap.size w Wf := by (rw [eW]; (iterate 11 refine below_set ?_ GE157.out); exact HB.out)
        have m2_ := Aside0.mk m2w
        clear m2w
        clear BK153 BK157 HB eW hW1 hW2
        have BK153 := m0_
        have BK157 := m1_
        have HB := m2_
        clear m0_ m1_ m2_
        have H := HX.out
        clear HX
        try clear hcu0 hcu1 hcu2 hcu3 hcu4 hcu5 hcu6 hcu7 hcu8 hcu9 hcu10 hfu0 hfu1 hfu2 hfu3 hfu4 hfu5 hfu6 hfu7 hfu8 hfu9 hfu10
        by_cases c17 : (wrap64 (Int.tmod (IntKind.u64.wrap (a1)) 8)) = 0
        · rw [if_pos c17] at H
          have c17b0 : ((wrap64 (Int.tmod (IntKind.u64.wrap (a1)) 8)) == 0) = true := beq_iff_eq.mpr c17
          have c17b1 : ((wrap64 (Int.tmod (IntKind.u64.wrap (a1)) 8)) != 0) = false := bne_eq_false_iff_eq.mpr c17
          clear c17
          by_cases c18 : a0_0 ≥ 2
          · rw [if_pos c18] at H
            have c18b0 : decide (2 ≤ a0_0) = true := decide_eq_true c18
            clear c18
            by_cases c19 : a0_0 ≤ 5
            · rw [if_pos c19] at H
              have c19b0 : decide (a0_0 ≤ 5) = true := decide_eq_true c19
              clear c19
              replace H := Option.bind_eq_some_iff.mp H
              obtain ⟨t158, A200, H⟩ := H
              replace H : (some t158) = some r := H
              have A20 := Aside0.mk A200
              clear A200
              obtain rfl := Option.some.inj H

              have hnb23 := NB157_153.out; have hnc23 := NB153_157.out; obtain ⟨hcz24_0, hcz24_1, hcz24_2, hcz24_3, hcz24_4, hcz24_5, hcz24_6, hcz24_7, hcz24_8, hcz24_9, hcz24_10, hfz24_0, hfz24_1, hfz24_2, hfz24_3, hfz24_4, hfz24_5, hfz24_6, hfz24_7, hfz24_8, hfz24_9, hfz24_10⟩ := blk_all11 BK157.out; obtain ⟨hcz25_0, hcz25_1, hcz25_2, hcz25_3, hcz25_4, hcz25_5, hcz25_6, hcz25_7, hcz25_8, hcz25_9, hcz25_10, hfz25_0, hfz25_1, hfz25_2, hfz25_3, hfz25_4, hfz25_5, hfz25_6, hfz25_7, hfz25_8, hfz25_9, hfz25_10⟩ := blk_all11 BK153.out
              go_wp2_with (first | (go_at_call 12; (with_reducible refine (drayagelaw04_known.calls kj2  t158 _ A20.out).mono ?_); rintro e w26 ⟨rfl, hb⟩; have n0_ := Aside0.mk (blk_below (g := gb153) (o := .cells #[.int .i64 a0_0, .int .u64 a0_1, .int .u32 a0_2, .int .u32 a0_3, .int .i64 a0_4, .bool a0_5, .int .i64 a0_6, .int .i64 a0_7, .int .u64 a0_8, .slice A0_9 l0_9.length c0_9, .slice A0_10 l0_10.length c0_10] 26 (0, 0)) (by (with_reducible repeat (first | apply bd1 | apply bd2 | apply bd3)); refine blk_far ?_ NB153_157.out _; (with_reducible repeat (first | apply bd1 | apply bd2 | apply bd3)); exact BK153.out) hb); have n1_ := Aside0.mk (blk_below (g := gb157) (o := .cells #[.int .i64 a0_0, .int .u64 a0_1, .int .u32 a0_2, .int .u32 ((a0_3 + 1) % 4294967296), .int .i64 a0_4, .bool a0_5, .int .i64 a0_6, .int .i64 a0_7, .int .u64 a0_8, .slice A0_9 l0_9.length c0_9, .slice A0_10 l0_10.length c0_10] 26 (0, 0)) (by (with_reducible repeat (first | apply bd1 | apply bd2 | apply bd3)); refine blk_put (cs := #[.int .i64 a0_0, .int .u64 a0_1, .int .u32 a0_2, .int .u32 a0_3, .int .i64 a0_4, .bool a0_5, .int .i64 a0_6, .int .i64 a0_7, .int .u64 a0_8, .slice A0_9 l0_9.length c0_9, .slice A0_10 l0_10.length c0_10]) ?_ 3 _ rfl; (with_reducible repeat (first | apply bd1 | apply bd2 | apply bd3)); exact BK157.out) hb); have n2_ := Aside0.mk (below_step (by repeat (first | (with_reducible first | exact HB.out | apply below_alloc | apply pw_below_drewN | apply below_drew1 | refine below_set ?_ GE153.out | refine below_set ?_ GE157.out) | exact HB.out)) hb); clear BK153; clear BK157; clear HB; have BK153 := n0_; have BK157 := n1_; have HB := n2_; clear n0_ n1_ n2_; (try clear hb); (try clear hb2); (try clear hk); (try clear hi)))
              go_ret
              exact ⟨by first | rfl | (simp [errW_none, errW_some] <;> rfl) | (simp [*, errW_none, errW_some] <;> rfl), by repeat (first | (with_reducible first | exact HB.out | apply below_alloc | apply pw_below_drewN | apply below_drew1 | refine below_set ?_ GE153.out | refine below_set ?_ GE157.out) | exact HB.out)⟩
            · rw [if_neg c19] at H
              have c19b0 : decide (a0_0 ≤ 5) = false := decide_eq_false c19
              clear c19
              replace H := Option.bind_eq_some_iff.mp H
              obtain ⟨t159, A270, H⟩ := H
              replace H : (if t159 = 40 then ((drayagelaw04_known.f kj2).bind fun t160 => (some t160)) else (none)) = some r := H
              have A27 := Aside0.mk A270
              clear A270
              by_cases c28 : t159 = 40
              · rw [if_pos c28] at H
                have c28b0 : (t159 == 40) = true := beq_iff_eq.mpr c28
                have c28b1 : (t159 != 40) = false := bne_eq_false_iff_eq.mpr c28
                clear c28
                replace H := Option.bind_eq_some_iff.mp H
                obtain ⟨t160, A290, H⟩ := H
                replace H : (some t160) = some r := H
                have A29 := Aside0.mk A290
                clear A290
                obtain rfl := Option.some.inj H

                have hnb32 := NB157_153.out; have hnc32 := NB153_157.out; obtain ⟨hcz33_0, hcz33_1, hcz33_2, hcz33_3, hcz33_4, hcz33_5, hcz33_6, hcz33_7, hcz33_8, hcz33_9, hcz33_10, hfz33_0, hfz33_1, hfz33_2, hfz33_3, hfz33_4, hfz33_5, hfz33_6, hfz33_7, hfz33_8, hfz33_9, hfz33_10⟩ := blk_all11 BK157.out; obtain ⟨hcz34_0, hcz34_1, hcz34_2, hcz34_3, hcz34_4, hcz34_5, hcz34_6, hcz34_7, hcz34_8, hcz34_9, hcz34_10, hfz34_0, hfz34_1, hfz34_2, hfz34_3, hfz34_4, hfz34_5, hfz34_6, hfz34_7, hfz34_8, hfz34_9, hfz34_10⟩ := blk_all11 BK153.out
                go_wp2_with (first | (go_at_call 15; (with_reducible refine (entry_Check.calls a0_0 a0_1 a0_2 ((a0_3 + 1) % 4294967296) a0_4 a0_5 a0_6 a0_7 a0_8 _ _ l0_9 _ _ l0_10 t159 _ ?side1 ?side2 ?side3 ?side4 A27.out).mono ?_); (case side1 => exact Kd.C_below HR0_9.out (by repeat (first | (with_reducible first | exact HB.out | apply below_alloc | apply pw_below_drewN | apply below_drew1 | refine below_set ?_ GE153.out | refine below_set ?_ GE157.out) | exact HB.out))); (case side2 => exact HC0_9.out); (case side3 => exact Kd.C_below HR0_10.out (by repeat (first | (with_reducible first | exact HB.out | apply below_alloc | apply pw_below_drewN | apply below_drew1 | refine below_set ?_ GE153.out | refine below_set ?_ GE157.out) | exact HB.out))); (case side4 => exact HC0_10.out); rintro e w35 ⟨rfl, hb⟩; have n0_ := Aside0.mk (blk_below (g := gb153) (o := .cells #[.int .i64 a0_0, .int .u64 a0_1, .int .u32 a0_2, .int .u32 a0_3, .int .i64 a0_4, .bool a0_5, .int .i64 a0_6, .int .i64 a0_7, .int .u64 a0_8, .slice A0_9 l0_9.length c0_9, .slice A0_10 l0_10.length c0_10] 26 (0, 0)) (by (with_reducible repeat (first | apply bd1 | apply bd2 | apply bd3)); refine blk_far ?_ NB153_157.out _; (with_reducible repeat (first | apply bd1 | apply bd2 | apply bd3)); exact BK153.out) hb); have n1_ := Aside0.mk (blk_below (g := gb157) (o := .cells #[.int .i64 a0_0, .int .u64 a0_1, .int .u32 a0_2, .int .u32 ((a0_3 + 1) % 4294967296), .int .i64 a0_4, .bool a0_5, .int .i64 a0_6, .int .i64 a0_7, .int .u64 a0_8, .slice A0_9 l0_9.length c0_9, .slice A0_10 l0_10.length c0_10] 26 (0, 0)) (by (with_reducible repeat (first | apply bd1 | apply bd2 | apply bd3)); refine blk_put (cs := #[.int .i64 a0_0, .int .u64 a0_1, .int .u32 a0_2, .int .u32 a0_3, .int .i64 a0_4, .bool a0_5, .int .i64 a0_6, .int .i64 a0_7, .int .u64 a0_8, .slice A0_9 l0_9.length c0_9, .slice A0_10 l0_10.length c0_10]) ?_ 3 _ rfl; (with_reducible repeat (first | apply bd1 | apply bd2 | apply bd3)); exact BK157.out) hb); have n2_ := Aside0.mk (below_step (by repeat (first | (with_reducible first | exact HB.out | apply below_alloc | apply pw_below_drewN | apply below_drew1 | refine below_set ?_ GE153.out | refine below_set ?_ GE157.out) | exact HB.out)) hb); clear BK153; clear BK157; clear HB; have BK153 := n0_; have BK157 := n1_; have HB := n2_; clear n0_ n1_ n2_; (try clear hb); (try clear hb2); (try clear hk); (try clear hi)) | (go_at_call 12; (with_reducible refine (drayagelaw04_known.calls kj2  t160 _ A29.out).mono ?_); rintro e w36 ⟨rfl, hb⟩; have n0_ := Aside0.mk (blk_below (g := gb153) (o := .cells #[.int .i64 a0_0, .int .u64 a0_1, .int .u32 a0_2, .int .u32 a0_3, .int .i64 a0_4, .bool a0_5, .int .i64 a0_6, .int .i64 a0_7, .int .u64 a0_8, .slice A0_9 l0_9.length c0_9, .slice A0_10 l0_10.length c0_10] 26 (0, 0)) (by (with_reducible repeat (first | apply bd1 | apply bd2 | apply bd3)); exact BK153.out) hb); have n1_ := Aside0.mk (blk_below (g := gb157) (o := .cells #[.int .i64 a0_0, .int .u64 a0_1, .int .u32 a0_2, .int .u32 ((a0_3 + 1) % 4294967296), .int .i64 a0_4, .bool a0_5, .int .i64 a0_6, .int .i64 a0_7, .int .u64 a0_8, .slice A0_9 l0_9.length c0_9, .slice A0_10 l0_10.length c0_10] 26 (0, 0)) (by (with_reducible repeat (first | apply bd1 | apply bd2 | apply bd3)); exact BK157.out) hb); have n2_ := Aside0.mk (below_step (by repeat (first | (with_reducible first | exact HB.out | apply below_alloc | apply pw_below_drewN | apply below_drew1 | refine below_set ?_ GE153.out | refine below_set ?_ GE157.out) | exact HB.out)) hb); clear BK153; clear BK157; clear HB; have BK153 := n0_; have BK157 := n1_; have HB := n2_; clear n0_ n1_ n2_; (try clear hb); (try clear hb2); (try clear hk); (try clear hi)))
                go_ret
                exact ⟨by first | rfl | (simp [errW_none, errW_some] <;> rfl) | (simp [*, errW_none, errW_some] <;> rfl), by repeat (first | (with_reducible first | exact HB.out | apply below_alloc | apply pw_below_drewN | apply below_drew1 | refine below_set ?_ GE153.out | refine below_set ?_ GE157.out) | exact HB.out)⟩
              · rw [if_neg c28] at H
                exact absurd H (by simp)
          · rw [if_neg c18] at H
            have c18b0 : decide (2 ≤ a0_0) = false := decide_eq_false c18
            clear c18
            replace H := Option.bind_eq_some_iff.mp H
            obtain ⟨t161, A370, H⟩ := H
            replace H : (if t161 = 40 then ((drayagelaw04_known.f kj2).bind fun t162 => (some t162)) else (none)) = some r := H
            have A37 := Aside0.mk A370
            clear A370
            by_cases c38 : t161 = 40
            · rw [if_pos c38] at H
              have c38b0 : (t161 == 40) = true := beq_iff_eq.mpr c38
              have c38b1 : (t161 != 40) = false := bne_eq_false_iff_eq.mpr c38
              clear c38
              replace H := Option.bind_eq_some_iff.mp H
              obtain ⟨t162, A390, H⟩ := H
              replace H : (some t162) = some r := H
              have A39 := Aside0.mk A390
              clear A390
              obtain rfl := Option.some.inj H

              have hnb42 := NB157_153.out; have hnc42 := NB153_157.out; obtain ⟨hcz43_0, hcz43_1, hcz43_2, hcz43_3, hcz43_4, hcz43_5, hcz43_6, hcz43_7, hcz43_8, hcz43_9, hcz43_10, hfz43_0, hfz43_1, hfz43_2, hfz43_3, hfz43_4, hfz43_5, hfz43_6, hfz43_7, hfz43_8, hfz43_9, hfz43_10⟩ := blk_all11 BK157.out; obtain ⟨hcz44_0, hcz44_1, hcz44_2, hcz44_3, hcz44_4, hcz44_5, hcz44_6, hcz44_7, hcz44_8, hcz44_9, hcz44_10, hfz44_0, hfz44_1, hfz44_2, hfz44_3, hfz44_4, hfz44_5, hfz44_6, hfz44_7, hfz44_8, hfz44_9, hfz44_10⟩ := blk_all11 BK153.out
              go_wp2_with (first | (go_at_call 15; (with_reducible refine (entry_Check.calls a0_0 a0_1 a0_2 ((a0_3 + 1) % 4294967296) a0_4 a0_5 a0_6 a0_7 a0_8 _ _ l0_9 _ _ l0_10 t161 _ ?side1 ?side2 ?side3 ?side4 A37.out).mono ?_); (case side1 => exact Kd.C_below HR0_9.out (by repeat (first | (with_reducible first | exact HB.out | apply below_alloc | apply pw_below_drewN | apply below_drew1 | refine below_set ?_ GE153.out | refine below_set ?_ GE157.out) | exact HB.out))); (case side2 => exact HC0_9.out); (case side3 => exact Kd.C_below HR0_10.out (by repeat (first | (with_reducible first | exact HB.out | apply below_alloc | apply pw_below_drewN | apply below_drew1 | refine below_set ?_ GE153.out | refine below_set ?_ GE157.out) | exact HB.out))); (case side4 => exact HC0_10.out); rintro e w45 ⟨rfl, hb⟩; have n0_ := Aside0.mk (blk_below (g := gb153) (o := .cells #[.int .i64 a0_0, .int .u64 a0_1, .int .u32 a0_2, .int .u32 a0_3, .int .i64 a0_4, .bool a0_5, .int .i64 a0_6, .int .i64 a0_7, .int .u64 a0_8, .slice A0_9 l0_9.length c0_9, .slice A0_10 l0_10.length c0_10] 26 (0, 0)) (by (with_reducible repeat (first | apply bd1 | apply bd2 | apply bd3)); refine blk_far ?_ NB153_157.out _; (with_reducible repeat (first | apply bd1 | apply bd2 | apply bd3)); exact BK153.out) hb); have n1_ := Aside0.mk (blk_below (g := gb157) (o := .cells #[.int .i64 a0_0, .int .u64 a0_1, .int .u32 a0_2, .int .u32 ((a0_3 + 1) % 4294967296), .int .i64 a0_4, .bool a0_5, .int .i64 a0_6, .int .i64 a0_7, .int .u64 a0_8, .slice A0_9 l0_9.length c0_9, .slice A0_10 l0_10.length c0_10] 26 (0, 0)) (by (with_reducible repeat (first | apply bd1 | apply bd2 | apply bd3)); refine blk_put (cs := #[.int .i64 a0_0, .int .u64 a0_1, .int .u32 a0_2, .int .u32 a0_3, .int .i64 a0_4, .bool a0_5, .int .i64 a0_6, .int .i64 a0_7, .int .u64 a0_8, .slice A0_9 l0_9.length c0_9, .slice A0_10 l0_10.length c0_10]) ?_ 3 _ rfl; (with_reducible repeat (first | apply bd1 | apply bd2 | apply bd3)); exact BK157.out) hb); have n2_ := Aside0.mk (below_step (by repeat (first | (with_reducible first | exact HB.out | apply below_alloc | apply pw_below_drewN | apply below_drew1 | refine below_set ?_ GE153.out | refine below_set ?_ GE157.out) | exact HB.out)) hb); clear BK153; clear BK157; clear HB; have BK153 := n0_; have BK157 := n1_; have HB := n2_; clear n0_ n1_ n2_; (try clear hb); (try clear hb2); (try clear hk); (try clear hi)) | (go_at_call 12; (with_reducible refine (drayagelaw04_known.calls kj2  t162 _ A39.out).mono ?_); rintro e w46 ⟨rfl, hb⟩; have n0_ := Aside0.mk (blk_below (g := gb153) (o := .cells #[.int .i64 a0_0, .int .u64 a0_1, .int .u32 a0_2, .int .u32 a0_3, .int .i64 a0_4, .bool a0_5, .int .i64 a0_6, .int .i64 a0_7, .int .u64 a0_8, .slice A0_9 l0_9.length c0_9, .slice A0_10 l0_10.length c0_10] 26 (0, 0)) (by (with_reducible repeat (first | apply bd1 | apply bd2 | apply bd3)); exact BK153.out) hb); have n1_ := Aside0.mk (blk_below (g := gb157) (o := .cells #[.int .i64 a0_0, .int .u64 a0_1, .int .u32 a0_2, .int .u32 ((a0_3 + 1) % 4294967296), .int .i64 a0_4, .bool a0_5, .int .i64 a0_6, .int .i64 a0_7, .int .u64 a0_8, .slice A0_9 l0_9.length c0_9, .slice A0_10 l0_10.length c0_10] 26 (0, 0)) (by (with_reducible repeat (first | apply bd1 | apply bd2 | apply bd3)); exact BK157.out) hb); have n2_ := Aside0.mk (below_step (by repeat (first | (with_reducible first | exact HB.out | apply below_alloc | apply pw_below_drewN | apply below_drew1 | refine below_set ?_ GE153.out | refine below_set ?_ GE157.out) | exact HB.out)) hb); clear BK153; clear BK157; clear HB; have BK153 := n0_; have BK157 := n1_; have HB := n2_; clear n0_ n1_ n2_; (try clear hb); (try clear hb2); (try clear hk); (try clear hi)))
              go_ret
              exact ⟨by first | rfl | (simp [errW_none, errW_some] <;> rfl) | (simp [*, errW_none, errW_some] <;> rfl), by repeat (first | (with_reducible first | exact HB.out | apply below_alloc | apply pw_below_drewN | apply below_drew1 | refine below_set ?_ GE153.out | refine below_set ?_ GE157.out) | exact HB.out)⟩
            · rw [if_neg c38] at H
              exact absurd H (by simp)
        · rw [if_neg c17] at H
          have c17b0 : ((wrap64 (Int.tmod (IntKind.u64.wrap (a1)) 8)) == 0) = false := beq_eq_false_iff_ne.mpr c17
          have c17b1 : ((wrap64 (Int.tmod (IntKind.u64.wrap (a1)) 8)) != 0) = true := bne_iff_ne.mpr c17
          by_cases c47 : (wrap64 (Int.tmod (IntKind.u64.wrap (a1)) 8)) = 1
          · rw [if_pos c47] at H
            have c47b0 : ((wrap64 (Int.tmod (IntKind.u64.wrap (a1)) 8)) == 1) = true := beq_iff_eq.mpr c47
            have c47b1 : ((wrap64 (Int.tmod (IntKind.u64.wrap (a1)) 8)) != 1) = false := bne_eq_false_iff_eq.mpr c47
            clear c47
            obtain ⟨ji48, hji48⟩ : ∃ j_ : Int, (mn a0_4 1) = j_ := ⟨_, rfl⟩
            replace H : (if a0_0 = 3 then ((drayagelaw04_known.f kj2).bind fun t163 => (some t163)) else (if a0_0 = 4 then ((drayagelaw04_known.f kj2).bind fun t164 => (some t164)) else ((entry_Check.f a0_0 a0_1 a0_2 a0_3 (wrap64 (1 - (ji48))) a0_5 a0_6 a0_7 a0_8 l0_9 l0_10).bind fun t165 => (if t165 = 40 then ((drayagelaw04_known.f kj2).bind fun t166 => (some t166)) else (none))))) = some r := by first | (rw [hji48] at H; exact H) | (simp only [hji48] at H ⊢; exact H)
            have hji48_ : (if 1 < a0_4 then 1 else a0_4) = ji48 := hji48
            by_cases c49 : a0_0 = 3
            · rw [if_pos c49] at H
              have c49b0 : (a0_0 == 3) = true := beq_iff_eq.mpr c49
              have c49b1 : (a0_0 != 3) = false := bne_eq_false_iff_eq.mpr c49
              clear c49
              replace H := Option.bind_eq_some_iff.mp H
              obtain ⟨t163, A500, H⟩ := H
              replace H : (some t163) = some r := H
              have A50 := Aside0.mk A500
              clear A500
              obtain rfl := Option.some.inj H

              have hnb53 := NB157_153.out; have hnc53 := NB153_157.out; obtain ⟨hcz54_0, hcz54_1, hcz54_2, hcz54_3, hcz54_4, hcz54_5, hcz54_6, hcz54_7, hcz54_8, hcz54_9, hcz54_10, hfz54_0, hfz54_1, hfz54_2, hfz54_3, hfz54_4, hfz54_5, hfz54_6, hfz54_7, hfz54_8, hfz54_9, hfz54_10⟩ := blk_all11 BK157.out; obtain ⟨hcz55_0, hcz55_1, hcz55_2, hcz55_3, hcz55_4, hcz55_5, hcz55_6, hcz55_7, hcz55_8, hcz55_9, hcz55_10, hfz55_0, hfz55_1, hfz55_2, hfz55_3, hfz55_4, hfz55_5, hfz55_6, hfz55_7, hfz55_8, hfz55_9, hfz55_10⟩ := blk_all11 BK153.out
              go_wp2_with (first | (go_at_call 12; (with_reducible refine (drayagelaw04_known.calls kj2  t163 _ A50.out).mono ?_); rintro e w56 ⟨rfl, hb⟩; have n0_ := Aside0.mk (blk_below (g := gb153) (o := .cells #[.int .i64 a0_0, .int .u64 a0_1, .int .u32 a0_2, .int .u32 a0_3, .int .i64 a0_4, .bool a0_5, .int .i64 a0_6, .int .i64 a0_7, .int .u64 a0_8, .slice A0_9 l0_9.length c0_9, .slice A0_10 l0_10.length c0_10] 26 (0, 0)) (by (with_reducible repeat (first | apply bd1 | apply bd2 | apply bd3)); refine blk_far ?_ NB153_157.out _; (with_reducible repeat (first | apply bd1 | apply bd2 | apply bd3)); exact BK153.out) hb); have n1_ := Aside0.mk (blk_below (g := gb157) (o := .cells #[.int .i64 a0_0, .int .u64 a0_1, .int .u32 a0_2, .int .u32 a0_3, .int .i64 (wrap64 (1 - (ji48))), .bool a0_5, .int .i64 a0_6, .int .i64 a0_7, .int .u64 a0_8, .slice A0_9 l0_9.length c0_9, .slice A0_10 l0_10.length c0_10] 26 (0, 0)) (by (with_reducible repeat (first | apply bd1 | apply bd2 | apply bd3)); refine blk_put (cs := #[.int .i64 a0_0, .int .u64 a0_1, .int .u32 a0_2, .int .u32 a0_3, .int .i64 a0_4, .bool a0_5, .int .i64 a0_6, .int .i64 a0_7, .int .u64 a0_8, .slice A0_9 l0_9.length c0_9, .slice A0_10 l0_10.length c0_10]) ?_ 4 _ rfl; (with_reducible repeat (first | apply bd1 | apply bd2 | apply bd3)); exact BK157.out) hb); have n2_ := Aside0.mk (below_step (by repeat (first | (with_reducible first | exact HB.out | apply below_alloc | apply pw_below_drewN | apply below_drew1 | refine below_set ?_ GE153.out | refine below_set ?_ GE157.out) | exact HB.out)) hb); clear BK153; clear BK157; clear HB; have BK153 := n0_; have BK157 := n1_; have HB := n2_; clear n0_ n1_ n2_; (try clear hb); (try clear hb2); (try clear hk); (try clear hi)))
              go_ret
              exact ⟨by first | rfl | (simp [errW_none, errW_some] <;> rfl) | (simp only [← hji48]; first | rfl | (simp [errW_none, errW_some] <;> rfl)) | (simp [*, errW_none, errW_some] <;> rfl), by repeat (first | (with_reducible first | exact HB.out | apply below_alloc | apply pw_below_drewN | apply below_drew1 | refine below_set ?_ GE153.out | refine below_set ?_ GE157.out) | exact HB.out)⟩
            · rw [if_neg c49] at H
              have c49b0 : (a0_0 == 3) = false := beq_eq_false_iff_ne.mpr c49
              have c49b1 : (a0_0 != 3) = true := bne_iff_ne.mpr c49
              by_cases c57 : a0_0 = 4
              · rw [if_pos c57] at H
                have c57b0 : (a0_0 == 4) = true := beq_iff_eq.mpr c57
                have c57b1 : (a0_0 != 4) = false := bne_eq_false_iff_eq.mpr c57
                clear c57
                replace H := Option.bind_eq_some_iff.mp H
                obtain ⟨t164, A580, H⟩ := H
                replace H : (some t164) = some r := H
                have A58 := Aside0.mk A580
                clear A580
                obtain rfl := Option.some.inj H

                have hnb61 := NB157_153.out; have hnc61 := NB153_157.out; obtain ⟨hcz62_0, hcz62_1, hcz62_2, hcz62_3, hcz62_4, hcz62_5, hcz62_6, hcz62_7, hcz62_8, hcz62_9, hcz62_10, hfz62_0, hfz62_1, hfz62_2, hfz62_3, hfz62_4, hfz62_5, hfz62_6, hfz62_7, hfz62_8, hfz62_9, hfz62_10⟩ := blk_all11 BK157.out; obtain ⟨hcz63_0, hcz63_1, hcz63_2, hcz63_3, hcz63_4, hcz63_5, hcz63_6, hcz63_7, hcz63_8, hcz63_9, hcz63_10, hfz63_0, hfz63_1, hfz63_2, hfz63_3, hfz63_4, hfz63_5, hfz63_6, hfz63_7, hfz63_8, hfz63_9, hfz63_10⟩ := blk_all11 BK153.out
                go_wp2_with (first | (go_at_call 12; (with_reducible refine (drayagelaw04_known.calls kj2  t164 _ A58.out).mono ?_); rintro e w64 ⟨rfl, hb⟩; have n0_ := Aside0.mk (blk_below (g := gb153) (o := .cells #[.int .i64 a0_0, .int .u64 a0_1, .int .u32 a0_2, .int .u32 a0_3, .int .i64 a0_4, .bool a0_5, .int .i64 a0_6, .int .i64 a0_7, .int .u64 a0_8, .slice A0_9 l0_9.length c0_9, .slice A0_10 l0_10.length c0_10] 26 (0, 0)) (by (with_reducible repeat (first | apply bd1 | apply bd2 | apply bd3)); refine blk_far ?_ NB153_157.out _; (with_reducible repeat (first | apply bd1 | apply bd2 | apply bd3)); exact BK153.out) hb); have n1_ := Aside0.mk (blk_below (g := gb157) (o := .cells #[.int .i64 a0_0, .int .u64 a0_1, .int .u32 a0_2, .int .u32 a0_3, .int .i64 (wrap64 (1 - (ji48))), .bool a0_5, .int .i64 a0_6, .int .i64 a0_7, .int .u64 a0_8, .slice A0_9 l0_9.length c0_9, .slice A0_10 l0_10.length c0_10] 26 (0, 0)) (by (with_reducible repeat (first | apply bd1 | apply bd2 | apply bd3)); refine blk_put (cs := #[.int .i64 a0_0, .int .u64 a0_1, .int .u32 a0_2, .int .u32 a0_3, .int .i64 a0_4, .bool a0_5, .int .i64 a0_6, .int .i64 a0_7, .int .u64 a0_8, .slice A0_9 l0_9.length c0_9, .slice A0_10 l0_10.length c0_10]) ?_ 4 _ rfl; (with_reducible repeat (first | apply bd1 | apply bd2 | apply bd3)); exact BK157.out) hb); have n2_ := Aside0.mk (below_step (by repeat (first | (with_reducible first | exact HB.out | apply below_alloc | apply pw_below_drewN | apply below_drew1 | refine below_set ?_ GE153.out | refine below_set ?_ GE157.out) | exact HB.out)) hb); clear BK153; clear BK157; clear HB; have BK153 := n0_; have BK157 := n1_; have HB := n2_; clear n0_ n1_ n2_; (try clear hb); (try clear hb2); (try clear hk); (try clear hi)))
                go_ret
                exact ⟨by first | rfl | (simp [errW_none, errW_some] <;> rfl) | (simp only [← hji48]; first | rfl | (simp [errW_none, errW_some] <;> rfl)) | (simp [*, errW_none, errW_some] <;> rfl), by repeat (first | (with_reducible first | exact HB.out | apply below_alloc | apply pw_below_drewN | apply below_drew1 | refine below_set ?_ GE153.out | refine below_set ?_ GE157.out) | exact HB.out)⟩
              · rw [if_neg c57] at H
                have c57b0 : (a0_0 == 4) = false := beq_eq_false_iff_ne.mpr c57
                have c57b1 : (a0_0 != 4) = true := bne_iff_ne.mpr c57
                replace H := Option.bind_eq_some_iff.mp H
                obtain ⟨t165, A650, H⟩ := H
                replace H : (if t165 = 40 then ((drayagelaw04_known.f kj2).bind fun t166 => (some t166)) else (none)) = some r := H
                have A65 := Aside0.mk A650
                clear A650
                by_cases c66 : t165 = 40
                · rw [if_pos c66] at H
                  have c66b0 : (t165 == 40) = true := beq_iff_eq.mpr c66
                  have c66b1 : (t165 != 40) = false := bne_eq_false_iff_eq.mpr c66
                  clear c66
                  replace H := Option.bind_eq_some_iff.mp H
                  obtain ⟨t166, A670, H⟩ := H
                  replace H : (some t166) = some r := H
                  have A67 := Aside0.mk A670
                  clear A670
                  obtain rfl := Option.some.inj H

                  have hnb70 := NB157_153.out; have hnc70 := NB153_157.out; obtain ⟨hcz71_0, hcz71_1, hcz71_2, hcz71_3, hcz71_4, hcz71_5, hcz71_6, hcz71_7, hcz71_8, hcz71_9, hcz71_10, hfz71_0, hfz71_1, hfz71_2, hfz71_3, hfz71_4, hfz71_5, hfz71_6, hfz71_7, hfz71_8, hfz71_9, hfz71_10⟩ := blk_all11 BK157.out; obtain ⟨hcz72_0, hcz72_1, hcz72_2, hcz72_3, hcz72_4, hcz72_5, hcz72_6, hcz72_7, hcz72_8, hcz72_9, hcz72_10, hfz72_0, hfz72_1, hfz72_2, hfz72_3, hfz72_4, hfz72_5, hfz72_6, hfz72_7, hfz72_8, hfz72_9, hfz72_10⟩ := blk_all11 BK153.out
                  go_wp2_with (first | (go_at_call 15; (with_reducible refine (entry_Check.calls a0_0 a0_1 a0_2 a0_3 (wrap64 (1 - (ji48))) a0_5 a0_6 a0_7 a0_8 _ _ l0_9 _ _ l0_10 t165 _ ?side1 ?side2 ?side3 ?side4 A65.out).mono ?_); (case side1 => exact Kd.C_below HR0_9.out (by repeat (first | (with_reducible first | exact HB.out | apply below_alloc | apply pw_below_drewN | apply below_drew1 | refine below_set ?_ GE153.out | refine below_set ?_ GE157.out) | exact HB.out))); (case side2 => exact HC0_9.out); (case side3 => exact Kd.C_below HR0_10.out (by repeat (first | (with_reducible first | exact HB.out | apply below_alloc | apply pw_below_drewN | apply below_drew1 | refine below_set ?_ GE153.out | refine below_set ?_ GE157.out) | exact HB.out))); (case side4 => exact HC0_10.out); rintro e w73 ⟨rfl, hb⟩; have n0_ := Aside0.mk (blk_below (g := gb153) (o := .cells #[.int .i64 a0_0, .int .u64 a0_1, .int .u32 a0_2, .int .u32 a0_3, .int .i64 a0_4, .bool a0_5, .int .i64 a0_6, .int .i64 a0_7, .int .u64 a0_8, .slice A0_9 l0_9.length c0_9, .slice A0_10 l0_10.length c0_10] 26 (0, 0)) (by (with_reducible repeat (first | apply bd1 | apply bd2 | apply bd3)); refine blk_far ?_ NB153_157.out _; (with_reducible repeat (first | apply bd1 | apply bd2 | apply bd3)); exact BK153.out) hb); have n1_ := Aside0.mk (blk_below (g := gb157) (o := .cells #[.int .i64 a0_0, .int .u64 a0_1, .int .u32 a0_2, .int .u32 a0_3, .int .i64 (wrap64 (1 - (ji48))), .bool a0_5, .int .i64 a0_6, .int .i64 a0_7, .int .u64 a0_8, .slice A0_9 l0_9.length c0_9, .slice A0_10 l0_10.length c0_10] 26 (0, 0)) (by (with_reducible repeat (first | apply bd1 | apply bd2 | apply bd3)); refine blk_put (cs := #[.int .i64 a0_0, .int .u64 a0_1, .int .u32 a0_2, .int .u32 a0_3, .int .i64 a0_4, .bool a0_5, .int .i64 a0_6, .int .i64 a0_7, .int .u64 a0_8, .slice A0_9 l0_9.length c0_9, .slice A0_10 l0_10.length c0_10]) ?_ 4 _ rfl; (with_reducible repeat (first | apply bd1 | apply bd2 | apply bd3)); exact BK157.out) hb); have n2_ := Aside0.mk (below_step (by repeat (first | (with_reducible first | exact HB.out | apply below_alloc | apply pw_below_drewN | apply below_drew1 | refine below_set ?_ GE153.out | refine below_set ?_ GE157.out) | exact HB.out)) hb); clear BK153; clear BK157; clear HB; have BK153 := n0_; have BK157 := n1_; have HB := n2_; clear n0_ n1_ n2_; (try clear hb); (try clear hb2); (try clear hk); (try clear hi)) | (go_at_call 12; (with_reducible refine (drayagelaw04_known.calls kj2  t166 _ A67.out).mono ?_); rintro e w74 ⟨rfl, hb⟩; have n0_ := Aside0.mk (blk_below (g := gb153) (o := .cells #[.int .i64 a0_0, .int .u64 a0_1, .int .u32 a0_2, .int .u32 a0_3, .int .i64 a0_4, .bool a0_5, .int .i64 a0_6, .int .i64 a0_7, .int .u64 a0_8, .slice A0_9 l0_9.length c0_9, .slice A0_10 l0_10.length c0_10] 26 (0, 0)) (by (with_reducible repeat (first | apply bd1 | apply bd2 | apply bd3)); exact BK153.out) hb); have n1_ := Aside0.mk (blk_below (g := gb157) (o := .cells #[.int .i64 a0_0, .int .u64 a0_1, .int .u32 a0_2, .int .u32 a0_3, .int .i64 (wrap64 (1 - (ji48))), .bool a0_5, .int .i64 a0_6, .int .i64 a0_7, .int .u64 a0_8, .slice A0_9 l0_9.length c0_9, .slice A0_10 l0_10.length c0_10] 26 (0, 0)) (by (with_reducible repeat (first | apply bd1 | apply bd2 | apply bd3)); exact BK157.out) hb); have n2_ := Aside0.mk (below_step (by repeat (first | (with_reducible first | exact HB.out | apply below_alloc | apply pw_below_drewN | apply below_drew1 | refine below_set ?_ GE153.out | refine below_set ?_ GE157.out) | exact HB.out)) hb); clear BK153; clear BK157; clear HB; have BK153 := n0_; have BK157 := n1_; have HB := n2_; clear n0_ n1_ n2_; (try clear hb); (try clear hb2); (try clear hk); (try clear hi)))
                  go_ret
                  exact ⟨by first | rfl | (simp [errW_none, errW_some] <;> rfl) | (simp only [← hji48]; first | rfl | (simp [errW_none, errW_some] <;> rfl)) | (simp [*, errW_none, errW_some] <;> rfl), by repeat (first | (with_reducible first | exact HB.out | apply below_alloc | apply pw_below_drewN | apply below_drew1 | refine below_set ?_ GE153.out | refine below_set ?_ GE157.out) | exact HB.out)⟩
                · rw [if_neg c66] at H
                  exact absurd H (by simp)
          · rw [if_neg c47] at H
            have c47b0 : ((wrap64 (Int.tmod (IntKind.u64.wrap (a1)) 8)) == 1) = false := beq_eq_false_iff_ne.mpr c47
            have c47b1 : ((wrap64 (Int.tmod (IntKind.u64.wrap (a1)) 8)) != 1) = true := bne_iff_ne.mpr c47
            by_cases c75 : (wrap64 (Int.tmod (IntKind.u64.wrap (a1)) 8)) = 2
            · rw [if_pos c75] at H
              have c75b0 : ((wrap64 (Int.tmod (IntKind.u64.wrap (a1)) 8)) == 2) = true := beq_iff_eq.mpr c75
              have c75b1 : ((wrap64 (Int.tmod (IntKind.u64.wrap (a1)) 8)) != 2) = false := bne_eq_false_iff_eq.mpr c75
              clear c75
              by_cases c76 : a0_0 = 3
              · rw [if_pos c76] at H
                have c76b0 : (a0_0 == 3) = true := beq_iff_eq.mpr c76
                have c76b1 : (a0_0 != 3) = false := bne_eq_false_iff_eq.mpr c76
                clear c76
                replace H := Option.bind_eq_some_iff.mp H
                obtain ⟨t167, A770, H⟩ := H
                replace H : (some t167) = some r := H
                have A77 := Aside0.mk A770
                clear A770
                obtain rfl := Option.some.inj H

                have hnb80 := NB157_153.out; have hnc80 := NB153_157.out; obtain ⟨hcz81_0, hcz81_1, hcz81_2, hcz81_3, hcz81_4, hcz81_5, hcz81_6, hcz81_7, hcz81_8, hcz81_9, hcz81_10, hfz81_0, hfz81_1, hfz81_2, hfz81_3, hfz81_4, hfz81_5, hfz81_6, hfz81_7, hfz81_8, hfz81_9, hfz81_10⟩ := blk_all11 BK157.out; obtain ⟨hcz82_0, hcz82_1, hcz82_2, hcz82_3, hcz82_4, hcz82_5, hcz82_6, hcz82_7, hcz82_8, hcz82_9, hcz82_10, hfz82_0, hfz82_1, hfz82_2, hfz82_3, hfz82_4, hfz82_5, hfz82_6, hfz82_7, hfz82_8, hfz82_9, hfz82_10⟩ := blk_all11 BK153.out
                go_wp2_with (first | (go_at_call 12; (with_reducible refine (drayagelaw04_known.calls kj2  t167 _ A77.out).mono ?_); rintro e w83 ⟨rfl, hb⟩; have n0_ := Aside0.mk (blk_below (g := gb153) (o := .cells #[.int .i64 a0_0, .int .u64 a0_1, .int .u32 a0_2, .int .u32 a0_3, .int .i64 a0_4, .bool a0_5, .int .i64 a0_6, .int .i64 a0_7, .int .u64 a0_8, .slice A0_9 l0_9.length c0_9, .slice A0_10 l0_10.length c0_10] 26 (0, 0)) (by (with_reducible repeat (first | apply bd1 | apply bd2 | apply bd3)); refine blk_far ?_ NB153_157.out _; (with_reducible repeat (first | apply bd1 | apply bd2 | apply bd3)); exact BK153.out) hb); have n1_ := Aside0.mk (blk_below (g := gb157) (o := .cells #[.int .i64 a0_0, .int .u64 a0_1, .int .u32 a0_2, .int .u32 a0_3, .int .i64 a0_4, .bool (!a0_5), .int .i64 a0_6, .int .i64 a0_7, .int .u64 a0_8, .slice A0_9 l0_9.length c0_9, .slice A0_10 l0_10.length c0_10] 26 (0, 0)) (by (with_reducible repeat (first | apply bd1 | apply bd2 | apply bd3)); refine blk_put (cs := #[.int .i64 a0_0, .int .u64 a0_1, .int .u32 a0_2, .int .u32 a0_3, .int .i64 a0_4, .bool a0_5, .int .i64 a0_6, .int .i64 a0_7, .int .u64 a0_8, .slice A0_9 l0_9.length c0_9, .slice A0_10 l0_10.length c0_10]) ?_ 5 _ rfl; (with_reducible repeat (first | apply bd1 | apply bd2 | apply bd3)); exact BK157.out) hb); have n2_ := Aside0.mk (below_step (by repeat (first | (with_reducible first | exact HB.out | apply below_alloc | apply pw_below_drewN | apply below_drew1 | refine below_set ?_ GE153.out | refine below_set ?_ GE157.out) | exact HB.out)) hb); clear BK153; clear BK157; clear HB; have BK153 := n0_; have BK157 := n1_; have HB := n2_; clear n0_ n1_ n2_; (try clear hb); (try clear hb2); (try clear hk); (try clear hi)))
                go_ret
                exact ⟨by first | rfl | (simp [errW_none, errW_some] <;> rfl) | (simp [*, errW_none, errW_some] <;> rfl), by repeat (first | (with_reducible first | exact HB.out | apply below_alloc | apply pw_below_drewN | apply below_drew1 | refine below_set ?_ GE153.out | refine below_set ?_ GE157.out) | exact HB.out)⟩
              · rw [if_neg c76] at H
                have c76b0 : (a0_0 == 3) = false := beq_eq_false_iff_ne.mpr c76
                have c76b1 : (a0_0 != 3) = true := bne_iff_ne.mpr c76
                by_cases c84 : a0_0 = 4
                · rw [if_pos c84] at H
                  have c84b0 : (a0_0 == 4) = true := beq_iff_eq.mpr c84
                  have c84b1 : (a0_0 != 4) = false := bne_eq_false_iff_eq.mpr c84
                  clear c84
                  replace H := Option.bind_eq_some_iff.mp H
                  obtain ⟨t168, A850, H⟩ := H
                  replace H : (some t168) = some r := H
                  have A85 := Aside0.mk A850
                  clear A850
                  obtain rfl := Option.some.inj H

                  have hnb88 := NB157_153.out; have hnc88 := NB153_157.out; obtain ⟨hcz89_0, hcz89_1, hcz89_2, hcz89_3, hcz89_4, hcz89_5, hcz89_6, hcz89_7, hcz89_8, hcz89_9, hcz89_10, hfz89_0, hfz89_1, hfz89_2, hfz89_3, hfz89_4, hfz89_5, hfz89_6, hfz89_7, hfz89_8, hfz89_9, hfz89_10⟩ := blk_all11 BK157.out; obtain ⟨hcz90_0, hcz90_1, hcz90_2, hcz90_3, hcz90_4, hcz90_5, hcz90_6, hcz90_7, hcz90_8, hcz90_9, hcz90_10, hfz90_0, hfz90_1, hfz90_2, hfz90_3, hfz90_4, hfz90_5, hfz90_6, hfz90_7, hfz90_8, hfz90_9, hfz90_10⟩ := blk_all11 BK153.out
                  go_wp2_with (first | (go_at_call 12; (with_reducible refine (drayagelaw04_known.calls kj2  t168 _ A85.out).mono ?_); rintro e w91 ⟨rfl, hb⟩; have n0_ := Aside0.mk (blk_below (g := gb153) (o := .cells #[.int .i64 a0_0, .int .u64 a0_1, .int .u32 a0_2, .int .u32 a0_3, .int .i64 a0_4, .bool a0_5, .int .i64 a0_6, .int .i64 a0_7, .int .u64 a0_8, .slice A0_9 l0_9.length c0_9, .slice A0_10 l0_10.length c0_10] 26 (0, 0)) (by (with_reducible repeat (first | apply bd1 | apply bd2 | apply bd3)); refine blk_far ?_ NB153_157.out _; (with_reducible repeat (first | apply bd1 | apply bd2 | apply bd3)); exact BK153.out) hb); have n1_ := Aside0.mk (blk_below (g := gb157) (o := .cells #[.int .i64 a0_0, .int .u64 a0_1, .int .u32 a0_2, .int .u32 a0_3, .int .i64 a0_4, .bool (!a0_5), .int .i64 a0_6, .int .i64 a0_7, .int .u64 a0_8, .slice A0_9 l0_9.length c0_9, .slice A0_10 l0_10.length c0_10] 26 (0, 0)) (by (with_reducible repeat (first | apply bd1 | apply bd2 | apply bd3)); refine blk_put (cs := #[.int .i64 a0_0, .int .u64 a0_1, .int .u32 a0_2, .int .u32 a0_3, .int .i64 a0_4, .bool a0_5, .int .i64 a0_6, .int .i64 a0_7, .int .u64 a0_8, .slice A0_9 l0_9.length c0_9, .slice A0_10 l0_10.length c0_10]) ?_ 5 _ rfl; (with_reducible repeat (first | apply bd1 | apply bd2 | apply bd3)); exact BK157.out) hb); have n2_ := Aside0.mk (below_step (by repeat (first | (with_reducible first | exact HB.out | apply below_alloc | apply pw_below_drewN | apply below_drew1 | refine below_set ?_ GE153.out | refine below_set ?_ GE157.out) | exact HB.out)) hb); clear BK153; clear BK157; clear HB; have BK153 := n0_; have BK157 := n1_; have HB := n2_; clear n0_ n1_ n2_; (try clear hb); (try clear hb2); (try clear hk); (try clear hi)))
                  go_ret
                  exact ⟨by first | rfl | (simp [errW_none, errW_some] <;> rfl) | (simp [*, errW_none, errW_some] <;> rfl), by repeat (first | (with_reducible first | exact HB.out | apply below_alloc | apply pw_below_drewN | apply below_drew1 | refine below_set ?_ GE153.out | refine below_set ?_ GE157.out) | exact HB.out)⟩
                · rw [if_neg c84] at H
                  have c84b0 : (a0_0 == 4) = false := beq_eq_false_iff_ne.mpr c84
                  have c84b1 : (a0_0 != 4) = true := bne_iff_ne.mpr c84
                  replace H := Option.bind_eq_some_iff.mp H
                  obtain ⟨t169, A920, H⟩ := H
                  replace H : (if t169 = 40 then ((drayagelaw04_known.f kj2).bind fun t170 => (some t170)) else (none)) = some r := H
                  have A92 := Aside0.mk A920
                  clear A920
                  by_cases c93 : t169 = 40
                  · rw [if_pos c93] at H
                    have c93b0 : (t169 == 40) = true := beq_iff_eq.mpr c93
                    have c93b1 : (t169 != 40) = false := bne_eq_false_iff_eq.mpr c93
                    clear c93
                    replace H := Option.bind_eq_some_iff.mp H
                    obtain ⟨t170, A940, H⟩ := H
                    replace H : (some t170) = some r := H
                    have A94 := Aside0.mk A940
                    clear A940
                    obtain rfl := Option.some.inj H

                    have hnb97 := NB157_153.out; have hnc97 := NB153_157.out; obtain ⟨hcz98_0, hcz98_1, hcz98_2, hcz98_3, hcz98_4, hcz98_5, hcz98_6, hcz98_7, hcz98_8, hcz98_9, hcz98_10, hfz98_0, hfz98_1, hfz98_2, hfz98_3, hfz98_4, hfz98_5, hfz98_6, hfz98_7, hfz98_8, hfz98_9, hfz98_10⟩ := blk_all11 BK157.out; obtain ⟨hcz99_0, hcz99_1, hcz99_2, hcz99_3, hcz99_4, hcz99_5, hcz99_6, hcz99_7, hcz99_8, hcz99_9, hcz99_10, hfz99_0, hfz99_1, hfz99_2, hfz99_3, hfz99_4, hfz99_5, hfz99_6, hfz99_7, hfz99_8, hfz99_9, hfz99_10⟩ := blk_all11 BK153.out
                    go_wp2_with (first | (go_at_call 15; (with_reducible refine (entry_Check.calls a0_0 a0_1 a0_2 a0_3 a0_4 (!a0_5) a0_6 a0_7 a0_8 _ _ l0_9 _ _ l0_10 t169 _ ?side1 ?side2 ?side3 ?side4 A92.out).mono ?_); (case side1 => exact Kd.C_below HR0_9.out (by repeat (first | (with_reducible first | exact HB.out | apply below_alloc | apply pw_below_drewN | apply below_drew1 | refine below_set ?_ GE153.out | refine below_set ?_ GE157.out) | exact HB.out))); (case side2 => exact HC0_9.out); (case side3 => exact Kd.C_below HR0_10.out (by repeat (first | (with_reducible first | exact HB.out | apply below_alloc | apply pw_below_drewN | apply below_drew1 | refine below_set ?_ GE153.out | refine below_set ?_ GE157.out) | exact HB.out))); (case side4 => exact HC0_10.out); rintro e w100 ⟨rfl, hb⟩; have n0_ := Aside0.mk (blk_below (g := gb153) (o := .cells #[.int .i64 a0_0, .int .u64 a0_1, .int .u32 a0_2, .int .u32 a0_3, .int .i64 a0_4, .bool a0_5, .int .i64 a0_6, .int .i64 a0_7, .int .u64 a0_8, .slice A0_9 l0_9.length c0_9, .slice A0_10 l0_10.length c0_10] 26 (0, 0)) (by (with_reducible repeat (first | apply bd1 | apply bd2 | apply bd3)); refine blk_far ?_ NB153_157.out _; (with_reducible repeat (first | apply bd1 | apply bd2 | apply bd3)); exact BK153.out) hb); have n1_ := Aside0.mk (blk_below (g := gb157) (o := .cells #[.int .i64 a0_0, .int .u64 a0_1, .int .u32 a0_2, .int .u32 a0_3, .int .i64 a0_4, .bool (!a0_5), .int .i64 a0_6, .int .i64 a0_7, .int .u64 a0_8, .slice A0_9 l0_9.length c0_9, .slice A0_10 l0_10.length c0_10] 26 (0, 0)) (by (with_reducible repeat (first | apply bd1 | apply bd2 | apply bd3)); refine blk_put (cs := #[.int .i64 a0_0, .int .u64 a0_1, .int .u32 a0_2, .int .u32 a0_3, .int .i64 a0_4, .bool a0_5, .int .i64 a0_6, .int .i64 a0_7, .int .u64 a0_8, .slice A0_9 l0_9.length c0_9, .slice A0_10 l0_10.length c0_10]) ?_ 5 _ rfl; (with_reducible repeat (first | apply bd1 | apply bd2 | apply bd3)); exact BK157.out) hb); have n2_ := Aside0.mk (below_step (by repeat (first | (with_reducible first | exact HB.out | apply below_alloc | apply pw_below_drewN | apply below_drew1 | refine below_set ?_ GE153.out | refine below_set ?_ GE157.out) | exact HB.out)) hb); clear BK153; clear BK157; clear HB; have BK153 := n0_; have BK157 := n1_; have HB := n2_; clear n0_ n1_ n2_; (try clear hb); (try clear hb2); (try clear hk); (try clear hi)) | (go_at_call 12; (with_reducible refine (drayagelaw04_known.calls kj2  t170 _ A94.out).mono ?_); rintro e w101 ⟨rfl, hb⟩; have n0_ := Aside0.mk (blk_below (g := gb153) (o := .cells #[.int .i64 a0_0, .int .u64 a0_1, .int .u32 a0_2, .int .u32 a0_3, .int .i64 a0_4, .bool a0_5, .int .i64 a0_6, .int .i64 a0_7, .int .u64 a0_8, .slice A0_9 l0_9.length c0_9, .slice A0_10 l0_10.length c0_10] 26 (0, 0)) (by (with_reducible repeat (first | apply bd1 | apply bd2 | apply bd3)); exact BK153.out) hb); have n1_ := Aside0.mk (blk_below (g := gb157) (o := .cells #[.int .i64 a0_0, .int .u64 a0_1, .int .u32 a0_2, .int .u32 a0_3, .int .i64 a0_4, .bool (!a0_5), .int .i64 a0_6, .int .i64 a0_7, .int .u64 a0_8, .slice A0_9 l0_9.length c0_9, .slice A0_10 l0_10.length c0_10] 26 (0, 0)) (by (with_reducible repeat (first | apply bd1 | apply bd2 | apply bd3)); exact BK157.out) hb); have n2_ := Aside0.mk (below_step (by repeat (first | (with_reducible first | exact HB.out | apply below_alloc | apply pw_below_drewN | apply below_drew1 | refine below_set ?_ GE153.out | refine below_set ?_ GE157.out) | exact HB.out)) hb); clear BK153; clear BK157; clear HB; have BK153 := n0_; have BK157 := n1_; have HB := n2_; clear n0_ n1_ n2_; (try clear hb); (try clear hb2); (try clear hk); (try clear hi)))
                    go_ret
                    exact ⟨by first | rfl | (simp [errW_none, errW_some] <;> rfl) | (simp [*, errW_none, errW_some] <;> rfl), by repeat (first | (with_reducible first | exact HB.out | apply below_alloc | apply pw_below_drewN | apply below_drew1 | refine below_set ?_ GE153.out | refine below_set ?_ GE157.out) | exact HB.out)⟩
                  · rw [if_neg c93] at H
                    exact absurd H (by simp)
            · rw [if_neg c75] at H
              have c75b0 : ((wrap64 (Int.tmod (IntKind.u64.wrap (a1)) 8)) == 2) = false := beq_eq_false_iff_ne.mpr c75
              have c75b1 : ((wrap64 (Int.tmod (IntKind.u64.wrap (a1)) 8)) != 2) = true := bne_iff_ne.mpr c75
              by_cases c102 : (wrap64 (Int.tmod (IntKind.u64.wrap (a1)) 8)) = 3
              · rw [if_pos c102] at H
                have c102b0 : ((wrap64 (Int.tmod (IntKind.u64.wrap (a1)) 8)) == 3) = true := beq_iff_eq.mpr c102
                have c102b1 : ((wrap64 (Int.tmod (IntKind.u64.wrap (a1)) 8)) != 3) = false := bne_eq_false_iff_eq.mpr c102
                clear c102
                obtain ⟨ji103, hji103⟩ : ∃ j_ : Int, (mx a0_6 1) = j_ := ⟨_, rfl⟩
                replace H : (if a0_0 = 3 then ((drayagelaw04_known.f kj2).bind fun t171 => (some t171)) else (if a0_0 = 4 then ((drayagelaw04_known.f kj2).bind fun t172 => (some t172)) else ((entry_Check.f a0_0 a0_1 a0_2 a0_3 a0_4 a0_5 (ji103) a0_7 a0_8 l0_9 l0_10).bind fun t173 => (if t173 = 40 then ((drayagelaw04_known.f kj2).bind fun t174 => (some t174)) else (none))))) = some r := by first | (rw [hji103] at H; exact H) | (simp only [hji103] at H ⊢; exact H)
                have hji103_ : (if a0_6 < 1 then 1 else a0_6) = ji103 := hji103
                by_cases c104 : a0_0 = 3
                · rw [if_pos c104] at H
                  have c104b0 : (a0_0 == 3) = true := beq_iff_eq.mpr c104
                  have c104b1 : (a0_0 != 3) = false := bne_eq_false_iff_eq.mpr c104
                  clear c104
                  replace H := Option.bind_eq_some_iff.mp H
                  obtain ⟨t171, A1050, H⟩ := H
                  replace H : (some t171) = some r := H
                  have A105 := Aside0.mk A1050
                  clear A1050
                  obtain rfl := Option.some.inj H

                  have hnb108 := NB157_153.out; have hnc108 := NB153_157.out; obtain ⟨hcz109_0, hcz109_1, hcz109_2, hcz109_3, hcz109_4, hcz109_5, hcz109_6, hcz109_7, hcz109_8, hcz109_9, hcz109_10, hfz109_0, hfz109_1, hfz109_2, hfz109_3, hfz109_4, hfz109_5, hfz109_6, hfz109_7, hfz109_8, hfz109_9, hfz109_10⟩ := blk_all11 BK157.out; obtain ⟨hcz110_0, hcz110_1, hcz110_2, hcz110_3, hcz110_4, hcz110_5, hcz110_6, hcz110_7, hcz110_8, hcz110_9, hcz110_10, hfz110_0, hfz110_1, hfz110_2, hfz110_3, hfz110_4, hfz110_5, hfz110_6, hfz110_7, hfz110_8, hfz110_9, hfz110_10⟩ := blk_all11 BK153.out
                  go_wp2_with (first | (go_at_call 12; (with_reducible refine (drayagelaw04_known.calls kj2  t171 _ A105.out).mono ?_); rintro e w111 ⟨rfl, hb⟩; have n0_ := Aside0.mk (blk_below (g := gb153) (o := .cells #[.int .i64 a0_0, .int .u64 a0_1, .int .u32 a0_2, .int .u32 a0_3, .int .i64 a0_4, .bool a0_5, .int .i64 a0_6, .int .i64 a0_7, .int .u64 a0_8, .slice A0_9 l0_9.length c0_9, .slice A0_10 l0_10.length c0_10] 26 (0, 0)) (by (with_reducible repeat (first | apply bd1 | apply bd2 | apply bd3)); refine blk_far ?_ NB153_157.out _; (with_reducible repeat (first | apply bd1 | apply bd2 | apply bd3)); exact BK153.out) hb); have n1_ := Aside0.mk (blk_below (g := gb157) (o := .cells #[.int .i64 a0_0, .int .u64 a0_1, .int .u32 a0_2, .int .u32 a0_3, .int .i64 a0_4, .bool a0_5, .int .i64 ji103, .int .i64 a0_7, .int .u64 a0_8, .slice A0_9 l0_9.length c0_9, .slice A0_10 l0_10.length c0_10] 26 (0, 0)) (by (with_reducible repeat (first | apply bd1 | apply bd2 | apply bd3)); refine blk_put (cs := #[.int .i64 a0_0, .int .u64 a0_1, .int .u32 a0_2, .int .u32 a0_3, .int .i64 a0_4, .bool a0_5, .int .i64 a0_6, .int .i64 a0_7, .int .u64 a0_8, .slice A0_9 l0_9.length c0_9, .slice A0_10 l0_10.length c0_10]) ?_ 6 _ rfl; (with_reducible repeat (first | apply bd1 | apply bd2 | apply bd3)); exact BK157.out) hb); have n2_ := Aside0.mk (below_step (by repeat (first | (with_reducible first | exact HB.out | apply below_alloc | apply pw_below_drewN | apply below_drew1 | refine below_set ?_ GE153.out | refine below_set ?_ GE157.out) | exact HB.out)) hb); clear BK153; clear BK157; clear HB; have BK153 := n0_; have BK157 := n1_; have HB := n2_; clear n0_ n1_ n2_; (try clear hb); (try clear hb2); (try clear hk); (try clear hi)))
                  go_ret
                  exact ⟨by first | rfl | (simp [errW_none, errW_some] <;> rfl) | (simp only [← hji103]; first | rfl | (simp [errW_none, errW_some] <;> rfl)) | (simp [*, errW_none, errW_some] <;> rfl), by repeat (first | (with_reducible first | exact HB.out | apply below_alloc | apply pw_below_drewN | apply below_drew1 | refine below_set ?_ GE153.out | refine below_set ?_ GE157.out) | exact HB.out)⟩
                · rw [if_neg c104] at H
                  have c104b0 : (a0_0 == 3) = false := beq_eq_false_iff_ne.mpr c104
                  have c104b1 : (a0_0 != 3) = true := bne_iff_ne.mpr c104
                  by_cases c112 : a0_0 = 4
                  · rw [if_pos c112] at H
                    have c112b0 : (a0_0 == 4) = true := beq_iff_eq.mpr c112
                    have c112b1 : (a0_0 != 4) = false := bne_eq_false_iff_eq.mpr c112
                    clear c112
                    replace H := Option.bind_eq_some_iff.mp H
                    obtain ⟨t172, A1130, H⟩ := H
                    replace H : (some t172) = some r := H
                    have A113 := Aside0.mk A1130
                    clear A1130
                    obtain rfl := Option.some.inj H

                    have hnb116 := NB157_153.out; have hnc116 := NB153_157.out; obtain ⟨hcz117_0, hcz117_1, hcz117_2, hcz117_3, hcz117_4, hcz117_5, hcz117_6, hcz117_7, hcz117_8, hcz117_9, hcz117_10, hfz117_0, hfz117_1, hfz117_2, hfz117_3, hfz117_4, hfz117_5, hfz117_6, hfz117_7, hfz117_8, hfz117_9, hfz117_10⟩ := blk_all11 BK157.out; obtain ⟨hcz118_0, hcz118_1, hcz118_2, hcz118_3, hcz118_4, hcz118_5, hcz118_6, hcz118_7, hcz118_8, hcz118_9, hcz118_10, hfz118_0, hfz118_1, hfz118_2, hfz118_3, hfz118_4, hfz118_5, hfz118_6, hfz118_7, hfz118_8, hfz118_9, hfz118_10⟩ := blk_all11 BK153.out
                    go_wp2_with (first | (go_at_call 12; (with_reducible refine (drayagelaw04_known.calls kj2  t172 _ A113.out).mono ?_); rintro e w119 ⟨rfl, hb⟩; have n0_ := Aside0.mk (blk_below (g := gb153) (o := .cells #[.int .i64 a0_0, .int .u64 a0_1, .int .u32 a0_2, .int .u32 a0_3, .int .i64 a0_4, .bool a0_5, .int .i64 a0_6, .int .i64 a0_7, .int .u64 a0_8, .slice A0_9 l0_9.length c0_9, .slice A0_10 l0_10.length c0_10] 26 (0, 0)) (by (with_reducible repeat (first | apply bd1 | apply bd2 | apply bd3)); refine blk_far ?_ NB153_157.out _; (with_reducible repeat (first | apply bd1 | apply bd2 | apply bd3)); exact BK153.out) hb); have n1_ := Aside0.mk (blk_below (g := gb157) (o := .cells #[.int .i64 a0_0, .int .u64 a0_1, .int .u32 a0_2, .int .u32 a0_3, .int .i64 a0_4, .bool a0_5, .int .i64 ji103, .int .i64 a0_7, .int .u64 a0_8, .slice A0_9 l0_9.length c0_9, .slice A0_10 l0_10.length c0_10] 26 (0, 0)) (by (with_reducible repeat (first | apply bd1 | apply bd2 | apply bd3)); refine blk_put (cs := #[.int .i64 a0_0, .int .u64 a0_1, .int .u32 a0_2, .int .u32 a0_3, .int .i64 a0_4, .bool a0_5, .int .i64 a0_6, .int .i64 a0_7, .int .u64 a0_8, .slice A0_9 l0_9.length c0_9, .slice A0_10 l0_10.length c0_10]) ?_ 6 _ rfl; (with_reducible repeat (first | apply bd1 | apply bd2 | apply bd3)); exact BK157.out) hb); have n2_ := Aside0.mk (below_step (by repeat (first | (with_reducible first | exact HB.out | apply below_alloc | apply pw_below_drewN | apply below_drew1 | refine below_set ?_ GE153.out | refine below_set ?_ GE157.out) | exact HB.out)) hb); clear BK153; clear BK157; clear HB; have BK153 := n0_; have BK157 := n1_; have HB := n2_; clear n0_ n1_ n2_; (try clear hb); (try clear hb2); (try clear hk); (try clear hi)))
                    go_ret
                    exact ⟨by first | rfl | (simp [errW_none, errW_some] <;> rfl) | (simp only [← hji103]; first | rfl | (simp [errW_none, errW_some] <;> rfl)) | (simp [*, errW_none, errW_some] <;> rfl), by repeat (first | (with_reducible first | exact HB.out | apply below_alloc | apply pw_below_drewN | apply below_drew1 | refine below_set ?_ GE153.out | refine below_set ?_ GE157.out) | exact HB.out)⟩
                  · rw [if_neg c112] at H
                    have c112b0 : (a0_0 == 4) = false := beq_eq_false_iff_ne.mpr c112
                    have c112b1 : (a0_0 != 4) = true := bne_iff_ne.mpr c112
                    replace H := Option.bind_eq_some_iff.mp H
                    obtain ⟨t173, A1200, H⟩ := H
                    replace H : (if t173 = 40 then ((drayagelaw04_known.f kj2).bind fun t174 => (some t174)) else (none)) = some r := H
                    have A120 := Aside0.mk A1200
                    clear A1200
                    by_cases c121 : t173 = 40
                    · rw [if_pos c121] at H
                      have c121b0 : (t173 == 40) = true := beq_iff_eq.mpr c121
                      have c121b1 : (t173 != 40) = false := bne_eq_false_iff_eq.mpr c121
                      clear c121
                      replace H := Option.bind_eq_some_iff.mp H
                      obtain ⟨t174, A1220, H⟩ := H
                      replace H : (some t174) = some r := H
                      have A122 := Aside0.mk A1220
                      clear A1220
                      obtain rfl := Option.some.inj H

                      have hnb125 := NB157_153.out; have hnc125 := NB153_157.out; obtain ⟨hcz126_0, hcz126_1, hcz126_2, hcz126_3, hcz126_4, hcz126_5, hcz126_6, hcz126_7, hcz126_8, hcz126_9, hcz126_10, hfz126_0, hfz126_1, hfz126_2, hfz126_3, hfz126_4, hfz126_5, hfz126_6, hfz126_7, hfz126_8, hfz126_9, hfz126_10⟩ := blk_all11 BK157.out; obtain ⟨hcz127_0, hcz127_1, hcz127_2, hcz127_3, hcz127_4, hcz127_5, hcz127_6, hcz127_7, hcz127_8, hcz127_9, hcz127_10, hfz127_0, hfz127_1, hfz127_2, hfz127_3, hfz127_4, hfz127_5, hfz127_6, hfz127_7, hfz127_8, hfz127_9, hfz127_10⟩ := blk_all11 BK153.out
                      go_wp2_with (first | (go_at_call 15; (with_reducible refine (entry_Check.calls a0_0 a0_1 a0_2 a0_3 a0_4 a0_5 ji103 a0_7 a0_8 _ _ l0_9 _ _ l0_10 t173 _ ?side1 ?side2 ?side3 ?side4 A120.out).mono ?_); (case side1 => exact Kd.C_below HR0_9.out (by repeat (first | (with_reducible first | exact HB.out | apply below_alloc | apply pw_below_drewN | apply below_drew1 | refine below_set ?_ GE153.out | refine below_set ?_ GE157.out) | exact HB.out))); (case side2 => exact HC0_9.out); (case side3 => exact Kd.C_below HR0_10.out (by repeat (first | (with_reducible first | exact HB.out | apply below_alloc | apply pw_below_drewN | apply below_drew1 | refine below_set ?_ GE153.out | refine below_set ?_ GE157.out) | exact HB.out))); (case side4 => exact HC0_10.out); rintro e w128 ⟨rfl, hb⟩; have n0_ := Aside0.mk (blk_below (g := gb153) (o := .cells #[.int .i64 a0_0, .int .u64 a0_1, .int .u32 a0_2, .int .u32 a0_3, .int .i64 a0_4, .bool a0_5, .int .i64 a0_6, .int .i64 a0_7, .int .u64 a0_8, .slice A0_9 l0_9.length c0_9, .slice A0_10 l0_10.length c0_10] 26 (0, 0)) (by (with_reducible repeat (first | apply bd1 | apply bd2 | apply bd3)); refine blk_far ?_ NB153_157.out _; (with_reducible repeat (first | apply bd1 | apply bd2 | apply bd3)); exact BK153.out) hb); have n1_ := Aside0.mk (blk_below (g := gb157) (o := .cells #[.int .i64 a0_0, .int .u64 a0_1, .int .u32 a0_2, .int .u32 a0_3, .int .i64 a0_4, .bool a0_5, .int .i64 ji103, .int .i64 a0_7, .int .u64 a0_8, .slice A0_9 l0_9.length c0_9, .slice A0_10 l0_10.length c0_10] 26 (0, 0)) (by (with_reducible repeat (first | apply bd1 | apply bd2 | apply bd3)); refine blk_put (cs := #[.int .i64 a0_0, .int .u64 a0_1, .int .u32 a0_2, .int .u32 a0_3, .int .i64 a0_4, .bool a0_5, .int .i64 a0_6, .int .i64 a0_7, .int .u64 a0_8, .slice A0_9 l0_9.length c0_9, .slice A0_10 l0_10.length c0_10]) ?_ 6 _ rfl; (with_reducible repeat (first | apply bd1 | apply bd2 | apply bd3)); exact BK157.out) hb); have n2_ := Aside0.mk (below_step (by repeat (first | (with_reducible first | exact HB.out | apply below_alloc | apply pw_below_drewN | apply below_drew1 | refine below_set ?_ GE153.out | refine below_set ?_ GE157.out) | exact HB.out)) hb); clear BK153; clear BK157; clear HB; have BK153 := n0_; have BK157 := n1_; have HB := n2_; clear n0_ n1_ n2_; (try clear hb); (try clear hb2); (try clear hk); (try clear hi)) | (go_at_call 12; (with_reducible refine (drayagelaw04_known.calls kj2  t174 _ A122.out).mono ?_); rintro e w129 ⟨rfl, hb⟩; have n0_ := Aside0.mk (blk_below (g := gb153) (o := .cells #[.int .i64 a0_0, .int .u64 a0_1, .int .u32 a0_2, .int .u32 a0_3, .int .i64 a0_4, .bool a0_5, .int .i64 a0_6, .int .i64 a0_7, .int .u64 a0_8, .slice A0_9 l0_9.length c0_9, .slice A0_10 l0_10.length c0_10] 26 (0, 0)) (by (with_reducible repeat (first | apply bd1 | apply bd2 | apply bd3)); exact BK153.out) hb); have n1_ := Aside0.mk (blk_below (g := gb157) (o := .cells #[.int .i64 a0_0, .int .u64 a0_1, .int .u32 a0_2, .int .u32 a0_3, .int .i64 a0_4, .bool a0_5, .int .i64 ji103, .int .i64 a0_7, .int .u64 a0_8, .slice A0_9 l0_9.length c0_9, .slice A0_10 l0_10.length c0_10] 26 (0, 0)) (by (with_reducible repeat (first | apply bd1 | apply bd2 | apply bd3)); exact BK157.out) hb); have n2_ := Aside0.mk (below_step (by repeat (first | (with_reducible first | exact HB.out | apply below_alloc | apply pw_below_drewN | apply below_drew1 | refine below_set ?_ GE153.out | refine below_set ?_ GE157.out) | exact HB.out)) hb); clear BK153; clear BK157; clear HB; have BK153 := n0_; have BK157 := n1_; have HB := n2_; clear n0_ n1_ n2_; (try clear hb); (try clear hb2); (try clear hk); (try clear hi)))
                      go_ret
                      exact ⟨by first | rfl | (simp [errW_none, errW_some] <;> rfl) | (simp only [← hji103]; first | rfl | (simp [errW_none, errW_some] <;> rfl)) | (simp [*, errW_none, errW_some] <;> rfl), by repeat (first | (with_reducible first | exact HB.out | apply below_alloc | apply pw_below_drewN | apply below_drew1 | refine below_set ?_ GE153.out | refine below_set ?_ GE157.out) | exact HB.out)⟩
                    · rw [if_neg c121] at H
                      exact absurd H (by simp)
              · rw [if_neg c102] at H
                have c102b0 : ((wrap64 (Int.tmod (IntKind.u64.wrap (a1)) 8)) == 3) = false := beq_eq_false_iff_ne.mpr c102
                have c102b1 : ((wrap64 (Int.tmod (IntKind.u64.wrap (a1)) 8)) != 3) = true := bne_iff_ne.mpr c102
                by_cases c130 : (wrap64 (Int.tmod (IntKind.u64.wrap (a1)) 8)) = 4
                · rw [if_pos c130] at H
                  have c130b0 : ((wrap64 (Int.tmod (IntKind.u64.wrap (a1)) 8)) == 4) = true := beq_iff_eq.mpr c130
                  have c130b1 : ((wrap64 (Int.tmod (IntKind.u64.wrap (a1)) 8)) != 4) = false := bne_eq_false_iff_eq.mpr c130
                  clear c130
                  obtain ⟨ji131, hji131⟩ : ∃ j_ : Int, (mx a0_7 1) = j_ := ⟨_, rfl⟩
                  replace H : (if a0_0 ≥ 4 then (if a0_0 ≤ 6 then ((drayagelaw04_known.f kj2).bind fun t175 => (some t175)) else ((entry_Check.f a0_0 a0_1 a0_2 a0_3 a0_4 a0_5 a0_6 (ji131) a0_8 l0_9 l0_10).bind fun t176 => (if t176 = 40 then ((drayagelaw04_known.f kj2).bind fun t177 => (some t177)) else (none)))) else ((entry_Check.f a0_0 a0_1 a0_2 a0_3 a0_4 a0_5 a0_6 (ji131) a0_8 l0_9 l0_10).bind fun t178 => (if t178 = 40 then ((drayagelaw04_known.f kj2).bind fun t179 => (some t179)) else (none)))) = some r := by first | (rw [hji131] at H; exact H) | (simp only [hji131] at H ⊢; exact H)
                  have hji131_ : (if a0_7 < 1 then 1 else a0_7) = ji131 := hji131
                  by_cases c132 : a0_0 ≥ 4
                  · rw [if_pos c132] at H
                    have c132b0 : decide (4 ≤ a0_0) = true := decide_eq_true c132
                    clear c132
                    by_cases c133 : a0_0 ≤ 6
                    · rw [if_pos c133] at H
                      have c133b0 : decide (a0_0 ≤ 6) = true := decide_eq_true c133
                      clear c133
                      replace H := Option.bind_eq_some_iff.mp H
                      obtain ⟨t175, A1340, H⟩ := H
                      replace H : (some t175) = some r := H
                      have A134 := Aside0.mk A1340
                      clear A1340
                      obtain rfl := Option.some.inj H

                      have hnb137 := NB157_153.out; have hnc137 := NB153_157.out; obtain ⟨hcz138_0, hcz138_1, hcz138_2, hcz138_3, hcz138_4, hcz138_5, hcz138_6, hcz138_7, hcz138_8, hcz138_9, hcz138_10, hfz138_0, hfz138_1, hfz138_2, hfz138_3, hfz138_4, hfz138_5, hfz138_6, hfz138_7, hfz138_8, hfz138_9, hfz138_10⟩ := blk_all11 BK157.out; obtain ⟨hcz139_0, hcz139_1, hcz139_2, hcz139_3, hcz139_4, hcz139_5, hcz139_6, hcz139_7, hcz139_8, hcz139_9, hcz139_10, hfz139_0, hfz139_1, hfz139_2, hfz139_3, hfz139_4, hfz139_5, hfz139_6, hfz139_7, hfz139_8, hfz139_9, hfz139_10⟩ := blk_all11 BK153.out
                      go_wp2_with (first | (go_at_call 12; (with_reducible refine (drayagelaw04_known.calls kj2  t175 _ A134.out).mono ?_); rintro e w140 ⟨rfl, hb⟩; have n0_ := Aside0.mk (blk_below (g := gb153) (o := .cells #[.int .i64 a0_0, .int .u64 a0_1, .int .u32 a0_2, .int .u32 a0_3, .int .i64 a0_4, .bool a0_5, .int .i64 a0_6, .int .i64 a0_7, .int .u64 a0_8, .slice A0_9 l0_9.length c0_9, .slice A0_10 l0_10.length c0_10] 26 (0, 0)) (by (with_reducible repeat (first | apply bd1 | apply bd2 | apply bd3)); refine blk_far ?_ NB153_157.out _; (with_reducible repeat (first | apply bd1 | apply bd2 | apply bd3)); exact BK153.out) hb); have n1_ := Aside0.mk (blk_below (g := gb157) (o := .cells #[.int .i64 a0_0, .int .u64 a0_1, .int .u32 a0_2, .int .u32 a0_3, .int .i64 a0_4, .bool a0_5, .int .i64 a0_6, .int .i64 ji131, .int .u64 a0_8, .slice A0_9 l0_9.length c0_9, .slice A0_10 l0_10.length c0_10] 26 (0, 0)) (by (with_reducible repeat (first | apply bd1 | apply bd2 | apply bd3)); refine blk_put (cs := #[.int .i64 a0_0, .int .u64 a0_1, .int .u32 a0_2, .int .u32 a0_3, .int .i64 a0_4, .bool a0_5, .int .i64 a0_6, .int .i64 a0_7, .int .u64 a0_8, .slice A0_9 l0_9.length c0_9, .slice A0_10 l0_10.length c0_10]) ?_ 7 _ rfl; (with_reducible repeat (first | apply bd1 | apply bd2 | apply bd3)); exact BK157.out) hb); have n2_ := Aside0.mk (below_step (by repeat (first | (with_reducible first | exact HB.out | apply below_alloc | apply pw_below_drewN | apply below_drew1 | refine below_set ?_ GE153.out | refine below_set ?_ GE157.out) | exact HB.out)) hb); clear BK153; clear BK157; clear HB; have BK153 := n0_; have BK157 := n1_; have HB := n2_; clear n0_ n1_ n2_; (try clear hb); (try clear hb2); (try clear hk); (try clear hi)))
                      go_ret
                      exact ⟨by first | rfl | (simp [errW_none, errW_some] <;> rfl) | (simp only [← hji131]; first | rfl | (simp [errW_none, errW_some] <;> rfl)) | (simp [*, errW_none, errW_some] <;> rfl), by repeat (first | (with_reducible first | exact HB.out | apply below_alloc | apply pw_below_drewN | apply below_drew1 | refine below_set ?_ GE153.out | refine below_set ?_ GE157.out) | exact HB.out)⟩
                    · rw [if_neg c133] at H
                      have c133b0 : decide (a0_0 ≤ 6) = false := decide_eq_false c133
                      clear c133
                      replace H := Option.bind_eq_some_iff.mp H
                      obtain ⟨t176, A1410, H⟩ := H
                      replace H : (if t176 = 40 then ((drayagelaw04_known.f kj2).bind fun t177 => (some t177)) else (none)) = some r := H
                      have A141 := Aside0.mk A1410
                      clear A1410
                      by_cases c142 : t176 = 40
                      · rw [if_pos c142] at H
                        have c142b0 : (t176 == 40) = true := beq_iff_eq.mpr c142
                        have c142b1 : (t176 != 40) = false := bne_eq_false_iff_eq.mpr c142
                        clear c142
                        replace H := Option.bind_eq_some_iff.mp H
                        obtain ⟨t177, A1430, H⟩ := H
                        replace H : (some t177) = some r := H
                        have A143 := Aside0.mk A1430
                        clear A1430
                        obtain rfl := Option.some.inj H

                        have hnb146 := NB157_153.out; have hnc146 := NB153_157.out; obtain ⟨hcz147_0, hcz147_1, hcz147_2, hcz147_3, hcz147_4, hcz147_5, hcz147_6, hcz147_7, hcz147_8, hcz147_9, hcz147_10, hfz147_0, hfz147_1, hfz147_2, hfz147_3, hfz147_4, hfz147_5, hfz147_6, hfz147_7, hfz147_8, hfz147_9, hfz147_10⟩ := blk_all11 BK157.out; obtain ⟨hcz148_0, hcz148_1, hcz148_2, hcz148_3, hcz148_4, hcz148_5, hcz148_6, hcz148_7, hcz148_8, hcz148_9, hcz148_10, hfz148_0, hfz148_1, hfz148_2, hfz148_3, hfz148_4, hfz148_5, hfz148_6, hfz148_7, hfz148_8, hfz148_9, hfz148_10⟩ := blk_all11 BK153.out
                        go_wp2_with (first | (go_at_call 15; (with_reducible refine (entry_Check.calls a0_0 a0_1 a0_2 a0_3 a0_4 a0_5 a0_6 ji131 a0_8 _ _ l0_9 _ _ l0_10 t176 _ ?side1 ?side2 ?side3 ?side4 A141.out).mono ?_); (case side1 => exact Kd.C_below HR0_9.out (by repeat (first | (with_reducible first | exact HB.out | apply below_alloc | apply pw_below_drewN | apply below_drew1 | refine below_set ?_ GE153.out | refine below_set ?_ GE157.out) | exact HB.out))); (case side2 => exact HC0_9.out); (case side3 => exact Kd.C_below HR0_10.out (by repeat (first | (with_reducible first | exact HB.out | apply below_alloc | apply pw_below_drewN | apply below_drew1 | refine below_set ?_ GE153.out | refine below_set ?_ GE157.out) | exact HB.out))); (case side4 => exact HC0_10.out); rintro e w149 ⟨rfl, hb⟩; have n0_ := Aside0.mk (blk_below (g := gb153) (o := .cells #[.int .i64 a0_0, .int .u64 a0_1, .int .u32 a0_2, .int .u32 a0_3, .int .i64 a0_4, .bool a0_5, .int .i64 a0_6, .int .i64 a0_7, .int .u64 a0_8, .slice A0_9 l0_9.length c0_9, .slice A0_10 l0_10.length c0_10] 26 (0, 0)) (by (with_reducible repeat (first | apply bd1 | apply bd2 | apply bd3)); refine blk_far ?_ NB153_157.out _; (with_reducible repeat (first | apply bd1 | apply bd2 | apply bd3)); exact BK153.out) hb); have n1_ := Aside0.mk (blk_below (g := gb157) (o := .cells #[.int .i64 a0_0, .int .u64 a0_1, .int .u32 a0_2, .int .u32 a0_3, .int .i64 a0_4, .bool a0_5, .int .i64 a0_6, .int .i64 ji131, .int .u64 a0_8, .slice A0_9 l0_9.length c0_9, .slice A0_10 l0_10.length c0_10] 26 (0, 0)) (by (with_reducible repeat (first | apply bd1 | apply bd2 | apply bd3)); refine blk_put (cs := #[.int .i64 a0_0, .int .u64 a0_1, .int .u32 a0_2, .int .u32 a0_3, .int .i64 a0_4, .bool a0_5, .int .i64 a0_6, .int .i64 a0_7, .int .u64 a0_8, .slice A0_9 l0_9.length c0_9, .slice A0_10 l0_10.length c0_10]) ?_ 7 _ rfl; (with_reducible repeat (first | apply bd1 | apply bd2 | apply bd3)); exact BK157.out) hb); have n2_ := Aside0.mk (below_step (by repeat (first | (with_reducible first | exact HB.out | apply below_alloc | apply pw_below_drewN | apply below_drew1 | refine below_set ?_ GE153.out | refine below_set ?_ GE157.out) | exact HB.out)) hb); clear BK153; clear BK157; clear HB; have BK153 := n0_; have BK157 := n1_; have HB := n2_; clear n0_ n1_ n2_; (try clear hb); (try clear hb2); (try clear hk); (try clear hi)) | (go_at_call 12; (with_reducible refine (drayagelaw04_known.calls kj2  t177 _ A143.out).mono ?_); rintro e w150 ⟨rfl, hb⟩; have n0_ := Aside0.mk (blk_below (g := gb153) (o := .cells #[.int .i64 a0_0, .int .u64 a0_1, .int .u32 a0_2, .int .u32 a0_3, .int .i64 a0_4, .bool a0_5, .int .i64 a0_6, .int .i64 a0_7, .int .u64 a0_8, .slice A0_9 l0_9.length c0_9, .slice A0_10 l0_10.length c0_10] 26 (0, 0)) (by (with_reducible repeat (first | apply bd1 | apply bd2 | apply bd3)); exact BK153.out) hb); have n1_ := Aside0.mk (blk_below (g := gb157) (o := .cells #[.int .i64 a0_0, .int .u64 a0_1, .int .u32 a0_2, .int .u32 a0_3, .int .i64 a0_4, .bool a0_5, .int .i64 a0_6, .int .i64 ji131, .int .u64 a0_8, .slice A0_9 l0_9.length c0_9, .slice A0_10 l0_10.length c0_10] 26 (0, 0)) (by (with_reducible repeat (first | apply bd1 | apply bd2 | apply bd3)); exact BK157.out) hb); have n2_ := Aside0.mk (below_step (by repeat (first | (with_reducible first | exact HB.out | apply below_alloc | apply pw_below_drewN | apply below_drew1 | refine below_set ?_ GE153.out | refine below_set ?_ GE157.out) | exact HB.out)) hb); clear BK153; clear BK157; clear HB; have BK153 := n0_; have BK157 := n1_; have HB := n2_; clear n0_ n1_ n2_; (try clear hb); (try clear hb2); (try clear hk); (try clear hi)))
                        go_ret
                        exact ⟨by first | rfl | (simp [errW_none, errW_some] <;> rfl) | (simp only [← hji131]; first | rfl | (simp [errW_none, errW_some] <;> rfl)) | (simp [*, errW_none, errW_some] <;> rfl), by repeat (first | (with_reducible first | exact HB.out | apply below_alloc | apply pw_below_drewN | apply below_drew1 | refine below_set ?_ GE153.out | refine below_set ?_ GE157.out) | exact HB.out)⟩
                      · rw [if_neg c142] at H
                        exact absurd H (by simp)
                  · rw [if_neg c132] at H
                    have c132b0 : decide (4 ≤ a0_0) = false := decide_eq_false c132
                    clear c132
                    replace H := Option.bind_eq_some_iff.mp H
                    obtain ⟨t178, A1510, H⟩ := H
                    replace H : (if t178 = 40 then ((drayagelaw04_known.f kj2).bind fun t179 => (some t179)) else (none)) = some r := H
                    have A151 := Aside0.mk A1510
                    clear A1510
                    by_cases c152 : t178 = 40
                    · rw [if_pos c152] at H
                      have c152b0 : (t178 == 40) = true := beq_iff_eq.mpr c152
                      have c152b1 : (t178 != 40) = false := bne_eq_false_iff_eq.mpr c152
                      clear c152
                      replace H := Option.bind_eq_some_iff.mp H
                      obtain ⟨t179, A1530, H⟩ := H
                      replace H : (some t179) = some r := H
                      have A153 := Aside0.mk A1530
                      clear A1530
                      obtain rfl := Option.some.inj H

                      have hnb156 := NB157_153.out; have hnc156 := NB153_157.out; obtain ⟨hcz157_0, hcz157_1, hcz157_2, hcz157_3, hcz157_4, hcz157_5, hcz157_6, hcz157_7, hcz157_8, hcz157_9, hcz157_10, hfz157_0, hfz157_1, hfz157_2, hfz157_3, hfz157_4, hfz157_5, hfz157_6, hfz157_7, hfz157_8, hfz157_9, hfz157_10⟩ := blk_all11 BK157.out; obtain ⟨hcz158_0, hcz158_1, hcz158_2, hcz158_3, hcz158_4, hcz158_5, hcz158_6, hcz158_7, hcz158_8, hcz158_9, hcz158_10, hfz158_0, hfz158_1, hfz158_2, hfz158_3, hfz158_4, hfz158_5, hfz158_6, hfz158_7, hfz158_8, hfz158_9, hfz158_10⟩ := blk_all11 BK153.out
                      go_wp2_with (first | (go_at_call 15; (with_reducible refine (entry_Check.calls a0_0 a0_1 a0_2 a0_3 a0_4 a0_5 a0_6 ji131 a0_8 _ _ l0_9 _ _ l0_10 t178 _ ?side1 ?side2 ?side3 ?side4 A151.out).mono ?_); (case side1 => exact Kd.C_below HR0_9.out (by repeat (first | (with_reducible first | exact HB.out | apply below_alloc | apply pw_below_drewN | apply below_drew1 | refine below_set ?_ GE153.out | refine below_set ?_ GE157.out) | exact HB.out))); (case side2 => exact HC0_9.out); (case side3 => exact Kd.C_below HR0_10.out (by repeat (first | (with_reducible first | exact HB.out | apply below_alloc | apply pw_below_drewN | apply below_drew1 | refine below_set ?_ GE153.out | refine below_set ?_ GE157.out) | exact HB.out))); (case side4 => exact HC0_10.out); rintro e w159 ⟨rfl, hb⟩; have n0_ := Aside0.mk (blk_below (g := gb153) (o := .cells #[.int .i64 a0_0, .int .u64 a0_1, .int .u32 a0_2, .int .u32 a0_3, .int .i64 a0_4, .bool a0_5, .int .i64 a0_6, .int .i64 a0_7, .int .u64 a0_8, .slice A0_9 l0_9.length c0_9, .slice A0_10 l0_10.length c0_10] 26 (0, 0)) (by (with_reducible repeat (first | apply bd1 | apply bd2 | apply bd3)); refine blk_far ?_ NB153_157.out _; (with_reducible repeat (first | apply bd1 | apply bd2 | apply bd3)); exact BK153.out) hb); have n1_ := Aside0.mk (blk_below (g := gb157) (o := .cells #[.int .i64 a0_0, .int .u64 a0_1, .int .u32 a0_2, .int .u32 a0_3, .int .i64 a0_4, .bool a0_5, .int .i64 a0_6, .int .i64 ji131, .int .u64 a0_8, .slice A0_9 l0_9.length c0_9, .slice A0_10 l0_10.length c0_10] 26 (0, 0)) (by (with_reducible repeat (first | apply bd1 | apply bd2 | apply bd3)); refine blk_put (cs := #[.int .i64 a0_0, .int .u64 a0_1, .int .u32 a0_2, .int .u32 a0_3, .int .i64 a0_4, .bool a0_5, .int .i64 a0_6, .int .i64 a0_7, .int .u64 a0_8, .slice A0_9 l0_9.length c0_9, .slice A0_10 l0_10.length c0_10]) ?_ 7 _ rfl; (with_reducible repeat (first | apply bd1 | apply bd2 | apply bd3)); exact BK157.out) hb); have n2_ := Aside0.mk (below_step (by repeat (first | (with_reducible first | exact HB.out | apply below_alloc | apply pw_below_drewN | apply below_drew1 | refine below_set ?_ GE153.out | refine below_set ?_ GE157.out) | exact HB.out)) hb); clear BK153; clear BK157; clear HB; have BK153 := n0_; have BK157 := n1_; have HB := n2_; clear n0_ n1_ n2_; (try clear hb); (try clear hb2); (try clear hk); (try clear hi)) | (go_at_call 12; (with_reducible refine (drayagelaw04_known.calls kj2  t179 _ A153.out).mono ?_); rintro e w160 ⟨rfl, hb⟩; have n0_ := Aside0.mk (blk_below (g := gb153) (o := .cells #[.int .i64 a0_0, .int .u64 a0_1, .int .u32 a0_2, .int .u32 a0_3, .int .i64 a0_4, .bool a0_5, .int .i64 a0_6, .int .i64 a0_7, .int .u64 a0_8, .slice A0_9 l0_9.length c0_9, .slice A0_10 l0_10.length c0_10] 26 (0, 0)) (by (with_reducible repeat (first | apply bd1 | apply bd2 | apply bd3)); exact BK153.out) hb); have n1_ := Aside0.mk (blk_below (g := gb157) (o := .cells #[.int .i64 a0_0, .int .u64 a0_1, .int .u32 a0_2, .int .u32 a0_3, .int .i64 a0_4, .bool a0_5, .int .i64 a0_6, .int .i64 ji131, .int .u64 a0_8, .slice A0_9 l0_9.length c0_9, .slice A0_10 l0_10.length c0_10] 26 (0, 0)) (by (with_reducible repeat (first | apply bd1 | apply bd2 | apply bd3)); exact BK157.out) hb); have n2_ := Aside0.mk (below_step (by repeat (first | (with_reducible first | exact HB.out | apply below_alloc | apply pw_below_drewN | apply below_drew1 | refine below_set ?_ GE153.out | refine below_set ?_ GE157.out) | exact HB.out)) hb); clear BK153; clear BK157; clear HB; have BK153 := n0_; have BK157 := n1_; have HB := n2_; clear n0_ n1_ n2_; (try clear hb); (try clear hb2); (try clear hk); (try clear hi)))
                      go_ret
                      exact ⟨by first | rfl | (simp [errW_none, errW_some] <;> rfl) | (simp only [← hji131]; first | rfl | (simp [errW_none, errW_some] <;> rfl)) | (simp [*, errW_none, errW_some] <;> rfl), by repeat (first | (with_reducible first | exact HB.out | apply below_alloc | apply pw_below_drewN | apply below_drew1 | refine below_set ?_ GE153.out | refine below_set ?_ GE157.out) | exact HB.out)⟩
                    · rw [if_neg c152] at H
                      exact absurd H (by simp)
                · rw [if_neg c130] at H
                  have c130b0 : ((wrap64 (Int.tmod (IntKind.u64.wrap (a1)) 8)) == 4) = false := beq_eq_false_iff_ne.mpr c130
                  have c130b1 : ((wrap64 (Int.tmod (IntKind.u64.wrap (a1)) 8)) != 4) = true := bne_iff_ne.mpr c130
                  by_cases c161 : (wrap64 (Int.tmod (IntKind.u64.wrap (a1)) 8)) = 5
                  · rw [if_pos c161] at H
                    have c161b0 : ((wrap64 (Int.tmod (IntKind.u64.wrap (a1)) 8)) == 5) = true := beq_iff_eq.mpr c161
                    have c161b1 : ((wrap64 (Int.tmod (IntKind.u64.wrap (a1)) 8)) != 5) = false := bne_eq_false_iff_eq.mpr c161
                    clear c161
                    obtain ⟨ji162, hji162⟩ : ∃ j_ : Int, (mx a0_8 1) = j_ := ⟨_, rfl⟩
                    replace H : (if a0_0 = 7 then ((drayagelaw04_known.f kj2).bind fun t180 => (some t180)) else ((entry_Check.f a0_0 a0_1 a0_2 a0_3 a0_4 a0_5 a0_6 a0_7 (ji162) l0_9 l0_10).bind fun t181 => (if t181 = 40 then ((drayagelaw04_known.f kj2).bind fun t182 => (some t182)) else (none)))) = some r := by first | (rw [hji162] at H; exact H) | (simp only [hji162] at H ⊢; exact H)
                    have hji162_ : (if a0_8 < 1 then 1 else a0_8) = ji162 := hji162
                    by_cases c163 : a0_0 = 7
                    · rw [if_pos c163] at H
                      have c163b0 : (a0_0 == 7) = true := beq_iff_eq.mpr c163
                      have c163b1 : (a0_0 != 7) = false := bne_eq_false_iff_eq.mpr c163
                      clear c163
                      replace H := Option.bind_eq_some_iff.mp H
                      obtain ⟨t180, A1640, H⟩ := H
                      replace H : (some t180) = some r := H
                      have A164 := Aside0.mk A1640
                      clear A1640
                      obtain rfl := Option.some.inj H

                      have hnb167 := NB157_153.out; have hnc167 := NB153_157.out; obtain ⟨hcz168_0, hcz168_1, hcz168_2, hcz168_3, hcz168_4, hcz168_5, hcz168_6, hcz168_7, hcz168_8, hcz168_9, hcz168_10, hfz168_0, hfz168_1, hfz168_2, hfz168_3, hfz168_4, hfz168_5, hfz168_6, hfz168_7, hfz168_8, hfz168_9, hfz168_10⟩ := blk_all11 BK157.out; obtain ⟨hcz169_0, hcz169_1, hcz169_2, hcz169_3, hcz169_4, hcz169_5, hcz169_6, hcz169_7, hcz169_8, hcz169_9, hcz169_10, hfz169_0, hfz169_1, hfz169_2, hfz169_3, hfz169_4, hfz169_5, hfz169_6, hfz169_7, hfz169_8, hfz169_9, hfz169_10⟩ := blk_all11 BK153.out
                      go_wp2_with (first | (go_at_call 12; (with_reducible refine (drayagelaw04_known.calls kj2  t180 _ A164.out).mono ?_); rintro e w170 ⟨rfl, hb⟩; have n0_ := Aside0.mk (blk_below (g := gb153) (o := .cells #[.int .i64 a0_0, .int .u64 a0_1, .int .u32 a0_2, .int .u32 a0_3, .int .i64 a0_4, .bool a0_5, .int .i64 a0_6, .int .i64 a0_7, .int .u64 a0_8, .slice A0_9 l0_9.length c0_9, .slice A0_10 l0_10.length c0_10] 26 (0, 0)) (by (with_reducible repeat (first | apply bd1 | apply bd2 | apply bd3)); refine blk_far ?_ NB153_157.out _; (with_reducible repeat (first | apply bd1 | apply bd2 | apply bd3)); exact BK153.out) hb); have n1_ := Aside0.mk (blk_below (g := gb157) (o := .cells #[.int .i64 a0_0, .int .u64 a0_1, .int .u32 a0_2, .int .u32 a0_3, .int .i64 a0_4, .bool a0_5, .int .i64 a0_6, .int .i64 a0_7, .int .u64 ji162, .slice A0_9 l0_9.length c0_9, .slice A0_10 l0_10.length c0_10] 26 (0, 0)) (by (with_reducible repeat (first | apply bd1 | apply bd2 | apply bd3)); refine blk_put (cs := #[.int .i64 a0_0, .int .u64 a0_1, .int .u32 a0_2, .int .u32 a0_3, .int .i64 a0_4, .bool a0_5, .int .i64 a0_6, .int .i64 a0_7, .int .u64 a0_8, .slice A0_9 l0_9.length c0_9, .slice A0_10 l0_10.length c0_10]) ?_ 8 _ rfl; (with_reducible repeat (first | apply bd1 | apply bd2 | apply bd3)); exact BK157.out) hb); have n2_ := Aside0.mk (below_step (by repeat (first | (with_reducible first | exact HB.out | apply below_alloc | apply pw_below_drewN | apply below_drew1 | refine below_set ?_ GE153.out | refine below_set ?_ GE157.out) | exact HB.out)) hb); clear BK153; clear BK157; clear HB; have BK153 := n0_; have BK157 := n1_; have HB := n2_; clear n0_ n1_ n2_; (try clear hb); (try clear hb2); (try clear hk); (try clear hi)))
                      go_ret
                      exact ⟨by first | rfl | (simp [errW_none, errW_some] <;> rfl) | (simp only [← hji162]; first | rfl | (simp [errW_none, errW_some] <;> rfl)) | (simp [*, errW_none, errW_some] <;> rfl), by repeat (first | (with_reducible first | exact HB.out | apply below_alloc | apply pw_below_drewN | apply below_drew1 | refine below_set ?_ GE153.out | refine below_set ?_ GE157.out) | exact HB.out)⟩
                    · rw [if_neg c163] at H
                      have c163b0 : (a0_0 == 7) = false := beq_eq_false_iff_ne.mpr c163
                      have c163b1 : (a0_0 != 7) = true := bne_iff_ne.mpr c163
                      replace H := Option.bind_eq_some_iff.mp H
                      obtain ⟨t181, A1710, H⟩ := H
                      replace H : (if t181 = 40 then ((drayagelaw04_known.f kj2).bind fun t182 => (some t182)) else (none)) = some r := H
                      have A171 := Aside0.mk A1710
                      clear A1710
                      by_cases c172 : t181 = 40
                      · rw [if_pos c172] at H
                        have c172b0 : (t181 == 40) = true := beq_iff_eq.mpr c172
                        have c172b1 : (t181 != 40) = false := bne_eq_false_iff_eq.mpr c172
                        clear c172
                        replace H := Option.bind_eq_some_iff.mp H
                        obtain ⟨t182, A1730, H⟩ := H
                        replace H : (some t182) = some r := H
                        have A173 := Aside0.mk A1730
                        clear A1730
                        obtain rfl := Option.some.inj H

                        have hnb176 := NB157_153.out; have hnc176 := NB153_157.out; obtain ⟨hcz177_0, hcz177_1, hcz177_2, hcz177_3, hcz177_4, hcz177_5, hcz177_6, hcz177_7, hcz177_8, hcz177_9, hcz177_10, hfz177_0, hfz177_1, hfz177_2, hfz177_3, hfz177_4, hfz177_5, hfz177_6, hfz177_7, hfz177_8, hfz177_9, hfz177_10⟩ := blk_all11 BK157.out; obtain ⟨hcz178_0, hcz178_1, hcz178_2, hcz178_3, hcz178_4, hcz178_5, hcz178_6, hcz178_7, hcz178_8, hcz178_9, hcz178_10, hfz178_0, hfz178_1, hfz178_2, hfz178_3, hfz178_4, hfz178_5, hfz178_6, hfz178_7, hfz178_8, hfz178_9, hfz178_10⟩ := blk_all11 BK153.out
                        go_wp2_with (first | (go_at_call 15; (with_reducible refine (entry_Check.calls a0_0 a0_1 a0_2 a0_3 a0_4 a0_5 a0_6 a0_7 ji162 _ _ l0_9 _ _ l0_10 t181 _ ?side1 ?side2 ?side3 ?side4 A171.out).mono ?_); (case side1 => exact Kd.C_below HR0_9.out (by repeat (first | (with_reducible first | exact HB.out | apply below_alloc | apply pw_below_drewN | apply below_drew1 | refine below_set ?_ GE153.out | refine below_set ?_ GE157.out) | exact HB.out))); (case side2 => exact HC0_9.out); (case side3 => exact Kd.C_below HR0_10.out (by repeat (first | (with_reducible first | exact HB.out | apply below_alloc | apply pw_below_drewN | apply below_drew1 | refine below_set ?_ GE153.out | refine below_set ?_ GE157.out) | exact HB.out))); (case side4 => exact HC0_10.out); rintro e w179 ⟨rfl, hb⟩; have n0_ := Aside0.mk (blk_below (g := gb153) (o := .cells #[.int .i64 a0_0, .int .u64 a0_1, .int .u32 a0_2, .int .u32 a0_3, .int .i64 a0_4, .bool a0_5, .int .i64 a0_6, .int .i64 a0_7, .int .u64 a0_8, .slice A0_9 l0_9.length c0_9, .slice A0_10 l0_10.length c0_10] 26 (0, 0)) (by (with_reducible repeat (first | apply bd1 | apply bd2 | apply bd3)); refine blk_far ?_ NB153_157.out _; (with_reducible repeat (first | apply bd1 | apply bd2 | apply bd3)); exact BK153.out) hb); have n1_ := Aside0.mk (blk_below (g := gb157) (o := .cells #[.int .i64 a0_0, .int .u64 a0_1, .int .u32 a0_2, .int .u32 a0_3, .int .i64 a0_4, .bool a0_5, .int .i64 a0_6, .int .i64 a0_7, .int .u64 ji162, .slice A0_9 l0_9.length c0_9, .slice A0_10 l0_10.length c0_10] 26 (0, 0)) (by (with_reducible repeat (first | apply bd1 | apply bd2 | apply bd3)); refine blk_put (cs := #[.int .i64 a0_0, .int .u64 a0_1, .int .u32 a0_2, .int .u32 a0_3, .int .i64 a0_4, .bool a0_5, .int .i64 a0_6, .int .i64 a0_7, .int .u64 a0_8, .slice A0_9 l0_9.length c0_9, .slice A0_10 l0_10.length c0_10]) ?_ 8 _ rfl; (with_reducible repeat (first | apply bd1 | apply bd2 | apply bd3)); exact BK157.out) hb); have n2_ := Aside0.mk (below_step (by repeat (first | (with_reducible first | exact HB.out | apply below_alloc | apply pw_below_drewN | apply below_drew1 | refine below_set ?_ GE153.out | refine below_set ?_ GE157.out) | exact HB.out)) hb); clear BK153; clear BK157; clear HB; have BK153 := n0_; have BK157 := n1_; have HB := n2_; clear n0_ n1_ n2_; (try clear hb); (try clear hb2); (try clear hk); (try clear hi)) | (go_at_call 12; (with_reducible refine (drayagelaw04_known.calls kj2  t182 _ A173.out).mono ?_); rintro e w180 ⟨rfl, hb⟩; have n0_ := Aside0.mk (blk_below (g := gb153) (o := .cells #[.int .i64 a0_0, .int .u64 a0_1, .int .u32 a0_2, .int .u32 a0_3, .int .i64 a0_4, .bool a0_5, .int .i64 a0_6, .int .i64 a0_7, .int .u64 a0_8, .slice A0_9 l0_9.length c0_9, .slice A0_10 l0_10.length c0_10] 26 (0, 0)) (by (with_reducible repeat (first | apply bd1 | apply bd2 | apply bd3)); exact BK153.out) hb); have n1_ := Aside0.mk (blk_below (g := gb157) (o := .cells #[.int .i64 a0_0, .int .u64 a0_1, .int .u32 a0_2, .int .u32 a0_3, .int .i64 a0_4, .bool a0_5, .int .i64 a0_6, .int .i64 a0_7, .int .u64 ji162, .slice A0_9 l0_9.length c0_9, .slice A0_10 l0_10.length c0_10] 26 (0, 0)) (by (with_reducible repeat (first | apply bd1 | apply bd2 | apply bd3)); exact BK157.out) hb); have n2_ := Aside0.mk (below_step (by repeat (first | (with_reducible first | exact HB.out | apply below_alloc | apply pw_below_drewN | apply below_drew1 | refine below_set ?_ GE153.out | refine below_set ?_ GE157.out) | exact HB.out)) hb); clear BK153; clear BK157; clear HB; have BK153 := n0_; have BK157 := n1_; have HB := n2_; clear n0_ n1_ n2_; (try clear hb); (try clear hb2); (try clear hk); (try clear hi)))
                        go_ret
                        exact ⟨by first | rfl | (simp [errW_none, errW_some] <;> rfl) | (simp only [← hji162]; first | rfl | (simp [errW_none, errW_some] <;> rfl)) | (simp [*, errW_none, errW_some] <;> rfl), by repeat (first | (with_reducible first | exact HB.out | apply below_alloc | apply pw_below_drewN | apply below_drew1 | refine below_set ?_ GE153.out | refine below_set ?_ GE157.out) | exact HB.out)⟩
                      · rw [if_neg c172] at H
                        exact absurd H (by simp)
                  · rw [if_neg c161] at H
                    have c161b0 : ((wrap64 (Int.tmod (IntKind.u64.wrap (a1)) 8)) == 5) = false := beq_eq_false_iff_ne.mpr c161
                    have c161b1 : ((wrap64 (Int.tmod (IntKind.u64.wrap (a1)) 8)) != 5) = true := bne_iff_ne.mpr c161
                    by_cases c181 : (wrap64 (Int.tmod (IntKind.u64.wrap (a1)) 8)) = 6
                    · rw [if_pos c181] at H
                      have c181b0 : ((wrap64 (Int.tmod (IntKind.u64.wrap (a1)) 8)) == 6) = true := beq_iff_eq.mpr c181
                      have c181b1 : ((wrap64 (Int.tmod (IntKind.u64.wrap (a1)) 8)) != 6) = false := bne_eq_false_iff_eq.mpr c181
                      clear c181
                      obtain ⟨y183, hy183⟩ : ∃ y_ : List Int, y_ = (([107] : List Int)) := ⟨_, rfl⟩
                      replace H : (if a0_0 = 2 then ((drayagelaw04_known.f kj2).bind fun t186 => (some t186)) else ((entry_Check.f a0_0 a0_1 a0_2 a0_3 a0_4 a0_5 a0_6 a0_7 a0_8 y183 l0_10).bind fun t187 => (if t187 = 40 then ((drayagelaw04_known.f kj2).bind fun t188 => (some t188)) else (none)))) = some r := by first | (rw [hy183]; with_reducible exact H) | (have H2_ := (Option.bind_some _ _).symm.trans H; rw [hy183]; with_reducible exact H2_) | (have H2_ := (Option.bind_some _ _).symm.trans H; with_reducible exact H2_) | with_reducible exact H | (rw [hy183]; exact H) | exact H
                      have Ny183 := Aside0.mk hy183
                      clear hy183
                      by_cases c182 : a0_0 = 2
                      · rw [if_pos c182] at H
                        have c182b0 : (a0_0 == 2) = true := beq_iff_eq.mpr c182
                        have c182b1 : (a0_0 != 2) = false := bne_eq_false_iff_eq.mpr c182
                        clear c182
                        replace H := Option.bind_eq_some_iff.mp H
                        obtain ⟨t186, A1830, H⟩ := H
                        replace H : (some t186) = some r := H
                        have A183 := Aside0.mk A1830
                        clear A1830
                        obtain rfl := Option.some.inj H

                        have hnb186 := NB157_153.out; have hnc186 := NB153_157.out; obtain ⟨hcz187_0, hcz187_1, hcz187_2, hcz187_3, hcz187_4, hcz187_5, hcz187_6, hcz187_7, hcz187_8, hcz187_9, hcz187_10, hfz187_0, hfz187_1, hfz187_2, hfz187_3, hfz187_4, hfz187_5, hfz187_6, hfz187_7, hfz187_8, hfz187_9, hfz187_10⟩ := blk_all11 BK157.out
                        have kc := fun (w : World) (C : Array Value) (n c : Nat) => Lib.run_convert_bytes_const (P := Try.prog) w 24 5 C n c Try.underlying24 Try.underlying5
                        obtain ⟨xc0, xc1, xc2, xc3, xc4, xc5, xc6, xc7, xc8, xc9, xc10, xf0, xf1, xf2, xf3, xf4, xf5, xf6, xf7, xf8, xf9, xf10⟩ := blk_all11 (bd3 (.cells #[.int .u8 107] 5 (1, 2)) BK157.out)
                        obtain ⟨zc0, zc1, zc2, zc3, zc4, zc5, zc6, zc7, zc8, zc9, zc10, zf0, zf1, zf2, zf3, zf4, zf5, zf6, zf7, zf8, zf9, zf10⟩ := blk_all11 (bd3 (.cells #[.int .u8 107] 5 (1, 2)) BK153.out)
                        go_wp2_with (first | (go_at_call 12; (with_reducible refine (drayagelaw04_known.calls kj2  t186 _ A183.out).mono ?_); rintro e wl ⟨rfl, hb⟩; have n0_ := Aside0.mk (below_step (by repeat (first | (with_reducible first | exact HB.out | apply below_alloc | apply pw_below_drewN | apply below_drew1 | refine below_set ?_ GE157.out) | exact HB.out)) hb); clear HB hb; have HB := n0_; clear n0_))
                        go_ret
                        exact ⟨by first | rfl | (simp [errW_none, errW_some] <;> rfl) | (simp [*, errW_none, errW_some] <;> rfl), by repeat (first | (with_reducible first | exact HB.out | apply below_alloc | apply pw_below_drewN | apply below_drew1 | refine below_set ?_ GE153.out | refine below_set ?_ GE157.out) | exact HB.out)⟩
                      · rw [if_neg c182] at H
                        have c182b0 : (a0_0 == 2) = false := beq_eq_false_iff_ne.mpr c182
                        have c182b1 : (a0_0 != 2) = true := bne_iff_ne.mpr c182
                        replace H := Option.bind_eq_some_iff.mp H
                        obtain ⟨t187, A1940, H⟩ := H
                        replace H : (if t187 = 40 then ((drayagelaw04_known.f kj2).bind fun t188 => (some t188)) else (none)) = some r := H
                        have A194 := Aside0.mk A1940
                        clear A1940
                        by_cases c195 : t187 = 40
                        · rw [if_pos c195] at H
                          have c195b0 : (t187 == 40) = true := beq_iff_eq.mpr c195
                          have c195b1 : (t187 != 40) = false := bne_eq_false_iff_eq.mpr c195
                          clear c195
                          replace H := Option.bind_eq_some_iff.mp H
                          obtain ⟨t188, A1960, H⟩ := H
                          replace H : (some t188) = some r := H
                          have A196 := Aside0.mk A1960
                          clear A1960
                          obtain rfl := Option.some.inj H

                          have hnb199 := NB157_153.out; have hnc199 := NB153_157.out; obtain ⟨hcz200_0, hcz200_1, hcz200_2, hcz200_3, hcz200_4, hcz200_5, hcz200_6, hcz200_7, hcz200_8, hcz200_9, hcz200_10, hfz200_0, hfz200_1, hfz200_2, hfz200_3, hfz200_4, hfz200_5, hfz200_6, hfz200_7, hfz200_8, hfz200_9, hfz200_10⟩ := blk_all11 BK157.out
                          have kc := fun (w : World) (C : Array Value) (n c : Nat) => Lib.run_convert_bytes_const (P := Try.prog) w 24 5 C n c Try.underlying24 Try.underlying5
                          obtain ⟨xc0, xc1, xc2, xc3, xc4, xc5, xc6, xc7, xc8, xc9, xc10, xf0, xf1, xf2, xf3, xf4, xf5, xf6, xf7, xf8, xf9, xf10⟩ := blk_all11 (bd3 (.cells #[.int .u8 107] 5 (1, 2)) BK157.out)
                          obtain ⟨zc0, zc1, zc2, zc3, zc4, zc5, zc6, zc7, zc8, zc9, zc10, zf0, zf1, zf2, zf3, zf4, zf5, zf6, zf7, zf8, zf9, zf10⟩ := blk_all11 (bd3 (.cells #[.int .u8 107] 5 (1, 2)) BK153.out)
                          have KE := Option.some.inj (show some (ansE (entryOk a0_0 a0_1 a0_2 a0_3 a0_4 a0_5 a0_6 a0_7 a0_8 y183.length l0_10.length)) = some t187 from A194.out)
                          rw [Ny183.out] at KE
                          change ansE (entryOk a0_0 a0_1 a0_2 a0_3 a0_4 a0_5 a0_6 a0_7 a0_8 1 l0_10.length) = _ at KE
                          go_wp2_with (first | (go_at_call 15; (with_reducible refine (check_any a0_0 a0_1 a0_2 a0_3 a0_4 a0_5 a0_6 a0_7 a0_8 _ _ _ _ _ _ _).mono ?_); rintro e wk ⟨rfl, hb⟩; rw [show ansE (entryOk a0_0 a0_1 a0_2 a0_3 a0_4 a0_5 a0_6 a0_7 a0_8 1 l0_10.length) = t187 from KE]; have n0_ := Aside0.mk (below_step (by repeat (first | (with_reducible first | exact HB.out | apply below_alloc | apply pw_below_drewN | apply below_drew1 | refine below_set ?_ GE157.out) | exact HB.out)) hb); clear HB hb; have HB := n0_; clear n0_) | (go_at_call 12; (with_reducible refine (drayagelaw04_known.calls kj2  t188 _ A196.out).mono ?_); rintro e wl ⟨rfl, hb⟩; have n0_ := Aside0.mk (below_step (by repeat (first | (with_reducible first | exact HB.out | apply below_alloc | apply pw_below_drewN | apply below_drew1 | refine below_set ?_ GE157.out) | exact HB.out)) hb); clear HB hb; have HB := n0_; clear n0_))
                          go_ret
                          exact ⟨by first | rfl | (simp [errW_none, errW_some] <;> rfl) | (simp [*, errW_none, errW_some] <;> rfl), by repeat (first | (with_reducible first | exact HB.out | apply below_alloc | apply pw_below_drewN | apply below_drew1 | refine below_set ?_ GE153.out | refine below_set ?_ GE157.out) | exact HB.out)⟩
                        · rw [if_neg c195] at H
                          exact absurd H (by simp)
                    · rw [if_neg c181] at H
                      have c181b0 : ((wrap64 (Int.tmod (IntKind.u64.wrap (a1)) 8)) == 6) = false := beq_eq_false_iff_ne.mpr c181
                      have c181b1 : ((wrap64 (Int.tmod (IntKind.u64.wrap (a1)) 8)) != 6) = true := bne_iff_ne.mpr c181
                      replace H := Option.bind_eq_some_iff.mp H
                      obtain ⟨t189, A2080, H⟩ := H
                      replace H : ((entry_Check.f t189 a0_1 a0_2 a0_3 a0_4 a0_5 a0_6 a0_7 a0_8 l0_9 l0_10).bind fun t190 => (if t190 = 40 then ((drayagelaw04_known.f kj2).bind fun t191 => (some t191)) else (none))) = some r := H
                      have A208 := Aside0.mk A2080
                      clear A2080
                      replace H := Option.bind_eq_some_iff.mp H
                      obtain ⟨t190, A2090, H⟩ := H
                      replace H : (if t190 = 40 then ((drayagelaw04_known.f kj2).bind fun t191 => (some t191)) else (none)) = some r := H
                      have A209 := Aside0.mk A2090
                      clear A2090
                      by_cases c210 : t190 = 40
                      · rw [if_pos c210] at H
                        have c210b0 : (t190 == 40) = true := beq_iff_eq.mpr c210
                        have c210b1 : (t190 != 40) = false := bne_eq_false_iff_eq.mpr c210
                        clear c210
                        replace H := Option.bind_eq_some_iff.mp H
                        obtain ⟨t191, A2110, H⟩ := H
                        replace H : (some t191) = some r := H
                        have A211 := Aside0.mk A2110
                        clear A2110
                        obtain rfl := Option.some.inj H

                        have hnb214 := NB157_153.out; have hnc214 := NB153_157.out; obtain ⟨hcz215_0, hcz215_1, hcz215_2, hcz215_3, hcz215_4, hcz215_5, hcz215_6, hcz215_7, hcz215_8, hcz215_9, hcz215_10, hfz215_0, hfz215_1, hfz215_2, hfz215_3, hfz215_4, hfz215_5, hfz215_6, hfz215_7, hfz215_8, hfz215_9, hfz215_10⟩ := blk_all11 BK157.out
                        go_wp2_with (first | ((with_reducible refine gate_callee (f := 25) rfl ?_); refine goesL_ (some 21) rfl rfl Try.func25 (by kernel_rfl) rfl #[.int .i64 a1] rfl (by (try simp only [List.map_toArray, List.map_cons, List.map_nil]); first | done | rfl | (simp only [List.length_drop, List.length_take]; rfl)) ?_; (with_reducible refine (drayagelaw04_Beyond.calls a1 t189 _ A208.out).mono ?_); rintro e w216 ⟨rfl, hb⟩; refine ⟨_, rfl, ?_⟩; have n0_ := Aside0.mk (blk_below (g := gb153) (o := .cells #[.int .i64 a0_0, .int .u64 a0_1, .int .u32 a0_2, .int .u32 a0_3, .int .i64 a0_4, .bool a0_5, .int .i64 a0_6, .int .i64 a0_7, .int .u64 a0_8, .slice A0_9 l0_9.length c0_9, .slice A0_10 l0_10.length c0_10] 26 (0, 0)) (by (with_reducible repeat (first | apply bd1 | apply bd2 | apply bd3)); exact BK153.out) hb); have n1_ := Aside0.mk (blk_below (g := gb157) (o := .cells #[.int .i64 a0_0, .int .u64 a0_1, .int .u32 a0_2, .int .u32 a0_3, .int .i64 a0_4, .bool a0_5, .int .i64 a0_6, .int .i64 a0_7, .int .u64 a0_8, .slice A0_9 l0_9.length c0_9, .slice A0_10 l0_10.length c0_10] 26 (0, 0)) (by (with_reducible repeat (first | apply bd1 | apply bd2 | apply bd3)); exact BK157.out) hb); have n2_ := Aside0.mk (below_step (by repeat (first | (with_reducible first | exact HB.out | apply below_alloc | apply pw_below_drewN | apply below_drew1 | refine below_set ?_ GE153.out | refine below_set ?_ GE157.out) | exact HB.out)) hb); clear BK153; clear BK157; clear HB; have BK153 := n0_; have BK157 := n1_; have HB := n2_; clear n0_ n1_ n2_; (try clear hb); (try clear hb2); (try clear hk); (try clear hi); obtain ⟨hcz217_0, hcz217_1, hcz217_2, hcz217_3, hcz217_4, hcz217_5, hcz217_6, hcz217_7, hcz217_8, hcz217_9, hcz217_10, hfz217_0, hfz217_1, hfz217_2, hfz217_3, hfz217_4, hfz217_5, hfz217_6, hfz217_7, hfz217_8, hfz217_9, hfz217_10⟩ := blk_all11 BK157.out) | (go_at_call 15; (with_reducible refine (entry_Check.calls t189 a0_1 a0_2 a0_3 a0_4 a0_5 a0_6 a0_7 a0_8 _ _ l0_9 _ _ l0_10 t190 _ ?side1 ?side2 ?side3 ?side4 A209.out).mono ?_); (case side1 => exact Kd.C_below HR0_9.out (by repeat (first | (with_reducible first | exact HB.out | apply below_alloc | apply pw_below_drewN | apply below_drew1 | refine below_set ?_ GE153.out | refine below_set ?_ GE157.out) | exact HB.out))); (case side2 => exact HC0_9.out); (case side3 => exact Kd.C_below HR0_10.out (by repeat (first | (with_reducible first | exact HB.out | apply below_alloc | apply pw_below_drewN | apply below_drew1 | refine below_set ?_ GE153.out | refine below_set ?_ GE157.out) | exact HB.out))); (case side4 => exact HC0_10.out); rintro e w218 ⟨rfl, hb⟩; have n0_ := Aside0.mk (blk_below (g := gb153) (o := .cells #[.int .i64 a0_0, .int .u64 a0_1, .int .u32 a0_2, .int .u32 a0_3, .int .i64 a0_4, .bool a0_5, .int .i64 a0_6, .int .i64 a0_7, .int .u64 a0_8, .slice A0_9 l0_9.length c0_9, .slice A0_10 l0_10.length c0_10] 26 (0, 0)) (by (with_reducible repeat (first | apply bd1 | apply bd2 | apply bd3)); refine blk_far ?_ NB153_157.out _; (with_reducible repeat (first | apply bd1 | apply bd2 | apply bd3)); exact BK153.out) hb); have n1_ := Aside0.mk (blk_below (g := gb157) (o := .cells #[.int .i64 t189, .int .u64 a0_1, .int .u32 a0_2, .int .u32 a0_3, .int .i64 a0_4, .bool a0_5, .int .i64 a0_6, .int .i64 a0_7, .int .u64 a0_8, .slice A0_9 l0_9.length c0_9, .slice A0_10 l0_10.length c0_10] 26 (0, 0)) (by (with_reducible repeat (first | apply bd1 | apply bd2 | apply bd3)); refine blk_put (cs := #[.int .i64 a0_0, .int .u64 a0_1, .int .u32 a0_2, .int .u32 a0_3, .int .i64 a0_4, .bool a0_5, .int .i64 a0_6, .int .i64 a0_7, .int .u64 a0_8, .slice A0_9 l0_9.length c0_9, .slice A0_10 l0_10.length c0_10]) ?_ 0 _ rfl; (with_reducible repeat (first | apply bd1 | apply bd2 | apply bd3)); exact BK157.out) hb); have n2_ := Aside0.mk (below_step (by repeat (first | (with_reducible first | exact HB.out | apply below_alloc | apply pw_below_drewN | apply below_drew1 | refine below_set ?_ GE153.out | refine below_set ?_ GE157.out) | exact HB.out)) hb); clear BK153; clear BK157; clear HB; have BK153 := n0_; have BK157 := n1_; have HB := n2_; clear n0_ n1_ n2_; (try clear hb); (try clear hb2); (try clear hk); (try clear hi)) | (go_at_call 12; (with_reducible refine (drayagelaw04_known.calls kj2  t191 _ A211.out).mono ?_); rintro e w219 ⟨rfl, hb⟩; have n0_ := Aside0.mk (blk_below (g := gb153) (o := .cells #[.int .i64 a0_0, .int .u64 a0_1, .int .u32 a0_2, .int .u32 a0_3, .int .i64 a0_4, .bool a0_5, .int .i64 a0_6, .int .i64 a0_7, .int .u64 a0_8, .slice A0_9 l0_9.length c0_9, .slice A0_10 l0_10.length c0_10] 26 (0, 0)) (by (with_reducible repeat (first | apply bd1 | apply bd2 | apply bd3)); exact BK153.out) hb); have n1_ := Aside0.mk (blk_below (g := gb157) (o := .cells #[.int .i64 t189, .int .u64 a0_1, .int .u32 a0_2, .int .u32 a0_3, .int .i64 a0_4, .bool a0_5, .int .i64 a0_6, .int .i64 a0_7, .int .u64 a0_8, .slice A0_9 l0_9.length c0_9, .slice A0_10 l0_10.length c0_10] 26 (0, 0)) (by (with_reducible repeat (first | apply bd1 | apply bd2 | apply bd3)); exact BK157.out) hb); have n2_ := Aside0.mk (below_step (by repeat (first | (with_reducible first | exact HB.out | apply below_alloc | apply pw_below_drewN | apply below_drew1 | refine below_set ?_ GE153.out | refine below_set ?_ GE157.out) | exact HB.out)) hb); clear BK153; clear BK157; clear HB; have BK153 := n0_; have BK157 := n1_; have HB := n2_; clear n0_ n1_ n2_; (try clear hb); (try clear hb2); (try clear hk); (try clear hi)))
                        go_ret
                        exact ⟨by first | rfl | (simp [errW_none, errW_some] <;> rfl) | (simp [*, errW_none, errW_some] <;> rfl), by repeat (first | (with_reducible first | exact HB.out | apply below_alloc | apply pw_below_drewN | apply below_drew1 | refine below_set ?_ GE153.out | refine below_set ?_ GE157.out) | exact HB.out)⟩
                      · rw [if_neg c210] at H
                        exact absurd H (by simp)

end Go.Proofs.Ytahldljkhjebgaa.PA
