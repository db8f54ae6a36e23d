-- printed by a program of this work (wip/tools/pr.py over the kit's print): the machine's side of EntryBare, EntryBegins, EntrySizes, EntryEpochs
import Derived.Test.YtahldljkhjebgaaQRwPAx0
namespace Go.Proofs.Ytahldljkhjebgaa.PA
open Go.RowKit Go.Proofs.YtahldljkhjebgaaW.PrintWords Go.Proofs.YtahldljkhjebgaaW.PrintLast Go.Proofs.YtahldljkhjebgaaW.PrintMore
attribute [local go_sem] max2_int min2_int max_two min_two max_three min_three max_four min_four   -- for this text's walks alone
set_option linter.unusedVariables false
set_option linter.unusedSimpArgs false

/-! ### drayagelaw04_long: function 11 -/
def drayagelaw04_long.f (a0_0 : Int) (a0_1 : Int) (a0_2 : Int) (a0_3 : Int) (a0_4 : Int) (a0_5 : Bool) (a0_6 : Int) (a0_7 : Int) (a0_8 : Int) (l0_9 : List Int) (l0_10 : List Int) : Option (Bool) := if (l0_9.length : Int) > 1000 then (some true) else (some (decide ((l0_10.length : Int) > 1000)))
set_option maxHeartbeats 8000000 in
set_option maxRecDepth 100000 in
theorem drayagelaw04_long.calls (a0_0 : Int) (a0_1 : Int) (a0_2 : Int) (a0_3 : Int) (a0_4 : Int) (a0_5 : Bool) (a0_6 : Int) (a0_7 : Int) (a0_8 : Int) (A0_9 : Option Addr) (c0_9 : Nat) (l0_9 : List Int) (A0_10 : Option Addr) (c0_10 : Nat) (l0_10 : List Int) (r : Bool) (w : World) (hr0_9 : Kd.C (Kd.int .u8) w A0_9 l0_9.length l0_9) (hc0_9 : l0_9.length ≤ c0_9) (hr0_10 : Kd.C (Kd.int .u8) w A0_10 l0_10.length l0_10) (hc0_10 : l0_10.length ≤ c0_10) (h : drayagelaw04_long.f a0_0 a0_1 a0_2 a0_3 a0_4 a0_5 a0_6 a0_7 a0_8 l0_9 l0_10 = some r) :
    Calls Try.prog 11 #[.agg #[.int .i64 a0_0, .int .u64 a0_1, .int .u32 a0_2, .int .u32 a0_3, .int .i64 a0_4, .bool a0_5, .int .i64 a0_6, .int .i64 a0_7, .int .u64 a0_8, .slice A0_9 l0_9.length c0_9, .slice A0_10 l0_10.length c0_10]] w fun e w' => e = .returned (.bool r) ∧ Below w.heap.size w w' := by
  have hu26 := Try.underlying26
  have HR0_9 := Aside0.mk hr0_9
  have HC0_9 := Aside0.mk hc0_9
  clear hr0_9 hc0_9
  have HR0_10 := Aside0.mk hr0_10
  have HC0_10 := Aside0.mk hc0_10
  clear hr0_10 hc0_10
  have HB := Aside0.mk (Below.refl w.heap.size w)
  have H : (if (l0_9.length : Int) > 1000 then (some true) else (some (decide ((l0_10.length : Int) > 1000)))) = some r := h
  clear h
  by_cases c2 : (l0_9.length : Int) > 1000
  · rw [if_pos c2] at H
    have c2b0 : decide (1000 < (l0_9.length : Int)) = true := decide_eq_true c2
    have c2b1 : decide (1000 < l0_9.length) = true := decide_eq_true (by omega)
    clear c2
    obtain rfl := Option.some.inj H
    go_enter Try.func11, Try.ntmps11
    go_wp2_with (first | ((with_reducible refine gate_dst (N := 1) rfl ?_); (try (refine gate_guard (by rfl) ?_; dsimp only)); refine box_event ?hg (N := 1) ?hd (cs := #[.int .i64 a0_0, .int .u64 a0_1, .int .u32 a0_2, .int .u32 a0_3, .int .i64 a0_4, .bool a0_5, .int .i64 a0_6, .int .i64 a0_7, .int .u64 a0_8, .slice A0_9 l0_9.length c0_9, .slice A0_10 l0_10.length c0_10]) (t := 26) ?hr ?_; (case hd => rfl); (case hg => rfl); (case hr => first | (go_simp; done) | (go_simp; rfl)); intro gb101 hg w3 hbox hb; have n0_ := Aside0.mk (below_step (by repeat (first | (with_reducible first | exact HB.out | apply below_alloc | apply pw_below_drewN | apply below_drew1) | exact HB.out)) hb); have n1_ := Aside0.mk (hbox); have n2_ := Aside0.mk ((by rw [hg]; exact (below_size (by repeat (first | (with_reducible first | exact HB.out | apply below_alloc | apply pw_below_drewN | apply below_drew1) | exact HB.out))) : w.heap.size ≤ gb101)); have n3_ := Aside0.mk ((by rw [hg]; exact (below_size (by repeat (first | (with_reducible first | exact HB.out | apply below_alloc | apply pw_below_drewN | apply below_drew1) | exact HB.out))) : w.heap.size ≤ gb101)); clear HB; have HB := n0_; have BK101 := n1_; have GW101 := n2_; have GE101 := n3_; clear n0_ n1_ n2_ n3_; clear hb hbox hg; obtain ⟨hcz4_0, hcz4_1, hcz4_2, hcz4_3, hcz4_4, hcz4_5, hcz4_6, hcz4_7, hcz4_8, hcz4_9, hcz4_10, hfz4_0, hfz4_1, hfz4_2, hfz4_3, hfz4_4, hfz4_5, hfz4_6, hfz4_7, hfz4_8, hfz4_9, hfz4_10⟩ := blk_all11 BK101.out))
    go_ret
    exact ⟨by first | rfl | (simp [errW_none, errW_some] <;> rfl) | (simp [*, errW_none, errW_some] <;> rfl), by repeat (first | (with_reducible first | exact HB.out | apply below_alloc | apply pw_below_drewN | apply below_drew1 | refine below_set ?_ GE101.out) | exact HB.out)⟩
  · rw [if_neg c2] at H
    have c2b0 : decide (1000 < (l0_9.length : Int)) = false := decide_eq_false c2
    have c2b1 : decide (1000 < l0_9.length) = false := decide_eq_false (by omega)
    clear c2
    obtain rfl := Option.some.inj H
    go_enter Try.func11, Try.ntmps11
    go_wp2_with (first | ((with_reducible refine gate_dst (N := 1) rfl ?_); (try (refine gate_guard (by rfl) ?_; dsimp only)); refine box_event ?hg (N := 1) ?hd (cs := #[.int .i64 a0_0, .int .u64 a0_1, .int .u32 a0_2, .int .u32 a0_3, .int .i64 a0_4, .bool a0_5, .int .i64 a0_6, .int .i64 a0_7, .int .u64 a0_8, .slice A0_9 l0_9.length c0_9, .slice A0_10 l0_10.length c0_10]) (t := 26) ?hr ?_; (case hd => rfl); (case hg => rfl); (case hr => first | (go_simp; done) | (go_simp; rfl)); intro gb101 hg w5 hbox hb; have n0_ := Aside0.mk (below_step (by repeat (first | (with_reducible first | exact HB.out | apply below_alloc | apply pw_below_drewN | apply below_drew1) | exact HB.out)) hb); have n1_ := Aside0.mk (hbox); have n2_ := Aside0.mk ((by rw [hg]; exact (below_size (by repeat (first | (with_reducible first | exact HB.out | apply below_alloc | apply pw_below_drewN | apply below_drew1) | exact HB.out))) : w.heap.size ≤ gb101)); have n3_ := Aside0.mk ((by rw [hg]; exact (below_size (by repeat (first | (with_reducible first | exact HB.out | apply below_alloc | apply pw_below_drewN | apply below_drew1) | exact HB.out))) : w.heap.size ≤ gb101)); clear HB; have HB := n0_; have BK101 := n1_; have GW101 := n2_; have GE101 := n3_; clear n0_ n1_ n2_ n3_; clear hb hbox hg; obtain ⟨hcz6_0, hcz6_1, hcz6_2, hcz6_3, hcz6_4, hcz6_5, hcz6_6, hcz6_7, hcz6_8, hcz6_9, hcz6_10, hfz6_0, hfz6_1, hfz6_2, hfz6_3, hfz6_4, hfz6_5, hfz6_6, hfz6_7, hfz6_8, hfz6_9, hfz6_10⟩ := blk_all11 BK101.out))
    go_ret
    exact ⟨by first | rfl | (simp [errW_none, errW_some] <;> rfl) | (simp [*, errW_none, errW_some] <;> rfl), by repeat (first | (with_reducible first | exact HB.out | apply below_alloc | apply pw_below_drewN | apply below_drew1 | refine below_set ?_ GE101.out) | exact HB.out)⟩

/-! ### entry_bare: function 35 -/
def entry_bare.f (a0_0 : Int) (a0_1 : Int) (a0_2 : Int) (a0_3 : Int) (a0_4 : Int) (a0_5 : Bool) (a0_6 : Int) (a0_7 : Int) (a0_8 : Int) (l0_9 : List Int) (l0_10 : List Int) : Option (Int × Int × Int × Int × Int × Bool × Int × Int × Int × List Int × List Int) := some (0, 0, 0, a0_3, a0_4, a0_5, a0_6, a0_7, a0_8, l0_9, l0_10)

/-! ### entry_zero: function 36 -/
def entry_zero.f (a0_0 : Int) (a0_1 : Int) (a0_2 : Int) (a0_3 : Int) (a0_4 : Int) (a0_5 : Bool) (a0_6 : Int) (a0_7 : Int) (a0_8 : Int) (l0_9 : List Int) (l0_10 : List Int) : Option (Bool) := if a0_0 = 0 then (if a0_1 = 0 then (if a0_2 = 0 then (if a0_3 = 0 then (if a0_4 = 0 then (if a0_5 = true then (some false) else (if a0_6 = 0 then (if a0_7 = 0 then (if a0_8 = 0 then (if (l0_9.length : Int) = 0 then (some ((l0_10.length : Int) == 0)) else (some false)) else (some false)) else (some false)) else (some false))) else (some false)) else (some false)) else (some false)) else (some false)) else (some false)

/-! ### entry_Check: function 15 -/
set_option maxHeartbeats 8000000 in
set_option maxRecDepth 100000 in
theorem bare_any (k ls ep o st : Int) (un : Bool) (tr co mk : Int) (A9 : Option Addr) (n9 c9 : Nat) (A10 : Option Addr) (n10 c10 : Nat) (w : World) : Calls Try.prog 35 #[.agg #[.int .i64 k, .int .u64 ls, .int .u32 ep, .int .u32 o, .int .i64 st, .bool un, .int .i64 tr, .int .i64 co, .int .u64 mk, .slice A9 n9 c9, .slice A10 n10 c10]] w fun e w' => e = .returned (.agg #[.int .i64 0, .int .u64 0, .int .u32 0, .int .u32 o, .int .i64 st, .bool un, .int .i64 tr, .int .i64 co, .int .u64 mk, .slice A9 n9 c9, .slice A10 n10 c10]) ∧ Below w.heap.size w w' := by
  go_enter Try.func35, Try.ntmps35
  go_wp2
  refine bodyPost_ret ?_ rfl ⟨rfl, ?_⟩
  · simp [results, Try.results35, go_sem]
  · repeat (first | exact Below.refl _ _ | apply below_alloc | refine below_set ?_ (by first | omega | (simp; omega) | simp))
/-- nothing in it -/
def zeroB (o st : Int) (un : Bool) (tr co mk : Int) (n9 n10 : Nat) : Bool := (o == 0) && ((st == 0) && (!un && ((tr == 0) && ((co == 0) && ((mk == 0) && (((n9 : Int) == 0) && ((n10 : Int) == 0)))))))
set_option maxHeartbeats 8000000 in
set_option maxRecDepth 100000 in
theorem zero_any (o st : Int) (un : Bool) (tr co mk : Int) (A9 : Option Addr) (n9 c9 : Nat) (A10 : Option Addr) (n10 c10 : Nat) (w : World) : Calls Try.prog 36 #[.agg #[.int .i64 0, .int .u64 0, .int .u32 0, .int .u32 o, .int .i64 st, .bool un, .int .i64 tr, .int .i64 co, .int .u64 mk, .slice A9 n9 c9, .slice A10 n10 c10]] w fun e w' => e = .returned (.bool (zeroB o st un tr co mk n9 n10)) ∧ Below w.heap.size w w' := by
  by_cases h0 : o = 0
  · have y0_0 : (o == 0) = true := beq_iff_eq.mpr h0
    clear h0
    by_cases h1 : st = 0
    · have y1_0 : (st == 0) = true := beq_iff_eq.mpr h1
      clear h1
      cases un with
      | true =>
        go_enter Try.func36, Try.ntmps36
        go_wp2
        refine bodyPost_ret ?_ rfl ⟨rfl, ?_⟩
        · simp [results, Try.results36, go_sem, zeroB, *]
        · repeat (first | exact Below.refl _ _ | apply below_alloc)
      | false =>
        by_cases h3 : tr = 0
        · have y3_0 : (tr == 0) = true := beq_iff_eq.mpr h3
          clear h3
          by_cases h4 : co = 0
          · have y4_0 : (co == 0) = true := beq_iff_eq.mpr h4
            clear h4
            by_cases h5 : mk = 0
            · have y5_0 : (mk == 0) = true := beq_iff_eq.mpr h5
              clear h5
              by_cases h6 : (n9 : Int) = 0
              · have y6_0 : ((n9 : Int) == 0) = true := beq_iff_eq.mpr h6
                clear h6
                go_enter Try.func36, Try.ntmps36
                go_wp2
                refine bodyPost_ret ?_ rfl ⟨rfl, ?_⟩
                · simp [results, Try.results36, go_sem, zeroB, *]
                · repeat (first | exact Below.refl _ _ | apply below_alloc)
              · have y6_0 : ((n9 : Int) == 0) = false := beq_eq_false_iff_ne.mpr h6
                clear h6
                go_enter Try.func36, Try.ntmps36
                go_wp2
                refine bodyPost_ret ?_ rfl ⟨rfl, ?_⟩
                · simp [results, Try.results36, go_sem, zeroB, *]
                · repeat (first | exact Below.refl _ _ | apply below_alloc)
            · have y5_0 : (mk == 0) = false := beq_eq_false_iff_ne.mpr h5
              clear h5
              go_enter Try.func36, Try.ntmps36
              go_wp2
              refine bodyPost_ret ?_ rfl ⟨rfl, ?_⟩
              · simp [results, Try.results36, go_sem, zeroB, *]
              · repeat (first | exact Below.refl _ _ | apply below_alloc)
          · have y4_0 : (co == 0) = false := beq_eq_false_iff_ne.mpr h4
            clear h4
            go_enter Try.func36, Try.ntmps36
            go_wp2
            refine bodyPost_ret ?_ rfl ⟨rfl, ?_⟩
            · simp [results, Try.results36, go_sem, zeroB, *]
            · repeat (first | exact Below.refl _ _ | apply below_alloc)
        · have y3_0 : (tr == 0) = false := beq_eq_false_iff_ne.mpr h3
          clear h3
          go_enter Try.func36, Try.ntmps36
          go_wp2
          refine bodyPost_ret ?_ rfl ⟨rfl, ?_⟩
          · simp [results, Try.results36, go_sem, zeroB, *]
          · repeat (first | exact Below.refl _ _ | apply below_alloc)
    · have y1_0 : (st == 0) = false := beq_eq_false_iff_ne.mpr h1
      clear h1
      go_enter Try.func36, Try.ntmps36
      go_wp2
      refine bodyPost_ret ?_ rfl ⟨rfl, ?_⟩
      · simp [results, Try.results36, go_sem, zeroB, *]
      · repeat (first | exact Below.refl _ _ | apply below_alloc)
  · have y0_0 : (o == 0) = false := beq_eq_false_iff_ne.mpr h0
    clear h0
    go_enter Try.func36, Try.ntmps36
    go_wp2
    refine bodyPost_ret ?_ rfl ⟨rfl, ?_⟩
    · simp [results, Try.results36, go_sem, zeroB, *]
    · repeat (first | exact Below.refl _ _ | apply below_alloc)
/-- 0 of what may be, 40 of what may not -/
def ansE : Bool → Int
  | true => 0
  | false => 40
theorem heap_last (w : World) (o : Obj) : (w.alloc o).heap[w.heap.size]? = some o := (MapKept.heap_alloc w o).1
theorem entry_all {w : World} {g : Nat} {b0 b1 b2 b3 b4 b5 b6 b7 b8 b9 b10 : Value} (h : w.heap[g]? = some (.cells #[b0, b1, b2, b3, b4, b5, b6, b7, b8, b9, b10] 26 (0, 0))) :
    w.cell? ⟨g, 0, none⟩ = some b0 ∧ w.cell? ⟨g, 1, none⟩ = some b1 ∧ w.cell? ⟨g, 2, none⟩ = some b2 ∧ w.cell? ⟨g, 3, none⟩ = some b3 ∧ w.cell? ⟨g, 4, none⟩ = some b4 ∧ w.cell? ⟨g, 5, none⟩ = some b5 ∧ w.cell? ⟨g, 6, none⟩ = some b6 ∧ w.cell? ⟨g, 7, none⟩ = some b7 ∧ w.cell? ⟨g, 8, none⟩ = some b8 ∧ w.cell? ⟨g, 9, none⟩ = some b9 ∧ w.cell? ⟨g, 10, none⟩ = some b10 ∧ (∀ i, w.frozen? ⟨g, i, none⟩ = false) ∧ g < w.heap.size :=
  ⟨(blk_cell h 0).trans rfl, (blk_cell h 1).trans rfl, (blk_cell h 2).trans rfl, (blk_cell h 3).trans rfl, (blk_cell h 4).trans rfl, (blk_cell h 5).trans rfl, (blk_cell h 6).trans rfl, (blk_cell h 7).trans rfl, (blk_cell h 8).trans rfl, (blk_cell h 9).trans rfl, (blk_cell h 10).trans rfl, fun i => blk_frozen h i, blk_lt h⟩
set_option maxHeartbeats 8000000 in
set_option maxRecDepth 100000 in
theorem check_1 (ls ep o st : Int) (un : Bool) (tr co mk : Int) (A9 : Option Addr) (n9 c9 : Nat) (A10 : Option Addr) (n10 c10 : Nat) (w : World) (hl : (ls == 0) = false) (he : (ep == 0) = false) : Calls Try.prog 15 #[.agg #[.int .i64 1, .int .u64 ls, .int .u32 ep, .int .u32 o, .int .i64 st, .bool un, .int .i64 tr, .int .i64 co, .int .u64 mk, .slice A9 n9 c9, .slice A10 n10 c10]] w fun e w' => e = .returned (.int .i64 (ansE (true && zeroB o st un tr co mk n9 n10))) ∧ Below w.heap.size w w' := by
  cases hz : zeroB o st un tr co mk n9 n10 with
  | true =>
    go_enter Try.func15, Try.ntmps15
    go_wp2_with (first | (go_at_call 35; (with_reducible refine (bare_any 1 ls ep o st un tr co mk A9 n9 c9 A10 n10 c10 _).mono ?_); rintro e w1 ⟨rfl, hb⟩; have HN := Aside0.mk (blk_below (heap_last _ _) hb); obtain ⟨q0, q1, q2, q3, q4, q5, q6, q7, q8, q9, q10, qf, ql⟩ := entry_all HN.out; have HB := Aside0.mk (below_step (below_alloc (Below.refl _ _) _) hb); clear hb HN) | (go_at_call 36; (with_reducible refine (zero_any o st un tr co mk A9 n9 c9 A10 n10 c10 _).mono ?_); rintro e w2 ⟨rfl, hb⟩; rw [hz]))
    refine bodyPost_ret ?_ rfl ⟨rfl, ?_⟩
    · simp [results, Try.results15, go_sem, ansE, *]
    · refine below_step ?_ hb
      repeat (first | exact HB.out | exact Below.refl _ _ | apply below_alloc | refine below_set ?_ (by first | omega | (simp; omega) | simp))
  | false =>
    go_enter Try.func15, Try.ntmps15
    go_wp2_with (first | (go_at_call 35; (with_reducible refine (bare_any 1 ls ep o st un tr co mk A9 n9 c9 A10 n10 c10 _).mono ?_); rintro e w1 ⟨rfl, hb⟩; have HN := Aside0.mk (blk_below (heap_last _ _) hb); obtain ⟨q0, q1, q2, q3, q4, q5, q6, q7, q8, q9, q10, qf, ql⟩ := entry_all HN.out; have HB := Aside0.mk (below_step (below_alloc (Below.refl _ _) _) hb); clear hb HN) | (go_at_call 36; (with_reducible refine (zero_any o st un tr co mk A9 n9 c9 A10 n10 c10 _).mono ?_); rintro e w2 ⟨rfl, hb⟩; rw [hz]))
    refine bodyPost_ret ?_ rfl ⟨rfl, ?_⟩
    · simp [results, Try.results15, go_sem, ansE, *]
    · refine below_step ?_ hb
      repeat (first | exact HB.out | exact Below.refl _ _ | apply below_alloc | refine below_set ?_ (by first | omega | (simp; omega) | simp))
set_option maxHeartbeats 8000000 in
set_option maxRecDepth 100000 in
theorem check_2 (ls ep o st : Int) (un : Bool) (tr co mk : Int) (A9 : Option Addr) (n9 c9 : Nat) (A10 : Option Addr) (n10 c10 : Nat) (w : World) (hl : (ls == 0) = false) (he : (ep == 0) = false) : Calls Try.prog 15 #[.agg #[.int .i64 2, .int .u64 ls, .int .u32 ep, .int .u32 o, .int .i64 st, .bool un, .int .i64 tr, .int .i64 co, .int .u64 mk, .slice A9 n9 c9, .slice A10 n10 c10]] w fun e w' => e = .returned (.int .i64 (ansE ((decide (0 < o)) && (decide (0 < (n9 : Int))) && (decide ((n9 : Int) ≤ 32)) && (decide ((n10 : Int) ≤ 200)) && true && zeroB 0 st un tr co mk 0 0))) ∧ Below w.heap.size w w' := by
  by_cases g0 : ¬ 0 < o
  · have x0 : decide (0 < o) = false := decide_eq_false g0
    clear g0
    go_enter Try.func15, Try.ntmps15
    go_wp2_with (first | (go_at_call 35; (with_reducible refine (bare_any 2 ls ep o st un tr co mk A9 n9 c9 A10 n10 c10 _).mono ?_); rintro e w1 ⟨rfl, hb⟩; have HN := Aside0.mk (blk_below (heap_last _ _) hb); obtain ⟨q0, q1, q2, q3, q4, q5, q6, q7, q8, q9, q10, qf, ql⟩ := entry_all HN.out; have HB := Aside0.mk (below_step (below_alloc (Below.refl _ _) _) hb); clear hb HN))
    refine bodyPost_ret ?_ rfl ⟨rfl, ?_⟩
    · simp [results, Try.results15, go_sem, ansE, *]
    · repeat (first | exact HB.out | exact Below.refl _ _ | apply below_alloc | refine below_set ?_ (by first | omega | (simp; omega) | simp))
  replace g0 := Decidable.not_not.mp g0
  have x0 : decide (0 < o) = true := decide_eq_true g0
  clear g0
  by_cases g1 : ¬ 0 < (n9 : Int)
  · have x1 : decide (0 < (n9 : Int)) = false := decide_eq_false g1
    clear g1
    have z1 : decide (0 < n9) = false := decide_eq_false (by have := of_decide_eq_false x1; omega)
    go_enter Try.func15, Try.ntmps15
    go_wp2_with (first | (go_at_call 35; (with_reducible refine (bare_any 2 ls ep o st un tr co mk A9 n9 c9 A10 n10 c10 _).mono ?_); rintro e w1 ⟨rfl, hb⟩; have HN := Aside0.mk (blk_below (heap_last _ _) hb); obtain ⟨q0, q1, q2, q3, q4, q5, q6, q7, q8, q9, q10, qf, ql⟩ := entry_all HN.out; have HB := Aside0.mk (below_step (below_alloc (Below.refl _ _) _) hb); clear hb HN))
    refine bodyPost_ret ?_ rfl ⟨rfl, ?_⟩
    · simp [results, Try.results15, go_sem, ansE, *]
    · repeat (first | exact HB.out | exact Below.refl _ _ | apply below_alloc | refine below_set ?_ (by first | omega | (simp; omega) | simp))
  replace g1 := Decidable.not_not.mp g1
  have x1 : decide (0 < (n9 : Int)) = true := decide_eq_true g1
  clear g1
  have z1 : decide (0 < n9) = true := decide_eq_true (by have := of_decide_eq_true x1; omega)
  by_cases g2 : ¬ (n9 : Int) ≤ 32
  · have x2 : decide ((n9 : Int) ≤ 32) = false := decide_eq_false g2
    clear g2
    go_enter Try.func15, Try.ntmps15
    go_wp2_with (first | (go_at_call 35; (with_reducible refine (bare_any 2 ls ep o st un tr co mk A9 n9 c9 A10 n10 c10 _).mono ?_); rintro e w1 ⟨rfl, hb⟩; have HN := Aside0.mk (blk_below (heap_last _ _) hb); obtain ⟨q0, q1, q2, q3, q4, q5, q6, q7, q8, q9, q10, qf, ql⟩ := entry_all HN.out; have HB := Aside0.mk (below_step (below_alloc (Below.refl _ _) _) hb); clear hb HN))
    refine bodyPost_ret ?_ rfl ⟨rfl, ?_⟩
    · simp [results, Try.results15, go_sem, ansE, *]
    · repeat (first | exact HB.out | exact Below.refl _ _ | apply below_alloc | refine below_set ?_ (by first | omega | (simp; omega) | simp))
  replace g2 := Decidable.not_not.mp g2
  have x2 : decide ((n9 : Int) ≤ 32) = true := decide_eq_true g2
  clear g2
  by_cases g3 : ¬ (n10 : Int) ≤ 200
  · have x3 : decide ((n10 : Int) ≤ 200) = false := decide_eq_false g3
    clear g3
    go_enter Try.func15, Try.ntmps15
    go_wp2_with (first | (go_at_call 35; (with_reducible refine (bare_any 2 ls ep o st un tr co mk A9 n9 c9 A10 n10 c10 _).mono ?_); rintro e w1 ⟨rfl, hb⟩; have HN := Aside0.mk (blk_below (heap_last _ _) hb); obtain ⟨q0, q1, q2, q3, q4, q5, q6, q7, q8, q9, q10, qf, ql⟩ := entry_all HN.out; have HB := Aside0.mk (below_step (below_alloc (Below.refl _ _) _) hb); clear hb HN))
    refine bodyPost_ret ?_ rfl ⟨rfl, ?_⟩
    · simp [results, Try.results15, go_sem, ansE, *]
    · repeat (first | exact HB.out | exact Below.refl _ _ | apply below_alloc | refine below_set ?_ (by first | omega | (simp; omega) | simp))
  replace g3 := Decidable.not_not.mp g3
  have x3 : decide ((n10 : Int) ≤ 200) = true := decide_eq_true g3
  clear g3
  cases hz : zeroB 0 st un tr co mk 0 0 with
  | true =>
    go_enter Try.func15, Try.ntmps15
    go_wp2_with (first | (go_at_call 35; (with_reducible refine (bare_any 2 ls ep o st un tr co mk A9 n9 c9 A10 n10 c10 _).mono ?_); rintro e w1 ⟨rfl, hb⟩; have HN := Aside0.mk (blk_below (heap_last _ _) hb); obtain ⟨q0, q1, q2, q3, q4, q5, q6, q7, q8, q9, q10, qf, ql⟩ := entry_all HN.out; have HB := Aside0.mk (below_step (below_alloc (Below.refl _ _) _) hb); clear hb HN) | (go_at_call 36; (with_reducible refine (zero_any 0 st un tr co mk none 0 0 none 0 0 _).mono ?_); rintro e w2 ⟨rfl, hb⟩; rw [hz]))
    refine bodyPost_ret ?_ rfl ⟨rfl, ?_⟩
    · simp [results, Try.results15, go_sem, ansE, *]
    · refine below_step ?_ hb
      repeat (first | exact HB.out | exact Below.refl _ _ | apply below_alloc | refine below_set ?_ (by first | omega | (simp; omega) | simp))
  | false =>
    go_enter Try.func15, Try.ntmps15
    go_wp2_with (first | (go_at_call 35; (with_reducible refine (bare_any 2 ls ep o st un tr co mk A9 n9 c9 A10 n10 c10 _).mono ?_); rintro e w1 ⟨rfl, hb⟩; have HN := Aside0.mk (blk_below (heap_last _ _) hb); obtain ⟨q0, q1, q2, q3, q4, q5, q6, q7, q8, q9, q10, qf, ql⟩ := entry_all HN.out; have HB := Aside0.mk (below_step (below_alloc (Below.refl _ _) _) hb); clear hb HN) | (go_at_call 36; (with_reducible refine (zero_any 0 st un tr co mk none 0 0 none 0 0 _).mono ?_); rintro e w2 ⟨rfl, hb⟩; rw [hz]))
    refine bodyPost_ret ?_ rfl ⟨rfl, ?_⟩
    · simp [results, Try.results15, go_sem, ansE, *]
    · refine below_step ?_ hb
      repeat (first | exact HB.out | exact Below.refl _ _ | apply below_alloc | refine below_set ?_ (by first | omega | (simp; omega) | simp))
set_option maxHeartbeats 8000000 in
set_option maxRecDepth 100000 in
theorem check_3 (ls ep o st : Int) (un : Bool) (tr co mk : Int) (A9 : Option Addr) (n9 c9 : Nat) (A10 : Option Addr) (n10 c10 : Nat) (w : World) (hl : (ls == 0) = false) (he : (ep == 0) = false) : Calls Try.prog 15 #[.agg #[.int .i64 3, .int .u64 ls, .int .u32 ep, .int .u32 o, .int .i64 st, .bool un, .int .i64 tr, .int .i64 co, .int .u64 mk, .slice A9 n9 c9, .slice A10 n10 c10]] w fun e w' => e = .returned (.int .i64 (ansE ((decide (0 < o)) && (decide (0 ≤ st)) && (decide (st < 16)) && (decide (1 ≤ tr)) && (decide (tr ≤ 255)) && true && zeroB 0 0 false 0 co mk n9 n10))) ∧ Below w.heap.size w w' := by
  by_cases g0 : ¬ 0 < o
  · have x0 : decide (0 < o) = false := decide_eq_false g0
    clear g0
    go_enter Try.func15, Try.ntmps15
    go_wp2_with (first | (go_at_call 35; (with_reducible refine (bare_any 3 ls ep o st un tr co mk A9 n9 c9 A10 n10 c10 _).mono ?_); rintro e w1 ⟨rfl, hb⟩; have HN := Aside0.mk (blk_below (heap_last _ _) hb); obtain ⟨q0, q1, q2, q3, q4, q5, q6, q7, q8, q9, q10, qf, ql⟩ := entry_all HN.out; have HB := Aside0.mk (below_step (below_alloc (Below.refl _ _) _) hb); clear hb HN))
    refine bodyPost_ret ?_ rfl ⟨rfl, ?_⟩
    · simp [results, Try.results15, go_sem, ansE, *]
    · repeat (first | exact HB.out | exact Below.refl _ _ | apply below_alloc | refine below_set ?_ (by first | omega | (simp; omega) | simp))
  replace g0 := Decidable.not_not.mp g0
  have x0 : decide (0 < o) = true := decide_eq_true g0
  clear g0
  by_cases g1 : ¬ 0 ≤ st
  · have x1 : decide (0 ≤ st) = false := decide_eq_false g1
    clear g1
    go_enter Try.func15, Try.ntmps15
    go_wp2_with (first | (go_at_call 35; (with_reducible refine (bare_any 3 ls ep o st un tr co mk A9 n9 c9 A10 n10 c10 _).mono ?_); rintro e w1 ⟨rfl, hb⟩; have HN := Aside0.mk (blk_below (heap_last _ _) hb); obtain ⟨q0, q1, q2, q3, q4, q5, q6, q7, q8, q9, q10, qf, ql⟩ := entry_all HN.out; have HB := Aside0.mk (below_step (below_alloc (Below.refl _ _) _) hb); clear hb HN))
    refine bodyPost_ret ?_ rfl ⟨rfl, ?_⟩
    · simp [results, Try.results15, go_sem, ansE, *]
    · repeat (first | exact HB.out | exact Below.refl _ _ | apply below_alloc | refine below_set ?_ (by first | omega | (simp; omega) | simp))
  replace g1 := Decidable.not_not.mp g1
  have x1 : decide (0 ≤ st) = true := decide_eq_true g1
  clear g1
  by_cases g2 : ¬ st < 16
  · have x2 : decide (st < 16) = false := decide_eq_false g2
    clear g2
    go_enter Try.func15, Try.ntmps15
    go_wp2_with (first | (go_at_call 35; (with_reducible refine (bare_any 3 ls ep o st un tr co mk A9 n9 c9 A10 n10 c10 _).mono ?_); rintro e w1 ⟨rfl, hb⟩; have HN := Aside0.mk (blk_below (heap_last _ _) hb); obtain ⟨q0, q1, q2, q3, q4, q5, q6, q7, q8, q9, q10, qf, ql⟩ := entry_all HN.out; have HB := Aside0.mk (below_step (below_alloc (Below.refl _ _) _) hb); clear hb HN))
    refine bodyPost_ret ?_ rfl ⟨rfl, ?_⟩
    · simp [results, Try.results15, go_sem, ansE, *]
    · repeat (first | exact HB.out | exact Below.refl _ _ | apply below_alloc | refine below_set ?_ (by first | omega | (simp; omega) | simp))
  replace g2 := Decidable.not_not.mp g2
  have x2 : decide (st < 16) = true := decide_eq_true g2
  clear g2
  by_cases g3 : ¬ 1 ≤ tr
  · have x3 : decide (1 ≤ tr) = false := decide_eq_false g3
    clear g3
    go_enter Try.func15, Try.ntmps15
    go_wp2_with (first | (go_at_call 35; (with_reducible refine (bare_any 3 ls ep o st un tr co mk A9 n9 c9 A10 n10 c10 _).mono ?_); rintro e w1 ⟨rfl, hb⟩; have HN := Aside0.mk (blk_below (heap_last _ _) hb); obtain ⟨q0, q1, q2, q3, q4, q5, q6, q7, q8, q9, q10, qf, ql⟩ := entry_all HN.out; have HB := Aside0.mk (below_step (below_alloc (Below.refl _ _) _) hb); clear hb HN))
    refine bodyPost_ret ?_ rfl ⟨rfl, ?_⟩
    · simp [results, Try.results15, go_sem, ansE, *]
    · repeat (first | exact HB.out | exact Below.refl _ _ | apply below_alloc | refine below_set ?_ (by first | omega | (simp; omega) | simp))
  replace g3 := Decidable.not_not.mp g3
  have x3 : decide (1 ≤ tr) = true := decide_eq_true g3
  clear g3
  by_cases g4 : ¬ tr ≤ 255
  · have x4 : decide (tr ≤ 255) = false := decide_eq_false g4
    clear g4
    go_enter Try.func15, Try.ntmps15
    go_wp2_with (first | (go_at_call 35; (with_reducible refine (bare_any 3 ls ep o st un tr co mk A9 n9 c9 A10 n10 c10 _).mono ?_); rintro e w1 ⟨rfl, hb⟩; have HN := Aside0.mk (blk_below (heap_last _ _) hb); obtain ⟨q0, q1, q2, q3, q4, q5, q6, q7, q8, q9, q10, qf, ql⟩ := entry_all HN.out; have HB := Aside0.mk (below_step (below_alloc (Below.refl _ _) _) hb); clear hb HN))
    refine bodyPost_ret ?_ rfl ⟨rfl, ?_⟩
    · simp [results, Try.results15, go_sem, ansE, *]
    · repeat (first | exact HB.out | exact Below.refl _ _ | apply below_alloc | refine below_set ?_ (by first | omega | (simp; omega) | simp))
  replace g4 := Decidable.not_not.mp g4
  have x4 : decide (tr ≤ 255) = true := decide_eq_true g4
  clear g4
  cases hz : zeroB 0 0 false 0 co mk n9 n10 with
  | true =>
    go_enter Try.func15, Try.ntmps15
    go_wp2_with (first | (go_at_call 35; (with_reducible refine (bare_any 3 ls ep o st un tr co mk A9 n9 c9 A10 n10 c10 _).mono ?_); rintro e w1 ⟨rfl, hb⟩; have HN := Aside0.mk (blk_below (heap_last _ _) hb); obtain ⟨q0, q1, q2, q3, q4, q5, q6, q7, q8, q9, q10, qf, ql⟩ := entry_all HN.out; have HB := Aside0.mk (below_step (below_alloc (Below.refl _ _) _) hb); clear hb HN) | (go_at_call 36; (with_reducible refine (zero_any 0 0 false 0 co mk A9 n9 c9 A10 n10 c10 _).mono ?_); rintro e w2 ⟨rfl, hb⟩; rw [hz]))
    refine bodyPost_ret ?_ rfl ⟨rfl, ?_⟩
    · simp [results, Try.results15, go_sem, ansE, *]
    · refine below_step ?_ hb
      repeat (first | exact HB.out | exact Below.refl _ _ | apply below_alloc | refine below_set ?_ (by first | omega | (simp; omega) | simp))
  | false =>
    go_enter Try.func15, Try.ntmps15
    go_wp2_with (first | (go_at_call 35; (with_reducible refine (bare_any 3 ls ep o st un tr co mk A9 n9 c9 A10 n10 c10 _).mono ?_); rintro e w1 ⟨rfl, hb⟩; have HN := Aside0.mk (blk_below (heap_last _ _) hb); obtain ⟨q0, q1, q2, q3, q4, q5, q6, q7, q8, q9, q10, qf, ql⟩ := entry_all HN.out; have HB := Aside0.mk (below_step (below_alloc (Below.refl _ _) _) hb); clear hb HN) | (go_at_call 36; (with_reducible refine (zero_any 0 0 false 0 co mk A9 n9 c9 A10 n10 c10 _).mono ?_); rintro e w2 ⟨rfl, hb⟩; rw [hz]))
    refine bodyPost_ret ?_ rfl ⟨rfl, ?_⟩
    · simp [results, Try.results15, go_sem, ansE, *]
    · refine below_step ?_ hb
      repeat (first | exact HB.out | exact Below.refl _ _ | apply below_alloc | refine below_set ?_ (by first | omega | (simp; omega) | simp))
set_option maxHeartbeats 8000000 in
set_option maxRecDepth 100000 in
theorem check_4 (ls ep o st : Int) (un : Bool) (tr co mk : Int) (A9 : Option Addr) (n9 c9 : Nat) (A10 : Option Addr) (n10 c10 : Nat) (w : World) (hl : (ls == 0) = false) (he : (ep == 0) = false) : Calls Try.prog 15 #[.agg #[.int .i64 4, .int .u64 ls, .int .u32 ep, .int .u32 o, .int .i64 st, .bool un, .int .i64 tr, .int .i64 co, .int .u64 mk, .slice A9 n9 c9, .slice A10 n10 c10]] w fun e w' => e = .returned (.int .i64 (ansE ((!decide (co < 1)) && (!decide (3 < co)) && (decide (0 < o)) && (decide (0 ≤ st)) && (decide (st < 16)) && (decide (1 ≤ tr)) && (decide (tr ≤ 255)) && true && zeroB 0 0 false 0 0 mk n9 n10))) ∧ Below w.heap.size w w' := by
  by_cases g0 : co < 1
  · have x0 : decide (co < 1) = true := decide_eq_true g0
    clear g0
    go_enter Try.func15, Try.ntmps15
    go_wp2_with (first | (go_at_call 35; (with_reducible refine (bare_any 4 ls ep o st un tr co mk A9 n9 c9 A10 n10 c10 _).mono ?_); rintro e w1 ⟨rfl, hb⟩; have HN := Aside0.mk (blk_below (heap_last _ _) hb); obtain ⟨q0, q1, q2, q3, q4, q5, q6, q7, q8, q9, q10, qf, ql⟩ := entry_all HN.out; have HB := Aside0.mk (below_step (below_alloc (Below.refl _ _) _) hb); clear hb HN))
    refine bodyPost_ret ?_ rfl ⟨rfl, ?_⟩
    · simp [results, Try.results15, go_sem, ansE, *]
    · repeat (first | exact HB.out | exact Below.refl _ _ | apply below_alloc | refine below_set ?_ (by first | omega | (simp; omega) | simp))
  have x0 : decide (co < 1) = false := decide_eq_false g0
  clear g0
  by_cases g1 : 3 < co
  · have x1 : decide (3 < co) = true := decide_eq_true g1
    clear g1
    go_enter Try.func15, Try.ntmps15
    go_wp2_with (first | (go_at_call 35; (with_reducible refine (bare_any 4 ls ep o st un tr co mk A9 n9 c9 A10 n10 c10 _).mono ?_); rintro e w1 ⟨rfl, hb⟩; have HN := Aside0.mk (blk_below (heap_last _ _) hb); obtain ⟨q0, q1, q2, q3, q4, q5, q6, q7, q8, q9, q10, qf, ql⟩ := entry_all HN.out; have HB := Aside0.mk (below_step (below_alloc (Below.refl _ _) _) hb); clear hb HN))
    refine bodyPost_ret ?_ rfl ⟨rfl, ?_⟩
    · simp [results, Try.results15, go_sem, ansE, *]
    · repeat (first | exact HB.out | exact Below.refl _ _ | apply below_alloc | refine below_set ?_ (by first | omega | (simp; omega) | simp))
  have x1 : decide (3 < co) = false := decide_eq_false g1
  clear g1
  by_cases g2 : ¬ 0 < o
  · have x2 : decide (0 < o) = false := decide_eq_false g2
    clear g2
    go_enter Try.func15, Try.ntmps15
    go_wp2_with (first | (go_at_call 35; (with_reducible refine (bare_any 4 ls ep o st un tr co mk A9 n9 c9 A10 n10 c10 _).mono ?_); rintro e w1 ⟨rfl, hb⟩; have HN := Aside0.mk (blk_below (heap_last _ _) hb); obtain ⟨q0, q1, q2, q3, q4, q5, q6, q7, q8, q9, q10, qf, ql⟩ := entry_all HN.out; have HB := Aside0.mk (below_step (below_alloc (Below.refl _ _) _) hb); clear hb HN))
    refine bodyPost_ret ?_ rfl ⟨rfl, ?_⟩
    · simp [results, Try.results15, go_sem, ansE, *]
    · repeat (first | exact HB.out | exact Below.refl _ _ | apply below_alloc | refine below_set ?_ (by first | omega | (simp; omega) | simp))
  replace g2 := Decidable.not_not.mp g2
  have x2 : decide (0 < o) = true := decide_eq_true g2
  clear g2
  by_cases g3 : ¬ 0 ≤ st
  · have x3 : decide (0 ≤ st) = false := decide_eq_false g3
    clear g3
    go_enter Try.func15, Try.ntmps15
    go_wp2_with (first | (go_at_call 35; (with_reducible refine (bare_any 4 ls ep o st un tr co mk A9 n9 c9 A10 n10 c10 _).mono ?_); rintro e w1 ⟨rfl, hb⟩; have HN := Aside0.mk (blk_below (heap_last _ _) hb); obtain ⟨q0, q1, q2, q3, q4, q5, q6, q7, q8, q9, q10, qf, ql⟩ := entry_all HN.out; have HB := Aside0.mk (below_step (below_alloc (Below.refl _ _) _) hb); clear hb HN))
    refine bodyPost_ret ?_ rfl ⟨rfl, ?_⟩
    · simp [results, Try.results15, go_sem, ansE, *]
    · repeat (first | exact HB.out | exact Below.refl _ _ | apply below_alloc | refine below_set ?_ (by first | omega | (simp; omega) | simp))
  replace g3 := Decidable.not_not.mp g3
  have x3 : decide (0 ≤ st) = true := decide_eq_true g3
  clear g3
  by_cases g4 : ¬ st < 16
  · have x4 : decide (st < 16) = false := decide_eq_false g4
    clear g4
    go_enter Try.func15, Try.ntmps15
    go_wp2_with (first | (go_at_call 35; (with_reducible refine (bare_any 4 ls ep o st un tr co mk A9 n9 c9 A10 n10 c10 _).mono ?_); rintro e w1 ⟨rfl, hb⟩; have HN := Aside0.mk (blk_below (heap_last _ _) hb); obtain ⟨q0, q1, q2, q3, q4, q5, q6, q7, q8, q9, q10, qf, ql⟩ := entry_all HN.out; have HB := Aside0.mk (below_step (below_alloc (Below.refl _ _) _) hb); clear hb HN))
    refine bodyPost_ret ?_ rfl ⟨rfl, ?_⟩
    · simp [results, Try.results15, go_sem, ansE, *]
    · repeat (first | exact HB.out | exact Below.refl _ _ | apply below_alloc | refine below_set ?_ (by first | omega | (simp; omega) | simp))
  replace g4 := Decidable.not_not.mp g4
  have x4 : decide (st < 16) = true := decide_eq_true g4
  clear g4
  by_cases g5 : ¬ 1 ≤ tr
  · have x5 : decide (1 ≤ tr) = false := decide_eq_false g5
    clear g5
    go_enter Try.func15, Try.ntmps15
    go_wp2_with (first | (go_at_call 35; (with_reducible refine (bare_any 4 ls ep o st un tr co mk A9 n9 c9 A10 n10 c10 _).mono ?_); rintro e w1 ⟨rfl, hb⟩; have HN := Aside0.mk (blk_below (heap_last _ _) hb); obtain ⟨q0, q1, q2, q3, q4, q5, q6, q7, q8, q9, q10, qf, ql⟩ := entry_all HN.out; have HB := Aside0.mk (below_step (below_alloc (Below.refl _ _) _) hb); clear hb HN))
    refine bodyPost_ret ?_ rfl ⟨rfl, ?_⟩
    · simp [results, Try.results15, go_sem, ansE, *]
    · repeat (first | exact HB.out | exact Below.refl _ _ | apply below_alloc | refine below_set ?_ (by first | omega | (simp; omega) | simp))
  replace g5 := Decidable.not_not.mp g5
  have x5 : decide (1 ≤ tr) = true := decide_eq_true g5
  clear g5
  by_cases g6 : ¬ tr ≤ 255
  · have x6 : decide (tr ≤ 255) = false := decide_eq_false g6
    clear g6
    go_enter Try.func15, Try.ntmps15
    go_wp2_with (first | (go_at_call 35; (with_reducible refine (bare_any 4 ls ep o st un tr co mk A9 n9 c9 A10 n10 c10 _).mono ?_); rintro e w1 ⟨rfl, hb⟩; have HN := Aside0.mk (blk_below (heap_last _ _) hb); obtain ⟨q0, q1, q2, q3, q4, q5, q6, q7, q8, q9, q10, qf, ql⟩ := entry_all HN.out; have HB := Aside0.mk (below_step (below_alloc (Below.refl _ _) _) hb); clear hb HN))
    refine bodyPost_ret ?_ rfl ⟨rfl, ?_⟩
    · simp [results, Try.results15, go_sem, ansE, *]
    · repeat (first | exact HB.out | exact Below.refl _ _ | apply below_alloc | refine below_set ?_ (by first | omega | (simp; omega) | simp))
  replace g6 := Decidable.not_not.mp g6
  have x6 : decide (tr ≤ 255) = true := decide_eq_true g6
  clear g6
  cases hz : zeroB 0 0 false 0 0 mk n9 n10 with
  | true =>
    go_enter Try.func15, Try.ntmps15
    go_wp2_with (first | (go_at_call 35; (with_reducible refine (bare_any 4 ls ep o st un tr co mk A9 n9 c9 A10 n10 c10 _).mono ?_); rintro e w1 ⟨rfl, hb⟩; have HN := Aside0.mk (blk_below (heap_last _ _) hb); obtain ⟨q0, q1, q2, q3, q4, q5, q6, q7, q8, q9, q10, qf, ql⟩ := entry_all HN.out; have HB := Aside0.mk (below_step (below_alloc (Below.refl _ _) _) hb); clear hb HN) | (go_at_call 36; (with_reducible refine (zero_any 0 0 false 0 0 mk A9 n9 c9 A10 n10 c10 _).mono ?_); rintro e w2 ⟨rfl, hb⟩; rw [hz]))
    refine bodyPost_ret ?_ rfl ⟨rfl, ?_⟩
    · simp [results, Try.results15, go_sem, ansE, *]
    · refine below_step ?_ hb
      repeat (first | exact HB.out | exact Below.refl _ _ | apply below_alloc | refine below_set ?_ (by first | omega | (simp; omega) | simp))
  | false =>
    go_enter Try.func15, Try.ntmps15
    go_wp2_with (first | (go_at_call 35; (with_reducible refine (bare_any 4 ls ep o st un tr co mk A9 n9 c9 A10 n10 c10 _).mono ?_); rintro e w1 ⟨rfl, hb⟩; have HN := Aside0.mk (blk_below (heap_last _ _) hb); obtain ⟨q0, q1, q2, q3, q4, q5, q6, q7, q8, q9, q10, qf, ql⟩ := entry_all HN.out; have HB := Aside0.mk (below_step (below_alloc (Below.refl _ _) _) hb); clear hb HN) | (go_at_call 36; (with_reducible refine (zero_any 0 0 false 0 0 mk A9 n9 c9 A10 n10 c10 _).mono ?_); rintro e w2 ⟨rfl, hb⟩; rw [hz]))
    refine bodyPost_ret ?_ rfl ⟨rfl, ?_⟩
    · simp [results, Try.results15, go_sem, ansE, *]
    · refine below_step ?_ hb
      repeat (first | exact HB.out | exact Below.refl _ _ | apply below_alloc | refine below_set ?_ (by first | omega | (simp; omega) | simp))
set_option maxHeartbeats 8000000 in
set_option maxRecDepth 100000 in
theorem check_5 (ls ep o st : Int) (un : Bool) (tr co mk : Int) (A9 : Option Addr) (n9 c9 : Nat) (A10 : Option Addr) (n10 c10 : Nat) (w : World) (hl : (ls == 0) = false) (he : (ep == 0) = false) : Calls Try.prog 15 #[.agg #[.int .i64 5, .int .u64 ls, .int .u32 ep, .int .u32 o, .int .i64 st, .bool un, .int .i64 tr, .int .i64 co, .int .u64 mk, .slice A9 n9 c9, .slice A10 n10 c10]] w fun e w' => e = .returned (.int .i64 (ansE ((decide (0 < o)) && (decide (1 ≤ co)) && (decide (co ≤ 3)) && true && zeroB 0 st un tr 0 mk n9 n10))) ∧ Below w.heap.size w w' := by
  by_cases g0 : ¬ 0 < o
  · have x0 : decide (0 < o) = false := decide_eq_false g0
    clear g0
    go_enter Try.func15, Try.ntmps15
    go_wp2_with (first | (go_at_call 35; (with_reducible refine (bare_any 5 ls ep o st un tr co mk A9 n9 c9 A10 n10 c10 _).mono ?_); rintro e w1 ⟨rfl, hb⟩; have HN := Aside0.mk (blk_below (heap_last _ _) hb); obtain ⟨q0, q1, q2, q3, q4, q5, q6, q7, q8, q9, q10, qf, ql⟩ := entry_all HN.out; have HB := Aside0.mk (below_step (below_alloc (Below.refl _ _) _) hb); clear hb HN))
    refine bodyPost_ret ?_ rfl ⟨rfl, ?_⟩
    · simp [results, Try.results15, go_sem, ansE, *]
    · repeat (first | exact HB.out | exact Below.refl _ _ | apply below_alloc | refine below_set ?_ (by first | omega | (simp; omega) | simp))
  replace g0 := Decidable.not_not.mp g0
  have x0 : decide (0 < o) = true := decide_eq_true g0
  clear g0
  by_cases g1 : ¬ 1 ≤ co
  · have x1 : decide (1 ≤ co) = false := decide_eq_false g1
    clear g1
    go_enter Try.func15, Try.ntmps15
    go_wp2_with (first | (go_at_call 35; (with_reducible refine (bare_any 5 ls ep o st un tr co mk A9 n9 c9 A10 n10 c10 _).mono ?_); rintro e w1 ⟨rfl, hb⟩; have HN := Aside0.mk (blk_below (heap_last _ _) hb); obtain ⟨q0, q1, q2, q3, q4, q5, q6, q7, q8, q9, q10, qf, ql⟩ := entry_all HN.out; have HB := Aside0.mk (below_step (below_alloc (Below.refl _ _) _) hb); clear hb HN))
    refine bodyPost_ret ?_ rfl ⟨rfl, ?_⟩
    · simp [results, Try.results15, go_sem, ansE, *]
    · repeat (first | exact HB.out | exact Below.refl _ _ | apply below_alloc | refine below_set ?_ (by first | omega | (simp; omega) | simp))
  replace g1 := Decidable.not_not.mp g1
  have x1 : decide (1 ≤ co) = true := decide_eq_true g1
  clear g1
  by_cases g2 : ¬ co ≤ 3
  · have x2 : decide (co ≤ 3) = false := decide_eq_false g2
    clear g2
    go_enter Try.func15, Try.ntmps15
    go_wp2_with (first | (go_at_call 35; (with_reducible refine (bare_any 5 ls ep o st un tr co mk A9 n9 c9 A10 n10 c10 _).mono ?_); rintro e w1 ⟨rfl, hb⟩; have HN := Aside0.mk (blk_below (heap_last _ _) hb); obtain ⟨q0, q1, q2, q3, q4, q5, q6, q7, q8, q9, q10, qf, ql⟩ := entry_all HN.out; have HB := Aside0.mk (below_step (below_alloc (Below.refl _ _) _) hb); clear hb HN))
    refine bodyPost_ret ?_ rfl ⟨rfl, ?_⟩
    · simp [results, Try.results15, go_sem, ansE, *]
    · repeat (first | exact HB.out | exact Below.refl _ _ | apply below_alloc | refine below_set ?_ (by first | omega | (simp; omega) | simp))
  replace g2 := Decidable.not_not.mp g2
  have x2 : decide (co ≤ 3) = true := decide_eq_true g2
  clear g2
  cases hz : zeroB 0 st un tr 0 mk n9 n10 with
  | true =>
    go_enter Try.func15, Try.ntmps15
    go_wp2_with (first | (go_at_call 35; (with_reducible refine (bare_any 5 ls ep o st un tr co mk A9 n9 c9 A10 n10 c10 _).mono ?_); rintro e w1 ⟨rfl, hb⟩; have HN := Aside0.mk (blk_below (heap_last _ _) hb); obtain ⟨q0, q1, q2, q3, q4, q5, q6, q7, q8, q9, q10, qf, ql⟩ := entry_all HN.out; have HB := Aside0.mk (below_step (below_alloc (Below.refl _ _) _) hb); clear hb HN) | (go_at_call 36; (with_reducible refine (zero_any 0 st un tr 0 mk A9 n9 c9 A10 n10 c10 _).mono ?_); rintro e w2 ⟨rfl, hb⟩; rw [hz]))
    refine bodyPost_ret ?_ rfl ⟨rfl, ?_⟩
    · simp [results, Try.results15, go_sem, ansE, *]
    · refine below_step ?_ hb
      repeat (first | exact HB.out | exact Below.refl _ _ | apply below_alloc | refine below_set ?_ (by first | omega | (simp; omega) | simp))
  | false =>
    go_enter Try.func15, Try.ntmps15
    go_wp2_with (first | (go_at_call 35; (with_reducible refine (bare_any 5 ls ep o st un tr co mk A9 n9 c9 A10 n10 c10 _).mono ?_); rintro e w1 ⟨rfl, hb⟩; have HN := Aside0.mk (blk_below (heap_last _ _) hb); obtain ⟨q0, q1, q2, q3, q4, q5, q6, q7, q8, q9, q10, qf, ql⟩ := entry_all HN.out; have HB := Aside0.mk (below_step (below_alloc (Below.refl _ _) _) hb); clear hb HN) | (go_at_call 36; (with_reducible refine (zero_any 0 st un tr 0 mk A9 n9 c9 A10 n10 c10 _).mono ?_); rintro e w2 ⟨rfl, hb⟩; rw [hz]))
    refine bodyPost_ret ?_ rfl ⟨rfl, ?_⟩
    · simp [results, Try.results15, go_sem, ansE, *]
    · refine below_step ?_ hb
      repeat (first | exact HB.out | exact Below.refl _ _ | apply below_alloc | refine below_set ?_ (by first | omega | (simp; omega) | simp))
set_option maxHeartbeats 8000000 in
set_option maxRecDepth 100000 in
theorem check_6 (ls ep o st : Int) (un : Bool) (tr co mk : Int) (A9 : Option Addr) (n9 c9 : Nat) (A10 : Option Addr) (n10 c10 : Nat) (w : World) (hl : (ls == 0) = false) (he : (ep == 0) = false) : Calls Try.prog 15 #[.agg #[.int .i64 6, .int .u64 ls, .int .u32 ep, .int .u32 o, .int .i64 st, .bool un, .int .i64 tr, .int .i64 co, .int .u64 mk, .slice A9 n9 c9, .slice A10 n10 c10]] w fun e w' => e = .returned (.int .i64 (ansE (((co == 1 || co == 2)) && true && zeroB o st un tr 0 mk n9 n10))) ∧ Below w.heap.size w w' := by
  by_cases ga : co = 1
  · have x8 : (co == 1) = true := beq_iff_eq.mpr ga
    clear ga
    cases hz : zeroB o st un tr 0 mk n9 n10 with
    | true =>
      go_enter Try.func15, Try.ntmps15
      go_wp2_with (first | (go_at_call 35; (with_reducible refine (bare_any 6 ls ep o st un tr co mk A9 n9 c9 A10 n10 c10 _).mono ?_); rintro e w1 ⟨rfl, hb⟩; have HN := Aside0.mk (blk_below (heap_last _ _) hb); obtain ⟨q0, q1, q2, q3, q4, q5, q6, q7, q8, q9, q10, qf, ql⟩ := entry_all HN.out; have HB := Aside0.mk (below_step (below_alloc (Below.refl _ _) _) hb); clear hb HN) | (go_at_call 36; (with_reducible refine (zero_any o st un tr 0 mk A9 n9 c9 A10 n10 c10 _).mono ?_); rintro e w2 ⟨rfl, hb⟩; rw [hz]))
      refine bodyPost_ret ?_ rfl ⟨rfl, ?_⟩
      · simp [results, Try.results15, go_sem, ansE, *]
      · refine below_step ?_ hb
        repeat (first | exact HB.out | exact Below.refl _ _ | apply below_alloc | refine below_set ?_ (by first | omega | (simp; omega) | simp))
    | false =>
      go_enter Try.func15, Try.ntmps15
      go_wp2_with (first | (go_at_call 35; (with_reducible refine (bare_any 6 ls ep o st un tr co mk A9 n9 c9 A10 n10 c10 _).mono ?_); rintro e w1 ⟨rfl, hb⟩; have HN := Aside0.mk (blk_below (heap_last _ _) hb); obtain ⟨q0, q1, q2, q3, q4, q5, q6, q7, q8, q9, q10, qf, ql⟩ := entry_all HN.out; have HB := Aside0.mk (below_step (below_alloc (Below.refl _ _) _) hb); clear hb HN) | (go_at_call 36; (with_reducible refine (zero_any o st un tr 0 mk A9 n9 c9 A10 n10 c10 _).mono ?_); rintro e w2 ⟨rfl, hb⟩; rw [hz]))
      refine bodyPost_ret ?_ rfl ⟨rfl, ?_⟩
      · simp [results, Try.results15, go_sem, ansE, *]
      · refine below_step ?_ hb
        repeat (first | exact HB.out | exact Below.refl _ _ | apply below_alloc | refine below_set ?_ (by first | omega | (simp; omega) | simp))
  have x8 : (co == 1) = false := beq_eq_false_iff_ne.mpr ga
  clear ga
  by_cases gb : co = 2
  · have x9 : (co == 2) = true := beq_iff_eq.mpr gb
    clear gb
    cases hz : zeroB o st un tr 0 mk n9 n10 with
    | true =>
      go_enter Try.func15, Try.ntmps15
      go_wp2_with (first | (go_at_call 35; (with_reducible refine (bare_any 6 ls ep o st un tr co mk A9 n9 c9 A10 n10 c10 _).mono ?_); rintro e w1 ⟨rfl, hb⟩; have HN := Aside0.mk (blk_below (heap_last _ _) hb); obtain ⟨q0, q1, q2, q3, q4, q5, q6, q7, q8, q9, q10, qf, ql⟩ := entry_all HN.out; have HB := Aside0.mk (below_step (below_alloc (Below.refl _ _) _) hb); clear hb HN) | (go_at_call 36; (with_reducible refine (zero_any o st un tr 0 mk A9 n9 c9 A10 n10 c10 _).mono ?_); rintro e w2 ⟨rfl, hb⟩; rw [hz]))
      refine bodyPost_ret ?_ rfl ⟨rfl, ?_⟩
      · simp [results, Try.results15, go_sem, ansE, *]
      · refine below_step ?_ hb
        repeat (first | exact HB.out | exact Below.refl _ _ | apply below_alloc | refine below_set ?_ (by first | omega | (simp; omega) | simp))
    | false =>
      go_enter Try.func15, Try.ntmps15
      go_wp2_with (first | (go_at_call 35; (with_reducible refine (bare_any 6 ls ep o st un tr co mk A9 n9 c9 A10 n10 c10 _).mono ?_); rintro e w1 ⟨rfl, hb⟩; have HN := Aside0.mk (blk_below (heap_last _ _) hb); obtain ⟨q0, q1, q2, q3, q4, q5, q6, q7, q8, q9, q10, qf, ql⟩ := entry_all HN.out; have HB := Aside0.mk (below_step (below_alloc (Below.refl _ _) _) hb); clear hb HN) | (go_at_call 36; (with_reducible refine (zero_any o st un tr 0 mk A9 n9 c9 A10 n10 c10 _).mono ?_); rintro e w2 ⟨rfl, hb⟩; rw [hz]))
      refine bodyPost_ret ?_ rfl ⟨rfl, ?_⟩
      · simp [results, Try.results15, go_sem, ansE, *]
      · refine below_step ?_ hb
        repeat (first | exact HB.out | exact Below.refl _ _ | apply below_alloc | refine below_set ?_ (by first | omega | (simp; omega) | simp))
  have x9 : (co == 2) = false := beq_eq_false_iff_ne.mpr gb
  clear gb
  go_enter Try.func15, Try.ntmps15
  go_wp2_with (first | (go_at_call 35; (with_reducible refine (bare_any 6 ls ep o st un tr co mk A9 n9 c9 A10 n10 c10 _).mono ?_); rintro e w1 ⟨rfl, hb⟩; have HN := Aside0.mk (blk_below (heap_last _ _) hb); obtain ⟨q0, q1, q2, q3, q4, q5, q6, q7, q8, q9, q10, qf, ql⟩ := entry_all HN.out; have HB := Aside0.mk (below_step (below_alloc (Below.refl _ _) _) hb); clear hb HN))
  refine bodyPost_ret ?_ rfl ⟨rfl, ?_⟩
  · simp [results, Try.results15, go_sem, ansE, *]
  · repeat (first | exact HB.out | exact Below.refl _ _ | apply below_alloc | refine below_set ?_ (by first | omega | (simp; omega) | simp))
set_option maxHeartbeats 8000000 in
set_option maxRecDepth 100000 in
theorem check_7 (ls ep o st : Int) (un : Bool) (tr co mk : Int) (A9 : Option Addr) (n9 c9 : Nat) (A10 : Option Addr) (n10 c10 : Nat) (w : World) (hl : (ls == 0) = false) (he : (ep == 0) = false) : Calls Try.prog 15 #[.agg #[.int .i64 7, .int .u64 ls, .int .u32 ep, .int .u32 o, .int .i64 st, .bool un, .int .i64 tr, .int .i64 co, .int .u64 mk, .slice A9 n9 c9, .slice A10 n10 c10]] w fun e w' => e = .returned (.int .i64 (ansE ((decide (mk < ls)) && true && zeroB o st un tr co 0 n9 n10))) ∧ Below w.heap.size w w' := by
  by_cases g0 : ¬ mk < ls
  · have x0 : decide (mk < ls) = false := decide_eq_false g0
    clear g0
    go_enter Try.func15, Try.ntmps15
    go_wp2_with (first | (go_at_call 35; (with_reducible refine (bare_any 7 ls ep o st un tr co mk A9 n9 c9 A10 n10 c10 _).mono ?_); rintro e w1 ⟨rfl, hb⟩; have HN := Aside0.mk (blk_below (heap_last _ _) hb); obtain ⟨q0, q1, q2, q3, q4, q5, q6, q7, q8, q9, q10, qf, ql⟩ := entry_all HN.out; have HB := Aside0.mk (below_step (below_alloc (Below.refl _ _) _) hb); clear hb HN))
    refine bodyPost_ret ?_ rfl ⟨rfl, ?_⟩
    · simp [results, Try.results15, go_sem, ansE, *]
    · repeat (first | exact HB.out | exact Below.refl _ _ | apply below_alloc | refine below_set ?_ (by first | omega | (simp; omega) | simp))
  replace g0 := Decidable.not_not.mp g0
  have x0 : decide (mk < ls) = true := decide_eq_true g0
  clear g0
  cases hz : zeroB o st un tr co 0 n9 n10 with
  | true =>
    go_enter Try.func15, Try.ntmps15
    go_wp2_with (first | (go_at_call 35; (with_reducible refine (bare_any 7 ls ep o st un tr co mk A9 n9 c9 A10 n10 c10 _).mono ?_); rintro e w1 ⟨rfl, hb⟩; have HN := Aside0.mk (blk_below (heap_last _ _) hb); obtain ⟨q0, q1, q2, q3, q4, q5, q6, q7, q8, q9, q10, qf, ql⟩ := entry_all HN.out; have HB := Aside0.mk (below_step (below_alloc (Below.refl _ _) _) hb); clear hb HN) | (go_at_call 36; (with_reducible refine (zero_any o st un tr co 0 A9 n9 c9 A10 n10 c10 _).mono ?_); rintro e w2 ⟨rfl, hb⟩; rw [hz]))
    refine bodyPost_ret ?_ rfl ⟨rfl, ?_⟩
    · simp [results, Try.results15, go_sem, ansE, *]
    · refine below_step ?_ hb
      repeat (first | exact HB.out | exact Below.refl _ _ | apply below_alloc | refine below_set ?_ (by first | omega | (simp; omega) | simp))
  | false =>
    go_enter Try.func15, Try.ntmps15
    go_wp2_with (first | (go_at_call 35; (with_reducible refine (bare_any 7 ls ep o st un tr co mk A9 n9 c9 A10 n10 c10 _).mono ?_); rintro e w1 ⟨rfl, hb⟩; have HN := Aside0.mk (blk_below (heap_last _ _) hb); obtain ⟨q0, q1, q2, q3, q4, q5, q6, q7, q8, q9, q10, qf, ql⟩ := entry_all HN.out; have HB := Aside0.mk (below_step (below_alloc (Below.refl _ _) _) hb); clear hb HN) | (go_at_call 36; (with_reducible refine (zero_any o st un tr co 0 A9 n9 c9 A10 n10 c10 _).mono ?_); rintro e w2 ⟨rfl, hb⟩; rw [hz]))
    refine bodyPost_ret ?_ rfl ⟨rfl, ?_⟩
    · simp [results, Try.results15, go_sem, ansE, *]
    · refine below_step ?_ hb
      repeat (first | exact HB.out | exact Below.refl _ _ | apply below_alloc | refine below_set ?_ (by first | omega | (simp; omega) | simp))
set_option maxHeartbeats 8000000 in
set_option maxRecDepth 100000 in
theorem check_8 (k ls ep o st : Int) (un : Bool) (tr co mk : Int) (A9 : Option Addr) (n9 c9 : Nat) (A10 : Option Addr) (n10 c10 : Nat) (w : World) (hl : (ls == 0) = false) (he : (ep == 0) = false) (h1 : (k == 1) = false) (h2 : (k == 2) = false) (h3 : (k == 3) = false) (h4 : (k == 4) = false) (h5 : (k == 5) = false) (h6 : (k == 6) = false) (h7 : (k == 7) = false) : Calls Try.prog 15 #[.agg #[.int .i64 k, .int .u64 ls, .int .u32 ep, .int .u32 o, .int .i64 st, .bool un, .int .i64 tr, .int .i64 co, .int .u64 mk, .slice A9 n9 c9, .slice A10 n10 c10]] w fun e w' => e = .returned (.int .i64 40) ∧ Below w.heap.size w w' := by
  go_enter Try.func15, Try.ntmps15
  go_wp2_with (first | (go_at_call 35; (with_reducible refine (bare_any k ls ep o st un tr co mk A9 n9 c9 A10 n10 c10 _).mono ?_); rintro e w1 ⟨rfl, hb⟩; have HN := Aside0.mk (blk_below (heap_last _ _) hb); obtain ⟨q0, q1, q2, q3, q4, q5, q6, q7, q8, q9, q10, qf, ql⟩ := entry_all HN.out; have HB := Aside0.mk (below_step (below_alloc (Below.refl _ _) _) hb); clear hb HN))
  refine bodyPost_ret ?_ rfl ⟨rfl, ?_⟩
  · simp [results, Try.results15, go_sem, ansE, *]
  · repeat (first | exact HB.out | exact Below.refl _ _ | apply below_alloc | refine below_set ?_ (by first | omega | (simp; omega) | simp))
/-- whether an entry may be -/
def entryOk (a0_0 a0_1 a0_2 a0_3 a0_4 : Int) (a0_5 : Bool) (a0_6 a0_7 a0_8 : Int) (n9 n10 : Nat) : Bool := bif a0_1 == 0 then false else bif a0_2 == 0 then false else (bif a0_0 == 1 then true && zeroB a0_3 a0_4 a0_5 a0_6 a0_7 a0_8 n9 n10 else (bif a0_0 == 2 then (decide (0 < a0_3)) && (decide (0 < (n9 : Int))) && (decide ((n9 : Int) ≤ 32)) && (decide ((n10 : Int) ≤ 200)) && true && zeroB 0 a0_4 a0_5 a0_6 a0_7 a0_8 0 0 else (bif a0_0 == 3 then (decide (0 < a0_3)) && (decide (0 ≤ a0_4)) && (decide (a0_4 < 16)) && (decide (1 ≤ a0_6)) && (decide (a0_6 ≤ 255)) && true && zeroB 0 0 false 0 a0_7 a0_8 n9 n10 else (bif a0_0 == 4 then (!decide (a0_7 < 1)) && (!decide (3 < a0_7)) && (decide (0 < a0_3)) && (decide (0 ≤ a0_4)) && (decide (a0_4 < 16)) && (decide (1 ≤ a0_6)) && (decide (a0_6 ≤ 255)) && true && zeroB 0 0 false 0 0 a0_8 n9 n10 else (bif a0_0 == 5 then (decide (0 < a0_3)) && (decide (1 ≤ a0_7)) && (decide (a0_7 ≤ 3)) && true && zeroB 0 a0_4 a0_5 a0_6 0 a0_8 n9 n10 else (bif a0_0 == 6 then ((a0_7 == 1 || a0_7 == 2)) && true && zeroB a0_3 a0_4 a0_5 a0_6 0 a0_8 n9 n10 else (bif a0_0 == 7 then (decide (a0_8 < a0_1)) && true && zeroB a0_3 a0_4 a0_5 a0_6 a0_7 0 n9 n10 else (false))))))))
def entry_Check.f (a0_0 : Int) (a0_1 : Int) (a0_2 : Int) (a0_3 : Int) (a0_4 : Int) (a0_5 : Bool) (a0_6 : Int) (a0_7 : Int) (a0_8 : Int) (l0_9 : List Int) (l0_10 : List Int) : Option (Int) := some (ansE (entryOk a0_0 a0_1 a0_2 a0_3 a0_4 a0_5 a0_6 a0_7 a0_8 l0_9.length l0_10.length))
set_option maxHeartbeats 8000000 in
set_option maxRecDepth 100000 in
theorem check_any (a0_0 : Int) (a0_1 : Int) (a0_2 : Int) (a0_3 : Int) (a0_4 : Int) (a0_5 : Bool) (a0_6 : Int) (a0_7 : Int) (a0_8 : Int) (A9 : Option Addr) (n9 c9 : Nat) (A10 : Option Addr) (n10 c10 : Nat) (w : World) : Calls Try.prog 15 #[.agg #[.int .i64 a0_0, .int .u64 a0_1, .int .u32 a0_2, .int .u32 a0_3, .int .i64 a0_4, .bool a0_5, .int .i64 a0_6, .int .i64 a0_7, .int .u64 a0_8, .slice A9 n9 c9, .slice A10 n10 c10]] w fun e w' => e = .returned (.int .i64 (ansE (entryOk a0_0 a0_1 a0_2 a0_3 a0_4 a0_5 a0_6 a0_7 a0_8 n9 n10))) ∧ Below w.heap.size w w' := by
  by_cases hl : a0_1 = 0
  · replace hl : (a0_1 == 0) = true := beq_iff_eq.mpr hl
    · have e0 : ansE (entryOk a0_0 a0_1 a0_2 a0_3 a0_4 a0_5 a0_6 a0_7 a0_8 n9 n10) = 40 := by simp [entryOk, ansE, *]
      rw [e0]
      clear e0
      go_enter Try.func15, Try.ntmps15
      go_wp2
      refine bodyPost_ret ?_ rfl ⟨rfl, ?_⟩
      · simp [results, Try.results15, go_sem]
      · repeat (first | exact Below.refl _ _ | apply below_alloc)
  replace hl : (a0_1 == 0) = false := beq_eq_false_iff_ne.mpr hl
  by_cases he : a0_2 = 0
  · replace he : (a0_2 == 0) = true := beq_iff_eq.mpr he
    · have e0 : ansE (entryOk a0_0 a0_1 a0_2 a0_3 a0_4 a0_5 a0_6 a0_7 a0_8 n9 n10) = 40 := by simp [entryOk, ansE, *]
      rw [e0]
      clear e0
      go_enter Try.func15, Try.ntmps15
      go_wp2
      refine bodyPost_ret ?_ rfl ⟨rfl, ?_⟩
      · simp [results, Try.results15, go_sem]
      · repeat (first | exact Below.refl _ _ | apply below_alloc)
  replace he : (a0_2 == 0) = false := beq_eq_false_iff_ne.mpr he
  by_cases h1 : a0_0 = 1
  · subst h1
    have := check_1 a0_1 a0_2 a0_3 a0_4 a0_5 a0_6 a0_7 a0_8 A9 n9 c9 A10 n10 c10 w hl he
    simpa [entryOk, hl, he] using this
  replace h1 : (a0_0 == 1) = false := beq_eq_false_iff_ne.mpr h1
  by_cases h2 : a0_0 = 2
  · subst h2
    have := check_2 a0_1 a0_2 a0_3 a0_4 a0_5 a0_6 a0_7 a0_8 A9 n9 c9 A10 n10 c10 w hl he
    simpa [entryOk, hl, he] using this
  replace h2 : (a0_0 == 2) = false := beq_eq_false_iff_ne.mpr h2
  by_cases h3 : a0_0 = 3
  · subst h3
    have := check_3 a0_1 a0_2 a0_3 a0_4 a0_5 a0_6 a0_7 a0_8 A9 n9 c9 A10 n10 c10 w hl he
    simpa [entryOk, hl, he] using this
  replace h3 : (a0_0 == 3) = false := beq_eq_false_iff_ne.mpr h3
  by_cases h4 : a0_0 = 4
  · subst h4
    have := check_4 a0_1 a0_2 a0_3 a0_4 a0_5 a0_6 a0_7 a0_8 A9 n9 c9 A10 n10 c10 w hl he
    simpa [entryOk, hl, he] using this
  replace h4 : (a0_0 == 4) = false := beq_eq_false_iff_ne.mpr h4
  by_cases h5 : a0_0 = 5
  · subst h5
    have := check_5 a0_1 a0_2 a0_3 a0_4 a0_5 a0_6 a0_7 a0_8 A9 n9 c9 A10 n10 c10 w hl he
    simpa [entryOk, hl, he] using this
  replace h5 : (a0_0 == 5) = false := beq_eq_false_iff_ne.mpr h5
  by_cases h6 : a0_0 = 6
  · subst h6
    have := check_6 a0_1 a0_2 a0_3 a0_4 a0_5 a0_6 a0_7 a0_8 A9 n9 c9 A10 n10 c10 w hl he
    simpa [entryOk, hl, he] using this
  replace h6 : (a0_0 == 6) = false := beq_eq_false_iff_ne.mpr h6
  by_cases h7 : a0_0 = 7
  · subst h7
    have := check_7 a0_1 a0_2 a0_3 a0_4 a0_5 a0_6 a0_7 a0_8 A9 n9 c9 A10 n10 c10 w hl he
    simpa [entryOk, hl, he] using this
  replace h7 : (a0_0 == 7) = false := beq_eq_false_iff_ne.mpr h7
  have := check_8 a0_0 a0_1 a0_2 a0_3 a0_4 a0_5 a0_6 a0_7 a0_8 A9 n9 c9 A10 n10 c10 w hl he h1 h2 h3 h4 h5 h6 h7
  simpa [entryOk, hl, he, h1, h2, h3, h4, h5, h6, h7, ansE] using this
theorem entry_Check.calls (a0_0 : Int) (a0_1 : Int) (a0_2 : Int) (a0_3 : Int) (a0_4 : Int) (a0_5 : Bool) (a0_6 : Int) (a0_7 : Int) (a0_8 : Int) (A0_9 : Option Addr) (c0_9 : Nat) (l0_9 : List Int) (A0_10 : Option Addr) (c0_10 : Nat) (l0_10 : List Int) (r : Int) (w : World) (_hr0_9 : Kd.C (Kd.int .u8) w A0_9 l0_9.length l0_9) (_hc0_9 : l0_9.length ≤ c0_9) (_hr0_10 : Kd.C (Kd.int .u8) w A0_10 l0_10.length l0_10) (_hc0_10 : l0_10.length ≤ c0_10) (h : entry_Check.f a0_0 a0_1 a0_2 a0_3 a0_4 a0_5 a0_6 a0_7 a0_8 l0_9 l0_10 = some r) :
    Calls Try.prog 15 #[.agg #[.int .i64 a0_0, .int .u64 a0_1, .int .u32 a0_2, .int .u32 a0_3, .int .i64 a0_4, .bool a0_5, .int .i64 a0_6, .int .i64 a0_7, .int .u64 a0_8, .slice A0_9 l0_9.length c0_9, .slice A0_10 l0_10.length c0_10]] w fun e w' => e = .returned (.int .i64 r) ∧ Below w.heap.size w w' := by
  obtain rfl := Option.some.inj h
  exact check_any a0_0 a0_1 a0_2 a0_3 a0_4 a0_5 a0_6 a0_7 a0_8 A0_9 l0_9.length c0_9 A0_10 l0_10.length c0_10 w

/-- A state of type 83 at block g of W; what its slices lead to came in by w0. -/
def IsS83 (w0 W : World) (g : Nat) (f0 : List Int) (f1 : Bool) : Prop := ∃ A0 c0, W.heap[g]? = some (.cells #[.slice A0 f0.length c0, .bool f1] 83 (0, 0)) ∧ w0.heap.size ≤ g ∧ Kd.C (Kd.int .u8) w0 A0 f0.length f0

/-! ### field_NewWriter: function 28 -/
def field_NewWriter.f  : Option (List Int × Bool) := some (([] : List Int), false)

-- NOT PRINTED: function 49 (field_Writer_put)

-- NOT PRINTED: function 29 (field_Writer_U8)

-- NOT PRINTED: function 30 (field_Writer_U64)

-- NOT PRINTED: function 31 (field_Writer_U32)

-- NOT PRINTED: function 32 (field_Writer_Text)

/-! ### entry_bit: function 33 -/
def entry_bit.f (a0 : Bool) : Option (Int) := if a0 = true then (some 1) else (some 0)

-- NOT PRINTED: function 34 (field_Writer_Done)

end Go.Proofs.Ytahldljkhjebgaa.PA
