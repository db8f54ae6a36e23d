-- printed by a program of this work (wip/tools/pr.py over the kit's print): the machine's side of NoteBack, NoteSizes, NoteApart, NoteNames
import Derived.Test.YtohnlhklijpafaaQNbPAx0
namespace Go.Proofs.Ytohnlhklijpafaa.PA
open Go.RowKit Go.Proofs.YtohnlhklijpafaaW.PrintWords Go.Proofs.YtohnlhklijpafaaW.PrintLast Go.Proofs.YtohnlhklijpafaaW.PrintMore
attribute [local go_sem] max2_int min2_int max_two min_two max_three min_three max_four min_four   -- for this text's walks alone
set_option linter.unusedVariables false
set_option linter.unusedSimpArgs false

/-! ### drayagelaw05_long: function 10 -/
def drayagelaw05_long.f (a0_0 : Int) (a0_1 : Int) (a0_2 : Int) (a0_3 : Int) (a0_4 : Int) (a0_5 : Int) (a0_6 : Int) (a0_7 : Bool) (a0_8 : Int) (l0_9 : List Int) (l0_10 : List Int) : Option (Bool) := if (l0_9.length : Int) > 1000 then (some true) else (some (decide ((l0_10.length : Int) > 1000)))
set_option maxHeartbeats 8000000 in
set_option maxRecDepth 100000 in
theorem drayagelaw05_long.calls (a0_0 : Int) (a0_1 : Int) (a0_2 : Int) (a0_3 : Int) (a0_4 : Int) (a0_5 : Int) (a0_6 : Int) (a0_7 : Bool) (a0_8 : Int) (A0_9 : Option Addr) (c0_9 : Nat) (l0_9 : List Int) (A0_10 : Option Addr) (c0_10 : Nat) (l0_10 : List Int) (r : Bool) (w : World) (hr0_9 : Kd.C (Kd.int .u8) w A0_9 l0_9.length l0_9) (hc0_9 : l0_9.length ≤ c0_9) (hr0_10 : Kd.C (Kd.int .u8) w A0_10 l0_10.length l0_10) (hc0_10 : l0_10.length ≤ c0_10) (h : drayagelaw05_long.f a0_0 a0_1 a0_2 a0_3 a0_4 a0_5 a0_6 a0_7 a0_8 l0_9 l0_10 = some r) :
    Calls Try.prog 10 #[.agg #[.int .i64 a0_0, .int .u32 a0_1, .int .u32 a0_2, .int .u64 a0_3, .int .u64 a0_4, .int .u32 a0_5, .int .i64 a0_6, .bool a0_7, .int .i64 a0_8, .slice A0_9 l0_9.length c0_9, .slice A0_10 l0_10.length c0_10]] w fun e w' => e = .returned (.bool r) ∧ Below w.heap.size w w' := by
  have hu26 := Try.underlying26
  have HR0_9 := Aside0.mk hr0_9
  have HC0_9 := Aside0.mk hc0_9
  clear hr0_9 hc0_9
  have HR0_10 := Aside0.mk hr0_10
  have HC0_10 := Aside0.mk hc0_10
  clear hr0_10 hc0_10
  have HB := Aside0.mk (Below.refl w.heap.size w)
  have H : (if (l0_9.length : Int) > 1000 then (some true) else (some (decide ((l0_10.length : Int) > 1000)))) = some r := h
  clear h
  by_cases c2 : (l0_9.length : Int) > 1000
  · rw [if_pos c2] at H
    have c2b0 : decide (1000 < (l0_9.length : Int)) = true := decide_eq_true c2
    have c2b1 : decide (1000 < l0_9.length) = true := decide_eq_true (by omega)
    clear c2
    obtain rfl := Option.some.inj H
    go_enter Try.func10, Try.ntmps10
    go_wp2_with (first | ((with_reducible refine gate_dst (N := 1) rfl ?_); (try (refine gate_guard (by rfl) ?_; dsimp only)); refine box_event ?hg (N := 1) ?hd (cs := #[.int .i64 a0_0, .int .u32 a0_1, .int .u32 a0_2, .int .u64 a0_3, .int .u64 a0_4, .int .u32 a0_5, .int .i64 a0_6, .bool a0_7, .int .i64 a0_8, .slice A0_9 l0_9.length c0_9, .slice A0_10 l0_10.length c0_10]) (t := 26) ?hr ?_; (case hd => rfl); (case hg => rfl); (case hr => first | (go_simp; done) | (go_simp; rfl)); intro gb101 hg w3 hbox hb; have n0_ := Aside0.mk (below_step (by repeat (first | (with_reducible first | exact HB.out | apply below_alloc | apply pw_below_drewN | apply below_drew1) | exact HB.out)) hb); have n1_ := Aside0.mk (hbox); have n2_ := Aside0.mk ((by rw [hg]; exact (below_size (by repeat (first | (with_reducible first | exact HB.out | apply below_alloc | apply pw_below_drewN | apply below_drew1) | exact HB.out))) : w.heap.size ≤ gb101)); have n3_ := Aside0.mk ((by rw [hg]; exact (below_size (by repeat (first | (with_reducible first | exact HB.out | apply below_alloc | apply pw_below_drewN | apply below_drew1) | exact HB.out))) : w.heap.size ≤ gb101)); clear HB; have HB := n0_; have BK101 := n1_; have GW101 := n2_; have GE101 := n3_; clear n0_ n1_ n2_ n3_; clear hb hbox hg; obtain ⟨hcz4_0, hcz4_1, hcz4_2, hcz4_3, hcz4_4, hcz4_5, hcz4_6, hcz4_7, hcz4_8, hcz4_9, hcz4_10, hfz4_0, hfz4_1, hfz4_2, hfz4_3, hfz4_4, hfz4_5, hfz4_6, hfz4_7, hfz4_8, hfz4_9, hfz4_10⟩ := blk_all11 BK101.out))
    go_ret
    exact ⟨by first | rfl | (simp [errW_none, errW_some] <;> rfl) | (simp [*, errW_none, errW_some] <;> rfl), by repeat (first | (with_reducible first | exact HB.out | apply below_alloc | apply pw_below_drewN | apply below_drew1 | refine below_set ?_ GE101.out) | exact HB.out)⟩
  · rw [if_neg c2] at H
    have c2b0 : decide (1000 < (l0_9.length : Int)) = false := decide_eq_false c2
    have c2b1 : decide (1000 < l0_9.length) = false := decide_eq_false (by omega)
    clear c2
    obtain rfl := Option.some.inj H
    go_enter Try.func10, Try.ntmps10
    go_wp2_with (first | ((with_reducible refine gate_dst (N := 1) rfl ?_); (try (refine gate_guard (by rfl) ?_; dsimp only)); refine box_event ?hg (N := 1) ?hd (cs := #[.int .i64 a0_0, .int .u32 a0_1, .int .u32 a0_2, .int .u64 a0_3, .int .u64 a0_4, .int .u32 a0_5, .int .i64 a0_6, .bool a0_7, .int .i64 a0_8, .slice A0_9 l0_9.length c0_9, .slice A0_10 l0_10.length c0_10]) (t := 26) ?hr ?_; (case hd => rfl); (case hg => rfl); (case hr => first | (go_simp; done) | (go_simp; rfl)); intro gb101 hg w5 hbox hb; have n0_ := Aside0.mk (below_step (by repeat (first | (with_reducible first | exact HB.out | apply below_alloc | apply pw_below_drewN | apply below_drew1) | exact HB.out)) hb); have n1_ := Aside0.mk (hbox); have n2_ := Aside0.mk ((by rw [hg]; exact (below_size (by repeat (first | (with_reducible first | exact HB.out | apply below_alloc | apply pw_below_drewN | apply below_drew1) | exact HB.out))) : w.heap.size ≤ gb101)); have n3_ := Aside0.mk ((by rw [hg]; exact (below_size (by repeat (first | (with_reducible first | exact HB.out | apply below_alloc | apply pw_below_drewN | apply below_drew1) | exact HB.out))) : w.heap.size ≤ gb101)); clear HB; have HB := n0_; have BK101 := n1_; have GW101 := n2_; have GE101 := n3_; clear n0_ n1_ n2_ n3_; clear hb hbox hg; obtain ⟨hcz6_0, hcz6_1, hcz6_2, hcz6_3, hcz6_4, hcz6_5, hcz6_6, hcz6_7, hcz6_8, hcz6_9, hcz6_10, hfz6_0, hfz6_1, hfz6_2, hfz6_3, hfz6_4, hfz6_5, hfz6_6, hfz6_7, hfz6_8, hfz6_9, hfz6_10⟩ := blk_all11 BK101.out))
    go_ret
    exact ⟨by first | rfl | (simp [errW_none, errW_some] <;> rfl) | (simp [*, errW_none, errW_some] <;> rfl), by repeat (first | (with_reducible first | exact HB.out | apply below_alloc | apply pw_below_drewN | apply below_drew1 | refine below_set ?_ GE101.out) | exact HB.out)⟩

/-! ### note_Names: function 18 -/
mutual
def note_Names.j0 : Nat → Int → Bool → Option (ByteArray)
  | 0, _, _ => none
  | k + 1, x3, x6 => if x6 = true then (some (⟨#[69, 76]⟩ : ByteArray)) else (if x3 = 4 then (note_Names.j1 k x3 (x3 == 4)) else (note_Names.j1 k x3 (x3 == 6)))
def note_Names.j1 : Nat → Int → Bool → Option (ByteArray)
  | 0, _, _ => none
  | k + 1, x3, x9 => if x9 = true then (some (⟨#[69, 67]⟩ : ByteArray)) else (if x3 = 5 then (some (⟨#[69, 84, 67]⟩ : ByteArray)) else (if x3 = 7 then (some (⟨#[69, 79, 83, 85, 68]⟩ : ByteArray)) else (if x3 = 8 then (some (⟨#[69, 79, 83, 85, 67, 68]⟩ : ByteArray)) else (if x3 = 9 then (some (⟨#[69, 79, 83, 85]⟩ : ByteArray)) else (if x3 = 10 then (some (⟨#[75, 68]⟩ : ByteArray)) else (if x3 = 11 then (note_Names.j2 k x3 (x3 == 11)) else (note_Names.j2 k x3 (x3 == 12))))))))
def note_Names.j2 : Nat → Int → Bool → Option (ByteArray)
  | 0, _, _ => none
  | k + 1, x3, x22 => if x22 = true then (some (⟨#[75]⟩ : ByteArray)) else (if x3 = 13 then (some (⟨#[79, 67, 75, 68]⟩ : ByteArray)) else (some (⟨#[]⟩ : ByteArray)))
end
def note_Names.f (k : Nat) (a0 : Int) : Option (ByteArray) := if a0 = 1 then (some (⟨#[69, 80, 76, 68]⟩ : ByteArray)) else (if a0 = 2 then (note_Names.j0 k a0 (a0 == 2)) else (note_Names.j0 k a0 (a0 == 3)))
theorem note_Names.mono_l : ∀ k, (∀ y0 y1, LeO (note_Names.j0 k y0 y1) (note_Names.j0 (k + 1) y0 y1)) ∧ (∀ y0 y1, LeO (note_Names.j1 k y0 y1) (note_Names.j1 (k + 1) y0 y1)) ∧ (∀ y0 y1, LeO (note_Names.j2 k y0 y1) (note_Names.j2 (k + 1) y0 y1))
  | 0 => ⟨fun _ _ r h => by simp [note_Names.j0] at h, fun _ _ r h => by simp [note_Names.j1] at h, fun _ _ r h => by simp [note_Names.j2] at h⟩
  | k + 1 => by
    obtain ⟨ih0, ih1, ih2⟩ := note_Names.mono_l k
    refine ⟨?_, ?_, ?_⟩
    · intro y0 y1
      unfold note_Names.j0
      repeat' first
      | (with_reducible exact ih0 _ _)
      | (with_reducible exact ih1 _ _)
      | (with_reducible exact ih2 _ _)
      | (with_reducible exact LeO.refl _)
      | (with_reducible exact LeO.none _)
      | (with_reducible refine LeO.ite ?_ ?_)
      | (with_reducible refine LeO.bind ?_ (fun _ => ?_))
      | exact ih0 _ _
      | exact ih1 _ _
      | exact ih2 _ _
      | exact LeO.none _
      | refine LeO.ite ?_ ?_
      | refine LeO.bind ?_ (fun _ => ?_)
    · intro y0 y1
      unfold note_Names.j1
      repeat' first
      | (with_reducible exact ih0 _ _)
      | (with_reducible exact ih1 _ _)
      | (with_reducible exact ih2 _ _)
      | (with_reducible exact LeO.refl _)
      | (with_reducible exact LeO.none _)
      | (with_reducible refine LeO.ite ?_ ?_)
      | (with_reducible refine LeO.bind ?_ (fun _ => ?_))
      | exact ih0 _ _
      | exact ih1 _ _
      | exact ih2 _ _
      | exact LeO.none _
      | refine LeO.ite ?_ ?_
      | refine LeO.bind ?_ (fun _ => ?_)
    · intro y0 y1
      unfold note_Names.j2
      repeat' first
      | (with_reducible exact ih0 _ _)
      | (with_reducible exact ih1 _ _)
      | (with_reducible exact ih2 _ _)
      | (with_reducible exact LeO.refl _)
      | (with_reducible exact LeO.none _)
      | (with_reducible refine LeO.ite ?_ ?_)
      | (with_reducible refine LeO.bind ?_ (fun _ => ?_))
      | exact ih0 _ _
      | exact ih1 _ _
      | exact ih2 _ _
      | exact LeO.none _
      | refine LeO.ite ?_ ?_
      | refine LeO.bind ?_ (fun _ => ?_)
theorem note_Names.mono : ∀ a0 k, LeO (note_Names.f k a0) (note_Names.f (k + 1) a0) := by
  intro a0 k
  obtain ⟨ih0, ih1, ih2⟩ := note_Names.mono_l k
  unfold note_Names.f
  repeat' first
      | (with_reducible exact ih0 _ _)
      | (with_reducible exact ih1 _ _)
      | (with_reducible exact ih2 _ _)
      | (with_reducible exact LeO.refl _)
      | (with_reducible exact LeO.none _)
      | (with_reducible refine LeO.ite ?_ ?_)
      | (with_reducible refine LeO.bind ?_ (fun _ => ?_))
      | exact ih0 _ _
      | exact ih1 _ _
      | exact ih2 _ _
      | exact LeO.none _
      | refine LeO.ite ?_ ?_
      | refine LeO.bind ?_ (fun _ => ?_)
set_option maxHeartbeats 8000000 in
set_option maxRecDepth 100000 in
theorem note_Names.calls (k : Nat) (a0 : Int) (r : ByteArray) (w : World) (h : note_Names.f k a0 = some r) :
    Calls Try.prog 18 #[.int .i64 a0] w fun e w' => e = .returned (.string r) ∧ Drawn0 w w' := by
  have H : (if a0 = 1 then (some (⟨#[69, 80, 76, 68]⟩ : ByteArray)) else (if a0 = 2 then (note_Names.j0 k a0 (a0 == 2)) else (note_Names.j0 k a0 (a0 == 3)))) = some r := h
  clear h
  by_cases c2 : a0 = 1
  · rw [if_pos c2] at H
    have c2b0 : (a0 == 1) = true := beq_iff_eq.mpr c2
    have c2b1 : (a0 != 1) = false := bne_eq_false_iff_eq.mpr c2
    clear c2
    obtain rfl := Option.some.inj H
    go_enter Try.func18, Try.ntmps18
    go_wp2
    go_ret
    exact ⟨by first | rfl | (simp; done) | (simp [*]; done), by repeat (first | exact Drawn0.refl _ | apply Drawn0.step)⟩
  · rw [if_neg c2] at H
    have c2b0 : (a0 == 1) = false := beq_eq_false_iff_ne.mpr c2
    have c2b1 : (a0 != 1) = true := bne_iff_ne.mpr c2
    have HC3 := Aside0.mk H
    clear H
    go_enter Try.func18, Try.ntmps18
    go_upto_if 6 with (fail)
    go_cut [6] (fun v6 wc => ∃ (kq : Nat) (x6_2 : Bool), v6 = .bool x6_2 ∧ Aside0 (note_Names.j0 kq a0 x6_2 = some r) ∧ Aside0 (kq ≤ k) ∧ Drawn0 w wc)
    case first =>
      have H := HC3.out
      clear HC3
      by_cases c4 : a0 = 2
      · rw [if_pos c4] at H
        have c4b0 : (a0 == 2) = true := beq_iff_eq.mpr c4
        have c4b1 : (a0 != 2) = false := bne_eq_false_iff_eq.mpr c4
        clear c4
        (first | rw [c4b0] | (simp only [i64_w, i32_w]; rw [c4b0]) | skip)
        have H' := Aside0.mk H
        clear H
        go_wp2
        go_meet
        case rel => exact ⟨_, ((a0 == 2)), (by first | rfl | (simp; done) | (simp [*]; done)), H', ⟨by first | omega | exact Nat.le_refl _⟩, by repeat (first | exact Drawn0.refl _ | apply Drawn0.step)⟩
      · rw [if_neg c4] at H
        have c4b0 : (a0 == 2) = false := beq_eq_false_iff_ne.mpr c4
        have c4b1 : (a0 != 2) = true := bne_iff_ne.mpr c4
        (first | rw [c4b0] | (simp only [i64_w, i32_w]; rw [c4b0]) | skip)
        have H' := Aside0.mk H
        clear H
        go_wp2
        go_meet
        case rel => exact ⟨_, ((a0 == 3)), (by first | rfl | (simp; done) | (simp [*]; done)), H', ⟨by first | omega | exact Nat.le_refl _⟩, by repeat (first | exact Drawn0.refl _ | apply Drawn0.step)⟩
    case rest =>
      clear HC3
      try clear c1
      try clear c2
      try clear c2b0
      try clear c2b1
      try clear p2
      try clear c4
      try clear c4b0
      try clear c4b1
      obtain ⟨kq, x6_2, rfl, HA, HJ2, ⟨mc2, rfl⟩⟩ := hcut
      cases kq with
      | zero => exact absurd HA.out (by simp [note_Names.j0])
      | succ kj2 =>
        have H := HA.out
        clear HA
        simp only [note_Names.j0] at H
        by_cases c5 : x6_2 = true
        · subst c5
          have H1 : (some (⟨#[69, 76]⟩ : ByteArray)) = some r := by rw [if_pos rfl] at H; exact H
          clear H
          have H := H1
          clear H1
          obtain rfl := Option.some.inj H
          go_wp2
          go_ret
          exact ⟨by first | rfl | (simp; done) | (simp [*]; done), by repeat (first | exact Drawn0.refl _ | apply Drawn0.step)⟩
        · replace c5 := Bool.eq_false_iff.mpr c5
          subst c5
          have H1 : (if a0 = 4 then (note_Names.j1 kj2 a0 (a0 == 4)) else (note_Names.j1 kj2 a0 (a0 == 6))) = some r := by rw [if_neg (show ¬ (false = true) by decide)] at H; exact H
          clear H
          have H := H1
          clear H1
          have HC6 := Aside0.mk H
          clear H
          go_upto_if 9 with (fail)
          go_cut [9] (fun v9 wc => ∃ (kq : Nat) (x9_5 : Bool), v9 = .bool x9_5 ∧ Aside0 (note_Names.j1 kq a0 x9_5 = some r) ∧ Aside0 (kq ≤ kj2) ∧ Drawn0 w wc)
          case first =>
            have H := HC6.out
            clear HC6
            by_cases c7 : a0 = 4
            · rw [if_pos c7] at H
              have c7b0 : (a0 == 4) = true := beq_iff_eq.mpr c7
              have c7b1 : (a0 != 4) = false := bne_eq_false_iff_eq.mpr c7
              clear c7
              (first | rw [c7b0] | (simp only [i64_w, i32_w]; rw [c7b0]) | skip)
              have H' := Aside0.mk H
              clear H
              go_wp2
              go_meet
              case rel => exact ⟨_, ((a0 == 4)), (by first | rfl | (simp; done) | (simp [*]; done)), H', ⟨by have := HJ2.out; first | omega | exact Nat.le_refl _⟩, by repeat (first | exact Drawn0.refl _ | apply Drawn0.step)⟩
            · rw [if_neg c7] at H
              have c7b0 : (a0 == 4) = false := beq_eq_false_iff_ne.mpr c7
              have c7b1 : (a0 != 4) = true := bne_iff_ne.mpr c7
              (first | rw [c7b0] | (simp only [i64_w, i32_w]; rw [c7b0]) | skip)
              have H' := Aside0.mk H
              clear H
              go_wp2
              go_meet
              case rel => exact ⟨_, ((a0 == 6)), (by first | rfl | (simp; done) | (simp [*]; done)), H', ⟨by have := HJ2.out; first | omega | exact Nat.le_refl _⟩, by repeat (first | exact Drawn0.refl _ | apply Drawn0.step)⟩
          case rest =>
            clear HC6
            try clear c1
            try clear c2
            try clear c2b0
            try clear c2b1
            try clear p2
            try clear c4
            try clear c4b0
            try clear c4b1
            try clear c5
            try clear c7
            try clear c7b0
            try clear c7b1
            try clear p2
            obtain ⟨kq, x9_5, rfl, HA, HJ5, ⟨mc5, rfl⟩⟩ := hcut
            cases kq with
            | zero => exact absurd HA.out (by simp [note_Names.j1])
            | succ kj5 =>
              have H := HA.out
              clear HA
              simp only [note_Names.j1] at H
              by_cases c8 : x9_5 = true
              · subst c8
                have H1 : (some (⟨#[69, 67]⟩ : ByteArray)) = some r := by rw [if_pos rfl] at H; exact H
                clear H
                have H := H1
                clear H1
                obtain rfl := Option.some.inj H
                go_wp2
                go_ret
                exact ⟨by first | rfl | (simp; done) | (simp [*]; done), by repeat (first | exact Drawn0.refl _ | apply Drawn0.step)⟩
              · replace c8 := Bool.eq_false_iff.mpr c8
                subst c8
                have H1 : (if a0 = 5 then (some (⟨#[69, 84, 67]⟩ : ByteArray)) else (if a0 = 7 then (some (⟨#[69, 79, 83, 85, 68]⟩ : ByteArray)) else (if a0 = 8 then (some (⟨#[69, 79, 83, 85, 67, 68]⟩ : ByteArray)) else (if a0 = 9 then (some (⟨#[69, 79, 83, 85]⟩ : ByteArray)) else (if a0 = 10 then (some (⟨#[75, 68]⟩ : ByteArray)) else (if a0 = 11 then (note_Names.j2 kj5 a0 (a0 == 11)) else (note_Names.j2 kj5 a0 (a0 == 12)))))))) = some r := by rw [if_neg (show ¬ (false = true) by decide)] at H; exact H
                clear H
                have H := H1
                clear H1
                by_cases c9 : a0 = 5
                · rw [if_pos c9] at H
                  have c9b0 : (a0 == 5) = true := beq_iff_eq.mpr c9
                  have c9b1 : (a0 != 5) = false := bne_eq_false_iff_eq.mpr c9
                  clear c9
                  obtain rfl := Option.some.inj H
                  go_wp2
                  go_ret
                  exact ⟨by first | rfl | (simp; done) | (simp [*]; done), by repeat (first | exact Drawn0.refl _ | apply Drawn0.step)⟩
                · rw [if_neg c9] at H
                  have c9b0 : (a0 == 5) = false := beq_eq_false_iff_ne.mpr c9
                  have c9b1 : (a0 != 5) = true := bne_iff_ne.mpr c9
                  by_cases c10 : a0 = 7
                  · rw [if_pos c10] at H
                    have c10b0 : (a0 == 7) = true := beq_iff_eq.mpr c10
                    have c10b1 : (a0 != 7) = false := bne_eq_false_iff_eq.mpr c10
                    clear c10
                    obtain rfl := Option.some.inj H
                    go_wp2
                    go_ret
                    exact ⟨by first | rfl | (simp; done) | (simp [*]; done), by repeat (first | exact Drawn0.refl _ | apply Drawn0.step)⟩
                  · rw [if_neg c10] at H
                    have c10b0 : (a0 == 7) = false := beq_eq_false_iff_ne.mpr c10
                    have c10b1 : (a0 != 7) = true := bne_iff_ne.mpr c10
                    by_cases c11 : a0 = 8
                    · rw [if_pos c11] at H
                      have c11b0 : (a0 == 8) = true := beq_iff_eq.mpr c11
                      have c11b1 : (a0 != 8) = false := bne_eq_false_iff_eq.mpr c11
                      clear c11
                      obtain rfl := Option.some.inj H
                      go_wp2
                      go_ret
                      exact ⟨by first | rfl | (simp; done) | (simp [*]; done), by repeat (first | exact Drawn0.refl _ | apply Drawn0.step)⟩
                    · rw [if_neg c11] at H
                      have c11b0 : (a0 == 8) = false := beq_eq_false_iff_ne.mpr c11
                      have c11b1 : (a0 != 8) = true := bne_iff_ne.mpr c11
                      by_cases c12 : a0 = 9
                      · rw [if_pos c12] at H
                        have c12b0 : (a0 == 9) = true := beq_iff_eq.mpr c12
                        have c12b1 : (a0 != 9) = false := bne_eq_false_iff_eq.mpr c12
                        clear c12
                        obtain rfl := Option.some.inj H
                        go_wp2
                        go_ret
                        exact ⟨by first | rfl | (simp; done) | (simp [*]; done), by repeat (first | exact Drawn0.refl _ | apply Drawn0.step)⟩
                      · rw [if_neg c12] at H
                        have c12b0 : (a0 == 9) = false := beq_eq_false_iff_ne.mpr c12
                        have c12b1 : (a0 != 9) = true := bne_iff_ne.mpr c12
                        by_cases c13 : a0 = 10
                        · rw [if_pos c13] at H
                          have c13b0 : (a0 == 10) = true := beq_iff_eq.mpr c13
                          have c13b1 : (a0 != 10) = false := bne_eq_false_iff_eq.mpr c13
                          clear c13
                          obtain rfl := Option.some.inj H
                          go_wp2
                          go_ret
                          exact ⟨by first | rfl | (simp; done) | (simp [*]; done), by repeat (first | exact Drawn0.refl _ | apply Drawn0.step)⟩
                        · rw [if_neg c13] at H
                          have c13b0 : (a0 == 10) = false := beq_eq_false_iff_ne.mpr c13
                          have c13b1 : (a0 != 10) = true := bne_iff_ne.mpr c13
                          have HC14 := Aside0.mk H
                          clear H
                          go_upto_if 22 with (fail)
                          go_cut [22] (fun v22 wc => ∃ (kq : Nat) (x22_13 : Bool), v22 = .bool x22_13 ∧ Aside0 (note_Names.j2 kq a0 x22_13 = some r) ∧ Aside0 (kq ≤ kj5) ∧ Drawn0 w wc)
                          case first =>
                            have H := HC14.out
                            clear HC14
                            by_cases c15 : a0 = 11
                            · rw [if_pos c15] at H
                              have c15b0 : (a0 == 11) = true := beq_iff_eq.mpr c15
                              have c15b1 : (a0 != 11) = false := bne_eq_false_iff_eq.mpr c15
                              clear c15
                              (first | rw [c15b0] | (simp only [i64_w, i32_w]; rw [c15b0]) | skip)
                              have H' := Aside0.mk H
                              clear H
                              go_wp2
                              go_meet
                              case rel => exact ⟨_, ((a0 == 11)), (by first | rfl | (simp; done) | (simp [*]; done)), H', ⟨by have := HJ2.out; have := HJ5.out; first | omega | exact Nat.le_refl _⟩, by repeat (first | exact Drawn0.refl _ | apply Drawn0.step)⟩
                            · rw [if_neg c15] at H
                              have c15b0 : (a0 == 11) = false := beq_eq_false_iff_ne.mpr c15
                              have c15b1 : (a0 != 11) = true := bne_iff_ne.mpr c15
                              (first | rw [c15b0] | (simp only [i64_w, i32_w]; rw [c15b0]) | skip)
                              have H' := Aside0.mk H
                              clear H
                              go_wp2
                              go_meet
                              case rel => exact ⟨_, ((a0 == 12)), (by first | rfl | (simp; done) | (simp [*]; done)), H', ⟨by have := HJ2.out; have := HJ5.out; first | omega | exact Nat.le_refl _⟩, by repeat (first | exact Drawn0.refl _ | apply Drawn0.step)⟩
                          case rest =>
                            clear HC14
                            try clear c1
                            try clear c2
                            try clear c2b0
                            try clear c2b1
                            try clear p2
                            try clear c4
                            try clear c4b0
                            try clear c4b1
                            try clear c5
                            try clear c7
                            try clear c7b0
                            try clear c7b1
                            try clear c8
                            try clear c9
                            try clear c9b0
                            try clear c9b1
                            try clear c10
                            try clear c10b0
                            try clear c10b1
                            try clear c11
                            try clear c11b0
                            try clear c11b1
                            try clear c12
                            try clear c12b0
                            try clear c12b1
                            try clear c13
                            try clear c13b0
                            try clear c13b1
                            try clear c15
                            try clear c15b0
                            try clear c15b1
                            try clear p2
                            obtain ⟨kq, x22_13, rfl, HA, HJ13, ⟨mc13, rfl⟩⟩ := hcut
                            cases kq with
                            | zero => exact absurd HA.out (by simp [note_Names.j2])
                            | succ kj13 =>
                              have H := HA.out
                              clear HA
                              simp only [note_Names.j2] at H
                              by_cases c16 : x22_13 = true
                              · subst c16
                                have H1 : (some (⟨#[75]⟩ : ByteArray)) = some r := by rw [if_pos rfl] at H; exact H
                                clear H
                                have H := H1
                                clear H1
                                obtain rfl := Option.some.inj H
                                go_wp2
                                go_ret
                                exact ⟨by first | rfl | (simp; done) | (simp [*]; done), by repeat (first | exact Drawn0.refl _ | apply Drawn0.step)⟩
                              · replace c16 := Bool.eq_false_iff.mpr c16
                                subst c16
                                have H1 : (if a0 = 13 then (some (⟨#[79, 67, 75, 68]⟩ : ByteArray)) else (some (⟨#[]⟩ : ByteArray))) = some r := by rw [if_neg (show ¬ (false = true) by decide)] at H; exact H
                                clear H
                                have H := H1
                                clear H1
                                by_cases c17 : a0 = 13
                                · rw [if_pos c17] at H
                                  have c17b0 : (a0 == 13) = true := beq_iff_eq.mpr c17
                                  have c17b1 : (a0 != 13) = false := bne_eq_false_iff_eq.mpr c17
                                  clear c17
                                  obtain rfl := Option.some.inj H
                                  go_wp2
                                  go_ret
                                  exact ⟨by first | rfl | (simp; done) | (simp [*]; done), by repeat (first | exact Drawn0.refl _ | apply Drawn0.step)⟩
                                · rw [if_neg c17] at H
                                  have c17b0 : (a0 == 13) = false := beq_eq_false_iff_ne.mpr c17
                                  have c17b1 : (a0 != 13) = true := bne_iff_ne.mpr c17
                                  obtain rfl := Option.some.inj H
                                  go_wp2
                                  go_ret
                                  exact ⟨by first | rfl | (simp; done) | (simp [*]; done), by repeat (first | exact Drawn0.refl _ | apply Drawn0.step)⟩

/-! ### note_without: function 34 -/
set_option maxHeartbeats 8000000 in
set_option maxRecDepth 100000 in
theorem without_any (p : Int) (e0 e1 e2 e3 e4 e5 e6 : Int) (e7 : Bool) (e8 : Int) (A9 : Option Addr) (n9 c9 : Nat) (A10 : Option Addr) (n10 c10 : Nat) (w : World) : Calls Try.prog 34 #[.agg #[.int .i64 e0, .int .u32 e1, .int .u32 e2, .int .u64 e3, .int .u64 e4, .int .u32 e5, .int .i64 e6, .bool e7, .int .i64 e8, .slice A9 n9 c9, .slice A10 n10 c10], .int .i32 p] w fun e w' => e = .returned (.agg #[.int .i64 e0, .int .u32 (if p = 69 then 0 else e1), .int .u32 (if p = 80 then 0 else e2), .int .u64 (if p = 76 then 0 else e3), .int .u64 (if p = 84 then 0 else e4), .int .u32 (if p = 79 then 0 else e5), .int .i64 (if p = 83 then 0 else e6), .bool (if p = 85 then false else e7), .int .i64 (if p = 67 then 0 else e8), (if p = 75 then .slice none 0 0 else .slice A9 n9 c9), (if p = 68 then .slice none 0 0 else .slice A10 n10 c10)]) ∧ Below w.heap.size w w' := by
  by_cases h69 : p = 69
  · subst h69
    go_enter Try.func34, Try.ntmps34
    go_wp2
    refine bodyPost_ret ?_ rfl ⟨rfl, ?_⟩
    · simp [results, Try.results34, go_sem]
    · repeat (first | exact Below.refl _ _ | apply below_alloc | refine below_set ?_ (by first | omega | (simp; omega) | simp))
  have b69 : (p == 69) = false := beq_eq_false_iff_ne.mpr h69
  by_cases h80 : p = 80
  · subst h80
    go_enter Try.func34, Try.ntmps34
    go_wp2
    refine bodyPost_ret ?_ rfl ⟨rfl, ?_⟩
    · simp [results, Try.results34, go_sem]
    · repeat (first | exact Below.refl _ _ | apply below_alloc | refine below_set ?_ (by first | omega | (simp; omega) | simp))
  have b80 : (p == 80) = false := beq_eq_false_iff_ne.mpr h80
  by_cases h76 : p = 76
  · subst h76
    go_enter Try.func34, Try.ntmps34
    go_wp2
    refine bodyPost_ret ?_ rfl ⟨rfl, ?_⟩
    · simp [results, Try.results34, go_sem]
    · repeat (first | exact Below.refl _ _ | apply below_alloc | refine below_set ?_ (by first | omega | (simp; omega) | simp))
  have b76 : (p == 76) = false := beq_eq_false_iff_ne.mpr h76
  by_cases h84 : p = 84
  · subst h84
    go_enter Try.func34, Try.ntmps34
    go_wp2
    refine bodyPost_ret ?_ rfl ⟨rfl, ?_⟩
    · simp [results, Try.results34, go_sem]
    · repeat (first | exact Below.refl _ _ | apply below_alloc | refine below_set ?_ (by first | omega | (simp; omega) | simp))
  have b84 : (p == 84) = false := beq_eq_false_iff_ne.mpr h84
  by_cases h79 : p = 79
  · subst h79
    go_enter Try.func34, Try.ntmps34
    go_wp2
    refine bodyPost_ret ?_ rfl ⟨rfl, ?_⟩
    · simp [results, Try.results34, go_sem]
    · repeat (first | exact Below.refl _ _ | apply below_alloc | refine below_set ?_ (by first | omega | (simp; omega) | simp))
  have b79 : (p == 79) = false := beq_eq_false_iff_ne.mpr h79
  by_cases h83 : p = 83
  · subst h83
    go_enter Try.func34, Try.ntmps34
    go_wp2
    refine bodyPost_ret ?_ rfl ⟨rfl, ?_⟩
    · simp [results, Try.results34, go_sem]
    · repeat (first | exact Below.refl _ _ | apply below_alloc | refine below_set ?_ (by first | omega | (simp; omega) | simp))
  have b83 : (p == 83) = false := beq_eq_false_iff_ne.mpr h83
  by_cases h85 : p = 85
  · subst h85
    go_enter Try.func34, Try.ntmps34
    go_wp2
    refine bodyPost_ret ?_ rfl ⟨rfl, ?_⟩
    · simp [results, Try.results34, go_sem]
    · repeat (first | exact Below.refl _ _ | apply below_alloc | refine below_set ?_ (by first | omega | (simp; omega) | simp))
  have b85 : (p == 85) = false := beq_eq_false_iff_ne.mpr h85
  by_cases h67 : p = 67
  · subst h67
    go_enter Try.func34, Try.ntmps34
    go_wp2
    refine bodyPost_ret ?_ rfl ⟨rfl, ?_⟩
    · simp [results, Try.results34, go_sem]
    · repeat (first | exact Below.refl _ _ | apply below_alloc | refine below_set ?_ (by first | omega | (simp; omega) | simp))
  have b67 : (p == 67) = false := beq_eq_false_iff_ne.mpr h67
  by_cases h75 : p = 75
  · subst h75
    go_enter Try.func34, Try.ntmps34
    go_wp2
    refine bodyPost_ret ?_ rfl ⟨rfl, ?_⟩
    · simp [results, Try.results34, go_sem]
    · repeat (first | exact Below.refl _ _ | apply below_alloc | refine below_set ?_ (by first | omega | (simp; omega) | simp))
  have b75 : (p == 75) = false := beq_eq_false_iff_ne.mpr h75
  by_cases h68 : p = 68
  · subst h68
    go_enter Try.func34, Try.ntmps34
    go_wp2
    refine bodyPost_ret ?_ rfl ⟨rfl, ?_⟩
    · simp [results, Try.results34, go_sem]
    · repeat (first | exact Below.refl _ _ | apply below_alloc | refine below_set ?_ (by first | omega | (simp; omega) | simp))
  have b68 : (p == 68) = false := beq_eq_false_iff_ne.mpr h68
  go_enter Try.func34, Try.ntmps34
  go_wp2
  refine bodyPost_ret ?_ rfl ⟨rfl, ?_⟩
  · simp [results, Try.results34, go_sem, h69, h80, h76, h84, h79, h83, h85, h67, h75, h68]
  · repeat (first | exact Below.refl _ _ | apply below_alloc | refine below_set ?_ (by first | omega | (simp; omega) | simp))

end Go.Proofs.Ytohnlhklijpafaa.PA
