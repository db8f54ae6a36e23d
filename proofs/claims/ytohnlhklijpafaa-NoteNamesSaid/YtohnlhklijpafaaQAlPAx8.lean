-- printed by a program of this work (wip/tools/pr.py over the kit's print): the machine's side of NoteBack, NoteSizes, NoteApart, NoteNames
import Derived.Test.YtohnlhklijpafaaQAlPAx0
import Derived.Test.YtohnlhklijpafaaQAlPAx1
import Derived.Test.YtohnlhklijpafaaQAlPAx2
import Derived.Test.YtohnlhklijpafaaQAlPAx4
namespace Go.Proofs.Ytohnlhklijpafaa.PA
open Go.RowKit Go.Proofs.YtohnlhklijpafaaW.PrintWords Go.Proofs.YtohnlhklijpafaaW.PrintLast Go.Proofs.YtohnlhklijpafaaW.PrintMore
attribute [local go_sem] max2_int min2_int max_two min_two max_three min_three max_four min_four   -- for this text's walks alone
set_option linter.unusedVariables false
set_option linter.unusedSimpArgs false

/-- a constant text's row, whatever stays of it marked -/
theorem lit_V (w : World) (g : Nat) (hg : w.heap.size ≠ g) {base : Nat} : Kd.V (Kd.int .u8) 5 (w.alloc (.cells #[.int .u8 107] 5 (1, 2))) base (fun k => k ≠ g) (.slice (some ⟨w.heap.size, 0, none⟩) 1 1) [107] :=
  ⟨some ⟨w.heap.size, 0, none⟩, 1, rfl, Nat.le_refl _, fun W' hW => C_lit (d := Kd.int .u8) ((hW w.heap.size hg (blk_lt (heap_alloc_new w _))).trans (heap_alloc_new w _)) [107] [[.int .u8 107]] ⟨rfl, trivial⟩ rfl (by decide)⟩
/-! ### drayagelaw05_NoteNames: function 9 -/
mutual
def drayagelaw05_NoteNames.l0 : Nat → Int → Int → Int → Int → Int → ByteArray → ByteArray → Int → Int → Option (Bool)
  | 0, _, _, _, _, _, _, _, _, _ => none
  | k + 1, x0, x1, x2, x3, x4, x11, x12, x13, x14 => if x14 < (x11.size : Int) then (drayagelaw05_NoteNames.l1 k x0 x1 x2 x3 x4 x11 x12 x13 x14) else (if x11.toList = ([] : List UInt8) then (if x0 < 1 then ((drayagelaw05_known.f k).bind fun t273 => (some t273)) else (if x0 > 13 then ((drayagelaw05_known.f k).bind fun t274 => (some t274)) else (none))) else (drayagelaw05_NoteNames.l2 k x0 x1 x2 x3 x4 x11 0 x0 0 0 0 0 0 0 false 0 ([] : List Int)))
def drayagelaw05_NoteNames.l1 : Nat → Int → Int → Int → Int → Int → ByteArray → ByteArray → Int → Int → Option (Bool)
  | 0, _, _, _, _, _, _, _, _, _ => none
  | k + 1, x0, x1, x2, x3, x4, x11, x12, x13, x14 => if x13 < (x12.size : Int) then (if 0 ≤ x13 then (if 0 ≤ x14 then (if x14 < (x11.size : Int) then (if (bt x12 x13) = (bt x11 x14) then (if x13 = (x12.size : Int) then (none) else (drayagelaw05_NoteNames.l0 k x0 x1 x2 x3 x4 x11 x12 (wrap64 (x13 + 1)) (wrap64 (x14 + 1)))) else (drayagelaw05_NoteNames.l1 k x0 x1 x2 x3 x4 x11 x12 (wrap64 (x13 + 1)) x14)) else (none)) else (none)) else (none)) else (if x13 = (x12.size : Int) then (none) else (drayagelaw05_NoteNames.l0 k x0 x1 x2 x3 x4 x11 x12 (wrap64 (x13 + 1)) (wrap64 (x14 + 1))))
def drayagelaw05_NoteNames.l2 : Nat → Int → Int → Int → Int → Int → ByteArray → Int → Int → Int → Int → Int → Int → Int → Int → Bool → Int → List Int → Option (Bool)
  | 0, _, _, _, _, _, _, _, _, _, _, _, _, _, _, _, _, _ => none
  | k + 1, x0, x1, x2, x3, x4, x11, x16, x276000, x276001, x276002, x276003, x276004, x276005, x276006, x276007, x276008, x276009 => if x16 < (x11.size : Int) then (if 0 ≤ x16 then (if (bt x11 x16) = 69 then (drayagelaw05_NoteNames.l2 k x0 x1 x2 x3 x4 x11 (wrap64 (x16 + 1)) x276000 x1 x276002 x276003 x276004 x276005 x276006 x276007 x276008 x276009) else (if (bt x11 x16) = 76 then (drayagelaw05_NoteNames.l2 k x0 x1 x2 x3 x4 x11 (wrap64 (x16 + 1)) x276000 x276001 x276002 x2 x276004 x276005 x276006 x276007 x276008 x276009) else (if (bt x11 x16) = 83 then (drayagelaw05_NoteNames.l2 k x0 x1 x2 x3 x4 x11 (wrap64 (x16 + 1)) x276000 x276001 x276002 x276003 x276004 x276005 (wrap64 (Int.tmod (IntKind.u64.wrap (x3)) 16)) x276007 x276008 x276009) else (if (bt x11 x16) = 67 then (drayagelaw05_NoteNames.l2 k x0 x1 x2 x3 x4 x11 (wrap64 (x16 + 1)) x276000 x276001 x276002 x276003 x276004 x276005 x276006 x276007 (wrap64 (Int.tmod (IntKind.u64.wrap (x4)) 256)) x276009) else (if (bt x11 x16) = 75 then (drayagelaw05_NoteNames.l2 k x0 x1 x2 x3 x4 x11 (wrap64 (x16 + 1)) x276000 x276001 x276002 x276003 x276004 x276005 x276006 x276007 x276008 (([107] : List Int))) else (drayagelaw05_NoteNames.l2 k x0 x1 x2 x3 x4 x11 (wrap64 (x16 + 1)) x276000 x276001 x276002 x276003 x276004 x276005 x276006 x276007 x276008 x276009)))))) else (none)) else ((note_Check.f x276000 x276001 x276002 x276003 x276004 x276005 x276006 x276007 x276008 x276009 ([] : List Int)).bind fun t276 => (if t276 = 0 then (if x0 ≥ 1 then (if x0 ≤ 13 then ((drayagelaw05_known.f k).bind fun t277 => (some t277)) else (none)) else (none)) else (none)))
end
def drayagelaw05_NoteNames.f (k : Nat) (a0 : Int) (a1 : Int) (a2 : Int) (a3 : Int) (a4 : Int) : Option (Bool) := (note_Names.f k a0).bind fun t272 => (drayagelaw05_NoteNames.l0 k a0 a1 a2 a3 a4 t272 (⟨#[69, 80, 76, 84, 79, 83, 85, 67, 75, 68]⟩ : ByteArray) 0 0)

set_option maxHeartbeats 8000000 in
set_option maxRecDepth 100000 in
theorem drayagelaw05_NoteNames.calls (k : Nat) (a0 : Int) (a1 : Int) (a2 : Int) (a3 : Int) (a4 : Int) (r : Bool) (w : World) (h : drayagelaw05_NoteNames.f k a0 a1 a2 a3 a4 = some r) :
    Calls Try.prog 9 #[.int .i64 a0, .int .u32 a1, .int .u64 a2, .int .i64 a3, .int .i64 a4] w fun e w' => e = .returned (.bool r) ∧ Below w.heap.size w w' := by
  have hu26 := Try.underlying26
  have HB := Aside0.mk (Below.refl w.heap.size w)
  have H : ((note_Names.f k a0).bind fun t272 => (drayagelaw05_NoteNames.l0 k a0 a1 a2 a3 a4 t272 (⟨#[69, 80, 76, 84, 79, 83, 85, 67, 75, 68]⟩ : ByteArray) 0 0)) = some r := h
  clear h
  replace H := Option.bind_eq_some_iff.mp H
  obtain ⟨t272, A60, H⟩ := H
  replace H : (drayagelaw05_NoteNames.l0 k a0 a1 a2 a3 a4 t272 (⟨#[69, 80, 76, 84, 79, 83, 85, 67, 75, 68]⟩ : ByteArray) 0 0) = some r := H
  have A6 := Aside0.mk A60
  clear A60
  have H' := Aside0.mk H
  clear H
  go_enter Try.func9, Try.ntmps9
  go_wp2_with (first | (go_at_call 18; (with_reducible refine (note_Names.calls k a0 t272 _ A6.out).mono ?_); rintro e w' ⟨rfl, ⟨nd, rfl⟩⟩; (try first | exact ⟨rfl, _, World.drewN_drewN _ _ _⟩ | exact ⟨rfl, _, Eq.trans (World.drewN_drewN _ _ _) (congrArg (World.drewN _) (Nat.add_assoc _ _ _))⟩)))
  repeat (go_quiet (first | (go_at_call 18; (with_reducible refine (note_Names.calls k a0 t272 _ A6.out).mono ?_); rintro e w' ⟨rfl, ⟨nd, rfl⟩⟩; (try first | exact ⟨rfl, _, World.drewN_drewN _ _ _⟩ | exact ⟨rfl, _, Eq.trans (World.drewN_drewN _ _ _) (congrArg (World.drewN _) (Nat.add_assoc _ _ _))⟩))); try go_wp2_with (first | (go_at_call 18; (with_reducible refine (note_Names.calls k a0 t272 _ A6.out).mono ?_); rintro e w' ⟨rfl, ⟨nd, rfl⟩⟩; (try first | exact ⟨rfl, _, World.drewN_drewN _ _ _⟩ | exact ⟨rfl, _, Eq.trans (World.drewN_drewN _ _ _) (congrArg (World.drewN _) (Nat.add_assoc _ _ _))⟩))))
  go_loopg [13, 14] k (fun kq v13 v14 w' => ∃ (x13_1 : Int) (x14_1 : Int), v13 = .int .i64 x13_1 ∧ v14 = .int .i64 x14_1 ∧ Aside0 (drayagelaw05_NoteNames.l0 kq a0 a1 a2 a3 a4 t272 (⟨#[69, 80, 76, 84, 79, 83, 85, 67, 75, 68]⟩ : ByteArray) x13_1 x14_1 = some r) ∧ Aside0 (kq ≤ k) ∧ Aside0 (Below w.heap.size w w'))
  case atStart => exact ⟨(0), (0), (by first | rfl | (simp; done) | (simp [*]; done)), (by first | rfl | (simp; done) | (simp [*]; done)), H', ⟨Nat.le_refl _⟩, ⟨by repeat (first | (with_reducible first | exact HB.out | apply below_alloc | apply pw_below_drewN | apply below_drew1) | exact HB.out)⟩⟩
  case round =>
    clear H'
    try clear p2
    obtain ⟨x13_1, x14_1, rfl, rfl, HA, HK1, HB⟩ := hrel
    cases gk with
    | zero => exact absurd HA.out (by simp [drayagelaw05_NoteNames.l0])
    | succ k1 =>
      have H := HA.out
      clear HA
      simp only [drayagelaw05_NoteNames.l0] at H
      by_cases c7 : x14_1 < (t272.size : Int)
      · rw [if_pos c7] at H
        have c7b0 : decide (x14_1 < (t272.size : Int)) = true := decide_eq_true c7
        clear c7
        have H' := Aside0.mk H
        clear H
        go_wp2
        repeat (go_quiet (fail); try go_wp2)
        go_loopg [13] k1 (fun kq v13 w' => ∃ (x13_2 : Int), v13 = .int .i64 x13_2 ∧ Aside0 (drayagelaw05_NoteNames.l1 kq a0 a1 a2 a3 a4 t272 (⟨#[69, 80, 76, 84, 79, 83, 85, 67, 75, 68]⟩ : ByteArray) x13_2 x14_1 = some r) ∧ Aside0 (kq ≤ k1) ∧ Aside0 (Below w.heap.size w w'))
        case atStart => exact ⟨(x13_1), (by first | rfl | (simp; done) | (simp [*]; done)), H', ⟨Nat.le_refl _⟩, ⟨by repeat (first | (with_reducible first | exact HB.out | apply below_alloc | apply pw_below_drewN | apply below_drew1) | exact HB.out)⟩⟩
        case round =>
          clear H'
          try clear p2
          try clear c7
          try clear c7b0
          try clear p2
          obtain ⟨x13_2, rfl, HA, HK2, HB⟩ := hrel
          cases gk with
          | zero => exact absurd HA.out (by simp [drayagelaw05_NoteNames.l1])
          | succ k2 =>
            have H := HA.out
            clear HA
            simp only [drayagelaw05_NoteNames.l1] at H
            by_cases c8 : x13_2 < ((⟨#[69, 80, 76, 84, 79, 83, 85, 67, 75, 68]⟩ : ByteArray).size : Int)
            · rw [if_pos c8] at H
              have c8b0 : decide (x13_2 < ((⟨#[69, 80, 76, 84, 79, 83, 85, 67, 75, 68]⟩ : ByteArray).size : Int)) = true := decide_eq_true c8
              have c8d0 : decide (x13_2 < (10 : Int)) = true := c8b0
              clear c8
              by_cases c9 : 0 ≤ x13_2
              · rw [if_pos c9] at H
                have c9b0 : decide (0 ≤ x13_2) = true := decide_eq_true c9
                clear c9
                by_cases c11 : 0 ≤ x14_1
                · rw [if_pos c11] at H
                  have c11b0 : decide (0 ≤ x14_1) = true := decide_eq_true c11
                  clear c11
                  by_cases c12 : x14_1 < (t272.size : Int)
                  · rw [if_pos c12] at H
                    have c12b0 : decide (x14_1 < (t272.size : Int)) = true := decide_eq_true c12
                    clear c12
                    by_cases c14 : (bt (⟨#[69, 80, 76, 84, 79, 83, 85, 67, 75, 68]⟩ : ByteArray) x13_2) = (bt t272 x14_1)
                    · rw [if_pos c14] at H
                      have c14b0 : ((bt (⟨#[69, 80, 76, 84, 79, 83, 85, 67, 75, 68]⟩ : ByteArray) x13_2) == (bt t272 x14_1)) = true := beq_iff_eq.mpr c14
                      have c14b1 : ((bt (⟨#[69, 80, 76, 84, 79, 83, 85, 67, 75, 68]⟩ : ByteArray) x13_2) != (bt t272 x14_1)) = false := bne_eq_false_iff_eq.mpr c14
                      clear c14
                      by_cases c15 : x13_2 = ((⟨#[69, 80, 76, 84, 79, 83, 85, 67, 75, 68]⟩ : ByteArray).size : Int)
                      · rw [if_pos c15] at H
                        exact absurd H (by simp)
                      · rw [if_neg c15] at H
                        have c15b0 : (x13_2 == ((⟨#[69, 80, 76, 84, 79, 83, 85, 67, 75, 68]⟩ : ByteArray).size : Int)) = false := beq_eq_false_iff_ne.mpr c15
                        have c15d0 : (x13_2 == (10 : Int)) = false := c15b0
                        have c15b1 : (x13_2 != ((⟨#[69, 80, 76, 84, 79, 83, 85, 67, 75, 68]⟩ : ByteArray).size : Int)) = true := bne_iff_ne.mpr c15
                        have c15d1 : (x13_2 != (10 : Int)) = true := c15b1
                        have H' := Aside0.mk H
                        clear H
                        have p10 : 0 ≤ (x13_2 : Int) := of_decide_eq_true (by first | (with_reducible assumption) | assumption)
                        have q10 : x13_2 < (10 : Int) := of_decide_eq_true (by first | (with_reducible assumption) | assumption)
                        have hx10 := bt_at (⟨#[69, 80, 76, 84, 79, 83, 85, 67, 75, 68]⟩ : ByteArray) x13_2
                        replace p10 := eq_true p10
                        replace q10 := eq_true q10
                        have p13 : 0 ≤ (x14_1 : Int) := of_decide_eq_true (by first | (with_reducible assumption) | assumption)
                        have q13 : x14_1 < (t272.size : Int) := of_decide_eq_true (by first | (with_reducible assumption) | assumption)
                        have hx13 := bt_at t272 x14_1
                        replace p13 := eq_true p13
                        replace q13 := eq_true q13
                        go_wp2
                        repeat (go_quiet (fail); try go_wp2)
                        go_roundg k2
                        case measure => have := HK1.out; have := HK2.out; omega
                        case rel => exact ⟨(wrap64 (x13_2 + 1)), (wrap64 (x14_1 + 1)), (by first | rfl | (simp; done) | (simp [*]; done)), (by first | rfl | (simp; done) | (simp [*]; done)), H', ⟨by have := HK1.out; have := HK2.out; omega⟩, ⟨by repeat (first | (with_reducible first | exact HB.out | apply below_alloc | apply pw_below_drewN | apply below_drew1) | exact HB.out)⟩⟩
                    · rw [if_neg c14] at H
                      have c14b0 : ((bt (⟨#[69, 80, 76, 84, 79, 83, 85, 67, 75, 68]⟩ : ByteArray) x13_2) == (bt t272 x14_1)) = false := beq_eq_false_iff_ne.mpr c14
                      have c14b1 : ((bt (⟨#[69, 80, 76, 84, 79, 83, 85, 67, 75, 68]⟩ : ByteArray) x13_2) != (bt t272 x14_1)) = true := bne_iff_ne.mpr c14
                      have H' := Aside0.mk H
                      clear H
                      have p10 : 0 ≤ (x13_2 : Int) := of_decide_eq_true (by first | (with_reducible assumption) | assumption)
                      have q10 : x13_2 < (10 : Int) := of_decide_eq_true (by first | (with_reducible assumption) | assumption)
                      have hx10 := bt_at (⟨#[69, 80, 76, 84, 79, 83, 85, 67, 75, 68]⟩ : ByteArray) x13_2
                      replace p10 := eq_true p10
                      replace q10 := eq_true q10
                      have p13 : 0 ≤ (x14_1 : Int) := of_decide_eq_true (by first | (with_reducible assumption) | assumption)
                      have q13 : x14_1 < (t272.size : Int) := of_decide_eq_true (by first | (with_reducible assumption) | assumption)
                      have hx13 := bt_at t272 x14_1
                      replace p13 := eq_true p13
                      replace q13 := eq_true q13
                      go_wp2
                      repeat (go_quiet (fail); try go_wp2)
                      go_roundg k2
                      case measure => have := HK1.out; have := HK2.out; omega
                      case rel => exact ⟨(wrap64 (x13_2 + 1)), (by first | rfl | (simp; done) | (simp [*]; done)), H', ⟨by have := HK1.out; have := HK2.out; omega⟩, ⟨by repeat (first | (with_reducible first | exact HB.out | apply below_alloc | apply pw_below_drewN | apply below_drew1) | exact HB.out)⟩⟩
                  · rw [if_neg c12] at H
                    exact absurd H (by simp)
                · rw [if_neg c11] at H
                  exact absurd H (by simp)
              · rw [if_neg c9] at H
                exact absurd H (by simp)
            · rw [if_neg c8] at H
              have c8b0 : decide (x13_2 < ((⟨#[69, 80, 76, 84, 79, 83, 85, 67, 75, 68]⟩ : ByteArray).size : Int)) = false := decide_eq_false c8
              have c8d0 : decide (x13_2 < (10 : Int)) = false := c8b0
              clear c8
              by_cases c16 : x13_2 = ((⟨#[69, 80, 76, 84, 79, 83, 85, 67, 75, 68]⟩ : ByteArray).size : Int)
              · rw [if_pos c16] at H
                exact absurd H (by simp)
              · rw [if_neg c16] at H
                have c16b0 : (x13_2 == ((⟨#[69, 80, 76, 84, 79, 83, 85, 67, 75, 68]⟩ : ByteArray).size : Int)) = false := beq_eq_false_iff_ne.mpr c16
                have c16d0 : (x13_2 == (10 : Int)) = false := c16b0
                have c16b1 : (x13_2 != ((⟨#[69, 80, 76, 84, 79, 83, 85, 67, 75, 68]⟩ : ByteArray).size : Int)) = true := bne_iff_ne.mpr c16
                have c16d1 : (x13_2 != (10 : Int)) = true := c16b1
                have H' := Aside0.mk H
                clear H
                go_wp2
                repeat (go_quiet (fail); try go_wp2)
                go_roundg k2
                case measure => have := HK1.out; have := HK2.out; omega
                case rel => exact ⟨(wrap64 (x13_2 + 1)), (wrap64 (x14_1 + 1)), (by first | rfl | (simp; done) | (simp [*]; done)), (by first | rfl | (simp; done) | (simp [*]; done)), H', ⟨by have := HK1.out; have := HK2.out; omega⟩, ⟨by repeat (first | (with_reducible first | exact HB.out | apply below_alloc | apply pw_below_drewN | apply below_drew1) | exact HB.out)⟩⟩
      · rw [if_neg c7] at H
        have c7b0 : decide (x14_1 < (t272.size : Int)) = false := decide_eq_false c7
        clear c7
        by_cases c17 : t272.toList = ([] : List UInt8)
        · rw [if_pos c17] at H
          have c17b0 : (t272.toList == ([] : List UInt8)) = true := beq_iff_eq.mpr c17
          have c17b1 : (t272.toList != ([] : List UInt8)) = false := bne_eq_false_iff_eq.mpr c17
          clear c17
          by_cases c18 : a0 < 1
          · rw [if_pos c18] at H
            have c18b0 : decide (a0 < 1) = true := decide_eq_true c18
            clear c18
            replace H := Option.bind_eq_some_iff.mp H
            obtain ⟨t273, A190, H⟩ := H
            replace H : (some t273) = some r := H
            have A19 := Aside0.mk A190
            clear A190
            obtain rfl := Option.some.inj H
            go_wp2_with (first | (go_at_call 11; (with_reducible refine (drayagelaw05_known.calls k1  t273 _ A19.out).mono ?_); rintro e w20 ⟨rfl, hb⟩; have n0_ := Aside0.mk (below_step (by repeat (first | (with_reducible first | exact HB.out | apply below_alloc | apply pw_below_drewN | apply below_drew1) | exact HB.out)) hb); clear HB; have HB := n0_; clear n0_; (try clear hb); (try clear hb2); (try clear hk); (try clear hi)))
            repeat (go_quiet (first | (go_at_call 11; (with_reducible refine (drayagelaw05_known.calls k1  t273 _ A19.out).mono ?_); rintro e w20 ⟨rfl, hb⟩; have n0_ := Aside0.mk (below_step (by repeat (first | (with_reducible first | exact HB.out | apply below_alloc | apply pw_below_drewN | apply below_drew1) | exact HB.out)) hb); clear HB; have HB := n0_; clear n0_; (try clear hb); (try clear hb2); (try clear hk); (try clear hi))); try go_wp2_with (first | (go_at_call 11; (with_reducible refine (drayagelaw05_known.calls k1  t273 _ A19.out).mono ?_); rintro e w20 ⟨rfl, hb⟩; have n0_ := Aside0.mk (below_step (by repeat (first | (with_reducible first | exact HB.out | apply below_alloc | apply pw_below_drewN | apply below_drew1) | exact HB.out)) hb); clear HB; have HB := n0_; clear n0_; (try clear hb); (try clear hb2); (try clear hk); (try clear hi))))
            go_ret
            exact ⟨by first | rfl | (simp [errW_none, errW_some] <;> rfl) | (simp [*, errW_none, errW_some] <;> rfl), by repeat (first | (with_reducible first | exact HB.out | apply below_alloc | apply pw_below_drewN | apply below_drew1) | exact HB.out)⟩
          · rw [if_neg c18] at H
            have c18b0 : decide (a0 < 1) = false := decide_eq_false c18
            clear c18
            by_cases c21 : a0 > 13
            · rw [if_pos c21] at H
              have c21b0 : decide (13 < a0) = true := decide_eq_true c21
              clear c21
              replace H := Option.bind_eq_some_iff.mp H
              obtain ⟨t274, A220, H⟩ := H
              replace H : (some t274) = some r := H
              have A22 := Aside0.mk A220
              clear A220
              obtain rfl := Option.some.inj H
              go_wp2_with (first | (go_at_call 11; (with_reducible refine (drayagelaw05_known.calls k1  t274 _ A22.out).mono ?_); rintro e w23 ⟨rfl, hb⟩; have n0_ := Aside0.mk (below_step (by repeat (first | (with_reducible first | exact HB.out | apply below_alloc | apply pw_below_drewN | apply below_drew1) | exact HB.out)) hb); clear HB; have HB := n0_; clear n0_; (try clear hb); (try clear hb2); (try clear hk); (try clear hi)))
              repeat (go_quiet (first | (go_at_call 11; (with_reducible refine (drayagelaw05_known.calls k1  t274 _ A22.out).mono ?_); rintro e w23 ⟨rfl, hb⟩; have n0_ := Aside0.mk (below_step (by repeat (first | (with_reducible first | exact HB.out | apply below_alloc | apply pw_below_drewN | apply below_drew1) | exact HB.out)) hb); clear HB; have HB := n0_; clear n0_; (try clear hb); (try clear hb2); (try clear hk); (try clear hi))); try go_wp2_with (first | (go_at_call 11; (with_reducible refine (drayagelaw05_known.calls k1  t274 _ A22.out).mono ?_); rintro e w23 ⟨rfl, hb⟩; have n0_ := Aside0.mk (below_step (by repeat (first | (with_reducible first | exact HB.out | apply below_alloc | apply pw_below_drewN | apply below_drew1) | exact HB.out)) hb); clear HB; have HB := n0_; clear n0_; (try clear hb); (try clear hb2); (try clear hk); (try clear hi))))
              go_ret
              exact ⟨by first | rfl | (simp [errW_none, errW_some] <;> rfl) | (simp [*, errW_none, errW_some] <;> rfl), by repeat (first | (with_reducible first | exact HB.out | apply below_alloc | apply pw_below_drewN | apply below_drew1) | exact HB.out)⟩
            · rw [if_neg c21] at H
              exact absurd H (by simp)
        · rw [if_neg c17] at H
          have c17b0 : (t272.toList == ([] : List UInt8)) = false := beq_eq_false_iff_ne.mpr c17
          have c17b1 : (t272.toList != ([] : List UInt8)) = true := bne_iff_ne.mpr c17
          have H' := Aside0.mk H
          clear H
          go_wp2_with (first | ((with_reducible refine gate_dst (N := 15) rfl ?_); refine box_event ?hg (N := 15) ?hd (cs := #[.int .i64 0, .int .u32 0, .int .u32 0, .int .u64 0, .int .u64 0, .int .u32 0, .int .i64 0, .bool false, .int .i64 0, .slice none 0 0, .slice none 0 0]) (t := 26) ?hr ?_; (case hd => rfl); (case hg => rfl); (case hr => first | (go_simp; done) | (go_simp; rfl)); intro gb275 hg w24 hbox hb; have n0_ := Aside0.mk (below_step (by repeat (first | (with_reducible first | exact HB.out | apply below_alloc | apply pw_below_drewN | apply below_drew1) | exact HB.out)) hb); have n1_ := Aside0.mk (hbox); have n2_ := Aside0.mk ((by rw [hg]; exact (below_size (by repeat (first | (with_reducible first | exact HB.out | apply below_alloc | apply pw_below_drewN | apply below_drew1) | exact HB.out))) : w.heap.size ≤ gb275)); have n3_ := Aside0.mk ((by rw [hg]; exact (below_size (by repeat (first | (with_reducible first | exact HB.out | apply below_alloc | apply pw_below_drewN | apply below_drew1) | exact HB.out))) : w.heap.size ≤ gb275)); clear HB; have HB := n0_; have BK275 := n1_; have GW275 := n2_; have GE275 := n3_; clear n0_ n1_ n2_ n3_; clear hb hbox hg; obtain ⟨hcz25_0, hcz25_1, hcz25_2, hcz25_3, hcz25_4, hcz25_5, hcz25_6, hcz25_7, hcz25_8, hcz25_9, hcz25_10, hfz25_0, hfz25_1, hfz25_2, hfz25_3, hfz25_4, hfz25_5, hfz25_6, hfz25_7, hfz25_8, hfz25_9, hfz25_10⟩ := blk_all11 BK275.out))
          repeat (go_quiet (first | ((with_reducible refine gate_dst (N := 15) rfl ?_); refine box_event ?hg (N := 15) ?hd (cs := #[.int .i64 0, .int .u32 0, .int .u32 0, .int .u64 0, .int .u64 0, .int .u32 0, .int .i64 0, .bool false, .int .i64 0, .slice none 0 0, .slice none 0 0]) (t := 26) ?hr ?_; (case hd => rfl); (case hg => rfl); (case hr => first | (go_simp; done) | (go_simp; rfl)); intro gb275 hg w24 hbox hb; have n0_ := Aside0.mk (below_step (by repeat (first | (with_reducible first | exact HB.out | apply below_alloc | apply pw_below_drewN | apply below_drew1) | exact HB.out)) hb); have n1_ := Aside0.mk (hbox); have n2_ := Aside0.mk ((by rw [hg]; exact (below_size (by repeat (first | (with_reducible first | exact HB.out | apply below_alloc | apply pw_below_drewN | apply below_drew1) | exact HB.out))) : w.heap.size ≤ gb275)); have n3_ := Aside0.mk ((by rw [hg]; exact (below_size (by repeat (first | (with_reducible first | exact HB.out | apply below_alloc | apply pw_below_drewN | apply below_drew1) | exact HB.out))) : w.heap.size ≤ gb275)); clear HB; have HB := n0_; have BK275 := n1_; have GW275 := n2_; have GE275 := n3_; clear n0_ n1_ n2_ n3_; clear hb hbox hg; obtain ⟨hcz25_0, hcz25_1, hcz25_2, hcz25_3, hcz25_4, hcz25_5, hcz25_6, hcz25_7, hcz25_8, hcz25_9, hcz25_10, hfz25_0, hfz25_1, hfz25_2, hfz25_3, hfz25_4, hfz25_5, hfz25_6, hfz25_7, hfz25_8, hfz25_9, hfz25_10⟩ := blk_all11 BK275.out)); try go_wp2_with (first | ((with_reducible refine gate_dst (N := 15) rfl ?_); refine box_event ?hg (N := 15) ?hd (cs := #[.int .i64 0, .int .u32 0, .int .u32 0, .int .u64 0, .int .u64 0, .int .u32 0, .int .i64 0, .bool false, .int .i64 0, .slice none 0 0, .slice none 0 0]) (t := 26) ?hr ?_; (case hd => rfl); (case hg => rfl); (case hr => first | (go_simp; done) | (go_simp; rfl)); intro gb275 hg w24 hbox hb; have n0_ := Aside0.mk (below_step (by repeat (first | (with_reducible first | exact HB.out | apply below_alloc | apply pw_below_drewN | apply below_drew1) | exact HB.out)) hb); have n1_ := Aside0.mk (hbox); have n2_ := Aside0.mk ((by rw [hg]; exact (below_size (by repeat (first | (with_reducible first | exact HB.out | apply below_alloc | apply pw_below_drewN | apply below_drew1) | exact HB.out))) : w.heap.size ≤ gb275)); have n3_ := Aside0.mk ((by rw [hg]; exact (below_size (by repeat (first | (with_reducible first | exact HB.out | apply below_alloc | apply pw_below_drewN | apply below_drew1) | exact HB.out))) : w.heap.size ≤ gb275)); clear HB; have HB := n0_; have BK275 := n1_; have GW275 := n2_; have GE275 := n3_; clear n0_ n1_ n2_ n3_; clear hb hbox hg; obtain ⟨hcz25_0, hcz25_1, hcz25_2, hcz25_3, hcz25_4, hcz25_5, hcz25_6, hcz25_7, hcz25_8, hcz25_9, hcz25_10, hfz25_0, hfz25_1, hfz25_2, hfz25_3, hfz25_4, hfz25_5, hfz25_6, hfz25_7, hfz25_8, hfz25_9, hfz25_10⟩ := blk_all11 BK275.out)))
          go_loopg [16] k1 (fun kq v16 w' => ∃ (x16_2 : Int) (x276001_2 : Int) (x276003_2 : Int) (x276006_2 : Int) (x276008_2 : Int) (x276009_2 : List Int) (u276009 : Value), v16 = .int .i64 x16_2 ∧ Aside0 (drayagelaw05_NoteNames.l2 kq a0 a1 a2 a3 a4 t272 x16_2 a0 x276001_2 0 x276003_2 0 0 x276006_2 false x276008_2 x276009_2 = some r) ∧ Aside0 (kq ≤ k1) ∧ Aside0 (Kd.V (Kd.int .u8) 5 w' w.heap.size (fun k_ => k_ ≠ gb275) u276009 x276009_2) ∧ Aside0 (w'.heap[gb275]? = some (.cells #[.int .i64 a0, .int .u32 x276001_2, .int .u32 0, .int .u64 x276003_2, .int .u64 0, .int .u32 0, .int .i64 x276006_2, .bool false, .int .i64 x276008_2, u276009, (.slice none 0 0)] 26 (0, 0))) ∧ Aside0 (Below w.heap.size w w'))
          case atStart => exact ⟨(0), (0), (0), (0), (0), (([] : List Int)), (.slice none 0 0), (by first | rfl | (simp; done) | (simp [*]; done)), H', ⟨Nat.le_refl _⟩, ⟨by first | exact Kd.R_nil _ _ _ _ _ | exact Kd.N_nil _ _ _ _ _ | exact Kd.V_nil _ _ _ _ _ | exact Kd.Q_nil _ _ _ _ _ | exact Kd.S_nil _ _ _ _ _⟩, ⟨by (with_reducible repeat (first | apply bd1 | apply bd2 | apply bd3)); refine blk_put (cs := #[.int .i64 a0, .int .u32 0, .int .u32 0, .int .u64 0, .int .u64 0, .int .u32 0, .int .i64 0, .bool false, .int .i64 0, .slice none 0 0, .slice none 0 0]) ?_ 10 _ rfl; (with_reducible repeat (first | apply bd1 | apply bd2 | apply bd3)); refine blk_put (cs := #[.int .i64 a0, .int .u32 0, .int .u32 0, .int .u64 0, .int .u64 0, .int .u32 0, .int .i64 0, .bool false, .int .i64 0, .slice none 0 0, .slice none 0 0]) ?_ 9 _ rfl; (with_reducible repeat (first | apply bd1 | apply bd2 | apply bd3)); refine blk_put (cs := #[.int .i64 a0, .int .u32 0, .int .u32 0, .int .u64 0, .int .u64 0, .int .u32 0, .int .i64 0, .bool false, .int .i64 0, .slice none 0 0, .slice none 0 0]) ?_ 8 _ rfl; (with_reducible repeat (first | apply bd1 | apply bd2 | apply bd3)); refine blk_put (cs := #[.int .i64 a0, .int .u32 0, .int .u32 0, .int .u64 0, .int .u64 0, .int .u32 0, .int .i64 0, .bool false, .int .i64 0, .slice none 0 0, .slice none 0 0]) ?_ 7 _ rfl; (with_reducible repeat (first | apply bd1 | apply bd2 | apply bd3)); refine blk_put (cs := #[.int .i64 a0, .int .u32 0, .int .u32 0, .int .u64 0, .int .u64 0, .int .u32 0, .int .i64 0, .bool false, .int .i64 0, .slice none 0 0, .slice none 0 0]) ?_ 6 _ rfl; (with_reducible repeat (first | apply bd1 | apply bd2 | apply bd3)); refine blk_put (cs := #[.int .i64 a0, .int .u32 0, .int .u32 0, .int .u64 0, .int .u64 0, .int .u32 0, .int .i64 0, .bool false, .int .i64 0, .slice none 0 0, .slice none 0 0]) ?_ 5 _ rfl; (with_reducible repeat (first | apply bd1 | apply bd2 | apply bd3)); refine blk_put (cs := #[.int .i64 a0, .int .u32 0, .int .u32 0, .int .u64 0, .int .u64 0, .int .u32 0, .int .i64 0, .bool false, .int .i64 0, .slice none 0 0, .slice none 0 0]) ?_ 4 _ rfl; (with_reducible repeat (first | apply bd1 | apply bd2 | apply bd3)); refine blk_put (cs := #[.int .i64 a0, .int .u32 0, .int .u32 0, .int .u64 0, .int .u64 0, .int .u32 0, .int .i64 0, .bool false, .int .i64 0, .slice none 0 0, .slice none 0 0]) ?_ 3 _ rfl; (with_reducible repeat (first | apply bd1 | apply bd2 | apply bd3)); refine blk_put (cs := #[.int .i64 a0, .int .u32 0, .int .u32 0, .int .u64 0, .int .u64 0, .int .u32 0, .int .i64 0, .bool false, .int .i64 0, .slice none 0 0, .slice none 0 0]) ?_ 2 _ rfl; (with_reducible repeat (first | apply bd1 | apply bd2 | apply bd3)); refine blk_put (cs := #[.int .i64 a0, .int .u32 0, .int .u32 0, .int .u64 0, .int .u64 0, .int .u32 0, .int .i64 0, .bool false, .int .i64 0, .slice none 0 0, .slice none 0 0]) ?_ 1 _ rfl; (with_reducible repeat (first | apply bd1 | apply bd2 | apply bd3)); refine blk_put (cs := #[.int .i64 0, .int .u32 0, .int .u32 0, .int .u64 0, .int .u64 0, .int .u32 0, .int .i64 0, .bool false, .int .i64 0, .slice none 0 0, .slice none 0 0]) ?_ 0 _ rfl; (with_reducible repeat (first | apply bd1 | apply bd2 | apply bd3)); exact BK275.out⟩, ⟨by repeat (first | (with_reducible first | exact HB.out | apply below_alloc | apply pw_below_drewN | apply below_drew1 | refine below_set ?_ GE275.out) | exact HB.out)⟩⟩
          case round =>
            clear H'
            try clear c1
            try clear p1
            try clear q1
            try clear hx1
            try clear c2
            try clear p2
            try clear p6
            try clear c7
            try clear c7b0
            try clear c8
            try clear c8b0
            try clear c9
            try clear c9b0
            try clear p10
            try clear q10
            try clear hx10
            try clear c11
            try clear c11b0
            try clear c12
            try clear c12b0
            try clear p13
            try clear q13
            try clear hx13
            try clear c14
            try clear c14b0
            try clear c14b1
            try clear c15
            try clear c15b0
            try clear c15b1
            try clear c16
            try clear c16b0
            try clear c16b1
            try clear c17
            try clear c17b0
            try clear c17b1
            try clear c18
            try clear c18b0
            try clear c21
            try clear c21b0
            try clear hcz25_0
            try clear hcz25_1
            try clear hcz25_10
            try clear hcz25_2
            try clear hcz25_3
            try clear hcz25_4
            try clear hcz25_5
            try clear hcz25_6
            try clear hcz25_7
            try clear hcz25_8
            try clear hcz25_9
            try clear hfz25_0
            try clear hfz25_1
            try clear hfz25_10
            try clear hfz25_2
            try clear hfz25_3
            try clear hfz25_4
            try clear hfz25_5
            try clear hfz25_6
            try clear hfz25_7
            try clear hfz25_8
            try clear hfz25_9
            try clear p10
            try clear p13
            try clear p2
            try clear q10
            try clear q13
            obtain ⟨x16_2, x276001_2, x276003_2, x276006_2, x276008_2, x276009_2, u276009, rfl, HA, HK2, HO_276009, BK275, HB⟩ := hrel
            cases gk with
            | zero => exact absurd HA.out (by simp [drayagelaw05_NoteNames.l2])
            | succ k2 =>
              have H := HA.out
              clear HA
              simp only [drayagelaw05_NoteNames.l2] at H
              by_cases c26 : x16_2 < (t272.size : Int)
              · rw [if_pos c26] at H
                have c26b0 : decide (x16_2 < (t272.size : Int)) = true := decide_eq_true c26
                clear c26
                by_cases c27 : 0 ≤ x16_2
                · rw [if_pos c27] at H
                  have c27b0 : decide (0 ≤ x16_2) = true := decide_eq_true c27
                  clear c27
                  by_cases c29 : (bt t272 x16_2) = 69
                  · rw [if_pos c29] at H
                    have c29b0 : ((bt t272 x16_2) == 69) = true := beq_iff_eq.mpr c29
                    have c29b1 : ((bt t272 x16_2) != 69) = false := bne_eq_false_iff_eq.mpr c29
                    clear c29
                    have H' := Aside0.mk H
                    clear H
                    have p28 : 0 ≤ (x16_2 : Int) := of_decide_eq_true (by first | (with_reducible assumption) | assumption)
                    have q28 : x16_2 < (t272.size : Int) := of_decide_eq_true (by first | (with_reducible assumption) | assumption)
                    have hx28 := bt_at t272 x16_2
                    replace p28 := eq_true p28
                    replace q28 := eq_true q28
                    obtain ⟨hcz30_0, hcz30_1, hcz30_2, hcz30_3, hcz30_4, hcz30_5, hcz30_6, hcz30_7, hcz30_8, hcz30_9, hcz30_10, hfz30_0, hfz30_1, hfz30_2, hfz30_3, hfz30_4, hfz30_5, hfz30_6, hfz30_7, hfz30_8, hfz30_9, hfz30_10⟩ := blk_all11 BK275.out
                    go_wp2
                    repeat (go_quiet (fail); try go_wp2)
                    go_roundg k2
                    case measure => have := HK1.out; have := HK2.out; omega
                    case rel => exact ⟨(wrap64 (x16_2 + 1)), (a1), (x276003_2), (x276006_2), (x276008_2), (x276009_2), (u276009), (by first | rfl | (simp; done) | (simp [*]; done)), H', ⟨by have := HK1.out; have := HK2.out; omega⟩, ⟨by (with_reducible repeat (first | apply Kd.V_alloc | apply Kd.V_drewN | apply Kd.V_drew)); exact Kd.V_far (p := ⟨gb275, 1, none⟩) HO_276009.out (fun _ hk => hk) (.int .u32 a1)⟩, ⟨by (with_reducible repeat (first | apply bd1 | apply bd2 | apply bd3)); refine blk_put (cs := #[.int .i64 a0, .int .u32 x276001_2, .int .u32 0, .int .u64 x276003_2, .int .u64 0, .int .u32 0, .int .i64 x276006_2, .bool false, .int .i64 x276008_2, u276009, .slice none 0 0]) ?_ 1 _ rfl; (with_reducible repeat (first | apply bd1 | apply bd2 | apply bd3)); exact BK275.out⟩, ⟨by repeat (first | (with_reducible first | exact HB.out | apply below_alloc | apply pw_below_drewN | apply below_drew1 | refine below_set ?_ GE275.out) | exact HB.out)⟩⟩
                  · rw [if_neg c29] at H
                    have c29b0 : ((bt t272 x16_2) == 69) = false := beq_eq_false_iff_ne.mpr c29
                    have c29b1 : ((bt t272 x16_2) != 69) = true := bne_iff_ne.mpr c29
                    by_cases c31 : (bt t272 x16_2) = 76
                    · rw [if_pos c31] at H
                      have c31b0 : ((bt t272 x16_2) == 76) = true := beq_iff_eq.mpr c31
                      have c31b1 : ((bt t272 x16_2) != 76) = false := bne_eq_false_iff_eq.mpr c31
                      clear c31
                      have H' := Aside0.mk H
                      clear H
                      have p28 : 0 ≤ (x16_2 : Int) := of_decide_eq_true (by first | (with_reducible assumption) | assumption)
                      have q28 : x16_2 < (t272.size : Int) := of_decide_eq_true (by first | (with_reducible assumption) | assumption)
                      have hx28 := bt_at t272 x16_2
                      replace p28 := eq_true p28
                      replace q28 := eq_true q28
                      obtain ⟨hcz32_0, hcz32_1, hcz32_2, hcz32_3, hcz32_4, hcz32_5, hcz32_6, hcz32_7, hcz32_8, hcz32_9, hcz32_10, hfz32_0, hfz32_1, hfz32_2, hfz32_3, hfz32_4, hfz32_5, hfz32_6, hfz32_7, hfz32_8, hfz32_9, hfz32_10⟩ := blk_all11 BK275.out
                      go_wp2
                      repeat (go_quiet (fail); try go_wp2)
                      go_roundg k2
                      case measure => have := HK1.out; have := HK2.out; omega
                      case rel => exact ⟨(wrap64 (x16_2 + 1)), (x276001_2), (a2), (x276006_2), (x276008_2), (x276009_2), (u276009), (by first | rfl | (simp; done) | (simp [*]; done)), H', ⟨by have := HK1.out; have := HK2.out; omega⟩, ⟨by (with_reducible repeat (first | apply Kd.V_alloc | apply Kd.V_drewN | apply Kd.V_drew)); exact Kd.V_far (p := ⟨gb275, 3, none⟩) HO_276009.out (fun _ hk => hk) (.int .u64 a2)⟩, ⟨by (with_reducible repeat (first | apply bd1 | apply bd2 | apply bd3)); refine blk_put (cs := #[.int .i64 a0, .int .u32 x276001_2, .int .u32 0, .int .u64 x276003_2, .int .u64 0, .int .u32 0, .int .i64 x276006_2, .bool false, .int .i64 x276008_2, u276009, .slice none 0 0]) ?_ 3 _ rfl; (with_reducible repeat (first | apply bd1 | apply bd2 | apply bd3)); exact BK275.out⟩, ⟨by repeat (first | (with_reducible first | exact HB.out | apply below_alloc | apply pw_below_drewN | apply below_drew1 | refine below_set ?_ GE275.out) | exact HB.out)⟩⟩
                    · rw [if_neg c31] at H
                      have c31b0 : ((bt t272 x16_2) == 76) = false := beq_eq_false_iff_ne.mpr c31
                      have c31b1 : ((bt t272 x16_2) != 76) = true := bne_iff_ne.mpr c31
                      by_cases c33 : (bt t272 x16_2) = 83
                      · rw [if_pos c33] at H
                        have c33b0 : ((bt t272 x16_2) == 83) = true := beq_iff_eq.mpr c33
                        have c33b1 : ((bt t272 x16_2) != 83) = false := bne_eq_false_iff_eq.mpr c33
                        clear c33
                        have H' := Aside0.mk H
                        clear H
                        have p28 : 0 ≤ (x16_2 : Int) := of_decide_eq_true (by first | (with_reducible assumption) | assumption)
                        have q28 : x16_2 < (t272.size : Int) := of_decide_eq_true (by first | (with_reducible assumption) | assumption)
                        have hx28 := bt_at t272 x16_2
                        replace p28 := eq_true p28
                        replace q28 := eq_true q28
                        obtain ⟨hcz34_0, hcz34_1, hcz34_2, hcz34_3, hcz34_4, hcz34_5, hcz34_6, hcz34_7, hcz34_8, hcz34_9, hcz34_10, hfz34_0, hfz34_1, hfz34_2, hfz34_3, hfz34_4, hfz34_5, hfz34_6, hfz34_7, hfz34_8, hfz34_9, hfz34_10⟩ := blk_all11 BK275.out
                        go_wp2
                        repeat (go_quiet (fail); try go_wp2)
                        go_roundg k2
                        case measure => have := HK1.out; have := HK2.out; omega
                        case rel => exact ⟨(wrap64 (x16_2 + 1)), (x276001_2), (x276003_2), (wrap64 (Int.tmod (IntKind.u64.wrap (a3)) 16)), (x276008_2), (x276009_2), (u276009), (by first | rfl | (simp; done) | (simp [*]; done)), H', ⟨by have := HK1.out; have := HK2.out; omega⟩, ⟨by (with_reducible repeat (first | apply Kd.V_alloc | apply Kd.V_drewN | apply Kd.V_drew)); exact Kd.V_far (p := ⟨gb275, 6, none⟩) HO_276009.out (fun _ hk => hk) (.int .i64 (wrap64 (Int.tmod (IntKind.u64.wrap (a3)) 16)))⟩, ⟨by (with_reducible repeat (first | apply bd1 | apply bd2 | apply bd3)); refine blk_put (cs := #[.int .i64 a0, .int .u32 x276001_2, .int .u32 0, .int .u64 x276003_2, .int .u64 0, .int .u32 0, .int .i64 x276006_2, .bool false, .int .i64 x276008_2, u276009, .slice none 0 0]) ?_ 6 _ rfl; (with_reducible repeat (first | apply bd1 | apply bd2 | apply bd3)); exact BK275.out⟩, ⟨by repeat (first | (with_reducible first | exact HB.out | apply below_alloc | apply pw_below_drewN | apply below_drew1 | refine below_set ?_ GE275.out) | exact HB.out)⟩⟩
                      · rw [if_neg c33] at H
                        have c33b0 : ((bt t272 x16_2) == 83) = false := beq_eq_false_iff_ne.mpr c33
                        have c33b1 : ((bt t272 x16_2) != 83) = true := bne_iff_ne.mpr c33
                        by_cases c35 : (bt t272 x16_2) = 67
                        · rw [if_pos c35] at H
                          have c35b0 : ((bt t272 x16_2) == 67) = true := beq_iff_eq.mpr c35
                          have c35b1 : ((bt t272 x16_2) != 67) = false := bne_eq_false_iff_eq.mpr c35
                          clear c35
                          have H' := Aside0.mk H
                          clear H
                          have p28 : 0 ≤ (x16_2 : Int) := of_decide_eq_true (by first | (with_reducible assumption) | assumption)
                          have q28 : x16_2 < (t272.size : Int) := of_decide_eq_true (by first | (with_reducible assumption) | assumption)
                          have hx28 := bt_at t272 x16_2
                          replace p28 := eq_true p28
                          replace q28 := eq_true q28
                          obtain ⟨hcz36_0, hcz36_1, hcz36_2, hcz36_3, hcz36_4, hcz36_5, hcz36_6, hcz36_7, hcz36_8, hcz36_9, hcz36_10, hfz36_0, hfz36_1, hfz36_2, hfz36_3, hfz36_4, hfz36_5, hfz36_6, hfz36_7, hfz36_8, hfz36_9, hfz36_10⟩ := blk_all11 BK275.out
                          go_wp2
                          repeat (go_quiet (fail); try go_wp2)
                          go_roundg k2
                          case measure => have := HK1.out; have := HK2.out; omega
                          case rel => exact ⟨(wrap64 (x16_2 + 1)), (x276001_2), (x276003_2), (x276006_2), (wrap64 (Int.tmod (IntKind.u64.wrap (a4)) 256)), (x276009_2), (u276009), (by first | rfl | (simp; done) | (simp [*]; done)), H', ⟨by have := HK1.out; have := HK2.out; omega⟩, ⟨by (with_reducible repeat (first | apply Kd.V_alloc | apply Kd.V_drewN | apply Kd.V_drew)); exact Kd.V_far (p := ⟨gb275, 8, none⟩) HO_276009.out (fun _ hk => hk) (.int .i64 (wrap64 (Int.tmod (IntKind.u64.wrap (a4)) 256)))⟩, ⟨by (with_reducible repeat (first | apply bd1 | apply bd2 | apply bd3)); refine blk_put (cs := #[.int .i64 a0, .int .u32 x276001_2, .int .u32 0, .int .u64 x276003_2, .int .u64 0, .int .u32 0, .int .i64 x276006_2, .bool false, .int .i64 x276008_2, u276009, .slice none 0 0]) ?_ 8 _ rfl; (with_reducible repeat (first | apply bd1 | apply bd2 | apply bd3)); exact BK275.out⟩, ⟨by repeat (first | (with_reducible first | exact HB.out | apply below_alloc | apply pw_below_drewN | apply below_drew1 | refine below_set ?_ GE275.out) | exact HB.out)⟩⟩
                        · rw [if_neg c35] at H
                          have c35b0 : ((bt t272 x16_2) == 67) = false := beq_eq_false_iff_ne.mpr c35
                          have c35b1 : ((bt t272 x16_2) != 67) = true := bne_iff_ne.mpr c35
                          by_cases c37 : (bt t272 x16_2) = 75
                          · rw [if_pos c37] at H
                            have c37b0 : ((bt t272 x16_2) == 75) = true := beq_iff_eq.mpr c37
                            have c37b1 : ((bt t272 x16_2) != 75) = false := bne_eq_false_iff_eq.mpr c37
                            clear c37
                            obtain ⟨y278, hy278⟩ : ∃ y_ : List Int, y_ = (([107] : List Int)) := ⟨_, rfl⟩
                            replace H : (drayagelaw05_NoteNames.l2 k2 a0 a1 a2 a3 a4 t272 (wrap64 (x16_2 + 1)) a0 x276001_2 0 x276003_2 0 0 x276006_2 false x276008_2 y278) = some r := by first | (rw [hy278]; with_reducible exact H) | (have H2_ := (Option.bind_some _ _).symm.trans H; rw [hy278]; with_reducible exact H2_) | (have H2_ := (Option.bind_some _ _).symm.trans H; with_reducible exact H2_) | with_reducible exact H | (rw [hy278]; exact H) | exact H
                            have Ny278 := Aside0.mk hy278
                            clear hy278
                            have H' := Aside0.mk H
                            clear H
                            have p28 : 0 ≤ (x16_2 : Int) := of_decide_eq_true (by first | (with_reducible assumption) | assumption)
                            have q28 : x16_2 < (t272.size : Int) := of_decide_eq_true (by first | (with_reducible assumption) | assumption)
                            have hx28 := bt_at t272 x16_2
                            replace p28 := eq_true p28
                            replace q28 := eq_true q28
                            have hy278 := Ny278.out
                            clear Ny278
                            subst hy278
                            have kc := fun (w : World) (C : Array Value) (n c : Nat) => Lib.run_convert_bytes_const (P := Try.prog) w 24 5 C n c Try.underlying24 Try.underlying5
                            rename World => wk
                            obtain ⟨xc0, xc1, xc2, xc3, xc4, xc5, xc6, xc7, xc8, xc9, xc10, xf0, xf1, xf2, xf3, xf4, xf5, xf6, xf7, xf8, xf9, xf10⟩ := blk_all11 (bd3 (.cells #[.int .u8 107] 5 (1, 2)) BK275.out)
                            have GNE := Aside0.mk (show wk.heap.size ≠ gb275 from Nat.ne_of_gt (blk_lt BK275.out))
                            go_wp2

                            go_roundg k2
                            case measure => have := HK1.out; have := HK2.out; omega
                            case rel => exact ⟨(wrap64 (x16_2 + 1)), (x276001_2), (x276003_2), (x276006_2), (x276008_2), ([107]), (.slice (some ⟨wk.heap.size, 0, none⟩) 1 1), (by first | rfl | (simp; done) | (simp [*]; done)), H', ⟨by have := HK1.out; have := HK2.out; omega⟩, ⟨by (with_reducible repeat (first | apply Kd.V_alloc | apply Kd.V_drewN | apply Kd.V_drew)); exact Kd.V_far (p := ⟨gb275, 9, none⟩) (lit_V _ _ GNE.out) (fun _ hk => hk) (.slice (some ⟨wk.heap.size, 0, none⟩) 1 1)⟩, ⟨by (with_reducible repeat (first | apply bd1 | apply bd2 | apply bd3)); refine blk_put (cs := #[.int .i64 a0, .int .u32 x276001_2, .int .u32 0, .int .u64 x276003_2, .int .u64 0, .int .u32 0, .int .i64 x276006_2, .bool false, .int .i64 x276008_2, u276009, .slice none 0 0]) ?_ 9 _ rfl; (with_reducible repeat (first | apply bd1 | apply bd2 | apply bd3)); exact BK275.out⟩, ⟨by repeat (first | (with_reducible first | exact HB.out | apply below_alloc | apply pw_below_drewN | apply below_drew1 | refine below_set ?_ GE275.out) | exact HB.out)⟩⟩
                          · rw [if_neg c37] at H
                            have c37b0 : ((bt t272 x16_2) == 75) = false := beq_eq_false_iff_ne.mpr c37
                            have c37b1 : ((bt t272 x16_2) != 75) = true := bne_iff_ne.mpr c37
                            have H' := Aside0.mk H
                            clear H
                            have p28 : 0 ≤ (x16_2 : Int) := of_decide_eq_true (by first | (with_reducible assumption) | assumption)
                            have q28 : x16_2 < (t272.size : Int) := of_decide_eq_true (by first | (with_reducible assumption) | assumption)
                            have hx28 := bt_at t272 x16_2
                            replace p28 := eq_true p28
                            replace q28 := eq_true q28
                            go_wp2
                            repeat (go_quiet (fail); try go_wp2)
                            go_roundg k2
                            case measure => have := HK1.out; have := HK2.out; omega
                            case rel => exact ⟨(wrap64 (x16_2 + 1)), (x276001_2), (x276003_2), (x276006_2), (x276008_2), (x276009_2), (u276009), (by first | rfl | (simp; done) | (simp [*]; done)), H', ⟨by have := HK1.out; have := HK2.out; omega⟩, ⟨by (with_reducible repeat (first | apply Kd.V_alloc | apply Kd.V_drewN | apply Kd.V_drew)); exact HO_276009.out⟩, ⟨by (with_reducible repeat (first | apply bd1 | apply bd2 | apply bd3)); exact BK275.out⟩, ⟨by repeat (first | (with_reducible first | exact HB.out | apply below_alloc | apply pw_below_drewN | apply below_drew1 | refine below_set ?_ GE275.out) | exact HB.out)⟩⟩
                · rw [if_neg c27] at H
                  exact absurd H (by simp)
              · rw [if_neg c26] at H
                have c26b0 : decide (x16_2 < (t272.size : Int)) = false := decide_eq_false c26
                clear c26
                replace H := Option.bind_eq_some_iff.mp H
                obtain ⟨t276, A420, H⟩ := H
                replace H : (if t276 = 0 then (if a0 ≥ 1 then (if a0 ≤ 13 then ((drayagelaw05_known.f k2).bind fun t277 => (some t277)) else (none)) else (none)) else (none)) = some r := H
                have A42 := Aside0.mk A420
                clear A420
                by_cases c43 : t276 = 0
                · rw [if_pos c43] at H
                  have c43b0 : (t276 == 0) = true := beq_iff_eq.mpr c43
                  have c43b1 : (t276 != 0) = false := bne_eq_false_iff_eq.mpr c43
                  clear c43
                  by_cases c44 : a0 ≥ 1
                  · rw [if_pos c44] at H
                    have c44b0 : decide (1 ≤ a0) = true := decide_eq_true c44
                    clear c44
                    by_cases c45 : a0 ≤ 13
                    · rw [if_pos c45] at H
                      have c45b0 : decide (a0 ≤ 13) = true := decide_eq_true c45
                      clear c45
                      replace H := Option.bind_eq_some_iff.mp H
                      obtain ⟨t277, A460, H⟩ := H
                      replace H : (some t277) = some r := H
                      have A46 := Aside0.mk A460
                      clear A460
                      obtain rfl := Option.some.inj H
                      obtain ⟨hcz47_0, hcz47_1, hcz47_2, hcz47_3, hcz47_4, hcz47_5, hcz47_6, hcz47_7, hcz47_8, hcz47_9, hcz47_10, hfz47_0, hfz47_1, hfz47_2, hfz47_3, hfz47_4, hfz47_5, hfz47_6, hfz47_7, hfz47_8, hfz47_9, hfz47_10⟩ := blk_all11 BK275.out
                      obtain ⟨Ao48, co48, eo48⟩ := Kd.V_slice HO_276009.out
                      subst eo48
                      go_wp2_with (first | (go_at_call 14; (refine (note_Check.calls a0 x276001_2 0 x276003_2 0 0 x276006_2 false x276008_2 _ _ x276009_2 _ _ ([] : List Int) t276 _ ?side1 ?side2 ?side3 ?side4 A42.out).mono ?_); (case side1 => repeat (first | exact (Kd.V_reads' HO_276009.out).2.2 | (with_reducible refine Kd.C_alloc ?_ _) | (with_reducible refine Kd.C_drewN ?_ _) | (with_reducible refine Kd.C_drew ?_))); (case side2 => exact (Kd.V_reads' HO_276009.out).2.1); (case side3 => exact Kd.C_nil _ _); (case side4 => exact Nat.le_refl _); rintro e w49 ⟨rfl, hb⟩; have n0_ := Aside0.mk (Kd.V_below (by (with_reducible repeat (first | apply Kd.V_alloc | apply Kd.V_drewN | apply Kd.V_drew)); exact HO_276009.out) hb); have n1_ := Aside0.mk (blk_below (g := gb275) (o := .cells #[.int .i64 a0, .int .u32 x276001_2, .int .u32 0, .int .u64 x276003_2, .int .u64 0, .int .u32 0, .int .i64 x276006_2, .bool false, .int .i64 x276008_2, .slice Ao48 x276009_2.length co48, .slice none 0 0] 26 (0, 0)) (by (with_reducible repeat (first | apply bd1 | apply bd2 | apply bd3)); exact BK275.out) hb); have n2_ := Aside0.mk (below_step (by repeat (first | (with_reducible first | exact HB.out | apply below_alloc | apply pw_below_drewN | apply below_drew1 | refine below_set ?_ GE275.out) | exact HB.out)) hb); clear HO_276009; clear BK275; clear HB; have HO_276009 := n0_; have BK275 := n1_; have HB := n2_; clear n0_ n1_ n2_; (try clear hb); (try clear hb2); (try clear hk); (try clear hi)) | (go_at_call 11; (with_reducible refine (drayagelaw05_known.calls k2  t277 _ A46.out).mono ?_); rintro e w50 ⟨rfl, hb⟩; have n0_ := Aside0.mk (Kd.V_below (by (with_reducible repeat (first | apply Kd.V_alloc | apply Kd.V_drewN | apply Kd.V_drew)); exact HO_276009.out) hb); have n1_ := Aside0.mk (blk_below (g := gb275) (o := .cells #[.int .i64 a0, .int .u32 x276001_2, .int .u32 0, .int .u64 x276003_2, .int .u64 0, .int .u32 0, .int .i64 x276006_2, .bool false, .int .i64 x276008_2, .slice Ao48 x276009_2.length co48, .slice none 0 0] 26 (0, 0)) (by (with_reducible repeat (first | apply bd1 | apply bd2 | apply bd3)); exact BK275.out) hb); have n2_ := Aside0.mk (below_step (by repeat (first | (with_reducible first | exact HB.out | apply below_alloc | apply pw_below_drewN | apply below_drew1 | refine below_set ?_ GE275.out) | exact HB.out)) hb); clear HO_276009; clear BK275; clear HB; have HO_276009 := n0_; have BK275 := n1_; have HB := n2_; clear n0_ n1_ n2_; (try clear hb); (try clear hb2); (try clear hk); (try clear hi)))
                      repeat (go_quiet (first | (go_at_call 14; (refine (note_Check.calls a0 x276001_2 0 x276003_2 0 0 x276006_2 false x276008_2 _ _ x276009_2 _ _ ([] : List Int) t276 _ ?side1 ?side2 ?side3 ?side4 A42.out).mono ?_); (case side1 => repeat (first | exact (Kd.V_reads' HO_276009.out).2.2 | (with_reducible refine Kd.C_alloc ?_ _) | (with_reducible refine Kd.C_drewN ?_ _) | (with_reducible refine Kd.C_drew ?_))); (case side2 => exact (Kd.V_reads' HO_276009.out).2.1); (case side3 => exact Kd.C_nil _ _); (case side4 => exact Nat.le_refl _); rintro e w49 ⟨rfl, hb⟩; have n0_ := Aside0.mk (Kd.V_below (by (with_reducible repeat (first | apply Kd.V_alloc | apply Kd.V_drewN | apply Kd.V_drew)); exact HO_276009.out) hb); have n1_ := Aside0.mk (blk_below (g := gb275) (o := .cells #[.int .i64 a0, .int .u32 x276001_2, .int .u32 0, .int .u64 x276003_2, .int .u64 0, .int .u32 0, .int .i64 x276006_2, .bool false, .int .i64 x276008_2, .slice Ao48 x276009_2.length co48, .slice none 0 0] 26 (0, 0)) (by (with_reducible repeat (first | apply bd1 | apply bd2 | apply bd3)); exact BK275.out) hb); have n2_ := Aside0.mk (below_step (by repeat (first | (with_reducible first | exact HB.out | apply below_alloc | apply pw_below_drewN | apply below_drew1 | refine below_set ?_ GE275.out) | exact HB.out)) hb); clear HO_276009; clear BK275; clear HB; have HO_276009 := n0_; have BK275 := n1_; have HB := n2_; clear n0_ n1_ n2_; (try clear hb); (try clear hb2); (try clear hk); (try clear hi)) | (go_at_call 11; (with_reducible refine (drayagelaw05_known.calls k2  t277 _ A46.out).mono ?_); rintro e w50 ⟨rfl, hb⟩; have n0_ := Aside0.mk (Kd.V_below (by (with_reducible repeat (first | apply Kd.V_alloc | apply Kd.V_drewN | apply Kd.V_drew)); exact HO_276009.out) hb); have n1_ := Aside0.mk (blk_below (g := gb275) (o := .cells #[.int .i64 a0, .int .u32 x276001_2, .int .u32 0, .int .u64 x276003_2, .int .u64 0, .int .u32 0, .int .i64 x276006_2, .bool false, .int .i64 x276008_2, .slice Ao48 x276009_2.length co48, .slice none 0 0] 26 (0, 0)) (by (with_reducible repeat (first | apply bd1 | apply bd2 | apply bd3)); exact BK275.out) hb); have n2_ := Aside0.mk (below_step (by repeat (first | (with_reducible first | exact HB.out | apply below_alloc | apply pw_below_drewN | apply below_drew1 | refine below_set ?_ GE275.out) | exact HB.out)) hb); clear HO_276009; clear BK275; clear HB; have HO_276009 := n0_; have BK275 := n1_; have HB := n2_; clear n0_ n1_ n2_; (try clear hb); (try clear hb2); (try clear hk); (try clear hi))); try go_wp2_with (first | (go_at_call 14; (refine (note_Check.calls a0 x276001_2 0 x276003_2 0 0 x276006_2 false x276008_2 _ _ x276009_2 _ _ ([] : List Int) t276 _ ?side1 ?side2 ?side3 ?side4 A42.out).mono ?_); (case side1 => repeat (first | exact (Kd.V_reads' HO_276009.out).2.2 | (with_reducible refine Kd.C_alloc ?_ _) | (with_reducible refine Kd.C_drewN ?_ _) | (with_reducible refine Kd.C_drew ?_))); (case side2 => exact (Kd.V_reads' HO_276009.out).2.1); (case side3 => exact Kd.C_nil _ _); (case side4 => exact Nat.le_refl _); rintro e w49 ⟨rfl, hb⟩; have n0_ := Aside0.mk (Kd.V_below (by (with_reducible repeat (first | apply Kd.V_alloc | apply Kd.V_drewN | apply Kd.V_drew)); exact HO_276009.out) hb); have n1_ := Aside0.mk (blk_below (g := gb275) (o := .cells #[.int .i64 a0, .int .u32 x276001_2, .int .u32 0, .int .u64 x276003_2, .int .u64 0, .int .u32 0, .int .i64 x276006_2, .bool false, .int .i64 x276008_2, .slice Ao48 x276009_2.length co48, .slice none 0 0] 26 (0, 0)) (by (with_reducible repeat (first | apply bd1 | apply bd2 | apply bd3)); exact BK275.out) hb); have n2_ := Aside0.mk (below_step (by repeat (first | (with_reducible first | exact HB.out | apply below_alloc | apply pw_below_drewN | apply below_drew1 | refine below_set ?_ GE275.out) | exact HB.out)) hb); clear HO_276009; clear BK275; clear HB; have HO_276009 := n0_; have BK275 := n1_; have HB := n2_; clear n0_ n1_ n2_; (try clear hb); (try clear hb2); (try clear hk); (try clear hi)) | (go_at_call 11; (with_reducible refine (drayagelaw05_known.calls k2  t277 _ A46.out).mono ?_); rintro e w50 ⟨rfl, hb⟩; have n0_ := Aside0.mk (Kd.V_below (by (with_reducible repeat (first | apply Kd.V_alloc | apply Kd.V_drewN | apply Kd.V_drew)); exact HO_276009.out) hb); have n1_ := Aside0.mk (blk_below (g := gb275) (o := .cells #[.int .i64 a0, .int .u32 x276001_2, .int .u32 0, .int .u64 x276003_2, .int .u64 0, .int .u32 0, .int .i64 x276006_2, .bool false, .int .i64 x276008_2, .slice Ao48 x276009_2.length co48, .slice none 0 0] 26 (0, 0)) (by (with_reducible repeat (first | apply bd1 | apply bd2 | apply bd3)); exact BK275.out) hb); have n2_ := Aside0.mk (below_step (by repeat (first | (with_reducible first | exact HB.out | apply below_alloc | apply pw_below_drewN | apply below_drew1 | refine below_set ?_ GE275.out) | exact HB.out)) hb); clear HO_276009; clear BK275; clear HB; have HO_276009 := n0_; have BK275 := n1_; have HB := n2_; clear n0_ n1_ n2_; (try clear hb); (try clear hb2); (try clear hk); (try clear hi))))
                      go_ret
                      exact ⟨by first | rfl | (simp [errW_none, errW_some] <;> rfl) | (simp [*, errW_none, errW_some] <;> rfl), by repeat (first | (with_reducible first | exact HB.out | apply below_alloc | apply pw_below_drewN | apply below_drew1 | refine below_set ?_ GE275.out) | exact HB.out)⟩
                    · rw [if_neg c45] at H
                      exact absurd H (by simp)
                  · rw [if_neg c44] at H
                    exact absurd H (by simp)
                · rw [if_neg c43] at H
                  exact absurd H (by simp)

end Go.Proofs.Ytohnlhklijpafaa.PA
