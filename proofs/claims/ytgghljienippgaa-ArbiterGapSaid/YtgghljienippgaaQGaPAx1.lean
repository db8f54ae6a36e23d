-- printed by a program of this work (wip/tools/pr.py over the kit's print): the machine's side of ArbiterGap, ArbiterHolds
import Derived.Test.YtgghljienippgaaQGaPAx0
namespace Go.Proofs.Ytgghljienippgaa.PA
open Go.RowKit Go.Proofs.YtgghljienippgaaW.PrintWords Go.Proofs.YtgghljienippgaaW.PrintLast Go.Proofs.YtgghljienippgaaW.PrintMore
attribute [local go_sem] max2_int min2_int max_two min_two max_three min_three max_four min_four   -- for this text's walks alone
set_option linter.unusedVariables false
set_option linter.unusedSimpArgs false

/-! ### arbiter_span: function 30 -/
def arbiter_span.f (a0 : Int) : Option (Bool) := if a0 ≥ 1 then (some (decide (a0 ≤ 10000))) else (some false)
set_option maxHeartbeats 8000000 in
set_option maxRecDepth 100000 in
theorem arbiter_span.calls (a0 : Int) (r : Bool) (w : World) (h : arbiter_span.f a0 = some r) :
    Calls Try.prog 30 #[.int .u64 a0] w fun e w' => e = .returned (.bool r) ∧ Drawn0 w w' := by
  have H : (if a0 ≥ 1 then (some (decide (a0 ≤ 10000))) else (some false)) = some r := h
  clear h
  by_cases c2 : a0 ≥ 1
  · rw [if_pos c2] at H
    have c2b0 : decide (1 ≤ a0) = true := decide_eq_true c2
    clear c2
    obtain rfl := Option.some.inj H
    go_enter Try.func30, Try.ntmps30
    go_wp2
    go_ret
    exact ⟨by first | rfl | (simp; done) | (simp [*]; done), by repeat (first | exact Drawn0.refl _ | apply Drawn0.step)⟩
  · rw [if_neg c2] at H
    have c2b0 : decide (1 ≤ a0) = false := decide_eq_false c2
    clear c2
    obtain rfl := Option.some.inj H
    go_enter Try.func30, Try.ntmps30
    go_wp2
    go_ret
    exact ⟨by first | rfl | (simp; done) | (simp [*]; done), by repeat (first | exact Drawn0.refl _ | apply Drawn0.step)⟩

-- arbiter_New (function 10) stands ahead of arbiter_code

/-! ### note_Names: function 55 -/
mutual
def note_Names.j0 : Nat → Int → Bool → Option (ByteArray)
  | 0, _, _ => none
  | k + 1, x3, x6 => if x6 = true then (some (⟨#[69, 76]⟩ : ByteArray)) else (if x3 = 4 then (note_Names.j1 k x3 (x3 == 4)) else (note_Names.j1 k x3 (x3 == 6)))
def note_Names.j1 : Nat → Int → Bool → Option (ByteArray)
  | 0, _, _ => none
  | k + 1, x3, x9 => if x9 = true then (some (⟨#[69, 67]⟩ : ByteArray)) else (if x3 = 5 then (some (⟨#[69, 84, 67]⟩ : ByteArray)) else (if x3 = 7 then (some (⟨#[69, 79, 83, 85, 68]⟩ : ByteArray)) else (if x3 = 8 then (some (⟨#[69, 79, 83, 85, 67, 68]⟩ : ByteArray)) else (if x3 = 9 then (some (⟨#[69, 79, 83, 85]⟩ : ByteArray)) else (if x3 = 10 then (some (⟨#[75, 68]⟩ : ByteArray)) else (if x3 = 11 then (note_Names.j2 k x3 (x3 == 11)) else (note_Names.j2 k x3 (x3 == 12))))))))
def note_Names.j2 : Nat → Int → Bool → Option (ByteArray)
  | 0, _, _ => none
  | k + 1, x3, x22 => if x22 = true then (some (⟨#[75]⟩ : ByteArray)) else (if x3 = 13 then (some (⟨#[79, 67, 75, 68]⟩ : ByteArray)) else (some (⟨#[]⟩ : ByteArray)))
end
def note_Names.f (k : Nat) (a0 : Int) : Option (ByteArray) := if a0 = 1 then (some (⟨#[69, 80, 76, 68]⟩ : ByteArray)) else (if a0 = 2 then (note_Names.j0 k a0 (a0 == 2)) else (note_Names.j0 k a0 (a0 == 3)))

set_option maxHeartbeats 8000000 in
set_option maxRecDepth 100000 in
theorem note_Names.calls (k : Nat) (a0 : Int) (r : ByteArray) (w : World) (h : note_Names.f k a0 = some r) :
    Calls Try.prog 55 #[.int .i64 a0] w fun e w' => e = .returned (.string r) ∧ Drawn0 w w' := by
  have H : (if a0 = 1 then (some (⟨#[69, 80, 76, 68]⟩ : ByteArray)) else (if a0 = 2 then (note_Names.j0 k a0 (a0 == 2)) else (note_Names.j0 k a0 (a0 == 3)))) = some r := h
  clear h
  by_cases c2 : a0 = 1
  · rw [if_pos c2] at H
    have c2b0 : (a0 == 1) = true := beq_iff_eq.mpr c2
    have c2b1 : (a0 != 1) = false := bne_eq_false_iff_eq.mpr c2
    clear c2
    obtain rfl := Option.some.inj H
    go_enter Try.func55, Try.ntmps55
    go_wp2
    go_ret
    exact ⟨by first | rfl | (simp; done) | (simp [*]; done), by repeat (first | exact Drawn0.refl _ | apply Drawn0.step)⟩
  · rw [if_neg c2] at H
    have c2b0 : (a0 == 1) = false := beq_eq_false_iff_ne.mpr c2
    have c2b1 : (a0 != 1) = true := bne_iff_ne.mpr c2
    have HC3 := Aside0.mk H
    clear H
    go_enter Try.func55, Try.ntmps55
    go_upto_if 6 with (fail)
    go_cut [6] (fun v6 wc => ∃ (kq : Nat) (x6_2 : Bool), v6 = .bool x6_2 ∧ Aside0 (note_Names.j0 kq a0 x6_2 = some r) ∧ Aside0 (kq ≤ k) ∧ Drawn0 w wc)
    case first =>
      have H := HC3.out
      clear HC3
      by_cases c4 : a0 = 2
      · rw [if_pos c4] at H
        have c4b0 : (a0 == 2) = true := beq_iff_eq.mpr c4
        have c4b1 : (a0 != 2) = false := bne_eq_false_iff_eq.mpr c4
        clear c4
        (first | rw [c4b0] | (simp only [i64_w, i32_w]; rw [c4b0]) | skip)
        have H' := Aside0.mk H
        clear H
        go_wp2
        go_meet
        case rel => exact ⟨_, ((a0 == 2)), (by first | rfl | (simp; done) | (simp [*]; done)), H', ⟨by first | omega | exact Nat.le_refl _⟩, by repeat (first | exact Drawn0.refl _ | apply Drawn0.step)⟩
      · rw [if_neg c4] at H
        have c4b0 : (a0 == 2) = false := beq_eq_false_iff_ne.mpr c4
        have c4b1 : (a0 != 2) = true := bne_iff_ne.mpr c4
        (first | rw [c4b0] | (simp only [i64_w, i32_w]; rw [c4b0]) | skip)
        have H' := Aside0.mk H
        clear H
        go_wp2
        go_meet
        case rel => exact ⟨_, ((a0 == 3)), (by first | rfl | (simp; done) | (simp [*]; done)), H', ⟨by first | omega | exact Nat.le_refl _⟩, by repeat (first | exact Drawn0.refl _ | apply Drawn0.step)⟩
    case rest =>
      clear HC3
      try clear c2
      try clear c2b0
      try clear c2b1
      try clear p2
      try clear c4
      try clear c4b0
      try clear c4b1
      obtain ⟨kq, x6_2, rfl, HA, HJ2, ⟨mc2, rfl⟩⟩ := hcut
      cases kq with
      | zero => exact absurd HA.out (by simp [note_Names.j0])
      | succ kj2 =>
        have H := HA.out
        clear HA
        simp only [note_Names.j0] at H
        by_cases c5 : x6_2 = true
        · subst c5
          have H1 : (some (⟨#[69, 76]⟩ : ByteArray)) = some r := by rw [if_pos rfl] at H; exact H
          clear H
          have H := H1
          clear H1
          obtain rfl := Option.some.inj H
          go_wp2
          go_ret
          exact ⟨by first | rfl | (simp; done) | (simp [*]; done), by repeat (first | exact Drawn0.refl _ | apply Drawn0.step)⟩
        · replace c5 := Bool.eq_false_iff.mpr c5
          subst c5
          have H1 : (if a0 = 4 then (note_Names.j1 kj2 a0 (a0 == 4)) else (note_Names.j1 kj2 a0 (a0 == 6))) = some r := by rw [if_neg (show ¬ (false = true) by decide)] at H; exact H
          clear H
          have H := H1
          clear H1
          have HC6 := Aside0.mk H
          clear H
          go_upto_if 9 with (fail)
          go_cut [9] (fun v9 wc => ∃ (kq : Nat) (x9_5 : Bool), v9 = .bool x9_5 ∧ Aside0 (note_Names.j1 kq a0 x9_5 = some r) ∧ Aside0 (kq ≤ kj2) ∧ Drawn0 w wc)
          case first =>
            have H := HC6.out
            clear HC6
            by_cases c7 : a0 = 4
            · rw [if_pos c7] at H
              have c7b0 : (a0 == 4) = true := beq_iff_eq.mpr c7
              have c7b1 : (a0 != 4) = false := bne_eq_false_iff_eq.mpr c7
              clear c7
              (first | rw [c7b0] | (simp only [i64_w, i32_w]; rw [c7b0]) | skip)
              have H' := Aside0.mk H
              clear H
              go_wp2
              go_meet
              case rel => exact ⟨_, ((a0 == 4)), (by first | rfl | (simp; done) | (simp [*]; done)), H', ⟨by have := HJ2.out; first | omega | exact Nat.le_refl _⟩, by repeat (first | exact Drawn0.refl _ | apply Drawn0.step)⟩
            · rw [if_neg c7] at H
              have c7b0 : (a0 == 4) = false := beq_eq_false_iff_ne.mpr c7
              have c7b1 : (a0 != 4) = true := bne_iff_ne.mpr c7
              (first | rw [c7b0] | (simp only [i64_w, i32_w]; rw [c7b0]) | skip)
              have H' := Aside0.mk H
              clear H
              go_wp2
              go_meet
              case rel => exact ⟨_, ((a0 == 6)), (by first | rfl | (simp; done) | (simp [*]; done)), H', ⟨by have := HJ2.out; first | omega | exact Nat.le_refl _⟩, by repeat (first | exact Drawn0.refl _ | apply Drawn0.step)⟩
          case rest =>
            clear HC6
            try clear c2
            try clear c2b0
            try clear c2b1
            try clear p2
            try clear c4
            try clear c4b0
            try clear c4b1
            try clear c5
            try clear c7
            try clear c7b0
            try clear c7b1
            try clear p2
            obtain ⟨kq, x9_5, rfl, HA, HJ5, ⟨mc5, rfl⟩⟩ := hcut
            cases kq with
            | zero => exact absurd HA.out (by simp [note_Names.j1])
            | succ kj5 =>
              have H := HA.out
              clear HA
              simp only [note_Names.j1] at H
              by_cases c8 : x9_5 = true
              · subst c8
                have H1 : (some (⟨#[69, 67]⟩ : ByteArray)) = some r := by rw [if_pos rfl] at H; exact H
                clear H
                have H := H1
                clear H1
                obtain rfl := Option.some.inj H
                go_wp2
                go_ret
                exact ⟨by first | rfl | (simp; done) | (simp [*]; done), by repeat (first | exact Drawn0.refl _ | apply Drawn0.step)⟩
              · replace c8 := Bool.eq_false_iff.mpr c8
                subst c8
                have H1 : (if a0 = 5 then (some (⟨#[69, 84, 67]⟩ : ByteArray)) else (if a0 = 7 then (some (⟨#[69, 79, 83, 85, 68]⟩ : ByteArray)) else (if a0 = 8 then (some (⟨#[69, 79, 83, 85, 67, 68]⟩ : ByteArray)) else (if a0 = 9 then (some (⟨#[69, 79, 83, 85]⟩ : ByteArray)) else (if a0 = 10 then (some (⟨#[75, 68]⟩ : ByteArray)) else (if a0 = 11 then (note_Names.j2 kj5 a0 (a0 == 11)) else (note_Names.j2 kj5 a0 (a0 == 12)))))))) = some r := by rw [if_neg (show ¬ (false = true) by decide)] at H; exact H
                clear H
                have H := H1
                clear H1
                by_cases c9 : a0 = 5
                · rw [if_pos c9] at H
                  have c9b0 : (a0 == 5) = true := beq_iff_eq.mpr c9
                  have c9b1 : (a0 != 5) = false := bne_eq_false_iff_eq.mpr c9
                  clear c9
                  obtain rfl := Option.some.inj H
                  go_wp2
                  go_ret
                  exact ⟨by first | rfl | (simp; done) | (simp [*]; done), by repeat (first | exact Drawn0.refl _ | apply Drawn0.step)⟩
                · rw [if_neg c9] at H
                  have c9b0 : (a0 == 5) = false := beq_eq_false_iff_ne.mpr c9
                  have c9b1 : (a0 != 5) = true := bne_iff_ne.mpr c9
                  by_cases c10 : a0 = 7
                  · rw [if_pos c10] at H
                    have c10b0 : (a0 == 7) = true := beq_iff_eq.mpr c10
                    have c10b1 : (a0 != 7) = false := bne_eq_false_iff_eq.mpr c10
                    clear c10
                    obtain rfl := Option.some.inj H
                    go_wp2
                    go_ret
                    exact ⟨by first | rfl | (simp; done) | (simp [*]; done), by repeat (first | exact Drawn0.refl _ | apply Drawn0.step)⟩
                  · rw [if_neg c10] at H
                    have c10b0 : (a0 == 7) = false := beq_eq_false_iff_ne.mpr c10
                    have c10b1 : (a0 != 7) = true := bne_iff_ne.mpr c10
                    by_cases c11 : a0 = 8
                    · rw [if_pos c11] at H
                      have c11b0 : (a0 == 8) = true := beq_iff_eq.mpr c11
                      have c11b1 : (a0 != 8) = false := bne_eq_false_iff_eq.mpr c11
                      clear c11
                      obtain rfl := Option.some.inj H
                      go_wp2
                      go_ret
                      exact ⟨by first | rfl | (simp; done) | (simp [*]; done), by repeat (first | exact Drawn0.refl _ | apply Drawn0.step)⟩
                    · rw [if_neg c11] at H
                      have c11b0 : (a0 == 8) = false := beq_eq_false_iff_ne.mpr c11
                      have c11b1 : (a0 != 8) = true := bne_iff_ne.mpr c11
                      by_cases c12 : a0 = 9
                      · rw [if_pos c12] at H
                        have c12b0 : (a0 == 9) = true := beq_iff_eq.mpr c12
                        have c12b1 : (a0 != 9) = false := bne_eq_false_iff_eq.mpr c12
                        clear c12
                        obtain rfl := Option.some.inj H
                        go_wp2
                        go_ret
                        exact ⟨by first | rfl | (simp; done) | (simp [*]; done), by repeat (first | exact Drawn0.refl _ | apply Drawn0.step)⟩
                      · rw [if_neg c12] at H
                        have c12b0 : (a0 == 9) = false := beq_eq_false_iff_ne.mpr c12
                        have c12b1 : (a0 != 9) = true := bne_iff_ne.mpr c12
                        by_cases c13 : a0 = 10
                        · rw [if_pos c13] at H
                          have c13b0 : (a0 == 10) = true := beq_iff_eq.mpr c13
                          have c13b1 : (a0 != 10) = false := bne_eq_false_iff_eq.mpr c13
                          clear c13
                          obtain rfl := Option.some.inj H
                          go_wp2
                          go_ret
                          exact ⟨by first | rfl | (simp; done) | (simp [*]; done), by repeat (first | exact Drawn0.refl _ | apply Drawn0.step)⟩
                        · rw [if_neg c13] at H
                          have c13b0 : (a0 == 10) = false := beq_eq_false_iff_ne.mpr c13
                          have c13b1 : (a0 != 10) = true := bne_iff_ne.mpr c13
                          have HC14 := Aside0.mk H
                          clear H
                          go_upto_if 22 with (fail)
                          go_cut [22] (fun v22 wc => ∃ (kq : Nat) (x22_13 : Bool), v22 = .bool x22_13 ∧ Aside0 (note_Names.j2 kq a0 x22_13 = some r) ∧ Aside0 (kq ≤ kj5) ∧ Drawn0 w wc)
                          case first =>
                            have H := HC14.out
                            clear HC14
                            by_cases c15 : a0 = 11
                            · rw [if_pos c15] at H
                              have c15b0 : (a0 == 11) = true := beq_iff_eq.mpr c15
                              have c15b1 : (a0 != 11) = false := bne_eq_false_iff_eq.mpr c15
                              clear c15
                              (first | rw [c15b0] | (simp only [i64_w, i32_w]; rw [c15b0]) | skip)
                              have H' := Aside0.mk H
                              clear H
                              go_wp2
                              go_meet
                              case rel => exact ⟨_, ((a0 == 11)), (by first | rfl | (simp; done) | (simp [*]; done)), H', ⟨by have := HJ2.out; have := HJ5.out; first | omega | exact Nat.le_refl _⟩, by repeat (first | exact Drawn0.refl _ | apply Drawn0.step)⟩
                            · rw [if_neg c15] at H
                              have c15b0 : (a0 == 11) = false := beq_eq_false_iff_ne.mpr c15
                              have c15b1 : (a0 != 11) = true := bne_iff_ne.mpr c15
                              (first | rw [c15b0] | (simp only [i64_w, i32_w]; rw [c15b0]) | skip)
                              have H' := Aside0.mk H
                              clear H
                              go_wp2
                              go_meet
                              case rel => exact ⟨_, ((a0 == 12)), (by first | rfl | (simp; done) | (simp [*]; done)), H', ⟨by have := HJ2.out; have := HJ5.out; first | omega | exact Nat.le_refl _⟩, by repeat (first | exact Drawn0.refl _ | apply Drawn0.step)⟩
                          case rest =>
                            clear HC14
                            try clear c1
                            try clear c2
                            try clear c2b0
                            try clear c2b1
                            try clear p2
                            try clear c4
                            try clear c4b0
                            try clear c4b1
                            try clear c5
                            try clear c7
                            try clear c7b0
                            try clear c7b1
                            try clear c8
                            try clear c9
                            try clear c9b0
                            try clear c9b1
                            try clear c10
                            try clear c10b0
                            try clear c10b1
                            try clear c11
                            try clear c11b0
                            try clear c11b1
                            try clear c12
                            try clear c12b0
                            try clear c12b1
                            try clear c13
                            try clear c13b0
                            try clear c13b1
                            try clear c15
                            try clear c15b0
                            try clear c15b1
                            try clear p2
                            obtain ⟨kq, x22_13, rfl, HA, HJ13, ⟨mc13, rfl⟩⟩ := hcut
                            cases kq with
                            | zero => exact absurd HA.out (by simp [note_Names.j2])
                            | succ kj13 =>
                              have H := HA.out
                              clear HA
                              simp only [note_Names.j2] at H
                              by_cases c16 : x22_13 = true
                              · subst c16
                                have H1 : (some (⟨#[75]⟩ : ByteArray)) = some r := by rw [if_pos rfl] at H; exact H
                                clear H
                                have H := H1
                                clear H1
                                obtain rfl := Option.some.inj H
                                go_wp2
                                go_ret
                                exact ⟨by first | rfl | (simp; done) | (simp [*]; done), by repeat (first | exact Drawn0.refl _ | apply Drawn0.step)⟩
                              · replace c16 := Bool.eq_false_iff.mpr c16
                                subst c16
                                have H1 : (if a0 = 13 then (some (⟨#[79, 67, 75, 68]⟩ : ByteArray)) else (some (⟨#[]⟩ : ByteArray))) = some r := by rw [if_neg (show ¬ (false = true) by decide)] at H; exact H
                                clear H
                                have H := H1
                                clear H1
                                by_cases c17 : a0 = 13
                                · rw [if_pos c17] at H
                                  have c17b0 : (a0 == 13) = true := beq_iff_eq.mpr c17
                                  have c17b1 : (a0 != 13) = false := bne_eq_false_iff_eq.mpr c17
                                  clear c17
                                  obtain rfl := Option.some.inj H
                                  go_wp2
                                  go_ret
                                  exact ⟨by first | rfl | (simp; done) | (simp [*]; done), by repeat (first | exact Drawn0.refl _ | apply Drawn0.step)⟩
                                · rw [if_neg c17] at H
                                  have c17b0 : (a0 == 13) = false := beq_eq_false_iff_ne.mpr c17
                                  have c17b1 : (a0 != 13) = true := bne_iff_ne.mpr c17
                                  obtain rfl := Option.some.inj H
                                  go_wp2
                                  go_ret
                                  exact ⟨by first | rfl | (simp; done) | (simp [*]; done), by repeat (first | exact Drawn0.refl _ | apply Drawn0.step)⟩

/-! ### note_without: function 56 -/
def note_without.f (a0_0 : Int) (a0_1 : Int) (a0_2 : Int) (a0_3 : Int) (a0_4 : Int) (a0_5 : Int) (a0_6 : Int) (a0_7 : Bool) (a0_8 : Int) (l0_9 : List Int) (l0_10 : List Int) (a1 : Int) : Option (Int × Int × Int × Int × Int × Int × Int × Bool × Int × List Int × List Int) := if a1 = 69 then (some (a0_0, 0, a0_2, a0_3, a0_4, a0_5, a0_6, a0_7, a0_8, l0_9, l0_10)) else (if a1 = 80 then (some (a0_0, a0_1, 0, a0_3, a0_4, a0_5, a0_6, a0_7, a0_8, l0_9, l0_10)) else (if a1 = 76 then (some (a0_0, a0_1, a0_2, 0, a0_4, a0_5, a0_6, a0_7, a0_8, l0_9, l0_10)) else (if a1 = 84 then (some (a0_0, a0_1, a0_2, a0_3, 0, a0_5, a0_6, a0_7, a0_8, l0_9, l0_10)) else (if a1 = 79 then (some (a0_0, a0_1, a0_2, a0_3, a0_4, 0, a0_6, a0_7, a0_8, l0_9, l0_10)) else (if a1 = 83 then (some (a0_0, a0_1, a0_2, a0_3, a0_4, a0_5, 0, a0_7, a0_8, l0_9, l0_10)) else (if a1 = 85 then (some (a0_0, a0_1, a0_2, a0_3, a0_4, a0_5, a0_6, false, a0_8, l0_9, l0_10)) else (if a1 = 67 then (some (a0_0, a0_1, a0_2, a0_3, a0_4, a0_5, a0_6, a0_7, 0, l0_9, l0_10)) else (if a1 = 75 then (some (a0_0, a0_1, a0_2, a0_3, a0_4, a0_5, a0_6, a0_7, a0_8, ([] : List Int), l0_10)) else (if a1 = 68 then (some (a0_0, a0_1, a0_2, a0_3, a0_4, a0_5, a0_6, a0_7, a0_8, l0_9, ([] : List Int))) else (some (a0_0, a0_1, a0_2, a0_3, a0_4, a0_5, a0_6, a0_7, a0_8, l0_9, l0_10)))))))))))

/-! ### note_Check: function 31 (of a note that wants a lease) -/
set_option maxHeartbeats 8000000 in
set_option maxRecDepth 100000 in
theorem without_EC (p ep co : Int) (A9 : Option Addr) (c9 : Nat) (A10 : Option Addr) (c10 : Nat) (w : World) (hp : p = 69 ∨ p = 67) : Calls Try.prog 56 #[.agg #[.int .i64 4, .int .u32 ep, .int .u32 0, .int .u64 0, .int .u64 0, .int .u32 0, .int .i64 0, .bool false, .int .i64 co, .slice A9 0 c9, .slice A10 0 c10], .int .i32 p] w fun e w' => e = .returned (.agg #[.int .i64 4, .int .u32 (if p = 69 then 0 else ep), .int .u32 0, .int .u64 0, .int .u64 0, .int .u32 0, .int .i64 0, .bool false, .int .i64 (if p = 67 then 0 else co), .slice A9 0 c9, .slice A10 0 c10]) ∧ Below w.heap.size w w' := by
  rcases hp with rfl | rfl
  · go_enter Try.func56, Try.ntmps56
    go_wp2
    refine bodyPost_ret ?_ rfl ⟨rfl, ?_⟩
    · simp [results, Try.results56, go_sem]
    · repeat (first | exact Below.refl _ _ | apply below_alloc | refine below_set ?_ (by first | omega | (simp; omega) | simp))
  · go_enter Try.func56, Try.ntmps56
    go_wp2
    refine bodyPost_ret ?_ rfl ⟨rfl, ?_⟩
    · simp [results, Try.results56, go_sem]
    · repeat (first | exact Below.refl _ _ | apply below_alloc | refine below_set ?_ (by first | omega | (simp; omega) | simp))
theorem heap_last (w : World) (o : Obj) : (w.alloc o).heap[w.heap.size]? = some o := (MapKept.heap_alloc w o).1
theorem heap_last' {w : World} {n : Nat} (hn : n = w.heap.size) (o : Obj) : (w.alloc o).heap[n]? = some o := by subst hn; exact heap_last w o
theorem iterPos_of {W : World} {g : Nat} {s : ByteArray} {p : Nat} (h : W.heap[g]? = some (.stringIter s p)) : W.iterPos g = p := by simp [World.iterPos, h]
theorem below_iter {w W : World} {g : Nat} {o : Obj} (h : Below w.heap.size w W) (hg : w.heap.size ≤ g) : Below w.heap.size w { W with heap := W.heap.setIfInBounds g o } :=
  ⟨h.os, h.tape, h.output, by simpa using h.size, fun k hk => by have := h.block k hk; simp only [Array.getElem?_setIfInBounds, show g ≠ k by omega, if_false]; exact this⟩
theorem next_more {P : Program} {W : World} {g : Nat} {s : ByteArray} {pos : Nat} (ty : TypeId) (hg : W.heap[g]? = some (.stringIter s pos)) (h : pos < s.size) (ha : (s[pos]'h).toNat < 128) :
    (Instr.next (.pointer (some ⟨g, 0, none⟩)) true ty).run P W = .ok (.tuple #[.bool true, .int .i64 pos, .int .i32 (s[pos]'h).toNat]) { W with heap := W.heap.setIfInBounds g (.stringIter s (pos + 1)) } := by
  simp only [Instr.next, getObj, setObj, Sem.run_bind, Sem.run, hg, Result.andThen, h, if_true, decode_ascii s pos h ha]
  simp [goInt, Sem.run, hg]
theorem next_none {P : Program} {W : World} {g : Nat} {s : ByteArray} {pos : Nat} (ty : TypeId) (hg : W.heap[g]? = some (.stringIter s pos)) (h : ¬ pos < s.size) :
    (Instr.next (.pointer (some ⟨g, 0, none⟩)) true ty).run P W = .ok (.tuple #[.bool false]) W := by
  simp [Instr.next, getObj, Sem.run, hg, h]
/-- the world behind a turn of a string's range -/
theorem put_iter {W : World} {g : Nat} {s : ByteArray} {p q : Nat} (hg : W.heap[g]? = some (.stringIter s p)) : ∃ W1 : World, W1 = { W with heap := W.heap.setIfInBounds g (.stringIter s q) } ∧ W1.heap[g]? = some (.stringIter s q) ∧ W1.heap.size = W.heap.size ∧ (∀ r, r ≠ g → W1.heap[r]? = W.heap[r]?) := by
  refine ⟨_, rfl, (MapKept.heap_set hg).1, by simp, (MapKept.heap_set hg).2⟩
/-- a note that wants a lease: its cells -/
abbrev wantCells (ep co : Int) (A9 : Option Addr) (c9 : Nat) (A10 : Option Addr) (c10 : Nat) : Array Value := #[.int .i64 4, .int .u32 ep, .int .u32 0, .int .u64 0, .int .u64 0, .int .u32 0, .int .i64 0, .bool false, .int .i64 co, .slice A9 0 c9, .slice A10 0 c10]
theorem want_all {w : World} {g : Nat} {ep co : Int} {A9 : Option Addr} {c9 : Nat} {A10 : Option Addr} {c10 : Nat} (h : w.heap[g]? = some (.cells (wantCells ep co A9 c9 A10 c10) 30 (0, 0))) :
    w.cell? ⟨g, 0, none⟩ = some (.int .i64 4) ∧ w.cell? ⟨g, 1, none⟩ = some (.int .u32 ep) ∧ w.cell? ⟨g, 2, none⟩ = some (.int .u32 0) ∧ w.cell? ⟨g, 3, none⟩ = some (.int .u64 0) ∧ w.cell? ⟨g, 4, none⟩ = some (.int .u64 0) ∧ w.cell? ⟨g, 5, none⟩ = some (.int .u32 0) ∧ w.cell? ⟨g, 6, none⟩ = some (.int .i64 0) ∧ w.cell? ⟨g, 7, none⟩ = some (.bool false) ∧ w.cell? ⟨g, 8, none⟩ = some (.int .i64 co) ∧ w.cell? ⟨g, 9, none⟩ = some (.slice A9 0 c9) ∧ w.cell? ⟨g, 10, none⟩ = some (.slice A10 0 c10) ∧
    (∀ i, w.frozen? ⟨g, i, none⟩ = false) ∧ g < w.heap.size :=
  ⟨(blk_cell h 0).trans rfl, (blk_cell h 1).trans rfl, (blk_cell h 2).trans rfl, (blk_cell h 3).trans rfl, (blk_cell h 4).trans rfl, (blk_cell h 5).trans rfl, (blk_cell h 6).trans rfl, (blk_cell h 7).trans rfl, (blk_cell h 8).trans rfl, (blk_cell h 9).trans rfl, (blk_cell h 10).trans rfl, fun i => blk_frozen h i, blk_lt h⟩
/-- all cells of a note are written -/
theorem note_put {w : World} {g : Nat} {b0 b1 b2 b3 b4 b5 b6 b7 b8 b9 b10 : Value} (v0 v1 v2 v3 v4 v5 v6 v7 v8 v9 v10 : Value) (h : w.heap[g]? = some (.cells #[b0, b1, b2, b3, b4, b5, b6, b7, b8, b9, b10] 30 (0, 0))) :
    (((((((((((w.setCell ⟨g, 0, none⟩ v0).setCell ⟨g, 1, none⟩ v1).setCell ⟨g, 2, none⟩ v2).setCell ⟨g, 3, none⟩ v3).setCell ⟨g, 4, none⟩ v4).setCell ⟨g, 5, none⟩ v5).setCell ⟨g, 6, none⟩ v6).setCell ⟨g, 7, none⟩ v7).setCell ⟨g, 8, none⟩ v8).setCell ⟨g, 9, none⟩ v9).setCell ⟨g, 10, none⟩ v10).heap[g]? = some (.cells #[v0, v1, v2, v3, v4, v5, v6, v7, v8, v9, v10] 30 (0, 0)) ∧ (∀ r, r ≠ g → (((((((((((w.setCell ⟨g, 0, none⟩ v0).setCell ⟨g, 1, none⟩ v1).setCell ⟨g, 2, none⟩ v2).setCell ⟨g, 3, none⟩ v3).setCell ⟨g, 4, none⟩ v4).setCell ⟨g, 5, none⟩ v5).setCell ⟨g, 6, none⟩ v6).setCell ⟨g, 7, none⟩ v7).setCell ⟨g, 8, none⟩ v8).setCell ⟨g, 9, none⟩ v9).setCell ⟨g, 10, none⟩ v10).heap[r]? = w.heap[r]?) := by
  refine ⟨?_, fun r hr => ?_⟩
  · have h0 := blk_put (cs' := #[v0, b1, b2, b3, b4, b5, b6, b7, b8, b9, b10]) h 0 v0 rfl
    have h1 := blk_put (cs' := #[v0, v1, b2, b3, b4, b5, b6, b7, b8, b9, b10]) h0 1 v1 rfl
    have h2 := blk_put (cs' := #[v0, v1, v2, b3, b4, b5, b6, b7, b8, b9, b10]) h1 2 v2 rfl
    have h3 := blk_put (cs' := #[v0, v1, v2, v3, b4, b5, b6, b7, b8, b9, b10]) h2 3 v3 rfl
    have h4 := blk_put (cs' := #[v0, v1, v2, v3, v4, b5, b6, b7, b8, b9, b10]) h3 4 v4 rfl
    have h5 := blk_put (cs' := #[v0, v1, v2, v3, v4, v5, b6, b7, b8, b9, b10]) h4 5 v5 rfl
    have h6 := blk_put (cs' := #[v0, v1, v2, v3, v4, v5, v6, b7, b8, b9, b10]) h5 6 v6 rfl
    have h7 := blk_put (cs' := #[v0, v1, v2, v3, v4, v5, v6, v7, b8, b9, b10]) h6 7 v7 rfl
    have h8 := blk_put (cs' := #[v0, v1, v2, v3, v4, v5, v6, v7, v8, b9, b10]) h7 8 v8 rfl
    have h9 := blk_put (cs' := #[v0, v1, v2, v3, v4, v5, v6, v7, v8, v9, b10]) h8 9 v9 rfl
    have h10 := blk_put (cs' := #[v0, v1, v2, v3, v4, v5, v6, v7, v8, v9, v10]) h9 10 v10 rfl
    exact h10
  · iterate 11 refine (Below.heap_setCell _ _ _ r hr).trans ?_
    rfl
def note_Check.f (a0_0 : Int) (a0_1 : Int) (a0_2 : Int) (a0_3 : Int) (a0_4 : Int) (a0_5 : Int) (a0_6 : Int) (a0_7 : Bool) (a0_8 : Int) (l0_9 : List Int) (l0_10 : List Int) : Option (Int) := if a0_0 = 4 ∧ a0_2 = 0 ∧ a0_3 = 0 ∧ a0_4 = 0 ∧ a0_5 = 0 ∧ a0_6 = 0 ∧ a0_7 = false ∧ 0 ≤ a0_8 ∧ a0_8 ≤ 255 ∧ l0_9 = [] ∧ l0_10 = [] then some 0 else none
set_option maxHeartbeats 8000000 in
set_option maxRecDepth 100000 in
theorem note_Check.calls (a0_0 : Int) (a0_1 : Int) (a0_2 : Int) (a0_3 : Int) (a0_4 : Int) (a0_5 : Int) (a0_6 : Int) (a0_7 : Bool) (a0_8 : Int) (A0_9 : Option Addr) (c0_9 : Nat) (l0_9 : List Int) (A0_10 : Option Addr) (c0_10 : Nat) (l0_10 : List Int) (r : Int) (w : World) (_hr0_9 : Kd.C (Kd.int .u8) w A0_9 l0_9.length l0_9) (_hc0_9 : l0_9.length ≤ c0_9) (_hr0_10 : Kd.C (Kd.int .u8) w A0_10 l0_10.length l0_10) (_hc0_10 : l0_10.length ≤ c0_10) (h : note_Check.f a0_0 a0_1 a0_2 a0_3 a0_4 a0_5 a0_6 a0_7 a0_8 l0_9 l0_10 = some r) :
    Calls Try.prog 31 #[.agg #[.int .i64 a0_0, .int .u32 a0_1, .int .u32 a0_2, .int .u64 a0_3, .int .u64 a0_4, .int .u32 a0_5, .int .i64 a0_6, .bool a0_7, .int .i64 a0_8, .slice A0_9 l0_9.length c0_9, .slice A0_10 l0_10.length c0_10]] w fun e w' => e = .returned (.int .i64 r) ∧ Below w.heap.size w w' := by
  clear _hr0_9 _hc0_9 _hr0_10 _hc0_10
  unfold note_Check.f at h
  split at h
  case isFalse => exact absurd h (by simp)
  case isTrue hc =>
  obtain ⟨rfl, rfl, rfl, rfl, rfl, rfl, rfl, h1, h2, rfl, rfl⟩ := hc
  obtain rfl := Option.some.inj h
  clear h
  simp only [List.length_nil]
  have d1 : decide (a0_8 < 0) = false := decide_eq_false (by omega)
  have d2 : decide (255 < a0_8) = false := decide_eq_false (by omega)
  clear h1 h2
  have HN := Aside0.mk (show note_Names.f 9 4 = some (⟨#[69, 67]⟩ : ByteArray) from by decide)
  go_enter Try.func31, Try.ntmps31
  go_wp2_with (first | (go_at_call 55; (with_reducible refine (note_Names.calls 9 4 _ _ HN.out).mono ?_); rintro e w' ⟨rfl, ⟨nd, rfl⟩⟩))
  go_loopw [6] (fun v w' => ∃ (pos : Nat) (ex cx : Int), Aside0 ((pos = 0 ∧ ex = a0_1 ∧ cx = a0_8) ∨ (pos = 1 ∧ ex = 0 ∧ cx = a0_8) ∨ (pos = 2 ∧ ex = 0 ∧ cx = 0)) ∧ Aside0 (w'.heap[w.heap.size]? = some (.cells (wantCells a0_1 a0_8 A0_9 c0_9 A0_10 c0_10) 30 (0, 0))) ∧ Aside0 (w'.heap[w.heap.size + 1]? = some (.cells (wantCells ex cx A0_9 c0_9 A0_10 c0_10) 30 (0, 0))) ∧ Aside0 (w'.heap[w.heap.size + 2]? = some (.stringIter ⟨#[69, 67]⟩ pos)) ∧ Aside0 (Below w.heap.size w w')) (fun _ w' => 2 - w'.iterPos (w.heap.size + 2))
  case atStart =>
    refine ⟨0, a0_1, a0_8, ⟨.inl ⟨rfl, rfl, rfl⟩⟩, ⟨bd3 _ (bd3 _ (bd1 nd (heap_last w _)))⟩, ⟨bd3 _ ?_⟩, ⟨?_⟩, ⟨?_⟩⟩
    · exact heap_last' (by simp) _
    · exact heap_last' (by simp) _
    · exact below_alloc (below_alloc (pw_below_drewN (below_alloc (Below.refl _ _) _) nd) _) _
  case round =>
    obtain ⟨pos, ex, cx, HP, HN_, HR, HI, HB⟩ := hrel
    rename World => w1
    have hn := want_all HN_.out
    have hr := want_all HR.out
    have hi := HI.out
    have hpos := iterPos_of hi
    obtain ⟨n0, n1, n2, n3, n4, n5, n6, n7, n8, n9, n10, nf, nl⟩ := hn
    obtain ⟨r0, r1, r2, r3, r4, r5, r6, r7, r8, r9, r10, rf, rl⟩ := hr
    have il := blk_lt hi
    rcases HP.out with ⟨rfl, rfl, rfl⟩ | ⟨rfl, rfl, rfl⟩ | ⟨rfl, rfl, rfl⟩
    · obtain ⟨W1, e1, hi1, hs1, hk1⟩ := put_iter (q := 1) hi
      have hnx : ∀ ty, (Instr.next (.pointer (some ⟨w.heap.size + 2, 0, none⟩)) true ty).run Try.prog w1 = .ok (.tuple #[.bool true, .int .i64 0, .int .i32 69]) W1 := fun ty => e1 ▸ next_more ty hi (by decide) (by decide)
      have HB1 : Aside0 (Below w.heap.size w W1) := ⟨e1 ▸ below_iter HB.out (by omega)⟩
      clear e1
      have HN1 := Aside0.mk ((hk1 w.heap.size (by omega)).trans HN_.out)
      have HR1 := Aside0.mk ((hk1 (w.heap.size + 1) (by omega)).trans HR.out)
      have HI1 := Aside0.mk hi1
      obtain ⟨q0, q1, q2, q3, q4, q5, q6, q7, q8, q9, q10, qf, ql⟩ := want_all HR1.out
      clear n0 n1 n2 n3 n4 n5 n6 n7 n8 n9 n10 nf nl r0 r1 r2 r3 r4 r5 r6 r7 r8 r9 r10 rf rl hi hi1 hs1 hk1 il HP HN_ HR HI HB
      go_wp2_with (first | (go_at_call 56; (with_reducible refine (without_EC 69 ex cx A0_9 c0_9 A0_10 c0_10 _ (.inl rfl)).mono ?_); rintro e w2 ⟨rfl, hb⟩; have HN2 := Aside0.mk (blk_below HN1.out hb); have HR2 := Aside0.mk (blk_below HR1.out hb); have HI2 := Aside0.mk (blk_below HI1.out hb); have HB2 := Aside0.mk (below_step HB1.out hb); clear hb HN1 HR1 HI1 HB1 q0 q1 q2 q3 q4 q5 q6 q7 q8 q9 q10 qf ql; obtain ⟨q0, q1, q2, q3, q4, q5, q6, q7, q8, q9, q10, qf, ql⟩ := want_all HR2.out))
      go_roundw
      case rel =>
        have hp := note_put (.int .i64 4) (.int .u32 0) (.int .u32 0) (.int .u64 0) (.int .u64 0) (.int .u32 0) (.int .i64 0) (.bool false) (.int .i64 cx) (.slice A0_9 0 c0_9) (.slice A0_10 0 c0_10) HR2.out
        refine ⟨1, 0, cx, ⟨.inr (.inl ⟨rfl, rfl, rfl⟩)⟩, ⟨(hp.2 _ (by omega)).trans HN2.out⟩, ⟨hp.1⟩, ⟨(hp.2 _ (by omega)).trans HI2.out⟩, ⟨?_⟩⟩
        iterate 11 refine below_set ?_ (by omega)
        exact HB2.out
      case measure =>
        have hp := note_put (.int .i64 4) (.int .u32 0) (.int .u32 0) (.int .u64 0) (.int .u64 0) (.int .u32 0) (.int .i64 0) (.bool false) (.int .i64 cx) (.slice A0_9 0 c0_9) (.slice A0_10 0 c0_10) HR2.out
        have a1 := iterPos_of ((hp.2 _ (show w.heap.size + 2 ≠ w.heap.size + 1 by omega)).trans HI2.out)
        omega
    · obtain ⟨W1, e1, hi1, hs1, hk1⟩ := put_iter (q := 2) hi
      have hnx : ∀ ty, (Instr.next (.pointer (some ⟨w.heap.size + 2, 0, none⟩)) true ty).run Try.prog w1 = .ok (.tuple #[.bool true, .int .i64 1, .int .i32 67]) W1 := fun ty => e1 ▸ next_more ty hi (by decide) (by decide)
      have HB1 : Aside0 (Below w.heap.size w W1) := ⟨e1 ▸ below_iter HB.out (by omega)⟩
      clear e1
      have HN1 := Aside0.mk ((hk1 w.heap.size (by omega)).trans HN_.out)
      have HR1 := Aside0.mk ((hk1 (w.heap.size + 1) (by omega)).trans HR.out)
      have HI1 := Aside0.mk hi1
      obtain ⟨q0, q1, q2, q3, q4, q5, q6, q7, q8, q9, q10, qf, ql⟩ := want_all HR1.out
      clear n0 n1 n2 n3 n4 n5 n6 n7 n8 n9 n10 nf nl r0 r1 r2 r3 r4 r5 r6 r7 r8 r9 r10 rf rl hi hi1 hs1 hk1 il HP HN_ HR HI HB
      go_wp2_with (first | (go_at_call 56; (with_reducible refine (without_EC 67 0 cx A0_9 c0_9 A0_10 c0_10 _ (.inr rfl)).mono ?_); rintro e w2 ⟨rfl, hb⟩; have HN2 := Aside0.mk (blk_below HN1.out hb); have HR2 := Aside0.mk (blk_below HR1.out hb); have HI2 := Aside0.mk (blk_below HI1.out hb); have HB2 := Aside0.mk (below_step HB1.out hb); clear hb HN1 HR1 HI1 HB1 q0 q1 q2 q3 q4 q5 q6 q7 q8 q9 q10 qf ql; obtain ⟨q0, q1, q2, q3, q4, q5, q6, q7, q8, q9, q10, qf, ql⟩ := want_all HR2.out))
      go_roundw
      case rel =>
        have hp := note_put (.int .i64 4) (.int .u32 0) (.int .u32 0) (.int .u64 0) (.int .u64 0) (.int .u32 0) (.int .i64 0) (.bool false) (.int .i64 0) (.slice A0_9 0 c0_9) (.slice A0_10 0 c0_10) HR2.out
        refine ⟨2, 0, 0, ⟨.inr (.inr ⟨rfl, rfl, rfl⟩)⟩, ⟨(hp.2 _ (by omega)).trans HN2.out⟩, ⟨hp.1⟩, ⟨(hp.2 _ (by omega)).trans HI2.out⟩, ⟨?_⟩⟩
        iterate 11 refine below_set ?_ (by omega)
        exact HB2.out
      case measure =>
        have hp := note_put (.int .i64 4) (.int .u32 0) (.int .u32 0) (.int .u64 0) (.int .u64 0) (.int .u32 0) (.int .i64 0) (.bool false) (.int .i64 0) (.slice A0_9 0 c0_9) (.slice A0_10 0 c0_10) HR2.out
        have a1 := iterPos_of ((hp.2 _ (show w.heap.size + 2 ≠ w.heap.size + 1 by omega)).trans HI2.out)
        omega
    · have hnx : ∀ ty, (Instr.next (.pointer (some ⟨w.heap.size + 2, 0, none⟩)) true ty).run Try.prog w1 = .ok (.tuple #[.bool false]) w1 := fun ty => next_none ty hi (by decide)
      go_wp2
      refine bodyPost_ret ?_ rfl ⟨rfl, HB.out⟩
      simp [results, Try.results31, go_sem]

/-- A state of type 71 at block g of W; what its slices lead to came in by w0. -/
def IsS71 (w0 W : World) (g : Nat) (f0 : Int) (f1 : Int) (f2 : Int) (f3 : Int) (f4 : Int) (f5 : Int) (f6 : Int) (f7 : Int) : Prop := W.heap[g]? = some (.cells #[.int .u64 f0, .int .u64 f1, .int .u64 f2, .int .u32 f3, .int .i64 f4, .int .u64 f5, .int .i64 f6, .int .i64 f7] 71 (0, 0)) ∧ w0.heap.size ≤ g
theorem IsS71.grown {w0 W : World} {g : Nat} {f0 : Int} {f1 : Int} {f2 : Int} {f3 : Int} {f4 : Int} {f5 : Int} {f6 : Int} {f7 : Int} {W1 : World} {row : Option Nat} (h : IsS71 w0 W g f0 f1 f2 f3 f4 f5 f6 f7) (hw : W.grownBy W1 row) (hne : some g ≠ row) : IsS71 w0 W1 g f0 f1 f2 f3 f4 f5 f6 f7 := by
  obtain ⟨hb, hg⟩ := h
  exact ⟨blk_grown hb hw hne, hg⟩

theorem IsS71.below {w0 W : World} {g : Nat} {f0 : Int} {f1 : Int} {f2 : Int} {f3 : Int} {f4 : Int} {f5 : Int} {f6 : Int} {f7 : Int} {W1 : World} (h : IsS71 w0 W g f0 f1 f2 f3 f4 f5 f6 f7) (hw : Below W.heap.size W W1) : IsS71 w0 W1 g f0 f1 f2 f3 f4 f5 f6 f7 := h.grown (grown_of_below hw none) (by simp)
theorem IsS71.alloc {w0 W : World} {g : Nat} {f0 : Int} {f1 : Int} {f2 : Int} {f3 : Int} {f4 : Int} {f5 : Int} {f6 : Int} {f7 : Int} (h : IsS71 w0 W g f0 f1 f2 f3 f4 f5 f6 f7) (o : Obj) : IsS71 w0 (W.alloc o) g f0 f1 f2 f3 f4 f5 f6 f7 := h.below (below_alloc (Below.refl _ _) o)
theorem IsS71.drewN {w0 W : World} {g : Nat} {f0 : Int} {f1 : Int} {f2 : Int} {f3 : Int} {f4 : Int} {f5 : Int} {f6 : Int} {f7 : Int} (h : IsS71 w0 W g f0 f1 f2 f3 f4 f5 f6 f7) (m : Nat) : IsS71 w0 (W.drewN m) g f0 f1 f2 f3 f4 f5 f6 f7 := h
theorem IsS71.drew {w0 W : World} {g : Nat} {f0 : Int} {f1 : Int} {f2 : Int} {f3 : Int} {f4 : Int} {f5 : Int} {f6 : Int} {f7 : Int} (h : IsS71 w0 W g f0 f1 f2 f3 f4 f5 f6 f7) : IsS71 w0 W.drew g f0 f1 f2 f3 f4 f5 f6 f7 := h

theorem IsS71.apart {w0 W : World} {g : Nat} {f0 : Int} {f1 : Int} {f2 : Int} {f3 : Int} {f4 : Int} {f5 : Int} {f6 : Int} {f7 : Int} {α : Type} {d : Kd α} {e : Nat} {base : Nat} {ok : Nat → Prop} {v : Value} {xs : List α} (h : IsS71 w0 W g f0 f1 f2 f3 f4 f5 f6 f7) (ho : d.R e W base ok v xs) (ht : ∀ q, q ∈ e :: d.E → q ≠ 71) : d.R e W base (fun k => ok k ∧ k ≠ g) v xs := by
  obtain ⟨hb, hg⟩ := h
  exact Kd.R_types ho hb ht
theorem IsS71.own_ne {w0 W : World} {g : Nat} {f0 : Int} {f1 : Int} {f2 : Int} {f3 : Int} {f4 : Int} {f5 : Int} {f6 : Int} {f7 : Int} {α : Type} {d : Kd α} {e : Nat} {base : Nat} {ok : Nat → Prop} {v : Value} {xs : List α} (h : IsS71 w0 W g f0 f1 f2 f3 f4 f5 f6 f7) (ho : d.R e W base ok v xs) (ht : e ≠ 71) : some g ≠ v.ownBlock := by
  obtain ⟨hb, hg⟩ := h
  exact Kd.R_ne ho hb ht

theorem IsS71.lt {w0 W : World} {g : Nat} {f0 : Int} {f1 : Int} {f2 : Int} {f3 : Int} {f4 : Int} {f5 : Int} {f6 : Int} {f7 : Int} (h : IsS71 w0 W g f0 f1 f2 f3 f4 f5 f6 f7) : g < W.heap.size := by
  obtain ⟨hb, hg⟩ := h
  exact blk_lt hb
theorem IsS71.ge {w0 W : World} {g : Nat} {f0 : Int} {f1 : Int} {f2 : Int} {f3 : Int} {f4 : Int} {f5 : Int} {f6 : Int} {f7 : Int} (h : IsS71 w0 W g f0 f1 f2 f3 f4 f5 f6 f7) : w0.heap.size ≤ g := by
  obtain ⟨hb, hg⟩ := h
  exact hg

theorem IsS71.far {w0 W : World} {g : Nat} {f0 : Int} {f1 : Int} {f2 : Int} {f3 : Int} {f4 : Int} {f5 : Int} {f6 : Int} {f7 : Int} {p : Addr} (h : IsS71 w0 W g f0 f1 f2 f3 f4 f5 f6 f7) (hne : g ≠ p.block) (u : Value) : IsS71 w0 (W.setCell p u) g f0 f1 f2 f3 f4 f5 f6 f7 := by
  obtain ⟨hb, hg⟩ := h
  exact ⟨blk_far hb hne u, hg⟩
theorem cellS71_0 {W : World} {g : Nat} {f0 : Int} {f1 : Int} {f2 : Int} {f3 : Int} {f4 : Int} {f5 : Int} {f6 : Int} {f7 : Int} (h : W.heap[g]? = some (.cells #[.int .u64 f0, .int .u64 f1, .int .u64 f2, .int .u32 f3, .int .i64 f4, .int .u64 f5, .int .i64 f6, .int .i64 f7] 71 (0, 0))) : W.cell? ⟨g, 0, none⟩ = some (.int .u64 f0) := (blk_cell h 0).trans rfl
theorem IsS71.set_0 {w0 W : World} {g : Nat} {f0 : Int} {f1 : Int} {f2 : Int} {f3 : Int} {f4 : Int} {f5 : Int} {f6 : Int} {f7 : Int} (h : IsS71 w0 W g f0 f1 f2 f3 f4 f5 f6 f7) (x : Int) : IsS71 w0 (W.setCell ⟨g, 0, none⟩ (.int .u64 x)) g x f1 f2 f3 f4 f5 f6 f7 := by
  obtain ⟨hb, hg⟩ := h
  exact ⟨by simpa using blk_set hb 0 (.int .u64 x), hg⟩
theorem cellS71_1 {W : World} {g : Nat} {f0 : Int} {f1 : Int} {f2 : Int} {f3 : Int} {f4 : Int} {f5 : Int} {f6 : Int} {f7 : Int} (h : W.heap[g]? = some (.cells #[.int .u64 f0, .int .u64 f1, .int .u64 f2, .int .u32 f3, .int .i64 f4, .int .u64 f5, .int .i64 f6, .int .i64 f7] 71 (0, 0))) : W.cell? ⟨g, 1, none⟩ = some (.int .u64 f1) := (blk_cell h 1).trans rfl
theorem IsS71.set_1 {w0 W : World} {g : Nat} {f0 : Int} {f1 : Int} {f2 : Int} {f3 : Int} {f4 : Int} {f5 : Int} {f6 : Int} {f7 : Int} (h : IsS71 w0 W g f0 f1 f2 f3 f4 f5 f6 f7) (x : Int) : IsS71 w0 (W.setCell ⟨g, 1, none⟩ (.int .u64 x)) g f0 x f2 f3 f4 f5 f6 f7 := by
  obtain ⟨hb, hg⟩ := h
  exact ⟨by simpa using blk_set hb 1 (.int .u64 x), hg⟩
theorem cellS71_2 {W : World} {g : Nat} {f0 : Int} {f1 : Int} {f2 : Int} {f3 : Int} {f4 : Int} {f5 : Int} {f6 : Int} {f7 : Int} (h : W.heap[g]? = some (.cells #[.int .u64 f0, .int .u64 f1, .int .u64 f2, .int .u32 f3, .int .i64 f4, .int .u64 f5, .int .i64 f6, .int .i64 f7] 71 (0, 0))) : W.cell? ⟨g, 2, none⟩ = some (.int .u64 f2) := (blk_cell h 2).trans rfl
theorem IsS71.set_2 {w0 W : World} {g : Nat} {f0 : Int} {f1 : Int} {f2 : Int} {f3 : Int} {f4 : Int} {f5 : Int} {f6 : Int} {f7 : Int} (h : IsS71 w0 W g f0 f1 f2 f3 f4 f5 f6 f7) (x : Int) : IsS71 w0 (W.setCell ⟨g, 2, none⟩ (.int .u64 x)) g f0 f1 x f3 f4 f5 f6 f7 := by
  obtain ⟨hb, hg⟩ := h
  exact ⟨by simpa using blk_set hb 2 (.int .u64 x), hg⟩
theorem cellS71_3 {W : World} {g : Nat} {f0 : Int} {f1 : Int} {f2 : Int} {f3 : Int} {f4 : Int} {f5 : Int} {f6 : Int} {f7 : Int} (h : W.heap[g]? = some (.cells #[.int .u64 f0, .int .u64 f1, .int .u64 f2, .int .u32 f3, .int .i64 f4, .int .u64 f5, .int .i64 f6, .int .i64 f7] 71 (0, 0))) : W.cell? ⟨g, 3, none⟩ = some (.int .u32 f3) := (blk_cell h 3).trans rfl
theorem IsS71.set_3 {w0 W : World} {g : Nat} {f0 : Int} {f1 : Int} {f2 : Int} {f3 : Int} {f4 : Int} {f5 : Int} {f6 : Int} {f7 : Int} (h : IsS71 w0 W g f0 f1 f2 f3 f4 f5 f6 f7) (x : Int) : IsS71 w0 (W.setCell ⟨g, 3, none⟩ (.int .u32 x)) g f0 f1 f2 x f4 f5 f6 f7 := by
  obtain ⟨hb, hg⟩ := h
  exact ⟨by simpa using blk_set hb 3 (.int .u32 x), hg⟩
theorem cellS71_4 {W : World} {g : Nat} {f0 : Int} {f1 : Int} {f2 : Int} {f3 : Int} {f4 : Int} {f5 : Int} {f6 : Int} {f7 : Int} (h : W.heap[g]? = some (.cells #[.int .u64 f0, .int .u64 f1, .int .u64 f2, .int .u32 f3, .int .i64 f4, .int .u64 f5, .int .i64 f6, .int .i64 f7] 71 (0, 0))) : W.cell? ⟨g, 4, none⟩ = some (.int .i64 f4) := (blk_cell h 4).trans rfl
theorem IsS71.set_4 {w0 W : World} {g : Nat} {f0 : Int} {f1 : Int} {f2 : Int} {f3 : Int} {f4 : Int} {f5 : Int} {f6 : Int} {f7 : Int} (h : IsS71 w0 W g f0 f1 f2 f3 f4 f5 f6 f7) (x : Int) : IsS71 w0 (W.setCell ⟨g, 4, none⟩ (.int .i64 x)) g f0 f1 f2 f3 x f5 f6 f7 := by
  obtain ⟨hb, hg⟩ := h
  exact ⟨by simpa using blk_set hb 4 (.int .i64 x), hg⟩
theorem cellS71_5 {W : World} {g : Nat} {f0 : Int} {f1 : Int} {f2 : Int} {f3 : Int} {f4 : Int} {f5 : Int} {f6 : Int} {f7 : Int} (h : W.heap[g]? = some (.cells #[.int .u64 f0, .int .u64 f1, .int .u64 f2, .int .u32 f3, .int .i64 f4, .int .u64 f5, .int .i64 f6, .int .i64 f7] 71 (0, 0))) : W.cell? ⟨g, 5, none⟩ = some (.int .u64 f5) := (blk_cell h 5).trans rfl
theorem IsS71.set_5 {w0 W : World} {g : Nat} {f0 : Int} {f1 : Int} {f2 : Int} {f3 : Int} {f4 : Int} {f5 : Int} {f6 : Int} {f7 : Int} (h : IsS71 w0 W g f0 f1 f2 f3 f4 f5 f6 f7) (x : Int) : IsS71 w0 (W.setCell ⟨g, 5, none⟩ (.int .u64 x)) g f0 f1 f2 f3 f4 x f6 f7 := by
  obtain ⟨hb, hg⟩ := h
  exact ⟨by simpa using blk_set hb 5 (.int .u64 x), hg⟩
theorem cellS71_6 {W : World} {g : Nat} {f0 : Int} {f1 : Int} {f2 : Int} {f3 : Int} {f4 : Int} {f5 : Int} {f6 : Int} {f7 : Int} (h : W.heap[g]? = some (.cells #[.int .u64 f0, .int .u64 f1, .int .u64 f2, .int .u32 f3, .int .i64 f4, .int .u64 f5, .int .i64 f6, .int .i64 f7] 71 (0, 0))) : W.cell? ⟨g, 6, none⟩ = some (.int .i64 f6) := (blk_cell h 6).trans rfl
theorem IsS71.set_6 {w0 W : World} {g : Nat} {f0 : Int} {f1 : Int} {f2 : Int} {f3 : Int} {f4 : Int} {f5 : Int} {f6 : Int} {f7 : Int} (h : IsS71 w0 W g f0 f1 f2 f3 f4 f5 f6 f7) (x : Int) : IsS71 w0 (W.setCell ⟨g, 6, none⟩ (.int .i64 x)) g f0 f1 f2 f3 f4 f5 x f7 := by
  obtain ⟨hb, hg⟩ := h
  exact ⟨by simpa using blk_set hb 6 (.int .i64 x), hg⟩
theorem cellS71_7 {W : World} {g : Nat} {f0 : Int} {f1 : Int} {f2 : Int} {f3 : Int} {f4 : Int} {f5 : Int} {f6 : Int} {f7 : Int} (h : W.heap[g]? = some (.cells #[.int .u64 f0, .int .u64 f1, .int .u64 f2, .int .u32 f3, .int .i64 f4, .int .u64 f5, .int .i64 f6, .int .i64 f7] 71 (0, 0))) : W.cell? ⟨g, 7, none⟩ = some (.int .i64 f7) := (blk_cell h 7).trans rfl
theorem IsS71.set_7 {w0 W : World} {g : Nat} {f0 : Int} {f1 : Int} {f2 : Int} {f3 : Int} {f4 : Int} {f5 : Int} {f6 : Int} {f7 : Int} (h : IsS71 w0 W g f0 f1 f2 f3 f4 f5 f6 f7) (x : Int) : IsS71 w0 (W.setCell ⟨g, 7, none⟩ (.int .i64 x)) g f0 f1 f2 f3 f4 f5 f6 x := by
  obtain ⟨hb, hg⟩ := h
  exact ⟨by simpa using blk_set hb 7 (.int .i64 x), hg⟩
theorem IsS71.new (w0 W : World) (f0 : Int) (f1 : Int) (f2 : Int) (f3 : Int) (f4 : Int) (f5 : Int) (f6 : Int) (f7 : Int) (hB : Below w0.heap.size w0 W) : IsS71 w0 (W.alloc (.cells #[.int .u64 f0, .int .u64 f1, .int .u64 f2, .int .u32 f3, .int .i64 f4, .int .u64 f5, .int .i64 f6, .int .i64 f7] 71)) W.heap.size f0 f1 f2 f3 f4 f5 f6 f7 := ⟨by simpa using heap_alloc_new W _, hB.size⟩

/-! ### arbiter_Arbiter_no: function 32 -/
def arbiter_Arbiter_no.f (s0_0 : Int) (s0_1 : Int) (s0_2 : Int) (s0_3 : Int) (s0_4 : Int) (s0_5 : Int) (s0_6 : Int) (s0_7 : Int) (a1 : Int) : Option (Int × Int × Int × Int × Int × Int × Int × Bool × Int × List Int × List Int × Int × Int × Int × Int × Int × Int × Int × Int) := some (6, s0_3, 0, 0, 0, 0, 0, false, a1, ([] : List Int), ([] : List Int), s0_0, s0_1, s0_2, s0_3, s0_4, s0_5, s0_6, s0_7)
set_option maxHeartbeats 8000000 in
set_option maxRecDepth 100000 in
theorem arbiter_Arbiter_no.calls (g : Nat) (s0_0 : Int) (s0_1 : Int) (s0_2 : Int) (s0_3 : Int) (s0_4 : Int) (s0_5 : Int) (s0_6 : Int) (s0_7 : Int) (a1 : Int) (r1 : Int) (r2 : Int) (r3 : Int) (r4 : Int) (r5 : Int) (r6 : Int) (r7 : Int) (r8 : Bool) (r9 : Int) (r10 : List Int) (r11 : List Int) (r12 : Int) (r13 : Int) (r14 : Int) (r15 : Int) (r16 : Int) (r17 : Int) (r18 : Int) (r19 : Int) (w0 w : World) (hI : IsS71 w0 w g s0_0 s0_1 s0_2 s0_3 s0_4 s0_5 s0_6 s0_7) (hB : Below w0.heap.size w0 w) (h : arbiter_Arbiter_no.f s0_0 s0_1 s0_2 s0_3 s0_4 s0_5 s0_6 s0_7 a1 = some (r1, r2, r3, r4, r5, r6, r7, r8, r9, r10, r11, r12, r13, r14, r15, r16, r17, r18, r19)) :
    Calls Try.prog 32 #[.pointer (some ⟨g, 0, none⟩), .int .i64 a1] w fun e w' => ∃ v9_ v10_ : Value, e = .returned (.agg #[.int .i64 r1, .int .u32 r2, .int .u32 r3, .int .u64 r4, .int .u64 r5, .int .u32 r6, .int .i64 r7, .bool r8, .int .i64 r9, v9_, v10_]) ∧ Kd.R (Kd.int .u8) 5 w' w.heap.size (fun k_ => some k_ ≠ (v10_ : Value).ownBlock) v9_ r10 ∧ Kd.R (Kd.int .u8) 5 w' w.heap.size (fun k_ => some k_ ≠ (v9_ : Value).ownBlock) v10_ r11 ∧ IsS71 w0 w' g r12 r13 r14 r15 r16 r17 r18 r19 ∧ Below w0.heap.size w0 w' ∧ KeepBut w w' g none := by
  have hu30 := Try.underlying30
  have HI0 := Aside0.mk hI
  have HK := Aside0.mk (KeepBut.refl w g none)
  have HL := Aside0.mk hB.size
  clear hI
  have HW0 := Aside0.mk hB.size
  have HB := Aside0.mk hB
  clear hB
  have H : (some (6, s0_3, 0, 0, 0, 0, 0, false, a1, ([] : List Int), ([] : List Int), s0_0, s0_1, s0_2, s0_3, s0_4, s0_5, s0_6, s0_7)) = some (r1, r2, r3, r4, r5, r6, r7, r8, r9, r10, r11, r12, r13, r14, r15, r16, r17, r18, r19) := h
  clear h
  simp only [Option.some.injEq, Prod.mk.injEq] at H
  obtain ⟨rfl, rfl, rfl, rfl, rfl, rfl, rfl, rfl, rfl, rfl, rfl, rfl, rfl, rfl, rfl, rfl, rfl, rfl, rfl⟩ := H
  go_enter Try.func32, Try.ntmps32
  go_wp2_with (first | ((with_reducible refine gate_dst (N := 4) rfl ?_); refine box_event ?hg (N := 4) ?hd (cs := #[.int .i64 0, .int .u32 0, .int .u32 0, .int .u64 0, .int .u64 0, .int .u32 0, .int .i64 0, .bool false, .int .i64 0, .slice none 0 0, .slice none 0 0]) (t := 30) ?hr ?_; (case hd => rfl); (case hg => rfl); (case hr => first | (go_simp; done) | (go_simp; rfl)); intro gb103 hg w3 hbox hb; have n0_ := Aside0.mk (IsS71.below (by repeat (first | (with_reducible first | exact HI0.out | apply IsS71.alloc | apply IsS71.drewN | apply IsS71.drew | apply IsS71.set_0 | apply IsS71.set_1 | apply IsS71.set_2 | apply IsS71.set_3 | apply IsS71.set_4 | apply IsS71.set_5 | apply IsS71.set_6 | apply IsS71.set_7) | exact HI0.out)) hb); have n1_ := Aside0.mk (KeepBut.trans (by repeat (first | (with_reducible first | exact HK.out | apply KeepBut.set_ | apply keep_drewN | apply keep_drew | apply keep_alloc) | exact HK.out)) (KeepBut.of_below hb g none) (.inl rfl)); have n2_ := Aside0.mk (below_step (by repeat (first | (with_reducible first | exact HB.out | apply below_alloc | apply pw_below_drewN | apply below_drew1 | refine below_set ?_ (IsS71.ge HI0.out)) | exact HB.out)) hb); have n3_ := Aside0.mk (hbox); have n4_ := Aside0.mk ((by rw [hg]; exact (keep_size (w := w) (g := g) (row := none) (by repeat (first | (with_reducible first | exact HK.out | apply KeepBut.set_ | apply keep_drewN | apply keep_drew | apply keep_alloc) | exact HK.out))) : w.heap.size ≤ gb103)); have n5_ := Aside0.mk ((Nat.le_trans HW0.out (by rw [hg]; exact (keep_size (w := w) (g := g) (row := none) (by repeat (first | (with_reducible first | exact HK.out | apply KeepBut.set_ | apply keep_drewN | apply keep_drew | apply keep_alloc) | exact HK.out))) : w.heap.size ≤ gb103) : w0.heap.size ≤ gb103)); have n6_ := Aside0.mk ((by rw [hg]; exact Nat.ne_of_lt (IsS71.lt (show IsS71 w0 _ g s0_0 s0_1 s0_2 s0_3 s0_4 s0_5 s0_6 s0_7 from by repeat (first | (with_reducible first | exact HI0.out | apply IsS71.alloc | apply IsS71.drewN | apply IsS71.drew | apply IsS71.set_0 | apply IsS71.set_1 | apply IsS71.set_2 | apply IsS71.set_3 | apply IsS71.set_4 | apply IsS71.set_5 | apply IsS71.set_6 | apply IsS71.set_7) | exact HI0.out))) : g ≠ gb103)); have n7_ := Aside0.mk ((by rw [hg]; exact Nat.ne_of_gt (IsS71.lt (show IsS71 w0 _ g s0_0 s0_1 s0_2 s0_3 s0_4 s0_5 s0_6 s0_7 from by repeat (first | (with_reducible first | exact HI0.out | apply IsS71.alloc | apply IsS71.drewN | apply IsS71.drew | apply IsS71.set_0 | apply IsS71.set_1 | apply IsS71.set_2 | apply IsS71.set_3 | apply IsS71.set_4 | apply IsS71.set_5 | apply IsS71.set_6 | apply IsS71.set_7) | exact HI0.out))) : gb103 ≠ g)); clear HI0; clear HK; clear HB; have HI0 := n0_; have HK := n1_; have HB := n2_; have BK103 := n3_; have GW103 := n4_; have GE103 := n5_; have NB0_103 := n6_; have NB103_0 := n7_; clear n0_ n1_ n2_ n3_ n4_ n5_ n6_ n7_; clear hb hbox hg; obtain ⟨HGz4, hgz4⟩ := HI0.out; have hcz4_0 := cellS71_0 HGz4; have hcz4_1 := cellS71_1 HGz4; have hcz4_2 := cellS71_2 HGz4; have hcz4_3 := cellS71_3 HGz4; have hcz4_4 := cellS71_4 HGz4; have hcz4_5 := cellS71_5 HGz4; have hcz4_6 := cellS71_6 HGz4; have hcz4_7 := cellS71_7 HGz4; have hfz4_0 := blk_frozen HGz4 0; have hfz4_1 := blk_frozen HGz4 1; have hfz4_2 := blk_frozen HGz4 2; have hfz4_3 := blk_frozen HGz4 3; have hfz4_4 := blk_frozen HGz4 4; have hfz4_5 := blk_frozen HGz4 5; have hfz4_6 := blk_frozen HGz4 6; have hfz4_7 := blk_frozen HGz4 7; clear HGz4 hgz4; have hnb5 := NB103_0.out; have hnc5 := NB0_103.out; obtain ⟨hcz6_0, hcz6_1, hcz6_2, hcz6_3, hcz6_4, hcz6_5, hcz6_6, hcz6_7, hcz6_8, hcz6_9, hcz6_10, hfz6_0, hfz6_1, hfz6_2, hfz6_3, hfz6_4, hfz6_5, hfz6_6, hfz6_7, hfz6_8, hfz6_9, hfz6_10⟩ := blk_all11 BK103.out))
  refine bodyPost_ret (results_cell_row rfl _ _ gb103 30 #[.int .i64 6, .int .u32 s0_3, .int .u32 0, .int .u64 0, .int .u64 0, .int .u32 0, .int .i64 0, .bool false, .int .i64 a1, .slice none 0 0, .slice none 0 0] (0, 0) _ rfl (by (with_reducible repeat (first | apply bd1 | apply bd2 | apply bd3)); refine blk_put (cs := #[.int .i64 6, .int .u32 s0_3, .int .u32 0, .int .u64 0, .int .u64 0, .int .u32 0, .int .i64 0, .bool false, .int .i64 a1, .slice none 0 0, .slice none 0 0]) ?_ 10 _ rfl; (with_reducible repeat (first | apply bd1 | apply bd2 | apply bd3)); refine blk_put (cs := #[.int .i64 6, .int .u32 s0_3, .int .u32 0, .int .u64 0, .int .u64 0, .int .u32 0, .int .i64 0, .bool false, .int .i64 a1, .slice none 0 0, .slice none 0 0]) ?_ 9 _ rfl; (with_reducible repeat (first | apply bd1 | apply bd2 | apply bd3)); refine blk_put (cs := #[.int .i64 6, .int .u32 s0_3, .int .u32 0, .int .u64 0, .int .u64 0, .int .u32 0, .int .i64 0, .bool false, .int .i64 0, .slice none 0 0, .slice none 0 0]) ?_ 8 _ rfl; (with_reducible repeat (first | apply bd1 | apply bd2 | apply bd3)); refine blk_put (cs := #[.int .i64 6, .int .u32 s0_3, .int .u32 0, .int .u64 0, .int .u64 0, .int .u32 0, .int .i64 0, .bool false, .int .i64 0, .slice none 0 0, .slice none 0 0]) ?_ 7 _ rfl; (with_reducible repeat (first | apply bd1 | apply bd2 | apply bd3)); refine blk_put (cs := #[.int .i64 6, .int .u32 s0_3, .int .u32 0, .int .u64 0, .int .u64 0, .int .u32 0, .int .i64 0, .bool false, .int .i64 0, .slice none 0 0, .slice none 0 0]) ?_ 6 _ rfl; (with_reducible repeat (first | apply bd1 | apply bd2 | apply bd3)); refine blk_put (cs := #[.int .i64 6, .int .u32 s0_3, .int .u32 0, .int .u64 0, .int .u64 0, .int .u32 0, .int .i64 0, .bool false, .int .i64 0, .slice none 0 0, .slice none 0 0]) ?_ 5 _ rfl; (with_reducible repeat (first | apply bd1 | apply bd2 | apply bd3)); refine blk_put (cs := #[.int .i64 6, .int .u32 s0_3, .int .u32 0, .int .u64 0, .int .u64 0, .int .u32 0, .int .i64 0, .bool false, .int .i64 0, .slice none 0 0, .slice none 0 0]) ?_ 4 _ rfl; (with_reducible repeat (first | apply bd1 | apply bd2 | apply bd3)); refine blk_put (cs := #[.int .i64 6, .int .u32 s0_3, .int .u32 0, .int .u64 0, .int .u64 0, .int .u32 0, .int .i64 0, .bool false, .int .i64 0, .slice none 0 0, .slice none 0 0]) ?_ 3 _ rfl; (with_reducible repeat (first | apply bd1 | apply bd2 | apply bd3)); refine blk_put (cs := #[.int .i64 6, .int .u32 s0_3, .int .u32 0, .int .u64 0, .int .u64 0, .int .u32 0, .int .i64 0, .bool false, .int .i64 0, .slice none 0 0, .slice none 0 0]) ?_ 2 _ rfl; (with_reducible repeat (first | apply bd1 | apply bd2 | apply bd3)); refine blk_put (cs := #[.int .i64 6, .int .u32 0, .int .u32 0, .int .u64 0, .int .u64 0, .int .u32 0, .int .i64 0, .bool false, .int .i64 0, .slice none 0 0, .slice none 0 0]) ?_ 1 _ rfl; (with_reducible repeat (first | apply bd1 | apply bd2 | apply bd3)); refine blk_put (cs := #[.int .i64 0, .int .u32 0, .int .u32 0, .int .u64 0, .int .u64 0, .int .u32 0, .int .i64 0, .bool false, .int .i64 0, .slice none 0 0, .slice none 0 0]) ?_ 0 _ rfl; (with_reducible repeat (first | apply bd1 | apply bd2 | apply bd3)); exact BK103.out) Try.underlying30 rfl (by kernel_rfl)) rfl ?_
  exact ⟨_, _, by first | rfl | (simp [errW_none, errW_some] <;> rfl) | (simp [*, errW_none, errW_some] <;> rfl), by first | exact Kd.R_nil _ _ _ _ _ | exact Kd.N_nil _ _ _ _ _ | exact Kd.V_nil _ _ _ _ _ | exact Kd.Q_nil _ _ _ _ _ | exact Kd.S_nil _ _ _ _ _, by first | exact Kd.R_nil _ _ _ _ _ | exact Kd.N_nil _ _ _ _ _ | exact Kd.V_nil _ _ _ _ _ | exact Kd.Q_nil _ _ _ _ _ | exact Kd.S_nil _ _ _ _ _, by repeat (first | (with_reducible first | exact HI0.out | apply IsS71.alloc | apply IsS71.drewN | apply IsS71.drew | apply IsS71.set_0 | apply IsS71.set_1 | apply IsS71.set_2 | apply IsS71.set_3 | apply IsS71.set_4 | apply IsS71.set_5 | apply IsS71.set_6 | apply IsS71.set_7 | refine IsS71.far ?_ NB0_103.out _) | exact HI0.out), by repeat (first | (with_reducible first | exact HB.out | apply below_alloc | apply pw_below_drewN | apply below_drew1 | refine below_set ?_ (IsS71.ge HI0.out) | refine below_set ?_ GE103.out) | exact HB.out), by repeat (first | (with_reducible first | exact HK.out | apply KeepBut.set_ | apply keep_drewN | apply keep_drew | apply keep_alloc | refine keep_far ?_ GW103.out _) | exact HK.out)⟩

/-! ### lease_is: function 68 -/
def lease_is.f (a0 : Int) : Option (Bool) := if a0 = 1 then (some true) else (some (a0 == 2))
set_option maxHeartbeats 8000000 in
set_option maxRecDepth 100000 in
theorem lease_is.calls (a0 : Int) (r : Bool) (w : World) (h : lease_is.f a0 = some r) :
    Calls Try.prog 68 #[.int .i64 a0] w fun e w' => e = .returned (.bool r) ∧ Drawn0 w w' := by
  have H : (if a0 = 1 then (some true) else (some (a0 == 2))) = some r := h
  clear h
  by_cases c2 : a0 = 1
  · rw [if_pos c2] at H
    have c2b0 : (a0 == 1) = true := beq_iff_eq.mpr c2
    have c2b1 : (a0 != 1) = false := bne_eq_false_iff_eq.mpr c2
    clear c2
    obtain rfl := Option.some.inj H
    go_enter Try.func68, Try.ntmps68
    go_wp2
    go_ret
    exact ⟨by first | rfl | (simp; done) | (simp [*]; done), by repeat (first | exact Drawn0.refl _ | apply Drawn0.step)⟩
  · rw [if_neg c2] at H
    have c2b0 : (a0 == 1) = false := beq_eq_false_iff_ne.mpr c2
    have c2b1 : (a0 != 1) = true := bne_iff_ne.mpr c2
    obtain rfl := Option.some.inj H
    go_enter Try.func68, Try.ntmps68
    go_wp2
    go_ret
    exact ⟨by first | rfl | (simp; done) | (simp [*]; done), by repeat (first | exact Drawn0.refl _ | apply Drawn0.step)⟩

end Go.Proofs.Ytgghljienippgaa.PA
