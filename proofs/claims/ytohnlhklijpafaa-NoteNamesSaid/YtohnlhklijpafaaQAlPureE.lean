/- Plain laws on the mirror of chapter 5's functions, part E: the law NoteNames. -/
import Derived.Test.YtohnlhklijpafaaQAlPAx1
import Derived.Test.YtohnlhklijpafaaQAlPAx2
import Derived.Test.YtohnlhklijpafaaQAlPAx4
import Derived.Test.YtohnlhklijpafaaQAlPAx8
import Derived.Test.YtohnlhklijpafaaQAlPureC
namespace Go.Proofs.Ytohnlhklijpafaa.Pure
open Go.RowKit Go.Proofs.Ytohnlhklijpafaa.PA Go.Proofs.YtohnlhklijpafaaW.PrintWords Go.Proofs.YtohnlhklijpafaaW.PrintLast Go.Proofs.YtohnlhklijpafaaW.PrintMore
set_option linter.unusedVariables false
set_option linter.unusedSimpArgs false

theorem names_ge' (k : Int) {n : Nat} (hn : 9 ≤ n) : note_Names.f n k = some (nameStr k) := at_rounds (fun j => note_Names.mono k j) hn (names_str k)
theorem below_w (x : Int) {m : Int} (hm : 0 < m) (hm2 : m < 1000) : 0 ≤ wrap64 (Int.tmod (IntKind.u64.wrap x) m) ∧ wrap64 (Int.tmod (IntKind.u64.wrap x) m) < m := by
  have h0 : 0 ≤ IntKind.u64.wrap x := by
    have : IntKind.u64.wrap x = x % 18446744073709551616 := rfl
    omega
  rw [Int.tmod_eq_emod_of_nonneg h0]
  have a := Int.emod_nonneg (IntKind.u64.wrap x) (show m ≠ 0 by omega)
  have b := Int.emod_lt_of_pos (IntKind.u64.wrap x) hm
  rw [w64_id (by omega) (by omega)]
  exact ⟨a, b⟩
theorem names_1 (n : Nat) (b c d e : Int) : drayagelaw05_NoteNames.l0 (n + 40) 1 b c d e (nameStr 1) (⟨#[69, 80, 76, 84, 79, 83, 85, 67, 75, 68]⟩ : ByteArray) 0 0 = (note_Check.f 1 b 0 c 0 0 0 false 0 [] []).bind fun t276 => if t276 = 0 then (if (1 : Int) ≥ 1 then (if (1 : Int) ≤ 13 then ((drayagelaw05_known.f (n + 20)).bind fun t277 => some t277) else none) else none) else none := by
  kernel_rfl
theorem ok_1 (b c d e : Int) (hb : 0 ≤ b) (hc : 0 ≤ c) : noteBad 1 b 0 c 0 0 0 false 0 0 0 = false := by
  obtain ⟨d0, d1⟩ := below_w d (m := 16) (by decide) (by decide)
  obtain ⟨e0, e1⟩ := below_w e (m := 256) (by decide) (by decide)
  generalize wrap64 (Int.tmod (IntKind.u64.wrap d) 16) = D at *
  generalize wrap64 (Int.tmod (IntKind.u64.wrap e) 256) = E at *
  have hz : ¬ (nameStr 1).size = 0 := by decide
  simp [noteBad, moreB, farB, hz, show has 1 69 = true from by decide, show has 1 80 = true from by decide, show has 1 76 = true from by decide, show has 1 84 = false from by decide, show has 1 79 = false from by decide, show has 1 83 = false from by decide, show has 1 85 = false from by decide, show has 1 67 = false from by decide, show has 1 75 = false from by decide, show has 1 68 = true from by decide] <;> omega
theorem names_2 (n : Nat) (b c d e : Int) : drayagelaw05_NoteNames.l0 (n + 40) 2 b c d e (nameStr 2) (⟨#[69, 80, 76, 84, 79, 83, 85, 67, 75, 68]⟩ : ByteArray) 0 0 = (note_Check.f 2 b 0 c 0 0 0 false 0 [] []).bind fun t276 => if t276 = 0 then (if (2 : Int) ≥ 1 then (if (2 : Int) ≤ 13 then ((drayagelaw05_known.f (n + 31)).bind fun t277 => some t277) else none) else none) else none := by
  kernel_rfl
theorem ok_2 (b c d e : Int) (hb : 0 ≤ b) (hc : 0 ≤ c) : noteBad 2 b 0 c 0 0 0 false 0 0 0 = false := by
  obtain ⟨d0, d1⟩ := below_w d (m := 16) (by decide) (by decide)
  obtain ⟨e0, e1⟩ := below_w e (m := 256) (by decide) (by decide)
  generalize wrap64 (Int.tmod (IntKind.u64.wrap d) 16) = D at *
  generalize wrap64 (Int.tmod (IntKind.u64.wrap e) 256) = E at *
  have hz : ¬ (nameStr 2).size = 0 := by decide
  simp [noteBad, moreB, farB, hz, show has 2 69 = true from by decide, show has 2 80 = false from by decide, show has 2 76 = true from by decide, show has 2 84 = false from by decide, show has 2 79 = false from by decide, show has 2 83 = false from by decide, show has 2 85 = false from by decide, show has 2 67 = false from by decide, show has 2 75 = false from by decide, show has 2 68 = false from by decide] <;> omega
theorem names_3 (n : Nat) (b c d e : Int) : drayagelaw05_NoteNames.l0 (n + 40) 3 b c d e (nameStr 3) (⟨#[69, 80, 76, 84, 79, 83, 85, 67, 75, 68]⟩ : ByteArray) 0 0 = (note_Check.f 3 b 0 c 0 0 0 false 0 [] []).bind fun t276 => if t276 = 0 then (if (3 : Int) ≥ 1 then (if (3 : Int) ≤ 13 then ((drayagelaw05_known.f (n + 31)).bind fun t277 => some t277) else none) else none) else none := by
  kernel_rfl
theorem ok_3 (b c d e : Int) (hb : 0 ≤ b) (hc : 0 ≤ c) : noteBad 3 b 0 c 0 0 0 false 0 0 0 = false := by
  obtain ⟨d0, d1⟩ := below_w d (m := 16) (by decide) (by decide)
  obtain ⟨e0, e1⟩ := below_w e (m := 256) (by decide) (by decide)
  generalize wrap64 (Int.tmod (IntKind.u64.wrap d) 16) = D at *
  generalize wrap64 (Int.tmod (IntKind.u64.wrap e) 256) = E at *
  have hz : ¬ (nameStr 3).size = 0 := by decide
  simp [noteBad, moreB, farB, hz, show has 3 69 = true from by decide, show has 3 80 = false from by decide, show has 3 76 = true from by decide, show has 3 84 = false from by decide, show has 3 79 = false from by decide, show has 3 83 = false from by decide, show has 3 85 = false from by decide, show has 3 67 = false from by decide, show has 3 75 = false from by decide, show has 3 68 = false from by decide] <;> omega
theorem names_4 (n : Nat) (b c d e : Int) : drayagelaw05_NoteNames.l0 (n + 40) 4 b c d e (nameStr 4) (⟨#[69, 80, 76, 84, 79, 83, 85, 67, 75, 68]⟩ : ByteArray) 0 0 = (note_Check.f 4 b 0 0 0 0 0 false (wrap64 (Int.tmod (IntKind.u64.wrap e) 256)) [] []).bind fun t276 => if t276 = 0 then (if (4 : Int) ≥ 1 then (if (4 : Int) ≤ 13 then ((drayagelaw05_known.f (n + 26)).bind fun t277 => some t277) else none) else none) else none := by
  kernel_rfl
theorem ok_4 (b c d e : Int) (hb : 0 ≤ b) (hc : 0 ≤ c) : noteBad 4 b 0 0 0 0 0 false (wrap64 (Int.tmod (IntKind.u64.wrap e) 256)) 0 0 = false := by
  obtain ⟨d0, d1⟩ := below_w d (m := 16) (by decide) (by decide)
  obtain ⟨e0, e1⟩ := below_w e (m := 256) (by decide) (by decide)
  generalize wrap64 (Int.tmod (IntKind.u64.wrap d) 16) = D at *
  generalize wrap64 (Int.tmod (IntKind.u64.wrap e) 256) = E at *
  have hz : ¬ (nameStr 4).size = 0 := by decide
  simp [noteBad, moreB, farB, hz, show has 4 69 = true from by decide, show has 4 80 = false from by decide, show has 4 76 = false from by decide, show has 4 84 = false from by decide, show has 4 79 = false from by decide, show has 4 83 = false from by decide, show has 4 85 = false from by decide, show has 4 67 = true from by decide, show has 4 75 = false from by decide, show has 4 68 = false from by decide] <;> omega
theorem names_5 (n : Nat) (b c d e : Int) : drayagelaw05_NoteNames.l0 (n + 40) 5 b c d e (nameStr 5) (⟨#[69, 80, 76, 84, 79, 83, 85, 67, 75, 68]⟩ : ByteArray) 0 0 = (note_Check.f 5 b 0 0 0 0 0 false (wrap64 (Int.tmod (IntKind.u64.wrap e) 256)) [] []).bind fun t276 => if t276 = 0 then (if (5 : Int) ≥ 1 then (if (5 : Int) ≤ 13 then ((drayagelaw05_known.f (n + 24)).bind fun t277 => some t277) else none) else none) else none := by
  kernel_rfl
theorem ok_5 (b c d e : Int) (hb : 0 ≤ b) (hc : 0 ≤ c) : noteBad 5 b 0 0 0 0 0 false (wrap64 (Int.tmod (IntKind.u64.wrap e) 256)) 0 0 = false := by
  obtain ⟨d0, d1⟩ := below_w d (m := 16) (by decide) (by decide)
  obtain ⟨e0, e1⟩ := below_w e (m := 256) (by decide) (by decide)
  generalize wrap64 (Int.tmod (IntKind.u64.wrap d) 16) = D at *
  generalize wrap64 (Int.tmod (IntKind.u64.wrap e) 256) = E at *
  have hz : ¬ (nameStr 5).size = 0 := by decide
  simp [noteBad, moreB, farB, hz, show has 5 69 = true from by decide, show has 5 80 = false from by decide, show has 5 76 = false from by decide, show has 5 84 = true from by decide, show has 5 79 = false from by decide, show has 5 83 = false from by decide, show has 5 85 = false from by decide, show has 5 67 = true from by decide, show has 5 75 = false from by decide, show has 5 68 = false from by decide] <;> omega
theorem names_6 (n : Nat) (b c d e : Int) : drayagelaw05_NoteNames.l0 (n + 40) 6 b c d e (nameStr 6) (⟨#[69, 80, 76, 84, 79, 83, 85, 67, 75, 68]⟩ : ByteArray) 0 0 = (note_Check.f 6 b 0 0 0 0 0 false (wrap64 (Int.tmod (IntKind.u64.wrap e) 256)) [] []).bind fun t276 => if t276 = 0 then (if (6 : Int) ≥ 1 then (if (6 : Int) ≤ 13 then ((drayagelaw05_known.f (n + 26)).bind fun t277 => some t277) else none) else none) else none := by
  kernel_rfl
theorem ok_6 (b c d e : Int) (hb : 0 ≤ b) (hc : 0 ≤ c) : noteBad 6 b 0 0 0 0 0 false (wrap64 (Int.tmod (IntKind.u64.wrap e) 256)) 0 0 = false := by
  obtain ⟨d0, d1⟩ := below_w d (m := 16) (by decide) (by decide)
  obtain ⟨e0, e1⟩ := below_w e (m := 256) (by decide) (by decide)
  generalize wrap64 (Int.tmod (IntKind.u64.wrap d) 16) = D at *
  generalize wrap64 (Int.tmod (IntKind.u64.wrap e) 256) = E at *
  have hz : ¬ (nameStr 6).size = 0 := by decide
  simp [noteBad, moreB, farB, hz, show has 6 69 = true from by decide, show has 6 80 = false from by decide, show has 6 76 = false from by decide, show has 6 84 = false from by decide, show has 6 79 = false from by decide, show has 6 83 = false from by decide, show has 6 85 = false from by decide, show has 6 67 = true from by decide, show has 6 75 = false from by decide, show has 6 68 = false from by decide] <;> omega
theorem names_7 (n : Nat) (b c d e : Int) : drayagelaw05_NoteNames.l0 (n + 40) 7 b c d e (nameStr 7) (⟨#[69, 80, 76, 84, 79, 83, 85, 67, 75, 68]⟩ : ByteArray) 0 0 = (note_Check.f 7 b 0 0 0 0 (wrap64 (Int.tmod (IntKind.u64.wrap d) 16)) false 0 [] []).bind fun t276 => if t276 = 0 then (if (7 : Int) ≥ 1 then (if (7 : Int) ≤ 13 then ((drayagelaw05_known.f (n + 18)).bind fun t277 => some t277) else none) else none) else none := by
  kernel_rfl
theorem ok_7 (b c d e : Int) (hb : 0 ≤ b) (hc : 0 ≤ c) : noteBad 7 b 0 0 0 0 (wrap64 (Int.tmod (IntKind.u64.wrap d) 16)) false 0 0 0 = false := by
  obtain ⟨d0, d1⟩ := below_w d (m := 16) (by decide) (by decide)
  obtain ⟨e0, e1⟩ := below_w e (m := 256) (by decide) (by decide)
  generalize wrap64 (Int.tmod (IntKind.u64.wrap d) 16) = D at *
  generalize wrap64 (Int.tmod (IntKind.u64.wrap e) 256) = E at *
  have hz : ¬ (nameStr 7).size = 0 := by decide
  simp [noteBad, moreB, farB, hz, show has 7 69 = true from by decide, show has 7 80 = false from by decide, show has 7 76 = false from by decide, show has 7 84 = false from by decide, show has 7 79 = true from by decide, show has 7 83 = true from by decide, show has 7 85 = true from by decide, show has 7 67 = false from by decide, show has 7 75 = false from by decide, show has 7 68 = true from by decide] <;> omega
theorem names_8 (n : Nat) (b c d e : Int) : drayagelaw05_NoteNames.l0 (n + 40) 8 b c d e (nameStr 8) (⟨#[69, 80, 76, 84, 79, 83, 85, 67, 75, 68]⟩ : ByteArray) 0 0 = (note_Check.f 8 b 0 0 0 0 (wrap64 (Int.tmod (IntKind.u64.wrap d) 16)) false (wrap64 (Int.tmod (IntKind.u64.wrap e) 256)) [] []).bind fun t276 => if t276 = 0 then (if (8 : Int) ≥ 1 then (if (8 : Int) ≤ 13 then ((drayagelaw05_known.f (n + 16)).bind fun t277 => some t277) else none) else none) else none := by
  kernel_rfl
theorem ok_8 (b c d e : Int) (hb : 0 ≤ b) (hc : 0 ≤ c) : noteBad 8 b 0 0 0 0 (wrap64 (Int.tmod (IntKind.u64.wrap d) 16)) false (wrap64 (Int.tmod (IntKind.u64.wrap e) 256)) 0 0 = false := by
  obtain ⟨d0, d1⟩ := below_w d (m := 16) (by decide) (by decide)
  obtain ⟨e0, e1⟩ := below_w e (m := 256) (by decide) (by decide)
  generalize wrap64 (Int.tmod (IntKind.u64.wrap d) 16) = D at *
  generalize wrap64 (Int.tmod (IntKind.u64.wrap e) 256) = E at *
  have hz : ¬ (nameStr 8).size = 0 := by decide
  simp [noteBad, moreB, farB, hz, show has 8 69 = true from by decide, show has 8 80 = false from by decide, show has 8 76 = false from by decide, show has 8 84 = false from by decide, show has 8 79 = true from by decide, show has 8 83 = true from by decide, show has 8 85 = true from by decide, show has 8 67 = true from by decide, show has 8 75 = false from by decide, show has 8 68 = true from by decide] <;> omega
theorem names_9 (n : Nat) (b c d e : Int) : drayagelaw05_NoteNames.l0 (n + 40) 9 b c d e (nameStr 9) (⟨#[69, 80, 76, 84, 79, 83, 85, 67, 75, 68]⟩ : ByteArray) 0 0 = (note_Check.f 9 b 0 0 0 0 (wrap64 (Int.tmod (IntKind.u64.wrap d) 16)) false 0 [] []).bind fun t276 => if t276 = 0 then (if (9 : Int) ≥ 1 then (if (9 : Int) ≤ 13 then ((drayagelaw05_known.f (n + 23)).bind fun t277 => some t277) else none) else none) else none := by
  kernel_rfl
theorem ok_9 (b c d e : Int) (hb : 0 ≤ b) (hc : 0 ≤ c) : noteBad 9 b 0 0 0 0 (wrap64 (Int.tmod (IntKind.u64.wrap d) 16)) false 0 0 0 = false := by
  obtain ⟨d0, d1⟩ := below_w d (m := 16) (by decide) (by decide)
  obtain ⟨e0, e1⟩ := below_w e (m := 256) (by decide) (by decide)
  generalize wrap64 (Int.tmod (IntKind.u64.wrap d) 16) = D at *
  generalize wrap64 (Int.tmod (IntKind.u64.wrap e) 256) = E at *
  have hz : ¬ (nameStr 9).size = 0 := by decide
  simp [noteBad, moreB, farB, hz, show has 9 69 = true from by decide, show has 9 80 = false from by decide, show has 9 76 = false from by decide, show has 9 84 = false from by decide, show has 9 79 = true from by decide, show has 9 83 = true from by decide, show has 9 85 = true from by decide, show has 9 67 = false from by decide, show has 9 75 = false from by decide, show has 9 68 = false from by decide] <;> omega
theorem names_10 (n : Nat) (b c d e : Int) : drayagelaw05_NoteNames.l0 (n + 40) 10 b c d e (nameStr 10) (⟨#[69, 80, 76, 84, 79, 83, 85, 67, 75, 68]⟩ : ByteArray) 0 0 = (note_Check.f 10 0 0 0 0 0 0 false 0 [107] []).bind fun t276 => if t276 = 0 then (if (10 : Int) ≥ 1 then (if (10 : Int) ≤ 13 then ((drayagelaw05_known.f (n + 24)).bind fun t277 => some t277) else none) else none) else none := by
  kernel_rfl
theorem ok_10 (b c d e : Int) (hb : 0 ≤ b) (hc : 0 ≤ c) : noteBad 10 0 0 0 0 0 0 false 0 1 0 = false := by
  obtain ⟨d0, d1⟩ := below_w d (m := 16) (by decide) (by decide)
  obtain ⟨e0, e1⟩ := below_w e (m := 256) (by decide) (by decide)
  generalize wrap64 (Int.tmod (IntKind.u64.wrap d) 16) = D at *
  generalize wrap64 (Int.tmod (IntKind.u64.wrap e) 256) = E at *
  have hz : ¬ (nameStr 10).size = 0 := by decide
  simp [noteBad, moreB, farB, hz, show has 10 69 = false from by decide, show has 10 80 = false from by decide, show has 10 76 = false from by decide, show has 10 84 = false from by decide, show has 10 79 = false from by decide, show has 10 83 = false from by decide, show has 10 85 = false from by decide, show has 10 67 = false from by decide, show has 10 75 = true from by decide, show has 10 68 = true from by decide] <;> omega
theorem names_11 (n : Nat) (b c d e : Int) : drayagelaw05_NoteNames.l0 (n + 40) 11 b c d e (nameStr 11) (⟨#[69, 80, 76, 84, 79, 83, 85, 67, 75, 68]⟩ : ByteArray) 0 0 = (note_Check.f 11 0 0 0 0 0 0 false 0 [107] []).bind fun t276 => if t276 = 0 then (if (11 : Int) ≥ 1 then (if (11 : Int) ≤ 13 then ((drayagelaw05_known.f (n + 27)).bind fun t277 => some t277) else none) else none) else none := by
  kernel_rfl
theorem ok_11 (b c d e : Int) (hb : 0 ≤ b) (hc : 0 ≤ c) : noteBad 11 0 0 0 0 0 0 false 0 1 0 = false := by
  obtain ⟨d0, d1⟩ := below_w d (m := 16) (by decide) (by decide)
  obtain ⟨e0, e1⟩ := below_w e (m := 256) (by decide) (by decide)
  generalize wrap64 (Int.tmod (IntKind.u64.wrap d) 16) = D at *
  generalize wrap64 (Int.tmod (IntKind.u64.wrap e) 256) = E at *
  have hz : ¬ (nameStr 11).size = 0 := by decide
  simp [noteBad, moreB, farB, hz, show has 11 69 = false from by decide, show has 11 80 = false from by decide, show has 11 76 = false from by decide, show has 11 84 = false from by decide, show has 11 79 = false from by decide, show has 11 83 = false from by decide, show has 11 85 = false from by decide, show has 11 67 = false from by decide, show has 11 75 = true from by decide, show has 11 68 = false from by decide] <;> omega
theorem names_12 (n : Nat) (b c d e : Int) : drayagelaw05_NoteNames.l0 (n + 40) 12 b c d e (nameStr 12) (⟨#[69, 80, 76, 84, 79, 83, 85, 67, 75, 68]⟩ : ByteArray) 0 0 = (note_Check.f 12 0 0 0 0 0 0 false 0 [107] []).bind fun t276 => if t276 = 0 then (if (12 : Int) ≥ 1 then (if (12 : Int) ≤ 13 then ((drayagelaw05_known.f (n + 27)).bind fun t277 => some t277) else none) else none) else none := by
  kernel_rfl
theorem ok_12 (b c d e : Int) (hb : 0 ≤ b) (hc : 0 ≤ c) : noteBad 12 0 0 0 0 0 0 false 0 1 0 = false := by
  obtain ⟨d0, d1⟩ := below_w d (m := 16) (by decide) (by decide)
  obtain ⟨e0, e1⟩ := below_w e (m := 256) (by decide) (by decide)
  generalize wrap64 (Int.tmod (IntKind.u64.wrap d) 16) = D at *
  generalize wrap64 (Int.tmod (IntKind.u64.wrap e) 256) = E at *
  have hz : ¬ (nameStr 12).size = 0 := by decide
  simp [noteBad, moreB, farB, hz, show has 12 69 = false from by decide, show has 12 80 = false from by decide, show has 12 76 = false from by decide, show has 12 84 = false from by decide, show has 12 79 = false from by decide, show has 12 83 = false from by decide, show has 12 85 = false from by decide, show has 12 67 = false from by decide, show has 12 75 = true from by decide, show has 12 68 = false from by decide] <;> omega
theorem names_13 (n : Nat) (b c d e : Int) : drayagelaw05_NoteNames.l0 (n + 40) 13 b c d e (nameStr 13) (⟨#[69, 80, 76, 84, 79, 83, 85, 67, 75, 68]⟩ : ByteArray) 0 0 = (note_Check.f 13 0 0 0 0 0 0 false (wrap64 (Int.tmod (IntKind.u64.wrap e) 256)) [107] []).bind fun t276 => if t276 = 0 then (if (13 : Int) ≥ 1 then (if (13 : Int) ≤ 13 then ((drayagelaw05_known.f (n + 20)).bind fun t277 => some t277) else none) else none) else none := by
  kernel_rfl
theorem ok_13 (b c d e : Int) (hb : 0 ≤ b) (hc : 0 ≤ c) : noteBad 13 0 0 0 0 0 0 false (wrap64 (Int.tmod (IntKind.u64.wrap e) 256)) 1 0 = false := by
  obtain ⟨d0, d1⟩ := below_w d (m := 16) (by decide) (by decide)
  obtain ⟨e0, e1⟩ := below_w e (m := 256) (by decide) (by decide)
  generalize wrap64 (Int.tmod (IntKind.u64.wrap d) 16) = D at *
  generalize wrap64 (Int.tmod (IntKind.u64.wrap e) 256) = E at *
  have hz : ¬ (nameStr 13).size = 0 := by decide
  simp [noteBad, moreB, farB, hz, show has 13 69 = false from by decide, show has 13 80 = false from by decide, show has 13 76 = false from by decide, show has 13 84 = false from by decide, show has 13 79 = true from by decide, show has 13 83 = false from by decide, show has 13 85 = false from by decide, show has 13 67 = true from by decide, show has 13 75 = true from by decide, show has 13 68 = true from by decide] <;> omega
theorem NoteNames (a0 a1 a2 a3 a4 : Int) (w0 : (Lit.int .i64 a0).wf = true) (w1 : (Lit.int .u32 a1).wf = true) (w2 : (Lit.int .u64 a2).wf = true) (w3 : (Lit.int .i64 a3).wf = true) (w4 : (Lit.int .i64 a4).wf = true) :
    Ev (fun k => drayagelaw05_NoteNames.f k a0 a1 a2 a3 a4) true := by
  obtain ⟨K, hK⟩ := known_ev
  have kn : ∀ k, K ≤ k → drayagelaw05_known.f k = some true := hK
  refine ⟨K + 60, fun n hn => ?_⟩
  obtain ⟨n, rfl⟩ : ∃ q, n = q + 40 := ⟨n - 40, by omega⟩
  show drayagelaw05_NoteNames.f (n + 40) a0 a1 a2 a3 a4 = some true
  unfold drayagelaw05_NoteNames.f
  rw [names_ge' a0 (by omega), Option.bind_some]
  have hb := (u32_wf w1).1
  have hc := (u64_wf w2).1
  by_cases h : 1 ≤ a0 ∧ a0 ≤ 13
  · rcases kinds h with rfl | rfl | rfl | rfl | rfl | rfl | rfl | rfl | rfl | rfl | rfl | rfl | rfl
    · have hq := ok_1 a1 a2 a3 a4 hb hc
      rw [names_1 n a1 a2 a3 a4, check_is]
      simp [hq, kn _ (show K ≤ n + 20 by omega)]
    · have hq := ok_2 a1 a2 a3 a4 hb hc
      rw [names_2 n a1 a2 a3 a4, check_is]
      simp [hq, kn _ (show K ≤ n + 31 by omega)]
    · have hq := ok_3 a1 a2 a3 a4 hb hc
      rw [names_3 n a1 a2 a3 a4, check_is]
      simp [hq, kn _ (show K ≤ n + 31 by omega)]
    · have hq := ok_4 a1 a2 a3 a4 hb hc
      rw [names_4 n a1 a2 a3 a4, check_is]
      simp [hq, kn _ (show K ≤ n + 26 by omega)]
    · have hq := ok_5 a1 a2 a3 a4 hb hc
      rw [names_5 n a1 a2 a3 a4, check_is]
      simp [hq, kn _ (show K ≤ n + 24 by omega)]
    · have hq := ok_6 a1 a2 a3 a4 hb hc
      rw [names_6 n a1 a2 a3 a4, check_is]
      simp [hq, kn _ (show K ≤ n + 26 by omega)]
    · have hq := ok_7 a1 a2 a3 a4 hb hc
      rw [names_7 n a1 a2 a3 a4, check_is]
      simp [hq, kn _ (show K ≤ n + 18 by omega)]
    · have hq := ok_8 a1 a2 a3 a4 hb hc
      rw [names_8 n a1 a2 a3 a4, check_is]
      simp [hq, kn _ (show K ≤ n + 16 by omega)]
    · have hq := ok_9 a1 a2 a3 a4 hb hc
      rw [names_9 n a1 a2 a3 a4, check_is]
      simp [hq, kn _ (show K ≤ n + 23 by omega)]
    · have hq := ok_10 a1 a2 a3 a4 hb hc
      rw [names_10 n a1 a2 a3 a4, check_is]
      simp [hq, kn _ (show K ≤ n + 24 by omega)]
    · have hq := ok_11 a1 a2 a3 a4 hb hc
      rw [names_11 n a1 a2 a3 a4, check_is]
      simp [hq, kn _ (show K ≤ n + 27 by omega)]
    · have hq := ok_12 a1 a2 a3 a4 hb hc
      rw [names_12 n a1 a2 a3 a4, check_is]
      simp [hq, kn _ (show K ≤ n + 27 by omega)]
    · have hq := ok_13 a1 a2 a3 a4 hb hc
      rw [names_13 n a1 a2 a3 a4, check_is]
      simp [hq, kn _ (show K ≤ n + 20 by omega)]
  · have hz : nameStr a0 = ⟨#[]⟩ := by
      unfold nameStr
      rw [if_neg (by omega), if_neg (by omega), if_neg (by omega), if_neg (by omega), if_neg (by omega), if_neg (by omega), if_neg (by omega), if_neg (by omega), if_neg (by omega), if_neg (by omega), if_neg (by omega), if_neg (by omega), if_neg (by omega)]
    rw [hz, drayagelaw05_NoteNames.l0, if_neg (by decide), if_pos (by decide +kernel)]
    by_cases q : a0 < 1
    · rw [if_pos q, kn _ (by omega)]; rfl
    · rw [if_neg q, if_pos (by omega), kn _ (by omega)]; rfl
end Go.Proofs.Ytohnlhklijpafaa.Pure
