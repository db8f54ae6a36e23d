/- Plain laws on the mirror of chapter 5's functions, part D: the laws NoteSizes and NoteApart. -/
import Derived.Test.YtohnlhklijpafaaQAlPAx1
import Derived.Test.YtohnlhklijpafaaQAlPAx4
import Derived.Test.YtohnlhklijpafaaQAlPAx6
import Derived.Test.YtohnlhklijpafaaQAlPAx7
import Derived.Test.YtohnlhklijpafaaQAlPureC
namespace Go.Proofs.Ytohnlhklijpafaa.Pure
open Go.RowKit Go.Proofs.Ytohnlhklijpafaa.PA Go.Proofs.YtohnlhklijpafaaW.PrintWords Go.Proofs.YtohnlhklijpafaaW.PrintLast Go.Proofs.YtohnlhklijpafaaW.PrintMore
set_option linter.unusedVariables false
set_option linter.unusedSimpArgs false

theorem letters_ok {k : Int} (h : 1 ≤ k ∧ k ≤ 13) {i : Nat} (hi : i < (nameStr k).size) : letterAt (nameStr k) i = 69 ∨ letterAt (nameStr k) i = 80 ∨ letterAt (nameStr k) i = 76 ∨ letterAt (nameStr k) i = 84 ∨ letterAt (nameStr k) i = 79 ∨ letterAt (nameStr k) i = 83 ∨ letterAt (nameStr k) i = 85 ∨ letterAt (nameStr k) i = 67 ∨ letterAt (nameStr k) i = 75 ∨ letterAt (nameStr k) i = 68 := by
  rcases kinds h with rfl | rfl | rfl | rfl | rfl | rfl | rfl | rfl | rfl | rfl | rfl | rfl | rfl
  · exact (show ∀ j, j < 4 → letterAt (nameStr 1) j = 69 ∨ letterAt (nameStr 1) j = 80 ∨ letterAt (nameStr 1) j = 76 ∨ letterAt (nameStr 1) j = 84 ∨ letterAt (nameStr 1) j = 79 ∨ letterAt (nameStr 1) j = 83 ∨ letterAt (nameStr 1) j = 85 ∨ letterAt (nameStr 1) j = 67 ∨ letterAt (nameStr 1) j = 75 ∨ letterAt (nameStr 1) j = 68 from by decide +kernel) i hi
  · exact (show ∀ j, j < 2 → letterAt (nameStr 2) j = 69 ∨ letterAt (nameStr 2) j = 80 ∨ letterAt (nameStr 2) j = 76 ∨ letterAt (nameStr 2) j = 84 ∨ letterAt (nameStr 2) j = 79 ∨ letterAt (nameStr 2) j = 83 ∨ letterAt (nameStr 2) j = 85 ∨ letterAt (nameStr 2) j = 67 ∨ letterAt (nameStr 2) j = 75 ∨ letterAt (nameStr 2) j = 68 from by decide +kernel) i hi
  · exact (show ∀ j, j < 2 → letterAt (nameStr 3) j = 69 ∨ letterAt (nameStr 3) j = 80 ∨ letterAt (nameStr 3) j = 76 ∨ letterAt (nameStr 3) j = 84 ∨ letterAt (nameStr 3) j = 79 ∨ letterAt (nameStr 3) j = 83 ∨ letterAt (nameStr 3) j = 85 ∨ letterAt (nameStr 3) j = 67 ∨ letterAt (nameStr 3) j = 75 ∨ letterAt (nameStr 3) j = 68 from by decide +kernel) i hi
  · exact (show ∀ j, j < 2 → letterAt (nameStr 4) j = 69 ∨ letterAt (nameStr 4) j = 80 ∨ letterAt (nameStr 4) j = 76 ∨ letterAt (nameStr 4) j = 84 ∨ letterAt (nameStr 4) j = 79 ∨ letterAt (nameStr 4) j = 83 ∨ letterAt (nameStr 4) j = 85 ∨ letterAt (nameStr 4) j = 67 ∨ letterAt (nameStr 4) j = 75 ∨ letterAt (nameStr 4) j = 68 from by decide +kernel) i hi
  · exact (show ∀ j, j < 3 → letterAt (nameStr 5) j = 69 ∨ letterAt (nameStr 5) j = 80 ∨ letterAt (nameStr 5) j = 76 ∨ letterAt (nameStr 5) j = 84 ∨ letterAt (nameStr 5) j = 79 ∨ letterAt (nameStr 5) j = 83 ∨ letterAt (nameStr 5) j = 85 ∨ letterAt (nameStr 5) j = 67 ∨ letterAt (nameStr 5) j = 75 ∨ letterAt (nameStr 5) j = 68 from by decide +kernel) i hi
  · exact (show ∀ j, j < 2 → letterAt (nameStr 6) j = 69 ∨ letterAt (nameStr 6) j = 80 ∨ letterAt (nameStr 6) j = 76 ∨ letterAt (nameStr 6) j = 84 ∨ letterAt (nameStr 6) j = 79 ∨ letterAt (nameStr 6) j = 83 ∨ letterAt (nameStr 6) j = 85 ∨ letterAt (nameStr 6) j = 67 ∨ letterAt (nameStr 6) j = 75 ∨ letterAt (nameStr 6) j = 68 from by decide +kernel) i hi
  · exact (show ∀ j, j < 5 → letterAt (nameStr 7) j = 69 ∨ letterAt (nameStr 7) j = 80 ∨ letterAt (nameStr 7) j = 76 ∨ letterAt (nameStr 7) j = 84 ∨ letterAt (nameStr 7) j = 79 ∨ letterAt (nameStr 7) j = 83 ∨ letterAt (nameStr 7) j = 85 ∨ letterAt (nameStr 7) j = 67 ∨ letterAt (nameStr 7) j = 75 ∨ letterAt (nameStr 7) j = 68 from by decide +kernel) i hi
  · exact (show ∀ j, j < 6 → letterAt (nameStr 8) j = 69 ∨ letterAt (nameStr 8) j = 80 ∨ letterAt (nameStr 8) j = 76 ∨ letterAt (nameStr 8) j = 84 ∨ letterAt (nameStr 8) j = 79 ∨ letterAt (nameStr 8) j = 83 ∨ letterAt (nameStr 8) j = 85 ∨ letterAt (nameStr 8) j = 67 ∨ letterAt (nameStr 8) j = 75 ∨ letterAt (nameStr 8) j = 68 from by decide +kernel) i hi
  · exact (show ∀ j, j < 4 → letterAt (nameStr 9) j = 69 ∨ letterAt (nameStr 9) j = 80 ∨ letterAt (nameStr 9) j = 76 ∨ letterAt (nameStr 9) j = 84 ∨ letterAt (nameStr 9) j = 79 ∨ letterAt (nameStr 9) j = 83 ∨ letterAt (nameStr 9) j = 85 ∨ letterAt (nameStr 9) j = 67 ∨ letterAt (nameStr 9) j = 75 ∨ letterAt (nameStr 9) j = 68 from by decide +kernel) i hi
  · exact (show ∀ j, j < 2 → letterAt (nameStr 10) j = 69 ∨ letterAt (nameStr 10) j = 80 ∨ letterAt (nameStr 10) j = 76 ∨ letterAt (nameStr 10) j = 84 ∨ letterAt (nameStr 10) j = 79 ∨ letterAt (nameStr 10) j = 83 ∨ letterAt (nameStr 10) j = 85 ∨ letterAt (nameStr 10) j = 67 ∨ letterAt (nameStr 10) j = 75 ∨ letterAt (nameStr 10) j = 68 from by decide +kernel) i hi
  · exact (show ∀ j, j < 1 → letterAt (nameStr 11) j = 69 ∨ letterAt (nameStr 11) j = 80 ∨ letterAt (nameStr 11) j = 76 ∨ letterAt (nameStr 11) j = 84 ∨ letterAt (nameStr 11) j = 79 ∨ letterAt (nameStr 11) j = 83 ∨ letterAt (nameStr 11) j = 85 ∨ letterAt (nameStr 11) j = 67 ∨ letterAt (nameStr 11) j = 75 ∨ letterAt (nameStr 11) j = 68 from by decide +kernel) i hi
  · exact (show ∀ j, j < 1 → letterAt (nameStr 12) j = 69 ∨ letterAt (nameStr 12) j = 80 ∨ letterAt (nameStr 12) j = 76 ∨ letterAt (nameStr 12) j = 84 ∨ letterAt (nameStr 12) j = 79 ∨ letterAt (nameStr 12) j = 83 ∨ letterAt (nameStr 12) j = 85 ∨ letterAt (nameStr 12) j = 67 ∨ letterAt (nameStr 12) j = 75 ∨ letterAt (nameStr 12) j = 68 from by decide +kernel) i hi
  · exact (show ∀ j, j < 4 → letterAt (nameStr 13) j = 69 ∨ letterAt (nameStr 13) j = 80 ∨ letterAt (nameStr 13) j = 76 ∨ letterAt (nameStr 13) j = 84 ∨ letterAt (nameStr 13) j = 79 ∨ letterAt (nameStr 13) j = 83 ∨ letterAt (nameStr 13) j = 85 ∨ letterAt (nameStr 13) j = 67 ∨ letterAt (nameStr 13) j = 75 ∨ letterAt (nameStr 13) j = 68 from by decide +kernel) i hi
theorem bt_letter {s : ByteArray} {i : Nat} (h : i < s.size) : bt s (i : Int) = letterAt s i := by
  rw [letterAt_is h]; unfold bt; rw [dif_pos (show ((i : Int)).toNat < s.size by simpa using h)]; rfl
theorem names_ge (k : Int) {n : Nat} (hn : 9 ≤ n) : note_Names.f n k = some (nameStr k) := at_rounds (fun j => note_Names.mono k j) hn (names_str k)
theorem noteB_pos (s : ByteArray) {k ep ol ls ti o st : Int} {un : Bool} {co : Int} {l9 l10 : List Int} : ∀ n, 0 < (noteB s k ep ol ls ti o st un co l9 l10 n).length
  | 0 => by simp [noteB, bigE_len]
  | n + 1 => by
    have := noteB_pos s (k := k) (ep := ep) (ol := ol) (ls := ls) (ti := ti) (o := o) (st := st) (un := un) (co := co) (l9 := l9) (l10 := l10) n
    simp only [noteB, List.length_append]
    omega
theorem first_is (s : ByteArray) {k ep ol ls ti o st : Int} {un : Bool} {co : Int} {l9 l10 : List Int} (h0 : 0 ≤ k) (h1 : k < 256) : ∀ n, rd (noteB s k ep ol ls ti o st un co l9 l10 n) 0 = k
  | 0 => by simp [noteB, bigE_one h0 h1, rd]
  | n + 1 => by
    have a := first_is s (ep := ep) (ol := ol) (ls := ls) (ti := ti) (o := o) (st := st) (un := un) (co := co) (l9 := l9) (l10 := l10) h0 h1 n
    have b := noteB_pos s (k := k) (ep := ep) (ol := ol) (ls := ls) (ti := ti) (o := o) (st := st) (un := un) (co := co) (l9 := l9) (l10 := l10) n
    unfold rd at a ⊢
    rw [noteB]
    simp only [List.getD] at a ⊢
    rw [List.getElem?_append_left (by simpa using b)]
    exact a
theorem sizes_loop {K : Nat} (kn : ∀ j, K ≤ j → drayagelaw05_known.f j = some true) {k ep ol ls ti o st : Int} {un : Bool} {co : Int} {l9 l10 : List Int} (hk : 1 ≤ k ∧ k ≤ 13) (h9 : l9.length ≤ 255) (h10 : l10.length ≤ 255) :
    ∀ (m i : Nat), i + m = (nameStr k).size → ∀ R, K + 5 * m + 1 ≤ R → drayagelaw05_NoteSizes.l0 R (noteB (nameStr k) k ep ol ls ti o st un co l9 l10 (nameStr k).size) (nameStr k) ((noteB (nameStr k) k ep ol ls ti o st un co l9 l10 i).length : Int) (i : Int) k ep ol ls ti o st un co l9 l10 = some true := by
  intro m
  induction m with
  | zero =>
    intro i hi R hR
    obtain ⟨R, rfl⟩ : ∃ q, R = q + 1 := ⟨R - 1, by omega⟩
    have e : i = (nameStr k).size := by omega
    subst e
    have hl := noteB_len (nameStr k) (k := k) (ep := ep) (ol := ol) (ls := ls) (ti := ti) (o := o) (st := st) (un := un) (co := co) h9 h10 (nameStr k).size
    rw [drayagelaw05_NoteSizes.l0, if_neg (by omega), if_pos rfl, if_pos (by omega), first_is (nameStr k) (by omega) (by omega), w64_id (by omega) (by omega), if_pos rfl, kn R (by omega)]; rfl
  | succ m ih =>
    intro i hi' R hR
    have hi : i < (nameStr k).size := by omega
    obtain ⟨R, rfl⟩ : ∃ q, R = q + 4 := ⟨R - 4, by omega⟩
    have hl := noteB_len (nameStr k) (k := k) (ep := ep) (ol := ol) (ls := ls) (ti := ti) (o := o) (st := st) (un := un) (co := co) h9 h10 i
    have hz := names_size k
    have hw : wrap64 ((i : Int) + 1) = ((i + 1 : Nat) : Int) := by rw [w64_id (by omega) (by omega)]; omega
    have hs : noteB (nameStr k) k ep ol ls ti o st un co l9 l10 (i + 1) = noteB (nameStr k) k ep ol ls ti o st un co l9 l10 i ++ partB ep ol ls ti o st un co l9 l10 (letterAt (nameStr k) i) := rfl
    rcases letters_ok hk hi with e | e | e | e | e | e | e | e | e | e
    · rw [e, show partB ep ol ls ti o st un co l9 l10 69 = bigE ep 4 from rfl] at hs
      have hn : ((noteB (nameStr k) k ep ol ls ti o st un co l9 l10 i).length : Int) + 4 = ((noteB (nameStr k) k ep ol ls ti o st un co l9 l10 (i + 1)).length : Int) := by rw [hs]; simp [bigE_len]
      rw [drayagelaw05_NoteSizes.l0, if_pos (by omega), if_pos (by omega), bt_letter hi, if_pos e, drayagelaw05_NoteSizes.j1, e, if_pos (beq_self_eq_true _)]
      rw [w64_id (by omega) (by omega), hn, hw]
      exact ih (i + 1) (by omega) _ (by omega)
    · rw [e, show partB ep ol ls ti o st un co l9 l10 80 = bigE ol 4 from rfl] at hs
      have hn : ((noteB (nameStr k) k ep ol ls ti o st un co l9 l10 i).length : Int) + 4 = ((noteB (nameStr k) k ep ol ls ti o st un co l9 l10 (i + 1)).length : Int) := by rw [hs]; simp [bigE_len]
      rw [drayagelaw05_NoteSizes.l0, if_pos (by omega), if_pos (by omega), bt_letter hi, e, if_neg (by decide), if_pos rfl, drayagelaw05_NoteSizes.j1, if_pos (beq_self_eq_true _)]
      rw [w64_id (by omega) (by omega), hn, hw]
      exact ih (i + 1) (by omega) _ (by omega)
    · rw [e, show partB ep ol ls ti o st un co l9 l10 76 = bigE ls 8 from rfl] at hs
      have hn : ((noteB (nameStr k) k ep ol ls ti o st un co l9 l10 i).length : Int) + 8 = ((noteB (nameStr k) k ep ol ls ti o st un co l9 l10 (i + 1)).length : Int) := by rw [hs]; simp [bigE_len]
      rw [drayagelaw05_NoteSizes.l0, if_pos (by omega), if_pos (by omega), bt_letter hi, e, if_neg (by decide), if_neg (by decide), drayagelaw05_NoteSizes.j1, if_neg (by decide), if_pos rfl, drayagelaw05_NoteSizes.j2, if_pos (beq_self_eq_true _)]
      rw [w64_id (by omega) (by omega), hn, hw]
      exact ih (i + 1) (by omega) _ (by omega)
    · rw [e, show partB ep ol ls ti o st un co l9 l10 84 = bigE ti 8 from rfl] at hs
      have hn : ((noteB (nameStr k) k ep ol ls ti o st un co l9 l10 i).length : Int) + 8 = ((noteB (nameStr k) k ep ol ls ti o st un co l9 l10 (i + 1)).length : Int) := by rw [hs]; simp [bigE_len]
      rw [drayagelaw05_NoteSizes.l0, if_pos (by omega), if_pos (by omega), bt_letter hi, e, if_neg (by decide), if_neg (by decide), drayagelaw05_NoteSizes.j1, if_neg (by decide), if_neg (by decide), drayagelaw05_NoteSizes.j2, if_pos (beq_self_eq_true _)]
      rw [w64_id (by omega) (by omega), hn, hw]
      exact ih (i + 1) (by omega) _ (by omega)
    · rw [e, show partB ep ol ls ti o st un co l9 l10 79 = bigE o 4 from rfl] at hs
      have hn : ((noteB (nameStr k) k ep ol ls ti o st un co l9 l10 i).length : Int) + 4 = ((noteB (nameStr k) k ep ol ls ti o st un co l9 l10 (i + 1)).length : Int) := by rw [hs]; simp [bigE_len]
      rw [drayagelaw05_NoteSizes.l0, if_pos (by omega), if_pos (by omega), bt_letter hi, e, if_neg (by decide), if_neg (by decide), drayagelaw05_NoteSizes.j1, if_pos (beq_self_eq_true _)]
      rw [w64_id (by omega) (by omega), hn, hw]
      exact ih (i + 1) (by omega) _ (by omega)
    · rw [e, show partB ep ol ls ti o st un co l9 l10 83 = bigE st 1 from rfl] at hs
      have hn : ((noteB (nameStr k) k ep ol ls ti o st un co l9 l10 i).length : Int) + 1 = ((noteB (nameStr k) k ep ol ls ti o st un co l9 l10 (i + 1)).length : Int) := by rw [hs]; simp [bigE_len]
      rw [drayagelaw05_NoteSizes.l0, if_pos (by omega), if_pos (by omega), bt_letter hi, e, if_neg (by decide), if_neg (by decide), drayagelaw05_NoteSizes.j1, if_neg (by decide), if_neg (by decide), drayagelaw05_NoteSizes.j2, if_neg (by decide), if_pos rfl, drayagelaw05_NoteSizes.j3, if_pos (beq_self_eq_true _)]
      rw [w64_id (by omega) (by omega), hn, hw]
      exact ih (i + 1) (by omega) _ (by omega)
    · rw [e, show partB ep ol ls ti o st un co l9 l10 85 = bigE (bitI un) 1 from rfl] at hs
      have hn : ((noteB (nameStr k) k ep ol ls ti o st un co l9 l10 i).length : Int) + 1 = ((noteB (nameStr k) k ep ol ls ti o st un co l9 l10 (i + 1)).length : Int) := by rw [hs]; simp [bigE_len]
      rw [drayagelaw05_NoteSizes.l0, if_pos (by omega), if_pos (by omega), bt_letter hi, e, if_neg (by decide), if_neg (by decide), drayagelaw05_NoteSizes.j1, if_neg (by decide), if_neg (by decide), drayagelaw05_NoteSizes.j2, if_neg (by decide), if_neg (by decide), if_pos rfl, drayagelaw05_NoteSizes.j3, if_pos (beq_self_eq_true _)]
      rw [w64_id (by omega) (by omega), hn, hw]
      exact ih (i + 1) (by omega) _ (by omega)
    · rw [e, show partB ep ol ls ti o st un co l9 l10 67 = bigE co 1 from rfl] at hs
      have hn : ((noteB (nameStr k) k ep ol ls ti o st un co l9 l10 i).length : Int) + 1 = ((noteB (nameStr k) k ep ol ls ti o st un co l9 l10 (i + 1)).length : Int) := by rw [hs]; simp [bigE_len]
      rw [drayagelaw05_NoteSizes.l0, if_pos (by omega), if_pos (by omega), bt_letter hi, e, if_neg (by decide), if_neg (by decide), drayagelaw05_NoteSizes.j1, if_neg (by decide), if_neg (by decide), drayagelaw05_NoteSizes.j2, if_neg (by decide), if_neg (by decide), if_neg (by decide), drayagelaw05_NoteSizes.j3, if_pos (beq_self_eq_true _)]
      rw [w64_id (by omega) (by omega), hn, hw]
      exact ih (i + 1) (by omega) _ (by omega)
    · rw [e, show partB ep ol ls ti o st un co l9 l10 75 = bigE (l9.length : Int) 1 ++ l9 from rfl] at hs
      have hn : ((noteB (nameStr k) k ep ol ls ti o st un co l9 l10 i).length : Int) + 1 + (l9.length : Int) = ((noteB (nameStr k) k ep ol ls ti o st un co l9 l10 (i + 1)).length : Int) := by rw [hs]; simp [bigE_len]; omega
      rw [drayagelaw05_NoteSizes.l0, if_pos (by omega), if_pos (by omega), bt_letter hi, e, if_neg (by decide), if_neg (by decide), drayagelaw05_NoteSizes.j1, if_neg (by decide), if_neg (by decide), drayagelaw05_NoteSizes.j2, if_neg (by decide), if_neg (by decide), if_neg (by decide), drayagelaw05_NoteSizes.j3, if_neg (by decide), if_pos rfl]
      rw [w64_id (x := ((noteB (nameStr k) k ep ol ls ti o st un co l9 l10 i).length : Int) + 1) (by omega) (by omega), w64_id (by omega) (by omega), hn, hw]
      exact ih (i + 1) (by omega) _ (by omega)
    · rw [e, show partB ep ol ls ti o st un co l9 l10 68 = bigE (l10.length : Int) 1 ++ l10 from rfl] at hs
      have hn : ((noteB (nameStr k) k ep ol ls ti o st un co l9 l10 i).length : Int) + 1 + (l10.length : Int) = ((noteB (nameStr k) k ep ol ls ti o st un co l9 l10 (i + 1)).length : Int) := by rw [hs]; simp [bigE_len]; omega
      rw [drayagelaw05_NoteSizes.l0, if_pos (by omega), if_pos (by omega), bt_letter hi, e, if_neg (by decide), if_neg (by decide), drayagelaw05_NoteSizes.j1, if_neg (by decide), if_neg (by decide), drayagelaw05_NoteSizes.j2, if_neg (by decide), if_neg (by decide), if_neg (by decide), drayagelaw05_NoteSizes.j3, if_neg (by decide), if_neg (by decide), if_pos rfl]
      rw [w64_id (x := ((noteB (nameStr k) k ep ol ls ti o st un co l9 l10 i).length : Int) + 1) (by omega) (by omega), w64_id (by omega) (by omega), hn, hw]
      exact ih (i + 1) (by omega) _ (by omega)
theorem NoteSizes (x0 : Int × Int × Int × Int × Int × Int × Int × Bool × Int × List Int × List Int)
    (w0 : ((Lit.int .i64 x0.1).wf = true) ∧ ((Lit.int .u32 x0.2.1).wf = true) ∧ ((Lit.int .u32 x0.2.2.1).wf = true) ∧ ((Lit.int .u64 x0.2.2.2.1).wf = true) ∧ ((Lit.int .u64 x0.2.2.2.2.1).wf = true) ∧ ((Lit.int .u32 x0.2.2.2.2.2.1).wf = true) ∧ ((Lit.int .i64 x0.2.2.2.2.2.2.1).wf = true) ∧ True ∧ ((Lit.int .i64 x0.2.2.2.2.2.2.2.2.1).wf = true) ∧ (x0.2.2.2.2.2.2.2.2.2.1.length ≤ maxLen ∧ ∀ x ∈ x0.2.2.2.2.2.2.2.2.2.1, (Lit.int .u8 x).wf = true) ∧ (x0.2.2.2.2.2.2.2.2.2.2.length ≤ maxLen ∧ ∀ x ∈ x0.2.2.2.2.2.2.2.2.2.2, (Lit.int .u8 x).wf = true)) :
    Ev (fun k => drayagelaw05_NoteSizes.f k x0.1 x0.2.1 x0.2.2.1 x0.2.2.2.1 x0.2.2.2.2.1 x0.2.2.2.2.2.1 x0.2.2.2.2.2.2.1 x0.2.2.2.2.2.2.2.1 x0.2.2.2.2.2.2.2.2.1 x0.2.2.2.2.2.2.2.2.2.1 x0.2.2.2.2.2.2.2.2.2.2) true := by
  obtain ⟨k, ep, ol, ls, ti, o, st, un, co, l9, l10⟩ := x0
  obtain ⟨_, h1, h2, h3, h4, h5, _, _, _, h9, h10⟩ := w0
  dsimp only at h1 h2 h3 h4 h5 h9 h10
  obtain ⟨K, hK⟩ := known_ev
  have kn : ∀ k, K ≤ k → drayagelaw05_known.f k = some true := hK
  refine ⟨K + 60, fun n hn => ?_⟩
  show drayagelaw05_NoteSizes.f n k ep ol ls ti o st un co l9 l10 = some true
  unfold drayagelaw05_NoteSizes.f
  obtain ⟨b, hb⟩ := long_some k ep ol ls ti o st un co l9 l10
  rw [hb, Option.bind_some, kn n (by omega)]
  cases b with
  | true => rfl
  | false =>
    rw [if_neg (by decide), put_is (fit_of h1 h2 h3 h4 h5), Option.bind_some]
    cases h : noteBad k ep ol ls ti o st un co l9.length l10.length with
    | true => rw [cond_true]; dsimp only; rw [if_neg (by decide)]; simp
    | false =>
      obtain ⟨k0, k1, _, _, _, _, t9, t10⟩ := note_fits h
      rw [cond_false]; dsimp only
      rw [if_pos rfl, names_ge k (by omega), Option.bind_some]
      have z := names_size k
      have hz : ((noteB (nameStr k) k ep ol ls ti o st un co l9 l10 0).length : Int) = 1 := by simp [noteB, bigE_len]
      have := sizes_loop kn (k := k) (ep := ep) (ol := ol) (ls := ls) (ti := ti) (o := o) (st := st) (un := un) (co := co) (l9 := l9) (l10 := l10) ⟨k0, k1⟩ (by omega) t10 (nameStr k).size 0 (by omega) n (by omega)
      rw [hz] at this
      exact this
theorem str_inj {a b : List Int} (ha : bytesIn a) (hb : bytesIn b) (h : (strOfNums a).toList = (strOfNums b).toList) : a = b := by
  rw [ByteArray.toList_eq, ByteArray.toList_eq, strOfNums_data, strOfNums_data] at h
  have back : ∀ l : List Int, bytesIn l → (l.map fun n => UInt8.ofNat n.toNat).map (fun u => (u.toNat : Int)) = l := by
    intro l hl
    rw [List.map_map]
    conv => rhs; rw [← List.map_id l]
    apply List.map_congr_left
    intro x hx
    obtain ⟨p, q⟩ := hl x hx
    simp only [Function.comp, id]
    rw [UInt8.toNat_ofNat']
    omega
  rw [← back a ha, ← back b hb, h]
theorem same_true {k ep ol ls ti o st : Int} {un : Bool} {co : Int} {l9 l10 : List Int} {k' ep' ol' ls' ti' o' st' : Int} {un' : Bool} {co' : Int} {m9 m10 : List Int} (b9 : bytesIn l9) (b10 : bytesIn l10) (d9 : bytesIn m9) (d10 : bytesIn m10) (h : drayageref05_Same.f k ep ol ls ti o st un co l9 l10 k' ep' ol' ls' ti' o' st' un' co' m9 m10 = some true) :
    k = k' ∧ ep = ep' ∧ ol = ol' ∧ ls = ls' ∧ ti = ti' ∧ o = o' ∧ st = st' ∧ un = un' ∧ co = co' ∧ l9 = m9 ∧ l10 = m10 := by
  unfold drayageref05_Same.f at h
  split at h
  case isFalse => exact absurd h (by simp)
  split at h
  case isFalse => exact absurd h (by simp)
  split at h
  case isFalse => exact absurd h (by simp)
  split at h
  case isFalse => exact absurd h (by simp)
  split at h
  case isFalse => exact absurd h (by simp)
  split at h
  case isFalse => exact absurd h (by simp)
  split at h
  case isFalse => exact absurd h (by simp)
  split at h
  case isFalse => exact absurd h (by simp)
  split at h
  case isFalse => exact absurd h (by simp)
  split at h
  case isFalse => exact absurd h (by simp)
  case isTrue e1 e2 e3 e4 e5 e6 e7 e8 e9 e10 =>
    have e11 := Option.some.inj h
    exact ⟨e1, e2, e3, e4, e5, e6, e7, by simpa using e8, e9, str_inj b9 d9 e10, str_inj b10 d10 (by simpa using e11)⟩
theorem same_some (k ep ol ls ti o st : Int) (un : Bool) (co : Int) (l9 l10 : List Int) (k' ep' ol' ls' ti' o' st' : Int) (un' : Bool) (co' : Int) (m9 m10 : List Int) : ∃ s, drayageref05_Same.f k ep ol ls ti o st un co l9 l10 k' ep' ol' ls' ti' o' st' un' co' m9 m10 = some s := by
  unfold drayageref05_Same.f
  repeat' split
  all_goals exact ⟨_, rfl⟩
theorem NoteApart (x0 : Int × Int × Int × Int × Int × Int × Int × Bool × Int × List Int × List Int) (x1 : Int × Int × Int × Int × Int × Int × Int × Bool × Int × List Int × List Int)
    (w0 : ((Lit.int .i64 x0.1).wf = true) ∧ ((Lit.int .u32 x0.2.1).wf = true) ∧ ((Lit.int .u32 x0.2.2.1).wf = true) ∧ ((Lit.int .u64 x0.2.2.2.1).wf = true) ∧ ((Lit.int .u64 x0.2.2.2.2.1).wf = true) ∧ ((Lit.int .u32 x0.2.2.2.2.2.1).wf = true) ∧ ((Lit.int .i64 x0.2.2.2.2.2.2.1).wf = true) ∧ True ∧ ((Lit.int .i64 x0.2.2.2.2.2.2.2.2.1).wf = true) ∧ (x0.2.2.2.2.2.2.2.2.2.1.length ≤ maxLen ∧ ∀ x ∈ x0.2.2.2.2.2.2.2.2.2.1, (Lit.int .u8 x).wf = true) ∧ (x0.2.2.2.2.2.2.2.2.2.2.length ≤ maxLen ∧ ∀ x ∈ x0.2.2.2.2.2.2.2.2.2.2, (Lit.int .u8 x).wf = true))
    (w1 : ((Lit.int .i64 x1.1).wf = true) ∧ ((Lit.int .u32 x1.2.1).wf = true) ∧ ((Lit.int .u32 x1.2.2.1).wf = true) ∧ ((Lit.int .u64 x1.2.2.2.1).wf = true) ∧ ((Lit.int .u64 x1.2.2.2.2.1).wf = true) ∧ ((Lit.int .u32 x1.2.2.2.2.2.1).wf = true) ∧ ((Lit.int .i64 x1.2.2.2.2.2.2.1).wf = true) ∧ True ∧ ((Lit.int .i64 x1.2.2.2.2.2.2.2.2.1).wf = true) ∧ (x1.2.2.2.2.2.2.2.2.2.1.length ≤ maxLen ∧ ∀ x ∈ x1.2.2.2.2.2.2.2.2.2.1, (Lit.int .u8 x).wf = true) ∧ (x1.2.2.2.2.2.2.2.2.2.2.length ≤ maxLen ∧ ∀ x ∈ x1.2.2.2.2.2.2.2.2.2.2, (Lit.int .u8 x).wf = true)) :
    Ev (fun k => drayagelaw05_NoteApart.f k x0.1 x0.2.1 x0.2.2.1 x0.2.2.2.1 x0.2.2.2.2.1 x0.2.2.2.2.2.1 x0.2.2.2.2.2.2.1 x0.2.2.2.2.2.2.2.1 x0.2.2.2.2.2.2.2.2.1 x0.2.2.2.2.2.2.2.2.2.1 x0.2.2.2.2.2.2.2.2.2.2 x1.1 x1.2.1 x1.2.2.1 x1.2.2.2.1 x1.2.2.2.2.1 x1.2.2.2.2.2.1 x1.2.2.2.2.2.2.1 x1.2.2.2.2.2.2.2.1 x1.2.2.2.2.2.2.2.2.1 x1.2.2.2.2.2.2.2.2.2.1 x1.2.2.2.2.2.2.2.2.2.2) true := by
  obtain ⟨k, ep, ol, ls, ti, o, st, un, co, l9, l10⟩ := x0
  obtain ⟨k', ep', ol', ls', ti', o', st', un', co', m9, m10⟩ := x1
  obtain ⟨_, h1, h2, h3, h4, h5, _, _, _, h9, h10⟩ := w0
  obtain ⟨_, g1, g2, g3, g4, g5, _, _, _, g9, g10⟩ := w1
  dsimp only at h1 h2 h3 h4 h5 h9 h10 g1 g2 g3 g4 g5 g9 g10
  obtain ⟨K, hK⟩ := known_ev
  have kn : ∀ k, K ≤ k → drayagelaw05_known.f k = some true := hK
  refine ⟨K + 4, fun n hn => ?_⟩
  show drayagelaw05_NoteApart.f n k ep ol ls ti o st un co l9 l10 k' ep' ol' ls' ti' o' st' un' co' m9 m10 = some true
  obtain ⟨n, rfl⟩ : ∃ q, n = q + 2 := ⟨n - 2, by omega⟩
  unfold drayagelaw05_NoteApart.f
  have out : drayagelaw05_NoteApart.j0 (n + 2) true k ep ol ls ti o st un co l9 l10 k' ep' ol' ls' ti' o' st' un' co' m9 m10 = some true := by
    rw [drayagelaw05_NoteApart.j0, if_pos rfl, kn _ (by omega)]; rfl
  have out1 : ∀ a b, drayagelaw05_NoteApart.j1 (n + 1) a b true k ep ol ls ti o st un co l9 l10 k' ep' ol' ls' ti' o' st' un' co' m9 m10 = some true := by
    intro a b
    rw [drayagelaw05_NoteApart.j1, if_pos rfl, kn _ (by omega)]; rfl
  obtain ⟨b, hb⟩ := long_some k ep ol ls ti o st un co l9 l10
  obtain ⟨c, hc⟩ := long_some k' ep' ol' ls' ti' o' st' un' co' m9 m10
  rw [hb, Option.bind_some]
  cases b with
  | true => rw [if_pos rfl]; exact out
  | false =>
    rw [if_neg (by decide), hc, Option.bind_some]
    cases c with
    | true => exact out
    | false =>
      rw [drayagelaw05_NoteApart.j0, if_neg (by decide), put_is (fit_of h1 h2 h3 h4 h5), Option.bind_some, put_is (fit_of g1 g2 g3 g4 g5), Option.bind_some]
      cases h : noteBad k ep ol ls ti o st un co l9.length l10.length with
      | true => rw [cond_true]; dsimp only; rw [if_neg (by decide)]; exact out1 _ _
      | false =>
        rw [cond_false]; dsimp only; rw [if_pos rfl]
        cases g : noteBad k' ep' ol' ls' ti' o' st' un' co' m9.length m10.length with
        | true => exact out1 _ _
        | false =>
          rw [cond_false]
          dsimp only
          obtain ⟨s, hs⟩ := same_some k ep ol ls ti o st un co l9 l10 k' ep' ol' ls' ti' o' st' un' co' m9 m10
          have ht : ∃ t, drayageref00_Same.f (noteB (nameStr k) k ep ol ls ti o st un co l9 l10 (nameStr k).size) (noteB (nameStr k') k' ep' ol' ls' ti' o' st' un' co' m9 m10 (nameStr k').size) = some t ∧ t = s := by
            refine ⟨_, rfl, ?_⟩
            cases s with
            | true =>
              obtain ⟨rfl, rfl, rfl, rfl, rfl, rfl, rfl, rfl, rfl, rfl, rfl⟩ := same_true (bytes_wf h9) (bytes_wf h10) (bytes_wf g9) (bytes_wf g10) hs
              exact beq_self_eq_true _
            | false =>
              apply beq_eq_false_iff_ne.mpr
              intro e
              have e2 := str_inj (note_bytes _ (bytes_wf h9) (bytes_wf h10) _) (note_bytes _ (bytes_wf g9) (bytes_wf g10) _) e
              have a := got h (fit_of h1 h2 h3 h4 h5)
              have b := got g (fit_of g1 g2 g3 g4 g5)
              rw [e2, b] at a
              simp only [Prod.mk.injEq] at a
              obtain ⟨rfl, rfl, rfl, rfl, rfl, rfl, rfl, rfl, rfl, rfl, rfl, _⟩ := a
              rw [same_refl] at hs
              exact absurd hs (by simp)
          obtain ⟨t, ht, rfl⟩ := ht
          rw [show ((0 : Int) != 0) = false from rfl, drayagelaw05_NoteApart.j1, if_neg (by decide), ht, Option.bind_some, hs, Option.bind_some, if_pos (beq_self_eq_true _), kn n (by omega)]
          rfl
end Go.Proofs.Ytohnlhklijpafaa.Pure
