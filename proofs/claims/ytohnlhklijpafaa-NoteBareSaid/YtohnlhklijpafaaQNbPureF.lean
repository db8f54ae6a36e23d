/- Plain laws on the mirror of chapter 5's functions, part F: the law NoteBare. -/
import Derived.Test.YtohnlhklijpafaaQNbPAx4
import Derived.Test.YtohnlhklijpafaaQNbPAx9
import Derived.Test.YtohnlhklijpafaaQNbPureD
namespace Go.Proofs.Ytohnlhklijpafaa.Pure
open Go.RowKit Go.Proofs.Ytohnlhklijpafaa.PA Go.Proofs.YtohnlhklijpafaaW.PrintWords Go.Proofs.YtohnlhklijpafaaW.PrintLast Go.Proofs.YtohnlhklijpafaaW.PrintMore
set_option linter.unusedVariables false
set_option linter.unusedSimpArgs false

theorem name_none {k : Int} (h : ¬ (1 ≤ k ∧ k ≤ 13)) : nameStr k = ⟨#[]⟩ := by
  unfold nameStr
  simp [show ¬ k = 1 by omega, show ¬ k = 2 by omega, show ¬ k = 3 by omega, show ¬ k = 4 by omega, show ¬ k = 5 by omega, show ¬ k = 6 by omega, show ¬ k = 7 by omega, show ¬ k = 8 by omega, show ¬ k = 9 by omega, show ¬ k = 10 by omega, show ¬ k = 11 by omega, show ¬ k = 12 by omega, show ¬ k = 13 by omega]
theorem in_69 (k : Int) : drayagelaw05_in.f 12 (nameStr k) 69 = some (has k 69) := by
  by_cases h : 1 ≤ k ∧ k ≤ 13
  · rcases kinds h with rfl | rfl | rfl | rfl | rfl | rfl | rfl | rfl | rfl | rfl | rfl | rfl | rfl <;> kernel_rfl
  · unfold has; rw [name_none h]; kernel_rfl
theorem in_80 (k : Int) : drayagelaw05_in.f 12 (nameStr k) 80 = some (has k 80) := by
  by_cases h : 1 ≤ k ∧ k ≤ 13
  · rcases kinds h with rfl | rfl | rfl | rfl | rfl | rfl | rfl | rfl | rfl | rfl | rfl | rfl | rfl <;> kernel_rfl
  · unfold has; rw [name_none h]; kernel_rfl
theorem in_76 (k : Int) : drayagelaw05_in.f 12 (nameStr k) 76 = some (has k 76) := by
  by_cases h : 1 ≤ k ∧ k ≤ 13
  · rcases kinds h with rfl | rfl | rfl | rfl | rfl | rfl | rfl | rfl | rfl | rfl | rfl | rfl | rfl <;> kernel_rfl
  · unfold has; rw [name_none h]; kernel_rfl
theorem in_84 (k : Int) : drayagelaw05_in.f 12 (nameStr k) 84 = some (has k 84) := by
  by_cases h : 1 ≤ k ∧ k ≤ 13
  · rcases kinds h with rfl | rfl | rfl | rfl | rfl | rfl | rfl | rfl | rfl | rfl | rfl | rfl | rfl <;> kernel_rfl
  · unfold has; rw [name_none h]; kernel_rfl
theorem in_79 (k : Int) : drayagelaw05_in.f 12 (nameStr k) 79 = some (has k 79) := by
  by_cases h : 1 ≤ k ∧ k ≤ 13
  · rcases kinds h with rfl | rfl | rfl | rfl | rfl | rfl | rfl | rfl | rfl | rfl | rfl | rfl | rfl <;> kernel_rfl
  · unfold has; rw [name_none h]; kernel_rfl
theorem in_83 (k : Int) : drayagelaw05_in.f 12 (nameStr k) 83 = some (has k 83) := by
  by_cases h : 1 ≤ k ∧ k ≤ 13
  · rcases kinds h with rfl | rfl | rfl | rfl | rfl | rfl | rfl | rfl | rfl | rfl | rfl | rfl | rfl <;> kernel_rfl
  · unfold has; rw [name_none h]; kernel_rfl
theorem in_85 (k : Int) : drayagelaw05_in.f 12 (nameStr k) 85 = some (has k 85) := by
  by_cases h : 1 ≤ k ∧ k ≤ 13
  · rcases kinds h with rfl | rfl | rfl | rfl | rfl | rfl | rfl | rfl | rfl | rfl | rfl | rfl | rfl <;> kernel_rfl
  · unfold has; rw [name_none h]; kernel_rfl
theorem in_67 (k : Int) : drayagelaw05_in.f 12 (nameStr k) 67 = some (has k 67) := by
  by_cases h : 1 ≤ k ∧ k ≤ 13
  · rcases kinds h with rfl | rfl | rfl | rfl | rfl | rfl | rfl | rfl | rfl | rfl | rfl | rfl | rfl <;> kernel_rfl
  · unfold has; rw [name_none h]; kernel_rfl
theorem in_75 (k : Int) : drayagelaw05_in.f 12 (nameStr k) 75 = some (has k 75) := by
  by_cases h : 1 ≤ k ∧ k ≤ 13
  · rcases kinds h with rfl | rfl | rfl | rfl | rfl | rfl | rfl | rfl | rfl | rfl | rfl | rfl | rfl <;> kernel_rfl
  · unfold has; rw [name_none h]; kernel_rfl
theorem in_68 (k : Int) : drayagelaw05_in.f 12 (nameStr k) 68 = some (has k 68) := by
  by_cases h : 1 ≤ k ∧ k ≤ 13
  · rcases kinds h with rfl | rfl | rfl | rfl | rfl | rfl | rfl | rfl | rfl | rfl | rfl | rfl | rfl <;> kernel_rfl
  · unfold has; rw [name_none h]; kernel_rfl
theorem in_ge {n : Nat} (hn : 12 ≤ n) {k : Int} {c : Int} {b : Bool} (h : drayagelaw05_in.f 12 (nameStr k) c = some b) : drayagelaw05_in.f n (nameStr k) c = some b := at_rounds (fun j => drayagelaw05_in.mono _ _ j) hn h
theorem str_some (s : ByteArray) : (s.toList != ([] : List UInt8)) = !decide (s.size = 0) := by
  rw [ByteArray.toList_eq]
  show (s.data.toList != []) = !decide (s.data.size = 0)
  rcases s with ⟨⟨l⟩⟩
  cases l <;> simp
theorem d1 (x : Int) (b : Bool) : decide (0 < (if b = true then 0 else x)) = (decide (x > 0) && !b) := by cases b <;> simp
theorem d2 {x : Int} (b : Bool) (h : 0 ≤ x) : ((if b = true then 0 else x) != 0) = (decide (x > 0) && !b) := by
  cases b
  · rw [if_neg (by decide), Bool.eq_iff_iff]; simp; omega
  · simp
theorem d3 (u b : Bool) : (if b = true then false else u) = (u && !b) := by cases b <;> cases u <;> rfl
theorem d4 (n : Nat) (b : Bool) : decide (0 < ((if b = true then 0 else n : Nat) : Int)) = (decide ((n : Int) > 0) && !b) := by cases b <;> simp
theorem bare_law {ep ol ls ti o st : Int} {un : Bool} {co : Int} {l9 l10 : List Int} (s0 : 0 ≤ st) (c0 : 0 ≤ co) (hf : farB st co l9.length l10.length = false) (a : Int) :
    noteBad a ep ol ls ti o st un co l9.length l10.length = !(((nameStr a).toList != ([] : List UInt8)) && (!(bareExtra ep ol ls ti o st un co l9 l10 (has a 69) (has a 80) (has a 76) (has a 84) (has a 79) (has a 83) (has a 85) (has a 67) (has a 75) (has a 68)) && !(bareKey l9 a))) := by
  unfold noteBad bareKey
  rw [hf, str_some]
  have e : moreB (if has a 69 then 0 else ep) (if has a 80 then 0 else ol) (if has a 76 then 0 else ls) (if has a 84 then 0 else ti) (if has a 79 then 0 else o) (if has a 83 then 0 else st) (if has a 85 then false else un) (if has a 67 then 0 else co) (if has a 75 then 0 else l9.length) (if has a 68 then 0 else l10.length) = bareExtra ep ol ls ti o st un co l9 l10 (has a 69) (has a 80) (has a 76) (has a 84) (has a 79) (has a 83) (has a 85) (has a 67) (has a 75) (has a 68) := by
    unfold moreB bareExtra
    rw [d1, d1, d1, d1, d1, d2 _ s0, d3, d2 _ c0, d4, d4]
  rw [e]
  generalize bareExtra ep ol ls ti o st un co l9 l10 (has a 69) (has a 80) (has a 76) (has a 84) (has a 79) (has a 83) (has a 85) (has a 67) (has a 75) (has a 68) = E
  cases E <;> cases decide ((nameStr a).size = 0) <;> by_cases x1 : a ≥ 10 <;> by_cases x2 : a ≤ 12 <;> by_cases x3 : (l9.length : Int) = 0 <;> simp [x1, x2, x3] <;> omega
theorem far_of {k ep ol ls ti o st : Int} {un : Bool} {co : Int} {n9 n10 : Nat} (h : noteBad k ep ol ls ti o st un co n9 n10 = false) : farB st co n9 n10 = false := by
  unfold noteBad at h
  cases hf : farB st co n9 n10 with
  | false => rfl
  | true => rw [hf] at h; simp at h
theorem NoteBare (x0 : Int × Int × Int × Int × Int × Int × Int × Bool × Int × List Int × List Int) (a1 : Int)
    (w0 : ((Lit.int .i64 x0.1).wf = true) ∧ ((Lit.int .u32 x0.2.1).wf = true) ∧ ((Lit.int .u32 x0.2.2.1).wf = true) ∧ ((Lit.int .u64 x0.2.2.2.1).wf = true) ∧ ((Lit.int .u64 x0.2.2.2.2.1).wf = true) ∧ ((Lit.int .u32 x0.2.2.2.2.2.1).wf = true) ∧ ((Lit.int .i64 x0.2.2.2.2.2.2.1).wf = true) ∧ True ∧ ((Lit.int .i64 x0.2.2.2.2.2.2.2.2.1).wf = true) ∧ (x0.2.2.2.2.2.2.2.2.2.1.length ≤ maxLen ∧ ∀ x ∈ x0.2.2.2.2.2.2.2.2.2.1, (Lit.int .u8 x).wf = true) ∧ (x0.2.2.2.2.2.2.2.2.2.2.length ≤ maxLen ∧ ∀ x ∈ x0.2.2.2.2.2.2.2.2.2.2, (Lit.int .u8 x).wf = true)) (w1 : (Lit.int .i64 a1).wf = true) :
    Ev (fun k => drayagelaw05_NoteBare.f k x0.1 x0.2.1 x0.2.2.1 x0.2.2.2.1 x0.2.2.2.2.1 x0.2.2.2.2.2.1 x0.2.2.2.2.2.2.1 x0.2.2.2.2.2.2.2.1 x0.2.2.2.2.2.2.2.2.1 x0.2.2.2.2.2.2.2.2.2.1 x0.2.2.2.2.2.2.2.2.2.2 a1) true := by
  obtain ⟨k, ep, ol, ls, ti, o, st, un, co, l9, l10⟩ := x0
  obtain ⟨K, hK⟩ := known_ev
  have kn : ∀ k, K ≤ k → drayagelaw05_known.f k = some true := hK
  refine ⟨K + 60, fun n hn => ?_⟩
  show drayagelaw05_NoteBare.f n k ep ol ls ti o st un co l9 l10 a1 = some true
  obtain ⟨m, rfl⟩ : ∃ m, n = m + 1 := ⟨n - 1, by omega⟩
  unfold drayagelaw05_NoteBare.f
  obtain ⟨b, hb⟩ := long_some k ep ol ls ti o st un co l9 l10
  rw [hb, Option.bind_some]
  cases b with
  | true => rw [if_pos rfl, drayagelaw05_NoteBare.j0, if_pos rfl, kn m (by omega)]; rfl
  | false =>
    rw [if_neg (by decide), check_is, Option.bind_some]
    cases h : noteBad k ep ol ls ti o st un co l9.length l10.length with
    | true => rw [drayagelaw05_NoteBare.j0, if_pos rfl, if_pos (by decide), kn m (by omega)]; rfl
    | false =>
      obtain ⟨k0, k1, s0, _, c0, _, t9, t10⟩ := note_fits h
      rw [drayagelaw05_NoteBare.j0, if_neg (by decide), names_ge a1 (by omega), Option.bind_some]
      rw [in_ge (by omega) (in_69 a1), Option.bind_some, in_ge (by omega) (in_80 a1), Option.bind_some, in_ge (by omega) (in_76 a1), Option.bind_some, in_ge (by omega) (in_84 a1), Option.bind_some, in_ge (by omega) (in_79 a1), Option.bind_some, in_ge (by omega) (in_83 a1), Option.bind_some, in_ge (by omega) (in_85 a1), Option.bind_some, in_ge (by omega) (in_67 a1), Option.bind_some, in_ge (by omega) (in_75 a1), Option.bind_some, in_ge (by omega) (in_68 a1), Option.bind_some]
      rw [check_is, Option.bind_some, bare_law s0 c0 (far_of h) a1]
      rw [if_pos ?_, kn m (by omega)]
      · rfl
      · generalize (((nameStr a1).toList != ([] : List UInt8)) && (!(bareExtra ep ol ls ti o st un co l9 l10 (has a1 69) (has a1 80) (has a1 76) (has a1 84) (has a1 79) (has a1 83) (has a1 85) (has a1 67) (has a1 75) (has a1 68)) && !(bareKey l9 a1))) = X
        cases X <;> rfl
end Go.Proofs.Ytohnlhklijpafaa.Pure
