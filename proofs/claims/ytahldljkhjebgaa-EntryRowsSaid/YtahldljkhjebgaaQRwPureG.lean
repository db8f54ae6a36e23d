/- Plain laws on the mirror of chapter 4's functions, part G: the reference's Check and Row, and the law EntryRows. -/
import Derived.Test.YtahldljkhjebgaaQRwPAx1
import Derived.Test.YtahldljkhjebgaaQRwPAx5
import Derived.Test.YtahldljkhjebgaaQRwPAx21
import Derived.Test.YtahldljkhjebgaaQRwPAx22
import Derived.Test.YtahldljkhjebgaaQRwPAx23
import Derived.Test.YtahldljkhjebgaaQRwPureB
namespace Go.Proofs.Ytahldljkhjebgaa.Pure
open Go.RowKit Go.Proofs.Ytahldljkhjebgaa.PA Go.Proofs.YtahldljkhjebgaaW.PrintWords Go.Proofs.YtahldljkhjebgaaW.PrintLast Go.Proofs.YtahldljkhjebgaaW.PrintMore
set_option linter.unusedVariables false
set_option linter.unusedSimpArgs false

def fieldsOk (k ls ep o st : Int) (un : Bool) (tr co mk : Int) (n9 n10 : Nat) : Bool :=
  if k = 1 then true else if k = 2 then decide (1 ≤ o) && (decide (1 ≤ (n9 : Int)) && (decide ((n9 : Int) ≤ 32) && decide ((n10 : Int) ≤ 200))) else if k = 3 then decide (1 ≤ o) && (decide (0 ≤ st) && (decide (st ≤ 15) && (decide (1 ≤ tr) && decide (tr ≤ 255)))) else if k = 4 then decide (1 ≤ o) && (decide (0 ≤ st) && (decide (st ≤ 15) && (decide (1 ≤ tr) && (decide (tr ≤ 255) && (decide (1 ≤ co) && decide (co ≤ 3)))))) else if k = 5 then decide (1 ≤ o) && (decide (1 ≤ co) && decide (co ≤ 3)) else if k = 6 then (co == 1 || co == 2) else if k = 7 then decide (mk < ls) else false
def fieldsL (k ls ep o st : Int) (un : Bool) (tr co mk : Int) (l9 l10 : List Int) : List S86 :=
  if k = 1 then [(⟨1, IntKind.u64.wrap k, []⟩ : S86), ⟨8, ls, []⟩, ⟨4, IntKind.u64.wrap ep, []⟩] else if k = 2 then [(⟨1, IntKind.u64.wrap k, []⟩ : S86), ⟨8, ls, []⟩, ⟨4, IntKind.u64.wrap ep, []⟩] ++ [⟨4, IntKind.u64.wrap o, []⟩, ⟨0, 0, l9⟩, ⟨0, 0, l10⟩] else if k = 3 then [(⟨1, IntKind.u64.wrap k, []⟩ : S86), ⟨8, ls, []⟩, ⟨4, IntKind.u64.wrap ep, []⟩] ++ [⟨4, IntKind.u64.wrap o, []⟩, ⟨1, IntKind.u64.wrap st, []⟩, ⟨1, if un then 1 else 0, []⟩, ⟨1, IntKind.u64.wrap tr, []⟩] else if k = 4 then ([(⟨1, IntKind.u64.wrap k, []⟩ : S86), ⟨8, ls, []⟩, ⟨4, IntKind.u64.wrap ep, []⟩] ++ [⟨4, IntKind.u64.wrap o, []⟩, ⟨1, IntKind.u64.wrap st, []⟩, ⟨1, if un then 1 else 0, []⟩, ⟨1, IntKind.u64.wrap tr, []⟩]) ++ [⟨1, IntKind.u64.wrap co, []⟩] else if k = 5 then [(⟨1, IntKind.u64.wrap k, []⟩ : S86), ⟨8, ls, []⟩, ⟨4, IntKind.u64.wrap ep, []⟩] ++ [⟨4, IntKind.u64.wrap o, []⟩, ⟨1, IntKind.u64.wrap co, []⟩] else if k = 6 then [(⟨1, IntKind.u64.wrap k, []⟩ : S86), ⟨8, ls, []⟩, ⟨4, IntKind.u64.wrap ep, []⟩] ++ [⟨1, IntKind.u64.wrap co, []⟩] else if k = 7 then [(⟨1, IntKind.u64.wrap k, []⟩ : S86), ⟨8, ls, []⟩, ⟨4, IntKind.u64.wrap ep, []⟩] ++ [⟨8, mk, []⟩] else []
theorem fields_1 (m : Nat) (ls ep o st : Int) (un : Bool) (tr co mk : Int) (l9 l10 : List Int) : drayageref04_fields.f (m + 8) 1 ls ep o st un tr co mk l9 l10 = some (fieldsL 1 ls ep o st un tr co mk l9 l10, fieldsOk 1 ls ep o st un tr co mk l9.length l10.length) := by
  cases un <;> simp [drayageref04_fields.f, drayageref04_fields.j0, drayageref04_fields.j1, drayageref04_fields.j2, drayageref04_fields.j3, drayageref04_fields.j4, drayageref04_fields.j5, drayageref04_fields.j6, fieldsOk, fieldsL]
theorem fields_2 (m : Nat) (ls ep o st : Int) (un : Bool) (tr co mk : Int) (l9 l10 : List Int) : drayageref04_fields.f (m + 8) 2 ls ep o st un tr co mk l9 l10 = some (fieldsL 2 ls ep o st un tr co mk l9 l10, fieldsOk 2 ls ep o st un tr co mk l9.length l10.length) := by
  cases un <;> by_cases c0 : 1 ≤ o <;> by_cases c1 : 1 ≤ (l9.length : Int) <;> by_cases c2 : (l9.length : Int) ≤ 32 <;> by_cases c3 : (l10.length : Int) ≤ 200 <;> simp [drayageref04_fields.f, drayageref04_fields.j0, drayageref04_fields.j1, drayageref04_fields.j2, drayageref04_fields.j3, drayageref04_fields.j4, drayageref04_fields.j5, drayageref04_fields.j6, fieldsOk, fieldsL, c0, c1, c2, c3]
theorem fields_3 (m : Nat) (ls ep o st : Int) (un : Bool) (tr co mk : Int) (l9 l10 : List Int) : drayageref04_fields.f (m + 8) 3 ls ep o st un tr co mk l9 l10 = some (fieldsL 3 ls ep o st un tr co mk l9 l10, fieldsOk 3 ls ep o st un tr co mk l9.length l10.length) := by
  cases un <;> by_cases c0 : 1 ≤ o <;> by_cases c1 : 0 ≤ st <;> by_cases c2 : st ≤ 15 <;> by_cases c3 : 1 ≤ tr <;> simp [drayageref04_fields.f, drayageref04_fields.j0, drayageref04_fields.j1, drayageref04_fields.j2, drayageref04_fields.j3, drayageref04_fields.j4, drayageref04_fields.j5, drayageref04_fields.j6, fieldsOk, fieldsL, c0, c1, c2, c3]
theorem fields_4 (m : Nat) (ls ep o st : Int) (un : Bool) (tr co mk : Int) (l9 l10 : List Int) : drayageref04_fields.f (m + 8) 4 ls ep o st un tr co mk l9 l10 = some (fieldsL 4 ls ep o st un tr co mk l9 l10, fieldsOk 4 ls ep o st un tr co mk l9.length l10.length) := by
  cases un <;> by_cases c0 : 1 ≤ o <;> by_cases c1 : 0 ≤ st <;> by_cases c2 : st ≤ 15 <;> by_cases c3 : 1 ≤ tr <;> by_cases c4 : tr ≤ 255 <;> by_cases c5 : 1 ≤ co <;> simp [drayageref04_fields.f, drayageref04_fields.j0, drayageref04_fields.j1, drayageref04_fields.j2, drayageref04_fields.j3, drayageref04_fields.j4, drayageref04_fields.j5, drayageref04_fields.j6, fieldsOk, fieldsL, c0, c1, c2, c3, c4, c5]
theorem fields_5 (m : Nat) (ls ep o st : Int) (un : Bool) (tr co mk : Int) (l9 l10 : List Int) : drayageref04_fields.f (m + 8) 5 ls ep o st un tr co mk l9 l10 = some (fieldsL 5 ls ep o st un tr co mk l9 l10, fieldsOk 5 ls ep o st un tr co mk l9.length l10.length) := by
  cases un <;> by_cases c0 : 1 ≤ o <;> by_cases c1 : 1 ≤ co <;> simp [drayageref04_fields.f, drayageref04_fields.j0, drayageref04_fields.j1, drayageref04_fields.j2, drayageref04_fields.j3, drayageref04_fields.j4, drayageref04_fields.j5, drayageref04_fields.j6, fieldsOk, fieldsL, c0, c1]
theorem fields_6 (m : Nat) (ls ep o st : Int) (un : Bool) (tr co mk : Int) (l9 l10 : List Int) : drayageref04_fields.f (m + 8) 6 ls ep o st un tr co mk l9 l10 = some (fieldsL 6 ls ep o st un tr co mk l9 l10, fieldsOk 6 ls ep o st un tr co mk l9.length l10.length) := by
  cases un <;> by_cases c0 : co = 1 <;> simp [drayageref04_fields.f, drayageref04_fields.j0, drayageref04_fields.j1, drayageref04_fields.j2, drayageref04_fields.j3, drayageref04_fields.j4, drayageref04_fields.j5, drayageref04_fields.j6, fieldsOk, fieldsL, c0]
theorem fields_7 (m : Nat) (ls ep o st : Int) (un : Bool) (tr co mk : Int) (l9 l10 : List Int) : drayageref04_fields.f (m + 8) 7 ls ep o st un tr co mk l9 l10 = some (fieldsL 7 ls ep o st un tr co mk l9 l10, fieldsOk 7 ls ep o st un tr co mk l9.length l10.length) := by
  cases un <;> simp [drayageref04_fields.f, drayageref04_fields.j0, drayageref04_fields.j1, drayageref04_fields.j2, drayageref04_fields.j3, drayageref04_fields.j4, drayageref04_fields.j5, drayageref04_fields.j6, fieldsOk, fieldsL]
theorem fields_8 (m : Nat) (k ls ep o st : Int) (un : Bool) (tr co mk : Int) (l9 l10 : List Int) (h : ¬ (1 ≤ k ∧ k ≤ 7)) : drayageref04_fields.f (m + 8) k ls ep o st un tr co mk l9 l10 = some ([], false) := by
  have h1 : ¬ k = 1 := by omega
  have h2 : ¬ k = 2 := by omega
  have h3 : ¬ k = 3 := by omega
  have h4 : ¬ k = 4 := by omega
  have h5 : ¬ k = 5 := by omega
  have h6 : ¬ k = 6 := by omega
  have h7 : ¬ k = 7 := by omega
  cases un <;> simp [drayageref04_fields.f, drayageref04_fields.j0, drayageref04_fields.j2, h1, h2, h3, h4, h5, h6, h7]
theorem plain_is {k ls ep o st : Int} {un : Bool} {tr co mk : Int} {l9 l10 : List Int} (hk : 1 ≤ k ∧ k ≤ 7) (b9 : bytesIn l9) (b10 : bytesIn l10) : plainB k ls ep o st un tr co mk l9 l10 = ((decide (2 ≤ k ∧ k ≤ 5) || o == 0) && ((decide (k = 3 ∨ k = 4) || (st == 0 && (!un && tr == 0))) && ((decide (4 ≤ k ∧ k ≤ 6) || co == 0) && ((decide (k = 7) || mk == 0) && (decide (k = 2) || (decide (l9.length = 0) && decide (l10.length = 0))))))) := by
  have e : ∀ l : List Int, ((strOfNums l).toList = (strOfNums ([] : List Int)).toList) ↔ l.length = 0 := by
    intro l
    rw [ByteArray.toList_eq, ByteArray.toList_eq, strOfNums_data, strOfNums_data]
    cases l <;> simp
  have e2 : ∀ l : List Int, ((strOfNums l).toList == (strOfNums ([] : List Int)).toList) = decide (l.length = 0) := by
    intro l
    rw [Bool.eq_iff_iff, beq_iff_eq, e, decide_eq_true_eq]
  have hc : k = 1 ∨ k = 2 ∨ k = 3 ∨ k = 4 ∨ k = 5 ∨ k = 6 ∨ k = 7 := by omega
  unfold plainB drayageref04_Same.f
  rcases hc with rfl | rfl | rfl | rfl | rfl | rfl | rfl
  · cases un <;> by_cases c0 : o = 0 <;> by_cases c1 : st = 0 <;> by_cases c2 : tr = 0 <;> by_cases c3 : co = 0 <;> by_cases c4 : mk = 0 <;> by_cases c5 : l9.length = 0 <;> simp [e, e2, c0, c1, c2, c3, c4, c5]
  · cases un <;> by_cases c0 : st = 0 <;> by_cases c1 : tr = 0 <;> by_cases c2 : co = 0 <;> by_cases c3 : mk = 0 <;> simp [e, e2, c0, c1, c2, c3]
  · cases un <;> by_cases c0 : co = 0 <;> by_cases c1 : mk = 0 <;> by_cases c2 : l9.length = 0 <;> simp [e, e2, c0, c1, c2]
  · cases un <;> by_cases c0 : mk = 0 <;> by_cases c1 : l9.length = 0 <;> simp [e, e2, c0, c1]
  · cases un <;> by_cases c0 : st = 0 <;> by_cases c1 : tr = 0 <;> by_cases c2 : mk = 0 <;> by_cases c3 : l9.length = 0 <;> simp [e, e2, c0, c1, c2, c3]
  · cases un <;> by_cases c0 : o = 0 <;> by_cases c1 : st = 0 <;> by_cases c2 : tr = 0 <;> by_cases c3 : mk = 0 <;> by_cases c4 : l9.length = 0 <;> simp [e, e2, c0, c1, c2, c3, c4]
  · cases un <;> by_cases c0 : o = 0 <;> by_cases c1 : st = 0 <;> by_cases c2 : tr = 0 <;> by_cases c3 : co = 0 <;> by_cases c4 : l9.length = 0 <;> simp [e, e2, c0, c1, c2, c3, c4]
set_option maxRecDepth 100000 in
theorem refcheck_is {k ls ep o st : Int} {un : Bool} {tr co mk : Int} {l9 l10 : List Int} (b9 : bytesIn l9) (b10 : bytesIn l10) (h1 : 0 ≤ ls) (h2 : 0 ≤ ep) (h3 : 0 ≤ o) (m : Nat) :
    drayageref04_Check.f (m + 8) k ls ep o st un tr co mk l9 l10 = some (if entryOk k ls ep o st un tr co mk l9.length l10.length = true then 0 else 40) := by
  unfold drayageref04_Check.f
  by_cases hk : 1 ≤ k ∧ k ≤ 7
  · have hf : drayageref04_fields.f (m + 8) k ls ep o st un tr co mk l9 l10 = some (fieldsL k ls ep o st un tr co mk l9 l10, fieldsOk k ls ep o st un tr co mk l9.length l10.length) := by
      have hc : k = 1 ∨ k = 2 ∨ k = 3 ∨ k = 4 ∨ k = 5 ∨ k = 6 ∨ k = 7 := by omega
      rcases hc with rfl | rfl | rfl | rfl | rfl | rfl | rfl
      · exact fields_1 m _ _ _ _ _ _ _ _ _ _
      · exact fields_2 m _ _ _ _ _ _ _ _ _ _
      · exact fields_3 m _ _ _ _ _ _ _ _ _ _
      · exact fields_4 m _ _ _ _ _ _ _ _ _ _
      · exact fields_5 m _ _ _ _ _ _ _ _ _ _
      · exact fields_6 m _ _ _ _ _ _ _ _ _ _
      · exact fields_7 m _ _ _ _ _ _ _ _ _ _
    rw [hf, Option.bind_some]
    dsimp only
    rw [if_neg (fun c => c.2 hk), plain_is hk b9 b10]
    congr 1
    congr 1
    rw [eq_iff_iff, ← Bool.eq_iff_iff]
    have hls : decide (ls < 1) = (ls == 0) := by rw [Bool.eq_iff_iff, decide_eq_true_eq, beq_iff_eq]; omega
    have hep : decide (ep < 1) = (ep == 0) := by rw [Bool.eq_iff_iff, decide_eq_true_eq, beq_iff_eq]; omega
    rw [hls, hep]
    have hc : k = 1 ∨ k = 2 ∨ k = 3 ∨ k = 4 ∨ k = 5 ∨ k = 6 ∨ k = 7 := by omega
    rcases hc with rfl | rfl | rfl | rfl | rfl | rfl | rfl <;> cases ha : ls == 0 <;> cases hb : ep == 0 <;> cases un <;> simp [fieldsOk, entryOk, zeroB, ha, hb, -List.length_eq_zero_iff] <;> (rw [Bool.eq_iff_iff]; simp only [Bool.and_eq_true, Bool.or_eq_true, decide_eq_true_eq, beq_iff_eq, Bool.not_eq_true', decide_eq_false_iff_not]; omega)
  · rw [fields_8 m k ls ep o st un tr co mk l9 l10 hk, Option.bind_some]
    have : entryOk k ls ep o st un tr co mk l9.length l10.length = false := by
      cases hq : entryOk k ls ep o st un tr co mk l9.length l10.length with
      | false => rfl
      | true => exact absurd (by have := ok_kind hq; omega) hk
    rw [this]
    simp
/-! the reference's Row -/
theorem next_is {m : Nat} {a b : S26} (h1 : 0 ≤ b.f1) (h2 : b.f1 < 18446744073709551616) (hc : chk b = true) : drayageref04_next.f (m + 2) a.f0 a.f1 a.f2 a.f3 a.f4 a.f5 a.f6 a.f7 a.f8 a.f9 a.f10 b.f0 b.f1 b.f2 b.f3 b.f4 b.f5 b.f6 b.f7 b.f8 b.f9 b.f10 = some (nextOk a b) := by
  have hn := (chk_num hc).1
  unfold drayageref04_next.f nextOk
  rw [if_neg hn, drayageref04_next.j0]
  by_cases c1 : b.f0 = 1 <;> by_cases c2 : IntKind.u64.wrap (b.f1 - 1) = a.f1 <;> by_cases c3 : b.f2 = a.f2 <;> by_cases c4 : b.f2 > a.f2 <;> simp [c1, c2, c3, c4] <;> omega
def Wf (l : List S26) : Prop := ∀ x ∈ l, 0 ≤ x.f1 ∧ x.f1 < 18446744073709551616 ∧ 0 ≤ x.f2 ∧ 0 ≤ x.f3 ∧ bytesIn x.f9 ∧ bytesIn x.f10
theorem getD_in {l : List S26} {i : Nat} (h : i < l.length) : l.getD i z26 ∈ l := by
  simp [List.getD, List.getElem?_eq_getElem h]
theorem refrow_turn (l : List S26) (hw : Wf l) (hl : l.length ≤ 1000000) (i : Nat) (hi : i < l.length) (m : Nat) :
    drayageref04_Row.l0 (m + 9) l (i : Int) = bif okAt l i then drayageref04_Row.l0 (m + 8) l ((i + 1 : Nat) : Int) else some ((i : Int), 41) := by
  obtain ⟨w1, w2, w3, w4, w5, w6⟩ := hw _ (getD_in hi)
  rw [drayageref04_Row.l0, if_pos (by omega), if_pos (by omega), rd_nat, refcheck_is w5 w6 w1 w3 w4, Option.bind_some]
  have hww : wrap64 ((i : Int) + 1) = ((i + 1 : Nat) : Int) := by rw [w64_id (by omega) (by omega)]; omega
  unfold okAt
  cases hc : chk (l.getD i z26) with
  | false =>
    have : entryOk (l.getD i z26).f0 (l.getD i z26).f1 (l.getD i z26).f2 (l.getD i z26).f3 (l.getD i z26).f4 (l.getD i z26).f5 (l.getD i z26).f6 (l.getD i z26).f7 (l.getD i z26).f8 (l.getD i z26).f9.length (l.getD i z26).f10.length = false := hc
    rw [this]
    simp
  | true =>
    have : entryOk (l.getD i z26).f0 (l.getD i z26).f1 (l.getD i z26).f2 (l.getD i z26).f3 (l.getD i z26).f4 (l.getD i z26).f5 (l.getD i z26).f6 (l.getD i z26).f7 (l.getD i z26).f8 (l.getD i z26).f9.length (l.getD i z26).f10.length = true := hc
    rw [this, if_pos rfl, if_pos rfl]
    by_cases h0 : i = 0
    · subst h0; rw [if_neg (by omega), hww]; rfl
    · have hw2 : wrap64 ((i : Int) - 1) = ((i - 1 : Nat) : Int) := by rw [w64_id (by omega) (by omega)]; omega
      rw [if_pos (by omega), hw2, if_pos (by omega), if_pos (by omega), rd_nat, next_is w1 w2 hc, Option.bind_some, hww]
      rw [show (i == 0) = false by simp [h0], Bool.false_or, Bool.true_and]
      cases nextOk (l.getD (i - 1) z26) (l.getD i z26) <;> simp
theorem refrow_from (l : List S26) (hw : Wf l) (hl : l.length ≤ 1000000) {n : Nat} (hn : n ≤ l.length) (hok : ∀ j, j < n → okAt l j = true) (hbad : n < l.length → okAt l n = false) : ∀ (d i m : Nat), i + d = n → drayageref04_Row.l0 (m + d + 9) l (i : Int) = some ((n : Int), if n = l.length then 0 else 41) := by
  intro d
  induction d with
  | zero =>
    intro i m hi
    have e : i = n := by omega
    subst e
    by_cases h : i < l.length
    · rw [Nat.add_zero, refrow_turn l hw hl i h, hbad h, cond_false, if_neg (by omega)]
    · rw [drayageref04_Row.l0, if_neg (by omega), if_pos (by omega)]
      have : i = l.length := by omega
      rw [this]
  | succ d ih =>
    intro i m hi
    rw [refrow_turn l hw hl i (by omega), hok i (by omega), cond_true]
    have := ih (i + 1) m (by omega)
    rw [show m + (d + 1) + 8 = m + d + 9 by omega]
    exact this
theorem EntryRows (l0 : List S26) (w0 : l0.length ≤ maxLen ∧ ∀ x0 ∈ l0, (((Lit.int .i64 x0.f0).wf = true) ∧ ((Lit.int .u64 x0.f1).wf = true) ∧ ((Lit.int .u32 x0.f2).wf = true) ∧ ((Lit.int .u32 x0.f3).wf = true) ∧ ((Lit.int .i64 x0.f4).wf = true) ∧ (True) ∧ ((Lit.int .i64 x0.f6).wf = true) ∧ ((Lit.int .i64 x0.f7).wf = true) ∧ ((Lit.int .u64 x0.f8).wf = true) ∧ (x0.f9.length ≤ maxLen ∧ ∀ x1 ∈ x0.f9, (Lit.int .u8 x1).wf = true) ∧ (x0.f10.length ≤ maxLen ∧ ∀ x1 ∈ x0.f10, (Lit.int .u8 x1).wf = true))) :
    Ev (fun k => drayagelaw04_EntryRows.f k l0) true := by
  obtain ⟨K, hK⟩ := known_ev
  have kn : ∀ k, K ≤ k → drayagelaw04_known.f k = some true := hK
  have hw : Wf l0 := by
    intro x hx
    obtain ⟨_, h1, h2, h3, _, _, _, _, _, h9, h10⟩ := w0.2 x hx
    exact ⟨(u64_wf h1).1, (u64_wf h1).2, (u32_wf h2).1, (u32_wf h3).1, fun y hy => u8_wf (h9.2 y hy), fun y hy => u8_wf (h10.2 y hy)⟩
  -- the end: both rows are asked
  have fin : ∀ (i k : Nat), K + 1020 ≤ k → drayagelaw04_EntryRows.j1 k l0 (i : Int) false = some true := by
    intro i k hk
    obtain ⟨k, rfl⟩ : ∃ q, k = q + 1 := ⟨k - 1, by omega⟩
    rw [drayagelaw04_EntryRows.j1, if_neg (by decide)]
    by_cases hl : (l0.length : Int) > 1000
    · rw [if_pos hl, kn k (by omega)]; rfl
    · rw [if_neg hl]
      obtain ⟨n, b, c, d, e⟩ := row_is l0 (by omega)
      have f := refrow_from l0 hw (by omega) b c d n 0 (k - n - 9) (by omega)
      rw [show k - n - 9 + n + 9 = k by omega] at f
      rw [e k (by omega), Option.bind_some, show drayageref04_Row.f k l0 = drayageref04_Row.l0 k l0 ((0 : Nat) : Int) from rfl, f, Option.bind_some]
      dsimp only
      rw [if_pos rfl, if_pos rfl, kn k (by omega)]; rfl
  refine ⟨K + 1020 + 5000, fun k hk => ?_⟩
  show drayagelaw04_EntryRows.l0 k l0 0 = some true
  have go : ∀ (d i k : Nat), i + d = 2000 → K + 1020 + 2 * d + 4 ≤ k → drayagelaw04_EntryRows.l0 k l0 (i : Int) = some true := by
    intro d
    induction d with
    | zero =>
      intro i k hi hk
      obtain ⟨k, rfl⟩ : ∃ q, k = q + 1 := ⟨k - 1, by omega⟩
      rw [drayagelaw04_EntryRows.l0]
      by_cases h : (i : Int) < (l0.length : Int)
      · rw [if_pos h, decide_eq_false (by omega)]; exact fin i k (by omega)
      · rw [if_neg h]; exact fin i k (by omega)
    | succ d ih =>
      intro i k hi hk
      obtain ⟨k, rfl⟩ : ∃ q, k = q + 2 := ⟨k - 2, by omega⟩
      rw [drayagelaw04_EntryRows.l0]
      by_cases h : (i : Int) < (l0.length : Int)
      · rw [if_pos h, decide_eq_true (by omega), drayagelaw04_EntryRows.j1, if_pos rfl, if_pos (by omega), if_pos h]
        obtain ⟨b, hb⟩ : ∃ b, drayagelaw04_long.f (rd_T26 l0 i).f0 (rd_T26 l0 i).f1 (rd_T26 l0 i).f2 (rd_T26 l0 i).f3 (rd_T26 l0 i).f4 (rd_T26 l0 i).f5 (rd_T26 l0 i).f6 (rd_T26 l0 i).f7 (rd_T26 l0 i).f8 (rd_T26 l0 i).f9 (rd_T26 l0 i).f10 = some b := by
          unfold drayagelaw04_long.f
          repeat' split
          all_goals exact ⟨_, rfl⟩
        rw [hb, Option.bind_some]
        have hww : wrap64 ((i : Int) + 1) = ((i + 1 : Nat) : Int) := by rw [w64_id (by omega) (by omega)]; omega
        cases b with
        | true => rw [if_pos rfl, kn k (by omega)]; rfl
        | false => rw [if_neg (by decide), hww]; exact ih (i + 1) k (by omega) (by omega)
      · rw [if_neg h]; exact fin i (k + 1) (by omega)
  exact go 2000 0 k (by omega) (by omega)
end Go.Proofs.Ytahldljkhjebgaa.Pure
