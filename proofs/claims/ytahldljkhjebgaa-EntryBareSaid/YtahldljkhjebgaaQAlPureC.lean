/- Plain laws on the mirror of chapter 4's functions, part C: the law EntryBare. -/
import Derived.Test.YtahldljkhjebgaaQAlPAx1
import Derived.Test.YtahldljkhjebgaaQAlPAx5
import Derived.Test.YtahldljkhjebgaaQAlPAx6
import Derived.Test.YtahldljkhjebgaaQAlPureA
namespace Go.Proofs.Ytahldljkhjebgaa.Pure
open Go.RowKit Go.Proofs.Ytahldljkhjebgaa.PA Go.Proofs.YtahldljkhjebgaaW.PrintWords Go.Proofs.YtahldljkhjebgaaW.PrintLast Go.Proofs.YtahldljkhjebgaaW.PrintMore
set_option linter.unusedVariables false
set_option linter.unusedSimpArgs false

theorem check_at (k ls ep o st : Int) (un : Bool) (tr co mk : Int) (l9 l10 : List Int) : entry_Check.f k ls ep o st un tr co mk l9 l10 = some (ansE (entryOk k ls ep o st un tr co mk l9.length l10.length)) := rfl
/-- a part more, or another kind -/
theorem not_ok {k ls ep o st : Int} {un : Bool} {tr co mk : Int} {l9 l10 : List Int} (h : entryOk k ls ep o st un tr co mk l9.length l10.length = false) {α : Type} (f : Option α) : ((entry_Check.f k ls ep o st un tr co mk l9 l10).bind fun t => if t = 40 then f else none) = f := by
  rw [check_at, h, Option.bind_some, ansE, if_pos rfl]
theorem bare_0 {k ls ep o st : Int} {un : Bool} {tr co mk : Int} {n9 n10 : Nat} (h : entryOk k ls ep o st un tr co mk n9 n10 = true) (hn : ¬ (k ≥ 2 ∧ k ≤ 5)) : entryOk k ls ep ((o + 1) % 4294967296) st un tr co mk n9 n10 = false := by
  rcases ok_kind h with rfl | rfl | rfl | rfl | rfl | rfl | rfl <;> first | (exact absurd (by decide) hn) | (simp [entryOk, zeroB, Bool.cond_eq_ite] at h ⊢ <;> (try simp [h]) <;> (try omega))
theorem bare_1 {k ls ep o st : Int} {un : Bool} {tr co mk : Int} {n9 n10 : Nat} (h : entryOk k ls ep o st un tr co mk n9 n10 = true) (h3 : ¬ k = 3) (h4 : ¬ k = 4) : entryOk k ls ep o (wrap64 (1 - mn st 1)) un tr co mk n9 n10 = false := by
  have hw : ¬ wrap64 (1 - mn 0 1) = 0 := by unfold mn wrap64; decide
  rcases ok_kind h with rfl | rfl | rfl | rfl | rfl | rfl | rfl <;> first | (exact absurd rfl h3) | (exact absurd rfl h4) | (simp [entryOk, zeroB, Bool.cond_eq_ite] at h ⊢ <;> (try simp [h, hw]) <;> (try omega))
theorem bare_2 {k ls ep o st : Int} {un : Bool} {tr co mk : Int} {n9 n10 : Nat} (h : entryOk k ls ep o st un tr co mk n9 n10 = true) (h3 : ¬ k = 3) (h4 : ¬ k = 4) : entryOk k ls ep o st (!un) tr co mk n9 n10 = false := by
  rcases ok_kind h with rfl | rfl | rfl | rfl | rfl | rfl | rfl <;> first | (exact absurd rfl h3) | (exact absurd rfl h4) | (simp [entryOk, zeroB, Bool.cond_eq_ite] at h ⊢ <;> (try simp [h]) <;> (try omega))
theorem bare_3 {k ls ep o st : Int} {un : Bool} {tr co mk : Int} {n9 n10 : Nat} (h : entryOk k ls ep o st un tr co mk n9 n10 = true) (h3 : ¬ k = 3) (h4 : ¬ k = 4) : entryOk k ls ep o st un (mx tr 1) co mk n9 n10 = false := by
  have hw : ¬ mx tr 1 = 0 := by unfold mx; split <;> omega
  rcases ok_kind h with rfl | rfl | rfl | rfl | rfl | rfl | rfl <;> first | (exact absurd rfl h3) | (exact absurd rfl h4) | (simp [entryOk, zeroB, Bool.cond_eq_ite, hw] at h ⊢ <;> (try simp [h]) <;> (try omega))
theorem bare_4 {k ls ep o st : Int} {un : Bool} {tr co mk : Int} {n9 n10 : Nat} (h : entryOk k ls ep o st un tr co mk n9 n10 = true) (hn : ¬ (k ≥ 4 ∧ k ≤ 6)) : entryOk k ls ep o st un tr (mx co 1) mk n9 n10 = false := by
  have hw : ¬ mx co 1 = 0 := by unfold mx; split <;> omega
  rcases ok_kind h with rfl | rfl | rfl | rfl | rfl | rfl | rfl <;> first | (exact absurd (by decide) hn) | (simp [entryOk, zeroB, Bool.cond_eq_ite, hw] at h ⊢ <;> (try simp [h]) <;> (try omega))
theorem bare_5 {k ls ep o st : Int} {un : Bool} {tr co mk : Int} {n9 n10 : Nat} (h : entryOk k ls ep o st un tr co mk n9 n10 = true) (h7 : ¬ k = 7) : entryOk k ls ep o st un tr co (mx mk 1) n9 n10 = false := by
  have hw : ¬ mx mk 1 = 0 := by unfold mx; split <;> omega
  rcases ok_kind h with rfl | rfl | rfl | rfl | rfl | rfl | rfl <;> first | (exact absurd rfl h7) | (simp [entryOk, zeroB, Bool.cond_eq_ite, hw] at h ⊢ <;> (try simp [h]) <;> (try omega))
theorem bare_6 {k ls ep o st : Int} {un : Bool} {tr co mk : Int} {n9 n10 : Nat} (h : entryOk k ls ep o st un tr co mk n9 n10 = true) (h2 : ¬ k = 2) : entryOk k ls ep o st un tr co mk 1 n10 = false := by
  rcases ok_kind h with rfl | rfl | rfl | rfl | rfl | rfl | rfl <;> first | (exact absurd rfl h2) | (simp [entryOk, zeroB, Bool.cond_eq_ite] at h ⊢ <;> (try simp [h]) <;> (try omega))
theorem bare_7 {k ls ep o st : Int} {un : Bool} {tr co mk : Int} {n9 n10 : Nat} (h : k ≤ 0 ∨ 8 ≤ k) : entryOk k ls ep o st un tr co mk n9 n10 = false := by
  cases hq : entryOk k ls ep o st un tr co mk n9 n10 with
  | false => rfl
  | true => have := ok_kind hq; omega
theorem beyond_is (x : Int) : ∃ y : Int, drayagelaw04_Beyond.f x = some y ∧ (y ≤ 0 ∨ 8 ≤ y) := by
  unfold drayagelaw04_Beyond.f
  by_cases h : x < 0
  · rw [if_pos h]; exact ⟨_, rfl, .inl (by unfold mn; split <;> omega)⟩
  · rw [if_neg h]; exact ⟨_, rfl, .inr (by unfold mx; split <;> omega)⟩
theorem EntryBare (x0 : Int × Int × Int × Int × Int × Bool × Int × Int × Int × List Int × List Int) (a1 : Int)
    (w0 : ((Lit.int .i64 x0.1).wf = true) ∧ ((Lit.int .u64 x0.2.1).wf = true) ∧ ((Lit.int .u32 x0.2.2.1).wf = true) ∧ ((Lit.int .u32 x0.2.2.2.1).wf = true) ∧ ((Lit.int .i64 x0.2.2.2.2.1).wf = true) ∧ True ∧ ((Lit.int .i64 x0.2.2.2.2.2.2.1).wf = true) ∧ ((Lit.int .i64 x0.2.2.2.2.2.2.2.1).wf = true) ∧ ((Lit.int .u64 x0.2.2.2.2.2.2.2.2.1).wf = true) ∧ (x0.2.2.2.2.2.2.2.2.2.1.length ≤ maxLen ∧ ∀ x ∈ x0.2.2.2.2.2.2.2.2.2.1, (Lit.int .u8 x).wf = true) ∧ (x0.2.2.2.2.2.2.2.2.2.2.length ≤ maxLen ∧ ∀ x ∈ x0.2.2.2.2.2.2.2.2.2.2, (Lit.int .u8 x).wf = true)) (w1 : (Lit.int .i64 a1).wf = true) :
    Ev (fun k => drayagelaw04_EntryBare.f k x0.1 x0.2.1 x0.2.2.1 x0.2.2.2.1 x0.2.2.2.2.1 x0.2.2.2.2.2.1 x0.2.2.2.2.2.2.1 x0.2.2.2.2.2.2.2.1 x0.2.2.2.2.2.2.2.2.1 x0.2.2.2.2.2.2.2.2.2.1 x0.2.2.2.2.2.2.2.2.2.2 a1) true := by
  obtain ⟨k, ls, ep, o, st, un, tr, co, mk, l9, l10⟩ := x0
  obtain ⟨K, hK⟩ := known_ev
  refine ⟨K + 1, fun n hn => ?_⟩
  obtain ⟨n, rfl⟩ : ∃ q, n = q + 1 := ⟨n - 1, by omega⟩
  have kn : drayagelaw04_known.f n = some true := hK n (by omega)
  show drayagelaw04_EntryBare.f (n + 1) k ls ep o st un tr co mk l9 l10 a1 = some true
  have out : ∀ st' : Unit, drayagelaw04_EntryBare.j0 (n + 1) a1 true k ls ep o st un tr co mk l9 l10 = some true := by
    intro _
    rw [drayagelaw04_EntryBare.j0, if_pos rfl, kn]; rfl
  unfold drayagelaw04_EntryBare.f
  obtain ⟨b, hb⟩ : ∃ b, drayagelaw04_long.f k ls ep o st un tr co mk l9 l10 = some b := by
    unfold drayagelaw04_long.f
    repeat' split
    all_goals exact ⟨_, rfl⟩
  rw [hb, Option.bind_some]
  cases b with
  | true => rw [if_pos rfl]; exact out ()
  | false =>
    rw [if_neg (by decide), check_at, Option.bind_some]
    cases h : entryOk k ls ep o st un tr co mk l9.length l10.length with
    | false => exact out ()
    | true =>
      rw [show (ansE true != 0) = false from rfl, drayagelaw04_EntryBare.j0, if_neg (by decide)]
      simp only [kn]
      split
      · split
        · split
          · rfl
          · rw [not_ok (bare_0 h (by omega))]; rfl
        · rw [not_ok (bare_0 h (by omega))]; rfl
      split
      · split
        · rfl
        · split
          · rfl
          · rw [not_ok (bare_1 h (by omega) (by omega))]; rfl
      split
      · split
        · rfl
        · split
          · rfl
          · rw [not_ok (bare_2 h (by omega) (by omega))]; rfl
      split
      · split
        · rfl
        · split
          · rfl
          · rw [not_ok (bare_3 h (by omega) (by omega))]; rfl
      split
      · split
        · split
          · rfl
          · rw [not_ok (bare_4 h (by omega))]; rfl
        · rw [not_ok (bare_4 h (by omega))]; rfl
      split
      · split
        · rfl
        · rw [not_ok (bare_5 h (by omega))]; rfl
      split
      · split
        · rfl
        · rw [not_ok (l9 := [107]) (bare_6 h (by omega))]; rfl
      · obtain ⟨y, hy, hy2⟩ := beyond_is a1
        rw [hy, Option.bind_some, not_ok (bare_7 hy2)]; rfl
end Go.Proofs.Ytahldljkhjebgaa.Pure
