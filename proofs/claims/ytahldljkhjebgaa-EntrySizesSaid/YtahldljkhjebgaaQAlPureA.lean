/- Plain laws on the mirror of chapter 4's functions, part A: what the chapter's examples fix, and the law EntrySizes. -/
import Derived.Test.YtahldljkhjebgaaQAlPAx2
import Derived.Test.YtahldljkhjebgaaQAlPAx5
import Derived.Test.YtahldljkhjebgaaQAlPAx8
namespace Go.Proofs.Ytahldljkhjebgaa.Pure
open Go.RowKit Go.Proofs.Ytahldljkhjebgaa.PA Go.Proofs.YtahldljkhjebgaaW.PrintWords Go.Proofs.YtahldljkhjebgaaW.PrintLast Go.Proofs.YtahldljkhjebgaaW.PrintMore
set_option linter.unusedVariables false
set_option linter.unusedSimpArgs false

theorem known_ev : Ev (fun k => drayagelaw04_known.f k) true :=
  Ev.of (fun k => drayagelaw04_known.mono k) (k := 20) (by decide +kernel)
theorem u64_wf {x : Int} (h : (Lit.int .u64 x).wf = true) : 0 ≤ x ∧ x < 18446744073709551616 := by
  have := h
  simp [Lit.wf, IntKind.min, IntKind.max, IntKind.signed, IntKind.bits] at this
  omega
theorem u32_wf {x : Int} (h : (Lit.int .u32 x).wf = true) : 0 ≤ x ∧ x < 4294967296 := by
  have := h
  simp [Lit.wf, IntKind.min, IntKind.max, IntKind.signed, IntKind.bits] at this
  omega
theorem u8_wf {x : Int} (h : (Lit.int .u8 x).wf = true) : 0 ≤ x ∧ x < 256 := by
  have := h
  simp [Lit.wf, IntKind.min, IntKind.max, IntKind.signed, IntKind.bits] at this
  omega

theorem u64_id {x : Int} (h0 : 0 ≤ x) (h1 : x < 18446744073709551616) : IntKind.u64.wrap x = x := by
  have : IntKind.u64.wrap x = x % 18446744073709551616 := rfl
  omega
theorem w64_id {x : Int} (h0 : -9223372036854775808 ≤ x) (h1 : x < 9223372036854775808) : wrap64 x = x := by
  unfold wrap64; omega
/-- an entry as its parts: the numbers fit -/
theorem fit_of {ls ep o mk : Int} (h1 : (Lit.int .u64 ls).wf = true) (h2 : (Lit.int .u32 ep).wf = true) (h3 : (Lit.int .u32 o).wf = true) (h8 : (Lit.int .u64 mk).wf = true) : entryFit ls ep o mk = true := by
  obtain ⟨a, b⟩ := u64_wf h1; obtain ⟨c, d⟩ := u32_wf h2; obtain ⟨e, f⟩ := u32_wf h3; obtain ⟨g, i⟩ := u64_wf h8
  simp [entryFit, a, b, c, d, e, f, g, i]
theorem bigE_len (n : Int) (s : Nat) : (bigE n s).length = s := by simp [bigE]
theorem put_is {k ls ep o st : Int} {un : Bool} {tr co mk : Int} {l9 l10 : List Int} (h : entryFit ls ep o mk = true) : entry_Put.f k ls ep o st un tr co mk l9 l10 = some (bif entryOk k ls ep o st un tr co mk l9.length l10.length then (entryBytes k ls ep o st un tr co mk l9 l10, 0) else ([], 40)) := by
  unfold entry_Put.f; rw [h]; cases entryOk k ls ep o st un tr co mk l9.length l10.length <;> rfl
/-- which kinds an entry that may be has -/
theorem ok_kind {k ls ep o st : Int} {un : Bool} {tr co mk : Int} {n9 n10 : Nat} (h : entryOk k ls ep o st un tr co mk n9 n10 = true) : k = 1 ∨ k = 2 ∨ k = 3 ∨ k = 4 ∨ k = 5 ∨ k = 6 ∨ k = 7 := by
  unfold entryOk at h
  by_cases h1 : k = 1; · exact .inl h1
  by_cases h2 : k = 2; · exact .inr (.inl h2)
  by_cases h3 : k = 3; · exact .inr (.inr (.inl h3))
  by_cases h4 : k = 4; · exact .inr (.inr (.inr (.inl h4)))
  by_cases h5 : k = 5; · exact .inr (.inr (.inr (.inr (.inl h5))))
  by_cases h6 : k = 6; · exact .inr (.inr (.inr (.inr (.inr (.inl h6)))))
  by_cases h7 : k = 7; · exact .inr (.inr (.inr (.inr (.inr (.inr h7)))))
  simp [h1, h2, h3, h4, h5, h6, h7] at h
theorem ok_lens {k ls ep o st : Int} {un : Bool} {tr co mk : Int} {n9 n10 : Nat} (h : entryOk k ls ep o st un tr co mk n9 n10 = true) : n9 ≤ 32 ∧ n10 ≤ 200 := by
  rcases ok_kind h with rfl | rfl | rfl | rfl | rfl | rfl | rfl <;> simp [entryOk, zeroB, Bool.cond_eq_ite] at h <;> omega
theorem EntrySizes (x0 : Int × Int × Int × Int × Int × Bool × Int × Int × Int × List Int × List Int)
    (w0 : ((Lit.int .i64 x0.1).wf = true) ∧ ((Lit.int .u64 x0.2.1).wf = true) ∧ ((Lit.int .u32 x0.2.2.1).wf = true) ∧ ((Lit.int .u32 x0.2.2.2.1).wf = true) ∧ ((Lit.int .i64 x0.2.2.2.2.1).wf = true) ∧ True ∧ ((Lit.int .i64 x0.2.2.2.2.2.2.1).wf = true) ∧ ((Lit.int .i64 x0.2.2.2.2.2.2.2.1).wf = true) ∧ ((Lit.int .u64 x0.2.2.2.2.2.2.2.2.1).wf = true) ∧ (x0.2.2.2.2.2.2.2.2.2.1.length ≤ maxLen ∧ ∀ x ∈ x0.2.2.2.2.2.2.2.2.2.1, (Lit.int .u8 x).wf = true) ∧ (x0.2.2.2.2.2.2.2.2.2.2.length ≤ maxLen ∧ ∀ x ∈ x0.2.2.2.2.2.2.2.2.2.2, (Lit.int .u8 x).wf = true)) :
    Ev (fun k => drayagelaw04_EntrySizes.f k x0.1 x0.2.1 x0.2.2.1 x0.2.2.2.1 x0.2.2.2.2.1 x0.2.2.2.2.2.1 x0.2.2.2.2.2.2.1 x0.2.2.2.2.2.2.2.1 x0.2.2.2.2.2.2.2.2.1 x0.2.2.2.2.2.2.2.2.2.1 x0.2.2.2.2.2.2.2.2.2.2) true := by
  obtain ⟨k, ls, ep, o, st, un, tr, co, mk, l9, l10⟩ := x0
  obtain ⟨_, h1, h2, h3, _, _, _, _, h8, _, _⟩ := w0
  dsimp only at h1 h2 h3 h8
  obtain ⟨K, hK⟩ := known_ev
  refine ⟨K, fun n hn => ?_⟩
  show drayagelaw04_EntrySizes.f n k ls ep o st un tr co mk l9 l10 = some true
  unfold drayagelaw04_EntrySizes.f
  have hKn : drayagelaw04_known.f n = some true := hK n hn
  rw [put_is (fit_of h1 h2 h3 h8), Option.bind_some, hKn]
  cases h : entryOk k ls ep o st un tr co mk l9.length l10.length with
  | false => simp
  | true =>
    obtain ⟨a, b⟩ := ok_lens h
    rcases ok_kind h with rfl | rfl | rfl | rfl | rfl | rfl | rfl <;> simp [entryBytes, bigE_len]
    rw [w64_id (x := 18 + _) (by omega) (by omega), w64_id (x := 18 + _ + 1) (by omega) (by omega), w64_id (by omega) (by omega)]
    omega
end Go.Proofs.Ytahldljkhjebgaa.Pure
