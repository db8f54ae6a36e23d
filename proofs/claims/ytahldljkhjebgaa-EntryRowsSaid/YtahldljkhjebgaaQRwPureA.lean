/- Plain laws on the mirror of chapter 4's functions, part A: what the chapter's examples fix, and the law EntrySizes. -/
import Derived.Test.YtahldljkhjebgaaQRwPAx2
import Derived.Test.YtahldljkhjebgaaQRwPAx5
import Derived.Test.YtahldljkhjebgaaQRwPAx0
import Derived.Test.YtahldljkhjebgaaQRwPAx1
namespace Go.Proofs.Ytahldljkhjebgaa.Pure
open Go.RowKit Go.Proofs.Ytahldljkhjebgaa.PA Go.Proofs.YtahldljkhjebgaaW.PrintWords Go.Proofs.YtahldljkhjebgaaW.PrintLast Go.Proofs.YtahldljkhjebgaaW.PrintMore
set_option linter.unusedVariables false
set_option linter.unusedSimpArgs false

theorem known_ev : Ev (fun k => drayagelaw04_known.f k) true :=
  Ev.of (fun k => drayagelaw04_known.mono k) (k := 20) (by decide +kernel)
theorem u64_wf {x : Int} (h : (Lit.int .u64 x).wf = true) : 0 ≤ x ∧ x < 18446744073709551616 := by
  have := h
  simp [Lit.wf, IntKind.min, IntKind.max, IntKind.signed, IntKind.bits] at this
  omega
theorem u32_wf {x : Int} (h : (Lit.int .u32 x).wf = true) : 0 ≤ x ∧ x < 4294967296 := by
  have := h
  simp [Lit.wf, IntKind.min, IntKind.max, IntKind.signed, IntKind.bits] at this
  omega
theorem u8_wf {x : Int} (h : (Lit.int .u8 x).wf = true) : 0 ≤ x ∧ x < 256 := by
  have := h
  simp [Lit.wf, IntKind.min, IntKind.max, IntKind.signed, IntKind.bits] at this
  omega

theorem w64_id {x : Int} (h0 : -9223372036854775808 ≤ x) (h1 : x < 9223372036854775808) : wrap64 x = x := by
  unfold wrap64; omega

/-- which kinds an entry that may be has -/
theorem ok_kind {k ls ep o st : Int} {un : Bool} {tr co mk : Int} {n9 n10 : Nat} (h : entryOk k ls ep o st un tr co mk n9 n10 = true) : k = 1 ∨ k = 2 ∨ k = 3 ∨ k = 4 ∨ k = 5 ∨ k = 6 ∨ k = 7 := by
  unfold entryOk at h
  by_cases h1 : k = 1; · exact .inl h1
  by_cases h2 : k = 2; · exact .inr (.inl h2)
  by_cases h3 : k = 3; · exact .inr (.inr (.inl h3))
  by_cases h4 : k = 4; · exact .inr (.inr (.inr (.inl h4)))
  by_cases h5 : k = 5; · exact .inr (.inr (.inr (.inr (.inl h5))))
  by_cases h6 : k = 6; · exact .inr (.inr (.inr (.inr (.inr (.inl h6)))))
  by_cases h7 : k = 7; · exact .inr (.inr (.inr (.inr (.inr (.inr h7)))))
  simp [h1, h2, h3, h4, h5, h6, h7] at h

end Go.Proofs.Ytahldljkhjebgaa.Pure
