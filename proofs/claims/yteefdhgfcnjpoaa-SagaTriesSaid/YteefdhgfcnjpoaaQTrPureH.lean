/- Plain laws on the mirror of chapter 14's functions, part H: what happens to an order, and the law SagaStays. -/
import Derived.Test.YteefdhgfcnjpoaaQTrPAx0
import Derived.Test.YteefdhgfcnjpoaaQTrPAx8
import Derived.Test.YteefdhgfcnjpoaaQTrPAx9
import Derived.Test.YteefdhgfcnjpoaaQTrPAx7
import Derived.Test.YteefdhgfcnjpoaaQTrPAx5
import Derived.Test.YteefdhgfcnjpoaaQTrPureG
namespace Go.Proofs.Yteefdhgfcnjpoaa.Pure
open Go.RowKit Go.Proofs.Yteefdhgfcnjpoaa.PA Go.Proofs.YteefdhgfcnjpoaaW.PrintWords Go.Proofs.YteefdhgfcnjpoaaW.PrintLast
set_option linter.unusedVariables false
set_option linter.unusedSimpArgs false

/-- a code, 1 to 3, out of any number -/
def codeOf (c : Int) : Int := wrap64 (1 + wrap64 (Int.tmod (IntKind.u64.wrap c) 3))
theorem u64_range (c : Int) : 0 ≤ IntKind.u64.wrap c ∧ IntKind.u64.wrap c ≤ 18446744073709551615 := by
  have h1 : IntKind.u64.wrap c = c % 18446744073709551616 := by simp [IntKind.wrap, IntKind.signed, IntKind.bits]
  omega

/-- an event -/
def happG (l : List S38) (s : Sg) (x : S54) : Sg :=
  if x.f0 = 0 ∨ x.f0 = 1 then (if s.ph ≠ 3 ∧ s.as_ = false then askG l s else s)
  else if x.f0 = 2 ∨ x.f0 = 3 ∨ x.f0 = 4 then tellG l s s.st (s.ph == 2) (codeOf x.f2)
  else if x.f0 = 5 then tickG l s
  else if x.f0 = 6 then cancG l s
  else tellG l s (wrap64 (Int.tmod (IntKind.u64.wrap x.f1) 16)) ((Int.tmod x.f1 2) == 0) (codeOf x.f2)
abbrev resb (s : Sg) (b : Bool) : Int × Int × Int × Bool × Int × Bool × Int × Bool := (s.ph, s.st, s.tr, s.as_, s.le, s.ca, s.co, b)

end Go.Proofs.Yteefdhgfcnjpoaa.Pure
