-- printed by a program of this work (wip/tools/pr.py over the kit's print; laid by lift04.py): the machine's side of EntryRows
import Derived.Test.YtahldljkhjebgaaQRwPAx0
import Derived.Test.YtahldljkhjebgaaQRwPAx20
namespace Go.Proofs.Ytahldljkhjebgaa.PA
open Go.RowKit Go.Proofs.YtahldljkhjebgaaW.PrintWords Go.Proofs.YtahldljkhjebgaaW.PrintLast Go.Proofs.YtahldljkhjebgaaW.PrintMore
attribute [local go_sem] max2_int min2_int max_two min_two max_three min_three max_four min_four   -- for this text's walks alone
set_option linter.unusedVariables false
set_option linter.unusedSimpArgs false
/-! ### drayageref04_fields: function 38 -/
mutual
def drayageref04_fields.j0 : Nat → List (S86) → Int → Int → Int → Int → Int → Int → Bool → Int → Int → Int → List Int → List Int → Int → Int → Option ((List (S86)) × Bool)
  | 0, _, _, _, _, _, _, _, _, _, _, _, _, _, _, _ => none
  | k + 1, x4, x6, x154000, x154001, x154002, x154003, x154004, x154005, x154006, x154007, x154008, x154009, x154010, x158000, x158001 => if x154000 = 1 then (some (x4, true)) else (if x154000 = 2 then ((some (([(⟨x158000, x158001, ([] : List Int)⟩ : S86), (⟨0, 0, x154009⟩ : S86), (⟨0, 0, x154010⟩ : S86)] : List (S86)) : List (S86))).bind fun y158 => (if x4.length + y158.length < 3518437208883 then ((some (x4 ++ y158 : List (S86))).bind fun y161 => (if x154003 ≥ 1 then (if (x154009.length : Int) ≥ 1 then (if (x154009.length : Int) ≤ 32 then (drayageref04_fields.j1 k y161 (decide ((x154010.length : Int) ≤ 200))) else (drayageref04_fields.j1 k y161 false)) else (drayageref04_fields.j1 k y161 false)) else (drayageref04_fields.j1 k y161 false))) else (none))) else (if x154000 = 3 then (drayageref04_fields.j2 k x4 x6 x154000 (x154000 == 3) x154000 x154001 x154002 x154003 x154004 x154005 x154006 x154007 x154008 x154009 x154010 x158000 x158001) else (drayageref04_fields.j2 k x4 x6 x154000 (x154000 == 4) x154000 x154001 x154002 x154003 x154004 x154005 x154006 x154007 x154008 x154009 x154010 x158000 x158001)))
def drayageref04_fields.j1 : Nat → List (S86) → Bool → Option ((List (S86)) × Bool)
  | 0, _, _ => none
  | k + 1, x2, x3 => some (x2, x3)
def drayageref04_fields.j2 : Nat → List (S86) → Int → Int → Bool → Int → Int → Int → Int → Int → Bool → Int → Int → Int → List Int → List Int → Int → Int → Option ((List (S86)) × Bool)
  | 0, _, _, _, _, _, _, _, _, _, _, _, _, _, _, _, _, _ => none
  | k + 1, x4, x6, x27, x65, x154000, x154001, x154002, x154003, x154004, x154005, x154006, x154007, x154008, x154009, x154010, x158000, x158001 => if x65 = true then ((some (([(⟨x158000, x158001, ([] : List Int)⟩ : S86), (⟨1, IntKind.u64.wrap (x154004), ([] : List Int)⟩ : S86), (⟨1, x6, ([] : List Int)⟩ : S86), (⟨1, IntKind.u64.wrap (x154006), ([] : List Int)⟩ : S86)] : List (S86)) : List (S86))).bind fun y164 => (if x4.length + y164.length < 3518437208883 then ((some (x4 ++ y164 : List (S86))).bind fun y167 => (if x154003 ≥ 1 then (if x154004 ≥ 0 then (if x154004 ≤ 15 then (if x154006 ≥ 1 then (drayageref04_fields.j3 k y167 (decide (x154006 ≤ 255)) x154000 x154001 x154002 x154003 x154004 x154005 x154006 x154007 x154008 x154009 x154010) else (drayageref04_fields.j3 k y167 false x154000 x154001 x154002 x154003 x154004 x154005 x154006 x154007 x154008 x154009 x154010)) else (drayageref04_fields.j3 k y167 false x154000 x154001 x154002 x154003 x154004 x154005 x154006 x154007 x154008 x154009 x154010)) else (drayageref04_fields.j3 k y167 false x154000 x154001 x154002 x154003 x154004 x154005 x154006 x154007 x154008 x154009 x154010)) else (drayageref04_fields.j3 k y167 false x154000 x154001 x154002 x154003 x154004 x154005 x154006 x154007 x154008 x154009 x154010))) else (none))) else (if x27 = 5 then ((some (([(⟨x158000, x158001, ([] : List Int)⟩ : S86), (⟨1, IntKind.u64.wrap (x154007), ([] : List Int)⟩ : S86)] : List (S86)) : List (S86))).bind fun y173 => (if x4.length + y173.length < 3518437208883 then ((some (x4 ++ y173 : List (S86))).bind fun y176 => (if x154003 ≥ 1 then (if x154007 ≥ 1 then (drayageref04_fields.j6 k y176 (decide (x154007 ≤ 3))) else (drayageref04_fields.j6 k y176 false)) else (drayageref04_fields.j6 k y176 false))) else (none))) else (if x27 = 6 then (if x4.length < 3518437208883 then ((some (x4 ++ [(⟨1, IntKind.u64.wrap (x154007), ([] : List Int)⟩ : S86)] : List (S86))).bind fun y179 => (if x154007 = 1 then (some (y179, true)) else (some (y179, (x154007 == 2))))) else (none)) else (if x27 = 7 then (if x4.length < 3518437208883 then (some ((x4 ++ [(⟨8, x154008, ([] : List Int)⟩ : S86)]), decide (x154008 < x154001))) else (none)) else (some (([] : List (S86)), false)))))
def drayageref04_fields.j3 : Nat → List (S86) → Bool → Int → Int → Int → Int → Int → Bool → Int → Int → Int → List Int → List Int → Option ((List (S86)) × Bool)
  | 0, _, _, _, _, _, _, _, _, _, _, _, _, _ => none
  | k + 1, x4, x7, x154000, x154001, x154002, x154003, x154004, x154005, x154006, x154007, x154008, x154009, x154010 => if x154000 = 4 then (if x4.length < 3518437208883 then ((some (x4 ++ [(⟨1, IntKind.u64.wrap (x154007), ([] : List Int)⟩ : S86)] : List (S86))).bind fun y170 => (if x7 = true then (if x154007 ≥ 1 then (drayageref04_fields.j4 k y170 (decide (x154007 ≤ 3))) else (drayageref04_fields.j4 k y170 false)) else (drayageref04_fields.j4 k y170 false))) else (none)) else (drayageref04_fields.j5 k x4 x7)
def drayageref04_fields.j5 : Nat → List (S86) → Bool → Option ((List (S86)) × Bool)
  | 0, _, _ => none
  | k + 1, x4, x7 => some (x4, x7)
def drayageref04_fields.j4 : Nat → List (S86) → Bool → Option ((List (S86)) × Bool)
  | 0, _, _ => none
  | k + 1, x4, x7 => drayageref04_fields.j5 k x4 x7
def drayageref04_fields.j6 : Nat → List (S86) → Bool → Option ((List (S86)) × Bool)
  | 0, _, _ => none
  | k + 1, x2, x3 => some (x2, x3)
end
def drayageref04_fields.f (k : Nat) (a0_0 : Int) (a0_1 : Int) (a0_2 : Int) (a0_3 : Int) (a0_4 : Int) (a0_5 : Bool) (a0_6 : Int) (a0_7 : Int) (a0_8 : Int) (l0_9 : List Int) (l0_10 : List Int) : Option ((List (S86)) × Bool) := (some (([(⟨1, IntKind.u64.wrap (a0_0), ([] : List Int)⟩ : S86), (⟨8, a0_1, ([] : List Int)⟩ : S86), (⟨4, IntKind.u64.wrap (a0_2), ([] : List Int)⟩ : S86)] : List (S86)) : List (S86))).bind fun y154 => (if a0_5 = true then (drayageref04_fields.j0 k y154 1 a0_0 a0_1 a0_2 a0_3 a0_4 a0_5 a0_6 a0_7 a0_8 l0_9 l0_10 4 (IntKind.u64.wrap (a0_3))) else (drayageref04_fields.j0 k y154 0 a0_0 a0_1 a0_2 a0_3 a0_4 a0_5 a0_6 a0_7 a0_8 l0_9 l0_10 4 (IntKind.u64.wrap (a0_3))))

end Go.Proofs.Ytahldljkhjebgaa.PA
