-- printed by a program of this work (wip/tools/pr.py over the kit's print): the machine's side of SagaTries, SagaMoves, SagaStays, SagaOrder, SagaEnds, SagaTicks
import Derived.Test.YteefdhgfcnjpoaaQCaPAx0
import Derived.Test.YteefdhgfcnjpoaaQCaPAx5
namespace Go.Proofs.Yteefdhgfcnjpoaa.PA
open Go.RowKit Go.Proofs.YteefdhgfcnjpoaaW.PrintWords Go.Proofs.YteefdhgfcnjpoaaW.PrintLast Go.Proofs.YteefdhgfcnjpoaaW.PrintMore
attribute [local go_sem] max2_int min2_int max_two min_two max_three min_three max_four min_four   -- for this text's walks alone
set_option linter.unusedVariables false
set_option linter.unusedSimpArgs false

/-! ### drayageref14_Check: function 25 -/
mutual
def drayageref14_Check.j0 : Nat → List (S38) → Bool → Int → Int → Int → Bool → Int → Bool → Int → Option (Int)
  | 0, _, _, _, _, _, _, _, _, _ => none
  | k + 1, x0, x48, x372000, x372001, x372002, x372003, x372004, x372005, x372006 => if x48 = true then (if x372001 < 0 then (drayageref14_Check.j1 k x0 true x372000 x372001 x372002 x372003 x372004 x372005 x372006) else (if x372001 ≥ (x0.length : Int) then (drayageref14_Check.j1 k x0 true x372000 x372001 x372002 x372003 x372004 x372005 x372006) else (if x372006 = 0 then (if x372002 < 0 then (drayageref14_Check.j1 k x0 true x372000 x372001 x372002 x372003 x372004 x372005 x372006) else (if 0 ≤ x372001 then (if x372001 < (x0.length : Int) then (drayageref14_Check.j1 k x0 (decide (x372002 > ((rd_T38 x0 x372001).f1))) x372000 x372001 x372002 x372003 x372004 x372005 x372006) else (none)) else (none))) else (drayageref14_Check.j1 k x0 true x372000 x372001 x372002 x372003 x372004 x372005 x372006)))) else (some 140)
def drayageref14_Check.j1 : Nat → List (S38) → Bool → Int → Int → Int → Bool → Int → Bool → Int → Option (Int)
  | 0, _, _, _, _, _, _, _, _, _ => none
  | k + 1, x0, x81, x372000, x372001, x372002, x372003, x372004, x372005, x372006 => if x81 = true then (some 140) else (if x372000 = 2 then (if x372005 = true then (drayageref14_Check.j2 k x0 true x372000 x372001 x372002 x372003 x372004 x372005 x372006) else (if 0 ≤ x372001 then (if x372001 < (x0.length : Int) then (drayageref14_Check.j2 k x0 (!((rd_T38 x0 x372001).f3)) x372000 x372001 x372002 x372003 x372004 x372005 x372006) else (none)) else (none))) else (drayageref14_Check.j2 k x0 false x372000 x372001 x372002 x372003 x372004 x372005 x372006))
def drayageref14_Check.j2 : Nat → List (S38) → Bool → Int → Int → Int → Bool → Int → Bool → Int → Option (Int)
  | 0, _, _, _, _, _, _, _, _, _ => none
  | k + 1, x0, x97, x372000, x372001, x372002, x372003, x372004, x372005, x372006 => if x97 = true then (some 140) else (if x372003 = true then (if x372002 = 0 then (drayageref14_Check.j3 k x0 true x372000 x372001 x372002 x372003 x372004 x372005 x372006) else (if x372004 < 1 then (drayageref14_Check.j3 k x0 true x372000 x372001 x372002 x372003 x372004 x372005 x372006) else (if 0 ≤ x372001 then (if x372001 < (x0.length : Int) then (drayageref14_Check.j3 k x0 (decide (x372004 > ((rd_T38 x0 x372001).f2))) x372000 x372001 x372002 x372003 x372004 x372005 x372006) else (none)) else (none)))) else (drayageref14_Check.j3 k x0 false x372000 x372001 x372002 x372003 x372004 x372005 x372006))
def drayageref14_Check.j3 : Nat → List (S38) → Bool → Int → Int → Int → Bool → Int → Bool → Int → Option (Int)
  | 0, _, _, _, _, _, _, _, _, _ => none
  | k + 1, x0, x120, x372000, x372001, x372002, x372003, x372004, x372005, x372006 => if x120 = true then (some 140) else (if x372003 = true then (some 0) else (if x372004 = 0 then (if 0 ≤ x372001 then (if x372001 < (x0.length : Int) then (if x372002 = ((rd_T38 x0 x372001).f1) then (some 140) else (some 0)) else (none)) else (none)) else (some 140)))
end
def drayageref14_Check.f (k : Nat) (l0 : List (S38)) (a1_0 : Int) (a1_1 : Int) (a1_2 : Int) (a1_3 : Bool) (a1_4 : Int) (a1_5 : Bool) (a1_6 : Int) : Option (Int) := (drayageref13_Check.f k l0).bind fun t372 => (if t372 = 0 then (if a1_0 = 3 then (if a1_6 ≥ 1 then (if a1_6 ≤ 3 then (if a1_1 = 0 then (if a1_2 = 0 then (if a1_3 = true then (some 140) else (if a1_4 = 0 then (if a1_5 = true then (some 140) else (some 0)) else (some 140))) else (some 140)) else (some 140)) else (some 140)) else (some 140)) else (if a1_0 = 1 then (drayageref14_Check.j0 k l0 (a1_0 == 1) a1_0 a1_1 a1_2 a1_3 a1_4 a1_5 a1_6) else (drayageref14_Check.j0 k l0 (a1_0 == 2) a1_0 a1_1 a1_2 a1_3 a1_4 a1_5 a1_6))) else (some t372))

attribute [local go_sem] cell_alloc_lt2 cell_set_ne2

/-! ### drayageref14_Next: function 17 -/
def drayageref14_Next.f (k : Nat) (l0 : List (S38)) (a1_0 : Int) (a1_1 : Int) (a1_2 : Int) (a1_3 : Bool) (a1_4 : Int) (a1_5 : Bool) (a1_6 : Int) : Option (Int × Bool × Int × Bool) := (drayageref14_Check.f k l0 a1_0 a1_1 a1_2 a1_3 a1_4 a1_5 a1_6).bind fun t379 => (if t379 = 0 then (if a1_0 = 3 then (some (0, false, 0, false)) else (if a1_3 = true then (some (0, false, 0, false)) else (some (a1_1, (a1_0 == 2), wrap64 (a1_2 + 1), true)))) else (some (0, false, 0, false)))

attribute [local go_sem] cell_alloc_lt2 cell_set_ne2

end Go.Proofs.Yteefdhgfcnjpoaa.PA
