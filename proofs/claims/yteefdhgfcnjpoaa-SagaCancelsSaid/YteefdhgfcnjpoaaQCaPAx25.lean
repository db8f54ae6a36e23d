-- printed by a program of this work (wip/tools/pr.py over the kit's print): the machine's side of SagaOrder, SagaTicks, SagaCancels
import Derived.Test.YteefdhgfcnjpoaaQCaPAx0
import Derived.Test.YteefdhgfcnjpoaaQCaPAx3
import Derived.Test.YteefdhgfcnjpoaaQCaPAx5
import Derived.Test.YteefdhgfcnjpoaaQCaPAx9
import Derived.Test.YteefdhgfcnjpoaaQCaPAx14
import Derived.Test.YteefdhgfcnjpoaaQCaPAx16
import Derived.Test.YteefdhgfcnjpoaaQCaPAx1
import Derived.Test.YteefdhgfcnjpoaaQCaPAx2
namespace Go.Proofs.Yteefdhgfcnjpoaa.PA
open Go.RowKit Go.Proofs.YteefdhgfcnjpoaaW.PrintWords Go.Proofs.YteefdhgfcnjpoaaW.PrintLast Go.Proofs.YteefdhgfcnjpoaaW.PrintMore
attribute [local go_sem] max2_int min2_int max_two min_two max_three min_three max_four min_four   -- for this text's walks alone
set_option linter.unusedVariables false
set_option linter.unusedSimpArgs false

attribute [local go_sem high] eqA28
/-! ### drayagelaw14_SagaCancels: function 9 -/
mutual
def drayagelaw14_SagaCancels.j0 : Nat → List (S38) → List (S54) → List (S54) → Bool → Option (Bool)
  | 0, _, _, _, _ => none
  | k + 1, x0, x1, x2, x26 => if x26 = true then ((drayagelaw14_known.f k).bind fun t482 => (some t482)) else ((saga_Start.f).bind fun bt483 => ((saga_Cancel.f k x0 bt483.1 bt483.2.1 bt483.2.2.1 bt483.2.2.2.1 bt483.2.2.2.2.1 bt483.2.2.2.2.2.1 bt483.2.2.2.2.2.2).bind fun bt490 => (if bt490.2.2.2.2.2.2.2 = 0 then (drayagelaw14_SagaCancels.j1 k x0 x1 x2 (!(bt490.1 == 3) || (!(bt490.2.1 == 0) || (!(bt490.2.2.1 == 0) || (bt490.2.2.2.1 || (!(bt490.2.2.2.2.1 == 0) || (bt490.2.2.2.2.2.1 || (!(bt490.2.2.2.2.2.2.1 == 2))))))))) else (drayagelaw14_SagaCancels.j1 k x0 x1 x2 true))))
def drayagelaw14_SagaCancels.j1 : Nat → List (S38) → List (S54) → List (S54) → Bool → Option (Bool)
  | 0, _, _, _, _ => none
  | k + 1, x0, x1, x2, x40 => if x40 = true then (none) else ((saga_Start.f).bind fun bt499 => (drayagelaw14_SagaCancels.l0 k x0 x1 x2 0 bt499.1 bt499.2.1 bt499.2.2.1 bt499.2.2.2.1 bt499.2.2.2.2.1 bt499.2.2.2.2.2.1 bt499.2.2.2.2.2.2))
def drayagelaw14_SagaCancels.l0 : Nat → List (S38) → List (S54) → List (S54) → Int → Int → Int → Int → Bool → Int → Bool → Int → Option (Bool)
  | 0, _, _, _, _, _, _, _, _, _, _, _ => none
  | k + 1, x0, x1, x2, x10, x507000, x507001, x507002, x507003, x507004, x507005, x507006 => if x10 < (x1.length : Int) then (drayagelaw14_SagaCancels.j3 k x0 x1 x2 x10 (decide (x10 < 60)) x507000 x507001 x507002 x507003 x507004 x507005 x507006) else (drayagelaw14_SagaCancels.j3 k x0 x1 x2 x10 false x507000 x507001 x507002 x507003 x507004 x507005 x507006)
def drayagelaw14_SagaCancels.j3 : Nat → List (S38) → List (S54) → List (S54) → Int → Bool → Int → Int → Int → Bool → Int → Bool → Int → Option (Bool)
  | 0, _, _, _, _, _, _, _, _, _, _, _, _ => none
  | k + 1, x0, x1, x2, x10, x49, x507000, x507001, x507002, x507003, x507004, x507005, x507006 => if x49 = true then (if 0 ≤ x10 then (if x10 < (x1.length : Int) then ((drayagelaw14_happens.f k x0 x507000 x507001 x507002 x507003 x507004 x507005 x507006 ((rd_T54 x1 x10).f0) ((rd_T54 x1 x10).f1) ((rd_T54 x1 x10).f2)).bind fun bt508 => (if bt508.2.2.2.2.2.2.2 = true then (drayagelaw14_SagaCancels.l0 k x0 x1 x2 (wrap64 (x10 + 1)) bt508.1 bt508.2.1 bt508.2.2.1 bt508.2.2.2.1 bt508.2.2.2.2.1 bt508.2.2.2.2.2.1 bt508.2.2.2.2.2.2.1) else (none))) else (none)) else (none)) else (if x507000 = 3 then ((drayagelaw14_known.f k).bind fun t517 => (some t517)) else ((saga_Cancel.f k x0 x507000 x507001 x507002 x507003 x507004 x507005 x507006).bind fun bt518 => ((saga_Cancel.f k x0 bt518.1 bt518.2.1 bt518.2.2.1 bt518.2.2.2.1 bt518.2.2.2.2.1 bt518.2.2.2.2.2.1 bt518.2.2.2.2.2.2.1).bind fun bt527 => (if bt518.2.2.2.2.2.2.2 = 0 then (if bt527.2.2.2.2.2.2.2 = 0 then (drayagelaw14_SagaCancels.j4 k x0 x2 (!(bt518.1 == bt527.1) || (!(bt518.2.1 == bt527.2.1) || (!(bt518.2.2.1 == bt527.2.2.1) || (!(bt518.2.2.2.1 == bt527.2.2.2.1) || (!(bt518.2.2.2.2.1 == bt527.2.2.2.2.1) || (!(bt518.2.2.2.2.2.1 == bt527.2.2.2.2.2.1) || (!(bt518.2.2.2.2.2.2.1 == bt527.2.2.2.2.2.2.1)))))))) x507000 x507001 x507002 x507003 x507004 x507005 x507006 bt518.1 bt518.2.1 bt518.2.2.1 bt518.2.2.2.1 bt518.2.2.2.2.1 bt518.2.2.2.2.2.1 bt518.2.2.2.2.2.2.1) else (drayagelaw14_SagaCancels.j4 k x0 x2 true x507000 x507001 x507002 x507003 x507004 x507005 x507006 bt518.1 bt518.2.1 bt518.2.2.1 bt518.2.2.2.1 bt518.2.2.2.2.1 bt518.2.2.2.2.2.1 bt518.2.2.2.2.2.2.1)) else (drayagelaw14_SagaCancels.j4 k x0 x2 true x507000 x507001 x507002 x507003 x507004 x507005 x507006 bt518.1 bt518.2.1 bt518.2.2.1 bt518.2.2.2.1 bt518.2.2.2.2.1 bt518.2.2.2.2.2.1 bt518.2.2.2.2.2.2.1)))))
def drayagelaw14_SagaCancels.j4 : Nat → List (S38) → List (S54) → Bool → Int → Int → Int → Bool → Int → Bool → Int → Int → Int → Int → Bool → Int → Bool → Int → Option (Bool)
  | 0, _, _, _, _, _, _, _, _, _, _, _, _, _, _, _, _, _ => none
  | k + 1, x0, x2, x91, x507000, x507001, x507002, x507003, x507004, x507005, x507006, x527000, x527001, x527002, x527003, x527004, x527005, x527006 => if x91 = true then (none) else (drayagelaw14_SagaCancels.l1 k x0 x2 0 x507000 x507001 x507002 x507003 x507004 x507005 x507006 x527000 x527001 x527002 x527003 x527004 x527005 x527006)
def drayagelaw14_SagaCancels.l1 : Nat → List (S38) → List (S54) → Int → Int → Int → Int → Bool → Int → Bool → Int → Int → Int → Int → Bool → Int → Bool → Int → Option (Bool)
  | 0, _, _, _, _, _, _, _, _, _, _, _, _, _, _, _, _, _ => none
  | k + 1, x0, x2, x17, x507000, x507001, x507002, x507003, x507004, x507005, x507006, x527000, x527001, x527002, x527003, x527004, x527005, x527006 => if x17 < (x2.length : Int) then (drayagelaw14_SagaCancels.j6 k x0 x2 x17 (decide (x17 < 100)) x507000 x507001 x507002 x507003 x507004 x507005 x507006 x527000 x527001 x527002 x527003 x527004 x527005 x527006) else (drayagelaw14_SagaCancels.j6 k x0 x2 x17 false x507000 x507001 x507002 x507003 x507004 x507005 x507006 x527000 x527001 x527002 x527003 x527004 x527005 x527006)
def drayagelaw14_SagaCancels.j6 : Nat → List (S38) → List (S54) → Int → Bool → Int → Int → Int → Bool → Int → Bool → Int → Int → Int → Int → Bool → Int → Bool → Int → Option (Bool)
  | 0, _, _, _, _, _, _, _, _, _, _, _, _, _, _, _, _, _, _ => none
  | k + 1, x0, x2, x17, x99, x507000, x507001, x507002, x507003, x507004, x507005, x507006, x527000, x527001, x527002, x527003, x527004, x527005, x527006 => if x99 = true then (if 0 ≤ x17 then (if x17 < (x2.length : Int) then ((drayagelaw14_happens.f k x0 x527000 x527001 x527002 x527003 x527004 x527005 x527006 ((rd_T54 x2 x17).f0) ((rd_T54 x2 x17).f1) ((rd_T54 x2 x17).f2)).bind fun bt537 => (if bt537.2.2.2.2.2.2.2 = true then (if bt537.1 = 3 then (if bt537.2.2.2.2.2.2.1 = 1 then (none) else (if bt537.1 = 1 then (if bt537.2.2.2.2.2.1 = true then (if bt537.2.1 = x507001 then (drayagelaw14_SagaCancels.l1 k x0 x2 (wrap64 (x17 + 1)) x507000 x507001 x507002 x507003 x507004 x507005 x507006 bt537.1 bt537.2.1 bt537.2.2.1 bt537.2.2.2.1 bt537.2.2.2.2.1 bt537.2.2.2.2.2.1 bt537.2.2.2.2.2.2.1) else (none)) else (none)) else (drayagelaw14_SagaCancels.l1 k x0 x2 (wrap64 (x17 + 1)) x507000 x507001 x507002 x507003 x507004 x507005 x507006 bt537.1 bt537.2.1 bt537.2.2.1 bt537.2.2.2.1 bt537.2.2.2.2.1 bt537.2.2.2.2.2.1 bt537.2.2.2.2.2.2.1))) else (if bt537.1 = 1 then (if bt537.2.2.2.2.2.1 = true then (if bt537.2.1 = x507001 then (drayagelaw14_SagaCancels.l1 k x0 x2 (wrap64 (x17 + 1)) x507000 x507001 x507002 x507003 x507004 x507005 x507006 bt537.1 bt537.2.1 bt537.2.2.1 bt537.2.2.2.1 bt537.2.2.2.2.1 bt537.2.2.2.2.2.1 bt537.2.2.2.2.2.2.1) else (none)) else (none)) else (drayagelaw14_SagaCancels.l1 k x0 x2 (wrap64 (x17 + 1)) x507000 x507001 x507002 x507003 x507004 x507005 x507006 bt537.1 bt537.2.1 bt537.2.2.1 bt537.2.2.2.1 bt537.2.2.2.2.1 bt537.2.2.2.2.2.1 bt537.2.2.2.2.2.2.1))) else (none))) else (none)) else (none)) else ((drayagelaw14_known.f k).bind fun t546 => (some t546))
end
def drayagelaw14_SagaCancels.f (k : Nat) (l0 : List (S38)) (l1 : List (S54)) (l2 : List (S54)) : Option (Bool) := (drayagelaw14_long.f k l0).bind fun t480 => (if t480 = true then (drayagelaw14_SagaCancels.j0 k l0 l1 l2 true) else ((drayageref13_Check.f k l0).bind fun t481 => (drayagelaw14_SagaCancels.j0 k l0 l1 l2 (t481 != 0))))

def drayagelaw14_SagaCancels.T10 : Bool × List (List Nat × List Nat) := (true, [([], []), ([], []), ([], []), ([], []), ([2, 3], [2, 3]), ([4], [4]), ([0, 1, 5], [0, 1, 5]), ([6], [6]), ([7], [7]), ([7], [7]), ([], []), ([10, 8, 6, 0, 1, 2, 3, 4, 5, 6, 7, 8, 10], [8, 10]), ([9, 11, 0, 1, 2, 3, 4, 5, 6, 7, 8, 9, 10, 11], [9])])
def drayagelaw14_SagaCancels.B10 : List Nat := [0, 0, 0, 0, 12, 28, 63, 127, 255, 255, 0, 1535, 4095]
theorem drayagelaw14_SagaCancels.tab10 : rtab .any (opsOf Try.f9 10) = drayagelaw14_SagaCancels.T10 := by kernel_rfl
theorem drayagelaw14_SagaCancels.bits10 : waitsOk drayagelaw14_SagaCancels.T10.2 drayagelaw14_SagaCancels.B10 = true := by kernel_rfl
def drayagelaw14_SagaCancels.T23 : Bool × List (List Nat × List Nat) := (true, [([], []), ([], []), ([], []), ([], []), ([2, 3], [2, 3]), ([4], [4]), ([0, 1, 5], [0, 1, 5]), ([6], [6]), ([7], [7]), ([7], [7]), ([], []), ([10, 8, 6, 0, 1, 2, 3, 4, 5, 6, 7, 8, 10], [8, 10]), ([9, 11, 0, 1, 2, 3, 4, 5, 6, 7, 8, 9, 10, 11], [9])])
def drayagelaw14_SagaCancels.B23 : List Nat := [0, 0, 0, 0, 12, 28, 63, 127, 255, 255, 0, 1535, 4095]
theorem drayagelaw14_SagaCancels.tab23 : rtab .any (opsOf Try.f9 23) = drayagelaw14_SagaCancels.T23 := by kernel_rfl
theorem drayagelaw14_SagaCancels.bits23 : waitsOk drayagelaw14_SagaCancels.T23.2 drayagelaw14_SagaCancels.B23 = true := by kernel_rfl
end Go.Proofs.Yteefdhgfcnjpoaa.PA
