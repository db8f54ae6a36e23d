-- printed by a program of this work (wip/tools/pr.py over the kit's print): the machine's side of SagaOrder, SagaTicks, SagaCancels
import Derived.Test.YteefdhgfcnjpoaaQTiPAx0
import Derived.Test.YteefdhgfcnjpoaaQTiPAx3
import Derived.Test.YteefdhgfcnjpoaaQTiPAx5
import Derived.Test.YteefdhgfcnjpoaaQTiPAx8
import Derived.Test.YteefdhgfcnjpoaaQTiPAx9
import Derived.Test.YteefdhgfcnjpoaaQTiPAx13
import Derived.Test.YteefdhgfcnjpoaaQTiPAx16
import Derived.Test.YteefdhgfcnjpoaaQTiPAx1
import Derived.Test.YteefdhgfcnjpoaaQTiPAx2
namespace Go.Proofs.Yteefdhgfcnjpoaa.PA
open Go.RowKit Go.Proofs.YteefdhgfcnjpoaaW.PrintWords Go.Proofs.YteefdhgfcnjpoaaW.PrintLast Go.Proofs.YteefdhgfcnjpoaaW.PrintMore
attribute [local go_sem] max2_int min2_int max_two min_two max_three min_three max_four min_four   -- for this text's walks alone
set_option linter.unusedVariables false
set_option linter.unusedSimpArgs false

attribute [local go_sem high] eqA28
/-! ### drayagelaw14_SagaTicks: function 8 -/
mutual
def drayagelaw14_SagaTicks.j0 : Nat → List (S38) → List (S54) → Int → Bool → Option (Bool)
  | 0, _, _, _, _ => none
  | k + 1, x0, x1, x2, x29 => if x29 = true then ((drayagelaw14_known.f k).bind fun t412 => (some t412)) else ((saga_Start.f).bind fun bt413 => (drayagelaw14_SagaTicks.l0 k x0 x1 x2 0 bt413.1 bt413.2.1 bt413.2.2.1 bt413.2.2.2.1 bt413.2.2.2.2.1 bt413.2.2.2.2.2.1 bt413.2.2.2.2.2.2))
def drayagelaw14_SagaTicks.l0 : Nat → List (S38) → List (S54) → Int → Int → Int → Int → Int → Bool → Int → Bool → Int → Option (Bool)
  | 0, _, _, _, _, _, _, _, _, _, _, _ => none
  | k + 1, x0, x1, x2, x8, x421000, x421001, x421002, x421003, x421004, x421005, x421006 => if x8 < (x1.length : Int) then (drayagelaw14_SagaTicks.j2 k x0 x1 x2 x8 (decide (x8 < 60)) x421000 x421001 x421002 x421003 x421004 x421005 x421006) else (drayagelaw14_SagaTicks.j2 k x0 x1 x2 x8 false x421000 x421001 x421002 x421003 x421004 x421005 x421006)
def drayagelaw14_SagaTicks.j2 : Nat → List (S38) → List (S54) → Int → Int → Bool → Int → Int → Int → Bool → Int → Bool → Int → Option (Bool)
  | 0, _, _, _, _, _, _, _, _, _, _, _, _ => none
  | k + 1, x0, x1, x2, x8, x39, x421000, x421001, x421002, x421003, x421004, x421005, x421006 => if x39 = true then (if 0 ≤ x8 then (if x8 < (x1.length : Int) then ((drayagelaw14_happens.f k x0 x421000 x421001 x421002 x421003 x421004 x421005 x421006 ((rd_T54 x1 x8).f0) ((rd_T54 x1 x8).f1) ((rd_T54 x1 x8).f2)).bind fun bt422 => (if bt422.2.2.2.2.2.2.2 = true then (drayagelaw14_SagaTicks.l0 k x0 x1 x2 (wrap64 (x8 + 1)) bt422.1 bt422.2.1 bt422.2.2.1 bt422.2.2.2.1 bt422.2.2.2.2.1 bt422.2.2.2.2.2.1 bt422.2.2.2.2.2.2.1) else (none))) else (none)) else (none)) else (if x421000 = 3 then (drayagelaw14_SagaTicks.j3 k x0 x2 true x421000 x421001 x421002 x421003 x421004 x421005 x421006) else (drayagelaw14_SagaTicks.j3 k x0 x2 x421003 x421000 x421001 x421002 x421003 x421004 x421005 x421006))
def drayagelaw14_SagaTicks.j3 : Nat → List (S38) → Int → Bool → Int → Int → Int → Bool → Int → Bool → Int → Option (Bool)
  | 0, _, _, _, _, _, _, _, _, _, _ => none
  | k + 1, x0, x2, x61, x421000, x421001, x421002, x421003, x421004, x421005, x421006 => if x61 = true then ((drayagelaw14_known.f k).bind fun t431 => (some t431)) else ((saga_Ask.f k x0 x421000 x421001 x421002 x421003 x421004 x421005 x421006).bind fun bt432 => (if bt432.2.2.2.2.2.2.2 = 0 then (if 0 ≤ x421001 then (if x421001 < (x0.length : Int) then (if ((rd_T38 x0 x421001).f2) > 300 then ((drayagelaw14_known.f k).bind fun t442 => (some t442)) else ((saga_Tell.f k x0 bt432.1 bt432.2.1 bt432.2.2.1 bt432.2.2.2.1 bt432.2.2.2.2.1 bt432.2.2.2.2.2.1 bt432.2.2.2.2.2.2.1 bt432.2.1 (bt432.1 == 2) 3).bind fun bt443 => ((saga_Tell.f k x0 bt432.1 bt432.2.1 bt432.2.2.1 bt432.2.2.2.1 bt432.2.2.2.2.1 bt432.2.2.2.2.2.1 bt432.2.2.2.2.2.2.1 bt432.2.1 (bt432.1 != 2) 1).bind fun bt452 => ((saga_Tell.f k x0 bt432.1 bt432.2.1 bt432.2.2.1 bt432.2.2.2.1 bt432.2.2.2.2.1 bt432.2.2.2.2.2.1 bt432.2.2.2.2.2.2.1 (wrap64 ((wrap64 (bt432.2.1 + 1)) + (wrap64 (Int.tmod (IntKind.u64.wrap (x2)) 15)))) (bt432.1 == 2) 2).bind fun bt461 => (if bt452.2.2.2.2.2.2.2 = 0 then (if (!(bt452.1 == bt432.1) || (!(bt452.2.1 == bt432.2.1) || (!(bt452.2.2.1 == bt432.2.2.1) || (!(bt452.2.2.2.1 == bt432.2.2.2.1) || (!(bt452.2.2.2.2.1 == bt432.2.2.2.2.1) || (!(bt452.2.2.2.2.2.1 == bt432.2.2.2.2.2.1) || (!(bt452.2.2.2.2.2.2.1 == bt432.2.2.2.2.2.2.1)))))))) = true then (drayagelaw14_SagaTicks.j4 k x0 ((rd_T38 x0 x421001).f2) true bt432.1 bt432.2.1 bt432.2.2.1 bt432.2.2.2.1 bt432.2.2.2.2.1 bt432.2.2.2.2.2.1 bt432.2.2.2.2.2.2.1 bt443.1 bt443.2.1 bt443.2.2.1 bt443.2.2.2.1 bt443.2.2.2.2.1 bt443.2.2.2.2.2.1 bt443.2.2.2.2.2.2.1) else (if bt461.2.2.2.2.2.2.2 = 0 then (drayagelaw14_SagaTicks.j4 k x0 ((rd_T38 x0 x421001).f2) (!(bt461.1 == bt432.1) || (!(bt461.2.1 == bt432.2.1) || (!(bt461.2.2.1 == bt432.2.2.1) || (!(bt461.2.2.2.1 == bt432.2.2.2.1) || (!(bt461.2.2.2.2.1 == bt432.2.2.2.2.1) || (!(bt461.2.2.2.2.2.1 == bt432.2.2.2.2.2.1) || (!(bt461.2.2.2.2.2.2.1 == bt432.2.2.2.2.2.2.1)))))))) bt432.1 bt432.2.1 bt432.2.2.1 bt432.2.2.2.1 bt432.2.2.2.2.1 bt432.2.2.2.2.2.1 bt432.2.2.2.2.2.2.1 bt443.1 bt443.2.1 bt443.2.2.1 bt443.2.2.2.1 bt443.2.2.2.2.1 bt443.2.2.2.2.2.1 bt443.2.2.2.2.2.2.1) else (drayagelaw14_SagaTicks.j4 k x0 ((rd_T38 x0 x421001).f2) true bt432.1 bt432.2.1 bt432.2.2.1 bt432.2.2.2.1 bt432.2.2.2.2.1 bt432.2.2.2.2.2.1 bt432.2.2.2.2.2.2.1 bt443.1 bt443.2.1 bt443.2.2.1 bt443.2.2.2.1 bt443.2.2.2.2.1 bt443.2.2.2.2.2.1 bt443.2.2.2.2.2.2.1))) else (drayagelaw14_SagaTicks.j4 k x0 ((rd_T38 x0 x421001).f2) true bt432.1 bt432.2.1 bt432.2.2.1 bt432.2.2.2.1 bt432.2.2.2.2.1 bt432.2.2.2.2.2.1 bt432.2.2.2.2.2.2.1 bt443.1 bt443.2.1 bt443.2.2.1 bt443.2.2.2.1 bt443.2.2.2.2.1 bt443.2.2.2.2.2.1 bt443.2.2.2.2.2.2.1)))))) else (none)) else (none)) else (none)))
def drayagelaw14_SagaTicks.j4 : Nat → List (S38) → Int → Bool → Int → Int → Int → Bool → Int → Bool → Int → Int → Int → Int → Bool → Int → Bool → Int → Option (Bool)
  | 0, _, _, _, _, _, _, _, _, _, _, _, _, _, _, _, _, _ => none
  | k + 1, x0, x13, x135, x441000, x441001, x441002, x441003, x441004, x441005, x441006, x452000, x452001, x452002, x452003, x452004, x452005, x452006 => if x135 = true then (none) else (drayagelaw14_SagaTicks.l1 k x0 x13 0 x452000 x452001 x452002 x452003 x452004 x452005 x452006 x441000 x441001 x441002 x441003 x441004 x441005 x441006)
def drayagelaw14_SagaTicks.l1 : Nat → List (S38) → Int → Int → Int → Int → Int → Bool → Int → Bool → Int → Int → Int → Int → Bool → Int → Bool → Int → Option (Bool)
  | 0, _, _, _, _, _, _, _, _, _, _, _, _, _, _, _, _, _ => none
  | k + 1, x0, x13, x22, x452000, x452001, x452002, x452003, x452004, x452005, x452006, x471000, x471001, x471002, x471003, x471004, x471005, x471006 => if x22 < x13 then (if x471004 = (wrap64 (x13 - x22)) then (if x471003 = true then ((saga_Tick.f k x0 x471000 x471001 x471002 x471003 x471004 x471005 x471006).bind fun bt471 => (drayagelaw14_SagaTicks.l1 k x0 x13 (wrap64 (x22 + 1)) x452000 x452001 x452002 x452003 x452004 x452005 x452006 bt471.1 bt471.2.1 bt471.2.2.1 bt471.2.2.2.1 bt471.2.2.2.2.1 bt471.2.2.2.2.2.1 bt471.2.2.2.2.2.2.1)) else (none)) else (none)) else (if (x471000 == x452000 && (x471001 == x452001 && (x471002 == x452002 && (x471003 == x452003 && (x471004 == x452004 && (x471005 == x452005 && (x471006 == x452006))))))) = true then ((drayagelaw14_known.f k).bind fun t479 => (some t479)) else (none))
end
def drayagelaw14_SagaTicks.f (k : Nat) (l0 : List (S38)) (l1 : List (S54)) (a2 : Int) : Option (Bool) := (drayagelaw14_long.f k l0).bind fun t410 => (if t410 = true then (drayagelaw14_SagaTicks.j0 k l0 l1 a2 true) else ((drayageref13_Check.f k l0).bind fun t411 => (drayagelaw14_SagaTicks.j0 k l0 l1 a2 (t411 != 0))))

def drayagelaw14_SagaTicks.T7 : Bool × List (List Nat × List Nat) := (true, [([], []), ([], []), ([], []), ([], []), ([2, 3], [2, 3]), ([4], [4]), ([0, 1, 5], [0, 1, 5]), ([6], [6]), ([7], [7]), ([7], [7]), ([], []), ([10, 8, 6, 0, 1, 2, 3, 4, 5, 6, 7, 8, 10], [8, 10]), ([9, 11, 0, 1, 2, 3, 4, 5, 6, 7, 8, 9, 10, 11], [9])])
def drayagelaw14_SagaTicks.B7 : List Nat := [0, 0, 0, 0, 12, 28, 63, 127, 255, 255, 0, 1535, 4095]
theorem drayagelaw14_SagaTicks.tab7 : rtab .any (opsOf Try.f8 7) = drayagelaw14_SagaTicks.T7 := by kernel_rfl
theorem drayagelaw14_SagaTicks.bits7 : waitsOk drayagelaw14_SagaTicks.T7.2 drayagelaw14_SagaTicks.B7 = true := by kernel_rfl
end Go.Proofs.Yteefdhgfcnjpoaa.PA
