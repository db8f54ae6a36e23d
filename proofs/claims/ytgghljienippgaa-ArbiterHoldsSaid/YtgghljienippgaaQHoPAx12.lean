-- printed by a program of this work (wip/tools/pr.py over the kit's print): the machine's side of ArbiterGap, ArbiterHolds
import Derived.Test.YtgghljienippgaaQHoPAx8
import Derived.Test.YtgghljienippgaaQHoPAx0
import Derived.Test.YtgghljienippgaaQHoPAx1
import Derived.Test.YtgghljienippgaaQHoPAx4
import Derived.Test.YtgghljienippgaaQHoPAx5
import Derived.Test.YtgghljienippgaaQHoPAx6
namespace Go.Proofs.Ytgghljienippgaa.PA
open Go.RowKit Go.Proofs.YtgghljienippgaaW.PrintWords Go.Proofs.YtgghljienippgaaW.PrintLast Go.Proofs.YtgghljienippgaaW.PrintMore
attribute [local go_sem] max2_int min2_int max_two min_two max_three min_three max_four min_four   -- for this text's walks alone
set_option linter.unusedVariables false
set_option linter.unusedSimpArgs false

/-! ### drayagelaw17_ArbiterHolds: function 4 -/
mutual
def drayagelaw17_ArbiterHolds.j0 : Nat → List Int → Int → Bool → Int → Int → Int → Int → Int → Int → Int → Int → Option (Bool)
  | 0, _, _, _, _, _, _, _, _, _, _, _ => none
  | k + 1, x1, x5, x26, x558000, x558001, x558002, x558003, x558004, x558005, x558006, x558007 => if x26 = true then (none) else ((drayagelaw17_want.f 0 0).bind fun bt559 => ((arbiter_Arbiter_Serve.f k x558000 x558001 x558002 x558003 x558004 x558005 x558006 x558007 1 bt559.1 bt559.2.1 bt559.2.2.1 bt559.2.2.2.1 bt559.2.2.2.2.1 bt559.2.2.2.2.2.1 bt559.2.2.2.2.2.2.1 bt559.2.2.2.2.2.2.2.1 bt559.2.2.2.2.2.2.2.2.1 bt559.2.2.2.2.2.2.2.2.2.1 bt559.2.2.2.2.2.2.2.2.2.2).bind fun bt574 => (drayagelaw17_ArbiterHolds.l0 k x1 x5 0 bt574.2.2.2.2.2.2.2.2.2.2.2.1 bt574.2.2.2.2.2.2.2.2.2.2.2.2.1 bt574.2.2.2.2.2.2.2.2.2.2.2.2.2.1 bt574.2.2.2.2.2.2.2.2.2.2.2.2.2.2.1 bt574.2.2.2.2.2.2.2.2.2.2.2.2.2.2.2.1 bt574.2.2.2.2.2.2.2.2.2.2.2.2.2.2.2.2.1 bt574.2.2.2.2.2.2.2.2.2.2.2.2.2.2.2.2.2.1 bt574.2.2.2.2.2.2.2.2.2.2.2.2.2.2.2.2.2.2 bt574.1 bt574.2.1 bt574.2.2.1 bt574.2.2.2.1 bt574.2.2.2.2.1 bt574.2.2.2.2.2.1 bt574.2.2.2.2.2.2.1 bt574.2.2.2.2.2.2.2.1 bt574.2.2.2.2.2.2.2.2.1 bt574.2.2.2.2.2.2.2.2.2.1 bt574.2.2.2.2.2.2.2.2.2.2.1)))
def drayagelaw17_ArbiterHolds.l0 : Nat → List Int → Int → Int → Int → Int → Int → Int → Int → Int → Int → Int → Int → Int → Int → Int → Int → Int → Int → Bool → Int → List Int → List Int → Option (Bool)
  | 0, _, _, _, _, _, _, _, _, _, _, _, _, _, _, _, _, _, _, _, _, _, _ => none
  | k + 1, x1, x5, x9, x558000, x558001, x558002, x558003, x558004, x558005, x558006, x558007, x598000, x598001, x598002, x598003, x598004, x598005, x598006, x598007, x598008, x598009, x598010 => if x9 < (x1.length : Int) then (drayagelaw17_ArbiterHolds.j2 k x1 x5 x9 (decide (x9 < 60)) x558000 x558001 x558002 x558003 x558004 x558005 x558006 x558007 x598000 x598001 x598002 x598003 x598004 x598005 x598006 x598007 x598008 x598009 x598010) else (drayagelaw17_ArbiterHolds.j2 k x1 x5 x9 false x558000 x558001 x558002 x558003 x558004 x558005 x558006 x558007 x598000 x598001 x598002 x598003 x598004 x598005 x598006 x598007 x598008 x598009 x598010)
def drayagelaw17_ArbiterHolds.j2 : Nat → List Int → Int → Int → Bool → Int → Int → Int → Int → Int → Int → Int → Int → Int → Int → Int → Int → Int → Int → Int → Bool → Int → List Int → List Int → Option (Bool)
  | 0, _, _, _, _, _, _, _, _, _, _, _, _, _, _, _, _, _, _, _, _, _, _, _ => none
  | k + 1, x1, x5, x9, x37, x558000, x558001, x558002, x558003, x558004, x558005, x558006, x558007, x598000, x598001, x598002, x598003, x598004, x598005, x598006, x598007, x598008, x598009, x598010 => if x37 = true then (if 0 ≤ x9 then (if x9 < (x1.length : Int) then (if (IntKind.u64.wrap (x5 + 1)) = 0 then (none) else ((arbiter_Arbiter_Tick.f x558000 x558001 x558002 x558003 x558004 x558005 x558006 x558007 (wrap64 (Int.tmod (IntKind.u64.wrap (rd x1 x9)) (IntKind.u64.wrap (x5 + 1))))).bind fun bt600 => ((drayagelaw17_want.f 0 0).bind fun bt608 => ((arbiter_Arbiter_Serve.f k bt600.1 bt600.2.1 bt600.2.2.1 bt600.2.2.2.1 bt600.2.2.2.2.1 bt600.2.2.2.2.2.1 bt600.2.2.2.2.2.2.1 bt600.2.2.2.2.2.2.2 2 bt608.1 bt608.2.1 bt608.2.2.1 bt608.2.2.2.1 bt608.2.2.2.2.1 bt608.2.2.2.2.2.1 bt608.2.2.2.2.2.2.1 bt608.2.2.2.2.2.2.2.1 bt608.2.2.2.2.2.2.2.2.1 bt608.2.2.2.2.2.2.2.2.2.1 bt608.2.2.2.2.2.2.2.2.2.2).bind fun bt623 => ((drayagelaw17_want.f 1 0).bind fun bt647 => ((arbiter_Arbiter_Serve.f k bt623.2.2.2.2.2.2.2.2.2.2.2.1 bt623.2.2.2.2.2.2.2.2.2.2.2.2.1 bt623.2.2.2.2.2.2.2.2.2.2.2.2.2.1 bt623.2.2.2.2.2.2.2.2.2.2.2.2.2.2.1 bt623.2.2.2.2.2.2.2.2.2.2.2.2.2.2.2.1 bt623.2.2.2.2.2.2.2.2.2.2.2.2.2.2.2.2.1 bt623.2.2.2.2.2.2.2.2.2.2.2.2.2.2.2.2.2.1 bt623.2.2.2.2.2.2.2.2.2.2.2.2.2.2.2.2.2.2 2 bt647.1 bt647.2.1 bt647.2.2.1 bt647.2.2.2.1 bt647.2.2.2.2.1 bt647.2.2.2.2.2.1 bt647.2.2.2.2.2.2.1 bt647.2.2.2.2.2.2.2.1 bt647.2.2.2.2.2.2.2.2.1 bt647.2.2.2.2.2.2.2.2.2.1 bt647.2.2.2.2.2.2.2.2.2.2).bind fun bt662 => ((drayagelaw17_want.f 1 0).bind fun bt686 => ((arbiter_Arbiter_Serve.f k bt662.2.2.2.2.2.2.2.2.2.2.2.1 bt662.2.2.2.2.2.2.2.2.2.2.2.2.1 bt662.2.2.2.2.2.2.2.2.2.2.2.2.2.1 bt662.2.2.2.2.2.2.2.2.2.2.2.2.2.2.1 bt662.2.2.2.2.2.2.2.2.2.2.2.2.2.2.2.1 bt662.2.2.2.2.2.2.2.2.2.2.2.2.2.2.2.2.1 bt662.2.2.2.2.2.2.2.2.2.2.2.2.2.2.2.2.2.1 bt662.2.2.2.2.2.2.2.2.2.2.2.2.2.2.2.2.2.2 1 bt686.1 bt686.2.1 bt686.2.2.1 bt686.2.2.2.1 bt686.2.2.2.2.1 bt686.2.2.2.2.2.1 bt686.2.2.2.2.2.2.1 bt686.2.2.2.2.2.2.2.1 bt686.2.2.2.2.2.2.2.2.1 bt686.2.2.2.2.2.2.2.2.2.1 bt686.2.2.2.2.2.2.2.2.2.2).bind fun bt701 => (if bt623.1 = 6 then (if bt623.2.2.2.2.2.2.2.2.1 = 2 then (if bt662.1 = 6 then (if bt662.2.2.2.2.2.2.2.2.1 = 3 then (if bt701.1 = 5 then (if bt701.2.1 = 1 then (if bt701.2.2.2.2.1 = x5 then (drayagelaw17_ArbiterHolds.l0 k x1 x5 (wrap64 (x9 + 1)) bt701.2.2.2.2.2.2.2.2.2.2.2.1 bt701.2.2.2.2.2.2.2.2.2.2.2.2.1 bt701.2.2.2.2.2.2.2.2.2.2.2.2.2.1 bt701.2.2.2.2.2.2.2.2.2.2.2.2.2.2.1 bt701.2.2.2.2.2.2.2.2.2.2.2.2.2.2.2.1 bt701.2.2.2.2.2.2.2.2.2.2.2.2.2.2.2.2.1 bt701.2.2.2.2.2.2.2.2.2.2.2.2.2.2.2.2.2.1 bt701.2.2.2.2.2.2.2.2.2.2.2.2.2.2.2.2.2.2 x598000 x598001 x598002 x598003 x598004 x598005 x598006 x598007 x598008 x598009 x598010) else (none)) else (none)) else (none)) else (none)) else (none)) else (none)) else (none)))))))))) else (none)) else (none)) else (if x598000 = 5 then (if x598001 = 1 then ((drayagelaw17_known.f k).bind fun t598 => (some t598)) else (none)) else (none))
end
def drayagelaw17_ArbiterHolds.f (k : Nat) (a0 : Int) (l1 : List Int) : Option (Bool) := (arbiter_New.f (IntKind.u64.wrap (1 + (Int.tmod a0 40))) 3).bind fun bt549 => (if bt549.2.2.2.2.2.2.2.2 = 0 then (drayagelaw17_ArbiterHolds.j0 k l1 (IntKind.u64.wrap (1 + (Int.tmod a0 40))) false bt549.1 bt549.2.1 bt549.2.2.1 bt549.2.2.2.1 bt549.2.2.2.2.1 bt549.2.2.2.2.2.1 bt549.2.2.2.2.2.2.1 bt549.2.2.2.2.2.2.2.1) else (drayagelaw17_ArbiterHolds.j0 k l1 (IntKind.u64.wrap (1 + (Int.tmod a0 40))) true bt549.1 bt549.2.1 bt549.2.2.1 bt549.2.2.2.1 bt549.2.2.2.2.1 bt549.2.2.2.2.2.1 bt549.2.2.2.2.2.2.1 bt549.2.2.2.2.2.2.2.1))
theorem drayagelaw17_ArbiterHolds.mono_l : ∀ k, (∀ y0 y1 y2 y3 y4 y5 y6 y7 y8 y9 y10, LeO (drayagelaw17_ArbiterHolds.j0 k y0 y1 y2 y3 y4 y5 y6 y7 y8 y9 y10) (drayagelaw17_ArbiterHolds.j0 (k + 1) y0 y1 y2 y3 y4 y5 y6 y7 y8 y9 y10)) ∧ (∀ y0 y1 y2 y3 y4 y5 y6 y7 y8 y9 y10 y11 y12 y13 y14 y15 y16 y17 y18 y19 y20 y21, LeO (drayagelaw17_ArbiterHolds.l0 k y0 y1 y2 y3 y4 y5 y6 y7 y8 y9 y10 y11 y12 y13 y14 y15 y16 y17 y18 y19 y20 y21) (drayagelaw17_ArbiterHolds.l0 (k + 1) y0 y1 y2 y3 y4 y5 y6 y7 y8 y9 y10 y11 y12 y13 y14 y15 y16 y17 y18 y19 y20 y21)) ∧ (∀ y0 y1 y2 y3 y4 y5 y6 y7 y8 y9 y10 y11 y12 y13 y14 y15 y16 y17 y18 y19 y20 y21 y22, LeO (drayagelaw17_ArbiterHolds.j2 k y0 y1 y2 y3 y4 y5 y6 y7 y8 y9 y10 y11 y12 y13 y14 y15 y16 y17 y18 y19 y20 y21 y22) (drayagelaw17_ArbiterHolds.j2 (k + 1) y0 y1 y2 y3 y4 y5 y6 y7 y8 y9 y10 y11 y12 y13 y14 y15 y16 y17 y18 y19 y20 y21 y22))
  | 0 => ⟨fun _ _ _ _ _ _ _ _ _ _ _ r h => by simp [drayagelaw17_ArbiterHolds.j0] at h, fun _ _ _ _ _ _ _ _ _ _ _ _ _ _ _ _ _ _ _ _ _ _ r h => by simp [drayagelaw17_ArbiterHolds.l0] at h, fun _ _ _ _ _ _ _ _ _ _ _ _ _ _ _ _ _ _ _ _ _ _ _ r h => by simp [drayagelaw17_ArbiterHolds.j2] at h⟩
  | k + 1 => by
    obtain ⟨ih0, ih1, ih2⟩ := drayagelaw17_ArbiterHolds.mono_l k
    refine ⟨?_, ?_, ?_⟩
    · intro y0 y1 y2 y3 y4 y5 y6 y7 y8 y9 y10
      unfold drayagelaw17_ArbiterHolds.j0
      repeat' first
      | (with_reducible exact ih0 _ _ _ _ _ _ _ _ _ _ _)
      | (with_reducible exact ih1 _ _ _ _ _ _ _ _ _ _ _ _ _ _ _ _ _ _ _ _ _ _)
      | (with_reducible exact ih2 _ _ _ _ _ _ _ _ _ _ _ _ _ _ _ _ _ _ _ _ _ _ _)
      | (with_reducible exact arbiter_Arbiter_Serve.mono _ _ _ _ _ _ _ _ _ _ _ _ _ _ _ _ _ _ _ _ _)
      | (with_reducible exact drayagelaw17_known.mono _)
      | (with_reducible exact LeO.refl _)
      | (with_reducible exact LeO.none _)
      | (with_reducible refine LeO.ite ?_ ?_)
      | (with_reducible refine LeO.bind ?_ (fun _ => ?_))
      | exact ih0 _ _ _ _ _ _ _ _ _ _ _
      | exact ih1 _ _ _ _ _ _ _ _ _ _ _ _ _ _ _ _ _ _ _ _ _ _
      | exact ih2 _ _ _ _ _ _ _ _ _ _ _ _ _ _ _ _ _ _ _ _ _ _ _
      | exact arbiter_Arbiter_Serve.mono _ _ _ _ _ _ _ _ _ _ _ _ _ _ _ _ _ _ _ _ _
      | exact drayagelaw17_known.mono _
      | exact LeO.none _
      | refine LeO.ite ?_ ?_
      | refine LeO.bind ?_ (fun _ => ?_)
    · intro y0 y1 y2 y3 y4 y5 y6 y7 y8 y9 y10 y11 y12 y13 y14 y15 y16 y17 y18 y19 y20 y21
      unfold drayagelaw17_ArbiterHolds.l0
      repeat' first
      | (with_reducible exact ih0 _ _ _ _ _ _ _ _ _ _ _)
      | (with_reducible exact ih1 _ _ _ _ _ _ _ _ _ _ _ _ _ _ _ _ _ _ _ _ _ _)
      | (with_reducible exact ih2 _ _ _ _ _ _ _ _ _ _ _ _ _ _ _ _ _ _ _ _ _ _ _)
      | (with_reducible exact arbiter_Arbiter_Serve.mono _ _ _ _ _ _ _ _ _ _ _ _ _ _ _ _ _ _ _ _ _)
      | (with_reducible exact drayagelaw17_known.mono _)
      | (with_reducible exact LeO.refl _)
      | (with_reducible exact LeO.none _)
      | (with_reducible refine LeO.ite ?_ ?_)
      | (with_reducible refine LeO.bind ?_ (fun _ => ?_))
      | exact ih0 _ _ _ _ _ _ _ _ _ _ _
      | exact ih1 _ _ _ _ _ _ _ _ _ _ _ _ _ _ _ _ _ _ _ _ _ _
      | exact ih2 _ _ _ _ _ _ _ _ _ _ _ _ _ _ _ _ _ _ _ _ _ _ _
      | exact arbiter_Arbiter_Serve.mono _ _ _ _ _ _ _ _ _ _ _ _ _ _ _ _ _ _ _ _ _
      | exact drayagelaw17_known.mono _
      | exact LeO.none _
      | refine LeO.ite ?_ ?_
      | refine LeO.bind ?_ (fun _ => ?_)
    · intro y0 y1 y2 y3 y4 y5 y6 y7 y8 y9 y10 y11 y12 y13 y14 y15 y16 y17 y18 y19 y20 y21 y22
      unfold drayagelaw17_ArbiterHolds.j2
      repeat' first
      | (with_reducible exact ih0 _ _ _ _ _ _ _ _ _ _ _)
      | (with_reducible exact ih1 _ _ _ _ _ _ _ _ _ _ _ _ _ _ _ _ _ _ _ _ _ _)
      | (with_reducible exact ih2 _ _ _ _ _ _ _ _ _ _ _ _ _ _ _ _ _ _ _ _ _ _ _)
      | (with_reducible exact arbiter_Arbiter_Serve.mono _ _ _ _ _ _ _ _ _ _ _ _ _ _ _ _ _ _ _ _ _)
      | (with_reducible exact drayagelaw17_known.mono _)
      | (with_reducible exact LeO.refl _)
      | (with_reducible exact LeO.none _)
      | (with_reducible refine LeO.ite ?_ ?_)
      | (with_reducible refine LeO.bind ?_ (fun _ => ?_))
      | exact ih0 _ _ _ _ _ _ _ _ _ _ _
      | exact ih1 _ _ _ _ _ _ _ _ _ _ _ _ _ _ _ _ _ _ _ _ _ _
      | exact ih2 _ _ _ _ _ _ _ _ _ _ _ _ _ _ _ _ _ _ _ _ _ _ _
      | exact arbiter_Arbiter_Serve.mono _ _ _ _ _ _ _ _ _ _ _ _ _ _ _ _ _ _ _ _ _
      | exact drayagelaw17_known.mono _
      | exact LeO.none _
      | refine LeO.ite ?_ ?_
      | refine LeO.bind ?_ (fun _ => ?_)
theorem drayagelaw17_ArbiterHolds.mono : ∀ a0 a1 k, LeO (drayagelaw17_ArbiterHolds.f k a0 a1) (drayagelaw17_ArbiterHolds.f (k + 1) a0 a1) := by
  intro a0 a1 k
  obtain ⟨ih0, ih1, ih2⟩ := drayagelaw17_ArbiterHolds.mono_l k
  unfold drayagelaw17_ArbiterHolds.f
  repeat' first
      | (with_reducible exact ih0 _ _ _ _ _ _ _ _ _ _ _)
      | (with_reducible exact ih1 _ _ _ _ _ _ _ _ _ _ _ _ _ _ _ _ _ _ _ _ _ _)
      | (with_reducible exact ih2 _ _ _ _ _ _ _ _ _ _ _ _ _ _ _ _ _ _ _ _ _ _ _)
      | (with_reducible exact arbiter_Arbiter_Serve.mono _ _ _ _ _ _ _ _ _ _ _ _ _ _ _ _ _ _ _ _ _)
      | (with_reducible exact drayagelaw17_known.mono _)
      | (with_reducible exact LeO.refl _)
      | (with_reducible exact LeO.none _)
      | (with_reducible refine LeO.ite ?_ ?_)
      | (with_reducible refine LeO.bind ?_ (fun _ => ?_))
      | exact ih0 _ _ _ _ _ _ _ _ _ _ _
      | exact ih1 _ _ _ _ _ _ _ _ _ _ _ _ _ _ _ _ _ _ _ _ _ _
      | exact ih2 _ _ _ _ _ _ _ _ _ _ _ _ _ _ _ _ _ _ _ _ _ _ _
      | exact arbiter_Arbiter_Serve.mono _ _ _ _ _ _ _ _ _ _ _ _ _ _ _ _ _ _ _ _ _
      | exact drayagelaw17_known.mono _
      | exact LeO.none _
      | refine LeO.ite ?_ ?_
      | refine LeO.bind ?_ (fun _ => ?_)
end Go.Proofs.Ytgghljienippgaa.PA
