-- printed by a program of this work (wip/tools/pr.py over the kit's print): the machine's side of ArbiterGap, ArbiterHolds
import Derived.Test.YtgghljienippgaaQGaPAx6
import Derived.Test.YtgghljienippgaaQGaPAx0
import Derived.Test.YtgghljienippgaaQGaPAx1
import Derived.Test.YtgghljienippgaaQGaPAx4
import Derived.Test.YtgghljienippgaaQGaPAx5
namespace Go.Proofs.Ytgghljienippgaa.PA
open Go.RowKit Go.Proofs.YtgghljienippgaaW.PrintWords Go.Proofs.YtgghljienippgaaW.PrintLast Go.Proofs.YtgghljienippgaaW.PrintMore
attribute [local go_sem] max2_int min2_int max_two min_two max_three min_three max_four min_four   -- for this text's walks alone
set_option linter.unusedVariables false
set_option linter.unusedSimpArgs false

/-! ### drayagelaw17_known: function 14 -/
def drayagelaw17_known.j0 : Nat → Bool → Int → Int → Int → Int → Int → Int → Int → Int → Option (Bool)
  | 0, _, _, _, _, _, _, _, _, _ => none
  | k + 1, x17, x245000, x245001, x245002, x245003, x245004, x245005, x245006, x245007 => if x17 = true then (none) else ((drayagelaw17_want.f 0 0).bind fun bt246 => ((arbiter_Arbiter_Serve.f k x245000 x245001 x245002 x245003 x245004 x245005 x245006 x245007 1 bt246.1 bt246.2.1 bt246.2.2.1 bt246.2.2.2.1 bt246.2.2.2.2.1 bt246.2.2.2.2.2.1 bt246.2.2.2.2.2.2.1 bt246.2.2.2.2.2.2.2.1 bt246.2.2.2.2.2.2.2.2.1 bt246.2.2.2.2.2.2.2.2.2.1 bt246.2.2.2.2.2.2.2.2.2.2).bind fun bt261 => ((drayagelaw17_want.f 0 0).bind fun bt285 => ((arbiter_Arbiter_Serve.f k bt261.2.2.2.2.2.2.2.2.2.2.2.1 bt261.2.2.2.2.2.2.2.2.2.2.2.2.1 bt261.2.2.2.2.2.2.2.2.2.2.2.2.2.1 bt261.2.2.2.2.2.2.2.2.2.2.2.2.2.2.1 bt261.2.2.2.2.2.2.2.2.2.2.2.2.2.2.2.1 bt261.2.2.2.2.2.2.2.2.2.2.2.2.2.2.2.2.1 bt261.2.2.2.2.2.2.2.2.2.2.2.2.2.2.2.2.2.1 bt261.2.2.2.2.2.2.2.2.2.2.2.2.2.2.2.2.2.2 2 bt285.1 bt285.2.1 bt285.2.2.1 bt285.2.2.2.1 bt285.2.2.2.2.1 bt285.2.2.2.2.2.1 bt285.2.2.2.2.2.2.1 bt285.2.2.2.2.2.2.2.1 bt285.2.2.2.2.2.2.2.2.1 bt285.2.2.2.2.2.2.2.2.2.1 bt285.2.2.2.2.2.2.2.2.2.2).bind fun bt300 => ((drayagelaw17_want.f 1 2).bind fun bt324 => ((arbiter_Arbiter_Serve.f k bt300.2.2.2.2.2.2.2.2.2.2.2.1 bt300.2.2.2.2.2.2.2.2.2.2.2.2.1 bt300.2.2.2.2.2.2.2.2.2.2.2.2.2.1 bt300.2.2.2.2.2.2.2.2.2.2.2.2.2.2.1 bt300.2.2.2.2.2.2.2.2.2.2.2.2.2.2.2.1 bt300.2.2.2.2.2.2.2.2.2.2.2.2.2.2.2.2.1 bt300.2.2.2.2.2.2.2.2.2.2.2.2.2.2.2.2.2.1 bt300.2.2.2.2.2.2.2.2.2.2.2.2.2.2.2.2.2.2 1 bt324.1 bt324.2.1 bt324.2.2.1 bt324.2.2.2.1 bt324.2.2.2.2.1 bt324.2.2.2.2.2.1 bt324.2.2.2.2.2.2.1 bt324.2.2.2.2.2.2.2.1 bt324.2.2.2.2.2.2.2.2.1 bt324.2.2.2.2.2.2.2.2.2.1 bt324.2.2.2.2.2.2.2.2.2.2).bind fun bt339 => ((arbiter_Arbiter_Tick.f bt339.2.2.2.2.2.2.2.2.2.2.2.1 bt339.2.2.2.2.2.2.2.2.2.2.2.2.1 bt339.2.2.2.2.2.2.2.2.2.2.2.2.2.1 bt339.2.2.2.2.2.2.2.2.2.2.2.2.2.2.1 bt339.2.2.2.2.2.2.2.2.2.2.2.2.2.2.2.1 bt339.2.2.2.2.2.2.2.2.2.2.2.2.2.2.2.2.1 bt339.2.2.2.2.2.2.2.2.2.2.2.2.2.2.2.2.2.1 bt339.2.2.2.2.2.2.2.2.2.2.2.2.2.2.2.2.2.2 8).bind fun bt363 => ((drayagelaw17_want.f 0 0).bind fun bt371 => ((arbiter_Arbiter_Serve.f k bt363.1 bt363.2.1 bt363.2.2.1 bt363.2.2.2.1 bt363.2.2.2.2.1 bt363.2.2.2.2.2.1 bt363.2.2.2.2.2.2.1 bt363.2.2.2.2.2.2.2 2 bt371.1 bt371.2.1 bt371.2.2.1 bt371.2.2.2.1 bt371.2.2.2.2.1 bt371.2.2.2.2.2.1 bt371.2.2.2.2.2.2.1 bt371.2.2.2.2.2.2.2.1 bt371.2.2.2.2.2.2.2.2.1 bt371.2.2.2.2.2.2.2.2.2.1 bt371.2.2.2.2.2.2.2.2.2.2).bind fun bt386 => ((drayagelaw17_want.f 0 0).bind fun bt410 => ((arbiter_Arbiter_Serve.f k bt386.2.2.2.2.2.2.2.2.2.2.2.1 bt386.2.2.2.2.2.2.2.2.2.2.2.2.1 bt386.2.2.2.2.2.2.2.2.2.2.2.2.2.1 bt386.2.2.2.2.2.2.2.2.2.2.2.2.2.2.1 bt386.2.2.2.2.2.2.2.2.2.2.2.2.2.2.2.1 bt386.2.2.2.2.2.2.2.2.2.2.2.2.2.2.2.2.1 bt386.2.2.2.2.2.2.2.2.2.2.2.2.2.2.2.2.2.1 bt386.2.2.2.2.2.2.2.2.2.2.2.2.2.2.2.2.2.2 1 bt410.1 bt410.2.1 bt410.2.2.1 bt410.2.2.2.1 bt410.2.2.2.2.1 bt410.2.2.2.2.2.1 bt410.2.2.2.2.2.2.1 bt410.2.2.2.2.2.2.2.1 bt410.2.2.2.2.2.2.2.2.1 bt410.2.2.2.2.2.2.2.2.2.1 bt410.2.2.2.2.2.2.2.2.2.2).bind fun bt425 => (if bt261.1 = 5 then (if bt261.2.1 = 1 then (if bt261.2.2.2.2.1 = 5 then (if bt300.1 = 6 then (if bt300.2.2.2.2.2.2.2.2.1 = 2 then (if bt339.1 = 5 then (if bt339.2.2.2.2.2.2.2.2.1 = 2 then (if bt386.2.2.2.2.2.2.2.2.1 = 5 then (if bt425.1 = 5 then (some (bt425.2.1 == 2)) else (none)) else (none)) else (none)) else (none)) else (none)) else (none)) else (none)) else (none)) else (none)))))))))))))
def drayagelaw17_known.f (k : Nat)  : Option (Bool) := (arbiter_New.f 5 2).bind fun bt236 => (if bt236.2.2.2.2.2.2.2.2 = 0 then (drayagelaw17_known.j0 k false bt236.1 bt236.2.1 bt236.2.2.1 bt236.2.2.2.1 bt236.2.2.2.2.1 bt236.2.2.2.2.2.1 bt236.2.2.2.2.2.2.1 bt236.2.2.2.2.2.2.2.1) else (drayagelaw17_known.j0 k true bt236.1 bt236.2.1 bt236.2.2.1 bt236.2.2.2.1 bt236.2.2.2.2.1 bt236.2.2.2.2.2.1 bt236.2.2.2.2.2.2.1 bt236.2.2.2.2.2.2.2.1))
theorem drayagelaw17_known.mono_l : ∀ k, (∀ y0 y1 y2 y3 y4 y5 y6 y7 y8, LeO (drayagelaw17_known.j0 k y0 y1 y2 y3 y4 y5 y6 y7 y8) (drayagelaw17_known.j0 (k + 1) y0 y1 y2 y3 y4 y5 y6 y7 y8))
  | 0 => fun _ _ _ _ _ _ _ _ _ r h => by simp [drayagelaw17_known.j0] at h
  | k + 1 => by
    have ih0 := drayagelaw17_known.mono_l k
    · intro y0 y1 y2 y3 y4 y5 y6 y7 y8
      unfold drayagelaw17_known.j0
      repeat' first
      | (with_reducible exact ih0 _ _ _ _ _ _ _ _ _)
      | (with_reducible exact arbiter_Arbiter_Serve.mono _ _ _ _ _ _ _ _ _ _ _ _ _ _ _ _ _ _ _ _ _)
      | (with_reducible exact LeO.refl _)
      | (with_reducible exact LeO.none _)
      | (with_reducible refine LeO.ite ?_ ?_)
      | (with_reducible refine LeO.bind ?_ (fun _ => ?_))
      | exact ih0 _ _ _ _ _ _ _ _ _
      | exact arbiter_Arbiter_Serve.mono _ _ _ _ _ _ _ _ _ _ _ _ _ _ _ _ _ _ _ _ _
      | exact LeO.none _
      | refine LeO.ite ?_ ?_
      | refine LeO.bind ?_ (fun _ => ?_)
theorem drayagelaw17_known.mono : ∀ k, LeO (drayagelaw17_known.f k ) (drayagelaw17_known.f (k + 1) ) := by
  intro  k
  have ih0 := drayagelaw17_known.mono_l k
  unfold drayagelaw17_known.f
  repeat' first
      | (with_reducible exact ih0 _ _ _ _ _ _ _ _ _)
      | (with_reducible exact arbiter_Arbiter_Serve.mono _ _ _ _ _ _ _ _ _ _ _ _ _ _ _ _ _ _ _ _ _)
      | (with_reducible exact LeO.refl _)
      | (with_reducible exact LeO.none _)
      | (with_reducible refine LeO.ite ?_ ?_)
      | (with_reducible refine LeO.bind ?_ (fun _ => ?_))
      | exact ih0 _ _ _ _ _ _ _ _ _
      | exact arbiter_Arbiter_Serve.mono _ _ _ _ _ _ _ _ _ _ _ _ _ _ _ _ _ _ _ _ _
      | exact LeO.none _
      | refine LeO.ite ?_ ?_
      | refine LeO.bind ?_ (fun _ => ?_)
end Go.Proofs.Ytgghljienippgaa.PA
