-- printed by a program of this work (wip/tools/pr.py over the kit's print): the machine's side of ArbiterGap, ArbiterHolds
import Derived.Test.YtgghljienippgaaQGaPAx6
import Derived.Test.YtgghljienippgaaQGaPAx8
import Derived.Test.YtgghljienippgaaQGaPAx0
import Derived.Test.YtgghljienippgaaQGaPAx1
import Derived.Test.YtgghljienippgaaQGaPAx4
import Derived.Test.YtgghljienippgaaQGaPAx5
namespace Go.Proofs.Ytgghljienippgaa.PA
open Go.RowKit Go.Proofs.YtgghljienippgaaW.PrintWords Go.Proofs.YtgghljienippgaaW.PrintLast Go.Proofs.YtgghljienippgaaW.PrintMore
attribute [local go_sem] max2_int min2_int max_two min_two max_three min_three max_four min_four   -- for this text's walks alone
set_option linter.unusedVariables false
set_option linter.unusedSimpArgs false

/-! ### drayagelaw17_ArbiterGap: function 3 -/
def drayagelaw17_ArbiterGap.j0 : Nat → Int → Int → Int → Int → Int → Bool → Int → Int → Int → Int → Int → Int → Int → Int → Option (Bool)
  | 0, _, _, _, _, _, _, _, _, _, _, _, _, _, _ => none
  | k + 1, x2, x3, x4, x11, x12, x35, x458000, x458001, x458002, x458003, x458004, x458005, x458006, x458007 => if x35 = true then (none) else ((drayagelaw17_want.f 0 0).bind fun bt459 => ((arbiter_Arbiter_Serve.f k x458000 x458001 x458002 x458003 x458004 x458005 x458006 x458007 (wrap64 (1 + (wrap64 (Int.tmod (IntKind.u64.wrap (x3)) 2)))) bt459.1 bt459.2.1 bt459.2.2.1 bt459.2.2.2.1 bt459.2.2.2.2.1 bt459.2.2.2.2.2.1 bt459.2.2.2.2.2.2.1 bt459.2.2.2.2.2.2.2.1 bt459.2.2.2.2.2.2.2.2.1 bt459.2.2.2.2.2.2.2.2.2.1 bt459.2.2.2.2.2.2.2.2.2.2).bind fun bt474 => ((arbiter_Arbiter_Tick.f bt474.2.2.2.2.2.2.2.2.2.2.2.1 bt474.2.2.2.2.2.2.2.2.2.2.2.2.1 bt474.2.2.2.2.2.2.2.2.2.2.2.2.2.1 bt474.2.2.2.2.2.2.2.2.2.2.2.2.2.2.1 bt474.2.2.2.2.2.2.2.2.2.2.2.2.2.2.2.1 bt474.2.2.2.2.2.2.2.2.2.2.2.2.2.2.2.2.1 bt474.2.2.2.2.2.2.2.2.2.2.2.2.2.2.2.2.2.1 bt474.2.2.2.2.2.2.2.2.2.2.2.2.2.2.2.2.2.2 (wrap64 (Int.tmod (IntKind.u64.wrap (x2)) 200))).bind fun bt498 => ((drayagelaw17_want.f 0 0).bind fun bt506 => ((arbiter_Arbiter_Serve.f k bt498.1 bt498.2.1 bt498.2.2.1 bt498.2.2.2.1 bt498.2.2.2.2.1 bt498.2.2.2.2.2.1 bt498.2.2.2.2.2.2.1 bt498.2.2.2.2.2.2.2 (wrap64 (1 + (wrap64 (Int.tmod (IntKind.u64.wrap (x4)) 2)))) bt506.1 bt506.2.1 bt506.2.2.1 bt506.2.2.2.1 bt506.2.2.2.2.1 bt506.2.2.2.2.2.1 bt506.2.2.2.2.2.2.1 bt506.2.2.2.2.2.2.2.1 bt506.2.2.2.2.2.2.2.2.1 bt506.2.2.2.2.2.2.2.2.2.1 bt506.2.2.2.2.2.2.2.2.2.2).bind fun bt521 => (if bt474.1 = 5 then (if bt474.2.2.2.2.1 = x11 then (if ((bt521.1 == 5) == (decide ((IntKind.u64.wrap (wrap64 (Int.tmod (IntKind.u64.wrap (x2)) 200))) > (IntKind.u64.wrap (x11 + x12))))) = true then (if (IntKind.u64.wrap (wrap64 (Int.tmod (IntKind.u64.wrap (x2)) 200))) > (IntKind.u64.wrap (x11 + x12)) then (if ((IntKind.u64.wrap (wrap64 (Int.tmod (IntKind.u64.wrap (x2)) 200))) > (IntKind.u64.wrap (x11 + x12))) then (if bt521.2.1 = 2 then (if bt521.2.2.2.2.1 = x11 then ((drayagelaw17_known.f k).bind fun t545 => (some t545)) else (none)) else (none)) else ((drayagelaw17_known.f k).bind fun t546 => (some t546))) else (if bt521.2.2.2.2.2.2.2.2.1 = 2 then (if ((IntKind.u64.wrap (wrap64 (Int.tmod (IntKind.u64.wrap (x2)) 200))) > (IntKind.u64.wrap (x11 + x12))) then (if bt521.2.1 = 2 then (if bt521.2.2.2.2.1 = x11 then ((drayagelaw17_known.f k).bind fun t547 => (some t547)) else (none)) else (none)) else ((drayagelaw17_known.f k).bind fun t548 => (some t548))) else (none))) else (none)) else (none)) else (none)))))))
def drayagelaw17_ArbiterGap.f (k : Nat) (a0 : Int) (a1 : Int) (a2 : Int) (a3 : Int) (a4 : Int) : Option (Bool) := (arbiter_New.f (IntKind.u64.wrap (1 + (Int.tmod a0 100))) (Int.tmod a1 50)).bind fun bt449 => (if bt449.2.2.2.2.2.2.2.2 = 0 then (drayagelaw17_ArbiterGap.j0 k a2 a3 a4 (IntKind.u64.wrap (1 + (Int.tmod a0 100))) (Int.tmod a1 50) false bt449.1 bt449.2.1 bt449.2.2.1 bt449.2.2.2.1 bt449.2.2.2.2.1 bt449.2.2.2.2.2.1 bt449.2.2.2.2.2.2.1 bt449.2.2.2.2.2.2.2.1) else (drayagelaw17_ArbiterGap.j0 k a2 a3 a4 (IntKind.u64.wrap (1 + (Int.tmod a0 100))) (Int.tmod a1 50) true bt449.1 bt449.2.1 bt449.2.2.1 bt449.2.2.2.1 bt449.2.2.2.2.1 bt449.2.2.2.2.2.1 bt449.2.2.2.2.2.2.1 bt449.2.2.2.2.2.2.2.1))
theorem drayagelaw17_ArbiterGap.mono_l : ∀ k, (∀ y0 y1 y2 y3 y4 y5 y6 y7 y8 y9 y10 y11 y12 y13, LeO (drayagelaw17_ArbiterGap.j0 k y0 y1 y2 y3 y4 y5 y6 y7 y8 y9 y10 y11 y12 y13) (drayagelaw17_ArbiterGap.j0 (k + 1) y0 y1 y2 y3 y4 y5 y6 y7 y8 y9 y10 y11 y12 y13))
  | 0 => fun _ _ _ _ _ _ _ _ _ _ _ _ _ _ r h => by simp [drayagelaw17_ArbiterGap.j0] at h
  | k + 1 => by
    have ih0 := drayagelaw17_ArbiterGap.mono_l k
    · intro y0 y1 y2 y3 y4 y5 y6 y7 y8 y9 y10 y11 y12 y13
      unfold drayagelaw17_ArbiterGap.j0
      repeat' first
      | (with_reducible exact ih0 _ _ _ _ _ _ _ _ _ _ _ _ _ _)
      | (with_reducible exact arbiter_Arbiter_Serve.mono _ _ _ _ _ _ _ _ _ _ _ _ _ _ _ _ _ _ _ _ _)
      | (with_reducible exact drayagelaw17_known.mono _)
      | (with_reducible exact LeO.refl _)
      | (with_reducible exact LeO.none _)
      | (with_reducible refine LeO.ite ?_ ?_)
      | (with_reducible refine LeO.bind ?_ (fun _ => ?_))
      | exact ih0 _ _ _ _ _ _ _ _ _ _ _ _ _ _
      | exact arbiter_Arbiter_Serve.mono _ _ _ _ _ _ _ _ _ _ _ _ _ _ _ _ _ _ _ _ _
      | exact drayagelaw17_known.mono _
      | exact LeO.none _
      | refine LeO.ite ?_ ?_
      | refine LeO.bind ?_ (fun _ => ?_)
theorem drayagelaw17_ArbiterGap.mono : ∀ a0 a1 a2 a3 a4 k, LeO (drayagelaw17_ArbiterGap.f k a0 a1 a2 a3 a4) (drayagelaw17_ArbiterGap.f (k + 1) a0 a1 a2 a3 a4) := by
  intro a0 a1 a2 a3 a4 k
  have ih0 := drayagelaw17_ArbiterGap.mono_l k
  unfold drayagelaw17_ArbiterGap.f
  repeat' first
      | (with_reducible exact ih0 _ _ _ _ _ _ _ _ _ _ _ _ _ _)
      | (with_reducible exact arbiter_Arbiter_Serve.mono _ _ _ _ _ _ _ _ _ _ _ _ _ _ _ _ _ _ _ _ _)
      | (with_reducible exact drayagelaw17_known.mono _)
      | (with_reducible exact LeO.refl _)
      | (with_reducible exact LeO.none _)
      | (with_reducible refine LeO.ite ?_ ?_)
      | (with_reducible refine LeO.bind ?_ (fun _ => ?_))
      | exact ih0 _ _ _ _ _ _ _ _ _ _ _ _ _ _
      | exact arbiter_Arbiter_Serve.mono _ _ _ _ _ _ _ _ _ _ _ _ _ _ _ _ _ _ _ _ _
      | exact drayagelaw17_known.mono _
      | exact LeO.none _
      | refine LeO.ite ?_ ?_
      | refine LeO.bind ?_ (fun _ => ?_)
end Go.Proofs.Ytgghljienippgaa.PA
