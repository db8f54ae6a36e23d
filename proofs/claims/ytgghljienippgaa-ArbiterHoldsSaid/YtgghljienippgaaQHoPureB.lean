/- Plain laws on the mirror of chapter 17's functions, part B: the law ArbiterGap. -/
import Derived.Test.YtgghljienippgaaQHoPAx4
import Derived.Test.YtgghljienippgaaQHoPAx6
import Derived.Test.YtgghljienippgaaQHoPAx8
import Derived.Test.YtgghljienippgaaQHoPAx0
import Derived.Test.YtgghljienippgaaQHoPAx1
import Derived.Test.YtgghljienippgaaQHoPAx5
import Derived.Test.YtgghljienippgaaQHoPureA
namespace Go.Proofs.Ytgghljienippgaa.Pure
open Go.RowKit Go.Proofs.Ytgghljienippgaa.PA Go.Proofs.YtgghljienippgaaW.PrintWords Go.Proofs.YtgghljienippgaaW.PrintLast Go.Proofs.YtgghljienippgaaW.PrintMore
set_option linter.unusedVariables false
set_option linter.unusedSimpArgs false

theorem tick_at {n g now ep h u m l d : Int} (h0 : 0 ≤ now) (hd : 0 ≤ d) (ht : now + d ≤ 4611686018427387904) : arbiter_Arbiter_Tick.f n g now ep h u m l d = some (n, g, now + d, ep, h, u, m, l) := by
  unfold arbiter_Arbiter_Tick.f
  by_cases c : d > 0
  · rw [if_pos c, u64_id (x := d) (by omega) (by omega), u64_id (x := 4611686018427387904 - now) (by omega) (by omega)]
    have : mn d (4611686018427387904 - now) = d := by unfold mn; omega
    rw [this, u64_id (by omega) (by omega)]
  · rw [if_neg c]
    have : d = 0 := by omega
    rw [this, Int.add_zero]
theorem u64_wf {x : Int} (h : (Lit.int .u64 x).wf = true) : 0 ≤ x ∧ x < 18446744073709551616 := by
  have := h
  simp [Lit.wf, IntKind.min, IntKind.max, IntKind.signed, IntKind.bits] at this
  omega
theorem u64_range (x : Int) : 0 ≤ IntKind.u64.wrap x ∧ IntKind.u64.wrap x < 18446744073709551616 := by
  have : IntKind.u64.wrap x = x % 18446744073709551616 := rfl
  omega
/-- a number below m, as the law makes it of any number -/
theorem below_of (x : Int) {m : Int} (hm : 0 < m) (hm2 : m < 1000) : 0 ≤ wrap64 (Int.tmod (IntKind.u64.wrap x) m) ∧ wrap64 (Int.tmod (IntKind.u64.wrap x) m) < m := by
  obtain ⟨h0, h1⟩ := u64_range x
  rw [Int.tmod_eq_emod_of_nonneg h0]
  have a := Int.emod_nonneg (IntKind.u64.wrap x) (show m ≠ 0 by omega)
  have b := Int.emod_lt_of_pos (IntKind.u64.wrap x) hm
  generalize IntKind.u64.wrap x % m = y at *
  unfold wrap64
  omega

theorem new_at {n g : Int} (h1 : 1 ≤ n) (h2 : n ≤ 10000) (h3 : g ≤ 10000) : arbiter_New.f n g = some (n, g, 0, 0, 0, 0, 1, 0, 0) := by
  unfold arbiter_New.f
  rw [if_pos ⟨h1, h2, h3⟩]
theorem want_at (e c : Int) : drayagelaw17_want.f e c = some (4, e, 0, 0, 0, 0, 0, false, c, [], []) := rfl

end Go.Proofs.Ytgghljienippgaa.Pure
