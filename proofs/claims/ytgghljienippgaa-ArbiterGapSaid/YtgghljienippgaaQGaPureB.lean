/- Plain laws on the mirror of chapter 17's functions, part B: the law ArbiterGap. -/
import Derived.Test.YtgghljienippgaaQGaPAx4
import Derived.Test.YtgghljienippgaaQGaPAx6
import Derived.Test.YtgghljienippgaaQGaPAx8
import Derived.Test.YtgghljienippgaaQGaPAx10
import Derived.Test.YtgghljienippgaaQGaPureA
namespace Go.Proofs.Ytgghljienippgaa.Pure
open Go.RowKit Go.Proofs.Ytgghljienippgaa.PA Go.Proofs.YtgghljienippgaaW.PrintWords Go.Proofs.YtgghljienippgaaW.PrintLast Go.Proofs.YtgghljienippgaaW.PrintMore
set_option linter.unusedVariables false
set_option linter.unusedSimpArgs false

theorem tick_at {n g now ep h u m l d : Int} (h0 : 0 ≤ now) (hd : 0 ≤ d) (ht : now + d ≤ 4611686018427387904) : arbiter_Arbiter_Tick.f n g now ep h u m l d = some (n, g, now + d, ep, h, u, m, l) := by
  unfold arbiter_Arbiter_Tick.f
  by_cases c : d > 0
  · rw [if_pos c, u64_id (x := d) (by omega) (by omega), u64_id (x := 4611686018427387904 - now) (by omega) (by omega)]
    have : mn d (4611686018427387904 - now) = d := by unfold mn; omega
    rw [this, u64_id (by omega) (by omega)]
  · rw [if_neg c]
    have : d = 0 := by omega
    rw [this, Int.add_zero]
theorem u64_wf {x : Int} (h : (Lit.int .u64 x).wf = true) : 0 ≤ x ∧ x < 18446744073709551616 := by
  have := h
  simp [Lit.wf, IntKind.min, IntKind.max, IntKind.signed, IntKind.bits] at this
  omega
theorem u64_range (x : Int) : 0 ≤ IntKind.u64.wrap x ∧ IntKind.u64.wrap x < 18446744073709551616 := by
  have : IntKind.u64.wrap x = x % 18446744073709551616 := rfl
  omega
/-- a number below m, as the law makes it of any number -/
theorem below_of (x : Int) {m : Int} (hm : 0 < m) (hm2 : m < 1000) : 0 ≤ wrap64 (Int.tmod (IntKind.u64.wrap x) m) ∧ wrap64 (Int.tmod (IntKind.u64.wrap x) m) < m := by
  obtain ⟨h0, h1⟩ := u64_range x
  rw [Int.tmod_eq_emod_of_nonneg h0]
  have a := Int.emod_nonneg (IntKind.u64.wrap x) (show m ≠ 0 by omega)
  have b := Int.emod_lt_of_pos (IntKind.u64.wrap x) hm
  generalize IntKind.u64.wrap x % m = y at *
  unfold wrap64
  omega
theorem who_of (x : Int) : wrap64 (1 + wrap64 (Int.tmod (IntKind.u64.wrap x) 2)) = 1 ∨ wrap64 (1 + wrap64 (Int.tmod (IntKind.u64.wrap x) 2)) = 2 := by
  have h := below_of x (m := 2) (by decide) (by decide)
  generalize wrap64 (Int.tmod (IntKind.u64.wrap x) 2) = y at *
  unfold wrap64
  omega
theorem new_at {n g : Int} (h1 : 1 ≤ n) (h2 : n ≤ 10000) (h3 : g ≤ 10000) : arbiter_New.f n g = some (n, g, 0, 0, 0, 0, 1, 0, 0) := by
  unfold arbiter_New.f
  rw [if_pos ⟨h1, h2, h3⟩]
theorem want_at (e c : Int) : drayagelaw17_want.f e c = some (4, e, 0, 0, 0, 0, 0, false, c, [], []) := rfl
theorem gap_j {k : Nat} {n g a2 a3 a4 : Int} (hn1 : 1 ≤ n) (hn : n ≤ 100) (hg0 : 0 ≤ g) (hg : g ≤ 50) (hk : drayagelaw17_known.f (k + 4) = some true) : drayagelaw17_ArbiterGap.j0 (k + 5) a2 a3 a4 n g false n g 0 0 0 0 1 0 = some true := by
  obtain ⟨d0, d1⟩ := below_of a2 (m := 200) (by decide) (by decide)
  have w3 := who_of a3
  have w4 := who_of a4
  rw [drayagelaw17_ArbiterGap.j0, if_neg (by decide), want_at, Option.bind_some]
  generalize wrap64 (1 + wrap64 (Int.tmod (IntKind.u64.wrap a3) 2)) = p at *
  generalize wrap64 (1 + wrap64 (Int.tmod (IntKind.u64.wrap a4) 2)) = q at *
  generalize wrap64 (Int.tmod (IntKind.u64.wrap a2) 200) = d at *
  simp only []
  rw [serve_first w3 hn1 (by omega) (by omega) (by decide) (by decide), Option.bind_some]
  simp only [Int.zero_add]
  rw [tick_at (by decide) d0 (by omega), Option.bind_some]
  simp only [Int.zero_add]
  simp only [want_at, Option.bind_some]
  rw [serve_want w3 (by decide) (by decide) (by omega) (by omega) w4 hn1 (by omega) hg0 (by omega) d0 (by omega), Option.bind_some]
  rw [u64_id (x := d) d0 (by omega), u64_id (x := n + g) (by omega) (by omega)]
  by_cases c : d > n + g
  · simp only [c, if_true, decide_true, hk, Option.bind_some]
    simp
  · simp only [c, if_false, decide_false, hk, Option.bind_some]
    simp
theorem ArbiterGap (a0 a1 a2 a3 a4 : Int) (w0 : (Lit.int .u64 a0).wf = true) (w1 : (Lit.int .u64 a1).wf = true) (w2 : (Lit.int .i64 a2).wf = true) (w3 : (Lit.int .i64 a3).wf = true) (w4 : (Lit.int .i64 a4).wf = true) :
    Ev (fun k => drayagelaw17_ArbiterGap.f k a0 a1 a2 a3 a4) true := by
  obtain ⟨K, hK⟩ := known_ev
  refine Ev.of (fun k => drayagelaw17_ArbiterGap.mono a0 a1 a2 a3 a4 k) (k := K + 5) ?_
  obtain ⟨p0, p1⟩ := u64_wf w0
  obtain ⟨q0, q1⟩ := u64_wf w1
  unfold drayagelaw17_ArbiterGap.f
  rw [Int.tmod_eq_emod_of_nonneg p0, Int.tmod_eq_emod_of_nonneg q0, u64_id (x := 1 + a0 % 100) (by omega) (by omega), new_at (by omega) (by omega) (by omega), Option.bind_some]
  simp only [if_true]
  exact gap_j (by omega) (by omega) (by omega) (by omega) (hK _ (by omega))
end Go.Proofs.Ytgghljienippgaa.Pure
