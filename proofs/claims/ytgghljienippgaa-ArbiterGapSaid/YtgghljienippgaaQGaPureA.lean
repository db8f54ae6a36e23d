/- Plain laws on the mirror of chapter 17's functions, part A: the lease, an asking, and what the chapter's example fixes. -/
import Derived.Test.YtgghljienippgaaQGaPAx1
import Derived.Test.YtgghljienippgaaQGaPAx2
import Derived.Test.YtgghljienippgaaQGaPAx3
import Derived.Test.YtgghljienippgaaQGaPAx4
import Derived.Test.YtgghljienippgaaQGaPAx5
import Derived.Test.YtgghljienippgaaQGaPAx8
namespace Go.Proofs.Ytgghljienippgaa.Pure
open Go.RowKit Go.Proofs.Ytgghljienippgaa.PA Go.Proofs.YtgghljienippgaaW.PrintWords Go.Proofs.YtgghljienippgaaW.PrintLast Go.Proofs.YtgghljienippgaaW.PrintMore
set_option linter.unusedVariables false
set_option linter.unusedSimpArgs false

theorem known_ev : Ev (fun k => drayagelaw17_known.f k) true :=
  Ev.of (fun k => drayagelaw17_known.mono k) (k := 60) (by decide +kernel)
theorem u64_id {x : Int} (h0 : 0 ≤ x) (h1 : x < 18446744073709551616) : IntKind.u64.wrap x = x := by
  have : IntKind.u64.wrap x = x % 18446744073709551616 := rfl
  omega
theorem span_ok {n : Int} (h1 : 1 ≤ n) (h2 : n ≤ 10000) : lease_span.f n = some true := by
  unfold lease_span.f; rw [if_pos h1, decide_eq_true h2]
theorem is_ok {h : Int} (hh : h = 1 ∨ h = 2) : lease_is.f h = some true := by
  unfold lease_is.f; rcases hh with rfl | rfl <;> rfl
/-- a lease that is held -/
theorem check_held {ep h u : Int} (hh : h = 1 ∨ h = 2) (he : 0 < ep) (hu : u ≤ 4611686018427397904) : lease_Check.f ep h u 1 = some 0 := by
  have h0 : ¬ h = 0 := by omega
  unfold lease_Check.f
  rw [if_pos rfl, if_neg h0, is_ok hh, Option.bind_some, if_pos rfl, if_pos (show ep > 0 from he), if_pos hu]
theorem check_none : lease_Check.f 0 0 0 1 = some 0 := by decide
theorem free_none (now : Int) {g : Int} (hg : g ≤ 10000) : lease_Free.f 0 0 0 1 now g = some true := by
  unfold lease_Free.f
  rw [check_none, Option.bind_some, if_pos rfl, if_neg (by omega), if_pos rfl]
theorem free_held {ep h u now g : Int} (hh : h = 1 ∨ h = 2) (he : 0 < ep) (hu0 : 0 ≤ u) (hu : u ≤ 4611686018427397904) (hn : now ≤ 4611686018427387904) (hg : g ≤ 10000) (hg0 : 0 ≤ g) : lease_Free.f ep h u 1 now g = some (decide (now > u + g)) := by
  have h0 : ¬ h = 0 := by omega
  unfold lease_Free.f
  rw [check_held hh he hu, Option.bind_some, if_pos rfl, if_neg (by omega), if_neg h0]
  by_cases c : now > u
  · rw [if_pos c, u64_id (by omega) (by omega)]
    congr 1
    by_cases d : now - u > g
    · rw [decide_eq_true d, decide_eq_true (by omega)]
    · rw [decide_eq_false d, decide_eq_false (by omega)]
  · rw [if_neg c, decide_eq_false (by omega)]
/-- a lease is granted, or it is held -/
theorem grant_none {k : Nat} {now who n g : Int} (hw : who = 1 ∨ who = 2) (hn1 : 1 ≤ n) (hn : n ≤ 10000) (hg : g ≤ 10000) (h0 : 0 ≤ now) (ht : now ≤ 4611686018427387904) :
    lease_Grant.f (k + 2) 0 0 0 1 now who n g = some (1, who, now + n, 1, 0) := by
  unfold lease_Grant.f
  rw [check_none, Option.bind_some, if_pos rfl, is_ok hw, Option.bind_some, if_pos rfl, span_ok hn1 hn, Option.bind_some, if_pos rfl, decide_eq_false (show ¬ g > 10000 by omega)]
  rw [lease_Grant.j0, if_neg (by decide), if_neg (by omega), lease_Grant.j1, if_neg (by decide), free_none now hg, Option.bind_some, if_pos rfl, u64_id (by omega) (by omega)]
  rfl
theorem grant_held {k : Nat} {ep h u now who n g : Int} (hh : h = 1 ∨ h = 2) (he : 0 < ep) (he2 : ep < 4294967295) (hu0 : 0 ≤ u) (hu : u ≤ 4611686018427397904) (hw : who = 1 ∨ who = 2) (hn1 : 1 ≤ n) (hn : n ≤ 10000) (hg0 : 0 ≤ g) (hg : g ≤ 10000) (h0 : 0 ≤ now) (ht : now ≤ 4611686018427387904) :
    lease_Grant.f (k + 2) ep h u 1 now who n g = some (if now > u + g then (ep + 1, who, now + n, 1, 0) else (0, 0, 0, 0, 70)) := by
  unfold lease_Grant.f
  rw [check_held hh he hu, Option.bind_some, if_pos rfl, is_ok hw, Option.bind_some, if_pos rfl, span_ok hn1 hn, Option.bind_some, if_pos rfl, decide_eq_false (show ¬ g > 10000 by omega)]
  rw [lease_Grant.j0, if_neg (by decide), if_neg (by omega), lease_Grant.j1, if_neg (by simp; omega), free_held hh he hu0 hu ht hg hg0, Option.bind_some]
  by_cases c : now > u + g
  · rw [decide_eq_true c, if_pos rfl, if_pos c, u64_id (by omega) (by omega), Int.emod_eq_of_lt (by omega) (by omega)]
  · rw [decide_eq_false c, if_neg (by decide), if_neg c]
/-- what is asked with (epoch, 0) -/
theorem check_want {ep co : Int} (h0 : 0 ≤ co) (h1 : co ≤ 255) : note_Check.f 4 ep 0 0 0 0 0 false co [] [] = some 0 := by
  unfold note_Check.f
  rw [if_pos ⟨rfl, rfl, rfl, rfl, rfl, rfl, rfl, h0, h1, rfl, rfl⟩]
theorem serve_first {k : Nat} {now n g who : Int} (hw : who = 1 ∨ who = 2) (hn1 : 1 ≤ n) (hn : n ≤ 10000) (hg : g ≤ 10000) (h0 : 0 ≤ now) (ht : now ≤ 4611686018427387904) :
    arbiter_Arbiter_Serve.f (k + 4) n g now 0 0 0 1 0 who 4 0 0 0 0 0 0 false 0 [] [] = some (5, 1, 0, 0, n, 0, 0, false, 1, [], [], n, g, now, 1, who, now + n, 1, who) := by
  unfold arbiter_Arbiter_Serve.f
  rw [if_neg (by omega), if_neg (by omega), if_pos rfl, check_want (by omega) (by omega), Option.bind_some, if_pos rfl, if_neg (by omega), if_pos rfl]
  rw [arbiter_Arbiter_Serve.j0, if_neg (by decide), if_pos rfl, if_neg (by decide), arbiter_Arbiter_Serve.j1]
  unfold arbiter_Arbiter_next.f
  rw [if_pos rfl, grant_none hw hn1 hn hg h0 ht]
  simp only [Option.bind_some]
  rw [if_pos trivial, u64_id (by omega) (by omega)]
  simp only [show now + n - now = n by omega]
theorem serve_want {k : Nat} {ep h u now n g who l : Int} (hh : h = 1 ∨ h = 2) (he : 0 < ep) (he2 : ep < 4294967295) (hu0 : 0 ≤ u) (hu : u ≤ 4611686018427397904) (hw : who = 1 ∨ who = 2) (hn1 : 1 ≤ n) (hn : n ≤ 10000) (hg0 : 0 ≤ g) (hg : g ≤ 10000) (h0 : 0 ≤ now) (ht : now ≤ 4611686018427387904) :
    arbiter_Arbiter_Serve.f (k + 4) n g now ep h u 1 l who 4 0 0 0 0 0 0 false 0 [] [] = some (if now > u + g then (5, ep + 1, 0, 0, n, 0, 0, false, 1, [], [], n, g, now, ep + 1, who, now + n, 1, who) else (6, ep, 0, 0, 0, 0, 0, false, 2, [], [], n, g, now, ep, h, u, 1, l)) := by
  unfold arbiter_Arbiter_Serve.f
  rw [if_neg (by omega), if_neg (by omega), if_pos rfl, check_want (by omega) (by omega), Option.bind_some, if_pos rfl, if_neg (by omega), if_pos rfl]
  rw [arbiter_Arbiter_Serve.j0, if_neg (by decide), if_pos rfl, if_neg (by decide), arbiter_Arbiter_Serve.j1]
  unfold arbiter_Arbiter_next.f
  rw [if_pos rfl, grant_held hh he he2 hu0 hu hw hn1 hn hg0 hg h0 ht]
  by_cases c : now > u + g
  · rw [if_pos c, if_pos c]
    simp only [Option.bind_some]
    rw [if_pos trivial, u64_id (by omega) (by omega)]
    simp only [show now + n - now = n by omega]
  · rw [if_neg c, if_neg c]
    rfl
end Go.Proofs.Ytgghljienippgaa.Pure
