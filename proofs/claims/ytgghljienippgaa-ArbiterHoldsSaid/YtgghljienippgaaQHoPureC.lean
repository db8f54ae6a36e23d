/- Plain laws on the mirror of chapter 17's functions, part C: the law ArbiterHolds. -/
import Derived.Test.YtgghljienippgaaQHoPAx3
import Derived.Test.YtgghljienippgaaQHoPAx4
import Derived.Test.YtgghljienippgaaQHoPAx5
import Derived.Test.YtgghljienippgaaQHoPAx8
import Derived.Test.YtgghljienippgaaQHoPAx12
import Derived.Test.YtgghljienippgaaQHoPureB
namespace Go.Proofs.Ytgghljienippgaa.Pure
open Go.RowKit Go.Proofs.Ytgghljienippgaa.PA Go.Proofs.YtgghljienippgaaW.PrintWords Go.Proofs.YtgghljienippgaaW.PrintLast Go.Proofs.YtgghljienippgaaW.PrintMore
set_option linter.unusedVariables false
set_option linter.unusedSimpArgs false

theorem renew_stale {k : Nat} {ep h u now who e n : Int} (hh : h = 1 ∨ h = 2) (he : 0 < ep) (hu : u ≤ 4611686018427397904) (hw : who = 1 ∨ who = 2) (hn1 : 1 ≤ n) (hn : n ≤ 10000) (ht : now ≤ 4611686018427387904) (hd : ¬ h = who) :
    lease_Renew.f (k + 2) ep h u 1 now who e n = some (0, 0, 0, 0, 72) := by
  unfold lease_Renew.f
  rw [check_held hh he hu, Option.bind_some, if_pos rfl, is_ok hw, Option.bind_some, if_pos rfl, span_ok hn1 hn, Option.bind_some]
  rw [lease_Renew.j0, if_neg (by decide), if_neg (by omega)]
  unfold lease_own.f
  rw [if_neg hd, lease_own.j0, if_pos rfl]
  rfl
theorem renew_own {k : Nat} {ep h u now n : Int} (hh : h = 1 ∨ h = 2) (he : 0 < ep) (hu0 : 0 ≤ u) (hu : u ≤ 4611686018427397904) (hn1 : 1 ≤ n) (hn : n ≤ 10000) (h0 : 0 ≤ now) (ht : now ≤ 4611686018427387904) (hl : now ≤ u) (hl2 : u ≤ now + n) :
    lease_Renew.f (k + 2) ep h u 1 now h ep n = some (ep, h, now + n, 1, 0) := by
  unfold lease_Renew.f
  rw [check_held hh he hu, Option.bind_some, if_pos rfl, is_ok hh, Option.bind_some, if_pos rfl, span_ok hn1 hn, Option.bind_some]
  rw [lease_Renew.j0, if_neg (by decide), if_neg (by omega)]
  unfold lease_own.f
  rw [if_pos rfl, lease_own.j0, if_neg (by simp), if_neg (by omega), Option.bind_some, if_pos rfl, u64_id (by omega) (by omega)]
  have : mx u (now + n) = now + n := by unfold mx; omega
  rw [this]
theorem serve_stale {k : Nat} {ep h u now n g who l e : Int} (hh : h = 1 ∨ h = 2) (he : 0 < ep) (hu : u ≤ 4611686018427397904) (hw : who = 1 ∨ who = 2) (hn1 : 1 ≤ n) (hn : n ≤ 10000) (ht : now ≤ 4611686018427387904) (hd : ¬ h = who) (h1 : ¬ e = 0) :
    arbiter_Arbiter_Serve.f (k + 4) n g now ep h u 1 l who 4 e 0 0 0 0 0 false 0 [] [] = some (6, ep, 0, 0, 0, 0, 0, false, 3, [], [], n, g, now, ep, h, u, 1, l) := by
  unfold arbiter_Arbiter_Serve.f
  rw [if_neg (by omega), if_neg (by omega), if_pos rfl, check_want (by omega) (by omega), Option.bind_some, if_pos rfl, if_neg (by omega), if_neg h1]
  rw [arbiter_Arbiter_Serve.j0, if_neg (by decide), if_neg h1, arbiter_Arbiter_Serve.j1]
  unfold arbiter_Arbiter_next.f
  rw [if_neg h1, if_pos rfl, renew_stale hh he hu hw hn1 hn ht hd]
  rfl
theorem serve_renew {k : Nat} {ep h u now n g l : Int} (hh : h = 1 ∨ h = 2) (he : 0 < ep) (hu0 : 0 ≤ u) (hu : u ≤ 4611686018427397904) (hn1 : 1 ≤ n) (hn : n ≤ 10000) (h0 : 0 ≤ now) (ht : now ≤ 4611686018427387904) (hl : now ≤ u) (hl2 : u ≤ now + n) :
    arbiter_Arbiter_Serve.f (k + 4) n g now ep h u 1 l h 4 ep 0 0 0 0 0 false 0 [] [] = some (5, ep, 0, 0, n, 0, 0, false, 1, [], [], n, g, now, ep, h, now + n, 1, h) := by
  have h1 : ¬ ep = 0 := by omega
  unfold arbiter_Arbiter_Serve.f
  rw [if_neg (by omega), if_neg (by omega), if_pos rfl, check_want (by omega) (by omega), Option.bind_some, if_pos rfl, if_neg (by omega), if_neg h1]
  rw [arbiter_Arbiter_Serve.j0, if_neg (by decide), if_neg h1, arbiter_Arbiter_Serve.j1]
  unfold arbiter_Arbiter_next.f
  rw [if_neg h1, if_pos rfl, renew_own hh he hu0 hu hn1 hn h0 ht hl hl2]
  simp only [Option.bind_some]
  rw [if_pos trivial, u64_id (by omega) (by omega)]
  simp only [show now + n - now = n by omega]
theorem below_of2 (x : Int) {m : Int} (hm : 0 < m) (hm2 : m < 1000) : 0 ≤ wrap64 (Int.tmod (IntKind.u64.wrap x) (IntKind.u64.wrap m)) ∧ wrap64 (Int.tmod (IntKind.u64.wrap x) (IntKind.u64.wrap m)) < m := by
  rw [u64_id (x := m) (by omega) (by omega)]
  exact below_of x hm hm2
/-- one turn of the loop -/
theorem holds_turn {k : Nat} {l : List Int} {n i now : Int} {b2 b3 b4 b5 b6 : Int} {b7 : Bool} {b8 : Int} {b9 b10 : List Int} (hn1 : 1 ≤ n) (hn : n ≤ 40) (hi0 : 0 ≤ i) (hil : i < (l.length : Int)) (h0 : 0 ≤ now) (ht : now ≤ 1000000) :
    ∃ d : Int, 0 ≤ d ∧ d ≤ n ∧ drayagelaw17_ArbiterHolds.j2 (k + 5) l n i true n 3 now 1 1 (now + n) 1 1 5 1 b2 b3 b4 b5 b6 b7 b8 b9 b10 = drayagelaw17_ArbiterHolds.l0 (k + 4) l n (wrap64 (i + 1)) n 3 (now + d) 1 1 (now + d + n) 1 1 5 1 b2 b3 b4 b5 b6 b7 b8 b9 b10 := by
  obtain ⟨d0, d1⟩ := below_of2 (rd l i) (m := n + 1) (by omega) (by omega)
  refine ⟨_, d0, Int.lt_add_one_iff.mp d1, ?_⟩
  rw [drayagelaw17_ArbiterHolds.j2, if_pos rfl, if_pos hi0, if_pos hil, if_neg (by rw [u64_id (by omega) (by omega)]; omega)]
  generalize wrap64 (Int.tmod (IntKind.u64.wrap (rd l i)) (IntKind.u64.wrap (n + 1))) = d at *
  rw [tick_at h0 d0 (by omega), Option.bind_some]
  simp only [want_at, Option.bind_some]
  rw [serve_want (.inl rfl) (by decide) (by decide) (by omega) (by omega) (.inr rfl) hn1 (by omega) (by decide) (by decide) (by omega) (by omega), if_neg (by omega), Option.bind_some]
  simp only []
  rw [serve_stale (.inl rfl) (by decide) (by omega) (.inr rfl) hn1 (by omega) (by omega) (by decide) (by decide), Option.bind_some]
  simp only []
  rw [serve_renew (.inl rfl) (by decide) (by omega) (by omega) hn1 (by omega) (by omega) (by omega) (by omega) (by omega), Option.bind_some]
  simp only [if_true]
theorem holds_loop (l : List Int) {n : Int} (hn1 : 1 ≤ n) (hn : n ≤ 40) {K : Nat} (hK : ∀ k, K ≤ k → drayagelaw17_known.f k = some true) (b2 b3 b4 b5 b6 : Int) (b7 : Bool) (b8 : Int) (b9 b10 : List Int) :
    ∀ (m : Nat) (i now : Int) (k : Nat), 0 ≤ i → i + m = 60 → 0 ≤ now → now ≤ 40 * i → 6 * m + K + 10 ≤ k → drayagelaw17_ArbiterHolds.l0 k l n i n 3 now 1 1 (now + n) 1 1 5 1 b2 b3 b4 b5 b6 b7 b8 b9 b10 = some true := by
  have fin : ∀ (i now : Int) (k : Nat), K + 1 ≤ k → drayagelaw17_ArbiterHolds.j2 k l n i false n 3 now 1 1 (now + n) 1 1 5 1 b2 b3 b4 b5 b6 b7 b8 b9 b10 = some true := by
    intro i now k hk
    obtain ⟨k, rfl⟩ : ∃ m, k = m + 1 := ⟨k - 1, by omega⟩
    rw [drayagelaw17_ArbiterHolds.j2, if_neg (by decide), if_pos rfl, if_pos rfl, hK k (by omega)]
    rfl
  intro m
  induction m with
  | zero =>
    intro i now k hi0 hi h0 hle hk
    obtain ⟨k, rfl⟩ : ∃ m, k = m + 1 := ⟨k - 1, by omega⟩
    rw [drayagelaw17_ArbiterHolds.l0]
    split
    · rw [decide_eq_false (by omega)]; exact fin i now k (by omega)
    · exact fin i now k (by omega)
  | succ m ih =>
    intro i now k hi0 hi h0 hle hk
    obtain ⟨k, rfl⟩ : ∃ m, k = m + 1 := ⟨k - 1, by omega⟩
    rw [drayagelaw17_ArbiterHolds.l0]
    split
    case isTrue hl =>
      rw [decide_eq_true (by omega)]
      obtain ⟨k, rfl⟩ : ∃ m, k = m + 5 := ⟨k - 5, by omega⟩
      obtain ⟨d, d0, d1, e⟩ := holds_turn (k := k) (b2 := b2) (b3 := b3) (b4 := b4) (b5 := b5) (b6 := b6) (b7 := b7) (b8 := b8) (b9 := b9) (b10 := b10) hn1 hn hi0 hl h0 (show now ≤ 1000000 by omega)
      rw [e, show wrap64 (i + 1) = i + 1 by unfold wrap64; omega]
      exact ih (i + 1) (now + d) (k + 4) (by omega) (by omega) (by omega) (by omega) (by omega)
    case isFalse hl => exact fin i now k (by omega)
theorem ArbiterHolds (a0 : Int) (l1 : List Int) (w0 : (Lit.int .u64 a0).wf = true) (w1 : l1.length ≤ maxLen ∧ ∀ x0 ∈ l1, (Lit.int .i64 x0).wf = true) :
    Ev (fun k => drayagelaw17_ArbiterHolds.f k a0 l1) true := by
  obtain ⟨K, hK⟩ := known_ev
  refine Ev.of (fun k => drayagelaw17_ArbiterHolds.mono a0 l1 k) (k := 400 + K + 5) ?_
  obtain ⟨p0, p1⟩ := u64_wf w0
  unfold drayagelaw17_ArbiterHolds.f
  rw [Int.tmod_eq_emod_of_nonneg p0, u64_id (x := 1 + a0 % 40) (by omega) (by omega), new_at (by omega) (by omega) (by omega), Option.bind_some]
  simp only [if_true]
  have hn1 : 1 ≤ 1 + a0 % 40 := by omega
  have hn : 1 + a0 % 40 ≤ 40 := by omega
  generalize 1 + a0 % 40 = n at *
  rw [drayagelaw17_ArbiterHolds.j0, if_neg (by decide), want_at, Option.bind_some]
  simp only []
  rw [show 400 + K + 4 = (400 + K) + 4 from rfl, serve_first (.inl rfl) hn1 (by omega) (by decide) (by decide) (by decide), Option.bind_some]
  exact holds_loop l1 hn1 hn hK 0 0 n 0 0 false 1 [] [] 60 0 0 _ (by decide) (by decide) (by decide) (by decide) (by omega)
end Go.Proofs.Ytgghljienippgaa.Pure
