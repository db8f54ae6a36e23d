/- Plain laws for ArbiterAlone: a site that may hold a lease is the holder of the arbiter's lease. -/
import Derived.Test.YtgghljienippgaaVLp
namespace Go.VX.M17
set_option linter.unusedVariables false
/-- the site k, which was told of the epoch ek until uk, holds only what the arbiter has lent it -/
def Al (now e ho u k ek uk : Int) : Prop := 0 < ek → now ≤ uk → e = ek ∧ ho = k ∧ uk ≤ u
theorem Al.tick {now now' e ho u k ek uk : Int} (h : Al now e ho u k ek uk) (hn : now ≤ now') : Al now' e ho u k ek uk :=
  fun h0 h1 => h h0 (by omega)
theorem Al.one {now e ho u e1 u1 e2 u2 : Int} (h1 : Al now e ho u 1 e1 u1) (h2 : Al now e ho u 2 e2 u2) (a1 : 0 < e1) (b1 : now ≤ u1) (a2 : 0 < e2) (b2 : now ≤ u2) : False := by
  have := (h1 a1 b1).2.1
  have := (h2 a2 b2).2.1
  omega
theorem tick_ge {now n : Int} (h0 : 0 ≤ now) (h1 : now ≤ 4611686018427387904) (hn : n ≤ 9223372036854775807) : now ≤ mTick now n := by
  unfold mTick
  split
  · rw [w64, w64, w64]
    split <;> omega
  · omega
theorem free_out {e ho u mo now G : Int} (hc : mCheck e ho u mo = 0) (h : mFree e ho u mo now G ≠ false) : ho = 0 ∨ u < now := by
  unfold mFree at h
  split at h
  · exact absurd rfl h
  · split at h
    · exact .inl (by assumption)
    · split at h
      · exact .inr (by assumption)
      · exact absurd rfl h
theorem own_out {e ho u now who x : Int} (h : mOwn e ho u now who x = 0) : ho = who ∧ e = x ∧ now ≤ u := by
  unfold mOwn at h
  split at h
  · exact absurd h (by decide)
  · split at h
    · exact absurd h (by decide)
    · omega
/-- what a served lease is -/
theorem serve_out {L G now e ho u mo who nk ne old lsn tick ord st co : Int} {un : Bool} {kl dl : Nat} (hL : 1 ≤ L ∧ L ≤ 10000) (R : Rg now e ho u mo) (hc : mCheck e ho u mo = 0) {r : SR}
    (hr : mServe L G now e ho u mo ho who nk ne old lsn tick ord st un co kl dl = r) :
    (r.kind = 6 ∧ r.e = e ∧ r.ho = ho ∧ r.u = u) ∨
    (r.kind = 5 ∧ r.ep = r.e ∧ r.ho = who ∧ r.tick = IntKind.u64.wrap (r.u - now) ∧
      (((ho = 0 ∨ u < now) ∧ r.u = now + L) ∨ (ho = who ∧ r.e = e ∧ now ≤ u ∧ u ≤ r.u ∧ r.u ≤ 4611686018427397904))) := by
  have hno : ∀ c, mNo e ho u mo ho c = r → (r.kind = 6 ∧ r.e = e ∧ r.ho = ho ∧ r.u = u) := by
    intro c h; subst h; exact ⟨rfl, rfl, rfl, rfl⟩
  unfold mServe at hr
  split at hr
  · exact .inl (hno _ hr)
  rename_i c1
  split at hr
  · exact .inl (hno _ hr)
  split at hr
  · exact .inl (hno _ hr)
  rename_i c3
  subst hr
  have hw : who = 1 ∨ who = 2 := by omega
  have hn0 := R.now0
  have hn1 := R.now1
  have he0 := R.e0
  have he1 := R.e1
  obtain ⟨hm, ho'⟩ := check_out hc
  have h64 : IntKind.u64.wrap (now + L) = now + L := by rw [w64]; omega
  refine .inr ⟨rfl, rfl, ?_⟩
  dsimp only
  unfold mNext at c3 ⊢
  by_cases h0 : ne = 0
  · rw [if_pos h0] at c3 ⊢
    unfold mGrant at c3 ⊢
    split at c3
    · exact absurd (show (2 : Int) ≠ 0 by decide) c3
    · rename_i g1
      split at c3
      · exact absurd (show (71 : Int) ≠ 0 by decide) c3
      · rename_i g2
        split at c3
        · exact absurd (show (70 : Int) ≠ 0 by decide) c3
        · rename_i g3
          rw [if_neg g1, if_neg g2, if_neg g3]
          refine ⟨rfl, rfl, .inl ⟨free_out hc g3, ?_⟩⟩
          show IntKind.u64.wrap (now + L) = _
          rw [h64]
  · rw [if_neg h0] at c3 ⊢
    by_cases h1 : co = 0
    · rw [if_pos h1] at c3 ⊢
      unfold mRenew at c3 ⊢
      split at c3
      · exact absurd (show (2 : Int) ≠ 0 by decide) c3
      · rename_i g1
        split at c3
        · exact absurd (show (71 : Int) ≠ 0 by decide) c3
        · rename_i g2
          split at c3
          · rename_i g3
            exact absurd g3 c3
          · rename_i g3
            rw [if_neg g1, if_neg g2, if_neg g3]
            obtain ⟨o1, o2, o3⟩ := own_out (Decidable.not_not.1 g3)
            refine ⟨o1, rfl, .inr ⟨o1, rfl, o3, ?_⟩⟩
            show u ≤ (if IntKind.u64.wrap (now + L) > u then IntKind.u64.wrap (now + L) else u) ∧ (if IntKind.u64.wrap (now + L) > u then IntKind.u64.wrap (now + L) else u) ≤ 4611686018427397904
            rw [h64]
            split <;> omega
    · rw [if_neg h1] at c3 ⊢
      unfold mTurn at c3 ⊢
      split at c3
      · exact absurd (show (2 : Int) ≠ 0 by decide) c3
      · rename_i g1
        split at c3
        · rename_i g3
          exact absurd g3 c3
        · rename_i g3
          rw [if_neg g1, if_neg g3]
          obtain ⟨o1, o2, o3⟩ := own_out (Decidable.not_not.1 g3)
          refine ⟨o1, rfl, .inr ⟨o1, rfl, o3, Int.le_refl _, ?_⟩⟩
          show u ≤ 4611686018427397904
          omega
theorem al_serve {L G now e ho u mo who nk ne old lsn tick ord st co k ek uk : Int} {un : Bool} {kl dl : Nat} (hL : 1 ≤ L ∧ L ≤ 10000) (R : Rg now e ho u mo) (hc : mCheck e ho u mo = 0)
    (hk : k = 1 ∨ k = 2) (A : Al now e ho u k ek uk) {r : SR} (hr : mServe L G now e ho u mo ho who nk ne old lsn tick ord st un co kl dl = r) : Al now r.e r.ho r.u k ek uk := by
  intro h0 h1
  obtain ⟨a1, a2, a3⟩ := A h0 h1
  rcases serve_out hL R hc hr with ⟨_, b1, b2, b3⟩ | ⟨_, _, b2, _, ⟨b3, b4⟩ | ⟨b3, b4, b5, b6, b7⟩⟩
  · exact ⟨by omega, by omega, by omega⟩
  · omega
  · exact ⟨by omega, by omega, by omega⟩
/-- a site that is told of a lease may take it as its own, from the tick of its asking on -/
theorem al_took {L G now e ho u mo who nk ne old lsn tick ord st co asked now' : Int} {un : Bool} {kl dl : Nat} (hL : 1 ≤ L ∧ L ≤ 10000) (R : Rg now e ho u mo) (hc : mCheck e ho u mo = 0)
    (h0 : 0 ≤ asked) (ha : asked ≤ now) {r : SR} (hr : mServe L G now e ho u mo ho who nk ne old lsn tick ord st un co kl dl = r) (h5 : r.kind = 5) :
    Al now' r.e r.ho r.u who r.ep (IntKind.u64.wrap (asked + r.tick)) := by
  intro _ _
  have hn0 := R.now0
  have hn1 := R.now1
  rcases serve_out hL R hc hr with ⟨b0, _⟩ | ⟨_, b1, b2, b3, ⟨b4, b5⟩ | ⟨b4, b5, b6, b7, b8⟩⟩
  · omega
  · refine ⟨b1.symm, b2, ?_⟩
    rw [b3, w64, w64]; omega
  · refine ⟨b1.symm, b2, ?_⟩
    rw [b3, w64, w64]; omega
end Go.VX.M17
