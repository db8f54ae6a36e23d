/- Plain laws for ArbiterLoads: what is served stays a lease that may be. -/
import Derived.Test.YtgghljienippgaaVLd
namespace Go.VX.M17
set_option linter.unusedVariables false
theorem check_out {e ho u mo : Int} (h : mCheck e ho u mo = 0) : (mo = 1 ∨ mo = 2) ∧ ((ho = 0 ∧ e = 0 ∧ u = 0) ∨ ((ho = 1 ∨ ho = 2) ∧ 0 < e ∧ u ≤ 4611686018427397904)) := by
  unfold mCheck at h
  split at h
  · assumption
  · cases h
theorem check_in {e ho u mo : Int} (h1 : mo = 1 ∨ mo = 2) (h2 : ho = 1 ∨ ho = 2) (h3 : 0 < e) (h4 : u ≤ 4611686018427397904) : mCheck e ho u mo = 0 := by
  unfold mCheck; rw [if_pos ⟨h1, .inr ⟨h2, h3, h4⟩⟩]
theorem serve_check {L G now e ho u mo who nk ne old lsn tick ord st co : Int} {un : Bool} {kl dl : Nat} (hL : 1 ≤ L ∧ L ≤ 10000) (R : Rg now e ho u mo) (hc : mCheck e ho u mo = 0) {r : SR}
    (hr : mServe L G now e ho u mo ho who nk ne old lsn tick ord st un co kl dl = r) : mCheck r.e r.ho r.u r.mo = 0 := by
  have hno : ∀ c, mNo e ho u mo ho c = r → mCheck r.e r.ho r.u r.mo = 0 := by
    intro c h; subst h; exact hc
  unfold mServe at hr
  split at hr
  · exact hno _ hr
  rename_i c1
  split at hr
  · exact hno _ hr
  split at hr
  · exact hno _ hr
  rename_i c3
  subst hr
  have hw : who = 1 ∨ who = 2 := by omega
  have hn0 := R.now0
  have hn1 := R.now1
  have he0 := R.e0
  have he1 := R.e1
  obtain ⟨hm, ho'⟩ := check_out hc
  have h64 : IntKind.u64.wrap (now + L) = now + L := by rw [w64]; omega
  unfold mNext at c3 ⊢
  by_cases h0 : ne = 0
  · rw [if_pos h0] at c3 ⊢
    unfold mGrant at c3 ⊢
    split at c3
    · exact absurd (show (2 : Int) ≠ 0 by decide) c3
    · rename_i g1
      split at c3
      · exact absurd (show (71 : Int) ≠ 0 by decide) c3
      · rename_i g2
        split at c3
        · exact absurd (show (70 : Int) ≠ 0 by decide) c3
        · rename_i g3
          rw [if_neg g1, if_neg g2, if_neg g3]
          refine check_in hm hw ?_ ?_
          · show 0 < IntKind.u32.wrap (e + 1)
            rw [w32]; omega
          · show IntKind.u64.wrap (now + L) ≤ _
            rw [h64]; omega
  · rw [if_neg h0] at c3 ⊢
    have own : ∀ x, mOwn e ho u now who x = 0 → ho = who := by
      intro x h
      unfold mOwn at h
      split at h
      · exact absurd h (by decide)
      · omega
    by_cases h1 : co = 0
    · rw [if_pos h1] at c3 ⊢
      unfold mRenew at c3 ⊢
      split at c3
      · exact absurd (show (2 : Int) ≠ 0 by decide) c3
      · rename_i g1
        split at c3
        · exact absurd (show (71 : Int) ≠ 0 by decide) c3
        · rename_i g2
          split at c3
          · rename_i g3
            exact absurd g3 c3
          · rename_i g3
            rw [if_neg g1, if_neg g2, if_neg g3]
            have := own _ (Decidable.not_not.1 g3)
            have hh : 0 < e ∧ u ≤ 4611686018427397904 := by omega
            refine check_in hm (this ▸ hw) hh.1 ?_
            show (if IntKind.u64.wrap (now + L) > u then IntKind.u64.wrap (now + L) else u) ≤ 4611686018427397904
            rw [h64]
            have h3 := hh.2
            split <;> omega
    · rw [if_neg h1] at c3 ⊢
      unfold mTurn at c3 ⊢
      split at c3
      · exact absurd (show (2 : Int) ≠ 0 by decide) c3
      · rename_i g1
        split at c3
        · rename_i g3
          exact absurd g3 c3
        · rename_i g3
          rw [if_neg g1, if_neg g3]
          have := own _ (Decidable.not_not.1 g3)
          have hh : 0 < e ∧ u ≤ 4611686018427397904 := by omega
          exact check_in (show co = 1 ∨ co = 2 by omega) (this ▸ hw) hh.1 hh.2
theorem tick_rg {now e ho u mo n : Int} (R : Rg now e ho u mo) : Rg (mTick now n) e ho u mo := by
  have h := tick_range (n := n) R.now0 R.now1
  exact ⟨h.1, h.2, R.e0, R.e1, R.ho, R.u0, R.u1, R.mo⟩
theorem Bs_save (L G now e ho u mo la : Int) : Bs (mSaveN L G now e ho u mo la) := by
  have h : ∀ x : Int, 0 ≤ x % 256 ∧ x % 256 ≤ 255 := fun x => by omega
  have a1 : ∀ n, Bs (be1n n) := fun n x hx => by simp [be1n] at hx; rw [hx]; exact h _
  have a4 : ∀ n, Bs (be4n n) := fun n x hx => by
    simp [be4n] at hx
    rcases hx with rfl | rfl | rfl | rfl <;> exact h _
  have a8 : ∀ n, Bs (be8n n) := fun n x hx => by
    simp [be8n] at hx
    rcases hx with rfl | rfl | rfl | rfl | rfl | rfl | rfl | rfl <;> exact h _
  have ap : ∀ a b, Bs a → Bs b → Bs (a ++ b) := fun a b ha hb x hx => (List.mem_append.1 hx).elim (ha x) (hb x)
  exact ap _ _ (a8 _) (ap _ _ (a8 _) (ap _ _ (a8 _) (ap _ _ (a4 _) (ap _ _ (a1 _) (ap _ _ (a8 _) (ap _ _ (a1 _) (a1 _)))))))
end Go.VX.M17
