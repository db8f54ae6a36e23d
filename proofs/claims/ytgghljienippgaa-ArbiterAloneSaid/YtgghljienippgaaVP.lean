/- Plain laws on the models of chapter 17. -/
import Derived.Test.YtgghljienippgaaVM
namespace Go.VX.M17
theorem w64 (x : Int) : IntKind.u64.wrap x = x % 18446744073709551616 := rfl
theorem w32 (x : Int) : IntKind.u32.wrap x = x % 4294967296 := rfl

/-- a note that wants a lease, without more, may be -/
theorem chk_want {co : Int} (h0 : 0 ≤ co) (h1 : co ≤ 2) : mChk 0 0 0 0 0 false co 0 0 = 0 := by
  unfold mChk; rw [if_pos]; exact ⟨by omega, by omega, by omega, by omega, rfl, rfl, h0, by omega, rfl, rfl⟩

theorem check_held {e w u mo : Int} (hw : w = 1 ∨ w = 2) (hm : mo = 1 ∨ mo = 2) (he : 1 ≤ e) (hu : u ≤ 4611686018427397904) : mCheck e w u mo = 0 := by
  unfold mCheck; rw [if_pos]; exact ⟨hm, .inr ⟨hw, by omega, hu⟩⟩

theorem solo_first {L w : Int} (h1 : 1 ≤ L) (h2 : L ≤ 50) (hw : w = 1 ∨ w = 2) :
    mServe L 3 0 0 0 0 1 0 w 4 0 0 0 0 0 0 false 0 0 0 = ⟨5, 1, L, 1, 1, w, L, 1, w⟩ := by
  have hc := chk_want (co := 0) (by omega) (by omega)
  have hk : mCheck 0 0 0 1 = 0 := by decide
  have hf : mFree 0 0 0 1 0 3 = true := by decide
  have hn : mNext L 3 0 0 0 0 1 w 0 0 = (⟨1, w, L, 1⟩, 0) := by
    unfold mNext; rw [if_pos rfl]
    unfold mGrant
    rw [if_neg (by rw [hk]; omega), if_neg (by omega), hf, if_neg (by decide)]
    simp only [w64, w32]
    have : (0 + L) % 18446744073709551616 = L := by omega
    rw [this]; rfl
  unfold mServe
  rw [hc, hn, if_neg (by omega), if_neg (by omega), if_neg (fun h => h rfl)]
  simp only [w64]
  have : (L - 0) % 18446744073709551616 = L := by omega
  rw [this]

theorem solo_turn {L w : Int} (h1 : 1 ≤ L) (h2 : L ≤ 50) (hw : w = 1 ∨ w = 2) :
    mServe L 3 0 1 w L 1 w w 4 1 0 0 0 0 0 false 2 0 0 = ⟨5, 1, L, 2, 1, w, L, 2, w⟩ := by
  have hc := chk_want (co := 2) (by omega) (by omega)
  have hk : mCheck 1 w L 1 = 0 := check_held hw (.inl rfl) (by omega) (by omega)
  have ho : mOwn 1 w L 0 w 1 = 0 := by unfold mOwn; rw [if_neg (by omega), if_neg (by omega)]
  have hn : mNext L 3 0 1 w L 1 w 1 2 = (⟨1, w, L, 2⟩, 0) := by
    unfold mNext; rw [if_neg (by decide), if_neg (by decide)]
    unfold mTurn
    rw [hk, ho, if_neg (by omega), if_neg (by decide)]
  unfold mServe
  rw [hc, hn, if_neg (by omega), if_neg (by omega), if_neg (fun h => h rfl)]
  simp only [w64]
  have : (L - 0) % 18446744073709551616 = L := by omega
  rw [this]

/-- alone: whatever is wanted, the holder stays, and no other one is granted anything -/
theorem solo_keep {L now e u w who nk ne old lsn tick ord st co : Int} {un : Bool} {kl dl : Nat} (hL1 : 1 ≤ L) (hL2 : L ≤ 50) (hw : w = 1 ∨ w = 2)
    (hn0 : 0 ≤ now) (hn1 : now ≤ 12000) (he1 : 1 ≤ e) (he2 : e ≤ 61) (hu0 : 0 ≤ u) (hu1 : u ≤ now + 50) (r : SR)
    (hr : mServe L 3 now e w u 2 w who nk ne old lsn tick ord st un co kl dl = r) :
    r.ho = w ∧ r.la = w ∧ (r.mo = 1 ∨ r.mo = 2) ∧ (r.kind = 5 → who = w) ∧ (r.mo = 1 → who = w) ∧ e ≤ r.e ∧ r.e ≤ e + 1 ∧ 0 ≤ r.u ∧ r.u ≤ now + 50 := by
  have hno : ∀ c, mNo e w u 2 w c = r → r.ho = w ∧ r.la = w ∧ (r.mo = 1 ∨ r.mo = 2) ∧ (r.kind = 5 → who = w) ∧ (r.mo = 1 → who = w) ∧ e ≤ r.e ∧ r.e ≤ e + 1 ∧ 0 ≤ r.u ∧ r.u ≤ now + 50 := by
    intro c h; subst h
    simp only [mNo]
    refine ⟨?_, ?_, ?_, ?_, ?_, ?_, ?_, ?_, ?_⟩ <;> first | trivial | (intro h; exact absurd h (by decide)) | (intro _; trivial) | omega | simp
  unfold mServe at hr
  split at hr
  · exact hno _ hr
  rename_i c1
  split at hr
  · exact hno _ hr
  rename_i c2
  split at hr
  · exact hno _ hr
  rename_i c3
  have hck : mCheck e w u 2 = 0 := check_held hw (.inr rfl) he1 (by omega)
  subst hr
  unfold mNext at c3 ⊢
  by_cases h0 : ne = 0
  · rw [if_pos h0] at c3 ⊢
    have hww : who = w := by omega
    subst hww
    unfold mGrant at c3 ⊢
    rw [hck] at c3 ⊢
    rw [if_neg (by omega)] at c3 ⊢
    rw [if_neg (by omega)] at c3 ⊢
    split at c3
    · exact absurd c3 (by decide)
    rename_i c4
    rw [if_neg c4]
    simp only [w32, w64]
    refine ⟨?_, ?_, ?_, ?_, ?_, ?_, ?_, ?_, ?_⟩ <;> first | trivial | (intro h; exact absurd h (by decide)) | (intro _; trivial) | omega | simp
  · rw [if_neg h0] at c3 ⊢
    by_cases h1 : co = 0
    · rw [if_pos h1] at c3 ⊢
      unfold mRenew at c3 ⊢
      rw [hck] at c3 ⊢
      split at c3
      · exact absurd c3 (by decide)
      rename_i c4
      rw [if_neg c4]
      rw [if_neg (by omega)] at c3 ⊢
      split at c3
      · rename_i c5; exact absurd c3 (by simpa using c5)
      rename_i c5
      rw [if_neg c5]
      have hww : who = w := by
        unfold mOwn at c5
        split at c5
        · omega
        · omega
      subst hww
      simp only [w64]
      refine ⟨?_, ?_, ?_, ?_, ?_, ?_, ?_, ?_, ?_⟩ <;> first | trivial | (intro h; exact absurd h (by decide)) | (intro _; trivial) | omega | (split <;> omega) | simp
    · rw [if_neg h1] at c3 ⊢
      unfold mTurn at c3 ⊢
      rw [hck] at c3 ⊢
      split at c3
      · exact absurd c3 (by decide)
      rename_i c4
      rw [if_neg c4]
      split at c3
      · rename_i c5; exact absurd c3 (by simpa using c5)
      rename_i c5
      rw [if_neg c5]
      have hww : who = w := by
        unfold mOwn at c5
        split at c5
        · omega
        · omega
      subst hww
      refine ⟨rfl, rfl, ?_, fun _ => rfl, fun _ => rfl, Int.le_refl _, ?_, hu0, hu1⟩
      · show co = 1 ∨ co = 2
        omega
      · show e ≤ e + 1
        omega

theorem tick_bound {now d : Int} (h0 : 0 ≤ now) (h1 : now ≤ 100000) (hd : 0 ≤ d) (hd1 : d ≤ 20000) : mTick now d = now + d := by
  unfold mTick
  have e1 : IntKind.u64.wrap d = d := by rw [w64]; omega
  have e2 : IntKind.u64.wrap (4611686018427387904 - now) = 4611686018427387904 - now := by rw [w64]; omega
  split
  · rw [e1, e2, if_neg (by omega), w64]; omega
  · omega

/-- behind all: the other one is told that one works alone -/
theorem solo_no {L now e u w : Int} (hw : w = 1 ∨ w = 2) : mServe L 3 now e w u 2 w (3 - w) 4 0 0 0 0 0 0 false 0 0 0 = mNo e w u 2 w 5 := by
  have hc := chk_want (co := 0) (by omega) (by omega)
  unfold mServe
  rw [hc, if_neg (by omega), if_pos (by omega)]

/-- and who had the lease has it again -/
theorem solo_again {L now e u w : Int} (hL1 : 1 ≤ L) (hL2 : L ≤ 50) (hw : w = 1 ∨ w = 2) (hn0 : 20000 ≤ now) (hn1 : now ≤ 40000) (he1 : 1 ≤ e) (he2 : e ≤ 61) (hu0 : 0 ≤ u) (hu1 : u ≤ now - 20000 + 50) :
    (mServe L 3 now e w u 2 w w 4 0 0 0 0 0 0 false 0 0 0).kind = 5 ∧ (mServe L 3 now e w u 2 w w 4 0 0 0 0 0 0 false 0 0 0).code = 2 := by
  have hc := chk_want (co := 0) (by omega) (by omega)
  have hck : mCheck e w u 2 = 0 := check_held hw (.inr rfl) he1 (by omega)
  have hf : mFree e w u 2 now 3 = true := by
    unfold mFree
    rw [hck, if_neg (by omega), if_neg (by omega), if_pos (by omega)]
    simp only [w64]
    exact decide_eq_true (by omega)
  have hn : (mNext L 3 now e w u 2 w 0 0).2 = 0 ∧ (mNext L 3 now e w u 2 w 0 0).1.mo = 2 := by
    unfold mNext; rw [if_pos rfl]
    unfold mGrant
    rw [hck, hf, if_neg (by omega), if_neg (by omega), if_neg (by decide)]
    exact ⟨rfl, rfl⟩
  unfold mServe
  rw [hc, if_neg (by omega), if_neg (by omega), if_neg (by rw [hn.1]; decide)]
  exact ⟨rfl, hn.2⟩
theorem code_range (x : Int) : 1 ≤ mCode x ∧ mCode x ≤ 6 := by unfold mCode; (repeat' split) <;> omega

theorem tick_0 {now n : Int} (h : n < 1) : mTick now n = now := by unfold mTick; rw [if_neg (by omega)]
theorem tick_1 {now n : Int} (h : 1 ≤ n) (h2 : IntKind.u64.wrap n < IntKind.u64.wrap (4611686018427387904 - now)) : mTick now n = IntKind.u64.wrap (now + IntKind.u64.wrap n) := by
  unfold mTick; rw [if_pos (by omega), if_neg (by omega)]
theorem tick_2 {now n : Int} (h : 1 ≤ n) (h2 : IntKind.u64.wrap (4611686018427387904 - now) ≤ IntKind.u64.wrap n) : mTick now n = IntKind.u64.wrap (now + IntKind.u64.wrap (4611686018427387904 - now)) := by
  unfold mTick
  rw [if_pos (by omega)]
  split
  · rfl
  · rw [show IntKind.u64.wrap n = IntKind.u64.wrap (4611686018427387904 - now) by omega]

/-- the reference's: a site, and a length, that may not be -/
def mWrong (e ho u mo who len : Int) : Bool := decide (mCheck e ho u mo ≠ 0 ∨ ¬ (who = 1 ∨ who = 2) ∨ ¬ (1 ≤ len ∧ len ≤ 10000))
theorem mWrong_t {e ho u mo who len : Int} : mWrong e ho u mo who len = true ↔ (mCheck e ho u mo ≠ 0 ∨ ¬ (who = 1 ∨ who = 2) ∨ ¬ (1 ≤ len ∧ len ≤ 10000)) := by unfold mWrong; exact decide_eq_true_iff
theorem mWrong_f {e ho u mo who len : Int} : mWrong e ho u mo who len = false ↔ ¬ (mCheck e ho u mo ≠ 0 ∨ ¬ (who = 1 ∨ who = 2) ∨ ¬ (1 ≤ len ∧ len ≤ 10000)) := by unfold mWrong; exact decide_eq_false_iff_not

theorem free_leaf {e ho u mo now guard : Int} (hc : 0 ≤ e ∧ 0 ≤ u ∧ 0 ≤ now ∧ now ≤ 18446744073709551615 ∧ 0 ≤ guard) :
    (mCheck e ho u mo ≠ 0 ∨ 10000 < guard → mFree e ho u mo now guard = false) ∧
    (¬ (mCheck e ho u mo ≠ 0 ∨ 10000 < guard) → ho = 0 → mFree e ho u mo now guard = true) ∧
    (¬ (mCheck e ho u mo ≠ 0 ∨ 10000 < guard) → ho ≠ 0 → mFree e ho u mo now guard = decide (now > IntKind.u64.wrap (u + guard))) := by
  refine ⟨fun h => by unfold mFree; rw [if_pos h], fun h h0 => by unfold mFree; rw [if_neg h, if_pos h0], fun h h0 => ?_⟩
  unfold mFree
  rw [if_neg h, if_neg h0]
  have hu : u ≤ 4611686018427397904 := by
    have h1 : mCheck e ho u mo = 0 := by omega
    unfold mCheck at h1
    split at h1
    · omega
    · cases h1
  rw [w64, w64]
  split
  · apply decide_eq_decide.2; omega
  · symm; rw [decide_eq_false_iff_not]; omega

/-- of any answer: its epoch, and what is granted -/
theorem epochs_law {L G now e ho u mo la who nk ne old lsn tick ord st co : Int} {un : Bool} {kl dl : Nat} (he0 : 0 ≤ e) (he1 : e ≤ 4294967295) (r : SR)
    (hr : mServe L G now e ho u mo la who nk ne old lsn tick ord st un co kl dl = r) :
    r.ep = r.e ∧ 0 ≤ r.e ∧ r.e ≤ 4294967295 ∧ ((r.kind = 6 ∧ r.e = e ∧ r.ho = ho ∧ r.u = u ∧ r.mo = mo ∧ 1 ≤ r.code ∧ r.code ≤ 6) ∨
      (r.kind = 5 ∧ (ne = 0 → r.e = IntKind.u32.wrap (e + 1)) ∧ (ne ≠ 0 → r.e = e ∧ r.e ≠ IntKind.u32.wrap (e + 1)) ∧ r.ho = who ∧ r.tick = IntKind.u64.wrap (r.u - now) ∧ r.code = r.mo)) := by
  have hno : ∀ c, 1 ≤ c → c ≤ 6 → mNo e ho u mo la c = r → r.ep = r.e ∧ 0 ≤ r.e ∧ r.e ≤ 4294967295 ∧ ((r.kind = 6 ∧ r.e = e ∧ r.ho = ho ∧ r.u = u ∧ r.mo = mo ∧ 1 ≤ r.code ∧ r.code ≤ 6) ∨
      (r.kind = 5 ∧ (ne = 0 → r.e = IntKind.u32.wrap (e + 1)) ∧ (ne ≠ 0 → r.e = e ∧ r.e ≠ IntKind.u32.wrap (e + 1)) ∧ r.ho = who ∧ r.tick = IntKind.u64.wrap (r.u - now) ∧ r.code = r.mo)) := by
    intro c h1 h2 h; subst h
    exact ⟨rfl, he0, he1, .inl ⟨rfl, rfl, rfl, rfl, rfl, h1, h2⟩⟩
  unfold mServe at hr
  split at hr
  · exact hno _ (by omega) (by omega) hr
  split at hr
  · exact hno _ (by omega) (by omega) hr
  split at hr
  · exact hno _ (code_range _).1 (code_range _).2 hr
  rename_i c3
  subst hr
  have hw : 0 ≤ IntKind.u32.wrap (e + 1) ∧ IntKind.u32.wrap (e + 1) ≤ 4294967295 ∧ IntKind.u32.wrap (e + 1) ≠ e := by rw [w32]; omega
  unfold mNext at c3 ⊢
  by_cases h0 : ne = 0
  · rw [if_pos h0] at c3 ⊢
    unfold mGrant at c3 ⊢
    split at c3
    · exact absurd c3 (by decide)
    rename_i c4
    rw [if_neg c4]
    split at c3
    · exact absurd c3 (by decide)
    rename_i c5
    rw [if_neg c5]
    split at c3
    · exact absurd c3 (by decide)
    rename_i c6
    rw [if_neg c6]
    exact ⟨rfl, hw.1, hw.2.1, .inr ⟨rfl, fun _ => rfl, fun h => absurd h0 h, rfl, rfl, rfl⟩⟩
  · rw [if_neg h0] at c3 ⊢
    by_cases h1 : co = 0
    · rw [if_pos h1] at c3 ⊢
      unfold mRenew at c3 ⊢
      split at c3
      · exact absurd c3 (by decide)
      rename_i c4
      rw [if_neg c4]
      split at c3
      · exact absurd c3 (by decide)
      rename_i c5
      rw [if_neg c5]
      split at c3
      · rename_i c6; exact absurd c3 (by simpa using c6)
      rename_i c6
      rw [if_neg c6]
      have hww : ho = who := by
        unfold mOwn at c6
        split at c6
        · omega
        · omega
      exact ⟨rfl, he0, he1, .inr ⟨rfl, fun h => absurd h h0, fun _ => ⟨rfl, Ne.symm hw.2.2⟩, hww, rfl, rfl⟩⟩
    · rw [if_neg h1] at c3 ⊢
      unfold mTurn at c3 ⊢
      split at c3
      · exact absurd c3 (by decide)
      rename_i c4
      rw [if_neg c4]
      split at c3
      · rename_i c6; exact absurd c3 (by simpa using c6)
      rename_i c6
      rw [if_neg c6]
      have hww : ho = who := by
        unfold mOwn at c6
        split at c6
        · omega
        · omega
      exact ⟨rfl, he0, he1, .inr ⟨rfl, fun h => absurd h h0, fun _ => ⟨rfl, Ne.symm hw.2.2⟩, hww, rfl, rfl⟩⟩
end Go.VX.M17
