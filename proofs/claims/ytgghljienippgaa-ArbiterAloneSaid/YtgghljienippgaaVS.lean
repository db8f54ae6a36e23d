/- Plain laws for ArbiterServes. -/
import Derived.Test.YtgghljienippgaaVP
import Derived.Test.YtgghljienippgaaVN
namespace Go.VX.M17
set_option linter.unusedVariables false
set_option linter.unusedSimpArgs false
/-- the reference's bytes of a number -/
def tdivs : Nat → Int → Int
  | 0, n => n
  | k + 1, n => IntKind.u64.wrap (Int.tdiv (tdivs k n) 256)
def rb (k : Nat) (n : Int) : Int := IntKind.u8.wrap (Int.tmod (tdivs k n) 256)
theorem w8 (x : Int) : IntKind.u8.wrap x = x % 256 := rfl
theorem tdivs_eq {n : Int} (h : 0 ≤ n) (h2 : n ≤ 18446744073709551615) : ∀ k, tdivs k n = n / (256 ^ k : Nat) ∧ 0 ≤ tdivs k n ∧ tdivs k n ≤ 18446744073709551615
  | 0 => by simp [tdivs]; exact ⟨h, h2⟩
  | k + 1 => by
    obtain ⟨hk, h0, h1⟩ := tdivs_eq h h2 k
    have e : tdivs (k + 1) n = tdivs k n / 256 := by
      show IntKind.u64.wrap (Int.tdiv (tdivs k n) 256) = _
      rw [w64, Int.tdiv_eq_ediv_of_nonneg h0]; omega
    refine ⟨?_, by rw [e]; omega, by rw [e]; omega⟩
    rw [e, hk, Int.ediv_ediv_of_nonneg (Int.natCast_nonneg _)]
    congr 1
theorem rb_eq {n : Int} (h : 0 ≤ n) (h2 : n ≤ 18446744073709551615) (k : Nat) : rb k n = n / (256 ^ k : Nat) % 256 := by
  obtain ⟨hk, h0, h1⟩ := tdivs_eq h h2 k
  unfold rb
  rw [w8, Int.tmod_eq_emod_of_nonneg h0, hk]
  exact Int.emod_emod_of_dvd _ (Int.dvd_refl _)
def u8v (n : Int) : Value := .int .u8 n
/-- a number's bytes, the great ones first -/
def be1 (n : Int) : List Value := [.int .u8 (n % 256)]
def be4 (n : Int) : List Value := [.int .u8 (n / 16777216 % 256), .int .u8 (n / 65536 % 256), .int .u8 (n / 256 % 256), .int .u8 (n % 256)]
def be8 (n : Int) : List Value := [.int .u8 (n / 72057594037927936 % 256), .int .u8 (n / 281474976710656 % 256), .int .u8 (n / 1099511627776 % 256), .int .u8 (n / 4294967296 % 256), .int .u8 (n / 16777216 % 256), .int .u8 (n / 65536 % 256), .int .u8 (n / 256 % 256), .int .u8 (n % 256)]
/-- an arbiter's bytes -/
def mSave (L G now e ho u mo la : Int) : List Value := be8 L ++ (be8 G ++ (be8 now ++ (be4 e ++ (be1 ho ++ (be8 u ++ (be1 mo ++ be1 la))))))
/-- the reference's Num -/
def numR (n : Int) : Nat → List Value
  | 0 => []
  | k + 1 => .int .u8 (rb k n) :: numR n k
theorem numR1 {n : Int} (h : 0 ≤ n) (h2 : n ≤ 18446744073709551615) : numR n 1 = be1 n := by simp [numR, be1, rb_eq h h2]
theorem numR4 {n : Int} (h : 0 ≤ n) (h2 : n ≤ 18446744073709551615) : numR n 4 = be4 n := by simp [numR, be4, rb_eq h h2]
theorem numR8 {n : Int} (h : 0 ≤ n) (h2 : n ≤ 18446744073709551615) : numR n 8 = be8 n := by simp [numR, be8, rb_eq h h2]

theorem names_empty (k : Int) : (ByteArray.toList (mNames k) == ByteArray.toList ⟨#[]⟩) = decide (k < 1 ∨ 13 < k) := by
  rw [ByteArray.toList_eq, ByteArray.toList_eq]
  by_cases hk : 1 ≤ k ∧ k ≤ 13
  · rw [show decide (k < 1 ∨ 13 < k) = false from decide_eq_false (by omega)]
    rcases (by omega : k = 1 ∨ k = 2 ∨ k = 3 ∨ k = 4 ∨ k = 5 ∨ k = 6 ∨ k = 7 ∨ k = 8 ∨ k = 9 ∨ k = 10 ∨ k = 11 ∨ k = 12 ∨ k = 13) with rfl | rfl | rfl | rfl | rfl | rfl | rfl | rfl | rfl | rfl | rfl | rfl | rfl <;> rfl
  · have : mNames k = ⟨#[]⟩ := by
      unfold mNames
      repeat rw [if_neg (by omega)]
    rw [this, show decide (k < 1 ∨ 13 < k) = true from decide_eq_true (by omega)]; rfl

theorem chk_co {old lsn tick ord st : Int} {un : Bool} {co : Int} {kl dl : Nat} (h : mChk old lsn tick ord st un co kl dl = 0) : 0 ≤ co := by
  unfold mChk at h
  split at h
  · omega
  · cases h
/-- the two Checks of a note that wants a lease -/
theorem chk_same {ne old lsn tick ord st : Int} {un : Bool} {co : Int} {kl dl : Nat} (h1 : 0 ≤ old) (h2 : 0 ≤ lsn) (h3 : 0 ≤ tick) (h4 : 0 ≤ ord) :
    mRChk 4 ne old lsn tick ord st un co kl dl = 0 ↔ mChk old lsn tick ord st un co kl dl = 0 := by
  have hne : (ByteArray.toList (mNames 4) == ByteArray.toList ⟨#[]⟩) = false := names_empty 4
  have a : mHas 4 69 = true := by decide
  have b : mHas 4 80 = false := by decide
  have c : mHas 4 76 = false := by decide
  have d : mHas 4 84 = false := by decide
  have e : mHas 4 79 = false := by decide
  have f : mHas 4 83 = false := by decide
  have g : mHas 4 85 = false := by decide
  have i : mHas 4 67 = true := by decide
  have j : mHas 4 75 = false := by decide
  have k : mHas 4 68 = false := by decide
  unfold mRChk mRChk2 mChk
  rw [hne, a, b, c, d, e, f, g, i, j, k]
  simp only [cond_eq_ite, Bool.false_or, Bool.or_eq_true, Bool.and_eq_true, Bool.not_true, Bool.not_false, Bool.and_true, Bool.and_false, Bool.true_and, decide_eq_true_eq, Bool.not_eq_true', beq_eq_false_iff_ne, beq_iff_eq]
  cases un <;> simp <;> (repeat' split) <;> omega

structure Rg (now e ho u mo : Int) : Prop where
  now0 : 0 ≤ now
  now1 : now ≤ 4611686018427387904
  e0 : 0 ≤ e
  e1 : e ≤ 4294967295
  ho : 0 ≤ ho ∧ ho ≤ 2
  u0 : 0 ≤ u
  u1 : u ≤ 18446744073709551615
  mo : 1 ≤ mo ∧ mo ≤ 2

theorem serve_range {L G now e ho u mo who nk ne old lsn tick ord st co : Int} {un : Bool} {kl dl : Nat} (R : Rg now e ho u mo) {r : SR}
    (hr : mServe L G now e ho u mo ho who nk ne old lsn tick ord st un co kl dl = r) : Rg now r.e r.ho r.u r.mo ∧ r.la = r.ho := by
  have hno : ∀ c, mNo e ho u mo ho c = r → Rg now r.e r.ho r.u r.mo ∧ r.la = r.ho := by
    intro c h; subst h; exact ⟨R, rfl⟩
  unfold mServe at hr
  split at hr
  · exact hno _ hr
  rename_i c1
  split at hr
  · exact hno _ hr
  split at hr
  · exact hno _ hr
  rename_i c3
  subst hr
  have hw : 1 ≤ who ∧ who ≤ 2 := by omega
  have h64 : ∀ x : Int, 0 ≤ IntKind.u64.wrap x ∧ IntKind.u64.wrap x ≤ 18446744073709551615 := fun x => by rw [w64]; omega
  have h32 : ∀ x : Int, 0 ≤ IntKind.u32.wrap x ∧ IntKind.u32.wrap x ≤ 4294967295 := fun x => by rw [w32]; omega
  unfold mNext at c3 ⊢
  by_cases h0 : ne = 0
  · rw [if_pos h0] at c3 ⊢
    unfold mGrant at c3 ⊢
    split at c3
    · exact absurd (show (2 : Int) ≠ 0 by decide) c3
    · rename_i g1
      split at c3
      · exact absurd (show (71 : Int) ≠ 0 by decide) c3
      · rename_i g2
        split at c3
        · exact absurd (show (70 : Int) ≠ 0 by decide) c3
        · rename_i g3
          rw [if_neg g1, if_neg g2, if_neg g3]
          exact ⟨⟨R.now0, R.now1, (h32 _).1, (h32 _).2, ⟨by dsimp only; omega, by dsimp only; omega⟩, (h64 _).1, (h64 _).2, R.mo⟩, rfl⟩
  · rw [if_neg h0] at c3 ⊢
    by_cases h1 : co = 0
    · rw [if_pos h1] at c3 ⊢
      unfold mRenew at c3 ⊢
      split at c3
      · exact absurd (show (2 : Int) ≠ 0 by decide) c3
      · rename_i g1
        split at c3
        · exact absurd (show (71 : Int) ≠ 0 by decide) c3
        · rename_i g2
          split at c3
          · rename_i g3
            exact absurd g3 c3
          · rename_i g3
            rw [if_neg g1, if_neg g2, if_neg g3]
            have : ho = who := by
              unfold mOwn at g3
              split at g3
              · exact absurd (show (72 : Int) ≠ 0 by decide) g3
              · omega
            refine ⟨⟨R.now0, R.now1, R.e0, R.e1, R.ho, ?_, ?_, R.mo⟩, this.symm⟩ <;> dsimp only <;> split
            · exact (h64 _).1
            · exact R.u0
            · exact (h64 _).2
            · exact R.u1
    · rw [if_neg h1] at c3 ⊢
      unfold mTurn at c3 ⊢
      split at c3
      · exact absurd (show (2 : Int) ≠ 0 by decide) c3
      · rename_i g1
        split at c3
        · rename_i g3
          exact absurd g3 c3
        · rename_i g3
          rw [if_neg g1, if_neg g3]
          have : ho = who := by
            unfold mOwn at g3
            split at g3
            · exact absurd (show (72 : Int) ≠ 0 by decide) g3
            · omega
          exact ⟨⟨R.now0, R.now1, R.e0, R.e1, R.ho, R.u0, R.u1, by dsimp only; omega⟩, this.symm⟩

theorem tick_range {now n : Int} (h0 : 0 ≤ now) (h1 : now ≤ 4611686018427387904) : 0 ≤ mTick now n ∧ mTick now n ≤ 4611686018427387904 := by
  unfold mTick
  split
  · rw [w64, w64, w64]
    split <;> omega
  · omega
theorem wu64 (x : Int) : IntKind.u64.wrap x = x % 18446744073709551616 := rfl
theorem pb0 (x : Int) : IntKind.u8.wrap (Int.fdiv x 1) = x % 256 := by rw [Int.fdiv_eq_ediv_of_nonneg x (show (0 : Int) ≤ 1 by decide), w8]; omega
theorem qb0 (x : Int) : IntKind.u8.wrap (Int.fdiv (IntKind.u64.wrap x) 1) = x % 256 := by rw [Int.fdiv_eq_ediv_of_nonneg _ (show (0 : Int) ≤ 1 by decide), w8, wu64]; omega
theorem pb1 (x : Int) : IntKind.u8.wrap (Int.fdiv x 256) = x / 256 % 256 := by rw [Int.fdiv_eq_ediv_of_nonneg x (show (0 : Int) ≤ 256 by decide), w8]
theorem qb1 (x : Int) : IntKind.u8.wrap (Int.fdiv (IntKind.u64.wrap x) 256) = x / 256 % 256 := by rw [Int.fdiv_eq_ediv_of_nonneg _ (show (0 : Int) ≤ 256 by decide), w8, wu64]; omega
theorem pb2 (x : Int) : IntKind.u8.wrap (Int.fdiv x 65536) = x / 65536 % 256 := by rw [Int.fdiv_eq_ediv_of_nonneg x (show (0 : Int) ≤ 65536 by decide), w8]
theorem qb2 (x : Int) : IntKind.u8.wrap (Int.fdiv (IntKind.u64.wrap x) 65536) = x / 65536 % 256 := by rw [Int.fdiv_eq_ediv_of_nonneg _ (show (0 : Int) ≤ 65536 by decide), w8, wu64]; omega
theorem pb3 (x : Int) : IntKind.u8.wrap (Int.fdiv x 16777216) = x / 16777216 % 256 := by rw [Int.fdiv_eq_ediv_of_nonneg x (show (0 : Int) ≤ 16777216 by decide), w8]
theorem qb3 (x : Int) : IntKind.u8.wrap (Int.fdiv (IntKind.u64.wrap x) 16777216) = x / 16777216 % 256 := by rw [Int.fdiv_eq_ediv_of_nonneg _ (show (0 : Int) ≤ 16777216 by decide), w8, wu64]; omega
theorem pb4 (x : Int) : IntKind.u8.wrap (Int.fdiv x 4294967296) = x / 4294967296 % 256 := by rw [Int.fdiv_eq_ediv_of_nonneg x (show (0 : Int) ≤ 4294967296 by decide), w8]
theorem qb4 (x : Int) : IntKind.u8.wrap (Int.fdiv (IntKind.u64.wrap x) 4294967296) = x / 4294967296 % 256 := by rw [Int.fdiv_eq_ediv_of_nonneg _ (show (0 : Int) ≤ 4294967296 by decide), w8, wu64]; omega
theorem pb5 (x : Int) : IntKind.u8.wrap (Int.fdiv x 1099511627776) = x / 1099511627776 % 256 := by rw [Int.fdiv_eq_ediv_of_nonneg x (show (0 : Int) ≤ 1099511627776 by decide), w8]
theorem qb5 (x : Int) : IntKind.u8.wrap (Int.fdiv (IntKind.u64.wrap x) 1099511627776) = x / 1099511627776 % 256 := by rw [Int.fdiv_eq_ediv_of_nonneg _ (show (0 : Int) ≤ 1099511627776 by decide), w8, wu64]; omega
theorem pb6 (x : Int) : IntKind.u8.wrap (Int.fdiv x 281474976710656) = x / 281474976710656 % 256 := by rw [Int.fdiv_eq_ediv_of_nonneg x (show (0 : Int) ≤ 281474976710656 by decide), w8]
theorem qb6 (x : Int) : IntKind.u8.wrap (Int.fdiv (IntKind.u64.wrap x) 281474976710656) = x / 281474976710656 % 256 := by rw [Int.fdiv_eq_ediv_of_nonneg _ (show (0 : Int) ≤ 281474976710656 by decide), w8, wu64]; omega
theorem pb7 (x : Int) : IntKind.u8.wrap (Int.fdiv x 72057594037927936) = x / 72057594037927936 % 256 := by rw [Int.fdiv_eq_ediv_of_nonneg x (show (0 : Int) ≤ 72057594037927936 by decide), w8]
theorem qb7 (x : Int) : IntKind.u8.wrap (Int.fdiv (IntKind.u64.wrap x) 72057594037927936) = x / 72057594037927936 % 256 := by rw [Int.fdiv_eq_ediv_of_nonneg _ (show (0 : Int) ≤ 72057594037927936 by decide), w8, wu64]; omega
theorem ub0 (x : Int) : IntKind.u8.wrap x % 256 = x % 256 := by rw [w8]; omega
theorem vb0 (x : Int) : IntKind.u64.wrap x % 256 = x % 256 := by rw [wu64]; omega
theorem vb1 (x : Int) : IntKind.u64.wrap x / 256 % 256 = x / 256 % 256 := by rw [wu64]; omega
theorem vb2 (x : Int) : IntKind.u64.wrap x / 65536 % 256 = x / 65536 % 256 := by rw [wu64]; omega
theorem vb3 (x : Int) : IntKind.u64.wrap x / 16777216 % 256 = x / 16777216 % 256 := by rw [wu64]; omega
theorem shl1 : IntKind.u64.wrap (1 * 2 ^ Min.min (Int.toNat (IntKind.u64.wrap (IntKind.i64.wrap (8 * 1)))) IntKind.u64.bits) = 256 := by decide
theorem shl4 : IntKind.u64.wrap (1 * 2 ^ Min.min (Int.toNat (IntKind.u64.wrap (IntKind.i64.wrap (8 * 4)))) IntKind.u64.bits) = 4294967296 := by decide
def SR.rcells (r : SR) (L G now : Int) : List Value := [.int .u64 L, .int .u64 G, .int .u64 now, .int .u32 r.e, .int .i64 r.ho, .int .u64 r.u, .int .i64 r.mo]
/-- drayageref00.Spoil -/
def invSp (g n cap : Nat) (c : List Value) : Nat → Option (St → Inv)
  | 1 => some fun _ => {
      ι := Int × List Value
      reb := false
      dom := fun _ i => 0 ≤ i.1 ∧ i.1 ≤ n ∧ i.2.length = c.length ∧ (∀ v ∈ i.2.take n, ∃ x, v = .int .u8 x)
      live := fun _ i => [(0, .slice (some ⟨g, 0, none⟩) n cap, [[some 0]]), (2, .int .i64 i.1, [])]
      blk := fun _ i => [⟨g, i.2, 5, [], none, false, .sym⟩]
      μ := fun i => n - i.1.toNat }
  | _ => none
end Go.VX.M17
