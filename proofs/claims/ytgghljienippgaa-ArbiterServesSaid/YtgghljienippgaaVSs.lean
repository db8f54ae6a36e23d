/- The contracts that ArbiterServes calls, in one chain; what its loop keeps. -/
import Derived.Test.YtgghljienippgaaVsr
import Derived.Test.YtgghljienippgaaVsave
import Derived.Test.YtgghljienippgaaVrsave
import Derived.Test.YtgghljienippgaaVspoil
import Derived.Test.YtgghljienippgaaVrserve
import Derived.Test.YtgghljienippgaaVsame
namespace Go.VX
open Go.Proofs
open Go.RowKit (Below)
open Go.VX.M17
set_option linter.unusedVariables false
def spS1 (w : World) : CV := addSt 18 54 (fun r c => match r, c with
  | [.int .i64 n], [.int .u64 L, .int .u64 G, .int .u64 now, .int .u32 e, .int .i64 ho, .int .u64 u, .int .i64 mo] => some (.tuple #[], [.int .u64 L, .int .u64 G, .int .u64 (mTick now n), .int .u32 e, .int .i64 ho, .int .u64 u, .int .i64 mo])
  | _, _ => none) (spR w)
theorem spS1_ok (P : Program) (w : World) (hP : P = Try.prog) : CVok P w (spS1 w) := by
  subst hP
  refine addSt_ok (fun r g c v c' w h hg => ?_) (spR_ok _ _ rfl)
  split at h
  · cases h; exact rtick_calls g _ _ _ _ _ _ _ _ w hg
  · cases h
def spS2 (w : World) : CV := addStC 19 54 (fun r c => match r, c with
  | [.int .i64 who, .agg a], [.int .u64 L, .int .u64 G, .int .u64 now, .int .u32 e, .int .i64 ho, .int .u64 u, .int .i64 mo] => (match a.toList with
    | [.int .i64 nk, .int .u32 ne, .int .u32 old, .int .u64 lsn, .int .u64 tick, .int .u32 ord, .int .i64 st, .bool un, .int .i64 co, .slice K kl kc, .slice D dl dc] =>
      some (((0 ≤ e ∧ 0 ≤ u ∧ 0 ≤ now ∧ now ≤ 18446744073709551615 ∧ 0 ≤ G ∧ 0 ≤ ne ∧ (nk = 4 → (mRChk nk ne old lsn tick ord st un co kl dl = 0 ↔ mChk old lsn tick ord st un co kl dl = 0))) : Prop),
        (mServe L G now e ho u mo ho who nk ne old lsn tick ord st un co kl dl), fun y => (SR.note y, SR.rcells y L G now))
    | _ => none)
  | _, _ => none) (spS1 w)
theorem spS2_ok (P : Program) (w : World) (hP : P = Try.prog) : CVok P w (spS2 w) := by
  subst hP
  refine addStC_ok (fun r g c p x F w h hp hg => ?_) (spS1_ok _ _ rfl)
  split at h
  · split at h
    · rename_i hc; cases h; obtain rfl := arr_of hc; exact rserve_calls g _ _ _ _ _ _ _ _ _ _ _ _ _ _ _ _ _ _ _ _ _ _ _ w hg ⟨⟨hp.1, hp.2.1, hp.2.2.1, hp.2.2.2.1, hp.2.2.2.2.1, hp.2.2.2.2.2.1, chk_co⟩, hp.2.2.2.2.2.2⟩
    · cases h
  · cases h
def spS3 (w : World) : CV := addNewM 21 71 5 (fun r c => match r, c with
  | [], [.int .u64 L, .int .u64 G, .int .u64 now, .int .u32 e, .int .i64 ho, .int .u64 u, .int .i64 mo, .int .i64 la] => some (39, mSave L G now e ho u mo la)
  | _, _ => none) (spS2 w)
theorem spS3_ok (P : Program) (w : World) (hP : P = Try.prog) : CVok P w (spS3 w) := by
  subst hP
  refine addNewM_ok (fun r g c n l w h hg => ?_) (spS2_ok _ _ rfl)
  split at h
  · cases h; exact save_calls g _ _ _ _ _ _ _ _ w hg
  · cases h
def spS4 (w : World) : CV := addNewMC 24 54 5 (fun r c => match r, c with
  | [], [.int .u64 L, .int .u64 G, .int .u64 now, .int .u32 e, .int .i64 ho, .int .u64 u, .int .i64 mo] => some (((0 ≤ L ∧ L ≤ 10000) ∧ (0 ≤ G ∧ G ≤ 10000) ∧ Rg now e ho u mo), 39, mSave L G now e ho u mo ho)
  | _, _ => none) (spS3 w)
theorem spS4_ok (P : Program) (w : World) (hP : P = Try.prog) : CVok P w (spS4 w) := by
  subst hP
  refine addNewMC_ok (fun r g c p n l w h hp hg => ?_) (spS3_ok _ _ rfl)
  split at h
  · cases h; exact rsave_calls g _ _ _ _ _ _ _ w hg hp
  · cases h
def isB : List Value → Prop := fun l => ∀ v ∈ l, ∃ x, v = .int .u8 x
def spS (w : World) : CV := addMutE 25 5 isB (spS4 w)
theorem spS_ok (P : Program) (w : World) (hP : P = Try.prog) : CVok P w (spS w) := by
  subst hP
  exact addMutE_ok (fun g n cap c w hg h1 h2 h3 => spoil_calls g n cap c w hg h1 h2 h3) (spS4_ok _ _ rfl)
theorem spSL_ok (A : Option Addr) (n cap : Nat) (w : World) (hA : ActsAt w A n) : CVok Try.prog w (addLong A n cap (spS w)) :=
  addLong_ok (fun w' B => long_calls A n cap w' (hA.below B)) (spS_ok _ _ rfl)
/-- drayagelaw17.ArbiterServes: its round's number, the ticks, the lease -/
def invV (A : Option Addr) (n cap : Nat) (L G : Int) : Nat → Option (St → Inv)
  | 10 => some fun st => match evT st.t (.tmp 7), evT st.t (.tmp 9) with
    | .pointer (some ⟨ga, _, _⟩), .pointer (some ⟨gm, _, _⟩) =>
      { ι := Int × Int × Int × Int × Int × Int
        reb := false
        dom := fun _ i => 0 ≤ i.1 ∧ i.1 ≤ 100 ∧ i.1 ≤ n ∧ Rg i.2.1 i.2.2.1 i.2.2.2.1 i.2.2.2.2.1 i.2.2.2.2.2
        live := fun _ i => [(2, .slice A n cap, []), (7, .pointer (some ⟨ga, 0, none⟩), [[some 0]]), (9, .pointer (some ⟨gm, 0, none⟩), [[some 1]]), (11, .int .i64 i.1, [])]
        blk := fun _ i => [⟨ga, [.int .u64 L, .int .u64 G, .int .u64 i.2.1, .int .u32 i.2.2.1, .int .i64 i.2.2.2.1, .int .u64 i.2.2.2.2.1, .int .i64 i.2.2.2.2.2, .int .i64 i.2.2.2.1], 71, [], none, true, .lit⟩,
          ⟨gm, [.int .u64 L, .int .u64 G, .int .u64 i.2.1, .int .u32 i.2.2.1, .int .i64 i.2.2.2.1, .int .u64 i.2.2.2.2.1, .int .i64 i.2.2.2.2.2], 54, [], none, true, .lit⟩]
        μ := fun i => 100 - i.1.toNat }
    | _, _ => { ι := Unit, reb := false, dom := fun _ _ => False, live := fun _ _ => [], blk := fun _ _ => [], μ := fun _ => 0 }
  | _ => none
end Go.VX
