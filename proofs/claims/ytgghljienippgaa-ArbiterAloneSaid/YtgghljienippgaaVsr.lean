/- The contract of arbiter.Serve, its answer told by a name. -/
import Derived.Test.YtgghljienippgaaVlong
namespace Go.VX
open Go.Proofs
open Go.RowKit (Below)
open Go.VX.M17
set_option linter.unusedVariables false
def spR (w : World) : CV := addStR 11 71 (fun r c => match r, c with
  | [.int .i64 who, .agg a], [.int .u64 L, .int .u64 G, .int .u64 now, .int .u32 e, .int .i64 ho, .int .u64 u, .int .i64 mo, .int .i64 la] => (match a.toList with | [.int .i64 nk, .int .u32 ne, .int .u32 old, .int .u64 lsn, .int .u64 tick, .int .u32 ord, .int .i64 st, .bool un, .int .i64 co, .slice K kl kc, .slice D dl dc] => some ((mServe L G now e ho u mo la who nk ne old lsn tick ord st un co kl dl), fun y => (SR.note y, SR.cells y L G now)) | _ => none)
  | _, _ => none) (spnow w)
theorem spR_ok (P : Program) (w : World) (hP : P = Try.prog) : CVok P w (spR w) := by
  subst hP
  refine addStR_ok (fun r g c x F w h hg => ?_) (spnow_ok _ _ rfl)
  split at h
  · split at h
    · rename_i hc; cases h; obtain rfl := arr_of hc; exact serve_calls g _ _ _ _ _ _ _ _ _ _ _ _ _ _ _ _ _ _ _ _ _ _ _ _ w hg
    · cases h
  · cases h
theorem spRL_ok (A : Option Addr) (n cap : Nat) (w : World) (hA : ActsAt w A n) : CVok Try.prog w (addLong A n cap (spR w)) :=
  addLong_ok (fun w' B => long_calls A n cap w' (hA.below B)) (spR_ok _ _ rfl)
end Go.VX
