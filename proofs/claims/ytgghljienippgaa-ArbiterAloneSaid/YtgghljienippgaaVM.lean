/- The models of chapter 17: what its functions reckon. -/
import Derived.Test.YtgghljienippgaaVX
namespace Go.VX.M17
/-- lease.Check -/
def mCheck (e ho u mo : Int) : Int :=
  if (mo = 1 ∨ mo = 2) ∧ ((ho = 0 ∧ e = 0 ∧ u = 0) ∨ ((ho = 1 ∨ ho = 2) ∧ 0 < e ∧ u ≤ 4611686018427397904)) then 0 else 2
/-- lease.Free -/
def mFree (e ho u mo now guard : Int) : Bool :=
  if mCheck e ho u mo ≠ 0 ∨ 10000 < guard then false
  else if ho = 0 then true
  else if u < now then decide (guard < IntKind.u64.wrap (now - u)) else false
structure L4 where
  e : Int
  ho : Int
  u : Int
  mo : Int
def L4.val (l : L4) : Value := .agg #[.int .u32 l.e, .int .i64 l.ho, .int .u64 l.u, .int .i64 l.mo]
def ltup (r : L4 × Int) : Value := .tuple #[.agg #[.int .u32 r.1.e, .int .i64 r.1.ho, .int .u64 r.1.u, .int .i64 r.1.mo], .int .i64 r.2]
/-- lease.Grant -/
def mGrant (e ho u mo now who len guard : Int) : L4 × Int :=
  if mCheck e ho u mo ≠ 0 ∨ ¬ (who = 1 ∨ who = 2) ∨ ¬ (1 ≤ len ∧ len ≤ 10000) ∨ 10000 < guard then (⟨0, 0, 0, 0⟩, 2)
  else if 4611686018427387904 < now ∨ e = 4294967295 then (⟨0, 0, 0, 0⟩, 71)
  else if mFree e ho u mo now guard = false then (⟨0, 0, 0, 0⟩, 70)
  else (⟨IntKind.u32.wrap (e + 1), who, IntKind.u64.wrap (now + len), mo⟩, 0)
/-- lease.own -/
def mOwn (e ho u now who epoch : Int) : Int :=
  if ho ≠ who ∨ e ≠ epoch then 72 else if u < now then 73 else 0
/-- lease.Renew -/
def mRenew (e ho u mo now who epoch len : Int) : L4 × Int :=
  if mCheck e ho u mo ≠ 0 ∨ ¬ (who = 1 ∨ who = 2) ∨ ¬ (1 ≤ len ∧ len ≤ 10000) then (⟨0, 0, 0, 0⟩, 2)
  else if 4611686018427387904 < now then (⟨0, 0, 0, 0⟩, 71)
  else if mOwn e ho u now who epoch ≠ 0 then (⟨0, 0, 0, 0⟩, mOwn e ho u now who epoch)
  else (⟨e, ho, if IntKind.u64.wrap (now + len) > u then IntKind.u64.wrap (now + len) else u, mo⟩, 0)
/-- lease.Turn -/
def mTurn (e ho u mo now who epoch mode : Int) : L4 × Int :=
  if mCheck e ho u mo ≠ 0 ∨ ¬ (who = 1 ∨ who = 2) ∨ ¬ (mode = 1 ∨ mode = 2) then (⟨0, 0, 0, 0⟩, 2)
  else if mOwn e ho u now who epoch ≠ 0 then (⟨0, 0, 0, 0⟩, mOwn e ho u now who epoch)
  else (⟨e, ho, u, mode⟩, 0)
/-- note.Check of a note that wants a lease -/
def mChk (old lsn tick ord st : Int) (un : Bool) (co : Int) (kl dl : Nat) : Int :=
  if old ≤ 0 ∧ lsn ≤ 0 ∧ tick ≤ 0 ∧ ord ≤ 0 ∧ st = 0 ∧ un = false ∧ 0 ≤ co ∧ co ≤ 255 ∧ kl = 0 ∧ dl = 0 then 0 else 50
/-- arbiter.code -/
def mCode (e : Int) : Int := if e = 70 then 2 else if e = 72 then 3 else if e = 73 then 4 else if e = 71 then 6 else 1
/-- what an arbiter answers: of the note its kind, epoch, ticks and code; and its lease, and who had it last -/
structure SR where
  kind : Int
  ep : Int
  tick : Int
  code : Int
  e : Int
  ho : Int
  u : Int
  mo : Int
  la : Int
def SR.note (r : SR) : Value := .agg #[.int .i64 r.kind, .int .u32 r.ep, .int .u32 0, .int .u64 0, .int .u64 r.tick, .int .u32 0, .int .i64 0, .bool false, .int .i64 r.code, .slice none 0 0, .slice none 0 0]
def SR.cells (r : SR) (L G now : Int) : List Value := [.int .u64 L, .int .u64 G, .int .u64 now, .int .u32 r.e, .int .i64 r.ho, .int .u64 r.u, .int .i64 r.mo, .int .i64 r.la]
def mNo (e ho u mo la c : Int) : SR := ⟨6, e, 0, c, e, ho, u, mo, la⟩
def mNext (L G now e ho u mo who ne co : Int) : L4 × Int :=
  if ne = 0 then mGrant e ho u mo now who L G else if co = 0 then mRenew e ho u mo now who ne L else mTurn e ho u mo now who ne co
def mServe (L G now e ho u mo la who nk ne old lsn tick ord st : Int) (un : Bool) (co : Int) (kl dl : Nat) : SR :=
  if who < 1 ∨ 2 < who ∨ nk ≠ 4 ∨ mChk old lsn tick ord st un co kl dl ≠ 0 ∨ 2 < co ∨ (ne = 0 ∧ co ≠ 0) then mNo e ho u mo la 1
  else if ne = 0 ∧ mo = 2 ∧ who ≠ la then mNo e ho u mo la 5
  else if (mNext L G now e ho u mo who ne co).2 ≠ 0 then mNo e ho u mo la (mCode (mNext L G now e ho u mo who ne co).2)
  else ⟨5, (mNext L G now e ho u mo who ne co).1.e, IntKind.u64.wrap ((mNext L G now e ho u mo who ne co).1.u - now), (mNext L G now e ho u mo who ne co).1.mo,
    (mNext L G now e ho u mo who ne co).1.e, (mNext L G now e ho u mo who ne co).1.ho, (mNext L G now e ho u mo who ne co).1.u, (mNext L G now e ho u mo who ne co).1.mo, who⟩
/-- arbiter.Tick -/
def mTick (now n : Int) : Int :=
  if 0 < n then IntKind.u64.wrap (now + (if IntKind.u64.wrap (4611686018427387904 - now) < IntKind.u64.wrap n then IntKind.u64.wrap (4611686018427387904 - now) else IntKind.u64.wrap n)) else now
end Go.VX.M17
