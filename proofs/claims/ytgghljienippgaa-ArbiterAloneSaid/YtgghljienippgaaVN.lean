/- More models: the reference's note. -/
import Derived.Test.YtgghljienippgaaVX
namespace Go.VX.M17
/-- drayageref05.Names -/
def mNames (k : Int) : ByteArray :=
  if k = 1 then ⟨#[69, 80, 76, 68]⟩ else if k = 2 then ⟨#[69, 76]⟩ else if k = 3 then ⟨#[69, 76]⟩ else if k = 4 then ⟨#[69, 67]⟩ else if k = 5 then ⟨#[69, 84, 67]⟩ else if k = 6 then ⟨#[69, 67]⟩
  else if k = 7 then ⟨#[69, 79, 83, 85, 68]⟩ else if k = 8 then ⟨#[69, 79, 83, 85, 67, 68]⟩ else if k = 9 then ⟨#[69, 79, 83, 85]⟩ else if k = 10 then ⟨#[75, 68]⟩ else if k = 11 then ⟨#[75]⟩ else if k = 12 then ⟨#[75]⟩
  else if k = 13 then ⟨#[79, 67, 75, 68]⟩ else ⟨#[]⟩
/-- drayageref05.has -/
def hasL : List UInt8 → Int → Bool
  | [], _ => false
  | b :: r, p => ((b.toNat : Int) == p) || hasL r p
def mHas (k p : Int) : Bool := hasL (mNames k).data.toList p
/-- drayageref05.Check: what is left when Undo was looked at -/
def mRChk2 (k co : Int) (kl dl : Nat) : Int :=
  bif (!co == 0 && !mHas k 67) then 50 else bif (!(kl : Int) == 0 && !mHas k 75) then 50 else bif (!(dl : Int) == 0 && !mHas k 68) then 50
  else bif ((kl : Int) == 0 && (k == 10 || k == 11 || k == 12)) then 50 else 0
/-- drayageref05.Check -/
def mRChk (k e old lsn tick ord st : Int) (un : Bool) (co : Int) (kl dl : Nat) : Int :=
  bif (ByteArray.toList (mNames k) == ByteArray.toList ⟨#[]⟩ || decide (st < 0) || decide (st > 15) || decide (co < 0) || decide (co > 255) || decide ((kl : Int) > 32) || decide ((dl : Int) > 255)) then 50
  else bif (!e == 0 && !mHas k 69) then 50 else bif (!old == 0 && !mHas k 80) then 50 else bif (!lsn == 0 && !mHas k 76) then 50 else bif (!tick == 0 && !mHas k 84) then 50
  else bif (!ord == 0 && !mHas k 79) then 50 else bif (!st == 0 && !mHas k 83) then 50 else bif un then (bif (true && !mHas k 85) then 50 else mRChk2 k co kl dl) else mRChk2 k co kl dl
end Go.VX.M17
