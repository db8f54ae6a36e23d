/- What ArbiterAlone's loops keep; its moves in memory. -/
import Derived.Test.YtgghljienippgaaVSl
import Derived.Test.YtgghljienippgaaVA
namespace Go.VX
open Go.Proofs
open Go.RowKit (Below)
open Go.VX.M17
set_option linter.unusedVariables false
/-- in memory there is a move -/
structure MoveAt (w : World) (p : Addr) (k n who late : Int) (lost : Bool) (mode : Int) : Prop where
  blk : p.block < w.heap.size
  cells : cellsAt w p 0 [.int .i64 k, .int .i64 n, .int .i64 who, .int .i64 late, .bool lost, .int .i64 mode]
structure MovesAt (w : World) (A : Option Addr) (n : Nat) : Prop where
  max : n ≤ 9223372036854775807
  at_ : ∀ i : Int, 0 ≤ i → i < n → ∃ (a : Addr) (k m who late : Int) (lost : Bool) (mode : Int), A = some a ∧ MoveAt w (a.add (i.toNat * 6)) k m who late lost mode
abbrev sitesC (e1 u1 e2 u2 : Int) : List Value := [.int .u32 0, .int .u64 0, .int .u32 e1, .int .u64 u1, .int .u32 e2, .int .u64 u2]
/-- what is so at the head of the loop, and behind its switch -/
structure AI where
  i : Int
  ga : Nat
  gs : Nat
  now : Int
  e : Int
  ho : Int
  u : Int
  mo : Int
  e1 : Int
  u1 : Int
  e2 : Int
  u2 : Int
structure AlI (x : AI) : Prop where
  rg : Rg x.now x.e x.ho x.u x.mo
  ck : mCheck x.e x.ho x.u x.mo = 0
  a1 : 0 ≤ x.e1
  a2 : 0 ≤ x.u1
  a3 : 0 ≤ x.e2
  a4 : 0 ≤ x.u2
  l1 : Al x.now x.e x.ho x.u 1 x.e1 x.u1
  l2 : Al x.now x.e x.ho x.u 2 x.e2 x.u2
structure AJ where
  x : AI
  s : List Value
def invA (L G : Int) (A : Option Addr) (n cap : Nat) : Nat → Option (St → Inv)
  | 6 => some fun _ =>
      { ι := AJ
        reb := true
        dom := fun _ j => 0 ≤ j.x.i ∧ j.x.i ≤ 100 ∧ j.x.i ≤ n ∧ j.s = sitesC j.x.e1 j.x.u1 j.x.e2 j.x.u2 ∧ AlI j.x
        live := fun _ j => [(2, .slice A n cap, []), (7, .pointer (some ⟨j.x.ga, 0, none⟩), [[some 0]]), (9, .pointer (some ⟨j.x.gs, 0, none⟩), [[some 1]]), (10, .int .i64 j.x.i, [])]
        blk := fun _ j => [⟨j.x.ga, arrC L G j.x.now j.x.e j.x.ho j.x.u j.x.mo j.x.ho, 71, [], none, true, .lit⟩, ⟨j.x.gs, j.s, 65, [], none, true, .sym⟩]
        μ := fun j => 100 - j.x.i.toNat }
  | _ => none
def cutA (L G : Int) (A : Option Addr) (n cap : Nat) : Nat → Option (St → Inv)
  | 34 => some fun st => match evT st.t (.tmp 10) with
    | .int _ i0 =>
      { ι := AI
        reb := true
        dom := fun _ x => x.i = i0 ∧ AlI x
        live := fun _ x => [(2, .slice A n cap, []), (7, .pointer (some ⟨x.ga, 0, none⟩), [[some 0]]), (9, .pointer (some ⟨x.gs, 0, none⟩), [[some 1]]), (10, .int .i64 x.i, [])]
        blk := fun _ x => [⟨x.ga, arrC L G x.now x.e x.ho x.u x.mo x.ho, 71, [], none, true, .lit⟩, ⟨x.gs, sitesC x.e1 x.u1 x.e2 x.u2, 65, [], none, true, .lit⟩]
        μ := fun _ => 0 }
    | _ => { ι := Unit, reb := false, dom := fun _ _ => False, live := fun _ _ => [], blk := fun _ _ => [], μ := fun _ => 0 }
  | _ => none
theorem HC.sub {gh : Gh} {wE w : World} {b : Base} {h s : List Blk} (H : HC gh wE b h w) (hn : allNewB h = true) (hs : ∀ c ∈ s, ∃ d ∈ h, d.g = c.g ∧ d.den = c.den ∧ c.n = true ∧ rowOk c) (nd : s.Pairwise (fun b c => b.g ≠ c.g)) : HC gh wE ⟨w, []⟩ s w := by
  refine ⟨H.os, H.tape, H.output, H.le, Nat.le_refl _, ?_, nd, ?_, ?_, fun _ _ _ _ => rfl, fun i hi _ => H.old hn i hi, fun p hp => ⟨(H.gp p hp).1, ?_, (H.gp p hp).2.2⟩⟩
  · intro c hc
    obtain ⟨d, hd, e1, e2, _⟩ := hs c hc
    rw [← e1, ← e2]; exact H.bl d hd
  · intro c hc _
    obtain ⟨d, hd, e1, _⟩ := hs c hc
    rw [← e1]; exact H.nw d hd (allNewB_out hn d hd)
  · intro c hc
    exact (hs c hc).choose_spec.2.2.2.2
  · intro c hc
    obtain ⟨d, hd, e1, _⟩ := hs c hc
    rw [← e1]; exact (H.gp p hp).2.1 d hd
end Go.VX
