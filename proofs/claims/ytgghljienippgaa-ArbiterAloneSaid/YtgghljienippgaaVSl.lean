/- The contracts that ArbiterLoads calls, in one chain; what its loops keep. -/
import Derived.Test.YtgghljienippgaaVsr
import Derived.Test.YtgghljienippgaaVsave
import Derived.Test.YtgghljienippgaaVload
import Derived.Test.YtgghljienippgaaVrload
import Derived.Test.YtgghljienippgaaVlent
import Derived.Test.YtgghljienippgaaVwhole
import Derived.Test.YtgghljienippgaaVsame
namespace Go.VX
open Go.Proofs
open Go.RowKit (Below)
open Go.VX.M17
set_option linter.unusedVariables false
def spL1 (w : World) : CV := addNewM 21 71 5 (fun r c => match r, c with
  | [], [.int .u64 L, .int .u64 G, .int .u64 now, .int .u32 e, .int .i64 ho, .int .u64 u, .int .i64 mo, .int .i64 la] => some (39, mSave L G now e ho u mo la)
  | _, _ => none) (spR w)
theorem spL1_ok (P : Program) (w : World) (hP : P = Try.prog) : CVok P w (spL1 w) := by
  subst hP
  refine addNewM_ok (fun r g c n l w h hg => ?_) (spR_ok _ _ rfl)
  split at h
  · cases h; exact save_calls g _ _ _ _ _ _ _ _ w hg
  · cases h
def preL : Value → Nat → List Int → Prop := fun _ m ns => m ≤ 140737488355000 ∧ Bs ns
def preR : Value → Nat → List Int → Prop := fun x _ ns => Bs ns ∧ ∀ A m c, x = .slice A m c → m ≤ c
def spL2 (w : World) : CV := addLoad w 27 71 170 preL ldOk ldC (spL1 w)
theorem spL2_ok (P : Program) (w : World) (hP : P = Try.prog) : CVok P w (spL2 w) := by
  subst hP
  exact addLoad_ok (fun x m ns w B hp => load_calls x m ns w B hp) (spL1_ok _ _ rfl)
def spL3 (w : World) : CV := addLoad w 28 54 170 preR ldOk ldR (spL2 w)
theorem spL3_ok (P : Program) (w : World) (hP : P = Try.prog) : CVok P w (spL3 w) := by
  subst hP
  exact addLoad_ok (fun x m ns w B hp => rload_calls x m ns w B hp) (spL2_ok _ _ rfl)
def spL4 (w : World) : CV := addLent w 26 5 (spL3 w)
theorem spL4_ok (P : Program) (w : World) (hP : P = Try.prog) : CVok P w (spL4 w) := by
  subst hP
  exact addLent_ok (fun x m ns w B hm => lent_calls x m ns w B hm) (spL3_ok _ _ rfl)
def spL (w : World) : CV := addWhole w 29 (spL4 w)
theorem spL_ok (P : Program) (w : World) (hP : P = Try.prog) : CVok P w (spL w) := by
  subst hP
  exact addWhole_ok (fun g cap y m ns r e w B h1 h2 h3 => whole_calls g cap y m ns r e w B h1 h2 h3) (spL4_ok _ _ rfl)
/-- a call of a function that answers some Boolean, of one of two slices -/
def addLong2 (A A2 : Option Addr) (n cap n2 cap2 : Nat) (rest : CV) : CV := fun f args sh b h K => match Nat.beq f 15 with
  | true => (args = [.slice A n cap] ∨ args = [.slice A2 n2 cap2]) ∧ newK h (∀ c : Bool, K b (.bool c) [] h)
  | false => rest f args sh b h K
theorem addLong2_ok {P : Program} {wE : World} {A A2 : Option Addr} {n cap n2 cap2 : Nat} {rest : CV}
    (hc : ∀ w, Below wE.heap.size wE w → Calls P 15 [Value.slice A n cap].toArray w fun e w' => ∃ b : Bool, e = .returned (.bool b) ∧ Below w.heap.size w w')
    (hc2 : ∀ w, Below wE.heap.size wE w → Calls P 15 [Value.slice A2 n2 cap2].toArray w fun e w' => ∃ b : Bool, e = .returned (.bool b) ∧ Below w.heap.size w w') (hr : CVok P wE rest) :
    CVok P wE (addLong2 A A2 n cap n2 cap2 rest) := by
  intro gh f args sh b h K w H hk
  unfold addLong2 at hk
  split at hk
  · rename_i hf
    obtain rfl := Nat.eq_of_beq_eq_true hf
    obtain ⟨ha, hk⟩ := hk
    obtain ⟨hn, hk⟩ := newK_out hk
    rcases ha with rfl | rfl
    · exact (hc w (H.below hn)).mono fun e w' ⟨c, he, hb⟩ => ⟨.bool c, [], b, h, he, H.step hb, hk c⟩
    · exact (hc2 w (H.below hn)).mono fun e w' ⟨c, he, hb⟩ => ⟨.bool c, [], b, h, he, H.step hb, hk c⟩
  · exact hr f args sh b h K w H hk
theorem spLL_ok (A A2 : Option Addr) (n cap n2 cap2 : Nat) (w : World) (hA : ActsAt w A n) (hA2 : ActsAt w A2 n2) : CVok Try.prog w (addLong2 A A2 n cap n2 cap2 (spL w)) :=
  addLong2_ok (fun w' B => long_calls A n cap w' (hA.below B)) (fun w' B => long_calls A2 n2 cap2 w' (hA2.below B)) (spL_ok _ _ rfl)
/-- drayagelaw17.ArbiterLoads: behind its first part nothing is kept but what it was given -/
def cutLd (a1 a2 : Int) (A A2 : Option Addr) (n cap n2 cap2 : Nat) : Nat → Option (St → Inv)
  | 10 => some fun _ => {
      ι := Nat
      reb := false
      dom := fun _ i => i = 0
      live := fun _ _ => [(1, .int .u64 a1, []), (2, .int .u64 a2, []), (3, .slice A n cap, []), (4, .slice A2 n2 cap2, [])]
      blk := fun _ _ => []
      μ := fun _ => 0 }
  | _ => none
abbrev arrC (L G now e ho u mo la : Int) : List Value := [.int .u64 L, .int .u64 G, .int .u64 now, .int .u32 e, .int .i64 ho, .int .u64 u, .int .i64 mo, .int .i64 la]
/-- its rounds -/
def invLd (L G : Int) (A A2 : Option Addr) (n cap n2 cap2 : Nat) : Nat → Option (St → Inv)
  | 14 => some fun st => match st.h with
    | ⟨ga, _, _, _, _, _, _⟩ :: _ =>
      { ι := Int × Int × Int × Int × Int × Int
        reb := false
        dom := fun _ i => 0 ≤ i.1 ∧ i.1 ≤ 60 ∧ i.1 ≤ n ∧ Rg i.2.1 i.2.2.1 i.2.2.2.1 i.2.2.2.2.1 i.2.2.2.2.2 ∧ mCheck i.2.2.1 i.2.2.2.1 i.2.2.2.2.1 i.2.2.2.2.2 = 0
        live := fun _ i => [(3, .slice A n cap, []), (4, .slice A2 n2 cap2, []), (16, .pointer (some ⟨ga, 0, none⟩), [[some 0]]), (18, .int .i64 i.1, [])]
        blk := fun _ i => [⟨ga, arrC L G i.2.1 i.2.2.1 i.2.2.2.1 i.2.2.2.2.1 i.2.2.2.2.2 i.2.2.2.1, 71, [], none, true, .lit⟩]
        μ := fun i => 60 - i.1.toNat }
    | _ => { ι := Unit, reb := false, dom := fun _ _ => False, live := fun _ _ => [], blk := fun _ _ => [], μ := fun _ => 0 }
  | 23 => some fun st => match st.h with
    | ⟨ga, _, _, _, _, _, _⟩ :: R :: ⟨gz, _, _, _, _, _, _⟩ :: _ =>
      { ι := Int × Int × Int × Int × Int × Int × Int
        reb := false
        dom := fun _ i => 0 ≤ i.1 ∧ i.1 ≤ 60 ∧ i.1 ≤ n2
        live := fun _ i => [(4, .slice A2 n2 cap2, []), (16, .pointer (some ⟨ga, 0, none⟩), [[some 0]]), (19, .pointer (some ⟨gz, 0, none⟩), [[some 2]]), (21, .int .i64 i.1, [])]
        blk := fun _ i => [⟨ga, arrC L G i.2.1 i.2.2.1 i.2.2.2.1 i.2.2.2.2.1 i.2.2.2.2.2.1 i.2.2.2.2.2.2, 71, [], none, true, .lit⟩, R, ⟨gz, arrC L G i.2.1 i.2.2.1 i.2.2.2.1 i.2.2.2.2.1 i.2.2.2.2.2.1 i.2.2.2.2.2.2, 71, [], none, true, .lit⟩]
        μ := fun i => 60 - i.1.toNat }
    | _ => { ι := Unit, reb := false, dom := fun _ _ => False, live := fun _ _ => [], blk := fun _ _ => [], μ := fun _ => 0 }
  | _ => none
end Go.VX
