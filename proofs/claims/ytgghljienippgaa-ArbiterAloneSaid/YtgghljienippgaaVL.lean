/- What chapter 17's loops keep. -/
import Derived.Test.YtgghljienippgaaVM
namespace Go.VX.M17
set_option linter.unusedVariables false
open Go.RowKit (Below)
theorem add_add (a : Addr) (m k : Nat) : (a.add m).add k = a.add (m + k) := by
  obtain ⟨b, o, s⟩ := a
  unfold Addr.add
  by_cases hm : m = 0
  · subst hm
    rw [if_pos rfl, Nat.zero_add]
  · rw [if_neg hm]
    by_cases hk : k = 0
    · subst hk; rw [if_pos rfl, Nat.add_zero, if_neg hm]
    · rw [if_neg hk, if_neg (by omega), Nat.add_assoc]
theorem add_zero' (a : Addr) : a.add 0 = a := by unfold Addr.add; rw [if_pos rfl]
/-- in memory there are n things that happen -/
structure ActAt (w : World) (p : Addr) (f0 f1 f2 g0 g1 g2 g3 g4 g5 g6 : Int) (g7 : Bool) (g8 : Int) (A9 : Option Addr) (n9 c9 : Nat) (A10 : Option Addr) (n10 c10 : Nat) : Prop where
  blk : p.block < w.heap.size
  e0 : w.cell? p = some (.int .i64 f0)
  e1 : w.cell? (p.add 1) = some (.int .i64 f1)
  e2 : w.cell? (p.add 2) = some (.int .i64 f2)
  note : cellsAt w (p.add 3) 0 [.int .i64 g0, .int .u32 g1, .int .u32 g2, .int .u64 g3, .int .u64 g4, .int .u32 g5, .int .i64 g6, .bool g7, .int .i64 g8, .slice A9 n9 c9, .slice A10 n10 c10]
  rg : 0 ≤ g1 ∧ 0 ≤ g2 ∧ 0 ≤ g3 ∧ 0 ≤ g4 ∧ 0 ≤ g5
structure ActsAt (w : World) (A : Option Addr) (n : Nat) : Prop where
  max : n ≤ 9223372036854775807
  at_ : ∀ i : Int, 0 ≤ i → i < n → ∃ (a : Addr) (f0 f1 f2 g0 g1 g2 g3 g4 g5 g6 : Int) (g7 : Bool) (g8 : Int) (A9 : Option Addr) (n9 c9 : Nat) (A10 : Option Addr) (n10 c10 : Nat),
    A = some a ∧ ActAt w (a.add (i.toNat * 14)) f0 f1 f2 g0 g1 g2 g3 g4 g5 g6 g7 g8 A9 n9 c9 A10 n10 c10
theorem cellsAt_below {w w' : World} {a : Addr} (B : Below w.heap.size w w') (hb : a.block < w.heap.size) : ∀ {i : Nat} {l : List Value}, cellsAt w a i l → cellsAt w' a i l
  | _, [], _ => trivial
  | i, v :: r, h => ⟨by rw [← h.1]; unfold World.cell?; rw [B.block _ (by rw [blk_add]; exact hb)], cellsAt_below B hb h.2⟩
theorem cell_below {w w' : World} {a : Addr} {v : Value} (B : Below w.heap.size w w') (hb : a.block < w.heap.size) (h : w.cell? a = some v) : w'.cell? a = some v := by
  rw [← h]; unfold World.cell?; rw [B.block _ hb]
theorem ActsAt.below {w w' : World} {A : Option Addr} {n : Nat} (h : ActsAt w A n) (B : Below w.heap.size w w') : ActsAt w' A n := by
  refine ⟨h.max, fun i h0 h1 => ?_⟩
  obtain ⟨a, f0, f1, f2, g0, g1, g2, g3, g4, g5, g6, g7, g8, A9, n9, c9, A10, n10, c10, hA, x⟩ := h.at_ i h0 h1
  exact ⟨a, f0, f1, f2, g0, g1, g2, g3, g4, g5, g6, g7, g8, A9, n9, c9, A10, n10, c10, hA, Nat.lt_of_lt_of_le x.blk B.size, cell_below B x.blk x.e0,
    cell_below B (by rw [blk_add]; exact x.blk) x.e1, cell_below B (by rw [blk_add]; exact x.blk) x.e2, cellsAt_below B (by rw [blk_add]; exact x.blk) x.note, x.rg⟩
/-- drayagelaw17.long -/
def invL (A : Option Addr) (n cap : Nat) : Nat → Option (St → Inv)
  | 2 => some fun _ => { ι := Int, reb := false, dom := fun _ i => 0 ≤ i ∧ i ≤ n, live := fun _ i => [(0, .slice A n cap, []), (3, .int .i64 i, [])], blk := fun _ _ => [], μ := fun i => n - i.toNat }
  | _ => none
/-- a call of a function that answers some Boolean (drayagelaw17.long, of the slice that came in) -/
def addLong (A : Option Addr) (n cap : Nat) (rest : CV) : CV := fun f args sh b h K => match Nat.beq f 15 with
  | true => args = [.slice A n cap] ∧ newK h (∀ c : Bool, K b (.bool c) [] h)
  | false => rest f args sh b h K
theorem addLong_ok {P : Program} {wE : World} {A : Option Addr} {n cap : Nat} {rest : CV}
    (hc : ∀ w, Below wE.heap.size wE w → Calls P 15 [Value.slice A n cap].toArray w fun e w' => ∃ b : Bool, e = .returned (.bool b) ∧ Below w.heap.size w w') (hr : CVok P wE rest) :
    CVok P wE (addLong A n cap rest) := by
  intro gh f args sh b h K w H hk
  unfold addLong at hk
  split at hk
  · rename_i hf
    obtain rfl := Nat.eq_of_beq_eq_true hf
    obtain ⟨rfl, hk⟩ := hk
    obtain ⟨hn, hk⟩ := newK_out hk
    exact (hc w (H.below hn)).mono fun e w' ⟨c, he, hb⟩ => ⟨.bool c, [], b, h, he, H.step hb, hk c⟩
  · exact hr f args sh b h K w H hk
/-- drayagelaw17.ArbiterSolo: its round's number, the ticks, the epoch, and till when the lease holds -/
def invS (A : Option Addr) (n cap : Nat) : Nat → Option (St → Inv)
  | 12 => some fun st => match st.h, evT st.t (.tmp 9) with
    | ⟨ga, .int .u64 L :: .int .u64 G :: .int .u64 now :: .int .u32 e :: _ :: .int .u64 u :: _, _, _, _, _, _⟩ :: _, .int .i64 w =>
      { ι := Int × Int × Int × Int
        reb := false
        dom := fun _ i => 0 ≤ i.1 ∧ i.1 ≤ 60 ∧ i.1 ≤ n ∧ 0 ≤ i.2.1 ∧ i.2.1 ≤ 200 * i.1 ∧ 1 ≤ i.2.2.1 ∧ i.2.2.1 ≤ i.1 + 1 ∧ 0 ≤ i.2.2.2 ∧ i.2.2.2 ≤ i.2.1 + 50
        live := fun _ i => [(1, .slice A n cap, []), (7, .pointer (some ⟨ga, 0, none⟩), [[some 0]]), (9, .int .i64 w, []), (12, .int .i64 i.1, [])]
        blk := fun _ i => [⟨ga, [.int .u64 L, .int .u64 G, .int .u64 i.2.1, .int .u32 i.2.2.1, .int .i64 w, .int .u64 i.2.2.2, .int .i64 2, .int .i64 w], 71, [], none, true, .lit⟩]
        μ := fun i => 60 - i.1.toNat }
    | _, _ => { ι := Unit, reb := false, dom := fun _ _ => False, live := fun _ _ => [], blk := fun _ _ => [], μ := fun _ => 0 }
  | _ => none
/-- drayagelaw17.ArbiterEpochs: its round's number, the ticks, the lease, and who had it last -/
def invE (A : Option Addr) (n cap : Nat) : Nat → Option (St → Inv)
  | 7 => some fun st => match st.h with
    | ⟨ga, _, _, _, _, _, _⟩ :: _ =>
      { ι := Int × Int × Int × Int × Int × Int × Int
        reb := false
        dom := fun _ i => 0 ≤ i.1 ∧ i.1 ≤ 100 ∧ i.1 ≤ n ∧ 0 ≤ i.2.2.1 ∧ i.2.2.1 ≤ 4294967295
        live := fun _ i => [(0, .slice A n cap, []), (3, .pointer (some ⟨ga, 0, none⟩), [[some 0]]), (5, .int .i64 i.1, [])]
        blk := fun _ i => [⟨ga, [.int .u64 7, .int .u64 2, .int .u64 i.2.1, .int .u32 i.2.2.1, .int .i64 i.2.2.2.1, .int .u64 i.2.2.2.2.1, .int .i64 i.2.2.2.2.2.1, .int .i64 i.2.2.2.2.2.2], 71, [], none, true, .lit⟩]
        μ := fun i => 100 - i.1.toNat }
    | _ => { ι := Unit, reb := false, dom := fun _ _ => False, live := fun _ _ => [], blk := fun _ _ => [], μ := fun _ => 0 }
  | _ => none
end Go.VX.M17
