/- The walk of function 25 (spoil), told by the verified walk VX, and its contract. -/
import Derived.Test.YtgghljienippgaaVX
import Derived.Test.YtgghljienippgaaProg
import Derived.Test.YtgghljienippgaaVM
import Derived.Test.YtgghljienippgaaVS
import Derived.Test.YtgghljienippgaaVY
namespace Go.VX
open Go.Proofs
open Go.RowKit (Below)
set_option linter.unusedVariables false
set_option linter.unusedSimpArgs false
set_option maxRecDepth 100000
open Go.VX.M17

theorem walk_spoil (g n cap : Nat) (c : List Value) (w : World) (Q : Value → List Value → Prop) : ((∃ (v0 : Int × List Go.Value), Go.Value.slice (Option.some (Go.Addr.mk g 0 Option.none)) n cap = Go.Value.slice (Option.some (Go.Addr.mk g 0 Option.none)) n cap ∧ Go.Value.int Go.IntKind.i64 0 = Go.Value.int Go.IntKind.i64 v0.fst ∧ (g = g ∧ c = (Go.VX.Blk.mk g v0.snd 5 [] Option.none Bool.false Go.VX.RK.sym).c ∧ 5 = 5) ∧ Go.VX.Done ((0 ≤ v0.fst ∧ v0.fst ≤ (↑n : Int) ∧ List.length v0.snd = List.length c ∧ ∀ (v : Go.Value), v ∈ List.take n v0.snd → ∃ (x : Int), v = Go.Value.int Go.IntKind.u8 x) ∧ True)) ∧ ∀ (x1 : Int × List Go.Value) (x2 : Nat → Go.Value), (0 ≤ x1.fst ∧ x1.fst ≤ (↑n : Int) ∧ List.length x1.snd = List.length c ∧ ∀ (v : Go.Value), v ∈ List.take n x1.snd → ∃ (x : Int), v = Go.Value.int Go.IntKind.u8 x) → Go.VX.br (Decidable.decide (x1.fst < (↑n : Int))) ((0 ≤ x1.fst ∧ x1.fst < (↑n : Int)) ∧ ∃ (v4 : Int), (g = g ∧ x1.snd[0 + Int.toNat x1.fst * 1]? = Option.some (Go.Value.int Go.IntKind.u8 v4)) ∧ (0 ≤ x1.fst ∧ x1.fst < (↑n : Int)) ∧ (g = g ∧ 0 + Int.toNat x1.fst * 1 + 1 ≤ List.length x1.snd) ∧ ∀ (x5 : List Go.Value), x5 = Go.VX.setsFrom x1.snd (0 + Int.toNat x1.fst * 1) [Go.Value.int Go.IntKind.u8 (Go.IntKind.wrap Go.IntKind.u8 (↑(BitVec.toNat (BitVec.ofInt (Go.IntKind.bits Go.IntKind.u8) v4 ^^^ BitVec.ofInt (Go.IntKind.bits Go.IntKind.u8) 165)) : Int))] → Bool.true = Bool.true ∧ w = w ∧ ∃ (v7 : Int × List Go.Value), Go.Value.slice (Option.some (Go.Addr.mk g 0 Option.none)) n cap = Go.Value.slice (Option.some (Go.Addr.mk g 0 Option.none)) n cap ∧ Go.Value.int Go.IntKind.i64 (Go.IntKind.wrap Go.IntKind.i64 (x1.fst + 1)) = Go.Value.int Go.IntKind.i64 v7.fst ∧ (g = g ∧ x5 = (Go.VX.Blk.mk g v7.snd 5 [] Option.none Bool.false Go.VX.RK.sym).c ∧ 5 = 5) ∧ Go.VX.Done ((0 ≤ v7.fst ∧ v7.fst ≤ (↑n : Int) ∧ List.length v7.snd = List.length c ∧ ∀ (v : Go.Value), v ∈ List.take n v7.snd → ∃ (x : Int), v = Go.Value.int Go.IntKind.u8 x) ∧ n - Int.toNat v7.fst < n - Int.toNat x1.fst)) ((g = g ∧ 5 = 5) ∧ Go.VX.Done (Q (Go.Value.tuple #[]) x1.snd))) = codeVC (⟨TT.plain _, (fun f => false), noFar, true, (invSp g n cap c), noInv, noPV, noCV w⟩ : Cfg Try.prog) w 200 (Try.f25.body.getD .skip) ⟨⟨w, []⟩, mkT Try.f25.ntmps [.slice (some ⟨g, 0, none⟩) n cap] [[[some 0]]], [⟨g, c, 5, [], none, false, .sym⟩]⟩ (retK Try.prog Try.f25 fun b v s h => (match h with | ⟨g', c', ty', _, none, false, _⟩ :: r => (g' = g ∧ ty' = 5) ∧ newK r (Done (Q v c')) | _ => False)) := by
  kernel_rfl

theorem spoil_calls (g n cap : Nat) (c : List Value) (w : World) (hg : w.heap[g]? = some (.cells c.toArray 5 (0, 0))) (hn : n ≤ c.length) (hm : n ≤ maxLen) (hq : ∀ v ∈ c.take n, ∃ x, v = .int .u8 x) :
    Calls Try.prog 25 [Value.slice (some ⟨g, 0, none⟩) n cap].toArray w fun en w' => en = .returned (.tuple #[]) ∧ ∃ c' : List Value, c'.length = c.length ∧ Keep g c' 5 w w' := by
  have hform := (walk_spoil g n cap c w (fun v c' => v = .tuple #[] ∧ c'.length = c.length)).mp (by
    refine ⟨⟨(0, c), rfl, rfl, ⟨rfl, rfl, rfl⟩, ⟨⟨⟨Int.le_refl 0, by dsimp only; omega, rfl, hq⟩, trivial⟩⟩⟩, ?_⟩
    rintro ⟨i, l⟩ gs ⟨h0, h1, h2, h3⟩
    dsimp only at h0 h1 h2 h3 ⊢
    refine br_intro (fun hc => ?_) (fun _ => ⟨⟨rfl, rfl⟩, ⟨⟨rfl, h2⟩⟩⟩)
    simp only [decide_eq_true_eq] at hc
    have hi : i.toNat < n := by omega
    have hlt : i.toNat < (l.take n).length := by rw [List.length_take]; omega
    obtain ⟨x, hx⟩ := h3 ((l.take n)[i.toNat]'hlt) (List.getElem_mem hlt)
    have hx' : l[i.toNat]? = some (.int .u8 x) := by
      rw [List.getElem?_eq_getElem (by omega), ← hx, List.getElem_take]
    have ei : 0 + i.toNat * 1 = i.toNat := by omega
    refine ⟨⟨h0, hc⟩, x, ⟨rfl, by rw [ei]; exact hx'⟩, ⟨h0, hc⟩, ⟨rfl, by omega⟩, fun l' hl' => ⟨rfl, rfl, (i + 1, l'), rfl, ?_, ⟨rfl, rfl, rfl⟩, ⟨⟨⟨by dsimp only; omega, by dsimp only; omega, ?_, ?_⟩, by dsimp only; omega⟩⟩⟩⟩
    · have : IntKind.i64.wrap (i + 1) = i + 1 := by
        simp [IntKind.wrap, IntKind.signed, IntKind.bits]
        simp only [maxLen] at hm
        omega
      rw [this]
    · rw [hl', setsFrom_one, List.length_set]; exact h2
    · intro v hv
      rw [hl', setsFrom_one, List.take_set] at hv
      rcases List.mem_or_eq_of_mem_set hv with hv | rfl
      · exact h3 v hv
      · exact ⟨_, rfl⟩)
  refine (calls (G := (⟨TT.plain _, (fun f => false), noFar, true, (invSp g n cap c), noInv, noPV, noCV w⟩ : Cfg Try.prog)) (noCV_ok' Try.prog w) (noPV_ok Try.prog) 200 Try.func25 rfl [[[some 0]]] (HC.startS hg) hform).mono fun e w' ⟨v, s, b', h', he, H, hk⟩ => ?_
  split at hk
  · rename_i g' c' ty' s' y r
    obtain ⟨⟨rfl, rfl⟩, hk⟩ := hk
    obtain ⟨hn, hk⟩ := newK_out hk
    obtain ⟨rfl, hlen⟩ := hk.out
    refine ⟨he, c', hlen, H.os, H.tape, H.output, H.le, H.bl _ List.mem_cons_self, fun i hi hne => H.en i hi fun d hd hdn => ?_⟩
    rcases List.mem_cons.1 hd with rfl | hd
    · exact Ne.symm hne
    · rw [allNewB_out hn d hd] at hdn; cases hdn
  · exact hk.elim

end Go.VX
