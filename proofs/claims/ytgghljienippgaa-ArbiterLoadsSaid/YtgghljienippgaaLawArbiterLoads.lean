/- The law ArbiterLoads, for every input: out of its walk, told by VX. -/
import Derived.Test.YtgghljienippgaaRows
import Derived.Test.YtgghljienippgaaVO
import Derived.Test.YtgghljienippgaaVloads
import Derived.WalkKit
import Derived.ProofKit
import Derived.OpenShut
import Derived.ShutString
import Derived.ChangeOld
import Derived.Below
import Derived.SizedLaws
import Derived.Carry
namespace Go.Proofs.Ytgghljienippgaa.arbiterLoads
open Go.ChangeShapes Go.WideShapes Go.ChangeAt Go.RowKit Go.VO
open Go.ChangeMaps (open_string shut_string)
set_option linter.unusedVariables false
set_option linter.unusedSimpArgs false

theorem acts_of {W : World} {A : Option Addr} {xs : List (Int × Int × Int × Int × Int × Int × Int × Int × Int × Int × Bool × Int × List Int × List Int)}
    (h : RowAt W (Kn.pair (Kn.int .i64) (Kn.pair (Kn.int .i64) (Kn.pair (Kn.int .i64) (Kn.pair (Kn.int .i64) (Kn.pair (Kn.int .u32) (Kn.pair (Kn.int .u32) (Kn.pair (Kn.int .u64) (Kn.pair (Kn.int .u64) (Kn.pair (Kn.int .u32) (Kn.pair (Kn.int .i64) (Kn.pair Kn.bool (Kn.pair (Kn.int .i64) (Kn.pair (Kn.slice (Kn.int .u8)) (Kn.slice (Kn.int .u8))))))))))))))) A xs) (hm : xs.length ≤ maxLen)
    (hq : ∀ x ∈ xs, (Lit.int .u32 x.2.2.2.2.1).wf = true ∧ (Lit.int .u32 x.2.2.2.2.2.1).wf = true ∧ (Lit.int .u64 x.2.2.2.2.2.2.1).wf = true ∧ (Lit.int .u64 x.2.2.2.2.2.2.2.1).wf = true ∧ (Lit.int .u32 x.2.2.2.2.2.2.2.2.1).wf = true) : Go.VX.M17.ActsAt W A xs.length := by
  refine ⟨hm, fun i h0 h1 => ?_⟩
  have hi : i.toNat < xs.length := by omega
  obtain ⟨a, c, hA, hb, hK, hc⟩ := h i.toNat _ (List.getElem?_eq_getElem hi)
  have hq := hq _ (List.getElem_mem hi)
  generalize xs[i.toNat] = x at hK hq
  obtain ⟨f0, f1, f2, g0, g1, g2, g3, g4, g5, g6, g7, g8, K, D⟩ := x
  dsimp only [Kn.pair, Kn.int, Kn.bool, Kn.slice] at hK
  obtain ⟨_, _, rfl, rfl, _, _, rfl, rfl, _, _, rfl, rfl, _, _, rfl, rfl, _, _, rfl, rfl, _, _, rfl, rfl, _, _, rfl, rfl, _, _, rfl, rfl, _, _, rfl, rfl, _, _, rfl, rfl, _, _, rfl, rfl, _, _, rfl, rfl, _, _, rfl, ⟨A9, c9, rfl, _, _⟩, ⟨A10, c10, rfl, _, _⟩⟩ := hK
  have cell : ∀ (j : Nat) u, _ → W.cell? ((a.add (i.toNat * 14)).add j) = some u := fun j u hu => by rw [Go.VO.add_add]; exact hc j u hu
  refine ⟨a, f0, f1, f2, g0, g1, g2, g3, g4, g5, g6, g7, g8, A9, K.length, c9, A10, D.length, c10, hA, (by rw [Go.VO.blk_add]; exact hb), (by have := cell 0 _ rfl; rwa [Go.VO.add_zero] at this), cell 1 _ rfl, cell 2 _ rfl, ?_, ?_⟩
  rotate_left
  · obtain ⟨q1, q2, q3, q4, q5⟩ := hq
    exact ⟨(wf_u32 q1).1, (wf_u32 q2).1, (wf_u64 q3).1, (wf_u64 q4).1, (wf_u32 q5).1⟩
  have cell2 : ∀ (j : Nat) u, _ → W.cell? (((a.add (i.toNat * 14)).add 3).add j) = some u := fun j u hu => by rw [Go.VO.add_add]; exact cell (3 + j) u hu
  exact ⟨cell2 0 _ rfl, cell2 1 _ rfl, cell2 2 _ rfl, cell2 3 _ rfl, cell2 4 _ rfl, cell2 5 _ rfl, cell2 6 _ rfl, cell2 7 _ rfl, cell2 8 _ rfl, cell2 9 _ rfl, cell2 10 _ rfl, trivial⟩

theorem bytes_of {W : World} {A : Option Addr} {cap : Nat} {xs : List Int} (h : RowAt W (Kn.int .u8) A xs) : Go.VX.BytesAt W (.slice A xs.length cap) xs.length xs := by
  refine ⟨A, cap, rfl, rfl, fun hm => ?_, fun a ha j n hj => ?_⟩
  · obtain ⟨a, c, hA, _⟩ := h 0 _ (List.getElem?_eq_getElem hm)
    rw [hA]; exact Option.some_ne_none _
  · obtain ⟨a', c, hA, hb, hK, hc⟩ := h j n hj
    obtain rfl : a' = a := by rw [ha] at hA; exact (Option.some.inj hA).symm
    have := hc 0 (.int .u8 n) (by dsimp only [Kn.int] at hK; rw [hK]; rfl)
    dsimp only [Kn.int] at this
    rwa [Nat.mul_one, Nat.add_zero] at this

theorem own : ownKnob Try.prog.godebug = none := by kernel_rfl
theorem laidOut : laidOutB Try.prog = true := by kernel_rfl
set_option maxRecDepth 100000 in
set_option maxHeartbeats 1000000 in
theorem lifted (os : Os) (started : os.Started) (H : Type) (enc : TypeId × Value → H) :
    ReturnsInHanded {} Try.checked os 8 .any (Rows.arbiterLoadsSpec.pre6 enc Try.prog Try.f8 Rows.arbiterLoadsRow.domain false) (Rows.arbiterLoadsSpec.post enc Try.prog Try.f8 false true false false) := by
  refine returnsInHanded_of_change_sized (C := Try.checked) own started (by kernel_rfl) Try.func8
    (ChangeSpec.witness6 (enc := enc) (C := Try.checked) false ⟨#[], #[.slice none 0 0, .int .u64 0, .int .u64 0, .slice none 0 0, .slice none 0 0], []⟩ 8 (by kernel_rfl) (by kernel_rfl) (by kernel_rfl) (by kernel_rfl)) ?_
  intro W base args ds gs before hval0 hW hcnd hsz0 _
  have hsz : (DataW.weightsEach Try.prog (Try.f8.params.toList ++ Rows.arbiterLoadsSpec.plain.varTypes Try.prog) (ds ++ gs)).all (· ≤ reachBytes) = true := hsz0
  have hval : ∀ (j : Nat) t v, Try.f8.params[j]? = some t → args[j]? = some v → Value.okWide Try.prog W .any base t v := hval0
  have hW' := hW
  obtain ⟨p, q, hA0, hV, rfl, hfz, hnd⟩ := hW
  have hA : DataW.TrodAll enc Try.prog W 0 (fun _ => true) true Try.f8.params.toList args.toList ds p := hA0
  rw [Try.params8] at hA hval hsz
  obtain ⟨v0, vs0, d0, ds0, p0, q0, hargs, rfl, rfl, h0, r0⟩ := trodAll_cons hA
  obtain ⟨v1, vs1, d1, ds1, p1, q1, rfl, rfl, rfl, h1, r1⟩ := trodAll_cons r0
  obtain ⟨v2, vs2, d2, ds2, p2, q2, rfl, rfl, rfl, h2, r2⟩ := trodAll_cons r1
  obtain ⟨v3, vs3, d3, ds3, p3, q3, rfl, rfl, rfl, h3, r3⟩ := trodAll_cons r2
  obtain ⟨v4, vs4, d4, ds4, p4, q4, rfl, rfl, rfl, h4, r4⟩ := trodAll_cons r3
  obtain ⟨rfl, rfl, rfl⟩ := trodAll_nil r4
  obtain rfl : args = #[v0, v1, v2, v3, v4] := by cases args; simp_all
  obtain ⟨rfl, rfl⟩ := trodVars_none hV
  have lt0 : ∀ x ∈ p0, x.block < W.heap.size := by obtain ⟨m, hm⟩ := h0; exact DataW.trod_lt m _ _ _ hm
  obtain ⟨A0, len0, cap0, rfl⟩ := okWide_slice Try.underlying28 (hval 0 28 v0 rfl rfl)
  have o0 : Opens Try.prog W 28 (Kn.slice (Kn.int .u8)) (fun a => a.length ≤ maxLen ∧ ∀ x0 ∈ a, (Lit.int .u8 x0).wf = true) := opens_mono (opens_slice Try.underlying28 (by kernel_rfl) (by decide) (opens_int .u8 Try.underlying5)) (fun _ h => h)
  have h0' := h0
  obtain ⟨m0, hm0⟩ := h0'
  obtain ⟨x0, ⟨A0', c0', e0, hl0, hR0⟩, hq0⟩ := o0 H enc _ _ m0 _ _ hm0
  obtain ⟨rfl, rfl, rfl⟩ : A0 = A0' ∧ len0 = x0.length ∧ cap0 = c0' := by simpa [Value.cells] using e0
  have lt1 : ∀ x ∈ p1, x.block < W.heap.size := by obtain ⟨m, hm⟩ := h1; exact DataW.trod_lt m _ _ _ hm
  obtain ⟨a1, rfl, _, _, w1⟩ := open_int Try.underlying22 (hval 1 22 v1 rfl rfl) h1
  have lt2 : ∀ x ∈ p2, x.block < W.heap.size := by obtain ⟨m, hm⟩ := h2; exact DataW.trod_lt m _ _ _ hm
  obtain ⟨a2, rfl, _, _, w2⟩ := open_int Try.underlying22 (hval 2 22 v2 rfl rfl) h2
  have lt3 : ∀ x ∈ p3, x.block < W.heap.size := by obtain ⟨m, hm⟩ := h3; exact DataW.trod_lt m _ _ _ hm
  obtain ⟨A3, len3, cap3, rfl⟩ := okWide_slice Try.underlying39 (hval 3 39 v3 rfl rfl)
  have o3 : Opens Try.prog W 39 (Kn.slice (Kn.pair (Kn.int .i64) (Kn.pair (Kn.int .i64) (Kn.pair (Kn.int .i64) (Kn.pair (Kn.int .i64) (Kn.pair (Kn.int .u32) (Kn.pair (Kn.int .u32) (Kn.pair (Kn.int .u64) (Kn.pair (Kn.int .u64) (Kn.pair (Kn.int .u32) (Kn.pair (Kn.int .i64) (Kn.pair Kn.bool (Kn.pair (Kn.int .i64) (Kn.pair (Kn.slice (Kn.int .u8)) (Kn.slice (Kn.int .u8)))))))))))))))) (fun a => a.length ≤ maxLen ∧ ∀ x0 ∈ a, ((Lit.int .i64 x0.1).wf = true) ∧ ((Lit.int .i64 x0.2.1).wf = true) ∧ ((Lit.int .i64 x0.2.2.1).wf = true) ∧ (((Lit.int .i64 x0.2.2.2.1).wf = true) ∧ ((Lit.int .u32 x0.2.2.2.2.1).wf = true) ∧ ((Lit.int .u32 x0.2.2.2.2.2.1).wf = true) ∧ ((Lit.int .u64 x0.2.2.2.2.2.2.1).wf = true) ∧ ((Lit.int .u64 x0.2.2.2.2.2.2.2.1).wf = true) ∧ ((Lit.int .u32 x0.2.2.2.2.2.2.2.2.1).wf = true) ∧ ((Lit.int .i64 x0.2.2.2.2.2.2.2.2.2.1).wf = true) ∧ (True) ∧ ((Lit.int .i64 x0.2.2.2.2.2.2.2.2.2.2.2.1).wf = true) ∧ (x0.2.2.2.2.2.2.2.2.2.2.2.2.1.length ≤ maxLen ∧ ∀ x1 ∈ x0.2.2.2.2.2.2.2.2.2.2.2.2.1, (Lit.int .u8 x1).wf = true) ∧ (x0.2.2.2.2.2.2.2.2.2.2.2.2.2.length ≤ maxLen ∧ ∀ x1 ∈ x0.2.2.2.2.2.2.2.2.2.2.2.2.2, (Lit.int .u8 x1).wf = true))) := opens_mono (opens_slice Try.underlying39 (by kernel_rfl) (by decide) (opens_struct Try.underlying45 (by kernel_rfl) (opensF_cons rfl (by kernel_rfl) (opens_int .i64 Try.underlying3) (opensF_cons rfl (by kernel_rfl) (opens_int .i64 Try.underlying3) (opensF_cons rfl (by kernel_rfl) (opens_int .i64 Try.underlying3) (opensF_one rfl (by kernel_rfl) (opens_struct Try.underlying30 (by kernel_rfl) (opensF_cons rfl (by kernel_rfl) (opens_int .i64 Try.underlying3) (opensF_cons rfl (by kernel_rfl) (opens_int .u32 Try.underlying27) (opensF_cons rfl (by kernel_rfl) (opens_int .u32 Try.underlying27) (opensF_cons rfl (by kernel_rfl) (opens_int .u64 Try.underlying22) (opensF_cons rfl (by kernel_rfl) (opens_int .u64 Try.underlying22) (opensF_cons rfl (by kernel_rfl) (opens_int .u32 Try.underlying27) (opensF_cons rfl (by kernel_rfl) (opens_int .i64 Try.underlying3) (opensF_cons rfl (by kernel_rfl) (opens_bool Try.underlying4) (opensF_cons rfl (by kernel_rfl) (opens_int .i64 Try.underlying3) (opensF_cons rfl (by kernel_rfl) (opens_slice Try.underlying28 (by kernel_rfl) (by decide) (opens_int .u8 Try.underlying5)) (opensF_one rfl (by kernel_rfl) (opens_slice Try.underlying28 (by kernel_rfl) (by decide) (opens_int .u8 Try.underlying5)))))))))))))))))))) (fun _ h => h)
  have h3' := h3
  obtain ⟨m3, hm3⟩ := h3'
  obtain ⟨x3, ⟨A3', c3', e3, hl3, hR3⟩, hq3⟩ := o3 H enc _ _ m3 _ _ hm3
  obtain ⟨rfl, rfl, rfl⟩ : A3 = A3' ∧ len3 = x3.length ∧ cap3 = c3' := by simpa [Value.cells] using e3
  have lt4 : ∀ x ∈ p4, x.block < W.heap.size := by obtain ⟨m, hm⟩ := h4; exact DataW.trod_lt m _ _ _ hm
  obtain ⟨A4, len4, cap4, rfl⟩ := okWide_slice Try.underlying39 (hval 4 39 v4 rfl rfl)
  have o4 : Opens Try.prog W 39 (Kn.slice (Kn.pair (Kn.int .i64) (Kn.pair (Kn.int .i64) (Kn.pair (Kn.int .i64) (Kn.pair (Kn.int .i64) (Kn.pair (Kn.int .u32) (Kn.pair (Kn.int .u32) (Kn.pair (Kn.int .u64) (Kn.pair (Kn.int .u64) (Kn.pair (Kn.int .u32) (Kn.pair (Kn.int .i64) (Kn.pair Kn.bool (Kn.pair (Kn.int .i64) (Kn.pair (Kn.slice (Kn.int .u8)) (Kn.slice (Kn.int .u8)))))))))))))))) (fun a => a.length ≤ maxLen ∧ ∀ x0 ∈ a, ((Lit.int .i64 x0.1).wf = true) ∧ ((Lit.int .i64 x0.2.1).wf = true) ∧ ((Lit.int .i64 x0.2.2.1).wf = true) ∧ (((Lit.int .i64 x0.2.2.2.1).wf = true) ∧ ((Lit.int .u32 x0.2.2.2.2.1).wf = true) ∧ ((Lit.int .u32 x0.2.2.2.2.2.1).wf = true) ∧ ((Lit.int .u64 x0.2.2.2.2.2.2.1).wf = true) ∧ ((Lit.int .u64 x0.2.2.2.2.2.2.2.1).wf = true) ∧ ((Lit.int .u32 x0.2.2.2.2.2.2.2.2.1).wf = true) ∧ ((Lit.int .i64 x0.2.2.2.2.2.2.2.2.2.1).wf = true) ∧ (True) ∧ ((Lit.int .i64 x0.2.2.2.2.2.2.2.2.2.2.2.1).wf = true) ∧ (x0.2.2.2.2.2.2.2.2.2.2.2.2.1.length ≤ maxLen ∧ ∀ x1 ∈ x0.2.2.2.2.2.2.2.2.2.2.2.2.1, (Lit.int .u8 x1).wf = true) ∧ (x0.2.2.2.2.2.2.2.2.2.2.2.2.2.length ≤ maxLen ∧ ∀ x1 ∈ x0.2.2.2.2.2.2.2.2.2.2.2.2.2, (Lit.int .u8 x1).wf = true))) := opens_mono (opens_slice Try.underlying39 (by kernel_rfl) (by decide) (opens_struct Try.underlying45 (by kernel_rfl) (opensF_cons rfl (by kernel_rfl) (opens_int .i64 Try.underlying3) (opensF_cons rfl (by kernel_rfl) (opens_int .i64 Try.underlying3) (opensF_cons rfl (by kernel_rfl) (opens_int .i64 Try.underlying3) (opensF_one rfl (by kernel_rfl) (opens_struct Try.underlying30 (by kernel_rfl) (opensF_cons rfl (by kernel_rfl) (opens_int .i64 Try.underlying3) (opensF_cons rfl (by kernel_rfl) (opens_int .u32 Try.underlying27) (opensF_cons rfl (by kernel_rfl) (opens_int .u32 Try.underlying27) (opensF_cons rfl (by kernel_rfl) (opens_int .u64 Try.underlying22) (opensF_cons rfl (by kernel_rfl) (opens_int .u64 Try.underlying22) (opensF_cons rfl (by kernel_rfl) (opens_int .u32 Try.underlying27) (opensF_cons rfl (by kernel_rfl) (opens_int .i64 Try.underlying3) (opensF_cons rfl (by kernel_rfl) (opens_bool Try.underlying4) (opensF_cons rfl (by kernel_rfl) (opens_int .i64 Try.underlying3) (opensF_cons rfl (by kernel_rfl) (opens_slice Try.underlying28 (by kernel_rfl) (by decide) (opens_int .u8 Try.underlying5)) (opensF_one rfl (by kernel_rfl) (opens_slice Try.underlying28 (by kernel_rfl) (by decide) (opens_int .u8 Try.underlying5)))))))))))))))))))) (fun _ h => h)
  have h4' := h4
  obtain ⟨m4, hm4⟩ := h4'
  obtain ⟨x4, ⟨A4', c4', e4, hl4, hR4⟩, hq4⟩ := o4 H enc _ _ m4 _ _ hm4
  obtain ⟨rfl, rfl, rfl⟩ : A4 = A4' ∧ len4 = x4.length ∧ cap4 = c4' := by simpa [Value.cells] using e4
  clear hA0 hval0 hsz0 hsz
  refine (Go.VX.loads_calls A0 A3 A4 a1 a2 x0.length cap0 x3.length cap3 x4.length cap4 x0 W (bytes_of hR0) (fun x hx => wf_u8 (hq0.2 x hx)) hl0 (wf_u64 w1).1 (wf_u64 w2).1 (acts_of hR3 hq3.1 fun x hx => ⟨(hq3.2 x hx).2.2.2.2.1, (hq3.2 x hx).2.2.2.2.2.1, (hq3.2 x hx).2.2.2.2.2.2.1, (hq3.2 x hx).2.2.2.2.2.2.2.1, (hq3.2 x hx).2.2.2.2.2.2.2.2.1⟩) (acts_of hR4 hq4.1 fun x hx => ⟨(hq4.2 x hx).2.2.2.2.1, (hq4.2 x hx).2.2.2.2.2.1, (hq4.2 x hx).2.2.2.2.2.2.1, (hq4.2 x hx).2.2.2.2.2.2.2.1, (hq4.2 x hx).2.2.2.2.2.2.2.2.1⟩)).mono fun e W' ⟨he, bel⟩ => ?_
  subst he
  exact ⟨_, rfl, _, _, _, [], _, [], hW', trodAll_mk1 (shut_bool Try.underlying4 _), (trodAll_cons_mk (Below.trod laidOut (by kernel_rfl) (of_decide_eq_true (by kernel_rfl)) h0 bel lt0) (trodAll_cons_mk (Below.trod laidOut (by kernel_rfl) (of_decide_eq_true (by kernel_rfl)) h1 bel lt1) (trodAll_cons_mk (Below.trod laidOut (by kernel_rfl) (of_decide_eq_true (by kernel_rfl)) h2 bel lt2) (trodAll_cons_mk (Below.trod laidOut (by kernel_rfl) (of_decide_eq_true (by kernel_rfl)) h3 bel lt3) (trodAll_cons_mk (Below.trod laidOut (by kernel_rfl) (of_decide_eq_true (by kernel_rfl)) h4 bel lt4) trodAll_mk0))))), rfl, bel.frame _, fun h => by cases h⟩
theorem over : Rows.arbiterLoadsRow.holds Try.pinned (OpenSpec.ofChange Rows.arbiterLoadsSpec) :=
  OpenClaim.holds_of_wide 8 Try.f8 rfl rfl rfl rfl rfl rfl rfl ⟨rfl, rfl, rfl, rfl, rfl⟩ rfl rfl rfl rfl rfl (by kernel_rfl) Try.func8 (by kernel_rfl)
    (of_decide_eq_true (by kernel_rfl)) (by unfold Func.isWrapper; first | (rw [if_pos (by decide +kernel)]; kernel_rfl) | (rw [if_neg (by decide +kernel)]; exact ⟨rfl, rfl⟩))
    (fun os started H enc _ => lifted os started H enc)
theorem proved : Rows.ArbiterLoadsSaid := over
#print axioms proved
end Go.Proofs.Ytgghljienippgaa.arbiterLoads
namespace Go.Proofs.Ytgghljienippgaa
/-- The row, under a short name, for the claim. -/
theorem arbiterLoads_holds : Rows.ArbiterLoadsSaid := arbiterLoads.proved
end Go.Proofs.Ytgghljienippgaa
