/- The law ArbiterAlone, for every input: out of its walk, told by VX. -/
import Derived.Test.YtgghljienippgaaRows
import Derived.Test.YtgghljienippgaaVO
import Derived.Test.YtgghljienippgaaValone
import Derived.WalkKit
import Derived.ProofKit
import Derived.OpenShut
import Derived.ShutString
import Derived.ChangeOld
import Derived.Below
import Derived.SizedLaws
import Derived.Carry
namespace Go.Proofs.Ytgghljienippgaa.arbiterAlone
open Go.ChangeShapes Go.WideShapes Go.ChangeAt Go.RowKit Go.VO
open Go.ChangeMaps (open_string shut_string)
set_option linter.unusedVariables false
set_option linter.unusedSimpArgs false

theorem moves_of {W : World} {A : Option Addr} {xs : List (Int × Int × Int × Int × Bool × Int)}
    (h : RowAt W (Kn.pair (Kn.int .i64) (Kn.pair (Kn.int .i64) (Kn.pair (Kn.int .i64) (Kn.pair (Kn.int .i64) (Kn.pair Kn.bool (Kn.int .i64)))))) A xs) (hm : xs.length ≤ maxLen) : Go.VX.MovesAt W A xs.length := by
  refine ⟨hm, fun i h0 h1 => ?_⟩
  have hi : i.toNat < xs.length := by omega
  obtain ⟨a, c, hA, hb, hK, hc⟩ := h i.toNat _ (List.getElem?_eq_getElem hi)
  generalize xs[i.toNat] = x at hK
  obtain ⟨f0, f1, f2, f3, f4, f5⟩ := x
  dsimp only [Kn.pair, Kn.int, Kn.bool] at hK
  obtain ⟨_, _, rfl, rfl, _, _, rfl, rfl, _, _, rfl, rfl, _, _, rfl, rfl, _, _, rfl, rfl, rfl⟩ := hK
  have cell : ∀ (j : Nat) u, _ → W.cell? ((a.add (i.toNat * 6)).add j) = some u := fun j u hu => by rw [Go.VO.add_add]; exact hc j u hu
  exact ⟨a, f0, f1, f2, f3, f4, f5, hA, (by rw [Go.VO.blk_add]; exact hb), cell 0 _ rfl, cell 1 _ rfl, cell 2 _ rfl, cell 3 _ rfl, cell 4 _ rfl, cell 5 _ rfl, trivial⟩

theorem own : ownKnob Try.prog.godebug = none := by kernel_rfl
theorem laidOut : laidOutB Try.prog = true := by kernel_rfl
set_option maxRecDepth 100000 in
set_option maxHeartbeats 1000000 in
theorem lifted (os : Os) (started : os.Started) (H : Type) (enc : TypeId × Value → H) :
    ReturnsInHanded {} Try.checked os 9 .any (Rows.arbiterAloneSpec.pre6 enc Try.prog Try.f9 Rows.arbiterAloneRow.domain false) (Rows.arbiterAloneSpec.post enc Try.prog Try.f9 false true false false) := by
  refine returnsInHanded_of_change_sized (C := Try.checked) own started (by kernel_rfl) Try.func9
    (ChangeSpec.witness6 (enc := enc) (C := Try.checked) false ⟨#[], #[.int .u64 0, .int .u64 0, .slice none 0 0], []⟩ 8 (by kernel_rfl) (by kernel_rfl) (by kernel_rfl) (by kernel_rfl)) ?_
  intro W base args ds gs before hval0 hW hcnd hsz0 _
  have hsz : (DataW.weightsEach Try.prog (Try.f9.params.toList ++ Rows.arbiterAloneSpec.plain.varTypes Try.prog) (ds ++ gs)).all (· ≤ reachBytes) = true := hsz0
  have hval : ∀ (j : Nat) t v, Try.f9.params[j]? = some t → args[j]? = some v → Value.okWide Try.prog W .any base t v := hval0
  have hW' := hW
  obtain ⟨p, q, hA0, hV, rfl, hfz, hnd⟩ := hW
  have hA : DataW.TrodAll enc Try.prog W 0 (fun _ => true) true Try.f9.params.toList args.toList ds p := hA0
  rw [Try.params9] at hA hval hsz
  obtain ⟨v0, vs0, d0, ds0, p0, q0, hargs, rfl, rfl, h0, r0⟩ := trodAll_cons hA
  obtain ⟨v1, vs1, d1, ds1, p1, q1, rfl, rfl, rfl, h1, r1⟩ := trodAll_cons r0
  obtain ⟨v2, vs2, d2, ds2, p2, q2, rfl, rfl, rfl, h2, r2⟩ := trodAll_cons r1
  obtain ⟨rfl, rfl, rfl⟩ := trodAll_nil r2
  obtain rfl : args = #[v0, v1, v2] := by cases args; simp_all
  obtain ⟨rfl, rfl⟩ := trodVars_none hV
  have lt0 : ∀ x ∈ p0, x.block < W.heap.size := by obtain ⟨m, hm⟩ := h0; exact DataW.trod_lt m _ _ _ hm
  obtain ⟨a0, rfl, _, _, w0⟩ := open_int Try.underlying22 (hval 0 22 v0 rfl rfl) h0
  have lt1 : ∀ x ∈ p1, x.block < W.heap.size := by obtain ⟨m, hm⟩ := h1; exact DataW.trod_lt m _ _ _ hm
  obtain ⟨a1, rfl, _, _, w1⟩ := open_int Try.underlying22 (hval 1 22 v1 rfl rfl) h1
  have lt2 : ∀ x ∈ p2, x.block < W.heap.size := by obtain ⟨m, hm⟩ := h2; exact DataW.trod_lt m _ _ _ hm
  obtain ⟨A2, len2, cap2, rfl⟩ := okWide_slice Try.underlying62 (hval 2 62 v2 rfl rfl)
  have o2 : Opens Try.prog W 62 (Kn.slice (Kn.pair (Kn.int .i64) (Kn.pair (Kn.int .i64) (Kn.pair (Kn.int .i64) (Kn.pair (Kn.int .i64) (Kn.pair Kn.bool (Kn.int .i64))))))) (fun a => a.length ≤ maxLen ∧ ∀ x0 ∈ a, ((Lit.int .i64 x0.1).wf = true) ∧ ((Lit.int .i64 x0.2.1).wf = true) ∧ ((Lit.int .i64 x0.2.2.1).wf = true) ∧ ((Lit.int .i64 x0.2.2.2.1).wf = true) ∧ (True) ∧ ((Lit.int .i64 x0.2.2.2.2.2).wf = true)) := opens_mono (opens_slice Try.underlying62 (by kernel_rfl) (by decide) (opens_struct Try.underlying67 (by kernel_rfl) (opensF_cons rfl (by kernel_rfl) (opens_int .i64 Try.underlying3) (opensF_cons rfl (by kernel_rfl) (opens_int .i64 Try.underlying3) (opensF_cons rfl (by kernel_rfl) (opens_int .i64 Try.underlying3) (opensF_cons rfl (by kernel_rfl) (opens_int .i64 Try.underlying3) (opensF_cons rfl (by kernel_rfl) (opens_bool Try.underlying4) (opensF_one rfl (by kernel_rfl) (opens_int .i64 Try.underlying3))))))))) (fun _ h => h)
  have h2' := h2
  obtain ⟨m2, hm2⟩ := h2'
  obtain ⟨x2, ⟨A2', c2', e2, hl2, hR2⟩, hq2⟩ := o2 H enc _ _ m2 _ _ hm2
  obtain ⟨rfl, rfl, rfl⟩ : A2 = A2' ∧ len2 = x2.length ∧ cap2 = c2' := by simpa [Value.cells] using e2
  clear hA0 hval0 hsz0 hsz
  refine (Go.VX.alone_calls a0 a1 A2 x2.length cap2 W (wf_u64 w0).1 (wf_u64 w1).1 (moves_of hR2 hq2.1)).mono fun e W' ⟨he, bel⟩ => ?_
  subst he
  exact ⟨_, rfl, _, _, _, [], _, [], hW', trodAll_mk1 (shut_bool Try.underlying4 _), (trodAll_cons_mk (Below.trod laidOut (by kernel_rfl) (of_decide_eq_true (by kernel_rfl)) h0 bel lt0) (trodAll_cons_mk (Below.trod laidOut (by kernel_rfl) (of_decide_eq_true (by kernel_rfl)) h1 bel lt1) (trodAll_cons_mk (Below.trod laidOut (by kernel_rfl) (of_decide_eq_true (by kernel_rfl)) h2 bel lt2) trodAll_mk0))), rfl, bel.frame _, fun h => by cases h⟩
theorem over : Rows.arbiterAloneRow.holds Try.pinned (OpenSpec.ofChange Rows.arbiterAloneSpec) :=
  OpenClaim.holds_of_wide 9 Try.f9 rfl rfl rfl rfl rfl rfl rfl ⟨rfl, rfl, rfl, rfl, rfl⟩ rfl rfl rfl rfl rfl (by kernel_rfl) Try.func9 (by kernel_rfl)
    (of_decide_eq_true (by kernel_rfl)) (by unfold Func.isWrapper; first | (rw [if_pos (by decide +kernel)]; kernel_rfl) | (rw [if_neg (by decide +kernel)]; exact ⟨rfl, rfl⟩))
    (fun os started H enc _ => lifted os started H enc)
theorem proved : Rows.ArbiterAloneSaid := over
#print axioms proved
end Go.Proofs.Ytgghljienippgaa.arbiterAlone
namespace Go.Proofs.Ytgghljienippgaa
/-- The row, under a short name, for the claim. -/
theorem arbiterAlone_holds : Rows.ArbiterAloneSaid := arbiterAlone.proved
end Go.Proofs.Ytgghljienippgaa
