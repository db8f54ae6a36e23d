/- The law ArbiterHolds, for every input: out of the plain law PureC.ArbiterHolds and the printed walk. -/
import Derived.Test.YtgghljienippgaaRows
import Derived.Test.YtgghljienippgaaQHoPAx13
import Derived.Test.YtgghljienippgaaQHoPureC
import Derived.Test.YtgghljienippgaaQHoOpens
import Derived.WalkKit
import Derived.ProofKit
import Derived.OpenShut
import Derived.ShutString
import Derived.ChangeOld
import Derived.Below
import Derived.SizedLaws
import Derived.Carry
namespace Go.Proofs.Ytgghljienippgaa.arbiterHolds
open Go.ChangeShapes Go.WideShapes Go.ChangeAt Go.RowKit Go.Proofs.Ytgghljienippgaa.Opens Go.Proofs.YtgghljienippgaaW.PrintWords Go.Proofs.Ytgghljienippgaa.PA
open Go.ChangeMaps (open_string shut_string)
set_option linter.unusedVariables false
set_option linter.unusedSimpArgs false
theorem own : ownKnob Try.prog.godebug = none := by kernel_rfl
theorem laidOut : laidOutB Try.prog = true := by kernel_rfl
set_option maxRecDepth 100000 in
set_option maxHeartbeats 1000000 in
theorem lifted (os : Os) (started : os.Started) (H : Type) (enc : TypeId × Value → H) :
    ReturnsInHanded {} Try.checked os 4 .any (Rows.arbiterHoldsSpec.pre6 enc Try.prog Try.f4 Rows.arbiterHoldsRow.domain false) (Rows.arbiterHoldsSpec.post enc Try.prog Try.f4 false true false false) := by
  refine returnsInHanded_of_change_sized (C := Try.checked) own started (by kernel_rfl) Try.func4
    (ChangeSpec.witness6 (enc := enc) (C := Try.checked) false ⟨#[], #[.int .u64 0, .slice none 0 0], []⟩ 8 (by kernel_rfl) (by kernel_rfl) (by kernel_rfl) (by kernel_rfl)) ?_
  intro W base args ds gs before hval0 hW hcnd hsz0 _
  have hsz : (DataW.weightsEach Try.prog (Try.f4.params.toList ++ Rows.arbiterHoldsSpec.plain.varTypes Try.prog) (ds ++ gs)).all (· ≤ reachBytes) = true := hsz0
  have hval : ∀ (j : Nat) t v, Try.f4.params[j]? = some t → args[j]? = some v → Value.okWide Try.prog W .any base t v := hval0
  have hW' := hW
  obtain ⟨p, q, hA0, hV, rfl, hfz, hnd⟩ := hW
  have hA : DataW.TrodAll enc Try.prog W 0 (fun _ => true) true Try.f4.params.toList args.toList ds p := hA0
  rw [Try.params4] at hA hval hsz
  obtain ⟨v0, vs0, d0, ds0, p0, q0, hargs, rfl, rfl, h0, r0⟩ := trodAll_cons hA
  obtain ⟨v1, vs1, d1, ds1, p1, q1, rfl, rfl, rfl, h1, r1⟩ := trodAll_cons r0
  obtain ⟨rfl, rfl, rfl⟩ := trodAll_nil r1
  obtain rfl : args = #[v0, v1] := by cases args; simp_all
  obtain ⟨rfl, rfl⟩ := trodVars_none hV
  have lt0 : ∀ x ∈ p0, x.block < W.heap.size := by obtain ⟨m, hm⟩ := h0; exact DataW.trod_lt m _ _ _ hm
  obtain ⟨a0, rfl, _, _, w0⟩ := open_int Try.underlying22 (hval 0 22 v0 rfl rfl) h0
  have lt1 : ∀ x ∈ p1, x.block < W.heap.size := by obtain ⟨m, hm⟩ := h1; exact DataW.trod_lt m _ _ _ hm
  obtain ⟨A1, len1, cap1, rfl⟩ := okWide_slice Try.underlying37 (hval 1 37 v1 rfl rfl)
  have o1 : Opens Try.prog W 37 (Kd.slice 3 (Kd.int .i64)) (fun a => a.length ≤ maxLen ∧ ∀ x0 ∈ a, (Lit.int .i64 x0).wf = true) := opens_mono (opens_slice Try.underlying37 (by kernel_rfl) (opens_int .i64 Try.underlying3)) (fun _ h => h)
  have h1' := h1
  obtain ⟨m1, hm1⟩ := h1'
  obtain ⟨x1, ⟨A1', c1', e1, hc1, hC1⟩, w1⟩ := o1 H enc _ _ m1 _ _ hm1
  obtain ⟨rfl, rfl, rfl⟩ : A1 = A1' ∧ len1 = x1.length ∧ cap1 = c1' := by simpa [Value.cells] using e1
  clear hA0 hval0 hsz0 hsz
  obtain ⟨k, hk⟩ : ∃ k, drayagelaw17_ArbiterHolds.f k a0 x1 = some true := (Pure.ArbiterHolds a0 x1 w0 w1).rounds
  refine (drayagelaw17_ArbiterHolds.calls k a0 A1 cap1 x1 true W hC1 hc1 hk).mono fun e W' ⟨he, bel⟩ => ?_
  subst he
  exact ⟨_, rfl, _, _, _, [], _, [], hW', trodAll_mk1 (shut_bool Try.underlying4 _), (trodAll_cons_mk (Below.trod laidOut (by kernel_rfl) (of_decide_eq_true (by kernel_rfl)) h0 bel lt0) (trodAll_cons_mk (Below.trod laidOut (by kernel_rfl) (of_decide_eq_true (by kernel_rfl)) h1 bel lt1) trodAll_mk0)), rfl, bel.frame _, fun h => by cases h⟩
theorem over : Rows.arbiterHoldsRow.holds Try.pinned (OpenSpec.ofChange Rows.arbiterHoldsSpec) :=
  OpenClaim.holds_of_wide 4 Try.f4 rfl rfl rfl rfl rfl rfl rfl ⟨rfl, rfl, rfl, rfl, rfl⟩ rfl rfl rfl rfl rfl (by kernel_rfl) Try.func4 (by kernel_rfl)
    (of_decide_eq_true (by kernel_rfl)) (by unfold Func.isWrapper; first | (rw [if_pos (by decide +kernel)]; kernel_rfl) | (rw [if_neg (by decide +kernel)]; exact ⟨rfl, rfl⟩))
    (fun os started H enc _ => lifted os started H enc)
theorem proved : Rows.ArbiterHoldsSaid := over
#print axioms proved
end Go.Proofs.Ytgghljienippgaa.arbiterHolds
namespace Go.Proofs.Ytgghljienippgaa
/-- The row, under a short name, for the claim. -/
theorem arbiterHolds_holds : Rows.ArbiterHoldsSaid := arbiterHolds.proved
end Go.Proofs.Ytgghljienippgaa
