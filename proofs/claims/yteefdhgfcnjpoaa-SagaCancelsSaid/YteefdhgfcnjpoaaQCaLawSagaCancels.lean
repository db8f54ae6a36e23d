/- The law SagaCancels, for every input: out of the plain law PureN.SagaCancels and the printed walk. -/
import Derived.Test.YteefdhgfcnjpoaaRows
import Derived.Test.YteefdhgfcnjpoaaQCaPAx28
import Derived.Test.YteefdhgfcnjpoaaQCaPureN
import Derived.Test.YteefdhgfcnjpoaaQCaOpens
import Derived.WalkKit
import Derived.ProofKit
import Derived.OpenShut
import Derived.ShutString
import Derived.ChangeOld
import Derived.Below
import Derived.SizedLaws
import Derived.Carry
namespace Go.Proofs.Yteefdhgfcnjpoaa.sagaCancels
open Go.ChangeShapes Go.WideShapes Go.ChangeAt Go.RowKit Go.Proofs.Yteefdhgfcnjpoaa.Opens Go.Proofs.YteefdhgfcnjpoaaW.PrintWords Go.Proofs.Yteefdhgfcnjpoaa.PA
open Go.ChangeMaps (open_string shut_string)
set_option linter.unusedVariables false
set_option linter.unusedSimpArgs false
theorem opens36 (w : World) : Opens Try.prog w 36 k36 (fun b => ((Lit.int .i64 b.f0).wf = true) ∧ ((Lit.int .i64 b.f1).wf = true) ∧ (b.f2.length ≤ maxLen ∧ ∀ x0 ∈ b.f2, (Lit.int .u8 x0).wf = true)) := opens_mono (opens_iso (fun x : S36 => (x.f0, x.f1, x.f2)) (fun y => (⟨y.1, y.2.1, y.2.2⟩ : S36)) (fun _ => rfl) (opens_struct Try.underlying36 (by kernel_rfl) (opensF_cons rfl (by kernel_rfl) (opens_int .i64 Try.underlying3) (opensF_cons rfl (by kernel_rfl) (opens_int .i64 Try.underlying3) (opensF_one rfl (by kernel_rfl) (opens_slice Try.underlying34 (by kernel_rfl) (opens_int .u8 Try.underlying5))))))) (fun _ h => h)
theorem opens38 (w : World) : Opens Try.prog w 38 k38 (fun b => (((Lit.int .i64 b.f0.f0).wf = true) ∧ ((Lit.int .i64 b.f0.f1).wf = true) ∧ (b.f0.f2.length ≤ maxLen ∧ ∀ x0 ∈ b.f0.f2, (Lit.int .u8 x0).wf = true)) ∧ ((Lit.int .i64 b.f1).wf = true) ∧ ((Lit.int .i64 b.f2).wf = true) ∧ (True)) := opens_mono (opens_iso (fun x : S38 => (x.f0, x.f1, x.f2, x.f3)) (fun y => (⟨y.1, y.2.1, y.2.2.1, y.2.2.2⟩ : S38)) (fun _ => rfl) (opens_struct Try.underlying38 (by kernel_rfl) (opensF_cons rfl (by kernel_rfl) (opens36 _) (opensF_cons rfl (by kernel_rfl) (opens_int .i64 Try.underlying3) (opensF_cons rfl (by kernel_rfl) (opens_int .i64 Try.underlying3) (opensF_one rfl (by kernel_rfl) (opens_bool Try.underlying4))))))) (fun _ h => h)
theorem opens54 (w : World) : Opens Try.prog w 54 k54 (fun b => ((Lit.int .i64 b.f0).wf = true) ∧ ((Lit.int .i64 b.f1).wf = true) ∧ ((Lit.int .i64 b.f2).wf = true)) := opens_mono (opens_iso (fun x : S54 => (x.f0, x.f1, x.f2)) (fun y => (⟨y.1, y.2.1, y.2.2⟩ : S54)) (fun _ => rfl) (opens_struct Try.underlying54 (by kernel_rfl) (opensF_cons rfl (by kernel_rfl) (opens_int .i64 Try.underlying3) (opensF_cons rfl (by kernel_rfl) (opens_int .i64 Try.underlying3) (opensF_one rfl (by kernel_rfl) (opens_int .i64 Try.underlying3)))))) (fun _ h => h)
theorem own : ownKnob Try.prog.godebug = none := by kernel_rfl
theorem laidOut : laidOutB Try.prog = true := by kernel_rfl
set_option maxRecDepth 100000 in
set_option maxHeartbeats 1000000 in
theorem lifted (os : Os) (started : os.Started) (H : Type) (enc : TypeId × Value → H) :
    ReturnsInHanded {} Try.checked os 9 .any (Rows.sagaCancelsSpec.pre6 enc Try.prog Try.f9 Rows.sagaCancelsRow.domain false) (Rows.sagaCancelsSpec.post enc Try.prog Try.f9 false true false false) := by
  refine returnsInHanded_of_change_sized (C := Try.checked) own started (by kernel_rfl) Try.func9
    (ChangeSpec.witness6 (enc := enc) (C := Try.checked) false ⟨#[], #[.slice none 0 0, .slice none 0 0, .slice none 0 0], []⟩ 8 (by kernel_rfl) (by kernel_rfl) (by kernel_rfl) (by kernel_rfl)) ?_
  intro W base args ds gs before hval0 hW hcnd hsz0 _
  have hsz : (DataW.weightsEach Try.prog (Try.f9.params.toList ++ Rows.sagaCancelsSpec.plain.varTypes Try.prog) (ds ++ gs)).all (· ≤ reachBytes) = true := hsz0
  have hval : ∀ (j : Nat) t v, Try.f9.params[j]? = some t → args[j]? = some v → Value.okWide Try.prog W .any base t v := hval0
  have hW' := hW
  obtain ⟨p, q, hA0, hV, rfl, hfz, hnd⟩ := hW
  have hA : DataW.TrodAll enc Try.prog W 0 (fun _ => true) true Try.f9.params.toList args.toList ds p := hA0
  rw [Try.params9] at hA hval hsz
  obtain ⟨v0, vs0, d0, ds0, p0, q0, hargs, rfl, rfl, h0, r0⟩ := trodAll_cons hA
  obtain ⟨v1, vs1, d1, ds1, p1, q1, rfl, rfl, rfl, h1, r1⟩ := trodAll_cons r0
  obtain ⟨v2, vs2, d2, ds2, p2, q2, rfl, rfl, rfl, h2, r2⟩ := trodAll_cons r1
  obtain ⟨rfl, rfl, rfl⟩ := trodAll_nil r2
  obtain rfl : args = #[v0, v1, v2] := by cases args; simp_all
  obtain ⟨rfl, rfl⟩ := trodVars_none hV
  have lt0 : ∀ x ∈ p0, x.block < W.heap.size := by obtain ⟨m, hm⟩ := h0; exact DataW.trod_lt m _ _ _ hm
  obtain ⟨A0, len0, cap0, rfl⟩ := okWide_slice Try.underlying22 (hval 0 22 v0 rfl rfl)
  have o0 : Opens Try.prog W 22 (Kd.slice 38 k38) (fun a => a.length ≤ maxLen ∧ ∀ x0 ∈ a, (((Lit.int .i64 x0.f0.f0).wf = true) ∧ ((Lit.int .i64 x0.f0.f1).wf = true) ∧ (x0.f0.f2.length ≤ maxLen ∧ ∀ x1 ∈ x0.f0.f2, (Lit.int .u8 x1).wf = true)) ∧ ((Lit.int .i64 x0.f1).wf = true) ∧ ((Lit.int .i64 x0.f2).wf = true) ∧ (True)) := opens_mono (opens_slice Try.underlying22 (by kernel_rfl) (opens38 _)) (fun _ h => h)
  have h0' := h0
  obtain ⟨m0, hm0⟩ := h0'
  obtain ⟨x0, ⟨A0', c0', e0, hc0, hC0⟩, w0⟩ := o0 H enc _ _ m0 _ _ hm0
  obtain ⟨rfl, rfl, rfl⟩ : A0 = A0' ∧ len0 = x0.length ∧ cap0 = c0' := by simpa [Value.cells] using e0
  have lt1 : ∀ x ∈ p1, x.block < W.heap.size := by obtain ⟨m, hm⟩ := h1; exact DataW.trod_lt m _ _ _ hm
  obtain ⟨A1, len1, cap1, rfl⟩ := okWide_slice Try.underlying50 (hval 1 50 v1 rfl rfl)
  have o1 : Opens Try.prog W 50 (Kd.slice 54 k54) (fun a => a.length ≤ maxLen ∧ ∀ x0 ∈ a, ((Lit.int .i64 x0.f0).wf = true) ∧ ((Lit.int .i64 x0.f1).wf = true) ∧ ((Lit.int .i64 x0.f2).wf = true)) := opens_mono (opens_slice Try.underlying50 (by kernel_rfl) (opens54 _)) (fun _ h => h)
  have h1' := h1
  obtain ⟨m1, hm1⟩ := h1'
  obtain ⟨x1, ⟨A1', c1', e1, hc1, hC1⟩, w1⟩ := o1 H enc _ _ m1 _ _ hm1
  obtain ⟨rfl, rfl, rfl⟩ : A1 = A1' ∧ len1 = x1.length ∧ cap1 = c1' := by simpa [Value.cells] using e1
  have lt2 : ∀ x ∈ p2, x.block < W.heap.size := by obtain ⟨m, hm⟩ := h2; exact DataW.trod_lt m _ _ _ hm
  obtain ⟨A2, len2, cap2, rfl⟩ := okWide_slice Try.underlying50 (hval 2 50 v2 rfl rfl)
  have o2 : Opens Try.prog W 50 (Kd.slice 54 k54) (fun a => a.length ≤ maxLen ∧ ∀ x0 ∈ a, ((Lit.int .i64 x0.f0).wf = true) ∧ ((Lit.int .i64 x0.f1).wf = true) ∧ ((Lit.int .i64 x0.f2).wf = true)) := opens_mono (opens_slice Try.underlying50 (by kernel_rfl) (opens54 _)) (fun _ h => h)
  have h2' := h2
  obtain ⟨m2, hm2⟩ := h2'
  obtain ⟨x2, ⟨A2', c2', e2, hc2, hC2⟩, w2⟩ := o2 H enc _ _ m2 _ _ hm2
  obtain ⟨rfl, rfl, rfl⟩ : A2 = A2' ∧ len2 = x2.length ∧ cap2 = c2' := by simpa [Value.cells] using e2
  clear hA0 hval0 hsz0 hsz
  obtain ⟨k, hk⟩ : ∃ k, drayagelaw14_SagaCancels.f k x0 x1 x2 = some true := (Pure.SagaCancels x0 x1 x2 w0 w1 w2).rounds
  refine (drayagelaw14_SagaCancels.calls k A0 cap0 x0 A1 cap1 x1 A2 cap2 x2 true W hC0 hc0 hC1 hc1 hC2 hc2 hk).mono fun e W' ⟨he, bel⟩ => ?_
  subst he
  exact ⟨_, rfl, _, _, _, [], _, [], hW', trodAll_mk1 (shut_bool Try.underlying4 _), (trodAll_cons_mk (Below.trod laidOut (by kernel_rfl) (of_decide_eq_true (by kernel_rfl)) h0 bel lt0) (trodAll_cons_mk (Below.trod laidOut (by kernel_rfl) (of_decide_eq_true (by kernel_rfl)) h1 bel lt1) (trodAll_cons_mk (Below.trod laidOut (by kernel_rfl) (of_decide_eq_true (by kernel_rfl)) h2 bel lt2) trodAll_mk0))), rfl, bel.frame _, fun h => by cases h⟩
theorem over : Rows.sagaCancelsRow.holds Try.pinned (OpenSpec.ofChange Rows.sagaCancelsSpec) :=
  OpenClaim.holds_of_wide 9 Try.f9 rfl rfl rfl rfl rfl rfl rfl ⟨rfl, rfl, rfl, rfl, rfl⟩ rfl rfl rfl rfl rfl (by kernel_rfl) Try.func9 (by kernel_rfl)
    (of_decide_eq_true (by kernel_rfl)) (by unfold Func.isWrapper; first | (rw [if_pos (by decide +kernel)]; kernel_rfl) | (rw [if_neg (by decide +kernel)]; exact ⟨rfl, rfl⟩))
    (fun os started H enc _ => lifted os started H enc)
theorem proved : Rows.SagaCancelsSaid := over
#print axioms proved
end Go.Proofs.Yteefdhgfcnjpoaa.sagaCancels
namespace Go.Proofs.Yteefdhgfcnjpoaa
/-- The row, under a short name, for the claim. -/
theorem sagaCancels_holds : Rows.SagaCancelsSaid := sagaCancels.proved
end Go.Proofs.Yteefdhgfcnjpoaa
