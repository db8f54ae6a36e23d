/- The law EntryRows, for every input: out of the plain law PureG.EntryRows and the printed walk. -/
import Derived.Test.YtahldljkhjebgaaRows
import Derived.Test.YtahldljkhjebgaaQRwPAx23
import Derived.Test.YtahldljkhjebgaaQRwPureG
import Derived.Test.YtahldljkhjebgaaQRwOpens
import Derived.WalkKit
import Derived.ProofKit
import Derived.OpenShut
import Derived.ShutString
import Derived.ChangeOld
import Derived.Below
import Derived.SizedLaws
import Derived.Carry
namespace Go.Proofs.Ytahldljkhjebgaa.entryRows
open Go.ChangeShapes Go.WideShapes Go.ChangeAt Go.RowKit Go.Proofs.Ytahldljkhjebgaa.Opens Go.Proofs.YtahldljkhjebgaaW.PrintWords Go.Proofs.Ytahldljkhjebgaa.PA
open Go.ChangeMaps (open_string shut_string)
set_option linter.unusedVariables false
set_option linter.unusedSimpArgs false
theorem opens26 (w : World) : Opens Try.prog w 26 k26 (fun b => ((Lit.int .i64 b.f0).wf = true) ∧ ((Lit.int .u64 b.f1).wf = true) ∧ ((Lit.int .u32 b.f2).wf = true) ∧ ((Lit.int .u32 b.f3).wf = true) ∧ ((Lit.int .i64 b.f4).wf = true) ∧ (True) ∧ ((Lit.int .i64 b.f6).wf = true) ∧ ((Lit.int .i64 b.f7).wf = true) ∧ ((Lit.int .u64 b.f8).wf = true) ∧ (b.f9.length ≤ maxLen ∧ ∀ x0 ∈ b.f9, (Lit.int .u8 x0).wf = true) ∧ (b.f10.length ≤ maxLen ∧ ∀ x0 ∈ b.f10, (Lit.int .u8 x0).wf = true)) := opens_mono (opens_iso (fun x : S26 => (x.f0, x.f1, x.f2, x.f3, x.f4, x.f5, x.f6, x.f7, x.f8, x.f9, x.f10)) (fun y => (⟨y.1, y.2.1, y.2.2.1, y.2.2.2.1, y.2.2.2.2.1, y.2.2.2.2.2.1, y.2.2.2.2.2.2.1, y.2.2.2.2.2.2.2.1, y.2.2.2.2.2.2.2.2.1, y.2.2.2.2.2.2.2.2.2.1, y.2.2.2.2.2.2.2.2.2.2⟩ : S26)) (fun _ => rfl) (opens_struct Try.underlying26 (by kernel_rfl) (opensF_cons rfl (by kernel_rfl) (opens_int .i64 Try.underlying3) (opensF_cons rfl (by kernel_rfl) (opens_int .u64 Try.underlying22) (opensF_cons rfl (by kernel_rfl) (opens_int .u32 Try.underlying23) (opensF_cons rfl (by kernel_rfl) (opens_int .u32 Try.underlying23) (opensF_cons rfl (by kernel_rfl) (opens_int .i64 Try.underlying3) (opensF_cons rfl (by kernel_rfl) (opens_bool Try.underlying4) (opensF_cons rfl (by kernel_rfl) (opens_int .i64 Try.underlying3) (opensF_cons rfl (by kernel_rfl) (opens_int .i64 Try.underlying3) (opensF_cons rfl (by kernel_rfl) (opens_int .u64 Try.underlying22) (opensF_cons rfl (by kernel_rfl) (opens_slice Try.underlying24 (by kernel_rfl) (opens_int .u8 Try.underlying5)) (opensF_one rfl (by kernel_rfl) (opens_slice Try.underlying24 (by kernel_rfl) (opens_int .u8 Try.underlying5))))))))))))))) (fun _ h => h)
theorem own : ownKnob Try.prog.godebug = none := by kernel_rfl
theorem laidOut : laidOutB Try.prog = true := by kernel_rfl
set_option maxRecDepth 100000 in
set_option maxHeartbeats 1000000 in
theorem lifted (os : Os) (started : os.Started) (H : Type) (enc : TypeId × Value → H) :
    ReturnsInHanded {} Try.checked os 7 .any (Rows.entryRowsSpec.pre6 enc Try.prog Try.f7 Rows.entryRowsRow.domain false) (Rows.entryRowsSpec.post enc Try.prog Try.f7 false true false false) := by
  refine returnsInHanded_of_change_sized (C := Try.checked) own started (by kernel_rfl) Try.func7
    (ChangeSpec.witness6 (enc := enc) (C := Try.checked) false ⟨#[], #[.slice none 0 0], []⟩ 8 (by kernel_rfl) (by kernel_rfl) (by kernel_rfl) (by kernel_rfl)) ?_
  intro W base args ds gs before hval0 hW hcnd hsz0 _
  have hsz : (DataW.weightsEach Try.prog (Try.f7.params.toList ++ Rows.entryRowsSpec.plain.varTypes Try.prog) (ds ++ gs)).all (· ≤ reachBytes) = true := hsz0
  have hval : ∀ (j : Nat) t v, Try.f7.params[j]? = some t → args[j]? = some v → Value.okWide Try.prog W .any base t v := hval0
  have hW' := hW
  obtain ⟨p, q, hA0, hV, rfl, hfz, hnd⟩ := hW
  have hA : DataW.TrodAll enc Try.prog W 0 (fun _ => true) true Try.f7.params.toList args.toList ds p := hA0
  rw [Try.params7] at hA hval hsz
  obtain ⟨v0, vs0, d0, ds0, p0, q0, hargs, rfl, rfl, h0, r0⟩ := trodAll_cons hA
  obtain ⟨rfl, rfl, rfl⟩ := trodAll_nil r0
  obtain rfl : args = #[v0] := by cases args; simp_all
  obtain ⟨rfl, rfl⟩ := trodVars_none hV
  have lt0 : ∀ x ∈ p0, x.block < W.heap.size := by obtain ⟨m, hm⟩ := h0; exact DataW.trod_lt m _ _ _ hm
  obtain ⟨A0, len0, cap0, rfl⟩ := okWide_slice Try.underlying50 (hval 0 50 v0 rfl rfl)
  have o0 : Opens Try.prog W 50 (Kd.slice 26 k26) (fun a => a.length ≤ maxLen ∧ ∀ x0 ∈ a, ((Lit.int .i64 x0.f0).wf = true) ∧ ((Lit.int .u64 x0.f1).wf = true) ∧ ((Lit.int .u32 x0.f2).wf = true) ∧ ((Lit.int .u32 x0.f3).wf = true) ∧ ((Lit.int .i64 x0.f4).wf = true) ∧ (True) ∧ ((Lit.int .i64 x0.f6).wf = true) ∧ ((Lit.int .i64 x0.f7).wf = true) ∧ ((Lit.int .u64 x0.f8).wf = true) ∧ (x0.f9.length ≤ maxLen ∧ ∀ x1 ∈ x0.f9, (Lit.int .u8 x1).wf = true) ∧ (x0.f10.length ≤ maxLen ∧ ∀ x1 ∈ x0.f10, (Lit.int .u8 x1).wf = true)) := opens_mono (opens_slice Try.underlying50 (by kernel_rfl) (opens26 _)) (fun _ h => h)
  have h0' := h0
  obtain ⟨m0, hm0⟩ := h0'
  obtain ⟨x0, ⟨A0', c0', e0, hc0, hC0⟩, w0⟩ := o0 H enc _ _ m0 _ _ hm0
  obtain ⟨rfl, rfl, rfl⟩ : A0 = A0' ∧ len0 = x0.length ∧ cap0 = c0' := by simpa [Value.cells] using e0
  clear hA0 hval0 hsz0 hsz
  obtain ⟨k, hk⟩ : ∃ k, drayagelaw04_EntryRows.f k x0 = some true := (Pure.EntryRows x0 w0).rounds
  refine (drayagelaw04_EntryRows.calls k A0 cap0 x0 true W hC0 hc0 hk).mono fun e W' ⟨he, bel⟩ => ?_
  subst he
  exact ⟨_, rfl, _, _, _, [], _, [], hW', trodAll_mk1 (shut_bool Try.underlying4 _), (trodAll_cons_mk (Below.trod laidOut (by kernel_rfl) (of_decide_eq_true (by kernel_rfl)) h0 bel lt0) trodAll_mk0), rfl, bel.frame _, fun h => by cases h⟩
theorem over : Rows.entryRowsRow.holds Try.pinned (OpenSpec.ofChange Rows.entryRowsSpec) :=
  OpenClaim.holds_of_wide 7 Try.f7 rfl rfl rfl rfl rfl rfl rfl ⟨rfl, rfl, rfl, rfl, rfl⟩ rfl rfl rfl rfl rfl (by kernel_rfl) Try.func7 (by kernel_rfl)
    (of_decide_eq_true (by kernel_rfl)) (by unfold Func.isWrapper; first | (rw [if_pos (by decide +kernel)]; kernel_rfl) | (rw [if_neg (by decide +kernel)]; exact ⟨rfl, rfl⟩))
    (fun os started H enc _ => lifted os started H enc)
theorem proved : Rows.EntryRowsSaid := over
#print axioms proved
end Go.Proofs.Ytahldljkhjebgaa.entryRows
namespace Go.Proofs.Ytahldljkhjebgaa
/-- The row, under a short name, for the claim. -/
theorem entryRows_holds : Rows.EntryRowsSaid := entryRows.proved
end Go.Proofs.Ytahldljkhjebgaa
