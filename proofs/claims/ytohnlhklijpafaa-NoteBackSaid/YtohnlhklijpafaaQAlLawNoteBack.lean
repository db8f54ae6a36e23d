/- The law NoteBack, for every input: out of the plain law PureC.NoteBack and the printed walk. -/
import Derived.Test.YtohnlhklijpafaaRows
import Derived.Test.YtohnlhklijpafaaQAlPAx5
import Derived.Test.YtohnlhklijpafaaQAlPureC
import Derived.Test.YtohnlhklijpafaaQAlOpens
import Derived.WalkKit
import Derived.ProofKit
import Derived.OpenShut
import Derived.ShutString
import Derived.ChangeOld
import Derived.Below
import Derived.SizedLaws
import Derived.Carry
namespace Go.Proofs.Ytohnlhklijpafaa.noteBack
open Go.ChangeShapes Go.WideShapes Go.ChangeAt Go.RowKit Go.Proofs.Ytohnlhklijpafaa.Opens Go.Proofs.YtohnlhklijpafaaW.PrintWords Go.Proofs.Ytohnlhklijpafaa.PA
open Go.ChangeMaps (open_string shut_string)
set_option linter.unusedVariables false
set_option linter.unusedSimpArgs false
theorem own : ownKnob Try.prog.godebug = none := by kernel_rfl
theorem laidOut : laidOutB Try.prog = true := by kernel_rfl
set_option maxRecDepth 100000 in
set_option maxHeartbeats 1000000 in
theorem lifted (os : Os) (started : os.Started) (H : Type) (enc : TypeId × Value → H) :
    ReturnsInHanded {} Try.checked os 5 .any (Rows.noteBackSpec.pre6 enc Try.prog Try.f5 Rows.noteBackRow.domain false) (Rows.noteBackSpec.post enc Try.prog Try.f5 false true false false) := by
  refine returnsInHanded_of_change_sized (C := Try.checked) own started (by kernel_rfl) Try.func5
    (ChangeSpec.witness6 (enc := enc) (C := Try.checked) false ⟨#[], #[.agg #[.int .i64 0, .int .u32 0, .int .u32 0, .int .u64 0, .int .u64 0, .int .u32 0, .int .i64 0, .bool false, .int .i64 0, .slice none 0 0, .slice none 0 0], .int .u8 0, .slice none 0 0], []⟩ 8 (by kernel_rfl) (by kernel_rfl) (by kernel_rfl) (by kernel_rfl)) ?_
  intro W base args ds gs before hval0 hW hcnd hsz0 _
  have hsz : (DataW.weightsEach Try.prog (Try.f5.params.toList ++ Rows.noteBackSpec.plain.varTypes Try.prog) (ds ++ gs)).all (· ≤ reachBytes) = true := hsz0
  have hval : ∀ (j : Nat) t v, Try.f5.params[j]? = some t → args[j]? = some v → Value.okWide Try.prog W .any base t v := hval0
  have hW' := hW
  obtain ⟨p, q, hA0, hV, rfl, hfz, hnd⟩ := hW
  have hA : DataW.TrodAll enc Try.prog W 0 (fun _ => true) true Try.f5.params.toList args.toList ds p := hA0
  rw [Try.params5] at hA hval hsz
  obtain ⟨v0, vs0, d0, ds0, p0, q0, hargs, rfl, rfl, h0, r0⟩ := trodAll_cons hA
  obtain ⟨v1, vs1, d1, ds1, p1, q1, rfl, rfl, rfl, h1, r1⟩ := trodAll_cons r0
  obtain ⟨v2, vs2, d2, ds2, p2, q2, rfl, rfl, rfl, h2, r2⟩ := trodAll_cons r1
  obtain ⟨rfl, rfl, rfl⟩ := trodAll_nil r2
  obtain rfl : args = #[v0, v1, v2] := by cases args; simp_all
  obtain ⟨rfl, rfl⟩ := trodVars_none hV
  have lt0 : ∀ x ∈ p0, x.block < W.heap.size := by obtain ⟨m, hm⟩ := h0; exact DataW.trod_lt m _ _ _ hm
  obtain ⟨cs0, rfl, hcs0⟩ := okWide_struct Try.underlying26 (hval 0 26 v0 rfl rfl)
  have o0 : Opens Try.prog W 26 (Kd.pair (Kd.int .i64) (Kd.pair (Kd.int .u32) (Kd.pair (Kd.int .u32) (Kd.pair (Kd.int .u64) (Kd.pair (Kd.int .u64) (Kd.pair (Kd.int .u32) (Kd.pair (Kd.int .i64) (Kd.pair Kd.bool (Kd.pair (Kd.int .i64) (Kd.pair (Kd.slice 5 (Kd.int .u8)) ((Kd.slice 5 (Kd.int .u8))))))))))))) (fun a => ((Lit.int .i64 a.1).wf = true) ∧ ((Lit.int .u32 a.2.1).wf = true) ∧ ((Lit.int .u32 a.2.2.1).wf = true) ∧ ((Lit.int .u64 a.2.2.2.1).wf = true) ∧ ((Lit.int .u64 a.2.2.2.2.1).wf = true) ∧ ((Lit.int .u32 a.2.2.2.2.2.1).wf = true) ∧ ((Lit.int .i64 a.2.2.2.2.2.2.1).wf = true) ∧ (True) ∧ ((Lit.int .i64 a.2.2.2.2.2.2.2.2.1).wf = true) ∧ (a.2.2.2.2.2.2.2.2.2.1.length ≤ maxLen ∧ ∀ x0 ∈ a.2.2.2.2.2.2.2.2.2.1, (Lit.int .u8 x0).wf = true) ∧ (a.2.2.2.2.2.2.2.2.2.2.length ≤ maxLen ∧ ∀ x0 ∈ a.2.2.2.2.2.2.2.2.2.2, (Lit.int .u8 x0).wf = true)) := opens_mono (opens_struct Try.underlying26 (by kernel_rfl) (opensF_cons rfl (by kernel_rfl) (opens_int .i64 Try.underlying3) (opensF_cons rfl (by kernel_rfl) (opens_int .u32 Try.underlying22) (opensF_cons rfl (by kernel_rfl) (opens_int .u32 Try.underlying22) (opensF_cons rfl (by kernel_rfl) (opens_int .u64 Try.underlying23) (opensF_cons rfl (by kernel_rfl) (opens_int .u64 Try.underlying23) (opensF_cons rfl (by kernel_rfl) (opens_int .u32 Try.underlying22) (opensF_cons rfl (by kernel_rfl) (opens_int .i64 Try.underlying3) (opensF_cons rfl (by kernel_rfl) (opens_bool Try.underlying4) (opensF_cons rfl (by kernel_rfl) (opens_int .i64 Try.underlying3) (opensF_cons rfl (by kernel_rfl) (opens_slice Try.underlying24 (by kernel_rfl) (opens_int .u8 Try.underlying5)) (opensF_one rfl (by kernel_rfl) (opens_slice Try.underlying24 (by kernel_rfl) (opens_int .u8 Try.underlying5)))))))))))))) (fun _ h => h)
  have h0' := h0
  obtain ⟨m0, hm0⟩ := h0'
  obtain ⟨x0, hK0, w0⟩ := o0 H enc _ _ m0 _ _ hm0
  obtain ⟨_, _, e0, rfl, ⟨_, _, rfl, rfl, ⟨_, _, rfl, rfl, ⟨_, _, rfl, rfl, ⟨_, _, rfl, rfl, ⟨_, _, rfl, rfl, ⟨_, _, rfl, rfl, ⟨_, _, rfl, rfl, ⟨_, _, rfl, rfl, ⟨_, _, rfl, ⟨A0_9, c0_9, rfl, hl0_9, hg0_9⟩, ⟨A0_10, c0_10, rfl, hl0_10, hg0_10⟩⟩⟩⟩⟩⟩⟩⟩⟩⟩⟩ := hK0
  obtain rfl : cs0 = #[.int .i64 x0.1, .int .u32 x0.2.1, .int .u32 x0.2.2.1, .int .u64 x0.2.2.2.1, .int .u64 x0.2.2.2.2.1, .int .u32 x0.2.2.2.2.2.1, .int .i64 x0.2.2.2.2.2.2.1, .bool x0.2.2.2.2.2.2.2.1, .int .i64 x0.2.2.2.2.2.2.2.2.1, .slice A0_9 x0.2.2.2.2.2.2.2.2.2.1.length c0_9, .slice A0_10 x0.2.2.2.2.2.2.2.2.2.2.length c0_10] := by
    obtain ⟨l0⟩ := cs0
    exact congrArg Array.mk (by simpa [Value.cells] using e0)
  have lt1 : ∀ x ∈ p1, x.block < W.heap.size := by obtain ⟨m, hm⟩ := h1; exact DataW.trod_lt m _ _ _ hm
  obtain ⟨a1, rfl, _, _, w1⟩ := open_int Try.underlying5 (hval 1 5 v1 rfl rfl) h1
  have lt2 : ∀ x ∈ p2, x.block < W.heap.size := by obtain ⟨m, hm⟩ := h2; exact DataW.trod_lt m _ _ _ hm
  obtain ⟨A2, len2, cap2, rfl⟩ := okWide_slice Try.underlying24 (hval 2 24 v2 rfl rfl)
  have o2 : Opens Try.prog W 24 (Kd.slice 5 (Kd.int .u8)) (fun a => a.length ≤ maxLen ∧ ∀ x0 ∈ a, (Lit.int .u8 x0).wf = true) := opens_mono (opens_slice Try.underlying24 (by kernel_rfl) (opens_int .u8 Try.underlying5)) (fun _ h => h)
  have h2' := h2
  obtain ⟨m2, hm2⟩ := h2'
  obtain ⟨x2, ⟨A2', c2', e2, hc2, hC2⟩, w2⟩ := o2 H enc _ _ m2 _ _ hm2
  obtain ⟨rfl, rfl, rfl⟩ : A2 = A2' ∧ len2 = x2.length ∧ cap2 = c2' := by simpa [Value.cells] using e2
  clear hA0 hval0 hsz0 hsz
  obtain ⟨k, hk⟩ : ∃ k, drayagelaw05_NoteBack.f k x0.1 x0.2.1 x0.2.2.1 x0.2.2.2.1 x0.2.2.2.2.1 x0.2.2.2.2.2.1 x0.2.2.2.2.2.2.1 x0.2.2.2.2.2.2.2.1 x0.2.2.2.2.2.2.2.2.1 x0.2.2.2.2.2.2.2.2.2.1 x0.2.2.2.2.2.2.2.2.2.2 a1 x2 = some true := (Pure.NoteBack x0 a1 x2 w0 w1 w2).rounds
  refine (drayagelaw05_NoteBack.calls k x0.1 x0.2.1 x0.2.2.1 x0.2.2.2.1 x0.2.2.2.2.1 x0.2.2.2.2.2.1 x0.2.2.2.2.2.2.1 x0.2.2.2.2.2.2.2.1 x0.2.2.2.2.2.2.2.2.1 A0_9 c0_9 x0.2.2.2.2.2.2.2.2.2.1 A0_10 c0_10 x0.2.2.2.2.2.2.2.2.2.2 a1 A2 cap2 x2 true W hg0_9 hl0_9 hg0_10 hl0_10 hC2 hc2 hk).mono fun e W' ⟨he, bel⟩ => ?_
  subst he
  exact ⟨_, rfl, _, _, _, [], _, [], hW', trodAll_mk1 (shut_bool Try.underlying4 _), (trodAll_cons_mk (Below.trod laidOut (by kernel_rfl) (of_decide_eq_true (by kernel_rfl)) h0 bel lt0) (trodAll_cons_mk (Below.trod laidOut (by kernel_rfl) (of_decide_eq_true (by kernel_rfl)) h1 bel lt1) (trodAll_cons_mk (Below.trod laidOut (by kernel_rfl) (of_decide_eq_true (by kernel_rfl)) h2 bel lt2) trodAll_mk0))), rfl, bel.frame _, fun h => by cases h⟩
theorem over : Rows.noteBackRow.holds Try.pinned (OpenSpec.ofChange Rows.noteBackSpec) :=
  OpenClaim.holds_of_wide 5 Try.f5 rfl rfl rfl rfl rfl rfl rfl ⟨rfl, rfl, rfl, rfl, rfl⟩ rfl rfl rfl rfl rfl (by kernel_rfl) Try.func5 (by kernel_rfl)
    (of_decide_eq_true (by kernel_rfl)) (by unfold Func.isWrapper; first | (rw [if_pos (by decide +kernel)]; kernel_rfl) | (rw [if_neg (by decide +kernel)]; exact ⟨rfl, rfl⟩))
    (fun os started H enc _ => lifted os started H enc)
theorem proved : Rows.NoteBackSaid := over
#print axioms proved
end Go.Proofs.Ytohnlhklijpafaa.noteBack
namespace Go.Proofs.Ytohnlhklijpafaa
/-- The row, under a short name, for the claim. -/
theorem noteBack_holds : Rows.NoteBackSaid := noteBack.proved
end Go.Proofs.Ytohnlhklijpafaa
