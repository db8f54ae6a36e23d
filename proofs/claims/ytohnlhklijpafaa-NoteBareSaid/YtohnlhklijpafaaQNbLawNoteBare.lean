/- The law NoteBare, for every input: out of the plain law PureF.NoteBare and the printed walk. -/
import Derived.Test.YtohnlhklijpafaaRows
import Derived.Test.YtohnlhklijpafaaQNbPAx9
import Derived.Test.YtohnlhklijpafaaQNbPureF
import Derived.Test.YtohnlhklijpafaaQNbOpens
import Derived.WalkKit
import Derived.ProofKit
import Derived.OpenShut
import Derived.ShutString
import Derived.ChangeOld
import Derived.Below
import Derived.SizedLaws
import Derived.Carry
namespace Go.Proofs.Ytohnlhklijpafaa.noteBare
open Go.ChangeShapes Go.WideShapes Go.ChangeAt Go.RowKit Go.Proofs.Ytohnlhklijpafaa.Opens Go.Proofs.YtohnlhklijpafaaW.PrintWords Go.Proofs.Ytohnlhklijpafaa.PA
open Go.ChangeMaps (open_string shut_string)
set_option linter.unusedVariables false
set_option linter.unusedSimpArgs false
theorem own : ownKnob Try.prog.godebug = none := by kernel_rfl
theorem laidOut : laidOutB Try.prog = true := by kernel_rfl
set_option maxRecDepth 100000 in
set_option maxHeartbeats 1000000 in
theorem lifted (os : Os) (started : os.Started) (H : Type) (enc : TypeId × Value → H) :
    ReturnsInHanded {} Try.checked os 7 .any (Rows.noteBareSpec.pre6 enc Try.prog Try.f7 Rows.noteBareRow.domain false) (Rows.noteBareSpec.post enc Try.prog Try.f7 false true false false) := by
  refine returnsInHanded_of_change_sized (C := Try.checked) own started (by kernel_rfl) Try.func7
    (ChangeSpec.witness6 (enc := enc) (C := Try.checked) false ⟨#[], #[.agg #[.int .i64 0, .int .u32 0, .int .u32 0, .int .u64 0, .int .u64 0, .int .u32 0, .int .i64 0, .bool false, .int .i64 0, .slice none 0 0, .slice none 0 0], .int .i64 0], []⟩ 8 (by kernel_rfl) (by kernel_rfl) (by kernel_rfl) (by kernel_rfl)) ?_
  intro W base args ds gs before hval0 hW hcnd hsz0 _
  have hsz : (DataW.weightsEach Try.prog (Try.f7.params.toList ++ Rows.noteBareSpec.plain.varTypes Try.prog) (ds ++ gs)).all (· ≤ reachBytes) = true := hsz0
  have hval : ∀ (j : Nat) t v, Try.f7.params[j]? = some t → args[j]? = some v → Value.okWide Try.prog W .any base t v := hval0
  have hW' := hW
  obtain ⟨p, q, hA0, hV, rfl, hfz, hnd⟩ := hW
  have hA : DataW.TrodAll enc Try.prog W 0 (fun _ => true) true Try.f7.params.toList args.toList ds p := hA0
  rw [Try.params7] at hA hval hsz
  obtain ⟨v0, vs0, d0, ds0, p0, q0, hargs, rfl, rfl, h0, r0⟩ := trodAll_cons hA
  obtain ⟨v1, vs1, d1, ds1, p1, q1, rfl, rfl, rfl, h1, r1⟩ := trodAll_cons r0
  obtain ⟨rfl, rfl, rfl⟩ := trodAll_nil r1
  obtain rfl : args = #[v0, v1] := by cases args; simp_all
  obtain ⟨rfl, rfl⟩ := trodVars_none hV
  have lt0 : ∀ x ∈ p0, x.block < W.heap.size := by obtain ⟨m, hm⟩ := h0; exact DataW.trod_lt m _ _ _ hm
  obtain ⟨cs0, rfl, hcs0⟩ := okWide_struct Try.underlying26 (hval 0 26 v0 rfl rfl)
  have o0 : Opens Try.prog W 26 (Kd.pair (Kd.int .i64) (Kd.pair (Kd.int .u32) (Kd.pair (Kd.int .u32) (Kd.pair (Kd.int .u64) (Kd.pair (Kd.int .u64) (Kd.pair (Kd.int .u32) (Kd.pair (Kd.int .i64) (Kd.pair Kd.bool (Kd.pair (Kd.int .i64) (Kd.pair (Kd.slice 5 (Kd.int .u8)) ((Kd.slice 5 (Kd.int .u8))))))))))))) (fun a => ((Lit.int .i64 a.1).wf = true) ∧ ((Lit.int .u32 a.2.1).wf = true) ∧ ((Lit.int .u32 a.2.2.1).wf = true) ∧ ((Lit.int .u64 a.2.2.2.1).wf = true) ∧ ((Lit.int .u64 a.2.2.2.2.1).wf = true) ∧ ((Lit.int .u32 a.2.2.2.2.2.1).wf = true) ∧ ((Lit.int .i64 a.2.2.2.2.2.2.1).wf = true) ∧ (True) ∧ ((Lit.int .i64 a.2.2.2.2.2.2.2.2.1).wf = true) ∧ (a.2.2.2.2.2.2.2.2.2.1.length ≤ maxLen ∧ ∀ x0 ∈ a.2.2.2.2.2.2.2.2.2.1, (Lit.int .u8 x0).wf = true) ∧ (a.2.2.2.2.2.2.2.2.2.2.length ≤ maxLen ∧ ∀ x0 ∈ a.2.2.2.2.2.2.2.2.2.2, (Lit.int .u8 x0).wf = true)) := opens_mono (opens_struct Try.underlying26 (by kernel_rfl) (opensF_cons rfl (by kernel_rfl) (opens_int .i64 Try.underlying3) (opensF_cons rfl (by kernel_rfl) (opens_int .u32 Try.underlying22) (opensF_cons rfl (by kernel_rfl) (opens_int .u32 Try.underlying22) (opensF_cons rfl (by kernel_rfl) (opens_int .u64 Try.underlying23) (opensF_cons rfl (by kernel_rfl) (opens_int .u64 Try.underlying23) (opensF_cons rfl (by kernel_rfl) (opens_int .u32 Try.underlying22) (opensF_cons rfl (by kernel_rfl) (opens_int .i64 Try.underlying3) (opensF_cons rfl (by kernel_rfl) (opens_bool Try.underlying4) (opensF_cons rfl (by kernel_rfl) (opens_int .i64 Try.underlying3) (opensF_cons rfl (by kernel_rfl) (opens_slice Try.underlying24 (by kernel_rfl) (opens_int .u8 Try.underlying5)) (opensF_one rfl (by kernel_rfl) (opens_slice Try.underlying24 (by kernel_rfl) (opens_int .u8 Try.underlying5)))))))))))))) (fun _ h => h)
  have h0' := h0
  obtain ⟨m0, hm0⟩ := h0'
  obtain ⟨x0, hK0, w0⟩ := o0 H enc _ _ m0 _ _ hm0
  obtain ⟨_, _, e0, rfl, ⟨_, _, rfl, rfl, ⟨_, _, rfl, rfl, ⟨_, _, rfl, rfl, ⟨_, _, rfl, rfl, ⟨_, _, rfl, rfl, ⟨_, _, rfl, rfl, ⟨_, _, rfl, rfl, ⟨_, _, rfl, rfl, ⟨_, _, rfl, ⟨A0_9, c0_9, rfl, hl0_9, hg0_9⟩, ⟨A0_10, c0_10, rfl, hl0_10, hg0_10⟩⟩⟩⟩⟩⟩⟩⟩⟩⟩⟩ := hK0
  obtain rfl : cs0 = #[.int .i64 x0.1, .int .u32 x0.2.1, .int .u32 x0.2.2.1, .int .u64 x0.2.2.2.1, .int .u64 x0.2.2.2.2.1, .int .u32 x0.2.2.2.2.2.1, .int .i64 x0.2.2.2.2.2.2.1, .bool x0.2.2.2.2.2.2.2.1, .int .i64 x0.2.2.2.2.2.2.2.2.1, .slice A0_9 x0.2.2.2.2.2.2.2.2.2.1.length c0_9, .slice A0_10 x0.2.2.2.2.2.2.2.2.2.2.length c0_10] := by
    obtain ⟨l0⟩ := cs0
    exact congrArg Array.mk (by simpa [Value.cells] using e0)
  have lt1 : ∀ x ∈ p1, x.block < W.heap.size := by obtain ⟨m, hm⟩ := h1; exact DataW.trod_lt m _ _ _ hm
  obtain ⟨a1, rfl, _, _, w1⟩ := open_int Try.underlying3 (hval 1 3 v1 rfl rfl) h1
  clear hA0 hval0 hsz0 hsz
  obtain ⟨k, hk⟩ : ∃ k, drayagelaw05_NoteBare.f k x0.1 x0.2.1 x0.2.2.1 x0.2.2.2.1 x0.2.2.2.2.1 x0.2.2.2.2.2.1 x0.2.2.2.2.2.2.1 x0.2.2.2.2.2.2.2.1 x0.2.2.2.2.2.2.2.2.1 x0.2.2.2.2.2.2.2.2.2.1 x0.2.2.2.2.2.2.2.2.2.2 a1 = some true := (Pure.NoteBare x0 a1 w0 w1).rounds
  refine (drayagelaw05_NoteBare.calls k x0.1 x0.2.1 x0.2.2.1 x0.2.2.2.1 x0.2.2.2.2.1 x0.2.2.2.2.2.1 x0.2.2.2.2.2.2.1 x0.2.2.2.2.2.2.2.1 x0.2.2.2.2.2.2.2.2.1 A0_9 c0_9 x0.2.2.2.2.2.2.2.2.2.1 A0_10 c0_10 x0.2.2.2.2.2.2.2.2.2.2 a1 true W hg0_9 hl0_9 hg0_10 hl0_10 hk).mono fun e W' ⟨he, bel⟩ => ?_
  subst he
  exact ⟨_, rfl, _, _, _, [], _, [], hW', trodAll_mk1 (shut_bool Try.underlying4 _), (trodAll_cons_mk (Below.trod laidOut (by kernel_rfl) (of_decide_eq_true (by kernel_rfl)) h0 bel lt0) (trodAll_cons_mk (Below.trod laidOut (by kernel_rfl) (of_decide_eq_true (by kernel_rfl)) h1 bel lt1) trodAll_mk0)), rfl, bel.frame _, fun h => by cases h⟩
theorem over : Rows.noteBareRow.holds Try.pinned (OpenSpec.ofChange Rows.noteBareSpec) :=
  OpenClaim.holds_of_wide 7 Try.f7 rfl rfl rfl rfl rfl rfl rfl ⟨rfl, rfl, rfl, rfl, rfl⟩ rfl rfl rfl rfl rfl (by kernel_rfl) Try.func7 (by kernel_rfl)
    (of_decide_eq_true (by kernel_rfl)) (by unfold Func.isWrapper; first | (rw [if_pos (by decide +kernel)]; kernel_rfl) | (rw [if_neg (by decide +kernel)]; exact ⟨rfl, rfl⟩))
    (fun os started H enc _ => lifted os started H enc)
theorem proved : Rows.NoteBareSaid := over
#print axioms proved
end Go.Proofs.Ytohnlhklijpafaa.noteBare
namespace Go.Proofs.Ytohnlhklijpafaa
/-- The row, under a short name, for the claim. -/
theorem noteBare_holds : Rows.NoteBareSaid := noteBare.proved
end Go.Proofs.Ytohnlhklijpafaa
