/- The law EntryPuts, for every input: out of its walk, told by VX. -/
import Derived.Test.YtahldljkhjebgaaRows
import Derived.Test.YtahldljkhjebgaaMEp1
import Derived.Test.YtahldljkhjebgaaMEp7
import Derived.WalkKit
import Derived.ProofKit
import Derived.OpenShut
import Derived.ShutString
import Derived.ChangeOld
import Derived.Below
import Derived.SizedLaws
import Derived.Carry
namespace Go.Proofs.Ytahldljkhjebgaa.entryPuts
open Go.ChangeShapes Go.WideShapes Go.ChangeAt Go.RowKit Go.VO
open Go.ChangeMaps (open_string shut_string)
set_option linter.unusedVariables false
set_option linter.unusedSimpArgs false

theorem bytes_of {W : World} {A : Option Addr} {cap : Nat} {xs : List Int} (h : RowAt W (Kn.int .u8) A xs) : Go.VX.BytesAt W (.slice A xs.length cap) xs.length xs := by
  refine ⟨A, cap, rfl, rfl, fun hm => ?_, fun a ha j n hj => ?_⟩
  · obtain ⟨a, c, hA, _⟩ := h 0 _ (List.getElem?_eq_getElem hm)
    rw [hA]; exact Option.some_ne_none _
  · obtain ⟨a', c, hA, hb, hK, hc⟩ := h j n hj
    obtain rfl : a' = a := by rw [ha] at hA; exact (Option.some.inj hA).symm
    have := hc 0 (.int .u8 n) (by dsimp only [Kn.int] at hK; rw [hK]; rfl)
    dsimp only [Kn.int] at this
    rwa [Nat.mul_one, Nat.add_zero] at this

theorem of_entry {W : World} {x : Int × Int × Int × Int × Int × Bool × Int × Int × Int × List Int × List Int} {cs : Array Value} (h : ((Kn.pair (Kn.int .i64) (Kn.pair (Kn.int .u64) (Kn.pair (Kn.int .u32) (Kn.pair (Kn.int .u32) (Kn.pair (Kn.int .i64) (Kn.pair Kn.bool (Kn.pair (Kn.int .i64) (Kn.pair (Kn.int .i64) (Kn.pair (Kn.int .u64) (Kn.pair (Kn.slice (Kn.int .u8)) (Kn.slice (Kn.int .u8))))))))))))).K W x cs.toList)
    (q1 : (Lit.int .u64 x.2.1).wf = true) (q2 : (Lit.int .u32 x.2.2.1).wf = true) (q3 : (Lit.int .u32 x.2.2.2.1).wf = true) (q4 : (Lit.int .u64 x.2.2.2.2.2.2.2.2.1).wf = true) :
    Calls Try.prog 3 #[.agg cs] W fun e w' => e = .returned (.bool true) ∧ Below W.heap.size W w' := by
  obtain ⟨k, lsn, ep, ord, st, un, tr, co, mk, ks, ds⟩ := x
  dsimp only [Kn.pair, Kn.int, Kn.bool, Kn.slice] at h q1 q2 q3 q4
  obtain ⟨_, _, hcs, rfl, _, _, rfl, rfl, _, _, rfl, rfl, _, _, rfl, rfl, _, _, rfl, rfl, _, _, rfl, rfl, _, _, rfl, rfl, _, _, rfl, rfl, _, _, rfl, rfl, _, _, rfl, ⟨A9, c9, rfl, h9, r9⟩, ⟨A10, c10, rfl, h10, r10⟩⟩ := h
  obtain rfl : cs = #[.int .i64 k, .int .u64 lsn, .int .u32 ep, .int .u32 ord, .int .i64 st, .bool un, .int .i64 tr, .int .i64 co, .int .u64 mk, .slice A9 ks.length c9, .slice A10 ds.length c10] := by
    rw [← Array.toArray_toList (xs := cs), hcs]; rfl
  exact Go.VX.elaw_calls k lsn ep ord st un tr co mk A9 A10 c9 c10 ks ds W (bytes_of r9) (bytes_of r10) h9 h10 ⟨wf_u64 q1, wf_u32 q2, wf_u32 q3, wf_u64 q4⟩

theorem own : ownKnob Try.prog.godebug = none := by kernel_rfl
theorem laidOut : laidOutB Try.prog = true := by kernel_rfl
set_option maxRecDepth 100000 in
set_option maxHeartbeats 1000000 in
theorem lifted (os : Os) (started : os.Started) (H : Type) (enc : TypeId × Value → H) :
    ReturnsInHanded {} Try.checked os 3 .any (Rows.entryPutsSpec.pre6 enc Try.prog Try.f3 Rows.entryPutsRow.domain false) (Rows.entryPutsSpec.post enc Try.prog Try.f3 false true false false) := by
  refine returnsInHanded_of_change_sized (C := Try.checked) own started (by kernel_rfl) Try.func3
    (ChangeSpec.witness6 (enc := enc) (C := Try.checked) false ⟨#[], #[.agg #[.int .i64 0, .int .u64 0, .int .u32 0, .int .u32 0, .int .i64 0, .bool false, .int .i64 0, .int .i64 0, .int .u64 0, .slice none 0 0, .slice none 0 0]], []⟩ 8 (by kernel_rfl) (by kernel_rfl) (by kernel_rfl) (by kernel_rfl)) ?_
  intro W base args ds gs before hval0 hW hcnd hsz0 _
  have hsz : (DataW.weightsEach Try.prog (Try.f3.params.toList ++ Rows.entryPutsSpec.plain.varTypes Try.prog) (ds ++ gs)).all (· ≤ reachBytes) = true := hsz0
  have hval : ∀ (j : Nat) t v, Try.f3.params[j]? = some t → args[j]? = some v → Value.okWide Try.prog W .any base t v := hval0
  have hW' := hW
  obtain ⟨p, q, hA0, hV, rfl, hfz, hnd⟩ := hW
  have hA : DataW.TrodAll enc Try.prog W 0 (fun _ => true) true Try.f3.params.toList args.toList ds p := hA0
  rw [Try.params3] at hA hval hsz
  obtain ⟨v0, vs0, d0, ds0, p0, q0, hargs, rfl, rfl, h0, r0⟩ := trodAll_cons hA
  obtain ⟨rfl, rfl, rfl⟩ := trodAll_nil r0
  obtain rfl : args = #[v0] := by cases args; simp_all
  obtain ⟨rfl, rfl⟩ := trodVars_none hV
  have lt0 : ∀ x ∈ p0, x.block < W.heap.size := by obtain ⟨m, hm⟩ := h0; exact DataW.trod_lt m _ _ _ hm
  obtain ⟨cs0, rfl, hcs0⟩ := okWide_struct Try.underlying26 (hval 0 26 v0 rfl rfl)
  have o0 : Opens Try.prog W 26 (Kn.pair (Kn.int .i64) (Kn.pair (Kn.int .u64) (Kn.pair (Kn.int .u32) (Kn.pair (Kn.int .u32) (Kn.pair (Kn.int .i64) (Kn.pair Kn.bool (Kn.pair (Kn.int .i64) (Kn.pair (Kn.int .i64) (Kn.pair (Kn.int .u64) (Kn.pair (Kn.slice (Kn.int .u8)) (Kn.slice (Kn.int .u8)))))))))))) (fun a => ((Lit.int .i64 a.1).wf = true) ∧ ((Lit.int .u64 a.2.1).wf = true) ∧ ((Lit.int .u32 a.2.2.1).wf = true) ∧ ((Lit.int .u32 a.2.2.2.1).wf = true) ∧ ((Lit.int .i64 a.2.2.2.2.1).wf = true) ∧ (True) ∧ ((Lit.int .i64 a.2.2.2.2.2.2.1).wf = true) ∧ ((Lit.int .i64 a.2.2.2.2.2.2.2.1).wf = true) ∧ ((Lit.int .u64 a.2.2.2.2.2.2.2.2.1).wf = true) ∧ (a.2.2.2.2.2.2.2.2.2.1.length ≤ maxLen ∧ ∀ x0 ∈ a.2.2.2.2.2.2.2.2.2.1, (Lit.int .u8 x0).wf = true) ∧ (a.2.2.2.2.2.2.2.2.2.2.length ≤ maxLen ∧ ∀ x0 ∈ a.2.2.2.2.2.2.2.2.2.2, (Lit.int .u8 x0).wf = true)) := opens_mono (opens_struct Try.underlying26 (by kernel_rfl) (opensF_cons rfl (by kernel_rfl) (opens_int .i64 Try.underlying3) (opensF_cons rfl (by kernel_rfl) (opens_int .u64 Try.underlying22) (opensF_cons rfl (by kernel_rfl) (opens_int .u32 Try.underlying23) (opensF_cons rfl (by kernel_rfl) (opens_int .u32 Try.underlying23) (opensF_cons rfl (by kernel_rfl) (opens_int .i64 Try.underlying3) (opensF_cons rfl (by kernel_rfl) (opens_bool Try.underlying4) (opensF_cons rfl (by kernel_rfl) (opens_int .i64 Try.underlying3) (opensF_cons rfl (by kernel_rfl) (opens_int .i64 Try.underlying3) (opensF_cons rfl (by kernel_rfl) (opens_int .u64 Try.underlying22) (opensF_cons rfl (by kernel_rfl) (opens_slice Try.underlying24 (by kernel_rfl) (by decide) (opens_int .u8 Try.underlying5)) (opensF_one rfl (by kernel_rfl) (opens_slice Try.underlying24 (by kernel_rfl) (by decide) (opens_int .u8 Try.underlying5)))))))))))))) (fun _ h => h)
  have h0' := h0
  obtain ⟨m0, hm0⟩ := h0'
  obtain ⟨x0, hK0, hq0⟩ := o0 H enc _ _ m0 _ _ hm0
  clear hA0 hval0 hsz0 hsz
  refine (of_entry hK0 hq0.2.1 hq0.2.2.1 hq0.2.2.2.1 hq0.2.2.2.2.2.2.2.2.1).mono fun e W' ⟨he, bel⟩ => ?_
  subst he
  exact ⟨_, rfl, _, _, _, [], _, [], hW', trodAll_mk1 (shut_bool Try.underlying4 _), (trodAll_cons_mk (Below.trod laidOut (by kernel_rfl) (of_decide_eq_true (by kernel_rfl)) h0 bel lt0) trodAll_mk0), rfl, bel.frame _, fun h => by cases h⟩
theorem over : Rows.entryPutsRow.holds Try.pinned (OpenSpec.ofChange Rows.entryPutsSpec) :=
  OpenClaim.holds_of_wide 3 Try.f3 rfl rfl rfl rfl rfl rfl rfl ⟨rfl, rfl, rfl, rfl, rfl⟩ rfl rfl rfl rfl rfl (by kernel_rfl) Try.func3 (by kernel_rfl)
    (of_decide_eq_true (by kernel_rfl)) (by unfold Func.isWrapper; first | (rw [if_pos (by decide +kernel)]; kernel_rfl) | (rw [if_neg (by decide +kernel)]; exact ⟨rfl, rfl⟩))
    (fun os started H enc _ => lifted os started H enc)
theorem proved : Rows.EntryPutsSaid := over
#print axioms proved
end Go.Proofs.Ytahldljkhjebgaa.entryPuts
namespace Go.Proofs.Ytahldljkhjebgaa
/-- The row, under a short name, for the claim. -/
theorem entryPuts_holds : Rows.EntryPutsSaid := entryPuts.proved
end Go.Proofs.Ytahldljkhjebgaa
