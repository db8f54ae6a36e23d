/- Plain laws on the mirror of chapter 14's functions, part J: the law SagaTries. -/
import Derived.Test.YteefdhgfcnjpoaaQEnPAx8
import Derived.Test.YteefdhgfcnjpoaaQEnPAx9
import Derived.Test.YteefdhgfcnjpoaaQEnPAx0
import Derived.Test.YteefdhgfcnjpoaaQEnPAx3
import Derived.Test.YteefdhgfcnjpoaaQEnPAx5
import Derived.Test.YteefdhgfcnjpoaaQEnPureI
namespace Go.Proofs.Yteefdhgfcnjpoaa.Pure
open Go.RowKit Go.Proofs.Yteefdhgfcnjpoaa.PA Go.Proofs.YteefdhgfcnjpoaaW.PrintWords Go.Proofs.YteefdhgfcnjpoaaW.PrintLast
set_option linter.unusedVariables false
set_option linter.unusedSimpArgs false
set_option linter.unusedSectionVars false

/-- asked, and then told -/
theorem asks_ev (l : List S38) (h : planW l) {s : Sg} (V : Val l s) (h3 : s.ph ≠ 3) (ha : s.as_ = false) (code : Int) (hc : 1 ≤ code ∧ code ≤ 3) : ∃ K, ∀ k, K ≤ k →
    saga_Ask.f k l s.ph s.st s.tr s.as_ s.le s.ca s.co = some (res8 (askG l s) 0) ∧
    saga_Tell.f k l (askG l s).ph (askG l s).st (askG l s).tr (askG l s).as_ (askG l s).le (askG l s).ca (askG l s).co s.st (s.ph == 2) code = some (res8 (if s.ph = 2 then undoS l (askG l s) code else forwS l (askG l s) code) 0) := by
  obtain ⟨K1, h1⟩ := ask_ev l h s
  obtain ⟨K2, h2⟩ := tell_ev l h (askG l s) s.st (s.ph == 2) code
  rw [askS_eq V h3 ha] at h1
  rw [tellS_eq (val_ask V h3 ha) _ _ _ hc] at h2
  have e : tellG l (askG l s) s.st (s.ph == 2) code = if s.ph = 2 then undoS l (askG l s) code else forwS l (askG l s) code := by
    unfold tellG
    rw [if_neg (by simp [askG])]
    by_cases h2 : s.ph = 2 <;> simp [h2]
  rw [e] at h2
  exact ⟨K1 + K2, fun k hk => ⟨h1 k (by omega), h2 k (by omega)⟩⟩
theorem val_one {l : List S38} (h : planB l = true) (ph i t : Int) (hp : ph = 1 ∨ ph = 2) (h0 : 0 ≤ i) (h1 : i < l.length) (ht : 0 ≤ t) (hr : t < (rd_T38 l i).f1) (hb : ph = 2 → (rd_T38 l i).f3 = true) : Val l ⟨ph, i, t, false, 0, false, 0⟩ :=
  ⟨h, plan_len h, stB_goes hp h0 h1 rfl (fun e => by simp at e) (fun _ => ⟨ht, hr, rfl⟩) (fun e => ⟨hb e, rfl⟩)⟩

section
variable (l : List S38) (h : planW l) (hb : planB l = true) (x : Nat) (hx : x < l.length)
include h hb hx

/-- back at step j, told lost t times -/
def back2 (j r t : Nat) : Sg := if t < r then ⟨2, j, t, false, 0, false, 0⟩ else ⟨3, 0, 0, false, 0, false, 3⟩
omit h hb hx in

omit h hb hx in

/-- at step x, told lost t times -/
def at1 (l : List S38) (x r t : Nat) : Sg := if t < r then ⟨1, x, t, false, 0, false, 0⟩ else backS l x
omit h hb hx in

omit h hb hx in

end
theorem place (n : Nat) (a : Int) (h0 : 1 ≤ n) (h1 : n ≤ 100) : IntKind.u64.wrap ((n : Int)) = (n : Int) ∧ ∃ x : Nat, x < n ∧ wrap64 (Int.tmod (IntKind.u64.wrap a) (IntKind.u64.wrap (n : Int))) = (x : Int) := by
  have h := u64_range a
  have e : IntKind.u64.wrap ((n : Int)) = (n : Int) := by
    have h1 : IntKind.u64.wrap (n : Int) = (n : Int) % 18446744073709551616 := by simp [IntKind.wrap, IntKind.signed, IntKind.bits]
    omega
  refine ⟨e, ((IntKind.u64.wrap a) % (n : Int)).toNat, ?_, ?_⟩
  · have := Int.emod_lt_of_pos (IntKind.u64.wrap a) (b := (n : Int)) (by omega)
    have := Int.emod_nonneg (IntKind.u64.wrap a) (b := (n : Int)) (by omega)
    omega
  · rw [e, Int.tmod_eq_emod_of_nonneg h.1]
    have := Int.emod_lt_of_pos (IntKind.u64.wrap a) (b := (n : Int)) (by omega)
    have := Int.emod_nonneg (IntKind.u64.wrap a) (b := (n : Int)) (by omega)
    rw [wrap_id (by omega) (by omega)]
    omega

end Go.Proofs.Yteefdhgfcnjpoaa.Pure
