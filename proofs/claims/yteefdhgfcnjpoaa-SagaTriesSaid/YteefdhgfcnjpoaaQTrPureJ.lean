/- Plain laws on the mirror of chapter 14's functions, part J: the law SagaTries. -/
import Derived.Test.YteefdhgfcnjpoaaQTrPAx8
import Derived.Test.YteefdhgfcnjpoaaQTrPAx9
import Derived.Test.YteefdhgfcnjpoaaQTrPAx10
import Derived.Test.YteefdhgfcnjpoaaQTrPAx0
import Derived.Test.YteefdhgfcnjpoaaQTrPAx1
import Derived.Test.YteefdhgfcnjpoaaQTrPAx3
import Derived.Test.YteefdhgfcnjpoaaQTrPAx5
import Derived.Test.YteefdhgfcnjpoaaQTrPAx7
import Derived.Test.YteefdhgfcnjpoaaQTrPureH
namespace Go.Proofs.Yteefdhgfcnjpoaa.Pure
open Go.RowKit Go.Proofs.Yteefdhgfcnjpoaa.PA Go.Proofs.YteefdhgfcnjpoaaW.PrintWords Go.Proofs.YteefdhgfcnjpoaaW.PrintLast
set_option linter.unusedVariables false
set_option linter.unusedSimpArgs false
set_option linter.unusedSectionVars false

/-- asked, and then told -/
theorem asks_ev (l : List S38) (h : planW l) {s : Sg} (V : Val l s) (h3 : s.ph ≠ 3) (ha : s.as_ = false) (code : Int) (hc : 1 ≤ code ∧ code ≤ 3) : ∃ K, ∀ k, K ≤ k →
    saga_Ask.f k l s.ph s.st s.tr s.as_ s.le s.ca s.co = some (res8 (askG l s) 0) ∧
    saga_Tell.f k l (askG l s).ph (askG l s).st (askG l s).tr (askG l s).as_ (askG l s).le (askG l s).ca (askG l s).co s.st (s.ph == 2) code = some (res8 (if s.ph = 2 then undoS l (askG l s) code else forwS l (askG l s) code) 0) := by
  obtain ⟨K1, h1⟩ := ask_ev l h s
  obtain ⟨K2, h2⟩ := tell_ev l h (askG l s) s.st (s.ph == 2) code
  rw [askS_eq V h3 ha] at h1
  rw [tellS_eq (val_ask V h3 ha) _ _ _ hc] at h2
  have e : tellG l (askG l s) s.st (s.ph == 2) code = if s.ph = 2 then undoS l (askG l s) code else forwS l (askG l s) code := by
    unfold tellG
    rw [if_neg (by simp [askG])]
    by_cases h2 : s.ph = 2 <;> simp [h2]
  rw [e] at h2
  exact ⟨K1 + K2, fun k hk => ⟨h1 k (by omega), h2 k (by omega)⟩⟩
theorem val_one {l : List S38} (h : planB l = true) (ph i t : Int) (hp : ph = 1 ∨ ph = 2) (h0 : 0 ≤ i) (h1 : i < l.length) (ht : 0 ≤ t) (hr : t < (rd_T38 l i).f1) (hb : ph = 2 → (rd_T38 l i).f3 = true) : Val l ⟨ph, i, t, false, 0, false, 0⟩ :=
  ⟨h, plan_len h, stB_goes hp h0 h1 rfl (fun e => by simp at e) (fun _ => ⟨ht, hr, rfl⟩) (fun e => ⟨hb e, rfl⟩)⟩

section
variable (l : List S38) (h : planW l) (hb : planB l = true) (x : Nat) (hx : x < l.length)
include h hb hx

theorem tries_l2 (hn : lastB l (x + 1) = none) : ∀ (d i : Nat), i + d = x + 1 → Ev (fun k => drayagelaw14_SagaTries.l2 k l (x : Int) (i : Int) 3 0 0 false 0 false 2) true := by
  obtain ⟨K0, h0⟩ := known_ev
  have hl := plan_len hb
  intro d
  induction d with
  | zero =>
    intro i hi
    refine ⟨K0 + 1, fun k hk => ?_⟩
    obtain ⟨k, rfl⟩ : ∃ m, k = m + 1 := ⟨k - 1, by omega⟩
    have g0 := h0 k (by omega)
    dsimp only at g0 ⊢
    rw [drayagelaw14_SagaTries.l2, if_neg (by omega), if_pos rfl, g0]
    rfl
  | succ d ih =>
    intro i hi
    obtain ⟨K1, h1⟩ := ih (i + 1) (by omega)
    refine ⟨K1 + 1, fun k hk => ?_⟩
    obtain ⟨k, rfl⟩ : ∃ m, k = m + 1 := ⟨k - 1, by omega⟩
    have g1 := h1 k (by omega)
    dsimp only at g1 ⊢
    rw [drayagelaw14_SagaTries.l2, if_pos (by omega), if_pos (by omega), if_pos (by omega), if_neg (by rw [lastB_none _ hn i (by omega)]; decide), wrap_id (i := (i : Int) + 1) (by omega) (by omega)]
    exact g1

/-- back at step j, told lost t times -/
def back2 (j r t : Nat) : Sg := if t < r then ⟨2, j, t, false, 0, false, 0⟩ else ⟨3, 0, 0, false, 0, false, 3⟩
omit h hb hx in
theorem back2_at (j r t : Nat) (ht : t < r) : back2 j r t = ⟨2, j, t, false, 0, false, 0⟩ := if_pos ht
omit h hb hx in
theorem back2_end (j r : Nat) : back2 j r r = ⟨3, 0, 0, false, 0, false, 3⟩ := if_neg (by omega)
theorem tries_l3 (j : Nat) (hj : j < x + 1) (hf : (rd_T38 l (j : Int)).f3 = true) (r : Nat) (hr : (rd_T38 l (j : Int)).f1 = (r : Int)) : ∀ (d t : Nat), t + d = r →
    Ev (fun k => drayagelaw14_SagaTries.l3 k l (x : Int) (j : Int) (t : Int) (back2 j r t).ph (back2 j r t).st (back2 j r t).tr (back2 j r t).as_ (back2 j r t).le (back2 j r t).ca (back2 j r t).co) true := by
  obtain ⟨K0, h0⟩ := known_ev
  have hl := plan_len hb
  have hs := plan_step hb (j : Int) (by omega) (by omega)
  intro d
  induction d with
  | zero =>
    intro t ht
    obtain rfl : t = r := by omega
    refine ⟨K0 + 2, fun k hk => ?_⟩
    obtain ⟨k, rfl⟩ : ∃ m, k = m + 2 := ⟨k - 2, by omega⟩
    have g0 := h0 k (by omega)
    dsimp only at g0 ⊢
    rw [back2_end]
    dsimp only
    rw [drayagelaw14_SagaTries.l3, if_neg (by decide), drayagelaw14_SagaTries.j6, if_neg (by decide), if_pos (by omega), if_pos (by omega), if_pos hr.symm, if_pos (by omega), if_pos hf, if_pos rfl, if_pos rfl, g0]
    rfl
  | succ d ih =>
    intro t ht
    obtain ⟨K1, h1⟩ := ih (t + 1) (by omega)
    obtain ⟨K2, h2⟩ := asks_ev l h (val_one hb 2 (j : Int) (t : Int) (.inr rfl) (by omega) (by omega) (by omega) (by omega) (fun _ => hf)) (by simp) rfl 3 (by omega)
    refine ⟨K1 + K2 + 2, fun k hk => ?_⟩
    obtain ⟨k, rfl⟩ : ∃ m, k = m + 2 := ⟨k - 2, by omega⟩
    have g1 := h1 k (by omega)
    obtain ⟨ga, gt⟩ := h2 k (by omega)
    clear h1 h2 ih h0
    dsimp only at g1 ⊢
    rw [back2_at j r t (by omega)]
    dsimp only at ga gt ⊢
    rw [if_pos rfl] at gt
    have e : undoS l (askG l ⟨2, (j : Int), (t : Int), false, 0, false, 0⟩) 3 = back2 j r (t + 1) := by
      unfold undoS askG back2
      dsimp only
      rw [if_neg (by decide), hr]
      by_cases c : t + 1 < r
      · rw [if_neg (by omega), if_pos c]; simp
      · rw [if_pos (by omega), if_neg c]
    rw [e] at gt
    rw [drayagelaw14_SagaTries.l3, if_pos rfl, decide_eq_true (by omega), drayagelaw14_SagaTries.j6, if_pos rfl, ga, Option.bind_some]
    have e2 : ((2 : Int) == 2) = true := rfl
    rw [e2] at gt
    simp only [res8]
    rw [gt, Option.bind_some, wrap_id (i := (t : Int) + 1) (by omega) (by omega)]
    exact g1

/-- at step x, told lost t times -/
def at1 (l : List S38) (x r t : Nat) : Sg := if t < r then ⟨1, x, t, false, 0, false, 0⟩ else backS l x
omit h hb hx in
theorem at1_at (r t : Nat) (ht : t < r) : at1 l x r t = ⟨1, x, t, false, 0, false, 0⟩ := if_pos ht
omit h hb hx in
theorem at1_end (r : Nat) : at1 l x r r = backS l x := if_neg (by omega)
theorem tries_l1 (r : Nat) (hr : (rd_T38 l (x : Int)).f1 = (r : Int)) : ∀ (d t : Nat), t + d = r →
    Ev (fun k => drayagelaw14_SagaTries.l1 k l (x : Int) (t : Int) (at1 l x r t).ph (at1 l x r t).st (at1 l x r t).tr (at1 l x r t).as_ (at1 l x r t).le (at1 l x r t).ca (at1 l x r t).co) true := by
  have hl := plan_len hb
  have hs := plan_step hb (x : Int) (by omega) (by omega)
  intro d
  induction d with
  | zero =>
    intro t ht
    obtain rfl : t = r := by omega
    rw [at1_end]
    unfold backS
    have ex : ((x : Int) + 1).toNat = x + 1 := by omega
    rw [ex]
    cases hn : lastB l (x + 1) with
    | none =>
      obtain ⟨K1, h1⟩ := tries_l2 l h hb x hx hn (x + 1) 0 (by omega)
      refine ⟨K1 + 2, fun k hk => ?_⟩
      obtain ⟨k, rfl⟩ : ∃ m, k = m + 2 := ⟨k - 2, by omega⟩
      have g1 := h1 k (by omega)
      dsimp only at g1
      simp only [backO]
      rw [drayagelaw14_SagaTries.l1, if_neg (by decide), drayagelaw14_SagaTries.j3, if_neg (by decide), if_pos (by omega), if_pos (by omega), if_pos hr.symm, if_pos rfl]
      exact g1
    | some j =>
      obtain ⟨hj, hf, _⟩ := lastB_some _ j hn
      have hs2 := plan_step hb (j : Int) (by omega) (by omega)
      obtain ⟨r2, hr2⟩ := Int.eq_ofNat_of_zero_le (a := (rd_T38 l (j : Int)).f1) (by omega)
      obtain ⟨K1, h1⟩ := tries_l3 l h hb x hx j hj hf r2 hr2 r2 0 (by omega)
      rw [back2_at j r2 0 (by omega)] at h1
      refine ⟨K1 + 2, fun k hk => ?_⟩
      obtain ⟨k, rfl⟩ : ∃ m, k = m + 2 := ⟨k - 2, by omega⟩
      have g1 := h1 k (by omega)
      dsimp only at g1
      simp only [backO]
      rw [drayagelaw14_SagaTries.l1, if_neg (by decide), drayagelaw14_SagaTries.j3, if_neg (by decide), if_pos (by omega), if_pos (by omega), if_pos hr.symm, if_neg (by decide)]
      exact g1
  | succ d ih =>
    intro t ht
    obtain ⟨K1, h1⟩ := ih (t + 1) (by omega)
    obtain ⟨K2, h2⟩ := asks_ev l h (val_one hb 1 (x : Int) (t : Int) (.inl rfl) (by omega) (by omega) (by omega) (by omega) (fun e => by simp at e)) (by simp) rfl 3 (by omega)
    refine ⟨K1 + K2 + 2, fun k hk => ?_⟩
    obtain ⟨k, rfl⟩ : ∃ m, k = m + 2 := ⟨k - 2, by omega⟩
    have g1 := h1 k (by omega)
    obtain ⟨ga, gt⟩ := h2 k (by omega)
    clear h1 h2 ih
    dsimp only at g1 ⊢
    rw [at1_at l x r t (by omega)]
    dsimp only at ga gt ⊢
    rw [if_neg (by decide)] at gt
    have e : forwS l (askG l ⟨1, (x : Int), (t : Int), false, 0, false, 0⟩) 3 = at1 l x r (t + 1) := by
      unfold forwS askG at1
      dsimp only
      rw [if_neg (by decide), hr]
      by_cases c : t + 1 < r
      · rw [if_pos ⟨rfl, rfl, by omega⟩, if_pos c]; simp
      · rw [if_neg (fun e => by have := e.2.2; omega), if_pos (.inl rfl), if_neg c]
    rw [e] at gt
    have e2 : ((1 : Int) == 2) = false := rfl
    rw [e2] at gt
    rw [drayagelaw14_SagaTries.l1, if_pos rfl, if_pos rfl, decide_eq_true (by omega), drayagelaw14_SagaTries.j3, if_pos rfl, ga, Option.bind_some]
    simp only [res8]
    rw [gt, Option.bind_some, wrap_id (i := (t : Int) + 1) (by omega) (by omega)]
    exact g1
theorem tries_l0 : ∀ (d i : Nat), i + d = x → Ev (fun k => drayagelaw14_SagaTries.l0 k l (x : Int) (i : Int) 1 (i : Int) 0 false 0 false 0) true := by
  have hl := plan_len hb
  intro d
  induction d with
  | zero =>
    intro i hi
    obtain rfl : i = x := by omega
    have hs := plan_step hb (i : Int) (by omega) (by omega)
    obtain ⟨r, hr⟩ := Int.eq_ofNat_of_zero_le (a := (rd_T38 l (i : Int)).f1) (by omega)
    obtain ⟨K1, h1⟩ := tries_l1 l h hb i hx r hr r 0 (by omega)
    rw [at1_at l i r 0 (by omega)] at h1
    refine ⟨K1 + 1, fun k hk => ?_⟩
    obtain ⟨k, rfl⟩ : ∃ m, k = m + 1 := ⟨k - 1, by omega⟩
    have g1 := h1 k (by omega)
    dsimp only at g1 ⊢
    rw [drayagelaw14_SagaTries.l0, if_neg (by omega)]
    exact g1
  | succ d ih =>
    intro i hi
    have hs := plan_step hb (i : Int) (by omega) (by omega)
    obtain ⟨K1, h1⟩ := ih (i + 1) (by omega)
    obtain ⟨K2, h2⟩ := asks_ev l h (val_one hb 1 (i : Int) 0 (.inl rfl) (by omega) (by omega) (by omega) (by omega) (fun e => by simp at e)) (by simp) rfl 1 (by omega)
    refine ⟨K1 + K2 + 1, fun k hk => ?_⟩
    obtain ⟨k, rfl⟩ : ∃ m, k = m + 1 := ⟨k - 1, by omega⟩
    have g1 := h1 k (by omega)
    obtain ⟨ga, gt⟩ := h2 k (by omega)
    clear h1 h2 ih
    dsimp only at g1 ⊢
    dsimp only at ga gt ⊢
    rw [if_neg (by decide)] at gt
    have e : forwS l (askG l ⟨1, (i : Int), 0, false, 0, false, 0⟩) 1 = ⟨1, ((i + 1 : Nat) : Int), 0, false, 0, false, 0⟩ := by
      unfold forwS askG
      dsimp only
      rw [if_neg (by decide), if_neg (fun e => by simp at e), if_neg (by decide), if_neg (by omega)]
      simp
    rw [e] at gt
    have e2 : ((1 : Int) == 2) = false := rfl
    rw [e2] at gt
    rw [drayagelaw14_SagaTries.l0, if_pos (by omega), ga, Option.bind_some]
    simp only [res8]
    rw [gt, Option.bind_some, wrap_id (i := (i : Int) + 1) (by omega) (by omega)]
    exact g1
end
theorem place (n : Nat) (a : Int) (h0 : 1 ≤ n) (h1 : n ≤ 100) : IntKind.u64.wrap ((n : Int)) = (n : Int) ∧ ∃ x : Nat, x < n ∧ wrap64 (Int.tmod (IntKind.u64.wrap a) (IntKind.u64.wrap (n : Int))) = (x : Int) := by
  have h := u64_range a
  have e : IntKind.u64.wrap ((n : Int)) = (n : Int) := by
    have h1 : IntKind.u64.wrap (n : Int) = (n : Int) % 18446744073709551616 := by simp [IntKind.wrap, IntKind.signed, IntKind.bits]
    omega
  refine ⟨e, ((IntKind.u64.wrap a) % (n : Int)).toNat, ?_, ?_⟩
  · have := Int.emod_lt_of_pos (IntKind.u64.wrap a) (b := (n : Int)) (by omega)
    have := Int.emod_nonneg (IntKind.u64.wrap a) (b := (n : Int)) (by omega)
    omega
  · rw [e, Int.tmod_eq_emod_of_nonneg h.1]
    have := Int.emod_lt_of_pos (IntKind.u64.wrap a) (b := (n : Int)) (by omega)
    have := Int.emod_nonneg (IntKind.u64.wrap a) (b := (n : Int)) (by omega)
    rw [wrap_id (by omega) (by omega)]
    omega
theorem tries (l : List S38) (h : planW l) (a : Int) : Ev (fun k => drayagelaw14_SagaTries.f k l a) true := by
  obtain ⟨b, K0, h0⟩ := long_ev l h.2
  obtain ⟨K1, h1⟩ := known_ev
  obtain ⟨K2, h2⟩ := ref_check l h
  by_cases hb : planB l = true
  · have hl := plan_len hb
    obtain ⟨e, x, hx, ex⟩ := place l.length a hl.1 (by omega)
    obtain ⟨K3, h3⟩ := tries_l0 l h hb x hx x 0 (by omega)
    refine ⟨K0 + K1 + K2 + K3 + 2, fun k hk => ?_⟩
    obtain ⟨k, rfl⟩ : ∃ m, k = m + 1 := ⟨k - 1, by omega⟩
    have g0 := h0 (k + 1) (by omega)
    have g1 := h1 k (by omega)
    have g2 := h2 (k + 1) (by omega)
    have g3 := h3 k (by omega)
    clear h0 h1 h2 h3
    dsimp only at g0 g1 g2 g3 ⊢
    rw [if_pos hb] at g2
    unfold drayagelaw14_SagaTries.f
    rw [g0, Option.bind_some]
    cases b with
    | true =>
      rw [if_pos rfl, drayagelaw14_SagaTries.j0, if_pos rfl, g1]; rfl
    | false =>
      rw [if_neg (by decide), g2, Option.bind_some, drayagelaw14_SagaTries.j0, if_neg (by decide), if_neg (by omega), ex]
      exact g3
  · refine ⟨K0 + K1 + K2 + 2, fun k hk => ?_⟩
    obtain ⟨k, rfl⟩ : ∃ m, k = m + 1 := ⟨k - 1, by omega⟩
    have g0 := h0 (k + 1) (by omega)
    have g1 := h1 k (by omega)
    have g2 := h2 (k + 1) (by omega)
    clear h0 h1 h2
    dsimp only at g0 g1 g2 ⊢
    rw [if_neg hb] at g2
    unfold drayagelaw14_SagaTries.f
    rw [g0, Option.bind_some]
    cases b with
    | true => rw [if_pos rfl, drayagelaw14_SagaTries.j0, if_pos rfl, g1]; rfl
    | false => rw [if_neg (by decide), g2, Option.bind_some, drayagelaw14_SagaTries.j0, if_pos (by decide), g1]; rfl
theorem SagaTries (x0 : List S38) (a1 : Int) (w0 : x0.length ≤ maxLen ∧ ∀ x ∈ x0, Q38 x) (w1 : wf64 a1) : Ev (fun k => drayagelaw14_SagaTries.f k x0 a1) true :=
  tries x0 (planW_of x0 w0) a1
end Go.Proofs.Yteefdhgfcnjpoaa.Pure
