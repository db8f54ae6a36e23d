/- Plain laws on the mirror of chapter 14's functions, part M: the law SagaTicks. -/
import Derived.Test.YteefdhgfcnjpoaaQTiPAx23
import Derived.Test.YteefdhgfcnjpoaaQTiPAx0
import Derived.Test.YteefdhgfcnjpoaaQTiPAx3
import Derived.Test.YteefdhgfcnjpoaaQTiPAx5
import Derived.Test.YteefdhgfcnjpoaaQTiPAx9
import Derived.Test.YteefdhgfcnjpoaaQTiPAx16
import Derived.Test.YteefdhgfcnjpoaaQTiPAx1
import Derived.Test.YteefdhgfcnjpoaaQTiPAx2
import Derived.Test.YteefdhgfcnjpoaaQTiPAx8
import Derived.Test.YteefdhgfcnjpoaaQTiPureI
namespace Go.Proofs.Yteefdhgfcnjpoaa.Pure
open Go.RowKit Go.Proofs.Yteefdhgfcnjpoaa.PA Go.Proofs.YteefdhgfcnjpoaaW.PrintWords Go.Proofs.YteefdhgfcnjpoaaW.PrintLast Go.Proofs.YteefdhgfcnjpoaaW.PrintMore
set_option linter.unusedVariables false
set_option linter.unusedSimpArgs false
set_option linter.unusedSectionVars false

/-- the state after so many ticks -/
def tickN (l : List S38) (u : Sg) : Nat → Sg
  | 0 => u
  | n + 1 => tickG l (tickN l u n)
theorem val_tickN {l : List S38} {u : Sg} (V : Val l u) : ∀ n, Val l (tickN l u n)
  | 0 => V
  | n + 1 => val_tick (val_tickN V n)
theorem tickN_at (l : List S38) (u : Sg) (ha : u.as_ = true) (r : Nat) (hr : u.le = (r : Int)) : ∀ n, n < r → tickN l u n = { u with le := (r : Int) - n } := by
  intro n
  induction n with
  | zero => intro _; show u = _; rw [← hr]; simp
  | succ n ih =>
    intro hn
    simp only [tickN]
    rw [ih (by omega)]
    unfold tickG
    rw [if_pos ha, if_neg (by show ¬ ((r : Int) - n = 1); omega)]
    dsimp only
    congr 1
    omega
theorem tickN_end (l : List S38) (u : Sg) (ha : u.as_ = true) (r : Nat) (hr : u.le = (r : Int)) (h0 : 1 ≤ r) : tickN l u r = tellG l u u.st (u.ph == 2) 3 := by
  obtain ⟨n, rfl⟩ : ∃ n, r = n + 1 := ⟨r - 1, by omega⟩
  simp only [tickN]
  rw [tickN_at l u ha (n + 1) hr n (by omega)]
  unfold tickG
  rw [if_pos ha, if_pos (by show ((n + 1 : Nat) : Int) - n = 1; omega)]
  have a1 : ∀ v : Sg, v.as_ = true → tellG l v v.st (v.ph == 2) 3 = if (v.ph == 2) = true then undoS l v 3 else forwS l v 3 := fun v hv => by
    unfold tellG
    exact if_neg (by simp [hv])
  exact (a1 { u with le := ((n + 1 : Nat) : Int) - n } ha).trans (a1 u ha).symm
section
variable (l : List S38) (h : planW l) (u : Sg) (V : Val l u) (ha : u.as_ = true)
include h V ha
theorem ticks_l1 (r : Nat) (hr : u.le = (r : Int)) (h0 : 1 ≤ r) (h1 : r ≤ 300) (w : Sg) (hw : w = tellG l u u.st (u.ph == 2) 3) : ∀ (d i : Nat), i + d = r →
    Ev (fun k => drayagelaw14_SagaTicks.l1 k l (r : Int) (i : Int) w.ph w.st w.tr w.as_ w.le w.ca w.co (tickN l u i).ph (tickN l u i).st (tickN l u i).tr (tickN l u i).as_ (tickN l u i).le (tickN l u i).ca (tickN l u i).co) true := by
  obtain ⟨K0, hk0⟩ := known_ev
  intro d
  induction d with
  | zero =>
    intro i hi
    obtain rfl : i = r := by omega
    refine ⟨K0 + 1, fun k hk => ?_⟩
    obtain ⟨k, rfl⟩ : ∃ m, k = m + 1 := ⟨k - 1, by omega⟩
    have g0 := hk0 k (by omega)
    dsimp only at g0 ⊢
    rw [tickN_end l u ha i hr h0, ← hw, drayagelaw14_SagaTicks.l1, if_neg (by omega), if_pos (by simp), g0]
    rfl
  | succ d ih =>
    intro i hi
    obtain ⟨K1, h1⟩ := ih (i + 1) (by omega)
    obtain ⟨K2, h2⟩ := tick_ev l h (tickN l u i)
    rw [tickS_eq (val_tickN V i)] at h2
    refine ⟨K1 + K2 + 1, fun k hk => ?_⟩
    obtain ⟨k, rfl⟩ : ∃ m, k = m + 1 := ⟨k - 1, by omega⟩
    have g1 := h1 k (by omega)
    have g2 := h2 k (by omega)
    dsimp only at g1 g2 ⊢
    have e := tickN_at l u ha r hr i (by omega)
    rw [drayagelaw14_SagaTicks.l1, if_pos (by omega), wrap_id (i := (r : Int) - (i : Int)) (by omega) (by omega), if_pos (by rw [e]), if_pos (by rw [e]; exact ha), g2, Option.bind_some, wrap_id (i := (i : Int) + 1) (by omega) (by omega)]
    exact g1
end
theorem tell_not {l : List S38} {s : Sg} (step : Int) (undo : Bool) (code : Int) (c : ¬ step = s.st ∨ undo ≠ (s.ph == 2)) : tellG l s step undo code = s := by
  unfold tellG
  exact if_pos (.inr c)
theorem ticks_j3 (l : List S38) (h : planW l) (a2 : Int) (s : Sg) (V : Val l s) : Ev (fun k => if s.ph = 3 then (drayagelaw14_SagaTicks.j3 k l a2 true s.ph s.st s.tr s.as_ s.le s.ca s.co) else (drayagelaw14_SagaTicks.j3 k l a2 s.as_ s.ph s.st s.tr s.as_ s.le s.ca s.co)) true := by
  obtain ⟨K0, h0⟩ := known_ev
  by_cases h3 : s.ph = 3
  · refine ⟨K0 + 1, fun k hk => ?_⟩
    obtain ⟨k, rfl⟩ : ∃ m, k = m + 1 := ⟨k - 1, by omega⟩
    have g0 := h0 k (by omega)
    dsimp only at g0 ⊢
    rw [if_pos h3, drayagelaw14_SagaTicks.j3, if_pos rfl, g0]; rfl
  · cases ha : s.as_ with
    | true =>
      refine ⟨K0 + 1, fun k hk => ?_⟩
      obtain ⟨k, rfl⟩ : ∃ m, k = m + 1 := ⟨k - 1, by omega⟩
      have g0 := h0 k (by omega)
      dsimp only at g0 ⊢
      rw [if_neg h3, drayagelaw14_SagaTicks.j3, if_pos rfl, g0]; rfl
    | false =>
      have hp := V.goes h3
      have hl := V.len
      have hs := plan_step V.plan s.st (by omega) (by omega)
      obtain ⟨K1, h1⟩ := ask_ev l h s
      rw [askS_eq V h3 ha] at h1
      have Vu := val_ask V h3 ha
      have hu1 : (askG l s).st = s.st := rfl
      have hu2 : (askG l s).as_ = true := rfl
      have hu3 : (askG l s).le = (rd_T38 l s.st).f2 := rfl
      generalize askG l s = u at *
      by_cases hb : (rd_T38 l s.st).f2 > 300
      · refine ⟨K0 + K1 + 1, fun k hk => ?_⟩
        obtain ⟨k, rfl⟩ : ∃ m, k = m + 1 := ⟨k - 1, by omega⟩
        have g0 := h0 k (by omega)
        have g1 := h1 k (by omega)
        rw [ha] at g1
        dsimp only at g0 g1 ⊢
        rw [if_neg h3, drayagelaw14_SagaTicks.j3, if_neg (by decide), g1, Option.bind_some]
        simp only [res8, ↓reduceIte]
        rw [if_pos (by omega), if_pos (by omega), if_pos hb, g0]
        rfl
      · obtain ⟨r, hr⟩ := Int.eq_ofNat_of_zero_le (a := (rd_T38 l s.st).f2) (by omega)
        have hwr := u64_range a2
        have hx : 0 ≤ Int.tmod (IntKind.u64.wrap a2) 15 ∧ Int.tmod (IntKind.u64.wrap a2) 15 < 15 := by
          rw [Int.tmod_eq_emod_of_nonneg hwr.1]; omega
        have hx2 : wrap64 ((wrap64 (u.st + 1)) + (wrap64 (Int.tmod (IntKind.u64.wrap a2) 15))) = u.st + 1 + Int.tmod (IntKind.u64.wrap a2) 15 := by
          rw [hu1, wrap_id (i := s.st + 1) (by omega) (by omega), wrap_id (i := Int.tmod (IntKind.u64.wrap a2) 15) (by omega) (by omega), wrap_id (by omega) (by omega)]
        obtain ⟨K3, h3'⟩ := tell_ev l h u u.st (u.ph == 2) 3
        obtain ⟨K4, h4⟩ := tell_ev l h u u.st (u.ph != 2) 1
        obtain ⟨K5, h5⟩ := tell_ev l h u (u.st + 1 + Int.tmod (IntKind.u64.wrap a2) 15) (u.ph == 2) 2
        rw [tellS_eq Vu _ _ _ (by omega)] at h3'
        rw [tellS_eq Vu _ _ _ (by omega), tell_not _ _ _ (.inr (by cases e : (u.ph == 2) <;> simp [bne, e]))] at h4
        rw [tellS_eq Vu _ _ _ (by omega), tell_not _ _ _ (.inl (by omega))] at h5
        obtain ⟨K6, h6⟩ := ticks_l1 l h u Vu hu2 r (by omega) (by omega) (by omega) _ rfl r 0 (by omega)
        generalize tellG l u u.st (u.ph == 2) 3 = w at *
        refine ⟨K1 + K3 + K4 + K5 + K6 + 2, fun k hk => ?_⟩
        obtain ⟨k, rfl⟩ : ∃ m, k = m + 2 := ⟨k - 2, by omega⟩
        have g1 := h1 (k + 1) (by omega)
        have g3 := h3' (k + 1) (by omega)
        have g4 := h4 (k + 1) (by omega)
        have g5 := h5 (k + 1) (by omega)
        have g6 := h6 k (by omega)
        clear h0 h1 h3' h4 h5 h6
        rw [ha] at g1
        dsimp only at g1 g3 g4 g5 g6 ⊢
        have J4 : drayagelaw14_SagaTicks.j4 (k + 1) l (r : Int) false u.ph u.st u.tr u.as_ u.le u.ca u.co w.ph w.st w.tr w.as_ w.le w.ca w.co = some true := by
          rw [drayagelaw14_SagaTicks.j4, if_neg (by decide)]
          exact g6
        rw [if_neg h3, drayagelaw14_SagaTicks.j3, if_neg (by decide), g1, Option.bind_some]
        simp only [res8, ↓reduceIte] at g3 g4 g5 ⊢
        rw [if_pos (by omega), if_pos (by omega), if_neg hb, g3, Option.bind_some, g4, Option.bind_some, hx2, g5, Option.bind_some, hr]
        simpa using J4
theorem ticks_l0 (l : List S38) (h : planW l) (l1 : List S54) (a2 : Int) (hl : l1.length ≤ 9223372036854775807) : ∀ (d i : Nat) (s : Sg), i + d = 60 → Val l s →
    Ev (fun k => drayagelaw14_SagaTicks.l0 k l l1 a2 (i : Int) s.ph s.st s.tr s.as_ s.le s.ca s.co) true := by
  intro d
  induction d with
  | zero =>
    intro i s hi V
    obtain ⟨K1, h1⟩ := ticks_j3 l h a2 s V
    refine ⟨K1 + 2, fun k hk => ?_⟩
    obtain ⟨k, rfl⟩ : ∃ m, k = m + 2 := ⟨k - 2, by omega⟩
    have g1 := h1 k (by omega)
    dsimp only at g1 ⊢
    have e : decide ((i : Int) < 60) = false := by simp; omega
    rw [drayagelaw14_SagaTicks.l0, e, ite_self, drayagelaw14_SagaTicks.j2, if_neg (by decide)]
    exact g1
  | succ d ih =>
    intro i s hi V
    by_cases hin : i < l1.length
    · obtain ⟨K1, h1⟩ := happ_ev l h s V (rd_T54 l1 (i : Int))
      have V2 := val_happ V (rd_T54 l1 (i : Int))
      generalize ht : happG l s (rd_T54 l1 (i : Int)) = t at *
      obtain ⟨K3, h3⟩ := ih (i + 1) t (by omega) V2
      refine ⟨K1 + K3 + 2, fun k hk => ?_⟩
      obtain ⟨k, rfl⟩ : ∃ m, k = m + 2 := ⟨k - 2, by omega⟩
      have g1 := h1 k (by omega)
      have g3 := h3 k (by omega)
      clear h1 h3 ih
      dsimp only at g1 g3 ⊢
      rw [drayagelaw14_SagaTicks.l0, if_pos (by omega), decide_eq_true (by omega), drayagelaw14_SagaTicks.j2, if_pos rfl, if_pos (by omega), if_pos (by omega), g1, Option.bind_some]
      simp only [resb, ↓reduceIte]
      rw [wrap_id (i := (i : Int) + 1) (by omega) (by omega)]
      exact g3
    · obtain ⟨K1, h1⟩ := ticks_j3 l h a2 s V
      refine ⟨K1 + 2, fun k hk => ?_⟩
      obtain ⟨k, rfl⟩ : ∃ m, k = m + 2 := ⟨k - 2, by omega⟩
      have g1 := h1 k (by omega)
      dsimp only at g1 ⊢
      rw [drayagelaw14_SagaTicks.l0, if_neg (by omega), drayagelaw14_SagaTicks.j2, if_neg (by decide)]
      exact g1
theorem ticks (l : List S38) (h : planW l) (l1 : List S54) (a2 : Int) (hl : l1.length ≤ 9223372036854775807) : Ev (fun k => drayagelaw14_SagaTicks.f k l l1 a2) true := by
  obtain ⟨b, K0, h0⟩ := long_ev l h.2
  obtain ⟨K1, h1⟩ := known_ev
  obtain ⟨K2, h2⟩ := ref_check l h
  by_cases hb : planB l = true
  · obtain ⟨K3, h3⟩ := ticks_l0 l h l1 a2 hl 60 0 _ (by omega) (val_start hb)
    refine ⟨K0 + K1 + K2 + K3 + 2, fun k hk => ?_⟩
    obtain ⟨k, rfl⟩ : ∃ m, k = m + 1 := ⟨k - 1, by omega⟩
    have g0 := h0 (k + 1) (by omega)
    have g1 := h1 k (by omega)
    have g2 := h2 (k + 1) (by omega)
    have g3 := h3 k (by omega)
    clear h0 h1 h2 h3
    dsimp only at g0 g1 g2 g3 ⊢
    rw [if_pos hb] at g2
    unfold drayagelaw14_SagaTicks.f
    rw [g0, Option.bind_some]
    cases b with
    | true => rw [if_pos rfl, drayagelaw14_SagaTicks.j0, if_pos rfl, g1]; rfl
    | false =>
      rw [if_neg (by decide), g2, Option.bind_some, drayagelaw14_SagaTicks.j0, if_neg (by decide)]
      exact g3
  · refine ⟨K0 + K1 + K2 + 2, fun k hk => ?_⟩
    obtain ⟨k, rfl⟩ : ∃ m, k = m + 1 := ⟨k - 1, by omega⟩
    have g0 := h0 (k + 1) (by omega)
    have g1 := h1 k (by omega)
    have g2 := h2 (k + 1) (by omega)
    clear h0 h1 h2
    dsimp only at g0 g1 g2 ⊢
    rw [if_neg hb] at g2
    unfold drayagelaw14_SagaTicks.f
    rw [g0, Option.bind_some]
    cases b with
    | true => rw [if_pos rfl, drayagelaw14_SagaTicks.j0, if_pos rfl, g1]; rfl
    | false => rw [if_neg (by decide), g2, Option.bind_some, drayagelaw14_SagaTicks.j0, if_pos (by decide), g1]; rfl
theorem SagaTicks (x0 : List S38) (x1 : List S54) (a2 : Int) (w0 : x0.length ≤ maxLen ∧ ∀ x ∈ x0, Q38 x) (w1 : x1.length ≤ maxLen ∧ ∀ x ∈ x1, wf64 x.f0 ∧ wf64 x.f1 ∧ wf64 x.f2) (w2 : wf64 a2) :
    Ev (fun k => drayagelaw14_SagaTicks.f k x0 x1 a2) true :=
  ticks x0 (planW_of x0 w0) x1 a2 (by have := w1.1; unfold maxLen at this; omega)
end Go.Proofs.Yteefdhgfcnjpoaa.Pure
