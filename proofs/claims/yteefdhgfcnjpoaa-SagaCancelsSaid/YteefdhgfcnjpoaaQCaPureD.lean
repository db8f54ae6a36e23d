/- Plain laws on the mirror of chapter 14's functions, part D: what Tell, Tick and Cancel come to. -/
import Derived.Test.YteefdhgfcnjpoaaQCaPAx6
import Derived.Test.YteefdhgfcnjpoaaQCaPAx8
import Derived.Test.YteefdhgfcnjpoaaQCaPAx9
import Derived.Test.YteefdhgfcnjpoaaQCaPAx13
import Derived.Test.YteefdhgfcnjpoaaQCaPAx14
import Derived.Test.YteefdhgfcnjpoaaQCaPureC
namespace Go.Proofs.Yteefdhgfcnjpoaa.Pure
open Go.RowKit Go.Proofs.Yteefdhgfcnjpoaa.PA Go.Proofs.YteefdhgfcnjpoaaW.PrintWords Go.Proofs.YteefdhgfcnjpoaaW.PrintLast
set_option linter.unusedVariables false
set_option linter.unusedSimpArgs false

theorem tup_parts (s : Sg) : s.tup = (s.ph, s.st, s.tr, s.as_, s.le, s.ca, s.co) := rfl
theorem forw_ev (l : List S38) (hl : l.length ≤ 9223372036854775807) (s : Sg) (h0 : 0 ≤ s.st) (h1 : s.st < l.length) (code : Int) (hc : 1 ≤ code ∧ code ≤ 3) :
    Ev (fun k => saga_forward.f k l s.ph s.st s.tr s.as_ s.le s.ca s.co code) (forwS l s code).tup := by
  obtain ⟨K, hK⟩ := saga_back_ev l hl (s.st - 1) (by omega) (by omega)
  obtain ⟨K2, hK2⟩ := saga_back_ev l hl s.st (by omega) (by omega)
  refine ⟨K + K2 + 5, fun k hk => ?_⟩
  obtain ⟨k, rfl⟩ : ∃ m, k = m + 3 := ⟨k - 3, by omega⟩
  have d1 := hK (k + 3) (by omega)
  have d2 := hK2 (k + 1) (by omega)
  show saga_forward.f (k + 3) l s.ph s.st s.tr s.as_ s.le s.ca s.co code = _
  obtain ⟨ph, st, tr, as_, le, ca, co⟩ := s
  dsimp only at *
  have w1 : wrap64 (st - 1) = st - 1 := wrap_id (by omega) (by omega)
  have w2 : wrap64 ((l.length : Int) - 1) = (l.length : Int) - 1 := wrap_id (by omega) (by omega)
  have w3 : wrap64 (st + 1) = st + 1 := wrap_id (by omega) (by omega)
  unfold saga_forward.f forwS
  simp only [saga_forward.j0, saga_forward.j1, saga_over.f, saga_again.f, w1, w2, w3, d1, d2, Option.bind_some, tup_parts]
  rcases (by omega : code = 1 ∨ code = 2 ∨ code = 3) with rfl | rfl | rfl
  · cases ca <;> by_cases e : st = (l.length : Int) - 1 <;> simp [e]
  · simp
  · cases ca
    · by_cases e : tr < (rd_T38 l st).f1 <;> simp [e, h0, h1]
    · simp
theorem undo_ev (l : List S38) (hl : l.length ≤ 9223372036854775807) (s : Sg) (h0 : 0 ≤ s.st) (h1 : s.st < l.length) (code : Int) (hc : 1 ≤ code ∧ code ≤ 3) :
    Ev (fun k => saga_undone.f k l s.ph s.st s.tr s.as_ s.le s.ca s.co code) (undoS l s code).tup := by
  obtain ⟨K, hK⟩ := saga_back_ev l hl (s.st - 1) (by omega) (by omega)
  refine ⟨K + 5, fun k hk => ?_⟩
  obtain ⟨k, rfl⟩ : ∃ m, k = m + 3 := ⟨k - 3, by omega⟩
  have d1 := hK (k + 3) (by omega)
  show saga_undone.f (k + 3) l s.ph s.st s.tr s.as_ s.le s.ca s.co code = _
  obtain ⟨ph, st, tr, as_, le, ca, co⟩ := s
  dsimp only at *
  have w1 : wrap64 (st - 1) = st - 1 := wrap_id (by omega) (by omega)
  unfold saga_undone.f undoS
  simp only [saga_undone.j0, saga_over.f, saga_again.f, w1, d1, Option.bind_some, tup_parts]
  rcases (by omega : code = 1 ∨ code = 2 ∨ code = 3) with rfl | rfl | rfl
  · simp
  · by_cases e : tr = (rd_T38 l st).f1 <;> simp [e, h0, h1]
  · by_cases e : tr = (rd_T38 l st).f1 <;> simp [e, h0, h1]
theorem tell_ev (l : List S38) (h : planW l) (s : Sg) (step : Int) (undo : Bool) (code : Int) : Ev (fun k => saga_Tell.f k l s.ph s.st s.tr s.as_ s.le s.ca s.co step undo code) (tellS l s step undo code) := by
  obtain ⟨K, hK⟩ := saga_check l h s
  by_cases c0 : ckI l s = 0
  · have V := ckI_zero c0
    by_cases hc : 1 ≤ code ∧ code ≤ 3
    · by_cases hs : s.as_ = true ∧ step = s.st ∧ undo = (s.ph == 2)
      · have h3 : s.ph ≠ 3 := by
          intro e
          have := (V.over e).2.2.2.2.2.1
          rw [hs.1] at this
          exact absurd this (by decide)
        obtain ⟨_, a, b, _⟩ := V.goes h3
        obtain ⟨K2, hK2⟩ := forw_ev l h.2 s a b code hc
        obtain ⟨K3, hK3⟩ := undo_ev l h.2 s a b code hc
        refine ⟨K + K2 + K3 + 5, fun k hk => ?_⟩
        obtain ⟨k, rfl⟩ : ∃ m, k = m + 3 := ⟨k - 3, by omega⟩
        have d0 := hK (k + 3) (by omega)
        have d1 := hK2 (k + 1) (by omega)
        have d2 := hK3 (k + 1) (by omega)
        show saga_Tell.f (k + 3) l s.ph s.st s.tr s.as_ s.le s.ca s.co step undo code = _
        dsimp only at *
        obtain ⟨p, q, r⟩ := hs
        have e4 : ¬ code < 1 := by omega
        have e5 : ¬ code > 3 := by omega
        unfold saga_Tell.f tellS
        simp only [saga_Tell.j0, saga_Tell.j1, d0, Option.bind_some, c0, d1, d2]
        cases hu : undo with
        | false => rw [hu] at r; simp [e4, e5, p, q, ← r, res8, tup_parts]
        | true => rw [hu] at r; simp [e4, e5, p, q, ← r, res8, tup_parts]
      · refine ⟨K + 5, fun k hk => ?_⟩
        obtain ⟨k, rfl⟩ : ∃ m, k = m + 3 := ⟨k - 3, by omega⟩
        have d0 := hK (k + 3) (by omega)
        show saga_Tell.f (k + 3) l s.ph s.st s.tr s.as_ s.le s.ca s.co step undo code = _
        dsimp only at *
        have e4 : ¬ code < 1 := by omega
        have e5 : ¬ code > 3 := by omega
        unfold saga_Tell.f tellS
        simp only [saga_Tell.j0, saga_Tell.j1, d0, Option.bind_some, c0]
        by_cases p : s.as_ = true
        · by_cases q : step = s.st
          · have r : ¬ undo = (s.ph == 2) := fun r => hs ⟨p, q, r⟩
            simp [e4, e5, p, q, r, res8]
          · simp [e4, e5, p, q, res8]
        · have p : s.as_ = false := by simpa using p
          simp [e4, e5, p, res8]
    · refine ⟨K + 5, fun k hk => ?_⟩
      obtain ⟨k, rfl⟩ : ∃ m, k = m + 3 := ⟨k - 3, by omega⟩
      have d0 := hK (k + 3) (by omega)
      show saga_Tell.f (k + 3) l s.ph s.st s.tr s.as_ s.le s.ca s.co step undo code = _
      dsimp only at *
      unfold saga_Tell.f tellS
      simp only [saga_Tell.j0, saga_Tell.j1, d0, Option.bind_some, c0]
      by_cases e4 : code < 1
      · simp [e4, res8, sg0]
      · have e5 : code > 3 := by omega
        simp [e4, e5, res8, sg0]
  · refine ⟨K, fun k hk => ?_⟩
    have d0 := hK k (by omega)
    show saga_Tell.f k l s.ph s.st s.tr s.as_ s.le s.ca s.co step undo code = _
    dsimp only at *
    unfold saga_Tell.f tellS
    simp [d0, c0, res8, sg0]
theorem tick_ev (l : List S38) (h : planW l) (s : Sg) : Ev (fun k => saga_Tick.f k l s.ph s.st s.tr s.as_ s.le s.ca s.co) (tickS l s) := by
  obtain ⟨K, hK⟩ := saga_check l h s
  obtain ⟨K2, hK2⟩ := tell_ev l h s s.st (s.ph == 2) 3
  refine ⟨K + K2, fun k hk => ?_⟩
  have d0 := hK k (by omega)
  have d1 := hK2 k (by omega)
  show saga_Tick.f k l s.ph s.st s.tr s.as_ s.le s.ca s.co = _
  dsimp only at *
  unfold saga_Tick.f tickS
  rw [d0, Option.bind_some, d1]
  by_cases c0 : ckI l s = 0
  · cases hs : s.as_ <;> by_cases c1 : s.le = 1 <;> simp [c0, c1, hs, res8]
  · simp [c0, res8, sg0]
theorem canc_ev (l : List S38) (h : planW l) (s : Sg) : Ev (fun k => saga_Cancel.f k l s.ph s.st s.tr s.as_ s.le s.ca s.co) (cancS l s) := by
  obtain ⟨K, hK⟩ := saga_check l h s
  by_cases c0 : ckI l s = 0 ∧ s.ph = 1
  · obtain ⟨_, a, b, _⟩ := (ckI_zero c0.1).goes (by omega)
    obtain ⟨K2, hK2⟩ := saga_back_ev l h.2 (s.st - 1) (by omega) (by omega)
    obtain ⟨K3, hK3⟩ := saga_back_ev l h.2 s.st (by omega) (by omega)
    refine ⟨K + K2 + K3, fun k hk => ?_⟩
    have d0 := hK k (by omega)
    have d1 := hK2 k (by omega)
    have d2 := hK3 k (by omega)
    show saga_Cancel.f k l s.ph s.st s.tr s.as_ s.le s.ca s.co = _
    dsimp only at *
    have hl := h.2
    have w1 : wrap64 (s.st - 1) = s.st - 1 := wrap_id (by omega) (by omega)
    unfold saga_Cancel.f cancS
    simp only [d0, Option.bind_some, w1, d1, d2]
    cases hs : s.as_ <;> by_cases c1 : s.tr > 0 <;> simp [c0, c1, hs, res8, tup_parts]
  · refine ⟨K, fun k hk => ?_⟩
    have d0 := hK k (by omega)
    show saga_Cancel.f k l s.ph s.st s.tr s.as_ s.le s.ca s.co = _
    dsimp only at *
    unfold saga_Cancel.f cancS
    rw [d0, Option.bind_some]
    by_cases c1 : ckI l s = 0
    · have c2 : ¬ s.ph = 1 := fun e => c0 ⟨c1, e⟩
      simp [c1, c2, res8]
    · simp [c1, res8, sg0]
end Go.Proofs.Yteefdhgfcnjpoaa.Pure
