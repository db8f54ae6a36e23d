/- Plain laws on the mirror of chapter 14's functions, part E: the document's answers. -/
import Derived.Test.YteefdhgfcnjpoaaQMvPAx13
import Derived.Test.YteefdhgfcnjpoaaQMvPAx14
import Derived.Test.YteefdhgfcnjpoaaQMvPureD
namespace Go.Proofs.Yteefdhgfcnjpoaa.Pure
open Go.RowKit Go.Proofs.Yteefdhgfcnjpoaa.PA Go.Proofs.YteefdhgfcnjpoaaW.PrintWords Go.Proofs.YteefdhgfcnjpoaaW.PrintLast
set_option linter.unusedVariables false
set_option linter.unusedSimpArgs false

theorem ref_tell_ev (l : List S38) (h : planW l) (s : Sg) (step : Int) (undo : Bool) (code : Int) : Ev (fun k => drayageref14_Tell.f k l s.ph s.st s.tr s.as_ s.le s.ca s.co step undo code) (tellS l s step undo code) := by
  obtain ⟨K, hK⟩ := ref_st_check l h s
  by_cases c0 : ckI l s = 0
  · have V := ckI_zero c0
    by_cases hc : 1 ≤ code ∧ code ≤ 3
    · by_cases hs : s.as_ = true ∧ step = s.st ∧ undo = (s.ph == 2)
      · have h3 : s.ph ≠ 3 := by
          intro e
          have := (V.over e).2.2.2.2.2.1
          rw [hs.1] at this
          exact absurd this (by decide)
        obtain ⟨hp, a, b, _, hA, _, _⟩ := V.goes h3
        have hA := hA hs.1
        obtain ⟨K2, hK2⟩ := ref_back_ev l h.2 (s.st - 1) (by omega) (by omega)
        obtain ⟨K3, hK3⟩ := ref_back_ev l h.2 s.st (by omega) (by omega)
        refine ⟨K + K2 + K3 + 5, fun k hk => ?_⟩
        obtain ⟨k, rfl⟩ : ∃ m, k = m + 3 := ⟨k - 3, by omega⟩
        have d0 := hK (k + 3) (by omega)
        have d1 := hK2 (k + 1) (by omega)
        have d2 := hK3 (k + 1) (by omega)
        show drayageref14_Tell.f (k + 3) l s.ph s.st s.tr s.as_ s.le s.ca s.co step undo code = _
        dsimp only at *
        obtain ⟨p, q, r⟩ := hs
        have e4 : ¬ code < 1 := by omega
        have e5 : ¬ code > 3 := by omega
        have hl := h.2
        have w1 : wrap64 (s.st - 1) = s.st - 1 := wrap_id (by omega) (by omega)
        have w3 : wrap64 (s.st + 1) = s.st + 1 := wrap_id (by omega) (by omega)
        unfold drayageref14_Tell.f tellS
        simp only [drayageref14_Tell.j0, drayageref14_Tell.j1, d0, Option.bind_some, c0, d1, d2, w1, w3, tup_parts]
        obtain ⟨ph, st, tr, as_, le, ca, co⟩ := s
        dsimp only at *
        subst p q
        rcases hp with rfl | rfl
        · subst r
          rcases (by omega : code = 1 ∨ code = 2 ∨ code = 3) with rfl | rfl | rfl
          · by_cases e6 : step + 1 = (l.length : Int)
            · have e7 : step = (l.length : Int) - 1 := by omega
              cases ca <;> simp [res8, forwS, a, b, e6, ← e7]
            · have e7 : ¬ step = (l.length : Int) - 1 := by omega
              cases ca <;> simp [res8, forwS, a, b, e6, e7]
          · simp [res8, forwS, a, b]
          · by_cases e6 : tr = (rd_T38 l step).f1
            · have e7 : ¬ tr < (rd_T38 l step).f1 := by omega
              cases ca <;> simp [res8, forwS, a, b, ← e6]
            · have e7 : tr < (rd_T38 l step).f1 := by omega
              cases ca <;> simp [res8, forwS, a, b, e6, e7]
        · subst r
          rcases (by omega : code = 1 ∨ code = 2 ∨ code = 3) with rfl | rfl | rfl
          · simp [res8, undoS, a, b]
          · by_cases e6 : tr = (rd_T38 l step).f1 <;> simp [res8, undoS, a, b, e6]
          · by_cases e6 : tr = (rd_T38 l step).f1 <;> simp [res8, undoS, a, b, e6]
      · refine ⟨K + 5, fun k hk => ?_⟩
        obtain ⟨k, rfl⟩ : ∃ m, k = m + 3 := ⟨k - 3, by omega⟩
        have d0 := hK (k + 3) (by omega)
        show drayageref14_Tell.f (k + 3) l s.ph s.st s.tr s.as_ s.le s.ca s.co step undo code = _
        dsimp only at *
        have e4 : ¬ code < 1 := by omega
        have e5 : ¬ code > 3 := by omega
        unfold drayageref14_Tell.f tellS
        simp only [drayageref14_Tell.j0, drayageref14_Tell.j1, d0, Option.bind_some, c0]
        by_cases p : s.as_ = true
        · by_cases q : step = s.st
          · have r : ¬ undo = (s.ph == 2) := fun r => hs ⟨p, q, r⟩
            simp [e4, e5, p, q, r, res8]
          · simp [e4, e5, p, q, res8]
        · have p : s.as_ = false := by simpa using p
          simp [e4, e5, p, res8]
    · refine ⟨K + 5, fun k hk => ?_⟩
      obtain ⟨k, rfl⟩ : ∃ m, k = m + 3 := ⟨k - 3, by omega⟩
      have d0 := hK (k + 3) (by omega)
      show drayageref14_Tell.f (k + 3) l s.ph s.st s.tr s.as_ s.le s.ca s.co step undo code = _
      dsimp only at *
      unfold drayageref14_Tell.f tellS
      simp only [drayageref14_Tell.j0, drayageref14_Tell.j1, d0, Option.bind_some, c0]
      by_cases e4 : code < 1
      · simp [e4, res8, sg0]
      · have e5 : code > 3 := by omega
        simp [e4, e5, res8, sg0]
  · refine ⟨K, fun k hk => ?_⟩
    have d0 := hK k (by omega)
    show drayageref14_Tell.f k l s.ph s.st s.tr s.as_ s.le s.ca s.co step undo code = _
    dsimp only at *
    unfold drayageref14_Tell.f tellS
    simp [d0, c0, res8, sg0]
theorem ref_tick_ev (l : List S38) (h : planW l) (s : Sg) : Ev (fun k => drayageref14_Tick.f k l s.ph s.st s.tr s.as_ s.le s.ca s.co) (tickS l s) := by
  obtain ⟨K, hK⟩ := ref_st_check l h s
  obtain ⟨K2, hK2⟩ := ref_tell_ev l h s s.st (s.ph == 2) 3
  refine ⟨K + K2, fun k hk => ?_⟩
  have d0 := hK k (by omega)
  have d1 := hK2 k (by omega)
  show drayageref14_Tick.f k l s.ph s.st s.tr s.as_ s.le s.ca s.co = _
  dsimp only at *
  unfold drayageref14_Tick.f tickS
  rw [d0, Option.bind_some, d1]
  by_cases c0 : ckI l s = 0
  · cases hs : s.as_ <;> by_cases c1 : s.le = 1 <;> simp [c0, c1, hs, res8]
  · simp [c0, res8, sg0]
theorem ref_canc_ev (l : List S38) (h : planW l) (s : Sg) : Ev (fun k => drayageref14_Cancel.f k l s.ph s.st s.tr s.as_ s.le s.ca s.co) (cancS l s) := by
  obtain ⟨K, hK⟩ := ref_st_check l h s
  by_cases c0 : ckI l s = 0 ∧ s.ph = 1
  · obtain ⟨_, a, b, _, _, hN, _⟩ := (ckI_zero c0.1).goes (by omega)
    obtain ⟨K2, hK2⟩ := ref_back_ev l h.2 (s.st - 1) (by omega) (by omega)
    obtain ⟨K3, hK3⟩ := ref_back_ev l h.2 s.st (by omega) (by omega)
    refine ⟨K + K2 + K3, fun k hk => ?_⟩
    have d0 := hK k (by omega)
    have d1 := hK2 k (by omega)
    have d2 := hK3 k (by omega)
    show drayageref14_Cancel.f k l s.ph s.st s.tr s.as_ s.le s.ca s.co = _
    dsimp only at *
    have hl := h.2
    have w1 : wrap64 (s.st - 1) = s.st - 1 := wrap_id (by omega) (by omega)
    unfold drayageref14_Cancel.f cancS
    simp only [d0, Option.bind_some, w1, d1, d2]
    cases hs : s.as_ with
    | true => simp [c0, res8, tup_parts]
    | false =>
      have hN := hN hs
      by_cases c1 : s.tr = 0
      · have c2 : ¬ s.tr > 0 := by omega
        simp [c0, c1, res8, tup_parts]
      · have c2 : s.tr > 0 := by omega
        simp [c0, c1, c2, res8, tup_parts]
  · refine ⟨K, fun k hk => ?_⟩
    have d0 := hK k (by omega)
    show drayageref14_Cancel.f k l s.ph s.st s.tr s.as_ s.le s.ca s.co = _
    dsimp only at *
    unfold drayageref14_Cancel.f cancS
    rw [d0, Option.bind_some]
    by_cases c1 : ckI l s = 0
    · have c2 : ¬ s.ph = 1 := fun e => c0 ⟨c1, e⟩
      simp [c1, c2, res8]
    · simp [c1, res8, sg0]
end Go.Proofs.Yteefdhgfcnjpoaa.Pure
