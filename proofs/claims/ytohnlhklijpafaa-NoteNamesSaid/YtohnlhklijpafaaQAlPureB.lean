/- Plain laws on the mirror of chapter 5's functions, part B: a note's bytes are got as it was; bytes that are got are put as they were. -/
import Derived.Test.YtohnlhklijpafaaQAlPAx2
import Derived.Test.YtohnlhklijpafaaQAlPAx3
import Derived.Test.YtohnlhklijpafaaQAlPureA
namespace Go.Proofs.Ytohnlhklijpafaa.Pure
open Go.RowKit Go.Proofs.Ytohnlhklijpafaa.PA Go.Proofs.YtohnlhklijpafaaW.PrintWords Go.Proofs.YtohnlhklijpafaaW.PrintLast Go.Proofs.YtohnlhklijpafaaW.PrintMore
set_option linter.unusedVariables false
set_option linter.unusedSimpArgs false

theorem nstep_E (ep ol ls ti o st : Int) (un : Bool) (co : Int) (l9 l10 : List Int) (und : Int) (s : RS) : nstep 69 ⟨ep, ol, ls, ti, o, st, un, co, l9, l10, und, s⟩ = ⟨rd4 s, ol, ls, ti, o, st, un, co, l9, l10, und, rdN 4 s⟩ := rfl
theorem nstep_P (ep ol ls ti o st : Int) (un : Bool) (co : Int) (l9 l10 : List Int) (und : Int) (s : RS) : nstep 80 ⟨ep, ol, ls, ti, o, st, un, co, l9, l10, und, s⟩ = ⟨ep, rd4 s, ls, ti, o, st, un, co, l9, l10, und, rdN 4 s⟩ := rfl
theorem nstep_L (ep ol ls ti o st : Int) (un : Bool) (co : Int) (l9 l10 : List Int) (und : Int) (s : RS) : nstep 76 ⟨ep, ol, ls, ti, o, st, un, co, l9, l10, und, s⟩ = ⟨ep, ol, rd8 s, ti, o, st, un, co, l9, l10, und, rdN 8 s⟩ := rfl
theorem nstep_T (ep ol ls ti o st : Int) (un : Bool) (co : Int) (l9 l10 : List Int) (und : Int) (s : RS) : nstep 84 ⟨ep, ol, ls, ti, o, st, un, co, l9, l10, und, s⟩ = ⟨ep, ol, ls, rd8 s, o, st, un, co, l9, l10, und, rdN 8 s⟩ := rfl
theorem nstep_O (ep ol ls ti o st : Int) (un : Bool) (co : Int) (l9 l10 : List Int) (und : Int) (s : RS) : nstep 79 ⟨ep, ol, ls, ti, o, st, un, co, l9, l10, und, s⟩ = ⟨ep, ol, ls, ti, rd4 s, st, un, co, l9, l10, und, rdN 4 s⟩ := rfl
theorem nstep_S (ep ol ls ti o st : Int) (un : Bool) (co : Int) (l9 l10 : List Int) (und : Int) (s : RS) : nstep 83 ⟨ep, ol, ls, ti, o, st, un, co, l9, l10, und, s⟩ = ⟨ep, ol, ls, ti, o, rd1 s, un, co, l9, l10, und, rdN 1 s⟩ := rfl
theorem nstep_U (ep ol ls ti o st : Int) (un : Bool) (co : Int) (l9 l10 : List Int) (und : Int) (s : RS) : nstep 85 ⟨ep, ol, ls, ti, o, st, un, co, l9, l10, und, s⟩ = ⟨ep, ol, ls, ti, o, st, (rd1 s == 1), co, l9, l10, rd1 s, rdN 1 s⟩ := rfl
theorem nstep_C (ep ol ls ti o st : Int) (un : Bool) (co : Int) (l9 l10 : List Int) (und : Int) (s : RS) : nstep 67 ⟨ep, ol, ls, ti, o, st, un, co, l9, l10, und, s⟩ = ⟨ep, ol, ls, ti, o, st, un, rd1 s, l9, l10, und, rdN 1 s⟩ := rfl
theorem nstep_K (ep ol ls ti o st : Int) (un : Bool) (co : Int) (l9 l10 : List Int) (und : Int) (s : RS) : nstep 75 ⟨ep, ol, ls, ti, o, st, un, co, l9, l10, und, s⟩ = ⟨ep, ol, ls, ti, o, st, un, co, rdT s, l10, und, rdN (txN s) s⟩ := rfl
theorem nstep_D (ep ol ls ti o st : Int) (un : Bool) (co : Int) (l9 l10 : List Int) (und : Int) (s : RS) : nstep 68 ⟨ep, ol, ls, ti, o, st, un, co, l9, l10, und, s⟩ = ⟨ep, ol, ls, ti, o, st, un, co, l9, rdT s, und, rdN (txN s) s⟩ := rfl
theorem check_is (k ep ol ls ti o st : Int) (un : Bool) (co : Int) (l9 l10 : List Int) : note_Check.f k ep ol ls ti o st un co l9 l10 = some (if noteBad k ep ol ls ti o st un co l9.length l10.length then 50 else 0) := rfl
theorem fit_so {ep ol ls ti o : Int} (h : noteFit ep ol ls ti o = true) : 0 ≤ ep ∧ ep < 4294967296 ∧ 0 ≤ ol ∧ ol < 4294967296 ∧ 0 ≤ ls ∧ ls < 18446744073709551616 ∧ 0 ≤ ti ∧ ti < 18446744073709551616 ∧ 0 ≤ o ∧ o < 4294967296 := by
  simp only [noteFit, Bool.and_eq_true, decide_eq_true_eq] at h
  omega
theorem fit_of {ep ol ls ti o : Int} (h1 : (Lit.int .u32 ep).wf = true) (h2 : (Lit.int .u32 ol).wf = true) (h3 : (Lit.int .u64 ls).wf = true) (h4 : (Lit.int .u64 ti).wf = true) (h5 : (Lit.int .u32 o).wf = true) : noteFit ep ol ls ti o = true := by
  obtain ⟨a, b⟩ := u32_wf h1; obtain ⟨c, d⟩ := u32_wf h2; obtain ⟨e, f⟩ := u64_wf h3; obtain ⟨g, i⟩ := u64_wf h4; obtain ⟨j, l⟩ := u32_wf h5
  simp [noteFit, a, b, c, d, e, f, g, i, j, l]
theorem put_is {k ep ol ls ti o st : Int} {un : Bool} {co : Int} {l9 l10 : List Int} (h : noteFit ep ol ls ti o = true) : note_Put.f k ep ol ls ti o st un co l9 l10 = some (bif noteBad k ep ol ls ti o st un co l9.length l10.length then ([], 50) else (noteB (nameStr k) k ep ol ls ti o st un co l9 l10 (nameStr k).size, 0)) := by
  unfold note_Put.f; rw [h]; cases noteBad k ep ol ls ti o st un co l9.length l10.length <;> rfl
theorem bitI_le (b : Bool) : 0 ≤ bitI b ∧ bitI b ≤ 1 := by cases b <;> decide
theorem bitI_eq (b : Bool) : (bitI b == 1) = b := by cases b <;> rfl
theorem bit_back {x : Int} (h0 : 0 ≤ x) (h1 : x ≤ 1) : bitI (x == 1) = x := by
  have : x = 0 ∨ x = 1 := by omega
  rcases this with e | e <;> rw [e] <;> rfl
theorem bad_fin {k : Int} {x : NS} (h : doneI x.s ≠ 0) : noteGetK k x = NERR := by
  unfold noteGetK; rw [show (doneI x.s != 0) = true by simpa using h]; rfl
theorem fin_ok {k : Int} {x : NS} (hs : doneI x.s = 0) (hu : x.und ≤ 1) (h : noteBad k x.ep x.ol x.ls x.ti x.o x.st x.un x.co x.l9.length x.l10.length = false) : noteGetK k x = (k, x.ep, x.ol, x.ls, x.ti, x.o, x.st, x.un, x.co, x.l9, x.l10, 0) := by
  unfold noteGetK; rw [hs, h, decide_eq_false (by omega)]; rfl
theorem fin_so (k : Int) (x : NS) : noteGetK k x = NERR ∨ (doneI x.s = 0 ∧ x.und ≤ 1 ∧ noteBad k x.ep x.ol x.ls x.ti x.o x.st x.un x.co x.l9.length x.l10.length = false ∧ noteGetK k x = (k, x.ep, x.ol, x.ls, x.ti, x.o, x.st, x.un, x.co, x.l9, x.l10, 0)) := by
  by_cases h1 : doneI x.s = 0
  · by_cases h2 : x.und ≤ 1
    · cases h3 : noteBad k x.ep x.ol x.ls x.ti x.o x.st x.un x.co x.l9.length x.l10.length with
      | false => exact .inr ⟨h1, h2, rfl, fin_ok h1 h2 h3⟩
      | true => left; unfold noteGetK; rw [h1, h3, decide_eq_false (by omega)]; rfl
    · left; unfold noteGetK; rw [h1, decide_eq_true (by omega)]; rfl
  · exact .inl (bad_fin h1)
theorem long_n {n : Nat} {s : RS} (h : (rdN n s).2 = false) : s.2 = false := (back_n h).1
theorem drop_last {a : List Int} {n : Int} {s : Nat} : (a ++ bigE n (s + 1)).dropLast = a ++ (bigE n (s + 1)).dropLast := by
  rw [List.dropLast_append_of_ne_nil]
  intro h
  have := bigE_len n (s + 1)
  rw [h] at this; exact absurd this (by simp)
theorem drop_text {a t : List Int} {n : Int} : (a ++ (bigE n 1 ++ t)).dropLast = a ++ (bigE n 1 ++ t).dropLast := by
  rw [List.dropLast_append_of_ne_nil]
  intro h
  have := congrArg List.length h
  simp [bigE_len] at this
theorem short_n (n : Int) (s : Nat) : (rdN (s + 1) ((bigE n (s + 1)).dropLast, false)).2 = true := rdN_short (.inr (by simp [bigE_len]))
theorem getOpen (l : List Int) : noteGet l = noteGetK (rd1 (l, false)) (nread (nameStr (rd1 (l, false))) (rdN 1 (l, false)) (nameStr (rd1 (l, false))).size) := rfl
theorem zero_1 {ep ol ls ti o st : Int} {un : Bool} {co : Int} {l9 l10 : List Int} (h : noteBad 1 ep ol ls ti o st un co l9.length l10.length = false) (f : noteFit ep ol ls ti o = true) : ti = 0 ∧ o = 0 ∧ st = 0 ∧ un = false ∧ co = 0 ∧ l9 = [] := by
  have g := fit_so f
  unfold noteBad at h
  simp only [Bool.or_eq_false_iff] at h
  have hm := h.1.1.2
  simp [moreB, show has 1 69 = true from by decide, show has 1 80 = true from by decide, show has 1 76 = true from by decide, show has 1 84 = false from by decide, show has 1 79 = false from by decide, show has 1 83 = false from by decide, show has 1 85 = false from by decide, show has 1 67 = false from by decide, show has 1 75 = false from by decide, show has 1 68 = true from by decide] at hm
  refine ⟨?_, ?_, ?_, ?_, ?_, ?_⟩
  · omega
  · omega
  · simp_all
  · simp_all
  · simp_all
  · simp_all
theorem bytes_1 {ep : Int} {ol : Int} {ls : Int} {l10 : List Int} : noteB (nameStr 1) 1 ep ol ls 0 0 0 false 0 [] l10 (nameStr 1).size = [] ++ bigE 1 1 ++ bigE ep 4 ++ bigE ol 4 ++ bigE ls 8 ++ (bigE (l10.length : Int) 1 ++ l10) := rfl
theorem more_1 {ep ol ls ti o st : Int} {un : Bool} {co : Int} {l9 l10 : List Int} (f : noteFit ep ol ls 0 0 = true) (s0 : 0 ≤ st) (s1 : st < 16) (c0 : 0 ≤ co) (c1 : co ≤ 255) (t9 : l9.length ≤ 32) (t10 : l10.length ≤ 255) (r : List Int) : noteGet (noteB (nameStr 1) 1 ep ol ls 0 0 0 false 0 [] l10 (nameStr 1).size ++ r) = noteGetK 1 ⟨ep, ol, ls, 0, 0, 0, false, 0, [], l10, 0, (r, false)⟩ := by
  have g := fit_so f
  rw [bytes_1]
  simp only [List.append_assoc, List.nil_append]
  rw [getOpen, rd1_app (n := 1) _ (by decide) (by decide), rdN_app]
  show noteGetK 1 (nstep 68 (nstep 76 (nstep 80 (nstep 69 ⟨0, 0, 0, 0, 0, 0, false, 0, [], [], 0, _⟩)))) = _
  rw [nstep_E, rd4_app _ g.1 g.2.1, rdN_app, nstep_P, rd4_app _ g.2.2.1 g.2.2.2.1, rdN_app, nstep_L, rd8_app _ g.2.2.2.2.1 g.2.2.2.2.2.1, rdN_app, nstep_D, rdT_app (by omega), tx_app (by omega), rdNT_app (by omega)]
theorem less_1 {ep ol ls ti o st : Int} {un : Bool} {co : Int} {l9 l10 : List Int} (f : noteFit ep ol ls 0 0 = true) (s0 : 0 ≤ st) (s1 : st < 16) (c0 : 0 ≤ co) (c1 : co ≤ 255) (t9 : l9.length ≤ 32) (t10 : l10.length ≤ 255) : noteGet (noteB (nameStr 1) 1 ep ol ls 0 0 0 false 0 [] l10 (nameStr 1).size).dropLast = NERR := by
  have g := fit_so f
  rw [bytes_1]
  rw [show ([] ++ bigE 1 1 ++ bigE ep 4 ++ bigE ol 4 ++ bigE ls 8 ++ (bigE (l10.length : Int) 1 ++ l10) : List Int) = ([] ++ bigE 1 1 ++ bigE ep 4 ++ bigE ol 4 ++ bigE ls 8) ++ (bigE (l10.length : Int) 1 ++ l10) from by simp only [List.append_assoc]]
  rw [drop_text]
  simp only [List.append_assoc, List.nil_append]
  rw [getOpen, rd1_app (n := 1) _ (by decide) (by decide), rdN_app]
  show noteGetK 1 (nstep 68 (nstep 76 (nstep 80 (nstep 69 ⟨0, 0, 0, 0, 0, 0, false, 0, [], [], 0, _⟩)))) = _
  rw [nstep_E, rd4_app _ g.1 g.2.1, rdN_app, nstep_P, rd4_app _ g.2.2.1 g.2.2.2.1, rdN_app, nstep_L, rd8_app _ g.2.2.2.2.1 g.2.2.2.2.2.1, rdN_app, nstep_D]
  exact bad_fin (by rw [done_short (txN_short (by omega))]; decide)
theorem back_of_1 {b : List Int} (hb : bytesIn b) (hk : rd1 (b, false) = 1) {x : NS} (hx : nread (nameStr 1) (rdN 1 (b, false)) (nameStr 1).size = x) (hs : x.s = ([], false)) (hu : x.und ≤ 1) : noteFit x.ep x.ol x.ls x.ti x.o = true ∧ noteB (nameStr 1) 1 x.ep x.ol x.ls x.ti x.o x.st x.un x.co x.l9 x.l10 (nameStr 1).size = b ∧ bytesIn x.l9 ∧ bytesIn x.l10 := by
  have nil : bytesIn [] := fun x hx => absurd hx (by simp)
  generalize hs0 : rdN 1 (b, false) = s0 at hx
  have hb0 : bytesIn s0.1 := by rw [← hs0]; exact bytes_rdN hb 1
  replace hx : nstep 68 (nstep 76 (nstep 80 (nstep 69 ⟨0, 0, 0, 0, 0, 0, false, 0, [], [], 0, s0⟩))) = x := hx
  rw [nstep_E, nstep_P, nstep_L, nstep_D] at hx
  generalize hs1 : rdN 4 s0 = s1 at hx
  have hb1 : bytesIn s1.1 := by rw [← hs1]; exact bytes_rdN hb0 _
  generalize hs2 : rdN 4 s1 = s2 at hx
  have hb2 : bytesIn s2.1 := by rw [← hs2]; exact bytes_rdN hb1 _
  generalize hs3 : rdN 8 s2 = s3 at hx
  have hb3 : bytesIn s3.1 := by rw [← hs3]; exact bytes_rdN hb2 _
  generalize hs4 : rdN (txN s3) s3 = s4 at hx
  have hb4 : bytesIn s4.1 := by rw [← hs4]; exact bytes_rdN hb3 _
  subst hx
  dsimp only at hs hu ⊢
  have q4 : s4.2 = false := by rw [hs]
  rw [← hs4] at q4
  obtain ⟨x4, y4, z4⟩ := back_T q4 hb3
  have q3 := long_n q4
  rw [hs4] at x4
  rw [← hs3] at q3
  obtain ⟨x3, y3, z3⟩ := back_8 q3 hb2
  have q2 := long_n q3
  rw [hs3] at x3
  rw [← hs2] at q2
  obtain ⟨x2, y2, z2⟩ := back_4 q2 hb1
  have q1 := long_n q2
  rw [hs2] at x2
  rw [← hs1] at q1
  obtain ⟨x1, y1, z1⟩ := back_4 q1 hb0
  have q0 := long_n q1
  rw [hs1] at x1
  rw [← hs0] at q0
  obtain ⟨x0, _, _⟩ := back_1 (s := (b, false)) q0 hb
  rw [hs0, hk] at x0
  rw [hs] at x4
  refine ⟨?_, ?_, nil, z4⟩
  · simp only [noteFit, Bool.and_eq_true, decide_eq_true_eq]; omega
  · rw [bytes_1]
    have e : b = _ := x0
    rw [x1, x2, x3, x4] at e
    rw [e]
    simp only [List.append_assoc, List.nil_append, List.append_nil]
theorem zero_2 {ep ol ls ti o st : Int} {un : Bool} {co : Int} {l9 l10 : List Int} (h : noteBad 2 ep ol ls ti o st un co l9.length l10.length = false) (f : noteFit ep ol ls ti o = true) : ol = 0 ∧ ti = 0 ∧ o = 0 ∧ st = 0 ∧ un = false ∧ co = 0 ∧ l9 = [] ∧ l10 = [] := by
  have g := fit_so f
  unfold noteBad at h
  simp only [Bool.or_eq_false_iff] at h
  have hm := h.1.1.2
  simp [moreB, show has 2 69 = true from by decide, show has 2 80 = false from by decide, show has 2 76 = true from by decide, show has 2 84 = false from by decide, show has 2 79 = false from by decide, show has 2 83 = false from by decide, show has 2 85 = false from by decide, show has 2 67 = false from by decide, show has 2 75 = false from by decide, show has 2 68 = false from by decide] at hm
  refine ⟨?_, ?_, ?_, ?_, ?_, ?_, ?_, ?_⟩
  · omega
  · omega
  · omega
  · simp_all
  · simp_all
  · simp_all
  · simp_all
  · simp_all
theorem bytes_2 {ep : Int} {ls : Int} : noteB (nameStr 2) 2 ep 0 ls 0 0 0 false 0 [] [] (nameStr 2).size = [] ++ bigE 2 1 ++ bigE ep 4 ++ bigE ls 8 := rfl
theorem more_2 {ep ol ls ti o st : Int} {un : Bool} {co : Int} {l9 l10 : List Int} (f : noteFit ep 0 ls 0 0 = true) (s0 : 0 ≤ st) (s1 : st < 16) (c0 : 0 ≤ co) (c1 : co ≤ 255) (t9 : l9.length ≤ 32) (t10 : l10.length ≤ 255) (r : List Int) : noteGet (noteB (nameStr 2) 2 ep 0 ls 0 0 0 false 0 [] [] (nameStr 2).size ++ r) = noteGetK 2 ⟨ep, 0, ls, 0, 0, 0, false, 0, [], [], 0, (r, false)⟩ := by
  have g := fit_so f
  rw [bytes_2]
  simp only [List.append_assoc, List.nil_append]
  rw [getOpen, rd1_app (n := 2) _ (by decide) (by decide), rdN_app]
  show noteGetK 2 (nstep 76 (nstep 69 ⟨0, 0, 0, 0, 0, 0, false, 0, [], [], 0, _⟩)) = _
  rw [nstep_E, rd4_app _ g.1 g.2.1, rdN_app, nstep_L, rd8_app _ g.2.2.2.2.1 g.2.2.2.2.2.1, rdN_app]
theorem less_2 {ep ol ls ti o st : Int} {un : Bool} {co : Int} {l9 l10 : List Int} (f : noteFit ep 0 ls 0 0 = true) (s0 : 0 ≤ st) (s1 : st < 16) (c0 : 0 ≤ co) (c1 : co ≤ 255) (t9 : l9.length ≤ 32) (t10 : l10.length ≤ 255) : noteGet (noteB (nameStr 2) 2 ep 0 ls 0 0 0 false 0 [] [] (nameStr 2).size).dropLast = NERR := by
  have g := fit_so f
  rw [bytes_2]
  rw [drop_last]
  simp only [List.append_assoc, List.nil_append]
  rw [getOpen, rd1_app (n := 2) _ (by decide) (by decide), rdN_app]
  show noteGetK 2 (nstep 76 (nstep 69 ⟨0, 0, 0, 0, 0, 0, false, 0, [], [], 0, _⟩)) = _
  rw [nstep_E, rd4_app _ g.1 g.2.1, rdN_app, nstep_L]
  exact bad_fin (by rw [done_short (short_n _ 7)]; decide)
theorem back_of_2 {b : List Int} (hb : bytesIn b) (hk : rd1 (b, false) = 2) {x : NS} (hx : nread (nameStr 2) (rdN 1 (b, false)) (nameStr 2).size = x) (hs : x.s = ([], false)) (hu : x.und ≤ 1) : noteFit x.ep x.ol x.ls x.ti x.o = true ∧ noteB (nameStr 2) 2 x.ep x.ol x.ls x.ti x.o x.st x.un x.co x.l9 x.l10 (nameStr 2).size = b ∧ bytesIn x.l9 ∧ bytesIn x.l10 := by
  have nil : bytesIn [] := fun x hx => absurd hx (by simp)
  generalize hs0 : rdN 1 (b, false) = s0 at hx
  have hb0 : bytesIn s0.1 := by rw [← hs0]; exact bytes_rdN hb 1
  replace hx : nstep 76 (nstep 69 ⟨0, 0, 0, 0, 0, 0, false, 0, [], [], 0, s0⟩) = x := hx
  rw [nstep_E, nstep_L] at hx
  generalize hs1 : rdN 4 s0 = s1 at hx
  have hb1 : bytesIn s1.1 := by rw [← hs1]; exact bytes_rdN hb0 _
  generalize hs2 : rdN 8 s1 = s2 at hx
  have hb2 : bytesIn s2.1 := by rw [← hs2]; exact bytes_rdN hb1 _
  subst hx
  dsimp only at hs hu ⊢
  have q2 : s2.2 = false := by rw [hs]
  rw [← hs2] at q2
  obtain ⟨x2, y2, z2⟩ := back_8 q2 hb1
  have q1 := long_n q2
  rw [hs2] at x2
  rw [← hs1] at q1
  obtain ⟨x1, y1, z1⟩ := back_4 q1 hb0
  have q0 := long_n q1
  rw [hs1] at x1
  rw [← hs0] at q0
  obtain ⟨x0, _, _⟩ := back_1 (s := (b, false)) q0 hb
  rw [hs0, hk] at x0
  rw [hs] at x2
  refine ⟨?_, ?_, nil, nil⟩
  · simp only [noteFit, Bool.and_eq_true, decide_eq_true_eq]; omega
  · rw [bytes_2]
    have e : b = _ := x0
    rw [x1, x2] at e
    rw [e]
    simp only [List.append_assoc, List.nil_append, List.append_nil]
theorem zero_3 {ep ol ls ti o st : Int} {un : Bool} {co : Int} {l9 l10 : List Int} (h : noteBad 3 ep ol ls ti o st un co l9.length l10.length = false) (f : noteFit ep ol ls ti o = true) : ol = 0 ∧ ti = 0 ∧ o = 0 ∧ st = 0 ∧ un = false ∧ co = 0 ∧ l9 = [] ∧ l10 = [] := by
  have g := fit_so f
  unfold noteBad at h
  simp only [Bool.or_eq_false_iff] at h
  have hm := h.1.1.2
  simp [moreB, show has 3 69 = true from by decide, show has 3 80 = false from by decide, show has 3 76 = true from by decide, show has 3 84 = false from by decide, show has 3 79 = false from by decide, show has 3 83 = false from by decide, show has 3 85 = false from by decide, show has 3 67 = false from by decide, show has 3 75 = false from by decide, show has 3 68 = false from by decide] at hm
  refine ⟨?_, ?_, ?_, ?_, ?_, ?_, ?_, ?_⟩
  · omega
  · omega
  · omega
  · simp_all
  · simp_all
  · simp_all
  · simp_all
  · simp_all
theorem bytes_3 {ep : Int} {ls : Int} : noteB (nameStr 3) 3 ep 0 ls 0 0 0 false 0 [] [] (nameStr 3).size = [] ++ bigE 3 1 ++ bigE ep 4 ++ bigE ls 8 := rfl
theorem more_3 {ep ol ls ti o st : Int} {un : Bool} {co : Int} {l9 l10 : List Int} (f : noteFit ep 0 ls 0 0 = true) (s0 : 0 ≤ st) (s1 : st < 16) (c0 : 0 ≤ co) (c1 : co ≤ 255) (t9 : l9.length ≤ 32) (t10 : l10.length ≤ 255) (r : List Int) : noteGet (noteB (nameStr 3) 3 ep 0 ls 0 0 0 false 0 [] [] (nameStr 3).size ++ r) = noteGetK 3 ⟨ep, 0, ls, 0, 0, 0, false, 0, [], [], 0, (r, false)⟩ := by
  have g := fit_so f
  rw [bytes_3]
  simp only [List.append_assoc, List.nil_append]
  rw [getOpen, rd1_app (n := 3) _ (by decide) (by decide), rdN_app]
  show noteGetK 3 (nstep 76 (nstep 69 ⟨0, 0, 0, 0, 0, 0, false, 0, [], [], 0, _⟩)) = _
  rw [nstep_E, rd4_app _ g.1 g.2.1, rdN_app, nstep_L, rd8_app _ g.2.2.2.2.1 g.2.2.2.2.2.1, rdN_app]
theorem less_3 {ep ol ls ti o st : Int} {un : Bool} {co : Int} {l9 l10 : List Int} (f : noteFit ep 0 ls 0 0 = true) (s0 : 0 ≤ st) (s1 : st < 16) (c0 : 0 ≤ co) (c1 : co ≤ 255) (t9 : l9.length ≤ 32) (t10 : l10.length ≤ 255) : noteGet (noteB (nameStr 3) 3 ep 0 ls 0 0 0 false 0 [] [] (nameStr 3).size).dropLast = NERR := by
  have g := fit_so f
  rw [bytes_3]
  rw [drop_last]
  simp only [List.append_assoc, List.nil_append]
  rw [getOpen, rd1_app (n := 3) _ (by decide) (by decide), rdN_app]
  show noteGetK 3 (nstep 76 (nstep 69 ⟨0, 0, 0, 0, 0, 0, false, 0, [], [], 0, _⟩)) = _
  rw [nstep_E, rd4_app _ g.1 g.2.1, rdN_app, nstep_L]
  exact bad_fin (by rw [done_short (short_n _ 7)]; decide)
theorem back_of_3 {b : List Int} (hb : bytesIn b) (hk : rd1 (b, false) = 3) {x : NS} (hx : nread (nameStr 3) (rdN 1 (b, false)) (nameStr 3).size = x) (hs : x.s = ([], false)) (hu : x.und ≤ 1) : noteFit x.ep x.ol x.ls x.ti x.o = true ∧ noteB (nameStr 3) 3 x.ep x.ol x.ls x.ti x.o x.st x.un x.co x.l9 x.l10 (nameStr 3).size = b ∧ bytesIn x.l9 ∧ bytesIn x.l10 := by
  have nil : bytesIn [] := fun x hx => absurd hx (by simp)
  generalize hs0 : rdN 1 (b, false) = s0 at hx
  have hb0 : bytesIn s0.1 := by rw [← hs0]; exact bytes_rdN hb 1
  replace hx : nstep 76 (nstep 69 ⟨0, 0, 0, 0, 0, 0, false, 0, [], [], 0, s0⟩) = x := hx
  rw [nstep_E, nstep_L] at hx
  generalize hs1 : rdN 4 s0 = s1 at hx
  have hb1 : bytesIn s1.1 := by rw [← hs1]; exact bytes_rdN hb0 _
  generalize hs2 : rdN 8 s1 = s2 at hx
  have hb2 : bytesIn s2.1 := by rw [← hs2]; exact bytes_rdN hb1 _
  subst hx
  dsimp only at hs hu ⊢
  have q2 : s2.2 = false := by rw [hs]
  rw [← hs2] at q2
  obtain ⟨x2, y2, z2⟩ := back_8 q2 hb1
  have q1 := long_n q2
  rw [hs2] at x2
  rw [← hs1] at q1
  obtain ⟨x1, y1, z1⟩ := back_4 q1 hb0
  have q0 := long_n q1
  rw [hs1] at x1
  rw [← hs0] at q0
  obtain ⟨x0, _, _⟩ := back_1 (s := (b, false)) q0 hb
  rw [hs0, hk] at x0
  rw [hs] at x2
  refine ⟨?_, ?_, nil, nil⟩
  · simp only [noteFit, Bool.and_eq_true, decide_eq_true_eq]; omega
  · rw [bytes_3]
    have e : b = _ := x0
    rw [x1, x2] at e
    rw [e]
    simp only [List.append_assoc, List.nil_append, List.append_nil]
theorem zero_4 {ep ol ls ti o st : Int} {un : Bool} {co : Int} {l9 l10 : List Int} (h : noteBad 4 ep ol ls ti o st un co l9.length l10.length = false) (f : noteFit ep ol ls ti o = true) : ol = 0 ∧ ls = 0 ∧ ti = 0 ∧ o = 0 ∧ st = 0 ∧ un = false ∧ l9 = [] ∧ l10 = [] := by
  have g := fit_so f
  unfold noteBad at h
  simp only [Bool.or_eq_false_iff] at h
  have hm := h.1.1.2
  simp [moreB, show has 4 69 = true from by decide, show has 4 80 = false from by decide, show has 4 76 = false from by decide, show has 4 84 = false from by decide, show has 4 79 = false from by decide, show has 4 83 = false from by decide, show has 4 85 = false from by decide, show has 4 67 = true from by decide, show has 4 75 = false from by decide, show has 4 68 = false from by decide] at hm
  refine ⟨?_, ?_, ?_, ?_, ?_, ?_, ?_, ?_⟩
  · omega
  · omega
  · omega
  · omega
  · simp_all
  · simp_all
  · simp_all
  · simp_all
theorem bytes_4 {ep : Int} {co : Int} : noteB (nameStr 4) 4 ep 0 0 0 0 0 false co [] [] (nameStr 4).size = [] ++ bigE 4 1 ++ bigE ep 4 ++ bigE co 1 := rfl
theorem more_4 {ep ol ls ti o st : Int} {un : Bool} {co : Int} {l9 l10 : List Int} (f : noteFit ep 0 0 0 0 = true) (s0 : 0 ≤ st) (s1 : st < 16) (c0 : 0 ≤ co) (c1 : co ≤ 255) (t9 : l9.length ≤ 32) (t10 : l10.length ≤ 255) (r : List Int) : noteGet (noteB (nameStr 4) 4 ep 0 0 0 0 0 false co [] [] (nameStr 4).size ++ r) = noteGetK 4 ⟨ep, 0, 0, 0, 0, 0, false, co, [], [], 0, (r, false)⟩ := by
  have g := fit_so f
  rw [bytes_4]
  simp only [List.append_assoc, List.nil_append]
  rw [getOpen, rd1_app (n := 4) _ (by decide) (by decide), rdN_app]
  show noteGetK 4 (nstep 67 (nstep 69 ⟨0, 0, 0, 0, 0, 0, false, 0, [], [], 0, _⟩)) = _
  rw [nstep_E, rd4_app _ g.1 g.2.1, rdN_app, nstep_C, rd1_app _ c0 (by omega), rdN_app]
theorem less_4 {ep ol ls ti o st : Int} {un : Bool} {co : Int} {l9 l10 : List Int} (f : noteFit ep 0 0 0 0 = true) (s0 : 0 ≤ st) (s1 : st < 16) (c0 : 0 ≤ co) (c1 : co ≤ 255) (t9 : l9.length ≤ 32) (t10 : l10.length ≤ 255) : noteGet (noteB (nameStr 4) 4 ep 0 0 0 0 0 false co [] [] (nameStr 4).size).dropLast = NERR := by
  have g := fit_so f
  rw [bytes_4]
  rw [drop_last]
  simp only [List.append_assoc, List.nil_append]
  rw [getOpen, rd1_app (n := 4) _ (by decide) (by decide), rdN_app]
  show noteGetK 4 (nstep 67 (nstep 69 ⟨0, 0, 0, 0, 0, 0, false, 0, [], [], 0, _⟩)) = _
  rw [nstep_E, rd4_app _ g.1 g.2.1, rdN_app, nstep_C]
  exact bad_fin (by rw [done_short (short_n _ 0)]; decide)
theorem back_of_4 {b : List Int} (hb : bytesIn b) (hk : rd1 (b, false) = 4) {x : NS} (hx : nread (nameStr 4) (rdN 1 (b, false)) (nameStr 4).size = x) (hs : x.s = ([], false)) (hu : x.und ≤ 1) : noteFit x.ep x.ol x.ls x.ti x.o = true ∧ noteB (nameStr 4) 4 x.ep x.ol x.ls x.ti x.o x.st x.un x.co x.l9 x.l10 (nameStr 4).size = b ∧ bytesIn x.l9 ∧ bytesIn x.l10 := by
  have nil : bytesIn [] := fun x hx => absurd hx (by simp)
  generalize hs0 : rdN 1 (b, false) = s0 at hx
  have hb0 : bytesIn s0.1 := by rw [← hs0]; exact bytes_rdN hb 1
  replace hx : nstep 67 (nstep 69 ⟨0, 0, 0, 0, 0, 0, false, 0, [], [], 0, s0⟩) = x := hx
  rw [nstep_E, nstep_C] at hx
  generalize hs1 : rdN 4 s0 = s1 at hx
  have hb1 : bytesIn s1.1 := by rw [← hs1]; exact bytes_rdN hb0 _
  generalize hs2 : rdN 1 s1 = s2 at hx
  have hb2 : bytesIn s2.1 := by rw [← hs2]; exact bytes_rdN hb1 _
  subst hx
  dsimp only at hs hu ⊢
  have q2 : s2.2 = false := by rw [hs]
  rw [← hs2] at q2
  obtain ⟨x2, y2, z2⟩ := back_1 q2 hb1
  have q1 := long_n q2
  rw [hs2] at x2
  rw [← hs1] at q1
  obtain ⟨x1, y1, z1⟩ := back_4 q1 hb0
  have q0 := long_n q1
  rw [hs1] at x1
  rw [← hs0] at q0
  obtain ⟨x0, _, _⟩ := back_1 (s := (b, false)) q0 hb
  rw [hs0, hk] at x0
  rw [hs] at x2
  refine ⟨?_, ?_, nil, nil⟩
  · simp only [noteFit, Bool.and_eq_true, decide_eq_true_eq]; omega
  · rw [bytes_4]
    have e : b = _ := x0
    rw [x1, x2] at e
    rw [e]
    simp only [List.append_assoc, List.nil_append, List.append_nil]
theorem zero_5 {ep ol ls ti o st : Int} {un : Bool} {co : Int} {l9 l10 : List Int} (h : noteBad 5 ep ol ls ti o st un co l9.length l10.length = false) (f : noteFit ep ol ls ti o = true) : ol = 0 ∧ ls = 0 ∧ o = 0 ∧ st = 0 ∧ un = false ∧ l9 = [] ∧ l10 = [] := by
  have g := fit_so f
  unfold noteBad at h
  simp only [Bool.or_eq_false_iff] at h
  have hm := h.1.1.2
  simp [moreB, show has 5 69 = true from by decide, show has 5 80 = false from by decide, show has 5 76 = false from by decide, show has 5 84 = true from by decide, show has 5 79 = false from by decide, show has 5 83 = false from by decide, show has 5 85 = false from by decide, show has 5 67 = true from by decide, show has 5 75 = false from by decide, show has 5 68 = false from by decide] at hm
  refine ⟨?_, ?_, ?_, ?_, ?_, ?_, ?_⟩
  · omega
  · omega
  · omega
  · simp_all
  · simp_all
  · simp_all
  · simp_all
theorem bytes_5 {ep : Int} {ti : Int} {co : Int} : noteB (nameStr 5) 5 ep 0 0 ti 0 0 false co [] [] (nameStr 5).size = [] ++ bigE 5 1 ++ bigE ep 4 ++ bigE ti 8 ++ bigE co 1 := rfl
theorem more_5 {ep ol ls ti o st : Int} {un : Bool} {co : Int} {l9 l10 : List Int} (f : noteFit ep 0 0 ti 0 = true) (s0 : 0 ≤ st) (s1 : st < 16) (c0 : 0 ≤ co) (c1 : co ≤ 255) (t9 : l9.length ≤ 32) (t10 : l10.length ≤ 255) (r : List Int) : noteGet (noteB (nameStr 5) 5 ep 0 0 ti 0 0 false co [] [] (nameStr 5).size ++ r) = noteGetK 5 ⟨ep, 0, 0, ti, 0, 0, false, co, [], [], 0, (r, false)⟩ := by
  have g := fit_so f
  rw [bytes_5]
  simp only [List.append_assoc, List.nil_append]
  rw [getOpen, rd1_app (n := 5) _ (by decide) (by decide), rdN_app]
  show noteGetK 5 (nstep 67 (nstep 84 (nstep 69 ⟨0, 0, 0, 0, 0, 0, false, 0, [], [], 0, _⟩))) = _
  rw [nstep_E, rd4_app _ g.1 g.2.1, rdN_app, nstep_T, rd8_app _ g.2.2.2.2.2.2.1 g.2.2.2.2.2.2.2.1, rdN_app, nstep_C, rd1_app _ c0 (by omega), rdN_app]
theorem less_5 {ep ol ls ti o st : Int} {un : Bool} {co : Int} {l9 l10 : List Int} (f : noteFit ep 0 0 ti 0 = true) (s0 : 0 ≤ st) (s1 : st < 16) (c0 : 0 ≤ co) (c1 : co ≤ 255) (t9 : l9.length ≤ 32) (t10 : l10.length ≤ 255) : noteGet (noteB (nameStr 5) 5 ep 0 0 ti 0 0 false co [] [] (nameStr 5).size).dropLast = NERR := by
  have g := fit_so f
  rw [bytes_5]
  rw [drop_last]
  simp only [List.append_assoc, List.nil_append]
  rw [getOpen, rd1_app (n := 5) _ (by decide) (by decide), rdN_app]
  show noteGetK 5 (nstep 67 (nstep 84 (nstep 69 ⟨0, 0, 0, 0, 0, 0, false, 0, [], [], 0, _⟩))) = _
  rw [nstep_E, rd4_app _ g.1 g.2.1, rdN_app, nstep_T, rd8_app _ g.2.2.2.2.2.2.1 g.2.2.2.2.2.2.2.1, rdN_app, nstep_C]
  exact bad_fin (by rw [done_short (short_n _ 0)]; decide)
theorem back_of_5 {b : List Int} (hb : bytesIn b) (hk : rd1 (b, false) = 5) {x : NS} (hx : nread (nameStr 5) (rdN 1 (b, false)) (nameStr 5).size = x) (hs : x.s = ([], false)) (hu : x.und ≤ 1) : noteFit x.ep x.ol x.ls x.ti x.o = true ∧ noteB (nameStr 5) 5 x.ep x.ol x.ls x.ti x.o x.st x.un x.co x.l9 x.l10 (nameStr 5).size = b ∧ bytesIn x.l9 ∧ bytesIn x.l10 := by
  have nil : bytesIn [] := fun x hx => absurd hx (by simp)
  generalize hs0 : rdN 1 (b, false) = s0 at hx
  have hb0 : bytesIn s0.1 := by rw [← hs0]; exact bytes_rdN hb 1
  replace hx : nstep 67 (nstep 84 (nstep 69 ⟨0, 0, 0, 0, 0, 0, false, 0, [], [], 0, s0⟩)) = x := hx
  rw [nstep_E, nstep_T, nstep_C] at hx
  generalize hs1 : rdN 4 s0 = s1 at hx
  have hb1 : bytesIn s1.1 := by rw [← hs1]; exact bytes_rdN hb0 _
  generalize hs2 : rdN 8 s1 = s2 at hx
  have hb2 : bytesIn s2.1 := by rw [← hs2]; exact bytes_rdN hb1 _
  generalize hs3 : rdN 1 s2 = s3 at hx
  have hb3 : bytesIn s3.1 := by rw [← hs3]; exact bytes_rdN hb2 _
  subst hx
  dsimp only at hs hu ⊢
  have q3 : s3.2 = false := by rw [hs]
  rw [← hs3] at q3
  obtain ⟨x3, y3, z3⟩ := back_1 q3 hb2
  have q2 := long_n q3
  rw [hs3] at x3
  rw [← hs2] at q2
  obtain ⟨x2, y2, z2⟩ := back_8 q2 hb1
  have q1 := long_n q2
  rw [hs2] at x2
  rw [← hs1] at q1
  obtain ⟨x1, y1, z1⟩ := back_4 q1 hb0
  have q0 := long_n q1
  rw [hs1] at x1
  rw [← hs0] at q0
  obtain ⟨x0, _, _⟩ := back_1 (s := (b, false)) q0 hb
  rw [hs0, hk] at x0
  rw [hs] at x3
  refine ⟨?_, ?_, nil, nil⟩
  · simp only [noteFit, Bool.and_eq_true, decide_eq_true_eq]; omega
  · rw [bytes_5]
    have e : b = _ := x0
    rw [x1, x2, x3] at e
    rw [e]
    simp only [List.append_assoc, List.nil_append, List.append_nil]
theorem zero_6 {ep ol ls ti o st : Int} {un : Bool} {co : Int} {l9 l10 : List Int} (h : noteBad 6 ep ol ls ti o st un co l9.length l10.length = false) (f : noteFit ep ol ls ti o = true) : ol = 0 ∧ ls = 0 ∧ ti = 0 ∧ o = 0 ∧ st = 0 ∧ un = false ∧ l9 = [] ∧ l10 = [] := by
  have g := fit_so f
  unfold noteBad at h
  simp only [Bool.or_eq_false_iff] at h
  have hm := h.1.1.2
  simp [moreB, show has 6 69 = true from by decide, show has 6 80 = false from by decide, show has 6 76 = false from by decide, show has 6 84 = false from by decide, show has 6 79 = false from by decide, show has 6 83 = false from by decide, show has 6 85 = false from by decide, show has 6 67 = true from by decide, show has 6 75 = false from by decide, show has 6 68 = false from by decide] at hm
  refine ⟨?_, ?_, ?_, ?_, ?_, ?_, ?_, ?_⟩
  · omega
  · omega
  · omega
  · omega
  · simp_all
  · simp_all
  · simp_all
  · simp_all
theorem bytes_6 {ep : Int} {co : Int} : noteB (nameStr 6) 6 ep 0 0 0 0 0 false co [] [] (nameStr 6).size = [] ++ bigE 6 1 ++ bigE ep 4 ++ bigE co 1 := rfl
theorem more_6 {ep ol ls ti o st : Int} {un : Bool} {co : Int} {l9 l10 : List Int} (f : noteFit ep 0 0 0 0 = true) (s0 : 0 ≤ st) (s1 : st < 16) (c0 : 0 ≤ co) (c1 : co ≤ 255) (t9 : l9.length ≤ 32) (t10 : l10.length ≤ 255) (r : List Int) : noteGet (noteB (nameStr 6) 6 ep 0 0 0 0 0 false co [] [] (nameStr 6).size ++ r) = noteGetK 6 ⟨ep, 0, 0, 0, 0, 0, false, co, [], [], 0, (r, false)⟩ := by
  have g := fit_so f
  rw [bytes_6]
  simp only [List.append_assoc, List.nil_append]
  rw [getOpen, rd1_app (n := 6) _ (by decide) (by decide), rdN_app]
  show noteGetK 6 (nstep 67 (nstep 69 ⟨0, 0, 0, 0, 0, 0, false, 0, [], [], 0, _⟩)) = _
  rw [nstep_E, rd4_app _ g.1 g.2.1, rdN_app, nstep_C, rd1_app _ c0 (by omega), rdN_app]
theorem less_6 {ep ol ls ti o st : Int} {un : Bool} {co : Int} {l9 l10 : List Int} (f : noteFit ep 0 0 0 0 = true) (s0 : 0 ≤ st) (s1 : st < 16) (c0 : 0 ≤ co) (c1 : co ≤ 255) (t9 : l9.length ≤ 32) (t10 : l10.length ≤ 255) : noteGet (noteB (nameStr 6) 6 ep 0 0 0 0 0 false co [] [] (nameStr 6).size).dropLast = NERR := by
  have g := fit_so f
  rw [bytes_6]
  rw [drop_last]
  simp only [List.append_assoc, List.nil_append]
  rw [getOpen, rd1_app (n := 6) _ (by decide) (by decide), rdN_app]
  show noteGetK 6 (nstep 67 (nstep 69 ⟨0, 0, 0, 0, 0, 0, false, 0, [], [], 0, _⟩)) = _
  rw [nstep_E, rd4_app _ g.1 g.2.1, rdN_app, nstep_C]
  exact bad_fin (by rw [done_short (short_n _ 0)]; decide)
theorem back_of_6 {b : List Int} (hb : bytesIn b) (hk : rd1 (b, false) = 6) {x : NS} (hx : nread (nameStr 6) (rdN 1 (b, false)) (nameStr 6).size = x) (hs : x.s = ([], false)) (hu : x.und ≤ 1) : noteFit x.ep x.ol x.ls x.ti x.o = true ∧ noteB (nameStr 6) 6 x.ep x.ol x.ls x.ti x.o x.st x.un x.co x.l9 x.l10 (nameStr 6).size = b ∧ bytesIn x.l9 ∧ bytesIn x.l10 := by
  have nil : bytesIn [] := fun x hx => absurd hx (by simp)
  generalize hs0 : rdN 1 (b, false) = s0 at hx
  have hb0 : bytesIn s0.1 := by rw [← hs0]; exact bytes_rdN hb 1
  replace hx : nstep 67 (nstep 69 ⟨0, 0, 0, 0, 0, 0, false, 0, [], [], 0, s0⟩) = x := hx
  rw [nstep_E, nstep_C] at hx
  generalize hs1 : rdN 4 s0 = s1 at hx
  have hb1 : bytesIn s1.1 := by rw [← hs1]; exact bytes_rdN hb0 _
  generalize hs2 : rdN 1 s1 = s2 at hx
  have hb2 : bytesIn s2.1 := by rw [← hs2]; exact bytes_rdN hb1 _
  subst hx
  dsimp only at hs hu ⊢
  have q2 : s2.2 = false := by rw [hs]
  rw [← hs2] at q2
  obtain ⟨x2, y2, z2⟩ := back_1 q2 hb1
  have q1 := long_n q2
  rw [hs2] at x2
  rw [← hs1] at q1
  obtain ⟨x1, y1, z1⟩ := back_4 q1 hb0
  have q0 := long_n q1
  rw [hs1] at x1
  rw [← hs0] at q0
  obtain ⟨x0, _, _⟩ := back_1 (s := (b, false)) q0 hb
  rw [hs0, hk] at x0
  rw [hs] at x2
  refine ⟨?_, ?_, nil, nil⟩
  · simp only [noteFit, Bool.and_eq_true, decide_eq_true_eq]; omega
  · rw [bytes_6]
    have e : b = _ := x0
    rw [x1, x2] at e
    rw [e]
    simp only [List.append_assoc, List.nil_append, List.append_nil]
theorem zero_7 {ep ol ls ti o st : Int} {un : Bool} {co : Int} {l9 l10 : List Int} (h : noteBad 7 ep ol ls ti o st un co l9.length l10.length = false) (f : noteFit ep ol ls ti o = true) : ol = 0 ∧ ls = 0 ∧ ti = 0 ∧ co = 0 ∧ l9 = [] := by
  have g := fit_so f
  unfold noteBad at h
  simp only [Bool.or_eq_false_iff] at h
  have hm := h.1.1.2
  simp [moreB, show has 7 69 = true from by decide, show has 7 80 = false from by decide, show has 7 76 = false from by decide, show has 7 84 = false from by decide, show has 7 79 = true from by decide, show has 7 83 = true from by decide, show has 7 85 = true from by decide, show has 7 67 = false from by decide, show has 7 75 = false from by decide, show has 7 68 = true from by decide] at hm
  refine ⟨?_, ?_, ?_, ?_, ?_⟩
  · omega
  · omega
  · omega
  · simp_all
  · simp_all
theorem bytes_7 {ep : Int} {o : Int} {st : Int} {un : Bool} {l10 : List Int} : noteB (nameStr 7) 7 ep 0 0 0 o st un 0 [] l10 (nameStr 7).size = [] ++ bigE 7 1 ++ bigE ep 4 ++ bigE o 4 ++ bigE st 1 ++ bigE (bitI un) 1 ++ (bigE (l10.length : Int) 1 ++ l10) := rfl
theorem more_7 {ep ol ls ti o st : Int} {un : Bool} {co : Int} {l9 l10 : List Int} (f : noteFit ep 0 0 0 o = true) (s0 : 0 ≤ st) (s1 : st < 16) (c0 : 0 ≤ co) (c1 : co ≤ 255) (t9 : l9.length ≤ 32) (t10 : l10.length ≤ 255) (r : List Int) : noteGet (noteB (nameStr 7) 7 ep 0 0 0 o st un 0 [] l10 (nameStr 7).size ++ r) = noteGetK 7 ⟨ep, 0, 0, 0, o, st, un, 0, [], l10, bitI un, (r, false)⟩ := by
  have g := fit_so f
  rw [bytes_7]
  simp only [List.append_assoc, List.nil_append]
  rw [getOpen, rd1_app (n := 7) _ (by decide) (by decide), rdN_app]
  show noteGetK 7 (nstep 68 (nstep 85 (nstep 83 (nstep 79 (nstep 69 ⟨0, 0, 0, 0, 0, 0, false, 0, [], [], 0, _⟩))))) = _
  rw [nstep_E, rd4_app _ g.1 g.2.1, rdN_app, nstep_O, rd4_app _ g.2.2.2.2.2.2.2.2.1 g.2.2.2.2.2.2.2.2.2, rdN_app, nstep_S, rd1_app _ s0 (by omega), rdN_app, nstep_U, rd1_app _ (bitI_le un).1 (by have := (bitI_le un).2; omega), rdN_app, bitI_eq, nstep_D, rdT_app (by omega), tx_app (by omega), rdNT_app (by omega)]
theorem less_7 {ep ol ls ti o st : Int} {un : Bool} {co : Int} {l9 l10 : List Int} (f : noteFit ep 0 0 0 o = true) (s0 : 0 ≤ st) (s1 : st < 16) (c0 : 0 ≤ co) (c1 : co ≤ 255) (t9 : l9.length ≤ 32) (t10 : l10.length ≤ 255) : noteGet (noteB (nameStr 7) 7 ep 0 0 0 o st un 0 [] l10 (nameStr 7).size).dropLast = NERR := by
  have g := fit_so f
  rw [bytes_7]
  rw [show ([] ++ bigE 7 1 ++ bigE ep 4 ++ bigE o 4 ++ bigE st 1 ++ bigE (bitI un) 1 ++ (bigE (l10.length : Int) 1 ++ l10) : List Int) = ([] ++ bigE 7 1 ++ bigE ep 4 ++ bigE o 4 ++ bigE st 1 ++ bigE (bitI un) 1) ++ (bigE (l10.length : Int) 1 ++ l10) from by simp only [List.append_assoc]]
  rw [drop_text]
  simp only [List.append_assoc, List.nil_append]
  rw [getOpen, rd1_app (n := 7) _ (by decide) (by decide), rdN_app]
  show noteGetK 7 (nstep 68 (nstep 85 (nstep 83 (nstep 79 (nstep 69 ⟨0, 0, 0, 0, 0, 0, false, 0, [], [], 0, _⟩))))) = _
  rw [nstep_E, rd4_app _ g.1 g.2.1, rdN_app, nstep_O, rd4_app _ g.2.2.2.2.2.2.2.2.1 g.2.2.2.2.2.2.2.2.2, rdN_app, nstep_S, rd1_app _ s0 (by omega), rdN_app, nstep_U, rd1_app _ (bitI_le un).1 (by have := (bitI_le un).2; omega), rdN_app, bitI_eq, nstep_D]
  exact bad_fin (by rw [done_short (txN_short (by omega))]; decide)
theorem back_of_7 {b : List Int} (hb : bytesIn b) (hk : rd1 (b, false) = 7) {x : NS} (hx : nread (nameStr 7) (rdN 1 (b, false)) (nameStr 7).size = x) (hs : x.s = ([], false)) (hu : x.und ≤ 1) : noteFit x.ep x.ol x.ls x.ti x.o = true ∧ noteB (nameStr 7) 7 x.ep x.ol x.ls x.ti x.o x.st x.un x.co x.l9 x.l10 (nameStr 7).size = b ∧ bytesIn x.l9 ∧ bytesIn x.l10 := by
  have nil : bytesIn [] := fun x hx => absurd hx (by simp)
  generalize hs0 : rdN 1 (b, false) = s0 at hx
  have hb0 : bytesIn s0.1 := by rw [← hs0]; exact bytes_rdN hb 1
  replace hx : nstep 68 (nstep 85 (nstep 83 (nstep 79 (nstep 69 ⟨0, 0, 0, 0, 0, 0, false, 0, [], [], 0, s0⟩)))) = x := hx
  rw [nstep_E, nstep_O, nstep_S, nstep_U, nstep_D] at hx
  generalize hs1 : rdN 4 s0 = s1 at hx
  have hb1 : bytesIn s1.1 := by rw [← hs1]; exact bytes_rdN hb0 _
  generalize hs2 : rdN 4 s1 = s2 at hx
  have hb2 : bytesIn s2.1 := by rw [← hs2]; exact bytes_rdN hb1 _
  generalize hs3 : rdN 1 s2 = s3 at hx
  have hb3 : bytesIn s3.1 := by rw [← hs3]; exact bytes_rdN hb2 _
  generalize hs4 : rdN 1 s3 = s4 at hx
  have hb4 : bytesIn s4.1 := by rw [← hs4]; exact bytes_rdN hb3 _
  generalize hs5 : rdN (txN s4) s4 = s5 at hx
  have hb5 : bytesIn s5.1 := by rw [← hs5]; exact bytes_rdN hb4 _
  subst hx
  dsimp only at hs hu ⊢
  have q5 : s5.2 = false := by rw [hs]
  rw [← hs5] at q5
  obtain ⟨x5, y5, z5⟩ := back_T q5 hb4
  have q4 := long_n q5
  rw [hs5] at x5
  rw [← hs4] at q4
  obtain ⟨x4, y4, z4⟩ := back_1 q4 hb3
  have q3 := long_n q4
  rw [hs4] at x4
  rw [← hs3] at q3
  obtain ⟨x3, y3, z3⟩ := back_1 q3 hb2
  have q2 := long_n q3
  rw [hs3] at x3
  rw [← hs2] at q2
  obtain ⟨x2, y2, z2⟩ := back_4 q2 hb1
  have q1 := long_n q2
  rw [hs2] at x2
  rw [← hs1] at q1
  obtain ⟨x1, y1, z1⟩ := back_4 q1 hb0
  have q0 := long_n q1
  rw [hs1] at x1
  rw [← hs0] at q0
  obtain ⟨x0, _, _⟩ := back_1 (s := (b, false)) q0 hb
  rw [hs0, hk] at x0
  rw [hs] at x5
  refine ⟨?_, ?_, nil, z5⟩
  · simp only [noteFit, Bool.and_eq_true, decide_eq_true_eq]; omega
  · rw [bytes_7]
    rw [bit_back y4 hu]
    have e : b = _ := x0
    rw [x1, x2, x3, x4, x5] at e
    rw [e]
    simp only [List.append_assoc, List.nil_append, List.append_nil]
theorem zero_8 {ep ol ls ti o st : Int} {un : Bool} {co : Int} {l9 l10 : List Int} (h : noteBad 8 ep ol ls ti o st un co l9.length l10.length = false) (f : noteFit ep ol ls ti o = true) : ol = 0 ∧ ls = 0 ∧ ti = 0 ∧ l9 = [] := by
  have g := fit_so f
  unfold noteBad at h
  simp only [Bool.or_eq_false_iff] at h
  have hm := h.1.1.2
  simp [moreB, show has 8 69 = true from by decide, show has 8 80 = false from by decide, show has 8 76 = false from by decide, show has 8 84 = false from by decide, show has 8 79 = true from by decide, show has 8 83 = true from by decide, show has 8 85 = true from by decide, show has 8 67 = true from by decide, show has 8 75 = false from by decide, show has 8 68 = true from by decide] at hm
  refine ⟨?_, ?_, ?_, ?_⟩
  · omega
  · omega
  · omega
  · simp_all
theorem bytes_8 {ep : Int} {o : Int} {st : Int} {un : Bool} {co : Int} {l10 : List Int} : noteB (nameStr 8) 8 ep 0 0 0 o st un co [] l10 (nameStr 8).size = [] ++ bigE 8 1 ++ bigE ep 4 ++ bigE o 4 ++ bigE st 1 ++ bigE (bitI un) 1 ++ bigE co 1 ++ (bigE (l10.length : Int) 1 ++ l10) := rfl
theorem more_8 {ep ol ls ti o st : Int} {un : Bool} {co : Int} {l9 l10 : List Int} (f : noteFit ep 0 0 0 o = true) (s0 : 0 ≤ st) (s1 : st < 16) (c0 : 0 ≤ co) (c1 : co ≤ 255) (t9 : l9.length ≤ 32) (t10 : l10.length ≤ 255) (r : List Int) : noteGet (noteB (nameStr 8) 8 ep 0 0 0 o st un co [] l10 (nameStr 8).size ++ r) = noteGetK 8 ⟨ep, 0, 0, 0, o, st, un, co, [], l10, bitI un, (r, false)⟩ := by
  have g := fit_so f
  rw [bytes_8]
  simp only [List.append_assoc, List.nil_append]
  rw [getOpen, rd1_app (n := 8) _ (by decide) (by decide), rdN_app]
  show noteGetK 8 (nstep 68 (nstep 67 (nstep 85 (nstep 83 (nstep 79 (nstep 69 ⟨0, 0, 0, 0, 0, 0, false, 0, [], [], 0, _⟩)))))) = _
  rw [nstep_E, rd4_app _ g.1 g.2.1, rdN_app, nstep_O, rd4_app _ g.2.2.2.2.2.2.2.2.1 g.2.2.2.2.2.2.2.2.2, rdN_app, nstep_S, rd1_app _ s0 (by omega), rdN_app, nstep_U, rd1_app _ (bitI_le un).1 (by have := (bitI_le un).2; omega), rdN_app, bitI_eq, nstep_C, rd1_app _ c0 (by omega), rdN_app, nstep_D, rdT_app (by omega), tx_app (by omega), rdNT_app (by omega)]
theorem less_8 {ep ol ls ti o st : Int} {un : Bool} {co : Int} {l9 l10 : List Int} (f : noteFit ep 0 0 0 o = true) (s0 : 0 ≤ st) (s1 : st < 16) (c0 : 0 ≤ co) (c1 : co ≤ 255) (t9 : l9.length ≤ 32) (t10 : l10.length ≤ 255) : noteGet (noteB (nameStr 8) 8 ep 0 0 0 o st un co [] l10 (nameStr 8).size).dropLast = NERR := by
  have g := fit_so f
  rw [bytes_8]
  rw [show ([] ++ bigE 8 1 ++ bigE ep 4 ++ bigE o 4 ++ bigE st 1 ++ bigE (bitI un) 1 ++ bigE co 1 ++ (bigE (l10.length : Int) 1 ++ l10) : List Int) = ([] ++ bigE 8 1 ++ bigE ep 4 ++ bigE o 4 ++ bigE st 1 ++ bigE (bitI un) 1 ++ bigE co 1) ++ (bigE (l10.length : Int) 1 ++ l10) from by simp only [List.append_assoc]]
  rw [drop_text]
  simp only [List.append_assoc, List.nil_append]
  rw [getOpen, rd1_app (n := 8) _ (by decide) (by decide), rdN_app]
  show noteGetK 8 (nstep 68 (nstep 67 (nstep 85 (nstep 83 (nstep 79 (nstep 69 ⟨0, 0, 0, 0, 0, 0, false, 0, [], [], 0, _⟩)))))) = _
  rw [nstep_E, rd4_app _ g.1 g.2.1, rdN_app, nstep_O, rd4_app _ g.2.2.2.2.2.2.2.2.1 g.2.2.2.2.2.2.2.2.2, rdN_app, nstep_S, rd1_app _ s0 (by omega), rdN_app, nstep_U, rd1_app _ (bitI_le un).1 (by have := (bitI_le un).2; omega), rdN_app, bitI_eq, nstep_C, rd1_app _ c0 (by omega), rdN_app, nstep_D]
  exact bad_fin (by rw [done_short (txN_short (by omega))]; decide)
theorem back_of_8 {b : List Int} (hb : bytesIn b) (hk : rd1 (b, false) = 8) {x : NS} (hx : nread (nameStr 8) (rdN 1 (b, false)) (nameStr 8).size = x) (hs : x.s = ([], false)) (hu : x.und ≤ 1) : noteFit x.ep x.ol x.ls x.ti x.o = true ∧ noteB (nameStr 8) 8 x.ep x.ol x.ls x.ti x.o x.st x.un x.co x.l9 x.l10 (nameStr 8).size = b ∧ bytesIn x.l9 ∧ bytesIn x.l10 := by
  have nil : bytesIn [] := fun x hx => absurd hx (by simp)
  generalize hs0 : rdN 1 (b, false) = s0 at hx
  have hb0 : bytesIn s0.1 := by rw [← hs0]; exact bytes_rdN hb 1
  replace hx : nstep 68 (nstep 67 (nstep 85 (nstep 83 (nstep 79 (nstep 69 ⟨0, 0, 0, 0, 0, 0, false, 0, [], [], 0, s0⟩))))) = x := hx
  rw [nstep_E, nstep_O, nstep_S, nstep_U, nstep_C, nstep_D] at hx
  generalize hs1 : rdN 4 s0 = s1 at hx
  have hb1 : bytesIn s1.1 := by rw [← hs1]; exact bytes_rdN hb0 _
  generalize hs2 : rdN 4 s1 = s2 at hx
  have hb2 : bytesIn s2.1 := by rw [← hs2]; exact bytes_rdN hb1 _
  generalize hs3 : rdN 1 s2 = s3 at hx
  have hb3 : bytesIn s3.1 := by rw [← hs3]; exact bytes_rdN hb2 _
  generalize hs4 : rdN 1 s3 = s4 at hx
  have hb4 : bytesIn s4.1 := by rw [← hs4]; exact bytes_rdN hb3 _
  generalize hs5 : rdN 1 s4 = s5 at hx
  have hb5 : bytesIn s5.1 := by rw [← hs5]; exact bytes_rdN hb4 _
  generalize hs6 : rdN (txN s5) s5 = s6 at hx
  have hb6 : bytesIn s6.1 := by rw [← hs6]; exact bytes_rdN hb5 _
  subst hx
  dsimp only at hs hu ⊢
  have q6 : s6.2 = false := by rw [hs]
  rw [← hs6] at q6
  obtain ⟨x6, y6, z6⟩ := back_T q6 hb5
  have q5 := long_n q6
  rw [hs6] at x6
  rw [← hs5] at q5
  obtain ⟨x5, y5, z5⟩ := back_1 q5 hb4
  have q4 := long_n q5
  rw [hs5] at x5
  rw [← hs4] at q4
  obtain ⟨x4, y4, z4⟩ := back_1 q4 hb3
  have q3 := long_n q4
  rw [hs4] at x4
  rw [← hs3] at q3
  obtain ⟨x3, y3, z3⟩ := back_1 q3 hb2
  have q2 := long_n q3
  rw [hs3] at x3
  rw [← hs2] at q2
  obtain ⟨x2, y2, z2⟩ := back_4 q2 hb1
  have q1 := long_n q2
  rw [hs2] at x2
  rw [← hs1] at q1
  obtain ⟨x1, y1, z1⟩ := back_4 q1 hb0
  have q0 := long_n q1
  rw [hs1] at x1
  rw [← hs0] at q0
  obtain ⟨x0, _, _⟩ := back_1 (s := (b, false)) q0 hb
  rw [hs0, hk] at x0
  rw [hs] at x6
  refine ⟨?_, ?_, nil, z6⟩
  · simp only [noteFit, Bool.and_eq_true, decide_eq_true_eq]; omega
  · rw [bytes_8]
    rw [bit_back y4 hu]
    have e : b = _ := x0
    rw [x1, x2, x3, x4, x5, x6] at e
    rw [e]
    simp only [List.append_assoc, List.nil_append, List.append_nil]
theorem zero_9 {ep ol ls ti o st : Int} {un : Bool} {co : Int} {l9 l10 : List Int} (h : noteBad 9 ep ol ls ti o st un co l9.length l10.length = false) (f : noteFit ep ol ls ti o = true) : ol = 0 ∧ ls = 0 ∧ ti = 0 ∧ co = 0 ∧ l9 = [] ∧ l10 = [] := by
  have g := fit_so f
  unfold noteBad at h
  simp only [Bool.or_eq_false_iff] at h
  have hm := h.1.1.2
  simp [moreB, show has 9 69 = true from by decide, show has 9 80 = false from by decide, show has 9 76 = false from by decide, show has 9 84 = false from by decide, show has 9 79 = true from by decide, show has 9 83 = true from by decide, show has 9 85 = true from by decide, show has 9 67 = false from by decide, show has 9 75 = false from by decide, show has 9 68 = false from by decide] at hm
  refine ⟨?_, ?_, ?_, ?_, ?_, ?_⟩
  · omega
  · omega
  · omega
  · simp_all
  · simp_all
  · simp_all
theorem bytes_9 {ep : Int} {o : Int} {st : Int} {un : Bool} : noteB (nameStr 9) 9 ep 0 0 0 o st un 0 [] [] (nameStr 9).size = [] ++ bigE 9 1 ++ bigE ep 4 ++ bigE o 4 ++ bigE st 1 ++ bigE (bitI un) 1 := rfl
theorem more_9 {ep ol ls ti o st : Int} {un : Bool} {co : Int} {l9 l10 : List Int} (f : noteFit ep 0 0 0 o = true) (s0 : 0 ≤ st) (s1 : st < 16) (c0 : 0 ≤ co) (c1 : co ≤ 255) (t9 : l9.length ≤ 32) (t10 : l10.length ≤ 255) (r : List Int) : noteGet (noteB (nameStr 9) 9 ep 0 0 0 o st un 0 [] [] (nameStr 9).size ++ r) = noteGetK 9 ⟨ep, 0, 0, 0, o, st, un, 0, [], [], bitI un, (r, false)⟩ := by
  have g := fit_so f
  rw [bytes_9]
  simp only [List.append_assoc, List.nil_append]
  rw [getOpen, rd1_app (n := 9) _ (by decide) (by decide), rdN_app]
  show noteGetK 9 (nstep 85 (nstep 83 (nstep 79 (nstep 69 ⟨0, 0, 0, 0, 0, 0, false, 0, [], [], 0, _⟩)))) = _
  rw [nstep_E, rd4_app _ g.1 g.2.1, rdN_app, nstep_O, rd4_app _ g.2.2.2.2.2.2.2.2.1 g.2.2.2.2.2.2.2.2.2, rdN_app, nstep_S, rd1_app _ s0 (by omega), rdN_app, nstep_U, rd1_app _ (bitI_le un).1 (by have := (bitI_le un).2; omega), rdN_app, bitI_eq]
theorem less_9 {ep ol ls ti o st : Int} {un : Bool} {co : Int} {l9 l10 : List Int} (f : noteFit ep 0 0 0 o = true) (s0 : 0 ≤ st) (s1 : st < 16) (c0 : 0 ≤ co) (c1 : co ≤ 255) (t9 : l9.length ≤ 32) (t10 : l10.length ≤ 255) : noteGet (noteB (nameStr 9) 9 ep 0 0 0 o st un 0 [] [] (nameStr 9).size).dropLast = NERR := by
  have g := fit_so f
  rw [bytes_9]
  rw [drop_last]
  simp only [List.append_assoc, List.nil_append]
  rw [getOpen, rd1_app (n := 9) _ (by decide) (by decide), rdN_app]
  show noteGetK 9 (nstep 85 (nstep 83 (nstep 79 (nstep 69 ⟨0, 0, 0, 0, 0, 0, false, 0, [], [], 0, _⟩)))) = _
  rw [nstep_E, rd4_app _ g.1 g.2.1, rdN_app, nstep_O, rd4_app _ g.2.2.2.2.2.2.2.2.1 g.2.2.2.2.2.2.2.2.2, rdN_app, nstep_S, rd1_app _ s0 (by omega), rdN_app, nstep_U]
  exact bad_fin (by rw [done_short (short_n _ 0)]; decide)
theorem back_of_9 {b : List Int} (hb : bytesIn b) (hk : rd1 (b, false) = 9) {x : NS} (hx : nread (nameStr 9) (rdN 1 (b, false)) (nameStr 9).size = x) (hs : x.s = ([], false)) (hu : x.und ≤ 1) : noteFit x.ep x.ol x.ls x.ti x.o = true ∧ noteB (nameStr 9) 9 x.ep x.ol x.ls x.ti x.o x.st x.un x.co x.l9 x.l10 (nameStr 9).size = b ∧ bytesIn x.l9 ∧ bytesIn x.l10 := by
  have nil : bytesIn [] := fun x hx => absurd hx (by simp)
  generalize hs0 : rdN 1 (b, false) = s0 at hx
  have hb0 : bytesIn s0.1 := by rw [← hs0]; exact bytes_rdN hb 1
  replace hx : nstep 85 (nstep 83 (nstep 79 (nstep 69 ⟨0, 0, 0, 0, 0, 0, false, 0, [], [], 0, s0⟩))) = x := hx
  rw [nstep_E, nstep_O, nstep_S, nstep_U] at hx
  generalize hs1 : rdN 4 s0 = s1 at hx
  have hb1 : bytesIn s1.1 := by rw [← hs1]; exact bytes_rdN hb0 _
  generalize hs2 : rdN 4 s1 = s2 at hx
  have hb2 : bytesIn s2.1 := by rw [← hs2]; exact bytes_rdN hb1 _
  generalize hs3 : rdN 1 s2 = s3 at hx
  have hb3 : bytesIn s3.1 := by rw [← hs3]; exact bytes_rdN hb2 _
  generalize hs4 : rdN 1 s3 = s4 at hx
  have hb4 : bytesIn s4.1 := by rw [← hs4]; exact bytes_rdN hb3 _
  subst hx
  dsimp only at hs hu ⊢
  have q4 : s4.2 = false := by rw [hs]
  rw [← hs4] at q4
  obtain ⟨x4, y4, z4⟩ := back_1 q4 hb3
  have q3 := long_n q4
  rw [hs4] at x4
  rw [← hs3] at q3
  obtain ⟨x3, y3, z3⟩ := back_1 q3 hb2
  have q2 := long_n q3
  rw [hs3] at x3
  rw [← hs2] at q2
  obtain ⟨x2, y2, z2⟩ := back_4 q2 hb1
  have q1 := long_n q2
  rw [hs2] at x2
  rw [← hs1] at q1
  obtain ⟨x1, y1, z1⟩ := back_4 q1 hb0
  have q0 := long_n q1
  rw [hs1] at x1
  rw [← hs0] at q0
  obtain ⟨x0, _, _⟩ := back_1 (s := (b, false)) q0 hb
  rw [hs0, hk] at x0
  rw [hs] at x4
  refine ⟨?_, ?_, nil, nil⟩
  · simp only [noteFit, Bool.and_eq_true, decide_eq_true_eq]; omega
  · rw [bytes_9]
    rw [bit_back y4 hu]
    have e : b = _ := x0
    rw [x1, x2, x3, x4] at e
    rw [e]
    simp only [List.append_assoc, List.nil_append, List.append_nil]
theorem zero_10 {ep ol ls ti o st : Int} {un : Bool} {co : Int} {l9 l10 : List Int} (h : noteBad 10 ep ol ls ti o st un co l9.length l10.length = false) (f : noteFit ep ol ls ti o = true) : ep = 0 ∧ ol = 0 ∧ ls = 0 ∧ ti = 0 ∧ o = 0 ∧ st = 0 ∧ un = false ∧ co = 0 := by
  have g := fit_so f
  unfold noteBad at h
  simp only [Bool.or_eq_false_iff] at h
  have hm := h.1.1.2
  simp [moreB, show has 10 69 = false from by decide, show has 10 80 = false from by decide, show has 10 76 = false from by decide, show has 10 84 = false from by decide, show has 10 79 = false from by decide, show has 10 83 = false from by decide, show has 10 85 = false from by decide, show has 10 67 = false from by decide, show has 10 75 = true from by decide, show has 10 68 = true from by decide] at hm
  refine ⟨?_, ?_, ?_, ?_, ?_, ?_, ?_, ?_⟩
  · omega
  · omega
  · omega
  · omega
  · omega
  · simp_all
  · simp_all
  · simp_all
theorem bytes_10 {l9 : List Int} {l10 : List Int} : noteB (nameStr 10) 10 0 0 0 0 0 0 false 0 l9 l10 (nameStr 10).size = [] ++ bigE 10 1 ++ (bigE (l9.length : Int) 1 ++ l9) ++ (bigE (l10.length : Int) 1 ++ l10) := rfl
theorem more_10 {ep ol ls ti o st : Int} {un : Bool} {co : Int} {l9 l10 : List Int} (f : noteFit 0 0 0 0 0 = true) (s0 : 0 ≤ st) (s1 : st < 16) (c0 : 0 ≤ co) (c1 : co ≤ 255) (t9 : l9.length ≤ 32) (t10 : l10.length ≤ 255) (r : List Int) : noteGet (noteB (nameStr 10) 10 0 0 0 0 0 0 false 0 l9 l10 (nameStr 10).size ++ r) = noteGetK 10 ⟨0, 0, 0, 0, 0, 0, false, 0, l9, l10, 0, (r, false)⟩ := by
  have g := fit_so f
  rw [bytes_10]
  simp only [List.append_assoc, List.nil_append]
  rw [getOpen, rd1_app (n := 10) _ (by decide) (by decide), rdN_app]
  show noteGetK 10 (nstep 68 (nstep 75 ⟨0, 0, 0, 0, 0, 0, false, 0, [], [], 0, _⟩)) = _
  rw [nstep_K, rdT_app (by omega), tx_app (by omega), rdNT_app (by omega), nstep_D, rdT_app (by omega), tx_app (by omega), rdNT_app (by omega)]
theorem less_10 {ep ol ls ti o st : Int} {un : Bool} {co : Int} {l9 l10 : List Int} (f : noteFit 0 0 0 0 0 = true) (s0 : 0 ≤ st) (s1 : st < 16) (c0 : 0 ≤ co) (c1 : co ≤ 255) (t9 : l9.length ≤ 32) (t10 : l10.length ≤ 255) : noteGet (noteB (nameStr 10) 10 0 0 0 0 0 0 false 0 l9 l10 (nameStr 10).size).dropLast = NERR := by
  have g := fit_so f
  rw [bytes_10]
  rw [show ([] ++ bigE 10 1 ++ (bigE (l9.length : Int) 1 ++ l9) ++ (bigE (l10.length : Int) 1 ++ l10) : List Int) = ([] ++ bigE 10 1 ++ (bigE (l9.length : Int) 1 ++ l9)) ++ (bigE (l10.length : Int) 1 ++ l10) from by simp only [List.append_assoc]]
  rw [drop_text]
  simp only [List.append_assoc, List.nil_append]
  rw [getOpen, rd1_app (n := 10) _ (by decide) (by decide), rdN_app]
  show noteGetK 10 (nstep 68 (nstep 75 ⟨0, 0, 0, 0, 0, 0, false, 0, [], [], 0, _⟩)) = _
  rw [nstep_K, rdT_app (by omega), tx_app (by omega), rdNT_app (by omega), nstep_D]
  exact bad_fin (by rw [done_short (txN_short (by omega))]; decide)
theorem back_of_10 {b : List Int} (hb : bytesIn b) (hk : rd1 (b, false) = 10) {x : NS} (hx : nread (nameStr 10) (rdN 1 (b, false)) (nameStr 10).size = x) (hs : x.s = ([], false)) (hu : x.und ≤ 1) : noteFit x.ep x.ol x.ls x.ti x.o = true ∧ noteB (nameStr 10) 10 x.ep x.ol x.ls x.ti x.o x.st x.un x.co x.l9 x.l10 (nameStr 10).size = b ∧ bytesIn x.l9 ∧ bytesIn x.l10 := by
  have nil : bytesIn [] := fun x hx => absurd hx (by simp)
  generalize hs0 : rdN 1 (b, false) = s0 at hx
  have hb0 : bytesIn s0.1 := by rw [← hs0]; exact bytes_rdN hb 1
  replace hx : nstep 68 (nstep 75 ⟨0, 0, 0, 0, 0, 0, false, 0, [], [], 0, s0⟩) = x := hx
  rw [nstep_K, nstep_D] at hx
  generalize hs1 : rdN (txN s0) s0 = s1 at hx
  have hb1 : bytesIn s1.1 := by rw [← hs1]; exact bytes_rdN hb0 _
  generalize hs2 : rdN (txN s1) s1 = s2 at hx
  have hb2 : bytesIn s2.1 := by rw [← hs2]; exact bytes_rdN hb1 _
  subst hx
  dsimp only at hs hu ⊢
  have q2 : s2.2 = false := by rw [hs]
  rw [← hs2] at q2
  obtain ⟨x2, y2, z2⟩ := back_T q2 hb1
  have q1 := long_n q2
  rw [hs2] at x2
  rw [← hs1] at q1
  obtain ⟨x1, y1, z1⟩ := back_T q1 hb0
  have q0 := long_n q1
  rw [hs1] at x1
  rw [← hs0] at q0
  obtain ⟨x0, _, _⟩ := back_1 (s := (b, false)) q0 hb
  rw [hs0, hk] at x0
  rw [hs] at x2
  refine ⟨?_, ?_, z1, z2⟩
  · simp only [noteFit, Bool.and_eq_true, decide_eq_true_eq]; omega
  · rw [bytes_10]
    have e : b = _ := x0
    rw [x1, x2] at e
    rw [e]
    simp only [List.append_assoc, List.nil_append, List.append_nil]
theorem zero_11 {ep ol ls ti o st : Int} {un : Bool} {co : Int} {l9 l10 : List Int} (h : noteBad 11 ep ol ls ti o st un co l9.length l10.length = false) (f : noteFit ep ol ls ti o = true) : ep = 0 ∧ ol = 0 ∧ ls = 0 ∧ ti = 0 ∧ o = 0 ∧ st = 0 ∧ un = false ∧ co = 0 ∧ l10 = [] := by
  have g := fit_so f
  unfold noteBad at h
  simp only [Bool.or_eq_false_iff] at h
  have hm := h.1.1.2
  simp [moreB, show has 11 69 = false from by decide, show has 11 80 = false from by decide, show has 11 76 = false from by decide, show has 11 84 = false from by decide, show has 11 79 = false from by decide, show has 11 83 = false from by decide, show has 11 85 = false from by decide, show has 11 67 = false from by decide, show has 11 75 = true from by decide, show has 11 68 = false from by decide] at hm
  refine ⟨?_, ?_, ?_, ?_, ?_, ?_, ?_, ?_, ?_⟩
  · omega
  · omega
  · omega
  · omega
  · omega
  · simp_all
  · simp_all
  · simp_all
  · simp_all
theorem bytes_11 {l9 : List Int} : noteB (nameStr 11) 11 0 0 0 0 0 0 false 0 l9 [] (nameStr 11).size = [] ++ bigE 11 1 ++ (bigE (l9.length : Int) 1 ++ l9) := rfl
theorem more_11 {ep ol ls ti o st : Int} {un : Bool} {co : Int} {l9 l10 : List Int} (f : noteFit 0 0 0 0 0 = true) (s0 : 0 ≤ st) (s1 : st < 16) (c0 : 0 ≤ co) (c1 : co ≤ 255) (t9 : l9.length ≤ 32) (t10 : l10.length ≤ 255) (r : List Int) : noteGet (noteB (nameStr 11) 11 0 0 0 0 0 0 false 0 l9 [] (nameStr 11).size ++ r) = noteGetK 11 ⟨0, 0, 0, 0, 0, 0, false, 0, l9, [], 0, (r, false)⟩ := by
  have g := fit_so f
  rw [bytes_11]
  simp only [List.append_assoc, List.nil_append]
  rw [getOpen, rd1_app (n := 11) _ (by decide) (by decide), rdN_app]
  show noteGetK 11 (nstep 75 ⟨0, 0, 0, 0, 0, 0, false, 0, [], [], 0, _⟩) = _
  rw [nstep_K, rdT_app (by omega), tx_app (by omega), rdNT_app (by omega)]
theorem less_11 {ep ol ls ti o st : Int} {un : Bool} {co : Int} {l9 l10 : List Int} (f : noteFit 0 0 0 0 0 = true) (s0 : 0 ≤ st) (s1 : st < 16) (c0 : 0 ≤ co) (c1 : co ≤ 255) (t9 : l9.length ≤ 32) (t10 : l10.length ≤ 255) : noteGet (noteB (nameStr 11) 11 0 0 0 0 0 0 false 0 l9 [] (nameStr 11).size).dropLast = NERR := by
  have g := fit_so f
  rw [bytes_11]
  rw [show ([] ++ bigE 11 1 ++ (bigE (l9.length : Int) 1 ++ l9) : List Int) = ([] ++ bigE 11 1) ++ (bigE (l9.length : Int) 1 ++ l9) from by simp only [List.append_assoc]]
  rw [drop_text]
  simp only [List.append_assoc, List.nil_append]
  rw [getOpen, rd1_app (n := 11) _ (by decide) (by decide), rdN_app]
  show noteGetK 11 (nstep 75 ⟨0, 0, 0, 0, 0, 0, false, 0, [], [], 0, _⟩) = _
  rw [nstep_K]
  exact bad_fin (by rw [done_short (txN_short (by omega))]; decide)
theorem back_of_11 {b : List Int} (hb : bytesIn b) (hk : rd1 (b, false) = 11) {x : NS} (hx : nread (nameStr 11) (rdN 1 (b, false)) (nameStr 11).size = x) (hs : x.s = ([], false)) (hu : x.und ≤ 1) : noteFit x.ep x.ol x.ls x.ti x.o = true ∧ noteB (nameStr 11) 11 x.ep x.ol x.ls x.ti x.o x.st x.un x.co x.l9 x.l10 (nameStr 11).size = b ∧ bytesIn x.l9 ∧ bytesIn x.l10 := by
  have nil : bytesIn [] := fun x hx => absurd hx (by simp)
  generalize hs0 : rdN 1 (b, false) = s0 at hx
  have hb0 : bytesIn s0.1 := by rw [← hs0]; exact bytes_rdN hb 1
  replace hx : nstep 75 ⟨0, 0, 0, 0, 0, 0, false, 0, [], [], 0, s0⟩ = x := hx
  rw [nstep_K] at hx
  generalize hs1 : rdN (txN s0) s0 = s1 at hx
  have hb1 : bytesIn s1.1 := by rw [← hs1]; exact bytes_rdN hb0 _
  subst hx
  dsimp only at hs hu ⊢
  have q1 : s1.2 = false := by rw [hs]
  rw [← hs1] at q1
  obtain ⟨x1, y1, z1⟩ := back_T q1 hb0
  have q0 := long_n q1
  rw [hs1] at x1
  rw [← hs0] at q0
  obtain ⟨x0, _, _⟩ := back_1 (s := (b, false)) q0 hb
  rw [hs0, hk] at x0
  rw [hs] at x1
  refine ⟨?_, ?_, z1, nil⟩
  · simp only [noteFit, Bool.and_eq_true, decide_eq_true_eq]; omega
  · rw [bytes_11]
    have e : b = _ := x0
    rw [x1] at e
    rw [e]
    simp only [List.append_assoc, List.nil_append, List.append_nil]
theorem zero_12 {ep ol ls ti o st : Int} {un : Bool} {co : Int} {l9 l10 : List Int} (h : noteBad 12 ep ol ls ti o st un co l9.length l10.length = false) (f : noteFit ep ol ls ti o = true) : ep = 0 ∧ ol = 0 ∧ ls = 0 ∧ ti = 0 ∧ o = 0 ∧ st = 0 ∧ un = false ∧ co = 0 ∧ l10 = [] := by
  have g := fit_so f
  unfold noteBad at h
  simp only [Bool.or_eq_false_iff] at h
  have hm := h.1.1.2
  simp [moreB, show has 12 69 = false from by decide, show has 12 80 = false from by decide, show has 12 76 = false from by decide, show has 12 84 = false from by decide, show has 12 79 = false from by decide, show has 12 83 = false from by decide, show has 12 85 = false from by decide, show has 12 67 = false from by decide, show has 12 75 = true from by decide, show has 12 68 = false from by decide] at hm
  refine ⟨?_, ?_, ?_, ?_, ?_, ?_, ?_, ?_, ?_⟩
  · omega
  · omega
  · omega
  · omega
  · omega
  · simp_all
  · simp_all
  · simp_all
  · simp_all
theorem bytes_12 {l9 : List Int} : noteB (nameStr 12) 12 0 0 0 0 0 0 false 0 l9 [] (nameStr 12).size = [] ++ bigE 12 1 ++ (bigE (l9.length : Int) 1 ++ l9) := rfl
theorem more_12 {ep ol ls ti o st : Int} {un : Bool} {co : Int} {l9 l10 : List Int} (f : noteFit 0 0 0 0 0 = true) (s0 : 0 ≤ st) (s1 : st < 16) (c0 : 0 ≤ co) (c1 : co ≤ 255) (t9 : l9.length ≤ 32) (t10 : l10.length ≤ 255) (r : List Int) : noteGet (noteB (nameStr 12) 12 0 0 0 0 0 0 false 0 l9 [] (nameStr 12).size ++ r) = noteGetK 12 ⟨0, 0, 0, 0, 0, 0, false, 0, l9, [], 0, (r, false)⟩ := by
  have g := fit_so f
  rw [bytes_12]
  simp only [List.append_assoc, List.nil_append]
  rw [getOpen, rd1_app (n := 12) _ (by decide) (by decide), rdN_app]
  show noteGetK 12 (nstep 75 ⟨0, 0, 0, 0, 0, 0, false, 0, [], [], 0, _⟩) = _
  rw [nstep_K, rdT_app (by omega), tx_app (by omega), rdNT_app (by omega)]
theorem less_12 {ep ol ls ti o st : Int} {un : Bool} {co : Int} {l9 l10 : List Int} (f : noteFit 0 0 0 0 0 = true) (s0 : 0 ≤ st) (s1 : st < 16) (c0 : 0 ≤ co) (c1 : co ≤ 255) (t9 : l9.length ≤ 32) (t10 : l10.length ≤ 255) : noteGet (noteB (nameStr 12) 12 0 0 0 0 0 0 false 0 l9 [] (nameStr 12).size).dropLast = NERR := by
  have g := fit_so f
  rw [bytes_12]
  rw [show ([] ++ bigE 12 1 ++ (bigE (l9.length : Int) 1 ++ l9) : List Int) = ([] ++ bigE 12 1) ++ (bigE (l9.length : Int) 1 ++ l9) from by simp only [List.append_assoc]]
  rw [drop_text]
  simp only [List.append_assoc, List.nil_append]
  rw [getOpen, rd1_app (n := 12) _ (by decide) (by decide), rdN_app]
  show noteGetK 12 (nstep 75 ⟨0, 0, 0, 0, 0, 0, false, 0, [], [], 0, _⟩) = _
  rw [nstep_K]
  exact bad_fin (by rw [done_short (txN_short (by omega))]; decide)
theorem back_of_12 {b : List Int} (hb : bytesIn b) (hk : rd1 (b, false) = 12) {x : NS} (hx : nread (nameStr 12) (rdN 1 (b, false)) (nameStr 12).size = x) (hs : x.s = ([], false)) (hu : x.und ≤ 1) : noteFit x.ep x.ol x.ls x.ti x.o = true ∧ noteB (nameStr 12) 12 x.ep x.ol x.ls x.ti x.o x.st x.un x.co x.l9 x.l10 (nameStr 12).size = b ∧ bytesIn x.l9 ∧ bytesIn x.l10 := by
  have nil : bytesIn [] := fun x hx => absurd hx (by simp)
  generalize hs0 : rdN 1 (b, false) = s0 at hx
  have hb0 : bytesIn s0.1 := by rw [← hs0]; exact bytes_rdN hb 1
  replace hx : nstep 75 ⟨0, 0, 0, 0, 0, 0, false, 0, [], [], 0, s0⟩ = x := hx
  rw [nstep_K] at hx
  generalize hs1 : rdN (txN s0) s0 = s1 at hx
  have hb1 : bytesIn s1.1 := by rw [← hs1]; exact bytes_rdN hb0 _
  subst hx
  dsimp only at hs hu ⊢
  have q1 : s1.2 = false := by rw [hs]
  rw [← hs1] at q1
  obtain ⟨x1, y1, z1⟩ := back_T q1 hb0
  have q0 := long_n q1
  rw [hs1] at x1
  rw [← hs0] at q0
  obtain ⟨x0, _, _⟩ := back_1 (s := (b, false)) q0 hb
  rw [hs0, hk] at x0
  rw [hs] at x1
  refine ⟨?_, ?_, z1, nil⟩
  · simp only [noteFit, Bool.and_eq_true, decide_eq_true_eq]; omega
  · rw [bytes_12]
    have e : b = _ := x0
    rw [x1] at e
    rw [e]
    simp only [List.append_assoc, List.nil_append, List.append_nil]
theorem zero_13 {ep ol ls ti o st : Int} {un : Bool} {co : Int} {l9 l10 : List Int} (h : noteBad 13 ep ol ls ti o st un co l9.length l10.length = false) (f : noteFit ep ol ls ti o = true) : ep = 0 ∧ ol = 0 ∧ ls = 0 ∧ ti = 0 ∧ st = 0 ∧ un = false := by
  have g := fit_so f
  unfold noteBad at h
  simp only [Bool.or_eq_false_iff] at h
  have hm := h.1.1.2
  simp [moreB, show has 13 69 = false from by decide, show has 13 80 = false from by decide, show has 13 76 = false from by decide, show has 13 84 = false from by decide, show has 13 79 = true from by decide, show has 13 83 = false from by decide, show has 13 85 = false from by decide, show has 13 67 = true from by decide, show has 13 75 = true from by decide, show has 13 68 = true from by decide] at hm
  refine ⟨?_, ?_, ?_, ?_, ?_, ?_⟩
  · omega
  · omega
  · omega
  · omega
  · simp_all
  · simp_all
theorem bytes_13 {o : Int} {co : Int} {l9 : List Int} {l10 : List Int} : noteB (nameStr 13) 13 0 0 0 0 o 0 false co l9 l10 (nameStr 13).size = [] ++ bigE 13 1 ++ bigE o 4 ++ bigE co 1 ++ (bigE (l9.length : Int) 1 ++ l9) ++ (bigE (l10.length : Int) 1 ++ l10) := rfl
theorem more_13 {ep ol ls ti o st : Int} {un : Bool} {co : Int} {l9 l10 : List Int} (f : noteFit 0 0 0 0 o = true) (s0 : 0 ≤ st) (s1 : st < 16) (c0 : 0 ≤ co) (c1 : co ≤ 255) (t9 : l9.length ≤ 32) (t10 : l10.length ≤ 255) (r : List Int) : noteGet (noteB (nameStr 13) 13 0 0 0 0 o 0 false co l9 l10 (nameStr 13).size ++ r) = noteGetK 13 ⟨0, 0, 0, 0, o, 0, false, co, l9, l10, 0, (r, false)⟩ := by
  have g := fit_so f
  rw [bytes_13]
  simp only [List.append_assoc, List.nil_append]
  rw [getOpen, rd1_app (n := 13) _ (by decide) (by decide), rdN_app]
  show noteGetK 13 (nstep 68 (nstep 75 (nstep 67 (nstep 79 ⟨0, 0, 0, 0, 0, 0, false, 0, [], [], 0, _⟩)))) = _
  rw [nstep_O, rd4_app _ g.2.2.2.2.2.2.2.2.1 g.2.2.2.2.2.2.2.2.2, rdN_app, nstep_C, rd1_app _ c0 (by omega), rdN_app, nstep_K, rdT_app (by omega), tx_app (by omega), rdNT_app (by omega), nstep_D, rdT_app (by omega), tx_app (by omega), rdNT_app (by omega)]
theorem less_13 {ep ol ls ti o st : Int} {un : Bool} {co : Int} {l9 l10 : List Int} (f : noteFit 0 0 0 0 o = true) (s0 : 0 ≤ st) (s1 : st < 16) (c0 : 0 ≤ co) (c1 : co ≤ 255) (t9 : l9.length ≤ 32) (t10 : l10.length ≤ 255) : noteGet (noteB (nameStr 13) 13 0 0 0 0 o 0 false co l9 l10 (nameStr 13).size).dropLast = NERR := by
  have g := fit_so f
  rw [bytes_13]
  rw [show ([] ++ bigE 13 1 ++ bigE o 4 ++ bigE co 1 ++ (bigE (l9.length : Int) 1 ++ l9) ++ (bigE (l10.length : Int) 1 ++ l10) : List Int) = ([] ++ bigE 13 1 ++ bigE o 4 ++ bigE co 1 ++ (bigE (l9.length : Int) 1 ++ l9)) ++ (bigE (l10.length : Int) 1 ++ l10) from by simp only [List.append_assoc]]
  rw [drop_text]
  simp only [List.append_assoc, List.nil_append]
  rw [getOpen, rd1_app (n := 13) _ (by decide) (by decide), rdN_app]
  show noteGetK 13 (nstep 68 (nstep 75 (nstep 67 (nstep 79 ⟨0, 0, 0, 0, 0, 0, false, 0, [], [], 0, _⟩)))) = _
  rw [nstep_O, rd4_app _ g.2.2.2.2.2.2.2.2.1 g.2.2.2.2.2.2.2.2.2, rdN_app, nstep_C, rd1_app _ c0 (by omega), rdN_app, nstep_K, rdT_app (by omega), tx_app (by omega), rdNT_app (by omega), nstep_D]
  exact bad_fin (by rw [done_short (txN_short (by omega))]; decide)
theorem back_of_13 {b : List Int} (hb : bytesIn b) (hk : rd1 (b, false) = 13) {x : NS} (hx : nread (nameStr 13) (rdN 1 (b, false)) (nameStr 13).size = x) (hs : x.s = ([], false)) (hu : x.und ≤ 1) : noteFit x.ep x.ol x.ls x.ti x.o = true ∧ noteB (nameStr 13) 13 x.ep x.ol x.ls x.ti x.o x.st x.un x.co x.l9 x.l10 (nameStr 13).size = b ∧ bytesIn x.l9 ∧ bytesIn x.l10 := by
  have nil : bytesIn [] := fun x hx => absurd hx (by simp)
  generalize hs0 : rdN 1 (b, false) = s0 at hx
  have hb0 : bytesIn s0.1 := by rw [← hs0]; exact bytes_rdN hb 1
  replace hx : nstep 68 (nstep 75 (nstep 67 (nstep 79 ⟨0, 0, 0, 0, 0, 0, false, 0, [], [], 0, s0⟩))) = x := hx
  rw [nstep_O, nstep_C, nstep_K, nstep_D] at hx
  generalize hs1 : rdN 4 s0 = s1 at hx
  have hb1 : bytesIn s1.1 := by rw [← hs1]; exact bytes_rdN hb0 _
  generalize hs2 : rdN 1 s1 = s2 at hx
  have hb2 : bytesIn s2.1 := by rw [← hs2]; exact bytes_rdN hb1 _
  generalize hs3 : rdN (txN s2) s2 = s3 at hx
  have hb3 : bytesIn s3.1 := by rw [← hs3]; exact bytes_rdN hb2 _
  generalize hs4 : rdN (txN s3) s3 = s4 at hx
  have hb4 : bytesIn s4.1 := by rw [← hs4]; exact bytes_rdN hb3 _
  subst hx
  dsimp only at hs hu ⊢
  have q4 : s4.2 = false := by rw [hs]
  rw [← hs4] at q4
  obtain ⟨x4, y4, z4⟩ := back_T q4 hb3
  have q3 := long_n q4
  rw [hs4] at x4
  rw [← hs3] at q3
  obtain ⟨x3, y3, z3⟩ := back_T q3 hb2
  have q2 := long_n q3
  rw [hs3] at x3
  rw [← hs2] at q2
  obtain ⟨x2, y2, z2⟩ := back_1 q2 hb1
  have q1 := long_n q2
  rw [hs2] at x2
  rw [← hs1] at q1
  obtain ⟨x1, y1, z1⟩ := back_4 q1 hb0
  have q0 := long_n q1
  rw [hs1] at x1
  rw [← hs0] at q0
  obtain ⟨x0, _, _⟩ := back_1 (s := (b, false)) q0 hb
  rw [hs0, hk] at x0
  rw [hs] at x4
  refine ⟨?_, ?_, z3, z4⟩
  · simp only [noteFit, Bool.and_eq_true, decide_eq_true_eq]; omega
  · rw [bytes_13]
    have e : b = _ := x0
    rw [x1, x2, x3, x4] at e
    rw [e]
    simp only [List.append_assoc, List.nil_append, List.append_nil]
end Go.Proofs.Ytohnlhklijpafaa.Pure
