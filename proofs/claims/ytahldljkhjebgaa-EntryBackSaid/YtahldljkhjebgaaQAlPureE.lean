/- Plain laws on the mirror of chapter 4's functions, part E: an entry's bytes are got as it was; bytes that are got are put as they were. -/
import Derived.Test.YtahldljkhjebgaaQAlPureD
namespace Go.Proofs.Ytahldljkhjebgaa.Pure
open Go.RowKit Go.Proofs.Ytahldljkhjebgaa.PA Go.Proofs.YtahldljkhjebgaaW.PrintWords Go.Proofs.YtahldljkhjebgaaW.PrintLast Go.Proofs.YtahldljkhjebgaaW.PrintMore
set_option linter.unusedVariables false
set_option linter.unusedSimpArgs false

def ERR : Int × Int × Int × Int × Int × Bool × Int × Int × Int × List Int × List Int × Int := (0, 0, 0, 0, 0, false, 0, 0, 0, [], [], 40)
theorem fin_bad {k ls ep o st : Int} {un : Bool} {tr co mk : Int} {l9 l10 : List Int} {und : Int} {s : RS} (h : doneI s ≠ 0) : getFin k ls ep o st un tr co mk l9 l10 und s = ERR := by
  unfold getFin; rw [show (doneI s != 0) = true by simpa using h]; rfl
theorem fin_ok {k ls ep o st : Int} {un : Bool} {tr co mk : Int} {l9 l10 : List Int} {und : Int} {s : RS} (hs : doneI s = 0) (hu : und ≤ 1) (h : entryOk k ls ep o st un tr co mk l9.length l10.length = true) : getFin k ls ep o st un tr co mk l9 l10 und s = (k, ls, ep, o, st, un, tr, co, mk, l9, l10, 0) := by
  unfold getFin; rw [hs, h, decide_eq_false (by omega)]; rfl
theorem fin_so {k ls ep o st : Int} {un : Bool} {tr co mk : Int} {l9 l10 : List Int} {und : Int} {s : RS} : getFin k ls ep o st un tr co mk l9 l10 und s = ERR ∨ (doneI s = 0 ∧ und ≤ 1 ∧ entryOk k ls ep o st un tr co mk l9.length l10.length = true ∧ getFin k ls ep o st un tr co mk l9 l10 und s = (k, ls, ep, o, st, un, tr, co, mk, l9, l10, 0)) := by
  by_cases h1 : doneI s = 0
  · by_cases h2 : und ≤ 1
    · cases h3 : entryOk k ls ep o st un tr co mk l9.length l10.length with
      | true => exact .inr ⟨h1, h2, rfl, fin_ok h1 h2 h3⟩
      | false => left; unfold getFin; rw [h1, h3, decide_eq_false (by omega)]; rfl
    · left; unfold getFin; rw [h1, decide_eq_true (by omega)]; rfl
  · exact .inl (fin_bad h1)
theorem fit_so {ls ep o mk : Int} (h : entryFit ls ep o mk = true) : 0 ≤ ls ∧ ls < 18446744073709551616 ∧ 0 ≤ ep ∧ ep < 4294967296 ∧ 0 ≤ o ∧ o < 4294967296 ∧ 0 ≤ mk ∧ mk < 18446744073709551616 := by
  simp only [entryFit, Bool.and_eq_true, decide_eq_true_eq] at h
  omega
theorem bitI_le (b : Bool) : 0 ≤ bitI b ∧ bitI b ≤ 1 := by cases b <;> decide
theorem bitI_eq (b : Bool) : (bitI b == 1) = b := by cases b <;> rfl
theorem getM_open (l : List Int) : getM l = getKind (rd1 (l, false)) (rd8 (rdN 1 (l, false))) (rd4 (rdN 8 (rdN 1 (l, false)))) (rdN 4 (rdN 8 (rdN 1 (l, false)))) := rfl
/-- the head of an entry's bytes -/
theorem head_is {k ls ep : Int} (r : List Int) (hk0 : 0 ≤ k) (hk1 : k < 256) (h0 : 0 ≤ ls) (h1 : ls < 18446744073709551616) (h2 : 0 ≤ ep) (h3 : ep < 4294967296) : getM (bigE k 1 ++ (bigE ls 8 ++ (bigE ep 4 ++ r))) = getKind k ls ep (r, false) := by
  rw [getM_open, rd1_app _ hk0 hk1, rdN_app, rd8_app _ h0 h1, rdN_app, rd4_app _ h2 h3, rdN_app]
theorem zero_so {o st : Int} {un : Bool} {tr co mk : Int} {n9 n10 : Nat} (h : zeroB o st un tr co mk n9 n10 = true) : o = 0 ∧ st = 0 ∧ un = false ∧ tr = 0 ∧ co = 0 ∧ mk = 0 ∧ n9 = 0 ∧ n10 = 0 := by
  simp [zeroB] at h
  exact h
theorem got_more {k ls ep o st : Int} {un : Bool} {tr co mk : Int} {l9 l10 : List Int} (hok : entryOk k ls ep o st un tr co mk l9.length l10.length = true) (hf : entryFit ls ep o mk = true) (r : List Int) :
    ∃ und, und ≤ 1 ∧ getM (entryBytes k ls ep o st un tr co mk l9 l10 ++ r) = getFin k ls ep o st un tr co mk l9 l10 und (r, false) := by
  obtain ⟨b0, b1, b2, b3, b4, b5, b6, b7⟩ := fit_so hf
  obtain ⟨g9, g10⟩ := ok_lens hok
  rcases ok_kind hok with rfl | rfl | rfl | rfl | rfl | rfl | rfl
  · have hz : zeroB o st un tr co mk l9.length l10.length = true := by simp [entryOk, Bool.cond_eq_ite] at hok; exact hok.2.2
    obtain ⟨rfl, rfl, rfl, rfl, rfl, rfl, e9, e10⟩ := zero_so hz
    obtain rfl := List.eq_nil_of_length_eq_zero e9; obtain rfl := List.eq_nil_of_length_eq_zero e10
    exact ⟨0, by decide, by simp only [entryBytes, Int.reduceBEq, cond_false, cond_true, List.append_assoc, List.nil_append]; rw [head_is _ (by decide) (by decide) b0 b1 b2 b3]; rfl⟩
  · have hz : zeroB 0 st un tr co mk 0 0 = true := by simp [entryOk, Bool.cond_eq_ite] at hok; exact hok.2.2.2
    obtain ⟨_, rfl, rfl, rfl, rfl, rfl, _, _⟩ := zero_so hz
    refine ⟨0, by decide, ?_⟩
    simp only [entryBytes, Int.reduceBEq, cond_false, cond_true, List.append_assoc, List.nil_append]
    rw [head_is _ (by decide) (by decide) b0 b1 b2 b3]
    simp only [getKind, Int.reduceBEq, cond_false, cond_true]
    rw [rd4_app _ b4 b5, rdN_app, rdT_app (by omega), tx_app (by omega), rdNT_app (by omega), rdT_app (by omega), tx_app (by omega), rdNT_app (by omega)]
  · have hz : zeroB 0 0 false 0 co mk l9.length l10.length = true ∧ 0 ≤ st ∧ st < 16 ∧ 1 ≤ tr ∧ tr ≤ 255 := by simp [entryOk, Bool.cond_eq_ite] at hok; refine ⟨hok.2.2.2, ?_⟩; omega
    obtain ⟨hz, c0, c1, c2, c3⟩ := hz
    obtain ⟨_, _, _, _, rfl, rfl, e9, e10⟩ := zero_so hz
    obtain rfl := List.eq_nil_of_length_eq_zero e9; obtain rfl := List.eq_nil_of_length_eq_zero e10
    obtain ⟨u0, u1⟩ := bitI_le un
    refine ⟨bitI un, u1, ?_⟩
    simp only [entryBytes, Int.reduceBEq, cond_false, cond_true, List.append_assoc, List.nil_append]
    rw [head_is _ (by decide) (by decide) b0 b1 b2 b3]
    simp only [getKind, Int.reduceBEq, cond_false, cond_true]
    rw [rd4_app _ b4 b5, rdN_app, rd1_app _ c0 (by omega), rdN_app, rd1_app _ u0 (by omega), rdN_app, rd1_app _ (by omega) (by omega), rdN_app, bitI_eq]
  · have hz : zeroB 0 0 false 0 0 mk l9.length l10.length = true ∧ 0 ≤ st ∧ st < 16 ∧ 1 ≤ tr ∧ tr ≤ 255 ∧ 1 ≤ co ∧ co ≤ 3 := by simp [entryOk, Bool.cond_eq_ite] at hok; refine ⟨hok.2.2.2, ?_⟩; omega
    obtain ⟨hz, c0, c1, c2, c3, c4, c5⟩ := hz
    obtain ⟨_, _, _, _, _, rfl, e9, e10⟩ := zero_so hz
    obtain rfl := List.eq_nil_of_length_eq_zero e9; obtain rfl := List.eq_nil_of_length_eq_zero e10
    obtain ⟨u0, u1⟩ := bitI_le un
    refine ⟨bitI un, u1, ?_⟩
    simp only [entryBytes, Int.reduceBEq, cond_false, cond_true, List.append_assoc, List.nil_append]
    rw [head_is _ (by decide) (by decide) b0 b1 b2 b3]
    simp only [getKind, Int.reduceBEq, cond_false, cond_true]
    rw [rd4_app _ b4 b5, rdN_app, rd1_app _ c0 (by omega), rdN_app, rd1_app _ u0 (by omega), rdN_app, rd1_app _ (by omega) (by omega), rdN_app, rd1_app _ (by omega) (by omega), rdN_app, bitI_eq]
  · have hz : zeroB 0 st un tr 0 mk l9.length l10.length = true ∧ 1 ≤ co ∧ co ≤ 3 := by simp [entryOk, Bool.cond_eq_ite] at hok; refine ⟨hok.2.2.2, ?_⟩; omega
    obtain ⟨hz, c4, c5⟩ := hz
    obtain ⟨_, rfl, rfl, rfl, _, rfl, e9, e10⟩ := zero_so hz
    obtain rfl := List.eq_nil_of_length_eq_zero e9; obtain rfl := List.eq_nil_of_length_eq_zero e10
    refine ⟨0, by decide, ?_⟩
    simp only [entryBytes, Int.reduceBEq, cond_false, cond_true, List.append_assoc, List.nil_append]
    rw [head_is _ (by decide) (by decide) b0 b1 b2 b3]
    simp only [getKind, Int.reduceBEq, cond_false, cond_true]
    rw [rd4_app _ b4 b5, rdN_app, rd1_app _ (by omega) (by omega), rdN_app]
  · have hz : zeroB o st un tr 0 mk l9.length l10.length = true ∧ 1 ≤ co ∧ co ≤ 3 := by simp [entryOk, Bool.cond_eq_ite] at hok; refine ⟨hok.2.2.2, ?_⟩; omega
    obtain ⟨hz, c4, c5⟩ := hz
    obtain ⟨rfl, rfl, rfl, rfl, _, rfl, e9, e10⟩ := zero_so hz
    obtain rfl := List.eq_nil_of_length_eq_zero e9; obtain rfl := List.eq_nil_of_length_eq_zero e10
    refine ⟨0, by decide, ?_⟩
    simp only [entryBytes, Int.reduceBEq, cond_false, cond_true, List.append_assoc, List.nil_append]
    rw [head_is _ (by decide) (by decide) b0 b1 b2 b3]
    simp only [getKind, Int.reduceBEq, cond_false, cond_true]
    rw [rd1_app _ (by omega) (by omega), rdN_app]
  · have hz : zeroB o st un tr co 0 l9.length l10.length = true := by simp [entryOk, Bool.cond_eq_ite] at hok; exact hok.2.2.2
    obtain ⟨rfl, rfl, rfl, rfl, rfl, _, e9, e10⟩ := zero_so hz
    obtain rfl := List.eq_nil_of_length_eq_zero e9; obtain rfl := List.eq_nil_of_length_eq_zero e10
    refine ⟨0, by decide, ?_⟩
    simp only [entryBytes, Int.reduceBEq, cond_false, cond_true, List.append_assoc, List.nil_append]
    rw [head_is _ (by decide) (by decide) b0 b1 b2 b3]
    simp only [getKind, Int.reduceBEq, cond_false, cond_true]
    rw [rd8_app _ b6 b7, rdN_app]
theorem got {k ls ep o st : Int} {un : Bool} {tr co mk : Int} {l9 l10 : List Int} (hok : entryOk k ls ep o st un tr co mk l9.length l10.length = true) (hf : entryFit ls ep o mk = true) :
    getM (entryBytes k ls ep o st un tr co mk l9 l10) = (k, ls, ep, o, st, un, tr, co, mk, l9, l10, 0) := by
  obtain ⟨u, hu, h⟩ := got_more hok hf []
  rw [List.append_nil] at h
  rw [h, fin_ok rfl hu hok]
theorem got_bad {k ls ep o st : Int} {un : Bool} {tr co mk : Int} {l9 l10 : List Int} (hok : entryOk k ls ep o st un tr co mk l9.length l10.length = true) (hf : entryFit ls ep o mk = true) (x : Int) :
    getM (entryBytes k ls ep o st un tr co mk l9 l10 ++ [x]) = ERR := by
  obtain ⟨u, hu, h⟩ := got_more hok hf [x]
  rw [h, fin_bad (by simp [doneI])]
theorem drop_last {a : List Int} {n : Int} {s : Nat} : (a ++ bigE n (s + 1)).dropLast = a ++ (bigE n (s + 1)).dropLast := by
  rw [List.dropLast_append_of_ne_nil]
  intro h
  have := bigE_len n (s + 1)
  rw [h] at this; exact absurd this (by simp)
theorem short_n (n : Int) (s : Nat) : doneI (rdN (s + 1) ((bigE n (s + 1)).dropLast, false)) ≠ 0 := by
  rw [done_short (rdN_short (.inr (by simp [bigE_len])))]; decide
/-- a byte fewer -/
theorem got_less {k ls ep o st : Int} {un : Bool} {tr co mk : Int} {l9 l10 : List Int} (hok : entryOk k ls ep o st un tr co mk l9.length l10.length = true) (hf : entryFit ls ep o mk = true) :
    getM (entryBytes k ls ep o st un tr co mk l9 l10).dropLast = ERR := by
  obtain ⟨b0, b1, b2, b3, b4, b5, b6, b7⟩ := fit_so hf
  obtain ⟨g9, g10⟩ := ok_lens hok
  rcases ok_kind hok with rfl | rfl | rfl | rfl | rfl | rfl | rfl
  · simp only [entryBytes, Int.reduceBEq, cond_false, cond_true, List.nil_append]
    rw [drop_last, List.append_assoc, getM_open, rd1_app _ (by decide) (by decide), rdN_app, rd8_app _ b0 b1, rdN_app]
    simp only [getKind, Int.reduceBEq, cond_false]
    exact fin_bad (short_n ep 3)
  · have e : (entryBytes 2 ls ep o st un tr co mk l9 l10).dropLast = bigE 2 1 ++ (bigE ls 8 ++ (bigE ep 4 ++ (bigE o 4 ++ (bigE (l9.length : Int) 1 ++ (l9 ++ (bigE (l10.length : Int) 1 ++ l10).dropLast))))) := by
      simp only [entryBytes, Int.reduceBEq, cond_false, cond_true, List.nil_append]
      rw [List.append_assoc _ _ l10, List.dropLast_append_of_ne_nil (by intro h; have := congrArg List.length h; simp [bigE_len] at this)]
      simp only [List.append_assoc]
    rw [e, head_is _ (by decide) (by decide) b0 b1 b2 b3]
    simp only [getKind, Int.reduceBEq, cond_false, cond_true]
    rw [rdN_app, tx_app (by omega), rdNT_app (by omega)]
    exact fin_bad (by rw [done_short (txN_short (by omega))]; decide)
  · have hz : 0 ≤ st ∧ st < 16 ∧ 1 ≤ tr ∧ tr ≤ 255 := by simp [entryOk, Bool.cond_eq_ite] at hok; omega
    obtain ⟨c0, c1, c2, c3⟩ := hz
    simp only [entryBytes, Int.reduceBEq, cond_false, cond_true, List.nil_append]
    rw [drop_last]
    simp only [List.append_assoc]
    rw [head_is _ (by decide) (by decide) b0 b1 b2 b3]
    simp only [getKind, Int.reduceBEq, cond_false, cond_true, rdN_app]
    exact fin_bad (short_n _ 0)
  · simp only [entryBytes, Int.reduceBEq, cond_false, cond_true, List.nil_append]
    rw [drop_last]
    simp only [List.append_assoc]
    rw [head_is _ (by decide) (by decide) b0 b1 b2 b3]
    simp only [getKind, Int.reduceBEq, cond_false, cond_true, rdN_app]
    exact fin_bad (short_n _ 0)
  · simp only [entryBytes, Int.reduceBEq, cond_false, cond_true, List.nil_append]
    rw [drop_last]
    simp only [List.append_assoc]
    rw [head_is _ (by decide) (by decide) b0 b1 b2 b3]
    simp only [getKind, Int.reduceBEq, cond_false, cond_true, rdN_app]
    exact fin_bad (short_n _ 0)
  · simp only [entryBytes, Int.reduceBEq, cond_false, cond_true, List.nil_append]
    rw [drop_last]
    simp only [List.append_assoc]
    rw [head_is _ (by decide) (by decide) b0 b1 b2 b3]
    simp only [getKind, Int.reduceBEq, cond_false, cond_true, rdN_app]
    exact fin_bad (short_n _ 0)
  · simp only [entryBytes, Int.reduceBEq, cond_false, cond_true, List.nil_append]
    rw [drop_last]
    simp only [List.append_assoc]
    rw [head_is _ (by decide) (by decide) b0 b1 b2 b3]
    simp only [getKind, Int.reduceBEq, cond_false, cond_true, rdN_app]
    exact fin_bad (short_n _ 7)
/-- what was short stays short -/
theorem long_n {n : Nat} {s : RS} (h : (rdN n s).2 = false) : s.2 = false := (back_n h).1
/-- bytes that are got are the bytes of what is got -/
theorem put_back {b : List Int} (hb : bytesIn b) {k ls ep o st : Int} {un : Bool} {tr co mk : Int} {l9 l10 : List Int} {e : Int} (h : getM b = (k, ls, ep, o, st, un, tr, co, mk, l9, l10, e)) (he : e ≠ 40) :
    e = 0 ∧ entryOk k ls ep o st un tr co mk l9.length l10.length = true ∧ entryFit ls ep o mk = true ∧ entryBytes k ls ep o st un tr co mk l9 l10 = b ∧ bytesIn l9 ∧ bytesIn l10 := by
  rw [getM_open] at h
  generalize hs1 : rdN 1 (b, false) = s1 at h
  generalize hs2 : rdN 8 s1 = s2 at h
  generalize hs3 : rdN 4 s2 = s3 at h
  have hb1 : bytesIn s1.1 := by rw [← hs1]; exact bytes_rdN hb 1
  have hb2 : bytesIn s2.1 := by rw [← hs2]; exact bytes_rdN hb1 8
  have hb3 : bytesIn s3.1 := by rw [← hs3]; exact bytes_rdN hb2 4
  have key : s3.2 = false → b = bigE (rd1 (b, false)) 1 ++ (bigE (rd8 s1) 8 ++ (bigE (rd4 s2) 4 ++ s3.1)) ∧ 0 ≤ rd1 (b, false) ∧ rd1 (b, false) < 256 ∧ 0 ≤ rd8 s1 ∧ rd8 s1 < 18446744073709551616 ∧ 0 ≤ rd4 s2 ∧ rd4 s2 < 4294967296 := by
    intro h3
    rw [← hs3] at h3
    have h2 := long_n h3
    obtain ⟨x3, y3, z3⟩ := back_4 h3 hb2
    rw [← hs2] at h2
    have h1 := long_n h2
    obtain ⟨x2, y2, z2⟩ := back_8 h2 hb1
    rw [← hs1] at h1
    obtain ⟨x1, y1, z1⟩ := back_1 (s := (b, false)) h1 hb
    rw [hs1] at x1; rw [hs2] at x2; rw [hs3] at x3
    refine ⟨?_, y1, z1, y2, z2, y3, z3⟩
    rw [← x3, ← x2]; exact x1
  unfold getKind at h
  generalize rd1 (b, false) = K at h key
  generalize rd8 s1 = L at h key
  generalize rd4 s2 = E at h key
  have fitE : ∀ {O M : Int}, 0 ≤ L → L < 18446744073709551616 → 0 ≤ E → E < 4294967296 → 0 ≤ O → O < 4294967296 → 0 ≤ M → M < 18446744073709551616 → entryFit L E O M = true := by
    intro O M a b c d e f g i; simp [entryFit, a, b, c, d, e, f, g, i]
  have nil : bytesIn [] := fun x hx => absurd hx (by simp)
  have no : ∀ {P : Prop}, ERR = (k, ls, ep, o, st, un, tr, co, mk, l9, l10, e) → P := by
    intro P hE; simp only [ERR, Prod.mk.injEq] at hE; exact absurd hE.2.2.2.2.2.2.2.2.2.2.2.symm he
  by_cases k2 : K = 2
  · subst k2
    simp only [Int.reduceBEq, cond_true] at h
    generalize hs4 : rdN 4 s3 = s4 at h
    generalize hs5 : rdN (txN s4) s4 = s5 at h
    generalize hs6 : rdN (txN s5) s5 = s6 at h
    have hb4 : bytesIn s4.1 := by rw [← hs4]; exact bytes_rdN hb3 4
    have hb5 : bytesIn s5.1 := by rw [← hs5]; exact bytes_rdN hb4 _
    rcases fin_so (k := 2) (ls := L) (ep := E) (o := rd4 s3) (st := 0) (un := false) (tr := 0) (co := 0) (mk := 0) (l9 := rdT s4) (l10 := rdT s5) (und := 0) (s := s6) with q | ⟨d0, _, ok, q⟩
    · rw [q] at h; exact no h
    · rw [q] at h
      simp only [Prod.mk.injEq] at h
      obtain ⟨rfl, rfl, rfl, rfl, rfl, rfl, rfl, rfl, rfl, rfl, rfl, rfl⟩ := h
      obtain ⟨t6, n6⟩ := done_0 d0
      rw [← hs6] at t6
      obtain ⟨x6, y6, z6⟩ := back_T t6 hb5
      have t5 := long_n t6; rw [← hs5] at t5
      obtain ⟨x5, y5, z5⟩ := back_T t5 hb4
      have t4 := long_n t5; rw [← hs4] at t4
      obtain ⟨x4, y4, z4⟩ := back_4 t4 hb3
      obtain ⟨x0, p0, p1, p2, p3, p4, p5⟩ := key (long_n t4)
      rw [hs6, n6] at x6; rw [hs5] at x5; rw [hs4] at x4
      refine ⟨rfl, ok, fitE p2 p3 p4 p5 y4 z4 (by decide) (by decide), ?_, z5, z6⟩
      rw [x0, x4, x5, x6]
      simp [entryBytes]
  by_cases k3 : K = 3
  · subst k3
    simp only [Int.reduceBEq, cond_true, cond_false] at h
    generalize hs4 : rdN 4 s3 = s4 at h
    generalize hs5 : rdN 1 s4 = s5 at h
    generalize hs6 : rdN 1 s5 = s6 at h
    generalize hs7 : rdN 1 s6 = s7 at h
    have hb4 : bytesIn s4.1 := by rw [← hs4]; exact bytes_rdN hb3 4
    have hb5 : bytesIn s5.1 := by rw [← hs5]; exact bytes_rdN hb4 _
    have hb6 : bytesIn s6.1 := by rw [← hs6]; exact bytes_rdN hb5 _
    rcases fin_so (k := 3) (ls := L) (ep := E) (o := rd4 s3) (st := rd1 s4) (un := rd1 s5 == 1) (tr := rd1 s6) (co := 0) (mk := 0) (l9 := []) (l10 := []) (und := rd1 s5) (s := s7) with q | ⟨d0, hu, ok, q⟩
    · rw [q] at h; exact no h
    · rw [q] at h
      simp only [Prod.mk.injEq] at h
      obtain ⟨rfl, rfl, rfl, rfl, rfl, rfl, rfl, rfl, rfl, rfl, rfl, rfl⟩ := h
      obtain ⟨t7, n7⟩ := done_0 d0
      rw [← hs7] at t7
      obtain ⟨x7, y7, z7⟩ := back_1 t7 hb6
      have t6 := long_n t7; rw [← hs6] at t6
      obtain ⟨x6, y6, z6⟩ := back_1 t6 hb5
      have t5 := long_n t6; rw [← hs5] at t5
      obtain ⟨x5, y5, z5⟩ := back_1 t5 hb4
      have t4 := long_n t5; rw [← hs4] at t4
      obtain ⟨x4, y4, z4⟩ := back_4 t4 hb3
      obtain ⟨x0, p0, p1, p2, p3, p4, p5⟩ := key (long_n t4)
      rw [hs7, n7] at x7; rw [hs6] at x6; rw [hs5] at x5; rw [hs4] at x4
      refine ⟨rfl, ok, fitE p2 p3 p4 p5 y4 z4 (by decide) (by decide), ?_, nil, nil⟩
      have hbit : bitI (rd1 s5 == 1) = rd1 s5 := by
        have : rd1 s5 = 0 ∨ rd1 s5 = 1 := by omega
        rcases this with e | e <;> rw [e] <;> rfl
      rw [x0, x4, x5, x6, x7]
      simp [entryBytes, hbit]
  by_cases k4 : K = 4
  · subst k4
    simp only [Int.reduceBEq, cond_true, cond_false] at h
    generalize hs4 : rdN 4 s3 = s4 at h
    generalize hs5 : rdN 1 s4 = s5 at h
    generalize hs6 : rdN 1 s5 = s6 at h
    generalize hs7 : rdN 1 s6 = s7 at h
    generalize hs8 : rdN 1 s7 = s8 at h
    have hb4 : bytesIn s4.1 := by rw [← hs4]; exact bytes_rdN hb3 4
    have hb5 : bytesIn s5.1 := by rw [← hs5]; exact bytes_rdN hb4 _
    have hb6 : bytesIn s6.1 := by rw [← hs6]; exact bytes_rdN hb5 _
    have hb7 : bytesIn s7.1 := by rw [← hs7]; exact bytes_rdN hb6 _
    rcases fin_so (k := 4) (ls := L) (ep := E) (o := rd4 s3) (st := rd1 s4) (un := rd1 s5 == 1) (tr := rd1 s6) (co := rd1 s7) (mk := 0) (l9 := []) (l10 := []) (und := rd1 s5) (s := s8) with q | ⟨d0, hu, ok, q⟩
    · rw [q] at h; exact no h
    · rw [q] at h
      simp only [Prod.mk.injEq] at h
      obtain ⟨rfl, rfl, rfl, rfl, rfl, rfl, rfl, rfl, rfl, rfl, rfl, rfl⟩ := h
      obtain ⟨t8, n8⟩ := done_0 d0
      rw [← hs8] at t8
      obtain ⟨x8, y8, z8⟩ := back_1 t8 hb7
      have t7 := long_n t8; rw [← hs7] at t7
      obtain ⟨x7, y7, z7⟩ := back_1 t7 hb6
      have t6 := long_n t7; rw [← hs6] at t6
      obtain ⟨x6, y6, z6⟩ := back_1 t6 hb5
      have t5 := long_n t6; rw [← hs5] at t5
      obtain ⟨x5, y5, z5⟩ := back_1 t5 hb4
      have t4 := long_n t5; rw [← hs4] at t4
      obtain ⟨x4, y4, z4⟩ := back_4 t4 hb3
      obtain ⟨x0, p0, p1, p2, p3, p4, p5⟩ := key (long_n t4)
      rw [hs8, n8] at x8; rw [hs7] at x7; rw [hs6] at x6; rw [hs5] at x5; rw [hs4] at x4
      refine ⟨rfl, ok, fitE p2 p3 p4 p5 y4 z4 (by decide) (by decide), ?_, nil, nil⟩
      have hbit : bitI (rd1 s5 == 1) = rd1 s5 := by
        have : rd1 s5 = 0 ∨ rd1 s5 = 1 := by omega
        rcases this with e | e <;> rw [e] <;> rfl
      rw [x0, x4, x5, x6, x7, x8]
      simp [entryBytes, hbit]
  by_cases k5 : K = 5
  · subst k5
    simp only [Int.reduceBEq, cond_true, cond_false] at h
    generalize hs4 : rdN 4 s3 = s4 at h
    generalize hs5 : rdN 1 s4 = s5 at h
    have hb4 : bytesIn s4.1 := by rw [← hs4]; exact bytes_rdN hb3 4
    rcases fin_so (k := 5) (ls := L) (ep := E) (o := rd4 s3) (st := 0) (un := false) (tr := 0) (co := rd1 s4) (mk := 0) (l9 := []) (l10 := []) (und := 0) (s := s5) with q | ⟨d0, hu, ok, q⟩
    · rw [q] at h; exact no h
    · rw [q] at h
      simp only [Prod.mk.injEq] at h
      obtain ⟨rfl, rfl, rfl, rfl, rfl, rfl, rfl, rfl, rfl, rfl, rfl, rfl⟩ := h
      obtain ⟨t5, n5⟩ := done_0 d0
      rw [← hs5] at t5
      obtain ⟨x5, y5, z5⟩ := back_1 t5 hb4
      have t4 := long_n t5; rw [← hs4] at t4
      obtain ⟨x4, y4, z4⟩ := back_4 t4 hb3
      obtain ⟨x0, p0, p1, p2, p3, p4, p5⟩ := key (long_n t4)
      rw [hs5, n5] at x5; rw [hs4] at x4
      refine ⟨rfl, ok, fitE p2 p3 p4 p5 y4 z4 (by decide) (by decide), ?_, nil, nil⟩
      rw [x0, x4, x5]
      simp [entryBytes]
  by_cases k6 : K = 6
  · subst k6
    simp only [Int.reduceBEq, cond_true, cond_false] at h
    generalize hs4 : rdN 1 s3 = s4 at h
    rcases fin_so (k := 6) (ls := L) (ep := E) (o := 0) (st := 0) (un := false) (tr := 0) (co := rd1 s3) (mk := 0) (l9 := []) (l10 := []) (und := 0) (s := s4) with q | ⟨d0, hu, ok, q⟩
    · rw [q] at h; exact no h
    · rw [q] at h
      simp only [Prod.mk.injEq] at h
      obtain ⟨rfl, rfl, rfl, rfl, rfl, rfl, rfl, rfl, rfl, rfl, rfl, rfl⟩ := h
      obtain ⟨t4, n4⟩ := done_0 d0
      rw [← hs4] at t4
      obtain ⟨x4, y4, z4⟩ := back_1 t4 hb3
      obtain ⟨x0, p0, p1, p2, p3, p4, p5⟩ := key (long_n t4)
      rw [hs4, n4] at x4
      refine ⟨rfl, ok, fitE p2 p3 p4 p5 (by decide) (by decide) (by decide) (by decide), ?_, nil, nil⟩
      rw [x0, x4]
      simp [entryBytes]
  by_cases k7 : K = 7
  · subst k7
    simp only [Int.reduceBEq, cond_true, cond_false] at h
    generalize hs4 : rdN 8 s3 = s4 at h
    rcases fin_so (k := 7) (ls := L) (ep := E) (o := 0) (st := 0) (un := false) (tr := 0) (co := 0) (mk := rd8 s3) (l9 := []) (l10 := []) (und := 0) (s := s4) with q | ⟨d0, hu, ok, q⟩
    · rw [q] at h; exact no h
    · rw [q] at h
      simp only [Prod.mk.injEq] at h
      obtain ⟨rfl, rfl, rfl, rfl, rfl, rfl, rfl, rfl, rfl, rfl, rfl, rfl⟩ := h
      obtain ⟨t4, n4⟩ := done_0 d0
      rw [← hs4] at t4
      obtain ⟨x4, y4, z4⟩ := back_8 t4 hb3
      obtain ⟨x0, p0, p1, p2, p3, p4, p5⟩ := key (long_n t4)
      rw [hs4, n4] at x4
      refine ⟨rfl, ok, fitE p2 p3 p4 p5 (by decide) (by decide) y4 z4, ?_, nil, nil⟩
      rw [x0, x4]
      simp [entryBytes]
  · simp only [beq_eq_false_iff_ne.mpr k2, beq_eq_false_iff_ne.mpr k3, beq_eq_false_iff_ne.mpr k4, beq_eq_false_iff_ne.mpr k5, beq_eq_false_iff_ne.mpr k6, beq_eq_false_iff_ne.mpr k7, cond_false] at h
    rcases fin_so (k := K) (ls := L) (ep := E) (o := 0) (st := 0) (un := false) (tr := 0) (co := 0) (mk := 0) (l9 := []) (l10 := []) (und := 0) (s := s3) with q | ⟨d0, hu, ok, q⟩
    · rw [q] at h; exact no h
    · rw [q] at h
      simp only [Prod.mk.injEq] at h
      obtain ⟨rfl, rfl, rfl, rfl, rfl, rfl, rfl, rfl, rfl, rfl, rfl, rfl⟩ := h
      have k1 : K = 1 := by
        rcases ok_kind ok with h | h | h | h | h | h | h
        · exact h
        all_goals (exfalso; first | exact k2 h | exact k3 h | exact k4 h | exact k5 h | exact k6 h | exact k7 h)
      subst k1
      obtain ⟨t4, n4⟩ := done_0 d0
      obtain ⟨x0, p0, p1, p2, p3, p4, p5⟩ := key t4
      rw [n4] at x0
      refine ⟨rfl, ok, fitE p2 p3 p4 p5 (by decide) (by decide) (by decide) (by decide), ?_, nil, nil⟩
      rw [x0]
      simp [entryBytes]
end Go.Proofs.Ytahldljkhjebgaa.Pure
