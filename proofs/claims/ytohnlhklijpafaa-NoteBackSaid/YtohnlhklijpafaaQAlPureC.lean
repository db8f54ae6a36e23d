/- Plain laws on the mirror of chapter 5's functions, part C: what is put is got, over all kinds; the law NoteBack. -/
import Derived.Test.YtohnlhklijpafaaQAlPAx1
import Derived.Test.YtohnlhklijpafaaQAlPAx2
import Derived.Test.YtohnlhklijpafaaQAlPAx4
import Derived.Test.YtohnlhklijpafaaQAlPAx5
import Derived.Test.YtohnlhklijpafaaQAlPureB
namespace Go.Proofs.Ytohnlhklijpafaa.Pure
open Go.RowKit Go.Proofs.Ytohnlhklijpafaa.PA Go.Proofs.YtohnlhklijpafaaW.PrintWords Go.Proofs.YtohnlhklijpafaaW.PrintLast Go.Proofs.YtohnlhklijpafaaW.PrintMore
set_option linter.unusedVariables false
set_option linter.unusedSimpArgs false

theorem kinds {k : Int} (h : 1 ≤ k ∧ k ≤ 13) : k = 1 ∨ k = 2 ∨ k = 3 ∨ k = 4 ∨ k = 5 ∨ k = 6 ∨ k = 7 ∨ k = 8 ∨ k = 9 ∨ k = 10 ∨ k = 11 ∨ k = 12 ∨ k = 13 := by omega
theorem NERR_e : NERR.2.2.2.2.2.2.2.2.2.2.2 = 50 := rfl
theorem NERR_k : NERR.1 = 0 := rfl
theorem got {k ep ol ls ti o st : Int} {un : Bool} {co : Int} {l9 l10 : List Int} (h : noteBad k ep ol ls ti o st un co l9.length l10.length = false) (f : noteFit ep ol ls ti o = true) : noteGet (noteB (nameStr k) k ep ol ls ti o st un co l9 l10 (nameStr k).size) = (k, ep, ol, ls, ti, o, st, un, co, l9, l10, 0) := by
  obtain ⟨k0, k1, s0, s1, c0, c1, t9, t10⟩ := note_fits h
  rcases kinds ⟨k0, k1⟩ with rfl | rfl | rfl | rfl | rfl | rfl | rfl | rfl | rfl | rfl | rfl | rfl | rfl
  · obtain ⟨rfl, rfl, rfl, rfl, rfl, rfl⟩ := zero_1 h f
    have e := more_1 (ti := 0) (o := 0) (un := false) f s0 s1 c0 c1 t9 t10 []
    rw [List.append_nil] at e
    rw [e]
    exact fin_ok rfl (show (0 : Int) ≤ 1 by decide) h
  · obtain ⟨rfl, rfl, rfl, rfl, rfl, rfl, rfl, rfl⟩ := zero_2 h f
    have e := more_2 (ol := 0) (ti := 0) (o := 0) (un := false) f s0 s1 c0 c1 t9 t10 []
    rw [List.append_nil] at e
    rw [e]
    exact fin_ok rfl (show (0 : Int) ≤ 1 by decide) h
  · obtain ⟨rfl, rfl, rfl, rfl, rfl, rfl, rfl, rfl⟩ := zero_3 h f
    have e := more_3 (ol := 0) (ti := 0) (o := 0) (un := false) f s0 s1 c0 c1 t9 t10 []
    rw [List.append_nil] at e
    rw [e]
    exact fin_ok rfl (show (0 : Int) ≤ 1 by decide) h
  · obtain ⟨rfl, rfl, rfl, rfl, rfl, rfl, rfl, rfl⟩ := zero_4 h f
    have e := more_4 (ol := 0) (ls := 0) (ti := 0) (o := 0) (un := false) f s0 s1 c0 c1 t9 t10 []
    rw [List.append_nil] at e
    rw [e]
    exact fin_ok rfl (show (0 : Int) ≤ 1 by decide) h
  · obtain ⟨rfl, rfl, rfl, rfl, rfl, rfl, rfl⟩ := zero_5 h f
    have e := more_5 (ol := 0) (ls := 0) (o := 0) (un := false) f s0 s1 c0 c1 t9 t10 []
    rw [List.append_nil] at e
    rw [e]
    exact fin_ok rfl (show (0 : Int) ≤ 1 by decide) h
  · obtain ⟨rfl, rfl, rfl, rfl, rfl, rfl, rfl, rfl⟩ := zero_6 h f
    have e := more_6 (ol := 0) (ls := 0) (ti := 0) (o := 0) (un := false) f s0 s1 c0 c1 t9 t10 []
    rw [List.append_nil] at e
    rw [e]
    exact fin_ok rfl (show (0 : Int) ≤ 1 by decide) h
  · obtain ⟨rfl, rfl, rfl, rfl, rfl⟩ := zero_7 h f
    have e := more_7 (ol := 0) (ls := 0) (ti := 0) (un := un) f s0 s1 c0 c1 t9 t10 []
    rw [List.append_nil] at e
    rw [e]
    exact fin_ok rfl (bitI_le _).2 h
  · obtain ⟨rfl, rfl, rfl, rfl⟩ := zero_8 h f
    have e := more_8 (ol := 0) (ls := 0) (ti := 0) (un := un) f s0 s1 c0 c1 t9 t10 []
    rw [List.append_nil] at e
    rw [e]
    exact fin_ok rfl (bitI_le _).2 h
  · obtain ⟨rfl, rfl, rfl, rfl, rfl, rfl⟩ := zero_9 h f
    have e := more_9 (ol := 0) (ls := 0) (ti := 0) (un := un) f s0 s1 c0 c1 t9 t10 []
    rw [List.append_nil] at e
    rw [e]
    exact fin_ok rfl (bitI_le _).2 h
  · obtain ⟨rfl, rfl, rfl, rfl, rfl, rfl, rfl, rfl⟩ := zero_10 h f
    have e := more_10 (ep := 0) (ol := 0) (ls := 0) (ti := 0) (o := 0) (un := false) f s0 s1 c0 c1 t9 t10 []
    rw [List.append_nil] at e
    rw [e]
    exact fin_ok rfl (show (0 : Int) ≤ 1 by decide) h
  · obtain ⟨rfl, rfl, rfl, rfl, rfl, rfl, rfl, rfl, rfl⟩ := zero_11 h f
    have e := more_11 (ep := 0) (ol := 0) (ls := 0) (ti := 0) (o := 0) (un := false) f s0 s1 c0 c1 t9 t10 []
    rw [List.append_nil] at e
    rw [e]
    exact fin_ok rfl (show (0 : Int) ≤ 1 by decide) h
  · obtain ⟨rfl, rfl, rfl, rfl, rfl, rfl, rfl, rfl, rfl⟩ := zero_12 h f
    have e := more_12 (ep := 0) (ol := 0) (ls := 0) (ti := 0) (o := 0) (un := false) f s0 s1 c0 c1 t9 t10 []
    rw [List.append_nil] at e
    rw [e]
    exact fin_ok rfl (show (0 : Int) ≤ 1 by decide) h
  · obtain ⟨rfl, rfl, rfl, rfl, rfl, rfl⟩ := zero_13 h f
    have e := more_13 (ep := 0) (ol := 0) (ls := 0) (ti := 0) (un := false) f s0 s1 c0 c1 t9 t10 []
    rw [List.append_nil] at e
    rw [e]
    exact fin_ok rfl (show (0 : Int) ≤ 1 by decide) h
theorem got_bad {k ep ol ls ti o st : Int} {un : Bool} {co : Int} {l9 l10 : List Int} (h : noteBad k ep ol ls ti o st un co l9.length l10.length = false) (f : noteFit ep ol ls ti o = true) (x : Int) : noteGet (noteB (nameStr k) k ep ol ls ti o st un co l9 l10 (nameStr k).size ++ [x]) = NERR := by
  obtain ⟨k0, k1, s0, s1, c0, c1, t9, t10⟩ := note_fits h
  rcases kinds ⟨k0, k1⟩ with rfl | rfl | rfl | rfl | rfl | rfl | rfl | rfl | rfl | rfl | rfl | rfl | rfl
  · obtain ⟨rfl, rfl, rfl, rfl, rfl, rfl⟩ := zero_1 h f
    rw [more_1 (ti := 0) (o := 0) (un := false) f s0 s1 c0 c1 t9 t10 [x]]
    exact bad_fin (by simp [doneI])
  · obtain ⟨rfl, rfl, rfl, rfl, rfl, rfl, rfl, rfl⟩ := zero_2 h f
    rw [more_2 (ol := 0) (ti := 0) (o := 0) (un := false) f s0 s1 c0 c1 t9 t10 [x]]
    exact bad_fin (by simp [doneI])
  · obtain ⟨rfl, rfl, rfl, rfl, rfl, rfl, rfl, rfl⟩ := zero_3 h f
    rw [more_3 (ol := 0) (ti := 0) (o := 0) (un := false) f s0 s1 c0 c1 t9 t10 [x]]
    exact bad_fin (by simp [doneI])
  · obtain ⟨rfl, rfl, rfl, rfl, rfl, rfl, rfl, rfl⟩ := zero_4 h f
    rw [more_4 (ol := 0) (ls := 0) (ti := 0) (o := 0) (un := false) f s0 s1 c0 c1 t9 t10 [x]]
    exact bad_fin (by simp [doneI])
  · obtain ⟨rfl, rfl, rfl, rfl, rfl, rfl, rfl⟩ := zero_5 h f
    rw [more_5 (ol := 0) (ls := 0) (o := 0) (un := false) f s0 s1 c0 c1 t9 t10 [x]]
    exact bad_fin (by simp [doneI])
  · obtain ⟨rfl, rfl, rfl, rfl, rfl, rfl, rfl, rfl⟩ := zero_6 h f
    rw [more_6 (ol := 0) (ls := 0) (ti := 0) (o := 0) (un := false) f s0 s1 c0 c1 t9 t10 [x]]
    exact bad_fin (by simp [doneI])
  · obtain ⟨rfl, rfl, rfl, rfl, rfl⟩ := zero_7 h f
    rw [more_7 (ol := 0) (ls := 0) (ti := 0) (un := un) f s0 s1 c0 c1 t9 t10 [x]]
    exact bad_fin (by simp [doneI])
  · obtain ⟨rfl, rfl, rfl, rfl⟩ := zero_8 h f
    rw [more_8 (ol := 0) (ls := 0) (ti := 0) (un := un) f s0 s1 c0 c1 t9 t10 [x]]
    exact bad_fin (by simp [doneI])
  · obtain ⟨rfl, rfl, rfl, rfl, rfl, rfl⟩ := zero_9 h f
    rw [more_9 (ol := 0) (ls := 0) (ti := 0) (un := un) f s0 s1 c0 c1 t9 t10 [x]]
    exact bad_fin (by simp [doneI])
  · obtain ⟨rfl, rfl, rfl, rfl, rfl, rfl, rfl, rfl⟩ := zero_10 h f
    rw [more_10 (ep := 0) (ol := 0) (ls := 0) (ti := 0) (o := 0) (un := false) f s0 s1 c0 c1 t9 t10 [x]]
    exact bad_fin (by simp [doneI])
  · obtain ⟨rfl, rfl, rfl, rfl, rfl, rfl, rfl, rfl, rfl⟩ := zero_11 h f
    rw [more_11 (ep := 0) (ol := 0) (ls := 0) (ti := 0) (o := 0) (un := false) f s0 s1 c0 c1 t9 t10 [x]]
    exact bad_fin (by simp [doneI])
  · obtain ⟨rfl, rfl, rfl, rfl, rfl, rfl, rfl, rfl, rfl⟩ := zero_12 h f
    rw [more_12 (ep := 0) (ol := 0) (ls := 0) (ti := 0) (o := 0) (un := false) f s0 s1 c0 c1 t9 t10 [x]]
    exact bad_fin (by simp [doneI])
  · obtain ⟨rfl, rfl, rfl, rfl, rfl, rfl⟩ := zero_13 h f
    rw [more_13 (ep := 0) (ol := 0) (ls := 0) (ti := 0) (un := false) f s0 s1 c0 c1 t9 t10 [x]]
    exact bad_fin (by simp [doneI])
theorem got_less {k ep ol ls ti o st : Int} {un : Bool} {co : Int} {l9 l10 : List Int} (h : noteBad k ep ol ls ti o st un co l9.length l10.length = false) (f : noteFit ep ol ls ti o = true) : noteGet (noteB (nameStr k) k ep ol ls ti o st un co l9 l10 (nameStr k).size).dropLast = NERR := by
  obtain ⟨k0, k1, s0, s1, c0, c1, t9, t10⟩ := note_fits h
  rcases kinds ⟨k0, k1⟩ with rfl | rfl | rfl | rfl | rfl | rfl | rfl | rfl | rfl | rfl | rfl | rfl | rfl
  · obtain ⟨rfl, rfl, rfl, rfl, rfl, rfl⟩ := zero_1 h f
    exact less_1 (ti := 0) (o := 0) (un := false) f s0 s1 c0 c1 t9 t10
  · obtain ⟨rfl, rfl, rfl, rfl, rfl, rfl, rfl, rfl⟩ := zero_2 h f
    exact less_2 (ol := 0) (ti := 0) (o := 0) (un := false) f s0 s1 c0 c1 t9 t10
  · obtain ⟨rfl, rfl, rfl, rfl, rfl, rfl, rfl, rfl⟩ := zero_3 h f
    exact less_3 (ol := 0) (ti := 0) (o := 0) (un := false) f s0 s1 c0 c1 t9 t10
  · obtain ⟨rfl, rfl, rfl, rfl, rfl, rfl, rfl, rfl⟩ := zero_4 h f
    exact less_4 (ol := 0) (ls := 0) (ti := 0) (o := 0) (un := false) f s0 s1 c0 c1 t9 t10
  · obtain ⟨rfl, rfl, rfl, rfl, rfl, rfl, rfl⟩ := zero_5 h f
    exact less_5 (ol := 0) (ls := 0) (o := 0) (un := false) f s0 s1 c0 c1 t9 t10
  · obtain ⟨rfl, rfl, rfl, rfl, rfl, rfl, rfl, rfl⟩ := zero_6 h f
    exact less_6 (ol := 0) (ls := 0) (ti := 0) (o := 0) (un := false) f s0 s1 c0 c1 t9 t10
  · obtain ⟨rfl, rfl, rfl, rfl, rfl⟩ := zero_7 h f
    exact less_7 (ol := 0) (ls := 0) (ti := 0) (un := un) f s0 s1 c0 c1 t9 t10
  · obtain ⟨rfl, rfl, rfl, rfl⟩ := zero_8 h f
    exact less_8 (ol := 0) (ls := 0) (ti := 0) (un := un) f s0 s1 c0 c1 t9 t10
  · obtain ⟨rfl, rfl, rfl, rfl, rfl, rfl⟩ := zero_9 h f
    exact less_9 (ol := 0) (ls := 0) (ti := 0) (un := un) f s0 s1 c0 c1 t9 t10
  · obtain ⟨rfl, rfl, rfl, rfl, rfl, rfl, rfl, rfl⟩ := zero_10 h f
    exact less_10 (ep := 0) (ol := 0) (ls := 0) (ti := 0) (o := 0) (un := false) f s0 s1 c0 c1 t9 t10
  · obtain ⟨rfl, rfl, rfl, rfl, rfl, rfl, rfl, rfl, rfl⟩ := zero_11 h f
    exact less_11 (ep := 0) (ol := 0) (ls := 0) (ti := 0) (o := 0) (un := false) f s0 s1 c0 c1 t9 t10
  · obtain ⟨rfl, rfl, rfl, rfl, rfl, rfl, rfl, rfl, rfl⟩ := zero_12 h f
    exact less_12 (ep := 0) (ol := 0) (ls := 0) (ti := 0) (o := 0) (un := false) f s0 s1 c0 c1 t9 t10
  · obtain ⟨rfl, rfl, rfl, rfl, rfl, rfl⟩ := zero_13 h f
    exact less_13 (ep := 0) (ol := 0) (ls := 0) (ti := 0) (un := false) f s0 s1 c0 c1 t9 t10
/-- bytes that are got are the bytes of what is got -/
theorem put_back {b : List Int} (hb : bytesIn b) {k ep ol ls ti o st : Int} {un : Bool} {co : Int} {l9 l10 : List Int} {e : Int} (h : noteGet b = (k, ep, ol, ls, ti, o, st, un, co, l9, l10, e)) (he : e ≠ 50) :
    e = 0 ∧ noteBad k ep ol ls ti o st un co l9.length l10.length = false ∧ noteFit ep ol ls ti o = true ∧ noteB (nameStr k) k ep ol ls ti o st un co l9 l10 (nameStr k).size = b ∧ bytesIn l9 ∧ bytesIn l10 := by
  rw [getOpen] at h
  generalize hk : rd1 (b, false) = K at h
  generalize hx : nread (nameStr K) (rdN 1 (b, false)) (nameStr K).size = X at h
  rcases fin_so K X with q | ⟨d0, hu, hok, q⟩
  · rw [q] at h
    simp only [NERR, Prod.mk.injEq] at h
    exact absurd h.2.2.2.2.2.2.2.2.2.2.2.symm he
  · rw [q] at h
    simp only [Prod.mk.injEq] at h
    obtain ⟨rfl, rfl, rfl, rfl, rfl, rfl, rfl, rfl, rfl, rfl, rfl, rfl⟩ := h
    obtain ⟨t0, n0⟩ := done_0 d0
    have hs : X.s = ([], false) := Prod.ext n0 t0
    refine ⟨rfl, hok, ?_⟩
    obtain ⟨k0, k1, _⟩ := note_fits hok
    rcases kinds ⟨k0, k1⟩ with rfl | rfl | rfl | rfl | rfl | rfl | rfl | rfl | rfl | rfl | rfl | rfl | rfl
    · exact back_of_1 hb hk hx hs hu
    · exact back_of_2 hb hk hx hs hu
    · exact back_of_3 hb hk hx hs hu
    · exact back_of_4 hb hk hx hs hu
    · exact back_of_5 hb hk hx hs hu
    · exact back_of_6 hb hk hx hs hu
    · exact back_of_7 hb hk hx hs hu
    · exact back_of_8 hb hk hx hs hu
    · exact back_of_9 hb hk hx hs hu
    · exact back_of_10 hb hk hx hs hu
    · exact back_of_11 hb hk hx hs hu
    · exact back_of_12 hb hk hx hs hu
    · exact back_of_13 hb hk hx hs hu
theorem get_or (b : List Int) : noteGet b = NERR ∨ (noteGet b).2.2.2.2.2.2.2.2.2.2.2 = 0 := by
  rw [getOpen]
  rcases fin_so (rd1 (b, false)) (nread (nameStr (rd1 (b, false))) (rdN 1 (b, false)) (nameStr (rd1 (b, false))).size) with h | ⟨_, _, _, h⟩
  · exact .inl h
  · right; rw [h]
theorem bytesOk_of {l : List Int} (h : bytesIn l) (hl : l.length ≤ 1000000) : bytesOk l = true := by
  simp only [bytesOk, Bool.and_eq_true, decide_eq_true_eq, List.all_eq_true]
  exact ⟨hl, fun x hx => h x hx⟩
theorem bytes_app {a b : List Int} (ha : bytesIn a) (hb : bytesIn b) : bytesIn (a ++ b) := fun x hx => (List.mem_append.mp hx).elim (ha x) (hb x)
theorem get_is {l : List Int} (h : bytesIn l) (hl : l.length ≤ 1000000) : note_Get.f l = some (noteGet l) := by unfold note_Get.f; rw [bytesOk_of h hl]; rfl
theorem bytes_wf {l : List Int} (h : l.length ≤ maxLen ∧ ∀ x ∈ l, (Lit.int .u8 x).wf = true) : bytesIn l := fun x hx => u8_wf (h.2 x hx)

theorem part_bytes {ep ol ls ti o st : Int} {un : Bool} {co : Int} {l9 l10 : List Int} (h9 : bytesIn l9) (h10 : bytesIn l10) (q : Int) : bytesIn (partB ep ol ls ti o st un co l9 l10 q) := by
  have nil : bytesIn [] := fun x hx => absurd hx (by simp)
  unfold partB
  repeat' split
  all_goals repeat (first | exact nil | exact bigE_bytes _ _ | exact h9 | exact h10 | refine bytes_app ?_ ?_)
theorem note_bytes (s : ByteArray) {k ep ol ls ti o st : Int} {un : Bool} {co : Int} {l9 l10 : List Int} (h9 : bytesIn l9) (h10 : bytesIn l10) : ∀ n, bytesIn (noteB s k ep ol ls ti o st un co l9 l10 n)
  | 0 => bytes_app (fun x hx => absurd hx (by simp)) (bigE_bytes _ _)
  | n + 1 => bytes_app (note_bytes s h9 h10 n) (part_bytes h9 h10 _)
theorem note_len {k ep ol ls ti o st : Int} {un : Bool} {co : Int} {l9 l10 : List Int} (h : noteBad k ep ol ls ti o st un co l9.length l10.length = false) : (noteB (nameStr k) k ep ol ls ti o st un co l9 l10 (nameStr k).size).length ≤ 1600 ∧ 0 < (noteB (nameStr k) k ep ol ls ti o st un co l9 l10 (nameStr k).size).length := by
  obtain ⟨_, _, _, _, _, _, h9, h10⟩ := note_fits h
  have a := noteB_len (nameStr k) (k := k) (ep := ep) (ol := ol) (ls := ls) (ti := ti) (o := o) (st := st) (un := un) (co := co) (show l9.length ≤ 255 by omega) h10 (nameStr k).size
  have b := names_size k
  omega
theorem same_refl (k ep ol ls ti o st : Int) (un : Bool) (co : Int) (l9 l10 : List Int) : drayageref05_Same.f k ep ol ls ti o st un co l9 l10 k ep ol ls ti o st un co l9 l10 = some true := by
  unfold drayageref05_Same.f; simp
theorem long_some (k ep ol ls ti o st : Int) (un : Bool) (co : Int) (l9 l10 : List Int) : ∃ b, drayagelaw05_long.f k ep ol ls ti o st un co l9 l10 = some b := by
  unfold drayagelaw05_long.f
  repeat' split
  all_goals exact ⟨_, rfl⟩
theorem back_end {K : Nat} (hK : ∀ k, K ≤ k → drayagelaw05_known.f k = some true) {l : List Int} (hb : bytesIn l) (hl : l.length ≤ 2000) {k : Nat} (hk : K + 1 ≤ k) : drayagelaw05_NoteBack.j2 k l = some true := by
  obtain ⟨k, rfl⟩ : ∃ q, k = q + 1 := ⟨k - 1, by omega⟩
  rw [drayagelaw05_NoteBack.j2, get_is hb (by omega), Option.bind_some]
  rcases get_or l with h | h
  · rw [h, if_neg (by decide), if_pos NERR_k, if_pos NERR_e, hK k (by omega)]; rfl
  · rw [if_pos h]
    generalize hg : noteGet l = g at *
    obtain ⟨k', ep, ol, ls, ti, o, st, un, co, l9, l10, e⟩ := g
    dsimp only at h ⊢
    subst h
    obtain ⟨_, ok, fit, hp, _, _⟩ := put_back hb hg (by decide)
    rw [put_is fit, ok, cond_false, Option.bind_some, hp]
    have hs : drayageref00_Same.f l l = some true := by unfold drayageref00_Same.f; simp
    have hc : note_Check.f k' ep ol ls ti o st un co l9 l10 = some 0 := by rw [check_is, ok]; rfl
    simp only [if_true, hs, hc, Option.bind_some, hK k (by omega)]
theorem NoteBack (x0 : Int × Int × Int × Int × Int × Int × Int × Bool × Int × List Int × List Int) (a1 : Int) (l2 : List Int)
    (w0 : ((Lit.int .i64 x0.1).wf = true) ∧ ((Lit.int .u32 x0.2.1).wf = true) ∧ ((Lit.int .u32 x0.2.2.1).wf = true) ∧ ((Lit.int .u64 x0.2.2.2.1).wf = true) ∧ ((Lit.int .u64 x0.2.2.2.2.1).wf = true) ∧ ((Lit.int .u32 x0.2.2.2.2.2.1).wf = true) ∧ ((Lit.int .i64 x0.2.2.2.2.2.2.1).wf = true) ∧ True ∧ ((Lit.int .i64 x0.2.2.2.2.2.2.2.2.1).wf = true) ∧ (x0.2.2.2.2.2.2.2.2.2.1.length ≤ maxLen ∧ ∀ x ∈ x0.2.2.2.2.2.2.2.2.2.1, (Lit.int .u8 x).wf = true) ∧ (x0.2.2.2.2.2.2.2.2.2.2.length ≤ maxLen ∧ ∀ x ∈ x0.2.2.2.2.2.2.2.2.2.2, (Lit.int .u8 x).wf = true))
    (w1 : (Lit.int .u8 a1).wf = true) (w2 : l2.length ≤ maxLen ∧ ∀ x0 ∈ l2, (Lit.int .u8 x0).wf = true) :
    Ev (fun k => drayagelaw05_NoteBack.f k x0.1 x0.2.1 x0.2.2.1 x0.2.2.2.1 x0.2.2.2.2.1 x0.2.2.2.2.2.1 x0.2.2.2.2.2.2.1 x0.2.2.2.2.2.2.2.1 x0.2.2.2.2.2.2.2.2.1 x0.2.2.2.2.2.2.2.2.2.1 x0.2.2.2.2.2.2.2.2.2.2 a1 l2) true := by
  obtain ⟨k, ep, ol, ls, ti, o, st, un, co, l9, l10⟩ := x0
  obtain ⟨_, h1, h2, h3, h4, h5, _, _, _, h9, h10⟩ := w0
  dsimp only at h1 h2 h3 h4 h5 h9 h10
  obtain ⟨K, hK⟩ := known_ev
  have kn : ∀ k, K ≤ k → drayagelaw05_known.f k = some true := hK
  refine ⟨K + 5, fun n hn => ?_⟩
  show drayagelaw05_NoteBack.f n k ep ol ls ti o st un co l9 l10 a1 l2 = some true
  unfold drayagelaw05_NoteBack.f
  obtain ⟨b, hb⟩ : ∃ b, drayagelaw05_long.f k ep ol ls ti o st un co l9 l10 = some b := by
    unfold drayagelaw05_long.f
    repeat' split
    all_goals exact ⟨_, rfl⟩
  obtain ⟨n, rfl⟩ : ∃ q, n = q + 2 := ⟨n - 2, by omega⟩
  have out : drayagelaw05_NoteBack.j0 (n + 2) a1 l2 true k ep ol ls ti o st un co l9 l10 = some true := by
    rw [drayagelaw05_NoteBack.j0, if_pos rfl, kn _ (by omega)]; rfl
  rw [hb, Option.bind_some]
  cases b with
  | true => rw [if_pos rfl]; exact out
  | false =>
    rw [if_neg (by decide)]
    by_cases hl : (l2.length : Int) > 2000
    · rw [decide_eq_true hl]; exact out
    rw [decide_eq_false hl, drayagelaw05_NoteBack.j0, if_neg (by decide), put_is (fit_of h1 h2 h3 h4 h5), Option.bind_some]
    have fin : ∀ q, K + 1 ≤ q → drayagelaw05_NoteBack.j2 q l2 = some true := fun q hq => back_end kn (bytes_wf w2) (by omega) hq
    cases h : noteBad k ep ol ls ti o st un co l9.length l10.length with
    | true =>
      have hc : note_Check.f k ep ol ls ti o st un co l9 l10 = some 50 := by rw [check_is, h]; rfl
      rw [hc, Option.bind_some, cond_true]
      dsimp only
      rw [if_neg (by decide), if_neg (by decide), drayagelaw05_NoteBack.j1, if_neg (by decide), if_neg (by decide)]
      exact fin n (by omega)
    | false =>
      have hc : note_Check.f k ep ol ls ti o st un co l9 l10 = some 0 := by rw [check_is, h]; rfl
      obtain ⟨p, q⟩ := note_len h
      have hbb := note_bytes (nameStr k) (k := k) (ep := ep) (ol := ol) (ls := ls) (ti := ti) (o := o) (st := st) (un := un) (co := co) (bytes_wf h9) (bytes_wf h10) (nameStr k).size
      have g1 := got h (fit_of h1 h2 h3 h4 h5)
      have g2 := got_bad h (fit_of h1 h2 h3 h4 h5) a1
      have g3 := got_less h (fit_of h1 h2 h3 h4 h5)
      rw [hc, Option.bind_some, cond_false]
      dsimp only
      generalize noteB (nameStr k) k ep ol ls ti o st un co l9 l10 (nameStr k).size = B at *
      rw [if_neg (by decide), if_pos rfl, show ((B.length : Int) == 0) = false by simp; exact List.ne_nil_of_length_pos q, drayagelaw05_NoteBack.j1, if_neg (by decide), if_pos rfl]
      have hw : wrap64 ((B.length : Int) - 1) = ((B.length - 1 : Nat) : Int) := by rw [w64_id (by omega) (by omega)]; omega
      have hcp : drayageref00_Copy.f B = some B := by unfold drayageref00_Copy.f; rw [if_pos (by simp; omega)]; rfl
      rw [get_is hbb (by omega), Option.bind_some, hcp, Option.bind_some, if_pos (by omega), get_is (bytes_app hbb (fun x hx => by rw [List.mem_singleton] at hx; subst hx; exact u8_wf w1)) (by simp; omega), Option.bind_some, hw, if_pos (by omega), if_pos (by omega), Int.toNat_natCast, ← List.dropLast_eq_take, get_is (fun x hx => hbb x (List.dropLast_subset _ hx)) (by simp; omega), Option.bind_some, g1, g2, g3]
      dsimp only
      rw [if_pos rfl, same_refl, Option.bind_some, if_pos rfl, if_pos NERR_e, if_pos NERR_e]
      exact fin n (by omega)
end Go.Proofs.Ytohnlhklijpafaa.Pure
