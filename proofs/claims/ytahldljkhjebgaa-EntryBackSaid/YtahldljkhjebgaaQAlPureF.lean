/- Plain laws on the mirror of chapter 4's functions, part F: the law EntryBack. -/
import Derived.Test.YtahldljkhjebgaaQAlPAx1
import Derived.Test.YtahldljkhjebgaaQAlPAx4
import Derived.Test.YtahldljkhjebgaaQAlPAx5
import Derived.Test.YtahldljkhjebgaaQAlPAx9
import Derived.Test.YtahldljkhjebgaaQAlPureE
namespace Go.Proofs.Ytahldljkhjebgaa.Pure
open Go.RowKit Go.Proofs.Ytahldljkhjebgaa.PA Go.Proofs.YtahldljkhjebgaaW.PrintWords Go.Proofs.YtahldljkhjebgaaW.PrintLast Go.Proofs.YtahldljkhjebgaaW.PrintMore
set_option linter.unusedVariables false
set_option linter.unusedSimpArgs false

theorem ERR_k : ERR.1 = 0 := rfl
theorem ERR_e : ERR.2.2.2.2.2.2.2.2.2.2.2 = 40 := rfl
theorem kind_or (k ls ep : Int) (s : RS) : getKind k ls ep s = ERR ∨ (getKind k ls ep s).2.2.2.2.2.2.2.2.2.2.2 = 0 := by
  have go : ∀ {k ls ep o st : Int} {un : Bool} {tr co mk : Int} {l9 l10 : List Int} {und : Int} {s : RS}, getFin k ls ep o st un tr co mk l9 l10 und s = ERR ∨ (getFin k ls ep o st un tr co mk l9 l10 und s).2.2.2.2.2.2.2.2.2.2.2 = 0 := by
    intro k ls ep o st un tr co mk l9 l10 und s
    rcases fin_so (k := k) (ls := ls) (ep := ep) (o := o) (st := st) (un := un) (tr := tr) (co := co) (mk := mk) (l9 := l9) (l10 := l10) (und := und) (s := s) with h | ⟨_, _, _, h⟩
    · exact .inl h
    · right; rw [h]
  unfold getKind
  cases k == 2
  · cases k == 3
    · cases k == 4
      · cases k == 5
        · cases k == 6
          · cases k == 7 <;> exact go
          · exact go
        · exact go
      · exact go
    · exact go
  · exact go
theorem getM_or (b : List Int) : getM b = ERR ∨ (getM b).2.2.2.2.2.2.2.2.2.2.2 = 0 := kind_or _ _ _ _
theorem bytesOk_of {l : List Int} (h : bytesIn l) (hl : l.length ≤ 1000000) : bytesOk l = true := by
  simp only [bytesOk, Bool.and_eq_true, decide_eq_true_eq, List.all_eq_true]
  exact ⟨hl, fun x hx => h x hx⟩
theorem bytes_app {a b : List Int} (ha : bytesIn a) (hb : bytesIn b) : bytesIn (a ++ b) := fun x hx => (List.mem_append.mp hx).elim (ha x) (hb x)
theorem get_is {l : List Int} (h : bytesIn l) (hl : l.length ≤ 1000000) : entry_Get.f l = some (getM l) := by unfold entry_Get.f; rw [bytesOk_of h hl]; rfl
theorem bytes_wf {l : List Int} (h : l.length ≤ maxLen ∧ ∀ x ∈ l, (Lit.int .u8 x).wf = true) : bytesIn l := fun x hx => u8_wf (h.2 x hx)
theorem entry_bytes {k ls ep o st : Int} {un : Bool} {tr co mk : Int} {l9 l10 : List Int} (h9 : bytesIn l9) (h10 : bytesIn l10) : bytesIn (entryBytes k ls ep o st un tr co mk l9 l10) := by
  have nil : bytesIn [] := fun x hx => absurd hx (by simp)
  unfold entryBytes
  cases k == 2 <;> cases k == 3 <;> cases k == 4 <;> cases k == 5 <;> cases k == 6 <;> cases k == 7 <;> repeat (first | exact nil | exact bigE_bytes _ _ | exact h9 | exact h10 | refine bytes_app ?_ ?_)
theorem entry_len {k ls ep o st : Int} {un : Bool} {tr co mk : Int} {l9 l10 : List Int} (h : entryOk k ls ep o st un tr co mk l9.length l10.length = true) : (entryBytes k ls ep o st un tr co mk l9 l10).length ≤ 300 ∧ 0 < (entryBytes k ls ep o st un tr co mk l9 l10).length := by
  obtain ⟨a, b⟩ := ok_lens h
  rcases ok_kind h with rfl | rfl | rfl | rfl | rfl | rfl | rfl <;> simp [entryBytes, bigE_len] <;> omega
theorem same_refl (k ls ep o st : Int) (un : Bool) (tr co mk : Int) (l9 l10 : List Int) : drayageref04_Same.f k ls ep o st un tr co mk l9 l10 k ls ep o st un tr co mk l9 l10 = some true := by
  unfold drayageref04_Same.f; simp
theorem back_end {K : Nat} (hK : ∀ k, K ≤ k → drayagelaw04_known.f k = some true) {l : List Int} (hb : bytesIn l) (hl : l.length ≤ 2000) {k : Nat} (hk : K + 1 ≤ k) : drayagelaw04_EntryBack.j2 k l = some true := by
  obtain ⟨k, rfl⟩ : ∃ q, k = q + 1 := ⟨k - 1, by omega⟩
  rw [drayagelaw04_EntryBack.j2, get_is hb (by omega), Option.bind_some]
  rcases getM_or l with h | h
  · rw [h, if_neg (by decide), if_pos ERR_k, if_pos ERR_e, hK k (by omega)]; rfl
  · rw [if_pos h]
    generalize hg : getM l = g at *
    obtain ⟨k', ls, ep, o, st, un, tr, co, mk, l9, l10, e⟩ := g
    dsimp only at h ⊢
    subst h
    obtain ⟨_, ok, fit, hp, _, _⟩ := put_back hb hg (by decide)
    rw [put_is fit, ok, cond_true, Option.bind_some, hp]
    have hs : drayageref00_Same.f l l = some true := by unfold drayageref00_Same.f; simp
    have hc : entry_Check.f k' ls ep o st un tr co mk l9 l10 = some 0 := by unfold entry_Check.f; rw [ok]; rfl
    simp only [if_true, hs, hc, Option.bind_some, hK k (by omega)]
theorem EntryBack (x0 : Int × Int × Int × Int × Int × Bool × Int × Int × Int × List Int × List Int) (a1 : Int) (l2 : List Int)
    (w0 : ((Lit.int .i64 x0.1).wf = true) ∧ ((Lit.int .u64 x0.2.1).wf = true) ∧ ((Lit.int .u32 x0.2.2.1).wf = true) ∧ ((Lit.int .u32 x0.2.2.2.1).wf = true) ∧ ((Lit.int .i64 x0.2.2.2.2.1).wf = true) ∧ True ∧ ((Lit.int .i64 x0.2.2.2.2.2.2.1).wf = true) ∧ ((Lit.int .i64 x0.2.2.2.2.2.2.2.1).wf = true) ∧ ((Lit.int .u64 x0.2.2.2.2.2.2.2.2.1).wf = true) ∧ (x0.2.2.2.2.2.2.2.2.2.1.length ≤ maxLen ∧ ∀ x ∈ x0.2.2.2.2.2.2.2.2.2.1, (Lit.int .u8 x).wf = true) ∧ (x0.2.2.2.2.2.2.2.2.2.2.length ≤ maxLen ∧ ∀ x ∈ x0.2.2.2.2.2.2.2.2.2.2, (Lit.int .u8 x).wf = true))
    (w1 : (Lit.int .u8 a1).wf = true) (w2 : l2.length ≤ maxLen ∧ ∀ x0 ∈ l2, (Lit.int .u8 x0).wf = true) :
    Ev (fun k => drayagelaw04_EntryBack.f k x0.1 x0.2.1 x0.2.2.1 x0.2.2.2.1 x0.2.2.2.2.1 x0.2.2.2.2.2.1 x0.2.2.2.2.2.2.1 x0.2.2.2.2.2.2.2.1 x0.2.2.2.2.2.2.2.2.1 x0.2.2.2.2.2.2.2.2.2.1 x0.2.2.2.2.2.2.2.2.2.2 a1 l2) true := by
  obtain ⟨k, ls, ep, o, st, un, tr, co, mk, l9, l10⟩ := x0
  obtain ⟨_, h1, h2, h3, _, _, _, _, h8, h9, h10⟩ := w0
  dsimp only at h1 h2 h3 h8 h9 h10
  obtain ⟨K, hK⟩ := known_ev
  have kn : ∀ k, K ≤ k → drayagelaw04_known.f k = some true := hK
  refine ⟨K + 5, fun n hn => ?_⟩
  show drayagelaw04_EntryBack.f n k ls ep o st un tr co mk l9 l10 a1 l2 = some true
  unfold drayagelaw04_EntryBack.f
  obtain ⟨b, hb⟩ : ∃ b, drayagelaw04_long.f k ls ep o st un tr co mk l9 l10 = some b := by
    unfold drayagelaw04_long.f
    repeat' split
    all_goals exact ⟨_, rfl⟩
  obtain ⟨n, rfl⟩ : ∃ q, n = q + 2 := ⟨n - 2, by omega⟩
  have out : drayagelaw04_EntryBack.j0 (n + 2) a1 l2 true k ls ep o st un tr co mk l9 l10 = some true := by
    rw [drayagelaw04_EntryBack.j0, if_pos rfl, kn _ (by omega)]; rfl
  rw [hb, Option.bind_some]
  cases b with
  | true => rw [if_pos rfl]; exact out
  | false =>
    rw [if_neg (by decide)]
    by_cases hl : (l2.length : Int) > 2000
    · rw [decide_eq_true hl]; exact out
    rw [decide_eq_false hl, drayagelaw04_EntryBack.j0, if_neg (by decide), put_is (fit_of h1 h2 h3 h8), Option.bind_some]
    have fin : ∀ q, K + 1 ≤ q → drayagelaw04_EntryBack.j2 q l2 = some true := fun q hq => back_end kn (bytes_wf w2) (by omega) hq
    cases h : entryOk k ls ep o st un tr co mk l9.length l10.length with
    | false =>
      have hc : entry_Check.f k ls ep o st un tr co mk l9 l10 = some 40 := by unfold entry_Check.f; rw [h]; rfl
      rw [hc, Option.bind_some, cond_false]
      dsimp only
      rw [if_neg (by decide), if_neg (by decide), drayagelaw04_EntryBack.j1, if_neg (by decide), if_neg (by decide)]
      exact fin n (by omega)
    | true =>
      have hc : entry_Check.f k ls ep o st un tr co mk l9 l10 = some 0 := by unfold entry_Check.f; rw [h]; rfl
      obtain ⟨p, q⟩ := entry_len h
      have hbb := entry_bytes (k := k) (ls := ls) (ep := ep) (o := o) (st := st) (un := un) (tr := tr) (co := co) (mk := mk) (bytes_wf h9) (bytes_wf h10)
      have g1 := got h (fit_of h1 h2 h3 h8)
      have g2 := got_bad h (fit_of h1 h2 h3 h8) a1
      have g3 := got_less h (fit_of h1 h2 h3 h8)
      rw [hc, Option.bind_some, cond_true]
      dsimp only
      generalize entryBytes k ls ep o st un tr co mk l9 l10 = B at *
      rw [if_neg (by decide), if_pos rfl, show ((B.length : Int) == 0) = false by simp; exact List.ne_nil_of_length_pos q, drayagelaw04_EntryBack.j1, if_neg (by decide), if_pos rfl]
      have hw : wrap64 ((B.length : Int) - 1) = ((B.length - 1 : Nat) : Int) := by rw [w64_id (by omega) (by omega)]; omega
      have hcp : drayageref00_Copy.f B = some B := by unfold drayageref00_Copy.f; rw [if_pos (by simp; omega)]; rfl
      rw [get_is hbb (by omega), Option.bind_some, hcp, Option.bind_some, if_pos (by omega), get_is (bytes_app hbb (fun x hx => by rw [List.mem_singleton] at hx; subst hx; exact u8_wf w1)) (by simp; omega), Option.bind_some, hw, if_pos (by omega), if_pos (by omega), Int.toNat_natCast, ← List.dropLast_eq_take, get_is (fun x hx => hbb x (List.dropLast_subset _ hx)) (by simp; omega), Option.bind_some, g1, g2, g3]
      dsimp only
      rw [if_pos rfl, same_refl, Option.bind_some, if_pos rfl, if_pos ERR_e, if_pos ERR_e]
      exact fin n (by omega)
end Go.Proofs.Ytahldljkhjebgaa.Pure
