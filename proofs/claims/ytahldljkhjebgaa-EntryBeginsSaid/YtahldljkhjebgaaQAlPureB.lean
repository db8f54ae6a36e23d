/- Plain laws on the mirror of chapter 4's functions, part B: what Row tells, and the laws EntryEpochs and EntryBegins. -/
import Derived.Test.YtahldljkhjebgaaQAlPAx1
import Derived.Test.YtahldljkhjebgaaQAlPAx5
import Derived.Test.YtahldljkhjebgaaQAlPAx7
import Derived.Test.YtahldljkhjebgaaQAlPAx8
import Derived.Test.YtahldljkhjebgaaQAlPureA
namespace Go.Proofs.Ytahldljkhjebgaa.Pure
open Go.RowKit Go.Proofs.Ytahldljkhjebgaa.PA Go.Proofs.YtahldljkhjebgaaW.PrintWords Go.Proofs.YtahldljkhjebgaaW.PrintLast Go.Proofs.YtahldljkhjebgaaW.PrintMore
set_option linter.unusedVariables false
set_option linter.unusedSimpArgs false

def chk (x : S26) : Bool := entryOk x.f0 x.f1 x.f2 x.f3 x.f4 x.f5 x.f6 x.f7 x.f8 x.f9.length x.f10.length
/-- may b stand behind a? -/
def nextOk (a b : S26) : Bool := decide (IntKind.u64.wrap (b.f1 - 1) = a.f1) && (decide (b.f2 = a.f2) || (decide (b.f0 = 1) && decide (b.f2 > a.f2)))
def okAt (l : List S26) (i : Nat) : Bool := chk (l.getD i z26) && (i == 0 || nextOk (l.getD (i - 1) z26) (l.getD i z26))
theorem check_is (x : S26) : entry_Check.f x.f0 x.f1 x.f2 x.f3 x.f4 x.f5 x.f6 x.f7 x.f8 x.f9 x.f10 = some (ansE (chk x)) := rfl
theorem rd_nat (l : List S26) (i : Nat) : rd_T26 l (i : Int) = l.getD i z26 := rfl
/-- a round of Row -/
theorem row_turn (l : List S26) (n i : Nat) (hn : l.length ≤ 1256584717459) (hi : i < n) (hnl : n ≤ l.length) (k : Nat) :
    entry_Row.l0 (k + 1) l l (n : Int) (i : Int) = bif okAt l i then entry_Row.l0 k l l (n : Int) ((i + 1 : Nat) : Int) else some ((i : Int), 41) := by
  rw [entry_Row.l0, if_pos (by omega), if_pos (by omega), if_pos (by omega), rd_nat, check_is, Option.bind_some]
  have hw : wrap64 ((i : Int) + 1) = ((i + 1 : Nat) : Int) := by rw [w64_id (by omega) (by omega)]; omega
  unfold okAt
  cases hc : chk (l.getD i z26) with
  | false => simp [ansE]
  | true =>
    simp only [ansE, if_true, Bool.true_and]
    by_cases h0 : i = 0
    · subst h0; rw [if_pos (by rfl), hw]; rfl
    · have hw2 : wrap64 ((i : Int) - 1) = ((i - 1 : Nat) : Int) := by rw [w64_id (by omega) (by omega)]; omega
      have hb : (i == 0) = false := by simp [h0]
      rw [if_neg (by omega), hw2, if_pos (by omega), if_pos (by omega), rd_nat, hw, hb, Bool.false_or]
      unfold nextOk
      generalize l.getD i z26 = b
      generalize l.getD (i - 1) z26 = a
      by_cases c1 : b.f0 = 1 <;> by_cases c2 : IntKind.u64.wrap (b.f1 - 1) = a.f1 <;> by_cases c3 : b.f2 = a.f2 <;> by_cases c4 : b.f2 > a.f2 <;> simp [c1, c2, c3, c4]
theorem row_end (l : List S26) (k : Nat) : entry_Row.l0 (k + 1) l l (l.length : Int) (l.length : Int) = some ((l.length : Int), 0) := by
  rw [entry_Row.l0, if_neg (by omega)]
/-- what Row tells: how many of the first ones may stand -/
theorem row_from (l : List S26) (hl : l.length ≤ 1256584717459) : ∀ (m i : Nat), i + m = l.length → ∃ n : Nat, i ≤ n ∧ n ≤ l.length ∧ (∀ j, i ≤ j → j < n → okAt l j = true) ∧ (n < l.length → okAt l n = false) ∧ ∀ k, m + 1 ≤ k → entry_Row.l0 k l l (l.length : Int) (i : Int) = some ((n : Int), if n = l.length then 0 else 41) := by
  intro m
  induction m with
  | zero =>
    intro i hi
    have e : i = l.length := by omega
    subst e
    refine ⟨l.length, Nat.le_refl _, Nat.le_refl _, fun j a b => by omega, fun h => absurd h (by omega), fun k hk => ?_⟩
    obtain ⟨k, rfl⟩ : ∃ q, k = q + 1 := ⟨k - 1, by omega⟩
    rw [row_end, if_pos rfl]
  | succ m ih =>
    intro i hi
    cases hc : okAt l i with
    | false =>
      refine ⟨i, Nat.le_refl _, by omega, fun j a b => by omega, fun _ => hc, fun k hk => ?_⟩
      obtain ⟨k, rfl⟩ : ∃ q, k = q + 1 := ⟨k - 1, by omega⟩
      rw [row_turn l l.length i hl (by omega) (Nat.le_refl _), hc, cond_false, if_neg (by omega)]
    | true =>
      obtain ⟨n, a, b, c, d, e⟩ := ih (i + 1) (by omega)
      refine ⟨n, by omega, b, fun j p q => ?_, d, fun k hk => ?_⟩
      · by_cases hj : j = i
        · rw [hj]; exact hc
        · exact c j (by omega) q
      · obtain ⟨k, rfl⟩ : ∃ q, k = q + 1 := ⟨k - 1, by omega⟩
        rw [row_turn l l.length i hl (by omega) (Nat.le_refl _), hc, cond_true]
        exact e k (by omega)
theorem row_is (l : List S26) (hl : l.length ≤ 1256584717459) : ∃ n : Nat, n ≤ l.length ∧ (∀ j, j < n → okAt l j = true) ∧ (n < l.length → okAt l n = false) ∧ ∀ k, l.length + 1 ≤ k → entry_Row.f k l = some ((n : Int), if n = l.length then 0 else 41) := by
  obtain ⟨n, _, b, c, d, e⟩ := row_from l hl l.length 0 (by omega)
  exact ⟨n, b, fun j h => c j (by omega) h, d, fun k hk => e k (by omega)⟩
theorem row_whole (l : List S26) (hl : l.length ≤ 1256584717459) (h : ∀ j, j < l.length → okAt l j = true) {k : Nat} (hk : l.length + 1 ≤ k) : entry_Row.f k l = some ((l.length : Int), 0) := by
  obtain ⟨n, b, c, d, e⟩ := row_is l hl
  have hn : n = l.length := by
    by_cases q : n < l.length
    · have := d q; rw [h n q] at this; exact absurd this (by decide)
    · omega
  rw [e k hk, if_pos hn, hn]
theorem row_upto (l : List S26) (hl : l.length ≤ 1256584717459) {m : Nat} (hm : m < l.length) (h : ∀ j, j < m → okAt l j = true) (hb : okAt l m = false) {k : Nat} (hk : l.length + 1 ≤ k) : entry_Row.f k l = some ((m : Int), 41) := by
  obtain ⟨n, b, c, d, e⟩ := row_is l hl
  have hn : n = m := by
    rcases Nat.lt_trichotomy n m with q | q | q
    · have := d (by omega); rw [h n q] at this; exact absurd this (by decide)
    · exact q
    · have := c m q; rw [hb] at this; exact absurd this (by decide)
  rw [e k hk, if_neg (by omega), hn]
theorem okAt_chk {l : List S26} {i : Nat} (h : okAt l i = true) : chk (l.getD i z26) = true := by
  unfold okAt at h; simp only [Bool.and_eq_true] at h; exact h.1
theorem chk_num {x : S26} (h : chk x = true) : x.f1 ≠ 0 ∧ x.f2 ≠ 0 := by
  unfold chk entryOk at h
  constructor
  · intro e; rw [e] at h; simp at h
  · intro e; rw [e] at h; by_cases q : x.f1 = 0 <;> simp [q] at h
/-! EntryEpochs -/
theorem epochs_turn (l : List S26) (n i : Nat) (hi : i < n) (hn : n ≤ l.length) (hl : l.length ≤ 500) (hk : okAt l i = true) (k : Nat) : drayagelaw04_EntryEpochs.l0 (k + 1) l (n : Int) (i : Int) = drayagelaw04_EntryEpochs.l0 k l (n : Int) ((i + 1 : Nat) : Int) := by
  have hc := okAt_chk hk
  have hw : wrap64 ((i : Int) + 1) = ((i + 1 : Nat) : Int) := by rw [w64_id (by omega) (by omega)]; omega
  rw [drayagelaw04_EntryEpochs.l0, if_pos (by omega), if_pos (by omega), if_pos (by omega), rd_nat, check_is, Option.bind_some, hc, hw]
  simp only [ansE, if_true]
  by_cases h0 : i = 0
  · subst h0; rw [if_pos (by rfl)]
  · have hw2 : wrap64 ((i : Int) - 1) = ((i - 1 : Nat) : Int) := by rw [w64_id (by omega) (by omega)]; omega
    unfold okAt at hk
    have hb : (i == 0) = false := by simp [h0]
    rw [hb, Bool.false_or, Bool.and_eq_true] at hk
    have hx := hk.2
    unfold nextOk at hx
    rw [if_neg (by omega), if_neg (chk_num hc).1, hw2, if_pos (by omega), if_pos (by omega), rd_nat]
    generalize l.getD i z26 = b at *
    generalize l.getD (i - 1) z26 = a at *
    simp only [Bool.and_eq_true, Bool.or_eq_true, decide_eq_true_eq] at hx
    obtain ⟨h1, h2⟩ := hx
    rw [if_pos h1, if_neg (by omega)]
    split
    · rw [if_pos (by omega)]
    · rfl
theorem EntryEpochs (l0 : List S26) (w0 : l0.length ≤ maxLen ∧ ∀ x0 ∈ l0, (((Lit.int .i64 x0.f0).wf = true) ∧ ((Lit.int .u64 x0.f1).wf = true) ∧ ((Lit.int .u32 x0.f2).wf = true) ∧ ((Lit.int .u32 x0.f3).wf = true) ∧ ((Lit.int .i64 x0.f4).wf = true) ∧ (True) ∧ ((Lit.int .i64 x0.f6).wf = true) ∧ ((Lit.int .i64 x0.f7).wf = true) ∧ ((Lit.int .u64 x0.f8).wf = true) ∧ (x0.f9.length ≤ maxLen ∧ ∀ x1 ∈ x0.f9, (Lit.int .u8 x1).wf = true) ∧ (x0.f10.length ≤ maxLen ∧ ∀ x1 ∈ x0.f10, (Lit.int .u8 x1).wf = true))) :
    Ev (fun k => drayagelaw04_EntryEpochs.f k l0) true := by
  obtain ⟨K, hK⟩ := known_ev
  refine ⟨K + l0.length + 5, fun k hk => ?_⟩
  have kn : ∀ k, K ≤ k → drayagelaw04_known.f k = some true := hK
  show drayagelaw04_EntryEpochs.f k l0 = some true
  unfold drayagelaw04_EntryEpochs.f
  by_cases hl : (l0.length : Int) > 500
  · rw [if_pos hl, kn k (by omega)]; rfl
  rw [if_neg hl]
  obtain ⟨n, b, c, d, e⟩ := row_is l0 (by omega)
  rw [e k (by omega), Option.bind_some]
  dsimp only
  rw [if_neg (by omega), decide_eq_false (by omega)]
  obtain ⟨k, rfl⟩ : ∃ q, k = q + 1 := ⟨k - 1, by omega⟩
  rw [drayagelaw04_EntryEpochs.j0, if_neg (by decide)]
  have go : ∀ (m i k : Nat), i + m = n → K + m + 1 ≤ k → drayagelaw04_EntryEpochs.l0 k l0 (n : Int) (i : Int) = some true := by
    intro m
    induction m with
    | zero =>
      intro i k hi hk
      obtain ⟨k, rfl⟩ : ∃ q, k = q + 1 := ⟨k - 1, by omega⟩
      rw [drayagelaw04_EntryEpochs.l0, if_neg (by omega), kn k (by omega)]; rfl
    | succ m ih =>
      intro i k hi hk
      obtain ⟨k, rfl⟩ : ∃ q, k = q + 1 := ⟨k - 1, by omega⟩
      rw [epochs_turn l0 n i (by omega) b (by omega) (c i (by omega))]
      exact ih (i + 1) k (by omega) (by omega)
  exact go n 0 k (by omega) (by omega)
/-! EntryBegins -/
theorem getD_take (l : List S26) {n j : Nat} (h : j < n) : (l.take n).getD j z26 = l.getD j z26 := by
  simp [List.getD, List.getElem?_take, h]
theorem okAt_take (l : List S26) {n j : Nat} (h : j < n) : okAt (l.take n) j = okAt l j := by
  unfold okAt; rw [getD_take l h, getD_take l (show j - 1 < n by omega)]
theorem getD_cut (l : List S26) {n m j : Nat} (h : m + j < n) : ((l.take n).drop m).getD j z26 = l.getD (m + j) z26 := by
  simp [List.getD, List.getElem?_take, List.getElem?_drop, h]
theorem okAt_cut (l : List S26) {n m j : Nat} (h : m + j < n) (hk : okAt l (m + j) = true) : okAt ((l.take n).drop m) j = true := by
  have hc := okAt_chk hk
  unfold okAt at hk ⊢
  rw [getD_cut l h, hc, Bool.true_and]
  by_cases h0 : j = 0
  · subst h0; rfl
  · rw [getD_cut l (show m + (j - 1) < n by omega)]
    rw [hc, Bool.true_and] at hk
    rw [show (m + j == 0) = false by simp; omega, Bool.false_or, show m + j - 1 = m + (j - 1) by omega] at hk
    rw [hk, Bool.or_true]
theorem below_of (x : Int) {m : Int} (hm : 0 < m) (hm2 : m < 1000) : 0 ≤ wrap64 (Int.tmod (IntKind.u64.wrap x) (IntKind.u64.wrap m)) ∧ wrap64 (Int.tmod (IntKind.u64.wrap x) (IntKind.u64.wrap m)) < m := by
  rw [u64_id (x := m) (by omega) (by omega)]
  have h0 : 0 ≤ IntKind.u64.wrap x := by
    have : IntKind.u64.wrap x = x % 18446744073709551616 := rfl
    omega
  rw [Int.tmod_eq_emod_of_nonneg h0]
  have a := Int.emod_nonneg (IntKind.u64.wrap x) (show m ≠ 0 by omega)
  have b := Int.emod_lt_of_pos (IntKind.u64.wrap x) hm
  rw [w64_id (by omega) (by omega)]
  exact ⟨a, b⟩
theorem getD_mem {l : List S26} {i : Nat} (h : i < l.length) : l.getD i z26 ∈ l := by
  simp [List.getD, List.getElem?_eq_getElem h]
theorem EntryBegins (l0 : List S26) (a1 : Int) (w0 : l0.length ≤ maxLen ∧ ∀ x0 ∈ l0, (((Lit.int .i64 x0.f0).wf = true) ∧ ((Lit.int .u64 x0.f1).wf = true) ∧ ((Lit.int .u32 x0.f2).wf = true) ∧ ((Lit.int .u32 x0.f3).wf = true) ∧ ((Lit.int .i64 x0.f4).wf = true) ∧ (True) ∧ ((Lit.int .i64 x0.f6).wf = true) ∧ ((Lit.int .i64 x0.f7).wf = true) ∧ ((Lit.int .u64 x0.f8).wf = true) ∧ (x0.f9.length ≤ maxLen ∧ ∀ x1 ∈ x0.f9, (Lit.int .u8 x1).wf = true) ∧ (x0.f10.length ≤ maxLen ∧ ∀ x1 ∈ x0.f10, (Lit.int .u8 x1).wf = true))) (w1 : (Lit.int .i64 a1).wf = true) :
    Ev (fun k => drayagelaw04_EntryBegins.f k l0 a1) true := by
  obtain ⟨K, hK⟩ := known_ev
  refine ⟨K + l0.length + 15, fun k hk => ?_⟩
  have kn : ∀ k, K ≤ k → drayagelaw04_known.f k = some true := hK
  show drayagelaw04_EntryBegins.f k l0 a1 = some true
  unfold drayagelaw04_EntryBegins.f
  by_cases hl : (l0.length : Int) > 200
  · rw [if_pos hl, kn k (by omega)]; rfl
  rw [if_neg hl]
  obtain ⟨n, b, c, d, e⟩ := row_is l0 (by omega)
  rw [e k (by omega), Option.bind_some]
  dsimp only
  rw [if_neg (by omega), decide_eq_false (by omega)]
  obtain ⟨k, rfl⟩ : ∃ q, k = q + 5 := ⟨k - 5, by omega⟩
  have hw : wrap64 ((n : Int) + 1) = ((n + 1 : Nat) : Int) := by rw [w64_id (by omega) (by omega)]; omega
  have h3 : ∀ k, K + l0.length + 6 ≤ k → drayagelaw04_EntryBegins.j3 k l0 (n : Int) true = some true := by
    intro k hk
    obtain ⟨k, rfl⟩ : ∃ q, k = q + 1 := ⟨k - 1, by omega⟩
    rw [drayagelaw04_EntryBegins.j3, if_pos rfl, kn k (by omega)]; rfl
  have h2 : ∀ k, K + l0.length + 7 ≤ k → drayagelaw04_EntryBegins.j2 k l0 (n : Int) = some true := by
    intro k hk
    obtain ⟨k, rfl⟩ : ∃ q, k = q + 1 := ⟨k - 1, by omega⟩
    rw [drayagelaw04_EntryBegins.j2]
    by_cases h0 : n = 0
    · rw [if_pos (by omega)]; exact h3 k (by omega)
    have hw2 : wrap64 ((n : Int) - 1) = ((n - 1 : Nat) : Int) := by rw [w64_id (by omega) (by omega)]; omega
    rw [if_neg (by omega), hw2, if_pos (by omega), if_pos (by omega), rd_nat]
    have hm := w0.2 _ (getD_mem (l := l0) (i := n - 1) (by omega))
    have hok := c (n - 1) (by omega)
    have hne := chk_num (okAt_chk hok)
    obtain ⟨_, m1, m2, _⟩ := hm
    obtain ⟨a, b'⟩ := u64_wf m1
    generalize hg : l0.getD (n - 1) z26 = y at *
    by_cases hmax : y.f1 = 18446744073709551615
    · rw [show (y.f1 == 18446744073709551615) = true by simp [hmax]]; exact h3 k (by omega)
    rw [show (y.f1 == 18446744073709551615) = false by simp [hmax]]
    obtain ⟨k, rfl⟩ : ∃ q, k = q + 1 := ⟨k - 1, by omega⟩
    have hlen : (l0.take n).length = n := by rw [List.length_take]; omega
    rw [drayagelaw04_EntryBegins.j3, if_neg (by decide), if_pos (by omega), if_pos (by omega), Option.bind_some, Int.toNat_natCast, if_pos (by rw [hlen]; simp; omega), Option.bind_some, List.nil_append, hw2, if_pos (by omega), if_pos (by omega), if_pos (by omega), rd_nat, hg, u64_id (by omega) (by omega), hw]
    have hr := row_whole (l0.take n ++ [(⟨6, y.f1 + 1, y.f2, 0, 0, false, 0, 2, 0, [], []⟩ : S26)]) (by rw [List.length_append, hlen]; simp; omega) (by
      intro j hj
      rw [List.length_append, hlen] at hj
      by_cases hjn : j < n
      · have e1 : ∀ q, q < n → (l0.take n ++ [(⟨6, y.f1 + 1, y.f2, 0, 0, false, 0, 2, 0, [], []⟩ : S26)]).getD q z26 = l0.getD q z26 := by
          intro q hq
          rw [← getD_take l0 hq]
          simp only [List.getD]
          rw [List.getElem?_append_left (by omega)]
        have hcj := c j hjn
        unfold okAt at hcj ⊢
        rw [e1 j hjn, e1 (j - 1) (by omega)]; exact hcj
      · have hjn : j = n := by simp at hj; omega
        subst hjn
        have e1 : (l0.take j ++ [(⟨6, y.f1 + 1, y.f2, 0, 0, false, 0, 2, 0, [], []⟩ : S26)]).getD j z26 = ⟨6, y.f1 + 1, y.f2, 0, 0, false, 0, 2, 0, [], []⟩ := by
          simp only [List.getD]
          rw [List.getElem?_append_right (by omega), hlen]; simp
        have e2 : (l0.take j ++ [(⟨6, y.f1 + 1, y.f2, 0, 0, false, 0, 2, 0, [], []⟩ : S26)]).getD (j - 1) z26 = y := by
          rw [← hg, ← getD_take l0 (show j - 1 < j by omega)]
          simp only [List.getD]
          rw [List.getElem?_append_left (by omega)]
        unfold okAt
        rw [e1, e2]
        have hl1 : ¬ y.f1 + 1 = 0 := by omega
        simp [chk, entryOk, zeroB, nextOk, hne.2, hl1]
        exact .inr (u64_id a b')) (k := k) (by rw [List.length_append, hlen]; simp; omega)
    rw [hr, Option.bind_some]
    dsimp only
    rw [if_pos (by rw [List.length_append, hlen]; rfl), if_pos rfl, kn k (by omega)]; rfl
  have h1 : ∀ k, K + l0.length + 8 ≤ k → drayagelaw04_EntryBegins.j1 k l0 (n : Int) false = some true := by
    intro k hk
    obtain ⟨k, rfl⟩ : ∃ q, k = q + 1 := ⟨k - 1, by omega⟩
    rw [drayagelaw04_EntryBegins.j1, if_neg (by decide)]
    by_cases hn : n < l0.length
    · rw [if_pos (by omega), hw, if_pos (by omega), if_pos (by omega), Int.toNat_natCast]
      have hlen : (l0.take (n + 1)).length = n + 1 := by rw [List.length_take]; omega
      rw [row_upto (l0.take (n + 1)) (by omega) (m := n) (by omega) (fun j hj => by rw [okAt_take l0 (by omega)]; exact c j hj) (by rw [okAt_take l0 (by omega)]; exact d hn) (by omega), Option.bind_some]
      dsimp only
      rw [if_pos rfl, if_pos rfl]
      exact h2 k (by omega)
    · rw [if_neg (by omega)]; exact h2 k (by omega)
  rw [drayagelaw04_EntryBegins.j0, if_neg (by decide), hw]
  obtain ⟨p, q⟩ := below_of a1 (m := ((n + 1 : Nat) : Int)) (by omega) (by omega)
  generalize hM : wrap64 (Int.tmod (IntKind.u64.wrap a1) (IntKind.u64.wrap ((n + 1 : Nat) : Int))) = M at *
  obtain ⟨m, rfl⟩ : ∃ m : Nat, M = (m : Int) := ⟨M.toNat, by omega⟩
  have hne : ¬ IntKind.u64.wrap ((n + 1 : Nat) : Int) = 0 := by rw [u64_id (by omega) (by omega)]; omega
  have hlt : (l0.take m).length = m := by rw [List.length_take]; omega
  have hlc : ((l0.take n).drop m).length = n - m := by rw [List.length_drop, List.length_take]; omega
  have r1 : entry_Row.f (k + 4) (l0.take m) = some ((m : Int), 0) := by
    rw [row_whole (l0.take m) (by omega) (fun j hj => by rw [okAt_take l0 (by omega)]; exact c j (by omega)) (by omega), hlt]
  have r2 : entry_Row.f (k + 4) ((l0.take n).drop m) = some (((n - m : Nat) : Int), 0) := by
    rw [row_whole ((l0.take n).drop m) (by omega) (fun j hj => okAt_cut l0 (by omega) (c (m + j) (by omega))) (by omega), hlc]
  have hsub : wrap64 ((n : Int) - (m : Int)) = ((n - m : Nat) : Int) := by rw [w64_id (by omega) (by omega)]; omega
  simp only [Int.toNat_natCast, r1, r2, Option.bind_some, hne, if_false, hsub, show (0 : Int) ≤ (m : Int) by omega, show (m : Int) ≤ (l0.length : Int) by omega, show (m : Int) ≤ (n : Int) by omega, show (n : Int) ≤ (l0.length : Int) by omega, if_true]
  exact h1 (k + 4) (by omega)
end Go.Proofs.Ytahldljkhjebgaa.Pure
