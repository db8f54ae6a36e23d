/- Plain laws on the mirror of chapter 5's functions, part A: what the chapter's examples fix, numbers and their bytes. -/
import Derived.Laws.BitsLemmas
import Derived.Test.YtohnlhklijpafaaQAlPAx4
namespace Go.Proofs.Ytohnlhklijpafaa.Pure
open Go.RowKit Go.Proofs.Ytohnlhklijpafaa.PA Go.Proofs.YtohnlhklijpafaaW.PrintWords Go.Proofs.YtohnlhklijpafaaW.PrintLast Go.Proofs.YtohnlhklijpafaaW.PrintMore
set_option linter.unusedVariables false
set_option linter.unusedSimpArgs false

theorem known_ev : Ev (fun k => drayagelaw05_known.f k) true :=
  Ev.of (fun k => drayagelaw05_known.mono k) (k := 20) (by decide +kernel)
theorem u64_wf {x : Int} (h : (Lit.int .u64 x).wf = true) : 0 ≤ x ∧ x < 18446744073709551616 := by
  have := h
  simp [Lit.wf, IntKind.min, IntKind.max, IntKind.signed, IntKind.bits] at this
  omega
theorem u32_wf {x : Int} (h : (Lit.int .u32 x).wf = true) : 0 ≤ x ∧ x < 4294967296 := by
  have := h
  simp [Lit.wf, IntKind.min, IntKind.max, IntKind.signed, IntKind.bits] at this
  omega
theorem u8_wf {x : Int} (h : (Lit.int .u8 x).wf = true) : 0 ≤ x ∧ x < 256 := by
  have := h
  simp [Lit.wf, IntKind.min, IntKind.max, IntKind.signed, IntKind.bits] at this
  omega

theorem u64_id {x : Int} (h0 : 0 ≤ x) (h1 : x < 18446744073709551616) : IntKind.u64.wrap x = x := by
  have : IntKind.u64.wrap x = x % 18446744073709551616 := rfl
  omega
theorem w64_id {x : Int} (h0 : -9223372036854775808 ≤ x) (h1 : x < 9223372036854775808) : wrap64 x = x := by
  unfold wrap64; omega
theorem bigE_len (n : Int) (s : Nat) : (bigE n s).length = s := by simp [bigE]
def val (l : List Int) : Int := l.foldl (fun n c => n * 256 + c) 0
theorem wraps64 (n : Int) (h0 : 0 ≤ n) (h1 : n < 2 ^ 64) : IntKind.u64.wrap n = n := u64_id h0 (by omega)
theorem or_plus {x y : Int} (hx0 : 0 ≤ x) (hx : x % 256 = 0) (hx1 : x < 18446744073709551616) (hy0 : 0 ≤ y) (hy : y < 256) : Go.bits .or .u64 x y = x + y :=
  bits_join .u64 64 (by decide) wraps64 8 x y hx0 (by omega) (by omega) hy0 (by omega) (by omega)
theorem fold_same : ∀ (l : List Int) (a : Int), bytesIn l → 0 ≤ a → l.length ≤ 8 → a < 256 ^ (8 - l.length) → l.foldl (fun n c => Go.bits .or .u64 (IntKind.u64.wrap (n * 256)) c) a = l.foldl (fun n c => n * 256 + c) a
  | [], a, _, _, _, _ => rfl
  | c :: l, a, hb, h0, hl, ha => by
    have hc := hb c (List.mem_cons_self ..)
    have hl' : l.length ≤ 7 := by simpa using hl
    have e : (256 : Int) ^ (8 - l.length) = 256 ^ (8 - (c :: l).length) * 256 := by
      rw [← Int.pow_succ]; congr 1; simp; omega
    have hp : (256 : Int) ^ (8 - (c :: l).length) ≤ 256 ^ 7 := by
      have : ∀ m : Nat, m ≤ 7 → (256 : Int) ^ m ≤ 256 ^ 7 := by decide
      exact this _ (by simp)
    have h7 : (256 : Int) ^ 7 = 72057594037927936 := by decide
    rw [List.foldl_cons, List.foldl_cons, u64_id (by omega) (by omega), or_plus (by omega) (by omega) (by omega) hc.1 hc.2]
    exact fold_same l _ (fun x hx => hb x (List.mem_cons_of_mem _ hx)) (by omega) (by omega) (by rw [e]; omega)
theorem num_val {l : List Int} (hb : bytesIn l) (hl : l.length ≤ 8) : numOf l = val l := by
  have : (1 : Int) ≤ 256 ^ (8 - l.length) := by
    have : ∀ m : Nat, m ≤ 8 → (1 : Int) ≤ 256 ^ m := by decide
    exact this _ (by omega)
  exact fold_same l 0 hb (by decide) hl (by omega)
theorem val_snoc (l : List Int) (c : Int) : val (l ++ [c]) = val l * 256 + c := by simp [val]
theorem u8w (x : Int) : IntKind.u8.wrap x = x % 256 := rfl
theorem bigE_succ {n : Int} (s : Nat) : bigE n (s + 1) = bigE (n / 256) s ++ [n % 256] := by
  unfold bigE
  rw [List.range_succ, List.map_append]
  congr 1
  · apply List.map_congr_left
    intro i hi
    rw [List.mem_range] at hi
    unfold byteAt
    rw [show 8 * (s + 1 - 1 - i) = 8 + 8 * (s - 1 - i) by omega, Int.pow_add, ← Int.ediv_ediv_of_nonneg (by decide)]
    rfl
  · simp [byteAt, u8w]
theorem bigE_bytes (n : Int) (s : Nat) : bytesIn (bigE n s) := by
  intro x hx
  simp only [bigE, List.mem_map, byteAt, u8w] at hx
  obtain ⟨i, _, rfl⟩ := hx
  omega
theorem val_bigE (s : Nat) : ∀ (n : Int), 0 ≤ n → n < 256 ^ s → val (bigE n s) = n := by
  induction s with
  | zero => intro n h0 h1; have h2 : n < 1 := h1; have : n = 0 := by omega
            subst this; rfl
  | succ s ih =>
    intro n h0 h1
    rw [bigE_succ, val_snoc, ih (n / 256) (by omega) (by rw [Int.pow_succ] at h1; omega)]
    omega
theorem bigE_val (s : Nat) : ∀ (l : List Int), l.length = s → bytesIn l → bigE (val l) s = l := by
  induction s with
  | zero => intro l hl _; rw [List.eq_nil_of_length_eq_zero hl]; rfl
  | succ s ih =>
    intro l hl hb
    obtain ⟨q, c, rfl⟩ : ∃ q c, l = q ++ [c] := ⟨l.dropLast, l.getLast (by intro h; rw [h] at hl; simp at hl), (List.dropLast_concat_getLast _).symm⟩
    have hc := hb c (by simp)
    rw [val_snoc, bigE_succ, show (val q * 256 + c) / 256 = val q by omega, show (val q * 256 + c) % 256 = c by omega, ih q (by simpa using hl) (fun x hx => hb x (by simp [hx]))]
theorem num_bigE {n : Int} {s : Nat} (h0 : 0 ≤ n) (h1 : n < 256 ^ s) (hs : s ≤ 8) : numOf (bigE n s) = n := by
  rw [num_val (bigE_bytes n s) (by rw [bigE_len]; exact hs), val_bigE s n h0 h1]
/-! reading what was written -/
theorem has_app (n : Int) (s : Nat) (l : List Int) : rdHas s (bigE n s ++ l, false) = true := by simp [rdHas, bigE_len]
theorem take_app (n : Int) (s : Nat) (l : List Int) : (bigE n s ++ l).take s = bigE n s := by
  rw [List.take_append_of_le_length (by rw [bigE_len]; exact Nat.le_refl _), List.take_of_length_le (by rw [bigE_len]; exact Nat.le_refl _)]
theorem drop_app (n : Int) (s : Nat) (l : List Int) : (bigE n s ++ l).drop s = l := by
  rw [List.drop_append_of_le_length (by rw [bigE_len]; exact Nat.le_refl _), List.drop_of_length_le (by rw [bigE_len]; exact Nat.le_refl _), List.nil_append]
theorem rdN_app (n : Int) (s : Nat) (l : List Int) : rdN s (bigE n s ++ l, false) = (l, false) := by
  unfold rdN; rw [has_app, cond_true, drop_app]
theorem rd1_app {n : Int} (l : List Int) (h0 : 0 ≤ n) (h1 : n < 256) : rd1 (bigE n 1 ++ l, false) = n := by
  unfold rd1; rw [has_app, cond_true, take_app, num_bigE h0 (by omega) (by decide)]; omega
theorem rd4_app {n : Int} (l : List Int) (h0 : 0 ≤ n) (h1 : n < 4294967296) : rd4 (bigE n 4 ++ l, false) = n := by
  unfold rd4; rw [has_app, cond_true, take_app, num_bigE h0 (by omega) (by decide)]; omega
theorem rd8_app {n : Int} (l : List Int) (h0 : 0 ≤ n) (h1 : n < 18446744073709551616) : rd8 (bigE n 8 ++ l, false) = n := by
  unfold rd8; rw [has_app, cond_true, take_app, num_bigE h0 (by omega) (by decide)]
theorem bigE_one {n : Int} (h0 : 0 ≤ n) (h1 : n < 256) : bigE n 1 = [n] := by
  rw [bigE_succ]; simp [bigE]; omega
theorem tx_app {t l : List Int} (h : t.length ≤ 255) : txN (bigE (t.length : Int) 1 ++ (t ++ l), false) = 1 + t.length := by
  unfold txN; rw [bigE_one (by omega) (by omega)]; simp
theorem hasT_app {t l : List Int} (h : t.length ≤ 255) : rdHas (1 + t.length) (bigE (t.length : Int) 1 ++ (t ++ l), false) = true := by
  simp [rdHas, bigE_len]
theorem rdT_app {t l : List Int} (h : t.length ≤ 255) : rdT (bigE (t.length : Int) 1 ++ (t ++ l), false) = t := by
  unfold rdT; rw [tx_app h, hasT_app h, cond_true, bigE_one (by omega) (by omega)]
  rw [List.singleton_append, Nat.add_comm, List.take_succ_cons, List.drop_succ_cons, List.drop_zero, List.take_append_of_le_length (Nat.le_refl _), List.take_length]
theorem rdNT_app {t l : List Int} (h : t.length ≤ 255) : rdN (1 + t.length) (bigE (t.length : Int) 1 ++ (t ++ l), false) = (l, false) := by
  unfold rdN; rw [hasT_app h, cond_true, bigE_one (by omega) (by omega), List.singleton_append, Nat.add_comm, List.drop_succ_cons, List.drop_append_of_le_length (Nat.le_refl _), List.drop_length, List.nil_append]
/-- a reader that has too few bytes is short -/
theorem rdN_short {n : Nat} {s : RS} (h : s.2 = true ∨ s.1.length < n) : (rdN n s).2 = true := by
  unfold rdN rdHas
  rcases h with h | h
  · rw [h]; rfl
  · rw [show (!s.2 && decide (n ≤ s.1.length)) = false by rw [decide_eq_false (by omega), Bool.and_false]]; rfl
theorem txN_short {t : List Int} (h : t.length ≤ 255) : (rdN (txN ((bigE (t.length : Int) 1 ++ t).dropLast, false)) ((bigE (t.length : Int) 1 ++ t).dropLast, false)).2 = true := by
  apply rdN_short
  right
  rw [bigE_one (by omega) (by omega)]
  cases t with
  | nil => simp [txN]
  | cons c t => simp [txN]
/-! reading back -/
theorem back_n {n : Nat} {s : RS} (h : (rdN n s).2 = false) : s.2 = false ∧ n ≤ s.1.length ∧ rdHas n s = true ∧ rdN n s = (s.1.drop n, false) := by
  unfold rdN at h ⊢
  cases hq : rdHas n s with
  | false => rw [hq] at h; exact absurd h (by simp)
  | true => obtain ⟨a, b⟩ := rdHas_so hq; exact ⟨a, b, rfl, rfl⟩
theorem bytes_take {l : List Int} (h : bytesIn l) (n : Nat) : bytesIn (l.take n) := fun x hx => h x (List.mem_of_mem_take hx)
theorem bytes_drop {l : List Int} (h : bytesIn l) (n : Nat) : bytesIn (l.drop n) := fun x hx => h x (List.mem_of_mem_drop hx)
theorem bytes_rdN {s : RS} (h : bytesIn s.1) (n : Nat) : bytesIn (rdN n s).1 := by
  unfold rdN; cases rdHas n s
  · exact h
  · exact bytes_drop h n
theorem val_bound : ∀ (s : Nat) (l : List Int), l.length = s → bytesIn l → 0 ≤ val l ∧ val l < 256 ^ s := by
  intro s
  induction s with
  | zero => intro l hl _; rw [List.eq_nil_of_length_eq_zero hl]; decide
  | succ s ih =>
    intro l hl hb
    obtain ⟨q, c, rfl⟩ : ∃ q c, l = q ++ [c] := ⟨l.dropLast, l.getLast (by intro h; rw [h] at hl; simp at hl), (List.dropLast_concat_getLast _).symm⟩
    have hc := hb c (by simp)
    obtain ⟨a, b⟩ := ih q (by simpa using hl) (fun x hx => hb x (by simp [hx]))
    rw [val_snoc, Int.pow_succ]
    omega
theorem back_1 {s : RS} (h : (rdN 1 s).2 = false) (hb : bytesIn s.1) : s.1 = bigE (rd1 s) 1 ++ (rdN 1 s).1 ∧ 0 ≤ rd1 s ∧ rd1 s < 256 := by
  obtain ⟨a, b, c, d⟩ := back_n h
  have hl : (s.1.take 1).length = 1 := by rw [List.length_take]; omega
  obtain ⟨e, f⟩ := val_bound 1 _ hl (bytes_take hb 1)
  have hv : rd1 s = val (s.1.take 1) := by unfold rd1; rw [c, cond_true, num_val (bytes_take hb 1) (by omega)]; omega
  rw [hv, d, bigE_val 1 _ hl (bytes_take hb 1), List.take_append_drop]
  exact ⟨rfl, e, by omega⟩
theorem back_4 {s : RS} (h : (rdN 4 s).2 = false) (hb : bytesIn s.1) : s.1 = bigE (rd4 s) 4 ++ (rdN 4 s).1 ∧ 0 ≤ rd4 s ∧ rd4 s < 4294967296 := by
  obtain ⟨a, b, c, d⟩ := back_n h
  have hl : (s.1.take 4).length = 4 := by rw [List.length_take]; omega
  obtain ⟨e, f⟩ := val_bound 4 _ hl (bytes_take hb 4)
  have hv : rd4 s = val (s.1.take 4) := by unfold rd4; rw [c, cond_true, num_val (bytes_take hb 4) (by omega)]; omega
  rw [hv, d, bigE_val 4 _ hl (bytes_take hb 4), List.take_append_drop]
  exact ⟨rfl, e, by omega⟩
theorem back_8 {s : RS} (h : (rdN 8 s).2 = false) (hb : bytesIn s.1) : s.1 = bigE (rd8 s) 8 ++ (rdN 8 s).1 ∧ 0 ≤ rd8 s ∧ rd8 s < 18446744073709551616 := by
  obtain ⟨a, b, c, d⟩ := back_n h
  have hl : (s.1.take 8).length = 8 := by rw [List.length_take]; omega
  obtain ⟨e, f⟩ := val_bound 8 _ hl (bytes_take hb 8)
  have hv : rd8 s = val (s.1.take 8) := by unfold rd8; rw [c, cond_true, num_val (bytes_take hb 8) (by omega)]
  rw [hv, d, bigE_val 8 _ hl (bytes_take hb 8), List.take_append_drop]
  exact ⟨rfl, e, by omega⟩
theorem back_T {s : RS} (h : (rdN (txN s) s).2 = false) (hb : bytesIn s.1) : s.1 = bigE ((rdT s).length : Int) 1 ++ (rdT s ++ (rdN (txN s) s).1) ∧ (rdT s).length ≤ 255 ∧ bytesIn (rdT s) := by
  obtain ⟨a, b, c, d⟩ := back_n h
  have hT : rdT s = (s.1.take (txN s)).drop 1 := by unfold rdT; rw [c, cond_true]
  rw [d, hT]
  obtain ⟨l, sh⟩ := s
  cases l with
  | nil => simp [txN] at b
  | cons x l =>
    have hx := hb x (by simp)
    simp only [txN, List.headD_cons] at b ⊢
    rw [Nat.add_comm 1 x.toNat, List.take_succ_cons, List.drop_succ_cons, List.drop_zero, List.drop_succ_cons]
    have hlen : (l.take x.toNat).length = x.toNat := by rw [List.length_take]; simp at b; omega
    refine ⟨?_, by omega, fun y hy => hb y (by simp [List.mem_of_mem_take hy])⟩
    rw [hlen, show ((x.toNat : Nat) : Int) = x by omega, bigE_one (by omega) (by omega), List.take_append_drop, List.singleton_append]
theorem done_0 {s : RS} (h : doneI s = 0) : s.2 = false ∧ s.1 = [] := by
  unfold doneI at h
  cases hs : s.2 with
  | true => rw [hs] at h; exact absurd h (by simp)
  | false =>
    rw [hs] at h
    by_cases hl : s.1.length = 0
    · exact ⟨rfl, List.eq_nil_of_length_eq_zero hl⟩
    · rw [if_neg (by decide), if_neg hl] at h; exact absurd h (by decide)
theorem done_short {s : RS} (h : s.2 = true) : doneI s = 10 := by unfold doneI; rw [h]; rfl
end Go.Proofs.Ytohnlhklijpafaa.Pure
