-- printed by a program of this work (wip/tools/pr.py over the kit's print): the machine's side of EntryBare, EntryBegins, EntrySizes, EntryEpochs
import Derived.Test.YtahldljkhjebgaaQRwPAx0
import Derived.Test.YtahldljkhjebgaaQRwPAx1
import Derived.Test.YtahldljkhjebgaaQRwPAx2
namespace Go.Proofs.Ytahldljkhjebgaa.PA
open Go.RowKit Go.Proofs.YtahldljkhjebgaaW.PrintWords Go.Proofs.YtahldljkhjebgaaW.PrintLast Go.Proofs.YtahldljkhjebgaaW.PrintMore
attribute [local go_sem] max2_int min2_int max_two min_two max_three min_three max_four min_four   -- for this text's walks alone
set_option linter.unusedVariables false
set_option linter.unusedSimpArgs false

/-! ### entry_Get: function 21 -/
/-! ### readers, whether there are enough bytes or not -/
abbrev RS := List Int × Bool
def rdHas (n : Nat) (s : RS) : Bool := !s.2 && decide (n ≤ s.1.length)
def rdN (n : Nat) (s : RS) : RS := bif rdHas n s then (s.1.drop n, false) else (s.1, true)
def rd1 (s : RS) : Int := bif rdHas 1 s then numOf (s.1.take 1) % 256 else 0
def rd4 (s : RS) : Int := bif rdHas 4 s then numOf (s.1.take 4) % 4294967296 else 0
def rd8 (s : RS) : Int := bif rdHas 8 s then numOf (s.1.take 8) else 0
def bytesIn (l : List Int) : Prop := ∀ x ∈ l, 0 ≤ x ∧ x < 256
def RDB (w0 W : World) (g : Nat) (s : RS) : Prop := RD w0 W g s.1 s.2 ∧ s.1.length ≤ 1000000 ∧ bytesIn s.1
theorem rdHas_not {n : Nat} {s : RS} (h : rdHas n s = false) : s.2 = true ∨ s.1.length < n := by
  unfold rdHas at h
  cases hs : s.2 with
  | true => exact .inl rfl
  | false => rw [hs] at h; exact .inr (by simpa using h)
theorem rdHas_so {n : Nat} {s : RS} (h : rdHas n s = true) : s.2 = false ∧ n ≤ s.1.length := by
  unfold rdHas at h
  simpa using h
theorem RDB.more {w0 W : World} {g n : Nat} {s : RS} (h : rdHas n s = true) (hs : s.1.length ≤ 1000000) (hb : bytesIn s.1) (hR : RD w0 W g (s.1.drop n) false) : RDB w0 W g (rdN n s) := by
  unfold rdN
  rw [h]
  exact ⟨hR, by simp; omega, fun x hx => hb x (List.mem_of_mem_drop hx)⟩
theorem RDB.less {w0 W : World} {g n : Nat} {s : RS} (h : rdHas n s = false) (hs : s.1.length ≤ 1000000) (hb : bytesIn s.1) (hR : RD w0 W g s.1 true) : RDB w0 W g (rdN n s) := by
  unfold rdN
  rw [h]
  exact ⟨hR, hs, hb⟩
theorem field_R8 (g : Nat) (s : RS) (w0 w : World) (HI : RDB w0 w g s) (HB : Below w0.heap.size w0 w) :
    Calls Try.prog 41 #[.pointer (some ⟨g, 0, none⟩)] w fun e w' => e = .returned (.int .u8 (rd1 s)) ∧ RDB w0 w' g (rdN 1 s) ∧ Below w0.heap.size w0 w' ∧ OB w w' g := by
  obtain ⟨hR, hl, hb⟩ := HI
  cases h : rdHas 1 s with
  | true =>
    obtain ⟨h1, h2⟩ := rdHas_so h
    rw [h1] at hR
    refine (field_RU8.more g s.1 w0 w h2 hl hR HB hb).mono ?_
    rintro e w' ⟨rfl, h3, h4, h5⟩
    refine ⟨?_, RDB.more h hl hb h3, h4, h5⟩
    unfold rd1
    rw [h]
    rfl
  | false =>
    refine (field_RU8.less g s.1 s.2 w0 w (rdHas_not h) hl hR HB).mono ?_
    rintro e w' ⟨rfl, h3, h4, h5⟩
    refine ⟨?_, RDB.less h hl hb h3, h4, h5⟩
    unfold rd1
    rw [h]
    rfl
theorem field_R32 (g : Nat) (s : RS) (w0 w : World) (HI : RDB w0 w g s) (HB : Below w0.heap.size w0 w) :
    Calls Try.prog 43 #[.pointer (some ⟨g, 0, none⟩)] w fun e w' => e = .returned (.int .u32 (rd4 s)) ∧ RDB w0 w' g (rdN 4 s) ∧ Below w0.heap.size w0 w' ∧ OB w w' g := by
  obtain ⟨hR, hl, hb⟩ := HI
  cases h : rdHas 4 s with
  | true =>
    obtain ⟨h1, h2⟩ := rdHas_so h
    rw [h1] at hR
    refine (field_RU32.more g s.1 w0 w h2 hl hR HB hb).mono ?_
    rintro e w' ⟨rfl, h3, h4, h5⟩
    refine ⟨?_, RDB.more h hl hb h3, h4, h5⟩
    unfold rd4
    rw [h]
    rfl
  | false =>
    refine (field_RU32.less g s.1 s.2 w0 w (rdHas_not h) hl hR HB).mono ?_
    rintro e w' ⟨rfl, h3, h4, h5⟩
    refine ⟨?_, RDB.less h hl hb h3, h4, h5⟩
    unfold rd4
    rw [h]
    rfl
theorem field_R64 (g : Nat) (s : RS) (w0 w : World) (HI : RDB w0 w g s) (HB : Below w0.heap.size w0 w) :
    Calls Try.prog 42 #[.pointer (some ⟨g, 0, none⟩)] w fun e w' => e = .returned (.int .u64 (rd8 s)) ∧ RDB w0 w' g (rdN 8 s) ∧ Below w0.heap.size w0 w' ∧ OB w w' g := by
  obtain ⟨hR, hl, hb⟩ := HI
  cases h : rdHas 8 s with
  | true =>
    obtain ⟨h1, h2⟩ := rdHas_so h
    rw [h1] at hR
    refine (field_RU64.more g s.1 w0 w h2 hl hR HB hb).mono ?_
    rintro e w' ⟨rfl, h3, h4, h5⟩
    refine ⟨?_, RDB.more h hl hb h3, h4, h5⟩
    unfold rd8
    rw [h]
    rfl
  | false =>
    refine (field_RU64.less g s.1 s.2 w0 w (rdHas_not h) hl hR HB).mono ?_
    rintro e w' ⟨rfl, h3, h4, h5⟩
    refine ⟨?_, RDB.less h hl hb h3, h4, h5⟩
    unfold rd8
    rw [h]
    rfl
theorem RDB.alloc {w0 W : World} {g : Nat} {s : RS} (h : RDB w0 W g s) (o : Obj) : RDB w0 (W.alloc o) g s := by
  obtain ⟨⟨b, off, cap, h1, h2, h3, cur, h4, h5⟩, h6⟩ := h
  exact ⟨⟨b, off, cap, bd3 _ h1, h2, h3, cur, bd3 _ h4, h5⟩, h6⟩

theorem RDB.lt {w0 W : World} {g : Nat} {s : RS} (h : RDB w0 W g s) : g < W.heap.size := by
  obtain ⟨⟨b, off, cap, h1, h2, h3, cur, h4, h5⟩, h6⟩ := h
  exact blk_lt h1

theorem RDB.set {w0 W : World} {g k i : Nat} {s : RS} {cs : Array Value} (h : RDB w0 W g s) (he : W.heap[k]? = some (.cells cs 26 (0, 0))) (u : Value) : RDB w0 (W.setCell ⟨k, i, none⟩ u) g s := by
  obtain ⟨⟨b, off, cap, h1, h2, h3, cur, h4, h5⟩, h6⟩ := h
  exact ⟨⟨b, off, cap, blk_far h1 (blk_ne h1 he (by decide)) u, h2, h3, cur, blk_far h4 (blk_ne h4 he (by decide)) u, h5⟩, h6⟩
theorem OB.keep {w w' : World} {g b : Nat} {o : Obj} (hO : OB w w' g) (h : w.heap[b]? = some o) (hb : b ≠ g) : w'.heap[b]? = some o := (hO.2 b (blk_lt h) hb).trans h
/-- how it ended -/
def doneI (s : RS) : Int := if s.2 then 10 else if s.1.length = 0 then 0 else 11
theorem field_RD (g : Nat) (s : RS) (w0 w : World) (HI : RDB w0 w g s) :
    Calls Try.prog 45 #[.pointer (some ⟨g, 0, none⟩)] w fun e w' => e = .returned (.int .i64 (doneI s)) ∧ Drawn0 w w' := field_RDone.calls g s.1 s.2 w0 w HI.2.1 HI.1
/-- a text: how many bytes, and they -/
def txN (s : RS) : Nat := 1 + (s.1.headD 0).toNat
def rdT (s : RS) : List Int := bif rdHas (txN s) s then (s.1.take (txN s)).drop 1 else []
theorem BY.row {w0 W : World} {b off cap : Nat} {l : List Int} (h : BY w0 W b off cap l) (hl : l.length ≤ 1000000) : Kd.C (Kd.int .u8) W (some ⟨b, off, none⟩) l.length l := by
  refine Kd.C_of_reads (d := 0) ⟨rfl, by omega, fun hn => ⟨_, rfl, fun j hj => ?_⟩⟩
  obtain ⟨x, hx⟩ : ∃ x, l[j]? = some x := ⟨l[j], by simp [hj]⟩
  have := BY.at_ h hx
  rw [List.getD_eq_getElem?_getD, hx]
  cases j with
  | zero => simpa [Addr.add] using this
  | succ j => simpa [Addr.add] using this
theorem BY.row1 {w0 W : World} {b off cap m : Nat} {l : List Int} (h : BY w0 W b off cap (l.take m)) (hm : (l.take m).length = m) (hl : m ≤ 1000000) : Kd.C (Kd.int .u8) W (some ⟨b, off + 1, none⟩) (m - 1) ((l.take m).drop 1) := by
  by_cases h0 : 1 ≤ m
  · have h1 := BY.row (BY.drop h (n := 1) (by omega)) (by simp only [List.length_drop]; omega)
    rwa [List.length_drop, hm] at h1
  · have e : m = 0 := by omega
    subst e
    exact ⟨by simp, by omega, fun h => absurd h (by omega)⟩
theorem BY.row0 {W : World} {m : Nat} {l : List Int} (A : Option Addr) (h : m - 1 = 0) (hm : (l.take m).length = m) : Kd.C (Kd.int .u8) W A (m - 1) ((l.take m).drop 1) :=
  ⟨by simp only [List.length_drop, hm], by omega, fun h2 => absurd h2 (by omega)⟩
theorem RDB.below {w0 W W2 : World} {g : Nat} {s : RS} (h : RDB w0 W g s) (hb : Below W.heap.size W W2) : RDB w0 W2 g s := by
  obtain ⟨⟨b, off, cap, h1, h2, h3, cur, h4, h5⟩, h6⟩ := h
  exact ⟨⟨b, off, cap, blk_below h1 hb, h2, h3, cur, blk_below h4 hb, h5⟩, h6⟩
theorem OB.below {w w1 w2 : World} {g : Nat} (h : OB w w1 g) (hb : Below w1.heap.size w1 w2) : OB w w2 g :=
  ⟨Nat.le_trans h.1 hb.size, fun k hk hg => (hb.block k (by have := h.1; omega)).trans (h.2 k hk hg)⟩
set_option maxHeartbeats 8000000 in
set_option maxRecDepth 100000 in
theorem field_RText (g : Nat) (s : RS) (w0 w : World) (HI : RDB w0 w g s) (HB : Below w0.heap.size w0 w) :
    Calls Try.prog 44 #[.pointer (some ⟨g, 0, none⟩)] w fun e w' => ∃ v : Value, e = .returned v ∧ Kd.R (Kd.int .u8) 5 w' w.heap.size (fun _ => True) v (rdT s) ∧ RDB w0 w' g (rdN (txN s) s) ∧ Below w0.heap.size w0 w' ∧ OB w w' g := by
  obtain ⟨l, sh⟩ := s
  have GI := Aside0.mk HI.1
  have GL := Aside0.mk HI.2.1
  have GN := Aside0.mk HI.2.2
  have GB := Aside0.mk HB
  obtain ⟨⟨b, off, cap, hv, hg, hne, hY⟩, hl, hb⟩ := HI
  have hc0 : w.cell? ⟨g, 0, none⟩ = some (.slice (some ⟨b, off, none⟩) l.length cap) := (blk_cell hv 0).trans rfl
  have hf0 : w.frozen? ⟨g, 0, none⟩ = false := blk_frozen hv 0
  have hgl := blk_lt hv
  clear HB
  cases l with
  | nil =>
    have d1 : decide (0 < ((([] : List Int).length : Nat) : Int)) = false := rfl
    clear hv hg hne hY hb hl
    go_enter Try.func44, Try.ntmps44
    go_wp2_with (first | (go_at_call 53; (with_reducible refine (field_take.less 1 1 rfl g [] sh w0 _ (.inr (by decide)) GL.out (by decide) GI.out GB.out).mono ?_); rintro e w1 ⟨rfl, hI1, hB1, hO1⟩; have GI1 := Aside0.mk hI1; have GB1 := Aside0.mk hB1; have GO1 := Aside0.mk hO1; clear hI1 hB1 hO1))
    have e1 : rdHas (txN (([] : List Int), sh)) (([] : List Int), sh) = false := by cases sh <;> rfl
    refine bodyPost_ret ?_ rfl ⟨.slice none 0 0, rfl, ?_, RDB.less e1 GL.out GN.out GI1.out, GB1.out, GO1.out⟩
    · simp [results, Try.results44, go_sem]
    · have e2 : rdT (([] : List Int), sh) = [] := by unfold rdT; rw [e1]; rfl
      rw [e2]
      exact Kd.R_nil _ _ _ _ _
  | cons x r =>
    have hx := hb x (List.mem_cons_self ..)
    have hcell : w.cell? ⟨b, off, none⟩ = some (.int .u8 x) := by have := hY.at_ (j := 0) (x := x) rfl; simpa using this
    obtain ⟨n, hn⟩ : ∃ n, n = (x :: r).length := ⟨_, rfl⟩
    have hn1 : 0 < n := by rw [hn, List.length_cons]; omega
    rw [← hn] at hc0
    have d1 : decide (0 < (n : Int)) = true := decide_eq_true (by omega)
    have d2 : decide (0 < n) = true := decide_eq_true hn1
    have f2 : wrap64 x = x := by unfold wrap64; omega
    have f1 : IntKind.i64.wrap x = x := (i64_w x).trans f2
    have f3 : wrap64 (1 + x) = 1 + x := by unfold wrap64; omega
    have hz : (1 + x : Int) = ((txN ((x :: r), sh) : Nat) : Int) := by simp [txN]; omega
    have hn2 : txN ((x :: r), sh) ≤ 1000000 := by simp [txN]; omega
    have HZ := Aside0.mk hz
    have HM := Aside0.mk hn2
    clear hz hn2
    have hcb : (0 : Int) < (n : Int) := by omega
    have HN := Aside0.mk hn
    clear hn
    clear hv hg hne hY hb hl hx
    cases e1 : rdHas (txN ((x :: r), sh)) ((x :: r), sh) with
    | false =>
      have E1 := Aside0.mk e1
      clear e1
      go_enter Try.func44, Try.ntmps44
      go_wp2_with (first | (go_at_call 53; (with_reducible refine (field_take.less (txN ((x :: r), sh)) (1 + x) HZ.out g (x :: r) sh w0 _ (rdHas_not E1.out) GL.out HM.out GI.out GB.out).mono ?_); rintro e w1 ⟨rfl, hI1, hB1, hO1⟩; have GI1 := Aside0.mk hI1; have GB1 := Aside0.mk hB1; have GO1 := Aside0.mk hO1; clear hI1 hB1 hO1))
      refine bodyPost_ret ?_ rfl ⟨.slice none 0 0, rfl, ?_, RDB.less E1.out GL.out GN.out GI1.out, GB1.out, GO1.out⟩
      · simp [results, Try.results44, go_sem]
      · have e2 : rdT ((x :: r), sh) = [] := by unfold rdT; rw [E1.out]; rfl
        rw [e2]
        exact Kd.R_nil _ _ _ _ _
    | true =>
      obtain ⟨hs1, hs2⟩ := rdHas_so e1
      have E1 := Aside0.mk e1
      have E2 := Aside0.mk hs2
      obtain rfl : sh = false := hs1
      have GT := Aside0.mk (show (((x :: r).take (txN ((x :: r), false))).length : Nat) = txN ((x :: r), false) by rw [List.length_take]; exact Nat.min_eq_left hs2)
      have ht1 : 1 ≤ txN ((x :: r), false) := by simp [txN]
      clear e1 hs2
      generalize hm : txN ((x :: r), false) = m at *
      have HX := Aside0.mk hm
      clear hm
      have p1 : decide ((m : Int) = 0) = false := decide_eq_false (by omega)
      have p2 : ((m : Int) == 0) = false := beq_eq_false_iff_ne.mpr (by omega)
      have p3 : (m == 0) = false := beq_eq_false_iff_ne.mpr (by omega)
      have p4 : (1 : Int) ≤ (m : Int) := by omega
      have hnil : ∀ W : World, Aside0 ((Kd.int .u8).R 5 (W.alloc (.cells #[] 5)) W.heap.size (fun _ => True) (.slice (some ⟨W.heap.size, 0, none⟩) 0 0) []) := by
        intro W
        have h2 := World.ownsRow_lit (base := W.heap.size) (e := 5) (size := 1) W #[] 0 (Nat.le_refl _) (by decide) (by simp)
        exact ⟨Kd.R_of_own (xs := []) (by simpa [encs] using h2) (fun _ _ => trivial)⟩
      have Hnil := Aside0.mk hnil
      clear hnil
      go_enter Try.func44, Try.ntmps44
      go_upto_region 9 with (first | (go_at_call 53; (with_reducible refine (field_take.more m (1 + x) HZ.out g (x :: r) w0 _ E2.out GL.out GI.out GB.out).mono ?_); rintro e w1 ⟨b1, off1, cap1, rfl, hY1, hI1, hB1, hO1⟩; rw [GT.out]; have hcap : m ≤ cap1 := (by obtain ⟨_, _, _, hh, _⟩ := hY1; rw [GT.out] at hh; exact hh); have q1 : (m : Int) ≤ (cap1 : Int) := (by omega); have GY1 := Aside0.mk hY1; have GI1 := Aside0.mk hI1; have GB1 := Aside0.mk hB1; have GO1 := Aside0.mk hO1; clear hY1 hI1 hB1 hO1))
      by_cases hcp : cap1 = 1
      · have hm1 : m - 1 = 0 := by omega
        have HM1 := Aside0.mk hm1
        clear hm1
        go_wp2_with (first | ((with_reducible refine gate_builtin (b := .append) (xs := #[.tmp 28, .tmp 30]) rfl ?_); at_builtin; refine Kd.R_append_rows (Kd.int .u8) (w0 := w1) w1.heap.size rfl (.tmp 28) (.tmp 30) 24 5 (.int .u8 0) 1 rfl Try.underlying24 (by kernel_rfl) rfl (by decide) (by omega) (.slice (some ⟨w1.heap.size, 0, none⟩) 0 0) [] (((x :: r).take m).drop 1) _ _ _ (fun _ => True) (fun _ => False) rfl rfl ?aO ?aR (fun _ _ h => h) (fun _ h => h.elim) ?aF ?aB ?aS ?aL ?_; (case aO => exact (Hnil.out w1).out); (case aR => exact Kd.C_alloc (BY.row0 _ HM1.out GT.out) _); (case aF => intro _ _; trivial); (case aB => exact below_alloc (Below.refl _ _) _); (case aS => simp); (case aL => have := HM.out; simp; omega); intro v1 w2 hR2 hB2 hG2 hat2; have GR2 := Aside0.mk hR2; have GB2 := Aside0.mk hB2; clear hR2 hB2 hG2 hat2))
        refine bodyPost_ret ?_ rfl ⟨v1, rfl, ?_, RDB.below (RDB.more E1.out GL.out GN.out GI1.out) GB2.out, below_step GB1.out GB2.out, OB.below GO1.out GB2.out⟩
        · simp [results, Try.results44, go_sem]
        · have e2 : rdT ((x :: r), false) = ((x :: r).take m).drop 1 := by unfold rdT; rw [HX.out, E1.out]; rfl
          rw [e2]
          exact Kd.R_lower GR2.out GO1.out.1
      · go_wp2_with (first | ((with_reducible refine gate_builtin (b := .append) (xs := #[.tmp 28, .tmp 30]) rfl ?_); at_builtin; refine Kd.R_append_rows (Kd.int .u8) (w0 := w1) w1.heap.size rfl (.tmp 28) (.tmp 30) 24 5 (.int .u8 0) 1 rfl Try.underlying24 (by kernel_rfl) rfl (by decide) (by omega) (.slice (some ⟨w1.heap.size, 0, none⟩) 0 0) [] (((x :: r).take m).drop 1) _ _ _ (fun _ => True) (fun _ => False) rfl rfl ?aO ?aR (fun _ _ h => h) (fun _ h => h.elim) ?aF ?aB ?aS ?aL ?_; (case aO => exact (Hnil.out w1).out); (case aR => exact Kd.C_alloc (BY.row1 GY1.out GT.out HM.out) _); (case aF => intro _ _; trivial); (case aB => exact below_alloc (Below.refl _ _) _); (case aS => simp); (case aL => have := HM.out; simp; omega); intro v1 w2 hR2 hB2 hG2 hat2; have GR2 := Aside0.mk hR2; have GB2 := Aside0.mk hB2; clear hR2 hB2 hG2 hat2))
        refine bodyPost_ret ?_ rfl ⟨v1, rfl, ?_, RDB.below (RDB.more E1.out GL.out GN.out GI1.out) GB2.out, below_step GB1.out GB2.out, OB.below GO1.out GB2.out⟩
        · simp [results, Try.results44, go_sem]
        · have e2 : rdT ((x :: r), false) = ((x :: r).take m).drop 1 := by unfold rdT; rw [HX.out, E1.out]; rfl
          rw [e2]
          exact Kd.R_lower GR2.out GO1.out.1
theorem rd1_range (s : RS) : 0 ≤ rd1 s ∧ rd1 s < 256 := by
  unfold rd1
  cases rdHas 1 s with
  | true => simp only [cond_true]; omega
  | false => simp
theorem entry_put {w : World} {g : Nat} {b0 b1 b2 b3 b4 b5 b6 b7 b8 b9 b10 : Value} (v0 v1 v2 v3 v4 v5 v6 v7 v8 v9 v10 : Value) (h : w.heap[g]? = some (.cells #[b0, b1, b2, b3, b4, b5, b6, b7, b8, b9, b10] 26 (0, 0))) :
    ∃ Wf : World, Wf = (((((((((((w.setCell ⟨g, 0, none⟩ v0).setCell ⟨g, 1, none⟩ v1).setCell ⟨g, 2, none⟩ v2).setCell ⟨g, 3, none⟩ v3).setCell ⟨g, 4, none⟩ v4).setCell ⟨g, 5, none⟩ v5).setCell ⟨g, 6, none⟩ v6).setCell ⟨g, 7, none⟩ v7).setCell ⟨g, 8, none⟩ v8).setCell ⟨g, 9, none⟩ v9).setCell ⟨g, 10, none⟩ v10) ∧ Wf.heap[g]? = some (.cells #[v0, v1, v2, v3, v4, v5, v6, v7, v8, v9, v10] 26 (0, 0)) ∧ (∀ r, r ≠ g → Wf.heap[r]? = w.heap[r]?) := by
  refine ⟨_, rfl, ?_, fun r hr => ?_⟩
  · have h0 := blk_put (cs' := #[v0, b1, b2, b3, b4, b5, b6, b7, b8, b9, b10]) h 0 v0 rfl
    have h1 := blk_put (cs' := #[v0, v1, b2, b3, b4, b5, b6, b7, b8, b9, b10]) h0 1 v1 rfl
    have h2 := blk_put (cs' := #[v0, v1, v2, b3, b4, b5, b6, b7, b8, b9, b10]) h1 2 v2 rfl
    have h3 := blk_put (cs' := #[v0, v1, v2, v3, b4, b5, b6, b7, b8, b9, b10]) h2 3 v3 rfl
    have h4 := blk_put (cs' := #[v0, v1, v2, v3, v4, b5, b6, b7, b8, b9, b10]) h3 4 v4 rfl
    have h5 := blk_put (cs' := #[v0, v1, v2, v3, v4, v5, b6, b7, b8, b9, b10]) h4 5 v5 rfl
    have h6 := blk_put (cs' := #[v0, v1, v2, v3, v4, v5, v6, b7, b8, b9, b10]) h5 6 v6 rfl
    have h7 := blk_put (cs' := #[v0, v1, v2, v3, v4, v5, v6, v7, b8, b9, b10]) h6 7 v7 rfl
    have h8 := blk_put (cs' := #[v0, v1, v2, v3, v4, v5, v6, v7, v8, b9, b10]) h7 8 v8 rfl
    have h9 := blk_put (cs' := #[v0, v1, v2, v3, v4, v5, v6, v7, v8, v9, b10]) h8 9 v9 rfl
    have h10 := blk_put (cs' := #[v0, v1, v2, v3, v4, v5, v6, v7, v8, v9, v10]) h9 10 v10 rfl
    exact h10
  · iterate 11 refine (Below.heap_setCell _ _ _ r hr).trans ?_
    rfl
theorem OB.but {w w' : World} {g : Nat} (h : OB w w' g) : KeepBut w w' g none := ⟨h.1, fun k hk hg _ => h.2 k hk hg⟩
theorem R_new {w W : World} {B : Nat} {ok : Nat → Prop} {v : Value} {l : List Int} (h : Kd.R (Kd.int .u8) 5 W B ok v l) (hb : w.heap.size ≤ B) : Kd.R (Kd.int .u8) 5 W w.heap.size (fun k => B ≤ k ∧ k < W.heap.size) v l :=
  Kd.R_lower (Kd.R_mono (Kd.R_bound h) (fun k hk => ⟨hk.2.1, hk.2.2.1⟩)) hb
set_option maxHeartbeats 8000000 in
set_option maxRecDepth 100000 in
theorem get_2_done (A : Option Addr) (c : Nat) (l0 : List Int) (ls ep o : Int) (l9 l10 : List Int) (s1 s2 s3 s4 s5 s6 : RS) (w : World) (hr : Kd.C (Kd.int .u8) w A l0.length l0) (hl : l0.length ≤ 1000000) (hb0 : bytesIn l0) (hk : rd1 ((l0, false) : RS) = 2) (e1 : rdN 1 ((l0, false) : RS) = s1) (hls : rd8 s1 = ls) (e2 : rdN 8 s1 = s2) (hep : rd4 s2 = ep) (e3 : rdN 4 s2 = s3) (ho : rd4 s3 = o) (e4 : rdN 4 s3 = s4) (hl9 : rdT s4 = l9) (e5 : rdN (txN s4) s4 = s5) (hl10 : rdT s5 = l10) (e6 : rdN (txN s5) s5 = s6) (hd : (doneI s6 != 0) = true) : Calls Try.prog 21 #[.slice A l0.length c] w fun e w' => ∃ v9_ v10_ : Value, e = .returned (.tuple #[.agg #[.int .i64 0, .int .u64 0, .int .u32 0, .int .u32 0, .int .i64 0, .bool false, .int .i64 0, .int .i64 0, .int .u64 0, v9_, v10_], .int .i64 40]) ∧ Kd.R (Kd.int .u8) 5 w' w.heap.size (fun k_ => some k_ ≠ (v10_ : Value).ownBlock) v9_ ([] : List Int) ∧ Kd.R (Kd.int .u8) 5 w' w.heap.size (fun k_ => some k_ ≠ (v9_ : Value).ownBlock) v10_ ([] : List Int) ∧ Below w.heap.size w w' := by
  have Hk := Aside0.mk hk
  have E1 := Aside0.mk e1
  clear hk e1
  have Hls := Aside0.mk hls
  have E2 := Aside0.mk e2
  clear hls e2
  have Hep := Aside0.mk hep
  have E3 := Aside0.mk e3
  clear hep e3
  have Ho := Aside0.mk ho
  have E4 := Aside0.mk e4
  clear ho e4
  have Hl9 := Aside0.mk hl9
  have E5 := Aside0.mk e5
  clear hl9 e5
  have Hl10 := Aside0.mk hl10
  have E6 := Aside0.mk e6
  clear hl10 e6
  have GR := Aside0.mk hr
  have GL := Aside0.mk hl
  have GY := Aside0.mk hb0
  clear hr hl hb0
  go_enter Try.func21, Try.ntmps21
  go_wp2_with (first | (go_at_call 40; (with_reducible refine (fieldNewR.calls A c l0 w _ (Kd.C_alloc GR.out _) GL.out (below_alloc (Below.refl _ _) _)).mono ?_); rintro e w1 ⟨g, rfl, hRD, hB, hB2, hg⟩; have HR := Aside0.mk (show RDB w w1 g ((l0, false) : RS) from ⟨hRD, GL.out, GY.out⟩); have BR := Aside0.mk (blk_below (heap_last _ _) hB2); have HG := Aside0.mk (show w.heap.size ≠ g by simp at hg; omega); have HB := Aside0.mk hB; clear hRD hB hB2 hg) | (go_at_call 41; (with_reducible refine (field_R8 g ((l0, false) : RS) w _ (HR.out) (HB.out)).mono ?_); rintro e w2 ⟨rfl, hR, hBB, hO⟩; rw [Hk.out]; rw [E1.out] at hR; have n_BR := Aside0.mk (OB.keep hO (BR.out) HG.out); have n_HR := Aside0.mk hR; have n_HB := Aside0.mk hBB; clear hR hBB hO HR HB BR; have HR := n_HR; have HB := n_HB; have BR := n_BR; clear n_HR n_HB n_BR) | (go_at_call 42; (with_reducible refine (field_R64 g s1 w _ (HR.out) (HB.out)).mono ?_); rintro e w3 ⟨rfl, hR, hBB, hO⟩; rw [Hls.out]; rw [E2.out] at hR; have n_BR := Aside0.mk (OB.keep hO (BR.out) HG.out); have n_HR := Aside0.mk hR; have n_HB := Aside0.mk hBB; clear hR hBB hO HR HB BR; have HR := n_HR; have HB := n_HB; have BR := n_BR; clear n_HR n_HB n_BR) | (go_at_call 43; (with_reducible refine (field_R32 g s2 w _ (RDB.alloc HR.out _) (below_alloc HB.out _)).mono ?_); rintro e w4 ⟨rfl, hR, hBB, hO⟩; rw [Hep.out]; rw [E3.out] at hR; have n_BR := Aside0.mk (OB.keep hO (bd3 _ BR.out) HG.out); have HE := Aside0.mk (show w3.heap.size ≠ g by have := RDB.lt HR.out; omega); have HGE := Aside0.mk (show w.heap.size ≤ w3.heap.size from HB.out.size); have HRE := Aside0.mk (show w.heap.size ≠ w3.heap.size by have := blk_lt BR.out; omega); have n_BE := Aside0.mk (OB.keep hO (heap_last _ (.cells #[.int .i64 2, .int .u64 ls, .int .u32 0, .int .u32 0, .int .i64 0, .bool false, .int .i64 0, .int .i64 0, .int .u64 0, .slice none 0 0, .slice none 0 0] 26 (0, 0))) HE.out); have n_HR := Aside0.mk hR; have n_HB := Aside0.mk hBB; clear hR hBB hO HR HB BR; have HR := n_HR; have HB := n_HB; have BR := n_BR; clear n_HR n_HB n_BR; have BE := n_BE; clear n_BE; obtain ⟨q0, q1, q2, q3, q4, q5, q6, q7, q8, q9, q10, qf, ql⟩ := entry_all BE.out; obtain ⟨z0, z1, z2, z3, z4, z5, z6, z7, z8, z9, z10, zf, zl⟩ := entry_all BR.out; have hre := HRE.out) | (go_at_call 43; (with_reducible refine (field_R32 g s3 w _ (RDB.set (i := 2) (HR.out) (BE.out) (.int .u32 ep)) (below_set (HB.out) HGE.out)).mono ?_); rintro e w5 ⟨rfl, hR, hBB, hO⟩; rw [Ho.out]; rw [E4.out] at hR; have n_BR := Aside0.mk (OB.keep hO (blk_far (p := ⟨w3.heap.size, 2, none⟩) (BR.out) HRE.out (.int .u32 ep)) HG.out); have n_BE := Aside0.mk (OB.keep hO (blk_put (cs' := #[.int .i64 2, .int .u64 ls, .int .u32 ep, .int .u32 0, .int .i64 0, .bool false, .int .i64 0, .int .i64 0, .int .u64 0, .slice none 0 0, .slice none 0 0]) (BE.out) 2 (.int .u32 ep) rfl) HE.out); have n_HR := Aside0.mk hR; have n_HB := Aside0.mk hBB; clear hR hBB hO HR HB BR BE; have HR := n_HR; have HB := n_HB; have BR := n_BR; clear n_HR n_HB n_BR; have BE := n_BE; clear n_BE; clear q0 q1 q2 q3 q4 q5 q6 q7 q8 q9 q10 qf ql z0 z1 z2 z3 z4 z5 z6 z7 z8 z9 z10 zf zl; obtain ⟨q0, q1, q2, q3, q4, q5, q6, q7, q8, q9, q10, qf, ql⟩ := entry_all BE.out; obtain ⟨z0, z1, z2, z3, z4, z5, z6, z7, z8, z9, z10, zf, zl⟩ := entry_all BR.out) | (go_at_call 44; (with_reducible refine (field_RText g s4 w _ (RDB.set (i := 3) (HR.out) (BE.out) (.int .u32 o)) (below_set (HB.out) HGE.out)).mono ?_); rintro e w6 ⟨v_, rfl, hV, hR, hBB, hO⟩; rw [Hl9.out] at hV; obtain ⟨A9, c9, ev_⟩ := Kd.R_slice hV; subst ev_; rw [E5.out] at hR; have n_BR := Aside0.mk (OB.keep hO (blk_far (p := ⟨w3.heap.size, 3, none⟩) (BR.out) HRE.out (.int .u32 o)) HG.out); have n_BE := Aside0.mk (OB.keep hO (blk_put (cs' := #[.int .i64 2, .int .u64 ls, .int .u32 ep, .int .u32 o, .int .i64 0, .bool false, .int .i64 0, .int .i64 0, .int .u64 0, .slice none 0 0, .slice none 0 0]) (BE.out) 3 (.int .u32 o) rfl) HE.out); have Qg9 := Aside0.mk (RDB.lt (RDB.set (i := 3) (HR.out) (BE.out) (.int .u32 o))); have Qe9 := Aside0.mk (blk_lt (blk_put (cs' := #[.int .i64 2, .int .u64 ls, .int .u32 ep, .int .u32 o, .int .i64 0, .bool false, .int .i64 0, .int .i64 0, .int .u64 0, .slice none 0 0, .slice none 0 0]) (BE.out) 3 (.int .u32 o) rfl)); have Qr9 := Aside0.mk (blk_lt (blk_far (p := ⟨w3.heap.size, 3, none⟩) (BR.out) HRE.out (.int .u32 o))); have n_V := Aside0.mk (R_new hV (show w.heap.size ≤ _ by exact Nat.le_trans HB.out.size (by simp))); have V9 := n_V; clear n_V hV; have n_HR := Aside0.mk hR; have n_HB := Aside0.mk hBB; clear hR hBB hO HR HB BR BE; have HR := n_HR; have HB := n_HB; have BR := n_BR; clear n_HR n_HB n_BR; have BE := n_BE; clear n_BE; clear q0 q1 q2 q3 q4 q5 q6 q7 q8 q9 q10 qf ql z0 z1 z2 z3 z4 z5 z6 z7 z8 z9 z10 zf zl; obtain ⟨q0, q1, q2, q3, q4, q5, q6, q7, q8, q9, q10, qf, ql⟩ := entry_all BE.out; obtain ⟨z0, z1, z2, z3, z4, z5, z6, z7, z8, z9, z10, zf, zl⟩ := entry_all BR.out) | (go_at_call 44; (with_reducible refine (field_RText g s5 w _ (RDB.set (i := 9) (HR.out) (BE.out) (.slice A9 l9.length c9)) (below_set (HB.out) HGE.out)).mono ?_); rintro e w7 ⟨v_, rfl, hV, hR, hBB, hO⟩; rw [Hl10.out] at hV; obtain ⟨A10, c10, ev_⟩ := Kd.R_slice hV; subst ev_; rw [E6.out] at hR; have n_BR := Aside0.mk (OB.keep hO (blk_far (p := ⟨w3.heap.size, 9, none⟩) (BR.out) HRE.out (.slice A9 l9.length c9)) HG.out); have n_BE := Aside0.mk (OB.keep hO (blk_put (cs' := #[.int .i64 2, .int .u64 ls, .int .u32 ep, .int .u32 o, .int .i64 0, .bool false, .int .i64 0, .int .i64 0, .int .u64 0, .slice A9 l9.length c9, .slice none 0 0]) (BE.out) 9 (.slice A9 l9.length c9) rfl) HE.out); have Qg10 := Aside0.mk (RDB.lt (RDB.set (i := 9) (HR.out) (BE.out) (.slice A9 l9.length c9))); have Qe10 := Aside0.mk (blk_lt (blk_put (cs' := #[.int .i64 2, .int .u64 ls, .int .u32 ep, .int .u32 o, .int .i64 0, .bool false, .int .i64 0, .int .i64 0, .int .u64 0, .slice A9 l9.length c9, .slice none 0 0]) (BE.out) 9 (.slice A9 l9.length c9) rfl)); have Qr10 := Aside0.mk (blk_lt (blk_far (p := ⟨w3.heap.size, 9, none⟩) (BR.out) HRE.out (.slice A9 l9.length c9))); have n_V9 := Aside0.mk (Kd.R_keep (Kd.R_far V9.out (fun k_ hk => by have := hk.1; have := Qe9.out; show k_ ≠ w3.heap.size; omega) _) (OB.but hO) (fun k_ hk => by have := hk.1; have := Qg9.out; omega)); have n_V := Aside0.mk (R_new hV (show w.heap.size ≤ _ by exact Nat.le_trans HB.out.size (by simp))); clear V9; have V9 := n_V9; clear n_V9; have V10 := n_V; clear n_V hV; have n_HR := Aside0.mk hR; have n_HB := Aside0.mk hBB; clear hR hBB hO HR HB BR BE; have HR := n_HR; have HB := n_HB; have BR := n_BR; clear n_HR n_HB n_BR; have BE := n_BE; clear n_BE; clear q0 q1 q2 q3 q4 q5 q6 q7 q8 q9 q10 qf ql z0 z1 z2 z3 z4 z5 z6 z7 z8 z9 z10 zf zl; obtain ⟨q0, q1, q2, q3, q4, q5, q6, q7, q8, q9, q10, qf, ql⟩ := entry_all BE.out; obtain ⟨z0, z1, z2, z3, z4, z5, z6, z7, z8, z9, z10, zf, zl⟩ := entry_all BR.out) | (go_at_call 45; (with_reducible refine (field_RD g s6 w _ (RDB.set (i := 10) (HR.out) (BE.out) (.slice A10 l10.length c10))).mono ?_); rintro e wd ⟨rfl, ⟨nd, rfl⟩⟩))
  refine bodyPost_ret ?_ rfl ⟨.slice none 0 0, .slice none 0 0, rfl, Kd.R_nil _ _ _ _ _, Kd.R_nil _ _ _ _ _, ?_⟩
  · obtain ⟨Wf, eW, h1, h2⟩ := entry_put (.int .i64 0) (.int .u64 0) (.int .u32 0) (.int .u32 0) (.int .i64 0) (.bool false) (.int .i64 0) (.int .i64 0) (.int .u64 0) (.slice none 0 0) (.slice none 0 0) (bd1 nd (blk_far (p := ⟨w3.heap.size, 10, none⟩) (BR.out) HRE.out (.slice A10 l10.length c10)))
    rw [← eW]
    obtain ⟨c0, c1, c2, c3, c4, c5, c6, c7, c8, c9, c10, cf, cl⟩ := entry_all h1
    clear eW h2 h1 cf cl
    simp [results, Try.results21, go_sem, c0, c1, c2, c3, c4, c5, c6, c7, c8, c9, c10]
  · iterate 11 refine below_set ?_ (Nat.le_refl _)
    exact pw_below_drewN (below_set (HB.out) HGE.out) nd
set_option maxHeartbeats 8000000 in
set_option maxRecDepth 100000 in
theorem get_2_check (A : Option Addr) (c : Nat) (l0 : List Int) (ls ep o : Int) (l9 l10 : List Int) (s1 s2 s3 s4 s5 s6 : RS) (w : World) (hr : Kd.C (Kd.int .u8) w A l0.length l0) (hl : l0.length ≤ 1000000) (hb0 : bytesIn l0) (hk : rd1 ((l0, false) : RS) = 2) (e1 : rdN 1 ((l0, false) : RS) = s1) (hls : rd8 s1 = ls) (e2 : rdN 8 s1 = s2) (hep : rd4 s2 = ep) (e3 : rdN 4 s2 = s3) (ho : rd4 s3 = o) (e4 : rdN 4 s3 = s4) (hl9 : rdT s4 = l9) (e5 : rdN (txN s4) s4 = s5) (hl10 : rdT s5 = l10) (e6 : rdN (txN s5) s5 = s6) (hd : (doneI s6 != 0) = false) (hok : entryOk 2 ls ep o 0 false 0 0 0 l9.length l10.length = false) : Calls Try.prog 21 #[.slice A l0.length c] w fun e w' => ∃ v9_ v10_ : Value, e = .returned (.tuple #[.agg #[.int .i64 0, .int .u64 0, .int .u32 0, .int .u32 0, .int .i64 0, .bool false, .int .i64 0, .int .i64 0, .int .u64 0, v9_, v10_], .int .i64 40]) ∧ Kd.R (Kd.int .u8) 5 w' w.heap.size (fun k_ => some k_ ≠ (v10_ : Value).ownBlock) v9_ ([] : List Int) ∧ Kd.R (Kd.int .u8) 5 w' w.heap.size (fun k_ => some k_ ≠ (v9_ : Value).ownBlock) v10_ ([] : List Int) ∧ Below w.heap.size w w' := by
  have Hk := Aside0.mk hk
  have E1 := Aside0.mk e1
  clear hk e1
  have Hls := Aside0.mk hls
  have E2 := Aside0.mk e2
  clear hls e2
  have Hep := Aside0.mk hep
  have E3 := Aside0.mk e3
  clear hep e3
  have Ho := Aside0.mk ho
  have E4 := Aside0.mk e4
  clear ho e4
  have Hl9 := Aside0.mk hl9
  have E5 := Aside0.mk e5
  clear hl9 e5
  have Hl10 := Aside0.mk hl10
  have E6 := Aside0.mk e6
  clear hl10 e6
  have GR := Aside0.mk hr
  have GL := Aside0.mk hl
  have GY := Aside0.mk hb0
  clear hr hl hb0
  have HOK := Aside0.mk hok
  clear hok
  go_enter Try.func21, Try.ntmps21
  go_wp2_with (first | (go_at_call 40; (with_reducible refine (fieldNewR.calls A c l0 w _ (Kd.C_alloc GR.out _) GL.out (below_alloc (Below.refl _ _) _)).mono ?_); rintro e w1 ⟨g, rfl, hRD, hB, hB2, hg⟩; have HR := Aside0.mk (show RDB w w1 g ((l0, false) : RS) from ⟨hRD, GL.out, GY.out⟩); have BR := Aside0.mk (blk_below (heap_last _ _) hB2); have HG := Aside0.mk (show w.heap.size ≠ g by simp at hg; omega); have HB := Aside0.mk hB; clear hRD hB hB2 hg) | (go_at_call 41; (with_reducible refine (field_R8 g ((l0, false) : RS) w _ (HR.out) (HB.out)).mono ?_); rintro e w2 ⟨rfl, hR, hBB, hO⟩; rw [Hk.out]; rw [E1.out] at hR; have n_BR := Aside0.mk (OB.keep hO (BR.out) HG.out); have n_HR := Aside0.mk hR; have n_HB := Aside0.mk hBB; clear hR hBB hO HR HB BR; have HR := n_HR; have HB := n_HB; have BR := n_BR; clear n_HR n_HB n_BR) | (go_at_call 42; (with_reducible refine (field_R64 g s1 w _ (HR.out) (HB.out)).mono ?_); rintro e w3 ⟨rfl, hR, hBB, hO⟩; rw [Hls.out]; rw [E2.out] at hR; have n_BR := Aside0.mk (OB.keep hO (BR.out) HG.out); have n_HR := Aside0.mk hR; have n_HB := Aside0.mk hBB; clear hR hBB hO HR HB BR; have HR := n_HR; have HB := n_HB; have BR := n_BR; clear n_HR n_HB n_BR) | (go_at_call 43; (with_reducible refine (field_R32 g s2 w _ (RDB.alloc HR.out _) (below_alloc HB.out _)).mono ?_); rintro e w4 ⟨rfl, hR, hBB, hO⟩; rw [Hep.out]; rw [E3.out] at hR; have n_BR := Aside0.mk (OB.keep hO (bd3 _ BR.out) HG.out); have HE := Aside0.mk (show w3.heap.size ≠ g by have := RDB.lt HR.out; omega); have HGE := Aside0.mk (show w.heap.size ≤ w3.heap.size from HB.out.size); have HRE := Aside0.mk (show w.heap.size ≠ w3.heap.size by have := blk_lt BR.out; omega); have n_BE := Aside0.mk (OB.keep hO (heap_last _ (.cells #[.int .i64 2, .int .u64 ls, .int .u32 0, .int .u32 0, .int .i64 0, .bool false, .int .i64 0, .int .i64 0, .int .u64 0, .slice none 0 0, .slice none 0 0] 26 (0, 0))) HE.out); have n_HR := Aside0.mk hR; have n_HB := Aside0.mk hBB; clear hR hBB hO HR HB BR; have HR := n_HR; have HB := n_HB; have BR := n_BR; clear n_HR n_HB n_BR; have BE := n_BE; clear n_BE; obtain ⟨q0, q1, q2, q3, q4, q5, q6, q7, q8, q9, q10, qf, ql⟩ := entry_all BE.out; obtain ⟨z0, z1, z2, z3, z4, z5, z6, z7, z8, z9, z10, zf, zl⟩ := entry_all BR.out; have hre := HRE.out) | (go_at_call 43; (with_reducible refine (field_R32 g s3 w _ (RDB.set (i := 2) (HR.out) (BE.out) (.int .u32 ep)) (below_set (HB.out) HGE.out)).mono ?_); rintro e w5 ⟨rfl, hR, hBB, hO⟩; rw [Ho.out]; rw [E4.out] at hR; have n_BR := Aside0.mk (OB.keep hO (blk_far (p := ⟨w3.heap.size, 2, none⟩) (BR.out) HRE.out (.int .u32 ep)) HG.out); have n_BE := Aside0.mk (OB.keep hO (blk_put (cs' := #[.int .i64 2, .int .u64 ls, .int .u32 ep, .int .u32 0, .int .i64 0, .bool false, .int .i64 0, .int .i64 0, .int .u64 0, .slice none 0 0, .slice none 0 0]) (BE.out) 2 (.int .u32 ep) rfl) HE.out); have n_HR := Aside0.mk hR; have n_HB := Aside0.mk hBB; clear hR hBB hO HR HB BR BE; have HR := n_HR; have HB := n_HB; have BR := n_BR; clear n_HR n_HB n_BR; have BE := n_BE; clear n_BE; clear q0 q1 q2 q3 q4 q5 q6 q7 q8 q9 q10 qf ql z0 z1 z2 z3 z4 z5 z6 z7 z8 z9 z10 zf zl; obtain ⟨q0, q1, q2, q3, q4, q5, q6, q7, q8, q9, q10, qf, ql⟩ := entry_all BE.out; obtain ⟨z0, z1, z2, z3, z4, z5, z6, z7, z8, z9, z10, zf, zl⟩ := entry_all BR.out) | (go_at_call 44; (with_reducible refine (field_RText g s4 w _ (RDB.set (i := 3) (HR.out) (BE.out) (.int .u32 o)) (below_set (HB.out) HGE.out)).mono ?_); rintro e w6 ⟨v_, rfl, hV, hR, hBB, hO⟩; rw [Hl9.out] at hV; obtain ⟨A9, c9, ev_⟩ := Kd.R_slice hV; subst ev_; rw [E5.out] at hR; have n_BR := Aside0.mk (OB.keep hO (blk_far (p := ⟨w3.heap.size, 3, none⟩) (BR.out) HRE.out (.int .u32 o)) HG.out); have n_BE := Aside0.mk (OB.keep hO (blk_put (cs' := #[.int .i64 2, .int .u64 ls, .int .u32 ep, .int .u32 o, .int .i64 0, .bool false, .int .i64 0, .int .i64 0, .int .u64 0, .slice none 0 0, .slice none 0 0]) (BE.out) 3 (.int .u32 o) rfl) HE.out); have Qg9 := Aside0.mk (RDB.lt (RDB.set (i := 3) (HR.out) (BE.out) (.int .u32 o))); have Qe9 := Aside0.mk (blk_lt (blk_put (cs' := #[.int .i64 2, .int .u64 ls, .int .u32 ep, .int .u32 o, .int .i64 0, .bool false, .int .i64 0, .int .i64 0, .int .u64 0, .slice none 0 0, .slice none 0 0]) (BE.out) 3 (.int .u32 o) rfl)); have Qr9 := Aside0.mk (blk_lt (blk_far (p := ⟨w3.heap.size, 3, none⟩) (BR.out) HRE.out (.int .u32 o))); have n_V := Aside0.mk (R_new hV (show w.heap.size ≤ _ by exact Nat.le_trans HB.out.size (by simp))); have V9 := n_V; clear n_V hV; have n_HR := Aside0.mk hR; have n_HB := Aside0.mk hBB; clear hR hBB hO HR HB BR BE; have HR := n_HR; have HB := n_HB; have BR := n_BR; clear n_HR n_HB n_BR; have BE := n_BE; clear n_BE; clear q0 q1 q2 q3 q4 q5 q6 q7 q8 q9 q10 qf ql z0 z1 z2 z3 z4 z5 z6 z7 z8 z9 z10 zf zl; obtain ⟨q0, q1, q2, q3, q4, q5, q6, q7, q8, q9, q10, qf, ql⟩ := entry_all BE.out; obtain ⟨z0, z1, z2, z3, z4, z5, z6, z7, z8, z9, z10, zf, zl⟩ := entry_all BR.out) | (go_at_call 44; (with_reducible refine (field_RText g s5 w _ (RDB.set (i := 9) (HR.out) (BE.out) (.slice A9 l9.length c9)) (below_set (HB.out) HGE.out)).mono ?_); rintro e w7 ⟨v_, rfl, hV, hR, hBB, hO⟩; rw [Hl10.out] at hV; obtain ⟨A10, c10, ev_⟩ := Kd.R_slice hV; subst ev_; rw [E6.out] at hR; have n_BR := Aside0.mk (OB.keep hO (blk_far (p := ⟨w3.heap.size, 9, none⟩) (BR.out) HRE.out (.slice A9 l9.length c9)) HG.out); have n_BE := Aside0.mk (OB.keep hO (blk_put (cs' := #[.int .i64 2, .int .u64 ls, .int .u32 ep, .int .u32 o, .int .i64 0, .bool false, .int .i64 0, .int .i64 0, .int .u64 0, .slice A9 l9.length c9, .slice none 0 0]) (BE.out) 9 (.slice A9 l9.length c9) rfl) HE.out); have Qg10 := Aside0.mk (RDB.lt (RDB.set (i := 9) (HR.out) (BE.out) (.slice A9 l9.length c9))); have Qe10 := Aside0.mk (blk_lt (blk_put (cs' := #[.int .i64 2, .int .u64 ls, .int .u32 ep, .int .u32 o, .int .i64 0, .bool false, .int .i64 0, .int .i64 0, .int .u64 0, .slice A9 l9.length c9, .slice none 0 0]) (BE.out) 9 (.slice A9 l9.length c9) rfl)); have Qr10 := Aside0.mk (blk_lt (blk_far (p := ⟨w3.heap.size, 9, none⟩) (BR.out) HRE.out (.slice A9 l9.length c9))); have n_V9 := Aside0.mk (Kd.R_keep (Kd.R_far V9.out (fun k_ hk => by have := hk.1; have := Qe9.out; show k_ ≠ w3.heap.size; omega) _) (OB.but hO) (fun k_ hk => by have := hk.1; have := Qg9.out; omega)); have n_V := Aside0.mk (R_new hV (show w.heap.size ≤ _ by exact Nat.le_trans HB.out.size (by simp))); clear V9; have V9 := n_V9; clear n_V9; have V10 := n_V; clear n_V hV; have n_HR := Aside0.mk hR; have n_HB := Aside0.mk hBB; clear hR hBB hO HR HB BR BE; have HR := n_HR; have HB := n_HB; have BR := n_BR; clear n_HR n_HB n_BR; have BE := n_BE; clear n_BE; clear q0 q1 q2 q3 q4 q5 q6 q7 q8 q9 q10 qf ql z0 z1 z2 z3 z4 z5 z6 z7 z8 z9 z10 zf zl; obtain ⟨q0, q1, q2, q3, q4, q5, q6, q7, q8, q9, q10, qf, ql⟩ := entry_all BE.out; obtain ⟨z0, z1, z2, z3, z4, z5, z6, z7, z8, z9, z10, zf, zl⟩ := entry_all BR.out) | (go_at_call 45; (with_reducible refine (field_RD g s6 w _ (RDB.set (i := 10) (HR.out) (BE.out) (.slice A10 l10.length c10))).mono ?_); rintro e wd ⟨rfl, ⟨nd, rfl⟩⟩) | (go_at_call 15; (with_reducible refine (check_any 2 ls ep o 0 false 0 0 0 A9 l9.length c9 A10 l10.length c10 _).mono ?_); rintro e wc ⟨rfl, hb⟩; rw [HOK.out, ansE]; have n_BE := Aside0.mk (blk_below (bd1 nd (blk_put (cs' := #[.int .i64 2, .int .u64 ls, .int .u32 ep, .int .u32 o, .int .i64 0, .bool false, .int .i64 0, .int .i64 0, .int .u64 0, .slice A9 l9.length c9, .slice A10 l10.length c10]) (BE.out) 10 (.slice A10 l10.length c10) rfl)) hb); have n_BR := Aside0.mk (blk_below (bd1 nd (blk_far (p := ⟨w3.heap.size, 10, none⟩) (BR.out) HRE.out (.slice A10 l10.length c10))) hb); have n_HB := Aside0.mk (below_step (pw_below_drewN (below_set (HB.out) HGE.out) nd) hb); have n_V9 := Aside0.mk (Kd.R_below (Kd.R_drewN (Kd.R_far (V9.out) (fun k_ hk => by have := hk.1; have := Qe9.out; show k_ ≠ w3.heap.size; omega) _) nd) hb); have n_V10 := Aside0.mk (Kd.R_below (Kd.R_drewN (Kd.R_far (V10.out) (fun k_ hk => by have := hk.1; have := Qe10.out; show k_ ≠ w3.heap.size; omega) _) nd) hb); clear V9 V10; have V9 := n_V9; have V10 := n_V10; clear n_V9 n_V10; clear hb BE BR HB HR q0 q1 q2 q3 q4 q5 q6 q7 q8 q9 q10 qf ql z0 z1 z2 z3 z4 z5 z6 z7 z8 z9 z10 zf zl; have BE := n_BE; have BR := n_BR; have HB := n_HB; clear n_BE n_BR n_HB; obtain ⟨q0, q1, q2, q3, q4, q5, q6, q7, q8, q9, q10, qf, ql⟩ := entry_all BE.out; obtain ⟨z0, z1, z2, z3, z4, z5, z6, z7, z8, z9, z10, zf, zl⟩ := entry_all BR.out))
  refine bodyPost_ret ?_ rfl ⟨.slice none 0 0, .slice none 0 0, rfl, Kd.R_nil _ _ _ _ _, Kd.R_nil _ _ _ _ _, ?_⟩
  · obtain ⟨Wf, eW, h1, h2⟩ := entry_put (.int .i64 0) (.int .u64 0) (.int .u32 0) (.int .u32 0) (.int .i64 0) (.bool false) (.int .i64 0) (.int .i64 0) (.int .u64 0) (.slice none 0 0) (.slice none 0 0) BR.out
    rw [← eW]
    obtain ⟨c0, c1, c2, c3, c4, c5, c6, c7, c8, c9, c10, cf, cl⟩ := entry_all h1
    clear eW h2 h1 cf cl
    simp [results, Try.results21, go_sem, c0, c1, c2, c3, c4, c5, c6, c7, c8, c9, c10]
  · iterate 11 refine below_set ?_ (Nat.le_refl _)
    exact HB.out
set_option maxHeartbeats 8000000 in
set_option maxRecDepth 100000 in
theorem get_2_ok (A : Option Addr) (c : Nat) (l0 : List Int) (ls ep o : Int) (l9 l10 : List Int) (s1 s2 s3 s4 s5 s6 : RS) (w : World) (hr : Kd.C (Kd.int .u8) w A l0.length l0) (hl : l0.length ≤ 1000000) (hb0 : bytesIn l0) (hk : rd1 ((l0, false) : RS) = 2) (e1 : rdN 1 ((l0, false) : RS) = s1) (hls : rd8 s1 = ls) (e2 : rdN 8 s1 = s2) (hep : rd4 s2 = ep) (e3 : rdN 4 s2 = s3) (ho : rd4 s3 = o) (e4 : rdN 4 s3 = s4) (hl9 : rdT s4 = l9) (e5 : rdN (txN s4) s4 = s5) (hl10 : rdT s5 = l10) (e6 : rdN (txN s5) s5 = s6) (hd : (doneI s6 != 0) = false) (hok : entryOk 2 ls ep o 0 false 0 0 0 l9.length l10.length = true) : Calls Try.prog 21 #[.slice A l0.length c] w fun e w' => ∃ v9_ v10_ : Value, e = .returned (.tuple #[.agg #[.int .i64 2, .int .u64 ls, .int .u32 ep, .int .u32 o, .int .i64 0, .bool false, .int .i64 0, .int .i64 0, .int .u64 0, v9_, v10_], .int .i64 0]) ∧ Kd.R (Kd.int .u8) 5 w' w.heap.size (fun k_ => some k_ ≠ (v10_ : Value).ownBlock) v9_ l9 ∧ Kd.R (Kd.int .u8) 5 w' w.heap.size (fun k_ => some k_ ≠ (v9_ : Value).ownBlock) v10_ l10 ∧ Below w.heap.size w w' := by
  have Hk := Aside0.mk hk
  have E1 := Aside0.mk e1
  clear hk e1
  have Hls := Aside0.mk hls
  have E2 := Aside0.mk e2
  clear hls e2
  have Hep := Aside0.mk hep
  have E3 := Aside0.mk e3
  clear hep e3
  have Ho := Aside0.mk ho
  have E4 := Aside0.mk e4
  clear ho e4
  have Hl9 := Aside0.mk hl9
  have E5 := Aside0.mk e5
  clear hl9 e5
  have Hl10 := Aside0.mk hl10
  have E6 := Aside0.mk e6
  clear hl10 e6
  have GR := Aside0.mk hr
  have GL := Aside0.mk hl
  have GY := Aside0.mk hb0
  clear hr hl hb0
  have HOK := Aside0.mk hok
  clear hok
  go_enter Try.func21, Try.ntmps21
  go_wp2_with (first | (go_at_call 40; (with_reducible refine (fieldNewR.calls A c l0 w _ (Kd.C_alloc GR.out _) GL.out (below_alloc (Below.refl _ _) _)).mono ?_); rintro e w1 ⟨g, rfl, hRD, hB, hB2, hg⟩; have HR := Aside0.mk (show RDB w w1 g ((l0, false) : RS) from ⟨hRD, GL.out, GY.out⟩); have BR := Aside0.mk (blk_below (heap_last _ _) hB2); have HG := Aside0.mk (show w.heap.size ≠ g by simp at hg; omega); have HB := Aside0.mk hB; clear hRD hB hB2 hg) | (go_at_call 41; (with_reducible refine (field_R8 g ((l0, false) : RS) w _ (HR.out) (HB.out)).mono ?_); rintro e w2 ⟨rfl, hR, hBB, hO⟩; rw [Hk.out]; rw [E1.out] at hR; have n_BR := Aside0.mk (OB.keep hO (BR.out) HG.out); have n_HR := Aside0.mk hR; have n_HB := Aside0.mk hBB; clear hR hBB hO HR HB BR; have HR := n_HR; have HB := n_HB; have BR := n_BR; clear n_HR n_HB n_BR) | (go_at_call 42; (with_reducible refine (field_R64 g s1 w _ (HR.out) (HB.out)).mono ?_); rintro e w3 ⟨rfl, hR, hBB, hO⟩; rw [Hls.out]; rw [E2.out] at hR; have n_BR := Aside0.mk (OB.keep hO (BR.out) HG.out); have n_HR := Aside0.mk hR; have n_HB := Aside0.mk hBB; clear hR hBB hO HR HB BR; have HR := n_HR; have HB := n_HB; have BR := n_BR; clear n_HR n_HB n_BR) | (go_at_call 43; (with_reducible refine (field_R32 g s2 w _ (RDB.alloc HR.out _) (below_alloc HB.out _)).mono ?_); rintro e w4 ⟨rfl, hR, hBB, hO⟩; rw [Hep.out]; rw [E3.out] at hR; have n_BR := Aside0.mk (OB.keep hO (bd3 _ BR.out) HG.out); have HE := Aside0.mk (show w3.heap.size ≠ g by have := RDB.lt HR.out; omega); have HGE := Aside0.mk (show w.heap.size ≤ w3.heap.size from HB.out.size); have HRE := Aside0.mk (show w.heap.size ≠ w3.heap.size by have := blk_lt BR.out; omega); have n_BE := Aside0.mk (OB.keep hO (heap_last _ (.cells #[.int .i64 2, .int .u64 ls, .int .u32 0, .int .u32 0, .int .i64 0, .bool false, .int .i64 0, .int .i64 0, .int .u64 0, .slice none 0 0, .slice none 0 0] 26 (0, 0))) HE.out); have n_HR := Aside0.mk hR; have n_HB := Aside0.mk hBB; clear hR hBB hO HR HB BR; have HR := n_HR; have HB := n_HB; have BR := n_BR; clear n_HR n_HB n_BR; have BE := n_BE; clear n_BE; obtain ⟨q0, q1, q2, q3, q4, q5, q6, q7, q8, q9, q10, qf, ql⟩ := entry_all BE.out; obtain ⟨z0, z1, z2, z3, z4, z5, z6, z7, z8, z9, z10, zf, zl⟩ := entry_all BR.out; have hre := HRE.out) | (go_at_call 43; (with_reducible refine (field_R32 g s3 w _ (RDB.set (i := 2) (HR.out) (BE.out) (.int .u32 ep)) (below_set (HB.out) HGE.out)).mono ?_); rintro e w5 ⟨rfl, hR, hBB, hO⟩; rw [Ho.out]; rw [E4.out] at hR; have n_BR := Aside0.mk (OB.keep hO (blk_far (p := ⟨w3.heap.size, 2, none⟩) (BR.out) HRE.out (.int .u32 ep)) HG.out); have n_BE := Aside0.mk (OB.keep hO (blk_put (cs' := #[.int .i64 2, .int .u64 ls, .int .u32 ep, .int .u32 0, .int .i64 0, .bool false, .int .i64 0, .int .i64 0, .int .u64 0, .slice none 0 0, .slice none 0 0]) (BE.out) 2 (.int .u32 ep) rfl) HE.out); have n_HR := Aside0.mk hR; have n_HB := Aside0.mk hBB; clear hR hBB hO HR HB BR BE; have HR := n_HR; have HB := n_HB; have BR := n_BR; clear n_HR n_HB n_BR; have BE := n_BE; clear n_BE; clear q0 q1 q2 q3 q4 q5 q6 q7 q8 q9 q10 qf ql z0 z1 z2 z3 z4 z5 z6 z7 z8 z9 z10 zf zl; obtain ⟨q0, q1, q2, q3, q4, q5, q6, q7, q8, q9, q10, qf, ql⟩ := entry_all BE.out; obtain ⟨z0, z1, z2, z3, z4, z5, z6, z7, z8, z9, z10, zf, zl⟩ := entry_all BR.out) | (go_at_call 44; (with_reducible refine (field_RText g s4 w _ (RDB.set (i := 3) (HR.out) (BE.out) (.int .u32 o)) (below_set (HB.out) HGE.out)).mono ?_); rintro e w6 ⟨v_, rfl, hV, hR, hBB, hO⟩; rw [Hl9.out] at hV; obtain ⟨A9, c9, ev_⟩ := Kd.R_slice hV; subst ev_; rw [E5.out] at hR; have n_BR := Aside0.mk (OB.keep hO (blk_far (p := ⟨w3.heap.size, 3, none⟩) (BR.out) HRE.out (.int .u32 o)) HG.out); have n_BE := Aside0.mk (OB.keep hO (blk_put (cs' := #[.int .i64 2, .int .u64 ls, .int .u32 ep, .int .u32 o, .int .i64 0, .bool false, .int .i64 0, .int .i64 0, .int .u64 0, .slice none 0 0, .slice none 0 0]) (BE.out) 3 (.int .u32 o) rfl) HE.out); have Qg9 := Aside0.mk (RDB.lt (RDB.set (i := 3) (HR.out) (BE.out) (.int .u32 o))); have Qe9 := Aside0.mk (blk_lt (blk_put (cs' := #[.int .i64 2, .int .u64 ls, .int .u32 ep, .int .u32 o, .int .i64 0, .bool false, .int .i64 0, .int .i64 0, .int .u64 0, .slice none 0 0, .slice none 0 0]) (BE.out) 3 (.int .u32 o) rfl)); have Qr9 := Aside0.mk (blk_lt (blk_far (p := ⟨w3.heap.size, 3, none⟩) (BR.out) HRE.out (.int .u32 o))); have n_V := Aside0.mk (R_new hV (show w.heap.size ≤ _ by exact Nat.le_trans HB.out.size (by simp))); have V9 := n_V; clear n_V hV; have n_HR := Aside0.mk hR; have n_HB := Aside0.mk hBB; clear hR hBB hO HR HB BR BE; have HR := n_HR; have HB := n_HB; have BR := n_BR; clear n_HR n_HB n_BR; have BE := n_BE; clear n_BE; clear q0 q1 q2 q3 q4 q5 q6 q7 q8 q9 q10 qf ql z0 z1 z2 z3 z4 z5 z6 z7 z8 z9 z10 zf zl; obtain ⟨q0, q1, q2, q3, q4, q5, q6, q7, q8, q9, q10, qf, ql⟩ := entry_all BE.out; obtain ⟨z0, z1, z2, z3, z4, z5, z6, z7, z8, z9, z10, zf, zl⟩ := entry_all BR.out) | (go_at_call 44; (with_reducible refine (field_RText g s5 w _ (RDB.set (i := 9) (HR.out) (BE.out) (.slice A9 l9.length c9)) (below_set (HB.out) HGE.out)).mono ?_); rintro e w7 ⟨v_, rfl, hV, hR, hBB, hO⟩; rw [Hl10.out] at hV; obtain ⟨A10, c10, ev_⟩ := Kd.R_slice hV; subst ev_; rw [E6.out] at hR; have n_BR := Aside0.mk (OB.keep hO (blk_far (p := ⟨w3.heap.size, 9, none⟩) (BR.out) HRE.out (.slice A9 l9.length c9)) HG.out); have n_BE := Aside0.mk (OB.keep hO (blk_put (cs' := #[.int .i64 2, .int .u64 ls, .int .u32 ep, .int .u32 o, .int .i64 0, .bool false, .int .i64 0, .int .i64 0, .int .u64 0, .slice A9 l9.length c9, .slice none 0 0]) (BE.out) 9 (.slice A9 l9.length c9) rfl) HE.out); have Qg10 := Aside0.mk (RDB.lt (RDB.set (i := 9) (HR.out) (BE.out) (.slice A9 l9.length c9))); have Qe10 := Aside0.mk (blk_lt (blk_put (cs' := #[.int .i64 2, .int .u64 ls, .int .u32 ep, .int .u32 o, .int .i64 0, .bool false, .int .i64 0, .int .i64 0, .int .u64 0, .slice A9 l9.length c9, .slice none 0 0]) (BE.out) 9 (.slice A9 l9.length c9) rfl)); have Qr10 := Aside0.mk (blk_lt (blk_far (p := ⟨w3.heap.size, 9, none⟩) (BR.out) HRE.out (.slice A9 l9.length c9))); have n_V9 := Aside0.mk (Kd.R_keep (Kd.R_far V9.out (fun k_ hk => by have := hk.1; have := Qe9.out; show k_ ≠ w3.heap.size; omega) _) (OB.but hO) (fun k_ hk => by have := hk.1; have := Qg9.out; omega)); have n_V := Aside0.mk (R_new hV (show w.heap.size ≤ _ by exact Nat.le_trans HB.out.size (by simp))); clear V9; have V9 := n_V9; clear n_V9; have V10 := n_V; clear n_V hV; have n_HR := Aside0.mk hR; have n_HB := Aside0.mk hBB; clear hR hBB hO HR HB BR BE; have HR := n_HR; have HB := n_HB; have BR := n_BR; clear n_HR n_HB n_BR; have BE := n_BE; clear n_BE; clear q0 q1 q2 q3 q4 q5 q6 q7 q8 q9 q10 qf ql z0 z1 z2 z3 z4 z5 z6 z7 z8 z9 z10 zf zl; obtain ⟨q0, q1, q2, q3, q4, q5, q6, q7, q8, q9, q10, qf, ql⟩ := entry_all BE.out; obtain ⟨z0, z1, z2, z3, z4, z5, z6, z7, z8, z9, z10, zf, zl⟩ := entry_all BR.out) | (go_at_call 45; (with_reducible refine (field_RD g s6 w _ (RDB.set (i := 10) (HR.out) (BE.out) (.slice A10 l10.length c10))).mono ?_); rintro e wd ⟨rfl, ⟨nd, rfl⟩⟩) | (go_at_call 15; (with_reducible refine (check_any 2 ls ep o 0 false 0 0 0 A9 l9.length c9 A10 l10.length c10 _).mono ?_); rintro e wc ⟨rfl, hb⟩; rw [HOK.out, ansE]; have n_BE := Aside0.mk (blk_below (bd1 nd (blk_put (cs' := #[.int .i64 2, .int .u64 ls, .int .u32 ep, .int .u32 o, .int .i64 0, .bool false, .int .i64 0, .int .i64 0, .int .u64 0, .slice A9 l9.length c9, .slice A10 l10.length c10]) (BE.out) 10 (.slice A10 l10.length c10) rfl)) hb); have n_BR := Aside0.mk (blk_below (bd1 nd (blk_far (p := ⟨w3.heap.size, 10, none⟩) (BR.out) HRE.out (.slice A10 l10.length c10))) hb); have n_HB := Aside0.mk (below_step (pw_below_drewN (below_set (HB.out) HGE.out) nd) hb); have n_V9 := Aside0.mk (Kd.R_below (Kd.R_drewN (Kd.R_far (V9.out) (fun k_ hk => by have := hk.1; have := Qe9.out; show k_ ≠ w3.heap.size; omega) _) nd) hb); have n_V10 := Aside0.mk (Kd.R_below (Kd.R_drewN (Kd.R_far (V10.out) (fun k_ hk => by have := hk.1; have := Qe10.out; show k_ ≠ w3.heap.size; omega) _) nd) hb); clear V9 V10; have V9 := n_V9; have V10 := n_V10; clear n_V9 n_V10; clear hb BE BR HB HR q0 q1 q2 q3 q4 q5 q6 q7 q8 q9 q10 qf ql z0 z1 z2 z3 z4 z5 z6 z7 z8 z9 z10 zf zl; have BE := n_BE; have BR := n_BR; have HB := n_HB; clear n_BE n_BR n_HB; obtain ⟨q0, q1, q2, q3, q4, q5, q6, q7, q8, q9, q10, qf, ql⟩ := entry_all BE.out; obtain ⟨z0, z1, z2, z3, z4, z5, z6, z7, z8, z9, z10, zf, zl⟩ := entry_all BR.out))
  refine bodyPost_ret ?_ rfl ⟨.slice A9 l9.length c9, .slice A10 l10.length c10, rfl, ?_, ?_, ?_⟩
  · obtain ⟨Wf, eW, h1, h2⟩ := entry_put (.int .i64 2) (.int .u64 ls) (.int .u32 ep) (.int .u32 o) (.int .i64 0) (.bool false) (.int .i64 0) (.int .i64 0) (.int .u64 0) (.slice A9 l9.length c9) (.slice A10 l10.length c10) BR.out
    rw [← eW]
    obtain ⟨c0, c1, c2, c3, c4, c5, c6, c7, c8, c9, c10, cf, cl⟩ := entry_all h1
    clear eW h2 h1 cf cl
    simp [results, Try.results21, go_sem, c0, c1, c2, c3, c4, c5, c6, c7, c8, c9, c10]
  · have X := Kd.R_mono V9.out (fun k_ (hk : _ ∧ _) => show k_ ≠ w.heap.size ∧ some k_ ≠ (Value.slice A10 l10.length c10).ownBlock from ⟨by have := hk.1; have := Qr9.out; omega, fun e => by have h1 := V10.out.1 k_ e.symm; have h2 := hk.1; have h3 := hk.2; have h4 := h1.1; have h5 := h1.2; clear h1 e hk; simp at h2 h4; omega⟩)
    refine Kd.R_mono (ok := fun k_ => k_ ≠ w.heap.size ∧ some k_ ≠ (Value.slice A10 l10.length c10).ownBlock) ?_ (fun k hk => hk.2)
    iterate 11 refine Kd.R_far ?_ (fun k_ hk => hk.1) _
    exact X
  · have X := Kd.R_mono V10.out (fun k_ (hk : _ ∧ _) => show k_ ≠ w.heap.size ∧ some k_ ≠ (Value.slice A9 l9.length c9).ownBlock from ⟨by have := hk.1; have := Qr10.out; omega, fun e => by have h1 := V9.out.1 k_ e.symm; have h2 := hk.1; have h3 := hk.2; have h4 := h1.1; have h5 := h1.2; clear h1 e hk; simp at h2 h4; omega⟩)
    refine Kd.R_mono (ok := fun k_ => k_ ≠ w.heap.size ∧ some k_ ≠ (Value.slice A9 l9.length c9).ownBlock) ?_ (fun k hk => hk.2)
    iterate 11 refine Kd.R_far ?_ (fun k_ hk => hk.1) _
    exact X
  · iterate 11 refine below_set ?_ (Nat.le_refl _)
    exact HB.out
set_option maxHeartbeats 8000000 in
set_option maxRecDepth 100000 in
theorem get_3_done (A : Option Addr) (c : Nat) (l0 : List Int) (ls ep o st und tr : Int) (s1 s2 s3 s4 s5 s6 s7 : RS) (w : World) (hr : Kd.C (Kd.int .u8) w A l0.length l0) (hl : l0.length ≤ 1000000) (hb0 : bytesIn l0) (hk : rd1 ((l0, false) : RS) = 3) (e1 : rdN 1 ((l0, false) : RS) = s1) (hls : rd8 s1 = ls) (e2 : rdN 8 s1 = s2) (hep : rd4 s2 = ep) (e3 : rdN 4 s2 = s3) (ho : rd4 s3 = o) (e4 : rdN 4 s3 = s4) (hst : rd1 s4 = st) (e5 : rdN 1 s4 = s5) (hund : rd1 s5 = und) (e6 : rdN 1 s5 = s6) (htr : rd1 s6 = tr) (e7 : rdN 1 s6 = s7) (hd : (doneI s7 != 0) = true) : Calls Try.prog 21 #[.slice A l0.length c] w fun e w' => ∃ v9_ v10_ : Value, e = .returned (.tuple #[.agg #[.int .i64 0, .int .u64 0, .int .u32 0, .int .u32 0, .int .i64 0, .bool false, .int .i64 0, .int .i64 0, .int .u64 0, v9_, v10_], .int .i64 40]) ∧ Kd.R (Kd.int .u8) 5 w' w.heap.size (fun k_ => some k_ ≠ (v10_ : Value).ownBlock) v9_ ([] : List Int) ∧ Kd.R (Kd.int .u8) 5 w' w.heap.size (fun k_ => some k_ ≠ (v9_ : Value).ownBlock) v10_ ([] : List Int) ∧ Below w.heap.size w w' := by
  have f_st : wrap64 st = st := by have := rd1_range s4; rw [hst] at this; unfold wrap64; omega
  have f2_st : IntKind.i64.wrap st = st := (i64_w st).trans f_st
  have f_tr : wrap64 tr = tr := by have := rd1_range s6; rw [htr] at this; unfold wrap64; omega
  have f2_tr : IntKind.i64.wrap tr = tr := (i64_w tr).trans f_tr
  have Hk := Aside0.mk hk
  have E1 := Aside0.mk e1
  clear hk e1
  have Hls := Aside0.mk hls
  have E2 := Aside0.mk e2
  clear hls e2
  have Hep := Aside0.mk hep
  have E3 := Aside0.mk e3
  clear hep e3
  have Ho := Aside0.mk ho
  have E4 := Aside0.mk e4
  clear ho e4
  have Hst := Aside0.mk hst
  have E5 := Aside0.mk e5
  clear hst e5
  have Hund := Aside0.mk hund
  have E6 := Aside0.mk e6
  clear hund e6
  have Htr := Aside0.mk htr
  have E7 := Aside0.mk e7
  clear htr e7
  have GR := Aside0.mk hr
  have GL := Aside0.mk hl
  have GY := Aside0.mk hb0
  clear hr hl hb0
  go_enter Try.func21, Try.ntmps21
  go_wp2_with (first | (go_at_call 40; (with_reducible refine (fieldNewR.calls A c l0 w _ (Kd.C_alloc GR.out _) GL.out (below_alloc (Below.refl _ _) _)).mono ?_); rintro e w1 ⟨g, rfl, hRD, hB, hB2, hg⟩; have HR := Aside0.mk (show RDB w w1 g ((l0, false) : RS) from ⟨hRD, GL.out, GY.out⟩); have BR := Aside0.mk (blk_below (heap_last _ _) hB2); have HG := Aside0.mk (show w.heap.size ≠ g by simp at hg; omega); have HB := Aside0.mk hB; clear hRD hB hB2 hg) | (go_at_call 41; (with_reducible refine (field_R8 g ((l0, false) : RS) w _ (HR.out) (HB.out)).mono ?_); rintro e w2 ⟨rfl, hR, hBB, hO⟩; rw [Hk.out]; rw [E1.out] at hR; have n_BR := Aside0.mk (OB.keep hO (BR.out) HG.out); have n_HR := Aside0.mk hR; have n_HB := Aside0.mk hBB; clear hR hBB hO HR HB BR; have HR := n_HR; have HB := n_HB; have BR := n_BR; clear n_HR n_HB n_BR) | (go_at_call 42; (with_reducible refine (field_R64 g s1 w _ (HR.out) (HB.out)).mono ?_); rintro e w3 ⟨rfl, hR, hBB, hO⟩; rw [Hls.out]; rw [E2.out] at hR; have n_BR := Aside0.mk (OB.keep hO (BR.out) HG.out); have n_HR := Aside0.mk hR; have n_HB := Aside0.mk hBB; clear hR hBB hO HR HB BR; have HR := n_HR; have HB := n_HB; have BR := n_BR; clear n_HR n_HB n_BR) | (go_at_call 43; (with_reducible refine (field_R32 g s2 w _ (RDB.alloc HR.out _) (below_alloc HB.out _)).mono ?_); rintro e w4 ⟨rfl, hR, hBB, hO⟩; rw [Hep.out]; rw [E3.out] at hR; have n_BR := Aside0.mk (OB.keep hO (bd3 _ BR.out) HG.out); have HE := Aside0.mk (show w3.heap.size ≠ g by have := RDB.lt HR.out; omega); have HGE := Aside0.mk (show w.heap.size ≤ w3.heap.size from HB.out.size); have HRE := Aside0.mk (show w.heap.size ≠ w3.heap.size by have := blk_lt BR.out; omega); have n_BE := Aside0.mk (OB.keep hO (heap_last _ (.cells #[.int .i64 3, .int .u64 ls, .int .u32 0, .int .u32 0, .int .i64 0, .bool false, .int .i64 0, .int .i64 0, .int .u64 0, .slice none 0 0, .slice none 0 0] 26 (0, 0))) HE.out); have n_HR := Aside0.mk hR; have n_HB := Aside0.mk hBB; clear hR hBB hO HR HB BR; have HR := n_HR; have HB := n_HB; have BR := n_BR; clear n_HR n_HB n_BR; have BE := n_BE; clear n_BE; obtain ⟨q0, q1, q2, q3, q4, q5, q6, q7, q8, q9, q10, qf, ql⟩ := entry_all BE.out; obtain ⟨z0, z1, z2, z3, z4, z5, z6, z7, z8, z9, z10, zf, zl⟩ := entry_all BR.out; have hre := HRE.out) | (go_at_call 43; (with_reducible refine (field_R32 g s3 w _ (RDB.set (i := 2) (HR.out) (BE.out) (.int .u32 ep)) (below_set (HB.out) HGE.out)).mono ?_); rintro e w5 ⟨rfl, hR, hBB, hO⟩; rw [Ho.out]; rw [E4.out] at hR; have n_BR := Aside0.mk (OB.keep hO (blk_far (p := ⟨w3.heap.size, 2, none⟩) (BR.out) HRE.out (.int .u32 ep)) HG.out); have n_BE := Aside0.mk (OB.keep hO (blk_put (cs' := #[.int .i64 3, .int .u64 ls, .int .u32 ep, .int .u32 0, .int .i64 0, .bool false, .int .i64 0, .int .i64 0, .int .u64 0, .slice none 0 0, .slice none 0 0]) (BE.out) 2 (.int .u32 ep) rfl) HE.out); have n_HR := Aside0.mk hR; have n_HB := Aside0.mk hBB; clear hR hBB hO HR HB BR BE; have HR := n_HR; have HB := n_HB; have BR := n_BR; clear n_HR n_HB n_BR; have BE := n_BE; clear n_BE; clear q0 q1 q2 q3 q4 q5 q6 q7 q8 q9 q10 qf ql z0 z1 z2 z3 z4 z5 z6 z7 z8 z9 z10 zf zl; obtain ⟨q0, q1, q2, q3, q4, q5, q6, q7, q8, q9, q10, qf, ql⟩ := entry_all BE.out; obtain ⟨z0, z1, z2, z3, z4, z5, z6, z7, z8, z9, z10, zf, zl⟩ := entry_all BR.out) | (go_at_call 41; (with_reducible refine (field_R8 g s4 w _ (RDB.set (i := 3) (HR.out) (BE.out) (.int .u32 o)) (below_set (HB.out) HGE.out)).mono ?_); rintro e w6 ⟨rfl, hR, hBB, hO⟩; rw [Hst.out]; rw [E5.out] at hR; have n_BR := Aside0.mk (OB.keep hO (blk_far (p := ⟨w3.heap.size, 3, none⟩) (BR.out) HRE.out (.int .u32 o)) HG.out); have n_BE := Aside0.mk (OB.keep hO (blk_put (cs' := #[.int .i64 3, .int .u64 ls, .int .u32 ep, .int .u32 o, .int .i64 0, .bool false, .int .i64 0, .int .i64 0, .int .u64 0, .slice none 0 0, .slice none 0 0]) (BE.out) 3 (.int .u32 o) rfl) HE.out); have n_HR := Aside0.mk hR; have n_HB := Aside0.mk hBB; clear hR hBB hO HR HB BR BE; have HR := n_HR; have HB := n_HB; have BR := n_BR; clear n_HR n_HB n_BR; have BE := n_BE; clear n_BE; clear q0 q1 q2 q3 q4 q5 q6 q7 q8 q9 q10 qf ql z0 z1 z2 z3 z4 z5 z6 z7 z8 z9 z10 zf zl; obtain ⟨q0, q1, q2, q3, q4, q5, q6, q7, q8, q9, q10, qf, ql⟩ := entry_all BE.out; obtain ⟨z0, z1, z2, z3, z4, z5, z6, z7, z8, z9, z10, zf, zl⟩ := entry_all BR.out) | (go_at_call 41; (with_reducible refine (field_R8 g s5 w _ (RDB.set (i := 4) (HR.out) (BE.out) (.int .i64 st)) (below_set (HB.out) HGE.out)).mono ?_); rintro e w7 ⟨rfl, hR, hBB, hO⟩; rw [Hund.out]; rw [E6.out] at hR; have n_BR := Aside0.mk (OB.keep hO (blk_far (p := ⟨w3.heap.size, 4, none⟩) (BR.out) HRE.out (.int .i64 st)) HG.out); have n_BE := Aside0.mk (OB.keep hO (blk_put (cs' := #[.int .i64 3, .int .u64 ls, .int .u32 ep, .int .u32 o, .int .i64 st, .bool false, .int .i64 0, .int .i64 0, .int .u64 0, .slice none 0 0, .slice none 0 0]) (BE.out) 4 (.int .i64 st) rfl) HE.out); have n_HR := Aside0.mk hR; have n_HB := Aside0.mk hBB; clear hR hBB hO HR HB BR BE; have HR := n_HR; have HB := n_HB; have BR := n_BR; clear n_HR n_HB n_BR; have BE := n_BE; clear n_BE; clear q0 q1 q2 q3 q4 q5 q6 q7 q8 q9 q10 qf ql z0 z1 z2 z3 z4 z5 z6 z7 z8 z9 z10 zf zl; obtain ⟨q0, q1, q2, q3, q4, q5, q6, q7, q8, q9, q10, qf, ql⟩ := entry_all BE.out; obtain ⟨z0, z1, z2, z3, z4, z5, z6, z7, z8, z9, z10, zf, zl⟩ := entry_all BR.out) | (go_at_call 41; (with_reducible refine (field_R8 g s6 w _ (RDB.set (i := 5) (HR.out) (BE.out) (.bool (und == 1))) (below_set (HB.out) HGE.out)).mono ?_); rintro e w8 ⟨rfl, hR, hBB, hO⟩; rw [Htr.out]; rw [E7.out] at hR; have n_BR := Aside0.mk (OB.keep hO (blk_far (p := ⟨w3.heap.size, 5, none⟩) (BR.out) HRE.out (.bool (und == 1))) HG.out); have n_BE := Aside0.mk (OB.keep hO (blk_put (cs' := #[.int .i64 3, .int .u64 ls, .int .u32 ep, .int .u32 o, .int .i64 st, .bool (und == 1), .int .i64 0, .int .i64 0, .int .u64 0, .slice none 0 0, .slice none 0 0]) (BE.out) 5 (.bool (und == 1)) rfl) HE.out); have n_HR := Aside0.mk hR; have n_HB := Aside0.mk hBB; clear hR hBB hO HR HB BR BE; have HR := n_HR; have HB := n_HB; have BR := n_BR; clear n_HR n_HB n_BR; have BE := n_BE; clear n_BE; clear q0 q1 q2 q3 q4 q5 q6 q7 q8 q9 q10 qf ql z0 z1 z2 z3 z4 z5 z6 z7 z8 z9 z10 zf zl; obtain ⟨q0, q1, q2, q3, q4, q5, q6, q7, q8, q9, q10, qf, ql⟩ := entry_all BE.out; obtain ⟨z0, z1, z2, z3, z4, z5, z6, z7, z8, z9, z10, zf, zl⟩ := entry_all BR.out) | (go_at_call 45; (with_reducible refine (field_RD g s7 w _ (RDB.set (i := 6) (HR.out) (BE.out) (.int .i64 tr))).mono ?_); rintro e wd ⟨rfl, ⟨nd, rfl⟩⟩))
  refine bodyPost_ret ?_ rfl ⟨.slice none 0 0, .slice none 0 0, rfl, Kd.R_nil _ _ _ _ _, Kd.R_nil _ _ _ _ _, ?_⟩
  · obtain ⟨Wf, eW, h1, h2⟩ := entry_put (.int .i64 0) (.int .u64 0) (.int .u32 0) (.int .u32 0) (.int .i64 0) (.bool false) (.int .i64 0) (.int .i64 0) (.int .u64 0) (.slice none 0 0) (.slice none 0 0) (bd1 nd (blk_far (p := ⟨w3.heap.size, 6, none⟩) (BR.out) HRE.out (.int .i64 tr)))
    rw [← eW]
    obtain ⟨c0, c1, c2, c3, c4, c5, c6, c7, c8, c9, c10, cf, cl⟩ := entry_all h1
    clear eW h2 h1 cf cl
    simp [results, Try.results21, go_sem, c0, c1, c2, c3, c4, c5, c6, c7, c8, c9, c10]
  · iterate 11 refine below_set ?_ (Nat.le_refl _)
    exact pw_below_drewN (below_set (HB.out) HGE.out) nd
set_option maxHeartbeats 8000000 in
set_option maxRecDepth 100000 in
theorem get_3_undo (A : Option Addr) (c : Nat) (l0 : List Int) (ls ep o st und tr : Int) (s1 s2 s3 s4 s5 s6 s7 : RS) (w : World) (hr : Kd.C (Kd.int .u8) w A l0.length l0) (hl : l0.length ≤ 1000000) (hb0 : bytesIn l0) (hk : rd1 ((l0, false) : RS) = 3) (e1 : rdN 1 ((l0, false) : RS) = s1) (hls : rd8 s1 = ls) (e2 : rdN 8 s1 = s2) (hep : rd4 s2 = ep) (e3 : rdN 4 s2 = s3) (ho : rd4 s3 = o) (e4 : rdN 4 s3 = s4) (hst : rd1 s4 = st) (e5 : rdN 1 s4 = s5) (hund : rd1 s5 = und) (e6 : rdN 1 s5 = s6) (htr : rd1 s6 = tr) (e7 : rdN 1 s6 = s7) (hd : (doneI s7 != 0) = false) (hu : decide (1 < und) = true) : Calls Try.prog 21 #[.slice A l0.length c] w fun e w' => ∃ v9_ v10_ : Value, e = .returned (.tuple #[.agg #[.int .i64 0, .int .u64 0, .int .u32 0, .int .u32 0, .int .i64 0, .bool false, .int .i64 0, .int .i64 0, .int .u64 0, v9_, v10_], .int .i64 40]) ∧ Kd.R (Kd.int .u8) 5 w' w.heap.size (fun k_ => some k_ ≠ (v10_ : Value).ownBlock) v9_ ([] : List Int) ∧ Kd.R (Kd.int .u8) 5 w' w.heap.size (fun k_ => some k_ ≠ (v9_ : Value).ownBlock) v10_ ([] : List Int) ∧ Below w.heap.size w w' := by
  have f_st : wrap64 st = st := by have := rd1_range s4; rw [hst] at this; unfold wrap64; omega
  have f2_st : IntKind.i64.wrap st = st := (i64_w st).trans f_st
  have f_tr : wrap64 tr = tr := by have := rd1_range s6; rw [htr] at this; unfold wrap64; omega
  have f2_tr : IntKind.i64.wrap tr = tr := (i64_w tr).trans f_tr
  have Hk := Aside0.mk hk
  have E1 := Aside0.mk e1
  clear hk e1
  have Hls := Aside0.mk hls
  have E2 := Aside0.mk e2
  clear hls e2
  have Hep := Aside0.mk hep
  have E3 := Aside0.mk e3
  clear hep e3
  have Ho := Aside0.mk ho
  have E4 := Aside0.mk e4
  clear ho e4
  have Hst := Aside0.mk hst
  have E5 := Aside0.mk e5
  clear hst e5
  have Hund := Aside0.mk hund
  have E6 := Aside0.mk e6
  clear hund e6
  have Htr := Aside0.mk htr
  have E7 := Aside0.mk e7
  clear htr e7
  have GR := Aside0.mk hr
  have GL := Aside0.mk hl
  have GY := Aside0.mk hb0
  clear hr hl hb0
  go_enter Try.func21, Try.ntmps21
  go_wp2_with (first | (go_at_call 40; (with_reducible refine (fieldNewR.calls A c l0 w _ (Kd.C_alloc GR.out _) GL.out (below_alloc (Below.refl _ _) _)).mono ?_); rintro e w1 ⟨g, rfl, hRD, hB, hB2, hg⟩; have HR := Aside0.mk (show RDB w w1 g ((l0, false) : RS) from ⟨hRD, GL.out, GY.out⟩); have BR := Aside0.mk (blk_below (heap_last _ _) hB2); have HG := Aside0.mk (show w.heap.size ≠ g by simp at hg; omega); have HB := Aside0.mk hB; clear hRD hB hB2 hg) | (go_at_call 41; (with_reducible refine (field_R8 g ((l0, false) : RS) w _ (HR.out) (HB.out)).mono ?_); rintro e w2 ⟨rfl, hR, hBB, hO⟩; rw [Hk.out]; rw [E1.out] at hR; have n_BR := Aside0.mk (OB.keep hO (BR.out) HG.out); have n_HR := Aside0.mk hR; have n_HB := Aside0.mk hBB; clear hR hBB hO HR HB BR; have HR := n_HR; have HB := n_HB; have BR := n_BR; clear n_HR n_HB n_BR) | (go_at_call 42; (with_reducible refine (field_R64 g s1 w _ (HR.out) (HB.out)).mono ?_); rintro e w3 ⟨rfl, hR, hBB, hO⟩; rw [Hls.out]; rw [E2.out] at hR; have n_BR := Aside0.mk (OB.keep hO (BR.out) HG.out); have n_HR := Aside0.mk hR; have n_HB := Aside0.mk hBB; clear hR hBB hO HR HB BR; have HR := n_HR; have HB := n_HB; have BR := n_BR; clear n_HR n_HB n_BR) | (go_at_call 43; (with_reducible refine (field_R32 g s2 w _ (RDB.alloc HR.out _) (below_alloc HB.out _)).mono ?_); rintro e w4 ⟨rfl, hR, hBB, hO⟩; rw [Hep.out]; rw [E3.out] at hR; have n_BR := Aside0.mk (OB.keep hO (bd3 _ BR.out) HG.out); have HE := Aside0.mk (show w3.heap.size ≠ g by have := RDB.lt HR.out; omega); have HGE := Aside0.mk (show w.heap.size ≤ w3.heap.size from HB.out.size); have HRE := Aside0.mk (show w.heap.size ≠ w3.heap.size by have := blk_lt BR.out; omega); have n_BE := Aside0.mk (OB.keep hO (heap_last _ (.cells #[.int .i64 3, .int .u64 ls, .int .u32 0, .int .u32 0, .int .i64 0, .bool false, .int .i64 0, .int .i64 0, .int .u64 0, .slice none 0 0, .slice none 0 0] 26 (0, 0))) HE.out); have n_HR := Aside0.mk hR; have n_HB := Aside0.mk hBB; clear hR hBB hO HR HB BR; have HR := n_HR; have HB := n_HB; have BR := n_BR; clear n_HR n_HB n_BR; have BE := n_BE; clear n_BE; obtain ⟨q0, q1, q2, q3, q4, q5, q6, q7, q8, q9, q10, qf, ql⟩ := entry_all BE.out; obtain ⟨z0, z1, z2, z3, z4, z5, z6, z7, z8, z9, z10, zf, zl⟩ := entry_all BR.out; have hre := HRE.out) | (go_at_call 43; (with_reducible refine (field_R32 g s3 w _ (RDB.set (i := 2) (HR.out) (BE.out) (.int .u32 ep)) (below_set (HB.out) HGE.out)).mono ?_); rintro e w5 ⟨rfl, hR, hBB, hO⟩; rw [Ho.out]; rw [E4.out] at hR; have n_BR := Aside0.mk (OB.keep hO (blk_far (p := ⟨w3.heap.size, 2, none⟩) (BR.out) HRE.out (.int .u32 ep)) HG.out); have n_BE := Aside0.mk (OB.keep hO (blk_put (cs' := #[.int .i64 3, .int .u64 ls, .int .u32 ep, .int .u32 0, .int .i64 0, .bool false, .int .i64 0, .int .i64 0, .int .u64 0, .slice none 0 0, .slice none 0 0]) (BE.out) 2 (.int .u32 ep) rfl) HE.out); have n_HR := Aside0.mk hR; have n_HB := Aside0.mk hBB; clear hR hBB hO HR HB BR BE; have HR := n_HR; have HB := n_HB; have BR := n_BR; clear n_HR n_HB n_BR; have BE := n_BE; clear n_BE; clear q0 q1 q2 q3 q4 q5 q6 q7 q8 q9 q10 qf ql z0 z1 z2 z3 z4 z5 z6 z7 z8 z9 z10 zf zl; obtain ⟨q0, q1, q2, q3, q4, q5, q6, q7, q8, q9, q10, qf, ql⟩ := entry_all BE.out; obtain ⟨z0, z1, z2, z3, z4, z5, z6, z7, z8, z9, z10, zf, zl⟩ := entry_all BR.out) | (go_at_call 41; (with_reducible refine (field_R8 g s4 w _ (RDB.set (i := 3) (HR.out) (BE.out) (.int .u32 o)) (below_set (HB.out) HGE.out)).mono ?_); rintro e w6 ⟨rfl, hR, hBB, hO⟩; rw [Hst.out]; rw [E5.out] at hR; have n_BR := Aside0.mk (OB.keep hO (blk_far (p := ⟨w3.heap.size, 3, none⟩) (BR.out) HRE.out (.int .u32 o)) HG.out); have n_BE := Aside0.mk (OB.keep hO (blk_put (cs' := #[.int .i64 3, .int .u64 ls, .int .u32 ep, .int .u32 o, .int .i64 0, .bool false, .int .i64 0, .int .i64 0, .int .u64 0, .slice none 0 0, .slice none 0 0]) (BE.out) 3 (.int .u32 o) rfl) HE.out); have n_HR := Aside0.mk hR; have n_HB := Aside0.mk hBB; clear hR hBB hO HR HB BR BE; have HR := n_HR; have HB := n_HB; have BR := n_BR; clear n_HR n_HB n_BR; have BE := n_BE; clear n_BE; clear q0 q1 q2 q3 q4 q5 q6 q7 q8 q9 q10 qf ql z0 z1 z2 z3 z4 z5 z6 z7 z8 z9 z10 zf zl; obtain ⟨q0, q1, q2, q3, q4, q5, q6, q7, q8, q9, q10, qf, ql⟩ := entry_all BE.out; obtain ⟨z0, z1, z2, z3, z4, z5, z6, z7, z8, z9, z10, zf, zl⟩ := entry_all BR.out) | (go_at_call 41; (with_reducible refine (field_R8 g s5 w _ (RDB.set (i := 4) (HR.out) (BE.out) (.int .i64 st)) (below_set (HB.out) HGE.out)).mono ?_); rintro e w7 ⟨rfl, hR, hBB, hO⟩; rw [Hund.out]; rw [E6.out] at hR; have n_BR := Aside0.mk (OB.keep hO (blk_far (p := ⟨w3.heap.size, 4, none⟩) (BR.out) HRE.out (.int .i64 st)) HG.out); have n_BE := Aside0.mk (OB.keep hO (blk_put (cs' := #[.int .i64 3, .int .u64 ls, .int .u32 ep, .int .u32 o, .int .i64 st, .bool false, .int .i64 0, .int .i64 0, .int .u64 0, .slice none 0 0, .slice none 0 0]) (BE.out) 4 (.int .i64 st) rfl) HE.out); have n_HR := Aside0.mk hR; have n_HB := Aside0.mk hBB; clear hR hBB hO HR HB BR BE; have HR := n_HR; have HB := n_HB; have BR := n_BR; clear n_HR n_HB n_BR; have BE := n_BE; clear n_BE; clear q0 q1 q2 q3 q4 q5 q6 q7 q8 q9 q10 qf ql z0 z1 z2 z3 z4 z5 z6 z7 z8 z9 z10 zf zl; obtain ⟨q0, q1, q2, q3, q4, q5, q6, q7, q8, q9, q10, qf, ql⟩ := entry_all BE.out; obtain ⟨z0, z1, z2, z3, z4, z5, z6, z7, z8, z9, z10, zf, zl⟩ := entry_all BR.out) | (go_at_call 41; (with_reducible refine (field_R8 g s6 w _ (RDB.set (i := 5) (HR.out) (BE.out) (.bool (und == 1))) (below_set (HB.out) HGE.out)).mono ?_); rintro e w8 ⟨rfl, hR, hBB, hO⟩; rw [Htr.out]; rw [E7.out] at hR; have n_BR := Aside0.mk (OB.keep hO (blk_far (p := ⟨w3.heap.size, 5, none⟩) (BR.out) HRE.out (.bool (und == 1))) HG.out); have n_BE := Aside0.mk (OB.keep hO (blk_put (cs' := #[.int .i64 3, .int .u64 ls, .int .u32 ep, .int .u32 o, .int .i64 st, .bool (und == 1), .int .i64 0, .int .i64 0, .int .u64 0, .slice none 0 0, .slice none 0 0]) (BE.out) 5 (.bool (und == 1)) rfl) HE.out); have n_HR := Aside0.mk hR; have n_HB := Aside0.mk hBB; clear hR hBB hO HR HB BR BE; have HR := n_HR; have HB := n_HB; have BR := n_BR; clear n_HR n_HB n_BR; have BE := n_BE; clear n_BE; clear q0 q1 q2 q3 q4 q5 q6 q7 q8 q9 q10 qf ql z0 z1 z2 z3 z4 z5 z6 z7 z8 z9 z10 zf zl; obtain ⟨q0, q1, q2, q3, q4, q5, q6, q7, q8, q9, q10, qf, ql⟩ := entry_all BE.out; obtain ⟨z0, z1, z2, z3, z4, z5, z6, z7, z8, z9, z10, zf, zl⟩ := entry_all BR.out) | (go_at_call 45; (with_reducible refine (field_RD g s7 w _ (RDB.set (i := 6) (HR.out) (BE.out) (.int .i64 tr))).mono ?_); rintro e wd ⟨rfl, ⟨nd, rfl⟩⟩))
  refine bodyPost_ret ?_ rfl ⟨.slice none 0 0, .slice none 0 0, rfl, Kd.R_nil _ _ _ _ _, Kd.R_nil _ _ _ _ _, ?_⟩
  · obtain ⟨Wf, eW, h1, h2⟩ := entry_put (.int .i64 0) (.int .u64 0) (.int .u32 0) (.int .u32 0) (.int .i64 0) (.bool false) (.int .i64 0) (.int .i64 0) (.int .u64 0) (.slice none 0 0) (.slice none 0 0) (bd1 nd (blk_far (p := ⟨w3.heap.size, 6, none⟩) (BR.out) HRE.out (.int .i64 tr)))
    rw [← eW]
    obtain ⟨c0, c1, c2, c3, c4, c5, c6, c7, c8, c9, c10, cf, cl⟩ := entry_all h1
    clear eW h2 h1 cf cl
    simp [results, Try.results21, go_sem, c0, c1, c2, c3, c4, c5, c6, c7, c8, c9, c10]
  · iterate 11 refine below_set ?_ (Nat.le_refl _)
    exact pw_below_drewN (below_set (HB.out) HGE.out) nd
set_option maxHeartbeats 8000000 in
set_option maxRecDepth 100000 in
theorem get_3_check (A : Option Addr) (c : Nat) (l0 : List Int) (ls ep o st und tr : Int) (s1 s2 s3 s4 s5 s6 s7 : RS) (w : World) (hr : Kd.C (Kd.int .u8) w A l0.length l0) (hl : l0.length ≤ 1000000) (hb0 : bytesIn l0) (hk : rd1 ((l0, false) : RS) = 3) (e1 : rdN 1 ((l0, false) : RS) = s1) (hls : rd8 s1 = ls) (e2 : rdN 8 s1 = s2) (hep : rd4 s2 = ep) (e3 : rdN 4 s2 = s3) (ho : rd4 s3 = o) (e4 : rdN 4 s3 = s4) (hst : rd1 s4 = st) (e5 : rdN 1 s4 = s5) (hund : rd1 s5 = und) (e6 : rdN 1 s5 = s6) (htr : rd1 s6 = tr) (e7 : rdN 1 s6 = s7) (hd : (doneI s7 != 0) = false) (hu : decide (1 < und) = false) (hok : entryOk 3 ls ep o st (und == 1) tr 0 0 0 0 = false) : Calls Try.prog 21 #[.slice A l0.length c] w fun e w' => ∃ v9_ v10_ : Value, e = .returned (.tuple #[.agg #[.int .i64 0, .int .u64 0, .int .u32 0, .int .u32 0, .int .i64 0, .bool false, .int .i64 0, .int .i64 0, .int .u64 0, v9_, v10_], .int .i64 40]) ∧ Kd.R (Kd.int .u8) 5 w' w.heap.size (fun k_ => some k_ ≠ (v10_ : Value).ownBlock) v9_ ([] : List Int) ∧ Kd.R (Kd.int .u8) 5 w' w.heap.size (fun k_ => some k_ ≠ (v9_ : Value).ownBlock) v10_ ([] : List Int) ∧ Below w.heap.size w w' := by
  have f_st : wrap64 st = st := by have := rd1_range s4; rw [hst] at this; unfold wrap64; omega
  have f2_st : IntKind.i64.wrap st = st := (i64_w st).trans f_st
  have f_tr : wrap64 tr = tr := by have := rd1_range s6; rw [htr] at this; unfold wrap64; omega
  have f2_tr : IntKind.i64.wrap tr = tr := (i64_w tr).trans f_tr
  have Hk := Aside0.mk hk
  have E1 := Aside0.mk e1
  clear hk e1
  have Hls := Aside0.mk hls
  have E2 := Aside0.mk e2
  clear hls e2
  have Hep := Aside0.mk hep
  have E3 := Aside0.mk e3
  clear hep e3
  have Ho := Aside0.mk ho
  have E4 := Aside0.mk e4
  clear ho e4
  have Hst := Aside0.mk hst
  have E5 := Aside0.mk e5
  clear hst e5
  have Hund := Aside0.mk hund
  have E6 := Aside0.mk e6
  clear hund e6
  have Htr := Aside0.mk htr
  have E7 := Aside0.mk e7
  clear htr e7
  have GR := Aside0.mk hr
  have GL := Aside0.mk hl
  have GY := Aside0.mk hb0
  clear hr hl hb0
  have HOK := Aside0.mk hok
  clear hok
  go_enter Try.func21, Try.ntmps21
  go_wp2_with (first | (go_at_call 40; (with_reducible refine (fieldNewR.calls A c l0 w _ (Kd.C_alloc GR.out _) GL.out (below_alloc (Below.refl _ _) _)).mono ?_); rintro e w1 ⟨g, rfl, hRD, hB, hB2, hg⟩; have HR := Aside0.mk (show RDB w w1 g ((l0, false) : RS) from ⟨hRD, GL.out, GY.out⟩); have BR := Aside0.mk (blk_below (heap_last _ _) hB2); have HG := Aside0.mk (show w.heap.size ≠ g by simp at hg; omega); have HB := Aside0.mk hB; clear hRD hB hB2 hg) | (go_at_call 41; (with_reducible refine (field_R8 g ((l0, false) : RS) w _ (HR.out) (HB.out)).mono ?_); rintro e w2 ⟨rfl, hR, hBB, hO⟩; rw [Hk.out]; rw [E1.out] at hR; have n_BR := Aside0.mk (OB.keep hO (BR.out) HG.out); have n_HR := Aside0.mk hR; have n_HB := Aside0.mk hBB; clear hR hBB hO HR HB BR; have HR := n_HR; have HB := n_HB; have BR := n_BR; clear n_HR n_HB n_BR) | (go_at_call 42; (with_reducible refine (field_R64 g s1 w _ (HR.out) (HB.out)).mono ?_); rintro e w3 ⟨rfl, hR, hBB, hO⟩; rw [Hls.out]; rw [E2.out] at hR; have n_BR := Aside0.mk (OB.keep hO (BR.out) HG.out); have n_HR := Aside0.mk hR; have n_HB := Aside0.mk hBB; clear hR hBB hO HR HB BR; have HR := n_HR; have HB := n_HB; have BR := n_BR; clear n_HR n_HB n_BR) | (go_at_call 43; (with_reducible refine (field_R32 g s2 w _ (RDB.alloc HR.out _) (below_alloc HB.out _)).mono ?_); rintro e w4 ⟨rfl, hR, hBB, hO⟩; rw [Hep.out]; rw [E3.out] at hR; have n_BR := Aside0.mk (OB.keep hO (bd3 _ BR.out) HG.out); have HE := Aside0.mk (show w3.heap.size ≠ g by have := RDB.lt HR.out; omega); have HGE := Aside0.mk (show w.heap.size ≤ w3.heap.size from HB.out.size); have HRE := Aside0.mk (show w.heap.size ≠ w3.heap.size by have := blk_lt BR.out; omega); have n_BE := Aside0.mk (OB.keep hO (heap_last _ (.cells #[.int .i64 3, .int .u64 ls, .int .u32 0, .int .u32 0, .int .i64 0, .bool false, .int .i64 0, .int .i64 0, .int .u64 0, .slice none 0 0, .slice none 0 0] 26 (0, 0))) HE.out); have n_HR := Aside0.mk hR; have n_HB := Aside0.mk hBB; clear hR hBB hO HR HB BR; have HR := n_HR; have HB := n_HB; have BR := n_BR; clear n_HR n_HB n_BR; have BE := n_BE; clear n_BE; obtain ⟨q0, q1, q2, q3, q4, q5, q6, q7, q8, q9, q10, qf, ql⟩ := entry_all BE.out; obtain ⟨z0, z1, z2, z3, z4, z5, z6, z7, z8, z9, z10, zf, zl⟩ := entry_all BR.out; have hre := HRE.out) | (go_at_call 43; (with_reducible refine (field_R32 g s3 w _ (RDB.set (i := 2) (HR.out) (BE.out) (.int .u32 ep)) (below_set (HB.out) HGE.out)).mono ?_); rintro e w5 ⟨rfl, hR, hBB, hO⟩; rw [Ho.out]; rw [E4.out] at hR; have n_BR := Aside0.mk (OB.keep hO (blk_far (p := ⟨w3.heap.size, 2, none⟩) (BR.out) HRE.out (.int .u32 ep)) HG.out); have n_BE := Aside0.mk (OB.keep hO (blk_put (cs' := #[.int .i64 3, .int .u64 ls, .int .u32 ep, .int .u32 0, .int .i64 0, .bool false, .int .i64 0, .int .i64 0, .int .u64 0, .slice none 0 0, .slice none 0 0]) (BE.out) 2 (.int .u32 ep) rfl) HE.out); have n_HR := Aside0.mk hR; have n_HB := Aside0.mk hBB; clear hR hBB hO HR HB BR BE; have HR := n_HR; have HB := n_HB; have BR := n_BR; clear n_HR n_HB n_BR; have BE := n_BE; clear n_BE; clear q0 q1 q2 q3 q4 q5 q6 q7 q8 q9 q10 qf ql z0 z1 z2 z3 z4 z5 z6 z7 z8 z9 z10 zf zl; obtain ⟨q0, q1, q2, q3, q4, q5, q6, q7, q8, q9, q10, qf, ql⟩ := entry_all BE.out; obtain ⟨z0, z1, z2, z3, z4, z5, z6, z7, z8, z9, z10, zf, zl⟩ := entry_all BR.out) | (go_at_call 41; (with_reducible refine (field_R8 g s4 w _ (RDB.set (i := 3) (HR.out) (BE.out) (.int .u32 o)) (below_set (HB.out) HGE.out)).mono ?_); rintro e w6 ⟨rfl, hR, hBB, hO⟩; rw [Hst.out]; rw [E5.out] at hR; have n_BR := Aside0.mk (OB.keep hO (blk_far (p := ⟨w3.heap.size, 3, none⟩) (BR.out) HRE.out (.int .u32 o)) HG.out); have n_BE := Aside0.mk (OB.keep hO (blk_put (cs' := #[.int .i64 3, .int .u64 ls, .int .u32 ep, .int .u32 o, .int .i64 0, .bool false, .int .i64 0, .int .i64 0, .int .u64 0, .slice none 0 0, .slice none 0 0]) (BE.out) 3 (.int .u32 o) rfl) HE.out); have n_HR := Aside0.mk hR; have n_HB := Aside0.mk hBB; clear hR hBB hO HR HB BR BE; have HR := n_HR; have HB := n_HB; have BR := n_BR; clear n_HR n_HB n_BR; have BE := n_BE; clear n_BE; clear q0 q1 q2 q3 q4 q5 q6 q7 q8 q9 q10 qf ql z0 z1 z2 z3 z4 z5 z6 z7 z8 z9 z10 zf zl; obtain ⟨q0, q1, q2, q3, q4, q5, q6, q7, q8, q9, q10, qf, ql⟩ := entry_all BE.out; obtain ⟨z0, z1, z2, z3, z4, z5, z6, z7, z8, z9, z10, zf, zl⟩ := entry_all BR.out) | (go_at_call 41; (with_reducible refine (field_R8 g s5 w _ (RDB.set (i := 4) (HR.out) (BE.out) (.int .i64 st)) (below_set (HB.out) HGE.out)).mono ?_); rintro e w7 ⟨rfl, hR, hBB, hO⟩; rw [Hund.out]; rw [E6.out] at hR; have n_BR := Aside0.mk (OB.keep hO (blk_far (p := ⟨w3.heap.size, 4, none⟩) (BR.out) HRE.out (.int .i64 st)) HG.out); have n_BE := Aside0.mk (OB.keep hO (blk_put (cs' := #[.int .i64 3, .int .u64 ls, .int .u32 ep, .int .u32 o, .int .i64 st, .bool false, .int .i64 0, .int .i64 0, .int .u64 0, .slice none 0 0, .slice none 0 0]) (BE.out) 4 (.int .i64 st) rfl) HE.out); have n_HR := Aside0.mk hR; have n_HB := Aside0.mk hBB; clear hR hBB hO HR HB BR BE; have HR := n_HR; have HB := n_HB; have BR := n_BR; clear n_HR n_HB n_BR; have BE := n_BE; clear n_BE; clear q0 q1 q2 q3 q4 q5 q6 q7 q8 q9 q10 qf ql z0 z1 z2 z3 z4 z5 z6 z7 z8 z9 z10 zf zl; obtain ⟨q0, q1, q2, q3, q4, q5, q6, q7, q8, q9, q10, qf, ql⟩ := entry_all BE.out; obtain ⟨z0, z1, z2, z3, z4, z5, z6, z7, z8, z9, z10, zf, zl⟩ := entry_all BR.out) | (go_at_call 41; (with_reducible refine (field_R8 g s6 w _ (RDB.set (i := 5) (HR.out) (BE.out) (.bool (und == 1))) (below_set (HB.out) HGE.out)).mono ?_); rintro e w8 ⟨rfl, hR, hBB, hO⟩; rw [Htr.out]; rw [E7.out] at hR; have n_BR := Aside0.mk (OB.keep hO (blk_far (p := ⟨w3.heap.size, 5, none⟩) (BR.out) HRE.out (.bool (und == 1))) HG.out); have n_BE := Aside0.mk (OB.keep hO (blk_put (cs' := #[.int .i64 3, .int .u64 ls, .int .u32 ep, .int .u32 o, .int .i64 st, .bool (und == 1), .int .i64 0, .int .i64 0, .int .u64 0, .slice none 0 0, .slice none 0 0]) (BE.out) 5 (.bool (und == 1)) rfl) HE.out); have n_HR := Aside0.mk hR; have n_HB := Aside0.mk hBB; clear hR hBB hO HR HB BR BE; have HR := n_HR; have HB := n_HB; have BR := n_BR; clear n_HR n_HB n_BR; have BE := n_BE; clear n_BE; clear q0 q1 q2 q3 q4 q5 q6 q7 q8 q9 q10 qf ql z0 z1 z2 z3 z4 z5 z6 z7 z8 z9 z10 zf zl; obtain ⟨q0, q1, q2, q3, q4, q5, q6, q7, q8, q9, q10, qf, ql⟩ := entry_all BE.out; obtain ⟨z0, z1, z2, z3, z4, z5, z6, z7, z8, z9, z10, zf, zl⟩ := entry_all BR.out) | (go_at_call 45; (with_reducible refine (field_RD g s7 w _ (RDB.set (i := 6) (HR.out) (BE.out) (.int .i64 tr))).mono ?_); rintro e wd ⟨rfl, ⟨nd, rfl⟩⟩) | (go_at_call 15; (with_reducible refine (check_any 3 ls ep o st (und == 1) tr 0 0 none 0 0 none 0 0 _).mono ?_); rintro e wc ⟨rfl, hb⟩; rw [HOK.out, ansE]; have n_BE := Aside0.mk (blk_below (bd1 nd (blk_put (cs' := #[.int .i64 3, .int .u64 ls, .int .u32 ep, .int .u32 o, .int .i64 st, .bool (und == 1), .int .i64 tr, .int .i64 0, .int .u64 0, .slice none 0 0, .slice none 0 0]) (BE.out) 6 (.int .i64 tr) rfl)) hb); have n_BR := Aside0.mk (blk_below (bd1 nd (blk_far (p := ⟨w3.heap.size, 6, none⟩) (BR.out) HRE.out (.int .i64 tr))) hb); have n_HB := Aside0.mk (below_step (pw_below_drewN (below_set (HB.out) HGE.out) nd) hb); clear hb BE BR HB HR q0 q1 q2 q3 q4 q5 q6 q7 q8 q9 q10 qf ql z0 z1 z2 z3 z4 z5 z6 z7 z8 z9 z10 zf zl; have BE := n_BE; have BR := n_BR; have HB := n_HB; clear n_BE n_BR n_HB; obtain ⟨q0, q1, q2, q3, q4, q5, q6, q7, q8, q9, q10, qf, ql⟩ := entry_all BE.out; obtain ⟨z0, z1, z2, z3, z4, z5, z6, z7, z8, z9, z10, zf, zl⟩ := entry_all BR.out))
  refine bodyPost_ret ?_ rfl ⟨.slice none 0 0, .slice none 0 0, rfl, Kd.R_nil _ _ _ _ _, Kd.R_nil _ _ _ _ _, ?_⟩
  · obtain ⟨Wf, eW, h1, h2⟩ := entry_put (.int .i64 0) (.int .u64 0) (.int .u32 0) (.int .u32 0) (.int .i64 0) (.bool false) (.int .i64 0) (.int .i64 0) (.int .u64 0) (.slice none 0 0) (.slice none 0 0) BR.out
    rw [← eW]
    obtain ⟨c0, c1, c2, c3, c4, c5, c6, c7, c8, c9, c10, cf, cl⟩ := entry_all h1
    clear eW h2 h1 cf cl
    simp [results, Try.results21, go_sem, c0, c1, c2, c3, c4, c5, c6, c7, c8, c9, c10]
  · iterate 11 refine below_set ?_ (Nat.le_refl _)
    exact HB.out
set_option maxHeartbeats 8000000 in
set_option maxRecDepth 100000 in
theorem get_3_ok (A : Option Addr) (c : Nat) (l0 : List Int) (ls ep o st und tr : Int) (s1 s2 s3 s4 s5 s6 s7 : RS) (w : World) (hr : Kd.C (Kd.int .u8) w A l0.length l0) (hl : l0.length ≤ 1000000) (hb0 : bytesIn l0) (hk : rd1 ((l0, false) : RS) = 3) (e1 : rdN 1 ((l0, false) : RS) = s1) (hls : rd8 s1 = ls) (e2 : rdN 8 s1 = s2) (hep : rd4 s2 = ep) (e3 : rdN 4 s2 = s3) (ho : rd4 s3 = o) (e4 : rdN 4 s3 = s4) (hst : rd1 s4 = st) (e5 : rdN 1 s4 = s5) (hund : rd1 s5 = und) (e6 : rdN 1 s5 = s6) (htr : rd1 s6 = tr) (e7 : rdN 1 s6 = s7) (hd : (doneI s7 != 0) = false) (hu : decide (1 < und) = false) (hok : entryOk 3 ls ep o st (und == 1) tr 0 0 0 0 = true) : Calls Try.prog 21 #[.slice A l0.length c] w fun e w' => ∃ v9_ v10_ : Value, e = .returned (.tuple #[.agg #[.int .i64 3, .int .u64 ls, .int .u32 ep, .int .u32 o, .int .i64 st, .bool (und == 1), .int .i64 tr, .int .i64 0, .int .u64 0, v9_, v10_], .int .i64 0]) ∧ Kd.R (Kd.int .u8) 5 w' w.heap.size (fun k_ => some k_ ≠ (v10_ : Value).ownBlock) v9_ ([] : List Int) ∧ Kd.R (Kd.int .u8) 5 w' w.heap.size (fun k_ => some k_ ≠ (v9_ : Value).ownBlock) v10_ ([] : List Int) ∧ Below w.heap.size w w' := by
  have f_st : wrap64 st = st := by have := rd1_range s4; rw [hst] at this; unfold wrap64; omega
  have f2_st : IntKind.i64.wrap st = st := (i64_w st).trans f_st
  have f_tr : wrap64 tr = tr := by have := rd1_range s6; rw [htr] at this; unfold wrap64; omega
  have f2_tr : IntKind.i64.wrap tr = tr := (i64_w tr).trans f_tr
  have Hk := Aside0.mk hk
  have E1 := Aside0.mk e1
  clear hk e1
  have Hls := Aside0.mk hls
  have E2 := Aside0.mk e2
  clear hls e2
  have Hep := Aside0.mk hep
  have E3 := Aside0.mk e3
  clear hep e3
  have Ho := Aside0.mk ho
  have E4 := Aside0.mk e4
  clear ho e4
  have Hst := Aside0.mk hst
  have E5 := Aside0.mk e5
  clear hst e5
  have Hund := Aside0.mk hund
  have E6 := Aside0.mk e6
  clear hund e6
  have Htr := Aside0.mk htr
  have E7 := Aside0.mk e7
  clear htr e7
  have GR := Aside0.mk hr
  have GL := Aside0.mk hl
  have GY := Aside0.mk hb0
  clear hr hl hb0
  have HOK := Aside0.mk hok
  clear hok
  go_enter Try.func21, Try.ntmps21
  go_wp2_with (first | (go_at_call 40; (with_reducible refine (fieldNewR.calls A c l0 w _ (Kd.C_alloc GR.out _) GL.out (below_alloc (Below.refl _ _) _)).mono ?_); rintro e w1 ⟨g, rfl, hRD, hB, hB2, hg⟩; have HR := Aside0.mk (show RDB w w1 g ((l0, false) : RS) from ⟨hRD, GL.out, GY.out⟩); have BR := Aside0.mk (blk_below (heap_last _ _) hB2); have HG := Aside0.mk (show w.heap.size ≠ g by simp at hg; omega); have HB := Aside0.mk hB; clear hRD hB hB2 hg) | (go_at_call 41; (with_reducible refine (field_R8 g ((l0, false) : RS) w _ (HR.out) (HB.out)).mono ?_); rintro e w2 ⟨rfl, hR, hBB, hO⟩; rw [Hk.out]; rw [E1.out] at hR; have n_BR := Aside0.mk (OB.keep hO (BR.out) HG.out); have n_HR := Aside0.mk hR; have n_HB := Aside0.mk hBB; clear hR hBB hO HR HB BR; have HR := n_HR; have HB := n_HB; have BR := n_BR; clear n_HR n_HB n_BR) | (go_at_call 42; (with_reducible refine (field_R64 g s1 w _ (HR.out) (HB.out)).mono ?_); rintro e w3 ⟨rfl, hR, hBB, hO⟩; rw [Hls.out]; rw [E2.out] at hR; have n_BR := Aside0.mk (OB.keep hO (BR.out) HG.out); have n_HR := Aside0.mk hR; have n_HB := Aside0.mk hBB; clear hR hBB hO HR HB BR; have HR := n_HR; have HB := n_HB; have BR := n_BR; clear n_HR n_HB n_BR) | (go_at_call 43; (with_reducible refine (field_R32 g s2 w _ (RDB.alloc HR.out _) (below_alloc HB.out _)).mono ?_); rintro e w4 ⟨rfl, hR, hBB, hO⟩; rw [Hep.out]; rw [E3.out] at hR; have n_BR := Aside0.mk (OB.keep hO (bd3 _ BR.out) HG.out); have HE := Aside0.mk (show w3.heap.size ≠ g by have := RDB.lt HR.out; omega); have HGE := Aside0.mk (show w.heap.size ≤ w3.heap.size from HB.out.size); have HRE := Aside0.mk (show w.heap.size ≠ w3.heap.size by have := blk_lt BR.out; omega); have n_BE := Aside0.mk (OB.keep hO (heap_last _ (.cells #[.int .i64 3, .int .u64 ls, .int .u32 0, .int .u32 0, .int .i64 0, .bool false, .int .i64 0, .int .i64 0, .int .u64 0, .slice none 0 0, .slice none 0 0] 26 (0, 0))) HE.out); have n_HR := Aside0.mk hR; have n_HB := Aside0.mk hBB; clear hR hBB hO HR HB BR; have HR := n_HR; have HB := n_HB; have BR := n_BR; clear n_HR n_HB n_BR; have BE := n_BE; clear n_BE; obtain ⟨q0, q1, q2, q3, q4, q5, q6, q7, q8, q9, q10, qf, ql⟩ := entry_all BE.out; obtain ⟨z0, z1, z2, z3, z4, z5, z6, z7, z8, z9, z10, zf, zl⟩ := entry_all BR.out; have hre := HRE.out) | (go_at_call 43; (with_reducible refine (field_R32 g s3 w _ (RDB.set (i := 2) (HR.out) (BE.out) (.int .u32 ep)) (below_set (HB.out) HGE.out)).mono ?_); rintro e w5 ⟨rfl, hR, hBB, hO⟩; rw [Ho.out]; rw [E4.out] at hR; have n_BR := Aside0.mk (OB.keep hO (blk_far (p := ⟨w3.heap.size, 2, none⟩) (BR.out) HRE.out (.int .u32 ep)) HG.out); have n_BE := Aside0.mk (OB.keep hO (blk_put (cs' := #[.int .i64 3, .int .u64 ls, .int .u32 ep, .int .u32 0, .int .i64 0, .bool false, .int .i64 0, .int .i64 0, .int .u64 0, .slice none 0 0, .slice none 0 0]) (BE.out) 2 (.int .u32 ep) rfl) HE.out); have n_HR := Aside0.mk hR; have n_HB := Aside0.mk hBB; clear hR hBB hO HR HB BR BE; have HR := n_HR; have HB := n_HB; have BR := n_BR; clear n_HR n_HB n_BR; have BE := n_BE; clear n_BE; clear q0 q1 q2 q3 q4 q5 q6 q7 q8 q9 q10 qf ql z0 z1 z2 z3 z4 z5 z6 z7 z8 z9 z10 zf zl; obtain ⟨q0, q1, q2, q3, q4, q5, q6, q7, q8, q9, q10, qf, ql⟩ := entry_all BE.out; obtain ⟨z0, z1, z2, z3, z4, z5, z6, z7, z8, z9, z10, zf, zl⟩ := entry_all BR.out) | (go_at_call 41; (with_reducible refine (field_R8 g s4 w _ (RDB.set (i := 3) (HR.out) (BE.out) (.int .u32 o)) (below_set (HB.out) HGE.out)).mono ?_); rintro e w6 ⟨rfl, hR, hBB, hO⟩; rw [Hst.out]; rw [E5.out] at hR; have n_BR := Aside0.mk (OB.keep hO (blk_far (p := ⟨w3.heap.size, 3, none⟩) (BR.out) HRE.out (.int .u32 o)) HG.out); have n_BE := Aside0.mk (OB.keep hO (blk_put (cs' := #[.int .i64 3, .int .u64 ls, .int .u32 ep, .int .u32 o, .int .i64 0, .bool false, .int .i64 0, .int .i64 0, .int .u64 0, .slice none 0 0, .slice none 0 0]) (BE.out) 3 (.int .u32 o) rfl) HE.out); have n_HR := Aside0.mk hR; have n_HB := Aside0.mk hBB; clear hR hBB hO HR HB BR BE; have HR := n_HR; have HB := n_HB; have BR := n_BR; clear n_HR n_HB n_BR; have BE := n_BE; clear n_BE; clear q0 q1 q2 q3 q4 q5 q6 q7 q8 q9 q10 qf ql z0 z1 z2 z3 z4 z5 z6 z7 z8 z9 z10 zf zl; obtain ⟨q0, q1, q2, q3, q4, q5, q6, q7, q8, q9, q10, qf, ql⟩ := entry_all BE.out; obtain ⟨z0, z1, z2, z3, z4, z5, z6, z7, z8, z9, z10, zf, zl⟩ := entry_all BR.out) | (go_at_call 41; (with_reducible refine (field_R8 g s5 w _ (RDB.set (i := 4) (HR.out) (BE.out) (.int .i64 st)) (below_set (HB.out) HGE.out)).mono ?_); rintro e w7 ⟨rfl, hR, hBB, hO⟩; rw [Hund.out]; rw [E6.out] at hR; have n_BR := Aside0.mk (OB.keep hO (blk_far (p := ⟨w3.heap.size, 4, none⟩) (BR.out) HRE.out (.int .i64 st)) HG.out); have n_BE := Aside0.mk (OB.keep hO (blk_put (cs' := #[.int .i64 3, .int .u64 ls, .int .u32 ep, .int .u32 o, .int .i64 st, .bool false, .int .i64 0, .int .i64 0, .int .u64 0, .slice none 0 0, .slice none 0 0]) (BE.out) 4 (.int .i64 st) rfl) HE.out); have n_HR := Aside0.mk hR; have n_HB := Aside0.mk hBB; clear hR hBB hO HR HB BR BE; have HR := n_HR; have HB := n_HB; have BR := n_BR; clear n_HR n_HB n_BR; have BE := n_BE; clear n_BE; clear q0 q1 q2 q3 q4 q5 q6 q7 q8 q9 q10 qf ql z0 z1 z2 z3 z4 z5 z6 z7 z8 z9 z10 zf zl; obtain ⟨q0, q1, q2, q3, q4, q5, q6, q7, q8, q9, q10, qf, ql⟩ := entry_all BE.out; obtain ⟨z0, z1, z2, z3, z4, z5, z6, z7, z8, z9, z10, zf, zl⟩ := entry_all BR.out) | (go_at_call 41; (with_reducible refine (field_R8 g s6 w _ (RDB.set (i := 5) (HR.out) (BE.out) (.bool (und == 1))) (below_set (HB.out) HGE.out)).mono ?_); rintro e w8 ⟨rfl, hR, hBB, hO⟩; rw [Htr.out]; rw [E7.out] at hR; have n_BR := Aside0.mk (OB.keep hO (blk_far (p := ⟨w3.heap.size, 5, none⟩) (BR.out) HRE.out (.bool (und == 1))) HG.out); have n_BE := Aside0.mk (OB.keep hO (blk_put (cs' := #[.int .i64 3, .int .u64 ls, .int .u32 ep, .int .u32 o, .int .i64 st, .bool (und == 1), .int .i64 0, .int .i64 0, .int .u64 0, .slice none 0 0, .slice none 0 0]) (BE.out) 5 (.bool (und == 1)) rfl) HE.out); have n_HR := Aside0.mk hR; have n_HB := Aside0.mk hBB; clear hR hBB hO HR HB BR BE; have HR := n_HR; have HB := n_HB; have BR := n_BR; clear n_HR n_HB n_BR; have BE := n_BE; clear n_BE; clear q0 q1 q2 q3 q4 q5 q6 q7 q8 q9 q10 qf ql z0 z1 z2 z3 z4 z5 z6 z7 z8 z9 z10 zf zl; obtain ⟨q0, q1, q2, q3, q4, q5, q6, q7, q8, q9, q10, qf, ql⟩ := entry_all BE.out; obtain ⟨z0, z1, z2, z3, z4, z5, z6, z7, z8, z9, z10, zf, zl⟩ := entry_all BR.out) | (go_at_call 45; (with_reducible refine (field_RD g s7 w _ (RDB.set (i := 6) (HR.out) (BE.out) (.int .i64 tr))).mono ?_); rintro e wd ⟨rfl, ⟨nd, rfl⟩⟩) | (go_at_call 15; (with_reducible refine (check_any 3 ls ep o st (und == 1) tr 0 0 none 0 0 none 0 0 _).mono ?_); rintro e wc ⟨rfl, hb⟩; rw [HOK.out, ansE]; have n_BE := Aside0.mk (blk_below (bd1 nd (blk_put (cs' := #[.int .i64 3, .int .u64 ls, .int .u32 ep, .int .u32 o, .int .i64 st, .bool (und == 1), .int .i64 tr, .int .i64 0, .int .u64 0, .slice none 0 0, .slice none 0 0]) (BE.out) 6 (.int .i64 tr) rfl)) hb); have n_BR := Aside0.mk (blk_below (bd1 nd (blk_far (p := ⟨w3.heap.size, 6, none⟩) (BR.out) HRE.out (.int .i64 tr))) hb); have n_HB := Aside0.mk (below_step (pw_below_drewN (below_set (HB.out) HGE.out) nd) hb); clear hb BE BR HB HR q0 q1 q2 q3 q4 q5 q6 q7 q8 q9 q10 qf ql z0 z1 z2 z3 z4 z5 z6 z7 z8 z9 z10 zf zl; have BE := n_BE; have BR := n_BR; have HB := n_HB; clear n_BE n_BR n_HB; obtain ⟨q0, q1, q2, q3, q4, q5, q6, q7, q8, q9, q10, qf, ql⟩ := entry_all BE.out; obtain ⟨z0, z1, z2, z3, z4, z5, z6, z7, z8, z9, z10, zf, zl⟩ := entry_all BR.out))
  refine bodyPost_ret ?_ rfl ⟨.slice none 0 0, .slice none 0 0, rfl, Kd.R_nil _ _ _ _ _, Kd.R_nil _ _ _ _ _, ?_⟩
  · obtain ⟨Wf, eW, h1, h2⟩ := entry_put (.int .i64 3) (.int .u64 ls) (.int .u32 ep) (.int .u32 o) (.int .i64 st) (.bool (und == 1)) (.int .i64 tr) (.int .i64 0) (.int .u64 0) (.slice none 0 0) (.slice none 0 0) BR.out
    rw [← eW]
    obtain ⟨c0, c1, c2, c3, c4, c5, c6, c7, c8, c9, c10, cf, cl⟩ := entry_all h1
    clear eW h2 h1 cf cl
    simp [results, Try.results21, go_sem, c0, c1, c2, c3, c4, c5, c6, c7, c8, c9, c10]
  · iterate 11 refine below_set ?_ (Nat.le_refl _)
    exact HB.out
set_option maxHeartbeats 8000000 in
set_option maxRecDepth 100000 in
theorem get_4_done (A : Option Addr) (c : Nat) (l0 : List Int) (ls ep o st und tr co : Int) (s1 s2 s3 s4 s5 s6 s7 s8 : RS) (w : World) (hr : Kd.C (Kd.int .u8) w A l0.length l0) (hl : l0.length ≤ 1000000) (hb0 : bytesIn l0) (hk : rd1 ((l0, false) : RS) = 4) (e1 : rdN 1 ((l0, false) : RS) = s1) (hls : rd8 s1 = ls) (e2 : rdN 8 s1 = s2) (hep : rd4 s2 = ep) (e3 : rdN 4 s2 = s3) (ho : rd4 s3 = o) (e4 : rdN 4 s3 = s4) (hst : rd1 s4 = st) (e5 : rdN 1 s4 = s5) (hund : rd1 s5 = und) (e6 : rdN 1 s5 = s6) (htr : rd1 s6 = tr) (e7 : rdN 1 s6 = s7) (hco : rd1 s7 = co) (e8 : rdN 1 s7 = s8) (hd : (doneI s8 != 0) = true) : Calls Try.prog 21 #[.slice A l0.length c] w fun e w' => ∃ v9_ v10_ : Value, e = .returned (.tuple #[.agg #[.int .i64 0, .int .u64 0, .int .u32 0, .int .u32 0, .int .i64 0, .bool false, .int .i64 0, .int .i64 0, .int .u64 0, v9_, v10_], .int .i64 40]) ∧ Kd.R (Kd.int .u8) 5 w' w.heap.size (fun k_ => some k_ ≠ (v10_ : Value).ownBlock) v9_ ([] : List Int) ∧ Kd.R (Kd.int .u8) 5 w' w.heap.size (fun k_ => some k_ ≠ (v9_ : Value).ownBlock) v10_ ([] : List Int) ∧ Below w.heap.size w w' := by
  have f_st : wrap64 st = st := by have := rd1_range s4; rw [hst] at this; unfold wrap64; omega
  have f2_st : IntKind.i64.wrap st = st := (i64_w st).trans f_st
  have f_tr : wrap64 tr = tr := by have := rd1_range s6; rw [htr] at this; unfold wrap64; omega
  have f2_tr : IntKind.i64.wrap tr = tr := (i64_w tr).trans f_tr
  have f_co : wrap64 co = co := by have := rd1_range s7; rw [hco] at this; unfold wrap64; omega
  have f2_co : IntKind.i64.wrap co = co := (i64_w co).trans f_co
  have Hk := Aside0.mk hk
  have E1 := Aside0.mk e1
  clear hk e1
  have Hls := Aside0.mk hls
  have E2 := Aside0.mk e2
  clear hls e2
  have Hep := Aside0.mk hep
  have E3 := Aside0.mk e3
  clear hep e3
  have Ho := Aside0.mk ho
  have E4 := Aside0.mk e4
  clear ho e4
  have Hst := Aside0.mk hst
  have E5 := Aside0.mk e5
  clear hst e5
  have Hund := Aside0.mk hund
  have E6 := Aside0.mk e6
  clear hund e6
  have Htr := Aside0.mk htr
  have E7 := Aside0.mk e7
  clear htr e7
  have Hco := Aside0.mk hco
  have E8 := Aside0.mk e8
  clear hco e8
  have GR := Aside0.mk hr
  have GL := Aside0.mk hl
  have GY := Aside0.mk hb0
  clear hr hl hb0
  go_enter Try.func21, Try.ntmps21
  go_wp2_with (first | (go_at_call 40; (with_reducible refine (fieldNewR.calls A c l0 w _ (Kd.C_alloc GR.out _) GL.out (below_alloc (Below.refl _ _) _)).mono ?_); rintro e w1 ⟨g, rfl, hRD, hB, hB2, hg⟩; have HR := Aside0.mk (show RDB w w1 g ((l0, false) : RS) from ⟨hRD, GL.out, GY.out⟩); have BR := Aside0.mk (blk_below (heap_last _ _) hB2); have HG := Aside0.mk (show w.heap.size ≠ g by simp at hg; omega); have HB := Aside0.mk hB; clear hRD hB hB2 hg) | (go_at_call 41; (with_reducible refine (field_R8 g ((l0, false) : RS) w _ (HR.out) (HB.out)).mono ?_); rintro e w2 ⟨rfl, hR, hBB, hO⟩; rw [Hk.out]; rw [E1.out] at hR; have n_BR := Aside0.mk (OB.keep hO (BR.out) HG.out); have n_HR := Aside0.mk hR; have n_HB := Aside0.mk hBB; clear hR hBB hO HR HB BR; have HR := n_HR; have HB := n_HB; have BR := n_BR; clear n_HR n_HB n_BR) | (go_at_call 42; (with_reducible refine (field_R64 g s1 w _ (HR.out) (HB.out)).mono ?_); rintro e w3 ⟨rfl, hR, hBB, hO⟩; rw [Hls.out]; rw [E2.out] at hR; have n_BR := Aside0.mk (OB.keep hO (BR.out) HG.out); have n_HR := Aside0.mk hR; have n_HB := Aside0.mk hBB; clear hR hBB hO HR HB BR; have HR := n_HR; have HB := n_HB; have BR := n_BR; clear n_HR n_HB n_BR) | (go_at_call 43; (with_reducible refine (field_R32 g s2 w _ (RDB.alloc HR.out _) (below_alloc HB.out _)).mono ?_); rintro e w4 ⟨rfl, hR, hBB, hO⟩; rw [Hep.out]; rw [E3.out] at hR; have n_BR := Aside0.mk (OB.keep hO (bd3 _ BR.out) HG.out); have HE := Aside0.mk (show w3.heap.size ≠ g by have := RDB.lt HR.out; omega); have HGE := Aside0.mk (show w.heap.size ≤ w3.heap.size from HB.out.size); have HRE := Aside0.mk (show w.heap.size ≠ w3.heap.size by have := blk_lt BR.out; omega); have n_BE := Aside0.mk (OB.keep hO (heap_last _ (.cells #[.int .i64 4, .int .u64 ls, .int .u32 0, .int .u32 0, .int .i64 0, .bool false, .int .i64 0, .int .i64 0, .int .u64 0, .slice none 0 0, .slice none 0 0] 26 (0, 0))) HE.out); have n_HR := Aside0.mk hR; have n_HB := Aside0.mk hBB; clear hR hBB hO HR HB BR; have HR := n_HR; have HB := n_HB; have BR := n_BR; clear n_HR n_HB n_BR; have BE := n_BE; clear n_BE; obtain ⟨q0, q1, q2, q3, q4, q5, q6, q7, q8, q9, q10, qf, ql⟩ := entry_all BE.out; obtain ⟨z0, z1, z2, z3, z4, z5, z6, z7, z8, z9, z10, zf, zl⟩ := entry_all BR.out; have hre := HRE.out) | (go_at_call 43; (with_reducible refine (field_R32 g s3 w _ (RDB.set (i := 2) (HR.out) (BE.out) (.int .u32 ep)) (below_set (HB.out) HGE.out)).mono ?_); rintro e w5 ⟨rfl, hR, hBB, hO⟩; rw [Ho.out]; rw [E4.out] at hR; have n_BR := Aside0.mk (OB.keep hO (blk_far (p := ⟨w3.heap.size, 2, none⟩) (BR.out) HRE.out (.int .u32 ep)) HG.out); have n_BE := Aside0.mk (OB.keep hO (blk_put (cs' := #[.int .i64 4, .int .u64 ls, .int .u32 ep, .int .u32 0, .int .i64 0, .bool false, .int .i64 0, .int .i64 0, .int .u64 0, .slice none 0 0, .slice none 0 0]) (BE.out) 2 (.int .u32 ep) rfl) HE.out); have n_HR := Aside0.mk hR; have n_HB := Aside0.mk hBB; clear hR hBB hO HR HB BR BE; have HR := n_HR; have HB := n_HB; have BR := n_BR; clear n_HR n_HB n_BR; have BE := n_BE; clear n_BE; clear q0 q1 q2 q3 q4 q5 q6 q7 q8 q9 q10 qf ql z0 z1 z2 z3 z4 z5 z6 z7 z8 z9 z10 zf zl; obtain ⟨q0, q1, q2, q3, q4, q5, q6, q7, q8, q9, q10, qf, ql⟩ := entry_all BE.out; obtain ⟨z0, z1, z2, z3, z4, z5, z6, z7, z8, z9, z10, zf, zl⟩ := entry_all BR.out) | (go_at_call 41; (with_reducible refine (field_R8 g s4 w _ (RDB.set (i := 3) (HR.out) (BE.out) (.int .u32 o)) (below_set (HB.out) HGE.out)).mono ?_); rintro e w6 ⟨rfl, hR, hBB, hO⟩; rw [Hst.out]; rw [E5.out] at hR; have n_BR := Aside0.mk (OB.keep hO (blk_far (p := ⟨w3.heap.size, 3, none⟩) (BR.out) HRE.out (.int .u32 o)) HG.out); have n_BE := Aside0.mk (OB.keep hO (blk_put (cs' := #[.int .i64 4, .int .u64 ls, .int .u32 ep, .int .u32 o, .int .i64 0, .bool false, .int .i64 0, .int .i64 0, .int .u64 0, .slice none 0 0, .slice none 0 0]) (BE.out) 3 (.int .u32 o) rfl) HE.out); have n_HR := Aside0.mk hR; have n_HB := Aside0.mk hBB; clear hR hBB hO HR HB BR BE; have HR := n_HR; have HB := n_HB; have BR := n_BR; clear n_HR n_HB n_BR; have BE := n_BE; clear n_BE; clear q0 q1 q2 q3 q4 q5 q6 q7 q8 q9 q10 qf ql z0 z1 z2 z3 z4 z5 z6 z7 z8 z9 z10 zf zl; obtain ⟨q0, q1, q2, q3, q4, q5, q6, q7, q8, q9, q10, qf, ql⟩ := entry_all BE.out; obtain ⟨z0, z1, z2, z3, z4, z5, z6, z7, z8, z9, z10, zf, zl⟩ := entry_all BR.out) | (go_at_call 41; (with_reducible refine (field_R8 g s5 w _ (RDB.set (i := 4) (HR.out) (BE.out) (.int .i64 st)) (below_set (HB.out) HGE.out)).mono ?_); rintro e w7 ⟨rfl, hR, hBB, hO⟩; rw [Hund.out]; rw [E6.out] at hR; have n_BR := Aside0.mk (OB.keep hO (blk_far (p := ⟨w3.heap.size, 4, none⟩) (BR.out) HRE.out (.int .i64 st)) HG.out); have n_BE := Aside0.mk (OB.keep hO (blk_put (cs' := #[.int .i64 4, .int .u64 ls, .int .u32 ep, .int .u32 o, .int .i64 st, .bool false, .int .i64 0, .int .i64 0, .int .u64 0, .slice none 0 0, .slice none 0 0]) (BE.out) 4 (.int .i64 st) rfl) HE.out); have n_HR := Aside0.mk hR; have n_HB := Aside0.mk hBB; clear hR hBB hO HR HB BR BE; have HR := n_HR; have HB := n_HB; have BR := n_BR; clear n_HR n_HB n_BR; have BE := n_BE; clear n_BE; clear q0 q1 q2 q3 q4 q5 q6 q7 q8 q9 q10 qf ql z0 z1 z2 z3 z4 z5 z6 z7 z8 z9 z10 zf zl; obtain ⟨q0, q1, q2, q3, q4, q5, q6, q7, q8, q9, q10, qf, ql⟩ := entry_all BE.out; obtain ⟨z0, z1, z2, z3, z4, z5, z6, z7, z8, z9, z10, zf, zl⟩ := entry_all BR.out) | (go_at_call 41; (with_reducible refine (field_R8 g s6 w _ (RDB.set (i := 5) (HR.out) (BE.out) (.bool (und == 1))) (below_set (HB.out) HGE.out)).mono ?_); rintro e w8 ⟨rfl, hR, hBB, hO⟩; rw [Htr.out]; rw [E7.out] at hR; have n_BR := Aside0.mk (OB.keep hO (blk_far (p := ⟨w3.heap.size, 5, none⟩) (BR.out) HRE.out (.bool (und == 1))) HG.out); have n_BE := Aside0.mk (OB.keep hO (blk_put (cs' := #[.int .i64 4, .int .u64 ls, .int .u32 ep, .int .u32 o, .int .i64 st, .bool (und == 1), .int .i64 0, .int .i64 0, .int .u64 0, .slice none 0 0, .slice none 0 0]) (BE.out) 5 (.bool (und == 1)) rfl) HE.out); have n_HR := Aside0.mk hR; have n_HB := Aside0.mk hBB; clear hR hBB hO HR HB BR BE; have HR := n_HR; have HB := n_HB; have BR := n_BR; clear n_HR n_HB n_BR; have BE := n_BE; clear n_BE; clear q0 q1 q2 q3 q4 q5 q6 q7 q8 q9 q10 qf ql z0 z1 z2 z3 z4 z5 z6 z7 z8 z9 z10 zf zl; obtain ⟨q0, q1, q2, q3, q4, q5, q6, q7, q8, q9, q10, qf, ql⟩ := entry_all BE.out; obtain ⟨z0, z1, z2, z3, z4, z5, z6, z7, z8, z9, z10, zf, zl⟩ := entry_all BR.out) | (go_at_call 41; (with_reducible refine (field_R8 g s7 w _ (RDB.set (i := 6) (HR.out) (BE.out) (.int .i64 tr)) (below_set (HB.out) HGE.out)).mono ?_); rintro e w9 ⟨rfl, hR, hBB, hO⟩; rw [Hco.out]; rw [E8.out] at hR; have n_BR := Aside0.mk (OB.keep hO (blk_far (p := ⟨w3.heap.size, 6, none⟩) (BR.out) HRE.out (.int .i64 tr)) HG.out); have n_BE := Aside0.mk (OB.keep hO (blk_put (cs' := #[.int .i64 4, .int .u64 ls, .int .u32 ep, .int .u32 o, .int .i64 st, .bool (und == 1), .int .i64 tr, .int .i64 0, .int .u64 0, .slice none 0 0, .slice none 0 0]) (BE.out) 6 (.int .i64 tr) rfl) HE.out); have n_HR := Aside0.mk hR; have n_HB := Aside0.mk hBB; clear hR hBB hO HR HB BR BE; have HR := n_HR; have HB := n_HB; have BR := n_BR; clear n_HR n_HB n_BR; have BE := n_BE; clear n_BE; clear q0 q1 q2 q3 q4 q5 q6 q7 q8 q9 q10 qf ql z0 z1 z2 z3 z4 z5 z6 z7 z8 z9 z10 zf zl; obtain ⟨q0, q1, q2, q3, q4, q5, q6, q7, q8, q9, q10, qf, ql⟩ := entry_all BE.out; obtain ⟨z0, z1, z2, z3, z4, z5, z6, z7, z8, z9, z10, zf, zl⟩ := entry_all BR.out) | (go_at_call 45; (with_reducible refine (field_RD g s8 w _ (RDB.set (i := 7) (HR.out) (BE.out) (.int .i64 co))).mono ?_); rintro e wd ⟨rfl, ⟨nd, rfl⟩⟩))
  refine bodyPost_ret ?_ rfl ⟨.slice none 0 0, .slice none 0 0, rfl, Kd.R_nil _ _ _ _ _, Kd.R_nil _ _ _ _ _, ?_⟩
  · obtain ⟨Wf, eW, h1, h2⟩ := entry_put (.int .i64 0) (.int .u64 0) (.int .u32 0) (.int .u32 0) (.int .i64 0) (.bool false) (.int .i64 0) (.int .i64 0) (.int .u64 0) (.slice none 0 0) (.slice none 0 0) (bd1 nd (blk_far (p := ⟨w3.heap.size, 7, none⟩) (BR.out) HRE.out (.int .i64 co)))
    rw [← eW]
    obtain ⟨c0, c1, c2, c3, c4, c5, c6, c7, c8, c9, c10, cf, cl⟩ := entry_all h1
    clear eW h2 h1 cf cl
    simp [results, Try.results21, go_sem, c0, c1, c2, c3, c4, c5, c6, c7, c8, c9, c10]
  · iterate 11 refine below_set ?_ (Nat.le_refl _)
    exact pw_below_drewN (below_set (HB.out) HGE.out) nd
set_option maxHeartbeats 8000000 in
set_option maxRecDepth 100000 in
theorem get_4_undo (A : Option Addr) (c : Nat) (l0 : List Int) (ls ep o st und tr co : Int) (s1 s2 s3 s4 s5 s6 s7 s8 : RS) (w : World) (hr : Kd.C (Kd.int .u8) w A l0.length l0) (hl : l0.length ≤ 1000000) (hb0 : bytesIn l0) (hk : rd1 ((l0, false) : RS) = 4) (e1 : rdN 1 ((l0, false) : RS) = s1) (hls : rd8 s1 = ls) (e2 : rdN 8 s1 = s2) (hep : rd4 s2 = ep) (e3 : rdN 4 s2 = s3) (ho : rd4 s3 = o) (e4 : rdN 4 s3 = s4) (hst : rd1 s4 = st) (e5 : rdN 1 s4 = s5) (hund : rd1 s5 = und) (e6 : rdN 1 s5 = s6) (htr : rd1 s6 = tr) (e7 : rdN 1 s6 = s7) (hco : rd1 s7 = co) (e8 : rdN 1 s7 = s8) (hd : (doneI s8 != 0) = false) (hu : decide (1 < und) = true) : Calls Try.prog 21 #[.slice A l0.length c] w fun e w' => ∃ v9_ v10_ : Value, e = .returned (.tuple #[.agg #[.int .i64 0, .int .u64 0, .int .u32 0, .int .u32 0, .int .i64 0, .bool false, .int .i64 0, .int .i64 0, .int .u64 0, v9_, v10_], .int .i64 40]) ∧ Kd.R (Kd.int .u8) 5 w' w.heap.size (fun k_ => some k_ ≠ (v10_ : Value).ownBlock) v9_ ([] : List Int) ∧ Kd.R (Kd.int .u8) 5 w' w.heap.size (fun k_ => some k_ ≠ (v9_ : Value).ownBlock) v10_ ([] : List Int) ∧ Below w.heap.size w w' := by
  have f_st : wrap64 st = st := by have := rd1_range s4; rw [hst] at this; unfold wrap64; omega
  have f2_st : IntKind.i64.wrap st = st := (i64_w st).trans f_st
  have f_tr : wrap64 tr = tr := by have := rd1_range s6; rw [htr] at this; unfold wrap64; omega
  have f2_tr : IntKind.i64.wrap tr = tr := (i64_w tr).trans f_tr
  have f_co : wrap64 co = co := by have := rd1_range s7; rw [hco] at this; unfold wrap64; omega
  have f2_co : IntKind.i64.wrap co = co := (i64_w co).trans f_co
  have Hk := Aside0.mk hk
  have E1 := Aside0.mk e1
  clear hk e1
  have Hls := Aside0.mk hls
  have E2 := Aside0.mk e2
  clear hls e2
  have Hep := Aside0.mk hep
  have E3 := Aside0.mk e3
  clear hep e3
  have Ho := Aside0.mk ho
  have E4 := Aside0.mk e4
  clear ho e4
  have Hst := Aside0.mk hst
  have E5 := Aside0.mk e5
  clear hst e5
  have Hund := Aside0.mk hund
  have E6 := Aside0.mk e6
  clear hund e6
  have Htr := Aside0.mk htr
  have E7 := Aside0.mk e7
  clear htr e7
  have Hco := Aside0.mk hco
  have E8 := Aside0.mk e8
  clear hco e8
  have GR := Aside0.mk hr
  have GL := Aside0.mk hl
  have GY := Aside0.mk hb0
  clear hr hl hb0
  go_enter Try.func21, Try.ntmps21
  go_wp2_with (first | (go_at_call 40; (with_reducible refine (fieldNewR.calls A c l0 w _ (Kd.C_alloc GR.out _) GL.out (below_alloc (Below.refl _ _) _)).mono ?_); rintro e w1 ⟨g, rfl, hRD, hB, hB2, hg⟩; have HR := Aside0.mk (show RDB w w1 g ((l0, false) : RS) from ⟨hRD, GL.out, GY.out⟩); have BR := Aside0.mk (blk_below (heap_last _ _) hB2); have HG := Aside0.mk (show w.heap.size ≠ g by simp at hg; omega); have HB := Aside0.mk hB; clear hRD hB hB2 hg) | (go_at_call 41; (with_reducible refine (field_R8 g ((l0, false) : RS) w _ (HR.out) (HB.out)).mono ?_); rintro e w2 ⟨rfl, hR, hBB, hO⟩; rw [Hk.out]; rw [E1.out] at hR; have n_BR := Aside0.mk (OB.keep hO (BR.out) HG.out); have n_HR := Aside0.mk hR; have n_HB := Aside0.mk hBB; clear hR hBB hO HR HB BR; have HR := n_HR; have HB := n_HB; have BR := n_BR; clear n_HR n_HB n_BR) | (go_at_call 42; (with_reducible refine (field_R64 g s1 w _ (HR.out) (HB.out)).mono ?_); rintro e w3 ⟨rfl, hR, hBB, hO⟩; rw [Hls.out]; rw [E2.out] at hR; have n_BR := Aside0.mk (OB.keep hO (BR.out) HG.out); have n_HR := Aside0.mk hR; have n_HB := Aside0.mk hBB; clear hR hBB hO HR HB BR; have HR := n_HR; have HB := n_HB; have BR := n_BR; clear n_HR n_HB n_BR) | (go_at_call 43; (with_reducible refine (field_R32 g s2 w _ (RDB.alloc HR.out _) (below_alloc HB.out _)).mono ?_); rintro e w4 ⟨rfl, hR, hBB, hO⟩; rw [Hep.out]; rw [E3.out] at hR; have n_BR := Aside0.mk (OB.keep hO (bd3 _ BR.out) HG.out); have HE := Aside0.mk (show w3.heap.size ≠ g by have := RDB.lt HR.out; omega); have HGE := Aside0.mk (show w.heap.size ≤ w3.heap.size from HB.out.size); have HRE := Aside0.mk (show w.heap.size ≠ w3.heap.size by have := blk_lt BR.out; omega); have n_BE := Aside0.mk (OB.keep hO (heap_last _ (.cells #[.int .i64 4, .int .u64 ls, .int .u32 0, .int .u32 0, .int .i64 0, .bool false, .int .i64 0, .int .i64 0, .int .u64 0, .slice none 0 0, .slice none 0 0] 26 (0, 0))) HE.out); have n_HR := Aside0.mk hR; have n_HB := Aside0.mk hBB; clear hR hBB hO HR HB BR; have HR := n_HR; have HB := n_HB; have BR := n_BR; clear n_HR n_HB n_BR; have BE := n_BE; clear n_BE; obtain ⟨q0, q1, q2, q3, q4, q5, q6, q7, q8, q9, q10, qf, ql⟩ := entry_all BE.out; obtain ⟨z0, z1, z2, z3, z4, z5, z6, z7, z8, z9, z10, zf, zl⟩ := entry_all BR.out; have hre := HRE.out) | (go_at_call 43; (with_reducible refine (field_R32 g s3 w _ (RDB.set (i := 2) (HR.out) (BE.out) (.int .u32 ep)) (below_set (HB.out) HGE.out)).mono ?_); rintro e w5 ⟨rfl, hR, hBB, hO⟩; rw [Ho.out]; rw [E4.out] at hR; have n_BR := Aside0.mk (OB.keep hO (blk_far (p := ⟨w3.heap.size, 2, none⟩) (BR.out) HRE.out (.int .u32 ep)) HG.out); have n_BE := Aside0.mk (OB.keep hO (blk_put (cs' := #[.int .i64 4, .int .u64 ls, .int .u32 ep, .int .u32 0, .int .i64 0, .bool false, .int .i64 0, .int .i64 0, .int .u64 0, .slice none 0 0, .slice none 0 0]) (BE.out) 2 (.int .u32 ep) rfl) HE.out); have n_HR := Aside0.mk hR; have n_HB := Aside0.mk hBB; clear hR hBB hO HR HB BR BE; have HR := n_HR; have HB := n_HB; have BR := n_BR; clear n_HR n_HB n_BR; have BE := n_BE; clear n_BE; clear q0 q1 q2 q3 q4 q5 q6 q7 q8 q9 q10 qf ql z0 z1 z2 z3 z4 z5 z6 z7 z8 z9 z10 zf zl; obtain ⟨q0, q1, q2, q3, q4, q5, q6, q7, q8, q9, q10, qf, ql⟩ := entry_all BE.out; obtain ⟨z0, z1, z2, z3, z4, z5, z6, z7, z8, z9, z10, zf, zl⟩ := entry_all BR.out) | (go_at_call 41; (with_reducible refine (field_R8 g s4 w _ (RDB.set (i := 3) (HR.out) (BE.out) (.int .u32 o)) (below_set (HB.out) HGE.out)).mono ?_); rintro e w6 ⟨rfl, hR, hBB, hO⟩; rw [Hst.out]; rw [E5.out] at hR; have n_BR := Aside0.mk (OB.keep hO (blk_far (p := ⟨w3.heap.size, 3, none⟩) (BR.out) HRE.out (.int .u32 o)) HG.out); have n_BE := Aside0.mk (OB.keep hO (blk_put (cs' := #[.int .i64 4, .int .u64 ls, .int .u32 ep, .int .u32 o, .int .i64 0, .bool false, .int .i64 0, .int .i64 0, .int .u64 0, .slice none 0 0, .slice none 0 0]) (BE.out) 3 (.int .u32 o) rfl) HE.out); have n_HR := Aside0.mk hR; have n_HB := Aside0.mk hBB; clear hR hBB hO HR HB BR BE; have HR := n_HR; have HB := n_HB; have BR := n_BR; clear n_HR n_HB n_BR; have BE := n_BE; clear n_BE; clear q0 q1 q2 q3 q4 q5 q6 q7 q8 q9 q10 qf ql z0 z1 z2 z3 z4 z5 z6 z7 z8 z9 z10 zf zl; obtain ⟨q0, q1, q2, q3, q4, q5, q6, q7, q8, q9, q10, qf, ql⟩ := entry_all BE.out; obtain ⟨z0, z1, z2, z3, z4, z5, z6, z7, z8, z9, z10, zf, zl⟩ := entry_all BR.out) | (go_at_call 41; (with_reducible refine (field_R8 g s5 w _ (RDB.set (i := 4) (HR.out) (BE.out) (.int .i64 st)) (below_set (HB.out) HGE.out)).mono ?_); rintro e w7 ⟨rfl, hR, hBB, hO⟩; rw [Hund.out]; rw [E6.out] at hR; have n_BR := Aside0.mk (OB.keep hO (blk_far (p := ⟨w3.heap.size, 4, none⟩) (BR.out) HRE.out (.int .i64 st)) HG.out); have n_BE := Aside0.mk (OB.keep hO (blk_put (cs' := #[.int .i64 4, .int .u64 ls, .int .u32 ep, .int .u32 o, .int .i64 st, .bool false, .int .i64 0, .int .i64 0, .int .u64 0, .slice none 0 0, .slice none 0 0]) (BE.out) 4 (.int .i64 st) rfl) HE.out); have n_HR := Aside0.mk hR; have n_HB := Aside0.mk hBB; clear hR hBB hO HR HB BR BE; have HR := n_HR; have HB := n_HB; have BR := n_BR; clear n_HR n_HB n_BR; have BE := n_BE; clear n_BE; clear q0 q1 q2 q3 q4 q5 q6 q7 q8 q9 q10 qf ql z0 z1 z2 z3 z4 z5 z6 z7 z8 z9 z10 zf zl; obtain ⟨q0, q1, q2, q3, q4, q5, q6, q7, q8, q9, q10, qf, ql⟩ := entry_all BE.out; obtain ⟨z0, z1, z2, z3, z4, z5, z6, z7, z8, z9, z10, zf, zl⟩ := entry_all BR.out) | (go_at_call 41; (with_reducible refine (field_R8 g s6 w _ (RDB.set (i := 5) (HR.out) (BE.out) (.bool (und == 1))) (below_set (HB.out) HGE.out)).mono ?_); rintro e w8 ⟨rfl, hR, hBB, hO⟩; rw [Htr.out]; rw [E7.out] at hR; have n_BR := Aside0.mk (OB.keep hO (blk_far (p := ⟨w3.heap.size, 5, none⟩) (BR.out) HRE.out (.bool (und == 1))) HG.out); have n_BE := Aside0.mk (OB.keep hO (blk_put (cs' := #[.int .i64 4, .int .u64 ls, .int .u32 ep, .int .u32 o, .int .i64 st, .bool (und == 1), .int .i64 0, .int .i64 0, .int .u64 0, .slice none 0 0, .slice none 0 0]) (BE.out) 5 (.bool (und == 1)) rfl) HE.out); have n_HR := Aside0.mk hR; have n_HB := Aside0.mk hBB; clear hR hBB hO HR HB BR BE; have HR := n_HR; have HB := n_HB; have BR := n_BR; clear n_HR n_HB n_BR; have BE := n_BE; clear n_BE; clear q0 q1 q2 q3 q4 q5 q6 q7 q8 q9 q10 qf ql z0 z1 z2 z3 z4 z5 z6 z7 z8 z9 z10 zf zl; obtain ⟨q0, q1, q2, q3, q4, q5, q6, q7, q8, q9, q10, qf, ql⟩ := entry_all BE.out; obtain ⟨z0, z1, z2, z3, z4, z5, z6, z7, z8, z9, z10, zf, zl⟩ := entry_all BR.out) | (go_at_call 41; (with_reducible refine (field_R8 g s7 w _ (RDB.set (i := 6) (HR.out) (BE.out) (.int .i64 tr)) (below_set (HB.out) HGE.out)).mono ?_); rintro e w9 ⟨rfl, hR, hBB, hO⟩; rw [Hco.out]; rw [E8.out] at hR; have n_BR := Aside0.mk (OB.keep hO (blk_far (p := ⟨w3.heap.size, 6, none⟩) (BR.out) HRE.out (.int .i64 tr)) HG.out); have n_BE := Aside0.mk (OB.keep hO (blk_put (cs' := #[.int .i64 4, .int .u64 ls, .int .u32 ep, .int .u32 o, .int .i64 st, .bool (und == 1), .int .i64 tr, .int .i64 0, .int .u64 0, .slice none 0 0, .slice none 0 0]) (BE.out) 6 (.int .i64 tr) rfl) HE.out); have n_HR := Aside0.mk hR; have n_HB := Aside0.mk hBB; clear hR hBB hO HR HB BR BE; have HR := n_HR; have HB := n_HB; have BR := n_BR; clear n_HR n_HB n_BR; have BE := n_BE; clear n_BE; clear q0 q1 q2 q3 q4 q5 q6 q7 q8 q9 q10 qf ql z0 z1 z2 z3 z4 z5 z6 z7 z8 z9 z10 zf zl; obtain ⟨q0, q1, q2, q3, q4, q5, q6, q7, q8, q9, q10, qf, ql⟩ := entry_all BE.out; obtain ⟨z0, z1, z2, z3, z4, z5, z6, z7, z8, z9, z10, zf, zl⟩ := entry_all BR.out) | (go_at_call 45; (with_reducible refine (field_RD g s8 w _ (RDB.set (i := 7) (HR.out) (BE.out) (.int .i64 co))).mono ?_); rintro e wd ⟨rfl, ⟨nd, rfl⟩⟩))
  refine bodyPost_ret ?_ rfl ⟨.slice none 0 0, .slice none 0 0, rfl, Kd.R_nil _ _ _ _ _, Kd.R_nil _ _ _ _ _, ?_⟩
  · obtain ⟨Wf, eW, h1, h2⟩ := entry_put (.int .i64 0) (.int .u64 0) (.int .u32 0) (.int .u32 0) (.int .i64 0) (.bool false) (.int .i64 0) (.int .i64 0) (.int .u64 0) (.slice none 0 0) (.slice none 0 0) (bd1 nd (blk_far (p := ⟨w3.heap.size, 7, none⟩) (BR.out) HRE.out (.int .i64 co)))
    rw [← eW]
    obtain ⟨c0, c1, c2, c3, c4, c5, c6, c7, c8, c9, c10, cf, cl⟩ := entry_all h1
    clear eW h2 h1 cf cl
    simp [results, Try.results21, go_sem, c0, c1, c2, c3, c4, c5, c6, c7, c8, c9, c10]
  · iterate 11 refine below_set ?_ (Nat.le_refl _)
    exact pw_below_drewN (below_set (HB.out) HGE.out) nd
set_option maxHeartbeats 8000000 in
set_option maxRecDepth 100000 in
theorem get_4_check (A : Option Addr) (c : Nat) (l0 : List Int) (ls ep o st und tr co : Int) (s1 s2 s3 s4 s5 s6 s7 s8 : RS) (w : World) (hr : Kd.C (Kd.int .u8) w A l0.length l0) (hl : l0.length ≤ 1000000) (hb0 : bytesIn l0) (hk : rd1 ((l0, false) : RS) = 4) (e1 : rdN 1 ((l0, false) : RS) = s1) (hls : rd8 s1 = ls) (e2 : rdN 8 s1 = s2) (hep : rd4 s2 = ep) (e3 : rdN 4 s2 = s3) (ho : rd4 s3 = o) (e4 : rdN 4 s3 = s4) (hst : rd1 s4 = st) (e5 : rdN 1 s4 = s5) (hund : rd1 s5 = und) (e6 : rdN 1 s5 = s6) (htr : rd1 s6 = tr) (e7 : rdN 1 s6 = s7) (hco : rd1 s7 = co) (e8 : rdN 1 s7 = s8) (hd : (doneI s8 != 0) = false) (hu : decide (1 < und) = false) (hok : entryOk 4 ls ep o st (und == 1) tr co 0 0 0 = false) : Calls Try.prog 21 #[.slice A l0.length c] w fun e w' => ∃ v9_ v10_ : Value, e = .returned (.tuple #[.agg #[.int .i64 0, .int .u64 0, .int .u32 0, .int .u32 0, .int .i64 0, .bool false, .int .i64 0, .int .i64 0, .int .u64 0, v9_, v10_], .int .i64 40]) ∧ Kd.R (Kd.int .u8) 5 w' w.heap.size (fun k_ => some k_ ≠ (v10_ : Value).ownBlock) v9_ ([] : List Int) ∧ Kd.R (Kd.int .u8) 5 w' w.heap.size (fun k_ => some k_ ≠ (v9_ : Value).ownBlock) v10_ ([] : List Int) ∧ Below w.heap.size w w' := by
  have f_st : wrap64 st = st := by have := rd1_range s4; rw [hst] at this; unfold wrap64; omega
  have f2_st : IntKind.i64.wrap st = st := (i64_w st).trans f_st
  have f_tr : wrap64 tr = tr := by have := rd1_range s6; rw [htr] at this; unfold wrap64; omega
  have f2_tr : IntKind.i64.wrap tr = tr := (i64_w tr).trans f_tr
  have f_co : wrap64 co = co := by have := rd1_range s7; rw [hco] at this; unfold wrap64; omega
  have f2_co : IntKind.i64.wrap co = co := (i64_w co).trans f_co
  have Hk := Aside0.mk hk
  have E1 := Aside0.mk e1
  clear hk e1
  have Hls := Aside0.mk hls
  have E2 := Aside0.mk e2
  clear hls e2
  have Hep := Aside0.mk hep
  have E3 := Aside0.mk e3
  clear hep e3
  have Ho := Aside0.mk ho
  have E4 := Aside0.mk e4
  clear ho e4
  have Hst := Aside0.mk hst
  have E5 := Aside0.mk e5
  clear hst e5
  have Hund := Aside0.mk hund
  have E6 := Aside0.mk e6
  clear hund e6
  have Htr := Aside0.mk htr
  have E7 := Aside0.mk e7
  clear htr e7
  have Hco := Aside0.mk hco
  have E8 := Aside0.mk e8
  clear hco e8
  have GR := Aside0.mk hr
  have GL := Aside0.mk hl
  have GY := Aside0.mk hb0
  clear hr hl hb0
  have HOK := Aside0.mk hok
  clear hok
  go_enter Try.func21, Try.ntmps21
  go_wp2_with (first | (go_at_call 40; (with_reducible refine (fieldNewR.calls A c l0 w _ (Kd.C_alloc GR.out _) GL.out (below_alloc (Below.refl _ _) _)).mono ?_); rintro e w1 ⟨g, rfl, hRD, hB, hB2, hg⟩; have HR := Aside0.mk (show RDB w w1 g ((l0, false) : RS) from ⟨hRD, GL.out, GY.out⟩); have BR := Aside0.mk (blk_below (heap_last _ _) hB2); have HG := Aside0.mk (show w.heap.size ≠ g by simp at hg; omega); have HB := Aside0.mk hB; clear hRD hB hB2 hg) | (go_at_call 41; (with_reducible refine (field_R8 g ((l0, false) : RS) w _ (HR.out) (HB.out)).mono ?_); rintro e w2 ⟨rfl, hR, hBB, hO⟩; rw [Hk.out]; rw [E1.out] at hR; have n_BR := Aside0.mk (OB.keep hO (BR.out) HG.out); have n_HR := Aside0.mk hR; have n_HB := Aside0.mk hBB; clear hR hBB hO HR HB BR; have HR := n_HR; have HB := n_HB; have BR := n_BR; clear n_HR n_HB n_BR) | (go_at_call 42; (with_reducible refine (field_R64 g s1 w _ (HR.out) (HB.out)).mono ?_); rintro e w3 ⟨rfl, hR, hBB, hO⟩; rw [Hls.out]; rw [E2.out] at hR; have n_BR := Aside0.mk (OB.keep hO (BR.out) HG.out); have n_HR := Aside0.mk hR; have n_HB := Aside0.mk hBB; clear hR hBB hO HR HB BR; have HR := n_HR; have HB := n_HB; have BR := n_BR; clear n_HR n_HB n_BR) | (go_at_call 43; (with_reducible refine (field_R32 g s2 w _ (RDB.alloc HR.out _) (below_alloc HB.out _)).mono ?_); rintro e w4 ⟨rfl, hR, hBB, hO⟩; rw [Hep.out]; rw [E3.out] at hR; have n_BR := Aside0.mk (OB.keep hO (bd3 _ BR.out) HG.out); have HE := Aside0.mk (show w3.heap.size ≠ g by have := RDB.lt HR.out; omega); have HGE := Aside0.mk (show w.heap.size ≤ w3.heap.size from HB.out.size); have HRE := Aside0.mk (show w.heap.size ≠ w3.heap.size by have := blk_lt BR.out; omega); have n_BE := Aside0.mk (OB.keep hO (heap_last _ (.cells #[.int .i64 4, .int .u64 ls, .int .u32 0, .int .u32 0, .int .i64 0, .bool false, .int .i64 0, .int .i64 0, .int .u64 0, .slice none 0 0, .slice none 0 0] 26 (0, 0))) HE.out); have n_HR := Aside0.mk hR; have n_HB := Aside0.mk hBB; clear hR hBB hO HR HB BR; have HR := n_HR; have HB := n_HB; have BR := n_BR; clear n_HR n_HB n_BR; have BE := n_BE; clear n_BE; obtain ⟨q0, q1, q2, q3, q4, q5, q6, q7, q8, q9, q10, qf, ql⟩ := entry_all BE.out; obtain ⟨z0, z1, z2, z3, z4, z5, z6, z7, z8, z9, z10, zf, zl⟩ := entry_all BR.out; have hre := HRE.out) | (go_at_call 43; (with_reducible refine (field_R32 g s3 w _ (RDB.set (i := 2) (HR.out) (BE.out) (.int .u32 ep)) (below_set (HB.out) HGE.out)).mono ?_); rintro e w5 ⟨rfl, hR, hBB, hO⟩; rw [Ho.out]; rw [E4.out] at hR; have n_BR := Aside0.mk (OB.keep hO (blk_far (p := ⟨w3.heap.size, 2, none⟩) (BR.out) HRE.out (.int .u32 ep)) HG.out); have n_BE := Aside0.mk (OB.keep hO (blk_put (cs' := #[.int .i64 4, .int .u64 ls, .int .u32 ep, .int .u32 0, .int .i64 0, .bool false, .int .i64 0, .int .i64 0, .int .u64 0, .slice none 0 0, .slice none 0 0]) (BE.out) 2 (.int .u32 ep) rfl) HE.out); have n_HR := Aside0.mk hR; have n_HB := Aside0.mk hBB; clear hR hBB hO HR HB BR BE; have HR := n_HR; have HB := n_HB; have BR := n_BR; clear n_HR n_HB n_BR; have BE := n_BE; clear n_BE; clear q0 q1 q2 q3 q4 q5 q6 q7 q8 q9 q10 qf ql z0 z1 z2 z3 z4 z5 z6 z7 z8 z9 z10 zf zl; obtain ⟨q0, q1, q2, q3, q4, q5, q6, q7, q8, q9, q10, qf, ql⟩ := entry_all BE.out; obtain ⟨z0, z1, z2, z3, z4, z5, z6, z7, z8, z9, z10, zf, zl⟩ := entry_all BR.out) | (go_at_call 41; (with_reducible refine (field_R8 g s4 w _ (RDB.set (i := 3) (HR.out) (BE.out) (.int .u32 o)) (below_set (HB.out) HGE.out)).mono ?_); rintro e w6 ⟨rfl, hR, hBB, hO⟩; rw [Hst.out]; rw [E5.out] at hR; have n_BR := Aside0.mk (OB.keep hO (blk_far (p := ⟨w3.heap.size, 3, none⟩) (BR.out) HRE.out (.int .u32 o)) HG.out); have n_BE := Aside0.mk (OB.keep hO (blk_put (cs' := #[.int .i64 4, .int .u64 ls, .int .u32 ep, .int .u32 o, .int .i64 0, .bool false, .int .i64 0, .int .i64 0, .int .u64 0, .slice none 0 0, .slice none 0 0]) (BE.out) 3 (.int .u32 o) rfl) HE.out); have n_HR := Aside0.mk hR; have n_HB := Aside0.mk hBB; clear hR hBB hO HR HB BR BE; have HR := n_HR; have HB := n_HB; have BR := n_BR; clear n_HR n_HB n_BR; have BE := n_BE; clear n_BE; clear q0 q1 q2 q3 q4 q5 q6 q7 q8 q9 q10 qf ql z0 z1 z2 z3 z4 z5 z6 z7 z8 z9 z10 zf zl; obtain ⟨q0, q1, q2, q3, q4, q5, q6, q7, q8, q9, q10, qf, ql⟩ := entry_all BE.out; obtain ⟨z0, z1, z2, z3, z4, z5, z6, z7, z8, z9, z10, zf, zl⟩ := entry_all BR.out) | (go_at_call 41; (with_reducible refine (field_R8 g s5 w _ (RDB.set (i := 4) (HR.out) (BE.out) (.int .i64 st)) (below_set (HB.out) HGE.out)).mono ?_); rintro e w7 ⟨rfl, hR, hBB, hO⟩; rw [Hund.out]; rw [E6.out] at hR; have n_BR := Aside0.mk (OB.keep hO (blk_far (p := ⟨w3.heap.size, 4, none⟩) (BR.out) HRE.out (.int .i64 st)) HG.out); have n_BE := Aside0.mk (OB.keep hO (blk_put (cs' := #[.int .i64 4, .int .u64 ls, .int .u32 ep, .int .u32 o, .int .i64 st, .bool false, .int .i64 0, .int .i64 0, .int .u64 0, .slice none 0 0, .slice none 0 0]) (BE.out) 4 (.int .i64 st) rfl) HE.out); have n_HR := Aside0.mk hR; have n_HB := Aside0.mk hBB; clear hR hBB hO HR HB BR BE; have HR := n_HR; have HB := n_HB; have BR := n_BR; clear n_HR n_HB n_BR; have BE := n_BE; clear n_BE; clear q0 q1 q2 q3 q4 q5 q6 q7 q8 q9 q10 qf ql z0 z1 z2 z3 z4 z5 z6 z7 z8 z9 z10 zf zl; obtain ⟨q0, q1, q2, q3, q4, q5, q6, q7, q8, q9, q10, qf, ql⟩ := entry_all BE.out; obtain ⟨z0, z1, z2, z3, z4, z5, z6, z7, z8, z9, z10, zf, zl⟩ := entry_all BR.out) | (go_at_call 41; (with_reducible refine (field_R8 g s6 w _ (RDB.set (i := 5) (HR.out) (BE.out) (.bool (und == 1))) (below_set (HB.out) HGE.out)).mono ?_); rintro e w8 ⟨rfl, hR, hBB, hO⟩; rw [Htr.out]; rw [E7.out] at hR; have n_BR := Aside0.mk (OB.keep hO (blk_far (p := ⟨w3.heap.size, 5, none⟩) (BR.out) HRE.out (.bool (und == 1))) HG.out); have n_BE := Aside0.mk (OB.keep hO (blk_put (cs' := #[.int .i64 4, .int .u64 ls, .int .u32 ep, .int .u32 o, .int .i64 st, .bool (und == 1), .int .i64 0, .int .i64 0, .int .u64 0, .slice none 0 0, .slice none 0 0]) (BE.out) 5 (.bool (und == 1)) rfl) HE.out); have n_HR := Aside0.mk hR; have n_HB := Aside0.mk hBB; clear hR hBB hO HR HB BR BE; have HR := n_HR; have HB := n_HB; have BR := n_BR; clear n_HR n_HB n_BR; have BE := n_BE; clear n_BE; clear q0 q1 q2 q3 q4 q5 q6 q7 q8 q9 q10 qf ql z0 z1 z2 z3 z4 z5 z6 z7 z8 z9 z10 zf zl; obtain ⟨q0, q1, q2, q3, q4, q5, q6, q7, q8, q9, q10, qf, ql⟩ := entry_all BE.out; obtain ⟨z0, z1, z2, z3, z4, z5, z6, z7, z8, z9, z10, zf, zl⟩ := entry_all BR.out) | (go_at_call 41; (with_reducible refine (field_R8 g s7 w _ (RDB.set (i := 6) (HR.out) (BE.out) (.int .i64 tr)) (below_set (HB.out) HGE.out)).mono ?_); rintro e w9 ⟨rfl, hR, hBB, hO⟩; rw [Hco.out]; rw [E8.out] at hR; have n_BR := Aside0.mk (OB.keep hO (blk_far (p := ⟨w3.heap.size, 6, none⟩) (BR.out) HRE.out (.int .i64 tr)) HG.out); have n_BE := Aside0.mk (OB.keep hO (blk_put (cs' := #[.int .i64 4, .int .u64 ls, .int .u32 ep, .int .u32 o, .int .i64 st, .bool (und == 1), .int .i64 tr, .int .i64 0, .int .u64 0, .slice none 0 0, .slice none 0 0]) (BE.out) 6 (.int .i64 tr) rfl) HE.out); have n_HR := Aside0.mk hR; have n_HB := Aside0.mk hBB; clear hR hBB hO HR HB BR BE; have HR := n_HR; have HB := n_HB; have BR := n_BR; clear n_HR n_HB n_BR; have BE := n_BE; clear n_BE; clear q0 q1 q2 q3 q4 q5 q6 q7 q8 q9 q10 qf ql z0 z1 z2 z3 z4 z5 z6 z7 z8 z9 z10 zf zl; obtain ⟨q0, q1, q2, q3, q4, q5, q6, q7, q8, q9, q10, qf, ql⟩ := entry_all BE.out; obtain ⟨z0, z1, z2, z3, z4, z5, z6, z7, z8, z9, z10, zf, zl⟩ := entry_all BR.out) | (go_at_call 45; (with_reducible refine (field_RD g s8 w _ (RDB.set (i := 7) (HR.out) (BE.out) (.int .i64 co))).mono ?_); rintro e wd ⟨rfl, ⟨nd, rfl⟩⟩) | (go_at_call 15; (with_reducible refine (check_any 4 ls ep o st (und == 1) tr co 0 none 0 0 none 0 0 _).mono ?_); rintro e wc ⟨rfl, hb⟩; rw [HOK.out, ansE]; have n_BE := Aside0.mk (blk_below (bd1 nd (blk_put (cs' := #[.int .i64 4, .int .u64 ls, .int .u32 ep, .int .u32 o, .int .i64 st, .bool (und == 1), .int .i64 tr, .int .i64 co, .int .u64 0, .slice none 0 0, .slice none 0 0]) (BE.out) 7 (.int .i64 co) rfl)) hb); have n_BR := Aside0.mk (blk_below (bd1 nd (blk_far (p := ⟨w3.heap.size, 7, none⟩) (BR.out) HRE.out (.int .i64 co))) hb); have n_HB := Aside0.mk (below_step (pw_below_drewN (below_set (HB.out) HGE.out) nd) hb); clear hb BE BR HB HR q0 q1 q2 q3 q4 q5 q6 q7 q8 q9 q10 qf ql z0 z1 z2 z3 z4 z5 z6 z7 z8 z9 z10 zf zl; have BE := n_BE; have BR := n_BR; have HB := n_HB; clear n_BE n_BR n_HB; obtain ⟨q0, q1, q2, q3, q4, q5, q6, q7, q8, q9, q10, qf, ql⟩ := entry_all BE.out; obtain ⟨z0, z1, z2, z3, z4, z5, z6, z7, z8, z9, z10, zf, zl⟩ := entry_all BR.out))
  refine bodyPost_ret ?_ rfl ⟨.slice none 0 0, .slice none 0 0, rfl, Kd.R_nil _ _ _ _ _, Kd.R_nil _ _ _ _ _, ?_⟩
  · obtain ⟨Wf, eW, h1, h2⟩ := entry_put (.int .i64 0) (.int .u64 0) (.int .u32 0) (.int .u32 0) (.int .i64 0) (.bool false) (.int .i64 0) (.int .i64 0) (.int .u64 0) (.slice none 0 0) (.slice none 0 0) BR.out
    rw [← eW]
    obtain ⟨c0, c1, c2, c3, c4, c5, c6, c7, c8, c9, c10, cf, cl⟩ := entry_all h1
    clear eW h2 h1 cf cl
    simp [results, Try.results21, go_sem, c0, c1, c2, c3, c4, c5, c6, c7, c8, c9, c10]
  · iterate 11 refine below_set ?_ (Nat.le_refl _)
    exact HB.out
set_option maxHeartbeats 8000000 in
set_option maxRecDepth 100000 in
theorem get_4_ok (A : Option Addr) (c : Nat) (l0 : List Int) (ls ep o st und tr co : Int) (s1 s2 s3 s4 s5 s6 s7 s8 : RS) (w : World) (hr : Kd.C (Kd.int .u8) w A l0.length l0) (hl : l0.length ≤ 1000000) (hb0 : bytesIn l0) (hk : rd1 ((l0, false) : RS) = 4) (e1 : rdN 1 ((l0, false) : RS) = s1) (hls : rd8 s1 = ls) (e2 : rdN 8 s1 = s2) (hep : rd4 s2 = ep) (e3 : rdN 4 s2 = s3) (ho : rd4 s3 = o) (e4 : rdN 4 s3 = s4) (hst : rd1 s4 = st) (e5 : rdN 1 s4 = s5) (hund : rd1 s5 = und) (e6 : rdN 1 s5 = s6) (htr : rd1 s6 = tr) (e7 : rdN 1 s6 = s7) (hco : rd1 s7 = co) (e8 : rdN 1 s7 = s8) (hd : (doneI s8 != 0) = false) (hu : decide (1 < und) = false) (hok : entryOk 4 ls ep o st (und == 1) tr co 0 0 0 = true) : Calls Try.prog 21 #[.slice A l0.length c] w fun e w' => ∃ v9_ v10_ : Value, e = .returned (.tuple #[.agg #[.int .i64 4, .int .u64 ls, .int .u32 ep, .int .u32 o, .int .i64 st, .bool (und == 1), .int .i64 tr, .int .i64 co, .int .u64 0, v9_, v10_], .int .i64 0]) ∧ Kd.R (Kd.int .u8) 5 w' w.heap.size (fun k_ => some k_ ≠ (v10_ : Value).ownBlock) v9_ ([] : List Int) ∧ Kd.R (Kd.int .u8) 5 w' w.heap.size (fun k_ => some k_ ≠ (v9_ : Value).ownBlock) v10_ ([] : List Int) ∧ Below w.heap.size w w' := by
  have f_st : wrap64 st = st := by have := rd1_range s4; rw [hst] at this; unfold wrap64; omega
  have f2_st : IntKind.i64.wrap st = st := (i64_w st).trans f_st
  have f_tr : wrap64 tr = tr := by have := rd1_range s6; rw [htr] at this; unfold wrap64; omega
  have f2_tr : IntKind.i64.wrap tr = tr := (i64_w tr).trans f_tr
  have f_co : wrap64 co = co := by have := rd1_range s7; rw [hco] at this; unfold wrap64; omega
  have f2_co : IntKind.i64.wrap co = co := (i64_w co).trans f_co
  have Hk := Aside0.mk hk
  have E1 := Aside0.mk e1
  clear hk e1
  have Hls := Aside0.mk hls
  have E2 := Aside0.mk e2
  clear hls e2
  have Hep := Aside0.mk hep
  have E3 := Aside0.mk e3
  clear hep e3
  have Ho := Aside0.mk ho
  have E4 := Aside0.mk e4
  clear ho e4
  have Hst := Aside0.mk hst
  have E5 := Aside0.mk e5
  clear hst e5
  have Hund := Aside0.mk hund
  have E6 := Aside0.mk e6
  clear hund e6
  have Htr := Aside0.mk htr
  have E7 := Aside0.mk e7
  clear htr e7
  have Hco := Aside0.mk hco
  have E8 := Aside0.mk e8
  clear hco e8
  have GR := Aside0.mk hr
  have GL := Aside0.mk hl
  have GY := Aside0.mk hb0
  clear hr hl hb0
  have HOK := Aside0.mk hok
  clear hok
  go_enter Try.func21, Try.ntmps21
  go_wp2_with (first | (go_at_call 40; (with_reducible refine (fieldNewR.calls A c l0 w _ (Kd.C_alloc GR.out _) GL.out (below_alloc (Below.refl _ _) _)).mono ?_); rintro e w1 ⟨g, rfl, hRD, hB, hB2, hg⟩; have HR := Aside0.mk (show RDB w w1 g ((l0, false) : RS) from ⟨hRD, GL.out, GY.out⟩); have BR := Aside0.mk (blk_below (heap_last _ _) hB2); have HG := Aside0.mk (show w.heap.size ≠ g by simp at hg; omega); have HB := Aside0.mk hB; clear hRD hB hB2 hg) | (go_at_call 41; (with_reducible refine (field_R8 g ((l0, false) : RS) w _ (HR.out) (HB.out)).mono ?_); rintro e w2 ⟨rfl, hR, hBB, hO⟩; rw [Hk.out]; rw [E1.out] at hR; have n_BR := Aside0.mk (OB.keep hO (BR.out) HG.out); have n_HR := Aside0.mk hR; have n_HB := Aside0.mk hBB; clear hR hBB hO HR HB BR; have HR := n_HR; have HB := n_HB; have BR := n_BR; clear n_HR n_HB n_BR) | (go_at_call 42; (with_reducible refine (field_R64 g s1 w _ (HR.out) (HB.out)).mono ?_); rintro e w3 ⟨rfl, hR, hBB, hO⟩; rw [Hls.out]; rw [E2.out] at hR; have n_BR := Aside0.mk (OB.keep hO (BR.out) HG.out); have n_HR := Aside0.mk hR; have n_HB := Aside0.mk hBB; clear hR hBB hO HR HB BR; have HR := n_HR; have HB := n_HB; have BR := n_BR; clear n_HR n_HB n_BR) | (go_at_call 43; (with_reducible refine (field_R32 g s2 w _ (RDB.alloc HR.out _) (below_alloc HB.out _)).mono ?_); rintro e w4 ⟨rfl, hR, hBB, hO⟩; rw [Hep.out]; rw [E3.out] at hR; have n_BR := Aside0.mk (OB.keep hO (bd3 _ BR.out) HG.out); have HE := Aside0.mk (show w3.heap.size ≠ g by have := RDB.lt HR.out; omega); have HGE := Aside0.mk (show w.heap.size ≤ w3.heap.size from HB.out.size); have HRE := Aside0.mk (show w.heap.size ≠ w3.heap.size by have := blk_lt BR.out; omega); have n_BE := Aside0.mk (OB.keep hO (heap_last _ (.cells #[.int .i64 4, .int .u64 ls, .int .u32 0, .int .u32 0, .int .i64 0, .bool false, .int .i64 0, .int .i64 0, .int .u64 0, .slice none 0 0, .slice none 0 0] 26 (0, 0))) HE.out); have n_HR := Aside0.mk hR; have n_HB := Aside0.mk hBB; clear hR hBB hO HR HB BR; have HR := n_HR; have HB := n_HB; have BR := n_BR; clear n_HR n_HB n_BR; have BE := n_BE; clear n_BE; obtain ⟨q0, q1, q2, q3, q4, q5, q6, q7, q8, q9, q10, qf, ql⟩ := entry_all BE.out; obtain ⟨z0, z1, z2, z3, z4, z5, z6, z7, z8, z9, z10, zf, zl⟩ := entry_all BR.out; have hre := HRE.out) | (go_at_call 43; (with_reducible refine (field_R32 g s3 w _ (RDB.set (i := 2) (HR.out) (BE.out) (.int .u32 ep)) (below_set (HB.out) HGE.out)).mono ?_); rintro e w5 ⟨rfl, hR, hBB, hO⟩; rw [Ho.out]; rw [E4.out] at hR; have n_BR := Aside0.mk (OB.keep hO (blk_far (p := ⟨w3.heap.size, 2, none⟩) (BR.out) HRE.out (.int .u32 ep)) HG.out); have n_BE := Aside0.mk (OB.keep hO (blk_put (cs' := #[.int .i64 4, .int .u64 ls, .int .u32 ep, .int .u32 0, .int .i64 0, .bool false, .int .i64 0, .int .i64 0, .int .u64 0, .slice none 0 0, .slice none 0 0]) (BE.out) 2 (.int .u32 ep) rfl) HE.out); have n_HR := Aside0.mk hR; have n_HB := Aside0.mk hBB; clear hR hBB hO HR HB BR BE; have HR := n_HR; have HB := n_HB; have BR := n_BR; clear n_HR n_HB n_BR; have BE := n_BE; clear n_BE; clear q0 q1 q2 q3 q4 q5 q6 q7 q8 q9 q10 qf ql z0 z1 z2 z3 z4 z5 z6 z7 z8 z9 z10 zf zl; obtain ⟨q0, q1, q2, q3, q4, q5, q6, q7, q8, q9, q10, qf, ql⟩ := entry_all BE.out; obtain ⟨z0, z1, z2, z3, z4, z5, z6, z7, z8, z9, z10, zf, zl⟩ := entry_all BR.out) | (go_at_call 41; (with_reducible refine (field_R8 g s4 w _ (RDB.set (i := 3) (HR.out) (BE.out) (.int .u32 o)) (below_set (HB.out) HGE.out)).mono ?_); rintro e w6 ⟨rfl, hR, hBB, hO⟩; rw [Hst.out]; rw [E5.out] at hR; have n_BR := Aside0.mk (OB.keep hO (blk_far (p := ⟨w3.heap.size, 3, none⟩) (BR.out) HRE.out (.int .u32 o)) HG.out); have n_BE := Aside0.mk (OB.keep hO (blk_put (cs' := #[.int .i64 4, .int .u64 ls, .int .u32 ep, .int .u32 o, .int .i64 0, .bool false, .int .i64 0, .int .i64 0, .int .u64 0, .slice none 0 0, .slice none 0 0]) (BE.out) 3 (.int .u32 o) rfl) HE.out); have n_HR := Aside0.mk hR; have n_HB := Aside0.mk hBB; clear hR hBB hO HR HB BR BE; have HR := n_HR; have HB := n_HB; have BR := n_BR; clear n_HR n_HB n_BR; have BE := n_BE; clear n_BE; clear q0 q1 q2 q3 q4 q5 q6 q7 q8 q9 q10 qf ql z0 z1 z2 z3 z4 z5 z6 z7 z8 z9 z10 zf zl; obtain ⟨q0, q1, q2, q3, q4, q5, q6, q7, q8, q9, q10, qf, ql⟩ := entry_all BE.out; obtain ⟨z0, z1, z2, z3, z4, z5, z6, z7, z8, z9, z10, zf, zl⟩ := entry_all BR.out) | (go_at_call 41; (with_reducible refine (field_R8 g s5 w _ (RDB.set (i := 4) (HR.out) (BE.out) (.int .i64 st)) (below_set (HB.out) HGE.out)).mono ?_); rintro e w7 ⟨rfl, hR, hBB, hO⟩; rw [Hund.out]; rw [E6.out] at hR; have n_BR := Aside0.mk (OB.keep hO (blk_far (p := ⟨w3.heap.size, 4, none⟩) (BR.out) HRE.out (.int .i64 st)) HG.out); have n_BE := Aside0.mk (OB.keep hO (blk_put (cs' := #[.int .i64 4, .int .u64 ls, .int .u32 ep, .int .u32 o, .int .i64 st, .bool false, .int .i64 0, .int .i64 0, .int .u64 0, .slice none 0 0, .slice none 0 0]) (BE.out) 4 (.int .i64 st) rfl) HE.out); have n_HR := Aside0.mk hR; have n_HB := Aside0.mk hBB; clear hR hBB hO HR HB BR BE; have HR := n_HR; have HB := n_HB; have BR := n_BR; clear n_HR n_HB n_BR; have BE := n_BE; clear n_BE; clear q0 q1 q2 q3 q4 q5 q6 q7 q8 q9 q10 qf ql z0 z1 z2 z3 z4 z5 z6 z7 z8 z9 z10 zf zl; obtain ⟨q0, q1, q2, q3, q4, q5, q6, q7, q8, q9, q10, qf, ql⟩ := entry_all BE.out; obtain ⟨z0, z1, z2, z3, z4, z5, z6, z7, z8, z9, z10, zf, zl⟩ := entry_all BR.out) | (go_at_call 41; (with_reducible refine (field_R8 g s6 w _ (RDB.set (i := 5) (HR.out) (BE.out) (.bool (und == 1))) (below_set (HB.out) HGE.out)).mono ?_); rintro e w8 ⟨rfl, hR, hBB, hO⟩; rw [Htr.out]; rw [E7.out] at hR; have n_BR := Aside0.mk (OB.keep hO (blk_far (p := ⟨w3.heap.size, 5, none⟩) (BR.out) HRE.out (.bool (und == 1))) HG.out); have n_BE := Aside0.mk (OB.keep hO (blk_put (cs' := #[.int .i64 4, .int .u64 ls, .int .u32 ep, .int .u32 o, .int .i64 st, .bool (und == 1), .int .i64 0, .int .i64 0, .int .u64 0, .slice none 0 0, .slice none 0 0]) (BE.out) 5 (.bool (und == 1)) rfl) HE.out); have n_HR := Aside0.mk hR; have n_HB := Aside0.mk hBB; clear hR hBB hO HR HB BR BE; have HR := n_HR; have HB := n_HB; have BR := n_BR; clear n_HR n_HB n_BR; have BE := n_BE; clear n_BE; clear q0 q1 q2 q3 q4 q5 q6 q7 q8 q9 q10 qf ql z0 z1 z2 z3 z4 z5 z6 z7 z8 z9 z10 zf zl; obtain ⟨q0, q1, q2, q3, q4, q5, q6, q7, q8, q9, q10, qf, ql⟩ := entry_all BE.out; obtain ⟨z0, z1, z2, z3, z4, z5, z6, z7, z8, z9, z10, zf, zl⟩ := entry_all BR.out) | (go_at_call 41; (with_reducible refine (field_R8 g s7 w _ (RDB.set (i := 6) (HR.out) (BE.out) (.int .i64 tr)) (below_set (HB.out) HGE.out)).mono ?_); rintro e w9 ⟨rfl, hR, hBB, hO⟩; rw [Hco.out]; rw [E8.out] at hR; have n_BR := Aside0.mk (OB.keep hO (blk_far (p := ⟨w3.heap.size, 6, none⟩) (BR.out) HRE.out (.int .i64 tr)) HG.out); have n_BE := Aside0.mk (OB.keep hO (blk_put (cs' := #[.int .i64 4, .int .u64 ls, .int .u32 ep, .int .u32 o, .int .i64 st, .bool (und == 1), .int .i64 tr, .int .i64 0, .int .u64 0, .slice none 0 0, .slice none 0 0]) (BE.out) 6 (.int .i64 tr) rfl) HE.out); have n_HR := Aside0.mk hR; have n_HB := Aside0.mk hBB; clear hR hBB hO HR HB BR BE; have HR := n_HR; have HB := n_HB; have BR := n_BR; clear n_HR n_HB n_BR; have BE := n_BE; clear n_BE; clear q0 q1 q2 q3 q4 q5 q6 q7 q8 q9 q10 qf ql z0 z1 z2 z3 z4 z5 z6 z7 z8 z9 z10 zf zl; obtain ⟨q0, q1, q2, q3, q4, q5, q6, q7, q8, q9, q10, qf, ql⟩ := entry_all BE.out; obtain ⟨z0, z1, z2, z3, z4, z5, z6, z7, z8, z9, z10, zf, zl⟩ := entry_all BR.out) | (go_at_call 45; (with_reducible refine (field_RD g s8 w _ (RDB.set (i := 7) (HR.out) (BE.out) (.int .i64 co))).mono ?_); rintro e wd ⟨rfl, ⟨nd, rfl⟩⟩) | (go_at_call 15; (with_reducible refine (check_any 4 ls ep o st (und == 1) tr co 0 none 0 0 none 0 0 _).mono ?_); rintro e wc ⟨rfl, hb⟩; rw [HOK.out, ansE]; have n_BE := Aside0.mk (blk_below (bd1 nd (blk_put (cs' := #[.int .i64 4, .int .u64 ls, .int .u32 ep, .int .u32 o, .int .i64 st, .bool (und == 1), .int .i64 tr, .int .i64 co, .int .u64 0, .slice none 0 0, .slice none 0 0]) (BE.out) 7 (.int .i64 co) rfl)) hb); have n_BR := Aside0.mk (blk_below (bd1 nd (blk_far (p := ⟨w3.heap.size, 7, none⟩) (BR.out) HRE.out (.int .i64 co))) hb); have n_HB := Aside0.mk (below_step (pw_below_drewN (below_set (HB.out) HGE.out) nd) hb); clear hb BE BR HB HR q0 q1 q2 q3 q4 q5 q6 q7 q8 q9 q10 qf ql z0 z1 z2 z3 z4 z5 z6 z7 z8 z9 z10 zf zl; have BE := n_BE; have BR := n_BR; have HB := n_HB; clear n_BE n_BR n_HB; obtain ⟨q0, q1, q2, q3, q4, q5, q6, q7, q8, q9, q10, qf, ql⟩ := entry_all BE.out; obtain ⟨z0, z1, z2, z3, z4, z5, z6, z7, z8, z9, z10, zf, zl⟩ := entry_all BR.out))
  refine bodyPost_ret ?_ rfl ⟨.slice none 0 0, .slice none 0 0, rfl, Kd.R_nil _ _ _ _ _, Kd.R_nil _ _ _ _ _, ?_⟩
  · obtain ⟨Wf, eW, h1, h2⟩ := entry_put (.int .i64 4) (.int .u64 ls) (.int .u32 ep) (.int .u32 o) (.int .i64 st) (.bool (und == 1)) (.int .i64 tr) (.int .i64 co) (.int .u64 0) (.slice none 0 0) (.slice none 0 0) BR.out
    rw [← eW]
    obtain ⟨c0, c1, c2, c3, c4, c5, c6, c7, c8, c9, c10, cf, cl⟩ := entry_all h1
    clear eW h2 h1 cf cl
    simp [results, Try.results21, go_sem, c0, c1, c2, c3, c4, c5, c6, c7, c8, c9, c10]
  · iterate 11 refine below_set ?_ (Nat.le_refl _)
    exact HB.out
set_option maxHeartbeats 8000000 in
set_option maxRecDepth 100000 in
theorem get_5_done (A : Option Addr) (c : Nat) (l0 : List Int) (ls ep o co : Int) (s1 s2 s3 s4 s5 : RS) (w : World) (hr : Kd.C (Kd.int .u8) w A l0.length l0) (hl : l0.length ≤ 1000000) (hb0 : bytesIn l0) (hk : rd1 ((l0, false) : RS) = 5) (e1 : rdN 1 ((l0, false) : RS) = s1) (hls : rd8 s1 = ls) (e2 : rdN 8 s1 = s2) (hep : rd4 s2 = ep) (e3 : rdN 4 s2 = s3) (ho : rd4 s3 = o) (e4 : rdN 4 s3 = s4) (hco : rd1 s4 = co) (e5 : rdN 1 s4 = s5) (hd : (doneI s5 != 0) = true) : Calls Try.prog 21 #[.slice A l0.length c] w fun e w' => ∃ v9_ v10_ : Value, e = .returned (.tuple #[.agg #[.int .i64 0, .int .u64 0, .int .u32 0, .int .u32 0, .int .i64 0, .bool false, .int .i64 0, .int .i64 0, .int .u64 0, v9_, v10_], .int .i64 40]) ∧ Kd.R (Kd.int .u8) 5 w' w.heap.size (fun k_ => some k_ ≠ (v10_ : Value).ownBlock) v9_ ([] : List Int) ∧ Kd.R (Kd.int .u8) 5 w' w.heap.size (fun k_ => some k_ ≠ (v9_ : Value).ownBlock) v10_ ([] : List Int) ∧ Below w.heap.size w w' := by
  have f_co : wrap64 co = co := by have := rd1_range s4; rw [hco] at this; unfold wrap64; omega
  have f2_co : IntKind.i64.wrap co = co := (i64_w co).trans f_co
  have Hk := Aside0.mk hk
  have E1 := Aside0.mk e1
  clear hk e1
  have Hls := Aside0.mk hls
  have E2 := Aside0.mk e2
  clear hls e2
  have Hep := Aside0.mk hep
  have E3 := Aside0.mk e3
  clear hep e3
  have Ho := Aside0.mk ho
  have E4 := Aside0.mk e4
  clear ho e4
  have Hco := Aside0.mk hco
  have E5 := Aside0.mk e5
  clear hco e5
  have GR := Aside0.mk hr
  have GL := Aside0.mk hl
  have GY := Aside0.mk hb0
  clear hr hl hb0
  go_enter Try.func21, Try.ntmps21
  go_wp2_with (first | (go_at_call 40; (with_reducible refine (fieldNewR.calls A c l0 w _ (Kd.C_alloc GR.out _) GL.out (below_alloc (Below.refl _ _) _)).mono ?_); rintro e w1 ⟨g, rfl, hRD, hB, hB2, hg⟩; have HR := Aside0.mk (show RDB w w1 g ((l0, false) : RS) from ⟨hRD, GL.out, GY.out⟩); have BR := Aside0.mk (blk_below (heap_last _ _) hB2); have HG := Aside0.mk (show w.heap.size ≠ g by simp at hg; omega); have HB := Aside0.mk hB; clear hRD hB hB2 hg) | (go_at_call 41; (with_reducible refine (field_R8 g ((l0, false) : RS) w _ (HR.out) (HB.out)).mono ?_); rintro e w2 ⟨rfl, hR, hBB, hO⟩; rw [Hk.out]; rw [E1.out] at hR; have n_BR := Aside0.mk (OB.keep hO (BR.out) HG.out); have n_HR := Aside0.mk hR; have n_HB := Aside0.mk hBB; clear hR hBB hO HR HB BR; have HR := n_HR; have HB := n_HB; have BR := n_BR; clear n_HR n_HB n_BR) | (go_at_call 42; (with_reducible refine (field_R64 g s1 w _ (HR.out) (HB.out)).mono ?_); rintro e w3 ⟨rfl, hR, hBB, hO⟩; rw [Hls.out]; rw [E2.out] at hR; have n_BR := Aside0.mk (OB.keep hO (BR.out) HG.out); have n_HR := Aside0.mk hR; have n_HB := Aside0.mk hBB; clear hR hBB hO HR HB BR; have HR := n_HR; have HB := n_HB; have BR := n_BR; clear n_HR n_HB n_BR) | (go_at_call 43; (with_reducible refine (field_R32 g s2 w _ (RDB.alloc HR.out _) (below_alloc HB.out _)).mono ?_); rintro e w4 ⟨rfl, hR, hBB, hO⟩; rw [Hep.out]; rw [E3.out] at hR; have n_BR := Aside0.mk (OB.keep hO (bd3 _ BR.out) HG.out); have HE := Aside0.mk (show w3.heap.size ≠ g by have := RDB.lt HR.out; omega); have HGE := Aside0.mk (show w.heap.size ≤ w3.heap.size from HB.out.size); have HRE := Aside0.mk (show w.heap.size ≠ w3.heap.size by have := blk_lt BR.out; omega); have n_BE := Aside0.mk (OB.keep hO (heap_last _ (.cells #[.int .i64 5, .int .u64 ls, .int .u32 0, .int .u32 0, .int .i64 0, .bool false, .int .i64 0, .int .i64 0, .int .u64 0, .slice none 0 0, .slice none 0 0] 26 (0, 0))) HE.out); have n_HR := Aside0.mk hR; have n_HB := Aside0.mk hBB; clear hR hBB hO HR HB BR; have HR := n_HR; have HB := n_HB; have BR := n_BR; clear n_HR n_HB n_BR; have BE := n_BE; clear n_BE; obtain ⟨q0, q1, q2, q3, q4, q5, q6, q7, q8, q9, q10, qf, ql⟩ := entry_all BE.out; obtain ⟨z0, z1, z2, z3, z4, z5, z6, z7, z8, z9, z10, zf, zl⟩ := entry_all BR.out; have hre := HRE.out) | (go_at_call 43; (with_reducible refine (field_R32 g s3 w _ (RDB.set (i := 2) (HR.out) (BE.out) (.int .u32 ep)) (below_set (HB.out) HGE.out)).mono ?_); rintro e w5 ⟨rfl, hR, hBB, hO⟩; rw [Ho.out]; rw [E4.out] at hR; have n_BR := Aside0.mk (OB.keep hO (blk_far (p := ⟨w3.heap.size, 2, none⟩) (BR.out) HRE.out (.int .u32 ep)) HG.out); have n_BE := Aside0.mk (OB.keep hO (blk_put (cs' := #[.int .i64 5, .int .u64 ls, .int .u32 ep, .int .u32 0, .int .i64 0, .bool false, .int .i64 0, .int .i64 0, .int .u64 0, .slice none 0 0, .slice none 0 0]) (BE.out) 2 (.int .u32 ep) rfl) HE.out); have n_HR := Aside0.mk hR; have n_HB := Aside0.mk hBB; clear hR hBB hO HR HB BR BE; have HR := n_HR; have HB := n_HB; have BR := n_BR; clear n_HR n_HB n_BR; have BE := n_BE; clear n_BE; clear q0 q1 q2 q3 q4 q5 q6 q7 q8 q9 q10 qf ql z0 z1 z2 z3 z4 z5 z6 z7 z8 z9 z10 zf zl; obtain ⟨q0, q1, q2, q3, q4, q5, q6, q7, q8, q9, q10, qf, ql⟩ := entry_all BE.out; obtain ⟨z0, z1, z2, z3, z4, z5, z6, z7, z8, z9, z10, zf, zl⟩ := entry_all BR.out) | (go_at_call 41; (with_reducible refine (field_R8 g s4 w _ (RDB.set (i := 3) (HR.out) (BE.out) (.int .u32 o)) (below_set (HB.out) HGE.out)).mono ?_); rintro e w6 ⟨rfl, hR, hBB, hO⟩; rw [Hco.out]; rw [E5.out] at hR; have n_BR := Aside0.mk (OB.keep hO (blk_far (p := ⟨w3.heap.size, 3, none⟩) (BR.out) HRE.out (.int .u32 o)) HG.out); have n_BE := Aside0.mk (OB.keep hO (blk_put (cs' := #[.int .i64 5, .int .u64 ls, .int .u32 ep, .int .u32 o, .int .i64 0, .bool false, .int .i64 0, .int .i64 0, .int .u64 0, .slice none 0 0, .slice none 0 0]) (BE.out) 3 (.int .u32 o) rfl) HE.out); have n_HR := Aside0.mk hR; have n_HB := Aside0.mk hBB; clear hR hBB hO HR HB BR BE; have HR := n_HR; have HB := n_HB; have BR := n_BR; clear n_HR n_HB n_BR; have BE := n_BE; clear n_BE; clear q0 q1 q2 q3 q4 q5 q6 q7 q8 q9 q10 qf ql z0 z1 z2 z3 z4 z5 z6 z7 z8 z9 z10 zf zl; obtain ⟨q0, q1, q2, q3, q4, q5, q6, q7, q8, q9, q10, qf, ql⟩ := entry_all BE.out; obtain ⟨z0, z1, z2, z3, z4, z5, z6, z7, z8, z9, z10, zf, zl⟩ := entry_all BR.out) | (go_at_call 45; (with_reducible refine (field_RD g s5 w _ (RDB.set (i := 7) (HR.out) (BE.out) (.int .i64 co))).mono ?_); rintro e wd ⟨rfl, ⟨nd, rfl⟩⟩))
  refine bodyPost_ret ?_ rfl ⟨.slice none 0 0, .slice none 0 0, rfl, Kd.R_nil _ _ _ _ _, Kd.R_nil _ _ _ _ _, ?_⟩
  · obtain ⟨Wf, eW, h1, h2⟩ := entry_put (.int .i64 0) (.int .u64 0) (.int .u32 0) (.int .u32 0) (.int .i64 0) (.bool false) (.int .i64 0) (.int .i64 0) (.int .u64 0) (.slice none 0 0) (.slice none 0 0) (bd1 nd (blk_far (p := ⟨w3.heap.size, 7, none⟩) (BR.out) HRE.out (.int .i64 co)))
    rw [← eW]
    obtain ⟨c0, c1, c2, c3, c4, c5, c6, c7, c8, c9, c10, cf, cl⟩ := entry_all h1
    clear eW h2 h1 cf cl
    simp [results, Try.results21, go_sem, c0, c1, c2, c3, c4, c5, c6, c7, c8, c9, c10]
  · iterate 11 refine below_set ?_ (Nat.le_refl _)
    exact pw_below_drewN (below_set (HB.out) HGE.out) nd
set_option maxHeartbeats 8000000 in
set_option maxRecDepth 100000 in
theorem get_5_check (A : Option Addr) (c : Nat) (l0 : List Int) (ls ep o co : Int) (s1 s2 s3 s4 s5 : RS) (w : World) (hr : Kd.C (Kd.int .u8) w A l0.length l0) (hl : l0.length ≤ 1000000) (hb0 : bytesIn l0) (hk : rd1 ((l0, false) : RS) = 5) (e1 : rdN 1 ((l0, false) : RS) = s1) (hls : rd8 s1 = ls) (e2 : rdN 8 s1 = s2) (hep : rd4 s2 = ep) (e3 : rdN 4 s2 = s3) (ho : rd4 s3 = o) (e4 : rdN 4 s3 = s4) (hco : rd1 s4 = co) (e5 : rdN 1 s4 = s5) (hd : (doneI s5 != 0) = false) (hok : entryOk 5 ls ep o 0 false 0 co 0 0 0 = false) : Calls Try.prog 21 #[.slice A l0.length c] w fun e w' => ∃ v9_ v10_ : Value, e = .returned (.tuple #[.agg #[.int .i64 0, .int .u64 0, .int .u32 0, .int .u32 0, .int .i64 0, .bool false, .int .i64 0, .int .i64 0, .int .u64 0, v9_, v10_], .int .i64 40]) ∧ Kd.R (Kd.int .u8) 5 w' w.heap.size (fun k_ => some k_ ≠ (v10_ : Value).ownBlock) v9_ ([] : List Int) ∧ Kd.R (Kd.int .u8) 5 w' w.heap.size (fun k_ => some k_ ≠ (v9_ : Value).ownBlock) v10_ ([] : List Int) ∧ Below w.heap.size w w' := by
  have f_co : wrap64 co = co := by have := rd1_range s4; rw [hco] at this; unfold wrap64; omega
  have f2_co : IntKind.i64.wrap co = co := (i64_w co).trans f_co
  have Hk := Aside0.mk hk
  have E1 := Aside0.mk e1
  clear hk e1
  have Hls := Aside0.mk hls
  have E2 := Aside0.mk e2
  clear hls e2
  have Hep := Aside0.mk hep
  have E3 := Aside0.mk e3
  clear hep e3
  have Ho := Aside0.mk ho
  have E4 := Aside0.mk e4
  clear ho e4
  have Hco := Aside0.mk hco
  have E5 := Aside0.mk e5
  clear hco e5
  have GR := Aside0.mk hr
  have GL := Aside0.mk hl
  have GY := Aside0.mk hb0
  clear hr hl hb0
  have HOK := Aside0.mk hok
  clear hok
  go_enter Try.func21, Try.ntmps21
  go_wp2_with (first | (go_at_call 40; (with_reducible refine (fieldNewR.calls A c l0 w _ (Kd.C_alloc GR.out _) GL.out (below_alloc (Below.refl _ _) _)).mono ?_); rintro e w1 ⟨g, rfl, hRD, hB, hB2, hg⟩; have HR := Aside0.mk (show RDB w w1 g ((l0, false) : RS) from ⟨hRD, GL.out, GY.out⟩); have BR := Aside0.mk (blk_below (heap_last _ _) hB2); have HG := Aside0.mk (show w.heap.size ≠ g by simp at hg; omega); have HB := Aside0.mk hB; clear hRD hB hB2 hg) | (go_at_call 41; (with_reducible refine (field_R8 g ((l0, false) : RS) w _ (HR.out) (HB.out)).mono ?_); rintro e w2 ⟨rfl, hR, hBB, hO⟩; rw [Hk.out]; rw [E1.out] at hR; have n_BR := Aside0.mk (OB.keep hO (BR.out) HG.out); have n_HR := Aside0.mk hR; have n_HB := Aside0.mk hBB; clear hR hBB hO HR HB BR; have HR := n_HR; have HB := n_HB; have BR := n_BR; clear n_HR n_HB n_BR) | (go_at_call 42; (with_reducible refine (field_R64 g s1 w _ (HR.out) (HB.out)).mono ?_); rintro e w3 ⟨rfl, hR, hBB, hO⟩; rw [Hls.out]; rw [E2.out] at hR; have n_BR := Aside0.mk (OB.keep hO (BR.out) HG.out); have n_HR := Aside0.mk hR; have n_HB := Aside0.mk hBB; clear hR hBB hO HR HB BR; have HR := n_HR; have HB := n_HB; have BR := n_BR; clear n_HR n_HB n_BR) | (go_at_call 43; (with_reducible refine (field_R32 g s2 w _ (RDB.alloc HR.out _) (below_alloc HB.out _)).mono ?_); rintro e w4 ⟨rfl, hR, hBB, hO⟩; rw [Hep.out]; rw [E3.out] at hR; have n_BR := Aside0.mk (OB.keep hO (bd3 _ BR.out) HG.out); have HE := Aside0.mk (show w3.heap.size ≠ g by have := RDB.lt HR.out; omega); have HGE := Aside0.mk (show w.heap.size ≤ w3.heap.size from HB.out.size); have HRE := Aside0.mk (show w.heap.size ≠ w3.heap.size by have := blk_lt BR.out; omega); have n_BE := Aside0.mk (OB.keep hO (heap_last _ (.cells #[.int .i64 5, .int .u64 ls, .int .u32 0, .int .u32 0, .int .i64 0, .bool false, .int .i64 0, .int .i64 0, .int .u64 0, .slice none 0 0, .slice none 0 0] 26 (0, 0))) HE.out); have n_HR := Aside0.mk hR; have n_HB := Aside0.mk hBB; clear hR hBB hO HR HB BR; have HR := n_HR; have HB := n_HB; have BR := n_BR; clear n_HR n_HB n_BR; have BE := n_BE; clear n_BE; obtain ⟨q0, q1, q2, q3, q4, q5, q6, q7, q8, q9, q10, qf, ql⟩ := entry_all BE.out; obtain ⟨z0, z1, z2, z3, z4, z5, z6, z7, z8, z9, z10, zf, zl⟩ := entry_all BR.out; have hre := HRE.out) | (go_at_call 43; (with_reducible refine (field_R32 g s3 w _ (RDB.set (i := 2) (HR.out) (BE.out) (.int .u32 ep)) (below_set (HB.out) HGE.out)).mono ?_); rintro e w5 ⟨rfl, hR, hBB, hO⟩; rw [Ho.out]; rw [E4.out] at hR; have n_BR := Aside0.mk (OB.keep hO (blk_far (p := ⟨w3.heap.size, 2, none⟩) (BR.out) HRE.out (.int .u32 ep)) HG.out); have n_BE := Aside0.mk (OB.keep hO (blk_put (cs' := #[.int .i64 5, .int .u64 ls, .int .u32 ep, .int .u32 0, .int .i64 0, .bool false, .int .i64 0, .int .i64 0, .int .u64 0, .slice none 0 0, .slice none 0 0]) (BE.out) 2 (.int .u32 ep) rfl) HE.out); have n_HR := Aside0.mk hR; have n_HB := Aside0.mk hBB; clear hR hBB hO HR HB BR BE; have HR := n_HR; have HB := n_HB; have BR := n_BR; clear n_HR n_HB n_BR; have BE := n_BE; clear n_BE; clear q0 q1 q2 q3 q4 q5 q6 q7 q8 q9 q10 qf ql z0 z1 z2 z3 z4 z5 z6 z7 z8 z9 z10 zf zl; obtain ⟨q0, q1, q2, q3, q4, q5, q6, q7, q8, q9, q10, qf, ql⟩ := entry_all BE.out; obtain ⟨z0, z1, z2, z3, z4, z5, z6, z7, z8, z9, z10, zf, zl⟩ := entry_all BR.out) | (go_at_call 41; (with_reducible refine (field_R8 g s4 w _ (RDB.set (i := 3) (HR.out) (BE.out) (.int .u32 o)) (below_set (HB.out) HGE.out)).mono ?_); rintro e w6 ⟨rfl, hR, hBB, hO⟩; rw [Hco.out]; rw [E5.out] at hR; have n_BR := Aside0.mk (OB.keep hO (blk_far (p := ⟨w3.heap.size, 3, none⟩) (BR.out) HRE.out (.int .u32 o)) HG.out); have n_BE := Aside0.mk (OB.keep hO (blk_put (cs' := #[.int .i64 5, .int .u64 ls, .int .u32 ep, .int .u32 o, .int .i64 0, .bool false, .int .i64 0, .int .i64 0, .int .u64 0, .slice none 0 0, .slice none 0 0]) (BE.out) 3 (.int .u32 o) rfl) HE.out); have n_HR := Aside0.mk hR; have n_HB := Aside0.mk hBB; clear hR hBB hO HR HB BR BE; have HR := n_HR; have HB := n_HB; have BR := n_BR; clear n_HR n_HB n_BR; have BE := n_BE; clear n_BE; clear q0 q1 q2 q3 q4 q5 q6 q7 q8 q9 q10 qf ql z0 z1 z2 z3 z4 z5 z6 z7 z8 z9 z10 zf zl; obtain ⟨q0, q1, q2, q3, q4, q5, q6, q7, q8, q9, q10, qf, ql⟩ := entry_all BE.out; obtain ⟨z0, z1, z2, z3, z4, z5, z6, z7, z8, z9, z10, zf, zl⟩ := entry_all BR.out) | (go_at_call 45; (with_reducible refine (field_RD g s5 w _ (RDB.set (i := 7) (HR.out) (BE.out) (.int .i64 co))).mono ?_); rintro e wd ⟨rfl, ⟨nd, rfl⟩⟩) | (go_at_call 15; (with_reducible refine (check_any 5 ls ep o 0 false 0 co 0 none 0 0 none 0 0 _).mono ?_); rintro e wc ⟨rfl, hb⟩; rw [HOK.out, ansE]; have n_BE := Aside0.mk (blk_below (bd1 nd (blk_put (cs' := #[.int .i64 5, .int .u64 ls, .int .u32 ep, .int .u32 o, .int .i64 0, .bool false, .int .i64 0, .int .i64 co, .int .u64 0, .slice none 0 0, .slice none 0 0]) (BE.out) 7 (.int .i64 co) rfl)) hb); have n_BR := Aside0.mk (blk_below (bd1 nd (blk_far (p := ⟨w3.heap.size, 7, none⟩) (BR.out) HRE.out (.int .i64 co))) hb); have n_HB := Aside0.mk (below_step (pw_below_drewN (below_set (HB.out) HGE.out) nd) hb); clear hb BE BR HB HR q0 q1 q2 q3 q4 q5 q6 q7 q8 q9 q10 qf ql z0 z1 z2 z3 z4 z5 z6 z7 z8 z9 z10 zf zl; have BE := n_BE; have BR := n_BR; have HB := n_HB; clear n_BE n_BR n_HB; obtain ⟨q0, q1, q2, q3, q4, q5, q6, q7, q8, q9, q10, qf, ql⟩ := entry_all BE.out; obtain ⟨z0, z1, z2, z3, z4, z5, z6, z7, z8, z9, z10, zf, zl⟩ := entry_all BR.out))
  refine bodyPost_ret ?_ rfl ⟨.slice none 0 0, .slice none 0 0, rfl, Kd.R_nil _ _ _ _ _, Kd.R_nil _ _ _ _ _, ?_⟩
  · obtain ⟨Wf, eW, h1, h2⟩ := entry_put (.int .i64 0) (.int .u64 0) (.int .u32 0) (.int .u32 0) (.int .i64 0) (.bool false) (.int .i64 0) (.int .i64 0) (.int .u64 0) (.slice none 0 0) (.slice none 0 0) BR.out
    rw [← eW]
    obtain ⟨c0, c1, c2, c3, c4, c5, c6, c7, c8, c9, c10, cf, cl⟩ := entry_all h1
    clear eW h2 h1 cf cl
    simp [results, Try.results21, go_sem, c0, c1, c2, c3, c4, c5, c6, c7, c8, c9, c10]
  · iterate 11 refine below_set ?_ (Nat.le_refl _)
    exact HB.out
set_option maxHeartbeats 8000000 in
set_option maxRecDepth 100000 in
theorem get_5_ok (A : Option Addr) (c : Nat) (l0 : List Int) (ls ep o co : Int) (s1 s2 s3 s4 s5 : RS) (w : World) (hr : Kd.C (Kd.int .u8) w A l0.length l0) (hl : l0.length ≤ 1000000) (hb0 : bytesIn l0) (hk : rd1 ((l0, false) : RS) = 5) (e1 : rdN 1 ((l0, false) : RS) = s1) (hls : rd8 s1 = ls) (e2 : rdN 8 s1 = s2) (hep : rd4 s2 = ep) (e3 : rdN 4 s2 = s3) (ho : rd4 s3 = o) (e4 : rdN 4 s3 = s4) (hco : rd1 s4 = co) (e5 : rdN 1 s4 = s5) (hd : (doneI s5 != 0) = false) (hok : entryOk 5 ls ep o 0 false 0 co 0 0 0 = true) : Calls Try.prog 21 #[.slice A l0.length c] w fun e w' => ∃ v9_ v10_ : Value, e = .returned (.tuple #[.agg #[.int .i64 5, .int .u64 ls, .int .u32 ep, .int .u32 o, .int .i64 0, .bool false, .int .i64 0, .int .i64 co, .int .u64 0, v9_, v10_], .int .i64 0]) ∧ Kd.R (Kd.int .u8) 5 w' w.heap.size (fun k_ => some k_ ≠ (v10_ : Value).ownBlock) v9_ ([] : List Int) ∧ Kd.R (Kd.int .u8) 5 w' w.heap.size (fun k_ => some k_ ≠ (v9_ : Value).ownBlock) v10_ ([] : List Int) ∧ Below w.heap.size w w' := by
  have f_co : wrap64 co = co := by have := rd1_range s4; rw [hco] at this; unfold wrap64; omega
  have f2_co : IntKind.i64.wrap co = co := (i64_w co).trans f_co
  have Hk := Aside0.mk hk
  have E1 := Aside0.mk e1
  clear hk e1
  have Hls := Aside0.mk hls
  have E2 := Aside0.mk e2
  clear hls e2
  have Hep := Aside0.mk hep
  have E3 := Aside0.mk e3
  clear hep e3
  have Ho := Aside0.mk ho
  have E4 := Aside0.mk e4
  clear ho e4
  have Hco := Aside0.mk hco
  have E5 := Aside0.mk e5
  clear hco e5
  have GR := Aside0.mk hr
  have GL := Aside0.mk hl
  have GY := Aside0.mk hb0
  clear hr hl hb0
  have HOK := Aside0.mk hok
  clear hok
  go_enter Try.func21, Try.ntmps21
  go_wp2_with (first | (go_at_call 40; (with_reducible refine (fieldNewR.calls A c l0 w _ (Kd.C_alloc GR.out _) GL.out (below_alloc (Below.refl _ _) _)).mono ?_); rintro e w1 ⟨g, rfl, hRD, hB, hB2, hg⟩; have HR := Aside0.mk (show RDB w w1 g ((l0, false) : RS) from ⟨hRD, GL.out, GY.out⟩); have BR := Aside0.mk (blk_below (heap_last _ _) hB2); have HG := Aside0.mk (show w.heap.size ≠ g by simp at hg; omega); have HB := Aside0.mk hB; clear hRD hB hB2 hg) | (go_at_call 41; (with_reducible refine (field_R8 g ((l0, false) : RS) w _ (HR.out) (HB.out)).mono ?_); rintro e w2 ⟨rfl, hR, hBB, hO⟩; rw [Hk.out]; rw [E1.out] at hR; have n_BR := Aside0.mk (OB.keep hO (BR.out) HG.out); have n_HR := Aside0.mk hR; have n_HB := Aside0.mk hBB; clear hR hBB hO HR HB BR; have HR := n_HR; have HB := n_HB; have BR := n_BR; clear n_HR n_HB n_BR) | (go_at_call 42; (with_reducible refine (field_R64 g s1 w _ (HR.out) (HB.out)).mono ?_); rintro e w3 ⟨rfl, hR, hBB, hO⟩; rw [Hls.out]; rw [E2.out] at hR; have n_BR := Aside0.mk (OB.keep hO (BR.out) HG.out); have n_HR := Aside0.mk hR; have n_HB := Aside0.mk hBB; clear hR hBB hO HR HB BR; have HR := n_HR; have HB := n_HB; have BR := n_BR; clear n_HR n_HB n_BR) | (go_at_call 43; (with_reducible refine (field_R32 g s2 w _ (RDB.alloc HR.out _) (below_alloc HB.out _)).mono ?_); rintro e w4 ⟨rfl, hR, hBB, hO⟩; rw [Hep.out]; rw [E3.out] at hR; have n_BR := Aside0.mk (OB.keep hO (bd3 _ BR.out) HG.out); have HE := Aside0.mk (show w3.heap.size ≠ g by have := RDB.lt HR.out; omega); have HGE := Aside0.mk (show w.heap.size ≤ w3.heap.size from HB.out.size); have HRE := Aside0.mk (show w.heap.size ≠ w3.heap.size by have := blk_lt BR.out; omega); have n_BE := Aside0.mk (OB.keep hO (heap_last _ (.cells #[.int .i64 5, .int .u64 ls, .int .u32 0, .int .u32 0, .int .i64 0, .bool false, .int .i64 0, .int .i64 0, .int .u64 0, .slice none 0 0, .slice none 0 0] 26 (0, 0))) HE.out); have n_HR := Aside0.mk hR; have n_HB := Aside0.mk hBB; clear hR hBB hO HR HB BR; have HR := n_HR; have HB := n_HB; have BR := n_BR; clear n_HR n_HB n_BR; have BE := n_BE; clear n_BE; obtain ⟨q0, q1, q2, q3, q4, q5, q6, q7, q8, q9, q10, qf, ql⟩ := entry_all BE.out; obtain ⟨z0, z1, z2, z3, z4, z5, z6, z7, z8, z9, z10, zf, zl⟩ := entry_all BR.out; have hre := HRE.out) | (go_at_call 43; (with_reducible refine (field_R32 g s3 w _ (RDB.set (i := 2) (HR.out) (BE.out) (.int .u32 ep)) (below_set (HB.out) HGE.out)).mono ?_); rintro e w5 ⟨rfl, hR, hBB, hO⟩; rw [Ho.out]; rw [E4.out] at hR; have n_BR := Aside0.mk (OB.keep hO (blk_far (p := ⟨w3.heap.size, 2, none⟩) (BR.out) HRE.out (.int .u32 ep)) HG.out); have n_BE := Aside0.mk (OB.keep hO (blk_put (cs' := #[.int .i64 5, .int .u64 ls, .int .u32 ep, .int .u32 0, .int .i64 0, .bool false, .int .i64 0, .int .i64 0, .int .u64 0, .slice none 0 0, .slice none 0 0]) (BE.out) 2 (.int .u32 ep) rfl) HE.out); have n_HR := Aside0.mk hR; have n_HB := Aside0.mk hBB; clear hR hBB hO HR HB BR BE; have HR := n_HR; have HB := n_HB; have BR := n_BR; clear n_HR n_HB n_BR; have BE := n_BE; clear n_BE; clear q0 q1 q2 q3 q4 q5 q6 q7 q8 q9 q10 qf ql z0 z1 z2 z3 z4 z5 z6 z7 z8 z9 z10 zf zl; obtain ⟨q0, q1, q2, q3, q4, q5, q6, q7, q8, q9, q10, qf, ql⟩ := entry_all BE.out; obtain ⟨z0, z1, z2, z3, z4, z5, z6, z7, z8, z9, z10, zf, zl⟩ := entry_all BR.out) | (go_at_call 41; (with_reducible refine (field_R8 g s4 w _ (RDB.set (i := 3) (HR.out) (BE.out) (.int .u32 o)) (below_set (HB.out) HGE.out)).mono ?_); rintro e w6 ⟨rfl, hR, hBB, hO⟩; rw [Hco.out]; rw [E5.out] at hR; have n_BR := Aside0.mk (OB.keep hO (blk_far (p := ⟨w3.heap.size, 3, none⟩) (BR.out) HRE.out (.int .u32 o)) HG.out); have n_BE := Aside0.mk (OB.keep hO (blk_put (cs' := #[.int .i64 5, .int .u64 ls, .int .u32 ep, .int .u32 o, .int .i64 0, .bool false, .int .i64 0, .int .i64 0, .int .u64 0, .slice none 0 0, .slice none 0 0]) (BE.out) 3 (.int .u32 o) rfl) HE.out); have n_HR := Aside0.mk hR; have n_HB := Aside0.mk hBB; clear hR hBB hO HR HB BR BE; have HR := n_HR; have HB := n_HB; have BR := n_BR; clear n_HR n_HB n_BR; have BE := n_BE; clear n_BE; clear q0 q1 q2 q3 q4 q5 q6 q7 q8 q9 q10 qf ql z0 z1 z2 z3 z4 z5 z6 z7 z8 z9 z10 zf zl; obtain ⟨q0, q1, q2, q3, q4, q5, q6, q7, q8, q9, q10, qf, ql⟩ := entry_all BE.out; obtain ⟨z0, z1, z2, z3, z4, z5, z6, z7, z8, z9, z10, zf, zl⟩ := entry_all BR.out) | (go_at_call 45; (with_reducible refine (field_RD g s5 w _ (RDB.set (i := 7) (HR.out) (BE.out) (.int .i64 co))).mono ?_); rintro e wd ⟨rfl, ⟨nd, rfl⟩⟩) | (go_at_call 15; (with_reducible refine (check_any 5 ls ep o 0 false 0 co 0 none 0 0 none 0 0 _).mono ?_); rintro e wc ⟨rfl, hb⟩; rw [HOK.out, ansE]; have n_BE := Aside0.mk (blk_below (bd1 nd (blk_put (cs' := #[.int .i64 5, .int .u64 ls, .int .u32 ep, .int .u32 o, .int .i64 0, .bool false, .int .i64 0, .int .i64 co, .int .u64 0, .slice none 0 0, .slice none 0 0]) (BE.out) 7 (.int .i64 co) rfl)) hb); have n_BR := Aside0.mk (blk_below (bd1 nd (blk_far (p := ⟨w3.heap.size, 7, none⟩) (BR.out) HRE.out (.int .i64 co))) hb); have n_HB := Aside0.mk (below_step (pw_below_drewN (below_set (HB.out) HGE.out) nd) hb); clear hb BE BR HB HR q0 q1 q2 q3 q4 q5 q6 q7 q8 q9 q10 qf ql z0 z1 z2 z3 z4 z5 z6 z7 z8 z9 z10 zf zl; have BE := n_BE; have BR := n_BR; have HB := n_HB; clear n_BE n_BR n_HB; obtain ⟨q0, q1, q2, q3, q4, q5, q6, q7, q8, q9, q10, qf, ql⟩ := entry_all BE.out; obtain ⟨z0, z1, z2, z3, z4, z5, z6, z7, z8, z9, z10, zf, zl⟩ := entry_all BR.out))
  refine bodyPost_ret ?_ rfl ⟨.slice none 0 0, .slice none 0 0, rfl, Kd.R_nil _ _ _ _ _, Kd.R_nil _ _ _ _ _, ?_⟩
  · obtain ⟨Wf, eW, h1, h2⟩ := entry_put (.int .i64 5) (.int .u64 ls) (.int .u32 ep) (.int .u32 o) (.int .i64 0) (.bool false) (.int .i64 0) (.int .i64 co) (.int .u64 0) (.slice none 0 0) (.slice none 0 0) BR.out
    rw [← eW]
    obtain ⟨c0, c1, c2, c3, c4, c5, c6, c7, c8, c9, c10, cf, cl⟩ := entry_all h1
    clear eW h2 h1 cf cl
    simp [results, Try.results21, go_sem, c0, c1, c2, c3, c4, c5, c6, c7, c8, c9, c10]
  · iterate 11 refine below_set ?_ (Nat.le_refl _)
    exact HB.out
set_option maxHeartbeats 8000000 in
set_option maxRecDepth 100000 in
theorem get_6_done (A : Option Addr) (c : Nat) (l0 : List Int) (ls ep co : Int) (s1 s2 s3 s4 : RS) (w : World) (hr : Kd.C (Kd.int .u8) w A l0.length l0) (hl : l0.length ≤ 1000000) (hb0 : bytesIn l0) (hk : rd1 ((l0, false) : RS) = 6) (e1 : rdN 1 ((l0, false) : RS) = s1) (hls : rd8 s1 = ls) (e2 : rdN 8 s1 = s2) (hep : rd4 s2 = ep) (e3 : rdN 4 s2 = s3) (hco : rd1 s3 = co) (e4 : rdN 1 s3 = s4) (hd : (doneI s4 != 0) = true) : Calls Try.prog 21 #[.slice A l0.length c] w fun e w' => ∃ v9_ v10_ : Value, e = .returned (.tuple #[.agg #[.int .i64 0, .int .u64 0, .int .u32 0, .int .u32 0, .int .i64 0, .bool false, .int .i64 0, .int .i64 0, .int .u64 0, v9_, v10_], .int .i64 40]) ∧ Kd.R (Kd.int .u8) 5 w' w.heap.size (fun k_ => some k_ ≠ (v10_ : Value).ownBlock) v9_ ([] : List Int) ∧ Kd.R (Kd.int .u8) 5 w' w.heap.size (fun k_ => some k_ ≠ (v9_ : Value).ownBlock) v10_ ([] : List Int) ∧ Below w.heap.size w w' := by
  have f_co : wrap64 co = co := by have := rd1_range s3; rw [hco] at this; unfold wrap64; omega
  have f2_co : IntKind.i64.wrap co = co := (i64_w co).trans f_co
  have Hk := Aside0.mk hk
  have E1 := Aside0.mk e1
  clear hk e1
  have Hls := Aside0.mk hls
  have E2 := Aside0.mk e2
  clear hls e2
  have Hep := Aside0.mk hep
  have E3 := Aside0.mk e3
  clear hep e3
  have Hco := Aside0.mk hco
  have E4 := Aside0.mk e4
  clear hco e4
  have GR := Aside0.mk hr
  have GL := Aside0.mk hl
  have GY := Aside0.mk hb0
  clear hr hl hb0
  go_enter Try.func21, Try.ntmps21
  go_wp2_with (first | (go_at_call 40; (with_reducible refine (fieldNewR.calls A c l0 w _ (Kd.C_alloc GR.out _) GL.out (below_alloc (Below.refl _ _) _)).mono ?_); rintro e w1 ⟨g, rfl, hRD, hB, hB2, hg⟩; have HR := Aside0.mk (show RDB w w1 g ((l0, false) : RS) from ⟨hRD, GL.out, GY.out⟩); have BR := Aside0.mk (blk_below (heap_last _ _) hB2); have HG := Aside0.mk (show w.heap.size ≠ g by simp at hg; omega); have HB := Aside0.mk hB; clear hRD hB hB2 hg) | (go_at_call 41; (with_reducible refine (field_R8 g ((l0, false) : RS) w _ (HR.out) (HB.out)).mono ?_); rintro e w2 ⟨rfl, hR, hBB, hO⟩; rw [Hk.out]; rw [E1.out] at hR; have n_BR := Aside0.mk (OB.keep hO (BR.out) HG.out); have n_HR := Aside0.mk hR; have n_HB := Aside0.mk hBB; clear hR hBB hO HR HB BR; have HR := n_HR; have HB := n_HB; have BR := n_BR; clear n_HR n_HB n_BR) | (go_at_call 42; (with_reducible refine (field_R64 g s1 w _ (HR.out) (HB.out)).mono ?_); rintro e w3 ⟨rfl, hR, hBB, hO⟩; rw [Hls.out]; rw [E2.out] at hR; have n_BR := Aside0.mk (OB.keep hO (BR.out) HG.out); have n_HR := Aside0.mk hR; have n_HB := Aside0.mk hBB; clear hR hBB hO HR HB BR; have HR := n_HR; have HB := n_HB; have BR := n_BR; clear n_HR n_HB n_BR) | (go_at_call 43; (with_reducible refine (field_R32 g s2 w _ (RDB.alloc HR.out _) (below_alloc HB.out _)).mono ?_); rintro e w4 ⟨rfl, hR, hBB, hO⟩; rw [Hep.out]; rw [E3.out] at hR; have n_BR := Aside0.mk (OB.keep hO (bd3 _ BR.out) HG.out); have HE := Aside0.mk (show w3.heap.size ≠ g by have := RDB.lt HR.out; omega); have HGE := Aside0.mk (show w.heap.size ≤ w3.heap.size from HB.out.size); have HRE := Aside0.mk (show w.heap.size ≠ w3.heap.size by have := blk_lt BR.out; omega); have n_BE := Aside0.mk (OB.keep hO (heap_last _ (.cells #[.int .i64 6, .int .u64 ls, .int .u32 0, .int .u32 0, .int .i64 0, .bool false, .int .i64 0, .int .i64 0, .int .u64 0, .slice none 0 0, .slice none 0 0] 26 (0, 0))) HE.out); have n_HR := Aside0.mk hR; have n_HB := Aside0.mk hBB; clear hR hBB hO HR HB BR; have HR := n_HR; have HB := n_HB; have BR := n_BR; clear n_HR n_HB n_BR; have BE := n_BE; clear n_BE; obtain ⟨q0, q1, q2, q3, q4, q5, q6, q7, q8, q9, q10, qf, ql⟩ := entry_all BE.out; obtain ⟨z0, z1, z2, z3, z4, z5, z6, z7, z8, z9, z10, zf, zl⟩ := entry_all BR.out; have hre := HRE.out) | (go_at_call 41; (with_reducible refine (field_R8 g s3 w _ (RDB.set (i := 2) (HR.out) (BE.out) (.int .u32 ep)) (below_set (HB.out) HGE.out)).mono ?_); rintro e w5 ⟨rfl, hR, hBB, hO⟩; rw [Hco.out]; rw [E4.out] at hR; have n_BR := Aside0.mk (OB.keep hO (blk_far (p := ⟨w3.heap.size, 2, none⟩) (BR.out) HRE.out (.int .u32 ep)) HG.out); have n_BE := Aside0.mk (OB.keep hO (blk_put (cs' := #[.int .i64 6, .int .u64 ls, .int .u32 ep, .int .u32 0, .int .i64 0, .bool false, .int .i64 0, .int .i64 0, .int .u64 0, .slice none 0 0, .slice none 0 0]) (BE.out) 2 (.int .u32 ep) rfl) HE.out); have n_HR := Aside0.mk hR; have n_HB := Aside0.mk hBB; clear hR hBB hO HR HB BR BE; have HR := n_HR; have HB := n_HB; have BR := n_BR; clear n_HR n_HB n_BR; have BE := n_BE; clear n_BE; clear q0 q1 q2 q3 q4 q5 q6 q7 q8 q9 q10 qf ql z0 z1 z2 z3 z4 z5 z6 z7 z8 z9 z10 zf zl; obtain ⟨q0, q1, q2, q3, q4, q5, q6, q7, q8, q9, q10, qf, ql⟩ := entry_all BE.out; obtain ⟨z0, z1, z2, z3, z4, z5, z6, z7, z8, z9, z10, zf, zl⟩ := entry_all BR.out) | (go_at_call 45; (with_reducible refine (field_RD g s4 w _ (RDB.set (i := 7) (HR.out) (BE.out) (.int .i64 co))).mono ?_); rintro e wd ⟨rfl, ⟨nd, rfl⟩⟩))
  refine bodyPost_ret ?_ rfl ⟨.slice none 0 0, .slice none 0 0, rfl, Kd.R_nil _ _ _ _ _, Kd.R_nil _ _ _ _ _, ?_⟩
  · obtain ⟨Wf, eW, h1, h2⟩ := entry_put (.int .i64 0) (.int .u64 0) (.int .u32 0) (.int .u32 0) (.int .i64 0) (.bool false) (.int .i64 0) (.int .i64 0) (.int .u64 0) (.slice none 0 0) (.slice none 0 0) (bd1 nd (blk_far (p := ⟨w3.heap.size, 7, none⟩) (BR.out) HRE.out (.int .i64 co)))
    rw [← eW]
    obtain ⟨c0, c1, c2, c3, c4, c5, c6, c7, c8, c9, c10, cf, cl⟩ := entry_all h1
    clear eW h2 h1 cf cl
    simp [results, Try.results21, go_sem, c0, c1, c2, c3, c4, c5, c6, c7, c8, c9, c10]
  · iterate 11 refine below_set ?_ (Nat.le_refl _)
    exact pw_below_drewN (below_set (HB.out) HGE.out) nd
set_option maxHeartbeats 8000000 in
set_option maxRecDepth 100000 in
theorem get_6_check (A : Option Addr) (c : Nat) (l0 : List Int) (ls ep co : Int) (s1 s2 s3 s4 : RS) (w : World) (hr : Kd.C (Kd.int .u8) w A l0.length l0) (hl : l0.length ≤ 1000000) (hb0 : bytesIn l0) (hk : rd1 ((l0, false) : RS) = 6) (e1 : rdN 1 ((l0, false) : RS) = s1) (hls : rd8 s1 = ls) (e2 : rdN 8 s1 = s2) (hep : rd4 s2 = ep) (e3 : rdN 4 s2 = s3) (hco : rd1 s3 = co) (e4 : rdN 1 s3 = s4) (hd : (doneI s4 != 0) = false) (hok : entryOk 6 ls ep 0 0 false 0 co 0 0 0 = false) : Calls Try.prog 21 #[.slice A l0.length c] w fun e w' => ∃ v9_ v10_ : Value, e = .returned (.tuple #[.agg #[.int .i64 0, .int .u64 0, .int .u32 0, .int .u32 0, .int .i64 0, .bool false, .int .i64 0, .int .i64 0, .int .u64 0, v9_, v10_], .int .i64 40]) ∧ Kd.R (Kd.int .u8) 5 w' w.heap.size (fun k_ => some k_ ≠ (v10_ : Value).ownBlock) v9_ ([] : List Int) ∧ Kd.R (Kd.int .u8) 5 w' w.heap.size (fun k_ => some k_ ≠ (v9_ : Value).ownBlock) v10_ ([] : List Int) ∧ Below w.heap.size w w' := by
  have f_co : wrap64 co = co := by have := rd1_range s3; rw [hco] at this; unfold wrap64; omega
  have f2_co : IntKind.i64.wrap co = co := (i64_w co).trans f_co
  have Hk := Aside0.mk hk
  have E1 := Aside0.mk e1
  clear hk e1
  have Hls := Aside0.mk hls
  have E2 := Aside0.mk e2
  clear hls e2
  have Hep := Aside0.mk hep
  have E3 := Aside0.mk e3
  clear hep e3
  have Hco := Aside0.mk hco
  have E4 := Aside0.mk e4
  clear hco e4
  have GR := Aside0.mk hr
  have GL := Aside0.mk hl
  have GY := Aside0.mk hb0
  clear hr hl hb0
  have HOK := Aside0.mk hok
  clear hok
  go_enter Try.func21, Try.ntmps21
  go_wp2_with (first | (go_at_call 40; (with_reducible refine (fieldNewR.calls A c l0 w _ (Kd.C_alloc GR.out _) GL.out (below_alloc (Below.refl _ _) _)).mono ?_); rintro e w1 ⟨g, rfl, hRD, hB, hB2, hg⟩; have HR := Aside0.mk (show RDB w w1 g ((l0, false) : RS) from ⟨hRD, GL.out, GY.out⟩); have BR := Aside0.mk (blk_below (heap_last _ _) hB2); have HG := Aside0.mk (show w.heap.size ≠ g by simp at hg; omega); have HB := Aside0.mk hB; clear hRD hB hB2 hg) | (go_at_call 41; (with_reducible refine (field_R8 g ((l0, false) : RS) w _ (HR.out) (HB.out)).mono ?_); rintro e w2 ⟨rfl, hR, hBB, hO⟩; rw [Hk.out]; rw [E1.out] at hR; have n_BR := Aside0.mk (OB.keep hO (BR.out) HG.out); have n_HR := Aside0.mk hR; have n_HB := Aside0.mk hBB; clear hR hBB hO HR HB BR; have HR := n_HR; have HB := n_HB; have BR := n_BR; clear n_HR n_HB n_BR) | (go_at_call 42; (with_reducible refine (field_R64 g s1 w _ (HR.out) (HB.out)).mono ?_); rintro e w3 ⟨rfl, hR, hBB, hO⟩; rw [Hls.out]; rw [E2.out] at hR; have n_BR := Aside0.mk (OB.keep hO (BR.out) HG.out); have n_HR := Aside0.mk hR; have n_HB := Aside0.mk hBB; clear hR hBB hO HR HB BR; have HR := n_HR; have HB := n_HB; have BR := n_BR; clear n_HR n_HB n_BR) | (go_at_call 43; (with_reducible refine (field_R32 g s2 w _ (RDB.alloc HR.out _) (below_alloc HB.out _)).mono ?_); rintro e w4 ⟨rfl, hR, hBB, hO⟩; rw [Hep.out]; rw [E3.out] at hR; have n_BR := Aside0.mk (OB.keep hO (bd3 _ BR.out) HG.out); have HE := Aside0.mk (show w3.heap.size ≠ g by have := RDB.lt HR.out; omega); have HGE := Aside0.mk (show w.heap.size ≤ w3.heap.size from HB.out.size); have HRE := Aside0.mk (show w.heap.size ≠ w3.heap.size by have := blk_lt BR.out; omega); have n_BE := Aside0.mk (OB.keep hO (heap_last _ (.cells #[.int .i64 6, .int .u64 ls, .int .u32 0, .int .u32 0, .int .i64 0, .bool false, .int .i64 0, .int .i64 0, .int .u64 0, .slice none 0 0, .slice none 0 0] 26 (0, 0))) HE.out); have n_HR := Aside0.mk hR; have n_HB := Aside0.mk hBB; clear hR hBB hO HR HB BR; have HR := n_HR; have HB := n_HB; have BR := n_BR; clear n_HR n_HB n_BR; have BE := n_BE; clear n_BE; obtain ⟨q0, q1, q2, q3, q4, q5, q6, q7, q8, q9, q10, qf, ql⟩ := entry_all BE.out; obtain ⟨z0, z1, z2, z3, z4, z5, z6, z7, z8, z9, z10, zf, zl⟩ := entry_all BR.out; have hre := HRE.out) | (go_at_call 41; (with_reducible refine (field_R8 g s3 w _ (RDB.set (i := 2) (HR.out) (BE.out) (.int .u32 ep)) (below_set (HB.out) HGE.out)).mono ?_); rintro e w5 ⟨rfl, hR, hBB, hO⟩; rw [Hco.out]; rw [E4.out] at hR; have n_BR := Aside0.mk (OB.keep hO (blk_far (p := ⟨w3.heap.size, 2, none⟩) (BR.out) HRE.out (.int .u32 ep)) HG.out); have n_BE := Aside0.mk (OB.keep hO (blk_put (cs' := #[.int .i64 6, .int .u64 ls, .int .u32 ep, .int .u32 0, .int .i64 0, .bool false, .int .i64 0, .int .i64 0, .int .u64 0, .slice none 0 0, .slice none 0 0]) (BE.out) 2 (.int .u32 ep) rfl) HE.out); have n_HR := Aside0.mk hR; have n_HB := Aside0.mk hBB; clear hR hBB hO HR HB BR BE; have HR := n_HR; have HB := n_HB; have BR := n_BR; clear n_HR n_HB n_BR; have BE := n_BE; clear n_BE; clear q0 q1 q2 q3 q4 q5 q6 q7 q8 q9 q10 qf ql z0 z1 z2 z3 z4 z5 z6 z7 z8 z9 z10 zf zl; obtain ⟨q0, q1, q2, q3, q4, q5, q6, q7, q8, q9, q10, qf, ql⟩ := entry_all BE.out; obtain ⟨z0, z1, z2, z3, z4, z5, z6, z7, z8, z9, z10, zf, zl⟩ := entry_all BR.out) | (go_at_call 45; (with_reducible refine (field_RD g s4 w _ (RDB.set (i := 7) (HR.out) (BE.out) (.int .i64 co))).mono ?_); rintro e wd ⟨rfl, ⟨nd, rfl⟩⟩) | (go_at_call 15; (with_reducible refine (check_any 6 ls ep 0 0 false 0 co 0 none 0 0 none 0 0 _).mono ?_); rintro e wc ⟨rfl, hb⟩; rw [HOK.out, ansE]; have n_BE := Aside0.mk (blk_below (bd1 nd (blk_put (cs' := #[.int .i64 6, .int .u64 ls, .int .u32 ep, .int .u32 0, .int .i64 0, .bool false, .int .i64 0, .int .i64 co, .int .u64 0, .slice none 0 0, .slice none 0 0]) (BE.out) 7 (.int .i64 co) rfl)) hb); have n_BR := Aside0.mk (blk_below (bd1 nd (blk_far (p := ⟨w3.heap.size, 7, none⟩) (BR.out) HRE.out (.int .i64 co))) hb); have n_HB := Aside0.mk (below_step (pw_below_drewN (below_set (HB.out) HGE.out) nd) hb); clear hb BE BR HB HR q0 q1 q2 q3 q4 q5 q6 q7 q8 q9 q10 qf ql z0 z1 z2 z3 z4 z5 z6 z7 z8 z9 z10 zf zl; have BE := n_BE; have BR := n_BR; have HB := n_HB; clear n_BE n_BR n_HB; obtain ⟨q0, q1, q2, q3, q4, q5, q6, q7, q8, q9, q10, qf, ql⟩ := entry_all BE.out; obtain ⟨z0, z1, z2, z3, z4, z5, z6, z7, z8, z9, z10, zf, zl⟩ := entry_all BR.out))
  refine bodyPost_ret ?_ rfl ⟨.slice none 0 0, .slice none 0 0, rfl, Kd.R_nil _ _ _ _ _, Kd.R_nil _ _ _ _ _, ?_⟩
  · obtain ⟨Wf, eW, h1, h2⟩ := entry_put (.int .i64 0) (.int .u64 0) (.int .u32 0) (.int .u32 0) (.int .i64 0) (.bool false) (.int .i64 0) (.int .i64 0) (.int .u64 0) (.slice none 0 0) (.slice none 0 0) BR.out
    rw [← eW]
    obtain ⟨c0, c1, c2, c3, c4, c5, c6, c7, c8, c9, c10, cf, cl⟩ := entry_all h1
    clear eW h2 h1 cf cl
    simp [results, Try.results21, go_sem, c0, c1, c2, c3, c4, c5, c6, c7, c8, c9, c10]
  · iterate 11 refine below_set ?_ (Nat.le_refl _)
    exact HB.out
set_option maxHeartbeats 8000000 in
set_option maxRecDepth 100000 in
theorem get_6_ok (A : Option Addr) (c : Nat) (l0 : List Int) (ls ep co : Int) (s1 s2 s3 s4 : RS) (w : World) (hr : Kd.C (Kd.int .u8) w A l0.length l0) (hl : l0.length ≤ 1000000) (hb0 : bytesIn l0) (hk : rd1 ((l0, false) : RS) = 6) (e1 : rdN 1 ((l0, false) : RS) = s1) (hls : rd8 s1 = ls) (e2 : rdN 8 s1 = s2) (hep : rd4 s2 = ep) (e3 : rdN 4 s2 = s3) (hco : rd1 s3 = co) (e4 : rdN 1 s3 = s4) (hd : (doneI s4 != 0) = false) (hok : entryOk 6 ls ep 0 0 false 0 co 0 0 0 = true) : Calls Try.prog 21 #[.slice A l0.length c] w fun e w' => ∃ v9_ v10_ : Value, e = .returned (.tuple #[.agg #[.int .i64 6, .int .u64 ls, .int .u32 ep, .int .u32 0, .int .i64 0, .bool false, .int .i64 0, .int .i64 co, .int .u64 0, v9_, v10_], .int .i64 0]) ∧ Kd.R (Kd.int .u8) 5 w' w.heap.size (fun k_ => some k_ ≠ (v10_ : Value).ownBlock) v9_ ([] : List Int) ∧ Kd.R (Kd.int .u8) 5 w' w.heap.size (fun k_ => some k_ ≠ (v9_ : Value).ownBlock) v10_ ([] : List Int) ∧ Below w.heap.size w w' := by
  have f_co : wrap64 co = co := by have := rd1_range s3; rw [hco] at this; unfold wrap64; omega
  have f2_co : IntKind.i64.wrap co = co := (i64_w co).trans f_co
  have Hk := Aside0.mk hk
  have E1 := Aside0.mk e1
  clear hk e1
  have Hls := Aside0.mk hls
  have E2 := Aside0.mk e2
  clear hls e2
  have Hep := Aside0.mk hep
  have E3 := Aside0.mk e3
  clear hep e3
  have Hco := Aside0.mk hco
  have E4 := Aside0.mk e4
  clear hco e4
  have GR := Aside0.mk hr
  have GL := Aside0.mk hl
  have GY := Aside0.mk hb0
  clear hr hl hb0
  have HOK := Aside0.mk hok
  clear hok
  go_enter Try.func21, Try.ntmps21
  go_wp2_with (first | (go_at_call 40; (with_reducible refine (fieldNewR.calls A c l0 w _ (Kd.C_alloc GR.out _) GL.out (below_alloc (Below.refl _ _) _)).mono ?_); rintro e w1 ⟨g, rfl, hRD, hB, hB2, hg⟩; have HR := Aside0.mk (show RDB w w1 g ((l0, false) : RS) from ⟨hRD, GL.out, GY.out⟩); have BR := Aside0.mk (blk_below (heap_last _ _) hB2); have HG := Aside0.mk (show w.heap.size ≠ g by simp at hg; omega); have HB := Aside0.mk hB; clear hRD hB hB2 hg) | (go_at_call 41; (with_reducible refine (field_R8 g ((l0, false) : RS) w _ (HR.out) (HB.out)).mono ?_); rintro e w2 ⟨rfl, hR, hBB, hO⟩; rw [Hk.out]; rw [E1.out] at hR; have n_BR := Aside0.mk (OB.keep hO (BR.out) HG.out); have n_HR := Aside0.mk hR; have n_HB := Aside0.mk hBB; clear hR hBB hO HR HB BR; have HR := n_HR; have HB := n_HB; have BR := n_BR; clear n_HR n_HB n_BR) | (go_at_call 42; (with_reducible refine (field_R64 g s1 w _ (HR.out) (HB.out)).mono ?_); rintro e w3 ⟨rfl, hR, hBB, hO⟩; rw [Hls.out]; rw [E2.out] at hR; have n_BR := Aside0.mk (OB.keep hO (BR.out) HG.out); have n_HR := Aside0.mk hR; have n_HB := Aside0.mk hBB; clear hR hBB hO HR HB BR; have HR := n_HR; have HB := n_HB; have BR := n_BR; clear n_HR n_HB n_BR) | (go_at_call 43; (with_reducible refine (field_R32 g s2 w _ (RDB.alloc HR.out _) (below_alloc HB.out _)).mono ?_); rintro e w4 ⟨rfl, hR, hBB, hO⟩; rw [Hep.out]; rw [E3.out] at hR; have n_BR := Aside0.mk (OB.keep hO (bd3 _ BR.out) HG.out); have HE := Aside0.mk (show w3.heap.size ≠ g by have := RDB.lt HR.out; omega); have HGE := Aside0.mk (show w.heap.size ≤ w3.heap.size from HB.out.size); have HRE := Aside0.mk (show w.heap.size ≠ w3.heap.size by have := blk_lt BR.out; omega); have n_BE := Aside0.mk (OB.keep hO (heap_last _ (.cells #[.int .i64 6, .int .u64 ls, .int .u32 0, .int .u32 0, .int .i64 0, .bool false, .int .i64 0, .int .i64 0, .int .u64 0, .slice none 0 0, .slice none 0 0] 26 (0, 0))) HE.out); have n_HR := Aside0.mk hR; have n_HB := Aside0.mk hBB; clear hR hBB hO HR HB BR; have HR := n_HR; have HB := n_HB; have BR := n_BR; clear n_HR n_HB n_BR; have BE := n_BE; clear n_BE; obtain ⟨q0, q1, q2, q3, q4, q5, q6, q7, q8, q9, q10, qf, ql⟩ := entry_all BE.out; obtain ⟨z0, z1, z2, z3, z4, z5, z6, z7, z8, z9, z10, zf, zl⟩ := entry_all BR.out; have hre := HRE.out) | (go_at_call 41; (with_reducible refine (field_R8 g s3 w _ (RDB.set (i := 2) (HR.out) (BE.out) (.int .u32 ep)) (below_set (HB.out) HGE.out)).mono ?_); rintro e w5 ⟨rfl, hR, hBB, hO⟩; rw [Hco.out]; rw [E4.out] at hR; have n_BR := Aside0.mk (OB.keep hO (blk_far (p := ⟨w3.heap.size, 2, none⟩) (BR.out) HRE.out (.int .u32 ep)) HG.out); have n_BE := Aside0.mk (OB.keep hO (blk_put (cs' := #[.int .i64 6, .int .u64 ls, .int .u32 ep, .int .u32 0, .int .i64 0, .bool false, .int .i64 0, .int .i64 0, .int .u64 0, .slice none 0 0, .slice none 0 0]) (BE.out) 2 (.int .u32 ep) rfl) HE.out); have n_HR := Aside0.mk hR; have n_HB := Aside0.mk hBB; clear hR hBB hO HR HB BR BE; have HR := n_HR; have HB := n_HB; have BR := n_BR; clear n_HR n_HB n_BR; have BE := n_BE; clear n_BE; clear q0 q1 q2 q3 q4 q5 q6 q7 q8 q9 q10 qf ql z0 z1 z2 z3 z4 z5 z6 z7 z8 z9 z10 zf zl; obtain ⟨q0, q1, q2, q3, q4, q5, q6, q7, q8, q9, q10, qf, ql⟩ := entry_all BE.out; obtain ⟨z0, z1, z2, z3, z4, z5, z6, z7, z8, z9, z10, zf, zl⟩ := entry_all BR.out) | (go_at_call 45; (with_reducible refine (field_RD g s4 w _ (RDB.set (i := 7) (HR.out) (BE.out) (.int .i64 co))).mono ?_); rintro e wd ⟨rfl, ⟨nd, rfl⟩⟩) | (go_at_call 15; (with_reducible refine (check_any 6 ls ep 0 0 false 0 co 0 none 0 0 none 0 0 _).mono ?_); rintro e wc ⟨rfl, hb⟩; rw [HOK.out, ansE]; have n_BE := Aside0.mk (blk_below (bd1 nd (blk_put (cs' := #[.int .i64 6, .int .u64 ls, .int .u32 ep, .int .u32 0, .int .i64 0, .bool false, .int .i64 0, .int .i64 co, .int .u64 0, .slice none 0 0, .slice none 0 0]) (BE.out) 7 (.int .i64 co) rfl)) hb); have n_BR := Aside0.mk (blk_below (bd1 nd (blk_far (p := ⟨w3.heap.size, 7, none⟩) (BR.out) HRE.out (.int .i64 co))) hb); have n_HB := Aside0.mk (below_step (pw_below_drewN (below_set (HB.out) HGE.out) nd) hb); clear hb BE BR HB HR q0 q1 q2 q3 q4 q5 q6 q7 q8 q9 q10 qf ql z0 z1 z2 z3 z4 z5 z6 z7 z8 z9 z10 zf zl; have BE := n_BE; have BR := n_BR; have HB := n_HB; clear n_BE n_BR n_HB; obtain ⟨q0, q1, q2, q3, q4, q5, q6, q7, q8, q9, q10, qf, ql⟩ := entry_all BE.out; obtain ⟨z0, z1, z2, z3, z4, z5, z6, z7, z8, z9, z10, zf, zl⟩ := entry_all BR.out))
  refine bodyPost_ret ?_ rfl ⟨.slice none 0 0, .slice none 0 0, rfl, Kd.R_nil _ _ _ _ _, Kd.R_nil _ _ _ _ _, ?_⟩
  · obtain ⟨Wf, eW, h1, h2⟩ := entry_put (.int .i64 6) (.int .u64 ls) (.int .u32 ep) (.int .u32 0) (.int .i64 0) (.bool false) (.int .i64 0) (.int .i64 co) (.int .u64 0) (.slice none 0 0) (.slice none 0 0) BR.out
    rw [← eW]
    obtain ⟨c0, c1, c2, c3, c4, c5, c6, c7, c8, c9, c10, cf, cl⟩ := entry_all h1
    clear eW h2 h1 cf cl
    simp [results, Try.results21, go_sem, c0, c1, c2, c3, c4, c5, c6, c7, c8, c9, c10]
  · iterate 11 refine below_set ?_ (Nat.le_refl _)
    exact HB.out
set_option maxHeartbeats 8000000 in
set_option maxRecDepth 100000 in
theorem get_7_done (A : Option Addr) (c : Nat) (l0 : List Int) (ls ep mk : Int) (s1 s2 s3 s4 : RS) (w : World) (hr : Kd.C (Kd.int .u8) w A l0.length l0) (hl : l0.length ≤ 1000000) (hb0 : bytesIn l0) (hk : rd1 ((l0, false) : RS) = 7) (e1 : rdN 1 ((l0, false) : RS) = s1) (hls : rd8 s1 = ls) (e2 : rdN 8 s1 = s2) (hep : rd4 s2 = ep) (e3 : rdN 4 s2 = s3) (hmk : rd8 s3 = mk) (e4 : rdN 8 s3 = s4) (hd : (doneI s4 != 0) = true) : Calls Try.prog 21 #[.slice A l0.length c] w fun e w' => ∃ v9_ v10_ : Value, e = .returned (.tuple #[.agg #[.int .i64 0, .int .u64 0, .int .u32 0, .int .u32 0, .int .i64 0, .bool false, .int .i64 0, .int .i64 0, .int .u64 0, v9_, v10_], .int .i64 40]) ∧ Kd.R (Kd.int .u8) 5 w' w.heap.size (fun k_ => some k_ ≠ (v10_ : Value).ownBlock) v9_ ([] : List Int) ∧ Kd.R (Kd.int .u8) 5 w' w.heap.size (fun k_ => some k_ ≠ (v9_ : Value).ownBlock) v10_ ([] : List Int) ∧ Below w.heap.size w w' := by
  have Hk := Aside0.mk hk
  have E1 := Aside0.mk e1
  clear hk e1
  have Hls := Aside0.mk hls
  have E2 := Aside0.mk e2
  clear hls e2
  have Hep := Aside0.mk hep
  have E3 := Aside0.mk e3
  clear hep e3
  have Hmk := Aside0.mk hmk
  have E4 := Aside0.mk e4
  clear hmk e4
  have GR := Aside0.mk hr
  have GL := Aside0.mk hl
  have GY := Aside0.mk hb0
  clear hr hl hb0
  go_enter Try.func21, Try.ntmps21
  go_wp2_with (first | (go_at_call 40; (with_reducible refine (fieldNewR.calls A c l0 w _ (Kd.C_alloc GR.out _) GL.out (below_alloc (Below.refl _ _) _)).mono ?_); rintro e w1 ⟨g, rfl, hRD, hB, hB2, hg⟩; have HR := Aside0.mk (show RDB w w1 g ((l0, false) : RS) from ⟨hRD, GL.out, GY.out⟩); have BR := Aside0.mk (blk_below (heap_last _ _) hB2); have HG := Aside0.mk (show w.heap.size ≠ g by simp at hg; omega); have HB := Aside0.mk hB; clear hRD hB hB2 hg) | (go_at_call 41; (with_reducible refine (field_R8 g ((l0, false) : RS) w _ (HR.out) (HB.out)).mono ?_); rintro e w2 ⟨rfl, hR, hBB, hO⟩; rw [Hk.out]; rw [E1.out] at hR; have n_BR := Aside0.mk (OB.keep hO (BR.out) HG.out); have n_HR := Aside0.mk hR; have n_HB := Aside0.mk hBB; clear hR hBB hO HR HB BR; have HR := n_HR; have HB := n_HB; have BR := n_BR; clear n_HR n_HB n_BR) | (go_at_call 42; (with_reducible refine (field_R64 g s1 w _ (HR.out) (HB.out)).mono ?_); rintro e w3 ⟨rfl, hR, hBB, hO⟩; rw [Hls.out]; rw [E2.out] at hR; have n_BR := Aside0.mk (OB.keep hO (BR.out) HG.out); have n_HR := Aside0.mk hR; have n_HB := Aside0.mk hBB; clear hR hBB hO HR HB BR; have HR := n_HR; have HB := n_HB; have BR := n_BR; clear n_HR n_HB n_BR) | (go_at_call 43; (with_reducible refine (field_R32 g s2 w _ (RDB.alloc HR.out _) (below_alloc HB.out _)).mono ?_); rintro e w4 ⟨rfl, hR, hBB, hO⟩; rw [Hep.out]; rw [E3.out] at hR; have n_BR := Aside0.mk (OB.keep hO (bd3 _ BR.out) HG.out); have HE := Aside0.mk (show w3.heap.size ≠ g by have := RDB.lt HR.out; omega); have HGE := Aside0.mk (show w.heap.size ≤ w3.heap.size from HB.out.size); have HRE := Aside0.mk (show w.heap.size ≠ w3.heap.size by have := blk_lt BR.out; omega); have n_BE := Aside0.mk (OB.keep hO (heap_last _ (.cells #[.int .i64 7, .int .u64 ls, .int .u32 0, .int .u32 0, .int .i64 0, .bool false, .int .i64 0, .int .i64 0, .int .u64 0, .slice none 0 0, .slice none 0 0] 26 (0, 0))) HE.out); have n_HR := Aside0.mk hR; have n_HB := Aside0.mk hBB; clear hR hBB hO HR HB BR; have HR := n_HR; have HB := n_HB; have BR := n_BR; clear n_HR n_HB n_BR; have BE := n_BE; clear n_BE; obtain ⟨q0, q1, q2, q3, q4, q5, q6, q7, q8, q9, q10, qf, ql⟩ := entry_all BE.out; obtain ⟨z0, z1, z2, z3, z4, z5, z6, z7, z8, z9, z10, zf, zl⟩ := entry_all BR.out; have hre := HRE.out) | (go_at_call 42; (with_reducible refine (field_R64 g s3 w _ (RDB.set (i := 2) (HR.out) (BE.out) (.int .u32 ep)) (below_set (HB.out) HGE.out)).mono ?_); rintro e w5 ⟨rfl, hR, hBB, hO⟩; rw [Hmk.out]; rw [E4.out] at hR; have n_BR := Aside0.mk (OB.keep hO (blk_far (p := ⟨w3.heap.size, 2, none⟩) (BR.out) HRE.out (.int .u32 ep)) HG.out); have n_BE := Aside0.mk (OB.keep hO (blk_put (cs' := #[.int .i64 7, .int .u64 ls, .int .u32 ep, .int .u32 0, .int .i64 0, .bool false, .int .i64 0, .int .i64 0, .int .u64 0, .slice none 0 0, .slice none 0 0]) (BE.out) 2 (.int .u32 ep) rfl) HE.out); have n_HR := Aside0.mk hR; have n_HB := Aside0.mk hBB; clear hR hBB hO HR HB BR BE; have HR := n_HR; have HB := n_HB; have BR := n_BR; clear n_HR n_HB n_BR; have BE := n_BE; clear n_BE; clear q0 q1 q2 q3 q4 q5 q6 q7 q8 q9 q10 qf ql z0 z1 z2 z3 z4 z5 z6 z7 z8 z9 z10 zf zl; obtain ⟨q0, q1, q2, q3, q4, q5, q6, q7, q8, q9, q10, qf, ql⟩ := entry_all BE.out; obtain ⟨z0, z1, z2, z3, z4, z5, z6, z7, z8, z9, z10, zf, zl⟩ := entry_all BR.out) | (go_at_call 45; (with_reducible refine (field_RD g s4 w _ (RDB.set (i := 8) (HR.out) (BE.out) (.int .u64 mk))).mono ?_); rintro e wd ⟨rfl, ⟨nd, rfl⟩⟩))
  refine bodyPost_ret ?_ rfl ⟨.slice none 0 0, .slice none 0 0, rfl, Kd.R_nil _ _ _ _ _, Kd.R_nil _ _ _ _ _, ?_⟩
  · obtain ⟨Wf, eW, h1, h2⟩ := entry_put (.int .i64 0) (.int .u64 0) (.int .u32 0) (.int .u32 0) (.int .i64 0) (.bool false) (.int .i64 0) (.int .i64 0) (.int .u64 0) (.slice none 0 0) (.slice none 0 0) (bd1 nd (blk_far (p := ⟨w3.heap.size, 8, none⟩) (BR.out) HRE.out (.int .u64 mk)))
    rw [← eW]
    obtain ⟨c0, c1, c2, c3, c4, c5, c6, c7, c8, c9, c10, cf, cl⟩ := entry_all h1
    clear eW h2 h1 cf cl
    simp [results, Try.results21, go_sem, c0, c1, c2, c3, c4, c5, c6, c7, c8, c9, c10]
  · iterate 11 refine below_set ?_ (Nat.le_refl _)
    exact pw_below_drewN (below_set (HB.out) HGE.out) nd
set_option maxHeartbeats 8000000 in
set_option maxRecDepth 100000 in
theorem get_7_check (A : Option Addr) (c : Nat) (l0 : List Int) (ls ep mk : Int) (s1 s2 s3 s4 : RS) (w : World) (hr : Kd.C (Kd.int .u8) w A l0.length l0) (hl : l0.length ≤ 1000000) (hb0 : bytesIn l0) (hk : rd1 ((l0, false) : RS) = 7) (e1 : rdN 1 ((l0, false) : RS) = s1) (hls : rd8 s1 = ls) (e2 : rdN 8 s1 = s2) (hep : rd4 s2 = ep) (e3 : rdN 4 s2 = s3) (hmk : rd8 s3 = mk) (e4 : rdN 8 s3 = s4) (hd : (doneI s4 != 0) = false) (hok : entryOk 7 ls ep 0 0 false 0 0 mk 0 0 = false) : Calls Try.prog 21 #[.slice A l0.length c] w fun e w' => ∃ v9_ v10_ : Value, e = .returned (.tuple #[.agg #[.int .i64 0, .int .u64 0, .int .u32 0, .int .u32 0, .int .i64 0, .bool false, .int .i64 0, .int .i64 0, .int .u64 0, v9_, v10_], .int .i64 40]) ∧ Kd.R (Kd.int .u8) 5 w' w.heap.size (fun k_ => some k_ ≠ (v10_ : Value).ownBlock) v9_ ([] : List Int) ∧ Kd.R (Kd.int .u8) 5 w' w.heap.size (fun k_ => some k_ ≠ (v9_ : Value).ownBlock) v10_ ([] : List Int) ∧ Below w.heap.size w w' := by
  have Hk := Aside0.mk hk
  have E1 := Aside0.mk e1
  clear hk e1
  have Hls := Aside0.mk hls
  have E2 := Aside0.mk e2
  clear hls e2
  have Hep := Aside0.mk hep
  have E3 := Aside0.mk e3
  clear hep e3
  have Hmk := Aside0.mk hmk
  have E4 := Aside0.mk e4
  clear hmk e4
  have GR := Aside0.mk hr
  have GL := Aside0.mk hl
  have GY := Aside0.mk hb0
  clear hr hl hb0
  have HOK := Aside0.mk hok
  clear hok
  go_enter Try.func21, Try.ntmps21
  go_wp2_with (first | (go_at_call 40; (with_reducible refine (fieldNewR.calls A c l0 w _ (Kd.C_alloc GR.out _) GL.out (below_alloc (Below.refl _ _) _)).mono ?_); rintro e w1 ⟨g, rfl, hRD, hB, hB2, hg⟩; have HR := Aside0.mk (show RDB w w1 g ((l0, false) : RS) from ⟨hRD, GL.out, GY.out⟩); have BR := Aside0.mk (blk_below (heap_last _ _) hB2); have HG := Aside0.mk (show w.heap.size ≠ g by simp at hg; omega); have HB := Aside0.mk hB; clear hRD hB hB2 hg) | (go_at_call 41; (with_reducible refine (field_R8 g ((l0, false) : RS) w _ (HR.out) (HB.out)).mono ?_); rintro e w2 ⟨rfl, hR, hBB, hO⟩; rw [Hk.out]; rw [E1.out] at hR; have n_BR := Aside0.mk (OB.keep hO (BR.out) HG.out); have n_HR := Aside0.mk hR; have n_HB := Aside0.mk hBB; clear hR hBB hO HR HB BR; have HR := n_HR; have HB := n_HB; have BR := n_BR; clear n_HR n_HB n_BR) | (go_at_call 42; (with_reducible refine (field_R64 g s1 w _ (HR.out) (HB.out)).mono ?_); rintro e w3 ⟨rfl, hR, hBB, hO⟩; rw [Hls.out]; rw [E2.out] at hR; have n_BR := Aside0.mk (OB.keep hO (BR.out) HG.out); have n_HR := Aside0.mk hR; have n_HB := Aside0.mk hBB; clear hR hBB hO HR HB BR; have HR := n_HR; have HB := n_HB; have BR := n_BR; clear n_HR n_HB n_BR) | (go_at_call 43; (with_reducible refine (field_R32 g s2 w _ (RDB.alloc HR.out _) (below_alloc HB.out _)).mono ?_); rintro e w4 ⟨rfl, hR, hBB, hO⟩; rw [Hep.out]; rw [E3.out] at hR; have n_BR := Aside0.mk (OB.keep hO (bd3 _ BR.out) HG.out); have HE := Aside0.mk (show w3.heap.size ≠ g by have := RDB.lt HR.out; omega); have HGE := Aside0.mk (show w.heap.size ≤ w3.heap.size from HB.out.size); have HRE := Aside0.mk (show w.heap.size ≠ w3.heap.size by have := blk_lt BR.out; omega); have n_BE := Aside0.mk (OB.keep hO (heap_last _ (.cells #[.int .i64 7, .int .u64 ls, .int .u32 0, .int .u32 0, .int .i64 0, .bool false, .int .i64 0, .int .i64 0, .int .u64 0, .slice none 0 0, .slice none 0 0] 26 (0, 0))) HE.out); have n_HR := Aside0.mk hR; have n_HB := Aside0.mk hBB; clear hR hBB hO HR HB BR; have HR := n_HR; have HB := n_HB; have BR := n_BR; clear n_HR n_HB n_BR; have BE := n_BE; clear n_BE; obtain ⟨q0, q1, q2, q3, q4, q5, q6, q7, q8, q9, q10, qf, ql⟩ := entry_all BE.out; obtain ⟨z0, z1, z2, z3, z4, z5, z6, z7, z8, z9, z10, zf, zl⟩ := entry_all BR.out; have hre := HRE.out) | (go_at_call 42; (with_reducible refine (field_R64 g s3 w _ (RDB.set (i := 2) (HR.out) (BE.out) (.int .u32 ep)) (below_set (HB.out) HGE.out)).mono ?_); rintro e w5 ⟨rfl, hR, hBB, hO⟩; rw [Hmk.out]; rw [E4.out] at hR; have n_BR := Aside0.mk (OB.keep hO (blk_far (p := ⟨w3.heap.size, 2, none⟩) (BR.out) HRE.out (.int .u32 ep)) HG.out); have n_BE := Aside0.mk (OB.keep hO (blk_put (cs' := #[.int .i64 7, .int .u64 ls, .int .u32 ep, .int .u32 0, .int .i64 0, .bool false, .int .i64 0, .int .i64 0, .int .u64 0, .slice none 0 0, .slice none 0 0]) (BE.out) 2 (.int .u32 ep) rfl) HE.out); have n_HR := Aside0.mk hR; have n_HB := Aside0.mk hBB; clear hR hBB hO HR HB BR BE; have HR := n_HR; have HB := n_HB; have BR := n_BR; clear n_HR n_HB n_BR; have BE := n_BE; clear n_BE; clear q0 q1 q2 q3 q4 q5 q6 q7 q8 q9 q10 qf ql z0 z1 z2 z3 z4 z5 z6 z7 z8 z9 z10 zf zl; obtain ⟨q0, q1, q2, q3, q4, q5, q6, q7, q8, q9, q10, qf, ql⟩ := entry_all BE.out; obtain ⟨z0, z1, z2, z3, z4, z5, z6, z7, z8, z9, z10, zf, zl⟩ := entry_all BR.out) | (go_at_call 45; (with_reducible refine (field_RD g s4 w _ (RDB.set (i := 8) (HR.out) (BE.out) (.int .u64 mk))).mono ?_); rintro e wd ⟨rfl, ⟨nd, rfl⟩⟩) | (go_at_call 15; (with_reducible refine (check_any 7 ls ep 0 0 false 0 0 mk none 0 0 none 0 0 _).mono ?_); rintro e wc ⟨rfl, hb⟩; rw [HOK.out, ansE]; have n_BE := Aside0.mk (blk_below (bd1 nd (blk_put (cs' := #[.int .i64 7, .int .u64 ls, .int .u32 ep, .int .u32 0, .int .i64 0, .bool false, .int .i64 0, .int .i64 0, .int .u64 mk, .slice none 0 0, .slice none 0 0]) (BE.out) 8 (.int .u64 mk) rfl)) hb); have n_BR := Aside0.mk (blk_below (bd1 nd (blk_far (p := ⟨w3.heap.size, 8, none⟩) (BR.out) HRE.out (.int .u64 mk))) hb); have n_HB := Aside0.mk (below_step (pw_below_drewN (below_set (HB.out) HGE.out) nd) hb); clear hb BE BR HB HR q0 q1 q2 q3 q4 q5 q6 q7 q8 q9 q10 qf ql z0 z1 z2 z3 z4 z5 z6 z7 z8 z9 z10 zf zl; have BE := n_BE; have BR := n_BR; have HB := n_HB; clear n_BE n_BR n_HB; obtain ⟨q0, q1, q2, q3, q4, q5, q6, q7, q8, q9, q10, qf, ql⟩ := entry_all BE.out; obtain ⟨z0, z1, z2, z3, z4, z5, z6, z7, z8, z9, z10, zf, zl⟩ := entry_all BR.out))
  refine bodyPost_ret ?_ rfl ⟨.slice none 0 0, .slice none 0 0, rfl, Kd.R_nil _ _ _ _ _, Kd.R_nil _ _ _ _ _, ?_⟩
  · obtain ⟨Wf, eW, h1, h2⟩ := entry_put (.int .i64 0) (.int .u64 0) (.int .u32 0) (.int .u32 0) (.int .i64 0) (.bool false) (.int .i64 0) (.int .i64 0) (.int .u64 0) (.slice none 0 0) (.slice none 0 0) BR.out
    rw [← eW]
    obtain ⟨c0, c1, c2, c3, c4, c5, c6, c7, c8, c9, c10, cf, cl⟩ := entry_all h1
    clear eW h2 h1 cf cl
    simp [results, Try.results21, go_sem, c0, c1, c2, c3, c4, c5, c6, c7, c8, c9, c10]
  · iterate 11 refine below_set ?_ (Nat.le_refl _)
    exact HB.out
set_option maxHeartbeats 8000000 in
set_option maxRecDepth 100000 in
theorem get_7_ok (A : Option Addr) (c : Nat) (l0 : List Int) (ls ep mk : Int) (s1 s2 s3 s4 : RS) (w : World) (hr : Kd.C (Kd.int .u8) w A l0.length l0) (hl : l0.length ≤ 1000000) (hb0 : bytesIn l0) (hk : rd1 ((l0, false) : RS) = 7) (e1 : rdN 1 ((l0, false) : RS) = s1) (hls : rd8 s1 = ls) (e2 : rdN 8 s1 = s2) (hep : rd4 s2 = ep) (e3 : rdN 4 s2 = s3) (hmk : rd8 s3 = mk) (e4 : rdN 8 s3 = s4) (hd : (doneI s4 != 0) = false) (hok : entryOk 7 ls ep 0 0 false 0 0 mk 0 0 = true) : Calls Try.prog 21 #[.slice A l0.length c] w fun e w' => ∃ v9_ v10_ : Value, e = .returned (.tuple #[.agg #[.int .i64 7, .int .u64 ls, .int .u32 ep, .int .u32 0, .int .i64 0, .bool false, .int .i64 0, .int .i64 0, .int .u64 mk, v9_, v10_], .int .i64 0]) ∧ Kd.R (Kd.int .u8) 5 w' w.heap.size (fun k_ => some k_ ≠ (v10_ : Value).ownBlock) v9_ ([] : List Int) ∧ Kd.R (Kd.int .u8) 5 w' w.heap.size (fun k_ => some k_ ≠ (v9_ : Value).ownBlock) v10_ ([] : List Int) ∧ Below w.heap.size w w' := by
  have Hk := Aside0.mk hk
  have E1 := Aside0.mk e1
  clear hk e1
  have Hls := Aside0.mk hls
  have E2 := Aside0.mk e2
  clear hls e2
  have Hep := Aside0.mk hep
  have E3 := Aside0.mk e3
  clear hep e3
  have Hmk := Aside0.mk hmk
  have E4 := Aside0.mk e4
  clear hmk e4
  have GR := Aside0.mk hr
  have GL := Aside0.mk hl
  have GY := Aside0.mk hb0
  clear hr hl hb0
  have HOK := Aside0.mk hok
  clear hok
  go_enter Try.func21, Try.ntmps21
  go_wp2_with (first | (go_at_call 40; (with_reducible refine (fieldNewR.calls A c l0 w _ (Kd.C_alloc GR.out _) GL.out (below_alloc (Below.refl _ _) _)).mono ?_); rintro e w1 ⟨g, rfl, hRD, hB, hB2, hg⟩; have HR := Aside0.mk (show RDB w w1 g ((l0, false) : RS) from ⟨hRD, GL.out, GY.out⟩); have BR := Aside0.mk (blk_below (heap_last _ _) hB2); have HG := Aside0.mk (show w.heap.size ≠ g by simp at hg; omega); have HB := Aside0.mk hB; clear hRD hB hB2 hg) | (go_at_call 41; (with_reducible refine (field_R8 g ((l0, false) : RS) w _ (HR.out) (HB.out)).mono ?_); rintro e w2 ⟨rfl, hR, hBB, hO⟩; rw [Hk.out]; rw [E1.out] at hR; have n_BR := Aside0.mk (OB.keep hO (BR.out) HG.out); have n_HR := Aside0.mk hR; have n_HB := Aside0.mk hBB; clear hR hBB hO HR HB BR; have HR := n_HR; have HB := n_HB; have BR := n_BR; clear n_HR n_HB n_BR) | (go_at_call 42; (with_reducible refine (field_R64 g s1 w _ (HR.out) (HB.out)).mono ?_); rintro e w3 ⟨rfl, hR, hBB, hO⟩; rw [Hls.out]; rw [E2.out] at hR; have n_BR := Aside0.mk (OB.keep hO (BR.out) HG.out); have n_HR := Aside0.mk hR; have n_HB := Aside0.mk hBB; clear hR hBB hO HR HB BR; have HR := n_HR; have HB := n_HB; have BR := n_BR; clear n_HR n_HB n_BR) | (go_at_call 43; (with_reducible refine (field_R32 g s2 w _ (RDB.alloc HR.out _) (below_alloc HB.out _)).mono ?_); rintro e w4 ⟨rfl, hR, hBB, hO⟩; rw [Hep.out]; rw [E3.out] at hR; have n_BR := Aside0.mk (OB.keep hO (bd3 _ BR.out) HG.out); have HE := Aside0.mk (show w3.heap.size ≠ g by have := RDB.lt HR.out; omega); have HGE := Aside0.mk (show w.heap.size ≤ w3.heap.size from HB.out.size); have HRE := Aside0.mk (show w.heap.size ≠ w3.heap.size by have := blk_lt BR.out; omega); have n_BE := Aside0.mk (OB.keep hO (heap_last _ (.cells #[.int .i64 7, .int .u64 ls, .int .u32 0, .int .u32 0, .int .i64 0, .bool false, .int .i64 0, .int .i64 0, .int .u64 0, .slice none 0 0, .slice none 0 0] 26 (0, 0))) HE.out); have n_HR := Aside0.mk hR; have n_HB := Aside0.mk hBB; clear hR hBB hO HR HB BR; have HR := n_HR; have HB := n_HB; have BR := n_BR; clear n_HR n_HB n_BR; have BE := n_BE; clear n_BE; obtain ⟨q0, q1, q2, q3, q4, q5, q6, q7, q8, q9, q10, qf, ql⟩ := entry_all BE.out; obtain ⟨z0, z1, z2, z3, z4, z5, z6, z7, z8, z9, z10, zf, zl⟩ := entry_all BR.out; have hre := HRE.out) | (go_at_call 42; (with_reducible refine (field_R64 g s3 w _ (RDB.set (i := 2) (HR.out) (BE.out) (.int .u32 ep)) (below_set (HB.out) HGE.out)).mono ?_); rintro e w5 ⟨rfl, hR, hBB, hO⟩; rw [Hmk.out]; rw [E4.out] at hR; have n_BR := Aside0.mk (OB.keep hO (blk_far (p := ⟨w3.heap.size, 2, none⟩) (BR.out) HRE.out (.int .u32 ep)) HG.out); have n_BE := Aside0.mk (OB.keep hO (blk_put (cs' := #[.int .i64 7, .int .u64 ls, .int .u32 ep, .int .u32 0, .int .i64 0, .bool false, .int .i64 0, .int .i64 0, .int .u64 0, .slice none 0 0, .slice none 0 0]) (BE.out) 2 (.int .u32 ep) rfl) HE.out); have n_HR := Aside0.mk hR; have n_HB := Aside0.mk hBB; clear hR hBB hO HR HB BR BE; have HR := n_HR; have HB := n_HB; have BR := n_BR; clear n_HR n_HB n_BR; have BE := n_BE; clear n_BE; clear q0 q1 q2 q3 q4 q5 q6 q7 q8 q9 q10 qf ql z0 z1 z2 z3 z4 z5 z6 z7 z8 z9 z10 zf zl; obtain ⟨q0, q1, q2, q3, q4, q5, q6, q7, q8, q9, q10, qf, ql⟩ := entry_all BE.out; obtain ⟨z0, z1, z2, z3, z4, z5, z6, z7, z8, z9, z10, zf, zl⟩ := entry_all BR.out) | (go_at_call 45; (with_reducible refine (field_RD g s4 w _ (RDB.set (i := 8) (HR.out) (BE.out) (.int .u64 mk))).mono ?_); rintro e wd ⟨rfl, ⟨nd, rfl⟩⟩) | (go_at_call 15; (with_reducible refine (check_any 7 ls ep 0 0 false 0 0 mk none 0 0 none 0 0 _).mono ?_); rintro e wc ⟨rfl, hb⟩; rw [HOK.out, ansE]; have n_BE := Aside0.mk (blk_below (bd1 nd (blk_put (cs' := #[.int .i64 7, .int .u64 ls, .int .u32 ep, .int .u32 0, .int .i64 0, .bool false, .int .i64 0, .int .i64 0, .int .u64 mk, .slice none 0 0, .slice none 0 0]) (BE.out) 8 (.int .u64 mk) rfl)) hb); have n_BR := Aside0.mk (blk_below (bd1 nd (blk_far (p := ⟨w3.heap.size, 8, none⟩) (BR.out) HRE.out (.int .u64 mk))) hb); have n_HB := Aside0.mk (below_step (pw_below_drewN (below_set (HB.out) HGE.out) nd) hb); clear hb BE BR HB HR q0 q1 q2 q3 q4 q5 q6 q7 q8 q9 q10 qf ql z0 z1 z2 z3 z4 z5 z6 z7 z8 z9 z10 zf zl; have BE := n_BE; have BR := n_BR; have HB := n_HB; clear n_BE n_BR n_HB; obtain ⟨q0, q1, q2, q3, q4, q5, q6, q7, q8, q9, q10, qf, ql⟩ := entry_all BE.out; obtain ⟨z0, z1, z2, z3, z4, z5, z6, z7, z8, z9, z10, zf, zl⟩ := entry_all BR.out))
  refine bodyPost_ret ?_ rfl ⟨.slice none 0 0, .slice none 0 0, rfl, Kd.R_nil _ _ _ _ _, Kd.R_nil _ _ _ _ _, ?_⟩
  · obtain ⟨Wf, eW, h1, h2⟩ := entry_put (.int .i64 7) (.int .u64 ls) (.int .u32 ep) (.int .u32 0) (.int .i64 0) (.bool false) (.int .i64 0) (.int .i64 0) (.int .u64 mk) (.slice none 0 0) (.slice none 0 0) BR.out
    rw [← eW]
    obtain ⟨c0, c1, c2, c3, c4, c5, c6, c7, c8, c9, c10, cf, cl⟩ := entry_all h1
    clear eW h2 h1 cf cl
    simp [results, Try.results21, go_sem, c0, c1, c2, c3, c4, c5, c6, c7, c8, c9, c10]
  · iterate 11 refine below_set ?_ (Nat.le_refl _)
    exact HB.out
set_option maxHeartbeats 8000000 in
set_option maxRecDepth 100000 in
theorem get_8_done (A : Option Addr) (c : Nat) (l0 : List Int) (k ls ep : Int) (s1 s2 s3 : RS) (w : World) (hr : Kd.C (Kd.int .u8) w A l0.length l0) (hl : l0.length ≤ 1000000) (hb0 : bytesIn l0) (hk : rd1 ((l0, false) : RS) = k) (e1 : rdN 1 ((l0, false) : RS) = s1) (hls : rd8 s1 = ls) (e2 : rdN 8 s1 = s2) (hep : rd4 s2 = ep) (e3 : rdN 4 s2 = s3) (g2 : (k == 2) = false) (g3 : (k == 3) = false) (g4 : (k == 4) = false) (g5 : (k == 5) = false) (g6 : (k == 6) = false) (g7 : (k == 7) = false) (hd : (doneI s3 != 0) = true) : Calls Try.prog 21 #[.slice A l0.length c] w fun e w' => ∃ v9_ v10_ : Value, e = .returned (.tuple #[.agg #[.int .i64 0, .int .u64 0, .int .u32 0, .int .u32 0, .int .i64 0, .bool false, .int .i64 0, .int .i64 0, .int .u64 0, v9_, v10_], .int .i64 40]) ∧ Kd.R (Kd.int .u8) 5 w' w.heap.size (fun k_ => some k_ ≠ (v10_ : Value).ownBlock) v9_ ([] : List Int) ∧ Kd.R (Kd.int .u8) 5 w' w.heap.size (fun k_ => some k_ ≠ (v9_ : Value).ownBlock) v10_ ([] : List Int) ∧ Below w.heap.size w w' := by
  have f_k : wrap64 k = k := by have := rd1_range ((l0, false) : RS); rw [hk] at this; unfold wrap64; omega
  have f2_k : IntKind.i64.wrap k = k := (i64_w k).trans f_k
  have Hk := Aside0.mk hk
  have E1 := Aside0.mk e1
  clear hk e1
  have Hls := Aside0.mk hls
  have E2 := Aside0.mk e2
  clear hls e2
  have Hep := Aside0.mk hep
  have E3 := Aside0.mk e3
  clear hep e3
  have GR := Aside0.mk hr
  have GL := Aside0.mk hl
  have GY := Aside0.mk hb0
  clear hr hl hb0
  go_enter Try.func21, Try.ntmps21
  go_wp2_with (first | (go_at_call 40; (with_reducible refine (fieldNewR.calls A c l0 w _ (Kd.C_alloc GR.out _) GL.out (below_alloc (Below.refl _ _) _)).mono ?_); rintro e w1 ⟨g, rfl, hRD, hB, hB2, hg⟩; have HR := Aside0.mk (show RDB w w1 g ((l0, false) : RS) from ⟨hRD, GL.out, GY.out⟩); have BR := Aside0.mk (blk_below (heap_last _ _) hB2); have HG := Aside0.mk (show w.heap.size ≠ g by simp at hg; omega); have HB := Aside0.mk hB; clear hRD hB hB2 hg) | (go_at_call 41; (with_reducible refine (field_R8 g ((l0, false) : RS) w _ (HR.out) (HB.out)).mono ?_); rintro e w2 ⟨rfl, hR, hBB, hO⟩; rw [Hk.out]; rw [E1.out] at hR; have n_BR := Aside0.mk (OB.keep hO (BR.out) HG.out); have n_HR := Aside0.mk hR; have n_HB := Aside0.mk hBB; clear hR hBB hO HR HB BR; have HR := n_HR; have HB := n_HB; have BR := n_BR; clear n_HR n_HB n_BR) | (go_at_call 42; (with_reducible refine (field_R64 g s1 w _ (HR.out) (HB.out)).mono ?_); rintro e w3 ⟨rfl, hR, hBB, hO⟩; rw [Hls.out]; rw [E2.out] at hR; have n_BR := Aside0.mk (OB.keep hO (BR.out) HG.out); have n_HR := Aside0.mk hR; have n_HB := Aside0.mk hBB; clear hR hBB hO HR HB BR; have HR := n_HR; have HB := n_HB; have BR := n_BR; clear n_HR n_HB n_BR) | (go_at_call 43; (with_reducible refine (field_R32 g s2 w _ (RDB.alloc HR.out _) (below_alloc HB.out _)).mono ?_); rintro e w4 ⟨rfl, hR, hBB, hO⟩; rw [Hep.out]; rw [E3.out] at hR; have n_BR := Aside0.mk (OB.keep hO (bd3 _ BR.out) HG.out); have HE := Aside0.mk (show w3.heap.size ≠ g by have := RDB.lt HR.out; omega); have HGE := Aside0.mk (show w.heap.size ≤ w3.heap.size from HB.out.size); have HRE := Aside0.mk (show w.heap.size ≠ w3.heap.size by have := blk_lt BR.out; omega); have n_BE := Aside0.mk (OB.keep hO (heap_last _ (.cells #[.int .i64 k, .int .u64 ls, .int .u32 0, .int .u32 0, .int .i64 0, .bool false, .int .i64 0, .int .i64 0, .int .u64 0, .slice none 0 0, .slice none 0 0] 26 (0, 0))) HE.out); have n_HR := Aside0.mk hR; have n_HB := Aside0.mk hBB; clear hR hBB hO HR HB BR; have HR := n_HR; have HB := n_HB; have BR := n_BR; clear n_HR n_HB n_BR; have BE := n_BE; clear n_BE; obtain ⟨q0, q1, q2, q3, q4, q5, q6, q7, q8, q9, q10, qf, ql⟩ := entry_all BE.out; obtain ⟨z0, z1, z2, z3, z4, z5, z6, z7, z8, z9, z10, zf, zl⟩ := entry_all BR.out; have hre := HRE.out) | (go_at_call 45; (with_reducible refine (field_RD g s3 w _ (RDB.set (i := 2) (HR.out) (BE.out) (.int .u32 ep))).mono ?_); rintro e wd ⟨rfl, ⟨nd, rfl⟩⟩))
  refine bodyPost_ret ?_ rfl ⟨.slice none 0 0, .slice none 0 0, rfl, Kd.R_nil _ _ _ _ _, Kd.R_nil _ _ _ _ _, ?_⟩
  · obtain ⟨Wf, eW, h1, h2⟩ := entry_put (.int .i64 0) (.int .u64 0) (.int .u32 0) (.int .u32 0) (.int .i64 0) (.bool false) (.int .i64 0) (.int .i64 0) (.int .u64 0) (.slice none 0 0) (.slice none 0 0) (bd1 nd (blk_far (p := ⟨w3.heap.size, 2, none⟩) (BR.out) HRE.out (.int .u32 ep)))
    rw [← eW]
    obtain ⟨c0, c1, c2, c3, c4, c5, c6, c7, c8, c9, c10, cf, cl⟩ := entry_all h1
    clear eW h2 h1 cf cl
    simp [results, Try.results21, go_sem, c0, c1, c2, c3, c4, c5, c6, c7, c8, c9, c10]
  · iterate 11 refine below_set ?_ (Nat.le_refl _)
    exact pw_below_drewN (below_set (HB.out) HGE.out) nd
set_option maxHeartbeats 8000000 in
set_option maxRecDepth 100000 in
theorem get_8_check (A : Option Addr) (c : Nat) (l0 : List Int) (k ls ep : Int) (s1 s2 s3 : RS) (w : World) (hr : Kd.C (Kd.int .u8) w A l0.length l0) (hl : l0.length ≤ 1000000) (hb0 : bytesIn l0) (hk : rd1 ((l0, false) : RS) = k) (e1 : rdN 1 ((l0, false) : RS) = s1) (hls : rd8 s1 = ls) (e2 : rdN 8 s1 = s2) (hep : rd4 s2 = ep) (e3 : rdN 4 s2 = s3) (g2 : (k == 2) = false) (g3 : (k == 3) = false) (g4 : (k == 4) = false) (g5 : (k == 5) = false) (g6 : (k == 6) = false) (g7 : (k == 7) = false) (hd : (doneI s3 != 0) = false) (hok : entryOk k ls ep 0 0 false 0 0 0 0 0 = false) : Calls Try.prog 21 #[.slice A l0.length c] w fun e w' => ∃ v9_ v10_ : Value, e = .returned (.tuple #[.agg #[.int .i64 0, .int .u64 0, .int .u32 0, .int .u32 0, .int .i64 0, .bool false, .int .i64 0, .int .i64 0, .int .u64 0, v9_, v10_], .int .i64 40]) ∧ Kd.R (Kd.int .u8) 5 w' w.heap.size (fun k_ => some k_ ≠ (v10_ : Value).ownBlock) v9_ ([] : List Int) ∧ Kd.R (Kd.int .u8) 5 w' w.heap.size (fun k_ => some k_ ≠ (v9_ : Value).ownBlock) v10_ ([] : List Int) ∧ Below w.heap.size w w' := by
  have f_k : wrap64 k = k := by have := rd1_range ((l0, false) : RS); rw [hk] at this; unfold wrap64; omega
  have f2_k : IntKind.i64.wrap k = k := (i64_w k).trans f_k
  have Hk := Aside0.mk hk
  have E1 := Aside0.mk e1
  clear hk e1
  have Hls := Aside0.mk hls
  have E2 := Aside0.mk e2
  clear hls e2
  have Hep := Aside0.mk hep
  have E3 := Aside0.mk e3
  clear hep e3
  have GR := Aside0.mk hr
  have GL := Aside0.mk hl
  have GY := Aside0.mk hb0
  clear hr hl hb0
  have HOK := Aside0.mk hok
  clear hok
  go_enter Try.func21, Try.ntmps21
  go_wp2_with (first | (go_at_call 40; (with_reducible refine (fieldNewR.calls A c l0 w _ (Kd.C_alloc GR.out _) GL.out (below_alloc (Below.refl _ _) _)).mono ?_); rintro e w1 ⟨g, rfl, hRD, hB, hB2, hg⟩; have HR := Aside0.mk (show RDB w w1 g ((l0, false) : RS) from ⟨hRD, GL.out, GY.out⟩); have BR := Aside0.mk (blk_below (heap_last _ _) hB2); have HG := Aside0.mk (show w.heap.size ≠ g by simp at hg; omega); have HB := Aside0.mk hB; clear hRD hB hB2 hg) | (go_at_call 41; (with_reducible refine (field_R8 g ((l0, false) : RS) w _ (HR.out) (HB.out)).mono ?_); rintro e w2 ⟨rfl, hR, hBB, hO⟩; rw [Hk.out]; rw [E1.out] at hR; have n_BR := Aside0.mk (OB.keep hO (BR.out) HG.out); have n_HR := Aside0.mk hR; have n_HB := Aside0.mk hBB; clear hR hBB hO HR HB BR; have HR := n_HR; have HB := n_HB; have BR := n_BR; clear n_HR n_HB n_BR) | (go_at_call 42; (with_reducible refine (field_R64 g s1 w _ (HR.out) (HB.out)).mono ?_); rintro e w3 ⟨rfl, hR, hBB, hO⟩; rw [Hls.out]; rw [E2.out] at hR; have n_BR := Aside0.mk (OB.keep hO (BR.out) HG.out); have n_HR := Aside0.mk hR; have n_HB := Aside0.mk hBB; clear hR hBB hO HR HB BR; have HR := n_HR; have HB := n_HB; have BR := n_BR; clear n_HR n_HB n_BR) | (go_at_call 43; (with_reducible refine (field_R32 g s2 w _ (RDB.alloc HR.out _) (below_alloc HB.out _)).mono ?_); rintro e w4 ⟨rfl, hR, hBB, hO⟩; rw [Hep.out]; rw [E3.out] at hR; have n_BR := Aside0.mk (OB.keep hO (bd3 _ BR.out) HG.out); have HE := Aside0.mk (show w3.heap.size ≠ g by have := RDB.lt HR.out; omega); have HGE := Aside0.mk (show w.heap.size ≤ w3.heap.size from HB.out.size); have HRE := Aside0.mk (show w.heap.size ≠ w3.heap.size by have := blk_lt BR.out; omega); have n_BE := Aside0.mk (OB.keep hO (heap_last _ (.cells #[.int .i64 k, .int .u64 ls, .int .u32 0, .int .u32 0, .int .i64 0, .bool false, .int .i64 0, .int .i64 0, .int .u64 0, .slice none 0 0, .slice none 0 0] 26 (0, 0))) HE.out); have n_HR := Aside0.mk hR; have n_HB := Aside0.mk hBB; clear hR hBB hO HR HB BR; have HR := n_HR; have HB := n_HB; have BR := n_BR; clear n_HR n_HB n_BR; have BE := n_BE; clear n_BE; obtain ⟨q0, q1, q2, q3, q4, q5, q6, q7, q8, q9, q10, qf, ql⟩ := entry_all BE.out; obtain ⟨z0, z1, z2, z3, z4, z5, z6, z7, z8, z9, z10, zf, zl⟩ := entry_all BR.out; have hre := HRE.out) | (go_at_call 45; (with_reducible refine (field_RD g s3 w _ (RDB.set (i := 2) (HR.out) (BE.out) (.int .u32 ep))).mono ?_); rintro e wd ⟨rfl, ⟨nd, rfl⟩⟩) | (go_at_call 15; (with_reducible refine (check_any k ls ep 0 0 false 0 0 0 none 0 0 none 0 0 _).mono ?_); rintro e wc ⟨rfl, hb⟩; rw [HOK.out, ansE]; have n_BE := Aside0.mk (blk_below (bd1 nd (blk_put (cs' := #[.int .i64 k, .int .u64 ls, .int .u32 ep, .int .u32 0, .int .i64 0, .bool false, .int .i64 0, .int .i64 0, .int .u64 0, .slice none 0 0, .slice none 0 0]) (BE.out) 2 (.int .u32 ep) rfl)) hb); have n_BR := Aside0.mk (blk_below (bd1 nd (blk_far (p := ⟨w3.heap.size, 2, none⟩) (BR.out) HRE.out (.int .u32 ep))) hb); have n_HB := Aside0.mk (below_step (pw_below_drewN (below_set (HB.out) HGE.out) nd) hb); clear hb BE BR HB HR q0 q1 q2 q3 q4 q5 q6 q7 q8 q9 q10 qf ql z0 z1 z2 z3 z4 z5 z6 z7 z8 z9 z10 zf zl; have BE := n_BE; have BR := n_BR; have HB := n_HB; clear n_BE n_BR n_HB; obtain ⟨q0, q1, q2, q3, q4, q5, q6, q7, q8, q9, q10, qf, ql⟩ := entry_all BE.out; obtain ⟨z0, z1, z2, z3, z4, z5, z6, z7, z8, z9, z10, zf, zl⟩ := entry_all BR.out))
  refine bodyPost_ret ?_ rfl ⟨.slice none 0 0, .slice none 0 0, rfl, Kd.R_nil _ _ _ _ _, Kd.R_nil _ _ _ _ _, ?_⟩
  · obtain ⟨Wf, eW, h1, h2⟩ := entry_put (.int .i64 0) (.int .u64 0) (.int .u32 0) (.int .u32 0) (.int .i64 0) (.bool false) (.int .i64 0) (.int .i64 0) (.int .u64 0) (.slice none 0 0) (.slice none 0 0) BR.out
    rw [← eW]
    obtain ⟨c0, c1, c2, c3, c4, c5, c6, c7, c8, c9, c10, cf, cl⟩ := entry_all h1
    clear eW h2 h1 cf cl
    simp [results, Try.results21, go_sem, c0, c1, c2, c3, c4, c5, c6, c7, c8, c9, c10]
  · iterate 11 refine below_set ?_ (Nat.le_refl _)
    exact HB.out
set_option maxHeartbeats 8000000 in
set_option maxRecDepth 100000 in
theorem get_8_ok (A : Option Addr) (c : Nat) (l0 : List Int) (k ls ep : Int) (s1 s2 s3 : RS) (w : World) (hr : Kd.C (Kd.int .u8) w A l0.length l0) (hl : l0.length ≤ 1000000) (hb0 : bytesIn l0) (hk : rd1 ((l0, false) : RS) = k) (e1 : rdN 1 ((l0, false) : RS) = s1) (hls : rd8 s1 = ls) (e2 : rdN 8 s1 = s2) (hep : rd4 s2 = ep) (e3 : rdN 4 s2 = s3) (g2 : (k == 2) = false) (g3 : (k == 3) = false) (g4 : (k == 4) = false) (g5 : (k == 5) = false) (g6 : (k == 6) = false) (g7 : (k == 7) = false) (hd : (doneI s3 != 0) = false) (hok : entryOk k ls ep 0 0 false 0 0 0 0 0 = true) : Calls Try.prog 21 #[.slice A l0.length c] w fun e w' => ∃ v9_ v10_ : Value, e = .returned (.tuple #[.agg #[.int .i64 k, .int .u64 ls, .int .u32 ep, .int .u32 0, .int .i64 0, .bool false, .int .i64 0, .int .i64 0, .int .u64 0, v9_, v10_], .int .i64 0]) ∧ Kd.R (Kd.int .u8) 5 w' w.heap.size (fun k_ => some k_ ≠ (v10_ : Value).ownBlock) v9_ ([] : List Int) ∧ Kd.R (Kd.int .u8) 5 w' w.heap.size (fun k_ => some k_ ≠ (v9_ : Value).ownBlock) v10_ ([] : List Int) ∧ Below w.heap.size w w' := by
  have f_k : wrap64 k = k := by have := rd1_range ((l0, false) : RS); rw [hk] at this; unfold wrap64; omega
  have f2_k : IntKind.i64.wrap k = k := (i64_w k).trans f_k
  have Hk := Aside0.mk hk
  have E1 := Aside0.mk e1
  clear hk e1
  have Hls := Aside0.mk hls
  have E2 := Aside0.mk e2
  clear hls e2
  have Hep := Aside0.mk hep
  have E3 := Aside0.mk e3
  clear hep e3
  have GR := Aside0.mk hr
  have GL := Aside0.mk hl
  have GY := Aside0.mk hb0
  clear hr hl hb0
  have HOK := Aside0.mk hok
  clear hok
  go_enter Try.func21, Try.ntmps21
  go_wp2_with (first | (go_at_call 40; (with_reducible refine (fieldNewR.calls A c l0 w _ (Kd.C_alloc GR.out _) GL.out (below_alloc (Below.refl _ _) _)).mono ?_); rintro e w1 ⟨g, rfl, hRD, hB, hB2, hg⟩; have HR := Aside0.mk (show RDB w w1 g ((l0, false) : RS) from ⟨hRD, GL.out, GY.out⟩); have BR := Aside0.mk (blk_below (heap_last _ _) hB2); have HG := Aside0.mk (show w.heap.size ≠ g by simp at hg; omega); have HB := Aside0.mk hB; clear hRD hB hB2 hg) | (go_at_call 41; (with_reducible refine (field_R8 g ((l0, false) : RS) w _ (HR.out) (HB.out)).mono ?_); rintro e w2 ⟨rfl, hR, hBB, hO⟩; rw [Hk.out]; rw [E1.out] at hR; have n_BR := Aside0.mk (OB.keep hO (BR.out) HG.out); have n_HR := Aside0.mk hR; have n_HB := Aside0.mk hBB; clear hR hBB hO HR HB BR; have HR := n_HR; have HB := n_HB; have BR := n_BR; clear n_HR n_HB n_BR) | (go_at_call 42; (with_reducible refine (field_R64 g s1 w _ (HR.out) (HB.out)).mono ?_); rintro e w3 ⟨rfl, hR, hBB, hO⟩; rw [Hls.out]; rw [E2.out] at hR; have n_BR := Aside0.mk (OB.keep hO (BR.out) HG.out); have n_HR := Aside0.mk hR; have n_HB := Aside0.mk hBB; clear hR hBB hO HR HB BR; have HR := n_HR; have HB := n_HB; have BR := n_BR; clear n_HR n_HB n_BR) | (go_at_call 43; (with_reducible refine (field_R32 g s2 w _ (RDB.alloc HR.out _) (below_alloc HB.out _)).mono ?_); rintro e w4 ⟨rfl, hR, hBB, hO⟩; rw [Hep.out]; rw [E3.out] at hR; have n_BR := Aside0.mk (OB.keep hO (bd3 _ BR.out) HG.out); have HE := Aside0.mk (show w3.heap.size ≠ g by have := RDB.lt HR.out; omega); have HGE := Aside0.mk (show w.heap.size ≤ w3.heap.size from HB.out.size); have HRE := Aside0.mk (show w.heap.size ≠ w3.heap.size by have := blk_lt BR.out; omega); have n_BE := Aside0.mk (OB.keep hO (heap_last _ (.cells #[.int .i64 k, .int .u64 ls, .int .u32 0, .int .u32 0, .int .i64 0, .bool false, .int .i64 0, .int .i64 0, .int .u64 0, .slice none 0 0, .slice none 0 0] 26 (0, 0))) HE.out); have n_HR := Aside0.mk hR; have n_HB := Aside0.mk hBB; clear hR hBB hO HR HB BR; have HR := n_HR; have HB := n_HB; have BR := n_BR; clear n_HR n_HB n_BR; have BE := n_BE; clear n_BE; obtain ⟨q0, q1, q2, q3, q4, q5, q6, q7, q8, q9, q10, qf, ql⟩ := entry_all BE.out; obtain ⟨z0, z1, z2, z3, z4, z5, z6, z7, z8, z9, z10, zf, zl⟩ := entry_all BR.out; have hre := HRE.out) | (go_at_call 45; (with_reducible refine (field_RD g s3 w _ (RDB.set (i := 2) (HR.out) (BE.out) (.int .u32 ep))).mono ?_); rintro e wd ⟨rfl, ⟨nd, rfl⟩⟩) | (go_at_call 15; (with_reducible refine (check_any k ls ep 0 0 false 0 0 0 none 0 0 none 0 0 _).mono ?_); rintro e wc ⟨rfl, hb⟩; rw [HOK.out, ansE]; have n_BE := Aside0.mk (blk_below (bd1 nd (blk_put (cs' := #[.int .i64 k, .int .u64 ls, .int .u32 ep, .int .u32 0, .int .i64 0, .bool false, .int .i64 0, .int .i64 0, .int .u64 0, .slice none 0 0, .slice none 0 0]) (BE.out) 2 (.int .u32 ep) rfl)) hb); have n_BR := Aside0.mk (blk_below (bd1 nd (blk_far (p := ⟨w3.heap.size, 2, none⟩) (BR.out) HRE.out (.int .u32 ep))) hb); have n_HB := Aside0.mk (below_step (pw_below_drewN (below_set (HB.out) HGE.out) nd) hb); clear hb BE BR HB HR q0 q1 q2 q3 q4 q5 q6 q7 q8 q9 q10 qf ql z0 z1 z2 z3 z4 z5 z6 z7 z8 z9 z10 zf zl; have BE := n_BE; have BR := n_BR; have HB := n_HB; clear n_BE n_BR n_HB; obtain ⟨q0, q1, q2, q3, q4, q5, q6, q7, q8, q9, q10, qf, ql⟩ := entry_all BE.out; obtain ⟨z0, z1, z2, z3, z4, z5, z6, z7, z8, z9, z10, zf, zl⟩ := entry_all BR.out))
  refine bodyPost_ret ?_ rfl ⟨.slice none 0 0, .slice none 0 0, rfl, Kd.R_nil _ _ _ _ _, Kd.R_nil _ _ _ _ _, ?_⟩
  · obtain ⟨Wf, eW, h1, h2⟩ := entry_put (.int .i64 k) (.int .u64 ls) (.int .u32 ep) (.int .u32 0) (.int .i64 0) (.bool false) (.int .i64 0) (.int .i64 0) (.int .u64 0) (.slice none 0 0) (.slice none 0 0) BR.out
    rw [← eW]
    obtain ⟨c0, c1, c2, c3, c4, c5, c6, c7, c8, c9, c10, cf, cl⟩ := entry_all h1
    clear eW h2 h1 cf cl
    simp [results, Try.results21, go_sem, c0, c1, c2, c3, c4, c5, c6, c7, c8, c9, c10]
  · iterate 11 refine below_set ?_ (Nat.le_refl _)
    exact HB.out
/-- the entry that was read, or none -/
def getFin (k ls ep o st : Int) (un : Bool) (tr co mk : Int) (l9 l10 : List Int) (und : Int) (s : RS) : Int × Int × Int × Int × Int × Bool × Int × Int × Int × List Int × List Int × Int :=
  bif (doneI s != 0) then (0, 0, 0, 0, 0, false, 0, 0, 0, [], [], 40) else bif decide (1 < und) then (0, 0, 0, 0, 0, false, 0, 0, 0, [], [], 40) else bif entryOk k ls ep o st un tr co mk l9.length l10.length then (k, ls, ep, o, st, un, tr, co, mk, l9, l10, 0) else (0, 0, 0, 0, 0, false, 0, 0, 0, [], [], 40)
def getKind (k ls ep : Int) (s3 : RS) : Int × Int × Int × Int × Int × Bool × Int × Int × Int × List Int × List Int × Int :=
  bif k == 2 then getFin 2 ls ep (rd4 s3) 0 false 0 0 0 (rdT (rdN 4 s3)) (rdT (rdN (txN (rdN 4 s3)) (rdN 4 s3))) 0 (rdN (txN (rdN (txN (rdN 4 s3)) (rdN 4 s3))) (rdN (txN (rdN 4 s3)) (rdN 4 s3)))
  else bif k == 3 then getFin 3 ls ep (rd4 s3) (rd1 (rdN 4 s3)) ((rd1 (rdN 1 (rdN 4 s3))) == 1) (rd1 (rdN 1 (rdN 1 (rdN 4 s3)))) 0 0 [] [] (rd1 (rdN 1 (rdN 4 s3))) (rdN 1 (rdN 1 (rdN 1 (rdN 4 s3))))
  else bif k == 4 then getFin 4 ls ep (rd4 s3) (rd1 (rdN 4 s3)) ((rd1 (rdN 1 (rdN 4 s3))) == 1) (rd1 (rdN 1 (rdN 1 (rdN 4 s3)))) (rd1 (rdN 1 (rdN 1 (rdN 1 (rdN 4 s3))))) 0 [] [] (rd1 (rdN 1 (rdN 4 s3))) (rdN 1 (rdN 1 (rdN 1 (rdN 1 (rdN 4 s3)))))
  else bif k == 5 then getFin 5 ls ep (rd4 s3) 0 false 0 (rd1 (rdN 4 s3)) 0 [] [] 0 (rdN 1 (rdN 4 s3))
  else bif k == 6 then getFin 6 ls ep 0 0 false 0 (rd1 s3) 0 [] [] 0 (rdN 1 s3)
  else bif k == 7 then getFin 7 ls ep 0 0 false 0 0 (rd8 s3) [] [] 0 (rdN 8 s3)
  else getFin k ls ep 0 0 false 0 0 0 [] [] 0 s3
def getM (l0 : List Int) : Int × Int × Int × Int × Int × Bool × Int × Int × Int × List Int × List Int × Int := getKind (rd1 (l0, false)) (rd8 (rdN 1 (l0, false))) (rd4 (rdN 8 (rdN 1 (l0, false)))) (rdN 4 (rdN 8 (rdN 1 (l0, false))))
/-- bytes, and not too many -/
def bytesOk (l : List Int) : Bool := decide (l.length ≤ 1000000) && l.all (fun x => decide (0 ≤ x) && decide (x < 256))
def entry_Get.f (l0 : List Int) : Option (Int × Int × Int × Int × Int × Bool × Int × Int × Int × List Int × List Int × Int) := bif bytesOk l0 then some (getM l0) else none
theorem bytesOk_so {l : List Int} (h : bytesOk l = true) : l.length ≤ 1000000 ∧ bytesIn l := by
  simp only [bytesOk, Bool.and_eq_true, decide_eq_true_eq, List.all_eq_true] at h
  exact ⟨h.1, fun x hx => h.2 x hx⟩
theorem get_2 (A0 : Option Addr) (c0 : Nat) (l0 : List Int) (ls ep : Int) (s3 : RS) (r1 : Int) (r2 : Int) (r3 : Int) (r4 : Int) (r5 : Int) (r6 : Bool) (r7 : Int) (r8 : Int) (r9 : Int) (r10 : List Int) (r11 : List Int) (r12 : Int) (w : World) (hr0 : Kd.C (Kd.int .u8) w A0 l0.length l0) (hl : l0.length ≤ 1000000) (hb0 : bytesIn l0) (hk : rd1 ((l0, false) : RS) = 2) (hls : rd8 (rdN 1 ((l0, false) : RS)) = ls) (hep : rd4 (rdN 8 (rdN 1 ((l0, false) : RS))) = ep) (hs3 : rdN 4 (rdN 8 (rdN 1 ((l0, false) : RS))) = s3) (h : getFin 2 ls ep (rd4 s3) 0 false 0 0 0 (rdT (rdN 4 s3)) (rdT (rdN (txN (rdN 4 s3)) (rdN 4 s3))) 0 (rdN (txN (rdN (txN (rdN 4 s3)) (rdN 4 s3))) (rdN (txN (rdN 4 s3)) (rdN 4 s3))) = (r1, r2, r3, r4, r5, r6, r7, r8, r9, r10, r11, r12)) :
    Calls Try.prog 21 #[.slice A0 l0.length c0] w fun e w' => ∃ v9_ v10_ : Value, e = .returned (.tuple #[.agg #[.int .i64 r1, .int .u64 r2, .int .u32 r3, .int .u32 r4, .int .i64 r5, .bool r6, .int .i64 r7, .int .i64 r8, .int .u64 r9, v9_, v10_], .int .i64 r12]) ∧ Kd.R (Kd.int .u8) 5 w' w.heap.size (fun k_ => some k_ ≠ (v10_ : Value).ownBlock) v9_ r10 ∧ Kd.R (Kd.int .u8) 5 w' w.heap.size (fun k_ => some k_ ≠ (v9_ : Value).ownBlock) v10_ r11 ∧ Below w.heap.size w w' := by
  unfold getFin at h
  cases hd : (doneI (rdN (txN (rdN (txN (rdN 4 s3)) (rdN 4 s3))) (rdN (txN (rdN 4 s3)) (rdN 4 s3))) != 0) with
  | true =>
    rw [hd] at h
    simp only [cond_true, cond_false, Prod.mk.injEq] at h
    obtain ⟨rfl, rfl, rfl, rfl, rfl, rfl, rfl, rfl, rfl, rfl, rfl, rfl⟩ := h
    exact get_2_done A0 c0 l0 _ _ _ _ _ _ _ _ _ _ _ w hr0 hl hb0 hk rfl hls rfl hep hs3 rfl rfl rfl rfl rfl rfl hd
  | false =>
    rw [hd] at h
    rw [show decide ((1 : Int) < 0) = false from rfl] at h
    cases hok : entryOk 2 ls ep (rd4 s3) 0 false 0 0 0 ((rdT (rdN 4 s3))).length ((rdT (rdN (txN (rdN 4 s3)) (rdN 4 s3)))).length with
    | true =>
      rw [hok] at h
      simp only [cond_true, cond_false, Prod.mk.injEq] at h
      obtain ⟨rfl, rfl, rfl, rfl, rfl, rfl, rfl, rfl, rfl, rfl, rfl, rfl⟩ := h
      exact get_2_ok A0 c0 l0 _ _ _ _ _ _ _ _ _ _ _ w hr0 hl hb0 hk rfl hls rfl hep hs3 rfl rfl rfl rfl rfl rfl hd hok
    | false =>
      rw [hok] at h
      simp only [cond_true, cond_false, Prod.mk.injEq] at h
      obtain ⟨rfl, rfl, rfl, rfl, rfl, rfl, rfl, rfl, rfl, rfl, rfl, rfl⟩ := h
      exact get_2_check A0 c0 l0 _ _ _ _ _ _ _ _ _ _ _ w hr0 hl hb0 hk rfl hls rfl hep hs3 rfl rfl rfl rfl rfl rfl hd hok
theorem get_3 (A0 : Option Addr) (c0 : Nat) (l0 : List Int) (ls ep : Int) (s3 : RS) (r1 : Int) (r2 : Int) (r3 : Int) (r4 : Int) (r5 : Int) (r6 : Bool) (r7 : Int) (r8 : Int) (r9 : Int) (r10 : List Int) (r11 : List Int) (r12 : Int) (w : World) (hr0 : Kd.C (Kd.int .u8) w A0 l0.length l0) (hl : l0.length ≤ 1000000) (hb0 : bytesIn l0) (hk : rd1 ((l0, false) : RS) = 3) (hls : rd8 (rdN 1 ((l0, false) : RS)) = ls) (hep : rd4 (rdN 8 (rdN 1 ((l0, false) : RS))) = ep) (hs3 : rdN 4 (rdN 8 (rdN 1 ((l0, false) : RS))) = s3) (h : getFin 3 ls ep (rd4 s3) (rd1 (rdN 4 s3)) ((rd1 (rdN 1 (rdN 4 s3))) == 1) (rd1 (rdN 1 (rdN 1 (rdN 4 s3)))) 0 0 [] [] (rd1 (rdN 1 (rdN 4 s3))) (rdN 1 (rdN 1 (rdN 1 (rdN 4 s3)))) = (r1, r2, r3, r4, r5, r6, r7, r8, r9, r10, r11, r12)) :
    Calls Try.prog 21 #[.slice A0 l0.length c0] w fun e w' => ∃ v9_ v10_ : Value, e = .returned (.tuple #[.agg #[.int .i64 r1, .int .u64 r2, .int .u32 r3, .int .u32 r4, .int .i64 r5, .bool r6, .int .i64 r7, .int .i64 r8, .int .u64 r9, v9_, v10_], .int .i64 r12]) ∧ Kd.R (Kd.int .u8) 5 w' w.heap.size (fun k_ => some k_ ≠ (v10_ : Value).ownBlock) v9_ r10 ∧ Kd.R (Kd.int .u8) 5 w' w.heap.size (fun k_ => some k_ ≠ (v9_ : Value).ownBlock) v10_ r11 ∧ Below w.heap.size w w' := by
  unfold getFin at h
  cases hd : (doneI (rdN 1 (rdN 1 (rdN 1 (rdN 4 s3)))) != 0) with
  | true =>
    rw [hd] at h
    simp only [cond_true, cond_false, Prod.mk.injEq] at h
    obtain ⟨rfl, rfl, rfl, rfl, rfl, rfl, rfl, rfl, rfl, rfl, rfl, rfl⟩ := h
    exact get_3_done A0 c0 l0 _ _ _ _ _ _ _ _ _ _ _ _ _ w hr0 hl hb0 hk rfl hls rfl hep hs3 rfl rfl rfl rfl rfl rfl rfl rfl hd
  | false =>
    rw [hd] at h
    cases hu : decide (1 < (rd1 (rdN 1 (rdN 4 s3)))) with
    | true =>
      rw [hu] at h
      simp only [cond_true, cond_false, Prod.mk.injEq] at h
      obtain ⟨rfl, rfl, rfl, rfl, rfl, rfl, rfl, rfl, rfl, rfl, rfl, rfl⟩ := h
      exact get_3_undo A0 c0 l0 _ _ _ _ _ _ _ _ _ _ _ _ _ w hr0 hl hb0 hk rfl hls rfl hep hs3 rfl rfl rfl rfl rfl rfl rfl rfl hd hu
    | false =>
      rw [hu] at h
      cases hok : entryOk 3 ls ep (rd4 s3) (rd1 (rdN 4 s3)) ((rd1 (rdN 1 (rdN 4 s3))) == 1) (rd1 (rdN 1 (rdN 1 (rdN 4 s3)))) 0 0 0 0 with
      | true =>
        rw [show (([] : List Int).length) = 0 from rfl, hok] at h
        simp only [cond_true, cond_false, Prod.mk.injEq] at h
        obtain ⟨rfl, rfl, rfl, rfl, rfl, rfl, rfl, rfl, rfl, rfl, rfl, rfl⟩ := h
        exact get_3_ok A0 c0 l0 _ _ _ _ _ _ _ _ _ _ _ _ _ w hr0 hl hb0 hk rfl hls rfl hep hs3 rfl rfl rfl rfl rfl rfl rfl rfl hd hu hok
      | false =>
        rw [show (([] : List Int).length) = 0 from rfl, hok] at h
        simp only [cond_true, cond_false, Prod.mk.injEq] at h
        obtain ⟨rfl, rfl, rfl, rfl, rfl, rfl, rfl, rfl, rfl, rfl, rfl, rfl⟩ := h
        exact get_3_check A0 c0 l0 _ _ _ _ _ _ _ _ _ _ _ _ _ w hr0 hl hb0 hk rfl hls rfl hep hs3 rfl rfl rfl rfl rfl rfl rfl rfl hd hu hok
theorem get_4 (A0 : Option Addr) (c0 : Nat) (l0 : List Int) (ls ep : Int) (s3 : RS) (r1 : Int) (r2 : Int) (r3 : Int) (r4 : Int) (r5 : Int) (r6 : Bool) (r7 : Int) (r8 : Int) (r9 : Int) (r10 : List Int) (r11 : List Int) (r12 : Int) (w : World) (hr0 : Kd.C (Kd.int .u8) w A0 l0.length l0) (hl : l0.length ≤ 1000000) (hb0 : bytesIn l0) (hk : rd1 ((l0, false) : RS) = 4) (hls : rd8 (rdN 1 ((l0, false) : RS)) = ls) (hep : rd4 (rdN 8 (rdN 1 ((l0, false) : RS))) = ep) (hs3 : rdN 4 (rdN 8 (rdN 1 ((l0, false) : RS))) = s3) (h : getFin 4 ls ep (rd4 s3) (rd1 (rdN 4 s3)) ((rd1 (rdN 1 (rdN 4 s3))) == 1) (rd1 (rdN 1 (rdN 1 (rdN 4 s3)))) (rd1 (rdN 1 (rdN 1 (rdN 1 (rdN 4 s3))))) 0 [] [] (rd1 (rdN 1 (rdN 4 s3))) (rdN 1 (rdN 1 (rdN 1 (rdN 1 (rdN 4 s3))))) = (r1, r2, r3, r4, r5, r6, r7, r8, r9, r10, r11, r12)) :
    Calls Try.prog 21 #[.slice A0 l0.length c0] w fun e w' => ∃ v9_ v10_ : Value, e = .returned (.tuple #[.agg #[.int .i64 r1, .int .u64 r2, .int .u32 r3, .int .u32 r4, .int .i64 r5, .bool r6, .int .i64 r7, .int .i64 r8, .int .u64 r9, v9_, v10_], .int .i64 r12]) ∧ Kd.R (Kd.int .u8) 5 w' w.heap.size (fun k_ => some k_ ≠ (v10_ : Value).ownBlock) v9_ r10 ∧ Kd.R (Kd.int .u8) 5 w' w.heap.size (fun k_ => some k_ ≠ (v9_ : Value).ownBlock) v10_ r11 ∧ Below w.heap.size w w' := by
  unfold getFin at h
  cases hd : (doneI (rdN 1 (rdN 1 (rdN 1 (rdN 1 (rdN 4 s3))))) != 0) with
  | true =>
    rw [hd] at h
    simp only [cond_true, cond_false, Prod.mk.injEq] at h
    obtain ⟨rfl, rfl, rfl, rfl, rfl, rfl, rfl, rfl, rfl, rfl, rfl, rfl⟩ := h
    exact get_4_done A0 c0 l0 _ _ _ _ _ _ _ _ _ _ _ _ _ _ _ w hr0 hl hb0 hk rfl hls rfl hep hs3 rfl rfl rfl rfl rfl rfl rfl rfl rfl rfl hd
  | false =>
    rw [hd] at h
    cases hu : decide (1 < (rd1 (rdN 1 (rdN 4 s3)))) with
    | true =>
      rw [hu] at h
      simp only [cond_true, cond_false, Prod.mk.injEq] at h
      obtain ⟨rfl, rfl, rfl, rfl, rfl, rfl, rfl, rfl, rfl, rfl, rfl, rfl⟩ := h
      exact get_4_undo A0 c0 l0 _ _ _ _ _ _ _ _ _ _ _ _ _ _ _ w hr0 hl hb0 hk rfl hls rfl hep hs3 rfl rfl rfl rfl rfl rfl rfl rfl rfl rfl hd hu
    | false =>
      rw [hu] at h
      cases hok : entryOk 4 ls ep (rd4 s3) (rd1 (rdN 4 s3)) ((rd1 (rdN 1 (rdN 4 s3))) == 1) (rd1 (rdN 1 (rdN 1 (rdN 4 s3)))) (rd1 (rdN 1 (rdN 1 (rdN 1 (rdN 4 s3))))) 0 0 0 with
      | true =>
        rw [show (([] : List Int).length) = 0 from rfl, hok] at h
        simp only [cond_true, cond_false, Prod.mk.injEq] at h
        obtain ⟨rfl, rfl, rfl, rfl, rfl, rfl, rfl, rfl, rfl, rfl, rfl, rfl⟩ := h
        exact get_4_ok A0 c0 l0 _ _ _ _ _ _ _ _ _ _ _ _ _ _ _ w hr0 hl hb0 hk rfl hls rfl hep hs3 rfl rfl rfl rfl rfl rfl rfl rfl rfl rfl hd hu hok
      | false =>
        rw [show (([] : List Int).length) = 0 from rfl, hok] at h
        simp only [cond_true, cond_false, Prod.mk.injEq] at h
        obtain ⟨rfl, rfl, rfl, rfl, rfl, rfl, rfl, rfl, rfl, rfl, rfl, rfl⟩ := h
        exact get_4_check A0 c0 l0 _ _ _ _ _ _ _ _ _ _ _ _ _ _ _ w hr0 hl hb0 hk rfl hls rfl hep hs3 rfl rfl rfl rfl rfl rfl rfl rfl rfl rfl hd hu hok
theorem get_5 (A0 : Option Addr) (c0 : Nat) (l0 : List Int) (ls ep : Int) (s3 : RS) (r1 : Int) (r2 : Int) (r3 : Int) (r4 : Int) (r5 : Int) (r6 : Bool) (r7 : Int) (r8 : Int) (r9 : Int) (r10 : List Int) (r11 : List Int) (r12 : Int) (w : World) (hr0 : Kd.C (Kd.int .u8) w A0 l0.length l0) (hl : l0.length ≤ 1000000) (hb0 : bytesIn l0) (hk : rd1 ((l0, false) : RS) = 5) (hls : rd8 (rdN 1 ((l0, false) : RS)) = ls) (hep : rd4 (rdN 8 (rdN 1 ((l0, false) : RS))) = ep) (hs3 : rdN 4 (rdN 8 (rdN 1 ((l0, false) : RS))) = s3) (h : getFin 5 ls ep (rd4 s3) 0 false 0 (rd1 (rdN 4 s3)) 0 [] [] 0 (rdN 1 (rdN 4 s3)) = (r1, r2, r3, r4, r5, r6, r7, r8, r9, r10, r11, r12)) :
    Calls Try.prog 21 #[.slice A0 l0.length c0] w fun e w' => ∃ v9_ v10_ : Value, e = .returned (.tuple #[.agg #[.int .i64 r1, .int .u64 r2, .int .u32 r3, .int .u32 r4, .int .i64 r5, .bool r6, .int .i64 r7, .int .i64 r8, .int .u64 r9, v9_, v10_], .int .i64 r12]) ∧ Kd.R (Kd.int .u8) 5 w' w.heap.size (fun k_ => some k_ ≠ (v10_ : Value).ownBlock) v9_ r10 ∧ Kd.R (Kd.int .u8) 5 w' w.heap.size (fun k_ => some k_ ≠ (v9_ : Value).ownBlock) v10_ r11 ∧ Below w.heap.size w w' := by
  unfold getFin at h
  cases hd : (doneI (rdN 1 (rdN 4 s3)) != 0) with
  | true =>
    rw [hd] at h
    simp only [cond_true, cond_false, Prod.mk.injEq] at h
    obtain ⟨rfl, rfl, rfl, rfl, rfl, rfl, rfl, rfl, rfl, rfl, rfl, rfl⟩ := h
    exact get_5_done A0 c0 l0 _ _ _ _ _ _ _ _ _ w hr0 hl hb0 hk rfl hls rfl hep hs3 rfl rfl rfl rfl hd
  | false =>
    rw [hd] at h
    rw [show decide ((1 : Int) < 0) = false from rfl] at h
    cases hok : entryOk 5 ls ep (rd4 s3) 0 false 0 (rd1 (rdN 4 s3)) 0 0 0 with
    | true =>
      rw [show (([] : List Int).length) = 0 from rfl, hok] at h
      simp only [cond_true, cond_false, Prod.mk.injEq] at h
      obtain ⟨rfl, rfl, rfl, rfl, rfl, rfl, rfl, rfl, rfl, rfl, rfl, rfl⟩ := h
      exact get_5_ok A0 c0 l0 _ _ _ _ _ _ _ _ _ w hr0 hl hb0 hk rfl hls rfl hep hs3 rfl rfl rfl rfl hd hok
    | false =>
      rw [show (([] : List Int).length) = 0 from rfl, hok] at h
      simp only [cond_true, cond_false, Prod.mk.injEq] at h
      obtain ⟨rfl, rfl, rfl, rfl, rfl, rfl, rfl, rfl, rfl, rfl, rfl, rfl⟩ := h
      exact get_5_check A0 c0 l0 _ _ _ _ _ _ _ _ _ w hr0 hl hb0 hk rfl hls rfl hep hs3 rfl rfl rfl rfl hd hok
theorem get_6 (A0 : Option Addr) (c0 : Nat) (l0 : List Int) (ls ep : Int) (s3 : RS) (r1 : Int) (r2 : Int) (r3 : Int) (r4 : Int) (r5 : Int) (r6 : Bool) (r7 : Int) (r8 : Int) (r9 : Int) (r10 : List Int) (r11 : List Int) (r12 : Int) (w : World) (hr0 : Kd.C (Kd.int .u8) w A0 l0.length l0) (hl : l0.length ≤ 1000000) (hb0 : bytesIn l0) (hk : rd1 ((l0, false) : RS) = 6) (hls : rd8 (rdN 1 ((l0, false) : RS)) = ls) (hep : rd4 (rdN 8 (rdN 1 ((l0, false) : RS))) = ep) (hs3 : rdN 4 (rdN 8 (rdN 1 ((l0, false) : RS))) = s3) (h : getFin 6 ls ep 0 0 false 0 (rd1 s3) 0 [] [] 0 (rdN 1 s3) = (r1, r2, r3, r4, r5, r6, r7, r8, r9, r10, r11, r12)) :
    Calls Try.prog 21 #[.slice A0 l0.length c0] w fun e w' => ∃ v9_ v10_ : Value, e = .returned (.tuple #[.agg #[.int .i64 r1, .int .u64 r2, .int .u32 r3, .int .u32 r4, .int .i64 r5, .bool r6, .int .i64 r7, .int .i64 r8, .int .u64 r9, v9_, v10_], .int .i64 r12]) ∧ Kd.R (Kd.int .u8) 5 w' w.heap.size (fun k_ => some k_ ≠ (v10_ : Value).ownBlock) v9_ r10 ∧ Kd.R (Kd.int .u8) 5 w' w.heap.size (fun k_ => some k_ ≠ (v9_ : Value).ownBlock) v10_ r11 ∧ Below w.heap.size w w' := by
  unfold getFin at h
  cases hd : (doneI (rdN 1 s3) != 0) with
  | true =>
    rw [hd] at h
    simp only [cond_true, cond_false, Prod.mk.injEq] at h
    obtain ⟨rfl, rfl, rfl, rfl, rfl, rfl, rfl, rfl, rfl, rfl, rfl, rfl⟩ := h
    exact get_6_done A0 c0 l0 _ _ _ _ _ _ _ w hr0 hl hb0 hk rfl hls rfl hep hs3 rfl rfl hd
  | false =>
    rw [hd] at h
    rw [show decide ((1 : Int) < 0) = false from rfl] at h
    cases hok : entryOk 6 ls ep 0 0 false 0 (rd1 s3) 0 0 0 with
    | true =>
      rw [show (([] : List Int).length) = 0 from rfl, hok] at h
      simp only [cond_true, cond_false, Prod.mk.injEq] at h
      obtain ⟨rfl, rfl, rfl, rfl, rfl, rfl, rfl, rfl, rfl, rfl, rfl, rfl⟩ := h
      exact get_6_ok A0 c0 l0 _ _ _ _ _ _ _ w hr0 hl hb0 hk rfl hls rfl hep hs3 rfl rfl hd hok
    | false =>
      rw [show (([] : List Int).length) = 0 from rfl, hok] at h
      simp only [cond_true, cond_false, Prod.mk.injEq] at h
      obtain ⟨rfl, rfl, rfl, rfl, rfl, rfl, rfl, rfl, rfl, rfl, rfl, rfl⟩ := h
      exact get_6_check A0 c0 l0 _ _ _ _ _ _ _ w hr0 hl hb0 hk rfl hls rfl hep hs3 rfl rfl hd hok
theorem get_7 (A0 : Option Addr) (c0 : Nat) (l0 : List Int) (ls ep : Int) (s3 : RS) (r1 : Int) (r2 : Int) (r3 : Int) (r4 : Int) (r5 : Int) (r6 : Bool) (r7 : Int) (r8 : Int) (r9 : Int) (r10 : List Int) (r11 : List Int) (r12 : Int) (w : World) (hr0 : Kd.C (Kd.int .u8) w A0 l0.length l0) (hl : l0.length ≤ 1000000) (hb0 : bytesIn l0) (hk : rd1 ((l0, false) : RS) = 7) (hls : rd8 (rdN 1 ((l0, false) : RS)) = ls) (hep : rd4 (rdN 8 (rdN 1 ((l0, false) : RS))) = ep) (hs3 : rdN 4 (rdN 8 (rdN 1 ((l0, false) : RS))) = s3) (h : getFin 7 ls ep 0 0 false 0 0 (rd8 s3) [] [] 0 (rdN 8 s3) = (r1, r2, r3, r4, r5, r6, r7, r8, r9, r10, r11, r12)) :
    Calls Try.prog 21 #[.slice A0 l0.length c0] w fun e w' => ∃ v9_ v10_ : Value, e = .returned (.tuple #[.agg #[.int .i64 r1, .int .u64 r2, .int .u32 r3, .int .u32 r4, .int .i64 r5, .bool r6, .int .i64 r7, .int .i64 r8, .int .u64 r9, v9_, v10_], .int .i64 r12]) ∧ Kd.R (Kd.int .u8) 5 w' w.heap.size (fun k_ => some k_ ≠ (v10_ : Value).ownBlock) v9_ r10 ∧ Kd.R (Kd.int .u8) 5 w' w.heap.size (fun k_ => some k_ ≠ (v9_ : Value).ownBlock) v10_ r11 ∧ Below w.heap.size w w' := by
  unfold getFin at h
  cases hd : (doneI (rdN 8 s3) != 0) with
  | true =>
    rw [hd] at h
    simp only [cond_true, cond_false, Prod.mk.injEq] at h
    obtain ⟨rfl, rfl, rfl, rfl, rfl, rfl, rfl, rfl, rfl, rfl, rfl, rfl⟩ := h
    exact get_7_done A0 c0 l0 _ _ _ _ _ _ _ w hr0 hl hb0 hk rfl hls rfl hep hs3 rfl rfl hd
  | false =>
    rw [hd] at h
    rw [show decide ((1 : Int) < 0) = false from rfl] at h
    cases hok : entryOk 7 ls ep 0 0 false 0 0 (rd8 s3) 0 0 with
    | true =>
      rw [show (([] : List Int).length) = 0 from rfl, hok] at h
      simp only [cond_true, cond_false, Prod.mk.injEq] at h
      obtain ⟨rfl, rfl, rfl, rfl, rfl, rfl, rfl, rfl, rfl, rfl, rfl, rfl⟩ := h
      exact get_7_ok A0 c0 l0 _ _ _ _ _ _ _ w hr0 hl hb0 hk rfl hls rfl hep hs3 rfl rfl hd hok
    | false =>
      rw [show (([] : List Int).length) = 0 from rfl, hok] at h
      simp only [cond_true, cond_false, Prod.mk.injEq] at h
      obtain ⟨rfl, rfl, rfl, rfl, rfl, rfl, rfl, rfl, rfl, rfl, rfl, rfl⟩ := h
      exact get_7_check A0 c0 l0 _ _ _ _ _ _ _ w hr0 hl hb0 hk rfl hls rfl hep hs3 rfl rfl hd hok
theorem get_8 (A0 : Option Addr) (c0 : Nat) (l0 : List Int) (k ls ep : Int) (s3 : RS) (r1 : Int) (r2 : Int) (r3 : Int) (r4 : Int) (r5 : Int) (r6 : Bool) (r7 : Int) (r8 : Int) (r9 : Int) (r10 : List Int) (r11 : List Int) (r12 : Int) (w : World) (hr0 : Kd.C (Kd.int .u8) w A0 l0.length l0) (hl : l0.length ≤ 1000000) (hb0 : bytesIn l0) (hk : rd1 ((l0, false) : RS) = k) (hls : rd8 (rdN 1 ((l0, false) : RS)) = ls) (hep : rd4 (rdN 8 (rdN 1 ((l0, false) : RS))) = ep) (hs3 : rdN 4 (rdN 8 (rdN 1 ((l0, false) : RS))) = s3) (g2 : (k == 2) = false) (g3 : (k == 3) = false) (g4 : (k == 4) = false) (g5 : (k == 5) = false) (g6 : (k == 6) = false) (g7 : (k == 7) = false) (h : getFin k ls ep 0 0 false 0 0 0 [] [] 0 s3 = (r1, r2, r3, r4, r5, r6, r7, r8, r9, r10, r11, r12)) :
    Calls Try.prog 21 #[.slice A0 l0.length c0] w fun e w' => ∃ v9_ v10_ : Value, e = .returned (.tuple #[.agg #[.int .i64 r1, .int .u64 r2, .int .u32 r3, .int .u32 r4, .int .i64 r5, .bool r6, .int .i64 r7, .int .i64 r8, .int .u64 r9, v9_, v10_], .int .i64 r12]) ∧ Kd.R (Kd.int .u8) 5 w' w.heap.size (fun k_ => some k_ ≠ (v10_ : Value).ownBlock) v9_ r10 ∧ Kd.R (Kd.int .u8) 5 w' w.heap.size (fun k_ => some k_ ≠ (v9_ : Value).ownBlock) v10_ r11 ∧ Below w.heap.size w w' := by
  unfold getFin at h
  cases hd : (doneI s3 != 0) with
  | true =>
    rw [hd] at h
    simp only [cond_true, cond_false, Prod.mk.injEq] at h
    obtain ⟨rfl, rfl, rfl, rfl, rfl, rfl, rfl, rfl, rfl, rfl, rfl, rfl⟩ := h
    exact get_8_done A0 c0 l0 _ _ _ _ _ _ w hr0 hl hb0 hk rfl hls rfl hep hs3 g2 g3 g4 g5 g6 g7 hd
  | false =>
    rw [hd] at h
    rw [show decide ((1 : Int) < 0) = false from rfl] at h
    cases hok : entryOk k ls ep 0 0 false 0 0 0 0 0 with
    | true =>
      rw [show (([] : List Int).length) = 0 from rfl, hok] at h
      simp only [cond_true, cond_false, Prod.mk.injEq] at h
      obtain ⟨rfl, rfl, rfl, rfl, rfl, rfl, rfl, rfl, rfl, rfl, rfl, rfl⟩ := h
      exact get_8_ok A0 c0 l0 _ _ _ _ _ _ w hr0 hl hb0 hk rfl hls rfl hep hs3 g2 g3 g4 g5 g6 g7 hd hok
    | false =>
      rw [show (([] : List Int).length) = 0 from rfl, hok] at h
      simp only [cond_true, cond_false, Prod.mk.injEq] at h
      obtain ⟨rfl, rfl, rfl, rfl, rfl, rfl, rfl, rfl, rfl, rfl, rfl, rfl⟩ := h
      exact get_8_check A0 c0 l0 _ _ _ _ _ _ w hr0 hl hb0 hk rfl hls rfl hep hs3 g2 g3 g4 g5 g6 g7 hd hok
theorem entry_Get.calls (A0 : Option Addr) (c0 : Nat) (l0 : List Int) (r1 : Int) (r2 : Int) (r3 : Int) (r4 : Int) (r5 : Int) (r6 : Bool) (r7 : Int) (r8 : Int) (r9 : Int) (r10 : List Int) (r11 : List Int) (r12 : Int) (w : World) (hr0 : Kd.C (Kd.int .u8) w A0 l0.length l0) (hc0 : l0.length ≤ c0) (h : entry_Get.f l0 = some (r1, r2, r3, r4, r5, r6, r7, r8, r9, r10, r11, r12)) :
    Calls Try.prog 21 #[.slice A0 l0.length c0] w fun e w' => ∃ v9_ v10_ : Value, e = .returned (.tuple #[.agg #[.int .i64 r1, .int .u64 r2, .int .u32 r3, .int .u32 r4, .int .i64 r5, .bool r6, .int .i64 r7, .int .i64 r8, .int .u64 r9, v9_, v10_], .int .i64 r12]) ∧ Kd.R (Kd.int .u8) 5 w' w.heap.size (fun k_ => some k_ ≠ (v10_ : Value).ownBlock) v9_ r10 ∧ Kd.R (Kd.int .u8) 5 w' w.heap.size (fun k_ => some k_ ≠ (v9_ : Value).ownBlock) v10_ r11 ∧ Below w.heap.size w w' := by
  unfold entry_Get.f at h
  cases hb : bytesOk l0 with
  | false => rw [hb] at h; exact absurd h (by simp)
  | true =>
    rw [hb, cond_true] at h
    obtain ⟨hl, hb0⟩ := bytesOk_so hb
    have h := Option.some.inj h
    unfold getM at h
    generalize hk : rd1 ((l0, false) : RS) = k at h
    generalize hls : rd8 (rdN 1 ((l0, false) : RS)) = ls at h
    generalize hep : rd4 (rdN 8 (rdN 1 ((l0, false) : RS))) = ep at h
    generalize hs3 : rdN 4 (rdN 8 (rdN 1 ((l0, false) : RS))) = s3 at h
    unfold getKind at h
    by_cases h2 : k = 2
    · subst h2
      rw [show ((2 : Int) == 2) = true from rfl, cond_true] at h
      exact get_2 A0 c0 l0 ls ep s3 r1 r2 r3 r4 r5 r6 r7 r8 r9 r10 r11 r12 w hr0 hl hb0 hk hls hep hs3 h
    replace h2 : (k == 2) = false := beq_eq_false_iff_ne.mpr h2
    by_cases h3 : k = 3
    · subst h3
      rw [show ((3 : Int) == 2) = false from rfl, cond_false] at h
      rw [show ((3 : Int) == 3) = true from rfl, cond_true] at h
      exact get_3 A0 c0 l0 ls ep s3 r1 r2 r3 r4 r5 r6 r7 r8 r9 r10 r11 r12 w hr0 hl hb0 hk hls hep hs3 h
    replace h3 : (k == 3) = false := beq_eq_false_iff_ne.mpr h3
    by_cases h4 : k = 4
    · subst h4
      rw [show ((4 : Int) == 2) = false from rfl, cond_false] at h
      rw [show ((4 : Int) == 3) = false from rfl, cond_false] at h
      rw [show ((4 : Int) == 4) = true from rfl, cond_true] at h
      exact get_4 A0 c0 l0 ls ep s3 r1 r2 r3 r4 r5 r6 r7 r8 r9 r10 r11 r12 w hr0 hl hb0 hk hls hep hs3 h
    replace h4 : (k == 4) = false := beq_eq_false_iff_ne.mpr h4
    by_cases h5 : k = 5
    · subst h5
      rw [show ((5 : Int) == 2) = false from rfl, cond_false] at h
      rw [show ((5 : Int) == 3) = false from rfl, cond_false] at h
      rw [show ((5 : Int) == 4) = false from rfl, cond_false] at h
      rw [show ((5 : Int) == 5) = true from rfl, cond_true] at h
      exact get_5 A0 c0 l0 ls ep s3 r1 r2 r3 r4 r5 r6 r7 r8 r9 r10 r11 r12 w hr0 hl hb0 hk hls hep hs3 h
    replace h5 : (k == 5) = false := beq_eq_false_iff_ne.mpr h5
    by_cases h6 : k = 6
    · subst h6
      rw [show ((6 : Int) == 2) = false from rfl, cond_false] at h
      rw [show ((6 : Int) == 3) = false from rfl, cond_false] at h
      rw [show ((6 : Int) == 4) = false from rfl, cond_false] at h
      rw [show ((6 : Int) == 5) = false from rfl, cond_false] at h
      rw [show ((6 : Int) == 6) = true from rfl, cond_true] at h
      exact get_6 A0 c0 l0 ls ep s3 r1 r2 r3 r4 r5 r6 r7 r8 r9 r10 r11 r12 w hr0 hl hb0 hk hls hep hs3 h
    replace h6 : (k == 6) = false := beq_eq_false_iff_ne.mpr h6
    by_cases h7 : k = 7
    · subst h7
      rw [show ((7 : Int) == 2) = false from rfl, cond_false] at h
      rw [show ((7 : Int) == 3) = false from rfl, cond_false] at h
      rw [show ((7 : Int) == 4) = false from rfl, cond_false] at h
      rw [show ((7 : Int) == 5) = false from rfl, cond_false] at h
      rw [show ((7 : Int) == 6) = false from rfl, cond_false] at h
      rw [show ((7 : Int) == 7) = true from rfl, cond_true] at h
      exact get_7 A0 c0 l0 ls ep s3 r1 r2 r3 r4 r5 r6 r7 r8 r9 r10 r11 r12 w hr0 hl hb0 hk hls hep hs3 h
    replace h7 : (k == 7) = false := beq_eq_false_iff_ne.mpr h7
    rw [h2, h3, h4, h5, h6, h7] at h
    simp only [cond_false] at h
    exact get_8 A0 c0 l0 k ls ep s3 r1 r2 r3 r4 r5 r6 r7 r8 r9 r10 r11 r12 w hr0 hl hb0 hk hls hep hs3 h2 h3 h4 h5 h6 h7 h

end Go.Proofs.Ytahldljkhjebgaa.PA
