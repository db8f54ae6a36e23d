-- printed by a program of this work (wip/tools/pr.py over the kit's print; laid by lift04.py): the machine's side of EntryRows
import Derived.Test.YtahldljkhjebgaaQRwPAx1
import Derived.Test.YtahldljkhjebgaaQRwPAx4
import Derived.Test.YtahldljkhjebgaaQRwPAx5
import Derived.Test.YtahldljkhjebgaaQRwPAx20
import Derived.Test.YtahldljkhjebgaaQRwPAx21
import Derived.Test.YtahldljkhjebgaaQRwPAx29
namespace Go.Proofs.Ytahldljkhjebgaa.PA
open Go.RowKit Go.Proofs.YtahldljkhjebgaaW.PrintWords Go.Proofs.YtahldljkhjebgaaW.PrintLast Go.Proofs.YtahldljkhjebgaaW.PrintMore
attribute [local go_sem] max2_int min2_int max_two min_two max_three min_three max_four min_four   -- for this text's walks alone
set_option linter.unusedVariables false
set_option linter.unusedSimpArgs false
/-! ### drayageref04_plain: function 50 -/
set_option maxHeartbeats 8000000 in
set_option maxRecDepth 100000 in
theorem plain_1 (ls ep o st : Int) (un : Bool) (tr co mk : Int) (A9 : Option Addr) (n9 c9 : Nat) (A10 : Option Addr) (n10 c10 : Nat) (w : World) : Calls Try.prog 50 #[.agg #[.int .i64 1, .int .u64 ls, .int .u32 ep, .int .u32 o, .int .i64 st, .bool un, .int .i64 tr, .int .i64 co, .int .u64 mk, .slice A9 n9 c9, .slice A10 n10 c10]] w fun e w' => e = .returned (.agg #[.int .i64 1, .int .u64 ls, .int .u32 ep, .int .u32 0, .int .i64 0, .bool false, .int .i64 0, .int .i64 0, .int .u64 0, .slice none 0 0, .slice none 0 0]) ∧ Below w.heap.size w w' := by
  go_enter Try.func50, Try.ntmps50
  go_wp2
  refine bodyPost_ret ?_ rfl ⟨rfl, ?_⟩
  · simp [results, Try.results50, go_sem]
  · repeat (first | exact Below.refl _ _ | apply below_alloc | refine below_set ?_ (by first | omega | (simp; omega) | simp))
set_option maxHeartbeats 8000000 in
set_option maxRecDepth 100000 in
theorem plain_2 (ls ep o st : Int) (un : Bool) (tr co mk : Int) (A9 : Option Addr) (n9 c9 : Nat) (A10 : Option Addr) (n10 c10 : Nat) (w : World) : Calls Try.prog 50 #[.agg #[.int .i64 2, .int .u64 ls, .int .u32 ep, .int .u32 o, .int .i64 st, .bool un, .int .i64 tr, .int .i64 co, .int .u64 mk, .slice A9 n9 c9, .slice A10 n10 c10]] w fun e w' => e = .returned (.agg #[.int .i64 2, .int .u64 ls, .int .u32 ep, .int .u32 o, .int .i64 0, .bool false, .int .i64 0, .int .i64 0, .int .u64 0, .slice A9 n9 c9, .slice A10 n10 c10]) ∧ Below w.heap.size w w' := by
  go_enter Try.func50, Try.ntmps50
  go_wp2
  refine bodyPost_ret ?_ rfl ⟨rfl, ?_⟩
  · simp [results, Try.results50, go_sem]
  · repeat (first | exact Below.refl _ _ | apply below_alloc | refine below_set ?_ (by first | omega | (simp; omega) | simp))
set_option maxHeartbeats 8000000 in
set_option maxRecDepth 100000 in
theorem plain_3 (ls ep o st : Int) (un : Bool) (tr co mk : Int) (A9 : Option Addr) (n9 c9 : Nat) (A10 : Option Addr) (n10 c10 : Nat) (w : World) : Calls Try.prog 50 #[.agg #[.int .i64 3, .int .u64 ls, .int .u32 ep, .int .u32 o, .int .i64 st, .bool un, .int .i64 tr, .int .i64 co, .int .u64 mk, .slice A9 n9 c9, .slice A10 n10 c10]] w fun e w' => e = .returned (.agg #[.int .i64 3, .int .u64 ls, .int .u32 ep, .int .u32 o, .int .i64 st, .bool un, .int .i64 tr, .int .i64 0, .int .u64 0, .slice none 0 0, .slice none 0 0]) ∧ Below w.heap.size w w' := by
  go_enter Try.func50, Try.ntmps50
  go_wp2
  refine bodyPost_ret ?_ rfl ⟨rfl, ?_⟩
  · simp [results, Try.results50, go_sem]
  · repeat (first | exact Below.refl _ _ | apply below_alloc | refine below_set ?_ (by first | omega | (simp; omega) | simp))
set_option maxHeartbeats 8000000 in
set_option maxRecDepth 100000 in
theorem plain_4 (ls ep o st : Int) (un : Bool) (tr co mk : Int) (A9 : Option Addr) (n9 c9 : Nat) (A10 : Option Addr) (n10 c10 : Nat) (w : World) : Calls Try.prog 50 #[.agg #[.int .i64 4, .int .u64 ls, .int .u32 ep, .int .u32 o, .int .i64 st, .bool un, .int .i64 tr, .int .i64 co, .int .u64 mk, .slice A9 n9 c9, .slice A10 n10 c10]] w fun e w' => e = .returned (.agg #[.int .i64 4, .int .u64 ls, .int .u32 ep, .int .u32 o, .int .i64 st, .bool un, .int .i64 tr, .int .i64 co, .int .u64 0, .slice none 0 0, .slice none 0 0]) ∧ Below w.heap.size w w' := by
  go_enter Try.func50, Try.ntmps50
  go_wp2
  refine bodyPost_ret ?_ rfl ⟨rfl, ?_⟩
  · simp [results, Try.results50, go_sem]
  · repeat (first | exact Below.refl _ _ | apply below_alloc | refine below_set ?_ (by first | omega | (simp; omega) | simp))
set_option maxHeartbeats 8000000 in
set_option maxRecDepth 100000 in
theorem plain_5 (ls ep o st : Int) (un : Bool) (tr co mk : Int) (A9 : Option Addr) (n9 c9 : Nat) (A10 : Option Addr) (n10 c10 : Nat) (w : World) : Calls Try.prog 50 #[.agg #[.int .i64 5, .int .u64 ls, .int .u32 ep, .int .u32 o, .int .i64 st, .bool un, .int .i64 tr, .int .i64 co, .int .u64 mk, .slice A9 n9 c9, .slice A10 n10 c10]] w fun e w' => e = .returned (.agg #[.int .i64 5, .int .u64 ls, .int .u32 ep, .int .u32 o, .int .i64 0, .bool false, .int .i64 0, .int .i64 co, .int .u64 0, .slice none 0 0, .slice none 0 0]) ∧ Below w.heap.size w w' := by
  go_enter Try.func50, Try.ntmps50
  go_wp2
  refine bodyPost_ret ?_ rfl ⟨rfl, ?_⟩
  · simp [results, Try.results50, go_sem]
  · repeat (first | exact Below.refl _ _ | apply below_alloc | refine below_set ?_ (by first | omega | (simp; omega) | simp))
set_option maxHeartbeats 8000000 in
set_option maxRecDepth 100000 in
theorem plain_6 (ls ep o st : Int) (un : Bool) (tr co mk : Int) (A9 : Option Addr) (n9 c9 : Nat) (A10 : Option Addr) (n10 c10 : Nat) (w : World) : Calls Try.prog 50 #[.agg #[.int .i64 6, .int .u64 ls, .int .u32 ep, .int .u32 o, .int .i64 st, .bool un, .int .i64 tr, .int .i64 co, .int .u64 mk, .slice A9 n9 c9, .slice A10 n10 c10]] w fun e w' => e = .returned (.agg #[.int .i64 6, .int .u64 ls, .int .u32 ep, .int .u32 0, .int .i64 0, .bool false, .int .i64 0, .int .i64 co, .int .u64 0, .slice none 0 0, .slice none 0 0]) ∧ Below w.heap.size w w' := by
  go_enter Try.func50, Try.ntmps50
  go_wp2
  refine bodyPost_ret ?_ rfl ⟨rfl, ?_⟩
  · simp [results, Try.results50, go_sem]
  · repeat (first | exact Below.refl _ _ | apply below_alloc | refine below_set ?_ (by first | omega | (simp; omega) | simp))
set_option maxHeartbeats 8000000 in
set_option maxRecDepth 100000 in
theorem plain_7 (ls ep o st : Int) (un : Bool) (tr co mk : Int) (A9 : Option Addr) (n9 c9 : Nat) (A10 : Option Addr) (n10 c10 : Nat) (w : World) : Calls Try.prog 50 #[.agg #[.int .i64 7, .int .u64 ls, .int .u32 ep, .int .u32 o, .int .i64 st, .bool un, .int .i64 tr, .int .i64 co, .int .u64 mk, .slice A9 n9 c9, .slice A10 n10 c10]] w fun e w' => e = .returned (.agg #[.int .i64 7, .int .u64 ls, .int .u32 ep, .int .u32 0, .int .i64 0, .bool false, .int .i64 0, .int .i64 0, .int .u64 mk, .slice none 0 0, .slice none 0 0]) ∧ Below w.heap.size w w' := by
  go_enter Try.func50, Try.ntmps50
  go_wp2
  refine bodyPost_ret ?_ rfl ⟨rfl, ?_⟩
  · simp [results, Try.results50, go_sem]
  · repeat (first | exact Below.refl _ _ | apply below_alloc | refine below_set ?_ (by first | omega | (simp; omega) | simp))

/-! ### drayageref04_Check: function 37 -/
theorem ite_no {c : Bool} {A B : Prop} (hc : c = false) (h : B) : (if c = true then A else B) := by
  rw [if_neg (by rw [hc]; decide)]
  exact h
def drayageref04_Check.T2 : Bool × List (List Nat × List Nat) := (true, [([], []), ([0], [0]), ([1], [1]), ([2], [2]), ([3, 2], [2, 3]), ([4, 2], [2, 4]), ([2, 5], [2, 5]), ([6, 2], [6]), ([7], [7]), ([8, 7], [7, 8]), ([9, 7], [7, 9]), ([7, 10], [7, 10]), ([11, 7], [11]), ([12], [12]), ([12], [12]), ([14, 12, 12], [12, 14]), ([13, 15, 15, 12], [12, 13, 15]), ([16, 12], [12, 16]), ([12, 17], [12, 17])])
def drayageref04_Check.B2 : List Nat := [0, 1, 3, 7, 15, 31, 63, 127, 255, 511, 1023, 2047, 4095, 8191, 8191, 24575, 65535, 131071, 262143]
theorem drayageref04_Check.tab2 : rtab .any (opsOf Try.f37 2) = drayageref04_Check.T2 := by kernel_rfl
theorem drayageref04_Check.bits2 : waitsOk drayageref04_Check.T2.2 drayageref04_Check.B2 = true := by kernel_rfl
set_option maxHeartbeats 20000000 in
set_option maxRecDepth 100000 in
theorem refCheck_bad (m : Nat) (k ls ep o st : Int) (un : Bool) (tr co mk : Int) (A9 : Option Addr) (c9 : Nat) (l9 : List Int) (A10 : Option Addr) (c10 : Nat) (l10 : List Int) (r1 : List S86) (w : World) (hC9 : Kd.C (Kd.int .u8) w A9 l9.length l9) (hc9 : l9.length ≤ c9) (hC10 : Kd.C (Kd.int .u8) w A10 l10.length l10) (hc10 : l10.length ≤ c10) (hf : drayageref04_fields.f m k ls ep o st un tr co mk l9 l10 = some (r1, false)) : Calls Try.prog 37 #[.agg #[.int .i64 k, .int .u64 ls, .int .u32 ep, .int .u32 o, .int .i64 st, .bool un, .int .i64 tr, .int .i64 co, .int .u64 mk, .slice A9 l9.length c9, .slice A10 l10.length c10]] w fun e w' => e = .returned (.int .i64 40) ∧ Below w.heap.size w w' := by
  have GC9 := Aside0.mk hC9
  have Gc9 := Aside0.mk hc9
  have GC10 := Aside0.mk hC10
  have Gc10 := Aside0.mk hc10
  have HF := Aside0.mk hf
  clear hC9 hc9 hC10 hc10 hf
  go_enter Try.func37, Try.ntmps37
  go_wp2_with (first | (go_at_call 38; (with_reducible refine (drayageref04_fields.calls m k ls ep o st un tr co mk (fun k_ => k_ < (w.alloc (.cells #[.int .i64 k, .int .u64 ls, .int .u32 ep, .int .u32 o, .int .i64 st, .bool un, .int .i64 tr, .int .i64 co, .int .u64 mk, .slice A9 l9.length c9, .slice A10 l10.length c10] 26 (0, 0))).heap.size) A9 c9 l9 (fun k_ => k_ < (w.alloc (.cells #[.int .i64 k, .int .u64 ls, .int .u32 ep, .int .u32 o, .int .i64 st, .bool un, .int .i64 tr, .int .i64 co, .int .u64 mk, .slice A9 l9.length c9, .slice A10 l10.length c10] 26 (0, 0))).heap.size) A10 c10 l10 r1 false _ ?a1 ?a2 HF.out).mono ?_); (case a1 => exact Kd.V_mk Gc9.out (Kd.C_F (Kd.heap_int .u8) (Kd.C_alloc GC9.out _))); (case a2 => exact Kd.V_mk Gc10.out (Kd.C_F (Kd.heap_int .u8) (Kd.C_alloc GC10.out _))); rintro e w1 ⟨v0, rfl, hN, hb⟩; have BK := Aside0.mk (blk_below (heap_last _ _) hb); have HB := Aside0.mk (below_step (below_alloc (Below.refl _ _) _) hb); clear hN hb))
  have n_BK := Aside0.mk (blk_drew BK.out)
  have n_HB := Aside0.mk (below_drew1 HB.out)
  clear BK HB
  have BK := n_BK
  have HB := n_HB
  clear n_BK n_HB
  refine start_ (n := 19) (S := fun w' => w'.cell? ⟨w.heap.size, 0, none⟩ = some (.int .i64 k) ∧ w'.cell? ⟨w.heap.size, 1, none⟩ = some (.int .u64 ls) ∧ w'.cell? ⟨w.heap.size, 2, none⟩ = some (.int .u32 ep) ∧ w'.cell? ⟨w.heap.size, 3, none⟩ = some (.int .u32 o) ∧ w'.cell? ⟨w.heap.size, 4, none⟩ = some (.int .i64 st) ∧ w'.cell? ⟨w.heap.size, 5, none⟩ = some (.bool un) ∧ w'.cell? ⟨w.heap.size, 6, none⟩ = some (.int .i64 tr) ∧ w'.cell? ⟨w.heap.size, 7, none⟩ = some (.int .i64 co) ∧ w'.cell? ⟨w.heap.size, 8, none⟩ = some (.int .u64 mk) ∧ w'.cell? ⟨w.heap.size, 9, none⟩ = some (.slice A9 l9.length c9) ∧ w'.cell? ⟨w.heap.size, 10, none⟩ = some (.slice A10 l10.length c10)) (ds := []) #[false, false, false, false, false, false, false, false, false, false, false, false, false, false, false, false, false, false, false] (by kernel_rfl) rfl rfl ⟨(blk_cell BK.out 0).trans rfl, (blk_cell BK.out 1).trans rfl, (blk_cell BK.out 2).trans rfl, (blk_cell BK.out 3).trans rfl, (blk_cell BK.out 4).trans rfl, (blk_cell BK.out 5).trans rfl, (blk_cell BK.out 6).trans rfl, (blk_cell BK.out 7).trans rfl, (blk_cell BK.out 8).trans rfl, (blk_cell BK.out 9).trans rfl, (blk_cell BK.out 10).trans rfl⟩ (fun hHeld => ?_); refine with_tabW drayageref04_Check.tab2 drayageref04_Check.bits2 (fun HT_ HW_ => ?_)
  generalize w1.drew = wd_ at BK HB hHeld ⊢
  refine pure_ (i := 0) (N := some 10) (v := ?_) (a' := ?_) #[true, false, false, false, false, false, false, false, false, false, false, false, false, false, false, false, false, false, false] rfl rfl (any_of HT_.out (by kernel_rfl)) (fun _ _ _ h => h) (Or.inl ⟨by rfl, ?_⟩) ?_ ?_
  rotate_left
  · intro w'; go_simp; with_reducible rfl
  rotate_left
  · simp only [Act.put, List.setIfInBounds_toArray, List.set_cons_zero, List.set_cons_succ, i64_w, i32_w]; rfl
  refine pure_ (i := 1) (N := some 11) (v := ?_) (a' := ?_) #[true, true, false, false, false, false, false, false, false, false, false, false, false, false, false, false, false, false, false] rfl rfl (any_of HT_.out (by kernel_rfl)) (fun _ _ _ h => h) (Or.inl ⟨by rfl, ?_⟩) ?_ ?_
  rotate_left
  · intro w'; go_simp; with_reducible rfl
  rotate_left
  · simp only [Act.put, List.setIfInBounds_toArray, List.set_cons_zero, List.set_cons_succ, i64_w, i32_w]; rfl
  refine pure_ (i := 2) (N := some 12) (v := ?_) (a' := ?_) #[true, true, true, false, false, false, false, false, false, false, false, false, false, false, false, false, false, false, false] rfl rfl (any_of HT_.out (by kernel_rfl)) (fun _ _ _ h => h) (Or.inl ⟨by rfl, ?_⟩) ?_ ?_
  rotate_left
  · intro w'; go_simp; with_reducible rfl
  rotate_left
  · simp only [Act.put, List.setIfInBounds_toArray, List.set_cons_zero, List.set_cons_succ, i64_w, i32_w]; rfl
  refine pure_ (i := 3) (N := some 13) (v := undef) (a' := ?_) #[true, true, true, true, false, false, false, false, false, false, false, false, false, false, false, false, false, false, false] rfl rfl (any_of HT_.out (by kernel_rfl)) (fun _ _ _ h => h) (Or.inr ⟨by rfl, rfl⟩) ?_ ?_
  rotate_left
  · simp only [Act.put, List.setIfInBounds_toArray, List.set_cons_zero, List.set_cons_succ, i64_w, i32_w]; rfl
  refine take_ (i := 4) (N := some 14) (v := undef) (a' := ?_) #[true, true, true, true, true, false, false, false, false, false, false, false, false, false, false, false, false, false, false] rfl rfl (take_ofW HT_.out HW_.out (by kernel_rfl)) (fun _ _ _ h => h) (Or.inr ⟨by rfl, rfl⟩) hHeld ?_ ?_
  rotate_left
  · simp only [Act.put, List.setIfInBounds_toArray, List.set_cons_zero, List.set_cons_succ, i64_w, i32_w]; rfl
  refine pure_ (i := 5) (N := some 15) (v := undef) (a' := ?_) #[true, true, true, true, true, true, false, false, false, false, false, false, false, false, false, false, false, false, false] rfl rfl (any_of HT_.out (by kernel_rfl)) (fun _ _ _ h => h) (Or.inr ⟨by rfl, rfl⟩) ?_ ?_
  rotate_left
  · simp only [Act.put, List.setIfInBounds_toArray, List.set_cons_zero, List.set_cons_succ, i64_w, i32_w]; rfl
  refine pure_ (i := 6) (N := some 16) (v := ?_) (a' := ?_) #[true, true, true, true, true, true, true, false, false, false, false, false, false, false, false, false, false, false, false] rfl rfl (any_of HT_.out (by kernel_rfl)) (fun _ _ _ h => h) (Or.inl ⟨by rfl, ?_⟩) ?_ ?_
  rotate_left
  · intro w'; go_simp; with_reducible rfl
  rotate_left
  · simp only [Act.put, List.setIfInBounds_toArray, List.set_cons_zero, List.set_cons_succ, i64_w, i32_w]; rfl
  refine pure_ (i := 7) (N := some 17) (v := ?_) (a' := ?_) #[true, true, true, true, true, true, true, true, false, false, false, false, false, false, false, false, false, false, false] rfl rfl (any_of HT_.out (by kernel_rfl)) (fun _ _ _ h => h) (Or.inl ⟨by rfl, ?_⟩) ?_ ?_
  rotate_left
  · intro w'; go_simp; with_reducible rfl
  rotate_left
  · simp only [Act.put, List.setIfInBounds_toArray, List.set_cons_zero, List.set_cons_succ, i64_w, i32_w]; rfl
  refine pure_ (i := 8) (N := some 18) (v := undef) (a' := ?_) #[true, true, true, true, true, true, true, true, true, false, false, false, false, false, false, false, false, false, false] rfl rfl (any_of HT_.out (by kernel_rfl)) (fun _ _ _ h => h) (Or.inr ⟨by rfl, rfl⟩) ?_ ?_
  rotate_left
  · simp only [Act.put, List.setIfInBounds_toArray, List.set_cons_zero, List.set_cons_succ, i64_w, i32_w]; rfl
  refine take_ (i := 9) (N := some 19) (v := undef) (a' := ?_) #[true, true, true, true, true, true, true, true, true, true, false, false, false, false, false, false, false, false, false] rfl rfl (take_ofW HT_.out HW_.out (by kernel_rfl)) (fun _ _ _ h => h) (Or.inr ⟨by rfl, rfl⟩) hHeld ?_ ?_
  rotate_left
  · simp only [Act.put, List.setIfInBounds_toArray, List.set_cons_zero, List.set_cons_succ, i64_w, i32_w]; rfl
  refine pure_ (i := 10) (N := some 20) (v := undef) (a' := ?_) #[true, true, true, true, true, true, true, true, true, true, true, false, false, false, false, false, false, false, false] rfl rfl (any_of HT_.out (by kernel_rfl)) (fun _ _ _ h => h) (Or.inr ⟨by rfl, rfl⟩) ?_ ?_
  rotate_left
  · simp only [Act.put, List.setIfInBounds_toArray, List.set_cons_zero, List.set_cons_succ, i64_w, i32_w]; rfl
  refine pure_ (i := 11) (N := some 21) (v := ?_) (a' := ?_) #[true, true, true, true, true, true, true, true, true, true, true, true, false, false, false, false, false, false, false] rfl rfl (any_of HT_.out (by kernel_rfl)) (fun _ _ _ h => h) (Or.inl ⟨by rfl, ?_⟩) ?_ ?_
  rotate_left
  · intro w'; go_simp; with_reducible rfl
  rotate_left
  · simp only [Act.put, List.setIfInBounds_toArray, List.set_cons_zero, List.set_cons_succ, i64_w, i32_w]; rfl
  refine pure_ (i := 12) (N := some 22) (v := ?_) (a' := ?_) #[true, true, true, true, true, true, true, true, true, true, true, true, true, false, false, false, false, false, false] rfl rfl (any_of HT_.out (by kernel_rfl)) (fun _ _ _ h => h) (Or.inl ⟨by rfl, ?_⟩) ?_ ?_
  rotate_left
  · intro w'; go_simp; with_reducible rfl
  rotate_left
  · simp only [Act.put, List.setIfInBounds_toArray, List.set_cons_zero, List.set_cons_succ, i64_w, i32_w]; rfl
  refine take_ (i := 13) (N := some 23) (v := undef) (a' := ?_) #[true, true, true, true, true, true, true, true, true, true, true, true, true, true, false, false, false, false, false] rfl rfl (take_ofW HT_.out HW_.out (by kernel_rfl)) (fun _ _ _ h => h) (Or.inr ⟨by rfl, rfl⟩) hHeld ?_ ?_
  rotate_left
  · simp only [Act.put, List.setIfInBounds_toArray, List.set_cons_zero, List.set_cons_succ, i64_w, i32_w]; rfl
  refine take_ (i := 14) (N := some 24) (v := undef) (a' := ?_) #[true, true, true, true, true, true, true, true, true, true, true, true, true, true, true, false, false, false, false] rfl rfl (take_ofW HT_.out HW_.out (by kernel_rfl)) (fun _ _ _ h => h) (Or.inr ⟨by rfl, rfl⟩) hHeld ?_ ?_
  rotate_left
  · simp only [Act.put, List.setIfInBounds_toArray, List.set_cons_zero, List.set_cons_succ, i64_w, i32_w]; rfl
  refine one_ (i := 15) (N := some 25) #[true, true, true, true, true, true, true, true, true, true, true, true, true, true, true, true, false, false, false] rfl rfl (one_of HT_.out (by kernel_rfl)) (by decide) (fun K hK => ?_)
  refine ite_no (by rfl) ?_
  refine hK.out _ _ hHeld (fun hHeld => ?_)
  clear hK K
  refine norm_ (a' := ?_) ?_ ?_
  rotate_left
  · show Act.put _ (some 25) _ = _
    simp only [Act.put, List.setIfInBounds_toArray, List.set_cons_zero, List.set_cons_succ, i64_w, i32_w]; rfl
  refine one_ (i := 16) (N := some 26) #[true, true, true, true, true, true, true, true, true, true, true, true, true, true, true, true, true, false, false] rfl rfl (one_of HT_.out (by kernel_rfl)) (by decide) (fun K hK => ?_)
  refine ite_no (by rfl) ?_
  refine hK.out _ _ hHeld (fun hHeld => ?_)
  clear hK K
  refine norm_ (a' := ?_) ?_ ?_
  rotate_left
  · show Act.put _ (some 26) _ = _
    simp only [Act.put, List.setIfInBounds_toArray, List.set_cons_zero, List.set_cons_succ, i64_w, i32_w]; rfl
  refine pure_ (i := 17) (N := some 27) (v := undef) (a' := ?_) #[true, true, true, true, true, true, true, true, true, true, true, true, true, true, true, true, true, true, false] rfl rfl (any_of HT_.out (by kernel_rfl)) (fun _ _ _ h => h) (Or.inr ⟨by rfl, rfl⟩) ?_ ?_
  rotate_left
  · simp only [Act.put, List.setIfInBounds_toArray, List.set_cons_zero, List.set_cons_succ, i64_w, i32_w]; rfl
  refine pure_ (i := 18) (N := some 28) (v := ?_) (a' := ?_) #[true, true, true, true, true, true, true, true, true, true, true, true, true, true, true, true, true, true, true] rfl rfl (any_of HT_.out (by kernel_rfl)) (fun _ _ _ h => h) (Or.inl ⟨by rfl, ?_⟩) ?_ ?_
  rotate_left
  · intro w'; go_simp; with_reducible rfl
  rotate_left
  · simp only [Act.put, List.setIfInBounds_toArray, List.set_cons_zero, List.set_cons_succ, i64_w, i32_w]; rfl
  refine done_ (done_of HT_.out (by kernel_rfl)) ?_
  clear HT_ HW_ hHeld
  go_wp2
  refine bodyPost_ret ?_ rfl ⟨rfl, HB.out⟩
  simp [results, Try.results37, go_sem]
set_option maxHeartbeats 20000000 in
set_option maxRecDepth 100000 in
theorem refCheck_ls0 (m : Nat) (k ls ep o st : Int) (un : Bool) (tr co mk : Int) (A9 : Option Addr) (c9 : Nat) (l9 : List Int) (A10 : Option Addr) (c10 : Nat) (l10 : List Int) (r1 : List S86) (w : World) (hC9 : Kd.C (Kd.int .u8) w A9 l9.length l9) (hc9 : l9.length ≤ c9) (hC10 : Kd.C (Kd.int .u8) w A10 l10.length l10) (hc10 : l10.length ≤ c10) (hf : drayageref04_fields.f m k ls ep o st un tr co mk l9 l10 = some (r1, true)) (hl : decide (ls < 1) = true) : Calls Try.prog 37 #[.agg #[.int .i64 k, .int .u64 ls, .int .u32 ep, .int .u32 o, .int .i64 st, .bool un, .int .i64 tr, .int .i64 co, .int .u64 mk, .slice A9 l9.length c9, .slice A10 l10.length c10]] w fun e w' => e = .returned (.int .i64 40) ∧ Below w.heap.size w w' := by
  have GC9 := Aside0.mk hC9
  have Gc9 := Aside0.mk hc9
  have GC10 := Aside0.mk hC10
  have Gc10 := Aside0.mk hc10
  have HF := Aside0.mk hf
  clear hC9 hc9 hC10 hc10 hf
  go_enter Try.func37, Try.ntmps37
  go_wp2_with (first | (go_at_call 38; (with_reducible refine (drayageref04_fields.calls m k ls ep o st un tr co mk (fun k_ => k_ < (w.alloc (.cells #[.int .i64 k, .int .u64 ls, .int .u32 ep, .int .u32 o, .int .i64 st, .bool un, .int .i64 tr, .int .i64 co, .int .u64 mk, .slice A9 l9.length c9, .slice A10 l10.length c10] 26 (0, 0))).heap.size) A9 c9 l9 (fun k_ => k_ < (w.alloc (.cells #[.int .i64 k, .int .u64 ls, .int .u32 ep, .int .u32 o, .int .i64 st, .bool un, .int .i64 tr, .int .i64 co, .int .u64 mk, .slice A9 l9.length c9, .slice A10 l10.length c10] 26 (0, 0))).heap.size) A10 c10 l10 r1 true _ ?a1 ?a2 HF.out).mono ?_); (case a1 => exact Kd.V_mk Gc9.out (Kd.C_F (Kd.heap_int .u8) (Kd.C_alloc GC9.out _))); (case a2 => exact Kd.V_mk Gc10.out (Kd.C_F (Kd.heap_int .u8) (Kd.C_alloc GC10.out _))); rintro e w1 ⟨v0, rfl, hN, hb⟩; have BK := Aside0.mk (blk_below (heap_last _ _) hb); have HB := Aside0.mk (below_step (below_alloc (Below.refl _ _) _) hb); clear hN hb))
  have n_BK := Aside0.mk (blk_drew BK.out)
  have n_HB := Aside0.mk (below_drew1 HB.out)
  clear BK HB
  have BK := n_BK
  have HB := n_HB
  clear n_BK n_HB
  refine start_ (n := 19) (S := fun w' => w'.cell? ⟨w.heap.size, 0, none⟩ = some (.int .i64 k) ∧ w'.cell? ⟨w.heap.size, 1, none⟩ = some (.int .u64 ls) ∧ w'.cell? ⟨w.heap.size, 2, none⟩ = some (.int .u32 ep) ∧ w'.cell? ⟨w.heap.size, 3, none⟩ = some (.int .u32 o) ∧ w'.cell? ⟨w.heap.size, 4, none⟩ = some (.int .i64 st) ∧ w'.cell? ⟨w.heap.size, 5, none⟩ = some (.bool un) ∧ w'.cell? ⟨w.heap.size, 6, none⟩ = some (.int .i64 tr) ∧ w'.cell? ⟨w.heap.size, 7, none⟩ = some (.int .i64 co) ∧ w'.cell? ⟨w.heap.size, 8, none⟩ = some (.int .u64 mk) ∧ w'.cell? ⟨w.heap.size, 9, none⟩ = some (.slice A9 l9.length c9) ∧ w'.cell? ⟨w.heap.size, 10, none⟩ = some (.slice A10 l10.length c10)) (ds := []) #[false, false, false, false, false, false, false, false, false, false, false, false, false, false, false, false, false, false, false] (by kernel_rfl) rfl rfl ⟨(blk_cell BK.out 0).trans rfl, (blk_cell BK.out 1).trans rfl, (blk_cell BK.out 2).trans rfl, (blk_cell BK.out 3).trans rfl, (blk_cell BK.out 4).trans rfl, (blk_cell BK.out 5).trans rfl, (blk_cell BK.out 6).trans rfl, (blk_cell BK.out 7).trans rfl, (blk_cell BK.out 8).trans rfl, (blk_cell BK.out 9).trans rfl, (blk_cell BK.out 10).trans rfl⟩ (fun hHeld => ?_); refine with_tabW drayageref04_Check.tab2 drayageref04_Check.bits2 (fun HT_ HW_ => ?_)
  generalize w1.drew = wd_ at BK HB hHeld ⊢
  refine pure_ (i := 0) (N := some 10) (v := ?_) (a' := ?_) #[true, false, false, false, false, false, false, false, false, false, false, false, false, false, false, false, false, false, false] rfl rfl (any_of HT_.out (by kernel_rfl)) (fun _ _ _ h => h) (Or.inl ⟨by rfl, ?_⟩) ?_ ?_
  rotate_left
  · intro w'; go_simp; with_reducible rfl
  rotate_left
  · simp only [Act.put, List.setIfInBounds_toArray, List.set_cons_zero, List.set_cons_succ, i64_w, i32_w]; rfl
  refine pure_ (i := 1) (N := some 11) (v := ?_) (a' := ?_) #[true, true, false, false, false, false, false, false, false, false, false, false, false, false, false, false, false, false, false] rfl rfl (any_of HT_.out (by kernel_rfl)) (fun _ _ _ h => h) (Or.inl ⟨by rfl, ?_⟩) ?_ ?_
  rotate_left
  · intro w'; go_simp; with_reducible rfl
  rotate_left
  · simp only [Act.put, List.setIfInBounds_toArray, List.set_cons_zero, List.set_cons_succ, i64_w, i32_w]; rfl
  refine pure_ (i := 2) (N := some 12) (v := ?_) (a' := ?_) #[true, true, true, false, false, false, false, false, false, false, false, false, false, false, false, false, false, false, false] rfl rfl (any_of HT_.out (by kernel_rfl)) (fun _ _ _ h => h) (Or.inl ⟨by rfl, ?_⟩) ?_ ?_
  rotate_left
  · intro w'; go_simp; with_reducible rfl
  rotate_left
  · simp only [Act.put, List.setIfInBounds_toArray, List.set_cons_zero, List.set_cons_succ, i64_w, i32_w]; rfl
  refine pure_ (i := 3) (N := some 13) (v := ?_) (a' := ?_) #[true, true, true, true, false, false, false, false, false, false, false, false, false, false, false, false, false, false, false] rfl rfl (any_of HT_.out (by kernel_rfl)) (fun _ _ _ h => h) (Or.inl ⟨by rfl, ?_⟩) ?_ ?_
  rotate_left
  · intro w'; go_simp; with_reducible rfl
  rotate_left
  · simp only [Act.put, List.setIfInBounds_toArray, List.set_cons_zero, List.set_cons_succ, i64_w, i32_w]; rfl
  refine take_ (i := 4) (N := some 14) (v := ?_) (a' := ?_) #[true, true, true, true, true, false, false, false, false, false, false, false, false, false, false, false, false, false, false] rfl rfl (take_ofW HT_.out HW_.out (by kernel_rfl)) (fun _ _ _ h => h) (Or.inl ⟨by rfl, ?_⟩) hHeld ?_ ?_
  rotate_left
  · rintro w' ⟨s0, s1, s2, s3, s4, s5, s6, s7, s8, s9, s10⟩; go_simp; with_reducible rfl
  rotate_left
  · simp only [Act.put, List.setIfInBounds_toArray, List.set_cons_zero, List.set_cons_succ, i64_w, i32_w]; rfl
  refine pure_ (i := 5) (N := some 15) (v := ?_) (a' := ?_) #[true, true, true, true, true, true, false, false, false, false, false, false, false, false, false, false, false, false, false] rfl rfl (any_of HT_.out (by kernel_rfl)) (fun _ _ _ h => h) (Or.inl ⟨by rfl, ?_⟩) ?_ ?_
  rotate_left
  · intro w'; go_simp; with_reducible rfl
  rotate_left
  · simp only [Act.put, List.setIfInBounds_toArray, List.set_cons_zero, List.set_cons_succ, i64_w, i32_w]; rfl
  refine pure_ (i := 6) (N := some 16) (v := ?_) (a' := ?_) #[true, true, true, true, true, true, true, false, false, false, false, false, false, false, false, false, false, false, false] rfl rfl (any_of HT_.out (by kernel_rfl)) (fun _ _ _ h => h) (Or.inl ⟨by rfl, ?_⟩) ?_ ?_
  rotate_left
  · intro w'; go_simp; with_reducible rfl
  rotate_left
  · simp only [Act.put, List.setIfInBounds_toArray, List.set_cons_zero, List.set_cons_succ, i64_w, i32_w]; rfl
  refine pure_ (i := 7) (N := some 17) (v := ?_) (a' := ?_) #[true, true, true, true, true, true, true, true, false, false, false, false, false, false, false, false, false, false, false] rfl rfl (any_of HT_.out (by kernel_rfl)) (fun _ _ _ h => h) (Or.inl ⟨by rfl, ?_⟩) ?_ ?_
  rotate_left
  · intro w'; go_simp; with_reducible rfl
  rotate_left
  · simp only [Act.put, List.setIfInBounds_toArray, List.set_cons_zero, List.set_cons_succ, i64_w, i32_w]; rfl
  refine pure_ (i := 8) (N := some 18) (v := undef) (a' := ?_) #[true, true, true, true, true, true, true, true, true, false, false, false, false, false, false, false, false, false, false] rfl rfl (any_of HT_.out (by kernel_rfl)) (fun _ _ _ h => h) (Or.inr ⟨by rfl, rfl⟩) ?_ ?_
  rotate_left
  · simp only [Act.put, List.setIfInBounds_toArray, List.set_cons_zero, List.set_cons_succ, i64_w, i32_w]; rfl
  refine take_ (i := 9) (N := some 19) (v := undef) (a' := ?_) #[true, true, true, true, true, true, true, true, true, true, false, false, false, false, false, false, false, false, false] rfl rfl (take_ofW HT_.out HW_.out (by kernel_rfl)) (fun _ _ _ h => h) (Or.inr ⟨by rfl, rfl⟩) hHeld ?_ ?_
  rotate_left
  · simp only [Act.put, List.setIfInBounds_toArray, List.set_cons_zero, List.set_cons_succ, i64_w, i32_w]; rfl
  refine pure_ (i := 10) (N := some 20) (v := undef) (a' := ?_) #[true, true, true, true, true, true, true, true, true, true, true, false, false, false, false, false, false, false, false] rfl rfl (any_of HT_.out (by kernel_rfl)) (fun _ _ _ h => h) (Or.inr ⟨by rfl, rfl⟩) ?_ ?_
  rotate_left
  · simp only [Act.put, List.setIfInBounds_toArray, List.set_cons_zero, List.set_cons_succ, i64_w, i32_w]; rfl
  refine pure_ (i := 11) (N := some 21) (v := ?_) (a' := ?_) #[true, true, true, true, true, true, true, true, true, true, true, true, false, false, false, false, false, false, false] rfl rfl (any_of HT_.out (by kernel_rfl)) (fun _ _ _ h => h) (Or.inl ⟨by rfl, ?_⟩) ?_ ?_
  rotate_left
  · intro w'; go_simp; with_reducible rfl
  rotate_left
  · simp only [Act.put, List.setIfInBounds_toArray, List.set_cons_zero, List.set_cons_succ, i64_w, i32_w]; rfl
  refine pure_ (i := 12) (N := some 22) (v := ?_) (a' := ?_) #[true, true, true, true, true, true, true, true, true, true, true, true, true, false, false, false, false, false, false] rfl rfl (any_of HT_.out (by kernel_rfl)) (fun _ _ _ h => h) (Or.inl ⟨by rfl, ?_⟩) ?_ ?_
  rotate_left
  · intro w'; go_simp; with_reducible rfl
  rotate_left
  · simp only [Act.put, List.setIfInBounds_toArray, List.set_cons_zero, List.set_cons_succ, i64_w, i32_w]; rfl
  refine take_ (i := 13) (N := some 23) (v := undef) (a' := ?_) #[true, true, true, true, true, true, true, true, true, true, true, true, true, true, false, false, false, false, false] rfl rfl (take_ofW HT_.out HW_.out (by kernel_rfl)) (fun _ _ _ h => h) (Or.inr ⟨by rfl, rfl⟩) hHeld ?_ ?_
  rotate_left
  · simp only [Act.put, List.setIfInBounds_toArray, List.set_cons_zero, List.set_cons_succ, i64_w, i32_w]; rfl
  refine take_ (i := 14) (N := some 24) (v := undef) (a' := ?_) #[true, true, true, true, true, true, true, true, true, true, true, true, true, true, true, false, false, false, false] rfl rfl (take_ofW HT_.out HW_.out (by kernel_rfl)) (fun _ _ _ h => h) (Or.inr ⟨by rfl, rfl⟩) hHeld ?_ ?_
  rotate_left
  · simp only [Act.put, List.setIfInBounds_toArray, List.set_cons_zero, List.set_cons_succ, i64_w, i32_w]; rfl
  refine one_ (i := 15) (N := some 25) #[true, true, true, true, true, true, true, true, true, true, true, true, true, true, true, true, false, false, false] rfl rfl (one_of HT_.out (by kernel_rfl)) (by decide) (fun K hK => ?_)
  refine ite_no (by rfl) ?_
  refine hK.out _ _ hHeld (fun hHeld => ?_)
  clear hK K
  refine norm_ (a' := ?_) ?_ ?_
  rotate_left
  · show Act.put _ (some 25) _ = _
    simp only [Act.put, List.setIfInBounds_toArray, List.set_cons_zero, List.set_cons_succ, i64_w, i32_w]; rfl
  refine one_ (i := 16) (N := some 26) #[true, true, true, true, true, true, true, true, true, true, true, true, true, true, true, true, true, false, false] rfl rfl (one_of HT_.out (by kernel_rfl)) (by decide) (fun K hK => ?_)
  refine ite_no (by rfl) ?_
  refine hK.out _ _ hHeld (fun hHeld => ?_)
  clear hK K
  refine norm_ (a' := ?_) ?_ ?_
  rotate_left
  · show Act.put _ (some 26) _ = _
    simp only [Act.put, List.setIfInBounds_toArray, List.set_cons_zero, List.set_cons_succ, i64_w, i32_w]; rfl
  refine pure_ (i := 17) (N := some 27) (v := undef) (a' := ?_) #[true, true, true, true, true, true, true, true, true, true, true, true, true, true, true, true, true, true, false] rfl rfl (any_of HT_.out (by kernel_rfl)) (fun _ _ _ h => h) (Or.inr ⟨by rfl, rfl⟩) ?_ ?_
  rotate_left
  · simp only [Act.put, List.setIfInBounds_toArray, List.set_cons_zero, List.set_cons_succ, i64_w, i32_w]; rfl
  refine pure_ (i := 18) (N := some 28) (v := ?_) (a' := ?_) #[true, true, true, true, true, true, true, true, true, true, true, true, true, true, true, true, true, true, true] rfl rfl (any_of HT_.out (by kernel_rfl)) (fun _ _ _ h => h) (Or.inl ⟨by rfl, ?_⟩) ?_ ?_
  rotate_left
  · intro w'; go_simp; with_reducible rfl
  rotate_left
  · simp only [Act.put, List.setIfInBounds_toArray, List.set_cons_zero, List.set_cons_succ, i64_w, i32_w]; rfl
  refine done_ (done_of HT_.out (by kernel_rfl)) ?_
  clear HT_ HW_ hHeld
  go_wp2
  refine bodyPost_ret ?_ rfl ⟨rfl, HB.out⟩
  simp [results, Try.results37, go_sem]
set_option maxHeartbeats 20000000 in
set_option maxRecDepth 100000 in
theorem refCheck_ep0 (m : Nat) (k ls ep o st : Int) (un : Bool) (tr co mk : Int) (A9 : Option Addr) (c9 : Nat) (l9 : List Int) (A10 : Option Addr) (c10 : Nat) (l10 : List Int) (r1 : List S86) (w : World) (hC9 : Kd.C (Kd.int .u8) w A9 l9.length l9) (hc9 : l9.length ≤ c9) (hC10 : Kd.C (Kd.int .u8) w A10 l10.length l10) (hc10 : l10.length ≤ c10) (hf : drayageref04_fields.f m k ls ep o st un tr co mk l9 l10 = some (r1, true)) (hl : decide (ls < 1) = false) (he : decide (ep < 1) = true) : Calls Try.prog 37 #[.agg #[.int .i64 k, .int .u64 ls, .int .u32 ep, .int .u32 o, .int .i64 st, .bool un, .int .i64 tr, .int .i64 co, .int .u64 mk, .slice A9 l9.length c9, .slice A10 l10.length c10]] w fun e w' => e = .returned (.int .i64 40) ∧ Below w.heap.size w w' := by
  have GC9 := Aside0.mk hC9
  have Gc9 := Aside0.mk hc9
  have GC10 := Aside0.mk hC10
  have Gc10 := Aside0.mk hc10
  have HF := Aside0.mk hf
  clear hC9 hc9 hC10 hc10 hf
  go_enter Try.func37, Try.ntmps37
  go_wp2_with (first | (go_at_call 38; (with_reducible refine (drayageref04_fields.calls m k ls ep o st un tr co mk (fun k_ => k_ < (w.alloc (.cells #[.int .i64 k, .int .u64 ls, .int .u32 ep, .int .u32 o, .int .i64 st, .bool un, .int .i64 tr, .int .i64 co, .int .u64 mk, .slice A9 l9.length c9, .slice A10 l10.length c10] 26 (0, 0))).heap.size) A9 c9 l9 (fun k_ => k_ < (w.alloc (.cells #[.int .i64 k, .int .u64 ls, .int .u32 ep, .int .u32 o, .int .i64 st, .bool un, .int .i64 tr, .int .i64 co, .int .u64 mk, .slice A9 l9.length c9, .slice A10 l10.length c10] 26 (0, 0))).heap.size) A10 c10 l10 r1 true _ ?a1 ?a2 HF.out).mono ?_); (case a1 => exact Kd.V_mk Gc9.out (Kd.C_F (Kd.heap_int .u8) (Kd.C_alloc GC9.out _))); (case a2 => exact Kd.V_mk Gc10.out (Kd.C_F (Kd.heap_int .u8) (Kd.C_alloc GC10.out _))); rintro e w1 ⟨v0, rfl, hN, hb⟩; have BK := Aside0.mk (blk_below (heap_last _ _) hb); have HB := Aside0.mk (below_step (below_alloc (Below.refl _ _) _) hb); clear hN hb))
  have n_BK := Aside0.mk (blk_drew BK.out)
  have n_HB := Aside0.mk (below_drew1 HB.out)
  clear BK HB
  have BK := n_BK
  have HB := n_HB
  clear n_BK n_HB
  refine start_ (n := 19) (S := fun w' => w'.cell? ⟨w.heap.size, 0, none⟩ = some (.int .i64 k) ∧ w'.cell? ⟨w.heap.size, 1, none⟩ = some (.int .u64 ls) ∧ w'.cell? ⟨w.heap.size, 2, none⟩ = some (.int .u32 ep) ∧ w'.cell? ⟨w.heap.size, 3, none⟩ = some (.int .u32 o) ∧ w'.cell? ⟨w.heap.size, 4, none⟩ = some (.int .i64 st) ∧ w'.cell? ⟨w.heap.size, 5, none⟩ = some (.bool un) ∧ w'.cell? ⟨w.heap.size, 6, none⟩ = some (.int .i64 tr) ∧ w'.cell? ⟨w.heap.size, 7, none⟩ = some (.int .i64 co) ∧ w'.cell? ⟨w.heap.size, 8, none⟩ = some (.int .u64 mk) ∧ w'.cell? ⟨w.heap.size, 9, none⟩ = some (.slice A9 l9.length c9) ∧ w'.cell? ⟨w.heap.size, 10, none⟩ = some (.slice A10 l10.length c10)) (ds := []) #[false, false, false, false, false, false, false, false, false, false, false, false, false, false, false, false, false, false, false] (by kernel_rfl) rfl rfl ⟨(blk_cell BK.out 0).trans rfl, (blk_cell BK.out 1).trans rfl, (blk_cell BK.out 2).trans rfl, (blk_cell BK.out 3).trans rfl, (blk_cell BK.out 4).trans rfl, (blk_cell BK.out 5).trans rfl, (blk_cell BK.out 6).trans rfl, (blk_cell BK.out 7).trans rfl, (blk_cell BK.out 8).trans rfl, (blk_cell BK.out 9).trans rfl, (blk_cell BK.out 10).trans rfl⟩ (fun hHeld => ?_); refine with_tabW drayageref04_Check.tab2 drayageref04_Check.bits2 (fun HT_ HW_ => ?_)
  generalize w1.drew = wd_ at BK HB hHeld ⊢
  refine pure_ (i := 0) (N := some 10) (v := ?_) (a' := ?_) #[true, false, false, false, false, false, false, false, false, false, false, false, false, false, false, false, false, false, false] rfl rfl (any_of HT_.out (by kernel_rfl)) (fun _ _ _ h => h) (Or.inl ⟨by rfl, ?_⟩) ?_ ?_
  rotate_left
  · intro w'; go_simp; with_reducible rfl
  rotate_left
  · simp only [Act.put, List.setIfInBounds_toArray, List.set_cons_zero, List.set_cons_succ, i64_w, i32_w]; rfl
  refine pure_ (i := 1) (N := some 11) (v := ?_) (a' := ?_) #[true, true, false, false, false, false, false, false, false, false, false, false, false, false, false, false, false, false, false] rfl rfl (any_of HT_.out (by kernel_rfl)) (fun _ _ _ h => h) (Or.inl ⟨by rfl, ?_⟩) ?_ ?_
  rotate_left
  · intro w'; go_simp; with_reducible rfl
  rotate_left
  · simp only [Act.put, List.setIfInBounds_toArray, List.set_cons_zero, List.set_cons_succ, i64_w, i32_w]; rfl
  refine pure_ (i := 2) (N := some 12) (v := ?_) (a' := ?_) #[true, true, true, false, false, false, false, false, false, false, false, false, false, false, false, false, false, false, false] rfl rfl (any_of HT_.out (by kernel_rfl)) (fun _ _ _ h => h) (Or.inl ⟨by rfl, ?_⟩) ?_ ?_
  rotate_left
  · intro w'; go_simp; with_reducible rfl
  rotate_left
  · simp only [Act.put, List.setIfInBounds_toArray, List.set_cons_zero, List.set_cons_succ, i64_w, i32_w]; rfl
  refine pure_ (i := 3) (N := some 13) (v := ?_) (a' := ?_) #[true, true, true, true, false, false, false, false, false, false, false, false, false, false, false, false, false, false, false] rfl rfl (any_of HT_.out (by kernel_rfl)) (fun _ _ _ h => h) (Or.inl ⟨by rfl, ?_⟩) ?_ ?_
  rotate_left
  · intro w'; go_simp; with_reducible rfl
  rotate_left
  · simp only [Act.put, List.setIfInBounds_toArray, List.set_cons_zero, List.set_cons_succ, i64_w, i32_w]; rfl
  refine take_ (i := 4) (N := some 14) (v := ?_) (a' := ?_) #[true, true, true, true, true, false, false, false, false, false, false, false, false, false, false, false, false, false, false] rfl rfl (take_ofW HT_.out HW_.out (by kernel_rfl)) (fun _ _ _ h => h) (Or.inl ⟨by rfl, ?_⟩) hHeld ?_ ?_
  rotate_left
  · rintro w' ⟨s0, s1, s2, s3, s4, s5, s6, s7, s8, s9, s10⟩; go_simp; with_reducible rfl
  rotate_left
  · simp only [Act.put, List.setIfInBounds_toArray, List.set_cons_zero, List.set_cons_succ, i64_w, i32_w]; rfl
  refine pure_ (i := 5) (N := some 15) (v := ?_) (a' := ?_) #[true, true, true, true, true, true, false, false, false, false, false, false, false, false, false, false, false, false, false] rfl rfl (any_of HT_.out (by kernel_rfl)) (fun _ _ _ h => h) (Or.inl ⟨by rfl, ?_⟩) ?_ ?_
  rotate_left
  · intro w'; go_simp; with_reducible rfl
  rotate_left
  · simp only [Act.put, List.setIfInBounds_toArray, List.set_cons_zero, List.set_cons_succ, i64_w, i32_w]; rfl
  refine pure_ (i := 6) (N := some 16) (v := ?_) (a' := ?_) #[true, true, true, true, true, true, true, false, false, false, false, false, false, false, false, false, false, false, false] rfl rfl (any_of HT_.out (by kernel_rfl)) (fun _ _ _ h => h) (Or.inl ⟨by rfl, ?_⟩) ?_ ?_
  rotate_left
  · intro w'; go_simp; with_reducible rfl
  rotate_left
  · simp only [Act.put, List.setIfInBounds_toArray, List.set_cons_zero, List.set_cons_succ, i64_w, i32_w]; rfl
  refine pure_ (i := 7) (N := some 17) (v := ?_) (a' := ?_) #[true, true, true, true, true, true, true, true, false, false, false, false, false, false, false, false, false, false, false] rfl rfl (any_of HT_.out (by kernel_rfl)) (fun _ _ _ h => h) (Or.inl ⟨by rfl, ?_⟩) ?_ ?_
  rotate_left
  · intro w'; go_simp; with_reducible rfl
  rotate_left
  · simp only [Act.put, List.setIfInBounds_toArray, List.set_cons_zero, List.set_cons_succ, i64_w, i32_w]; rfl
  refine pure_ (i := 8) (N := some 18) (v := ?_) (a' := ?_) #[true, true, true, true, true, true, true, true, true, false, false, false, false, false, false, false, false, false, false] rfl rfl (any_of HT_.out (by kernel_rfl)) (fun _ _ _ h => h) (Or.inl ⟨by rfl, ?_⟩) ?_ ?_
  rotate_left
  · intro w'; go_simp; with_reducible rfl
  rotate_left
  · simp only [Act.put, List.setIfInBounds_toArray, List.set_cons_zero, List.set_cons_succ, i64_w, i32_w]; rfl
  refine take_ (i := 9) (N := some 19) (v := ?_) (a' := ?_) #[true, true, true, true, true, true, true, true, true, true, false, false, false, false, false, false, false, false, false] rfl rfl (take_ofW HT_.out HW_.out (by kernel_rfl)) (fun _ _ _ h => h) (Or.inl ⟨by rfl, ?_⟩) hHeld ?_ ?_
  rotate_left
  · rintro w' ⟨s0, s1, s2, s3, s4, s5, s6, s7, s8, s9, s10⟩; go_simp; with_reducible rfl
  rotate_left
  · simp only [Act.put, List.setIfInBounds_toArray, List.set_cons_zero, List.set_cons_succ, i64_w, i32_w]; rfl
  refine pure_ (i := 10) (N := some 20) (v := ?_) (a' := ?_) #[true, true, true, true, true, true, true, true, true, true, true, false, false, false, false, false, false, false, false] rfl rfl (any_of HT_.out (by kernel_rfl)) (fun _ _ _ h => h) (Or.inl ⟨by rfl, ?_⟩) ?_ ?_
  rotate_left
  · intro w'; go_simp; with_reducible rfl
  rotate_left
  · simp only [Act.put, List.setIfInBounds_toArray, List.set_cons_zero, List.set_cons_succ, i64_w, i32_w]; rfl
  refine pure_ (i := 11) (N := some 21) (v := ?_) (a' := ?_) #[true, true, true, true, true, true, true, true, true, true, true, true, false, false, false, false, false, false, false] rfl rfl (any_of HT_.out (by kernel_rfl)) (fun _ _ _ h => h) (Or.inl ⟨by rfl, ?_⟩) ?_ ?_
  rotate_left
  · intro w'; go_simp; with_reducible rfl
  rotate_left
  · simp only [Act.put, List.setIfInBounds_toArray, List.set_cons_zero, List.set_cons_succ, i64_w, i32_w]; rfl
  refine pure_ (i := 12) (N := some 22) (v := ?_) (a' := ?_) #[true, true, true, true, true, true, true, true, true, true, true, true, true, false, false, false, false, false, false] rfl rfl (any_of HT_.out (by kernel_rfl)) (fun _ _ _ h => h) (Or.inl ⟨by rfl, ?_⟩) ?_ ?_
  rotate_left
  · intro w'; go_simp; with_reducible rfl
  rotate_left
  · simp only [Act.put, List.setIfInBounds_toArray, List.set_cons_zero, List.set_cons_succ, i64_w, i32_w]; rfl
  refine take_ (i := 13) (N := some 23) (v := undef) (a' := ?_) #[true, true, true, true, true, true, true, true, true, true, true, true, true, true, false, false, false, false, false] rfl rfl (take_ofW HT_.out HW_.out (by kernel_rfl)) (fun _ _ _ h => h) (Or.inr ⟨by rfl, rfl⟩) hHeld ?_ ?_
  rotate_left
  · simp only [Act.put, List.setIfInBounds_toArray, List.set_cons_zero, List.set_cons_succ, i64_w, i32_w]; rfl
  refine take_ (i := 14) (N := some 24) (v := undef) (a' := ?_) #[true, true, true, true, true, true, true, true, true, true, true, true, true, true, true, false, false, false, false] rfl rfl (take_ofW HT_.out HW_.out (by kernel_rfl)) (fun _ _ _ h => h) (Or.inr ⟨by rfl, rfl⟩) hHeld ?_ ?_
  rotate_left
  · simp only [Act.put, List.setIfInBounds_toArray, List.set_cons_zero, List.set_cons_succ, i64_w, i32_w]; rfl
  refine one_ (i := 15) (N := some 25) #[true, true, true, true, true, true, true, true, true, true, true, true, true, true, true, true, false, false, false] rfl rfl (one_of HT_.out (by kernel_rfl)) (by decide) (fun K hK => ?_)
  refine ite_no (by rfl) ?_
  refine hK.out _ _ hHeld (fun hHeld => ?_)
  clear hK K
  refine norm_ (a' := ?_) ?_ ?_
  rotate_left
  · show Act.put _ (some 25) _ = _
    simp only [Act.put, List.setIfInBounds_toArray, List.set_cons_zero, List.set_cons_succ, i64_w, i32_w]; rfl
  refine one_ (i := 16) (N := some 26) #[true, true, true, true, true, true, true, true, true, true, true, true, true, true, true, true, true, false, false] rfl rfl (one_of HT_.out (by kernel_rfl)) (by decide) (fun K hK => ?_)
  refine ite_no (by rfl) ?_
  refine hK.out _ _ hHeld (fun hHeld => ?_)
  clear hK K
  refine norm_ (a' := ?_) ?_ ?_
  rotate_left
  · show Act.put _ (some 26) _ = _
    simp only [Act.put, List.setIfInBounds_toArray, List.set_cons_zero, List.set_cons_succ, i64_w, i32_w]; rfl
  refine pure_ (i := 17) (N := some 27) (v := undef) (a' := ?_) #[true, true, true, true, true, true, true, true, true, true, true, true, true, true, true, true, true, true, false] rfl rfl (any_of HT_.out (by kernel_rfl)) (fun _ _ _ h => h) (Or.inr ⟨by rfl, rfl⟩) ?_ ?_
  rotate_left
  · simp only [Act.put, List.setIfInBounds_toArray, List.set_cons_zero, List.set_cons_succ, i64_w, i32_w]; rfl
  refine pure_ (i := 18) (N := some 28) (v := ?_) (a' := ?_) #[true, true, true, true, true, true, true, true, true, true, true, true, true, true, true, true, true, true, true] rfl rfl (any_of HT_.out (by kernel_rfl)) (fun _ _ _ h => h) (Or.inl ⟨by rfl, ?_⟩) ?_ ?_
  rotate_left
  · intro w'; go_simp; with_reducible rfl
  rotate_left
  · simp only [Act.put, List.setIfInBounds_toArray, List.set_cons_zero, List.set_cons_succ, i64_w, i32_w]; rfl
  refine done_ (done_of HT_.out (by kernel_rfl)) ?_
  clear HT_ HW_ hHeld
  go_wp2
  refine bodyPost_ret ?_ rfl ⟨rfl, HB.out⟩
  simp [results, Try.results37, go_sem]
set_option maxHeartbeats 20000000 in
set_option maxRecDepth 100000 in
theorem refCheck_same (m : Nat) (k ls ep o st : Int) (un : Bool) (tr co mk : Int) (A9 : Option Addr) (c9 : Nat) (l9 : List Int) (A10 : Option Addr) (c10 : Nat) (l10 : List Int) (r1 : List S86) (w : World) (hC9 : Kd.C (Kd.int .u8) w A9 l9.length l9) (hc9 : l9.length ≤ c9) (hC10 : Kd.C (Kd.int .u8) w A10 l10.length l10) (hc10 : l10.length ≤ c10) (hf : drayageref04_fields.f m k ls ep o st un tr co mk l9 l10 = some (r1, true)) (hl : decide (ls < 1) = false) (he : decide (ep < 1) = false) (o' st' : Int) (un' : Bool) (tr' co' mk' : Int) (B9 : Option Addr) (d9 : Nat) (m9 : List Int) (B10 : Option Addr) (d10 : Nat) (m10 : List Int) (hp : ∀ w1 : World, Calls Try.prog 50 #[.agg #[.int .i64 k, .int .u64 ls, .int .u32 ep, .int .u32 o, .int .i64 st, .bool un, .int .i64 tr, .int .i64 co, .int .u64 mk, .slice A9 l9.length c9, .slice A10 l10.length c10]] w1 fun e w' => e = .returned (.agg #[.int .i64 k, .int .u64 ls, .int .u32 ep, .int .u32 o', .int .i64 st', .bool un', .int .i64 tr', .int .i64 co', .int .u64 mk', .slice B9 m9.length d9, .slice B10 m10.length d10]) ∧ Below w1.heap.size w1 w') (hD9 : ∀ W : World, Below w.heap.size w W → Kd.C (Kd.int .u8) W B9 m9.length m9) (hd9 : m9.length ≤ d9) (hD10 : ∀ W : World, Below w.heap.size w W → Kd.C (Kd.int .u8) W B10 m10.length m10) (hd10 : m10.length ≤ d10) (hs : drayageref04_Same.f k ls ep o st un tr co mk l9 l10 k ls ep o' st' un' tr' co' mk' m9 m10 = some true) : Calls Try.prog 37 #[.agg #[.int .i64 k, .int .u64 ls, .int .u32 ep, .int .u32 o, .int .i64 st, .bool un, .int .i64 tr, .int .i64 co, .int .u64 mk, .slice A9 l9.length c9, .slice A10 l10.length c10]] w fun e w' => e = .returned (.int .i64 0) ∧ Below w.heap.size w w' := by
  have GC9 := Aside0.mk hC9
  have Gc9 := Aside0.mk hc9
  have GC10 := Aside0.mk hC10
  have Gc10 := Aside0.mk hc10
  have GD9 := Aside0.mk hD9
  have Gd9 := Aside0.mk hd9
  have GD10 := Aside0.mk hD10
  have Gd10 := Aside0.mk hd10
  have HF := Aside0.mk hf
  clear hC9 hc9 hC10 hc10 hf hD9 hd9 hD10 hd10
  have HS := Aside0.mk hs
  have HP := Aside0.mk hp
  clear hs hp
  go_enter Try.func37, Try.ntmps37
  go_wp2_with (first | (go_at_call 38; (with_reducible refine (drayageref04_fields.calls m k ls ep o st un tr co mk (fun k_ => k_ < (w.alloc (.cells #[.int .i64 k, .int .u64 ls, .int .u32 ep, .int .u32 o, .int .i64 st, .bool un, .int .i64 tr, .int .i64 co, .int .u64 mk, .slice A9 l9.length c9, .slice A10 l10.length c10] 26 (0, 0))).heap.size) A9 c9 l9 (fun k_ => k_ < (w.alloc (.cells #[.int .i64 k, .int .u64 ls, .int .u32 ep, .int .u32 o, .int .i64 st, .bool un, .int .i64 tr, .int .i64 co, .int .u64 mk, .slice A9 l9.length c9, .slice A10 l10.length c10] 26 (0, 0))).heap.size) A10 c10 l10 r1 true _ ?a1 ?a2 HF.out).mono ?_); (case a1 => exact Kd.V_mk Gc9.out (Kd.C_F (Kd.heap_int .u8) (Kd.C_alloc GC9.out _))); (case a2 => exact Kd.V_mk Gc10.out (Kd.C_F (Kd.heap_int .u8) (Kd.C_alloc GC10.out _))); rintro e w1 ⟨v0, rfl, hN, hb⟩; have BK := Aside0.mk (blk_below (heap_last _ _) hb); have HB := Aside0.mk (below_step (below_alloc (Below.refl _ _) _) hb); clear hN hb))
  have n_BK := Aside0.mk (blk_drew BK.out)
  have n_HB := Aside0.mk (below_drew1 HB.out)
  clear BK HB
  have BK := n_BK
  have HB := n_HB
  clear n_BK n_HB
  refine start_ (n := 19) (S := fun w' => w'.cell? ⟨w.heap.size, 0, none⟩ = some (.int .i64 k) ∧ w'.cell? ⟨w.heap.size, 1, none⟩ = some (.int .u64 ls) ∧ w'.cell? ⟨w.heap.size, 2, none⟩ = some (.int .u32 ep) ∧ w'.cell? ⟨w.heap.size, 3, none⟩ = some (.int .u32 o) ∧ w'.cell? ⟨w.heap.size, 4, none⟩ = some (.int .i64 st) ∧ w'.cell? ⟨w.heap.size, 5, none⟩ = some (.bool un) ∧ w'.cell? ⟨w.heap.size, 6, none⟩ = some (.int .i64 tr) ∧ w'.cell? ⟨w.heap.size, 7, none⟩ = some (.int .i64 co) ∧ w'.cell? ⟨w.heap.size, 8, none⟩ = some (.int .u64 mk) ∧ w'.cell? ⟨w.heap.size, 9, none⟩ = some (.slice A9 l9.length c9) ∧ w'.cell? ⟨w.heap.size, 10, none⟩ = some (.slice A10 l10.length c10)) (ds := []) #[false, false, false, false, false, false, false, false, false, false, false, false, false, false, false, false, false, false, false] (by kernel_rfl) rfl rfl ⟨(blk_cell BK.out 0).trans rfl, (blk_cell BK.out 1).trans rfl, (blk_cell BK.out 2).trans rfl, (blk_cell BK.out 3).trans rfl, (blk_cell BK.out 4).trans rfl, (blk_cell BK.out 5).trans rfl, (blk_cell BK.out 6).trans rfl, (blk_cell BK.out 7).trans rfl, (blk_cell BK.out 8).trans rfl, (blk_cell BK.out 9).trans rfl, (blk_cell BK.out 10).trans rfl⟩ (fun hHeld => ?_); refine with_tabW drayageref04_Check.tab2 drayageref04_Check.bits2 (fun HT_ HW_ => ?_)
  generalize w1.drew = wd_ at BK HB hHeld ⊢
  refine pure_ (i := 0) (N := some 10) (v := ?_) (a' := ?_) #[true, false, false, false, false, false, false, false, false, false, false, false, false, false, false, false, false, false, false] rfl rfl (any_of HT_.out (by kernel_rfl)) (fun _ _ _ h => h) (Or.inl ⟨by rfl, ?_⟩) ?_ ?_
  rotate_left
  · intro w'; go_simp; with_reducible rfl
  rotate_left
  · simp only [Act.put, List.setIfInBounds_toArray, List.set_cons_zero, List.set_cons_succ, i64_w, i32_w]; rfl
  refine pure_ (i := 1) (N := some 11) (v := ?_) (a' := ?_) #[true, true, false, false, false, false, false, false, false, false, false, false, false, false, false, false, false, false, false] rfl rfl (any_of HT_.out (by kernel_rfl)) (fun _ _ _ h => h) (Or.inl ⟨by rfl, ?_⟩) ?_ ?_
  rotate_left
  · intro w'; go_simp; with_reducible rfl
  rotate_left
  · simp only [Act.put, List.setIfInBounds_toArray, List.set_cons_zero, List.set_cons_succ, i64_w, i32_w]; rfl
  refine pure_ (i := 2) (N := some 12) (v := ?_) (a' := ?_) #[true, true, true, false, false, false, false, false, false, false, false, false, false, false, false, false, false, false, false] rfl rfl (any_of HT_.out (by kernel_rfl)) (fun _ _ _ h => h) (Or.inl ⟨by rfl, ?_⟩) ?_ ?_
  rotate_left
  · intro w'; go_simp; with_reducible rfl
  rotate_left
  · simp only [Act.put, List.setIfInBounds_toArray, List.set_cons_zero, List.set_cons_succ, i64_w, i32_w]; rfl
  refine pure_ (i := 3) (N := some 13) (v := ?_) (a' := ?_) #[true, true, true, true, false, false, false, false, false, false, false, false, false, false, false, false, false, false, false] rfl rfl (any_of HT_.out (by kernel_rfl)) (fun _ _ _ h => h) (Or.inl ⟨by rfl, ?_⟩) ?_ ?_
  rotate_left
  · intro w'; go_simp; with_reducible rfl
  rotate_left
  · simp only [Act.put, List.setIfInBounds_toArray, List.set_cons_zero, List.set_cons_succ, i64_w, i32_w]; rfl
  refine take_ (i := 4) (N := some 14) (v := ?_) (a' := ?_) #[true, true, true, true, true, false, false, false, false, false, false, false, false, false, false, false, false, false, false] rfl rfl (take_ofW HT_.out HW_.out (by kernel_rfl)) (fun _ _ _ h => h) (Or.inl ⟨by rfl, ?_⟩) hHeld ?_ ?_
  rotate_left
  · rintro w' ⟨s0, s1, s2, s3, s4, s5, s6, s7, s8, s9, s10⟩; go_simp; with_reducible rfl
  rotate_left
  · simp only [Act.put, List.setIfInBounds_toArray, List.set_cons_zero, List.set_cons_succ, i64_w, i32_w]; rfl
  refine pure_ (i := 5) (N := some 15) (v := ?_) (a' := ?_) #[true, true, true, true, true, true, false, false, false, false, false, false, false, false, false, false, false, false, false] rfl rfl (any_of HT_.out (by kernel_rfl)) (fun _ _ _ h => h) (Or.inl ⟨by rfl, ?_⟩) ?_ ?_
  rotate_left
  · intro w'; go_simp; with_reducible rfl
  rotate_left
  · simp only [Act.put, List.setIfInBounds_toArray, List.set_cons_zero, List.set_cons_succ, i64_w, i32_w]; rfl
  refine pure_ (i := 6) (N := some 16) (v := ?_) (a' := ?_) #[true, true, true, true, true, true, true, false, false, false, false, false, false, false, false, false, false, false, false] rfl rfl (any_of HT_.out (by kernel_rfl)) (fun _ _ _ h => h) (Or.inl ⟨by rfl, ?_⟩) ?_ ?_
  rotate_left
  · intro w'; go_simp; with_reducible rfl
  rotate_left
  · simp only [Act.put, List.setIfInBounds_toArray, List.set_cons_zero, List.set_cons_succ, i64_w, i32_w]; rfl
  refine pure_ (i := 7) (N := some 17) (v := ?_) (a' := ?_) #[true, true, true, true, true, true, true, true, false, false, false, false, false, false, false, false, false, false, false] rfl rfl (any_of HT_.out (by kernel_rfl)) (fun _ _ _ h => h) (Or.inl ⟨by rfl, ?_⟩) ?_ ?_
  rotate_left
  · intro w'; go_simp; with_reducible rfl
  rotate_left
  · simp only [Act.put, List.setIfInBounds_toArray, List.set_cons_zero, List.set_cons_succ, i64_w, i32_w]; rfl
  refine pure_ (i := 8) (N := some 18) (v := ?_) (a' := ?_) #[true, true, true, true, true, true, true, true, true, false, false, false, false, false, false, false, false, false, false] rfl rfl (any_of HT_.out (by kernel_rfl)) (fun _ _ _ h => h) (Or.inl ⟨by rfl, ?_⟩) ?_ ?_
  rotate_left
  · intro w'; go_simp; with_reducible rfl
  rotate_left
  · simp only [Act.put, List.setIfInBounds_toArray, List.set_cons_zero, List.set_cons_succ, i64_w, i32_w]; rfl
  refine take_ (i := 9) (N := some 19) (v := ?_) (a' := ?_) #[true, true, true, true, true, true, true, true, true, true, false, false, false, false, false, false, false, false, false] rfl rfl (take_ofW HT_.out HW_.out (by kernel_rfl)) (fun _ _ _ h => h) (Or.inl ⟨by rfl, ?_⟩) hHeld ?_ ?_
  rotate_left
  · rintro w' ⟨s0, s1, s2, s3, s4, s5, s6, s7, s8, s9, s10⟩; go_simp; with_reducible rfl
  rotate_left
  · simp only [Act.put, List.setIfInBounds_toArray, List.set_cons_zero, List.set_cons_succ, i64_w, i32_w]; rfl
  refine pure_ (i := 10) (N := some 20) (v := ?_) (a' := ?_) #[true, true, true, true, true, true, true, true, true, true, true, false, false, false, false, false, false, false, false] rfl rfl (any_of HT_.out (by kernel_rfl)) (fun _ _ _ h => h) (Or.inl ⟨by rfl, ?_⟩) ?_ ?_
  rotate_left
  · intro w'; go_simp; with_reducible rfl
  rotate_left
  · simp only [Act.put, List.setIfInBounds_toArray, List.set_cons_zero, List.set_cons_succ, i64_w, i32_w]; rfl
  refine pure_ (i := 11) (N := some 21) (v := ?_) (a' := ?_) #[true, true, true, true, true, true, true, true, true, true, true, true, false, false, false, false, false, false, false] rfl rfl (any_of HT_.out (by kernel_rfl)) (fun _ _ _ h => h) (Or.inl ⟨by rfl, ?_⟩) ?_ ?_
  rotate_left
  · intro w'; go_simp; with_reducible rfl
  rotate_left
  · simp only [Act.put, List.setIfInBounds_toArray, List.set_cons_zero, List.set_cons_succ, i64_w, i32_w]; rfl
  refine pure_ (i := 12) (N := some 22) (v := ?_) (a' := ?_) #[true, true, true, true, true, true, true, true, true, true, true, true, true, false, false, false, false, false, false] rfl rfl (any_of HT_.out (by kernel_rfl)) (fun _ _ _ h => h) (Or.inl ⟨by rfl, ?_⟩) ?_ ?_
  rotate_left
  · intro w'; go_simp; with_reducible rfl
  rotate_left
  · simp only [Act.put, List.setIfInBounds_toArray, List.set_cons_zero, List.set_cons_succ, i64_w, i32_w]; rfl
  refine take_ (i := 13) (N := some 23) (v := ?_) (a' := ?_) #[true, true, true, true, true, true, true, true, true, true, true, true, true, true, false, false, false, false, false] rfl rfl (take_ofW HT_.out HW_.out (by kernel_rfl)) (fun _ _ _ h => h) (Or.inl ⟨by rfl, ?_⟩) hHeld ?_ ?_
  rotate_left
  · rintro w' ⟨s0, s1, s2, s3, s4, s5, s6, s7, s8, s9, s10⟩; go_simp; with_reducible rfl
  rotate_left
  · simp only [Act.put, List.setIfInBounds_toArray, List.set_cons_zero, List.set_cons_succ, i64_w, i32_w]; rfl
  refine take_ (i := 14) (N := some 24) (v := ?_) (a' := ?_) #[true, true, true, true, true, true, true, true, true, true, true, true, true, true, true, false, false, false, false] rfl rfl (take_ofW HT_.out HW_.out (by kernel_rfl)) (fun _ _ _ h => h) (Or.inl ⟨by rfl, ?_⟩) hHeld ?_ ?_
  rotate_left
  · rintro w' ⟨s0, s1, s2, s3, s4, s5, s6, s7, s8, s9, s10⟩; go_simp; with_reducible rfl
  rotate_left
  · simp only [Act.put, List.setIfInBounds_toArray, List.set_cons_zero, List.set_cons_succ, i64_w, i32_w]; rfl
  refine one_ (i := 15) (N := some 25) #[true, true, true, true, true, true, true, true, true, true, true, true, true, true, true, true, false, false, false] rfl rfl (one_of HT_.out (by kernel_rfl)) (by decide) (fun K hK => ?_)
  refine goes_ Try.func50 (by kernel_rfl) rfl #[.agg #[.int .i64 k, .int .u64 ls, .int .u32 ep, .int .u32 o, .int .i64 st, .bool un, .int .i64 tr, .int .i64 co, .int .u64 mk, .slice A9 l9.length c9, .slice A10 l10.length c10]] (by rfl) rfl rfl (by (try simp only [List.map_toArray, List.map_cons, List.map_nil]); first | done | rfl) ?_
  (with_reducible refine (HP.out _).mono ?_)
  rintro e w2 ⟨rfl, hb⟩
  refine ⟨_, rfl, ?_⟩
  have n_BK := Aside0.mk (blk_below BK.out hb)
  have n_HB := Aside0.mk (below_step HB.out hb)
  clear BK HB hb
  have BK := n_BK
  have HB := n_HB
  clear n_BK n_HB
  refine hK.out _ _ ⟨(blk_cell BK.out 0).trans rfl, (blk_cell BK.out 1).trans rfl, (blk_cell BK.out 2).trans rfl, (blk_cell BK.out 3).trans rfl, (blk_cell BK.out 4).trans rfl, (blk_cell BK.out 5).trans rfl, (blk_cell BK.out 6).trans rfl, (blk_cell BK.out 7).trans rfl, (blk_cell BK.out 8).trans rfl, (blk_cell BK.out 9).trans rfl, (blk_cell BK.out 10).trans rfl⟩ (fun hHeld => ?_)
  clear hK K
  refine norm_ (a' := ?_) ?_ ?_
  rotate_left
  · show Act.put _ (some 25) _ = _
    simp only [Act.put, List.setIfInBounds_toArray, List.set_cons_zero, List.set_cons_succ, i64_w, i32_w]; rfl
  refine one_ (i := 16) (N := some 26) #[true, true, true, true, true, true, true, true, true, true, true, true, true, true, true, true, true, false, false] rfl rfl (one_of HT_.out (by kernel_rfl)) (by decide) (fun K hK => ?_)
  refine goes_ Try.func23 (by kernel_rfl) rfl #[.agg #[.int .i64 k, .int .u64 ls, .int .u32 ep, .int .u32 o, .int .i64 st, .bool un, .int .i64 tr, .int .i64 co, .int .u64 mk, .slice A9 l9.length c9, .slice A10 l10.length c10], .agg #[.int .i64 k, .int .u64 ls, .int .u32 ep, .int .u32 o', .int .i64 st', .bool un', .int .i64 tr', .int .i64 co', .int .u64 mk', .slice B9 m9.length d9, .slice B10 m10.length d10]] (by rfl) rfl rfl (by (try simp only [List.map_toArray, List.map_cons, List.map_nil]); first | done | rfl) ?_
  (refine (drayageref04_Same.calls k ls ep o st un tr co mk A9 c9 l9 A10 c10 l10 k ls ep o' st' un' tr' co' mk' B9 d9 m9 B10 d10 m10 true _ (Kd.C_below GC9.out HB.out) Gc9.out (Kd.C_below GC10.out HB.out) Gc10.out (GD9.out _ HB.out) Gd9.out (GD10.out _ HB.out) Gd10.out HS.out).mono ?_)
  rintro e w3 ⟨rfl, hb⟩
  refine ⟨_, rfl, ?_⟩
  have n_BK := Aside0.mk (blk_below BK.out hb)
  have n_HB := Aside0.mk (below_step HB.out hb)
  clear BK HB hb
  have BK := n_BK
  have HB := n_HB
  clear n_BK n_HB
  refine hK.out _ _ ⟨(blk_cell BK.out 0).trans rfl, (blk_cell BK.out 1).trans rfl, (blk_cell BK.out 2).trans rfl, (blk_cell BK.out 3).trans rfl, (blk_cell BK.out 4).trans rfl, (blk_cell BK.out 5).trans rfl, (blk_cell BK.out 6).trans rfl, (blk_cell BK.out 7).trans rfl, (blk_cell BK.out 8).trans rfl, (blk_cell BK.out 9).trans rfl, (blk_cell BK.out 10).trans rfl⟩ (fun hHeld => ?_)
  clear hK K
  refine norm_ (a' := ?_) ?_ ?_
  rotate_left
  · show Act.put _ (some 26) _ = _
    simp only [Act.put, List.setIfInBounds_toArray, List.set_cons_zero, List.set_cons_succ, i64_w, i32_w]; rfl
  refine pure_ (i := 17) (N := some 27) (v := ?_) (a' := ?_) #[true, true, true, true, true, true, true, true, true, true, true, true, true, true, true, true, true, true, false] rfl rfl (any_of HT_.out (by kernel_rfl)) (fun _ _ _ h => h) (Or.inl ⟨by rfl, ?_⟩) ?_ ?_
  rotate_left
  · intro w'; go_simp; with_reducible rfl
  rotate_left
  · simp only [Act.put, List.setIfInBounds_toArray, List.set_cons_zero, List.set_cons_succ, i64_w, i32_w]; rfl
  refine pure_ (i := 18) (N := some 28) (v := ?_) (a' := ?_) #[true, true, true, true, true, true, true, true, true, true, true, true, true, true, true, true, true, true, true] rfl rfl (any_of HT_.out (by kernel_rfl)) (fun _ _ _ h => h) (Or.inl ⟨by rfl, ?_⟩) ?_ ?_
  rotate_left
  · intro w'; go_simp; with_reducible rfl
  rotate_left
  · simp only [Act.put, List.setIfInBounds_toArray, List.set_cons_zero, List.set_cons_succ, i64_w, i32_w]; rfl
  refine done_ (done_of HT_.out (by kernel_rfl)) ?_
  clear HT_ HW_ hHeld
  go_wp2
  refine bodyPost_ret ?_ rfl ⟨rfl, HB.out⟩
  simp [results, Try.results37, go_sem]
set_option maxHeartbeats 20000000 in
set_option maxRecDepth 100000 in
theorem refCheck_diff (m : Nat) (k ls ep o st : Int) (un : Bool) (tr co mk : Int) (A9 : Option Addr) (c9 : Nat) (l9 : List Int) (A10 : Option Addr) (c10 : Nat) (l10 : List Int) (r1 : List S86) (w : World) (hC9 : Kd.C (Kd.int .u8) w A9 l9.length l9) (hc9 : l9.length ≤ c9) (hC10 : Kd.C (Kd.int .u8) w A10 l10.length l10) (hc10 : l10.length ≤ c10) (hf : drayageref04_fields.f m k ls ep o st un tr co mk l9 l10 = some (r1, true)) (hl : decide (ls < 1) = false) (he : decide (ep < 1) = false) (o' st' : Int) (un' : Bool) (tr' co' mk' : Int) (B9 : Option Addr) (d9 : Nat) (m9 : List Int) (B10 : Option Addr) (d10 : Nat) (m10 : List Int) (hp : ∀ w1 : World, Calls Try.prog 50 #[.agg #[.int .i64 k, .int .u64 ls, .int .u32 ep, .int .u32 o, .int .i64 st, .bool un, .int .i64 tr, .int .i64 co, .int .u64 mk, .slice A9 l9.length c9, .slice A10 l10.length c10]] w1 fun e w' => e = .returned (.agg #[.int .i64 k, .int .u64 ls, .int .u32 ep, .int .u32 o', .int .i64 st', .bool un', .int .i64 tr', .int .i64 co', .int .u64 mk', .slice B9 m9.length d9, .slice B10 m10.length d10]) ∧ Below w1.heap.size w1 w') (hD9 : ∀ W : World, Below w.heap.size w W → Kd.C (Kd.int .u8) W B9 m9.length m9) (hd9 : m9.length ≤ d9) (hD10 : ∀ W : World, Below w.heap.size w W → Kd.C (Kd.int .u8) W B10 m10.length m10) (hd10 : m10.length ≤ d10) (hs : drayageref04_Same.f k ls ep o st un tr co mk l9 l10 k ls ep o' st' un' tr' co' mk' m9 m10 = some false) : Calls Try.prog 37 #[.agg #[.int .i64 k, .int .u64 ls, .int .u32 ep, .int .u32 o, .int .i64 st, .bool un, .int .i64 tr, .int .i64 co, .int .u64 mk, .slice A9 l9.length c9, .slice A10 l10.length c10]] w fun e w' => e = .returned (.int .i64 40) ∧ Below w.heap.size w w' := by
  have GC9 := Aside0.mk hC9
  have Gc9 := Aside0.mk hc9
  have GC10 := Aside0.mk hC10
  have Gc10 := Aside0.mk hc10
  have GD9 := Aside0.mk hD9
  have Gd9 := Aside0.mk hd9
  have GD10 := Aside0.mk hD10
  have Gd10 := Aside0.mk hd10
  have HF := Aside0.mk hf
  clear hC9 hc9 hC10 hc10 hf hD9 hd9 hD10 hd10
  have HS := Aside0.mk hs
  have HP := Aside0.mk hp
  clear hs hp
  go_enter Try.func37, Try.ntmps37
  go_wp2_with (first | (go_at_call 38; (with_reducible refine (drayageref04_fields.calls m k ls ep o st un tr co mk (fun k_ => k_ < (w.alloc (.cells #[.int .i64 k, .int .u64 ls, .int .u32 ep, .int .u32 o, .int .i64 st, .bool un, .int .i64 tr, .int .i64 co, .int .u64 mk, .slice A9 l9.length c9, .slice A10 l10.length c10] 26 (0, 0))).heap.size) A9 c9 l9 (fun k_ => k_ < (w.alloc (.cells #[.int .i64 k, .int .u64 ls, .int .u32 ep, .int .u32 o, .int .i64 st, .bool un, .int .i64 tr, .int .i64 co, .int .u64 mk, .slice A9 l9.length c9, .slice A10 l10.length c10] 26 (0, 0))).heap.size) A10 c10 l10 r1 true _ ?a1 ?a2 HF.out).mono ?_); (case a1 => exact Kd.V_mk Gc9.out (Kd.C_F (Kd.heap_int .u8) (Kd.C_alloc GC9.out _))); (case a2 => exact Kd.V_mk Gc10.out (Kd.C_F (Kd.heap_int .u8) (Kd.C_alloc GC10.out _))); rintro e w1 ⟨v0, rfl, hN, hb⟩; have BK := Aside0.mk (blk_below (heap_last _ _) hb); have HB := Aside0.mk (below_step (below_alloc (Below.refl _ _) _) hb); clear hN hb))
  have n_BK := Aside0.mk (blk_drew BK.out)
  have n_HB := Aside0.mk (below_drew1 HB.out)
  clear BK HB
  have BK := n_BK
  have HB := n_HB
  clear n_BK n_HB
  refine start_ (n := 19) (S := fun w' => w'.cell? ⟨w.heap.size, 0, none⟩ = some (.int .i64 k) ∧ w'.cell? ⟨w.heap.size, 1, none⟩ = some (.int .u64 ls) ∧ w'.cell? ⟨w.heap.size, 2, none⟩ = some (.int .u32 ep) ∧ w'.cell? ⟨w.heap.size, 3, none⟩ = some (.int .u32 o) ∧ w'.cell? ⟨w.heap.size, 4, none⟩ = some (.int .i64 st) ∧ w'.cell? ⟨w.heap.size, 5, none⟩ = some (.bool un) ∧ w'.cell? ⟨w.heap.size, 6, none⟩ = some (.int .i64 tr) ∧ w'.cell? ⟨w.heap.size, 7, none⟩ = some (.int .i64 co) ∧ w'.cell? ⟨w.heap.size, 8, none⟩ = some (.int .u64 mk) ∧ w'.cell? ⟨w.heap.size, 9, none⟩ = some (.slice A9 l9.length c9) ∧ w'.cell? ⟨w.heap.size, 10, none⟩ = some (.slice A10 l10.length c10)) (ds := []) #[false, false, false, false, false, false, false, false, false, false, false, false, false, false, false, false, false, false, false] (by kernel_rfl) rfl rfl ⟨(blk_cell BK.out 0).trans rfl, (blk_cell BK.out 1).trans rfl, (blk_cell BK.out 2).trans rfl, (blk_cell BK.out 3).trans rfl, (blk_cell BK.out 4).trans rfl, (blk_cell BK.out 5).trans rfl, (blk_cell BK.out 6).trans rfl, (blk_cell BK.out 7).trans rfl, (blk_cell BK.out 8).trans rfl, (blk_cell BK.out 9).trans rfl, (blk_cell BK.out 10).trans rfl⟩ (fun hHeld => ?_); refine with_tabW drayageref04_Check.tab2 drayageref04_Check.bits2 (fun HT_ HW_ => ?_)
  generalize w1.drew = wd_ at BK HB hHeld ⊢
  refine pure_ (i := 0) (N := some 10) (v := ?_) (a' := ?_) #[true, false, false, false, false, false, false, false, false, false, false, false, false, false, false, false, false, false, false] rfl rfl (any_of HT_.out (by kernel_rfl)) (fun _ _ _ h => h) (Or.inl ⟨by rfl, ?_⟩) ?_ ?_
  rotate_left
  · intro w'; go_simp; with_reducible rfl
  rotate_left
  · simp only [Act.put, List.setIfInBounds_toArray, List.set_cons_zero, List.set_cons_succ, i64_w, i32_w]; rfl
  refine pure_ (i := 1) (N := some 11) (v := ?_) (a' := ?_) #[true, true, false, false, false, false, false, false, false, false, false, false, false, false, false, false, false, false, false] rfl rfl (any_of HT_.out (by kernel_rfl)) (fun _ _ _ h => h) (Or.inl ⟨by rfl, ?_⟩) ?_ ?_
  rotate_left
  · intro w'; go_simp; with_reducible rfl
  rotate_left
  · simp only [Act.put, List.setIfInBounds_toArray, List.set_cons_zero, List.set_cons_succ, i64_w, i32_w]; rfl
  refine pure_ (i := 2) (N := some 12) (v := ?_) (a' := ?_) #[true, true, true, false, false, false, false, false, false, false, false, false, false, false, false, false, false, false, false] rfl rfl (any_of HT_.out (by kernel_rfl)) (fun _ _ _ h => h) (Or.inl ⟨by rfl, ?_⟩) ?_ ?_
  rotate_left
  · intro w'; go_simp; with_reducible rfl
  rotate_left
  · simp only [Act.put, List.setIfInBounds_toArray, List.set_cons_zero, List.set_cons_succ, i64_w, i32_w]; rfl
  refine pure_ (i := 3) (N := some 13) (v := ?_) (a' := ?_) #[true, true, true, true, false, false, false, false, false, false, false, false, false, false, false, false, false, false, false] rfl rfl (any_of HT_.out (by kernel_rfl)) (fun _ _ _ h => h) (Or.inl ⟨by rfl, ?_⟩) ?_ ?_
  rotate_left
  · intro w'; go_simp; with_reducible rfl
  rotate_left
  · simp only [Act.put, List.setIfInBounds_toArray, List.set_cons_zero, List.set_cons_succ, i64_w, i32_w]; rfl
  refine take_ (i := 4) (N := some 14) (v := ?_) (a' := ?_) #[true, true, true, true, true, false, false, false, false, false, false, false, false, false, false, false, false, false, false] rfl rfl (take_ofW HT_.out HW_.out (by kernel_rfl)) (fun _ _ _ h => h) (Or.inl ⟨by rfl, ?_⟩) hHeld ?_ ?_
  rotate_left
  · rintro w' ⟨s0, s1, s2, s3, s4, s5, s6, s7, s8, s9, s10⟩; go_simp; with_reducible rfl
  rotate_left
  · simp only [Act.put, List.setIfInBounds_toArray, List.set_cons_zero, List.set_cons_succ, i64_w, i32_w]; rfl
  refine pure_ (i := 5) (N := some 15) (v := ?_) (a' := ?_) #[true, true, true, true, true, true, false, false, false, false, false, false, false, false, false, false, false, false, false] rfl rfl (any_of HT_.out (by kernel_rfl)) (fun _ _ _ h => h) (Or.inl ⟨by rfl, ?_⟩) ?_ ?_
  rotate_left
  · intro w'; go_simp; with_reducible rfl
  rotate_left
  · simp only [Act.put, List.setIfInBounds_toArray, List.set_cons_zero, List.set_cons_succ, i64_w, i32_w]; rfl
  refine pure_ (i := 6) (N := some 16) (v := ?_) (a' := ?_) #[true, true, true, true, true, true, true, false, false, false, false, false, false, false, false, false, false, false, false] rfl rfl (any_of HT_.out (by kernel_rfl)) (fun _ _ _ h => h) (Or.inl ⟨by rfl, ?_⟩) ?_ ?_
  rotate_left
  · intro w'; go_simp; with_reducible rfl
  rotate_left
  · simp only [Act.put, List.setIfInBounds_toArray, List.set_cons_zero, List.set_cons_succ, i64_w, i32_w]; rfl
  refine pure_ (i := 7) (N := some 17) (v := ?_) (a' := ?_) #[true, true, true, true, true, true, true, true, false, false, false, false, false, false, false, false, false, false, false] rfl rfl (any_of HT_.out (by kernel_rfl)) (fun _ _ _ h => h) (Or.inl ⟨by rfl, ?_⟩) ?_ ?_
  rotate_left
  · intro w'; go_simp; with_reducible rfl
  rotate_left
  · simp only [Act.put, List.setIfInBounds_toArray, List.set_cons_zero, List.set_cons_succ, i64_w, i32_w]; rfl
  refine pure_ (i := 8) (N := some 18) (v := ?_) (a' := ?_) #[true, true, true, true, true, true, true, true, true, false, false, false, false, false, false, false, false, false, false] rfl rfl (any_of HT_.out (by kernel_rfl)) (fun _ _ _ h => h) (Or.inl ⟨by rfl, ?_⟩) ?_ ?_
  rotate_left
  · intro w'; go_simp; with_reducible rfl
  rotate_left
  · simp only [Act.put, List.setIfInBounds_toArray, List.set_cons_zero, List.set_cons_succ, i64_w, i32_w]; rfl
  refine take_ (i := 9) (N := some 19) (v := ?_) (a' := ?_) #[true, true, true, true, true, true, true, true, true, true, false, false, false, false, false, false, false, false, false] rfl rfl (take_ofW HT_.out HW_.out (by kernel_rfl)) (fun _ _ _ h => h) (Or.inl ⟨by rfl, ?_⟩) hHeld ?_ ?_
  rotate_left
  · rintro w' ⟨s0, s1, s2, s3, s4, s5, s6, s7, s8, s9, s10⟩; go_simp; with_reducible rfl
  rotate_left
  · simp only [Act.put, List.setIfInBounds_toArray, List.set_cons_zero, List.set_cons_succ, i64_w, i32_w]; rfl
  refine pure_ (i := 10) (N := some 20) (v := ?_) (a' := ?_) #[true, true, true, true, true, true, true, true, true, true, true, false, false, false, false, false, false, false, false] rfl rfl (any_of HT_.out (by kernel_rfl)) (fun _ _ _ h => h) (Or.inl ⟨by rfl, ?_⟩) ?_ ?_
  rotate_left
  · intro w'; go_simp; with_reducible rfl
  rotate_left
  · simp only [Act.put, List.setIfInBounds_toArray, List.set_cons_zero, List.set_cons_succ, i64_w, i32_w]; rfl
  refine pure_ (i := 11) (N := some 21) (v := ?_) (a' := ?_) #[true, true, true, true, true, true, true, true, true, true, true, true, false, false, false, false, false, false, false] rfl rfl (any_of HT_.out (by kernel_rfl)) (fun _ _ _ h => h) (Or.inl ⟨by rfl, ?_⟩) ?_ ?_
  rotate_left
  · intro w'; go_simp; with_reducible rfl
  rotate_left
  · simp only [Act.put, List.setIfInBounds_toArray, List.set_cons_zero, List.set_cons_succ, i64_w, i32_w]; rfl
  refine pure_ (i := 12) (N := some 22) (v := ?_) (a' := ?_) #[true, true, true, true, true, true, true, true, true, true, true, true, true, false, false, false, false, false, false] rfl rfl (any_of HT_.out (by kernel_rfl)) (fun _ _ _ h => h) (Or.inl ⟨by rfl, ?_⟩) ?_ ?_
  rotate_left
  · intro w'; go_simp; with_reducible rfl
  rotate_left
  · simp only [Act.put, List.setIfInBounds_toArray, List.set_cons_zero, List.set_cons_succ, i64_w, i32_w]; rfl
  refine take_ (i := 13) (N := some 23) (v := ?_) (a' := ?_) #[true, true, true, true, true, true, true, true, true, true, true, true, true, true, false, false, false, false, false] rfl rfl (take_ofW HT_.out HW_.out (by kernel_rfl)) (fun _ _ _ h => h) (Or.inl ⟨by rfl, ?_⟩) hHeld ?_ ?_
  rotate_left
  · rintro w' ⟨s0, s1, s2, s3, s4, s5, s6, s7, s8, s9, s10⟩; go_simp; with_reducible rfl
  rotate_left
  · simp only [Act.put, List.setIfInBounds_toArray, List.set_cons_zero, List.set_cons_succ, i64_w, i32_w]; rfl
  refine take_ (i := 14) (N := some 24) (v := ?_) (a' := ?_) #[true, true, true, true, true, true, true, true, true, true, true, true, true, true, true, false, false, false, false] rfl rfl (take_ofW HT_.out HW_.out (by kernel_rfl)) (fun _ _ _ h => h) (Or.inl ⟨by rfl, ?_⟩) hHeld ?_ ?_
  rotate_left
  · rintro w' ⟨s0, s1, s2, s3, s4, s5, s6, s7, s8, s9, s10⟩; go_simp; with_reducible rfl
  rotate_left
  · simp only [Act.put, List.setIfInBounds_toArray, List.set_cons_zero, List.set_cons_succ, i64_w, i32_w]; rfl
  refine one_ (i := 15) (N := some 25) #[true, true, true, true, true, true, true, true, true, true, true, true, true, true, true, true, false, false, false] rfl rfl (one_of HT_.out (by kernel_rfl)) (by decide) (fun K hK => ?_)
  refine goes_ Try.func50 (by kernel_rfl) rfl #[.agg #[.int .i64 k, .int .u64 ls, .int .u32 ep, .int .u32 o, .int .i64 st, .bool un, .int .i64 tr, .int .i64 co, .int .u64 mk, .slice A9 l9.length c9, .slice A10 l10.length c10]] (by rfl) rfl rfl (by (try simp only [List.map_toArray, List.map_cons, List.map_nil]); first | done | rfl) ?_
  (with_reducible refine (HP.out _).mono ?_)
  rintro e w2 ⟨rfl, hb⟩
  refine ⟨_, rfl, ?_⟩
  have n_BK := Aside0.mk (blk_below BK.out hb)
  have n_HB := Aside0.mk (below_step HB.out hb)
  clear BK HB hb
  have BK := n_BK
  have HB := n_HB
  clear n_BK n_HB
  refine hK.out _ _ ⟨(blk_cell BK.out 0).trans rfl, (blk_cell BK.out 1).trans rfl, (blk_cell BK.out 2).trans rfl, (blk_cell BK.out 3).trans rfl, (blk_cell BK.out 4).trans rfl, (blk_cell BK.out 5).trans rfl, (blk_cell BK.out 6).trans rfl, (blk_cell BK.out 7).trans rfl, (blk_cell BK.out 8).trans rfl, (blk_cell BK.out 9).trans rfl, (blk_cell BK.out 10).trans rfl⟩ (fun hHeld => ?_)
  clear hK K
  refine norm_ (a' := ?_) ?_ ?_
  rotate_left
  · show Act.put _ (some 25) _ = _
    simp only [Act.put, List.setIfInBounds_toArray, List.set_cons_zero, List.set_cons_succ, i64_w, i32_w]; rfl
  refine one_ (i := 16) (N := some 26) #[true, true, true, true, true, true, true, true, true, true, true, true, true, true, true, true, true, false, false] rfl rfl (one_of HT_.out (by kernel_rfl)) (by decide) (fun K hK => ?_)
  refine goes_ Try.func23 (by kernel_rfl) rfl #[.agg #[.int .i64 k, .int .u64 ls, .int .u32 ep, .int .u32 o, .int .i64 st, .bool un, .int .i64 tr, .int .i64 co, .int .u64 mk, .slice A9 l9.length c9, .slice A10 l10.length c10], .agg #[.int .i64 k, .int .u64 ls, .int .u32 ep, .int .u32 o', .int .i64 st', .bool un', .int .i64 tr', .int .i64 co', .int .u64 mk', .slice B9 m9.length d9, .slice B10 m10.length d10]] (by rfl) rfl rfl (by (try simp only [List.map_toArray, List.map_cons, List.map_nil]); first | done | rfl) ?_
  (refine (drayageref04_Same.calls k ls ep o st un tr co mk A9 c9 l9 A10 c10 l10 k ls ep o' st' un' tr' co' mk' B9 d9 m9 B10 d10 m10 false _ (Kd.C_below GC9.out HB.out) Gc9.out (Kd.C_below GC10.out HB.out) Gc10.out (GD9.out _ HB.out) Gd9.out (GD10.out _ HB.out) Gd10.out HS.out).mono ?_)
  rintro e w3 ⟨rfl, hb⟩
  refine ⟨_, rfl, ?_⟩
  have n_BK := Aside0.mk (blk_below BK.out hb)
  have n_HB := Aside0.mk (below_step HB.out hb)
  clear BK HB hb
  have BK := n_BK
  have HB := n_HB
  clear n_BK n_HB
  refine hK.out _ _ ⟨(blk_cell BK.out 0).trans rfl, (blk_cell BK.out 1).trans rfl, (blk_cell BK.out 2).trans rfl, (blk_cell BK.out 3).trans rfl, (blk_cell BK.out 4).trans rfl, (blk_cell BK.out 5).trans rfl, (blk_cell BK.out 6).trans rfl, (blk_cell BK.out 7).trans rfl, (blk_cell BK.out 8).trans rfl, (blk_cell BK.out 9).trans rfl, (blk_cell BK.out 10).trans rfl⟩ (fun hHeld => ?_)
  clear hK K
  refine norm_ (a' := ?_) ?_ ?_
  rotate_left
  · show Act.put _ (some 26) _ = _
    simp only [Act.put, List.setIfInBounds_toArray, List.set_cons_zero, List.set_cons_succ, i64_w, i32_w]; rfl
  refine pure_ (i := 17) (N := some 27) (v := ?_) (a' := ?_) #[true, true, true, true, true, true, true, true, true, true, true, true, true, true, true, true, true, true, false] rfl rfl (any_of HT_.out (by kernel_rfl)) (fun _ _ _ h => h) (Or.inl ⟨by rfl, ?_⟩) ?_ ?_
  rotate_left
  · intro w'; go_simp; with_reducible rfl
  rotate_left
  · simp only [Act.put, List.setIfInBounds_toArray, List.set_cons_zero, List.set_cons_succ, i64_w, i32_w]; rfl
  refine pure_ (i := 18) (N := some 28) (v := ?_) (a' := ?_) #[true, true, true, true, true, true, true, true, true, true, true, true, true, true, true, true, true, true, true] rfl rfl (any_of HT_.out (by kernel_rfl)) (fun _ _ _ h => h) (Or.inl ⟨by rfl, ?_⟩) ?_ ?_
  rotate_left
  · intro w'; go_simp; with_reducible rfl
  rotate_left
  · simp only [Act.put, List.setIfInBounds_toArray, List.set_cons_zero, List.set_cons_succ, i64_w, i32_w]; rfl
  refine done_ (done_of HT_.out (by kernel_rfl)) ?_
  clear HT_ HW_ hHeld
  go_wp2
  refine bodyPost_ret ?_ rfl ⟨rfl, HB.out⟩
  simp [results, Try.results37, go_sem]
/-- an entry with what its kind names alone is the same as it -/
def plainB (k ls ep o st : Int) (un : Bool) (tr co mk : Int) (l9 l10 : List Int) : Bool :=
  (drayageref04_Same.f k ls ep o st un tr co mk l9 l10 k ls ep (if 2 ≤ k ∧ k ≤ 5 then o else 0) (if k = 3 ∨ k = 4 then st else 0) (if k = 3 ∨ k = 4 then un else false) (if k = 3 ∨ k = 4 then tr else 0) (if 4 ≤ k ∧ k ≤ 6 then co else 0) (if k = 7 then mk else 0) (if k = 2 then l9 else []) (if k = 2 then l10 else [])).getD false
theorem same_get (k ls ep o st : Int) (un : Bool) (tr co mk : Int) (l9 l10 : List Int) (k' ls' ep' o' st' : Int) (un' : Bool) (tr' co' mk' : Int) (m9 m10 : List Int) : drayageref04_Same.f k ls ep o st un tr co mk l9 l10 k' ls' ep' o' st' un' tr' co' mk' m9 m10 = some ((drayageref04_Same.f k ls ep o st un tr co mk l9 l10 k' ls' ep' o' st' un' tr' co' mk' m9 m10).getD false) := by
  unfold drayageref04_Same.f
  repeat' split
  all_goals rfl
def drayageref04_Check.f (m : Nat) (a0_0 : Int) (a0_1 : Int) (a0_2 : Int) (a0_3 : Int) (a0_4 : Int) (a0_5 : Bool) (a0_6 : Int) (a0_7 : Int) (a0_8 : Int) (l0_9 : List Int) (l0_10 : List Int) : Option Int :=
  (drayageref04_fields.f m a0_0 a0_1 a0_2 a0_3 a0_4 a0_5 a0_6 a0_7 a0_8 l0_9 l0_10).bind fun b => if b.2 = true ∧ ¬ (1 ≤ a0_0 ∧ a0_0 ≤ 7) then none else some (if (b.2 && (!decide (a0_1 < 1) && (!decide (a0_2 < 1) && plainB a0_0 a0_1 a0_2 a0_3 a0_4 a0_5 a0_6 a0_7 a0_8 l0_9 l0_10))) = true then 0 else 40)

set_option maxHeartbeats 20000000 in
set_option maxRecDepth 100000 in
theorem refCheck_any (m : Nat) (k ls ep o st : Int) (un : Bool) (tr co mk : Int) (A9 : Option Addr) (c9 : Nat) (l9 : List Int) (A10 : Option Addr) (c10 : Nat) (l10 : List Int) (r1 : List S86) (b : Bool) (w : World) (hC9 : Kd.C (Kd.int .u8) w A9 l9.length l9) (hc9 : l9.length ≤ c9) (hC10 : Kd.C (Kd.int .u8) w A10 l10.length l10) (hc10 : l10.length ≤ c10) (hf : drayageref04_fields.f m k ls ep o st un tr co mk l9 l10 = some (r1, b)) (hk : b = true → 1 ≤ k ∧ k ≤ 7) : Calls Try.prog 37 #[.agg #[.int .i64 k, .int .u64 ls, .int .u32 ep, .int .u32 o, .int .i64 st, .bool un, .int .i64 tr, .int .i64 co, .int .u64 mk, .slice A9 l9.length c9, .slice A10 l10.length c10]] w fun e w' => e = .returned (.int .i64 (if (b && (!decide (ls < 1) && (!decide (ep < 1) && plainB k ls ep o st un tr co mk l9 l10))) = true then 0 else 40)) ∧ Below w.heap.size w w' := by
  cases b with
  | false => exact refCheck_bad m k ls ep o st un tr co mk A9 c9 l9 A10 c10 l10 r1 w hC9 hc9 hC10 hc10 hf
  | true =>
    cases hl : decide (ls < 1) with
    | true => exact refCheck_ls0 m k ls ep o st un tr co mk A9 c9 l9 A10 c10 l10 r1 w hC9 hc9 hC10 hc10 hf hl
    | false =>
      cases he : decide (ep < 1) with
      | true => exact refCheck_ep0 m k ls ep o st un tr co mk A9 c9 l9 A10 c10 l10 r1 w hC9 hc9 hC10 hc10 hf hl he
      | false =>
        have kk := hk rfl
        have hcase : k = 1 ∨ k = 2 ∨ k = 3 ∨ k = 4 ∨ k = 5 ∨ k = 6 ∨ k = 7 := by omega
        rcases hcase with rfl | rfl | rfl | rfl | rfl | rfl | rfl
        · have hg := same_get 1 ls ep o st un tr co mk l9 l10 1 ls ep 0 0 false 0 0 0 [] []
          have hb : plainB 1 ls ep o st un tr co mk l9 l10 = (drayageref04_Same.f 1 ls ep o st un tr co mk l9 l10 1 ls ep 0 0 false 0 0 0 [] []).getD false := rfl
          rw [← hb] at hg
          cases hx : plainB 1 ls ep o st un tr co mk l9 l10 with
          | true => rw [hx] at hg; exact refCheck_same m 1 ls ep o st un tr co mk A9 c9 l9 A10 c10 l10 r1 w hC9 hc9 hC10 hc10 hf hl he 0 0 false 0 0 0 none 0 [] none 0 [] (plain_1 ls ep o st un tr co mk A9 l9.length c9 A10 l10.length c10) (fun W _ => Kd.C_nil _ _) (Nat.le_refl _) (fun W _ => Kd.C_nil _ _) (Nat.le_refl _) hg
          | false => rw [hx] at hg; exact refCheck_diff m 1 ls ep o st un tr co mk A9 c9 l9 A10 c10 l10 r1 w hC9 hc9 hC10 hc10 hf hl he 0 0 false 0 0 0 none 0 [] none 0 [] (plain_1 ls ep o st un tr co mk A9 l9.length c9 A10 l10.length c10) (fun W _ => Kd.C_nil _ _) (Nat.le_refl _) (fun W _ => Kd.C_nil _ _) (Nat.le_refl _) hg
        · have hg := same_get 2 ls ep o st un tr co mk l9 l10 2 ls ep o 0 false 0 0 0 l9 l10
          have hb : plainB 2 ls ep o st un tr co mk l9 l10 = (drayageref04_Same.f 2 ls ep o st un tr co mk l9 l10 2 ls ep o 0 false 0 0 0 l9 l10).getD false := rfl
          rw [← hb] at hg
          cases hx : plainB 2 ls ep o st un tr co mk l9 l10 with
          | true => rw [hx] at hg; exact refCheck_same m 2 ls ep o st un tr co mk A9 c9 l9 A10 c10 l10 r1 w hC9 hc9 hC10 hc10 hf hl he o 0 false 0 0 0 A9 c9 l9 A10 c10 l10 (plain_2 ls ep o st un tr co mk A9 l9.length c9 A10 l10.length c10) (fun W hW => Kd.C_below hC9 hW) hc9 (fun W hW => Kd.C_below hC10 hW) hc10 hg
          | false => rw [hx] at hg; exact refCheck_diff m 2 ls ep o st un tr co mk A9 c9 l9 A10 c10 l10 r1 w hC9 hc9 hC10 hc10 hf hl he o 0 false 0 0 0 A9 c9 l9 A10 c10 l10 (plain_2 ls ep o st un tr co mk A9 l9.length c9 A10 l10.length c10) (fun W hW => Kd.C_below hC9 hW) hc9 (fun W hW => Kd.C_below hC10 hW) hc10 hg
        · have hg := same_get 3 ls ep o st un tr co mk l9 l10 3 ls ep o st un tr 0 0 [] []
          have hb : plainB 3 ls ep o st un tr co mk l9 l10 = (drayageref04_Same.f 3 ls ep o st un tr co mk l9 l10 3 ls ep o st un tr 0 0 [] []).getD false := rfl
          rw [← hb] at hg
          cases hx : plainB 3 ls ep o st un tr co mk l9 l10 with
          | true => rw [hx] at hg; exact refCheck_same m 3 ls ep o st un tr co mk A9 c9 l9 A10 c10 l10 r1 w hC9 hc9 hC10 hc10 hf hl he o st un tr 0 0 none 0 [] none 0 [] (plain_3 ls ep o st un tr co mk A9 l9.length c9 A10 l10.length c10) (fun W _ => Kd.C_nil _ _) (Nat.le_refl _) (fun W _ => Kd.C_nil _ _) (Nat.le_refl _) hg
          | false => rw [hx] at hg; exact refCheck_diff m 3 ls ep o st un tr co mk A9 c9 l9 A10 c10 l10 r1 w hC9 hc9 hC10 hc10 hf hl he o st un tr 0 0 none 0 [] none 0 [] (plain_3 ls ep o st un tr co mk A9 l9.length c9 A10 l10.length c10) (fun W _ => Kd.C_nil _ _) (Nat.le_refl _) (fun W _ => Kd.C_nil _ _) (Nat.le_refl _) hg
        · have hg := same_get 4 ls ep o st un tr co mk l9 l10 4 ls ep o st un tr co 0 [] []
          have hb : plainB 4 ls ep o st un tr co mk l9 l10 = (drayageref04_Same.f 4 ls ep o st un tr co mk l9 l10 4 ls ep o st un tr co 0 [] []).getD false := rfl
          rw [← hb] at hg
          cases hx : plainB 4 ls ep o st un tr co mk l9 l10 with
          | true => rw [hx] at hg; exact refCheck_same m 4 ls ep o st un tr co mk A9 c9 l9 A10 c10 l10 r1 w hC9 hc9 hC10 hc10 hf hl he o st un tr co 0 none 0 [] none 0 [] (plain_4 ls ep o st un tr co mk A9 l9.length c9 A10 l10.length c10) (fun W _ => Kd.C_nil _ _) (Nat.le_refl _) (fun W _ => Kd.C_nil _ _) (Nat.le_refl _) hg
          | false => rw [hx] at hg; exact refCheck_diff m 4 ls ep o st un tr co mk A9 c9 l9 A10 c10 l10 r1 w hC9 hc9 hC10 hc10 hf hl he o st un tr co 0 none 0 [] none 0 [] (plain_4 ls ep o st un tr co mk A9 l9.length c9 A10 l10.length c10) (fun W _ => Kd.C_nil _ _) (Nat.le_refl _) (fun W _ => Kd.C_nil _ _) (Nat.le_refl _) hg
        · have hg := same_get 5 ls ep o st un tr co mk l9 l10 5 ls ep o 0 false 0 co 0 [] []
          have hb : plainB 5 ls ep o st un tr co mk l9 l10 = (drayageref04_Same.f 5 ls ep o st un tr co mk l9 l10 5 ls ep o 0 false 0 co 0 [] []).getD false := rfl
          rw [← hb] at hg
          cases hx : plainB 5 ls ep o st un tr co mk l9 l10 with
          | true => rw [hx] at hg; exact refCheck_same m 5 ls ep o st un tr co mk A9 c9 l9 A10 c10 l10 r1 w hC9 hc9 hC10 hc10 hf hl he o 0 false 0 co 0 none 0 [] none 0 [] (plain_5 ls ep o st un tr co mk A9 l9.length c9 A10 l10.length c10) (fun W _ => Kd.C_nil _ _) (Nat.le_refl _) (fun W _ => Kd.C_nil _ _) (Nat.le_refl _) hg
          | false => rw [hx] at hg; exact refCheck_diff m 5 ls ep o st un tr co mk A9 c9 l9 A10 c10 l10 r1 w hC9 hc9 hC10 hc10 hf hl he o 0 false 0 co 0 none 0 [] none 0 [] (plain_5 ls ep o st un tr co mk A9 l9.length c9 A10 l10.length c10) (fun W _ => Kd.C_nil _ _) (Nat.le_refl _) (fun W _ => Kd.C_nil _ _) (Nat.le_refl _) hg
        · have hg := same_get 6 ls ep o st un tr co mk l9 l10 6 ls ep 0 0 false 0 co 0 [] []
          have hb : plainB 6 ls ep o st un tr co mk l9 l10 = (drayageref04_Same.f 6 ls ep o st un tr co mk l9 l10 6 ls ep 0 0 false 0 co 0 [] []).getD false := rfl
          rw [← hb] at hg
          cases hx : plainB 6 ls ep o st un tr co mk l9 l10 with
          | true => rw [hx] at hg; exact refCheck_same m 6 ls ep o st un tr co mk A9 c9 l9 A10 c10 l10 r1 w hC9 hc9 hC10 hc10 hf hl he 0 0 false 0 co 0 none 0 [] none 0 [] (plain_6 ls ep o st un tr co mk A9 l9.length c9 A10 l10.length c10) (fun W _ => Kd.C_nil _ _) (Nat.le_refl _) (fun W _ => Kd.C_nil _ _) (Nat.le_refl _) hg
          | false => rw [hx] at hg; exact refCheck_diff m 6 ls ep o st un tr co mk A9 c9 l9 A10 c10 l10 r1 w hC9 hc9 hC10 hc10 hf hl he 0 0 false 0 co 0 none 0 [] none 0 [] (plain_6 ls ep o st un tr co mk A9 l9.length c9 A10 l10.length c10) (fun W _ => Kd.C_nil _ _) (Nat.le_refl _) (fun W _ => Kd.C_nil _ _) (Nat.le_refl _) hg
        · have hg := same_get 7 ls ep o st un tr co mk l9 l10 7 ls ep 0 0 false 0 0 mk [] []
          have hb : plainB 7 ls ep o st un tr co mk l9 l10 = (drayageref04_Same.f 7 ls ep o st un tr co mk l9 l10 7 ls ep 0 0 false 0 0 mk [] []).getD false := rfl
          rw [← hb] at hg
          cases hx : plainB 7 ls ep o st un tr co mk l9 l10 with
          | true => rw [hx] at hg; exact refCheck_same m 7 ls ep o st un tr co mk A9 c9 l9 A10 c10 l10 r1 w hC9 hc9 hC10 hc10 hf hl he 0 0 false 0 0 mk none 0 [] none 0 [] (plain_7 ls ep o st un tr co mk A9 l9.length c9 A10 l10.length c10) (fun W _ => Kd.C_nil _ _) (Nat.le_refl _) (fun W _ => Kd.C_nil _ _) (Nat.le_refl _) hg
          | false => rw [hx] at hg; exact refCheck_diff m 7 ls ep o st un tr co mk A9 c9 l9 A10 c10 l10 r1 w hC9 hc9 hC10 hc10 hf hl he 0 0 false 0 0 mk none 0 [] none 0 [] (plain_7 ls ep o st un tr co mk A9 l9.length c9 A10 l10.length c10) (fun W _ => Kd.C_nil _ _) (Nat.le_refl _) (fun W _ => Kd.C_nil _ _) (Nat.le_refl _) hg
theorem drayageref04_Check.calls (k : Nat) (a0_0 : Int) (a0_1 : Int) (a0_2 : Int) (a0_3 : Int) (a0_4 : Int) (a0_5 : Bool) (a0_6 : Int) (a0_7 : Int) (a0_8 : Int) (A0_9 : Option Addr) (c0_9 : Nat) (l0_9 : List Int) (A0_10 : Option Addr) (c0_10 : Nat) (l0_10 : List Int) (r : Int) (w : World) (hr0_9 : Kd.C (Kd.int .u8) w A0_9 l0_9.length l0_9) (hc0_9 : l0_9.length ≤ c0_9) (hr0_10 : Kd.C (Kd.int .u8) w A0_10 l0_10.length l0_10) (hc0_10 : l0_10.length ≤ c0_10) (h : drayageref04_Check.f k a0_0 a0_1 a0_2 a0_3 a0_4 a0_5 a0_6 a0_7 a0_8 l0_9 l0_10 = some r) :
    Calls Try.prog 37 #[.agg #[.int .i64 a0_0, .int .u64 a0_1, .int .u32 a0_2, .int .u32 a0_3, .int .i64 a0_4, .bool a0_5, .int .i64 a0_6, .int .i64 a0_7, .int .u64 a0_8, .slice A0_9 l0_9.length c0_9, .slice A0_10 l0_10.length c0_10]] w fun e w' => e = .returned (.int .i64 r) ∧ Below w.heap.size w w' := by
  unfold drayageref04_Check.f at h
  obtain ⟨⟨r1, b⟩, hf, h⟩ := Option.bind_eq_some_iff.mp h
  dsimp only at h
  by_cases c : b = true ∧ ¬ (1 ≤ a0_0 ∧ a0_0 ≤ 7)
  · rw [if_pos c] at h; exact absurd h (by simp)
  · rw [if_neg c] at h
    obtain rfl := Option.some.inj h
    exact refCheck_any k a0_0 a0_1 a0_2 a0_3 a0_4 a0_5 a0_6 a0_7 a0_8 A0_9 c0_9 l0_9 A0_10 c0_10 l0_10 r1 b w hr0_9 hc0_9 hr0_10 hc0_10 hf (fun hb => Decidable.not_not.mp (fun hn => c ⟨hb, hn⟩))

end Go.Proofs.Ytahldljkhjebgaa.PA
