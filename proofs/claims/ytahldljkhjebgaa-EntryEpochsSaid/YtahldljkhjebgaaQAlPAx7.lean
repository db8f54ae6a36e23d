-- printed by a program of this work (wip/tools/pr.py over the kit's print): the machine's side of EntryBare, EntryBegins, EntrySizes, EntryEpochs
import Derived.Test.YtahldljkhjebgaaQAlPAx0
import Derived.Test.YtahldljkhjebgaaQAlPAx5
namespace Go.Proofs.Ytahldljkhjebgaa.PA
open Go.RowKit Go.Proofs.YtahldljkhjebgaaW.PrintWords Go.Proofs.YtahldljkhjebgaaW.PrintLast Go.Proofs.YtahldljkhjebgaaW.PrintMore
attribute [local go_sem] max2_int min2_int max_two min_two max_three min_three max_four min_four   -- for this text's walks alone
set_option linter.unusedVariables false
set_option linter.unusedSimpArgs false

/-! ### drayagelaw04_EntryBegins: function 8 -/
mutual
def drayagelaw04_EntryBegins.j0 : Nat → List (S26) → Int → Int → Bool → Option (Bool)
  | 0, _, _, _, _ => none
  | k + 1, x0, x1, x5, x33 => if x33 = true then (none) else (if (IntKind.u64.wrap (wrap64 (x5 + 1))) = 0 then (none) else (if 0 ≤ (wrap64 (Int.tmod (IntKind.u64.wrap (x1)) (IntKind.u64.wrap (wrap64 (x5 + 1))))) then (if (wrap64 (Int.tmod (IntKind.u64.wrap (x1)) (IntKind.u64.wrap (wrap64 (x5 + 1))))) ≤ (x0.length : Int) then ((entry_Row.f k (x0.take ((wrap64 (Int.tmod (IntKind.u64.wrap (x1)) (IntKind.u64.wrap (wrap64 (x5 + 1))))) : Int).toNat)).bind fun bt200 => (if (wrap64 (Int.tmod (IntKind.u64.wrap (x1)) (IntKind.u64.wrap (wrap64 (x5 + 1))))) ≤ x5 then (if x5 ≤ (x0.length : Int) then ((entry_Row.f k ((x0.take (x5 : Int).toNat).drop ((wrap64 (Int.tmod (IntKind.u64.wrap (x1)) (IntKind.u64.wrap (wrap64 (x5 + 1))))) : Int).toNat)).bind fun bt207 => (if bt200.1 = (wrap64 (Int.tmod (IntKind.u64.wrap (x1)) (IntKind.u64.wrap (wrap64 (x5 + 1))))) then (if bt200.2 = 0 then (if bt207.1 = (wrap64 (x5 - (wrap64 (Int.tmod (IntKind.u64.wrap (x1)) (IntKind.u64.wrap (wrap64 (x5 + 1))))))) then (drayagelaw04_EntryBegins.j1 k x0 x5 (bt207.2 != 0)) else (drayagelaw04_EntryBegins.j1 k x0 x5 true)) else (drayagelaw04_EntryBegins.j1 k x0 x5 true)) else (drayagelaw04_EntryBegins.j1 k x0 x5 true))) else (none)) else (none))) else (none)) else (none)))
def drayagelaw04_EntryBegins.j1 : Nat → List (S26) → Int → Bool → Option (Bool)
  | 0, _, _, _ => none
  | k + 1, x0, x5, x73 => if x73 = true then (none) else (if x5 < (x0.length : Int) then (if 0 ≤ (wrap64 (x5 + 1)) then (if (wrap64 (x5 + 1)) ≤ (x0.length : Int) then ((entry_Row.f k (x0.take ((wrap64 (x5 + 1)) : Int).toNat)).bind fun bt214 => (if bt214.1 = x5 then (if bt214.2 = 41 then (drayagelaw04_EntryBegins.j2 k x0 x5) else (none)) else (none))) else (none)) else (none)) else (drayagelaw04_EntryBegins.j2 k x0 x5))
def drayagelaw04_EntryBegins.j2 : Nat → List (S26) → Int → Option (Bool)
  | 0, _, _ => none
  | k + 1, x0, x5 => if x5 = 0 then (drayagelaw04_EntryBegins.j3 k x0 x5 true) else (if 0 ≤ (wrap64 (x5 - 1)) then (if (wrap64 (x5 - 1)) < (x0.length : Int) then (drayagelaw04_EntryBegins.j3 k x0 x5 (((rd_T26 x0 (wrap64 (x5 - 1))).f1) == 18446744073709551615)) else (none)) else (none))
def drayagelaw04_EntryBegins.j3 : Nat → List (S26) → Int → Bool → Option (Bool)
  | 0, _, _, _ => none
  | k + 1, x0, x5, x103 => if x103 = true then ((drayagelaw04_known.f k).bind fun t217 => (some t217)) else (if 0 ≤ x5 then (if x5 ≤ (x0.length : Int) then ((some (x0.take (x5 : Int).toNat : List (S26))).bind fun y218 => (if ([] : List (S26)).length + y218.length < 1256584717458 then ((some (([] : List (S26)) ++ y218 : List (S26))).bind fun y223 => (if 0 ≤ (wrap64 (x5 - 1)) then (if (wrap64 (x5 - 1)) < (x0.length : Int) then (if y223.length < 1256584717458 then ((entry_Row.f k (y223 ++ [(⟨6, IntKind.u64.wrap (((rd_T26 x0 (wrap64 (x5 - 1))).f1) + 1), (rd_T26 x0 (wrap64 (x5 - 1))).f2, 0, 0, false, 0, 2, 0, ([] : List Int), ([] : List Int)⟩ : S26)])).bind fun bt231 => (if bt231.1 = (wrap64 (x5 + 1)) then (if bt231.2 = 0 then ((drayagelaw04_known.f k).bind fun t233 => (some t233)) else (none)) else (none))) else (none)) else (none)) else (none))) else (none))) else (none)) else (none))
end
def drayagelaw04_EntryBegins.f (k : Nat) (l0 : List (S26)) (a1 : Int) : Option (Bool) := if (l0.length : Int) > 200 then ((drayagelaw04_known.f k).bind fun t192 => (some t192)) else ((entry_Row.f k l0).bind fun bt193 => (if bt193.1 < 0 then (drayagelaw04_EntryBegins.j0 k l0 a1 bt193.1 true) else (drayagelaw04_EntryBegins.j0 k l0 a1 bt193.1 (decide (bt193.1 > (l0.length : Int))))))

def drayagelaw04_EntryBegins.T19 : Bool × List (List Nat × List Nat) := (true, [([], []), ([], []), ([], []), ([2], [2]), ([1, 3], [1, 3]), ([4], [4]), ([5], [5]), ([6], [6]), ([], []), ([], []), ([9], [9]), ([8, 10], [8, 10]), ([11], [11]), ([12], [12]), ([7, 13], [7, 13]), ([14], [14]), ([0, 15], [0, 15]), ([16, 16, 0, 1, 2, 3, 4, 5, 6, 7, 8, 9, 10, 11, 12, 13, 14, 15, 16], [0, 16])])
def drayagelaw04_EntryBegins.B19 : List Nat := [0, 0, 0, 4, 14, 30, 62, 126, 0, 0, 512, 1792, 3840, 7936, 16382, 32766, 65535, 131071]
theorem drayagelaw04_EntryBegins.tab19 : rtab .any (opsOf Try.f8 19) = drayagelaw04_EntryBegins.T19 := by kernel_rfl
theorem drayagelaw04_EntryBegins.bits19 : waitsOk drayagelaw04_EntryBegins.T19.2 drayagelaw04_EntryBegins.B19 = true := by kernel_rfl
set_option maxHeartbeats 8000000 in
set_option maxRecDepth 100000 in
theorem drayagelaw04_EntryBegins.calls (k : Nat) (P0_ : Nat → Prop) (A0 : Option Addr) (c0 : Nat) (l0 : List (S26)) (a1 : Int) (r : Bool) (w : World) (hs0 : Kd.V k26 26 w w.heap.size (fun k_ => P0_ k_) (.slice A0 l0.length c0) l0) (h : drayagelaw04_EntryBegins.f k l0 a1 = some r) :
    Calls Try.prog 8 #[.slice A0 l0.length c0, .int .i64 a1] w fun e w' => e = .returned (.bool r) ∧ Below w.heap.size w w' := by
  have hu26 := Try.underlying26
  have HO0 := Aside0.mk (show Kd.V k26 26 w w.heap.size (fun k_ => (P0_ k_ ∨ w.heap.size ≤ k_)) (.slice A0 l0.length c0) l0 from Kd.V_mono hs0 (fun k_ hk => .inl hk))
  have HB := Aside0.mk (Below.refl w.heap.size w)
  have H : (if (l0.length : Int) > 200 then ((drayagelaw04_known.f k).bind fun t192 => (some t192)) else ((entry_Row.f k l0).bind fun bt193 => (if bt193.1 < 0 then (drayagelaw04_EntryBegins.j0 k l0 a1 bt193.1 true) else (drayagelaw04_EntryBegins.j0 k l0 a1 bt193.1 (decide (bt193.1 > (l0.length : Int))))))) = some r := h
  clear h
  by_cases c3 : (l0.length : Int) > 200
  · rw [if_pos c3] at H
    have c3b0 : decide (200 < (l0.length : Int)) = true := decide_eq_true c3
    have c3b1 : decide (200 < l0.length) = true := decide_eq_true (by omega)
    clear c3
    replace H := Option.bind_eq_some_iff.mp H
    obtain ⟨t192, A40, H⟩ := H
    replace H : (some t192) = some r := H
    have A4 := Aside0.mk A40
    clear A40
    obtain rfl := Option.some.inj H
    go_enter Try.func8, Try.ntmps8
    go_wp2_with (first | ((with_reducible refine gate_callee (f := 12) rfl ?_); refine goesL_ (some 20) rfl rfl Try.func12 (by kernel_rfl) rfl #[] rfl (by (try simp only [List.map_toArray, List.map_cons, List.map_nil]); first | done | rfl | (simp only [List.length_drop, List.length_take]; rfl)) ?_; (with_reducible refine (drayagelaw04_known.calls k  t192 _ A4.out).mono ?_); rintro e w5 ⟨rfl, hb⟩; refine ⟨_, rfl, ?_⟩; have n0_ := Aside0.mk (Kd.V_below (by (with_reducible repeat (first | apply Kd.V_alloc | apply Kd.V_drewN | apply Kd.V_drew)); exact HO0.out) hb); have n1_ := Aside0.mk (below_step (by repeat (first | (with_reducible first | exact HB.out | apply below_alloc | apply pw_below_drewN | apply below_drew1) | exact HB.out)) hb); clear HO0; clear HB; have HO0 := n0_; have HB := n1_; clear n0_ n1_; (try clear hb); (try clear hb2); (try clear hk); (try clear hi)))
    go_ret
    exact ⟨by first | rfl | (simp [errW_none, errW_some] <;> rfl) | (simp [*, errW_none, errW_some] <;> rfl), by repeat (first | (with_reducible first | exact HB.out | apply below_alloc | apply pw_below_drewN | apply below_drew1) | exact HB.out)⟩
  · rw [if_neg c3] at H
    have c3b0 : decide (200 < (l0.length : Int)) = false := decide_eq_false c3
    have c3b1 : decide (200 < l0.length) = false := decide_eq_false (by omega)
    clear c3
    replace H := Option.bind_eq_some_iff.mp H
    obtain ⟨⟨t193, t194⟩, A60, H⟩ := H
    replace H : (if t193 < 0 then (drayagelaw04_EntryBegins.j0 k l0 a1 t193 true) else (drayagelaw04_EntryBegins.j0 k l0 a1 t193 (decide (t193 > (l0.length : Int))))) = some r := H
    have A6 := Aside0.mk A60
    clear A60
    have HC7 := Aside0.mk H
    clear H
    go_enter Try.func8, Try.ntmps8
    go_upto_region 4 with (first | ((with_reducible refine gate_callee (f := 26) rfl ?_); refine goesL_ (some 23) rfl rfl Try.func26 (by kernel_rfl) rfl #[.slice A0 l0.length c0] rfl (by (try simp only [List.map_toArray, List.map_cons, List.map_nil]); first | done | rfl | (simp only [List.length_drop, List.length_take]; rfl)) ?_; (with_reducible refine (entry_Row.calls k _ _ l0 t193 t194 _ ?side1 ?side2 A6.out).mono ?_); (case side1 => repeat (first | exact (Kd.V_reads' HO0.out).2.2 | (with_reducible refine Kd.C_alloc ?_ _) | (with_reducible refine Kd.C_drewN ?_ _) | (with_reducible refine Kd.C_drew ?_))); (case side2 => exact (Kd.V_reads' HO0.out).2.1); rintro e w8 ⟨rfl, hb⟩; refine ⟨_, rfl, ?_⟩; have n0_ := Aside0.mk (Kd.V_below (by (with_reducible repeat (first | apply Kd.V_alloc | apply Kd.V_drewN | apply Kd.V_drew)); exact HO0.out) hb); have n1_ := Aside0.mk (below_step (by repeat (first | (with_reducible first | exact HB.out | apply below_alloc | apply pw_below_drewN | apply below_drew1) | exact HB.out)) hb); clear HO0; clear HB; have HO0 := n0_; have HB := n1_; clear n0_ n1_; (try clear hb); (try clear hb2); (try clear hk); (try clear hi)))
    (try simp only [Act.put, List.setIfInBounds_toArray, List.set_cons_zero, List.set_cons_succ])
    go_cut [33] (fun v33 wc => ∃ (kq : Nat) (x33_6 : Bool), v33 = .bool x33_6 ∧ Aside0 (drayagelaw04_EntryBegins.j0 kq l0 a1 t193 x33_6 = some r) ∧ Aside0 (kq ≤ k) ∧ Aside0 (Kd.V k26 26 wc w.heap.size (fun k_ => (P0_ k_ ∨ w.heap.size ≤ k_)) (.slice A0 l0.length c0) l0) ∧ Aside0 (Below w.heap.size w wc))
    case first =>
      have H := HC7.out
      clear HC7
      by_cases c9 : t193 < 0
      · rw [if_pos c9] at H
        have c9b0 : decide (t193 < 0) = true := decide_eq_true c9
        clear c9
        (first | rw [c9b0] | (simp only [i64_w, i32_w]; rw [c9b0]) | skip)
        have H' := Aside0.mk H
        clear H
        go_wp2
        go_meet
        case rel => exact ⟨_, (true), (by first | rfl | (simp; done) | (simp [*]; done)), H', ⟨by first | omega | exact Nat.le_refl _⟩, ⟨by (with_reducible repeat (first | apply Kd.V_alloc | apply Kd.V_drewN | apply Kd.V_drew)); exact HO0.out⟩, ⟨by repeat (first | (with_reducible first | exact HB.out | apply below_alloc | apply pw_below_drewN | apply below_drew1) | exact HB.out)⟩⟩
      · rw [if_neg c9] at H
        have c9b0 : decide (t193 < 0) = false := decide_eq_false c9
        clear c9
        (first | rw [c9b0] | (simp only [i64_w, i32_w]; rw [c9b0]) | skip)
        have H' := Aside0.mk H
        clear H
        go_wp2
        go_meet
        case rel => exact ⟨_, (decide (t193 > (l0.length : Int))), (by first | rfl | (simp; done) | (simp [*]; done)), H', ⟨by first | omega | exact Nat.le_refl _⟩, ⟨by (with_reducible repeat (first | apply Kd.V_alloc | apply Kd.V_drewN | apply Kd.V_drew)); exact HO0.out⟩, ⟨by repeat (first | (with_reducible first | exact HB.out | apply below_alloc | apply pw_below_drewN | apply below_drew1) | exact HB.out)⟩⟩
    case rest =>
      clear HC7
      try clear c1
      try clear c2
      try clear p2
      try clear c3
      try clear c3b0
      try clear c3b1
      try clear c8
      try clear c9
      try clear c9b0
      obtain ⟨kq, x33_6, rfl, HA, HJ6, HO_0, HB⟩ := hcut
      cases kq with
      | zero => exact absurd HA.out (by simp [drayagelaw04_EntryBegins.j0])
      | succ kj6 =>
        have H := HA.out
        clear HA
        simp only [drayagelaw04_EntryBegins.j0] at H
        by_cases c10 : x33_6 = true
        · subst c10
          have H1 : (none) = some r := by rw [if_pos rfl] at H; exact H
          clear H
          have H := H1
          clear H1
          exact absurd H (by simp)
        · replace c10 := Bool.eq_false_iff.mpr c10
          subst c10
          have H1 : (if (IntKind.u64.wrap (wrap64 (t193 + 1))) = 0 then (none) else (if 0 ≤ (wrap64 (Int.tmod (IntKind.u64.wrap (a1)) (IntKind.u64.wrap (wrap64 (t193 + 1))))) then (if (wrap64 (Int.tmod (IntKind.u64.wrap (a1)) (IntKind.u64.wrap (wrap64 (t193 + 1))))) ≤ (l0.length : Int) then ((entry_Row.f kj6 (l0.take ((wrap64 (Int.tmod (IntKind.u64.wrap (a1)) (IntKind.u64.wrap (wrap64 (t193 + 1))))) : Int).toNat)).bind fun bt200 => (if (wrap64 (Int.tmod (IntKind.u64.wrap (a1)) (IntKind.u64.wrap (wrap64 (t193 + 1))))) ≤ t193 then (if t193 ≤ (l0.length : Int) then ((entry_Row.f kj6 ((l0.take (t193 : Int).toNat).drop ((wrap64 (Int.tmod (IntKind.u64.wrap (a1)) (IntKind.u64.wrap (wrap64 (t193 + 1))))) : Int).toNat)).bind fun bt207 => (if bt200.1 = (wrap64 (Int.tmod (IntKind.u64.wrap (a1)) (IntKind.u64.wrap (wrap64 (t193 + 1))))) then (if bt200.2 = 0 then (if bt207.1 = (wrap64 (t193 - (wrap64 (Int.tmod (IntKind.u64.wrap (a1)) (IntKind.u64.wrap (wrap64 (t193 + 1))))))) then (drayagelaw04_EntryBegins.j1 kj6 l0 t193 (bt207.2 != 0)) else (drayagelaw04_EntryBegins.j1 kj6 l0 t193 true)) else (drayagelaw04_EntryBegins.j1 kj6 l0 t193 true)) else (drayagelaw04_EntryBegins.j1 kj6 l0 t193 true))) else (none)) else (none))) else (none)) else (none))) = some r := by rw [if_neg (show ¬ (false = true) by decide)] at H; exact H
          clear H
          have H := H1
          clear H1
          by_cases c11 : (IntKind.u64.wrap (wrap64 (t193 + 1))) = 0
          · rw [if_pos c11] at H
            exact absurd H (by simp)
          · rw [if_neg c11] at H
            have c11b0 : ((IntKind.u64.wrap (wrap64 (t193 + 1))) == 0) = false := beq_eq_false_iff_ne.mpr c11
            have c11b1 : ((IntKind.u64.wrap (wrap64 (t193 + 1))) != 0) = true := bne_iff_ne.mpr c11
            obtain ⟨ji12, hji12⟩ : ∃ j_ : Int, (wrap64 (Int.tmod (IntKind.u64.wrap (a1)) (IntKind.u64.wrap (wrap64 (t193 + 1))))) = j_ := ⟨_, rfl⟩
            replace H : (if 0 ≤ (ji12) then (if (ji12) ≤ (l0.length : Int) then ((entry_Row.f kj6 (l0.take ((ji12) : Int).toNat)).bind fun bt200 => (if (ji12) ≤ t193 then (if t193 ≤ (l0.length : Int) then ((entry_Row.f kj6 ((l0.take (t193 : Int).toNat).drop ((ji12) : Int).toNat)).bind fun bt207 => (if bt200.1 = (ji12) then (if bt200.2 = 0 then (if bt207.1 = (wrap64 (t193 - (ji12))) then (drayagelaw04_EntryBegins.j1 kj6 l0 t193 (bt207.2 != 0)) else (drayagelaw04_EntryBegins.j1 kj6 l0 t193 true)) else (drayagelaw04_EntryBegins.j1 kj6 l0 t193 true)) else (drayagelaw04_EntryBegins.j1 kj6 l0 t193 true))) else (none)) else (none))) else (none)) else (none)) = some r := by first | (rw [hji12] at H; exact H) | (simp only [hji12] at H ⊢; exact H)
            have hji12w : (IntKind.i64.wrap (Int.tmod (IntKind.u64.wrap (a1)) (IntKind.u64.wrap (wrap64 (t193 + 1))))) = ji12 := (i64_w _).trans hji12
            by_cases c13 : 0 ≤ (ji12)
            · rw [if_pos c13] at H
              have c13b0 := eq_true c13
              have c13b1 : decide (0 ≤ (ji12)) = true := decide_eq_true c13
              clear c13
              by_cases c14 : (ji12) ≤ (l0.length : Int)
              · rw [if_pos c14] at H
                have c14b0 := eq_true c14
                have c14b1 : decide ((ji12) ≤ (l0.length : Int)) = true := decide_eq_true c14
                clear c14
                obtain ⟨y195, hy195⟩ : ∃ y_ : List (S26), y_ = (l0.take ((ji12) : Int).toNat) := ⟨_, rfl⟩
                replace H : ((entry_Row.f kj6 y195).bind fun bt200 => (if (ji12) ≤ t193 then (if t193 ≤ (l0.length : Int) then ((entry_Row.f kj6 ((l0.take (t193 : Int).toNat).drop ((ji12) : Int).toNat)).bind fun bt207 => (if bt200.1 = (ji12) then (if bt200.2 = 0 then (if bt207.1 = (wrap64 (t193 - (ji12))) then (drayagelaw04_EntryBegins.j1 kj6 l0 t193 (bt207.2 != 0)) else (drayagelaw04_EntryBegins.j1 kj6 l0 t193 true)) else (drayagelaw04_EntryBegins.j1 kj6 l0 t193 true)) else (drayagelaw04_EntryBegins.j1 kj6 l0 t193 true))) else (none)) else (none))) = some r := by first | (rw [hy195]; with_reducible exact H) | (have H2_ := (Option.bind_some _ _).symm.trans H; rw [hy195]; with_reducible exact H2_) | (have H2_ := (Option.bind_some _ _).symm.trans H; with_reducible exact H2_) | with_reducible exact H | (rw [hy195]; exact H) | exact H
                have Ny195 := Aside0.mk hy195
                clear hy195
                replace H := Option.bind_eq_some_iff.mp H
                obtain ⟨⟨t200, t201⟩, A150, H⟩ := H
                replace H : (if (ji12) ≤ t193 then (if t193 ≤ (l0.length : Int) then ((entry_Row.f kj6 ((l0.take (t193 : Int).toNat).drop ((ji12) : Int).toNat)).bind fun bt207 => (if t200 = (ji12) then (if t201 = 0 then (if bt207.1 = (wrap64 (t193 - (ji12))) then (drayagelaw04_EntryBegins.j1 kj6 l0 t193 (bt207.2 != 0)) else (drayagelaw04_EntryBegins.j1 kj6 l0 t193 true)) else (drayagelaw04_EntryBegins.j1 kj6 l0 t193 true)) else (drayagelaw04_EntryBegins.j1 kj6 l0 t193 true))) else (none)) else (none)) = some r := H
                have A15 := Aside0.mk A150
                clear A150
                have c16b0 := eq_true (of_decide_eq_true (by first | (with_reducible assumption) | assumption) : 0 ≤ (ji12))
                by_cases c17 : (ji12) ≤ t193
                · rw [if_pos c17] at H
                  have c17b0 := eq_true c17
                  have c17b1 : decide ((ji12) ≤ t193) = true := decide_eq_true c17
                  clear c17
                  by_cases c18 : t193 ≤ (l0.length : Int)
                  · rw [if_pos c18] at H
                    have c18b0 := eq_true c18
                    have c18b1 : decide (t193 ≤ (l0.length : Int)) = true := decide_eq_true c18
                    clear c18
                    obtain ⟨y202, hy202⟩ : ∃ y_ : List (S26), y_ = ((l0.take (t193 : Int).toNat).drop ((ji12) : Int).toNat) := ⟨_, rfl⟩
                    replace H : ((entry_Row.f kj6 y202).bind fun bt207 => (if t200 = (ji12) then (if t201 = 0 then (if bt207.1 = (wrap64 (t193 - (ji12))) then (drayagelaw04_EntryBegins.j1 kj6 l0 t193 (bt207.2 != 0)) else (drayagelaw04_EntryBegins.j1 kj6 l0 t193 true)) else (drayagelaw04_EntryBegins.j1 kj6 l0 t193 true)) else (drayagelaw04_EntryBegins.j1 kj6 l0 t193 true))) = some r := by first | (rw [hy202]; with_reducible exact H) | (have H2_ := (Option.bind_some _ _).symm.trans H; rw [hy202]; with_reducible exact H2_) | (have H2_ := (Option.bind_some _ _).symm.trans H; with_reducible exact H2_) | with_reducible exact H | (rw [hy202]; exact H) | exact H
                    have Ny202 := Aside0.mk hy202
                    clear hy202
                    replace H := Option.bind_eq_some_iff.mp H
                    obtain ⟨⟨t207, t208⟩, A190, H⟩ := H
                    replace H : (if t200 = (ji12) then (if t201 = 0 then (if t207 = (wrap64 (t193 - (ji12))) then (drayagelaw04_EntryBegins.j1 kj6 l0 t193 (t208 != 0)) else (drayagelaw04_EntryBegins.j1 kj6 l0 t193 true)) else (drayagelaw04_EntryBegins.j1 kj6 l0 t193 true)) else (drayagelaw04_EntryBegins.j1 kj6 l0 t193 true)) = some r := H
                    have A19 := Aside0.mk A190
                    clear A190
                    have HC20 := Aside0.mk H
                    clear H
                    have q21 : ((ji12) : Int) ≤ ((l0.length : Int) : Int) := of_decide_eq_true (by first | (with_reducible assumption) | assumption)
                    obtain ⟨i021, hi021, _, hsz21, _⟩ := info_parts info26
                    have hroom21 : l0.length ≤ c0 := (Kd.V_reads' HO_0.out).2.1
                    have hC21 : Kd.F k26 _ _ A0 l0.length l0 := (Kd.V_at (base := w.heap.size) HO_0.out).2.2
                    have hcut21 := cut_to (P := Try.prog) 50 26 .i64 Try.underlying50 hi021 A0 l0.length c0 (ji12) (of_decide_eq_true (by first | (with_reducible assumption) | assumption)) q21 hroom21
                    have hr21 := Kd.F_take (m := ((ji12) : Int).toNat) hC21 (by omega)
                    have hy21 : y195.length = ((ji12) : Int).toNat := (by rw [Ny195.out, List.length_take]; omega)
                    rw [← Ny195.out] at hr21
                    rw [← hy21] at hcut21
                    have HO199 := Aside0.mk (show Kd.V k26 26 _ w.heap.size _ (.slice A0 y195.length c0) y195 from Kd.V_mk (by omega) hr21)
                    have HC199 := Aside0.mk (show y195.length ≤ c0 from by omega)
                    clear hr21 hC21 hroom21 hi021 hsz21
                    have KY21 := Aside0.mk hy21
                    clear hy21
                    replace q21 := eq_true q21
                    go_upto_region 9 with (first | ((with_reducible refine gate_callee (f := 26) rfl ?_); refine goesL_ (some 45) rfl rfl Try.func26 (by kernel_rfl) rfl #[.slice A0 y195.length c0] rfl (by (try simp only [List.map_toArray, List.map_cons, List.map_nil]); first | done | rfl | (simp only [List.length_drop, List.length_take]; rfl)) ?_; (with_reducible refine (entry_Row.calls kj6 _ _ y195 t200 t201 _ ?side1 ?side2 A15.out).mono ?_); (case side1 => repeat (first | exact (Kd.V_reads' HO199.out).2.2 | (with_reducible refine Kd.C_alloc ?_ _) | (with_reducible refine Kd.C_drewN ?_ _) | (with_reducible refine Kd.C_drew ?_))); (case side2 => exact (Kd.V_reads' HO199.out).2.1); rintro e w22 ⟨rfl, hb⟩; refine ⟨_, rfl, ?_⟩; have n0_ := Aside0.mk (Kd.V_below (by (with_reducible repeat (first | apply Kd.V_alloc | apply Kd.V_drewN | apply Kd.V_drew)); exact HO_0.out) hb); have n1_ := Aside0.mk (Kd.V_below (by (with_reducible repeat (first | apply Kd.V_alloc | apply Kd.V_drewN | apply Kd.V_drew)); exact HO199.out) hb); have n2_ := Aside0.mk (below_step (by repeat (first | (with_reducible first | exact HB.out | apply below_alloc | apply pw_below_drewN | apply below_drew1) | exact HB.out)) hb); clear HO_0; clear HO199; clear HB; have HO_0 := n0_; have HO199 := n1_; have HB := n2_; clear n0_ n1_ n2_; (try clear hb); (try clear hb2); (try clear hk); (try clear hi); have q23 : (t193 : Int) ≤ ((l0.length : Int) : Int) := of_decide_eq_true (by first | (with_reducible assumption) | assumption); obtain ⟨i023, hi023, _, hsz23, _⟩ := info_parts info26; have hroom23 : l0.length ≤ c0 := (Kd.V_reads' HO_0.out).2.1; have hC23 : Kd.F k26 _ _ A0 l0.length l0 := (Kd.V_at (base := w.heap.size) HO_0.out).2.2; have ql23 : ((ji12) : Int) ≤ (t193 : Int) := of_decide_eq_true (by first | (with_reducible assumption) | assumption); have q023 : (0 : Int) ≤ ((ji12) : Int) := of_decide_eq_true (by first | (with_reducible assumption) | assumption); have hcut23 := cut_mid (P := Try.prog) 50 26 .i64 .i64 Try.underlying50 hi023 11 hsz23 A0 l0.length c0 (ji12) t193 q023 ql23 q23 hroom23; have hr23 := Kd.F_mid (lo := ((ji12) : Int).toNat) (hi := (t193 : Int).toNat) (c := c0) hC23 (by omega) (by omega) hroom23; obtain ⟨A23, hA23⟩ : ∃ A1, A1 = (if c0 = ((ji12) : Int).toNat then A0 else (A0 : Option Addr).map (·.add (((ji12) : Int).toNat * 11))) := ⟨_, rfl⟩; obtain ⟨c23, hc23⟩ : ∃ c1, c1 = c0 - ((ji12) : Int).toNat := ⟨_, rfl⟩; have hy23 : y202.length = (t193 : Int).toNat - ((ji12) : Int).toNat := (by rw [Ny202.out, List.length_drop, List.length_take] <;> omega); rw [show ((l0).take (t193 : Int).toNat).drop ((ji12) : Int).toNat = y202 from Ny202.out.symm] at hr23; replace hr23 : Kd.F k26 _ _ A23 y202.length y202 := (by rw [hA23]; exact hr23); rw [← hy23, ← hA23, ← hc23] at hcut23; have HO206 := Aside0.mk (show Kd.V k26 26 _ w.heap.size _ (.slice A23 y202.length c23) y202 from Kd.V_mk (by rw [hy23, hc23]; exact Nat.sub_le_sub_right (Nat.le_trans (by omega) hroom23) _) hr23); have HC206 := Aside0.mk (show y202.length ≤ c23 from by rw [hy23, hc23]; exact Nat.sub_le_sub_right (Nat.le_trans (by omega) hroom23) _); clear hr23 hC23 hroom23 hi023 hsz23 hc23; have KY23 := Aside0.mk hy23; have KA23 := Aside0.mk hA23; clear hy23 hA23; replace q23 := eq_true q23) | ((with_reducible refine gate_callee (f := 26) rfl ?_); refine goesL_ (some 53) rfl rfl Try.func26 (by kernel_rfl) rfl #[.slice A23 y202.length c23] rfl (by (try simp only [List.map_toArray, List.map_cons, List.map_nil]); first | done | rfl | (simp only [List.length_drop, List.length_take]; rfl)) ?_; (with_reducible refine (entry_Row.calls kj6 _ _ y202 t207 t208 _ ?side1 ?side2 A19.out).mono ?_); (case side1 => repeat (first | exact (Kd.V_reads' HO206.out).2.2 | (with_reducible refine Kd.C_alloc ?_ _) | (with_reducible refine Kd.C_drewN ?_ _) | (with_reducible refine Kd.C_drew ?_))); (case side2 => exact (Kd.V_reads' HO206.out).2.1); rintro e w24 ⟨rfl, hb⟩; refine ⟨_, rfl, ?_⟩; have n0_ := Aside0.mk (Kd.V_below (by (with_reducible repeat (first | apply Kd.V_alloc | apply Kd.V_drewN | apply Kd.V_drew)); exact HO_0.out) hb); have n1_ := Aside0.mk (Kd.V_below (by (with_reducible repeat (first | apply Kd.V_alloc | apply Kd.V_drewN | apply Kd.V_drew)); exact HO199.out) hb); have n2_ := Aside0.mk (Kd.V_below (by (with_reducible repeat (first | apply Kd.V_alloc | apply Kd.V_drewN | apply Kd.V_drew)); exact HO206.out) hb); have n3_ := Aside0.mk (below_step (by repeat (first | (with_reducible first | exact HB.out | apply below_alloc | apply pw_below_drewN | apply below_drew1) | exact HB.out)) hb); clear HO_0; clear HO199; clear HO206; clear HB; have HO_0 := n0_; have HO199 := n1_; have HO206 := n2_; have HB := n3_; clear n0_ n1_ n2_ n3_; (try clear hb); (try clear hb2); (try clear hk); (try clear hi)))
                    (try simp only [Act.put, List.setIfInBounds_toArray, List.set_cons_zero, List.set_cons_succ])
                    go_cut [73] (fun v73 wc => ∃ (kq : Nat) (x73_19 : Bool), v73 = .bool x73_19 ∧ Aside0 (drayagelaw04_EntryBegins.j1 kq l0 t193 x73_19 = some r) ∧ Aside0 (kq ≤ kj6) ∧ Aside0 (Kd.V k26 26 wc w.heap.size (fun k_ => (P0_ k_ ∨ w.heap.size ≤ k_)) (.slice A0 l0.length c0) l0) ∧ Aside0 (Below w.heap.size w wc))
                    case first =>
                      have H := HC20.out
                      clear HC20
                      by_cases c25 : t200 = (ji12)
                      · rw [if_pos c25] at H
                        have c25b0 : (t200 == (ji12)) = true := beq_iff_eq.mpr c25
                        have c25b1 : (t200 != (ji12)) = false := bne_eq_false_iff_eq.mpr c25
                        clear c25
                        (first | rw [c25b0] | (simp only [i64_w, i32_w]; rw [c25b0]) | skip)
                        by_cases c26 : t201 = 0
                        · rw [if_pos c26] at H
                          have c26b0 : (t201 == 0) = true := beq_iff_eq.mpr c26
                          have c26b1 : (t201 != 0) = false := bne_eq_false_iff_eq.mpr c26
                          clear c26
                          by_cases c27 : t207 = (wrap64 (t193 - (ji12)))
                          · rw [if_pos c27] at H
                            have c27b0 : (t207 == (wrap64 (t193 - (ji12)))) = true := beq_iff_eq.mpr c27
                            have c27b1 : (t207 != (wrap64 (t193 - (ji12)))) = false := bne_eq_false_iff_eq.mpr c27
                            clear c27
                            have H' := Aside0.mk H
                            clear H
                            go_wp2
                            go_meet
                            case rel => exact ⟨_, ((t208 != 0)), (by first | rfl | (simp; done) | (simp [*]; done)), H', ⟨by have := HJ6.out; first | omega | exact Nat.le_refl _⟩, ⟨by (with_reducible repeat (first | apply Kd.V_alloc | apply Kd.V_drewN | apply Kd.V_drew)); exact HO_0.out⟩, ⟨by repeat (first | (with_reducible first | exact HB.out | apply below_alloc | apply pw_below_drewN | apply below_drew1) | exact HB.out)⟩⟩
                          · rw [if_neg c27] at H
                            have c27b0 : (t207 == (wrap64 (t193 - (ji12)))) = false := beq_eq_false_iff_ne.mpr c27
                            have c27b1 : (t207 != (wrap64 (t193 - (ji12)))) = true := bne_iff_ne.mpr c27
                            have H' := Aside0.mk H
                            clear H
                            go_wp2
                            go_meet
                            case rel => exact ⟨_, (true), (by first | rfl | (simp; done) | (simp [*]; done)), H', ⟨by have := HJ6.out; first | omega | exact Nat.le_refl _⟩, ⟨by (with_reducible repeat (first | apply Kd.V_alloc | apply Kd.V_drewN | apply Kd.V_drew)); exact HO_0.out⟩, ⟨by repeat (first | (with_reducible first | exact HB.out | apply below_alloc | apply pw_below_drewN | apply below_drew1) | exact HB.out)⟩⟩
                        · rw [if_neg c26] at H
                          have c26b0 : (t201 == 0) = false := beq_eq_false_iff_ne.mpr c26
                          have c26b1 : (t201 != 0) = true := bne_iff_ne.mpr c26
                          have H' := Aside0.mk H
                          clear H
                          go_wp2
                          go_meet
                          case rel => exact ⟨_, (true), (by first | rfl | (simp; done) | (simp [*]; done)), H', ⟨by have := HJ6.out; first | omega | exact Nat.le_refl _⟩, ⟨by (with_reducible repeat (first | apply Kd.V_alloc | apply Kd.V_drewN | apply Kd.V_drew)); exact HO_0.out⟩, ⟨by repeat (first | (with_reducible first | exact HB.out | apply below_alloc | apply pw_below_drewN | apply below_drew1) | exact HB.out)⟩⟩
                      · rw [if_neg c25] at H
                        have c25b0 : (t200 == (ji12)) = false := beq_eq_false_iff_ne.mpr c25
                        have c25b1 : (t200 != (ji12)) = true := bne_iff_ne.mpr c25
                        (first | rw [c25b0] | (simp only [i64_w, i32_w]; rw [c25b0]) | skip)
                        have H' := Aside0.mk H
                        clear H
                        go_wp2
                        go_meet
                        case rel => exact ⟨_, (true), (by first | rfl | (simp; done) | (simp [*]; done)), H', ⟨by have := HJ6.out; first | omega | exact Nat.le_refl _⟩, ⟨by (with_reducible repeat (first | apply Kd.V_alloc | apply Kd.V_drewN | apply Kd.V_drew)); exact HO_0.out⟩, ⟨by repeat (first | (with_reducible first | exact HB.out | apply below_alloc | apply pw_below_drewN | apply below_drew1) | exact HB.out)⟩⟩
                    case rest =>
                      clear HC20
                      try clear c1
                      try clear c2
                      try clear p2
                      try clear q2
                      try clear c3
                      try clear c3b0
                      try clear c3b1
                      try clear p6
                      try clear c8
                      try clear c9
                      try clear c9b0
                      try clear c10
                      try clear c11
                      try clear c11b0
                      try clear c11b1
                      try clear c12
                      try clear c13
                      try clear c13b0
                      try clear c13b1
                      try clear c14
                      try clear c14b0
                      try clear c14b1
                      try clear c16
                      try clear c16b0
                      try clear c17
                      try clear c17b0
                      try clear c17b1
                      try clear c18
                      try clear c18b0
                      try clear c18b1
                      try clear q21
                      try clear c23
                      try clear q23
                      try clear c25
                      try clear c25b0
                      try clear c25b1
                      try clear c26
                      try clear c26b0
                      try clear c26b1
                      try clear c27
                      try clear c27b0
                      try clear c27b1
                      try clear p2
                      try clear q023
                      try clear q21
                      try clear q23
                      obtain ⟨kq, x73_19, rfl, HA, HJ19, HO_0, HB⟩ := hcut
                      cases kq with
                      | zero => exact absurd HA.out (by simp [drayagelaw04_EntryBegins.j1])
                      | succ kj19 =>
                        have H := HA.out
                        clear HA
                        simp only [drayagelaw04_EntryBegins.j1] at H
                        by_cases c28 : x73_19 = true
                        · subst c28
                          have H1 : (none) = some r := by rw [if_pos rfl] at H; exact H
                          clear H
                          have H := H1
                          clear H1
                          exact absurd H (by simp)
                        · replace c28 := Bool.eq_false_iff.mpr c28
                          subst c28
                          have H1 : (if t193 < (l0.length : Int) then (if 0 ≤ (wrap64 (t193 + 1)) then (if (wrap64 (t193 + 1)) ≤ (l0.length : Int) then ((entry_Row.f kj19 (l0.take ((wrap64 (t193 + 1)) : Int).toNat)).bind fun bt214 => (if bt214.1 = t193 then (if bt214.2 = 41 then (drayagelaw04_EntryBegins.j2 kj19 l0 t193) else (none)) else (none))) else (none)) else (none)) else (drayagelaw04_EntryBegins.j2 kj19 l0 t193)) = some r := by rw [if_neg (show ¬ (false = true) by decide)] at H; exact H
                          clear H
                          have H := H1
                          clear H1
                          have HC29 := Aside0.mk H
                          clear H
                          go_upto_if 77 with (fail)
                          go_cut [] (fun wc => ∃ (kq : Nat), Aside0 (drayagelaw04_EntryBegins.j2 kq l0 t193 = some r) ∧ Aside0 (kq ≤ kj19) ∧ Aside0 (Kd.V k26 26 wc w.heap.size (fun k_ => (P0_ k_ ∨ w.heap.size ≤ k_)) (.slice A0 l0.length c0) l0) ∧ Aside0 (Below w.heap.size w wc))
                          case first =>
                            have H := HC29.out
                            clear HC29
                            by_cases c30 : t193 < (l0.length : Int)
                            · rw [if_pos c30] at H
                              have c30b0 : decide (t193 < (l0.length : Int)) = true := decide_eq_true c30
                              clear c30
                              (first | rw [c30b0] | (simp only [i64_w, i32_w]; rw [c30b0]) | skip)
                              obtain ⟨ji31, hji31⟩ : ∃ j_ : Int, (wrap64 (t193 + 1)) = j_ := ⟨_, rfl⟩
                              replace H : (if 0 ≤ (ji31) then (if (ji31) ≤ (l0.length : Int) then ((entry_Row.f kj19 (l0.take ((ji31) : Int).toNat)).bind fun bt214 => (if bt214.1 = t193 then (if bt214.2 = 41 then (drayagelaw04_EntryBegins.j2 kj19 l0 t193) else (none)) else (none))) else (none)) else (none)) = some r := by first | (rw [hji31] at H; exact H) | (simp only [hji31] at H ⊢; exact H)
                              (try rw [hji31] at c11b0)
                              (try rw [hji31] at c11b1)
                              have hji31w : (IntKind.i64.wrap (t193 + 1)) = ji31 := (i64_w _).trans hji31
                              by_cases c32 : 0 ≤ (ji31)
                              · rw [if_pos c32] at H
                                have c32b0 := eq_true c32
                                have c32b1 : decide (0 ≤ (ji31)) = true := decide_eq_true c32
                                clear c32
                                by_cases c33 : (ji31) ≤ (l0.length : Int)
                                · rw [if_pos c33] at H
                                  have c33b0 := eq_true c33
                                  have c33b1 : decide ((ji31) ≤ (l0.length : Int)) = true := decide_eq_true c33
                                  clear c33
                                  obtain ⟨y209, hy209⟩ : ∃ y_ : List (S26), y_ = (l0.take ((ji31) : Int).toNat) := ⟨_, rfl⟩
                                  replace H : ((entry_Row.f kj19 y209).bind fun bt214 => (if bt214.1 = t193 then (if bt214.2 = 41 then (drayagelaw04_EntryBegins.j2 kj19 l0 t193) else (none)) else (none))) = some r := by first | (rw [hy209]; with_reducible exact H) | (have H2_ := (Option.bind_some _ _).symm.trans H; rw [hy209]; with_reducible exact H2_) | (have H2_ := (Option.bind_some _ _).symm.trans H; with_reducible exact H2_) | with_reducible exact H | (rw [hy209]; exact H) | exact H
                                  have Ny209 := Aside0.mk hy209
                                  clear hy209
                                  replace H := Option.bind_eq_some_iff.mp H
                                  obtain ⟨⟨t214, t215⟩, A340, H⟩ := H
                                  replace H : (if t214 = t193 then (if t215 = 41 then (drayagelaw04_EntryBegins.j2 kj19 l0 t193) else (none)) else (none)) = some r := H
                                  have A34 := Aside0.mk A340
                                  clear A340
                                  by_cases c35 : t214 = t193
                                  · rw [if_pos c35] at H
                                    have c35b0 : (t214 == t193) = true := beq_iff_eq.mpr c35
                                    have c35b1 : (t214 != t193) = false := bne_eq_false_iff_eq.mpr c35
                                    clear c35
                                    by_cases c36 : t215 = 41
                                    · rw [if_pos c36] at H
                                      have c36b0 : (t215 == 41) = true := beq_iff_eq.mpr c36
                                      have c36b1 : (t215 != 41) = false := bne_eq_false_iff_eq.mpr c36
                                      clear c36
                                      have H' := Aside0.mk H
                                      clear H
                                      have q37 : ((ji31) : Int) ≤ ((l0.length : Int) : Int) := of_decide_eq_true (by first | (with_reducible assumption) | assumption)
                                      obtain ⟨i037, hi037, _, hsz37, _⟩ := info_parts info26
                                      have hroom37 : l0.length ≤ c0 := (Kd.V_reads' HO_0.out).2.1
                                      have hC37 : Kd.F k26 _ _ A0 l0.length l0 := (Kd.V_at (base := w.heap.size) HO_0.out).2.2
                                      have hcut37 := cut_to (P := Try.prog) 50 26 .i64 Try.underlying50 hi037 A0 l0.length c0 (ji31) (of_decide_eq_true (by first | (with_reducible assumption) | assumption)) q37 hroom37
                                      have hr37 := Kd.F_take (m := ((ji31) : Int).toNat) hC37 (by omega)
                                      have hy37 : y209.length = ((ji31) : Int).toNat := (by rw [Ny209.out, List.length_take]; omega)
                                      rw [← Ny209.out] at hr37
                                      rw [← hy37] at hcut37
                                      have HO213 := Aside0.mk (show Kd.V k26 26 _ w.heap.size _ (.slice A0 y209.length c0) y209 from Kd.V_mk (by omega) hr37)
                                      have HC213 := Aside0.mk (show y209.length ≤ c0 from by omega)
                                      clear hr37 hC37 hroom37 hi037 hsz37
                                      have KY37 := Aside0.mk hy37
                                      clear hy37
                                      replace q37 := eq_true q37
                                      go_wp2_with (first | ((with_reducible refine gate_callee (f := 26) rfl ?_); refine goesL_ (some 83) rfl rfl Try.func26 (by kernel_rfl) rfl #[.slice A0 y209.length c0] rfl (by (try simp only [List.map_toArray, List.map_cons, List.map_nil]); first | done | rfl | (simp only [List.length_drop, List.length_take]; rfl)) ?_; (with_reducible refine (entry_Row.calls kj19 _ _ y209 t214 t215 _ ?side1 ?side2 A34.out).mono ?_); (case side1 => repeat (first | exact (Kd.V_reads' HO213.out).2.2 | (with_reducible refine Kd.C_alloc ?_ _) | (with_reducible refine Kd.C_drewN ?_ _) | (with_reducible refine Kd.C_drew ?_))); (case side2 => exact (Kd.V_reads' HO213.out).2.1); rintro e w38 ⟨rfl, hb⟩; refine ⟨_, rfl, ?_⟩; have n0_ := Aside0.mk (Kd.V_below (by (with_reducible repeat (first | apply Kd.V_alloc | apply Kd.V_drewN | apply Kd.V_drew)); exact HO_0.out) hb); have n1_ := Aside0.mk (Kd.V_below (by (with_reducible repeat (first | apply Kd.V_alloc | apply Kd.V_drewN | apply Kd.V_drew)); exact HO213.out) hb); have n2_ := Aside0.mk (below_step (by repeat (first | (with_reducible first | exact HB.out | apply below_alloc | apply pw_below_drewN | apply below_drew1) | exact HB.out)) hb); clear HO_0; clear HO213; clear HB; have HO_0 := n0_; have HO213 := n1_; have HB := n2_; clear n0_ n1_ n2_; (try clear hb); (try clear hb2); (try clear hk); (try clear hi)))
                                      go_meet
                                      case rel => exact ⟨_, H', ⟨by have := HJ6.out; have := HJ19.out; first | omega | exact Nat.le_refl _⟩, ⟨by (with_reducible repeat (first | apply Kd.V_alloc | apply Kd.V_drewN | apply Kd.V_drew)); exact HO_0.out⟩, ⟨by repeat (first | (with_reducible first | exact HB.out | apply below_alloc | apply pw_below_drewN | apply below_drew1) | exact HB.out)⟩⟩
                                    · rw [if_neg c36] at H
                                      exact absurd H (by simp)
                                  · rw [if_neg c35] at H
                                    exact absurd H (by simp)
                                · rw [if_neg c33] at H
                                  exact absurd H (by simp)
                              · rw [if_neg c32] at H
                                exact absurd H (by simp)
                            · rw [if_neg c30] at H
                              have c30b0 : decide (t193 < (l0.length : Int)) = false := decide_eq_false c30
                              clear c30
                              (first | rw [c30b0] | (simp only [i64_w, i32_w]; rw [c30b0]) | skip)
                              have H' := Aside0.mk H
                              clear H
                              go_wp2
                              go_meet
                              case rel => exact ⟨_, H', ⟨by have := HJ6.out; have := HJ19.out; first | omega | exact Nat.le_refl _⟩, ⟨by (with_reducible repeat (first | apply Kd.V_alloc | apply Kd.V_drewN | apply Kd.V_drew)); exact HO_0.out⟩, ⟨by repeat (first | (with_reducible first | exact HB.out | apply below_alloc | apply pw_below_drewN | apply below_drew1) | exact HB.out)⟩⟩
                          case rest =>
                            clear HC29
                            try clear c1
                            try clear c2
                            try clear p2
                            try clear q2
                            try clear c3
                            try clear c3b0
                            try clear c3b1
                            try clear q3
                            try clear p6
                            try clear c8
                            try clear c9
                            try clear c9b0
                            try clear c10
                            try clear c11
                            try clear c11b0
                            try clear c11b1
                            try clear c12
                            try clear c13
                            try clear c13b0
                            try clear c13b1
                            try clear c14
                            try clear c14b0
                            try clear c14b1
                            try clear c16
                            try clear c16b0
                            try clear c17
                            try clear c17b0
                            try clear c17b1
                            try clear c18
                            try clear c18b0
                            try clear c18b1
                            try clear q21
                            try clear c23
                            try clear q23
                            try clear c25
                            try clear c25b0
                            try clear c25b1
                            try clear c26
                            try clear c26b0
                            try clear c26b1
                            try clear c27
                            try clear c27b0
                            try clear c27b1
                            try clear c28
                            try clear c30
                            try clear c30b0
                            try clear c32
                            try clear c32b0
                            try clear c32b1
                            try clear c33
                            try clear c33b0
                            try clear c33b1
                            try clear c35
                            try clear c35b0
                            try clear c35b1
                            try clear c36
                            try clear c36b0
                            try clear c36b1
                            try clear q37
                            try clear p2
                            try clear p6
                            try clear q023
                            try clear q2
                            try clear q21
                            try clear q23
                            try clear q37
                            obtain ⟨kq, HA, HJ28, HO_0, HB⟩ := hcut
                            cases kq with
                            | zero => exact absurd HA.out (by simp [drayagelaw04_EntryBegins.j2])
                            | succ kj28 =>
                              have H := HA.out
                              clear HA
                              simp only [drayagelaw04_EntryBegins.j2] at H
                              have HC39 := Aside0.mk H
                              clear H
                              go_upto_region 15 with (fail)
                              go_cut [103] (fun v103 wc => ∃ (kq : Nat) (x103_38 : Bool), v103 = .bool x103_38 ∧ Aside0 (drayagelaw04_EntryBegins.j3 kq l0 t193 x103_38 = some r) ∧ Aside0 (kq ≤ kj28) ∧ Aside0 (Kd.V k26 26 wc w.heap.size (fun k_ => (P0_ k_ ∨ w.heap.size ≤ k_)) (.slice A0 l0.length c0) l0) ∧ Aside0 (Below w.heap.size w wc))
                              case first =>
                                have H := HC39.out
                                clear HC39
                                by_cases c40 : t193 = 0
                                · rw [if_pos c40] at H
                                  have c40b0 : (t193 == 0) = true := beq_iff_eq.mpr c40
                                  have c40b1 : (t193 != 0) = false := bne_eq_false_iff_eq.mpr c40
                                  clear c40
                                  (first | rw [c40b0] | (simp only [i64_w, i32_w]; rw [c40b0]) | skip)
                                  have H' := Aside0.mk H
                                  clear H
                                  go_wp2
                                  go_meet
                                  case rel => exact ⟨_, (true), (by first | rfl | (simp; done) | (simp [*]; done)), H', ⟨by have := HJ6.out; have := HJ19.out; have := HJ28.out; first | omega | exact Nat.le_refl _⟩, ⟨by (with_reducible repeat (first | apply Kd.V_alloc | apply Kd.V_drewN | apply Kd.V_drew)); exact HO_0.out⟩, ⟨by repeat (first | (with_reducible first | exact HB.out | apply below_alloc | apply pw_below_drewN | apply below_drew1) | exact HB.out)⟩⟩
                                · rw [if_neg c40] at H
                                  have c40b0 : (t193 == 0) = false := beq_eq_false_iff_ne.mpr c40
                                  have c40b1 : (t193 != 0) = true := bne_iff_ne.mpr c40
                                  (first | rw [c40b0] | (simp only [i64_w, i32_w]; rw [c40b0]) | skip)
                                  obtain ⟨ji41, hji41⟩ : ∃ j_ : Int, (wrap64 (t193 - 1)) = j_ := ⟨_, rfl⟩
                                  replace H : (if 0 ≤ (ji41) then (if (ji41) < (l0.length : Int) then (drayagelaw04_EntryBegins.j3 kj28 l0 t193 (((rd_T26 l0 (ji41)).f1) == 18446744073709551615)) else (none)) else (none)) = some r := by first | (rw [hji41] at H; exact H) | (simp only [hji41] at H ⊢; exact H)
                                  have hji41w : (IntKind.i64.wrap (t193 - 1)) = ji41 := (i64_w _).trans hji41
                                  by_cases c42 : 0 ≤ (ji41)
                                  · rw [if_pos c42] at H
                                    have c42b0 : decide (0 ≤ (ji41)) = true := decide_eq_true c42
                                    clear c42
                                    by_cases c43 : (ji41) < (l0.length : Int)
                                    · rw [if_pos c43] at H
                                      have c43b0 : decide ((ji41) < (l0.length : Int)) = true := decide_eq_true c43
                                      clear c43
                                      have H' := Aside0.mk H
                                      clear H
                                      have p216 : 0 ≤ ((ji41) : Int) := of_decide_eq_true (by first | (with_reducible assumption) | assumption)
                                      have q216 : (ji41) < (l0.length : Int) := of_decide_eq_true (by first | (with_reducible assumption) | assumption)
                                      obtain ⟨ad216, A216_9, c216_9, A216_10, c216_10, e216, hx216_0, hx216_1, hx216_2, hx216_3, hx216_4, hx216_5, hx216_6, hx216_7, hx216_8, hx216_9, hx216_10, hl216_9, hi216_9, hl216_10, hi216_10⟩ := at_T26 (Kd.V_reads' HO_0.out).2.2 (ji41) p216 q216
                                      cases e216
                                      obtain ⟨ce216, hce216, hMe216, hcc216⟩ := Kd.V_get HO_0.out z26 (ji41) p216 (by first | exact q216 | exact of_decide_eq_true (by first | (with_reducible assumption) | assumption) | (have e_ := (Kd.V_reads' HO_0.out).1; omega))
                                      obtain ⟨ua216_9, uc216_9, ua216_10, uc216_10, rfl, ul216_9, ge216_9, ul216_10, ge216_10⟩ := k26_openF hMe216
                                      have hv216_9 := hcc216 9 _ rfl
                                      rw [add_field _ _ 9 (by omega)] at hv216_9
                                      replace hv216_9 := Option.some.inj (hv216_9.symm.trans hx216_9)
                                      injection hv216_9 with hva_ hvn_ hvc_
                                      rw [hva_] at ge216_9
                                      rw [hvc_] at ul216_9
                                      have HL216_9 := Aside0.mk (show Kd.V (Kd.int .u8) 5 _ w.heap.size _ _ ((rd_T26 l0 (ji41)).f9) from Kd.V_mk ul216_9 ge216_9)
                                      clear hva_ hvn_ hvc_ ge216_9 ul216_9
                                      have hv216_10 := hcc216 10 _ rfl
                                      rw [add_field _ _ 10 (by omega)] at hv216_10
                                      replace hv216_10 := Option.some.inj (hv216_10.symm.trans hx216_10)
                                      injection hv216_10 with hva_ hvn_ hvc_
                                      rw [hva_] at ge216_10
                                      rw [hvc_] at ul216_10
                                      have HL216_10 := Aside0.mk (show Kd.V (Kd.int .u8) 5 _ w.heap.size _ _ ((rd_T26 l0 (ji41)).f10) from Kd.V_mk ul216_10 ge216_10)
                                      clear hva_ hvn_ hvc_ ge216_10 ul216_10
                                      clear hcc216 hce216
                                      have HR216_9 := Aside0.mk hi216_9
                                      have HC216_9 := Aside0.mk hl216_9
                                      clear hi216_9 hl216_9
                                      have HR216_10 := Aside0.mk hi216_10
                                      have HC216_10 := Aside0.mk hl216_10
                                      clear hi216_10 hl216_10
                                      replace p216 := eq_true p216
                                      replace q216 := eq_true q216
                                      go_wp2
                                      go_meet
                                      case rel => exact ⟨_, ((((rd_T26 l0 (ji41)).f1) == 18446744073709551615)), (by first | rfl | (simp; done) | (simp only [← hji41] <;> (first | rfl | simp)) | (simp [*]; done)), H', ⟨by have := HJ6.out; have := HJ19.out; have := HJ28.out; first | omega | exact Nat.le_refl _⟩, ⟨by (with_reducible repeat (first | apply Kd.V_alloc | apply Kd.V_drewN | apply Kd.V_drew)); exact HO_0.out⟩, ⟨by repeat (first | (with_reducible first | exact HB.out | apply below_alloc | apply pw_below_drewN | apply below_drew1) | exact HB.out)⟩⟩
                                    · rw [if_neg c43] at H
                                      exact absurd H (by simp)
                                  · rw [if_neg c42] at H
                                    exact absurd H (by simp)
                              case rest =>
                                clear HC39
                                try clear c1
                                try clear c2
                                try clear p2
                                try clear q2
                                try clear hx2
                                try clear c3
                                try clear c3b0
                                try clear c3b1
                                try clear q3
                                try clear c4
                                try clear p6
                                try clear c8
                                try clear c9
                                try clear c9b0
                                try clear c10
                                try clear c11
                                try clear c11b0
                                try clear c11b1
                                try clear c12
                                try clear c13
                                try clear c13b0
                                try clear c13b1
                                try clear c14
                                try clear c14b0
                                try clear c14b1
                                try clear c16
                                try clear c16b0
                                try clear c17
                                try clear c17b0
                                try clear c17b1
                                try clear c18
                                try clear c18b0
                                try clear c18b1
                                try clear c21
                                try clear p21
                                try clear q21
                                try clear hx21
                                try clear c23
                                try clear q23
                                try clear c25
                                try clear c25b0
                                try clear c25b1
                                try clear c26
                                try clear c26b0
                                try clear c26b1
                                try clear c27
                                try clear c27b0
                                try clear c27b1
                                try clear c28
                                try clear c30
                                try clear c30b0
                                try clear c32
                                try clear c32b0
                                try clear c32b1
                                try clear c33
                                try clear c33b0
                                try clear c33b1
                                try clear c35
                                try clear c35b0
                                try clear c35b1
                                try clear c36
                                try clear c36b0
                                try clear c36b1
                                try clear q37
                                try clear c40
                                try clear c40b0
                                try clear c40b1
                                try clear c42
                                try clear c42b0
                                try clear c43
                                try clear c43b0
                                try clear hx216_0
                                try clear hx216_1
                                try clear hx216_10
                                try clear hx216_2
                                try clear hx216_3
                                try clear hx216_4
                                try clear hx216_5
                                try clear hx216_6
                                try clear hx216_7
                                try clear hx216_8
                                try clear hx216_9
                                try clear p2
                                try clear p216
                                try clear p6
                                try clear q023
                                try clear q2
                                try clear q21
                                try clear q216
                                try clear q23
                                try clear q3
                                try clear q37
                                obtain ⟨kq, x103_38, rfl, HA, HJ38, HO_0, HB⟩ := hcut
                                cases kq with
                                | zero => exact absurd HA.out (by simp [drayagelaw04_EntryBegins.j3])
                                | succ kj38 =>
                                  have H := HA.out
                                  clear HA
                                  simp only [drayagelaw04_EntryBegins.j3] at H
                                  by_cases c44 : x103_38 = true
                                  · subst c44
                                    have H1 : ((drayagelaw04_known.f kj38).bind fun t217 => (some t217)) = some r := by rw [if_pos rfl] at H; exact H
                                    clear H
                                    have H := H1
                                    clear H1
                                    replace H := Option.bind_eq_some_iff.mp H
                                    obtain ⟨t217, A450, H⟩ := H
                                    replace H : (some t217) = some r := H
                                    have A45 := Aside0.mk A450
                                    clear A450
                                    obtain rfl := Option.some.inj H
                                    go_wp2_with (first | ((with_reducible refine gate_callee (f := 12) rfl ?_); refine goesL_ (some 104) rfl rfl Try.func12 (by kernel_rfl) rfl #[] rfl (by (try simp only [List.map_toArray, List.map_cons, List.map_nil]); first | done | rfl | (simp only [List.length_drop, List.length_take]; rfl)) ?_; (with_reducible refine (drayagelaw04_known.calls kj38  t217 _ A45.out).mono ?_); rintro e w46 ⟨rfl, hb⟩; refine ⟨_, rfl, ?_⟩; have n0_ := Aside0.mk (Kd.V_below (by (with_reducible repeat (first | apply Kd.V_alloc | apply Kd.V_drewN | apply Kd.V_drew)); exact HO_0.out) hb); have n1_ := Aside0.mk (below_step (by repeat (first | (with_reducible first | exact HB.out | apply below_alloc | apply pw_below_drewN | apply below_drew1) | exact HB.out)) hb); clear HO_0; clear HB; have HO_0 := n0_; have HB := n1_; clear n0_ n1_; (try clear hb); (try clear hb2); (try clear hk); (try clear hi)))
                                    go_ret
                                    exact ⟨by first | rfl | (simp [errW_none, errW_some] <;> rfl) | (simp only [← hji12]; first | rfl | (simp [errW_none, errW_some] <;> rfl)) | (simp [*, errW_none, errW_some] <;> rfl), by repeat (first | (with_reducible first | exact HB.out | apply below_alloc | apply pw_below_drewN | apply below_drew1) | exact HB.out)⟩
                                  · replace c44 := Bool.eq_false_iff.mpr c44
                                    subst c44
                                    have H1 : (if 0 ≤ t193 then (if t193 ≤ (l0.length : Int) then ((some (l0.take (t193 : Int).toNat : List (S26))).bind fun y218 => (if ([] : List (S26)).length + y218.length < 1256584717458 then ((some (([] : List (S26)) ++ y218 : List (S26))).bind fun y223 => (if 0 ≤ (wrap64 (t193 - 1)) then (if (wrap64 (t193 - 1)) < (l0.length : Int) then (if y223.length < 1256584717458 then ((entry_Row.f kj38 (y223 ++ [(⟨6, IntKind.u64.wrap (((rd_T26 l0 (wrap64 (t193 - 1))).f1) + 1), (rd_T26 l0 (wrap64 (t193 - 1))).f2, 0, 0, false, 0, 2, 0, ([] : List Int), ([] : List Int)⟩ : S26)])).bind fun bt231 => (if bt231.1 = (wrap64 (t193 + 1)) then (if bt231.2 = 0 then ((drayagelaw04_known.f kj38).bind fun t233 => (some t233)) else (none)) else (none))) else (none)) else (none)) else (none))) else (none))) else (none)) else (none)) = some r := by rw [if_neg (show ¬ (false = true) by decide)] at H; exact H
                                    clear H
                                    have H := H1
                                    clear H1
                                    by_cases c47 : 0 ≤ t193
                                    · rw [if_pos c47] at H
                                      have c47b0 := eq_true c47
                                      have c47b1 : decide (0 ≤ t193) = true := decide_eq_true c47
                                      clear c47
                                      by_cases c48 : t193 ≤ (l0.length : Int)
                                      · rw [if_pos c48] at H
                                        have c48b0 := eq_true c48
                                        have c48b1 : decide (t193 ≤ (l0.length : Int)) = true := decide_eq_true c48
                                        clear c48
                                        obtain ⟨y218, hy218⟩ : ∃ y_ : List (S26), y_ = (l0.take (t193 : Int).toNat) := ⟨_, rfl⟩
                                        replace H : (if ([] : List (S26)).length + y218.length < 1256584717458 then ((some (([] : List (S26)) ++ y218 : List (S26))).bind fun y223 => (if 0 ≤ (wrap64 (t193 - 1)) then (if (wrap64 (t193 - 1)) < (l0.length : Int) then (if y223.length < 1256584717458 then ((entry_Row.f kj38 (y223 ++ [(⟨6, IntKind.u64.wrap (((rd_T26 l0 (wrap64 (t193 - 1))).f1) + 1), (rd_T26 l0 (wrap64 (t193 - 1))).f2, 0, 0, false, 0, 2, 0, ([] : List Int), ([] : List Int)⟩ : S26)])).bind fun bt231 => (if bt231.1 = (wrap64 (t193 + 1)) then (if bt231.2 = 0 then ((drayagelaw04_known.f kj38).bind fun t233 => (some t233)) else (none)) else (none))) else (none)) else (none)) else (none))) else (none)) = some r := by first | (rw [hy218]; with_reducible exact H) | (have H2_ := (Option.bind_some _ _).symm.trans H; rw [hy218]; with_reducible exact H2_) | (have H2_ := (Option.bind_some _ _).symm.trans H; with_reducible exact H2_) | with_reducible exact H | (rw [hy218]; exact H) | exact H
                                        have Ny218 := Aside0.mk hy218
                                        clear hy218
                                        by_cases c49 : ([] : List (S26)).length + y218.length < 1256584717458
                                        · rw [if_pos c49] at H
                                          have LMc49 := Aside0.mk c49
                                          clear c49
                                          obtain ⟨y223, hy223⟩ : ∃ y_ : List (S26), y_ = (([] : List (S26)) ++ y218) := ⟨_, rfl⟩
                                          replace H : (if 0 ≤ (wrap64 (t193 - 1)) then (if (wrap64 (t193 - 1)) < (l0.length : Int) then (if y223.length < 1256584717458 then ((entry_Row.f kj38 (y223 ++ [(⟨6, IntKind.u64.wrap (((rd_T26 l0 (wrap64 (t193 - 1))).f1) + 1), (rd_T26 l0 (wrap64 (t193 - 1))).f2, 0, 0, false, 0, 2, 0, ([] : List Int), ([] : List Int)⟩ : S26)])).bind fun bt231 => (if bt231.1 = (wrap64 (t193 + 1)) then (if bt231.2 = 0 then ((drayagelaw04_known.f kj38).bind fun t233 => (some t233)) else (none)) else (none))) else (none)) else (none)) else (none)) = some r := by first | (rw [hy223]; with_reducible exact H) | (have H2_ := (Option.bind_some _ _).symm.trans H; rw [hy223]; with_reducible exact H2_) | (have H2_ := (Option.bind_some _ _).symm.trans H; with_reducible exact H2_) | with_reducible exact H | (rw [hy223]; exact H) | exact H
                                          have Ny223 := Aside0.mk hy223
                                          clear hy223
                                          obtain ⟨ji50, hji50⟩ : ∃ j_ : Int, (wrap64 (t193 - 1)) = j_ := ⟨_, rfl⟩
                                          replace H : (if 0 ≤ (ji50) then (if (ji50) < (l0.length : Int) then (if y223.length < 1256584717458 then ((entry_Row.f kj38 (y223 ++ [(⟨6, IntKind.u64.wrap (((rd_T26 l0 (ji50)).f1) + 1), (rd_T26 l0 (ji50)).f2, 0, 0, false, 0, 2, 0, ([] : List Int), ([] : List Int)⟩ : S26)])).bind fun bt231 => (if bt231.1 = (wrap64 (t193 + 1)) then (if bt231.2 = 0 then ((drayagelaw04_known.f kj38).bind fun t233 => (some t233)) else (none)) else (none))) else (none)) else (none)) else (none)) = some r := by first | (rw [hji50] at H; exact H) | (simp only [hji50] at H ⊢; exact H)
                                          have hji50w : (IntKind.i64.wrap (t193 - 1)) = ji50 := (i64_w _).trans hji50
                                          by_cases c51 : 0 ≤ (ji50)
                                          · rw [if_pos c51] at H
                                            have c51b0 : decide (0 ≤ (ji50)) = true := decide_eq_true c51
                                            clear c51
                                            by_cases c52 : (ji50) < (l0.length : Int)
                                            · rw [if_pos c52] at H
                                              have c52b0 : decide ((ji50) < (l0.length : Int)) = true := decide_eq_true c52
                                              clear c52
                                              by_cases c53 : y223.length < 1256584717458
                                              · rw [if_pos c53] at H
                                                have LMc53 := Aside0.mk c53
                                                clear c53
                                                obtain ⟨y228, hy228⟩ : ∃ y_ : List (S26), y_ = (y223 ++ [(⟨6, IntKind.u64.wrap (((rd_T26 l0 (ji50)).f1) + 1), (rd_T26 l0 (ji50)).f2, 0, 0, false, 0, 2, 0, ([] : List Int), ([] : List Int)⟩ : S26)]) := ⟨_, rfl⟩
                                                replace H : ((entry_Row.f kj38 y228).bind fun bt231 => (if bt231.1 = (wrap64 (t193 + 1)) then (if bt231.2 = 0 then ((drayagelaw04_known.f kj38).bind fun t233 => (some t233)) else (none)) else (none))) = some r := by first | (rw [hy228]; with_reducible exact H) | (have H2_ := (Option.bind_some _ _).symm.trans H; rw [hy228]; with_reducible exact H2_) | (have H2_ := (Option.bind_some _ _).symm.trans H; with_reducible exact H2_) | with_reducible exact H | (rw [hy228]; exact H) | exact H
                                                have Ny228 := Aside0.mk hy228
                                                clear hy228
                                                replace H := Option.bind_eq_some_iff.mp H
                                                obtain ⟨⟨t231, t232⟩, A540, H⟩ := H
                                                replace H : (if t231 = (wrap64 (t193 + 1)) then (if t232 = 0 then ((drayagelaw04_known.f kj38).bind fun t233 => (some t233)) else (none)) else (none)) = some r := H
                                                have A54 := Aside0.mk A540
                                                clear A540
                                                by_cases c55 : t231 = (wrap64 (t193 + 1))
                                                · rw [if_pos c55] at H
                                                  have c55b0 : (t231 == (wrap64 (t193 + 1))) = true := beq_iff_eq.mpr c55
                                                  have c55b1 : (t231 != (wrap64 (t193 + 1))) = false := bne_eq_false_iff_eq.mpr c55
                                                  clear c55
                                                  by_cases c56 : t232 = 0
                                                  · rw [if_pos c56] at H
                                                    have c56b0 : (t232 == 0) = true := beq_iff_eq.mpr c56
                                                    have c56b1 : (t232 != 0) = false := bne_eq_false_iff_eq.mpr c56
                                                    clear c56
                                                    replace H := Option.bind_eq_some_iff.mp H
                                                    obtain ⟨t233, A570, H⟩ := H
                                                    replace H : (some t233) = some r := H
                                                    have A57 := Aside0.mk A570
                                                    clear A570
                                                    obtain rfl := Option.some.inj H
                                                    have q58 : (t193 : Int) ≤ ((l0.length : Int) : Int) := of_decide_eq_true (by first | (with_reducible assumption) | assumption)
                                                    obtain ⟨i058, hi058, _, hsz58, _⟩ := info_parts info26
                                                    have hroom58 : l0.length ≤ c0 := (Kd.V_reads' HO_0.out).2.1
                                                    have hC58 : Kd.F k26 _ _ A0 l0.length l0 := (Kd.V_at (base := w.heap.size) HO_0.out).2.2
                                                    have hcut58 := cut_to (P := Try.prog) 50 26 .i64 Try.underlying50 hi058 A0 l0.length c0 t193 (of_decide_eq_true (by first | (with_reducible assumption) | assumption)) q58 hroom58
                                                    have hr58 := Kd.F_take (m := (t193 : Int).toNat) hC58 (by omega)
                                                    have hy58 : y218.length = (t193 : Int).toNat := (by rw [Ny218.out, List.length_take]; omega)
                                                    rw [← Ny218.out] at hr58
                                                    rw [← hy58] at hcut58
                                                    have HO222 := Aside0.mk (show Kd.V k26 26 _ w.heap.size _ (.slice A0 y218.length c0) y218 from Kd.V_mk (by omega) hr58)
                                                    have HC222 := Aside0.mk (show y218.length ≤ c0 from by omega)
                                                    clear hr58 hC58 hroom58 hi058 hsz58
                                                    have KY58 := Aside0.mk hy58
                                                    clear hy58
                                                    replace q58 := eq_true q58
                                                    try go_wp2_with (first | ((with_reducible refine gate_builtin (b := .append) (xs := #[.tmp 105, .tmp 108]) rfl ?_); (try (refine gate_guard (by rfl) ?_; dsimp only)); at_builtin; refine Kd.N_append_rows k26 (w0 := w) w.heap.size rfl (.tmp 105) (.tmp 108) 50 26 (.agg #[(.int .i64 0), (.int .u64 0), (.int .u32 0), (.int .u32 0), (.int .i64 0), (.bool false), (.int .i64 0), (.int .i64 0), (.int .u64 0), (.slice none 0 0), (.slice none 0 0)]) 112 rfl Try.underlying50 info26 rfl (by decide) (by omega) (.slice none 0 0) ([] : List (S26)) y218 _ _ _ (fun k_ => (P0_ k_ ∨ w.heap.size ≤ k_)) (fun k_ => ((fun k_ => (P0_ k_ ∨ w.heap.size ≤ k_))) k_ ∧ some k_ ≠ (.slice none 0 0 : Value).ownBlock) rfl rfl ?aO ?aR (fun _ hk => hk) ?aF ?aB ?aS ?aL ?_; (case aR => exact (by skip; exact Kd.V_F (Kd.V_mono (ok' := (fun k_ => ((fun k_ => (P0_ k_ ∨ w.heap.size ≤ k_))) k_ ∧ some k_ ≠ (.slice none 0 0 : Value).ownBlock)) (HO222.out) (fun k_ hk => ⟨hk, (by simp [Value.ownBlock])⟩)))); (case aB => exact (by repeat (first | (with_reducible first | exact HB.out | apply below_alloc | apply pw_below_drewN | apply below_drew1) | exact HB.out))); (case aF => exact (fun k_ hk => (.inr (Nat.le_trans (below_size (by repeat (first | (with_reducible first | exact HB.out | apply below_alloc | apply pw_below_drewN | apply below_drew1) | exact HB.out))) hk)))); (case aO => exact ((Kd.N_nil _ _ _ _ (fun k_ => (P0_ k_ ∨ w.heap.size ≤ k_))))); (case aS => exact (below_size (by repeat (first | (with_reducible first | exact HB.out | apply below_alloc | apply pw_below_drewN | apply below_drew1) | exact HB.out)))); (case aL => have := LMc49.out; omega); intro v224 w59 ho hb hg hat; rw [← Ny223.out] at ho; have n0_ := Aside0.mk (Kd.V_afterv (Kd.V_apart_nil (by (with_reducible repeat (first | apply Kd.V_alloc | apply Kd.V_drewN | apply Kd.V_drew)); exact HO_0.out)) hg hat); have n1_ := Aside0.mk (Kd.V_afterv (Kd.V_apart_nil (by (with_reducible repeat (first | apply Kd.V_alloc | apply Kd.V_drewN | apply Kd.V_drew)); exact HO222.out)) hg hat); have n2_ := Aside0.mk (hb); have n3_ := Aside0.mk (ho); clear HO_0; clear HO222; clear HB; have HO_0 := n0_; have HO222 := n1_; have HB := n2_; have HO225 := n3_; clear n0_ n1_ n2_ n3_; clear ho hb hg hat))
                                                    have n0_ := Aside0.mk (Kd.V_drew HO_0.out)
                                                    have n1_ := Aside0.mk (Kd.V_drew HO222.out)
                                                    have n2_ := Aside0.mk (Kd.N_drew HO225.out)
                                                    have n3_ := Aside0.mk (below_drew1 HB.out)
                                                    clear HO_0
                                                    clear HO222
                                                    clear HO225
                                                    clear HB
                                                    have HO_0 := n0_
                                                    have HO222 := n1_
                                                    have HO225 := n2_
                                                    have HB := n3_
                                                    clear n0_ n1_ n2_ n3_
                                                    have p226 : 0 ≤ ((ji50) : Int) := of_decide_eq_true (by first | (with_reducible assumption) | assumption)
                                                    have q226 : (ji50) < (l0.length : Int) := of_decide_eq_true (by first | (with_reducible assumption) | assumption)
                                                    obtain ⟨ad226, A226_9, c226_9, A226_10, c226_10, e226, hx226_0, hx226_1, hx226_2, hx226_3, hx226_4, hx226_5, hx226_6, hx226_7, hx226_8, hx226_9, hx226_10, hl226_9, hi226_9, hl226_10, hi226_10⟩ := at_T26 (Kd.V_reads' HO_0.out).2.2 (ji50) p226 q226
                                                    cases e226
                                                    obtain ⟨ce226, hce226, hMe226, hcc226⟩ := Kd.V_get HO_0.out z26 (ji50) p226 (by first | exact q226 | exact of_decide_eq_true (by first | (with_reducible assumption) | assumption) | (have e_ := (Kd.V_reads' HO_0.out).1; omega))
                                                    obtain ⟨ua226_9, uc226_9, ua226_10, uc226_10, rfl, ul226_9, ge226_9, ul226_10, ge226_10⟩ := k26_openF hMe226
                                                    have hv226_9 := hcc226 9 _ rfl
                                                    rw [add_field _ _ 9 (by omega)] at hv226_9
                                                    replace hv226_9 := Option.some.inj (hv226_9.symm.trans hx226_9)
                                                    injection hv226_9 with hva_ hvn_ hvc_
                                                    rw [hva_] at ge226_9
                                                    rw [hvc_] at ul226_9
                                                    have HL226_9 := Aside0.mk (show Kd.V (Kd.int .u8) 5 _ w.heap.size _ _ ((rd_T26 l0 (ji50)).f9) from Kd.V_mk ul226_9 ge226_9)
                                                    clear hva_ hvn_ hvc_ ge226_9 ul226_9
                                                    have hv226_10 := hcc226 10 _ rfl
                                                    rw [add_field _ _ 10 (by omega)] at hv226_10
                                                    replace hv226_10 := Option.some.inj (hv226_10.symm.trans hx226_10)
                                                    injection hv226_10 with hva_ hvn_ hvc_
                                                    rw [hva_] at ge226_10
                                                    rw [hvc_] at ul226_10
                                                    have HL226_10 := Aside0.mk (show Kd.V (Kd.int .u8) 5 _ w.heap.size _ _ ((rd_T26 l0 (ji50)).f10) from Kd.V_mk ul226_10 ge226_10)
                                                    clear hva_ hvn_ hvc_ ge226_10 ul226_10
                                                    clear hcc226 hce226
                                                    have HR226_9 := Aside0.mk hi226_9
                                                    have HC226_9 := Aside0.mk hl226_9
                                                    clear hi226_9 hl226_9
                                                    have HR226_10 := Aside0.mk hi226_10
                                                    have HC226_10 := Aside0.mk hl226_10
                                                    clear hi226_10 hl226_10
                                                    replace p226 := eq_true p226
                                                    replace q226 := eq_true q226
                                                    have p227 : 0 ≤ ((ji50) : Int) := of_decide_eq_true (by first | (with_reducible assumption) | assumption)
                                                    have q227 : (ji50) < (l0.length : Int) := of_decide_eq_true (by first | (with_reducible assumption) | assumption)
                                                    obtain ⟨ad227, A227_9, c227_9, A227_10, c227_10, e227, hx227_0, hx227_1, hx227_2, hx227_3, hx227_4, hx227_5, hx227_6, hx227_7, hx227_8, hx227_9, hx227_10, hl227_9, hi227_9, hl227_10, hi227_10⟩ := at_T26 (Kd.V_reads' HO_0.out).2.2 (ji50) p227 q227
                                                    obtain rfl : ad226 = ad227 := (by injection e227)
                                                    obtain ⟨ce227, hce227, hMe227, hcc227⟩ := Kd.V_get HO_0.out z26 (ji50) p227 (by first | exact q227 | exact of_decide_eq_true (by first | (with_reducible assumption) | assumption) | (have e_ := (Kd.V_reads' HO_0.out).1; omega))
                                                    obtain ⟨ua227_9, uc227_9, ua227_10, uc227_10, rfl, ul227_9, ge227_9, ul227_10, ge227_10⟩ := k26_openF hMe227
                                                    have hv227_9 := hcc227 9 _ rfl
                                                    rw [add_field _ _ 9 (by omega)] at hv227_9
                                                    replace hv227_9 := Option.some.inj (hv227_9.symm.trans hx227_9)
                                                    injection hv227_9 with hva_ hvn_ hvc_
                                                    rw [hva_] at ge227_9
                                                    rw [hvc_] at ul227_9
                                                    have HL227_9 := Aside0.mk (show Kd.V (Kd.int .u8) 5 _ w.heap.size _ _ ((rd_T26 l0 (ji50)).f9) from Kd.V_mk ul227_9 ge227_9)
                                                    clear hva_ hvn_ hvc_ ge227_9 ul227_9
                                                    have hv227_10 := hcc227 10 _ rfl
                                                    rw [add_field _ _ 10 (by omega)] at hv227_10
                                                    replace hv227_10 := Option.some.inj (hv227_10.symm.trans hx227_10)
                                                    injection hv227_10 with hva_ hvn_ hvc_
                                                    rw [hva_] at ge227_10
                                                    rw [hvc_] at ul227_10
                                                    have HL227_10 := Aside0.mk (show Kd.V (Kd.int .u8) 5 _ w.heap.size _ _ ((rd_T26 l0 (ji50)).f10) from Kd.V_mk ul227_10 ge227_10)
                                                    clear hva_ hvn_ hvc_ ge227_10 ul227_10
                                                    clear hcc227 hce227
                                                    have HR227_9 := Aside0.mk hi227_9
                                                    have HC227_9 := Aside0.mk hl227_9
                                                    clear hi227_9 hl227_9
                                                    have HR227_10 := Aside0.mk hi227_10
                                                    have HC227_10 := Aside0.mk hl227_10
                                                    clear hi227_10 hl227_10
                                                    replace p227 := eq_true p227
                                                    replace q227 := eq_true q227
                                                    have ea_ := Option.some.inj (hx226_9.symm.trans hx227_9)
                                                    injection ea_ with ea_ en_ ec_
                                                    subst ea_
                                                    subst ec_
                                                    clear en_
                                                    have ea_ := Option.some.inj (hx226_10.symm.trans hx227_10)
                                                    injection ea_ with ea_ en_ ec_
                                                    subst ea_
                                                    subst ec_
                                                    clear en_
                                                    refine start_ (n := 18) (S := fun w' => w'.cell? (ad226.add (((ji50)).toNat * 11)) = some (.int .i64 ((rd_T26 l0 (ji50)).f0)) ∧ w'.cell? ⟨(ad226.add (((ji50)).toNat * 11)).block, (ad226.add (((ji50)).toNat * 11)).off + 1, none⟩ = some (.int .u64 ((rd_T26 l0 (ji50)).f1)) ∧ w'.cell? ⟨(ad226.add (((ji50)).toNat * 11)).block, (ad226.add (((ji50)).toNat * 11)).off + 2, none⟩ = some (.int .u32 ((rd_T26 l0 (ji50)).f2)) ∧ w'.cell? ⟨(ad226.add (((ji50)).toNat * 11)).block, (ad226.add (((ji50)).toNat * 11)).off + 3, none⟩ = some (.int .u32 ((rd_T26 l0 (ji50)).f3)) ∧ w'.cell? ⟨(ad226.add (((ji50)).toNat * 11)).block, (ad226.add (((ji50)).toNat * 11)).off + 4, none⟩ = some (.int .i64 ((rd_T26 l0 (ji50)).f4)) ∧ w'.cell? ⟨(ad226.add (((ji50)).toNat * 11)).block, (ad226.add (((ji50)).toNat * 11)).off + 5, none⟩ = some (.bool ((rd_T26 l0 (ji50)).f5)) ∧ w'.cell? ⟨(ad226.add (((ji50)).toNat * 11)).block, (ad226.add (((ji50)).toNat * 11)).off + 6, none⟩ = some (.int .i64 ((rd_T26 l0 (ji50)).f6)) ∧ w'.cell? ⟨(ad226.add (((ji50)).toNat * 11)).block, (ad226.add (((ji50)).toNat * 11)).off + 7, none⟩ = some (.int .i64 ((rd_T26 l0 (ji50)).f7)) ∧ w'.cell? ⟨(ad226.add (((ji50)).toNat * 11)).block, (ad226.add (((ji50)).toNat * 11)).off + 8, none⟩ = some (.int .u64 ((rd_T26 l0 (ji50)).f8)) ∧ w'.cell? ⟨(ad226.add (((ji50)).toNat * 11)).block, (ad226.add (((ji50)).toNat * 11)).off + 9, none⟩ = some (.slice A226_9 ((rd_T26 l0 (ji50)).f9).length c226_9) ∧ w'.cell? ⟨(ad226.add (((ji50)).toNat * 11)).block, (ad226.add (((ji50)).toNat * 11)).off + 10, none⟩ = some (.slice A226_10 ((rd_T26 l0 (ji50)).f10).length c226_10) ∧ w'.cell? (ad226.add (((ji50)).toNat * 11)) = some (.int .i64 ((rd_T26 l0 (ji50)).f0)) ∧ w'.cell? ⟨(ad226.add (((ji50)).toNat * 11)).block, (ad226.add (((ji50)).toNat * 11)).off + 1, none⟩ = some (.int .u64 ((rd_T26 l0 (ji50)).f1)) ∧ w'.cell? ⟨(ad226.add (((ji50)).toNat * 11)).block, (ad226.add (((ji50)).toNat * 11)).off + 2, none⟩ = some (.int .u32 ((rd_T26 l0 (ji50)).f2)) ∧ w'.cell? ⟨(ad226.add (((ji50)).toNat * 11)).block, (ad226.add (((ji50)).toNat * 11)).off + 3, none⟩ = some (.int .u32 ((rd_T26 l0 (ji50)).f3)) ∧ w'.cell? ⟨(ad226.add (((ji50)).toNat * 11)).block, (ad226.add (((ji50)).toNat * 11)).off + 4, none⟩ = some (.int .i64 ((rd_T26 l0 (ji50)).f4)) ∧ w'.cell? ⟨(ad226.add (((ji50)).toNat * 11)).block, (ad226.add (((ji50)).toNat * 11)).off + 5, none⟩ = some (.bool ((rd_T26 l0 (ji50)).f5)) ∧ w'.cell? ⟨(ad226.add (((ji50)).toNat * 11)).block, (ad226.add (((ji50)).toNat * 11)).off + 6, none⟩ = some (.int .i64 ((rd_T26 l0 (ji50)).f6)) ∧ w'.cell? ⟨(ad226.add (((ji50)).toNat * 11)).block, (ad226.add (((ji50)).toNat * 11)).off + 7, none⟩ = some (.int .i64 ((rd_T26 l0 (ji50)).f7)) ∧ w'.cell? ⟨(ad226.add (((ji50)).toNat * 11)).block, (ad226.add (((ji50)).toNat * 11)).off + 8, none⟩ = some (.int .u64 ((rd_T26 l0 (ji50)).f8)) ∧ w'.cell? ⟨(ad226.add (((ji50)).toNat * 11)).block, (ad226.add (((ji50)).toNat * 11)).off + 9, none⟩ = some (.slice A226_9 ((rd_T26 l0 (ji50)).f9).length c226_9) ∧ w'.cell? ⟨(ad226.add (((ji50)).toNat * 11)).block, (ad226.add (((ji50)).toNat * 11)).off + 10, none⟩ = some (.slice A226_10 ((rd_T26 l0 (ji50)).f10).length c226_10)) (ds := [15, 16]) #[false, false, false, false, false, false, false, false, false, false, false, false, false, false, false, false, false, false] (by kernel_rfl) rfl rfl ⟨hx226_0, hx226_1, hx226_2, hx226_3, hx226_4, hx226_5, hx226_6, hx226_7, hx226_8, hx226_9, hx226_10, hx227_0, hx227_1, hx227_2, hx227_3, hx227_4, hx227_5, hx227_6, hx227_7, hx227_8, hx227_9, hx227_10⟩ (fun hHeld => ?_); refine with_tabW drayagelaw04_EntryBegins.tab19 drayagelaw04_EntryBegins.bits19 (fun HT_ HW_ => ?_)
                                                    generalize w59.drew = w60 at HO_0 HO222 HO225 HB HL226_10 HL226_9 HL227_10 HL227_9 HR226_10 HR226_9 HR227_10 HR227_9 hx226_0 hx226_1 hx226_10 hx226_2 hx226_3 hx226_4 hx226_5 hx226_6 hx226_7 hx226_8 hx226_9 hx227_0 hx227_1 hx227_10 hx227_2 hx227_3 hx227_4 hx227_5 hx227_6 hx227_7 hx227_8 hx227_9 hHeld ⊢
                                                    refine pure_ (i := 0) (N := some 110) (v := ?_) (a' := ?_) #[true, false, false, false, false, false, false, false, false, false, false, false, false, false, false, false, false, false] rfl rfl (any_of HT_.out (by kernel_rfl)) (fun _ _ _ h => h) (Or.inl ⟨by rfl, ?_⟩) ?_ ?_
                                                    rotate_left
                                                    · intro w'
                                                      go_simp
                                                      with_reducible rfl
                                                    rotate_left
                                                    · simp only [Act.put, List.setIfInBounds_toArray, List.set_cons_zero, List.set_cons_succ, i64_w, i32_w]
                                                      rfl
                                                    refine pure_ (i := 1) (N := some 111) (v := ?_) (a' := ?_) #[true, true, false, false, false, false, false, false, false, false, false, false, false, false, false, false, false, false] rfl rfl (any_of HT_.out (by kernel_rfl)) (fun _ _ _ h => h) (Or.inl ⟨by rfl, ?_⟩) ?_ ?_
                                                    rotate_left
                                                    · intro w'
                                                      go_simp
                                                      with_reducible rfl
                                                    rotate_left
                                                    · simp only [Act.put, List.setIfInBounds_toArray, List.set_cons_zero, List.set_cons_succ, i64_w, i32_w]
                                                      rfl
                                                    refine pure_ (i := 2) (N := some 112) (v := ?_) (a' := ?_) #[true, true, true, false, false, false, false, false, false, false, false, false, false, false, false, false, false, false] rfl rfl (any_of HT_.out (by kernel_rfl)) (fun _ _ _ h => h) (Or.inl ⟨by rfl, ?_⟩) ?_ ?_
                                                    rotate_left
                                                    · intro w'
                                                      go_simp
                                                      with_reducible rfl
                                                    rotate_left
                                                    · simp only [Act.put, List.setIfInBounds_toArray, List.set_cons_zero, List.set_cons_succ, i64_w, i32_w]
                                                      rfl
                                                    refine pure_ (i := 3) (N := some 113) (v := ?_) (a' := ?_) #[true, true, true, true, false, false, false, false, false, false, false, false, false, false, false, false, false, false] rfl rfl (any_of HT_.out (by kernel_rfl)) (fun _ _ _ h => h) (Or.inl ⟨by rfl, ?_⟩) ?_ ?_
                                                    rotate_left
                                                    · intro w'
                                                      go_simp
                                                      with_reducible rfl
                                                    rotate_left
                                                    · simp only [Act.put, List.setIfInBounds_toArray, List.set_cons_zero, List.set_cons_succ, i64_w, i32_w]
                                                      rfl
                                                    refine pure_ (i := 4) (N := some 114) (v := ?_) (a' := ?_) #[true, true, true, true, true, false, false, false, false, false, false, false, false, false, false, false, false, false] rfl rfl (any_of HT_.out (by kernel_rfl)) (fun _ _ _ h => h) (Or.inl ⟨by rfl, ?_⟩) ?_ ?_
                                                    rotate_left
                                                    · intro w'
                                                      go_simp
                                                      with_reducible rfl
                                                    rotate_left
                                                    · simp only [Act.put, List.setIfInBounds_toArray, List.set_cons_zero, List.set_cons_succ, i64_w, i32_w]
                                                      rfl
                                                    refine pure_ (i := 5) (N := some 115) (v := ?_) (a' := ?_) #[true, true, true, true, true, true, false, false, false, false, false, false, false, false, false, false, false, false] rfl rfl (any_of HT_.out (by kernel_rfl)) (fun _ _ _ h => h) (Or.inl ⟨by rfl, ?_⟩) ?_ ?_
                                                    rotate_left
                                                    · intro w'
                                                      go_simp
                                                      with_reducible rfl
                                                    rotate_left
                                                    · simp only [Act.put, List.setIfInBounds_toArray, List.set_cons_zero, List.set_cons_succ, i64_w, i32_w]
                                                      rfl
                                                    refine pure_ (i := 8) (N := some 118) (v := ?_) (a' := ?_) #[true, true, true, true, true, true, false, false, true, false, false, false, false, false, false, false, false, false] rfl rfl (any_of HT_.out (by kernel_rfl)) (fun _ _ _ h => h) (Or.inl ⟨by rfl, ?_⟩) ?_ ?_
                                                    rotate_left
                                                    · intro w'
                                                      go_simp
                                                      with_reducible rfl
                                                    rotate_left
                                                    · simp only [Act.put, List.setIfInBounds_toArray, List.set_cons_zero, List.set_cons_succ, i64_w, i32_w]
                                                      rfl
                                                    refine pure_ (i := 9) (N := some 119) (v := ?_) (a' := ?_) #[true, true, true, true, true, true, false, false, true, true, false, false, false, false, false, false, false, false] rfl rfl (any_of HT_.out (by kernel_rfl)) (fun _ _ _ h => h) (Or.inl ⟨by rfl, ?_⟩) ?_ ?_
                                                    rotate_left
                                                    · intro w'
                                                      go_simp
                                                      with_reducible rfl
                                                    rotate_left
                                                    · simp only [Act.put, List.setIfInBounds_toArray, List.set_cons_zero, List.set_cons_succ, i64_w, i32_w]
                                                      rfl
                                                    refine pure_ (i := 10) (N := some 120) (v := ?_) (a' := ?_) #[true, true, true, true, true, true, false, false, true, true, true, false, false, false, false, false, false, false] rfl rfl (any_of HT_.out (by kernel_rfl)) (fun _ _ _ h => h) (Or.inl ⟨by rfl, ?_⟩) ?_ ?_
                                                    rotate_left
                                                    · intro w'
                                                      go_simp
                                                      with_reducible rfl
                                                    rotate_left
                                                    · simp only [Act.put, List.setIfInBounds_toArray, List.set_cons_zero, List.set_cons_succ, i64_w, i32_w]
                                                      rfl
                                                    refine pure_ (i := 11) (N := some 121) (v := ?_) (a' := ?_) #[true, true, true, true, true, true, false, false, true, true, true, true, false, false, false, false, false, false] rfl rfl (any_of HT_.out (by kernel_rfl)) (fun _ _ _ h => h) (Or.inl ⟨by rfl, ?_⟩) ?_ ?_
                                                    rotate_left
                                                    · intro w'
                                                      go_simp
                                                      with_reducible rfl
                                                    rotate_left
                                                    · simp only [Act.put, List.setIfInBounds_toArray, List.set_cons_zero, List.set_cons_succ, i64_w, i32_w]
                                                      rfl
                                                    refine pure_ (i := 12) (N := some 122) (v := ?_) (a' := ?_) #[true, true, true, true, true, true, false, false, true, true, true, true, true, false, false, false, false, false] rfl rfl (any_of HT_.out (by kernel_rfl)) (fun _ _ _ h => h) (Or.inl ⟨by rfl, ?_⟩) ?_ ?_
                                                    rotate_left
                                                    · intro w'
                                                      go_simp
                                                      with_reducible rfl
                                                    rotate_left
                                                    · simp only [Act.put, List.setIfInBounds_toArray, List.set_cons_zero, List.set_cons_succ, i64_w, i32_w]
                                                      rfl
                                                    refine take_ (i := 6) (N := some 116) (v := ?_) (a' := ?_) #[true, true, true, true, true, true, true, false, true, true, true, true, true, false, false, false, false, false] rfl rfl (take_ofW HT_.out HW_.out (by kernel_rfl)) (fun _ _ _ h => h) (Or.inl ⟨by rfl, ?_⟩) hHeld ?_ ?_
                                                    rotate_left
                                                    · rintro w' ⟨s0, s1, s2, s3, s4, s5, s6, s7, s8, s9, s10, s11, s12, s13, s14, s15, s16, s17, s18, s19, s20, s21⟩
                                                      go_simp
                                                      with_reducible rfl
                                                    rotate_left
                                                    · simp only [Act.put, List.setIfInBounds_toArray, List.set_cons_zero, List.set_cons_succ, i64_w, i32_w]
                                                      rfl
                                                    refine pure_ (i := 7) (N := some 117) (v := ?_) (a' := ?_) #[true, true, true, true, true, true, true, true, true, true, true, true, true, false, false, false, false, false] rfl rfl (any_of HT_.out (by kernel_rfl)) (fun _ _ _ h => h) (Or.inl ⟨by rfl, ?_⟩) ?_ ?_
                                                    rotate_left
                                                    · intro w'
                                                      go_simp
                                                      with_reducible rfl
                                                    rotate_left
                                                    · simp only [Act.put, List.setIfInBounds_toArray, List.set_cons_zero, List.set_cons_succ, i64_w, i32_w]
                                                      rfl
                                                    refine take_ (i := 13) (N := some 123) (v := ?_) (a' := ?_) #[true, true, true, true, true, true, true, true, true, true, true, true, true, true, false, false, false, false] rfl rfl (take_ofW HT_.out HW_.out (by kernel_rfl)) (fun _ _ _ h => h) (Or.inl ⟨by rfl, ?_⟩) hHeld ?_ ?_
                                                    rotate_left
                                                    · rintro w' ⟨s0, s1, s2, s3, s4, s5, s6, s7, s8, s9, s10, s11, s12, s13, s14, s15, s16, s17, s18, s19, s20, s21⟩
                                                      go_simp
                                                      with_reducible rfl
                                                    rotate_left
                                                    · simp only [Act.put, List.setIfInBounds_toArray, List.set_cons_zero, List.set_cons_succ, i64_w, i32_w]
                                                      rfl
                                                    refine pure_ (i := 14) (N := some 124) (v := ?_) (a' := ?_) #[true, true, true, true, true, true, true, true, true, true, true, true, true, true, true, false, false, false] rfl rfl (any_of HT_.out (by kernel_rfl)) (fun _ _ _ h => h) (Or.inl ⟨by rfl, ?_⟩) ?_ ?_
                                                    rotate_left
                                                    · intro w'
                                                      go_simp
                                                      with_reducible rfl
                                                    rotate_left
                                                    · simp only [Act.put, List.setIfInBounds_toArray, List.set_cons_zero, List.set_cons_succ, i64_w, i32_w]
                                                      rfl
                                                    refine last_ (i := 15) (N := some 125) #[true, true, true, true, true, true, true, true, true, true, true, true, true, true, true, true, false, false] rfl rfl (one_of HT_.out (by kernel_rfl)) (by decide) (fun K hK => ?_)
                                                    refine value_ (w1 := ?_) (v := ?_) (by rfl) rfl ?_ ?_
                                                    rotate_left 2
                                                    · go_simp
                                                      constructor
                                                      · rfl
                                                      · rfl
                                                    refine hK.out _ _ ?_
                                                    clear hK K
                                                    refine norm_ (a' := ?_) ?_ ?_
                                                    rotate_left
                                                    · show Act.put _ (some 125) _ = _
                                                      simp only [Act.put, List.setIfInBounds_toArray, List.set_cons_zero, List.set_cons_succ, i64_w, i32_w]
                                                      rfl
                                                    refine last_ (i := 16) (N := some 126) #[true, true, true, true, true, true, true, true, true, true, true, true, true, true, true, true, true, false] rfl rfl (one_of HT_.out (by kernel_rfl)) (by decide) (fun K hK => ?_)
                                                    refine Kd.N_append_step k26 (w0 := w) w.heap.size (by rfl) (.tmp 110) (.tmp 125) 50 26 (.agg #[(.int .i64 0), (.int .u64 0), (.int .u32 0), (.int .u32 0), (.int .i64 0), (.bool false), (.int .i64 0), (.int .i64 0), (.int .u64 0), (.slice none 0 0), (.slice none 0 0)]) 112 rfl Try.underlying50 info26 rfl (by decide) (by omega) v224 y223 (⟨6, IntKind.u64.wrap (((rd_T26 l0 (ji50)).f1) + 1), (rd_T26 l0 (ji50)).f2, 0, 0, false, 0, 2, 0, ([] : List Int), ([] : List Int)⟩ : S26) [.int .i64 6, .int .u64 (IntKind.u64.wrap (((rd_T26 l0 (ji50)).f1) + 1)), .int .u32 ((rd_T26 l0 (ji50)).f2), .int .u32 0, .int .i64 0, .bool false, .int .i64 0, .int .i64 2, .int .u64 0, .slice none 0 0, .slice none 0 0] (fun k_ => (P0_ k_ ∨ w.heap.size ≤ k_)) (fun k_ => ((fun k_ => (P0_ k_ ∨ w.heap.size ≤ k_))) k_ ∧ some k_ ≠ (v224 : Value).ownBlock) rfl rfl ?aP (fun _ hk => hk) ?aF ?aO ?aB ?aS ?aL ?_
                                                    (case aP => exact (k26_mkF _ _ (⟨6, IntKind.u64.wrap (((rd_T26 l0 (ji50)).f1) + 1), (rd_T26 l0 (ji50)).f2, 0, 0, false, 0, 2, 0, ([] : List Int), ([] : List Int)⟩ : S26) (Nat.le_refl _) (Kd.F_nil _ _ _) (Nat.le_refl _) (Kd.F_nil _ _ _)))
                                                    (case aB => exact (by repeat (first | (with_reducible first | exact HB.out | apply below_alloc | apply pw_below_drewN | apply below_drew1) | exact HB.out)))
                                                    (case aF => exact (fun k_ hk => (.inr (Nat.le_trans (below_size (by repeat (first | (with_reducible first | exact HB.out | apply below_alloc | apply pw_below_drewN | apply below_drew1) | exact HB.out))) hk))))
                                                    (case aO => exact (by (with_reducible repeat (first | apply Kd.N_alloc | apply Kd.N_drewN | apply Kd.N_drew)); exact HO225.out))
                                                    (case aS => exact (below_size (by repeat (first | (with_reducible first | exact HB.out | apply below_alloc | apply pw_below_drewN | apply below_drew1) | exact HB.out))))
                                                    (case aL => have := LMc53.out; omega)
                                                    intro v229 w61 ho hb hg hat
                                                    rw [← Ny228.out] at ho
                                                    have n0_ := Aside0.mk (Kd.V_afterv (ok := (fun k_ => (P0_ k_ ∨ w.heap.size ≤ k_))) (by (with_reducible repeat (first | apply Kd.V_alloc | apply Kd.V_drewN | apply Kd.V_drew)); exact HO_0.out) hg hat)
                                                    have n1_ := Aside0.mk (Kd.V_afterv (ok := (fun k_ => (P0_ k_ ∨ w.heap.size ≤ k_))) (by (with_reducible repeat (first | apply Kd.V_alloc | apply Kd.V_drewN | apply Kd.V_drew)); exact HO222.out) hg hat)
                                                    have n2_ := Aside0.mk (Kd.V_afterv (ok := (fun k_ => (P0_ k_ ∨ w.heap.size ≤ k_))) (by (with_reducible repeat (first | apply Kd.V_alloc | apply Kd.V_drewN | apply Kd.V_drew)); exact HL226_9.out) hg hat)
                                                    have n3_ := Aside0.mk (Kd.V_afterv (ok := (fun k_ => (P0_ k_ ∨ w.heap.size ≤ k_))) (by (with_reducible repeat (first | apply Kd.V_alloc | apply Kd.V_drewN | apply Kd.V_drew)); exact HL226_10.out) hg hat)
                                                    have n4_ := Aside0.mk (Kd.V_afterv (ok := (fun k_ => (P0_ k_ ∨ w.heap.size ≤ k_))) (by (with_reducible repeat (first | apply Kd.V_alloc | apply Kd.V_drewN | apply Kd.V_drew)); exact HL227_9.out) hg hat)
                                                    have n5_ := Aside0.mk (Kd.V_afterv (ok := (fun k_ => (P0_ k_ ∨ w.heap.size ≤ k_))) (by (with_reducible repeat (first | apply Kd.V_alloc | apply Kd.V_drewN | apply Kd.V_drew)); exact HL227_10.out) hg hat)
                                                    have n6_ := Aside0.mk (hb)
                                                    have n7_ := Aside0.mk (ho)
                                                    clear HO_0
                                                    clear HO222
                                                    clear HL226_9
                                                    clear HL226_10
                                                    clear HL227_9
                                                    clear HL227_10
                                                    clear HB
                                                    clear HO225
                                                    have HO_0 := n0_
                                                    have HO222 := n1_
                                                    have HL226_9 := n2_
                                                    have HL226_10 := n3_
                                                    have HL227_9 := n4_
                                                    have HL227_10 := n5_
                                                    have HB := n6_
                                                    have HO230 := n7_
                                                    clear n0_ n1_ n2_ n3_ n4_ n5_ n6_ n7_
                                                    clear ho hb hg hat
                                                    refine hK.out _ _ ?_
                                                    clear hK K
                                                    refine norm_ (a' := ?_) ?_ ?_
                                                    rotate_left
                                                    · show Act.put _ (some 126) _ = _
                                                      simp only [Act.put, List.setIfInBounds_toArray, List.set_cons_zero, List.set_cons_succ, i64_w, i32_w]
                                                      rfl
                                                    refine pure_ (i := 17) (N := some 14) (v := ?_) (a' := ?_) #[true, true, true, true, true, true, true, true, true, true, true, true, true, true, true, true, true, true] rfl rfl (any_of HT_.out (by kernel_rfl)) (fun _ _ _ h => h) (Or.inl ⟨by rfl, ?_⟩) ?_ ?_
                                                    rotate_left
                                                    · intro w'
                                                      go_simp
                                                      with_reducible rfl
                                                    rotate_left
                                                    · simp only [Act.put, List.setIfInBounds_toArray, List.set_cons_zero, List.set_cons_succ, i64_w, i32_w]
                                                      rfl
                                                    refine done_ (done_of HT_.out (by kernel_rfl)) ?_
                                                    obtain ⟨Ao62, co62, eo62⟩ := Kd.N_slice HO230.out
                                                    subst eo62
                                                    try go_wp2_with (first | ((with_reducible refine gate_callee (f := 26) rfl ?_); refine goesL_ (some 129) rfl rfl Try.func26 (by kernel_rfl) rfl #[.slice Ao62 y228.length co62] rfl (by (try simp only [List.map_toArray, List.map_cons, List.map_nil]); first | done | rfl | (simp only [List.length_drop, List.length_take]; rfl)) ?_; (with_reducible refine (entry_Row.calls kj38 _ _ y228 t231 t232 _ ?side1 ?side2 A54.out).mono ?_); (case side1 => repeat (first | exact (Kd.N_reads' HO230.out).2.2 | (with_reducible refine Kd.C_alloc ?_ _) | (with_reducible refine Kd.C_drewN ?_ _) | (with_reducible refine Kd.C_drew ?_))); (case side2 => exact (Kd.N_reads' HO230.out).2.1); rintro e w63 ⟨rfl, hb⟩; refine ⟨_, rfl, ?_⟩; have n0_ := Aside0.mk (Kd.V_below (by (with_reducible repeat (first | apply Kd.V_alloc | apply Kd.V_drewN | apply Kd.V_drew)); exact HO_0.out) hb); have n1_ := Aside0.mk (Kd.V_below (by (with_reducible repeat (first | apply Kd.V_alloc | apply Kd.V_drewN | apply Kd.V_drew)); exact HO222.out) hb); have n2_ := Aside0.mk (Kd.V_below (by (with_reducible repeat (first | apply Kd.V_alloc | apply Kd.V_drewN | apply Kd.V_drew)); exact HL226_9.out) hb); have n3_ := Aside0.mk (Kd.V_below (by (with_reducible repeat (first | apply Kd.V_alloc | apply Kd.V_drewN | apply Kd.V_drew)); exact HL226_10.out) hb); have n4_ := Aside0.mk (Kd.V_below (by (with_reducible repeat (first | apply Kd.V_alloc | apply Kd.V_drewN | apply Kd.V_drew)); exact HL227_9.out) hb); have n5_ := Aside0.mk (Kd.V_below (by (with_reducible repeat (first | apply Kd.V_alloc | apply Kd.V_drewN | apply Kd.V_drew)); exact HL227_10.out) hb); have n6_ := Aside0.mk (Kd.N_below (by (with_reducible repeat (first | apply Kd.N_alloc | apply Kd.N_drewN | apply Kd.N_drew)); exact HO230.out) hb); have n7_ := Aside0.mk (below_step (by repeat (first | (with_reducible first | exact HB.out | apply below_alloc | apply pw_below_drewN | apply below_drew1) | exact HB.out)) hb); clear HO_0; clear HO222; clear HL226_9; clear HL226_10; clear HL227_9; clear HL227_10; clear HO230; clear HB; have HO_0 := n0_; have HO222 := n1_; have HL226_9 := n2_; have HL226_10 := n3_; have HL227_9 := n4_; have HL227_10 := n5_; have HO230 := n6_; have HB := n7_; clear n0_ n1_ n2_ n3_ n4_ n5_ n6_ n7_; (try clear hb); (try clear hb2); (try clear hk); (try clear hi)) | (go_at_call 12; (with_reducible refine (drayagelaw04_known.calls kj38  t233 _ A57.out).mono ?_); rintro e w64 ⟨rfl, hb⟩; have n0_ := Aside0.mk (Kd.V_below (by (with_reducible repeat (first | apply Kd.V_alloc | apply Kd.V_drewN | apply Kd.V_drew)); exact HO_0.out) hb); have n1_ := Aside0.mk (Kd.V_below (by (with_reducible repeat (first | apply Kd.V_alloc | apply Kd.V_drewN | apply Kd.V_drew)); exact HO222.out) hb); have n2_ := Aside0.mk (Kd.V_below (by (with_reducible repeat (first | apply Kd.V_alloc | apply Kd.V_drewN | apply Kd.V_drew)); exact HL226_9.out) hb); have n3_ := Aside0.mk (Kd.V_below (by (with_reducible repeat (first | apply Kd.V_alloc | apply Kd.V_drewN | apply Kd.V_drew)); exact HL226_10.out) hb); have n4_ := Aside0.mk (Kd.V_below (by (with_reducible repeat (first | apply Kd.V_alloc | apply Kd.V_drewN | apply Kd.V_drew)); exact HL227_9.out) hb); have n5_ := Aside0.mk (Kd.V_below (by (with_reducible repeat (first | apply Kd.V_alloc | apply Kd.V_drewN | apply Kd.V_drew)); exact HL227_10.out) hb); have n6_ := Aside0.mk (Kd.N_below (by (with_reducible repeat (first | apply Kd.N_alloc | apply Kd.N_drewN | apply Kd.N_drew)); exact HO230.out) hb); have n7_ := Aside0.mk (below_step (by repeat (first | (with_reducible first | exact HB.out | apply below_alloc | apply pw_below_drewN | apply below_drew1) | exact HB.out)) hb); clear HO_0; clear HO222; clear HL226_9; clear HL226_10; clear HL227_9; clear HL227_10; clear HO230; clear HB; have HO_0 := n0_; have HO222 := n1_; have HL226_9 := n2_; have HL226_10 := n3_; have HL227_9 := n4_; have HL227_10 := n5_; have HO230 := n6_; have HB := n7_; clear n0_ n1_ n2_ n3_ n4_ n5_ n6_ n7_; (try clear hb); (try clear hb2); (try clear hk); (try clear hi)))
                                                    go_ret
                                                    exact ⟨by first | rfl | (simp [errW_none, errW_some] <;> rfl) | (simp only [← hji12, ← hji50]; first | rfl | (simp [errW_none, errW_some] <;> rfl)) | (simp [*, errW_none, errW_some] <;> rfl), by repeat (first | (with_reducible first | exact HB.out | apply below_alloc | apply pw_below_drewN | apply below_drew1) | exact HB.out)⟩
                                                  · rw [if_neg c56] at H
                                                    exact absurd H (by simp)
                                                · rw [if_neg c55] at H
                                                  exact absurd H (by simp)
                                              · rw [if_neg c53] at H
                                                exact absurd H (by simp)
                                            · rw [if_neg c52] at H
                                              exact absurd H (by simp)
                                          · rw [if_neg c51] at H
                                            exact absurd H (by simp)
                                        · rw [if_neg c49] at H
                                          exact absurd H (by simp)
                                      · rw [if_neg c48] at H
                                        exact absurd H (by simp)
                                    · rw [if_neg c47] at H
                                      exact absurd H (by simp)
                  · rw [if_neg c18] at H
                    exact absurd H (by simp)
                · rw [if_neg c17] at H
                  exact absurd H (by simp)
              · rw [if_neg c14] at H
                exact absurd H (by simp)
            · rw [if_neg c13] at H
              exact absurd H (by simp)

end Go.Proofs.Ytahldljkhjebgaa.PA
