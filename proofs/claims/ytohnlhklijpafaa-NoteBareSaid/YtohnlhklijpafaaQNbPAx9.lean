-- printed by a program of this work (wip/tools/pr.py over the kit's print): the machine's side of NoteBare
import Derived.Test.YtohnlhklijpafaaQNbPAx0
import Derived.Test.YtohnlhklijpafaaQNbPAx1
import Derived.Test.YtohnlhklijpafaaQNbPAx2
import Derived.Test.YtohnlhklijpafaaQNbPAx3
import Derived.Test.YtohnlhklijpafaaQNbPAx4
namespace Go.Proofs.Ytohnlhklijpafaa.PA
open Go.RowKit Go.Proofs.YtohnlhklijpafaaW.PrintWords Go.Proofs.YtohnlhklijpafaaW.PrintLast Go.Proofs.YtohnlhklijpafaaW.PrintMore
attribute [local go_sem] max2_int min2_int max_two min_two max_three min_three max_four min_four   -- for this text's walks alone
set_option linter.unusedVariables false
set_option linter.unusedSimpArgs false

/-! ### drayagelaw05_in: function 26 -/
def drayagelaw05_in.l0 : Nat → ByteArray → Int → Int → Option (Bool)
  | 0, _, _, _ => none
  | k + 1, x0, x1, x5 => if x5 < (x0.size : Int) then (if 0 ≤ x5 then (if (bt x0 x5) = x1 then (some true) else (drayagelaw05_in.l0 k x0 x1 (wrap64 (x5 + 1)))) else (none)) else (some false)
def drayagelaw05_in.f (k : Nat) (a0 : ByteArray) (a1 : Int) : Option (Bool) := drayagelaw05_in.l0 k a0 a1 0
theorem drayagelaw05_in.mono_l : ∀ k, (∀ y0 y1 y2, LeO (drayagelaw05_in.l0 k y0 y1 y2) (drayagelaw05_in.l0 (k + 1) y0 y1 y2))
  | 0 => fun _ _ _ r h => by simp [drayagelaw05_in.l0] at h
  | k + 1 => by
    have ih0 := drayagelaw05_in.mono_l k
    · intro y0 y1 y2
      unfold drayagelaw05_in.l0
      repeat' first
      | (with_reducible exact ih0 _ _ _)
      | (with_reducible exact LeO.refl _)
      | (with_reducible exact LeO.none _)
      | (with_reducible refine LeO.ite ?_ ?_)
      | (with_reducible refine LeO.bind ?_ (fun _ => ?_))
      | exact ih0 _ _ _
      | exact LeO.none _
      | refine LeO.ite ?_ ?_
      | refine LeO.bind ?_ (fun _ => ?_)
theorem drayagelaw05_in.mono : ∀ a0 a1 k, LeO (drayagelaw05_in.f k a0 a1) (drayagelaw05_in.f (k + 1) a0 a1) := by
  intro a0 a1 k
  have ih0 := drayagelaw05_in.mono_l k
  unfold drayagelaw05_in.f
  repeat' first
      | (with_reducible exact ih0 _ _ _)
      | (with_reducible exact LeO.refl _)
      | (with_reducible exact LeO.none _)
      | (with_reducible refine LeO.ite ?_ ?_)
      | (with_reducible refine LeO.bind ?_ (fun _ => ?_))
      | exact ih0 _ _ _
      | exact LeO.none _
      | refine LeO.ite ?_ ?_
      | refine LeO.bind ?_ (fun _ => ?_)
set_option maxHeartbeats 8000000 in
set_option maxRecDepth 100000 in
theorem drayagelaw05_in.calls (k : Nat) (a0 : ByteArray) (a1 : Int) (r : Bool) (w : World) (h : drayagelaw05_in.f k a0 a1 = some r) :
    Calls Try.prog 26 #[.string a0, .int .u8 a1] w fun e w' => e = .returned (.bool r) ∧ Drawn0 w w' := by
  have H : (drayagelaw05_in.l0 k a0 a1 0) = some r := h
  clear h
  have H' := Aside0.mk H
  clear H
  go_enter Try.func26, Try.ntmps26
  go_wp2
  go_loopg [5] k (fun kq v5 w' => ∃ (x5_1 : Int), v5 = .int .i64 x5_1 ∧ Aside0 (drayagelaw05_in.l0 kq a0 a1 x5_1 = some r) ∧ Aside0 (kq ≤ k) ∧ Drawn0 w w')
  case atStart => exact ⟨(0), (by first | rfl | (simp; done) | (simp [*]; done)), H', ⟨Nat.le_refl _⟩, by repeat (first | exact Drawn0.refl _ | apply Drawn0.step)⟩
  case round =>
    clear H'
    try clear c2
    try clear p2
    obtain ⟨x5_1, rfl, HA, HK1, ⟨m1, rfl⟩⟩ := hrel
    cases gk with
    | zero => exact absurd HA.out (by simp [drayagelaw05_in.l0])
    | succ k1 =>
      have H := HA.out
      clear HA
      simp only [drayagelaw05_in.l0] at H
      by_cases c3 : x5_1 < (a0.size : Int)
      · rw [if_pos c3] at H
        have c3b0 : decide (x5_1 < (a0.size : Int)) = true := decide_eq_true c3
        clear c3
        by_cases c4 : 0 ≤ x5_1
        · rw [if_pos c4] at H
          have c4b0 : decide (0 ≤ x5_1) = true := decide_eq_true c4
          clear c4
          by_cases c6 : (bt a0 x5_1) = a1
          · rw [if_pos c6] at H
            have c6b0 : ((bt a0 x5_1) == a1) = true := beq_iff_eq.mpr c6
            have c6b1 : ((bt a0 x5_1) != a1) = false := bne_eq_false_iff_eq.mpr c6
            clear c6
            obtain rfl := Option.some.inj H
            have p5 : 0 ≤ (x5_1 : Int) := of_decide_eq_true (by first | (with_reducible assumption) | assumption)
            have q5 : x5_1 < (a0.size : Int) := of_decide_eq_true (by first | (with_reducible assumption) | assumption)
            have hx5 := bt_at a0 x5_1
            replace p5 := eq_true p5
            replace q5 := eq_true q5
            go_wp2
            go_ret
            exact ⟨by first | rfl | (simp; done) | (simp [*]; done), by repeat (first | exact Drawn0.refl _ | apply Drawn0.step)⟩
          · rw [if_neg c6] at H
            have c6b0 : ((bt a0 x5_1) == a1) = false := beq_eq_false_iff_ne.mpr c6
            have c6b1 : ((bt a0 x5_1) != a1) = true := bne_iff_ne.mpr c6
            have H' := Aside0.mk H
            clear H
            have p5 : 0 ≤ (x5_1 : Int) := of_decide_eq_true (by first | (with_reducible assumption) | assumption)
            have q5 : x5_1 < (a0.size : Int) := of_decide_eq_true (by first | (with_reducible assumption) | assumption)
            have hx5 := bt_at a0 x5_1
            replace p5 := eq_true p5
            replace q5 := eq_true q5
            go_wp2
            go_roundg k1
            case measure => have := HK1.out; omega
            case rel => exact ⟨(wrap64 (x5_1 + 1)), (by first | rfl | (simp; done) | (simp [*]; done)), H', ⟨by have := HK1.out; omega⟩, by repeat (first | exact Drawn0.refl _ | apply Drawn0.step)⟩
        · rw [if_neg c4] at H
          exact absurd H (by simp)
      · rw [if_neg c3] at H
        have c3b0 : decide (x5_1 < (a0.size : Int)) = false := decide_eq_false c3
        clear c3
        obtain rfl := Option.some.inj H
        go_wp2
        go_ret
        exact ⟨by first | rfl | (simp; done) | (simp [*]; done), by repeat (first | exact Drawn0.refl _ | apply Drawn0.step)⟩

/-! ### drayagelaw05_NoteBare: function 7 -/
section
variable {P : Program} {ops : Array Oper} {rest : List Oper} {o : Oper} {a : Act} {Q : Exit → Act → World → Prop} {W : World}
theorem gen_world_ {c : Code} (F : World → Prop) (hF : F W) (h : ∀ W', F W' → Code.wp P c Q a W') : Code.wp P c Q a W := h W hF
theorem normL_ {a' : Act} (h : a = a') (hh : wpList P ops Q rest a' W) : wpList P ops Q rest a W := h ▸ hh
theorem sym_ {N : Tmp} {v : Value} (g : Bool) (hd : o.dst = some N) (hw : Region.wanted o (yielded ops a.tmps) = g) (hrun : g = true → (execOp a.eval o).run P W = .ok (.value v) W)
    (h : ∀ u, u = (bif g then v else undef) → wpList P ops Q rest (a.put (some N) u) W) : wpList P ops Q (o :: rest) a W := by
  cases g with
  | true =>
    refine gate_guard hw (wpList_plain rfl fun K hK => ?_)
    have h2 : (execOp a.eval { o with guard := none }).run P W = .ok (.value v) W := hrun rfl
    unfold Oper.wp
    rw [h2]
    show K (a.put o.dst v) W
    rw [hd]
    exact hK _ _ (h v rfl)
  | false => exact skip_guard hw (hd ▸ h undef rfl)
theorem symc_ {N : Tmp} {x : Value} (g : Bool) (F : World → Prop) (hd : o.dst = some N) (hw : Region.wanted o (yielded ops a.tmps) = g)
    (ht : g = true → Region.wanted o (yielded ops a.tmps) = true → (∀ w', F w' → wpList P ops Q rest (a.put (some N) x) w') → wpList P ops Q (o :: rest) a W) (hs : F W)
    (h : ∀ u w', u = (bif g then x else undef) → F w' → wpList P ops Q rest (a.put (some N) u) w') : wpList P ops Q (o :: rest) a W := by
  cases g with
  | true => exact ht rfl hw (fun w' hF => h x w' rfl hF)
  | false => exact skip_guard hw (hd ▸ h undef W rfl hs)
end
def bareExtra (a0_1 a0_2 a0_3 a0_4 a0_5 a0_6 : Int) (a0_7 : Bool) (a0_8 : Int) (l0_9 l0_10 : List Int) (i1 i2 i3 i4 i5 i6 i7 i8 i9 i10 : Bool) : Bool := (decide (a0_1 > 0) && !i1) || (decide (a0_2 > 0) && !i2) || (decide (a0_3 > 0) && !i3) || (decide (a0_4 > 0) && !i4) || (decide (a0_5 > 0) && !i5) || (decide (a0_6 > 0) && !i6) || (a0_7 && !i7) || (decide (a0_8 > 0) && !i8) || (decide ((l0_9.length : Int) > 0) && !i9) || (decide ((l0_10.length : Int) > 0) && !i10)
def bareKey (l0_9 : List Int) (a1 : Int) : Bool := decide (a1 ≥ 10) && (decide (a1 ≤ 12) && decide ((l0_9.length : Int) = 0))
def drayagelaw05_NoteBare.j0 : Nat → Int → Bool → Int → Int → Int → Int → Int → Int → Int → Bool → Int → List Int → List Int → Option (Bool)
  | 0, _, _, _, _, _, _, _, _, _, _, _, _, _ => none
  | k + 1, x1, x16, x145000, x145001, x145002, x145003, x145004, x145005, x145006, x145007, x145008, x145009, x145010 => if x16 = true then ((drayagelaw05_known.f k).bind fun t147 => (some t147)) else ((note_Names.f k x1).bind fun t149 => ((drayagelaw05_in.f k t149 69).bind fun i1 => ((drayagelaw05_in.f k t149 80).bind fun i2 => ((drayagelaw05_in.f k t149 76).bind fun i3 => ((drayagelaw05_in.f k t149 84).bind fun i4 => ((drayagelaw05_in.f k t149 79).bind fun i5 => ((drayagelaw05_in.f k t149 83).bind fun i6 => ((drayagelaw05_in.f k t149 85).bind fun i7 => ((drayagelaw05_in.f k t149 67).bind fun i8 => ((drayagelaw05_in.f k t149 75).bind fun i9 => ((drayagelaw05_in.f k t149 68).bind fun i10 => ((note_Check.f x1 x145001 x145002 x145003 x145004 x145005 x145006 x145007 x145008 x145009 x145010).bind fun t150 => (if ((t150 == 0) == ((t149.toList != ([] : List UInt8)) && (!(bareExtra x145001 x145002 x145003 x145004 x145005 x145006 x145007 x145008 x145009 x145010 i1 i2 i3 i4 i5 i6 i7 i8 i9 i10) && !(bareKey x145009 x1)))) = true then ((drayagelaw05_known.f k).bind fun t151 => (some t151)) else (none))))))))))))))
def drayagelaw05_NoteBare.f (k : Nat) (a0_0 : Int) (a0_1 : Int) (a0_2 : Int) (a0_3 : Int) (a0_4 : Int) (a0_5 : Int) (a0_6 : Int) (a0_7 : Bool) (a0_8 : Int) (l0_9 : List Int) (l0_10 : List Int) (a1 : Int) : Option (Bool) := (drayagelaw05_long.f a0_0 a0_1 a0_2 a0_3 a0_4 a0_5 a0_6 a0_7 a0_8 l0_9 l0_10).bind fun t145 => (if t145 = true then (drayagelaw05_NoteBare.j0 k a1 true a0_0 a0_1 a0_2 a0_3 a0_4 a0_5 a0_6 a0_7 a0_8 l0_9 l0_10) else ((note_Check.f a0_0 a0_1 a0_2 a0_3 a0_4 a0_5 a0_6 a0_7 a0_8 l0_9 l0_10).bind fun t146 => (drayagelaw05_NoteBare.j0 k a1 (t146 != 0) a0_0 a0_1 a0_2 a0_3 a0_4 a0_5 a0_6 a0_7 a0_8 l0_9 l0_10)))

set_option maxHeartbeats 8000000 in
set_option maxRecDepth 100000 in
theorem drayagelaw05_NoteBare.calls (k : Nat) (a0_0 : Int) (a0_1 : Int) (a0_2 : Int) (a0_3 : Int) (a0_4 : Int) (a0_5 : Int) (a0_6 : Int) (a0_7 : Bool) (a0_8 : Int) (A0_9 : Option Addr) (c0_9 : Nat) (l0_9 : List Int) (A0_10 : Option Addr) (c0_10 : Nat) (l0_10 : List Int) (a1 : Int) (r : Bool) (w : World) (hr0_9 : Kd.C (Kd.int .u8) w A0_9 l0_9.length l0_9) (hc0_9 : l0_9.length ≤ c0_9) (hr0_10 : Kd.C (Kd.int .u8) w A0_10 l0_10.length l0_10) (hc0_10 : l0_10.length ≤ c0_10) (h : drayagelaw05_NoteBare.f k a0_0 a0_1 a0_2 a0_3 a0_4 a0_5 a0_6 a0_7 a0_8 l0_9 l0_10 a1 = some r) :
    Calls Try.prog 7 #[.agg #[.int .i64 a0_0, .int .u32 a0_1, .int .u32 a0_2, .int .u64 a0_3, .int .u64 a0_4, .int .u32 a0_5, .int .i64 a0_6, .bool a0_7, .int .i64 a0_8, .slice A0_9 l0_9.length c0_9, .slice A0_10 l0_10.length c0_10], .int .i64 a1] w fun e w' => e = .returned (.bool r) ∧ Below w.heap.size w w' := by
  have hu26 := Try.underlying26
  have HR0_9 := Aside0.mk hr0_9
  have HC0_9 := Aside0.mk hc0_9
  clear hr0_9 hc0_9
  have HR0_10 := Aside0.mk hr0_10
  have HC0_10 := Aside0.mk hc0_10
  clear hr0_10 hc0_10
  have HB := Aside0.mk (Below.refl w.heap.size w)
  have H : ((drayagelaw05_long.f a0_0 a0_1 a0_2 a0_3 a0_4 a0_5 a0_6 a0_7 a0_8 l0_9 l0_10).bind fun t145 => (if t145 = true then (drayagelaw05_NoteBare.j0 k a1 true a0_0 a0_1 a0_2 a0_3 a0_4 a0_5 a0_6 a0_7 a0_8 l0_9 l0_10) else ((note_Check.f a0_0 a0_1 a0_2 a0_3 a0_4 a0_5 a0_6 a0_7 a0_8 l0_9 l0_10).bind fun t146 => (drayagelaw05_NoteBare.j0 k a1 (t146 != 0) a0_0 a0_1 a0_2 a0_3 a0_4 a0_5 a0_6 a0_7 a0_8 l0_9 l0_10)))) = some r := h
  clear h
  have HC3 := Aside0.mk H
  clear H
  go_enter Try.func7, Try.ntmps7
  go_upto_region 1 with (first | ((with_reducible refine gate_dst (N := 2) rfl ?_); refine box_event ?hg (N := 2) ?hd (cs := #[.int .i64 a0_0, .int .u32 a0_1, .int .u32 a0_2, .int .u64 a0_3, .int .u64 a0_4, .int .u32 a0_5, .int .i64 a0_6, .bool a0_7, .int .i64 a0_8, .slice A0_9 l0_9.length c0_9, .slice A0_10 l0_10.length c0_10]) (t := 26) ?hr ?_; (case hd => rfl); (case hg => rfl); (case hr => first | (go_simp; done) | (go_simp; rfl)); intro gb144 hg w4 hbox hb; have n0_ := Aside0.mk (below_step (by repeat (first | (with_reducible first | exact HB.out | apply below_alloc | apply pw_below_drewN | apply below_drew1) | exact HB.out)) hb); have n1_ := Aside0.mk (hbox); have n2_ := Aside0.mk ((by rw [hg]; exact (below_size (by repeat (first | (with_reducible first | exact HB.out | apply below_alloc | apply pw_below_drewN | apply below_drew1) | exact HB.out))) : w.heap.size ≤ gb144)); have n3_ := Aside0.mk ((by rw [hg]; exact (below_size (by repeat (first | (with_reducible first | exact HB.out | apply below_alloc | apply pw_below_drewN | apply below_drew1) | exact HB.out))) : w.heap.size ≤ gb144)); clear HB; have HB := n0_; have BK144 := n1_; have GW144 := n2_; have GE144 := n3_; clear n0_ n1_ n2_ n3_; clear hb hbox hg))
  (try simp only [Act.put, List.setIfInBounds_toArray, List.set_cons_zero, List.set_cons_succ])
  go_cut [16] (fun v16 wc => ∃ (kq : Nat) (x16_2 : Bool), v16 = .bool x16_2 ∧ Aside0 (drayagelaw05_NoteBare.j0 kq a1 x16_2 a0_0 a0_1 a0_2 a0_3 a0_4 a0_5 a0_6 a0_7 a0_8 l0_9 l0_10 = some r) ∧ Aside0 (kq ≤ k) ∧ Aside0 (wc.heap[gb144]? = some (.cells #[.int .i64 a0_0, .int .u32 a0_1, .int .u32 a0_2, .int .u64 a0_3, .int .u64 a0_4, .int .u32 a0_5, .int .i64 a0_6, .bool a0_7, .int .i64 a0_8, (.slice A0_9 l0_9.length c0_9), (.slice A0_10 l0_10.length c0_10)] 26 (0, 0))) ∧ Aside0 (Below w.heap.size w wc))
  case first =>
    have H := HC3.out
    clear HC3
    replace H := Option.bind_eq_some_iff.mp H
    obtain ⟨t145, A50, H⟩ := H
    replace H : (if t145 = true then (drayagelaw05_NoteBare.j0 k a1 true a0_0 a0_1 a0_2 a0_3 a0_4 a0_5 a0_6 a0_7 a0_8 l0_9 l0_10) else ((note_Check.f a0_0 a0_1 a0_2 a0_3 a0_4 a0_5 a0_6 a0_7 a0_8 l0_9 l0_10).bind fun t146 => (drayagelaw05_NoteBare.j0 k a1 (t146 != 0) a0_0 a0_1 a0_2 a0_3 a0_4 a0_5 a0_6 a0_7 a0_8 l0_9 l0_10))) = some r := H
    have A5 := Aside0.mk A50
    clear A50
    by_cases c6 : t145 = true
    · subst c6
      have H1 : (drayagelaw05_NoteBare.j0 k a1 true a0_0 a0_1 a0_2 a0_3 a0_4 a0_5 a0_6 a0_7 a0_8 l0_9 l0_10) = some r := by rw [if_pos rfl] at H; exact H
      clear H
      have H := H1
      clear H1
      have H' := Aside0.mk H
      clear H
      obtain ⟨hcz7_0, hcz7_1, hcz7_2, hcz7_3, hcz7_4, hcz7_5, hcz7_6, hcz7_7, hcz7_8, hcz7_9, hcz7_10, hfz7_0, hfz7_1, hfz7_2, hfz7_3, hfz7_4, hfz7_5, hfz7_6, hfz7_7, hfz7_8, hfz7_9, hfz7_10⟩ := blk_all11 BK144.out
      go_wp2_with (first | ((with_reducible refine gate_callee (f := 10) rfl ?_); refine goesL_ (some 11) rfl rfl Try.func10 (by kernel_rfl) rfl #[.agg #[.int .i64 a0_0, .int .u32 a0_1, .int .u32 a0_2, .int .u64 a0_3, .int .u64 a0_4, .int .u32 a0_5, .int .i64 a0_6, .bool a0_7, .int .i64 a0_8, .slice A0_9 l0_9.length c0_9, .slice A0_10 l0_10.length c0_10]] rfl (by (try simp only [List.map_toArray, List.map_cons, List.map_nil]); first | done | rfl | (simp only [List.length_drop, List.length_take]; rfl)) ?_; (with_reducible refine (drayagelaw05_long.calls a0_0 a0_1 a0_2 a0_3 a0_4 a0_5 a0_6 a0_7 a0_8 _ _ l0_9 _ _ l0_10 true _ ?side1 ?side2 ?side3 ?side4 A5.out).mono ?_); (case side1 => repeat (first | exact (Kd.C_below HR0_9.out HB.out) | (with_reducible refine Kd.C_alloc ?_ _) | (with_reducible refine Kd.C_drewN ?_ _) | (with_reducible refine Kd.C_drew ?_))); (case side2 => exact HC0_9.out); (case side3 => repeat (first | exact (Kd.C_below HR0_10.out HB.out) | (with_reducible refine Kd.C_alloc ?_ _) | (with_reducible refine Kd.C_drewN ?_ _) | (with_reducible refine Kd.C_drew ?_))); (case side4 => exact HC0_10.out); rintro e w8 ⟨rfl, hb⟩; refine ⟨_, rfl, ?_⟩; have n0_ := Aside0.mk (blk_below (g := gb144) (o := .cells #[.int .i64 a0_0, .int .u32 a0_1, .int .u32 a0_2, .int .u64 a0_3, .int .u64 a0_4, .int .u32 a0_5, .int .i64 a0_6, .bool a0_7, .int .i64 a0_8, .slice A0_9 l0_9.length c0_9, .slice A0_10 l0_10.length c0_10] 26 (0, 0)) (by (with_reducible repeat (first | apply bd1 | apply bd2 | apply bd3)); exact BK144.out) hb); have n1_ := Aside0.mk (below_step (by repeat (first | (with_reducible first | exact HB.out | apply below_alloc | apply pw_below_drewN | apply below_drew1 | refine below_set ?_ GE144.out) | exact HB.out)) hb); clear BK144; clear HB; have BK144 := n0_; have HB := n1_; clear n0_ n1_; (try clear hb); (try clear hb2); (try clear hk); (try clear hi)))
      go_meet
      case rel => exact ⟨_, (true), (by first | rfl | (simp; done) | (simp [*]; done)), H', ⟨by first | omega | exact Nat.le_refl _⟩, ⟨by (with_reducible repeat (first | apply bd1 | apply bd2 | apply bd3)); exact BK144.out⟩, ⟨by repeat (first | (with_reducible first | exact HB.out | apply below_alloc | apply pw_below_drewN | apply below_drew1 | refine below_set ?_ GE144.out) | exact HB.out)⟩⟩
    · replace c6 := Bool.eq_false_iff.mpr c6
      subst c6
      have H1 : ((note_Check.f a0_0 a0_1 a0_2 a0_3 a0_4 a0_5 a0_6 a0_7 a0_8 l0_9 l0_10).bind fun t146 => (drayagelaw05_NoteBare.j0 k a1 (t146 != 0) a0_0 a0_1 a0_2 a0_3 a0_4 a0_5 a0_6 a0_7 a0_8 l0_9 l0_10)) = some r := by rw [if_neg (show ¬ (false = true) by decide)] at H; exact H
      clear H
      have H := H1
      clear H1
      replace H := Option.bind_eq_some_iff.mp H
      obtain ⟨t146, A90, H⟩ := H
      replace H : (drayagelaw05_NoteBare.j0 k a1 (t146 != 0) a0_0 a0_1 a0_2 a0_3 a0_4 a0_5 a0_6 a0_7 a0_8 l0_9 l0_10) = some r := H
      have A9 := Aside0.mk A90
      clear A90
      have H' := Aside0.mk H
      clear H
      obtain ⟨hcz10_0, hcz10_1, hcz10_2, hcz10_3, hcz10_4, hcz10_5, hcz10_6, hcz10_7, hcz10_8, hcz10_9, hcz10_10, hfz10_0, hfz10_1, hfz10_2, hfz10_3, hfz10_4, hfz10_5, hfz10_6, hfz10_7, hfz10_8, hfz10_9, hfz10_10⟩ := blk_all11 BK144.out
      go_wp2_with (first | ((with_reducible refine gate_callee (f := 10) rfl ?_); refine goesL_ (some 11) rfl rfl Try.func10 (by kernel_rfl) rfl #[.agg #[.int .i64 a0_0, .int .u32 a0_1, .int .u32 a0_2, .int .u64 a0_3, .int .u64 a0_4, .int .u32 a0_5, .int .i64 a0_6, .bool a0_7, .int .i64 a0_8, .slice A0_9 l0_9.length c0_9, .slice A0_10 l0_10.length c0_10]] rfl (by (try simp only [List.map_toArray, List.map_cons, List.map_nil]); first | done | rfl | (simp only [List.length_drop, List.length_take]; rfl)) ?_; (with_reducible refine (drayagelaw05_long.calls a0_0 a0_1 a0_2 a0_3 a0_4 a0_5 a0_6 a0_7 a0_8 _ _ l0_9 _ _ l0_10 false _ ?side1 ?side2 ?side3 ?side4 A5.out).mono ?_); (case side1 => repeat (first | exact (Kd.C_below HR0_9.out HB.out) | (with_reducible refine Kd.C_alloc ?_ _) | (with_reducible refine Kd.C_drewN ?_ _) | (with_reducible refine Kd.C_drew ?_))); (case side2 => exact HC0_9.out); (case side3 => repeat (first | exact (Kd.C_below HR0_10.out HB.out) | (with_reducible refine Kd.C_alloc ?_ _) | (with_reducible refine Kd.C_drewN ?_ _) | (with_reducible refine Kd.C_drew ?_))); (case side4 => exact HC0_10.out); rintro e w11 ⟨rfl, hb⟩; refine ⟨_, rfl, ?_⟩; have n0_ := Aside0.mk (blk_below (g := gb144) (o := .cells #[.int .i64 a0_0, .int .u32 a0_1, .int .u32 a0_2, .int .u64 a0_3, .int .u64 a0_4, .int .u32 a0_5, .int .i64 a0_6, .bool a0_7, .int .i64 a0_8, .slice A0_9 l0_9.length c0_9, .slice A0_10 l0_10.length c0_10] 26 (0, 0)) (by (with_reducible repeat (first | apply bd1 | apply bd2 | apply bd3)); exact BK144.out) hb); have n1_ := Aside0.mk (below_step (by repeat (first | (with_reducible first | exact HB.out | apply below_alloc | apply pw_below_drewN | apply below_drew1 | refine below_set ?_ GE144.out) | exact HB.out)) hb); clear BK144; clear HB; have BK144 := n0_; have HB := n1_; clear n0_ n1_; (try clear hb); (try clear hb2); (try clear hk); (try clear hi); obtain ⟨hcz12_0, hcz12_1, hcz12_2, hcz12_3, hcz12_4, hcz12_5, hcz12_6, hcz12_7, hcz12_8, hcz12_9, hcz12_10, hfz12_0, hfz12_1, hfz12_2, hfz12_3, hfz12_4, hfz12_5, hfz12_6, hfz12_7, hfz12_8, hfz12_9, hfz12_10⟩ := blk_all11 BK144.out) | (go_at_call 14; (with_reducible refine (note_Check.calls a0_0 a0_1 a0_2 a0_3 a0_4 a0_5 a0_6 a0_7 a0_8 _ _ l0_9 _ _ l0_10 t146 _ ?side1 ?side2 ?side3 ?side4 A9.out).mono ?_); (case side1 => repeat (first | exact (Kd.C_below HR0_9.out HB.out) | (with_reducible refine Kd.C_alloc ?_ _) | (with_reducible refine Kd.C_drewN ?_ _) | (with_reducible refine Kd.C_drew ?_))); (case side2 => exact HC0_9.out); (case side3 => repeat (first | exact (Kd.C_below HR0_10.out HB.out) | (with_reducible refine Kd.C_alloc ?_ _) | (with_reducible refine Kd.C_drewN ?_ _) | (with_reducible refine Kd.C_drew ?_))); (case side4 => exact HC0_10.out); rintro e w13 ⟨rfl, hb⟩; have n0_ := Aside0.mk (blk_below (g := gb144) (o := .cells #[.int .i64 a0_0, .int .u32 a0_1, .int .u32 a0_2, .int .u64 a0_3, .int .u64 a0_4, .int .u32 a0_5, .int .i64 a0_6, .bool a0_7, .int .i64 a0_8, .slice A0_9 l0_9.length c0_9, .slice A0_10 l0_10.length c0_10] 26 (0, 0)) (by (with_reducible repeat (first | apply bd1 | apply bd2 | apply bd3)); exact BK144.out) hb); have n1_ := Aside0.mk (below_step (by repeat (first | (with_reducible first | exact HB.out | apply below_alloc | apply pw_below_drewN | apply below_drew1 | refine below_set ?_ GE144.out) | exact HB.out)) hb); clear BK144; clear HB; have BK144 := n0_; have HB := n1_; clear n0_ n1_; (try clear hb); (try clear hb2); (try clear hk); (try clear hi)))
      go_meet
      case rel => exact ⟨_, ((t146 != 0)), (by first | rfl | (simp; done) | (simp [*]; done)), H', ⟨by first | omega | exact Nat.le_refl _⟩, ⟨by (with_reducible repeat (first | apply bd1 | apply bd2 | apply bd3)); exact BK144.out⟩, ⟨by repeat (first | (with_reducible first | exact HB.out | apply below_alloc | apply pw_below_drewN | apply below_drew1 | refine below_set ?_ GE144.out) | exact HB.out)⟩⟩
  case rest =>
    clear HC3
    try clear c1
    try clear p2
    try clear c6
    try clear c7
    try clear c10
    try clear hcz10_0
    try clear hcz10_1
    try clear hcz10_10
    try clear hcz10_2
    try clear hcz10_3
    try clear hcz10_4
    try clear hcz10_5
    try clear hcz10_6
    try clear hcz10_7
    try clear hcz10_8
    try clear hcz10_9
    try clear hcz12_0
    try clear hcz12_1
    try clear hcz12_10
    try clear hcz12_2
    try clear hcz12_3
    try clear hcz12_4
    try clear hcz12_5
    try clear hcz12_6
    try clear hcz12_7
    try clear hcz12_8
    try clear hcz12_9
    try clear hcz7_0
    try clear hcz7_1
    try clear hcz7_10
    try clear hcz7_2
    try clear hcz7_3
    try clear hcz7_4
    try clear hcz7_5
    try clear hcz7_6
    try clear hcz7_7
    try clear hcz7_8
    try clear hcz7_9
    try clear hfz10_0
    try clear hfz10_1
    try clear hfz10_10
    try clear hfz10_2
    try clear hfz10_3
    try clear hfz10_4
    try clear hfz10_5
    try clear hfz10_6
    try clear hfz10_7
    try clear hfz10_8
    try clear hfz10_9
    try clear hfz12_0
    try clear hfz12_1
    try clear hfz12_10
    try clear hfz12_2
    try clear hfz12_3
    try clear hfz12_4
    try clear hfz12_5
    try clear hfz12_6
    try clear hfz12_7
    try clear hfz12_8
    try clear hfz12_9
    try clear hfz7_0
    try clear hfz7_1
    try clear hfz7_10
    try clear hfz7_2
    try clear hfz7_3
    try clear hfz7_4
    try clear hfz7_5
    try clear hfz7_6
    try clear hfz7_7
    try clear hfz7_8
    try clear hfz7_9
    obtain ⟨kq, x16_2, rfl, HA, HJ2, BK144, HB⟩ := hcut
    cases kq with
    | zero => exact absurd HA.out (by simp [drayagelaw05_NoteBare.j0])
    | succ kj2 =>
      have H := HA.out
      clear HA
      simp only [drayagelaw05_NoteBare.j0] at H
      by_cases c14 : x16_2 = true
      · subst c14
        have H1 : ((drayagelaw05_known.f kj2).bind fun t147 => (some t147)) = some r := by rw [if_pos rfl] at H; exact H
        clear H
        have H := H1
        clear H1
        replace H := Option.bind_eq_some_iff.mp H
        obtain ⟨t147, A150, H⟩ := H
        replace H : (some t147) = some r := H
        have A15 := Aside0.mk A150
        clear A150
        obtain rfl := Option.some.inj H
        go_wp2_with (first | ((with_reducible refine gate_callee (f := 11) rfl ?_); refine goesL_ (some 17) rfl rfl Try.func11 (by kernel_rfl) rfl #[] rfl (by (try simp only [List.map_toArray, List.map_cons, List.map_nil]); first | done | rfl | (simp only [List.length_drop, List.length_take]; rfl)) ?_; (with_reducible refine (drayagelaw05_known.calls kj2  t147 _ A15.out).mono ?_); rintro e w16 ⟨rfl, hb⟩; refine ⟨_, rfl, ?_⟩; have n0_ := Aside0.mk (blk_below (g := gb144) (o := .cells #[.int .i64 a0_0, .int .u32 a0_1, .int .u32 a0_2, .int .u64 a0_3, .int .u64 a0_4, .int .u32 a0_5, .int .i64 a0_6, .bool a0_7, .int .i64 a0_8, .slice A0_9 l0_9.length c0_9, .slice A0_10 l0_10.length c0_10] 26 (0, 0)) (by (with_reducible repeat (first | apply bd1 | apply bd2 | apply bd3)); exact BK144.out) hb); have n1_ := Aside0.mk (below_step (by repeat (first | (with_reducible first | exact HB.out | apply below_alloc | apply pw_below_drewN | apply below_drew1 | refine below_set ?_ GE144.out) | exact HB.out)) hb); clear BK144; clear HB; have BK144 := n0_; have HB := n1_; clear n0_ n1_; (try clear hb); (try clear hb2); (try clear hk); (try clear hi)))
        go_ret
        exact ⟨by first | rfl | (simp [errW_none, errW_some] <;> rfl) | (simp [*, errW_none, errW_some] <;> rfl), by repeat (first | (with_reducible first | exact HB.out | apply below_alloc | apply pw_below_drewN | apply below_drew1 | refine below_set ?_ GE144.out) | exact HB.out)⟩
      · replace c14 := Bool.eq_false_iff.mpr c14
        subst c14
        have H1 : ((note_Names.f kj2 a1).bind fun t149 => ((drayagelaw05_in.f kj2 t149 69).bind fun i1 => ((drayagelaw05_in.f kj2 t149 80).bind fun i2 => ((drayagelaw05_in.f kj2 t149 76).bind fun i3 => ((drayagelaw05_in.f kj2 t149 84).bind fun i4 => ((drayagelaw05_in.f kj2 t149 79).bind fun i5 => ((drayagelaw05_in.f kj2 t149 83).bind fun i6 => ((drayagelaw05_in.f kj2 t149 85).bind fun i7 => ((drayagelaw05_in.f kj2 t149 67).bind fun i8 => ((drayagelaw05_in.f kj2 t149 75).bind fun i9 => ((drayagelaw05_in.f kj2 t149 68).bind fun i10 => ((note_Check.f a1 a0_1 a0_2 a0_3 a0_4 a0_5 a0_6 a0_7 a0_8 l0_9 l0_10).bind fun t150 => (if ((t150 == 0) == ((t149.toList != ([] : List UInt8)) && (!(bareExtra a0_1 a0_2 a0_3 a0_4 a0_5 a0_6 a0_7 a0_8 l0_9 l0_10 i1 i2 i3 i4 i5 i6 i7 i8 i9 i10) && !(bareKey l0_9 a1)))) = true then ((drayagelaw05_known.f kj2).bind fun t151 => (some t151)) else (none)))))))))))))) = some r := by rw [if_neg (show ¬ (false = true) by decide)] at H; exact H
        clear H
        have H := H1
        clear H1
        replace H := Option.bind_eq_some_iff.mp H
        obtain ⟨t149, A170, H⟩ := H
        replace H : ((drayagelaw05_in.f kj2 t149 69).bind fun i1 => ((drayagelaw05_in.f kj2 t149 80).bind fun i2 => ((drayagelaw05_in.f kj2 t149 76).bind fun i3 => ((drayagelaw05_in.f kj2 t149 84).bind fun i4 => ((drayagelaw05_in.f kj2 t149 79).bind fun i5 => ((drayagelaw05_in.f kj2 t149 83).bind fun i6 => ((drayagelaw05_in.f kj2 t149 85).bind fun i7 => ((drayagelaw05_in.f kj2 t149 67).bind fun i8 => ((drayagelaw05_in.f kj2 t149 75).bind fun i9 => ((drayagelaw05_in.f kj2 t149 68).bind fun i10 => ((note_Check.f a1 a0_1 a0_2 a0_3 a0_4 a0_5 a0_6 a0_7 a0_8 l0_9 l0_10).bind fun t150 => (if ((t150 == 0) == ((t149.toList != ([] : List UInt8)) && (!(bareExtra a0_1 a0_2 a0_3 a0_4 a0_5 a0_6 a0_7 a0_8 l0_9 l0_10 i1 i2 i3 i4 i5 i6 i7 i8 i9 i10) && !(bareKey l0_9 a1)))) = true then ((drayagelaw05_known.f kj2).bind fun t151 => (some t151)) else (none))))))))))))) = some r := H
        have A17 := Aside0.mk A170
        clear A170
        replace H := Option.bind_eq_some_iff.mp H
        obtain ⟨i1, I1_, H⟩ := H
        have I1 := Aside0.mk I1_
        clear I1_
        replace H := Option.bind_eq_some_iff.mp H
        obtain ⟨i2, I2_, H⟩ := H
        have I2 := Aside0.mk I2_
        clear I2_
        replace H := Option.bind_eq_some_iff.mp H
        obtain ⟨i3, I3_, H⟩ := H
        have I3 := Aside0.mk I3_
        clear I3_
        replace H := Option.bind_eq_some_iff.mp H
        obtain ⟨i4, I4_, H⟩ := H
        have I4 := Aside0.mk I4_
        clear I4_
        replace H := Option.bind_eq_some_iff.mp H
        obtain ⟨i5, I5_, H⟩ := H
        have I5 := Aside0.mk I5_
        clear I5_
        replace H := Option.bind_eq_some_iff.mp H
        obtain ⟨i6, I6_, H⟩ := H
        have I6 := Aside0.mk I6_
        clear I6_
        replace H := Option.bind_eq_some_iff.mp H
        obtain ⟨i7, I7_, H⟩ := H
        have I7 := Aside0.mk I7_
        clear I7_
        replace H := Option.bind_eq_some_iff.mp H
        obtain ⟨i8, I8_, H⟩ := H
        have I8 := Aside0.mk I8_
        clear I8_
        replace H := Option.bind_eq_some_iff.mp H
        obtain ⟨i9, I9_, H⟩ := H
        have I9 := Aside0.mk I9_
        clear I9_
        replace H := Option.bind_eq_some_iff.mp H
        obtain ⟨i10, I10_, H⟩ := H
        have I10 := Aside0.mk I10_
        clear I10_
        replace H := Option.bind_eq_some_iff.mp H
        obtain ⟨t150, A180, H⟩ := H
        replace H : (if ((t150 == 0) == ((t149.toList != ([] : List UInt8)) && (!(bareExtra a0_1 a0_2 a0_3 a0_4 a0_5 a0_6 a0_7 a0_8 l0_9 l0_10 i1 i2 i3 i4 i5 i6 i7 i8 i9 i10) && !(bareKey l0_9 a1)))) = true then ((drayagelaw05_known.f kj2).bind fun t151 => (some t151)) else (none)) = some r := H
        have A18 := Aside0.mk A180
        clear A180
        by_cases c19 : ((t150 == 0) == ((t149.toList != ([] : List UInt8)) && (!(bareExtra a0_1 a0_2 a0_3 a0_4 a0_5 a0_6 a0_7 a0_8 l0_9 l0_10 i1 i2 i3 i4 i5 i6 i7 i8 i9 i10) && !(bareKey l0_9 a1)))) = true
        · rw [if_pos c19] at H
          have c19b0 : ((t150 == 0) == ((t149.toList != ([] : List UInt8)) && (!(bareExtra a0_1 a0_2 a0_3 a0_4 a0_5 a0_6 a0_7 a0_8 l0_9 l0_10 i1 i2 i3 i4 i5 i6 i7 i8 i9 i10) && !(bareKey l0_9 a1)))) = true := c19
          (try (have c19b1 : decide ((t150 == 0) = ((t149.toList != ([] : List UInt8)) && (!(bareExtra a0_1 a0_2 a0_3 a0_4 a0_5 a0_6 a0_7 a0_8 l0_9 l0_10 i1 i2 i3 i4 i5 i6 i7 i8 i9 i10) && !(bareKey l0_9 a1)))) = true := by simpa using c19))
          (try (have c19b2 : ((t150 == 0) == ((t149.toList != ([] : List UInt8)) && (!(bareExtra a0_1 a0_2 a0_3 a0_4 a0_5 a0_6 a0_7 a0_8 l0_9 l0_10 i1 i2 i3 i4 i5 i6 i7 i8 i9 i10) && !(bareKey l0_9 a1)))) = true := by simpa using c19))
          clear c19
          replace H := Option.bind_eq_some_iff.mp H
          obtain ⟨t151, A200, H⟩ := H
          replace H : (some t151) = some r := H
          have A20 := Aside0.mk A200
          clear A200
          obtain rfl := Option.some.inj H
          obtain ⟨hcz21_0, hcz21_1, hcz21_2, hcz21_3, hcz21_4, hcz21_5, hcz21_6, hcz21_7, hcz21_8, hcz21_9, hcz21_10, hfz21_0, hfz21_1, hfz21_2, hfz21_3, hfz21_4, hfz21_5, hfz21_6, hfz21_7, hfz21_8, hfz21_9, hfz21_10⟩ := blk_all11 BK144.out
          go_upto_region 6 with (first | ((with_reducible refine gate_dst (N := 5) rfl ?_); refine box_event ?hg (N := 5) ?hd (cs := #[.int .i64 0, .int .u32 0, .int .u32 0, .int .u64 0, .int .u64 0, .int .u32 0, .int .i64 0, .bool false, .int .i64 0, .slice none 0 0, .slice none 0 0]) (t := 26) ?hr ?_; (case hd => rfl); (case hg => rfl); (case hr => first | (go_simp; done) | (go_simp; rfl)); intro gb148 hg w22 hbox hb; have n0_ := Aside0.mk (blk_below (g := gb144) (o := .cells #[.int .i64 a0_0, .int .u32 a0_1, .int .u32 a0_2, .int .u64 a0_3, .int .u64 a0_4, .int .u32 a0_5, .int .i64 a0_6, .bool a0_7, .int .i64 a0_8, .slice A0_9 l0_9.length c0_9, .slice A0_10 l0_10.length c0_10] 26 (0, 0)) (by (with_reducible repeat (first | apply bd1 | apply bd2 | apply bd3)); exact BK144.out) hb); have n1_ := Aside0.mk (below_step (by repeat (first | (with_reducible first | exact HB.out | apply below_alloc | apply pw_below_drewN | apply below_drew1 | refine below_set ?_ GE144.out) | exact HB.out)) hb); have n2_ := Aside0.mk (hbox); have n3_ := Aside0.mk ((by rw [hg]; exact (below_size (by repeat (first | (with_reducible first | exact HB.out | apply below_alloc | apply pw_below_drewN | apply below_drew1 | refine below_set ?_ GE144.out) | exact HB.out))) : w.heap.size ≤ gb148)); have n4_ := Aside0.mk ((by rw [hg]; exact (below_size (by repeat (first | (with_reducible first | exact HB.out | apply below_alloc | apply pw_below_drewN | apply below_drew1 | refine below_set ?_ GE144.out) | exact HB.out))) : w.heap.size ≤ gb148)); have n5_ := Aside0.mk ((by rw [hg]; exact Nat.ne_of_lt (blk_lt (g := gb144) (o := .cells #[.int .i64 a0_0, .int .u32 a0_1, .int .u32 a0_2, .int .u64 a0_3, .int .u64 a0_4, .int .u32 a0_5, .int .i64 a0_6, .bool a0_7, .int .i64 a0_8, .slice A0_9 l0_9.length c0_9, .slice A0_10 l0_10.length c0_10] 26 (0, 0)) (by (with_reducible repeat (first | apply bd1 | apply bd2 | apply bd3)); exact BK144.out)) : gb144 ≠ gb148)); have n6_ := Aside0.mk ((by rw [hg]; exact Nat.ne_of_gt (blk_lt (g := gb144) (o := .cells #[.int .i64 a0_0, .int .u32 a0_1, .int .u32 a0_2, .int .u64 a0_3, .int .u64 a0_4, .int .u32 a0_5, .int .i64 a0_6, .bool a0_7, .int .i64 a0_8, .slice A0_9 l0_9.length c0_9, .slice A0_10 l0_10.length c0_10] 26 (0, 0)) (by (with_reducible repeat (first | apply bd1 | apply bd2 | apply bd3)); exact BK144.out)) : gb148 ≠ gb144)); clear BK144; clear HB; have BK144 := n0_; have HB := n1_; have BK148 := n2_; have GW148 := n3_; have GE148 := n4_; have NB144_148 := n5_; have NB148_144 := n6_; clear n0_ n1_ n2_ n3_ n4_ n5_ n6_; clear hb hbox hg; have hnb23 := NB148_144.out; have hnc23 := NB144_148.out; obtain ⟨hcz24_0, hcz24_1, hcz24_2, hcz24_3, hcz24_4, hcz24_5, hcz24_6, hcz24_7, hcz24_8, hcz24_9, hcz24_10, hfz24_0, hfz24_1, hfz24_2, hfz24_3, hfz24_4, hfz24_5, hfz24_6, hfz24_7, hfz24_8, hfz24_9, hfz24_10⟩ := blk_all11 BK148.out) | ((with_reducible refine gate_callee (f := 18) rfl ?_); refine goesL_ (some 22) rfl rfl Try.func18 (by kernel_rfl) rfl #[.int .i64 a1] rfl (by (try simp only [List.map_toArray, List.map_cons, List.map_nil]); first | done | rfl | (simp only [List.length_drop, List.length_take]; rfl)) ?_; (with_reducible refine (note_Names.calls kj2 a1 t149 _ A17.out).mono ?_); rintro e w' ⟨rfl, ⟨nd, rfl⟩⟩; refine ⟨_, rfl, ?_⟩) | ((with_reducible refine gate_callee (f := 14) rfl ?_); refine goesL_ (some 145) rfl rfl Try.func14 (by kernel_rfl) rfl #[.agg #[.int .i64 a1, .int .u32 a0_1, .int .u32 a0_2, .int .u64 a0_3, .int .u64 a0_4, .int .u32 a0_5, .int .i64 a0_6, .bool a0_7, .int .i64 a0_8, .slice A0_9 l0_9.length c0_9, .slice A0_10 l0_10.length c0_10]] rfl (by (try simp only [List.map_toArray, List.map_cons, List.map_nil]); first | done | rfl | (simp only [List.length_drop, List.length_take]; rfl)) ?_; (with_reducible refine (note_Check.calls a1 a0_1 a0_2 a0_3 a0_4 a0_5 a0_6 a0_7 a0_8 _ _ l0_9 _ _ l0_10 t150 _ ?side1 ?side2 ?side3 ?side4 A18.out).mono ?_); (case side1 => exact Kd.C_below HR0_9.out (by repeat (first | (with_reducible first | exact HB.out | apply below_alloc | apply pw_below_drewN | apply below_drew1 | refine below_set ?_ GE144.out | refine below_set ?_ GE148.out) | exact HB.out))); (case side2 => exact HC0_9.out); (case side3 => exact Kd.C_below HR0_10.out (by repeat (first | (with_reducible first | exact HB.out | apply below_alloc | apply pw_below_drewN | apply below_drew1 | refine below_set ?_ GE144.out | refine below_set ?_ GE148.out) | exact HB.out))); (case side4 => exact HC0_10.out); rintro e w25 ⟨rfl, hb⟩; refine ⟨_, rfl, ?_⟩; have n0_ := Aside0.mk (blk_below (g := gb144) (o := .cells #[.int .i64 a0_0, .int .u32 a0_1, .int .u32 a0_2, .int .u64 a0_3, .int .u64 a0_4, .int .u32 a0_5, .int .i64 a0_6, .bool a0_7, .int .i64 a0_8, .slice A0_9 l0_9.length c0_9, .slice A0_10 l0_10.length c0_10] 26 (0, 0)) (by (with_reducible repeat (first | apply bd1 | apply bd2 | apply bd3)); refine blk_far ?_ NB144_148.out _; (with_reducible repeat (first | apply bd1 | apply bd2 | apply bd3)); refine blk_far ?_ NB144_148.out _; (with_reducible repeat (first | apply bd1 | apply bd2 | apply bd3)); refine blk_far ?_ NB144_148.out _; (with_reducible repeat (first | apply bd1 | apply bd2 | apply bd3)); refine blk_far ?_ NB144_148.out _; (with_reducible repeat (first | apply bd1 | apply bd2 | apply bd3)); refine blk_far ?_ NB144_148.out _; (with_reducible repeat (first | apply bd1 | apply bd2 | apply bd3)); refine blk_far ?_ NB144_148.out _; (with_reducible repeat (first | apply bd1 | apply bd2 | apply bd3)); refine blk_far ?_ NB144_148.out _; (with_reducible repeat (first | apply bd1 | apply bd2 | apply bd3)); refine blk_far ?_ NB144_148.out _; (with_reducible repeat (first | apply bd1 | apply bd2 | apply bd3)); refine blk_far ?_ NB144_148.out _; (with_reducible repeat (first | apply bd1 | apply bd2 | apply bd3)); refine blk_far ?_ NB144_148.out _; (with_reducible repeat (first | apply bd1 | apply bd2 | apply bd3)); refine blk_far ?_ NB144_148.out _; (with_reducible repeat (first | apply bd1 | apply bd2 | apply bd3)); refine blk_far ?_ NB144_148.out _; (with_reducible repeat (first | apply bd1 | apply bd2 | apply bd3)); exact BK144.out) hb); have n1_ := Aside0.mk (blk_below (g := gb148) (o := .cells #[.int .i64 a1, .int .u32 a0_1, .int .u32 a0_2, .int .u64 a0_3, .int .u64 a0_4, .int .u32 a0_5, .int .i64 a0_6, .bool a0_7, .int .i64 a0_8, .slice A0_9 l0_9.length c0_9, .slice A0_10 l0_10.length c0_10] 26 (0, 0)) (by (with_reducible repeat (first | apply bd1 | apply bd2 | apply bd3)); refine blk_put (cs := #[.int .i64 a0_0, .int .u32 a0_1, .int .u32 a0_2, .int .u64 a0_3, .int .u64 a0_4, .int .u32 a0_5, .int .i64 a0_6, .bool a0_7, .int .i64 a0_8, .slice A0_9 l0_9.length c0_9, .slice A0_10 l0_10.length c0_10]) ?_ 0 _ rfl; (with_reducible repeat (first | apply bd1 | apply bd2 | apply bd3)); refine blk_put (cs := #[.int .i64 a0_0, .int .u32 a0_1, .int .u32 a0_2, .int .u64 a0_3, .int .u64 a0_4, .int .u32 a0_5, .int .i64 a0_6, .bool a0_7, .int .i64 a0_8, .slice A0_9 l0_9.length c0_9, .slice none 0 0]) ?_ 10 _ rfl; (with_reducible repeat (first | apply bd1 | apply bd2 | apply bd3)); refine blk_put (cs := #[.int .i64 a0_0, .int .u32 a0_1, .int .u32 a0_2, .int .u64 a0_3, .int .u64 a0_4, .int .u32 a0_5, .int .i64 a0_6, .bool a0_7, .int .i64 a0_8, .slice none 0 0, .slice none 0 0]) ?_ 9 _ rfl; (with_reducible repeat (first | apply bd1 | apply bd2 | apply bd3)); refine blk_put (cs := #[.int .i64 a0_0, .int .u32 a0_1, .int .u32 a0_2, .int .u64 a0_3, .int .u64 a0_4, .int .u32 a0_5, .int .i64 a0_6, .bool a0_7, .int .i64 0, .slice none 0 0, .slice none 0 0]) ?_ 8 _ rfl; (with_reducible repeat (first | apply bd1 | apply bd2 | apply bd3)); refine blk_put (cs := #[.int .i64 a0_0, .int .u32 a0_1, .int .u32 a0_2, .int .u64 a0_3, .int .u64 a0_4, .int .u32 a0_5, .int .i64 a0_6, .bool false, .int .i64 0, .slice none 0 0, .slice none 0 0]) ?_ 7 _ rfl; (with_reducible repeat (first | apply bd1 | apply bd2 | apply bd3)); refine blk_put (cs := #[.int .i64 a0_0, .int .u32 a0_1, .int .u32 a0_2, .int .u64 a0_3, .int .u64 a0_4, .int .u32 a0_5, .int .i64 0, .bool false, .int .i64 0, .slice none 0 0, .slice none 0 0]) ?_ 6 _ rfl; (with_reducible repeat (first | apply bd1 | apply bd2 | apply bd3)); refine blk_put (cs := #[.int .i64 a0_0, .int .u32 a0_1, .int .u32 a0_2, .int .u64 a0_3, .int .u64 a0_4, .int .u32 0, .int .i64 0, .bool false, .int .i64 0, .slice none 0 0, .slice none 0 0]) ?_ 5 _ rfl; (with_reducible repeat (first | apply bd1 | apply bd2 | apply bd3)); refine blk_put (cs := #[.int .i64 a0_0, .int .u32 a0_1, .int .u32 a0_2, .int .u64 a0_3, .int .u64 0, .int .u32 0, .int .i64 0, .bool false, .int .i64 0, .slice none 0 0, .slice none 0 0]) ?_ 4 _ rfl; (with_reducible repeat (first | apply bd1 | apply bd2 | apply bd3)); refine blk_put (cs := #[.int .i64 a0_0, .int .u32 a0_1, .int .u32 a0_2, .int .u64 0, .int .u64 0, .int .u32 0, .int .i64 0, .bool false, .int .i64 0, .slice none 0 0, .slice none 0 0]) ?_ 3 _ rfl; (with_reducible repeat (first | apply bd1 | apply bd2 | apply bd3)); refine blk_put (cs := #[.int .i64 a0_0, .int .u32 a0_1, .int .u32 0, .int .u64 0, .int .u64 0, .int .u32 0, .int .i64 0, .bool false, .int .i64 0, .slice none 0 0, .slice none 0 0]) ?_ 2 _ rfl; (with_reducible repeat (first | apply bd1 | apply bd2 | apply bd3)); refine blk_put (cs := #[.int .i64 a0_0, .int .u32 0, .int .u32 0, .int .u64 0, .int .u64 0, .int .u32 0, .int .i64 0, .bool false, .int .i64 0, .slice none 0 0, .slice none 0 0]) ?_ 1 _ rfl; (with_reducible repeat (first | apply bd1 | apply bd2 | apply bd3)); refine blk_put (cs := #[.int .i64 0, .int .u32 0, .int .u32 0, .int .u64 0, .int .u64 0, .int .u32 0, .int .i64 0, .bool false, .int .i64 0, .slice none 0 0, .slice none 0 0]) ?_ 0 _ rfl; (with_reducible repeat (first | apply bd1 | apply bd2 | apply bd3)); exact BK148.out) hb); have n2_ := Aside0.mk (below_step (by repeat (first | (with_reducible first | exact HB.out | apply below_alloc | apply pw_below_drewN | apply below_drew1 | refine below_set ?_ GE144.out | refine below_set ?_ GE148.out) | exact HB.out)) hb); clear BK144; clear BK148; clear HB; have BK144 := n0_; have BK148 := n1_; have HB := n2_; clear n0_ n1_ n2_; (try clear hb); (try clear hb2); (try clear hk); (try clear hi)) | (go_at_call 11; (with_reducible refine (drayagelaw05_known.calls kj2  t151 _ A20.out).mono ?_); rintro e w26 ⟨rfl, hb⟩; have n0_ := Aside0.mk (blk_below (g := gb144) (o := .cells #[.int .i64 a0_0, .int .u32 a0_1, .int .u32 a0_2, .int .u64 a0_3, .int .u64 a0_4, .int .u32 a0_5, .int .i64 a0_6, .bool a0_7, .int .i64 a0_8, .slice A0_9 l0_9.length c0_9, .slice A0_10 l0_10.length c0_10] 26 (0, 0)) (by (with_reducible repeat (first | apply bd1 | apply bd2 | apply bd3)); exact BK144.out) hb); have n1_ := Aside0.mk (blk_below (g := gb148) (o := .cells #[.int .i64 a1, .int .u32 a0_1, .int .u32 a0_2, .int .u64 a0_3, .int .u64 a0_4, .int .u32 a0_5, .int .i64 a0_6, .bool a0_7, .int .i64 a0_8, .slice A0_9 l0_9.length c0_9, .slice A0_10 l0_10.length c0_10] 26 (0, 0)) (by (with_reducible repeat (first | apply bd1 | apply bd2 | apply bd3)); exact BK148.out) hb); have n2_ := Aside0.mk (below_step (by repeat (first | (with_reducible first | exact HB.out | apply below_alloc | apply pw_below_drewN | apply below_drew1 | refine below_set ?_ GE144.out | refine below_set ?_ GE148.out) | exact HB.out)) hb); clear BK144; clear BK148; clear HB; have BK144 := n0_; have BK148 := n1_; have HB := n2_; clear n0_ n1_ n2_; (try clear hb); (try clear hb2); (try clear hk); (try clear hi)))
          refine gen_world_ (fun W_ => Aside0 (W_.heap[gb144]? = some (.cells #[.int .i64 a0_0, .int .u32 a0_1, .int .u32 a0_2, .int .u64 a0_3, .int .u64 a0_4, .int .u32 a0_5, .int .i64 a0_6, .bool a0_7, .int .i64 a0_8, (.slice A0_9 l0_9.length c0_9), (.slice A0_10 l0_10.length c0_10)] 26 (0, 0))) ∧ Aside0 (W_.heap[gb148]? = some (.cells #[.int .i64 a1, .int .u32 a0_1, .int .u32 a0_2, .int .u64 a0_3, .int .u64 a0_4, .int .u32 a0_5, .int .i64 a0_6, .bool a0_7, .int .i64 a0_8, (.slice A0_9 l0_9.length c0_9), (.slice A0_10 l0_10.length c0_10)] 26 (0, 0))) ∧ Aside0 (Below w.heap.size w W_)) ⟨⟨(by (with_reducible repeat (first | apply bd1 | apply bd2 | apply bd3)); refine blk_far ?_ NB144_148.out _; (with_reducible repeat (first | apply bd1 | apply bd2 | apply bd3)); refine blk_far ?_ NB144_148.out _; (with_reducible repeat (first | apply bd1 | apply bd2 | apply bd3)); refine blk_far ?_ NB144_148.out _; (with_reducible repeat (first | apply bd1 | apply bd2 | apply bd3)); refine blk_far ?_ NB144_148.out _; (with_reducible repeat (first | apply bd1 | apply bd2 | apply bd3)); refine blk_far ?_ NB144_148.out _; (with_reducible repeat (first | apply bd1 | apply bd2 | apply bd3)); refine blk_far ?_ NB144_148.out _; (with_reducible repeat (first | apply bd1 | apply bd2 | apply bd3)); refine blk_far ?_ NB144_148.out _; (with_reducible repeat (first | apply bd1 | apply bd2 | apply bd3)); refine blk_far ?_ NB144_148.out _; (with_reducible repeat (first | apply bd1 | apply bd2 | apply bd3)); refine blk_far ?_ NB144_148.out _; (with_reducible repeat (first | apply bd1 | apply bd2 | apply bd3)); refine blk_far ?_ NB144_148.out _; (with_reducible repeat (first | apply bd1 | apply bd2 | apply bd3)); refine blk_far ?_ NB144_148.out _; (with_reducible repeat (first | apply bd1 | apply bd2 | apply bd3)); refine blk_far ?_ NB144_148.out _; (with_reducible repeat (first | apply bd1 | apply bd2 | apply bd3)); exact BK144.out)⟩, ⟨(by (with_reducible repeat (first | apply bd1 | apply bd2 | apply bd3)); refine blk_put (cs := #[.int .i64 a0_0, .int .u32 a0_1, .int .u32 a0_2, .int .u64 a0_3, .int .u64 a0_4, .int .u32 a0_5, .int .i64 a0_6, .bool a0_7, .int .i64 a0_8, .slice A0_9 l0_9.length c0_9, .slice A0_10 l0_10.length c0_10]) ?_ 0 _ rfl; (with_reducible repeat (first | apply bd1 | apply bd2 | apply bd3)); refine blk_put (cs := #[.int .i64 a0_0, .int .u32 a0_1, .int .u32 a0_2, .int .u64 a0_3, .int .u64 a0_4, .int .u32 a0_5, .int .i64 a0_6, .bool a0_7, .int .i64 a0_8, .slice A0_9 l0_9.length c0_9, .slice none 0 0]) ?_ 10 _ rfl; (with_reducible repeat (first | apply bd1 | apply bd2 | apply bd3)); refine blk_put (cs := #[.int .i64 a0_0, .int .u32 a0_1, .int .u32 a0_2, .int .u64 a0_3, .int .u64 a0_4, .int .u32 a0_5, .int .i64 a0_6, .bool a0_7, .int .i64 a0_8, .slice none 0 0, .slice none 0 0]) ?_ 9 _ rfl; (with_reducible repeat (first | apply bd1 | apply bd2 | apply bd3)); refine blk_put (cs := #[.int .i64 a0_0, .int .u32 a0_1, .int .u32 a0_2, .int .u64 a0_3, .int .u64 a0_4, .int .u32 a0_5, .int .i64 a0_6, .bool a0_7, .int .i64 0, .slice none 0 0, .slice none 0 0]) ?_ 8 _ rfl; (with_reducible repeat (first | apply bd1 | apply bd2 | apply bd3)); refine blk_put (cs := #[.int .i64 a0_0, .int .u32 a0_1, .int .u32 a0_2, .int .u64 a0_3, .int .u64 a0_4, .int .u32 a0_5, .int .i64 a0_6, .bool false, .int .i64 0, .slice none 0 0, .slice none 0 0]) ?_ 7 _ rfl; (with_reducible repeat (first | apply bd1 | apply bd2 | apply bd3)); refine blk_put (cs := #[.int .i64 a0_0, .int .u32 a0_1, .int .u32 a0_2, .int .u64 a0_3, .int .u64 a0_4, .int .u32 a0_5, .int .i64 0, .bool false, .int .i64 0, .slice none 0 0, .slice none 0 0]) ?_ 6 _ rfl; (with_reducible repeat (first | apply bd1 | apply bd2 | apply bd3)); refine blk_put (cs := #[.int .i64 a0_0, .int .u32 a0_1, .int .u32 a0_2, .int .u64 a0_3, .int .u64 a0_4, .int .u32 0, .int .i64 0, .bool false, .int .i64 0, .slice none 0 0, .slice none 0 0]) ?_ 5 _ rfl; (with_reducible repeat (first | apply bd1 | apply bd2 | apply bd3)); refine blk_put (cs := #[.int .i64 a0_0, .int .u32 a0_1, .int .u32 a0_2, .int .u64 a0_3, .int .u64 0, .int .u32 0, .int .i64 0, .bool false, .int .i64 0, .slice none 0 0, .slice none 0 0]) ?_ 4 _ rfl; (with_reducible repeat (first | apply bd1 | apply bd2 | apply bd3)); refine blk_put (cs := #[.int .i64 a0_0, .int .u32 a0_1, .int .u32 a0_2, .int .u64 0, .int .u64 0, .int .u32 0, .int .i64 0, .bool false, .int .i64 0, .slice none 0 0, .slice none 0 0]) ?_ 3 _ rfl; (with_reducible repeat (first | apply bd1 | apply bd2 | apply bd3)); refine blk_put (cs := #[.int .i64 a0_0, .int .u32 a0_1, .int .u32 0, .int .u64 0, .int .u64 0, .int .u32 0, .int .i64 0, .bool false, .int .i64 0, .slice none 0 0, .slice none 0 0]) ?_ 2 _ rfl; (with_reducible repeat (first | apply bd1 | apply bd2 | apply bd3)); refine blk_put (cs := #[.int .i64 a0_0, .int .u32 0, .int .u32 0, .int .u64 0, .int .u64 0, .int .u32 0, .int .i64 0, .bool false, .int .i64 0, .slice none 0 0, .slice none 0 0]) ?_ 1 _ rfl; (with_reducible repeat (first | apply bd1 | apply bd2 | apply bd3)); refine blk_put (cs := #[.int .i64 0, .int .u32 0, .int .u32 0, .int .u64 0, .int .u64 0, .int .u32 0, .int .i64 0, .bool false, .int .i64 0, .slice none 0 0, .slice none 0 0]) ?_ 0 _ rfl; (with_reducible repeat (first | apply bd1 | apply bd2 | apply bd3)); exact BK148.out)⟩, ⟨(by repeat (first | (with_reducible first | exact HB.out | apply below_alloc | apply pw_below_drewN | apply below_drew1 | refine below_set ?_ GE144.out | refine below_set ?_ GE148.out) | exact HB.out))⟩⟩ ?_
          try clear hcz24_0
          try clear hcz24_1
          try clear hcz24_2
          try clear hcz24_3
          try clear hcz24_4
          try clear hcz24_5
          try clear hcz24_6
          try clear hcz24_7
          try clear hcz24_8
          try clear hcz24_9
          try clear hcz24_10
          try clear hfz24_0
          try clear hfz24_1
          try clear hfz24_2
          try clear hfz24_3
          try clear hfz24_4
          try clear hfz24_5
          try clear hfz24_6
          try clear hfz24_7
          try clear hfz24_8
          try clear hfz24_9
          try clear hfz24_10
          try clear hcz21_0
          try clear hcz21_1
          try clear hcz21_2
          try clear hcz21_3
          try clear hcz21_4
          try clear hcz21_5
          try clear hcz21_6
          try clear hcz21_7
          try clear hcz21_8
          try clear hcz21_9
          try clear hcz21_10
          try clear hfz21_0
          try clear hfz21_1
          try clear hfz21_2
          try clear hfz21_3
          try clear hfz21_4
          try clear hfz21_5
          try clear hfz21_6
          try clear hfz21_7
          try clear hfz21_8
          try clear hfz21_9
          try clear hfz21_10
          clear BK144 BK148 HB
          rintro Wf ⟨BK144, BK148, HB⟩
          go_cut [7] (fun v7 wc => v7 = .bool (bareExtra a0_1 a0_2 a0_3 a0_4 a0_5 a0_6 a0_7 a0_8 l0_9 l0_10 i1 i2 i3 i4 i5 i6 i7 i8 i9 i10) ∧ Aside0 (wc.heap[gb144]? = some (.cells #[.int .i64 a0_0, .int .u32 a0_1, .int .u32 a0_2, .int .u64 a0_3, .int .u64 a0_4, .int .u32 a0_5, .int .i64 a0_6, .bool a0_7, .int .i64 a0_8, (.slice A0_9 l0_9.length c0_9), (.slice A0_10 l0_10.length c0_10)] 26 (0, 0))) ∧ Aside0 (wc.heap[gb148]? = some (.cells #[.int .i64 a1, .int .u32 a0_1, .int .u32 a0_2, .int .u64 a0_3, .int .u64 a0_4, .int .u32 a0_5, .int .i64 a0_6, .bool a0_7, .int .i64 a0_8, (.slice A0_9 l0_9.length c0_9), (.slice A0_10 l0_10.length c0_10)] 26 (0, 0))) ∧ Aside0 (Below w.heap.size w wc))
          case first =>
            refine wp_region_list ?_
            obtain ⟨c_1, ec_1⟩ : ∃ c_ : Bool, c_ = (decide (a0_1 > 0)) := ⟨_, rfl⟩
            refine sym_ (N := 23) (v := .pointer (some ⟨gb144, 1, none⟩)) (true) rfl (by rfl) (by intro hg_; first | rfl | (go_simp; done) | (go_simp; rfl)) ?_
            intro u_23 h_23; refine normL_ (a' := ?_) ?_ ?_; rotate_left
            · simp only [Act.put, List.setIfInBounds_toArray, List.set_cons_zero, List.set_cons_succ]; rfl
            obtain rfl : u_23 = .pointer (some ⟨gb144, 1, none⟩) := h_23
            refine sym_ (N := 24) (v := .int .u32 a0_1) (true) rfl (by rfl) (by intro hg_; clear hg_; have k_ : Wf.cell? ⟨gb144, 1, none⟩ = some (.int .u32 a0_1) := (blk_cell BK144.out 1).trans rfl; first | rfl | (go_simp; done) | (go_simp; rfl)) ?_
            intro u_24 h_24; refine normL_ (a' := ?_) ?_ ?_; rotate_left
            · simp only [Act.put, List.setIfInBounds_toArray, List.set_cons_zero, List.set_cons_succ]; rfl
            obtain rfl : u_24 = .int .u32 a0_1 := h_24
            refine sym_ (N := 25) (v := .bool c_1) (true) rfl (by rfl) (by intro hg_; clear hg_; rw [ec_1]; first | rfl | (go_simp; done) | (go_simp; rfl)) ?_
            intro u_25 h_25; refine normL_ (a' := ?_) ?_ ?_; rotate_left
            · simp only [Act.put, List.setIfInBounds_toArray, List.set_cons_zero, List.set_cons_succ]; rfl
            obtain rfl : u_25 = .bool c_1 := h_25
            refine sym_ (N := 26) (v := .bool c_1) (true) rfl (by rfl) (by intro hg_; clear hg_; first | rfl | (go_simp; done) | (go_simp; rfl)) ?_
            intro u_26 h_26; refine normL_ (a' := ?_) ?_ ?_; rotate_left
            · simp only [Act.put, List.setIfInBounds_toArray, List.set_cons_zero, List.set_cons_succ]; rfl
            obtain rfl : u_26 = .bool c_1 := h_26
            refine sym_ (N := 27) (v := .string t149) (c_1) rfl (by cases c_1 <;> rfl) (by intro hg_; first | rfl | (go_simp; done) | (go_simp; rfl)) ?_
            intro u_27 h_27; refine normL_ (a' := ?_) ?_ ?_; rotate_left
            · simp only [Act.put, List.setIfInBounds_toArray, List.set_cons_zero, List.set_cons_succ]; rfl
            refine symc_ (N := 28) (x := .bool i1) (c_1) (fun W_ => Aside0 (W_.heap[gb144]? = some (.cells #[.int .i64 a0_0, .int .u32 a0_1, .int .u32 a0_2, .int .u64 a0_3, .int .u64 a0_4, .int .u32 a0_5, .int .i64 a0_6, .bool a0_7, .int .i64 a0_8, (.slice A0_9 l0_9.length c0_9), (.slice A0_10 l0_10.length c0_10)] 26 (0, 0))) ∧ Aside0 (W_.heap[gb148]? = some (.cells #[.int .i64 a1, .int .u32 a0_1, .int .u32 a0_2, .int .u64 a0_3, .int .u64 a0_4, .int .u32 a0_5, .int .i64 a0_6, .bool a0_7, .int .i64 a0_8, (.slice A0_9 l0_9.length c0_9), (.slice A0_10 l0_10.length c0_10)] 26 (0, 0))) ∧ Aside0 (Below w.heap.size w W_)) rfl (by cases c_1 <;> rfl) (fun hg_ hw_ hK_ => ?_) ⟨BK144, BK148, HB⟩ ?_
            · obtain rfl : u_27 = .string t149 := h_27.trans (by rw [hg_]; rfl)
              refine gate_guard hw_ ?_
              (with_reducible refine gate_callee (f := 26) rfl ?_); refine goesL_ (some 28) rfl rfl Try.func26 (by kernel_rfl) rfl #[.string t149, .int .u8 69] rfl (by (try simp only [List.map_toArray, List.map_cons, List.map_nil]); first | done | rfl) ?_; (with_reducible refine (drayagelaw05_in.calls kj2 t149 69 i1 _ I1.out).mono ?_); rintro e w' ⟨rfl, ⟨nd, rfl⟩⟩; refine ⟨_, rfl, ?_⟩
              exact hK_ _ ⟨⟨by (with_reducible repeat (first | apply bd1 | apply bd2 | apply bd3)); exact BK144.out⟩, ⟨by (with_reducible repeat (first | apply bd1 | apply bd2 | apply bd3)); exact BK148.out⟩, ⟨(by repeat (first | (with_reducible first | exact HB.out | apply below_alloc | apply pw_below_drewN | apply below_drew1 | refine below_set ?_ GE144.out | refine below_set ?_ GE148.out) | exact HB.out))⟩⟩
            clear BK144 BK148 HB
            rintro u_28 Wf1 h_28 ⟨BK144, BK148, HB⟩; refine normL_ (a' := ?_) ?_ ?_; rotate_left
            · simp only [Act.put, List.setIfInBounds_toArray, List.set_cons_zero, List.set_cons_succ]; rfl
            refine sym_ (N := 29) (v := .bool (!i1)) (c_1) rfl (by cases c_1 <;> rfl) (by intro hg_; obtain rfl : u_28 = .bool i1 := h_28.trans (by rw [hg_]; rfl); first | rfl | (go_simp; done) | (go_simp; rfl)) ?_
            intro u_29 h_29; refine normL_ (a' := ?_) ?_ ?_; rotate_left
            · simp only [Act.put, List.setIfInBounds_toArray, List.set_cons_zero, List.set_cons_succ]; rfl
            refine sym_ (N := 30) (v := .bool (c_1 && !i1)) (true) rfl (by rfl) (by intro hg_; subst h_29; cases c_1 <;> rfl) ?_
            intro u_30 h_30; refine normL_ (a' := ?_) ?_ ?_; rotate_left
            · simp only [Act.put, List.setIfInBounds_toArray, List.set_cons_zero, List.set_cons_succ]; rfl
            obtain rfl : u_30 = .bool (c_1 && !i1) := h_30
            obtain ⟨p_1, ep_1⟩ : ∃ c_ : Bool, c_ = (c_1 && !i1) := ⟨_, rfl⟩
            rw [← ep_1]
            refine sym_ (N := 31) (v := .bool p_1) (true) rfl (by rfl) (by intro hg_; first | rfl | (go_simp; done) | (go_simp; rfl)) ?_
            intro u_31 h_31; refine normL_ (a' := ?_) ?_ ?_; rotate_left
            · simp only [Act.put, List.setIfInBounds_toArray, List.set_cons_zero, List.set_cons_succ]; rfl
            obtain rfl : u_31 = .bool p_1 := h_31
            obtain ⟨c_2, ec_2⟩ : ∃ c_ : Bool, c_ = (decide (a0_2 > 0)) := ⟨_, rfl⟩
            refine sym_ (N := 32) (v := .pointer (some ⟨gb144, 2, none⟩)) (!p_1) rfl (by cases p_1 <;> rfl) (by intro hg_; first | rfl | (go_simp; done) | (go_simp; rfl)) ?_
            intro u_32 h_32; refine normL_ (a' := ?_) ?_ ?_; rotate_left
            · simp only [Act.put, List.setIfInBounds_toArray, List.set_cons_zero, List.set_cons_succ]; rfl
            refine sym_ (N := 33) (v := .int .u32 a0_2) (!p_1) rfl (by cases p_1 <;> rfl) (by intro hg_; obtain rfl : u_32 = .pointer (some ⟨gb144, 2, none⟩) := h_32.trans (by rw [hg_]; rfl); clear h_32; clear hg_; have k_ : Wf1.cell? ⟨gb144, 2, none⟩ = some (.int .u32 a0_2) := (blk_cell BK144.out 2).trans rfl; first | rfl | (go_simp; done) | (go_simp; rfl)) ?_
            intro u_33 h_33; refine normL_ (a' := ?_) ?_ ?_; rotate_left
            · simp only [Act.put, List.setIfInBounds_toArray, List.set_cons_zero, List.set_cons_succ]; rfl
            refine sym_ (N := 34) (v := .bool c_2) (!p_1) rfl (by cases p_1 <;> rfl) (by intro hg_; obtain rfl : u_33 = .int .u32 a0_2 := h_33.trans (by rw [hg_]; rfl); clear h_33; clear hg_; rw [ec_2]; first | rfl | (go_simp; done) | (go_simp; rfl)) ?_
            intro u_34 h_34; refine normL_ (a' := ?_) ?_ ?_; rotate_left
            · simp only [Act.put, List.setIfInBounds_toArray, List.set_cons_zero, List.set_cons_succ]; rfl
            refine sym_ (N := 35) (v := .bool c_2) (!p_1) rfl (by cases p_1 <;> rfl) (by intro hg_; obtain rfl : u_34 = .bool c_2 := h_34.trans (by rw [hg_]; rfl); clear h_34; clear hg_; first | rfl | (go_simp; done) | (go_simp; rfl)) ?_
            intro u_35 h_35; refine normL_ (a' := ?_) ?_ ?_; rotate_left
            · simp only [Act.put, List.setIfInBounds_toArray, List.set_cons_zero, List.set_cons_succ]; rfl
            refine sym_ (N := 36) (v := .string t149) (!p_1 && c_2) rfl (by subst h_35; cases p_1 <;> cases c_2 <;> rfl) (by intro hg_; first | rfl | (go_simp; done) | (go_simp; rfl)) ?_
            intro u_36 h_36; refine normL_ (a' := ?_) ?_ ?_; rotate_left
            · simp only [Act.put, List.setIfInBounds_toArray, List.set_cons_zero, List.set_cons_succ]; rfl
            refine symc_ (N := 37) (x := .bool i2) (!p_1 && c_2) (fun W_ => Aside0 (W_.heap[gb144]? = some (.cells #[.int .i64 a0_0, .int .u32 a0_1, .int .u32 a0_2, .int .u64 a0_3, .int .u64 a0_4, .int .u32 a0_5, .int .i64 a0_6, .bool a0_7, .int .i64 a0_8, (.slice A0_9 l0_9.length c0_9), (.slice A0_10 l0_10.length c0_10)] 26 (0, 0))) ∧ Aside0 (W_.heap[gb148]? = some (.cells #[.int .i64 a1, .int .u32 a0_1, .int .u32 a0_2, .int .u64 a0_3, .int .u64 a0_4, .int .u32 a0_5, .int .i64 a0_6, .bool a0_7, .int .i64 a0_8, (.slice A0_9 l0_9.length c0_9), (.slice A0_10 l0_10.length c0_10)] 26 (0, 0))) ∧ Aside0 (Below w.heap.size w W_)) rfl (by subst h_35; cases p_1 <;> cases c_2 <;> rfl) (fun hg_ hw_ hK_ => ?_) ⟨BK144, BK148, HB⟩ ?_
            · obtain rfl : u_36 = .string t149 := h_36.trans (by rw [hg_]; rfl)
              refine gate_guard hw_ ?_
              (with_reducible refine gate_callee (f := 26) rfl ?_); refine goesL_ (some 37) rfl rfl Try.func26 (by kernel_rfl) rfl #[.string t149, .int .u8 80] rfl (by (try simp only [List.map_toArray, List.map_cons, List.map_nil]); first | done | rfl) ?_; (with_reducible refine (drayagelaw05_in.calls kj2 t149 80 i2 _ I2.out).mono ?_); rintro e w' ⟨rfl, ⟨nd, rfl⟩⟩; refine ⟨_, rfl, ?_⟩
              exact hK_ _ ⟨⟨by (with_reducible repeat (first | apply bd1 | apply bd2 | apply bd3)); exact BK144.out⟩, ⟨by (with_reducible repeat (first | apply bd1 | apply bd2 | apply bd3)); exact BK148.out⟩, ⟨(by repeat (first | (with_reducible first | exact HB.out | apply below_alloc | apply pw_below_drewN | apply below_drew1 | refine below_set ?_ GE144.out | refine below_set ?_ GE148.out) | exact HB.out))⟩⟩
            clear BK144 BK148 HB
            rintro u_37 Wf2 h_37 ⟨BK144, BK148, HB⟩; refine normL_ (a' := ?_) ?_ ?_; rotate_left
            · simp only [Act.put, List.setIfInBounds_toArray, List.set_cons_zero, List.set_cons_succ]; rfl
            refine sym_ (N := 38) (v := .bool (!i2)) (!p_1 && c_2) rfl (by subst h_35; cases p_1 <;> cases c_2 <;> rfl) (by intro hg_; obtain rfl : u_37 = .bool i2 := h_37.trans (by rw [hg_]; rfl); first | rfl | (go_simp; done) | (go_simp; rfl)) ?_
            intro u_38 h_38; refine normL_ (a' := ?_) ?_ ?_; rotate_left
            · simp only [Act.put, List.setIfInBounds_toArray, List.set_cons_zero, List.set_cons_succ]; rfl
            refine sym_ (N := 39) (v := .bool (c_2 && !i2)) (!p_1) rfl (by cases p_1 <;> rfl) (by intro hg_; subst h_38; subst h_35; cases p_1 <;> cases c_2 <;> first | rfl | exact absurd hg_ (by decide)) ?_
            intro u_39 h_39; refine normL_ (a' := ?_) ?_ ?_; rotate_left
            · simp only [Act.put, List.setIfInBounds_toArray, List.set_cons_zero, List.set_cons_succ]; rfl
            obtain ⟨p_2, ep_2⟩ : ∃ c_ : Bool, c_ = (p_1 || (c_2 && !i2)) := ⟨_, rfl⟩
            refine sym_ (N := 40) (v := .bool p_2) (true) rfl (by rfl) (by intro hg_; rw [ep_2]; subst h_39; cases p_1 <;> rfl) ?_
            intro u_40 h_40; refine normL_ (a' := ?_) ?_ ?_; rotate_left
            · simp only [Act.put, List.setIfInBounds_toArray, List.set_cons_zero, List.set_cons_succ]; rfl
            obtain rfl : u_40 = .bool p_2 := h_40
            refine sym_ (N := 41) (v := .bool p_2) (true) rfl (by rfl) (by intro hg_; first | rfl | (go_simp; done) | (go_simp; rfl)) ?_
            intro u_41 h_41; refine normL_ (a' := ?_) ?_ ?_; rotate_left
            · simp only [Act.put, List.setIfInBounds_toArray, List.set_cons_zero, List.set_cons_succ]; rfl
            obtain rfl : u_41 = .bool p_2 := h_41
            obtain ⟨c_3, ec_3⟩ : ∃ c_ : Bool, c_ = (decide (a0_3 > 0)) := ⟨_, rfl⟩
            refine sym_ (N := 42) (v := .pointer (some ⟨gb144, 3, none⟩)) (!p_2) rfl (by cases p_2 <;> rfl) (by intro hg_; first | rfl | (go_simp; done) | (go_simp; rfl)) ?_
            intro u_42 h_42; refine normL_ (a' := ?_) ?_ ?_; rotate_left
            · simp only [Act.put, List.setIfInBounds_toArray, List.set_cons_zero, List.set_cons_succ]; rfl
            refine sym_ (N := 43) (v := .int .u64 a0_3) (!p_2) rfl (by cases p_2 <;> rfl) (by intro hg_; obtain rfl : u_42 = .pointer (some ⟨gb144, 3, none⟩) := h_42.trans (by rw [hg_]; rfl); clear h_42; clear hg_; have k_ : Wf2.cell? ⟨gb144, 3, none⟩ = some (.int .u64 a0_3) := (blk_cell BK144.out 3).trans rfl; first | rfl | (go_simp; done) | (go_simp; rfl)) ?_
            intro u_43 h_43; refine normL_ (a' := ?_) ?_ ?_; rotate_left
            · simp only [Act.put, List.setIfInBounds_toArray, List.set_cons_zero, List.set_cons_succ]; rfl
            refine sym_ (N := 44) (v := .bool c_3) (!p_2) rfl (by cases p_2 <;> rfl) (by intro hg_; obtain rfl : u_43 = .int .u64 a0_3 := h_43.trans (by rw [hg_]; rfl); clear h_43; clear hg_; rw [ec_3]; first | rfl | (go_simp; done) | (go_simp; rfl)) ?_
            intro u_44 h_44; refine normL_ (a' := ?_) ?_ ?_; rotate_left
            · simp only [Act.put, List.setIfInBounds_toArray, List.set_cons_zero, List.set_cons_succ]; rfl
            refine sym_ (N := 45) (v := .bool c_3) (!p_2) rfl (by cases p_2 <;> rfl) (by intro hg_; obtain rfl : u_44 = .bool c_3 := h_44.trans (by rw [hg_]; rfl); clear h_44; clear hg_; first | rfl | (go_simp; done) | (go_simp; rfl)) ?_
            intro u_45 h_45; refine normL_ (a' := ?_) ?_ ?_; rotate_left
            · simp only [Act.put, List.setIfInBounds_toArray, List.set_cons_zero, List.set_cons_succ]; rfl
            refine sym_ (N := 46) (v := .string t149) (!p_2 && c_3) rfl (by subst h_45; cases p_2 <;> cases c_3 <;> rfl) (by intro hg_; first | rfl | (go_simp; done) | (go_simp; rfl)) ?_
            intro u_46 h_46; refine normL_ (a' := ?_) ?_ ?_; rotate_left
            · simp only [Act.put, List.setIfInBounds_toArray, List.set_cons_zero, List.set_cons_succ]; rfl
            refine symc_ (N := 47) (x := .bool i3) (!p_2 && c_3) (fun W_ => Aside0 (W_.heap[gb144]? = some (.cells #[.int .i64 a0_0, .int .u32 a0_1, .int .u32 a0_2, .int .u64 a0_3, .int .u64 a0_4, .int .u32 a0_5, .int .i64 a0_6, .bool a0_7, .int .i64 a0_8, (.slice A0_9 l0_9.length c0_9), (.slice A0_10 l0_10.length c0_10)] 26 (0, 0))) ∧ Aside0 (W_.heap[gb148]? = some (.cells #[.int .i64 a1, .int .u32 a0_1, .int .u32 a0_2, .int .u64 a0_3, .int .u64 a0_4, .int .u32 a0_5, .int .i64 a0_6, .bool a0_7, .int .i64 a0_8, (.slice A0_9 l0_9.length c0_9), (.slice A0_10 l0_10.length c0_10)] 26 (0, 0))) ∧ Aside0 (Below w.heap.size w W_)) rfl (by subst h_45; cases p_2 <;> cases c_3 <;> rfl) (fun hg_ hw_ hK_ => ?_) ⟨BK144, BK148, HB⟩ ?_
            · obtain rfl : u_46 = .string t149 := h_46.trans (by rw [hg_]; rfl)
              refine gate_guard hw_ ?_
              (with_reducible refine gate_callee (f := 26) rfl ?_); refine goesL_ (some 47) rfl rfl Try.func26 (by kernel_rfl) rfl #[.string t149, .int .u8 76] rfl (by (try simp only [List.map_toArray, List.map_cons, List.map_nil]); first | done | rfl) ?_; (with_reducible refine (drayagelaw05_in.calls kj2 t149 76 i3 _ I3.out).mono ?_); rintro e w' ⟨rfl, ⟨nd, rfl⟩⟩; refine ⟨_, rfl, ?_⟩
              exact hK_ _ ⟨⟨by (with_reducible repeat (first | apply bd1 | apply bd2 | apply bd3)); exact BK144.out⟩, ⟨by (with_reducible repeat (first | apply bd1 | apply bd2 | apply bd3)); exact BK148.out⟩, ⟨(by repeat (first | (with_reducible first | exact HB.out | apply below_alloc | apply pw_below_drewN | apply below_drew1 | refine below_set ?_ GE144.out | refine below_set ?_ GE148.out) | exact HB.out))⟩⟩
            clear BK144 BK148 HB
            rintro u_47 Wf3 h_47 ⟨BK144, BK148, HB⟩; refine normL_ (a' := ?_) ?_ ?_; rotate_left
            · simp only [Act.put, List.setIfInBounds_toArray, List.set_cons_zero, List.set_cons_succ]; rfl
            refine sym_ (N := 48) (v := .bool (!i3)) (!p_2 && c_3) rfl (by subst h_45; cases p_2 <;> cases c_3 <;> rfl) (by intro hg_; obtain rfl : u_47 = .bool i3 := h_47.trans (by rw [hg_]; rfl); first | rfl | (go_simp; done) | (go_simp; rfl)) ?_
            intro u_48 h_48; refine normL_ (a' := ?_) ?_ ?_; rotate_left
            · simp only [Act.put, List.setIfInBounds_toArray, List.set_cons_zero, List.set_cons_succ]; rfl
            refine sym_ (N := 49) (v := .bool (c_3 && !i3)) (!p_2) rfl (by cases p_2 <;> rfl) (by intro hg_; subst h_48; subst h_45; cases p_2 <;> cases c_3 <;> first | rfl | exact absurd hg_ (by decide)) ?_
            intro u_49 h_49; refine normL_ (a' := ?_) ?_ ?_; rotate_left
            · simp only [Act.put, List.setIfInBounds_toArray, List.set_cons_zero, List.set_cons_succ]; rfl
            obtain ⟨p_3, ep_3⟩ : ∃ c_ : Bool, c_ = (p_2 || (c_3 && !i3)) := ⟨_, rfl⟩
            refine sym_ (N := 50) (v := .bool p_3) (true) rfl (by rfl) (by intro hg_; rw [ep_3]; subst h_49; cases p_2 <;> rfl) ?_
            intro u_50 h_50; refine normL_ (a' := ?_) ?_ ?_; rotate_left
            · simp only [Act.put, List.setIfInBounds_toArray, List.set_cons_zero, List.set_cons_succ]; rfl
            obtain rfl : u_50 = .bool p_3 := h_50
            refine sym_ (N := 51) (v := .bool p_3) (true) rfl (by rfl) (by intro hg_; first | rfl | (go_simp; done) | (go_simp; rfl)) ?_
            intro u_51 h_51; refine normL_ (a' := ?_) ?_ ?_; rotate_left
            · simp only [Act.put, List.setIfInBounds_toArray, List.set_cons_zero, List.set_cons_succ]; rfl
            obtain rfl : u_51 = .bool p_3 := h_51
            obtain ⟨c_4, ec_4⟩ : ∃ c_ : Bool, c_ = (decide (a0_4 > 0)) := ⟨_, rfl⟩
            refine sym_ (N := 52) (v := .pointer (some ⟨gb144, 4, none⟩)) (!p_3) rfl (by cases p_3 <;> rfl) (by intro hg_; first | rfl | (go_simp; done) | (go_simp; rfl)) ?_
            intro u_52 h_52; refine normL_ (a' := ?_) ?_ ?_; rotate_left
            · simp only [Act.put, List.setIfInBounds_toArray, List.set_cons_zero, List.set_cons_succ]; rfl
            refine sym_ (N := 53) (v := .int .u64 a0_4) (!p_3) rfl (by cases p_3 <;> rfl) (by intro hg_; obtain rfl : u_52 = .pointer (some ⟨gb144, 4, none⟩) := h_52.trans (by rw [hg_]; rfl); clear h_52; clear hg_; have k_ : Wf3.cell? ⟨gb144, 4, none⟩ = some (.int .u64 a0_4) := (blk_cell BK144.out 4).trans rfl; first | rfl | (go_simp; done) | (go_simp; rfl)) ?_
            intro u_53 h_53; refine normL_ (a' := ?_) ?_ ?_; rotate_left
            · simp only [Act.put, List.setIfInBounds_toArray, List.set_cons_zero, List.set_cons_succ]; rfl
            refine sym_ (N := 54) (v := .bool c_4) (!p_3) rfl (by cases p_3 <;> rfl) (by intro hg_; obtain rfl : u_53 = .int .u64 a0_4 := h_53.trans (by rw [hg_]; rfl); clear h_53; clear hg_; rw [ec_4]; first | rfl | (go_simp; done) | (go_simp; rfl)) ?_
            intro u_54 h_54; refine normL_ (a' := ?_) ?_ ?_; rotate_left
            · simp only [Act.put, List.setIfInBounds_toArray, List.set_cons_zero, List.set_cons_succ]; rfl
            refine sym_ (N := 55) (v := .bool c_4) (!p_3) rfl (by cases p_3 <;> rfl) (by intro hg_; obtain rfl : u_54 = .bool c_4 := h_54.trans (by rw [hg_]; rfl); clear h_54; clear hg_; first | rfl | (go_simp; done) | (go_simp; rfl)) ?_
            intro u_55 h_55; refine normL_ (a' := ?_) ?_ ?_; rotate_left
            · simp only [Act.put, List.setIfInBounds_toArray, List.set_cons_zero, List.set_cons_succ]; rfl
            refine sym_ (N := 56) (v := .string t149) (!p_3 && c_4) rfl (by subst h_55; cases p_3 <;> cases c_4 <;> rfl) (by intro hg_; first | rfl | (go_simp; done) | (go_simp; rfl)) ?_
            intro u_56 h_56; refine normL_ (a' := ?_) ?_ ?_; rotate_left
            · simp only [Act.put, List.setIfInBounds_toArray, List.set_cons_zero, List.set_cons_succ]; rfl
            refine symc_ (N := 57) (x := .bool i4) (!p_3 && c_4) (fun W_ => Aside0 (W_.heap[gb144]? = some (.cells #[.int .i64 a0_0, .int .u32 a0_1, .int .u32 a0_2, .int .u64 a0_3, .int .u64 a0_4, .int .u32 a0_5, .int .i64 a0_6, .bool a0_7, .int .i64 a0_8, (.slice A0_9 l0_9.length c0_9), (.slice A0_10 l0_10.length c0_10)] 26 (0, 0))) ∧ Aside0 (W_.heap[gb148]? = some (.cells #[.int .i64 a1, .int .u32 a0_1, .int .u32 a0_2, .int .u64 a0_3, .int .u64 a0_4, .int .u32 a0_5, .int .i64 a0_6, .bool a0_7, .int .i64 a0_8, (.slice A0_9 l0_9.length c0_9), (.slice A0_10 l0_10.length c0_10)] 26 (0, 0))) ∧ Aside0 (Below w.heap.size w W_)) rfl (by subst h_55; cases p_3 <;> cases c_4 <;> rfl) (fun hg_ hw_ hK_ => ?_) ⟨BK144, BK148, HB⟩ ?_
            · obtain rfl : u_56 = .string t149 := h_56.trans (by rw [hg_]; rfl)
              refine gate_guard hw_ ?_
              (with_reducible refine gate_callee (f := 26) rfl ?_); refine goesL_ (some 57) rfl rfl Try.func26 (by kernel_rfl) rfl #[.string t149, .int .u8 84] rfl (by (try simp only [List.map_toArray, List.map_cons, List.map_nil]); first | done | rfl) ?_; (with_reducible refine (drayagelaw05_in.calls kj2 t149 84 i4 _ I4.out).mono ?_); rintro e w' ⟨rfl, ⟨nd, rfl⟩⟩; refine ⟨_, rfl, ?_⟩
              exact hK_ _ ⟨⟨by (with_reducible repeat (first | apply bd1 | apply bd2 | apply bd3)); exact BK144.out⟩, ⟨by (with_reducible repeat (first | apply bd1 | apply bd2 | apply bd3)); exact BK148.out⟩, ⟨(by repeat (first | (with_reducible first | exact HB.out | apply below_alloc | apply pw_below_drewN | apply below_drew1 | refine below_set ?_ GE144.out | refine below_set ?_ GE148.out) | exact HB.out))⟩⟩
            clear BK144 BK148 HB
            rintro u_57 Wf4 h_57 ⟨BK144, BK148, HB⟩; refine normL_ (a' := ?_) ?_ ?_; rotate_left
            · simp only [Act.put, List.setIfInBounds_toArray, List.set_cons_zero, List.set_cons_succ]; rfl
            refine sym_ (N := 58) (v := .bool (!i4)) (!p_3 && c_4) rfl (by subst h_55; cases p_3 <;> cases c_4 <;> rfl) (by intro hg_; obtain rfl : u_57 = .bool i4 := h_57.trans (by rw [hg_]; rfl); first | rfl | (go_simp; done) | (go_simp; rfl)) ?_
            intro u_58 h_58; refine normL_ (a' := ?_) ?_ ?_; rotate_left
            · simp only [Act.put, List.setIfInBounds_toArray, List.set_cons_zero, List.set_cons_succ]; rfl
            refine sym_ (N := 59) (v := .bool (c_4 && !i4)) (!p_3) rfl (by cases p_3 <;> rfl) (by intro hg_; subst h_58; subst h_55; cases p_3 <;> cases c_4 <;> first | rfl | exact absurd hg_ (by decide)) ?_
            intro u_59 h_59; refine normL_ (a' := ?_) ?_ ?_; rotate_left
            · simp only [Act.put, List.setIfInBounds_toArray, List.set_cons_zero, List.set_cons_succ]; rfl
            obtain ⟨p_4, ep_4⟩ : ∃ c_ : Bool, c_ = (p_3 || (c_4 && !i4)) := ⟨_, rfl⟩
            refine sym_ (N := 60) (v := .bool p_4) (true) rfl (by rfl) (by intro hg_; rw [ep_4]; subst h_59; cases p_3 <;> rfl) ?_
            intro u_60 h_60; refine normL_ (a' := ?_) ?_ ?_; rotate_left
            · simp only [Act.put, List.setIfInBounds_toArray, List.set_cons_zero, List.set_cons_succ]; rfl
            obtain rfl : u_60 = .bool p_4 := h_60
            refine sym_ (N := 61) (v := .bool p_4) (true) rfl (by rfl) (by intro hg_; first | rfl | (go_simp; done) | (go_simp; rfl)) ?_
            intro u_61 h_61; refine normL_ (a' := ?_) ?_ ?_; rotate_left
            · simp only [Act.put, List.setIfInBounds_toArray, List.set_cons_zero, List.set_cons_succ]; rfl
            obtain rfl : u_61 = .bool p_4 := h_61
            obtain ⟨c_5, ec_5⟩ : ∃ c_ : Bool, c_ = (decide (a0_5 > 0)) := ⟨_, rfl⟩
            refine sym_ (N := 62) (v := .pointer (some ⟨gb144, 5, none⟩)) (!p_4) rfl (by cases p_4 <;> rfl) (by intro hg_; first | rfl | (go_simp; done) | (go_simp; rfl)) ?_
            intro u_62 h_62; refine normL_ (a' := ?_) ?_ ?_; rotate_left
            · simp only [Act.put, List.setIfInBounds_toArray, List.set_cons_zero, List.set_cons_succ]; rfl
            refine sym_ (N := 63) (v := .int .u32 a0_5) (!p_4) rfl (by cases p_4 <;> rfl) (by intro hg_; obtain rfl : u_62 = .pointer (some ⟨gb144, 5, none⟩) := h_62.trans (by rw [hg_]; rfl); clear h_62; clear hg_; have k_ : Wf4.cell? ⟨gb144, 5, none⟩ = some (.int .u32 a0_5) := (blk_cell BK144.out 5).trans rfl; first | rfl | (go_simp; done) | (go_simp; rfl)) ?_
            intro u_63 h_63; refine normL_ (a' := ?_) ?_ ?_; rotate_left
            · simp only [Act.put, List.setIfInBounds_toArray, List.set_cons_zero, List.set_cons_succ]; rfl
            refine sym_ (N := 64) (v := .bool c_5) (!p_4) rfl (by cases p_4 <;> rfl) (by intro hg_; obtain rfl : u_63 = .int .u32 a0_5 := h_63.trans (by rw [hg_]; rfl); clear h_63; clear hg_; rw [ec_5]; first | rfl | (go_simp; done) | (go_simp; rfl)) ?_
            intro u_64 h_64; refine normL_ (a' := ?_) ?_ ?_; rotate_left
            · simp only [Act.put, List.setIfInBounds_toArray, List.set_cons_zero, List.set_cons_succ]; rfl
            refine sym_ (N := 65) (v := .bool c_5) (!p_4) rfl (by cases p_4 <;> rfl) (by intro hg_; obtain rfl : u_64 = .bool c_5 := h_64.trans (by rw [hg_]; rfl); clear h_64; clear hg_; first | rfl | (go_simp; done) | (go_simp; rfl)) ?_
            intro u_65 h_65; refine normL_ (a' := ?_) ?_ ?_; rotate_left
            · simp only [Act.put, List.setIfInBounds_toArray, List.set_cons_zero, List.set_cons_succ]; rfl
            refine sym_ (N := 66) (v := .string t149) (!p_4 && c_5) rfl (by subst h_65; cases p_4 <;> cases c_5 <;> rfl) (by intro hg_; first | rfl | (go_simp; done) | (go_simp; rfl)) ?_
            intro u_66 h_66; refine normL_ (a' := ?_) ?_ ?_; rotate_left
            · simp only [Act.put, List.setIfInBounds_toArray, List.set_cons_zero, List.set_cons_succ]; rfl
            refine symc_ (N := 67) (x := .bool i5) (!p_4 && c_5) (fun W_ => Aside0 (W_.heap[gb144]? = some (.cells #[.int .i64 a0_0, .int .u32 a0_1, .int .u32 a0_2, .int .u64 a0_3, .int .u64 a0_4, .int .u32 a0_5, .int .i64 a0_6, .bool a0_7, .int .i64 a0_8, (.slice A0_9 l0_9.length c0_9), (.slice A0_10 l0_10.length c0_10)] 26 (0, 0))) ∧ Aside0 (W_.heap[gb148]? = some (.cells #[.int .i64 a1, .int .u32 a0_1, .int .u32 a0_2, .int .u64 a0_3, .int .u64 a0_4, .int .u32 a0_5, .int .i64 a0_6, .bool a0_7, .int .i64 a0_8, (.slice A0_9 l0_9.length c0_9), (.slice A0_10 l0_10.length c0_10)] 26 (0, 0))) ∧ Aside0 (Below w.heap.size w W_)) rfl (by subst h_65; cases p_4 <;> cases c_5 <;> rfl) (fun hg_ hw_ hK_ => ?_) ⟨BK144, BK148, HB⟩ ?_
            · obtain rfl : u_66 = .string t149 := h_66.trans (by rw [hg_]; rfl)
              refine gate_guard hw_ ?_
              (with_reducible refine gate_callee (f := 26) rfl ?_); refine goesL_ (some 67) rfl rfl Try.func26 (by kernel_rfl) rfl #[.string t149, .int .u8 79] rfl (by (try simp only [List.map_toArray, List.map_cons, List.map_nil]); first | done | rfl) ?_; (with_reducible refine (drayagelaw05_in.calls kj2 t149 79 i5 _ I5.out).mono ?_); rintro e w' ⟨rfl, ⟨nd, rfl⟩⟩; refine ⟨_, rfl, ?_⟩
              exact hK_ _ ⟨⟨by (with_reducible repeat (first | apply bd1 | apply bd2 | apply bd3)); exact BK144.out⟩, ⟨by (with_reducible repeat (first | apply bd1 | apply bd2 | apply bd3)); exact BK148.out⟩, ⟨(by repeat (first | (with_reducible first | exact HB.out | apply below_alloc | apply pw_below_drewN | apply below_drew1 | refine below_set ?_ GE144.out | refine below_set ?_ GE148.out) | exact HB.out))⟩⟩
            clear BK144 BK148 HB
            rintro u_67 Wf5 h_67 ⟨BK144, BK148, HB⟩; refine normL_ (a' := ?_) ?_ ?_; rotate_left
            · simp only [Act.put, List.setIfInBounds_toArray, List.set_cons_zero, List.set_cons_succ]; rfl
            refine sym_ (N := 68) (v := .bool (!i5)) (!p_4 && c_5) rfl (by subst h_65; cases p_4 <;> cases c_5 <;> rfl) (by intro hg_; obtain rfl : u_67 = .bool i5 := h_67.trans (by rw [hg_]; rfl); first | rfl | (go_simp; done) | (go_simp; rfl)) ?_
            intro u_68 h_68; refine normL_ (a' := ?_) ?_ ?_; rotate_left
            · simp only [Act.put, List.setIfInBounds_toArray, List.set_cons_zero, List.set_cons_succ]; rfl
            refine sym_ (N := 69) (v := .bool (c_5 && !i5)) (!p_4) rfl (by cases p_4 <;> rfl) (by intro hg_; subst h_68; subst h_65; cases p_4 <;> cases c_5 <;> first | rfl | exact absurd hg_ (by decide)) ?_
            intro u_69 h_69; refine normL_ (a' := ?_) ?_ ?_; rotate_left
            · simp only [Act.put, List.setIfInBounds_toArray, List.set_cons_zero, List.set_cons_succ]; rfl
            obtain ⟨p_5, ep_5⟩ : ∃ c_ : Bool, c_ = (p_4 || (c_5 && !i5)) := ⟨_, rfl⟩
            refine sym_ (N := 70) (v := .bool p_5) (true) rfl (by rfl) (by intro hg_; rw [ep_5]; subst h_69; cases p_4 <;> rfl) ?_
            intro u_70 h_70; refine normL_ (a' := ?_) ?_ ?_; rotate_left
            · simp only [Act.put, List.setIfInBounds_toArray, List.set_cons_zero, List.set_cons_succ]; rfl
            obtain rfl : u_70 = .bool p_5 := h_70
            refine sym_ (N := 71) (v := .bool p_5) (true) rfl (by rfl) (by intro hg_; first | rfl | (go_simp; done) | (go_simp; rfl)) ?_
            intro u_71 h_71; refine normL_ (a' := ?_) ?_ ?_; rotate_left
            · simp only [Act.put, List.setIfInBounds_toArray, List.set_cons_zero, List.set_cons_succ]; rfl
            obtain rfl : u_71 = .bool p_5 := h_71
            obtain ⟨c_6, ec_6⟩ : ∃ c_ : Bool, c_ = (decide (a0_6 > 0)) := ⟨_, rfl⟩
            refine sym_ (N := 72) (v := .pointer (some ⟨gb144, 6, none⟩)) (!p_5) rfl (by cases p_5 <;> rfl) (by intro hg_; first | rfl | (go_simp; done) | (go_simp; rfl)) ?_
            intro u_72 h_72; refine normL_ (a' := ?_) ?_ ?_; rotate_left
            · simp only [Act.put, List.setIfInBounds_toArray, List.set_cons_zero, List.set_cons_succ]; rfl
            refine sym_ (N := 73) (v := .int .i64 a0_6) (!p_5) rfl (by cases p_5 <;> rfl) (by intro hg_; obtain rfl : u_72 = .pointer (some ⟨gb144, 6, none⟩) := h_72.trans (by rw [hg_]; rfl); clear h_72; clear hg_; have k_ : Wf5.cell? ⟨gb144, 6, none⟩ = some (.int .i64 a0_6) := (blk_cell BK144.out 6).trans rfl; first | rfl | (go_simp; done) | (go_simp; rfl)) ?_
            intro u_73 h_73; refine normL_ (a' := ?_) ?_ ?_; rotate_left
            · simp only [Act.put, List.setIfInBounds_toArray, List.set_cons_zero, List.set_cons_succ]; rfl
            refine sym_ (N := 74) (v := .bool c_6) (!p_5) rfl (by cases p_5 <;> rfl) (by intro hg_; obtain rfl : u_73 = .int .i64 a0_6 := h_73.trans (by rw [hg_]; rfl); clear h_73; clear hg_; rw [ec_6]; first | rfl | (go_simp; done) | (go_simp; rfl)) ?_
            intro u_74 h_74; refine normL_ (a' := ?_) ?_ ?_; rotate_left
            · simp only [Act.put, List.setIfInBounds_toArray, List.set_cons_zero, List.set_cons_succ]; rfl
            refine sym_ (N := 75) (v := .bool c_6) (!p_5) rfl (by cases p_5 <;> rfl) (by intro hg_; obtain rfl : u_74 = .bool c_6 := h_74.trans (by rw [hg_]; rfl); clear h_74; clear hg_; first | rfl | (go_simp; done) | (go_simp; rfl)) ?_
            intro u_75 h_75; refine normL_ (a' := ?_) ?_ ?_; rotate_left
            · simp only [Act.put, List.setIfInBounds_toArray, List.set_cons_zero, List.set_cons_succ]; rfl
            refine sym_ (N := 76) (v := .string t149) (!p_5 && c_6) rfl (by subst h_75; cases p_5 <;> cases c_6 <;> rfl) (by intro hg_; first | rfl | (go_simp; done) | (go_simp; rfl)) ?_
            intro u_76 h_76; refine normL_ (a' := ?_) ?_ ?_; rotate_left
            · simp only [Act.put, List.setIfInBounds_toArray, List.set_cons_zero, List.set_cons_succ]; rfl
            refine symc_ (N := 77) (x := .bool i6) (!p_5 && c_6) (fun W_ => Aside0 (W_.heap[gb144]? = some (.cells #[.int .i64 a0_0, .int .u32 a0_1, .int .u32 a0_2, .int .u64 a0_3, .int .u64 a0_4, .int .u32 a0_5, .int .i64 a0_6, .bool a0_7, .int .i64 a0_8, (.slice A0_9 l0_9.length c0_9), (.slice A0_10 l0_10.length c0_10)] 26 (0, 0))) ∧ Aside0 (W_.heap[gb148]? = some (.cells #[.int .i64 a1, .int .u32 a0_1, .int .u32 a0_2, .int .u64 a0_3, .int .u64 a0_4, .int .u32 a0_5, .int .i64 a0_6, .bool a0_7, .int .i64 a0_8, (.slice A0_9 l0_9.length c0_9), (.slice A0_10 l0_10.length c0_10)] 26 (0, 0))) ∧ Aside0 (Below w.heap.size w W_)) rfl (by subst h_75; cases p_5 <;> cases c_6 <;> rfl) (fun hg_ hw_ hK_ => ?_) ⟨BK144, BK148, HB⟩ ?_
            · obtain rfl : u_76 = .string t149 := h_76.trans (by rw [hg_]; rfl)
              refine gate_guard hw_ ?_
              (with_reducible refine gate_callee (f := 26) rfl ?_); refine goesL_ (some 77) rfl rfl Try.func26 (by kernel_rfl) rfl #[.string t149, .int .u8 83] rfl (by (try simp only [List.map_toArray, List.map_cons, List.map_nil]); first | done | rfl) ?_; (with_reducible refine (drayagelaw05_in.calls kj2 t149 83 i6 _ I6.out).mono ?_); rintro e w' ⟨rfl, ⟨nd, rfl⟩⟩; refine ⟨_, rfl, ?_⟩
              exact hK_ _ ⟨⟨by (with_reducible repeat (first | apply bd1 | apply bd2 | apply bd3)); exact BK144.out⟩, ⟨by (with_reducible repeat (first | apply bd1 | apply bd2 | apply bd3)); exact BK148.out⟩, ⟨(by repeat (first | (with_reducible first | exact HB.out | apply below_alloc | apply pw_below_drewN | apply below_drew1 | refine below_set ?_ GE144.out | refine below_set ?_ GE148.out) | exact HB.out))⟩⟩
            clear BK144 BK148 HB
            rintro u_77 Wf6 h_77 ⟨BK144, BK148, HB⟩; refine normL_ (a' := ?_) ?_ ?_; rotate_left
            · simp only [Act.put, List.setIfInBounds_toArray, List.set_cons_zero, List.set_cons_succ]; rfl
            refine sym_ (N := 78) (v := .bool (!i6)) (!p_5 && c_6) rfl (by subst h_75; cases p_5 <;> cases c_6 <;> rfl) (by intro hg_; obtain rfl : u_77 = .bool i6 := h_77.trans (by rw [hg_]; rfl); first | rfl | (go_simp; done) | (go_simp; rfl)) ?_
            intro u_78 h_78; refine normL_ (a' := ?_) ?_ ?_; rotate_left
            · simp only [Act.put, List.setIfInBounds_toArray, List.set_cons_zero, List.set_cons_succ]; rfl
            refine sym_ (N := 79) (v := .bool (c_6 && !i6)) (!p_5) rfl (by cases p_5 <;> rfl) (by intro hg_; subst h_78; subst h_75; cases p_5 <;> cases c_6 <;> first | rfl | exact absurd hg_ (by decide)) ?_
            intro u_79 h_79; refine normL_ (a' := ?_) ?_ ?_; rotate_left
            · simp only [Act.put, List.setIfInBounds_toArray, List.set_cons_zero, List.set_cons_succ]; rfl
            obtain ⟨p_6, ep_6⟩ : ∃ c_ : Bool, c_ = (p_5 || (c_6 && !i6)) := ⟨_, rfl⟩
            refine sym_ (N := 80) (v := .bool p_6) (true) rfl (by rfl) (by intro hg_; rw [ep_6]; subst h_79; cases p_5 <;> rfl) ?_
            intro u_80 h_80; refine normL_ (a' := ?_) ?_ ?_; rotate_left
            · simp only [Act.put, List.setIfInBounds_toArray, List.set_cons_zero, List.set_cons_succ]; rfl
            obtain rfl : u_80 = .bool p_6 := h_80
            refine sym_ (N := 81) (v := .bool p_6) (true) rfl (by rfl) (by intro hg_; first | rfl | (go_simp; done) | (go_simp; rfl)) ?_
            intro u_81 h_81; refine normL_ (a' := ?_) ?_ ?_; rotate_left
            · simp only [Act.put, List.setIfInBounds_toArray, List.set_cons_zero, List.set_cons_succ]; rfl
            obtain rfl : u_81 = .bool p_6 := h_81
            obtain ⟨c_7, ec_7⟩ : ∃ c_ : Bool, c_ = (a0_7) := ⟨_, rfl⟩
            refine sym_ (N := 82) (v := .pointer (some ⟨gb144, 7, none⟩)) (!p_6) rfl (by cases p_6 <;> rfl) (by intro hg_; first | rfl | (go_simp; done) | (go_simp; rfl)) ?_
            intro u_82 h_82; refine normL_ (a' := ?_) ?_ ?_; rotate_left
            · simp only [Act.put, List.setIfInBounds_toArray, List.set_cons_zero, List.set_cons_succ]; rfl
            refine sym_ (N := 83) (v := .bool a0_7) (!p_6) rfl (by cases p_6 <;> rfl) (by intro hg_; obtain rfl : u_82 = .pointer (some ⟨gb144, 7, none⟩) := h_82.trans (by rw [hg_]; rfl); clear h_82; clear hg_; have k_ : Wf6.cell? ⟨gb144, 7, none⟩ = some (.bool a0_7) := (blk_cell BK144.out 7).trans rfl; first | rfl | (go_simp; done) | (go_simp; rfl)) ?_
            intro u_83 h_83; refine normL_ (a' := ?_) ?_ ?_; rotate_left
            · simp only [Act.put, List.setIfInBounds_toArray, List.set_cons_zero, List.set_cons_succ]; rfl
            refine sym_ (N := 84) (v := .bool c_7) (!p_6) rfl (by cases p_6 <;> rfl) (by intro hg_; obtain rfl : u_83 = .bool a0_7 := h_83.trans (by rw [hg_]; rfl); clear h_83; clear hg_; rw [ec_7]; first | rfl | (go_simp; done) | (go_simp; rfl)) ?_
            intro u_84 h_84; refine normL_ (a' := ?_) ?_ ?_; rotate_left
            · simp only [Act.put, List.setIfInBounds_toArray, List.set_cons_zero, List.set_cons_succ]; rfl
            refine sym_ (N := 85) (v := .string t149) (!p_6 && c_7) rfl (by subst h_84; cases p_6 <;> cases c_7 <;> rfl) (by intro hg_; first | rfl | (go_simp; done) | (go_simp; rfl)) ?_
            intro u_85 h_85; refine normL_ (a' := ?_) ?_ ?_; rotate_left
            · simp only [Act.put, List.setIfInBounds_toArray, List.set_cons_zero, List.set_cons_succ]; rfl
            refine symc_ (N := 86) (x := .bool i7) (!p_6 && c_7) (fun W_ => Aside0 (W_.heap[gb144]? = some (.cells #[.int .i64 a0_0, .int .u32 a0_1, .int .u32 a0_2, .int .u64 a0_3, .int .u64 a0_4, .int .u32 a0_5, .int .i64 a0_6, .bool a0_7, .int .i64 a0_8, (.slice A0_9 l0_9.length c0_9), (.slice A0_10 l0_10.length c0_10)] 26 (0, 0))) ∧ Aside0 (W_.heap[gb148]? = some (.cells #[.int .i64 a1, .int .u32 a0_1, .int .u32 a0_2, .int .u64 a0_3, .int .u64 a0_4, .int .u32 a0_5, .int .i64 a0_6, .bool a0_7, .int .i64 a0_8, (.slice A0_9 l0_9.length c0_9), (.slice A0_10 l0_10.length c0_10)] 26 (0, 0))) ∧ Aside0 (Below w.heap.size w W_)) rfl (by subst h_84; cases p_6 <;> cases c_7 <;> rfl) (fun hg_ hw_ hK_ => ?_) ⟨BK144, BK148, HB⟩ ?_
            · obtain rfl : u_85 = .string t149 := h_85.trans (by rw [hg_]; rfl)
              refine gate_guard hw_ ?_
              (with_reducible refine gate_callee (f := 26) rfl ?_); refine goesL_ (some 86) rfl rfl Try.func26 (by kernel_rfl) rfl #[.string t149, .int .u8 85] rfl (by (try simp only [List.map_toArray, List.map_cons, List.map_nil]); first | done | rfl) ?_; (with_reducible refine (drayagelaw05_in.calls kj2 t149 85 i7 _ I7.out).mono ?_); rintro e w' ⟨rfl, ⟨nd, rfl⟩⟩; refine ⟨_, rfl, ?_⟩
              exact hK_ _ ⟨⟨by (with_reducible repeat (first | apply bd1 | apply bd2 | apply bd3)); exact BK144.out⟩, ⟨by (with_reducible repeat (first | apply bd1 | apply bd2 | apply bd3)); exact BK148.out⟩, ⟨(by repeat (first | (with_reducible first | exact HB.out | apply below_alloc | apply pw_below_drewN | apply below_drew1 | refine below_set ?_ GE144.out | refine below_set ?_ GE148.out) | exact HB.out))⟩⟩
            clear BK144 BK148 HB
            rintro u_86 Wf7 h_86 ⟨BK144, BK148, HB⟩; refine normL_ (a' := ?_) ?_ ?_; rotate_left
            · simp only [Act.put, List.setIfInBounds_toArray, List.set_cons_zero, List.set_cons_succ]; rfl
            refine sym_ (N := 87) (v := .bool (!i7)) (!p_6 && c_7) rfl (by subst h_84; cases p_6 <;> cases c_7 <;> rfl) (by intro hg_; obtain rfl : u_86 = .bool i7 := h_86.trans (by rw [hg_]; rfl); first | rfl | (go_simp; done) | (go_simp; rfl)) ?_
            intro u_87 h_87; refine normL_ (a' := ?_) ?_ ?_; rotate_left
            · simp only [Act.put, List.setIfInBounds_toArray, List.set_cons_zero, List.set_cons_succ]; rfl
            refine sym_ (N := 88) (v := .bool (c_7 && !i7)) (!p_6) rfl (by cases p_6 <;> rfl) (by intro hg_; subst h_87; subst h_84; cases p_6 <;> cases c_7 <;> first | rfl | exact absurd hg_ (by decide)) ?_
            intro u_88 h_88; refine normL_ (a' := ?_) ?_ ?_; rotate_left
            · simp only [Act.put, List.setIfInBounds_toArray, List.set_cons_zero, List.set_cons_succ]; rfl
            obtain ⟨p_7, ep_7⟩ : ∃ c_ : Bool, c_ = (p_6 || (c_7 && !i7)) := ⟨_, rfl⟩
            refine sym_ (N := 89) (v := .bool p_7) (true) rfl (by rfl) (by intro hg_; rw [ep_7]; subst h_88; cases p_6 <;> rfl) ?_
            intro u_89 h_89; refine normL_ (a' := ?_) ?_ ?_; rotate_left
            · simp only [Act.put, List.setIfInBounds_toArray, List.set_cons_zero, List.set_cons_succ]; rfl
            obtain rfl : u_89 = .bool p_7 := h_89
            refine sym_ (N := 90) (v := .bool p_7) (true) rfl (by rfl) (by intro hg_; first | rfl | (go_simp; done) | (go_simp; rfl)) ?_
            intro u_90 h_90; refine normL_ (a' := ?_) ?_ ?_; rotate_left
            · simp only [Act.put, List.setIfInBounds_toArray, List.set_cons_zero, List.set_cons_succ]; rfl
            obtain rfl : u_90 = .bool p_7 := h_90
            obtain ⟨c_8, ec_8⟩ : ∃ c_ : Bool, c_ = (decide (a0_8 > 0)) := ⟨_, rfl⟩
            refine sym_ (N := 91) (v := .pointer (some ⟨gb144, 8, none⟩)) (!p_7) rfl (by cases p_7 <;> rfl) (by intro hg_; first | rfl | (go_simp; done) | (go_simp; rfl)) ?_
            intro u_91 h_91; refine normL_ (a' := ?_) ?_ ?_; rotate_left
            · simp only [Act.put, List.setIfInBounds_toArray, List.set_cons_zero, List.set_cons_succ]; rfl
            refine sym_ (N := 92) (v := .int .i64 a0_8) (!p_7) rfl (by cases p_7 <;> rfl) (by intro hg_; obtain rfl : u_91 = .pointer (some ⟨gb144, 8, none⟩) := h_91.trans (by rw [hg_]; rfl); clear h_91; clear hg_; have k_ : Wf7.cell? ⟨gb144, 8, none⟩ = some (.int .i64 a0_8) := (blk_cell BK144.out 8).trans rfl; first | rfl | (go_simp; done) | (go_simp; rfl)) ?_
            intro u_92 h_92; refine normL_ (a' := ?_) ?_ ?_; rotate_left
            · simp only [Act.put, List.setIfInBounds_toArray, List.set_cons_zero, List.set_cons_succ]; rfl
            refine sym_ (N := 93) (v := .bool c_8) (!p_7) rfl (by cases p_7 <;> rfl) (by intro hg_; obtain rfl : u_92 = .int .i64 a0_8 := h_92.trans (by rw [hg_]; rfl); clear h_92; clear hg_; rw [ec_8]; first | rfl | (go_simp; done) | (go_simp; rfl)) ?_
            intro u_93 h_93; refine normL_ (a' := ?_) ?_ ?_; rotate_left
            · simp only [Act.put, List.setIfInBounds_toArray, List.set_cons_zero, List.set_cons_succ]; rfl
            refine sym_ (N := 94) (v := .bool c_8) (!p_7) rfl (by cases p_7 <;> rfl) (by intro hg_; obtain rfl : u_93 = .bool c_8 := h_93.trans (by rw [hg_]; rfl); clear h_93; clear hg_; first | rfl | (go_simp; done) | (go_simp; rfl)) ?_
            intro u_94 h_94; refine normL_ (a' := ?_) ?_ ?_; rotate_left
            · simp only [Act.put, List.setIfInBounds_toArray, List.set_cons_zero, List.set_cons_succ]; rfl
            refine sym_ (N := 95) (v := .string t149) (!p_7 && c_8) rfl (by subst h_94; cases p_7 <;> cases c_8 <;> rfl) (by intro hg_; first | rfl | (go_simp; done) | (go_simp; rfl)) ?_
            intro u_95 h_95; refine normL_ (a' := ?_) ?_ ?_; rotate_left
            · simp only [Act.put, List.setIfInBounds_toArray, List.set_cons_zero, List.set_cons_succ]; rfl
            refine symc_ (N := 96) (x := .bool i8) (!p_7 && c_8) (fun W_ => Aside0 (W_.heap[gb144]? = some (.cells #[.int .i64 a0_0, .int .u32 a0_1, .int .u32 a0_2, .int .u64 a0_3, .int .u64 a0_4, .int .u32 a0_5, .int .i64 a0_6, .bool a0_7, .int .i64 a0_8, (.slice A0_9 l0_9.length c0_9), (.slice A0_10 l0_10.length c0_10)] 26 (0, 0))) ∧ Aside0 (W_.heap[gb148]? = some (.cells #[.int .i64 a1, .int .u32 a0_1, .int .u32 a0_2, .int .u64 a0_3, .int .u64 a0_4, .int .u32 a0_5, .int .i64 a0_6, .bool a0_7, .int .i64 a0_8, (.slice A0_9 l0_9.length c0_9), (.slice A0_10 l0_10.length c0_10)] 26 (0, 0))) ∧ Aside0 (Below w.heap.size w W_)) rfl (by subst h_94; cases p_7 <;> cases c_8 <;> rfl) (fun hg_ hw_ hK_ => ?_) ⟨BK144, BK148, HB⟩ ?_
            · obtain rfl : u_95 = .string t149 := h_95.trans (by rw [hg_]; rfl)
              refine gate_guard hw_ ?_
              (with_reducible refine gate_callee (f := 26) rfl ?_); refine goesL_ (some 96) rfl rfl Try.func26 (by kernel_rfl) rfl #[.string t149, .int .u8 67] rfl (by (try simp only [List.map_toArray, List.map_cons, List.map_nil]); first | done | rfl) ?_; (with_reducible refine (drayagelaw05_in.calls kj2 t149 67 i8 _ I8.out).mono ?_); rintro e w' ⟨rfl, ⟨nd, rfl⟩⟩; refine ⟨_, rfl, ?_⟩
              exact hK_ _ ⟨⟨by (with_reducible repeat (first | apply bd1 | apply bd2 | apply bd3)); exact BK144.out⟩, ⟨by (with_reducible repeat (first | apply bd1 | apply bd2 | apply bd3)); exact BK148.out⟩, ⟨(by repeat (first | (with_reducible first | exact HB.out | apply below_alloc | apply pw_below_drewN | apply below_drew1 | refine below_set ?_ GE144.out | refine below_set ?_ GE148.out) | exact HB.out))⟩⟩
            clear BK144 BK148 HB
            rintro u_96 Wf8 h_96 ⟨BK144, BK148, HB⟩; refine normL_ (a' := ?_) ?_ ?_; rotate_left
            · simp only [Act.put, List.setIfInBounds_toArray, List.set_cons_zero, List.set_cons_succ]; rfl
            refine sym_ (N := 97) (v := .bool (!i8)) (!p_7 && c_8) rfl (by subst h_94; cases p_7 <;> cases c_8 <;> rfl) (by intro hg_; obtain rfl : u_96 = .bool i8 := h_96.trans (by rw [hg_]; rfl); first | rfl | (go_simp; done) | (go_simp; rfl)) ?_
            intro u_97 h_97; refine normL_ (a' := ?_) ?_ ?_; rotate_left
            · simp only [Act.put, List.setIfInBounds_toArray, List.set_cons_zero, List.set_cons_succ]; rfl
            refine sym_ (N := 98) (v := .bool (c_8 && !i8)) (!p_7) rfl (by cases p_7 <;> rfl) (by intro hg_; subst h_97; subst h_94; cases p_7 <;> cases c_8 <;> first | rfl | exact absurd hg_ (by decide)) ?_
            intro u_98 h_98; refine normL_ (a' := ?_) ?_ ?_; rotate_left
            · simp only [Act.put, List.setIfInBounds_toArray, List.set_cons_zero, List.set_cons_succ]; rfl
            obtain ⟨p_8, ep_8⟩ : ∃ c_ : Bool, c_ = (p_7 || (c_8 && !i8)) := ⟨_, rfl⟩
            refine sym_ (N := 99) (v := .bool p_8) (true) rfl (by rfl) (by intro hg_; rw [ep_8]; subst h_98; cases p_7 <;> rfl) ?_
            intro u_99 h_99; refine normL_ (a' := ?_) ?_ ?_; rotate_left
            · simp only [Act.put, List.setIfInBounds_toArray, List.set_cons_zero, List.set_cons_succ]; rfl
            obtain rfl : u_99 = .bool p_8 := h_99
            refine sym_ (N := 100) (v := .bool p_8) (true) rfl (by rfl) (by intro hg_; first | rfl | (go_simp; done) | (go_simp; rfl)) ?_
            intro u_100 h_100; refine normL_ (a' := ?_) ?_ ?_; rotate_left
            · simp only [Act.put, List.setIfInBounds_toArray, List.set_cons_zero, List.set_cons_succ]; rfl
            obtain rfl : u_100 = .bool p_8 := h_100
            obtain ⟨c_9, ec_9⟩ : ∃ c_ : Bool, c_ = (decide ((l0_9.length : Int) > 0)) := ⟨_, rfl⟩
            refine sym_ (N := 101) (v := .pointer (some ⟨gb144, 9, none⟩)) (!p_8) rfl (by cases p_8 <;> rfl) (by intro hg_; first | rfl | (go_simp; done) | (go_simp; rfl)) ?_
            intro u_101 h_101; refine normL_ (a' := ?_) ?_ ?_; rotate_left
            · simp only [Act.put, List.setIfInBounds_toArray, List.set_cons_zero, List.set_cons_succ]; rfl
            refine sym_ (N := 102) (v := .slice A0_9 l0_9.length c0_9) (!p_8) rfl (by cases p_8 <;> rfl) (by intro hg_; obtain rfl : u_101 = .pointer (some ⟨gb144, 9, none⟩) := h_101.trans (by rw [hg_]; rfl); clear h_101; clear hg_; have k_ : Wf8.cell? ⟨gb144, 9, none⟩ = some (.slice A0_9 l0_9.length c0_9) := (blk_cell BK144.out 9).trans rfl; first | rfl | (go_simp; done) | (go_simp; rfl)) ?_
            intro u_102 h_102; refine normL_ (a' := ?_) ?_ ?_; rotate_left
            · simp only [Act.put, List.setIfInBounds_toArray, List.set_cons_zero, List.set_cons_succ]; rfl
            refine sym_ (N := 103) (v := .int .i64 (l0_9.length : Int)) (!p_8) rfl (by cases p_8 <;> rfl) (by intro hg_; obtain rfl : u_102 = .slice A0_9 l0_9.length c0_9 := h_102.trans (by rw [hg_]; rfl); clear h_102; clear hg_; first | rfl | (go_simp; done) | (go_simp; rfl)) ?_
            intro u_103 h_103; refine normL_ (a' := ?_) ?_ ?_; rotate_left
            · simp only [Act.put, List.setIfInBounds_toArray, List.set_cons_zero, List.set_cons_succ]; rfl
            refine sym_ (N := 104) (v := .bool c_9) (!p_8) rfl (by cases p_8 <;> rfl) (by intro hg_; obtain rfl : u_103 = .int .i64 (l0_9.length : Int) := h_103.trans (by rw [hg_]; rfl); clear h_103; clear hg_; rw [ec_9]; first | rfl | (go_simp; done) | (go_simp; rfl)) ?_
            intro u_104 h_104; refine normL_ (a' := ?_) ?_ ?_; rotate_left
            · simp only [Act.put, List.setIfInBounds_toArray, List.set_cons_zero, List.set_cons_succ]; rfl
            refine sym_ (N := 105) (v := .bool c_9) (!p_8) rfl (by cases p_8 <;> rfl) (by intro hg_; obtain rfl : u_104 = .bool c_9 := h_104.trans (by rw [hg_]; rfl); clear h_104; clear hg_; first | rfl | (go_simp; done) | (go_simp; rfl)) ?_
            intro u_105 h_105; refine normL_ (a' := ?_) ?_ ?_; rotate_left
            · simp only [Act.put, List.setIfInBounds_toArray, List.set_cons_zero, List.set_cons_succ]; rfl
            refine sym_ (N := 106) (v := .string t149) (!p_8 && c_9) rfl (by subst h_105; cases p_8 <;> cases c_9 <;> rfl) (by intro hg_; first | rfl | (go_simp; done) | (go_simp; rfl)) ?_
            intro u_106 h_106; refine normL_ (a' := ?_) ?_ ?_; rotate_left
            · simp only [Act.put, List.setIfInBounds_toArray, List.set_cons_zero, List.set_cons_succ]; rfl
            refine symc_ (N := 107) (x := .bool i9) (!p_8 && c_9) (fun W_ => Aside0 (W_.heap[gb144]? = some (.cells #[.int .i64 a0_0, .int .u32 a0_1, .int .u32 a0_2, .int .u64 a0_3, .int .u64 a0_4, .int .u32 a0_5, .int .i64 a0_6, .bool a0_7, .int .i64 a0_8, (.slice A0_9 l0_9.length c0_9), (.slice A0_10 l0_10.length c0_10)] 26 (0, 0))) ∧ Aside0 (W_.heap[gb148]? = some (.cells #[.int .i64 a1, .int .u32 a0_1, .int .u32 a0_2, .int .u64 a0_3, .int .u64 a0_4, .int .u32 a0_5, .int .i64 a0_6, .bool a0_7, .int .i64 a0_8, (.slice A0_9 l0_9.length c0_9), (.slice A0_10 l0_10.length c0_10)] 26 (0, 0))) ∧ Aside0 (Below w.heap.size w W_)) rfl (by subst h_105; cases p_8 <;> cases c_9 <;> rfl) (fun hg_ hw_ hK_ => ?_) ⟨BK144, BK148, HB⟩ ?_
            · obtain rfl : u_106 = .string t149 := h_106.trans (by rw [hg_]; rfl)
              refine gate_guard hw_ ?_
              (with_reducible refine gate_callee (f := 26) rfl ?_); refine goesL_ (some 107) rfl rfl Try.func26 (by kernel_rfl) rfl #[.string t149, .int .u8 75] rfl (by (try simp only [List.map_toArray, List.map_cons, List.map_nil]); first | done | rfl) ?_; (with_reducible refine (drayagelaw05_in.calls kj2 t149 75 i9 _ I9.out).mono ?_); rintro e w' ⟨rfl, ⟨nd, rfl⟩⟩; refine ⟨_, rfl, ?_⟩
              exact hK_ _ ⟨⟨by (with_reducible repeat (first | apply bd1 | apply bd2 | apply bd3)); exact BK144.out⟩, ⟨by (with_reducible repeat (first | apply bd1 | apply bd2 | apply bd3)); exact BK148.out⟩, ⟨(by repeat (first | (with_reducible first | exact HB.out | apply below_alloc | apply pw_below_drewN | apply below_drew1 | refine below_set ?_ GE144.out | refine below_set ?_ GE148.out) | exact HB.out))⟩⟩
            clear BK144 BK148 HB
            rintro u_107 Wf9 h_107 ⟨BK144, BK148, HB⟩; refine normL_ (a' := ?_) ?_ ?_; rotate_left
            · simp only [Act.put, List.setIfInBounds_toArray, List.set_cons_zero, List.set_cons_succ]; rfl
            refine sym_ (N := 108) (v := .bool (!i9)) (!p_8 && c_9) rfl (by subst h_105; cases p_8 <;> cases c_9 <;> rfl) (by intro hg_; obtain rfl : u_107 = .bool i9 := h_107.trans (by rw [hg_]; rfl); first | rfl | (go_simp; done) | (go_simp; rfl)) ?_
            intro u_108 h_108; refine normL_ (a' := ?_) ?_ ?_; rotate_left
            · simp only [Act.put, List.setIfInBounds_toArray, List.set_cons_zero, List.set_cons_succ]; rfl
            refine sym_ (N := 109) (v := .bool (c_9 && !i9)) (!p_8) rfl (by cases p_8 <;> rfl) (by intro hg_; subst h_108; subst h_105; cases p_8 <;> cases c_9 <;> first | rfl | exact absurd hg_ (by decide)) ?_
            intro u_109 h_109; refine normL_ (a' := ?_) ?_ ?_; rotate_left
            · simp only [Act.put, List.setIfInBounds_toArray, List.set_cons_zero, List.set_cons_succ]; rfl
            obtain ⟨p_9, ep_9⟩ : ∃ c_ : Bool, c_ = (p_8 || (c_9 && !i9)) := ⟨_, rfl⟩
            refine sym_ (N := 110) (v := .bool p_9) (true) rfl (by rfl) (by intro hg_; rw [ep_9]; subst h_109; cases p_8 <;> rfl) ?_
            intro u_110 h_110; refine normL_ (a' := ?_) ?_ ?_; rotate_left
            · simp only [Act.put, List.setIfInBounds_toArray, List.set_cons_zero, List.set_cons_succ]; rfl
            obtain rfl : u_110 = .bool p_9 := h_110
            refine sym_ (N := 111) (v := .bool p_9) (true) rfl (by rfl) (by intro hg_; first | rfl | (go_simp; done) | (go_simp; rfl)) ?_
            intro u_111 h_111; refine normL_ (a' := ?_) ?_ ?_; rotate_left
            · simp only [Act.put, List.setIfInBounds_toArray, List.set_cons_zero, List.set_cons_succ]; rfl
            obtain rfl : u_111 = .bool p_9 := h_111
            obtain ⟨c_10, ec_10⟩ : ∃ c_ : Bool, c_ = (decide ((l0_10.length : Int) > 0)) := ⟨_, rfl⟩
            refine sym_ (N := 112) (v := .pointer (some ⟨gb144, 10, none⟩)) (!p_9) rfl (by cases p_9 <;> rfl) (by intro hg_; first | rfl | (go_simp; done) | (go_simp; rfl)) ?_
            intro u_112 h_112; refine normL_ (a' := ?_) ?_ ?_; rotate_left
            · simp only [Act.put, List.setIfInBounds_toArray, List.set_cons_zero, List.set_cons_succ]; rfl
            refine sym_ (N := 113) (v := .slice A0_10 l0_10.length c0_10) (!p_9) rfl (by cases p_9 <;> rfl) (by intro hg_; obtain rfl : u_112 = .pointer (some ⟨gb144, 10, none⟩) := h_112.trans (by rw [hg_]; rfl); clear h_112; clear hg_; have k_ : Wf9.cell? ⟨gb144, 10, none⟩ = some (.slice A0_10 l0_10.length c0_10) := (blk_cell BK144.out 10).trans rfl; first | rfl | (go_simp; done) | (go_simp; rfl)) ?_
            intro u_113 h_113; refine normL_ (a' := ?_) ?_ ?_; rotate_left
            · simp only [Act.put, List.setIfInBounds_toArray, List.set_cons_zero, List.set_cons_succ]; rfl
            refine sym_ (N := 114) (v := .int .i64 (l0_10.length : Int)) (!p_9) rfl (by cases p_9 <;> rfl) (by intro hg_; obtain rfl : u_113 = .slice A0_10 l0_10.length c0_10 := h_113.trans (by rw [hg_]; rfl); clear h_113; clear hg_; first | rfl | (go_simp; done) | (go_simp; rfl)) ?_
            intro u_114 h_114; refine normL_ (a' := ?_) ?_ ?_; rotate_left
            · simp only [Act.put, List.setIfInBounds_toArray, List.set_cons_zero, List.set_cons_succ]; rfl
            refine sym_ (N := 115) (v := .bool c_10) (!p_9) rfl (by cases p_9 <;> rfl) (by intro hg_; obtain rfl : u_114 = .int .i64 (l0_10.length : Int) := h_114.trans (by rw [hg_]; rfl); clear h_114; clear hg_; rw [ec_10]; first | rfl | (go_simp; done) | (go_simp; rfl)) ?_
            intro u_115 h_115; refine normL_ (a' := ?_) ?_ ?_; rotate_left
            · simp only [Act.put, List.setIfInBounds_toArray, List.set_cons_zero, List.set_cons_succ]; rfl
            refine sym_ (N := 116) (v := .bool c_10) (!p_9) rfl (by cases p_9 <;> rfl) (by intro hg_; obtain rfl : u_115 = .bool c_10 := h_115.trans (by rw [hg_]; rfl); clear h_115; clear hg_; first | rfl | (go_simp; done) | (go_simp; rfl)) ?_
            intro u_116 h_116; refine normL_ (a' := ?_) ?_ ?_; rotate_left
            · simp only [Act.put, List.setIfInBounds_toArray, List.set_cons_zero, List.set_cons_succ]; rfl
            refine sym_ (N := 117) (v := .string t149) (!p_9 && c_10) rfl (by subst h_116; cases p_9 <;> cases c_10 <;> rfl) (by intro hg_; first | rfl | (go_simp; done) | (go_simp; rfl)) ?_
            intro u_117 h_117; refine normL_ (a' := ?_) ?_ ?_; rotate_left
            · simp only [Act.put, List.setIfInBounds_toArray, List.set_cons_zero, List.set_cons_succ]; rfl
            refine symc_ (N := 118) (x := .bool i10) (!p_9 && c_10) (fun W_ => Aside0 (W_.heap[gb144]? = some (.cells #[.int .i64 a0_0, .int .u32 a0_1, .int .u32 a0_2, .int .u64 a0_3, .int .u64 a0_4, .int .u32 a0_5, .int .i64 a0_6, .bool a0_7, .int .i64 a0_8, (.slice A0_9 l0_9.length c0_9), (.slice A0_10 l0_10.length c0_10)] 26 (0, 0))) ∧ Aside0 (W_.heap[gb148]? = some (.cells #[.int .i64 a1, .int .u32 a0_1, .int .u32 a0_2, .int .u64 a0_3, .int .u64 a0_4, .int .u32 a0_5, .int .i64 a0_6, .bool a0_7, .int .i64 a0_8, (.slice A0_9 l0_9.length c0_9), (.slice A0_10 l0_10.length c0_10)] 26 (0, 0))) ∧ Aside0 (Below w.heap.size w W_)) rfl (by subst h_116; cases p_9 <;> cases c_10 <;> rfl) (fun hg_ hw_ hK_ => ?_) ⟨BK144, BK148, HB⟩ ?_
            · obtain rfl : u_117 = .string t149 := h_117.trans (by rw [hg_]; rfl)
              refine gate_guard hw_ ?_
              (with_reducible refine gate_callee (f := 26) rfl ?_); refine goesL_ (some 118) rfl rfl Try.func26 (by kernel_rfl) rfl #[.string t149, .int .u8 68] rfl (by (try simp only [List.map_toArray, List.map_cons, List.map_nil]); first | done | rfl) ?_; (with_reducible refine (drayagelaw05_in.calls kj2 t149 68 i10 _ I10.out).mono ?_); rintro e w' ⟨rfl, ⟨nd, rfl⟩⟩; refine ⟨_, rfl, ?_⟩
              exact hK_ _ ⟨⟨by (with_reducible repeat (first | apply bd1 | apply bd2 | apply bd3)); exact BK144.out⟩, ⟨by (with_reducible repeat (first | apply bd1 | apply bd2 | apply bd3)); exact BK148.out⟩, ⟨(by repeat (first | (with_reducible first | exact HB.out | apply below_alloc | apply pw_below_drewN | apply below_drew1 | refine below_set ?_ GE144.out | refine below_set ?_ GE148.out) | exact HB.out))⟩⟩
            clear BK144 BK148 HB
            rintro u_118 Wf10 h_118 ⟨BK144, BK148, HB⟩; refine normL_ (a' := ?_) ?_ ?_; rotate_left
            · simp only [Act.put, List.setIfInBounds_toArray, List.set_cons_zero, List.set_cons_succ]; rfl
            refine sym_ (N := 119) (v := .bool (!i10)) (!p_9 && c_10) rfl (by subst h_116; cases p_9 <;> cases c_10 <;> rfl) (by intro hg_; obtain rfl : u_118 = .bool i10 := h_118.trans (by rw [hg_]; rfl); first | rfl | (go_simp; done) | (go_simp; rfl)) ?_
            intro u_119 h_119; refine normL_ (a' := ?_) ?_ ?_; rotate_left
            · simp only [Act.put, List.setIfInBounds_toArray, List.set_cons_zero, List.set_cons_succ]; rfl
            refine sym_ (N := 120) (v := .bool (c_10 && !i10)) (!p_9) rfl (by cases p_9 <;> rfl) (by intro hg_; subst h_119; subst h_116; cases p_9 <;> cases c_10 <;> first | rfl | exact absurd hg_ (by decide)) ?_
            intro u_120 h_120; refine normL_ (a' := ?_) ?_ ?_; rotate_left
            · simp only [Act.put, List.setIfInBounds_toArray, List.set_cons_zero, List.set_cons_succ]; rfl
            obtain ⟨p_10, ep_10⟩ : ∃ c_ : Bool, c_ = (p_9 || (c_10 && !i10)) := ⟨_, rfl⟩
            refine sym_ (N := 121) (v := .bool p_10) (true) rfl (by rfl) (by intro hg_; rw [ep_10]; subst h_120; cases p_9 <;> rfl) ?_
            intro u_121 h_121; refine normL_ (a' := ?_) ?_ ?_; rotate_left
            · simp only [Act.put, List.setIfInBounds_toArray, List.set_cons_zero, List.set_cons_succ]; rfl
            obtain rfl : u_121 = .bool p_10 := h_121
            refine sym_ (N := 7) (v := .bool p_10) (true) rfl (by rfl) (by intro hg_; first | rfl | (go_simp; done) | (go_simp; rfl)) ?_
            intro u_7 h_7; refine normL_ (a' := ?_) ?_ ?_; rotate_left
            · simp only [Act.put, List.setIfInBounds_toArray, List.set_cons_zero, List.set_cons_succ]; rfl
            obtain rfl : u_7 = .bool p_10 := h_7
            refine wpList_nil ?_
            have e7_ : p_10 = bareExtra a0_1 a0_2 a0_3 a0_4 a0_5 a0_6 a0_7 a0_8 l0_9 l0_10 i1 i2 i3 i4 i5 i6 i7 i8 i9 i10 := by unfold bareExtra; rw [ep_10, ep_9, ep_8, ep_7, ep_6, ep_5, ep_4, ep_3, ep_2, ep_1, ec_1, ec_2, ec_3, ec_4, ec_5, ec_6, ec_7, ec_8, ec_9, ec_10]
            rw [e7_]
            go_step
            go_step
            go_meet
            case rel => exact ⟨rfl, BK144, BK148, HB⟩
          case rest =>
            clear BK144 BK148 HB
            obtain ⟨rfl, BK144, BK148, HB⟩ := hcut
            go_upto_region 7 with fail
            go_cut [8] (fun v8 wc => v8 = .bool (bareKey l0_9 a1) ∧ Aside0 (wc.heap[gb144]? = some (.cells #[.int .i64 a0_0, .int .u32 a0_1, .int .u32 a0_2, .int .u64 a0_3, .int .u64 a0_4, .int .u32 a0_5, .int .i64 a0_6, .bool a0_7, .int .i64 a0_8, (.slice A0_9 l0_9.length c0_9), (.slice A0_10 l0_10.length c0_10)] 26 (0, 0))) ∧ Aside0 (wc.heap[gb148]? = some (.cells #[.int .i64 a1, .int .u32 a0_1, .int .u32 a0_2, .int .u64 a0_3, .int .u64 a0_4, .int .u32 a0_5, .int .i64 a0_6, .bool a0_7, .int .i64 a0_8, (.slice A0_9 l0_9.length c0_9), (.slice A0_10 l0_10.length c0_10)] 26 (0, 0))) ∧ Aside0 (Below w.heap.size w wc))
            case first =>
              obtain ⟨k1, ek1⟩ : ∃ c_ : Bool, c_ = decide (a1 ≥ 10) := ⟨_, rfl⟩
              obtain ⟨k2, ek2⟩ : ∃ c_ : Bool, c_ = decide (a1 ≤ 12) := ⟨_, rfl⟩
              obtain ⟨k3, ek3⟩ : ∃ c_ : Bool, c_ = decide ((l0_9.length : Int) = 0) := ⟨_, rfl⟩
              refine wp_region_list ?_
              refine sym_ (N := 122) (v := .int .i64 a1) (true) rfl (by rfl) (by intro hg_; first | rfl | (go_simp; done) | (go_simp; rfl)) ?_
              intro u_122 h_122; refine normL_ (a' := ?_) ?_ ?_; rotate_left
              · simp only [Act.put, List.setIfInBounds_toArray, List.set_cons_zero, List.set_cons_succ]; rfl
              obtain rfl : u_122 = .int .i64 a1 := h_122
              refine sym_ (N := 123) (v := .bool k1) (true) rfl (by rfl) (by intro hg_; rw [ek1]; first | rfl | (go_simp; done) | (go_simp; rfl)) ?_
              intro u_123 h_123; refine normL_ (a' := ?_) ?_ ?_; rotate_left
              · simp only [Act.put, List.setIfInBounds_toArray, List.set_cons_zero, List.set_cons_succ]; rfl
              obtain rfl : u_123 = .bool k1 := h_123
              refine sym_ (N := 124) (v := .bool k1) (true) rfl (by rfl) (by intro hg_; first | rfl | (go_simp; done) | (go_simp; rfl)) ?_
              intro u_124 h_124; refine normL_ (a' := ?_) ?_ ?_; rotate_left
              · simp only [Act.put, List.setIfInBounds_toArray, List.set_cons_zero, List.set_cons_succ]; rfl
              obtain rfl : u_124 = .bool k1 := h_124
              refine sym_ (N := 125) (v := .int .i64 a1) (k1) rfl (by cases k1 <;> rfl) (by intro hg_; first | rfl | (go_simp; done) | (go_simp; rfl)) ?_
              intro u_125 h_125; refine normL_ (a' := ?_) ?_ ?_; rotate_left
              · simp only [Act.put, List.setIfInBounds_toArray, List.set_cons_zero, List.set_cons_succ]; rfl
              refine sym_ (N := 126) (v := .bool k2) (k1) rfl (by cases k1 <;> rfl) (by intro hg_; obtain rfl : u_125 = .int .i64 a1 := h_125.trans (by rw [hg_]; rfl); clear h_125 hg_; rw [ek2]; first | rfl | (go_simp; done) | (go_simp; rfl)) ?_
              intro u_126 h_126; refine normL_ (a' := ?_) ?_ ?_; rotate_left
              · simp only [Act.put, List.setIfInBounds_toArray, List.set_cons_zero, List.set_cons_succ]; rfl
              refine sym_ (N := 127) (v := .bool (k1 && k2)) (true) rfl (by rfl) (by intro hg_; subst h_126; cases k1 <;> rfl) ?_
              intro u_127 h_127; refine normL_ (a' := ?_) ?_ ?_; rotate_left
              · simp only [Act.put, List.setIfInBounds_toArray, List.set_cons_zero, List.set_cons_succ]; rfl
              obtain rfl : u_127 = .bool (k1 && k2) := h_127
              obtain ⟨k4, ek4⟩ : ∃ c_ : Bool, c_ = (k1 && k2) := ⟨_, rfl⟩
              rw [← ek4]
              refine sym_ (N := 128) (v := .bool k4) (true) rfl (by rfl) (by intro hg_; first | rfl | (go_simp; done) | (go_simp; rfl)) ?_
              intro u_128 h_128; refine normL_ (a' := ?_) ?_ ?_; rotate_left
              · simp only [Act.put, List.setIfInBounds_toArray, List.set_cons_zero, List.set_cons_succ]; rfl
              obtain rfl : u_128 = .bool k4 := h_128
              refine sym_ (N := 129) (v := .pointer (some ⟨gb144, 9, none⟩)) (k4) rfl (by cases k4 <;> rfl) (by intro hg_; first | rfl | (go_simp; done) | (go_simp; rfl)) ?_
              intro u_129 h_129; refine normL_ (a' := ?_) ?_ ?_; rotate_left
              · simp only [Act.put, List.setIfInBounds_toArray, List.set_cons_zero, List.set_cons_succ]; rfl
              refine sym_ (N := 130) (v := .slice A0_9 l0_9.length c0_9) (k4) rfl (by cases k4 <;> rfl) (by intro hg_; obtain rfl : u_129 = .pointer (some ⟨gb144, 9, none⟩) := h_129.trans (by rw [hg_]; rfl); clear h_129 hg_; have k_ : wc.cell? ⟨gb144, 9, none⟩ = some (.slice A0_9 l0_9.length c0_9) := (blk_cell BK144.out 9).trans rfl; first | rfl | (go_simp; done) | (go_simp; rfl)) ?_
              intro u_130 h_130; refine normL_ (a' := ?_) ?_ ?_; rotate_left
              · simp only [Act.put, List.setIfInBounds_toArray, List.set_cons_zero, List.set_cons_succ]; rfl
              refine sym_ (N := 131) (v := .int .i64 (l0_9.length : Int)) (k4) rfl (by cases k4 <;> rfl) (by intro hg_; obtain rfl : u_130 = .slice A0_9 l0_9.length c0_9 := h_130.trans (by rw [hg_]; rfl); clear h_130 hg_; first | rfl | (go_simp; done) | (go_simp; rfl)) ?_
              intro u_131 h_131; refine normL_ (a' := ?_) ?_ ?_; rotate_left
              · simp only [Act.put, List.setIfInBounds_toArray, List.set_cons_zero, List.set_cons_succ]; rfl
              refine sym_ (N := 132) (v := .bool k3) (k4) rfl (by cases k4 <;> rfl) (by intro hg_; obtain rfl : u_131 = .int .i64 (l0_9.length : Int) := h_131.trans (by rw [hg_]; rfl); clear h_131 hg_; rw [ek3]; first | rfl | (go_simp; done) | (go_simp; rfl)) ?_
              intro u_132 h_132; refine normL_ (a' := ?_) ?_ ?_; rotate_left
              · simp only [Act.put, List.setIfInBounds_toArray, List.set_cons_zero, List.set_cons_succ]; rfl
              refine sym_ (N := 133) (v := .bool (k4 && k3)) (true) rfl (by rfl) (by intro hg_; subst h_132; cases k4 <;> rfl) ?_
              intro u_133 h_133; refine normL_ (a' := ?_) ?_ ?_; rotate_left
              · simp only [Act.put, List.setIfInBounds_toArray, List.set_cons_zero, List.set_cons_succ]; rfl
              obtain rfl : u_133 = .bool (k4 && k3) := h_133
              refine sym_ (N := 8) (v := .bool (k4 && k3)) (true) rfl (by rfl) (by intro hg_; first | rfl | (go_simp; done) | (go_simp; rfl)) ?_
              intro u_8 h_8; refine normL_ (a' := ?_) ?_ ?_; rotate_left
              · simp only [Act.put, List.setIfInBounds_toArray, List.set_cons_zero, List.set_cons_succ]; rfl
              obtain rfl : u_8 = .bool (k4 && k3) := h_8
              refine wpList_nil ?_
              have e7_ : (k4 && k3) = bareKey l0_9 a1 := by unfold bareKey; rw [ek4, ek1, ek2, ek3, Bool.and_assoc]
              rw [e7_]
              go_step
              go_step
              go_meet
              case rel => exact ⟨rfl, BK144, BK148, HB⟩
            case rest =>
              clear BK144 BK148 HB
              obtain ⟨rfl, BK144, BK148, HB⟩ := hcut
              obtain ⟨s1, es1⟩ : ∃ c_ : Bool, c_ = (t149.toList != ([] : List UInt8)) := ⟨_, rfl⟩
              obtain ⟨s2, es2⟩ : ∃ c_ : Bool, c_ = (bareExtra a0_1 a0_2 a0_3 a0_4 a0_5 a0_6 a0_7 a0_8 l0_9 l0_10 i1 i2 i3 i4 i5 i6 i7 i8 i9 i10) := ⟨_, rfl⟩
              obtain ⟨s3, es3⟩ : ∃ c_ : Bool, c_ = (bareKey l0_9 a1) := ⟨_, rfl⟩
              rw [← es2, ← es3]
              obtain ⟨xw, exw⟩ : ∃ c_ : Bool, c_ = ((t149.toList != ([] : List UInt8)) && (!(bareExtra a0_1 a0_2 a0_3 a0_4 a0_5 a0_6 a0_7 a0_8 l0_9 l0_10 i1 i2 i3 i4 i5 i6 i7 i8 i9 i10) && !(bareKey l0_9 a1))) := ⟨_, rfl⟩
              rw [← exw] at c19b0; try clear c19b1; try clear c19b2
              go_upto_region 8 with fail
              go_cut [9] (fun v9 wc => v9 = .bool xw ∧ Aside0 (wc.heap[gb144]? = some (.cells #[.int .i64 a0_0, .int .u32 a0_1, .int .u32 a0_2, .int .u64 a0_3, .int .u64 a0_4, .int .u32 a0_5, .int .i64 a0_6, .bool a0_7, .int .i64 a0_8, (.slice A0_9 l0_9.length c0_9), (.slice A0_10 l0_10.length c0_10)] 26 (0, 0))) ∧ Aside0 (wc.heap[gb148]? = some (.cells #[.int .i64 a1, .int .u32 a0_1, .int .u32 a0_2, .int .u64 a0_3, .int .u64 a0_4, .int .u32 a0_5, .int .i64 a0_6, .bool a0_7, .int .i64 a0_8, (.slice A0_9 l0_9.length c0_9), (.slice A0_10 l0_10.length c0_10)] 26 (0, 0))) ∧ Aside0 (Below w.heap.size w wc))
              case first =>
                refine wp_region_list ?_
                refine sym_ (N := 134) (v := .string t149) (true) rfl (by rfl) (by intro hg_; first | rfl | (go_simp; done) | (go_simp; rfl)) ?_
                intro u_134 h_134; refine normL_ (a' := ?_) ?_ ?_; rotate_left
                · simp only [Act.put, List.setIfInBounds_toArray, List.set_cons_zero, List.set_cons_succ]; rfl
                obtain rfl : u_134 = .string t149 := h_134
                refine sym_ (N := 135) (v := .bool s1) (true) rfl (by rfl) (by intro hg_; rw [es1]; first | rfl | (go_simp; cases t149.toList <;> rfl)) ?_
                intro u_135 h_135; refine normL_ (a' := ?_) ?_ ?_; rotate_left
                · simp only [Act.put, List.setIfInBounds_toArray, List.set_cons_zero, List.set_cons_succ]; rfl
                obtain rfl : u_135 = .bool s1 := h_135
                refine sym_ (N := 136) (v := .bool s1) (true) rfl (by rfl) (by intro hg_; first | rfl | (go_simp; done) | (go_simp; rfl)) ?_
                intro u_136 h_136; refine normL_ (a' := ?_) ?_ ?_; rotate_left
                · simp only [Act.put, List.setIfInBounds_toArray, List.set_cons_zero, List.set_cons_succ]; rfl
                obtain rfl : u_136 = .bool s1 := h_136
                refine sym_ (N := 137) (v := .bool s2) (s1) rfl (by cases s1 <;> rfl) (by intro hg_; first | rfl | (go_simp; done) | (go_simp; rfl)) ?_
                intro u_137 h_137; refine normL_ (a' := ?_) ?_ ?_; rotate_left
                · simp only [Act.put, List.setIfInBounds_toArray, List.set_cons_zero, List.set_cons_succ]; rfl
                refine sym_ (N := 138) (v := .bool (!s2)) (s1) rfl (by cases s1 <;> rfl) (by intro hg_; obtain rfl : u_137 = .bool s2 := h_137.trans (by rw [hg_]; rfl); clear h_137 hg_; first | rfl | (go_simp; done) | (go_simp; rfl)) ?_
                intro u_138 h_138; refine normL_ (a' := ?_) ?_ ?_; rotate_left
                · simp only [Act.put, List.setIfInBounds_toArray, List.set_cons_zero, List.set_cons_succ]; rfl
                refine sym_ (N := 139) (v := .bool (s1 && !s2)) (true) rfl (by rfl) (by intro hg_; subst h_138; cases s1 <;> rfl) ?_
                intro u_139 h_139; refine normL_ (a' := ?_) ?_ ?_; rotate_left
                · simp only [Act.put, List.setIfInBounds_toArray, List.set_cons_zero, List.set_cons_succ]; rfl
                obtain rfl : u_139 = .bool (s1 && !s2) := h_139
                obtain ⟨s4, es4⟩ : ∃ c_ : Bool, c_ = (s1 && !s2) := ⟨_, rfl⟩
                rw [← es4]
                refine sym_ (N := 140) (v := .bool s4) (true) rfl (by rfl) (by intro hg_; first | rfl | (go_simp; done) | (go_simp; rfl)) ?_
                intro u_140 h_140; refine normL_ (a' := ?_) ?_ ?_; rotate_left
                · simp only [Act.put, List.setIfInBounds_toArray, List.set_cons_zero, List.set_cons_succ]; rfl
                obtain rfl : u_140 = .bool s4 := h_140
                refine sym_ (N := 141) (v := .bool s3) (s4) rfl (by cases s4 <;> rfl) (by intro hg_; first | rfl | (go_simp; done) | (go_simp; rfl)) ?_
                intro u_141 h_141; refine normL_ (a' := ?_) ?_ ?_; rotate_left
                · simp only [Act.put, List.setIfInBounds_toArray, List.set_cons_zero, List.set_cons_succ]; rfl
                refine sym_ (N := 142) (v := .bool (!s3)) (s4) rfl (by cases s4 <;> rfl) (by intro hg_; obtain rfl : u_141 = .bool s3 := h_141.trans (by rw [hg_]; rfl); clear h_141 hg_; first | rfl | (go_simp; done) | (go_simp; rfl)) ?_
                intro u_142 h_142; refine normL_ (a' := ?_) ?_ ?_; rotate_left
                · simp only [Act.put, List.setIfInBounds_toArray, List.set_cons_zero, List.set_cons_succ]; rfl
                refine sym_ (N := 143) (v := .bool (s4 && !s3)) (true) rfl (by rfl) (by intro hg_; subst h_142; cases s4 <;> rfl) ?_
                intro u_143 h_143; refine normL_ (a' := ?_) ?_ ?_; rotate_left
                · simp only [Act.put, List.setIfInBounds_toArray, List.set_cons_zero, List.set_cons_succ]; rfl
                obtain rfl : u_143 = .bool (s4 && !s3) := h_143
                refine sym_ (N := 9) (v := .bool (s4 && !s3)) (true) rfl (by rfl) (by intro hg_; first | rfl | (go_simp; done) | (go_simp; rfl)) ?_
                intro u_9 h_9; refine normL_ (a' := ?_) ?_ ?_; rotate_left
                · simp only [Act.put, List.setIfInBounds_toArray, List.set_cons_zero, List.set_cons_succ]; rfl
                obtain rfl : u_9 = .bool (s4 && !s3) := h_9
                refine wpList_nil ?_
                have e7_ : (s4 && !s3) = xw := by rw [exw, es4, es1, es2, es3, Bool.and_assoc]
                rw [e7_]
                go_step
                go_step
                go_meet
                case rel => exact ⟨rfl, BK144, BK148, HB⟩
              case rest =>
                clear BK144 BK148 HB
                obtain ⟨rfl, BK144, BK148, HB⟩ := hcut
                clear exw es1 es2 es3
                obtain ⟨hcz24_0, hcz24_1, hcz24_2, hcz24_3, hcz24_4, hcz24_5, hcz24_6, hcz24_7, hcz24_8, hcz24_9, hcz24_10, hfz24_0, hfz24_1, hfz24_2, hfz24_3, hfz24_4, hfz24_5, hfz24_6, hfz24_7, hfz24_8, hfz24_9, hfz24_10⟩ := blk_all11 BK148.out
                go_wp2_with (first | ((with_reducible refine gate_callee (f := 14) rfl ?_); refine goesL_ (some 145) rfl rfl Try.func14 (by kernel_rfl) rfl #[.agg #[.int .i64 a1, .int .u32 a0_1, .int .u32 a0_2, .int .u64 a0_3, .int .u64 a0_4, .int .u32 a0_5, .int .i64 a0_6, .bool a0_7, .int .i64 a0_8, .slice A0_9 l0_9.length c0_9, .slice A0_10 l0_10.length c0_10]] rfl (by (try simp only [List.map_toArray, List.map_cons, List.map_nil]); first | done | rfl | (simp only [List.length_drop, List.length_take]; rfl)) ?_; (with_reducible refine (note_Check.calls a1 a0_1 a0_2 a0_3 a0_4 a0_5 a0_6 a0_7 a0_8 _ _ l0_9 _ _ l0_10 t150 _ ?side1 ?side2 ?side3 ?side4 A18.out).mono ?_); (case side1 => exact Kd.C_below HR0_9.out (by repeat (first | (with_reducible first | exact HB.out | apply below_alloc | apply pw_below_drewN | apply below_drew1 | refine below_set ?_ GE144.out | refine below_set ?_ GE148.out) | exact HB.out))); (case side2 => exact HC0_9.out); (case side3 => exact Kd.C_below HR0_10.out (by repeat (first | (with_reducible first | exact HB.out | apply below_alloc | apply pw_below_drewN | apply below_drew1 | refine below_set ?_ GE144.out | refine below_set ?_ GE148.out) | exact HB.out))); (case side4 => exact HC0_10.out); rintro e w25 ⟨rfl, hb⟩; refine ⟨_, rfl, ?_⟩; have n0_ := Aside0.mk (blk_below (g := gb144) (o := .cells #[.int .i64 a0_0, .int .u32 a0_1, .int .u32 a0_2, .int .u64 a0_3, .int .u64 a0_4, .int .u32 a0_5, .int .i64 a0_6, .bool a0_7, .int .i64 a0_8, .slice A0_9 l0_9.length c0_9, .slice A0_10 l0_10.length c0_10] 26 (0, 0)) (by (with_reducible repeat (first | apply bd1 | apply bd2 | apply bd3)); exact BK144.out) hb); have n1_ := Aside0.mk (blk_below (g := gb148) (o := .cells #[.int .i64 a1, .int .u32 a0_1, .int .u32 a0_2, .int .u64 a0_3, .int .u64 a0_4, .int .u32 a0_5, .int .i64 a0_6, .bool a0_7, .int .i64 a0_8, .slice A0_9 l0_9.length c0_9, .slice A0_10 l0_10.length c0_10] 26 (0, 0)) (by (with_reducible repeat (first | apply bd1 | apply bd2 | apply bd3)); exact BK148.out) hb); have n2_ := Aside0.mk (below_step (by repeat (first | (with_reducible first | exact HB.out | apply below_alloc | apply pw_below_drewN | apply below_drew1 | refine below_set ?_ GE144.out | refine below_set ?_ GE148.out) | exact HB.out)) hb); clear BK144; clear BK148; clear HB; have BK144 := n0_; have BK148 := n1_; have HB := n2_; clear n0_ n1_ n2_; (try clear hb); (try clear hb2); (try clear hk); (try clear hi)) | (go_at_call 11; (with_reducible refine (drayagelaw05_known.calls kj2  t151 _ A20.out).mono ?_); rintro e w26 ⟨rfl, hb⟩; have n0_ := Aside0.mk (blk_below (g := gb144) (o := .cells #[.int .i64 a0_0, .int .u32 a0_1, .int .u32 a0_2, .int .u64 a0_3, .int .u64 a0_4, .int .u32 a0_5, .int .i64 a0_6, .bool a0_7, .int .i64 a0_8, .slice A0_9 l0_9.length c0_9, .slice A0_10 l0_10.length c0_10] 26 (0, 0)) (by (with_reducible repeat (first | apply bd1 | apply bd2 | apply bd3)); exact BK144.out) hb); have n1_ := Aside0.mk (blk_below (g := gb148) (o := .cells #[.int .i64 a1, .int .u32 a0_1, .int .u32 a0_2, .int .u64 a0_3, .int .u64 a0_4, .int .u32 a0_5, .int .i64 a0_6, .bool a0_7, .int .i64 a0_8, .slice A0_9 l0_9.length c0_9, .slice A0_10 l0_10.length c0_10] 26 (0, 0)) (by (with_reducible repeat (first | apply bd1 | apply bd2 | apply bd3)); exact BK148.out) hb); have n2_ := Aside0.mk (below_step (by repeat (first | (with_reducible first | exact HB.out | apply below_alloc | apply pw_below_drewN | apply below_drew1 | refine below_set ?_ GE144.out | refine below_set ?_ GE148.out) | exact HB.out)) hb); clear BK144; clear BK148; clear HB; have BK144 := n0_; have BK148 := n1_; have HB := n2_; clear n0_ n1_ n2_; (try clear hb); (try clear hb2); (try clear hk); (try clear hi)))
                go_ret
                exact ⟨by first | rfl | (simp [errW_none, errW_some] <;> rfl) | (simp [*, errW_none, errW_some] <;> rfl), by repeat (first | (with_reducible first | exact HB.out | apply below_alloc | apply pw_below_drewN | apply below_drew1 | refine below_set ?_ GE144.out | refine below_set ?_ GE148.out) | exact HB.out)⟩
        · rw [if_neg c19] at H
          exact absurd H (by simp)

end Go.Proofs.Ytohnlhklijpafaa.PA
