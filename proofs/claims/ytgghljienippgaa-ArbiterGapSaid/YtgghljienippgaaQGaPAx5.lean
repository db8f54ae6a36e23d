-- printed by a program of this work (wip/tools/pr.py over the kit's print): the machine's side of ArbiterGap, ArbiterHolds
import Derived.Test.YtgghljienippgaaQGaPAx0
import Derived.Test.YtgghljienippgaaQGaPAx1
import Derived.Test.YtgghljienippgaaQGaPAx4
namespace Go.Proofs.Ytgghljienippgaa.PA
open Go.RowKit Go.Proofs.YtgghljienippgaaW.PrintWords Go.Proofs.YtgghljienippgaaW.PrintLast Go.Proofs.YtgghljienippgaaW.PrintMore
attribute [local go_sem] max2_int min2_int max_two min_two max_three min_three max_four min_four   -- for this text's walks alone
set_option linter.unusedVariables false
set_option linter.unusedSimpArgs false

/-! ### arbiter_Arbiter_Serve: function 11 -/
mutual
def arbiter_Arbiter_Serve.j1 : Nat → Int → Int → Int → Int → Int → Int → Int → Int → Int → Int → Int → Int → Int → Int → Int → Int → Bool → Int → List Int → List Int → Option (Int × Int × Int × Int × Int × Int × Int × Bool × Int × List Int × List Int × Int × Int × Int × Int × Int × Int × Int × Int)
  | 0, _, _, _, _, _, _, _, _, _, _, _, _, _, _, _, _, _, _, _, _ => none
  | k + 1, x1, x1000, x1001, x1002, x1003, x1004, x1005, x1006, x1007, x149000, x149001, x149002, x149003, x149004, x149005, x149006, x149007, x149008, x149009, x149010 => (arbiter_Arbiter_next.f k x1000 x1001 x1002 x1003 x1004 x1005 x1006 x1007 x1 x149000 x149001 x149002 x149003 x149004 x149005 x149006 x149007 x149008 x149009 x149010).bind fun bt197 => (if bt197.2.2.2.2.1 = 0 then (some (5, bt197.1, 0, 0, IntKind.u64.wrap (bt197.2.2.1 - bt197.2.2.2.2.2.2.2.1), 0, 0, false, bt197.2.2.2.1, ([] : List Int), ([] : List Int), bt197.2.2.2.2.2.1, bt197.2.2.2.2.2.2.1, bt197.2.2.2.2.2.2.2.1, bt197.1, bt197.2.1, bt197.2.2.1, bt197.2.2.2.1, x1)) else ((arbiter_code.f bt197.2.2.2.2.1).bind fun t211 => ((arbiter_Arbiter_no.f bt197.2.2.2.2.2.1 bt197.2.2.2.2.2.2.1 bt197.2.2.2.2.2.2.2.1 bt197.2.2.2.2.2.2.2.2.1 bt197.2.2.2.2.2.2.2.2.2.1 bt197.2.2.2.2.2.2.2.2.2.2.1 bt197.2.2.2.2.2.2.2.2.2.2.2.1 bt197.2.2.2.2.2.2.2.2.2.2.2.2 t211).bind fun bt212 => (some (bt212.1, bt212.2.1, bt212.2.2.1, bt212.2.2.2.1, bt212.2.2.2.2.1, bt212.2.2.2.2.2.1, bt212.2.2.2.2.2.2.1, bt212.2.2.2.2.2.2.2.1, bt212.2.2.2.2.2.2.2.2.1, bt212.2.2.2.2.2.2.2.2.2.1, bt212.2.2.2.2.2.2.2.2.2.2.1, bt212.2.2.2.2.2.2.2.2.2.2.2.1, bt212.2.2.2.2.2.2.2.2.2.2.2.2.1, bt212.2.2.2.2.2.2.2.2.2.2.2.2.2.1, bt212.2.2.2.2.2.2.2.2.2.2.2.2.2.2.1, bt212.2.2.2.2.2.2.2.2.2.2.2.2.2.2.2.1, bt212.2.2.2.2.2.2.2.2.2.2.2.2.2.2.2.2.1, bt212.2.2.2.2.2.2.2.2.2.2.2.2.2.2.2.2.2.1, bt212.2.2.2.2.2.2.2.2.2.2.2.2.2.2.2.2.2.2)))))
def arbiter_Arbiter_Serve.j0 : Nat → Int → Bool → Int → Int → Int → Int → Int → Int → Int → Int → Int → Int → Int → Int → Int → Int → Int → Bool → Int → List Int → List Int → Option (Int × Int × Int × Int × Int × Int × Int × Bool × Int × List Int × List Int × Int × Int × Int × Int × Int × Int × Int × Int)
  | 0, _, _, _, _, _, _, _, _, _, _, _, _, _, _, _, _, _, _, _, _, _ => none
  | k + 1, x1, x13, x1000, x1001, x1002, x1003, x1004, x1005, x1006, x1007, x149000, x149001, x149002, x149003, x149004, x149005, x149006, x149007, x149008, x149009, x149010 => if x13 = true then ((arbiter_Arbiter_no.f x1000 x1001 x1002 x1003 x1004 x1005 x1006 x1007 1).bind fun bt151 => (some (bt151.1, bt151.2.1, bt151.2.2.1, bt151.2.2.2.1, bt151.2.2.2.2.1, bt151.2.2.2.2.2.1, bt151.2.2.2.2.2.2.1, bt151.2.2.2.2.2.2.2.1, bt151.2.2.2.2.2.2.2.2.1, bt151.2.2.2.2.2.2.2.2.2.1, bt151.2.2.2.2.2.2.2.2.2.2.1, bt151.2.2.2.2.2.2.2.2.2.2.2.1, bt151.2.2.2.2.2.2.2.2.2.2.2.2.1, bt151.2.2.2.2.2.2.2.2.2.2.2.2.2.1, bt151.2.2.2.2.2.2.2.2.2.2.2.2.2.2.1, bt151.2.2.2.2.2.2.2.2.2.2.2.2.2.2.2.1, bt151.2.2.2.2.2.2.2.2.2.2.2.2.2.2.2.2.1, bt151.2.2.2.2.2.2.2.2.2.2.2.2.2.2.2.2.2.1, bt151.2.2.2.2.2.2.2.2.2.2.2.2.2.2.2.2.2.2))) else (if x149001 = 0 then (if x1006 = 2 then (if x1 = x1007 then (arbiter_Arbiter_Serve.j1 k x1 x1000 x1001 x1002 x1003 x1004 x1005 x1006 x1007 x149000 x149001 x149002 x149003 x149004 x149005 x149006 x149007 x149008 x149009 x149010) else ((arbiter_Arbiter_no.f x1000 x1001 x1002 x1003 x1004 x1005 x1006 x1007 5).bind fun bt174 => (some (bt174.1, bt174.2.1, bt174.2.2.1, bt174.2.2.2.1, bt174.2.2.2.2.1, bt174.2.2.2.2.2.1, bt174.2.2.2.2.2.2.1, bt174.2.2.2.2.2.2.2.1, bt174.2.2.2.2.2.2.2.2.1, bt174.2.2.2.2.2.2.2.2.2.1, bt174.2.2.2.2.2.2.2.2.2.2.1, bt174.2.2.2.2.2.2.2.2.2.2.2.1, bt174.2.2.2.2.2.2.2.2.2.2.2.2.1, bt174.2.2.2.2.2.2.2.2.2.2.2.2.2.1, bt174.2.2.2.2.2.2.2.2.2.2.2.2.2.2.1, bt174.2.2.2.2.2.2.2.2.2.2.2.2.2.2.2.1, bt174.2.2.2.2.2.2.2.2.2.2.2.2.2.2.2.2.1, bt174.2.2.2.2.2.2.2.2.2.2.2.2.2.2.2.2.2.1, bt174.2.2.2.2.2.2.2.2.2.2.2.2.2.2.2.2.2.2)))) else (arbiter_Arbiter_Serve.j1 k x1 x1000 x1001 x1002 x1003 x1004 x1005 x1006 x1007 x149000 x149001 x149002 x149003 x149004 x149005 x149006 x149007 x149008 x149009 x149010)) else (arbiter_Arbiter_Serve.j1 k x1 x1000 x1001 x1002 x1003 x1004 x1005 x1006 x1007 x149000 x149001 x149002 x149003 x149004 x149005 x149006 x149007 x149008 x149009 x149010))
end
def arbiter_Arbiter_Serve.f (k : Nat) (s0_0 : Int) (s0_1 : Int) (s0_2 : Int) (s0_3 : Int) (s0_4 : Int) (s0_5 : Int) (s0_6 : Int) (s0_7 : Int) (a1 : Int) (a2_0 : Int) (a2_1 : Int) (a2_2 : Int) (a2_3 : Int) (a2_4 : Int) (a2_5 : Int) (a2_6 : Int) (a2_7 : Bool) (a2_8 : Int) (l2_9 : List Int) (l2_10 : List Int) : Option (Int × Int × Int × Int × Int × Int × Int × Bool × Int × List Int × List Int × Int × Int × Int × Int × Int × Int × Int × Int) := if a1 < 1 then (arbiter_Arbiter_Serve.j0 k a1 true s0_0 s0_1 s0_2 s0_3 s0_4 s0_5 s0_6 s0_7 a2_0 a2_1 a2_2 a2_3 a2_4 a2_5 a2_6 a2_7 a2_8 l2_9 l2_10) else (if a1 > 2 then (arbiter_Arbiter_Serve.j0 k a1 true s0_0 s0_1 s0_2 s0_3 s0_4 s0_5 s0_6 s0_7 a2_0 a2_1 a2_2 a2_3 a2_4 a2_5 a2_6 a2_7 a2_8 l2_9 l2_10) else (if a2_0 = 4 then ((note_Check.f a2_0 a2_1 a2_2 a2_3 a2_4 a2_5 a2_6 a2_7 a2_8 l2_9 l2_10).bind fun t150 => (if t150 = 0 then (if a2_8 > 2 then (arbiter_Arbiter_Serve.j0 k a1 true s0_0 s0_1 s0_2 s0_3 s0_4 s0_5 s0_6 s0_7 a2_0 a2_1 a2_2 a2_3 a2_4 a2_5 a2_6 a2_7 a2_8 l2_9 l2_10) else (if a2_1 = 0 then (arbiter_Arbiter_Serve.j0 k a1 (a2_8 != 0) s0_0 s0_1 s0_2 s0_3 s0_4 s0_5 s0_6 s0_7 a2_0 a2_1 a2_2 a2_3 a2_4 a2_5 a2_6 a2_7 a2_8 l2_9 l2_10) else (arbiter_Arbiter_Serve.j0 k a1 false s0_0 s0_1 s0_2 s0_3 s0_4 s0_5 s0_6 s0_7 a2_0 a2_1 a2_2 a2_3 a2_4 a2_5 a2_6 a2_7 a2_8 l2_9 l2_10))) else (arbiter_Arbiter_Serve.j0 k a1 true s0_0 s0_1 s0_2 s0_3 s0_4 s0_5 s0_6 s0_7 a2_0 a2_1 a2_2 a2_3 a2_4 a2_5 a2_6 a2_7 a2_8 l2_9 l2_10))) else (arbiter_Arbiter_Serve.j0 k a1 true s0_0 s0_1 s0_2 s0_3 s0_4 s0_5 s0_6 s0_7 a2_0 a2_1 a2_2 a2_3 a2_4 a2_5 a2_6 a2_7 a2_8 l2_9 l2_10)))
theorem arbiter_Arbiter_Serve.mono_l : ∀ k, (∀ y0 y1 y2 y3 y4 y5 y6 y7 y8 y9 y10 y11 y12 y13 y14 y15 y16 y17 y18 y19, LeO (arbiter_Arbiter_Serve.j1 k y0 y1 y2 y3 y4 y5 y6 y7 y8 y9 y10 y11 y12 y13 y14 y15 y16 y17 y18 y19) (arbiter_Arbiter_Serve.j1 (k + 1) y0 y1 y2 y3 y4 y5 y6 y7 y8 y9 y10 y11 y12 y13 y14 y15 y16 y17 y18 y19)) ∧ (∀ y0 y1 y2 y3 y4 y5 y6 y7 y8 y9 y10 y11 y12 y13 y14 y15 y16 y17 y18 y19 y20, LeO (arbiter_Arbiter_Serve.j0 k y0 y1 y2 y3 y4 y5 y6 y7 y8 y9 y10 y11 y12 y13 y14 y15 y16 y17 y18 y19 y20) (arbiter_Arbiter_Serve.j0 (k + 1) y0 y1 y2 y3 y4 y5 y6 y7 y8 y9 y10 y11 y12 y13 y14 y15 y16 y17 y18 y19 y20))
  | 0 => ⟨fun _ _ _ _ _ _ _ _ _ _ _ _ _ _ _ _ _ _ _ _ r h => by simp [arbiter_Arbiter_Serve.j1] at h, fun _ _ _ _ _ _ _ _ _ _ _ _ _ _ _ _ _ _ _ _ _ r h => by simp [arbiter_Arbiter_Serve.j0] at h⟩
  | k + 1 => by
    obtain ⟨ih0, ih1⟩ := arbiter_Arbiter_Serve.mono_l k
    refine ⟨?_, ?_⟩
    · intro y0 y1 y2 y3 y4 y5 y6 y7 y8 y9 y10 y11 y12 y13 y14 y15 y16 y17 y18 y19
      unfold arbiter_Arbiter_Serve.j1
      repeat' first
      | (with_reducible exact ih0 _ _ _ _ _ _ _ _ _ _ _ _ _ _ _ _ _ _ _ _)
      | (with_reducible exact ih1 _ _ _ _ _ _ _ _ _ _ _ _ _ _ _ _ _ _ _ _ _)
      | (with_reducible exact arbiter_Arbiter_next.mono _ _ _ _ _ _ _ _ _ _ _ _ _ _ _ _ _ _ _ _ _)
      | (with_reducible exact LeO.refl _)
      | (with_reducible exact LeO.none _)
      | (with_reducible refine LeO.ite ?_ ?_)
      | (with_reducible refine LeO.bind ?_ (fun _ => ?_))
      | exact ih0 _ _ _ _ _ _ _ _ _ _ _ _ _ _ _ _ _ _ _ _
      | exact ih1 _ _ _ _ _ _ _ _ _ _ _ _ _ _ _ _ _ _ _ _ _
      | exact arbiter_Arbiter_next.mono _ _ _ _ _ _ _ _ _ _ _ _ _ _ _ _ _ _ _ _ _
      | exact LeO.none _
      | refine LeO.ite ?_ ?_
      | refine LeO.bind ?_ (fun _ => ?_)
    · intro y0 y1 y2 y3 y4 y5 y6 y7 y8 y9 y10 y11 y12 y13 y14 y15 y16 y17 y18 y19 y20
      unfold arbiter_Arbiter_Serve.j0
      repeat' first
      | (with_reducible exact ih0 _ _ _ _ _ _ _ _ _ _ _ _ _ _ _ _ _ _ _ _)
      | (with_reducible exact ih1 _ _ _ _ _ _ _ _ _ _ _ _ _ _ _ _ _ _ _ _ _)
      | (with_reducible exact arbiter_Arbiter_next.mono _ _ _ _ _ _ _ _ _ _ _ _ _ _ _ _ _ _ _ _ _)
      | (with_reducible exact LeO.refl _)
      | (with_reducible exact LeO.none _)
      | (with_reducible refine LeO.ite ?_ ?_)
      | (with_reducible refine LeO.bind ?_ (fun _ => ?_))
      | exact ih0 _ _ _ _ _ _ _ _ _ _ _ _ _ _ _ _ _ _ _ _
      | exact ih1 _ _ _ _ _ _ _ _ _ _ _ _ _ _ _ _ _ _ _ _ _
      | exact arbiter_Arbiter_next.mono _ _ _ _ _ _ _ _ _ _ _ _ _ _ _ _ _ _ _ _ _
      | exact LeO.none _
      | refine LeO.ite ?_ ?_
      | refine LeO.bind ?_ (fun _ => ?_)
theorem arbiter_Arbiter_Serve.mono : ∀ a0 a1 a2 a3 a4 a5 a6 a7 a8 a9 a10 a11 a12 a13 a14 a15 a16 a17 a18 a19 k, LeO (arbiter_Arbiter_Serve.f k a0 a1 a2 a3 a4 a5 a6 a7 a8 a9 a10 a11 a12 a13 a14 a15 a16 a17 a18 a19) (arbiter_Arbiter_Serve.f (k + 1) a0 a1 a2 a3 a4 a5 a6 a7 a8 a9 a10 a11 a12 a13 a14 a15 a16 a17 a18 a19) := by
  intro a0 a1 a2 a3 a4 a5 a6 a7 a8 a9 a10 a11 a12 a13 a14 a15 a16 a17 a18 a19 k
  obtain ⟨ih0, ih1⟩ := arbiter_Arbiter_Serve.mono_l k
  unfold arbiter_Arbiter_Serve.f
  repeat' first
      | (with_reducible exact ih0 _ _ _ _ _ _ _ _ _ _ _ _ _ _ _ _ _ _ _ _)
      | (with_reducible exact ih1 _ _ _ _ _ _ _ _ _ _ _ _ _ _ _ _ _ _ _ _ _)
      | (with_reducible exact arbiter_Arbiter_next.mono _ _ _ _ _ _ _ _ _ _ _ _ _ _ _ _ _ _ _ _ _)
      | (with_reducible exact LeO.refl _)
      | (with_reducible exact LeO.none _)
      | (with_reducible refine LeO.ite ?_ ?_)
      | (with_reducible refine LeO.bind ?_ (fun _ => ?_))
      | exact ih0 _ _ _ _ _ _ _ _ _ _ _ _ _ _ _ _ _ _ _ _
      | exact ih1 _ _ _ _ _ _ _ _ _ _ _ _ _ _ _ _ _ _ _ _ _
      | exact arbiter_Arbiter_next.mono _ _ _ _ _ _ _ _ _ _ _ _ _ _ _ _ _ _ _ _ _
      | exact LeO.none _
      | refine LeO.ite ?_ ?_
      | refine LeO.bind ?_ (fun _ => ?_)
set_option maxHeartbeats 8000000 in
set_option maxRecDepth 100000 in
theorem arbiter_Arbiter_Serve.calls (k : Nat) (g : Nat) (s0_0 : Int) (s0_1 : Int) (s0_2 : Int) (s0_3 : Int) (s0_4 : Int) (s0_5 : Int) (s0_6 : Int) (s0_7 : Int) (a1 : Int) (a2_0 : Int) (a2_1 : Int) (a2_2 : Int) (a2_3 : Int) (a2_4 : Int) (a2_5 : Int) (a2_6 : Int) (a2_7 : Bool) (a2_8 : Int) (A2_9 : Option Addr) (c2_9 : Nat) (l2_9 : List Int) (A2_10 : Option Addr) (c2_10 : Nat) (l2_10 : List Int) (r1 : Int) (r2 : Int) (r3 : Int) (r4 : Int) (r5 : Int) (r6 : Int) (r7 : Int) (r8 : Bool) (r9 : Int) (r10 : List Int) (r11 : List Int) (r12 : Int) (r13 : Int) (r14 : Int) (r15 : Int) (r16 : Int) (r17 : Int) (r18 : Int) (r19 : Int) (w0 w : World) (hI : IsS71 w0 w g s0_0 s0_1 s0_2 s0_3 s0_4 s0_5 s0_6 s0_7) (hB : Below w0.heap.size w0 w) (hr2_9 : Kd.C (Kd.int .u8) w A2_9 l2_9.length l2_9) (hc2_9 : l2_9.length ≤ c2_9) (hf2_9 : ∀ ad, A2_9 = some ad → 0 < l2_9.length → ad.block ≠ g) (hr2_10 : Kd.C (Kd.int .u8) w A2_10 l2_10.length l2_10) (hc2_10 : l2_10.length ≤ c2_10) (hf2_10 : ∀ ad, A2_10 = some ad → 0 < l2_10.length → ad.block ≠ g) (h : arbiter_Arbiter_Serve.f k s0_0 s0_1 s0_2 s0_3 s0_4 s0_5 s0_6 s0_7 a1 a2_0 a2_1 a2_2 a2_3 a2_4 a2_5 a2_6 a2_7 a2_8 l2_9 l2_10 = some (r1, r2, r3, r4, r5, r6, r7, r8, r9, r10, r11, r12, r13, r14, r15, r16, r17, r18, r19)) :
    Calls Try.prog 11 #[.pointer (some ⟨g, 0, none⟩), .int .i64 a1, .agg #[.int .i64 a2_0, .int .u32 a2_1, .int .u32 a2_2, .int .u64 a2_3, .int .u64 a2_4, .int .u32 a2_5, .int .i64 a2_6, .bool a2_7, .int .i64 a2_8, .slice A2_9 l2_9.length c2_9, .slice A2_10 l2_10.length c2_10]] w fun e w' => ∃ v9_ v10_ : Value, e = .returned (.agg #[.int .i64 r1, .int .u32 r2, .int .u32 r3, .int .u64 r4, .int .u64 r5, .int .u32 r6, .int .i64 r7, .bool r8, .int .i64 r9, v9_, v10_]) ∧ Kd.R (Kd.int .u8) 5 w' w.heap.size (fun k_ => some k_ ≠ (v10_ : Value).ownBlock) v9_ r10 ∧ Kd.R (Kd.int .u8) 5 w' w.heap.size (fun k_ => some k_ ≠ (v9_ : Value).ownBlock) v10_ r11 ∧ IsS71 w0 w' g r12 r13 r14 r15 r16 r17 r18 r19 ∧ Below w0.heap.size w0 w' ∧ KeepBut w w' g none := by
  have hu30 := Try.underlying30
  have hu42 := Try.underlying42
  have HR2_9 := Aside0.mk hr2_9
  have HC2_9 := Aside0.mk hc2_9
  clear hr2_9 hc2_9
  have HR2_10 := Aside0.mk hr2_10
  have HC2_10 := Aside0.mk hc2_10
  clear hr2_10 hc2_10
  have HI0 := Aside0.mk hI
  have HK := Aside0.mk (KeepBut.refl w g none)
  have HL := Aside0.mk hB.size
  clear hI
  have HW0 := Aside0.mk hB.size
  have HB := Aside0.mk hB
  clear hB
  have H : (if a1 < 1 then (arbiter_Arbiter_Serve.j0 k a1 true s0_0 s0_1 s0_2 s0_3 s0_4 s0_5 s0_6 s0_7 a2_0 a2_1 a2_2 a2_3 a2_4 a2_5 a2_6 a2_7 a2_8 l2_9 l2_10) else (if a1 > 2 then (arbiter_Arbiter_Serve.j0 k a1 true s0_0 s0_1 s0_2 s0_3 s0_4 s0_5 s0_6 s0_7 a2_0 a2_1 a2_2 a2_3 a2_4 a2_5 a2_6 a2_7 a2_8 l2_9 l2_10) else (if a2_0 = 4 then ((note_Check.f a2_0 a2_1 a2_2 a2_3 a2_4 a2_5 a2_6 a2_7 a2_8 l2_9 l2_10).bind fun t150 => (if t150 = 0 then (if a2_8 > 2 then (arbiter_Arbiter_Serve.j0 k a1 true s0_0 s0_1 s0_2 s0_3 s0_4 s0_5 s0_6 s0_7 a2_0 a2_1 a2_2 a2_3 a2_4 a2_5 a2_6 a2_7 a2_8 l2_9 l2_10) else (if a2_1 = 0 then (arbiter_Arbiter_Serve.j0 k a1 (a2_8 != 0) s0_0 s0_1 s0_2 s0_3 s0_4 s0_5 s0_6 s0_7 a2_0 a2_1 a2_2 a2_3 a2_4 a2_5 a2_6 a2_7 a2_8 l2_9 l2_10) else (arbiter_Arbiter_Serve.j0 k a1 false s0_0 s0_1 s0_2 s0_3 s0_4 s0_5 s0_6 s0_7 a2_0 a2_1 a2_2 a2_3 a2_4 a2_5 a2_6 a2_7 a2_8 l2_9 l2_10))) else (arbiter_Arbiter_Serve.j0 k a1 true s0_0 s0_1 s0_2 s0_3 s0_4 s0_5 s0_6 s0_7 a2_0 a2_1 a2_2 a2_3 a2_4 a2_5 a2_6 a2_7 a2_8 l2_9 l2_10))) else (arbiter_Arbiter_Serve.j0 k a1 true s0_0 s0_1 s0_2 s0_3 s0_4 s0_5 s0_6 s0_7 a2_0 a2_1 a2_2 a2_3 a2_4 a2_5 a2_6 a2_7 a2_8 l2_9 l2_10)))) = some (r1, r2, r3, r4, r5, r6, r7, r8, r9, r10, r11, r12, r13, r14, r15, r16, r17, r18, r19) := h
  clear h
  have HC4 := Aside0.mk H
  clear H
  go_enter Try.func11, Try.ntmps11
  go_upto_block 0 with (first | ((with_reducible refine gate_dst (N := 5) rfl ?_); refine box_event ?hg (N := 5) ?hd (cs := #[.int .i64 a2_0, .int .u32 a2_1, .int .u32 a2_2, .int .u64 a2_3, .int .u64 a2_4, .int .u32 a2_5, .int .i64 a2_6, .bool a2_7, .int .i64 a2_8, .slice A2_9 l2_9.length c2_9, .slice A2_10 l2_10.length c2_10]) (t := 30) ?hr ?_; (case hd => rfl); (case hg => rfl); (case hr => first | (go_simp; done) | (go_simp; rfl)); intro gb148 hg w5 hbox hb; have n0_ := Aside0.mk (IsS71.below (by repeat (first | (with_reducible first | exact HI0.out | apply IsS71.alloc | apply IsS71.drewN | apply IsS71.drew | apply IsS71.set_0 | apply IsS71.set_1 | apply IsS71.set_2 | apply IsS71.set_3 | apply IsS71.set_4 | apply IsS71.set_5 | apply IsS71.set_6 | apply IsS71.set_7) | exact HI0.out)) hb); have n1_ := Aside0.mk (KeepBut.trans (by repeat (first | (with_reducible first | exact HK.out | apply KeepBut.set_ | apply keep_drewN | apply keep_drew | apply keep_alloc) | exact HK.out)) (KeepBut.of_below hb g none) (.inl rfl)); have n2_ := Aside0.mk (below_step (by repeat (first | (with_reducible first | exact HB.out | apply below_alloc | apply pw_below_drewN | apply below_drew1 | refine below_set ?_ (IsS71.ge HI0.out)) | exact HB.out)) hb); have n3_ := Aside0.mk (hbox); have n4_ := Aside0.mk ((by rw [hg]; exact (keep_size (w := w) (g := g) (row := none) (by repeat (first | (with_reducible first | exact HK.out | apply KeepBut.set_ | apply keep_drewN | apply keep_drew | apply keep_alloc) | exact HK.out))) : w.heap.size ≤ gb148)); have n5_ := Aside0.mk ((Nat.le_trans HW0.out (by rw [hg]; exact (keep_size (w := w) (g := g) (row := none) (by repeat (first | (with_reducible first | exact HK.out | apply KeepBut.set_ | apply keep_drewN | apply keep_drew | apply keep_alloc) | exact HK.out))) : w.heap.size ≤ gb148) : w0.heap.size ≤ gb148)); have n6_ := Aside0.mk ((by rw [hg]; exact Nat.ne_of_lt (IsS71.lt (show IsS71 w0 _ g s0_0 s0_1 s0_2 s0_3 s0_4 s0_5 s0_6 s0_7 from by repeat (first | (with_reducible first | exact HI0.out | apply IsS71.alloc | apply IsS71.drewN | apply IsS71.drew | apply IsS71.set_0 | apply IsS71.set_1 | apply IsS71.set_2 | apply IsS71.set_3 | apply IsS71.set_4 | apply IsS71.set_5 | apply IsS71.set_6 | apply IsS71.set_7) | exact HI0.out))) : g ≠ gb148)); have n7_ := Aside0.mk ((by rw [hg]; exact Nat.ne_of_gt (IsS71.lt (show IsS71 w0 _ g s0_0 s0_1 s0_2 s0_3 s0_4 s0_5 s0_6 s0_7 from by repeat (first | (with_reducible first | exact HI0.out | apply IsS71.alloc | apply IsS71.drewN | apply IsS71.drew | apply IsS71.set_0 | apply IsS71.set_1 | apply IsS71.set_2 | apply IsS71.set_3 | apply IsS71.set_4 | apply IsS71.set_5 | apply IsS71.set_6 | apply IsS71.set_7) | exact HI0.out))) : gb148 ≠ g)); clear HI0; clear HK; clear HB; have HI0 := n0_; have HK := n1_; have HB := n2_; have BK148 := n3_; have GW148 := n4_; have GE148 := n5_; have NB0_148 := n6_; have NB148_0 := n7_; clear n0_ n1_ n2_ n3_ n4_ n5_ n6_ n7_; clear hb hbox hg) | ((with_reducible refine gate_dst (N := 6) rfl ?_); refine box_event ?hg (N := 6) ?hd (cs := #[.int .i64 0, .int .u32 0, .int .u32 0, .int .u64 0, .int .u64 0, .int .u32 0, .int .i64 0, .bool false, .int .i64 0, .slice none 0 0, .slice none 0 0]) (t := 30) ?hr ?_; (case hd => rfl); (case hg => rfl); (case hr => first | (go_simp; done) | (go_simp; rfl)); intro gb149 hg w6 hbox hb; have n0_ := Aside0.mk (IsS71.below (by repeat (first | (with_reducible first | exact HI0.out | apply IsS71.alloc | apply IsS71.drewN | apply IsS71.drew | apply IsS71.set_0 | apply IsS71.set_1 | apply IsS71.set_2 | apply IsS71.set_3 | apply IsS71.set_4 | apply IsS71.set_5 | apply IsS71.set_6 | apply IsS71.set_7 | refine IsS71.far ?_ NB0_148.out _) | refine IsS71.far ?_ NB0_148.out _ | exact HI0.out)) hb); have n1_ := Aside0.mk (blk_below (g := gb148) (o := .cells #[.int .i64 a2_0, .int .u32 a2_1, .int .u32 a2_2, .int .u64 a2_3, .int .u64 a2_4, .int .u32 a2_5, .int .i64 a2_6, .bool a2_7, .int .i64 a2_8, .slice A2_9 l2_9.length c2_9, .slice A2_10 l2_10.length c2_10] 30 (0, 0)) (by (with_reducible repeat (first | apply bd1 | apply bd2 | apply bd3)); exact BK148.out) hb); have n2_ := Aside0.mk (KeepBut.trans (by repeat (first | (with_reducible first | exact HK.out | apply KeepBut.set_ | apply keep_drewN | apply keep_drew | apply keep_alloc | refine keep_far ?_ GW148.out _) | exact HK.out)) (KeepBut.of_below hb g none) (.inl rfl)); have n3_ := Aside0.mk (below_step (by repeat (first | (with_reducible first | exact HB.out | apply below_alloc | apply pw_below_drewN | apply below_drew1 | refine below_set ?_ (IsS71.ge HI0.out) | refine below_set ?_ GE148.out) | exact HB.out)) hb); have n4_ := Aside0.mk (hbox); have n5_ := Aside0.mk ((by rw [hg]; exact (keep_size (w := w) (g := g) (row := none) (by repeat (first | (with_reducible first | exact HK.out | apply KeepBut.set_ | apply keep_drewN | apply keep_drew | apply keep_alloc | refine keep_far ?_ GW148.out _) | exact HK.out))) : w.heap.size ≤ gb149)); have n6_ := Aside0.mk ((Nat.le_trans HW0.out (by rw [hg]; exact (keep_size (w := w) (g := g) (row := none) (by repeat (first | (with_reducible first | exact HK.out | apply KeepBut.set_ | apply keep_drewN | apply keep_drew | apply keep_alloc | refine keep_far ?_ GW148.out _) | exact HK.out))) : w.heap.size ≤ gb149) : w0.heap.size ≤ gb149)); have n7_ := Aside0.mk ((by rw [hg]; exact Nat.ne_of_lt (blk_lt (g := gb148) (o := .cells #[.int .i64 a2_0, .int .u32 a2_1, .int .u32 a2_2, .int .u64 a2_3, .int .u64 a2_4, .int .u32 a2_5, .int .i64 a2_6, .bool a2_7, .int .i64 a2_8, .slice A2_9 l2_9.length c2_9, .slice A2_10 l2_10.length c2_10] 30 (0, 0)) (by (with_reducible repeat (first | apply bd1 | apply bd2 | apply bd3)); exact BK148.out)) : gb148 ≠ gb149)); have n8_ := Aside0.mk ((by rw [hg]; exact Nat.ne_of_gt (blk_lt (g := gb148) (o := .cells #[.int .i64 a2_0, .int .u32 a2_1, .int .u32 a2_2, .int .u64 a2_3, .int .u64 a2_4, .int .u32 a2_5, .int .i64 a2_6, .bool a2_7, .int .i64 a2_8, .slice A2_9 l2_9.length c2_9, .slice A2_10 l2_10.length c2_10] 30 (0, 0)) (by (with_reducible repeat (first | apply bd1 | apply bd2 | apply bd3)); exact BK148.out)) : gb149 ≠ gb148)); have n9_ := Aside0.mk ((by rw [hg]; exact Nat.ne_of_lt (IsS71.lt (show IsS71 w0 _ g s0_0 s0_1 s0_2 s0_3 s0_4 s0_5 s0_6 s0_7 from by repeat (first | (with_reducible first | exact HI0.out | apply IsS71.alloc | apply IsS71.drewN | apply IsS71.drew | apply IsS71.set_0 | apply IsS71.set_1 | apply IsS71.set_2 | apply IsS71.set_3 | apply IsS71.set_4 | apply IsS71.set_5 | apply IsS71.set_6 | apply IsS71.set_7 | refine IsS71.far ?_ NB0_148.out _) | refine IsS71.far ?_ NB0_148.out _ | exact HI0.out))) : g ≠ gb149)); have n10_ := Aside0.mk ((by rw [hg]; exact Nat.ne_of_gt (IsS71.lt (show IsS71 w0 _ g s0_0 s0_1 s0_2 s0_3 s0_4 s0_5 s0_6 s0_7 from by repeat (first | (with_reducible first | exact HI0.out | apply IsS71.alloc | apply IsS71.drewN | apply IsS71.drew | apply IsS71.set_0 | apply IsS71.set_1 | apply IsS71.set_2 | apply IsS71.set_3 | apply IsS71.set_4 | apply IsS71.set_5 | apply IsS71.set_6 | apply IsS71.set_7 | refine IsS71.far ?_ NB0_148.out _) | refine IsS71.far ?_ NB0_148.out _ | exact HI0.out))) : gb149 ≠ g)); clear HI0; clear BK148; clear HK; clear HB; have HI0 := n0_; have BK148 := n1_; have HK := n2_; have HB := n3_; have BK149 := n4_; have GW149 := n5_; have GE149 := n6_; have NB148_149 := n7_; have NB149_148 := n8_; have NB0_149 := n9_; have NB149_0 := n10_; clear n0_ n1_ n2_ n3_ n4_ n5_ n6_ n7_ n8_ n9_ n10_; clear hb hbox hg))
  (try simp only [Act.put, List.setIfInBounds_toArray, List.set_cons_zero, List.set_cons_succ])
  go_cut [] (fun wc => ∃ (kq : Nat) (x1000_3 : Int) (x1001_3 : Int) (x1002_3 : Int) (x1003_3 : Int) (x1004_3 : Int) (x1005_3 : Int) (x1006_3 : Int) (x1007_3 : Int) (x150000_3 : Int) (x150001_3 : Int) (x150002_3 : Int) (x150003_3 : Int) (x150004_3 : Int) (x150005_3 : Int) (x150006_3 : Int) (x150007_3 : Bool) (x150008_3 : Int), Aside0 (arbiter_Arbiter_Serve.j1 kq a1 x1000_3 x1001_3 x1002_3 x1003_3 x1004_3 x1005_3 x1006_3 x1007_3 a2_0 a2_1 a2_2 a2_3 a2_4 a2_5 a2_6 a2_7 a2_8 l2_9 l2_10 = some (r1, r2, r3, r4, r5, r6, r7, r8, r9, r10, r11, r12, r13, r14, r15, r16, r17, r18, r19)) ∧ Aside0 (kq ≤ k) ∧ Aside0 (wc.heap[gb148]? = some (.cells #[.int .i64 a2_0, .int .u32 a2_1, .int .u32 a2_2, .int .u64 a2_3, .int .u64 a2_4, .int .u32 a2_5, .int .i64 a2_6, .bool a2_7, .int .i64 a2_8, (.slice A2_9 l2_9.length c2_9), (.slice A2_10 l2_10.length c2_10)] 30 (0, 0))) ∧ Aside0 (wc.heap[gb149]? = some (.cells #[.int .i64 x150000_3, .int .u32 x150001_3, .int .u32 x150002_3, .int .u64 x150003_3, .int .u64 x150004_3, .int .u32 x150005_3, .int .i64 x150006_3, .bool x150007_3, .int .i64 x150008_3, (.slice none 0 0), (.slice none 0 0)] 30 (0, 0))) ∧ Aside0 (IsS71 w0 wc g x1000_3 x1001_3 x1002_3 x1003_3 x1004_3 x1005_3 x1006_3 x1007_3) ∧ Aside0 (KeepBut w wc g none) ∧ Aside0 (Below w0.heap.size w0 wc))
  case first =>
    have H := HC4.out
    clear HC4
    have HC7 := Aside0.mk H
    clear H
    go_upto_region 3 with (fail)
    go_cut [13] (fun v13 wc => ∃ (kq : Nat) (x13_6 : Bool), v13 = .bool x13_6 ∧ Aside0 (arbiter_Arbiter_Serve.j0 kq a1 x13_6 s0_0 s0_1 s0_2 s0_3 s0_4 s0_5 s0_6 s0_7 a2_0 a2_1 a2_2 a2_3 a2_4 a2_5 a2_6 a2_7 a2_8 l2_9 l2_10 = some (r1, r2, r3, r4, r5, r6, r7, r8, r9, r10, r11, r12, r13, r14, r15, r16, r17, r18, r19)) ∧ Aside0 (kq ≤ k) ∧ Aside0 (wc.heap[gb148]? = some (.cells #[.int .i64 a2_0, .int .u32 a2_1, .int .u32 a2_2, .int .u64 a2_3, .int .u64 a2_4, .int .u32 a2_5, .int .i64 a2_6, .bool a2_7, .int .i64 a2_8, (.slice A2_9 l2_9.length c2_9), (.slice A2_10 l2_10.length c2_10)] 30 (0, 0))) ∧ Aside0 (wc.heap[gb149]? = some (.cells #[.int .i64 0, .int .u32 0, .int .u32 0, .int .u64 0, .int .u64 0, .int .u32 0, .int .i64 0, .bool false, .int .i64 0, (.slice none 0 0), (.slice none 0 0)] 30 (0, 0))) ∧ Aside0 (IsS71 w0 wc g s0_0 s0_1 s0_2 s0_3 s0_4 s0_5 s0_6 s0_7) ∧ Aside0 (KeepBut w wc g none) ∧ Aside0 (Below w0.heap.size w0 wc))
    case first =>
      have H := HC7.out
      clear HC7
      by_cases c8 : a1 < 1
      · rw [if_pos c8] at H
        have c8b0 : decide (a1 < 1) = true := decide_eq_true c8
        clear c8
        (first | rw [c8b0] | (simp only [i64_w, i32_w]; rw [c8b0]) | skip)
        have H' := Aside0.mk H
        clear H
        go_wp2
        go_meet
        case rel => exact ⟨_, (true), (by first | rfl | (simp; done) | (simp [*]; done)), H', ⟨by first | omega | exact Nat.le_refl _⟩, ⟨by (with_reducible repeat (first | apply bd1 | apply bd2 | apply bd3)); exact BK148.out⟩, ⟨by (with_reducible repeat (first | apply bd1 | apply bd2 | apply bd3)); exact BK149.out⟩, ⟨by repeat (first | (with_reducible first | exact HI0.out | apply IsS71.alloc | apply IsS71.drewN | apply IsS71.drew | apply IsS71.set_0 | apply IsS71.set_1 | apply IsS71.set_2 | apply IsS71.set_3 | apply IsS71.set_4 | apply IsS71.set_5 | apply IsS71.set_6 | apply IsS71.set_7 | refine IsS71.far ?_ NB0_148.out _ | refine IsS71.far ?_ NB0_149.out _) | refine IsS71.far ?_ NB0_148.out _ | refine IsS71.far ?_ NB0_149.out _ | exact HI0.out)⟩, ⟨by repeat (first | (with_reducible first | exact HK.out | apply KeepBut.set_ | apply keep_drewN | apply keep_drew | apply keep_alloc | refine keep_far ?_ GW148.out _ | refine keep_far ?_ GW149.out _) | exact HK.out)⟩, ⟨by repeat (first | (with_reducible first | exact HB.out | apply below_alloc | apply pw_below_drewN | apply below_drew1 | refine below_set ?_ (IsS71.ge HI0.out) | refine below_set ?_ GE148.out | refine below_set ?_ GE149.out) | exact HB.out)⟩⟩
      · rw [if_neg c8] at H
        have c8b0 : decide (a1 < 1) = false := decide_eq_false c8
        clear c8
        (first | rw [c8b0] | (simp only [i64_w, i32_w]; rw [c8b0]) | skip)
        by_cases c9 : a1 > 2
        · rw [if_pos c9] at H
          have c9b0 : decide (2 < a1) = true := decide_eq_true c9
          clear c9
          have H' := Aside0.mk H
          clear H
          go_wp2
          go_meet
          case rel => exact ⟨_, (true), (by first | rfl | (simp; done) | (simp [*]; done)), H', ⟨by first | omega | exact Nat.le_refl _⟩, ⟨by (with_reducible repeat (first | apply bd1 | apply bd2 | apply bd3)); exact BK148.out⟩, ⟨by (with_reducible repeat (first | apply bd1 | apply bd2 | apply bd3)); exact BK149.out⟩, ⟨by repeat (first | (with_reducible first | exact HI0.out | apply IsS71.alloc | apply IsS71.drewN | apply IsS71.drew | apply IsS71.set_0 | apply IsS71.set_1 | apply IsS71.set_2 | apply IsS71.set_3 | apply IsS71.set_4 | apply IsS71.set_5 | apply IsS71.set_6 | apply IsS71.set_7 | refine IsS71.far ?_ NB0_148.out _ | refine IsS71.far ?_ NB0_149.out _) | refine IsS71.far ?_ NB0_148.out _ | refine IsS71.far ?_ NB0_149.out _ | exact HI0.out)⟩, ⟨by repeat (first | (with_reducible first | exact HK.out | apply KeepBut.set_ | apply keep_drewN | apply keep_drew | apply keep_alloc | refine keep_far ?_ GW148.out _ | refine keep_far ?_ GW149.out _) | exact HK.out)⟩, ⟨by repeat (first | (with_reducible first | exact HB.out | apply below_alloc | apply pw_below_drewN | apply below_drew1 | refine below_set ?_ (IsS71.ge HI0.out) | refine below_set ?_ GE148.out | refine below_set ?_ GE149.out) | exact HB.out)⟩⟩
        · rw [if_neg c9] at H
          have c9b0 : decide (2 < a1) = false := decide_eq_false c9
          clear c9
          by_cases c10 : a2_0 = 4
          · rw [if_pos c10] at H
            have c10b0 : (a2_0 == 4) = true := beq_iff_eq.mpr c10
            have c10b1 : (a2_0 != 4) = false := bne_eq_false_iff_eq.mpr c10
            clear c10
            replace H := Option.bind_eq_some_iff.mp H
            obtain ⟨t150, A110, H⟩ := H
            replace H : (if t150 = 0 then (if a2_8 > 2 then (arbiter_Arbiter_Serve.j0 k a1 true s0_0 s0_1 s0_2 s0_3 s0_4 s0_5 s0_6 s0_7 a2_0 a2_1 a2_2 a2_3 a2_4 a2_5 a2_6 a2_7 a2_8 l2_9 l2_10) else (if a2_1 = 0 then (arbiter_Arbiter_Serve.j0 k a1 (a2_8 != 0) s0_0 s0_1 s0_2 s0_3 s0_4 s0_5 s0_6 s0_7 a2_0 a2_1 a2_2 a2_3 a2_4 a2_5 a2_6 a2_7 a2_8 l2_9 l2_10) else (arbiter_Arbiter_Serve.j0 k a1 false s0_0 s0_1 s0_2 s0_3 s0_4 s0_5 s0_6 s0_7 a2_0 a2_1 a2_2 a2_3 a2_4 a2_5 a2_6 a2_7 a2_8 l2_9 l2_10))) else (arbiter_Arbiter_Serve.j0 k a1 true s0_0 s0_1 s0_2 s0_3 s0_4 s0_5 s0_6 s0_7 a2_0 a2_1 a2_2 a2_3 a2_4 a2_5 a2_6 a2_7 a2_8 l2_9 l2_10)) = some (r1, r2, r3, r4, r5, r6, r7, r8, r9, r10, r11, r12, r13, r14, r15, r16, r17, r18, r19) := H
            have A11 := Aside0.mk A110
            clear A110
            by_cases c12 : t150 = 0
            · rw [if_pos c12] at H
              have c12b0 : (t150 == 0) = true := beq_iff_eq.mpr c12
              have c12b1 : (t150 != 0) = false := bne_eq_false_iff_eq.mpr c12
              clear c12
              by_cases c13 : a2_8 > 2
              · rw [if_pos c13] at H
                have c13b0 : decide (2 < a2_8) = true := decide_eq_true c13
                clear c13
                have H' := Aside0.mk H
                clear H
                have hnb14 := NB148_149.out
                have hnc14 := NB149_148.out
                have hnb15 := NB148_0.out
                have hnc15 := NB0_148.out
                obtain ⟨hcz16_0, hcz16_1, hcz16_2, hcz16_3, hcz16_4, hcz16_5, hcz16_6, hcz16_7, hcz16_8, hcz16_9, hcz16_10, hfz16_0, hfz16_1, hfz16_2, hfz16_3, hfz16_4, hfz16_5, hfz16_6, hfz16_7, hfz16_8, hfz16_9, hfz16_10⟩ := blk_all11 BK148.out
                go_wp2_with (first | (go_at_call 31; (with_reducible refine (note_Check.calls a2_0 a2_1 a2_2 a2_3 a2_4 a2_5 a2_6 a2_7 a2_8 _ _ l2_9 _ _ l2_10 t150 _ ?side1 ?side2 ?side3 ?side4 A11.out).mono ?_); (case side1 => exact Kd.C_keep 0 HR2_9.out (by repeat (first | (with_reducible first | exact HK.out | apply KeepBut.set_ | apply keep_drewN | apply keep_drew | apply keep_alloc | refine keep_far ?_ GW148.out _ | refine keep_far ?_ GW149.out _) | exact HK.out)) hf2_9); (case side2 => exact HC2_9.out); (case side3 => exact Kd.C_keep 0 HR2_10.out (by repeat (first | (with_reducible first | exact HK.out | apply KeepBut.set_ | apply keep_drewN | apply keep_drew | apply keep_alloc | refine keep_far ?_ GW148.out _ | refine keep_far ?_ GW149.out _) | exact HK.out)) hf2_10); (case side4 => exact HC2_10.out); rintro e w17 ⟨rfl, hb⟩; have n0_ := Aside0.mk (IsS71.below (by repeat (first | (with_reducible first | exact HI0.out | apply IsS71.alloc | apply IsS71.drewN | apply IsS71.drew | apply IsS71.set_0 | apply IsS71.set_1 | apply IsS71.set_2 | apply IsS71.set_3 | apply IsS71.set_4 | apply IsS71.set_5 | apply IsS71.set_6 | apply IsS71.set_7 | refine IsS71.far ?_ NB0_148.out _ | refine IsS71.far ?_ NB0_149.out _) | refine IsS71.far ?_ NB0_148.out _ | refine IsS71.far ?_ NB0_149.out _ | exact HI0.out)) hb); have n1_ := Aside0.mk (blk_below (g := gb148) (o := .cells #[.int .i64 a2_0, .int .u32 a2_1, .int .u32 a2_2, .int .u64 a2_3, .int .u64 a2_4, .int .u32 a2_5, .int .i64 a2_6, .bool a2_7, .int .i64 a2_8, .slice A2_9 l2_9.length c2_9, .slice A2_10 l2_10.length c2_10] 30 (0, 0)) (by (with_reducible repeat (first | apply bd1 | apply bd2 | apply bd3)); exact BK148.out) hb); have n2_ := Aside0.mk (blk_below (g := gb149) (o := .cells #[.int .i64 0, .int .u32 0, .int .u32 0, .int .u64 0, .int .u64 0, .int .u32 0, .int .i64 0, .bool false, .int .i64 0, .slice none 0 0, .slice none 0 0] 30 (0, 0)) (by (with_reducible repeat (first | apply bd1 | apply bd2 | apply bd3)); exact BK149.out) hb); have n3_ := Aside0.mk (KeepBut.trans (by repeat (first | (with_reducible first | exact HK.out | apply KeepBut.set_ | apply keep_drewN | apply keep_drew | apply keep_alloc | refine keep_far ?_ GW148.out _ | refine keep_far ?_ GW149.out _) | exact HK.out)) (KeepBut.of_below hb g none) (.inl rfl)); have n4_ := Aside0.mk (below_step (by repeat (first | (with_reducible first | exact HB.out | apply below_alloc | apply pw_below_drewN | apply below_drew1 | refine below_set ?_ (IsS71.ge HI0.out) | refine below_set ?_ GE148.out | refine below_set ?_ GE149.out) | exact HB.out)) hb); clear HI0; clear BK148; clear BK149; clear HK; clear HB; have HI0 := n0_; have BK148 := n1_; have BK149 := n2_; have HK := n3_; have HB := n4_; clear n0_ n1_ n2_ n3_ n4_; (try clear hb); (try clear hb2); (try clear hk); (try clear hi); obtain ⟨hcz18_0, hcz18_1, hcz18_2, hcz18_3, hcz18_4, hcz18_5, hcz18_6, hcz18_7, hcz18_8, hcz18_9, hcz18_10, hfz18_0, hfz18_1, hfz18_2, hfz18_3, hfz18_4, hfz18_5, hfz18_6, hfz18_7, hfz18_8, hfz18_9, hfz18_10⟩ := blk_all11 BK148.out))
                go_meet
                case rel => exact ⟨_, (true), (by first | rfl | (simp; done) | (simp [*]; done)), H', ⟨by first | omega | exact Nat.le_refl _⟩, ⟨by (with_reducible repeat (first | apply bd1 | apply bd2 | apply bd3)); exact BK148.out⟩, ⟨by (with_reducible repeat (first | apply bd1 | apply bd2 | apply bd3)); exact BK149.out⟩, ⟨by repeat (first | (with_reducible first | exact HI0.out | apply IsS71.alloc | apply IsS71.drewN | apply IsS71.drew | apply IsS71.set_0 | apply IsS71.set_1 | apply IsS71.set_2 | apply IsS71.set_3 | apply IsS71.set_4 | apply IsS71.set_5 | apply IsS71.set_6 | apply IsS71.set_7 | refine IsS71.far ?_ NB0_148.out _ | refine IsS71.far ?_ NB0_149.out _) | refine IsS71.far ?_ NB0_148.out _ | refine IsS71.far ?_ NB0_149.out _ | exact HI0.out)⟩, ⟨by repeat (first | (with_reducible first | exact HK.out | apply KeepBut.set_ | apply keep_drewN | apply keep_drew | apply keep_alloc | refine keep_far ?_ GW148.out _ | refine keep_far ?_ GW149.out _) | exact HK.out)⟩, ⟨by repeat (first | (with_reducible first | exact HB.out | apply below_alloc | apply pw_below_drewN | apply below_drew1 | refine below_set ?_ (IsS71.ge HI0.out) | refine below_set ?_ GE148.out | refine below_set ?_ GE149.out) | exact HB.out)⟩⟩
              · rw [if_neg c13] at H
                have c13b0 : decide (2 < a2_8) = false := decide_eq_false c13
                clear c13
                by_cases c19 : a2_1 = 0
                · rw [if_pos c19] at H
                  have c19b0 : (a2_1 == 0) = true := beq_iff_eq.mpr c19
                  have c19b1 : (a2_1 != 0) = false := bne_eq_false_iff_eq.mpr c19
                  clear c19
                  have H' := Aside0.mk H
                  clear H
                  have hnb20 := NB148_149.out
                  have hnc20 := NB149_148.out
                  have hnb21 := NB148_0.out
                  have hnc21 := NB0_148.out
                  obtain ⟨hcz22_0, hcz22_1, hcz22_2, hcz22_3, hcz22_4, hcz22_5, hcz22_6, hcz22_7, hcz22_8, hcz22_9, hcz22_10, hfz22_0, hfz22_1, hfz22_2, hfz22_3, hfz22_4, hfz22_5, hfz22_6, hfz22_7, hfz22_8, hfz22_9, hfz22_10⟩ := blk_all11 BK148.out
                  go_wp2_with (first | (go_at_call 31; (with_reducible refine (note_Check.calls a2_0 a2_1 a2_2 a2_3 a2_4 a2_5 a2_6 a2_7 a2_8 _ _ l2_9 _ _ l2_10 t150 _ ?side1 ?side2 ?side3 ?side4 A11.out).mono ?_); (case side1 => exact Kd.C_keep 0 HR2_9.out (by repeat (first | (with_reducible first | exact HK.out | apply KeepBut.set_ | apply keep_drewN | apply keep_drew | apply keep_alloc | refine keep_far ?_ GW148.out _ | refine keep_far ?_ GW149.out _) | exact HK.out)) hf2_9); (case side2 => exact HC2_9.out); (case side3 => exact Kd.C_keep 0 HR2_10.out (by repeat (first | (with_reducible first | exact HK.out | apply KeepBut.set_ | apply keep_drewN | apply keep_drew | apply keep_alloc | refine keep_far ?_ GW148.out _ | refine keep_far ?_ GW149.out _) | exact HK.out)) hf2_10); (case side4 => exact HC2_10.out); rintro e w23 ⟨rfl, hb⟩; have n0_ := Aside0.mk (IsS71.below (by repeat (first | (with_reducible first | exact HI0.out | apply IsS71.alloc | apply IsS71.drewN | apply IsS71.drew | apply IsS71.set_0 | apply IsS71.set_1 | apply IsS71.set_2 | apply IsS71.set_3 | apply IsS71.set_4 | apply IsS71.set_5 | apply IsS71.set_6 | apply IsS71.set_7 | refine IsS71.far ?_ NB0_148.out _ | refine IsS71.far ?_ NB0_149.out _) | refine IsS71.far ?_ NB0_148.out _ | refine IsS71.far ?_ NB0_149.out _ | exact HI0.out)) hb); have n1_ := Aside0.mk (blk_below (g := gb148) (o := .cells #[.int .i64 a2_0, .int .u32 a2_1, .int .u32 a2_2, .int .u64 a2_3, .int .u64 a2_4, .int .u32 a2_5, .int .i64 a2_6, .bool a2_7, .int .i64 a2_8, .slice A2_9 l2_9.length c2_9, .slice A2_10 l2_10.length c2_10] 30 (0, 0)) (by (with_reducible repeat (first | apply bd1 | apply bd2 | apply bd3)); exact BK148.out) hb); have n2_ := Aside0.mk (blk_below (g := gb149) (o := .cells #[.int .i64 0, .int .u32 0, .int .u32 0, .int .u64 0, .int .u64 0, .int .u32 0, .int .i64 0, .bool false, .int .i64 0, .slice none 0 0, .slice none 0 0] 30 (0, 0)) (by (with_reducible repeat (first | apply bd1 | apply bd2 | apply bd3)); exact BK149.out) hb); have n3_ := Aside0.mk (KeepBut.trans (by repeat (first | (with_reducible first | exact HK.out | apply KeepBut.set_ | apply keep_drewN | apply keep_drew | apply keep_alloc | refine keep_far ?_ GW148.out _ | refine keep_far ?_ GW149.out _) | exact HK.out)) (KeepBut.of_below hb g none) (.inl rfl)); have n4_ := Aside0.mk (below_step (by repeat (first | (with_reducible first | exact HB.out | apply below_alloc | apply pw_below_drewN | apply below_drew1 | refine below_set ?_ (IsS71.ge HI0.out) | refine below_set ?_ GE148.out | refine below_set ?_ GE149.out) | exact HB.out)) hb); clear HI0; clear BK148; clear BK149; clear HK; clear HB; have HI0 := n0_; have BK148 := n1_; have BK149 := n2_; have HK := n3_; have HB := n4_; clear n0_ n1_ n2_ n3_ n4_; (try clear hb); (try clear hb2); (try clear hk); (try clear hi); obtain ⟨hcz24_0, hcz24_1, hcz24_2, hcz24_3, hcz24_4, hcz24_5, hcz24_6, hcz24_7, hcz24_8, hcz24_9, hcz24_10, hfz24_0, hfz24_1, hfz24_2, hfz24_3, hfz24_4, hfz24_5, hfz24_6, hfz24_7, hfz24_8, hfz24_9, hfz24_10⟩ := blk_all11 BK148.out))
                  go_meet
                  case rel => exact ⟨_, ((a2_8 != 0)), (by first | rfl | (simp; done) | (simp [*]; done)), H', ⟨by first | omega | exact Nat.le_refl _⟩, ⟨by (with_reducible repeat (first | apply bd1 | apply bd2 | apply bd3)); exact BK148.out⟩, ⟨by (with_reducible repeat (first | apply bd1 | apply bd2 | apply bd3)); exact BK149.out⟩, ⟨by repeat (first | (with_reducible first | exact HI0.out | apply IsS71.alloc | apply IsS71.drewN | apply IsS71.drew | apply IsS71.set_0 | apply IsS71.set_1 | apply IsS71.set_2 | apply IsS71.set_3 | apply IsS71.set_4 | apply IsS71.set_5 | apply IsS71.set_6 | apply IsS71.set_7 | refine IsS71.far ?_ NB0_148.out _ | refine IsS71.far ?_ NB0_149.out _) | refine IsS71.far ?_ NB0_148.out _ | refine IsS71.far ?_ NB0_149.out _ | exact HI0.out)⟩, ⟨by repeat (first | (with_reducible first | exact HK.out | apply KeepBut.set_ | apply keep_drewN | apply keep_drew | apply keep_alloc | refine keep_far ?_ GW148.out _ | refine keep_far ?_ GW149.out _) | exact HK.out)⟩, ⟨by repeat (first | (with_reducible first | exact HB.out | apply below_alloc | apply pw_below_drewN | apply below_drew1 | refine below_set ?_ (IsS71.ge HI0.out) | refine below_set ?_ GE148.out | refine below_set ?_ GE149.out) | exact HB.out)⟩⟩
                · rw [if_neg c19] at H
                  have c19b0 : (a2_1 == 0) = false := beq_eq_false_iff_ne.mpr c19
                  have c19b1 : (a2_1 != 0) = true := bne_iff_ne.mpr c19
                  have H' := Aside0.mk H
                  clear H
                  have hnb25 := NB148_149.out
                  have hnc25 := NB149_148.out
                  have hnb26 := NB148_0.out
                  have hnc26 := NB0_148.out
                  obtain ⟨hcz27_0, hcz27_1, hcz27_2, hcz27_3, hcz27_4, hcz27_5, hcz27_6, hcz27_7, hcz27_8, hcz27_9, hcz27_10, hfz27_0, hfz27_1, hfz27_2, hfz27_3, hfz27_4, hfz27_5, hfz27_6, hfz27_7, hfz27_8, hfz27_9, hfz27_10⟩ := blk_all11 BK148.out
                  go_wp2_with (first | (go_at_call 31; (with_reducible refine (note_Check.calls a2_0 a2_1 a2_2 a2_3 a2_4 a2_5 a2_6 a2_7 a2_8 _ _ l2_9 _ _ l2_10 t150 _ ?side1 ?side2 ?side3 ?side4 A11.out).mono ?_); (case side1 => exact Kd.C_keep 0 HR2_9.out (by repeat (first | (with_reducible first | exact HK.out | apply KeepBut.set_ | apply keep_drewN | apply keep_drew | apply keep_alloc | refine keep_far ?_ GW148.out _ | refine keep_far ?_ GW149.out _) | exact HK.out)) hf2_9); (case side2 => exact HC2_9.out); (case side3 => exact Kd.C_keep 0 HR2_10.out (by repeat (first | (with_reducible first | exact HK.out | apply KeepBut.set_ | apply keep_drewN | apply keep_drew | apply keep_alloc | refine keep_far ?_ GW148.out _ | refine keep_far ?_ GW149.out _) | exact HK.out)) hf2_10); (case side4 => exact HC2_10.out); rintro e w28 ⟨rfl, hb⟩; have n0_ := Aside0.mk (IsS71.below (by repeat (first | (with_reducible first | exact HI0.out | apply IsS71.alloc | apply IsS71.drewN | apply IsS71.drew | apply IsS71.set_0 | apply IsS71.set_1 | apply IsS71.set_2 | apply IsS71.set_3 | apply IsS71.set_4 | apply IsS71.set_5 | apply IsS71.set_6 | apply IsS71.set_7 | refine IsS71.far ?_ NB0_148.out _ | refine IsS71.far ?_ NB0_149.out _) | refine IsS71.far ?_ NB0_148.out _ | refine IsS71.far ?_ NB0_149.out _ | exact HI0.out)) hb); have n1_ := Aside0.mk (blk_below (g := gb148) (o := .cells #[.int .i64 a2_0, .int .u32 a2_1, .int .u32 a2_2, .int .u64 a2_3, .int .u64 a2_4, .int .u32 a2_5, .int .i64 a2_6, .bool a2_7, .int .i64 a2_8, .slice A2_9 l2_9.length c2_9, .slice A2_10 l2_10.length c2_10] 30 (0, 0)) (by (with_reducible repeat (first | apply bd1 | apply bd2 | apply bd3)); exact BK148.out) hb); have n2_ := Aside0.mk (blk_below (g := gb149) (o := .cells #[.int .i64 0, .int .u32 0, .int .u32 0, .int .u64 0, .int .u64 0, .int .u32 0, .int .i64 0, .bool false, .int .i64 0, .slice none 0 0, .slice none 0 0] 30 (0, 0)) (by (with_reducible repeat (first | apply bd1 | apply bd2 | apply bd3)); exact BK149.out) hb); have n3_ := Aside0.mk (KeepBut.trans (by repeat (first | (with_reducible first | exact HK.out | apply KeepBut.set_ | apply keep_drewN | apply keep_drew | apply keep_alloc | refine keep_far ?_ GW148.out _ | refine keep_far ?_ GW149.out _) | exact HK.out)) (KeepBut.of_below hb g none) (.inl rfl)); have n4_ := Aside0.mk (below_step (by repeat (first | (with_reducible first | exact HB.out | apply below_alloc | apply pw_below_drewN | apply below_drew1 | refine below_set ?_ (IsS71.ge HI0.out) | refine below_set ?_ GE148.out | refine below_set ?_ GE149.out) | exact HB.out)) hb); clear HI0; clear BK148; clear BK149; clear HK; clear HB; have HI0 := n0_; have BK148 := n1_; have BK149 := n2_; have HK := n3_; have HB := n4_; clear n0_ n1_ n2_ n3_ n4_; (try clear hb); (try clear hb2); (try clear hk); (try clear hi); obtain ⟨hcz29_0, hcz29_1, hcz29_2, hcz29_3, hcz29_4, hcz29_5, hcz29_6, hcz29_7, hcz29_8, hcz29_9, hcz29_10, hfz29_0, hfz29_1, hfz29_2, hfz29_3, hfz29_4, hfz29_5, hfz29_6, hfz29_7, hfz29_8, hfz29_9, hfz29_10⟩ := blk_all11 BK148.out))
                  go_meet
                  case rel => exact ⟨_, (false), (by first | rfl | (simp; done) | (simp [*]; done)), H', ⟨by first | omega | exact Nat.le_refl _⟩, ⟨by (with_reducible repeat (first | apply bd1 | apply bd2 | apply bd3)); exact BK148.out⟩, ⟨by (with_reducible repeat (first | apply bd1 | apply bd2 | apply bd3)); exact BK149.out⟩, ⟨by repeat (first | (with_reducible first | exact HI0.out | apply IsS71.alloc | apply IsS71.drewN | apply IsS71.drew | apply IsS71.set_0 | apply IsS71.set_1 | apply IsS71.set_2 | apply IsS71.set_3 | apply IsS71.set_4 | apply IsS71.set_5 | apply IsS71.set_6 | apply IsS71.set_7 | refine IsS71.far ?_ NB0_148.out _ | refine IsS71.far ?_ NB0_149.out _) | refine IsS71.far ?_ NB0_148.out _ | refine IsS71.far ?_ NB0_149.out _ | exact HI0.out)⟩, ⟨by repeat (first | (with_reducible first | exact HK.out | apply KeepBut.set_ | apply keep_drewN | apply keep_drew | apply keep_alloc | refine keep_far ?_ GW148.out _ | refine keep_far ?_ GW149.out _) | exact HK.out)⟩, ⟨by repeat (first | (with_reducible first | exact HB.out | apply below_alloc | apply pw_below_drewN | apply below_drew1 | refine below_set ?_ (IsS71.ge HI0.out) | refine below_set ?_ GE148.out | refine below_set ?_ GE149.out) | exact HB.out)⟩⟩
            · rw [if_neg c12] at H
              have c12b0 : (t150 == 0) = false := beq_eq_false_iff_ne.mpr c12
              have c12b1 : (t150 != 0) = true := bne_iff_ne.mpr c12
              have H' := Aside0.mk H
              clear H
              have hnb30 := NB148_149.out
              have hnc30 := NB149_148.out
              have hnb31 := NB148_0.out
              have hnc31 := NB0_148.out
              obtain ⟨hcz32_0, hcz32_1, hcz32_2, hcz32_3, hcz32_4, hcz32_5, hcz32_6, hcz32_7, hcz32_8, hcz32_9, hcz32_10, hfz32_0, hfz32_1, hfz32_2, hfz32_3, hfz32_4, hfz32_5, hfz32_6, hfz32_7, hfz32_8, hfz32_9, hfz32_10⟩ := blk_all11 BK148.out
              go_wp2_with (first | (go_at_call 31; (with_reducible refine (note_Check.calls a2_0 a2_1 a2_2 a2_3 a2_4 a2_5 a2_6 a2_7 a2_8 _ _ l2_9 _ _ l2_10 t150 _ ?side1 ?side2 ?side3 ?side4 A11.out).mono ?_); (case side1 => exact Kd.C_keep 0 HR2_9.out (by repeat (first | (with_reducible first | exact HK.out | apply KeepBut.set_ | apply keep_drewN | apply keep_drew | apply keep_alloc | refine keep_far ?_ GW148.out _ | refine keep_far ?_ GW149.out _) | exact HK.out)) hf2_9); (case side2 => exact HC2_9.out); (case side3 => exact Kd.C_keep 0 HR2_10.out (by repeat (first | (with_reducible first | exact HK.out | apply KeepBut.set_ | apply keep_drewN | apply keep_drew | apply keep_alloc | refine keep_far ?_ GW148.out _ | refine keep_far ?_ GW149.out _) | exact HK.out)) hf2_10); (case side4 => exact HC2_10.out); rintro e w33 ⟨rfl, hb⟩; have n0_ := Aside0.mk (IsS71.below (by repeat (first | (with_reducible first | exact HI0.out | apply IsS71.alloc | apply IsS71.drewN | apply IsS71.drew | apply IsS71.set_0 | apply IsS71.set_1 | apply IsS71.set_2 | apply IsS71.set_3 | apply IsS71.set_4 | apply IsS71.set_5 | apply IsS71.set_6 | apply IsS71.set_7 | refine IsS71.far ?_ NB0_148.out _ | refine IsS71.far ?_ NB0_149.out _) | refine IsS71.far ?_ NB0_148.out _ | refine IsS71.far ?_ NB0_149.out _ | exact HI0.out)) hb); have n1_ := Aside0.mk (blk_below (g := gb148) (o := .cells #[.int .i64 a2_0, .int .u32 a2_1, .int .u32 a2_2, .int .u64 a2_3, .int .u64 a2_4, .int .u32 a2_5, .int .i64 a2_6, .bool a2_7, .int .i64 a2_8, .slice A2_9 l2_9.length c2_9, .slice A2_10 l2_10.length c2_10] 30 (0, 0)) (by (with_reducible repeat (first | apply bd1 | apply bd2 | apply bd3)); exact BK148.out) hb); have n2_ := Aside0.mk (blk_below (g := gb149) (o := .cells #[.int .i64 0, .int .u32 0, .int .u32 0, .int .u64 0, .int .u64 0, .int .u32 0, .int .i64 0, .bool false, .int .i64 0, .slice none 0 0, .slice none 0 0] 30 (0, 0)) (by (with_reducible repeat (first | apply bd1 | apply bd2 | apply bd3)); exact BK149.out) hb); have n3_ := Aside0.mk (KeepBut.trans (by repeat (first | (with_reducible first | exact HK.out | apply KeepBut.set_ | apply keep_drewN | apply keep_drew | apply keep_alloc | refine keep_far ?_ GW148.out _ | refine keep_far ?_ GW149.out _) | exact HK.out)) (KeepBut.of_below hb g none) (.inl rfl)); have n4_ := Aside0.mk (below_step (by repeat (first | (with_reducible first | exact HB.out | apply below_alloc | apply pw_below_drewN | apply below_drew1 | refine below_set ?_ (IsS71.ge HI0.out) | refine below_set ?_ GE148.out | refine below_set ?_ GE149.out) | exact HB.out)) hb); clear HI0; clear BK148; clear BK149; clear HK; clear HB; have HI0 := n0_; have BK148 := n1_; have BK149 := n2_; have HK := n3_; have HB := n4_; clear n0_ n1_ n2_ n3_ n4_; (try clear hb); (try clear hb2); (try clear hk); (try clear hi)))
              go_meet
              case rel => exact ⟨_, (true), (by first | rfl | (simp; done) | (simp [*]; done)), H', ⟨by first | omega | exact Nat.le_refl _⟩, ⟨by (with_reducible repeat (first | apply bd1 | apply bd2 | apply bd3)); exact BK148.out⟩, ⟨by (with_reducible repeat (first | apply bd1 | apply bd2 | apply bd3)); exact BK149.out⟩, ⟨by repeat (first | (with_reducible first | exact HI0.out | apply IsS71.alloc | apply IsS71.drewN | apply IsS71.drew | apply IsS71.set_0 | apply IsS71.set_1 | apply IsS71.set_2 | apply IsS71.set_3 | apply IsS71.set_4 | apply IsS71.set_5 | apply IsS71.set_6 | apply IsS71.set_7 | refine IsS71.far ?_ NB0_148.out _ | refine IsS71.far ?_ NB0_149.out _) | refine IsS71.far ?_ NB0_148.out _ | refine IsS71.far ?_ NB0_149.out _ | exact HI0.out)⟩, ⟨by repeat (first | (with_reducible first | exact HK.out | apply KeepBut.set_ | apply keep_drewN | apply keep_drew | apply keep_alloc | refine keep_far ?_ GW148.out _ | refine keep_far ?_ GW149.out _) | exact HK.out)⟩, ⟨by repeat (first | (with_reducible first | exact HB.out | apply below_alloc | apply pw_below_drewN | apply below_drew1 | refine below_set ?_ (IsS71.ge HI0.out) | refine below_set ?_ GE148.out | refine below_set ?_ GE149.out) | exact HB.out)⟩⟩
          · rw [if_neg c10] at H
            have c10b0 : (a2_0 == 4) = false := beq_eq_false_iff_ne.mpr c10
            have c10b1 : (a2_0 != 4) = true := bne_iff_ne.mpr c10
            have H' := Aside0.mk H
            clear H
            have hnb34 := NB148_149.out
            have hnc34 := NB149_148.out
            have hnb35 := NB148_0.out
            have hnc35 := NB0_148.out
            obtain ⟨hcz36_0, hcz36_1, hcz36_2, hcz36_3, hcz36_4, hcz36_5, hcz36_6, hcz36_7, hcz36_8, hcz36_9, hcz36_10, hfz36_0, hfz36_1, hfz36_2, hfz36_3, hfz36_4, hfz36_5, hfz36_6, hfz36_7, hfz36_8, hfz36_9, hfz36_10⟩ := blk_all11 BK148.out
            go_wp2
            go_meet
            case rel => exact ⟨_, (true), (by first | rfl | (simp; done) | (simp [*]; done)), H', ⟨by first | omega | exact Nat.le_refl _⟩, ⟨by (with_reducible repeat (first | apply bd1 | apply bd2 | apply bd3)); exact BK148.out⟩, ⟨by (with_reducible repeat (first | apply bd1 | apply bd2 | apply bd3)); exact BK149.out⟩, ⟨by repeat (first | (with_reducible first | exact HI0.out | apply IsS71.alloc | apply IsS71.drewN | apply IsS71.drew | apply IsS71.set_0 | apply IsS71.set_1 | apply IsS71.set_2 | apply IsS71.set_3 | apply IsS71.set_4 | apply IsS71.set_5 | apply IsS71.set_6 | apply IsS71.set_7 | refine IsS71.far ?_ NB0_148.out _ | refine IsS71.far ?_ NB0_149.out _) | refine IsS71.far ?_ NB0_148.out _ | refine IsS71.far ?_ NB0_149.out _ | exact HI0.out)⟩, ⟨by repeat (first | (with_reducible first | exact HK.out | apply KeepBut.set_ | apply keep_drewN | apply keep_drew | apply keep_alloc | refine keep_far ?_ GW148.out _ | refine keep_far ?_ GW149.out _) | exact HK.out)⟩, ⟨by repeat (first | (with_reducible first | exact HB.out | apply below_alloc | apply pw_below_drewN | apply below_drew1 | refine below_set ?_ (IsS71.ge HI0.out) | refine below_set ?_ GE148.out | refine below_set ?_ GE149.out) | exact HB.out)⟩⟩
    case rest =>
      clear HC7
      try clear c1
      try clear c2
      try clear p2
      try clear c3
      try clear c8
      try clear c8b0
      try clear c9
      try clear c9b0
      try clear c10
      try clear c10b0
      try clear c10b1
      try clear c11
      try clear c12
      try clear c12b0
      try clear c12b1
      try clear c13
      try clear c13b0
      try clear c14
      try clear c15
      try clear c19
      try clear c19b0
      try clear c19b1
      try clear c20
      try clear c21
      try clear c25
      try clear c26
      try clear c30
      try clear c31
      try clear c34
      try clear c35
      try clear hcz16_0
      try clear hcz16_1
      try clear hcz16_10
      try clear hcz16_2
      try clear hcz16_3
      try clear hcz16_4
      try clear hcz16_5
      try clear hcz16_6
      try clear hcz16_7
      try clear hcz16_8
      try clear hcz16_9
      try clear hcz18_0
      try clear hcz18_1
      try clear hcz18_10
      try clear hcz18_2
      try clear hcz18_3
      try clear hcz18_4
      try clear hcz18_5
      try clear hcz18_6
      try clear hcz18_7
      try clear hcz18_8
      try clear hcz18_9
      try clear hcz22_0
      try clear hcz22_1
      try clear hcz22_10
      try clear hcz22_2
      try clear hcz22_3
      try clear hcz22_4
      try clear hcz22_5
      try clear hcz22_6
      try clear hcz22_7
      try clear hcz22_8
      try clear hcz22_9
      try clear hcz24_0
      try clear hcz24_1
      try clear hcz24_10
      try clear hcz24_2
      try clear hcz24_3
      try clear hcz24_4
      try clear hcz24_5
      try clear hcz24_6
      try clear hcz24_7
      try clear hcz24_8
      try clear hcz24_9
      try clear hcz27_0
      try clear hcz27_1
      try clear hcz27_10
      try clear hcz27_2
      try clear hcz27_3
      try clear hcz27_4
      try clear hcz27_5
      try clear hcz27_6
      try clear hcz27_7
      try clear hcz27_8
      try clear hcz27_9
      try clear hcz29_0
      try clear hcz29_1
      try clear hcz29_10
      try clear hcz29_2
      try clear hcz29_3
      try clear hcz29_4
      try clear hcz29_5
      try clear hcz29_6
      try clear hcz29_7
      try clear hcz29_8
      try clear hcz29_9
      try clear hcz32_0
      try clear hcz32_1
      try clear hcz32_10
      try clear hcz32_2
      try clear hcz32_3
      try clear hcz32_4
      try clear hcz32_5
      try clear hcz32_6
      try clear hcz32_7
      try clear hcz32_8
      try clear hcz32_9
      try clear hcz36_0
      try clear hcz36_1
      try clear hcz36_10
      try clear hcz36_2
      try clear hcz36_3
      try clear hcz36_4
      try clear hcz36_5
      try clear hcz36_6
      try clear hcz36_7
      try clear hcz36_8
      try clear hcz36_9
      try clear hfz16_0
      try clear hfz16_1
      try clear hfz16_10
      try clear hfz16_2
      try clear hfz16_3
      try clear hfz16_4
      try clear hfz16_5
      try clear hfz16_6
      try clear hfz16_7
      try clear hfz16_8
      try clear hfz16_9
      try clear hfz18_0
      try clear hfz18_1
      try clear hfz18_10
      try clear hfz18_2
      try clear hfz18_3
      try clear hfz18_4
      try clear hfz18_5
      try clear hfz18_6
      try clear hfz18_7
      try clear hfz18_8
      try clear hfz18_9
      try clear hfz22_0
      try clear hfz22_1
      try clear hfz22_10
      try clear hfz22_2
      try clear hfz22_3
      try clear hfz22_4
      try clear hfz22_5
      try clear hfz22_6
      try clear hfz22_7
      try clear hfz22_8
      try clear hfz22_9
      try clear hfz24_0
      try clear hfz24_1
      try clear hfz24_10
      try clear hfz24_2
      try clear hfz24_3
      try clear hfz24_4
      try clear hfz24_5
      try clear hfz24_6
      try clear hfz24_7
      try clear hfz24_8
      try clear hfz24_9
      try clear hfz27_0
      try clear hfz27_1
      try clear hfz27_10
      try clear hfz27_2
      try clear hfz27_3
      try clear hfz27_4
      try clear hfz27_5
      try clear hfz27_6
      try clear hfz27_7
      try clear hfz27_8
      try clear hfz27_9
      try clear hfz29_0
      try clear hfz29_1
      try clear hfz29_10
      try clear hfz29_2
      try clear hfz29_3
      try clear hfz29_4
      try clear hfz29_5
      try clear hfz29_6
      try clear hfz29_7
      try clear hfz29_8
      try clear hfz29_9
      try clear hfz32_0
      try clear hfz32_1
      try clear hfz32_10
      try clear hfz32_2
      try clear hfz32_3
      try clear hfz32_4
      try clear hfz32_5
      try clear hfz32_6
      try clear hfz32_7
      try clear hfz32_8
      try clear hfz32_9
      try clear hfz36_0
      try clear hfz36_1
      try clear hfz36_10
      try clear hfz36_2
      try clear hfz36_3
      try clear hfz36_4
      try clear hfz36_5
      try clear hfz36_6
      try clear hfz36_7
      try clear hfz36_8
      try clear hfz36_9
      obtain ⟨kq, x13_6, rfl, HA, HJ6, BK148, BK149, HI0, HK, HB⟩ := hcut
      cases kq with
      | zero => exact absurd HA.out (by simp [arbiter_Arbiter_Serve.j0])
      | succ kj6 =>
        have H := HA.out
        clear HA
        simp only [arbiter_Arbiter_Serve.j0] at H
        by_cases c37 : x13_6 = true
        · subst c37
          have H1 : ((arbiter_Arbiter_no.f s0_0 s0_1 s0_2 s0_3 s0_4 s0_5 s0_6 s0_7 1).bind fun bt151 => (some (bt151.1, bt151.2.1, bt151.2.2.1, bt151.2.2.2.1, bt151.2.2.2.2.1, bt151.2.2.2.2.2.1, bt151.2.2.2.2.2.2.1, bt151.2.2.2.2.2.2.2.1, bt151.2.2.2.2.2.2.2.2.1, bt151.2.2.2.2.2.2.2.2.2.1, bt151.2.2.2.2.2.2.2.2.2.2.1, bt151.2.2.2.2.2.2.2.2.2.2.2.1, bt151.2.2.2.2.2.2.2.2.2.2.2.2.1, bt151.2.2.2.2.2.2.2.2.2.2.2.2.2.1, bt151.2.2.2.2.2.2.2.2.2.2.2.2.2.2.1, bt151.2.2.2.2.2.2.2.2.2.2.2.2.2.2.2.1, bt151.2.2.2.2.2.2.2.2.2.2.2.2.2.2.2.2.1, bt151.2.2.2.2.2.2.2.2.2.2.2.2.2.2.2.2.2.1, bt151.2.2.2.2.2.2.2.2.2.2.2.2.2.2.2.2.2.2))) = some (r1, r2, r3, r4, r5, r6, r7, r8, r9, r10, r11, r12, r13, r14, r15, r16, r17, r18, r19) := by rw [if_pos rfl] at H; exact H
          clear H
          have H := H1
          clear H1
          replace H := Option.bind_eq_some_iff.mp H
          obtain ⟨⟨t151, t152, t153, t154, t155, t156, t157, t158, t159, t160, t163, t166, t167, t168, t169, t170, t171, t172, t173⟩, A380, H⟩ := H
          replace H : (some (t151, t152, t153, t154, t155, t156, t157, t158, t159, t160, t163, t166, t167, t168, t169, t170, t171, t172, t173)) = some (r1, r2, r3, r4, r5, r6, r7, r8, r9, r10, r11, r12, r13, r14, r15, r16, r17, r18, r19) := H
          have A38 := Aside0.mk A380
          clear A380
          simp only [Option.some.injEq, Prod.mk.injEq] at H
          obtain ⟨rfl, rfl, rfl, rfl, rfl, rfl, rfl, rfl, rfl, rfl, rfl, rfl, rfl, rfl, rfl, rfl, rfl, rfl, rfl⟩ := H
          go_wp2_with (first | ((with_reducible refine gate_callee (f := 32) rfl ?_); refine goesL_ (some 46) rfl rfl Try.func32 (by kernel_rfl) rfl #[.pointer (some ⟨g, 0, none⟩), .int .i64 1] rfl (by (try simp only [List.map_toArray, List.map_cons, List.map_nil]); first | done | rfl | (simp only [List.length_drop, List.length_take]; rfl)) ?_; (with_reducible refine (arbiter_Arbiter_no.calls g s0_0 s0_1 s0_2 s0_3 s0_4 s0_5 s0_6 s0_7 1 t151 t152 t153 t154 t155 t156 t157 t158 t159 t160 t163 t166 t167 t168 t169 t170 t171 t172 t173 w0 _ ?side1 ?side2 A38.out).mono ?_); (case side1 => repeat (first | (with_reducible first | exact HI0.out | apply IsS71.alloc | apply IsS71.drewN | apply IsS71.drew | apply IsS71.set_0 | apply IsS71.set_1 | apply IsS71.set_2 | apply IsS71.set_3 | apply IsS71.set_4 | apply IsS71.set_5 | apply IsS71.set_6 | apply IsS71.set_7 | refine IsS71.far ?_ NB0_148.out _ | refine IsS71.far ?_ NB0_149.out _) | refine IsS71.far ?_ NB0_148.out _ | refine IsS71.far ?_ NB0_149.out _ | exact HI0.out)); (case side2 => repeat (first | (with_reducible first | exact HB.out | apply below_alloc | apply pw_below_drewN | apply below_drew1 | refine below_set ?_ (IsS71.ge HI0.out) | refine below_set ?_ GE148.out | refine below_set ?_ GE149.out) | exact HB.out)); rintro e w39 ⟨v161, v164, rfl, ho0, ho1, hi, hb, hk⟩; refine ⟨_, rfl, ?_⟩; have n0_ := Aside0.mk (KeepBut.blk hk (g' := gb148) (o := .cells #[.int .i64 a2_0, .int .u32 a2_1, .int .u32 a2_2, .int .u64 a2_3, .int .u64 a2_4, .int .u32 a2_5, .int .i64 a2_6, .bool a2_7, .int .i64 a2_8, .slice A2_9 l2_9.length c2_9, .slice A2_10 l2_10.length c2_10] 30 (0, 0)) (by (with_reducible repeat (first | apply bd1 | apply bd2 | apply bd3)); exact BK148.out) NB148_0.out (by simp)); have n1_ := Aside0.mk (KeepBut.blk hk (g' := gb149) (o := .cells #[.int .i64 0, .int .u32 0, .int .u32 0, .int .u64 0, .int .u64 0, .int .u32 0, .int .i64 0, .bool false, .int .i64 0, .slice none 0 0, .slice none 0 0] 30 (0, 0)) (by (with_reducible repeat (first | apply bd1 | apply bd2 | apply bd3)); exact BK149.out) NB149_0.out (by simp)); have n2_ := Aside0.mk (Kd.R_lower ho0 (keep_size (w := w) (g := g) (row := none) (by repeat (first | (with_reducible first | exact HK.out | apply KeepBut.set_ | apply keep_drewN | apply keep_drew | apply keep_alloc | refine keep_far ?_ GW148.out _ | refine keep_far ?_ GW149.out _) | exact HK.out)))); have n3_ := Aside0.mk (Kd.R_lower ho1 (keep_size (w := w) (g := g) (row := none) (by repeat (first | (with_reducible first | exact HK.out | apply KeepBut.set_ | apply keep_drewN | apply keep_drew | apply keep_alloc | refine keep_far ?_ GW148.out _ | refine keep_far ?_ GW149.out _) | exact HK.out)))); have n4_ := Aside0.mk (KeepBut.trans (by repeat (first | (with_reducible first | exact HK.out | apply KeepBut.set_ | apply keep_drewN | apply keep_drew | apply keep_alloc | refine keep_far ?_ GW148.out _ | refine keep_far ?_ GW149.out _) | exact HK.out)) hk (.inl rfl)); have n5_ := Aside0.mk (hb); have n6_ := Aside0.mk (hi); clear BK148; clear BK149; clear HK; clear HB; clear HI0; have BK148 := n0_; have BK149 := n1_; have HO162 := n2_; have HO165 := n3_; have HK := n4_; have HB := n5_; have HI0 := n6_; clear n0_ n1_ n2_ n3_ n4_ n5_ n6_; (try clear hb); (try clear hb2); (try clear hk); (try clear hi); (try clear ho0); (try clear ho1); have hnb40 := NB149_148.out; have hnc40 := NB148_149.out; have hnb41 := NB149_0.out; have hnc41 := NB0_149.out; obtain ⟨hcz42_0, hcz42_1, hcz42_2, hcz42_3, hcz42_4, hcz42_5, hcz42_6, hcz42_7, hcz42_8, hcz42_9, hcz42_10, hfz42_0, hfz42_1, hfz42_2, hfz42_3, hfz42_4, hfz42_5, hfz42_6, hfz42_7, hfz42_8, hfz42_9, hfz42_10⟩ := blk_all11 BK149.out; obtain ⟨Ao43, co43, eo43⟩ := Kd.R_slice HO162.out; subst eo43; obtain ⟨Ao44, co44, eo44⟩ := Kd.R_slice HO165.out; subst eo44))
          try (go_region; go_wp2)
          refine bodyPost_ret (results_cell_row rfl _ _ gb149 30 #[.int .i64 t151, .int .u32 t152, .int .u32 t153, .int .u64 t154, .int .u64 t155, .int .u32 t156, .int .i64 t157, .bool t158, .int .i64 t159, .slice Ao43 t160.length co43, .slice Ao44 t163.length co44] (0, 0) _ rfl (by (with_reducible repeat (first | apply bd1 | apply bd2 | apply bd3)); refine blk_put (cs := #[.int .i64 t151, .int .u32 t152, .int .u32 t153, .int .u64 t154, .int .u64 t155, .int .u32 t156, .int .i64 t157, .bool t158, .int .i64 t159, .slice Ao43 t160.length co43, .slice none 0 0]) ?_ 10 _ rfl; (with_reducible repeat (first | apply bd1 | apply bd2 | apply bd3)); refine blk_put (cs := #[.int .i64 t151, .int .u32 t152, .int .u32 t153, .int .u64 t154, .int .u64 t155, .int .u32 t156, .int .i64 t157, .bool t158, .int .i64 t159, .slice none 0 0, .slice none 0 0]) ?_ 9 _ rfl; (with_reducible repeat (first | apply bd1 | apply bd2 | apply bd3)); refine blk_put (cs := #[.int .i64 t151, .int .u32 t152, .int .u32 t153, .int .u64 t154, .int .u64 t155, .int .u32 t156, .int .i64 t157, .bool t158, .int .i64 0, .slice none 0 0, .slice none 0 0]) ?_ 8 _ rfl; (with_reducible repeat (first | apply bd1 | apply bd2 | apply bd3)); refine blk_put (cs := #[.int .i64 t151, .int .u32 t152, .int .u32 t153, .int .u64 t154, .int .u64 t155, .int .u32 t156, .int .i64 t157, .bool false, .int .i64 0, .slice none 0 0, .slice none 0 0]) ?_ 7 _ rfl; (with_reducible repeat (first | apply bd1 | apply bd2 | apply bd3)); refine blk_put (cs := #[.int .i64 t151, .int .u32 t152, .int .u32 t153, .int .u64 t154, .int .u64 t155, .int .u32 t156, .int .i64 0, .bool false, .int .i64 0, .slice none 0 0, .slice none 0 0]) ?_ 6 _ rfl; (with_reducible repeat (first | apply bd1 | apply bd2 | apply bd3)); refine blk_put (cs := #[.int .i64 t151, .int .u32 t152, .int .u32 t153, .int .u64 t154, .int .u64 t155, .int .u32 0, .int .i64 0, .bool false, .int .i64 0, .slice none 0 0, .slice none 0 0]) ?_ 5 _ rfl; (with_reducible repeat (first | apply bd1 | apply bd2 | apply bd3)); refine blk_put (cs := #[.int .i64 t151, .int .u32 t152, .int .u32 t153, .int .u64 t154, .int .u64 0, .int .u32 0, .int .i64 0, .bool false, .int .i64 0, .slice none 0 0, .slice none 0 0]) ?_ 4 _ rfl; (with_reducible repeat (first | apply bd1 | apply bd2 | apply bd3)); refine blk_put (cs := #[.int .i64 t151, .int .u32 t152, .int .u32 t153, .int .u64 0, .int .u64 0, .int .u32 0, .int .i64 0, .bool false, .int .i64 0, .slice none 0 0, .slice none 0 0]) ?_ 3 _ rfl; (with_reducible repeat (first | apply bd1 | apply bd2 | apply bd3)); refine blk_put (cs := #[.int .i64 t151, .int .u32 t152, .int .u32 0, .int .u64 0, .int .u64 0, .int .u32 0, .int .i64 0, .bool false, .int .i64 0, .slice none 0 0, .slice none 0 0]) ?_ 2 _ rfl; (with_reducible repeat (first | apply bd1 | apply bd2 | apply bd3)); refine blk_put (cs := #[.int .i64 t151, .int .u32 0, .int .u32 0, .int .u64 0, .int .u64 0, .int .u32 0, .int .i64 0, .bool false, .int .i64 0, .slice none 0 0, .slice none 0 0]) ?_ 1 _ rfl; (with_reducible repeat (first | apply bd1 | apply bd2 | apply bd3)); refine blk_put (cs := #[.int .i64 0, .int .u32 0, .int .u32 0, .int .u64 0, .int .u64 0, .int .u32 0, .int .i64 0, .bool false, .int .i64 0, .slice none 0 0, .slice none 0 0]) ?_ 0 _ rfl; (with_reducible repeat (first | apply bd1 | apply bd2 | apply bd3)); exact BK149.out) Try.underlying30 rfl (by kernel_rfl)) rfl ?_
          exact ⟨_, _, by first | rfl | (simp [errW_none, errW_some] <;> rfl) | (simp [*, errW_none, errW_some] <;> rfl), by (with_reducible repeat (first | apply Kd.R_alloc | apply Kd.R_drewN | apply Kd.R_drew)); exact Kd.R_mono (Kd.R_far (p := ⟨gb149, 10, none⟩) (Kd.R_far (p := ⟨gb149, 9, none⟩) (Kd.R_far (p := ⟨gb149, 8, none⟩) (Kd.R_far (p := ⟨gb149, 7, none⟩) (Kd.R_far (p := ⟨gb149, 6, none⟩) (Kd.R_far (p := ⟨gb149, 5, none⟩) (Kd.R_far (p := ⟨gb149, 4, none⟩) (Kd.R_far (p := ⟨gb149, 3, none⟩) (Kd.R_far (p := ⟨gb149, 2, none⟩) (Kd.R_far (p := ⟨gb149, 1, none⟩) (Kd.R_far (p := ⟨gb149, 0, none⟩) (Kd.R_types HO162.out BK149.out (by decide)) (fun _ hk => hk.2) (.int .i64 t151)) (fun _ hk => hk.2) (.int .u32 t152)) (fun _ hk => hk.2) (.int .u32 t153)) (fun _ hk => hk.2) (.int .u64 t154)) (fun _ hk => hk.2) (.int .u64 t155)) (fun _ hk => hk.2) (.int .u32 t156)) (fun _ hk => hk.2) (.int .i64 t157)) (fun _ hk => hk.2) (.bool t158)) (fun _ hk => hk.2) (.int .i64 t159)) (fun _ hk => hk.2) (.slice Ao43 t160.length co43)) (fun _ hk => hk.2) (.slice Ao44 t163.length co44)) (fun _ hk => hk.1), by (with_reducible repeat (first | apply Kd.R_alloc | apply Kd.R_drewN | apply Kd.R_drew)); exact Kd.R_mono (Kd.R_far (p := ⟨gb149, 10, none⟩) (Kd.R_far (p := ⟨gb149, 9, none⟩) (Kd.R_far (p := ⟨gb149, 8, none⟩) (Kd.R_far (p := ⟨gb149, 7, none⟩) (Kd.R_far (p := ⟨gb149, 6, none⟩) (Kd.R_far (p := ⟨gb149, 5, none⟩) (Kd.R_far (p := ⟨gb149, 4, none⟩) (Kd.R_far (p := ⟨gb149, 3, none⟩) (Kd.R_far (p := ⟨gb149, 2, none⟩) (Kd.R_far (p := ⟨gb149, 1, none⟩) (Kd.R_far (p := ⟨gb149, 0, none⟩) (Kd.R_types HO165.out BK149.out (by decide)) (fun _ hk => hk.2) (.int .i64 t151)) (fun _ hk => hk.2) (.int .u32 t152)) (fun _ hk => hk.2) (.int .u32 t153)) (fun _ hk => hk.2) (.int .u64 t154)) (fun _ hk => hk.2) (.int .u64 t155)) (fun _ hk => hk.2) (.int .u32 t156)) (fun _ hk => hk.2) (.int .i64 t157)) (fun _ hk => hk.2) (.bool t158)) (fun _ hk => hk.2) (.int .i64 t159)) (fun _ hk => hk.2) (.slice Ao43 t160.length co43)) (fun _ hk => hk.2) (.slice Ao44 t163.length co44)) (fun _ hk => hk.1), by repeat (first | (with_reducible first | exact HI0.out | apply IsS71.alloc | apply IsS71.drewN | apply IsS71.drew | apply IsS71.set_0 | apply IsS71.set_1 | apply IsS71.set_2 | apply IsS71.set_3 | apply IsS71.set_4 | apply IsS71.set_5 | apply IsS71.set_6 | apply IsS71.set_7 | refine IsS71.far ?_ NB0_148.out _ | refine IsS71.far ?_ NB0_149.out _) | refine IsS71.far ?_ NB0_148.out _ | refine IsS71.far ?_ NB0_149.out _ | exact HI0.out), by repeat (first | (with_reducible first | exact HB.out | apply below_alloc | apply pw_below_drewN | apply below_drew1 | refine below_set ?_ (IsS71.ge HI0.out) | refine below_set ?_ GE148.out | refine below_set ?_ GE149.out) | exact HB.out), by repeat (first | (with_reducible first | exact HK.out | apply KeepBut.set_ | apply keep_drewN | apply keep_drew | apply keep_alloc | refine keep_far ?_ GW148.out _ | refine keep_far ?_ GW149.out _) | exact HK.out)⟩
        · replace c37 := Bool.eq_false_iff.mpr c37
          subst c37
          have H1 : (if a2_1 = 0 then (if s0_6 = 2 then (if a1 = s0_7 then (arbiter_Arbiter_Serve.j1 kj6 a1 s0_0 s0_1 s0_2 s0_3 s0_4 s0_5 s0_6 s0_7 a2_0 a2_1 a2_2 a2_3 a2_4 a2_5 a2_6 a2_7 a2_8 l2_9 l2_10) else ((arbiter_Arbiter_no.f s0_0 s0_1 s0_2 s0_3 s0_4 s0_5 s0_6 s0_7 5).bind fun bt174 => (some (bt174.1, bt174.2.1, bt174.2.2.1, bt174.2.2.2.1, bt174.2.2.2.2.1, bt174.2.2.2.2.2.1, bt174.2.2.2.2.2.2.1, bt174.2.2.2.2.2.2.2.1, bt174.2.2.2.2.2.2.2.2.1, bt174.2.2.2.2.2.2.2.2.2.1, bt174.2.2.2.2.2.2.2.2.2.2.1, bt174.2.2.2.2.2.2.2.2.2.2.2.1, bt174.2.2.2.2.2.2.2.2.2.2.2.2.1, bt174.2.2.2.2.2.2.2.2.2.2.2.2.2.1, bt174.2.2.2.2.2.2.2.2.2.2.2.2.2.2.1, bt174.2.2.2.2.2.2.2.2.2.2.2.2.2.2.2.1, bt174.2.2.2.2.2.2.2.2.2.2.2.2.2.2.2.2.1, bt174.2.2.2.2.2.2.2.2.2.2.2.2.2.2.2.2.2.1, bt174.2.2.2.2.2.2.2.2.2.2.2.2.2.2.2.2.2.2)))) else (arbiter_Arbiter_Serve.j1 kj6 a1 s0_0 s0_1 s0_2 s0_3 s0_4 s0_5 s0_6 s0_7 a2_0 a2_1 a2_2 a2_3 a2_4 a2_5 a2_6 a2_7 a2_8 l2_9 l2_10)) else (arbiter_Arbiter_Serve.j1 kj6 a1 s0_0 s0_1 s0_2 s0_3 s0_4 s0_5 s0_6 s0_7 a2_0 a2_1 a2_2 a2_3 a2_4 a2_5 a2_6 a2_7 a2_8 l2_9 l2_10)) = some (r1, r2, r3, r4, r5, r6, r7, r8, r9, r10, r11, r12, r13, r14, r15, r16, r17, r18, r19) := by rw [if_neg (show ¬ (false = true) by decide)] at H; exact H
          clear H
          have H := H1
          clear H1
          by_cases c45 : a2_1 = 0
          · rw [if_pos c45] at H
            have c45b0 : (a2_1 == 0) = true := beq_iff_eq.mpr c45
            have c45b1 : (a2_1 != 0) = false := bne_eq_false_iff_eq.mpr c45
            clear c45
            by_cases c46 : s0_6 = 2
            · rw [if_pos c46] at H
              have c46b0 : (s0_6 == 2) = true := beq_iff_eq.mpr c46
              have c46b1 : (s0_6 != 2) = false := bne_eq_false_iff_eq.mpr c46
              clear c46
              by_cases c47 : a1 = s0_7
              · rw [if_pos c47] at H
                have c47b0 : (a1 == s0_7) = true := beq_iff_eq.mpr c47
                have c47b1 : (a1 != s0_7) = false := bne_eq_false_iff_eq.mpr c47
                clear c47
                have H' := Aside0.mk H
                clear H
                have hnb48 := NB148_149.out
                have hnc48 := NB149_148.out
                have hnb49 := NB148_0.out
                have hnc49 := NB0_148.out
                obtain ⟨hcz50_0, hcz50_1, hcz50_2, hcz50_3, hcz50_4, hcz50_5, hcz50_6, hcz50_7, hcz50_8, hcz50_9, hcz50_10, hfz50_0, hfz50_1, hfz50_2, hfz50_3, hfz50_4, hfz50_5, hfz50_6, hfz50_7, hfz50_8, hfz50_9, hfz50_10⟩ := blk_all11 BK148.out
                obtain ⟨HGz51, hgz51⟩ := HI0.out
                have hcz51_0 := cellS71_0 HGz51
                have hcz51_1 := cellS71_1 HGz51
                have hcz51_2 := cellS71_2 HGz51
                have hcz51_3 := cellS71_3 HGz51
                have hcz51_4 := cellS71_4 HGz51
                have hcz51_5 := cellS71_5 HGz51
                have hcz51_6 := cellS71_6 HGz51
                have hcz51_7 := cellS71_7 HGz51
                have hfz51_0 := blk_frozen HGz51 0
                have hfz51_1 := blk_frozen HGz51 1
                have hfz51_2 := blk_frozen HGz51 2
                have hfz51_3 := blk_frozen HGz51 3
                have hfz51_4 := blk_frozen HGz51 4
                have hfz51_5 := blk_frozen HGz51 5
                have hfz51_6 := blk_frozen HGz51 6
                have hfz51_7 := blk_frozen HGz51 7
                clear HGz51 hgz51
                go_wp2
                go_meet
                case rel => exact ⟨_, (s0_0), (s0_1), (s0_2), (s0_3), (s0_4), (s0_5), (s0_6), (s0_7), (0), (0), (0), (0), (0), (0), (0), (false), (0), H', ⟨by have := HJ6.out; first | omega | exact Nat.le_refl _⟩, ⟨by (with_reducible repeat (first | apply bd1 | apply bd2 | apply bd3)); exact BK148.out⟩, ⟨by (with_reducible repeat (first | apply bd1 | apply bd2 | apply bd3)); exact BK149.out⟩, ⟨by repeat (first | (with_reducible first | exact HI0.out | apply IsS71.alloc | apply IsS71.drewN | apply IsS71.drew | apply IsS71.set_0 | apply IsS71.set_1 | apply IsS71.set_2 | apply IsS71.set_3 | apply IsS71.set_4 | apply IsS71.set_5 | apply IsS71.set_6 | apply IsS71.set_7 | refine IsS71.far ?_ NB0_148.out _ | refine IsS71.far ?_ NB0_149.out _) | refine IsS71.far ?_ NB0_148.out _ | refine IsS71.far ?_ NB0_149.out _ | exact HI0.out)⟩, ⟨by repeat (first | (with_reducible first | exact HK.out | apply KeepBut.set_ | apply keep_drewN | apply keep_drew | apply keep_alloc | refine keep_far ?_ GW148.out _ | refine keep_far ?_ GW149.out _) | exact HK.out)⟩, ⟨by repeat (first | (with_reducible first | exact HB.out | apply below_alloc | apply pw_below_drewN | apply below_drew1 | refine below_set ?_ (IsS71.ge HI0.out) | refine below_set ?_ GE148.out | refine below_set ?_ GE149.out) | exact HB.out)⟩⟩
              · rw [if_neg c47] at H
                have c47b0 : (a1 == s0_7) = false := beq_eq_false_iff_ne.mpr c47
                have c47b1 : (a1 != s0_7) = true := bne_iff_ne.mpr c47
                replace H := Option.bind_eq_some_iff.mp H
                obtain ⟨⟨t174, t175, t176, t177, t178, t179, t180, t181, t182, t183, t186, t189, t190, t191, t192, t193, t194, t195, t196⟩, A520, H⟩ := H
                replace H : (some (t174, t175, t176, t177, t178, t179, t180, t181, t182, t183, t186, t189, t190, t191, t192, t193, t194, t195, t196)) = some (r1, r2, r3, r4, r5, r6, r7, r8, r9, r10, r11, r12, r13, r14, r15, r16, r17, r18, r19) := H
                have A52 := Aside0.mk A520
                clear A520
                simp only [Option.some.injEq, Prod.mk.injEq] at H
                obtain ⟨rfl, rfl, rfl, rfl, rfl, rfl, rfl, rfl, rfl, rfl, rfl, rfl, rfl, rfl, rfl, rfl, rfl, rfl, rfl⟩ := H
                have hnb53 := NB148_149.out
                have hnc53 := NB149_148.out
                have hnb54 := NB148_0.out
                have hnc54 := NB0_148.out
                obtain ⟨hcz55_0, hcz55_1, hcz55_2, hcz55_3, hcz55_4, hcz55_5, hcz55_6, hcz55_7, hcz55_8, hcz55_9, hcz55_10, hfz55_0, hfz55_1, hfz55_2, hfz55_3, hfz55_4, hfz55_5, hfz55_6, hfz55_7, hfz55_8, hfz55_9, hfz55_10⟩ := blk_all11 BK148.out
                obtain ⟨HGz56, hgz56⟩ := HI0.out
                have hcz56_0 := cellS71_0 HGz56
                have hcz56_1 := cellS71_1 HGz56
                have hcz56_2 := cellS71_2 HGz56
                have hcz56_3 := cellS71_3 HGz56
                have hcz56_4 := cellS71_4 HGz56
                have hcz56_5 := cellS71_5 HGz56
                have hcz56_6 := cellS71_6 HGz56
                have hcz56_7 := cellS71_7 HGz56
                have hfz56_0 := blk_frozen HGz56 0
                have hfz56_1 := blk_frozen HGz56 1
                have hfz56_2 := blk_frozen HGz56 2
                have hfz56_3 := blk_frozen HGz56 3
                have hfz56_4 := blk_frozen HGz56 4
                have hfz56_5 := blk_frozen HGz56 5
                have hfz56_6 := blk_frozen HGz56 6
                have hfz56_7 := blk_frozen HGz56 7
                clear HGz56 hgz56
                go_wp2_with (first | ((with_reducible refine gate_callee (f := 32) rfl ?_); refine goesL_ (some 68) rfl rfl Try.func32 (by kernel_rfl) rfl #[.pointer (some ⟨g, 0, none⟩), .int .i64 5] rfl (by (try simp only [List.map_toArray, List.map_cons, List.map_nil]); first | done | rfl | (simp only [List.length_drop, List.length_take]; rfl)) ?_; (with_reducible refine (arbiter_Arbiter_no.calls g s0_0 s0_1 s0_2 s0_3 s0_4 s0_5 s0_6 s0_7 5 t174 t175 t176 t177 t178 t179 t180 t181 t182 t183 t186 t189 t190 t191 t192 t193 t194 t195 t196 w0 _ ?side1 ?side2 A52.out).mono ?_); (case side1 => repeat (first | (with_reducible first | exact HI0.out | apply IsS71.alloc | apply IsS71.drewN | apply IsS71.drew | apply IsS71.set_0 | apply IsS71.set_1 | apply IsS71.set_2 | apply IsS71.set_3 | apply IsS71.set_4 | apply IsS71.set_5 | apply IsS71.set_6 | apply IsS71.set_7 | refine IsS71.far ?_ NB0_148.out _ | refine IsS71.far ?_ NB0_149.out _) | refine IsS71.far ?_ NB0_148.out _ | refine IsS71.far ?_ NB0_149.out _ | exact HI0.out)); (case side2 => repeat (first | (with_reducible first | exact HB.out | apply below_alloc | apply pw_below_drewN | apply below_drew1 | refine below_set ?_ (IsS71.ge HI0.out) | refine below_set ?_ GE148.out | refine below_set ?_ GE149.out) | exact HB.out)); rintro e w57 ⟨v184, v187, rfl, ho0, ho1, hi, hb, hk⟩; refine ⟨_, rfl, ?_⟩; have n0_ := Aside0.mk (KeepBut.blk hk (g' := gb148) (o := .cells #[.int .i64 a2_0, .int .u32 a2_1, .int .u32 a2_2, .int .u64 a2_3, .int .u64 a2_4, .int .u32 a2_5, .int .i64 a2_6, .bool a2_7, .int .i64 a2_8, .slice A2_9 l2_9.length c2_9, .slice A2_10 l2_10.length c2_10] 30 (0, 0)) (by (with_reducible repeat (first | apply bd1 | apply bd2 | apply bd3)); exact BK148.out) NB148_0.out (by simp)); have n1_ := Aside0.mk (KeepBut.blk hk (g' := gb149) (o := .cells #[.int .i64 0, .int .u32 0, .int .u32 0, .int .u64 0, .int .u64 0, .int .u32 0, .int .i64 0, .bool false, .int .i64 0, .slice none 0 0, .slice none 0 0] 30 (0, 0)) (by (with_reducible repeat (first | apply bd1 | apply bd2 | apply bd3)); exact BK149.out) NB149_0.out (by simp)); have n2_ := Aside0.mk (Kd.R_lower ho0 (keep_size (w := w) (g := g) (row := none) (by repeat (first | (with_reducible first | exact HK.out | apply KeepBut.set_ | apply keep_drewN | apply keep_drew | apply keep_alloc | refine keep_far ?_ GW148.out _ | refine keep_far ?_ GW149.out _) | exact HK.out)))); have n3_ := Aside0.mk (Kd.R_lower ho1 (keep_size (w := w) (g := g) (row := none) (by repeat (first | (with_reducible first | exact HK.out | apply KeepBut.set_ | apply keep_drewN | apply keep_drew | apply keep_alloc | refine keep_far ?_ GW148.out _ | refine keep_far ?_ GW149.out _) | exact HK.out)))); have n4_ := Aside0.mk (KeepBut.trans (by repeat (first | (with_reducible first | exact HK.out | apply KeepBut.set_ | apply keep_drewN | apply keep_drew | apply keep_alloc | refine keep_far ?_ GW148.out _ | refine keep_far ?_ GW149.out _) | exact HK.out)) hk (.inl rfl)); have n5_ := Aside0.mk (hb); have n6_ := Aside0.mk (hi); clear BK148; clear BK149; clear HK; clear HB; clear HI0; have BK148 := n0_; have BK149 := n1_; have HO185 := n2_; have HO188 := n3_; have HK := n4_; have HB := n5_; have HI0 := n6_; clear n0_ n1_ n2_ n3_ n4_ n5_ n6_; (try clear hb); (try clear hb2); (try clear hk); (try clear hi); (try clear ho0); (try clear ho1); have hnb58 := NB149_0.out; have hnc58 := NB0_149.out; obtain ⟨hcz59_0, hcz59_1, hcz59_2, hcz59_3, hcz59_4, hcz59_5, hcz59_6, hcz59_7, hcz59_8, hcz59_9, hcz59_10, hfz59_0, hfz59_1, hfz59_2, hfz59_3, hfz59_4, hfz59_5, hfz59_6, hfz59_7, hfz59_8, hfz59_9, hfz59_10⟩ := blk_all11 BK149.out; obtain ⟨Ao60, co60, eo60⟩ := Kd.R_slice HO185.out; subst eo60; obtain ⟨Ao61, co61, eo61⟩ := Kd.R_slice HO188.out; subst eo61))
                try (go_region; go_wp2)
                refine bodyPost_ret (results_cell_row rfl _ _ gb149 30 #[.int .i64 t174, .int .u32 t175, .int .u32 t176, .int .u64 t177, .int .u64 t178, .int .u32 t179, .int .i64 t180, .bool t181, .int .i64 t182, .slice Ao60 t183.length co60, .slice Ao61 t186.length co61] (0, 0) _ rfl (by (with_reducible repeat (first | apply bd1 | apply bd2 | apply bd3)); refine blk_put (cs := #[.int .i64 t174, .int .u32 t175, .int .u32 t176, .int .u64 t177, .int .u64 t178, .int .u32 t179, .int .i64 t180, .bool t181, .int .i64 t182, .slice Ao60 t183.length co60, .slice none 0 0]) ?_ 10 _ rfl; (with_reducible repeat (first | apply bd1 | apply bd2 | apply bd3)); refine blk_put (cs := #[.int .i64 t174, .int .u32 t175, .int .u32 t176, .int .u64 t177, .int .u64 t178, .int .u32 t179, .int .i64 t180, .bool t181, .int .i64 t182, .slice none 0 0, .slice none 0 0]) ?_ 9 _ rfl; (with_reducible repeat (first | apply bd1 | apply bd2 | apply bd3)); refine blk_put (cs := #[.int .i64 t174, .int .u32 t175, .int .u32 t176, .int .u64 t177, .int .u64 t178, .int .u32 t179, .int .i64 t180, .bool t181, .int .i64 0, .slice none 0 0, .slice none 0 0]) ?_ 8 _ rfl; (with_reducible repeat (first | apply bd1 | apply bd2 | apply bd3)); refine blk_put (cs := #[.int .i64 t174, .int .u32 t175, .int .u32 t176, .int .u64 t177, .int .u64 t178, .int .u32 t179, .int .i64 t180, .bool false, .int .i64 0, .slice none 0 0, .slice none 0 0]) ?_ 7 _ rfl; (with_reducible repeat (first | apply bd1 | apply bd2 | apply bd3)); refine blk_put (cs := #[.int .i64 t174, .int .u32 t175, .int .u32 t176, .int .u64 t177, .int .u64 t178, .int .u32 t179, .int .i64 0, .bool false, .int .i64 0, .slice none 0 0, .slice none 0 0]) ?_ 6 _ rfl; (with_reducible repeat (first | apply bd1 | apply bd2 | apply bd3)); refine blk_put (cs := #[.int .i64 t174, .int .u32 t175, .int .u32 t176, .int .u64 t177, .int .u64 t178, .int .u32 0, .int .i64 0, .bool false, .int .i64 0, .slice none 0 0, .slice none 0 0]) ?_ 5 _ rfl; (with_reducible repeat (first | apply bd1 | apply bd2 | apply bd3)); refine blk_put (cs := #[.int .i64 t174, .int .u32 t175, .int .u32 t176, .int .u64 t177, .int .u64 0, .int .u32 0, .int .i64 0, .bool false, .int .i64 0, .slice none 0 0, .slice none 0 0]) ?_ 4 _ rfl; (with_reducible repeat (first | apply bd1 | apply bd2 | apply bd3)); refine blk_put (cs := #[.int .i64 t174, .int .u32 t175, .int .u32 t176, .int .u64 0, .int .u64 0, .int .u32 0, .int .i64 0, .bool false, .int .i64 0, .slice none 0 0, .slice none 0 0]) ?_ 3 _ rfl; (with_reducible repeat (first | apply bd1 | apply bd2 | apply bd3)); refine blk_put (cs := #[.int .i64 t174, .int .u32 t175, .int .u32 0, .int .u64 0, .int .u64 0, .int .u32 0, .int .i64 0, .bool false, .int .i64 0, .slice none 0 0, .slice none 0 0]) ?_ 2 _ rfl; (with_reducible repeat (first | apply bd1 | apply bd2 | apply bd3)); refine blk_put (cs := #[.int .i64 t174, .int .u32 0, .int .u32 0, .int .u64 0, .int .u64 0, .int .u32 0, .int .i64 0, .bool false, .int .i64 0, .slice none 0 0, .slice none 0 0]) ?_ 1 _ rfl; (with_reducible repeat (first | apply bd1 | apply bd2 | apply bd3)); refine blk_put (cs := #[.int .i64 0, .int .u32 0, .int .u32 0, .int .u64 0, .int .u64 0, .int .u32 0, .int .i64 0, .bool false, .int .i64 0, .slice none 0 0, .slice none 0 0]) ?_ 0 _ rfl; (with_reducible repeat (first | apply bd1 | apply bd2 | apply bd3)); exact BK149.out) Try.underlying30 rfl (by kernel_rfl)) rfl ?_
                exact ⟨_, _, by first | rfl | (simp [errW_none, errW_some] <;> rfl) | (simp [*, errW_none, errW_some] <;> rfl), by (with_reducible repeat (first | apply Kd.R_alloc | apply Kd.R_drewN | apply Kd.R_drew)); exact Kd.R_mono (Kd.R_far (p := ⟨gb149, 10, none⟩) (Kd.R_far (p := ⟨gb149, 9, none⟩) (Kd.R_far (p := ⟨gb149, 8, none⟩) (Kd.R_far (p := ⟨gb149, 7, none⟩) (Kd.R_far (p := ⟨gb149, 6, none⟩) (Kd.R_far (p := ⟨gb149, 5, none⟩) (Kd.R_far (p := ⟨gb149, 4, none⟩) (Kd.R_far (p := ⟨gb149, 3, none⟩) (Kd.R_far (p := ⟨gb149, 2, none⟩) (Kd.R_far (p := ⟨gb149, 1, none⟩) (Kd.R_far (p := ⟨gb149, 0, none⟩) (Kd.R_types HO185.out BK149.out (by decide)) (fun _ hk => hk.2) (.int .i64 t174)) (fun _ hk => hk.2) (.int .u32 t175)) (fun _ hk => hk.2) (.int .u32 t176)) (fun _ hk => hk.2) (.int .u64 t177)) (fun _ hk => hk.2) (.int .u64 t178)) (fun _ hk => hk.2) (.int .u32 t179)) (fun _ hk => hk.2) (.int .i64 t180)) (fun _ hk => hk.2) (.bool t181)) (fun _ hk => hk.2) (.int .i64 t182)) (fun _ hk => hk.2) (.slice Ao60 t183.length co60)) (fun _ hk => hk.2) (.slice Ao61 t186.length co61)) (fun _ hk => hk.1), by (with_reducible repeat (first | apply Kd.R_alloc | apply Kd.R_drewN | apply Kd.R_drew)); exact Kd.R_mono (Kd.R_far (p := ⟨gb149, 10, none⟩) (Kd.R_far (p := ⟨gb149, 9, none⟩) (Kd.R_far (p := ⟨gb149, 8, none⟩) (Kd.R_far (p := ⟨gb149, 7, none⟩) (Kd.R_far (p := ⟨gb149, 6, none⟩) (Kd.R_far (p := ⟨gb149, 5, none⟩) (Kd.R_far (p := ⟨gb149, 4, none⟩) (Kd.R_far (p := ⟨gb149, 3, none⟩) (Kd.R_far (p := ⟨gb149, 2, none⟩) (Kd.R_far (p := ⟨gb149, 1, none⟩) (Kd.R_far (p := ⟨gb149, 0, none⟩) (Kd.R_types HO188.out BK149.out (by decide)) (fun _ hk => hk.2) (.int .i64 t174)) (fun _ hk => hk.2) (.int .u32 t175)) (fun _ hk => hk.2) (.int .u32 t176)) (fun _ hk => hk.2) (.int .u64 t177)) (fun _ hk => hk.2) (.int .u64 t178)) (fun _ hk => hk.2) (.int .u32 t179)) (fun _ hk => hk.2) (.int .i64 t180)) (fun _ hk => hk.2) (.bool t181)) (fun _ hk => hk.2) (.int .i64 t182)) (fun _ hk => hk.2) (.slice Ao60 t183.length co60)) (fun _ hk => hk.2) (.slice Ao61 t186.length co61)) (fun _ hk => hk.1), by repeat (first | (with_reducible first | exact HI0.out | apply IsS71.alloc | apply IsS71.drewN | apply IsS71.drew | apply IsS71.set_0 | apply IsS71.set_1 | apply IsS71.set_2 | apply IsS71.set_3 | apply IsS71.set_4 | apply IsS71.set_5 | apply IsS71.set_6 | apply IsS71.set_7 | refine IsS71.far ?_ NB0_148.out _ | refine IsS71.far ?_ NB0_149.out _) | refine IsS71.far ?_ NB0_148.out _ | refine IsS71.far ?_ NB0_149.out _ | exact HI0.out), by repeat (first | (with_reducible first | exact HB.out | apply below_alloc | apply pw_below_drewN | apply below_drew1 | refine below_set ?_ (IsS71.ge HI0.out) | refine below_set ?_ GE148.out | refine below_set ?_ GE149.out) | exact HB.out), by repeat (first | (with_reducible first | exact HK.out | apply KeepBut.set_ | apply keep_drewN | apply keep_drew | apply keep_alloc | refine keep_far ?_ GW148.out _ | refine keep_far ?_ GW149.out _) | exact HK.out)⟩
            · rw [if_neg c46] at H
              have c46b0 : (s0_6 == 2) = false := beq_eq_false_iff_ne.mpr c46
              have c46b1 : (s0_6 != 2) = true := bne_iff_ne.mpr c46
              have H' := Aside0.mk H
              clear H
              have hnb62 := NB148_149.out
              have hnc62 := NB149_148.out
              have hnb63 := NB148_0.out
              have hnc63 := NB0_148.out
              obtain ⟨hcz64_0, hcz64_1, hcz64_2, hcz64_3, hcz64_4, hcz64_5, hcz64_6, hcz64_7, hcz64_8, hcz64_9, hcz64_10, hfz64_0, hfz64_1, hfz64_2, hfz64_3, hfz64_4, hfz64_5, hfz64_6, hfz64_7, hfz64_8, hfz64_9, hfz64_10⟩ := blk_all11 BK148.out
              obtain ⟨HGz65, hgz65⟩ := HI0.out
              have hcz65_0 := cellS71_0 HGz65
              have hcz65_1 := cellS71_1 HGz65
              have hcz65_2 := cellS71_2 HGz65
              have hcz65_3 := cellS71_3 HGz65
              have hcz65_4 := cellS71_4 HGz65
              have hcz65_5 := cellS71_5 HGz65
              have hcz65_6 := cellS71_6 HGz65
              have hcz65_7 := cellS71_7 HGz65
              have hfz65_0 := blk_frozen HGz65 0
              have hfz65_1 := blk_frozen HGz65 1
              have hfz65_2 := blk_frozen HGz65 2
              have hfz65_3 := blk_frozen HGz65 3
              have hfz65_4 := blk_frozen HGz65 4
              have hfz65_5 := blk_frozen HGz65 5
              have hfz65_6 := blk_frozen HGz65 6
              have hfz65_7 := blk_frozen HGz65 7
              clear HGz65 hgz65
              go_wp2
              go_meet
              case rel => exact ⟨_, (s0_0), (s0_1), (s0_2), (s0_3), (s0_4), (s0_5), (s0_6), (s0_7), (0), (0), (0), (0), (0), (0), (0), (false), (0), H', ⟨by have := HJ6.out; first | omega | exact Nat.le_refl _⟩, ⟨by (with_reducible repeat (first | apply bd1 | apply bd2 | apply bd3)); exact BK148.out⟩, ⟨by (with_reducible repeat (first | apply bd1 | apply bd2 | apply bd3)); exact BK149.out⟩, ⟨by repeat (first | (with_reducible first | exact HI0.out | apply IsS71.alloc | apply IsS71.drewN | apply IsS71.drew | apply IsS71.set_0 | apply IsS71.set_1 | apply IsS71.set_2 | apply IsS71.set_3 | apply IsS71.set_4 | apply IsS71.set_5 | apply IsS71.set_6 | apply IsS71.set_7 | refine IsS71.far ?_ NB0_148.out _ | refine IsS71.far ?_ NB0_149.out _) | refine IsS71.far ?_ NB0_148.out _ | refine IsS71.far ?_ NB0_149.out _ | exact HI0.out)⟩, ⟨by repeat (first | (with_reducible first | exact HK.out | apply KeepBut.set_ | apply keep_drewN | apply keep_drew | apply keep_alloc | refine keep_far ?_ GW148.out _ | refine keep_far ?_ GW149.out _) | exact HK.out)⟩, ⟨by repeat (first | (with_reducible first | exact HB.out | apply below_alloc | apply pw_below_drewN | apply below_drew1 | refine below_set ?_ (IsS71.ge HI0.out) | refine below_set ?_ GE148.out | refine below_set ?_ GE149.out) | exact HB.out)⟩⟩
          · rw [if_neg c45] at H
            have c45b0 : (a2_1 == 0) = false := beq_eq_false_iff_ne.mpr c45
            have c45b1 : (a2_1 != 0) = true := bne_iff_ne.mpr c45
            have H' := Aside0.mk H
            clear H
            have hnb66 := NB148_149.out
            have hnc66 := NB149_148.out
            have hnb67 := NB148_0.out
            have hnc67 := NB0_148.out
            obtain ⟨hcz68_0, hcz68_1, hcz68_2, hcz68_3, hcz68_4, hcz68_5, hcz68_6, hcz68_7, hcz68_8, hcz68_9, hcz68_10, hfz68_0, hfz68_1, hfz68_2, hfz68_3, hfz68_4, hfz68_5, hfz68_6, hfz68_7, hfz68_8, hfz68_9, hfz68_10⟩ := blk_all11 BK148.out
            go_wp2
            go_meet
            case rel => exact ⟨_, (s0_0), (s0_1), (s0_2), (s0_3), (s0_4), (s0_5), (s0_6), (s0_7), (0), (0), (0), (0), (0), (0), (0), (false), (0), H', ⟨by have := HJ6.out; first | omega | exact Nat.le_refl _⟩, ⟨by (with_reducible repeat (first | apply bd1 | apply bd2 | apply bd3)); exact BK148.out⟩, ⟨by (with_reducible repeat (first | apply bd1 | apply bd2 | apply bd3)); exact BK149.out⟩, ⟨by repeat (first | (with_reducible first | exact HI0.out | apply IsS71.alloc | apply IsS71.drewN | apply IsS71.drew | apply IsS71.set_0 | apply IsS71.set_1 | apply IsS71.set_2 | apply IsS71.set_3 | apply IsS71.set_4 | apply IsS71.set_5 | apply IsS71.set_6 | apply IsS71.set_7 | refine IsS71.far ?_ NB0_148.out _ | refine IsS71.far ?_ NB0_149.out _) | refine IsS71.far ?_ NB0_148.out _ | refine IsS71.far ?_ NB0_149.out _ | exact HI0.out)⟩, ⟨by repeat (first | (with_reducible first | exact HK.out | apply KeepBut.set_ | apply keep_drewN | apply keep_drew | apply keep_alloc | refine keep_far ?_ GW148.out _ | refine keep_far ?_ GW149.out _) | exact HK.out)⟩, ⟨by repeat (first | (with_reducible first | exact HB.out | apply below_alloc | apply pw_below_drewN | apply below_drew1 | refine below_set ?_ (IsS71.ge HI0.out) | refine below_set ?_ GE148.out | refine below_set ?_ GE149.out) | exact HB.out)⟩⟩
  case rest =>
    clear HC4
    try clear c1
    try clear c2
    try clear p2
    try clear c3
    try clear c4
    try clear c5
    try clear c6
    try clear c8
    try clear c8b0
    try clear c9
    try clear c9b0
    try clear c10
    try clear c10b0
    try clear c10b1
    try clear c11
    try clear c12
    try clear c12b0
    try clear c12b1
    try clear c13
    try clear c13b0
    try clear c14
    try clear c15
    try clear c19
    try clear c19b0
    try clear c19b1
    try clear c20
    try clear c21
    try clear c25
    try clear c26
    try clear c30
    try clear c31
    try clear c32
    try clear c34
    try clear c35
    try clear c37
    try clear c40
    try clear c41
    try clear c45
    try clear c45b0
    try clear c45b1
    try clear c46
    try clear c46b0
    try clear c46b1
    try clear c47
    try clear c47b0
    try clear c47b1
    try clear c48
    try clear c49
    try clear c53
    try clear c54
    try clear c58
    try clear c62
    try clear c63
    try clear c66
    try clear c67
    try clear hcz16_0
    try clear hcz16_1
    try clear hcz16_10
    try clear hcz16_2
    try clear hcz16_3
    try clear hcz16_4
    try clear hcz16_5
    try clear hcz16_6
    try clear hcz16_7
    try clear hcz16_8
    try clear hcz16_9
    try clear hcz18_0
    try clear hcz18_1
    try clear hcz18_10
    try clear hcz18_2
    try clear hcz18_3
    try clear hcz18_4
    try clear hcz18_5
    try clear hcz18_6
    try clear hcz18_7
    try clear hcz18_8
    try clear hcz18_9
    try clear hcz22_0
    try clear hcz22_1
    try clear hcz22_10
    try clear hcz22_2
    try clear hcz22_3
    try clear hcz22_4
    try clear hcz22_5
    try clear hcz22_6
    try clear hcz22_7
    try clear hcz22_8
    try clear hcz22_9
    try clear hcz24_0
    try clear hcz24_1
    try clear hcz24_10
    try clear hcz24_2
    try clear hcz24_3
    try clear hcz24_4
    try clear hcz24_5
    try clear hcz24_6
    try clear hcz24_7
    try clear hcz24_8
    try clear hcz24_9
    try clear hcz27_0
    try clear hcz27_1
    try clear hcz27_10
    try clear hcz27_2
    try clear hcz27_3
    try clear hcz27_4
    try clear hcz27_5
    try clear hcz27_6
    try clear hcz27_7
    try clear hcz27_8
    try clear hcz27_9
    try clear hcz29_0
    try clear hcz29_1
    try clear hcz29_10
    try clear hcz29_2
    try clear hcz29_3
    try clear hcz29_4
    try clear hcz29_5
    try clear hcz29_6
    try clear hcz29_7
    try clear hcz29_8
    try clear hcz29_9
    try clear hcz32_0
    try clear hcz32_1
    try clear hcz32_10
    try clear hcz32_2
    try clear hcz32_3
    try clear hcz32_4
    try clear hcz32_5
    try clear hcz32_6
    try clear hcz32_7
    try clear hcz32_8
    try clear hcz32_9
    try clear hcz36_0
    try clear hcz36_1
    try clear hcz36_10
    try clear hcz36_2
    try clear hcz36_3
    try clear hcz36_4
    try clear hcz36_5
    try clear hcz36_6
    try clear hcz36_7
    try clear hcz36_8
    try clear hcz36_9
    try clear hcz42_0
    try clear hcz42_1
    try clear hcz42_10
    try clear hcz42_2
    try clear hcz42_3
    try clear hcz42_4
    try clear hcz42_5
    try clear hcz42_6
    try clear hcz42_7
    try clear hcz42_8
    try clear hcz42_9
    try clear hcz50_0
    try clear hcz50_1
    try clear hcz50_10
    try clear hcz50_2
    try clear hcz50_3
    try clear hcz50_4
    try clear hcz50_5
    try clear hcz50_6
    try clear hcz50_7
    try clear hcz50_8
    try clear hcz50_9
    try clear hcz51_0
    try clear hcz51_1
    try clear hcz51_2
    try clear hcz51_3
    try clear hcz51_4
    try clear hcz51_5
    try clear hcz51_6
    try clear hcz51_7
    try clear hcz55_0
    try clear hcz55_1
    try clear hcz55_10
    try clear hcz55_2
    try clear hcz55_3
    try clear hcz55_4
    try clear hcz55_5
    try clear hcz55_6
    try clear hcz55_7
    try clear hcz55_8
    try clear hcz55_9
    try clear hcz56_0
    try clear hcz56_1
    try clear hcz56_2
    try clear hcz56_3
    try clear hcz56_4
    try clear hcz56_5
    try clear hcz56_6
    try clear hcz56_7
    try clear hcz59_0
    try clear hcz59_1
    try clear hcz59_10
    try clear hcz59_2
    try clear hcz59_3
    try clear hcz59_4
    try clear hcz59_5
    try clear hcz59_6
    try clear hcz59_7
    try clear hcz59_8
    try clear hcz59_9
    try clear hcz64_0
    try clear hcz64_1
    try clear hcz64_10
    try clear hcz64_2
    try clear hcz64_3
    try clear hcz64_4
    try clear hcz64_5
    try clear hcz64_6
    try clear hcz64_7
    try clear hcz64_8
    try clear hcz64_9
    try clear hcz65_0
    try clear hcz65_1
    try clear hcz65_2
    try clear hcz65_3
    try clear hcz65_4
    try clear hcz65_5
    try clear hcz65_6
    try clear hcz65_7
    try clear hcz68_0
    try clear hcz68_1
    try clear hcz68_10
    try clear hcz68_2
    try clear hcz68_3
    try clear hcz68_4
    try clear hcz68_5
    try clear hcz68_6
    try clear hcz68_7
    try clear hcz68_8
    try clear hcz68_9
    try clear hfz16_0
    try clear hfz16_1
    try clear hfz16_10
    try clear hfz16_2
    try clear hfz16_3
    try clear hfz16_4
    try clear hfz16_5
    try clear hfz16_6
    try clear hfz16_7
    try clear hfz16_8
    try clear hfz16_9
    try clear hfz18_0
    try clear hfz18_1
    try clear hfz18_10
    try clear hfz18_2
    try clear hfz18_3
    try clear hfz18_4
    try clear hfz18_5
    try clear hfz18_6
    try clear hfz18_7
    try clear hfz18_8
    try clear hfz18_9
    try clear hfz22_0
    try clear hfz22_1
    try clear hfz22_10
    try clear hfz22_2
    try clear hfz22_3
    try clear hfz22_4
    try clear hfz22_5
    try clear hfz22_6
    try clear hfz22_7
    try clear hfz22_8
    try clear hfz22_9
    try clear hfz24_0
    try clear hfz24_1
    try clear hfz24_10
    try clear hfz24_2
    try clear hfz24_3
    try clear hfz24_4
    try clear hfz24_5
    try clear hfz24_6
    try clear hfz24_7
    try clear hfz24_8
    try clear hfz24_9
    try clear hfz27_0
    try clear hfz27_1
    try clear hfz27_10
    try clear hfz27_2
    try clear hfz27_3
    try clear hfz27_4
    try clear hfz27_5
    try clear hfz27_6
    try clear hfz27_7
    try clear hfz27_8
    try clear hfz27_9
    try clear hfz29_0
    try clear hfz29_1
    try clear hfz29_10
    try clear hfz29_2
    try clear hfz29_3
    try clear hfz29_4
    try clear hfz29_5
    try clear hfz29_6
    try clear hfz29_7
    try clear hfz29_8
    try clear hfz29_9
    try clear hfz32_0
    try clear hfz32_1
    try clear hfz32_10
    try clear hfz32_2
    try clear hfz32_3
    try clear hfz32_4
    try clear hfz32_5
    try clear hfz32_6
    try clear hfz32_7
    try clear hfz32_8
    try clear hfz32_9
    try clear hfz36_0
    try clear hfz36_1
    try clear hfz36_10
    try clear hfz36_2
    try clear hfz36_3
    try clear hfz36_4
    try clear hfz36_5
    try clear hfz36_6
    try clear hfz36_7
    try clear hfz36_8
    try clear hfz36_9
    try clear hfz42_0
    try clear hfz42_1
    try clear hfz42_10
    try clear hfz42_2
    try clear hfz42_3
    try clear hfz42_4
    try clear hfz42_5
    try clear hfz42_6
    try clear hfz42_7
    try clear hfz42_8
    try clear hfz42_9
    try clear hfz50_0
    try clear hfz50_1
    try clear hfz50_10
    try clear hfz50_2
    try clear hfz50_3
    try clear hfz50_4
    try clear hfz50_5
    try clear hfz50_6
    try clear hfz50_7
    try clear hfz50_8
    try clear hfz50_9
    try clear hfz51_0
    try clear hfz51_1
    try clear hfz51_2
    try clear hfz51_3
    try clear hfz51_4
    try clear hfz51_5
    try clear hfz51_6
    try clear hfz51_7
    try clear hfz55_0
    try clear hfz55_1
    try clear hfz55_10
    try clear hfz55_2
    try clear hfz55_3
    try clear hfz55_4
    try clear hfz55_5
    try clear hfz55_6
    try clear hfz55_7
    try clear hfz55_8
    try clear hfz55_9
    try clear hfz56_0
    try clear hfz56_1
    try clear hfz56_2
    try clear hfz56_3
    try clear hfz56_4
    try clear hfz56_5
    try clear hfz56_6
    try clear hfz56_7
    try clear hfz59_0
    try clear hfz59_1
    try clear hfz59_10
    try clear hfz59_2
    try clear hfz59_3
    try clear hfz59_4
    try clear hfz59_5
    try clear hfz59_6
    try clear hfz59_7
    try clear hfz59_8
    try clear hfz59_9
    try clear hfz64_0
    try clear hfz64_1
    try clear hfz64_10
    try clear hfz64_2
    try clear hfz64_3
    try clear hfz64_4
    try clear hfz64_5
    try clear hfz64_6
    try clear hfz64_7
    try clear hfz64_8
    try clear hfz64_9
    try clear hfz65_0
    try clear hfz65_1
    try clear hfz65_2
    try clear hfz65_3
    try clear hfz65_4
    try clear hfz65_5
    try clear hfz65_6
    try clear hfz65_7
    try clear hfz68_0
    try clear hfz68_1
    try clear hfz68_10
    try clear hfz68_2
    try clear hfz68_3
    try clear hfz68_4
    try clear hfz68_5
    try clear hfz68_6
    try clear hfz68_7
    try clear hfz68_8
    try clear hfz68_9
    try clear p2
    obtain ⟨kq, x1000_3, x1001_3, x1002_3, x1003_3, x1004_3, x1005_3, x1006_3, x1007_3, x150000_3, x150001_3, x150002_3, x150003_3, x150004_3, x150005_3, x150006_3, x150007_3, x150008_3, HA, HJ3, BK148, BK149, HI0, HK, HB⟩ := hcut
    cases kq with
    | zero => exact absurd HA.out (by simp [arbiter_Arbiter_Serve.j1])
    | succ kj3 =>
      have H := HA.out
      clear HA
      simp only [arbiter_Arbiter_Serve.j1] at H
      replace H := Option.bind_eq_some_iff.mp H
      obtain ⟨⟨t197, t198, t199, t200, t201, t202, t203, t204, t205, t206, t207, t208, t209⟩, A690, H⟩ := H
      replace H : (if t201 = 0 then (some (5, t197, 0, 0, IntKind.u64.wrap (t199 - t204), 0, 0, false, t200, ([] : List Int), ([] : List Int), t202, t203, t204, t197, t198, t199, t200, a1)) else ((arbiter_code.f t201).bind fun t211 => ((arbiter_Arbiter_no.f t202 t203 t204 t205 t206 t207 t208 t209 t211).bind fun bt212 => (some (bt212.1, bt212.2.1, bt212.2.2.1, bt212.2.2.2.1, bt212.2.2.2.2.1, bt212.2.2.2.2.2.1, bt212.2.2.2.2.2.2.1, bt212.2.2.2.2.2.2.2.1, bt212.2.2.2.2.2.2.2.2.1, bt212.2.2.2.2.2.2.2.2.2.1, bt212.2.2.2.2.2.2.2.2.2.2.1, bt212.2.2.2.2.2.2.2.2.2.2.2.1, bt212.2.2.2.2.2.2.2.2.2.2.2.2.1, bt212.2.2.2.2.2.2.2.2.2.2.2.2.2.1, bt212.2.2.2.2.2.2.2.2.2.2.2.2.2.2.1, bt212.2.2.2.2.2.2.2.2.2.2.2.2.2.2.2.1, bt212.2.2.2.2.2.2.2.2.2.2.2.2.2.2.2.2.1, bt212.2.2.2.2.2.2.2.2.2.2.2.2.2.2.2.2.2.1, bt212.2.2.2.2.2.2.2.2.2.2.2.2.2.2.2.2.2.2))))) = some (r1, r2, r3, r4, r5, r6, r7, r8, r9, r10, r11, r12, r13, r14, r15, r16, r17, r18, r19) := H
      have A69 := Aside0.mk A690
      clear A690
      by_cases c70 : t201 = 0
      · rw [if_pos c70] at H
        have c70b0 : (t201 == 0) = true := beq_iff_eq.mpr c70
        have c70b1 : (t201 != 0) = false := bne_eq_false_iff_eq.mpr c70
        clear c70
        simp only [Option.some.injEq, Prod.mk.injEq] at H
        obtain ⟨rfl, rfl, rfl, rfl, rfl, rfl, rfl, rfl, rfl, rfl, rfl, rfl, rfl, rfl, rfl, rfl, rfl, rfl, rfl⟩ := H
        have hnb71 := NB148_149.out
        have hnc71 := NB149_148.out
        have hnb72 := NB148_0.out
        have hnc72 := NB0_148.out
        obtain ⟨hcz73_0, hcz73_1, hcz73_2, hcz73_3, hcz73_4, hcz73_5, hcz73_6, hcz73_7, hcz73_8, hcz73_9, hcz73_10, hfz73_0, hfz73_1, hfz73_2, hfz73_3, hfz73_4, hfz73_5, hfz73_6, hfz73_7, hfz73_8, hfz73_9, hfz73_10⟩ := blk_all11 BK148.out
        go_wp2_with (first | ((with_reducible refine gate_callee (f := 33) rfl ?_); refine goesL_ (some 73) rfl rfl Try.func33 (by kernel_rfl) rfl #[.pointer (some ⟨g, 0, none⟩), .int .i64 a1, .agg #[.int .i64 a2_0, .int .u32 a2_1, .int .u32 a2_2, .int .u64 a2_3, .int .u64 a2_4, .int .u32 a2_5, .int .i64 a2_6, .bool a2_7, .int .i64 a2_8, .slice A2_9 l2_9.length c2_9, .slice A2_10 l2_10.length c2_10]] rfl (by (try simp only [List.map_toArray, List.map_cons, List.map_nil]); first | done | rfl | (simp only [List.length_drop, List.length_take]; rfl)) ?_; (with_reducible refine (arbiter_Arbiter_next.calls kj3 g x1000_3 x1001_3 x1002_3 x1003_3 x1004_3 x1005_3 x1006_3 x1007_3 a1 a2_0 a2_1 a2_2 a2_3 a2_4 a2_5 a2_6 a2_7 a2_8 _ _ l2_9 _ _ l2_10 t197 t198 t199 t200 t201 t202 t203 t204 t205 t206 t207 t208 t209 w0 _ ?side1 ?side2 ?side3 ?side4 ?side5 ?side6 ?side7 ?side8 A69.out).mono ?_); (case side1 => repeat (first | (with_reducible first | exact HI0.out | apply IsS71.alloc | apply IsS71.drewN | apply IsS71.drew | apply IsS71.set_0 | apply IsS71.set_1 | apply IsS71.set_2 | apply IsS71.set_3 | apply IsS71.set_4 | apply IsS71.set_5 | apply IsS71.set_6 | apply IsS71.set_7 | refine IsS71.far ?_ NB0_148.out _ | refine IsS71.far ?_ NB0_149.out _) | refine IsS71.far ?_ NB0_148.out _ | refine IsS71.far ?_ NB0_149.out _ | exact HI0.out)); (case side2 => repeat (first | (with_reducible first | exact HB.out | apply below_alloc | apply pw_below_drewN | apply below_drew1 | refine below_set ?_ (IsS71.ge HI0.out) | refine below_set ?_ GE148.out | refine below_set ?_ GE149.out) | exact HB.out)); (case side3 => exact Kd.C_keep 0 HR2_9.out (by repeat (first | (with_reducible first | exact HK.out | apply KeepBut.set_ | apply keep_drewN | apply keep_drew | apply keep_alloc | refine keep_far ?_ GW148.out _ | refine keep_far ?_ GW149.out _) | exact HK.out)) hf2_9); (case side4 => exact HC2_9.out); (case side5 => exact hf2_9); (case side6 => exact Kd.C_keep 0 HR2_10.out (by repeat (first | (with_reducible first | exact HK.out | apply KeepBut.set_ | apply keep_drewN | apply keep_drew | apply keep_alloc | refine keep_far ?_ GW148.out _ | refine keep_far ?_ GW149.out _) | exact HK.out)) hf2_10); (case side7 => exact HC2_10.out); (case side8 => exact hf2_10); rintro e w74 ⟨rfl, hi, hb, hk⟩; refine ⟨_, rfl, ?_⟩; have n0_ := Aside0.mk (KeepBut.blk hk (g' := gb148) (o := .cells #[.int .i64 a2_0, .int .u32 a2_1, .int .u32 a2_2, .int .u64 a2_3, .int .u64 a2_4, .int .u32 a2_5, .int .i64 a2_6, .bool a2_7, .int .i64 a2_8, .slice A2_9 l2_9.length c2_9, .slice A2_10 l2_10.length c2_10] 30 (0, 0)) (by (with_reducible repeat (first | apply bd1 | apply bd2 | apply bd3)); exact BK148.out) NB148_0.out (by simp)); have n1_ := Aside0.mk (KeepBut.blk hk (g' := gb149) (o := .cells #[.int .i64 x150000_3, .int .u32 x150001_3, .int .u32 x150002_3, .int .u64 x150003_3, .int .u64 x150004_3, .int .u32 x150005_3, .int .i64 x150006_3, .bool x150007_3, .int .i64 x150008_3, .slice none 0 0, .slice none 0 0] 30 (0, 0)) (by (with_reducible repeat (first | apply bd1 | apply bd2 | apply bd3)); exact BK149.out) NB149_0.out (by simp)); have n2_ := Aside0.mk (KeepBut.trans (by repeat (first | (with_reducible first | exact HK.out | apply KeepBut.set_ | apply keep_drewN | apply keep_drew | apply keep_alloc | refine keep_far ?_ GW148.out _ | refine keep_far ?_ GW149.out _) | exact HK.out)) hk (.inl rfl)); have n3_ := Aside0.mk (hb); have n4_ := Aside0.mk (hi); clear BK148; clear BK149; clear HK; clear HB; clear HI0; have BK148 := n0_; have BK149 := n1_; have HK := n2_; have HB := n3_; have HI0 := n4_; clear n0_ n1_ n2_ n3_ n4_; (try clear hb); (try clear hb2); (try clear hk); (try clear hi)) | ((with_reducible refine gate_dst (N := 7) rfl ?_); refine box_event ?hg (N := 7) ?hd (cs := #[.int .u32 0, .int .i64 0, .int .u64 0, .int .i64 0]) (t := 42) ?hr ?_; (case hd => rfl); (case hg => rfl); (case hr => first | (go_simp; done) | (go_simp; rfl)); intro gb210 hg w75 hbox hb; have n0_ := Aside0.mk (blk_below (g := gb148) (o := .cells #[.int .i64 a2_0, .int .u32 a2_1, .int .u32 a2_2, .int .u64 a2_3, .int .u64 a2_4, .int .u32 a2_5, .int .i64 a2_6, .bool a2_7, .int .i64 a2_8, .slice A2_9 l2_9.length c2_9, .slice A2_10 l2_10.length c2_10] 30 (0, 0)) (by (with_reducible repeat (first | apply bd1 | apply bd2 | apply bd3)); exact BK148.out) hb); have n1_ := Aside0.mk (blk_below (g := gb149) (o := .cells #[.int .i64 x150000_3, .int .u32 x150001_3, .int .u32 x150002_3, .int .u64 x150003_3, .int .u64 x150004_3, .int .u32 x150005_3, .int .i64 x150006_3, .bool x150007_3, .int .i64 x150008_3, .slice none 0 0, .slice none 0 0] 30 (0, 0)) (by (with_reducible repeat (first | apply bd1 | apply bd2 | apply bd3)); exact BK149.out) hb); have n2_ := Aside0.mk (IsS71.below (by repeat (first | (with_reducible first | exact HI0.out | apply IsS71.alloc | apply IsS71.drewN | apply IsS71.drew | apply IsS71.set_0 | apply IsS71.set_1 | apply IsS71.set_2 | apply IsS71.set_3 | apply IsS71.set_4 | apply IsS71.set_5 | apply IsS71.set_6 | apply IsS71.set_7 | refine IsS71.far ?_ NB0_148.out _ | refine IsS71.far ?_ NB0_149.out _) | refine IsS71.far ?_ NB0_148.out _ | refine IsS71.far ?_ NB0_149.out _ | exact HI0.out)) hb); have n3_ := Aside0.mk (KeepBut.trans (by repeat (first | (with_reducible first | exact HK.out | apply KeepBut.set_ | apply keep_drewN | apply keep_drew | apply keep_alloc | refine keep_far ?_ GW148.out _ | refine keep_far ?_ GW149.out _) | exact HK.out)) (KeepBut.of_below hb g none) (.inl rfl)); have n4_ := Aside0.mk (below_step (by repeat (first | (with_reducible first | exact HB.out | apply below_alloc | apply pw_below_drewN | apply below_drew1 | refine below_set ?_ (IsS71.ge HI0.out) | refine below_set ?_ GE148.out | refine below_set ?_ GE149.out) | exact HB.out)) hb); have n5_ := Aside0.mk (hbox); have n6_ := Aside0.mk ((by rw [hg]; exact (keep_size (w := w) (g := g) (row := none) (by repeat (first | (with_reducible first | exact HK.out | apply KeepBut.set_ | apply keep_drewN | apply keep_drew | apply keep_alloc | refine keep_far ?_ GW148.out _ | refine keep_far ?_ GW149.out _) | exact HK.out))) : w.heap.size ≤ gb210)); have n7_ := Aside0.mk ((Nat.le_trans HW0.out (by rw [hg]; exact (keep_size (w := w) (g := g) (row := none) (by repeat (first | (with_reducible first | exact HK.out | apply KeepBut.set_ | apply keep_drewN | apply keep_drew | apply keep_alloc | refine keep_far ?_ GW148.out _ | refine keep_far ?_ GW149.out _) | exact HK.out))) : w.heap.size ≤ gb210) : w0.heap.size ≤ gb210)); have n8_ := Aside0.mk ((by rw [hg]; exact Nat.ne_of_lt (blk_lt (g := gb148) (o := .cells #[.int .i64 a2_0, .int .u32 a2_1, .int .u32 a2_2, .int .u64 a2_3, .int .u64 a2_4, .int .u32 a2_5, .int .i64 a2_6, .bool a2_7, .int .i64 a2_8, .slice A2_9 l2_9.length c2_9, .slice A2_10 l2_10.length c2_10] 30 (0, 0)) (by (with_reducible repeat (first | apply bd1 | apply bd2 | apply bd3)); exact BK148.out)) : gb148 ≠ gb210)); have n9_ := Aside0.mk ((by rw [hg]; exact Nat.ne_of_gt (blk_lt (g := gb148) (o := .cells #[.int .i64 a2_0, .int .u32 a2_1, .int .u32 a2_2, .int .u64 a2_3, .int .u64 a2_4, .int .u32 a2_5, .int .i64 a2_6, .bool a2_7, .int .i64 a2_8, .slice A2_9 l2_9.length c2_9, .slice A2_10 l2_10.length c2_10] 30 (0, 0)) (by (with_reducible repeat (first | apply bd1 | apply bd2 | apply bd3)); exact BK148.out)) : gb210 ≠ gb148)); have n10_ := Aside0.mk ((by rw [hg]; exact Nat.ne_of_lt (blk_lt (g := gb149) (o := .cells #[.int .i64 x150000_3, .int .u32 x150001_3, .int .u32 x150002_3, .int .u64 x150003_3, .int .u64 x150004_3, .int .u32 x150005_3, .int .i64 x150006_3, .bool x150007_3, .int .i64 x150008_3, .slice none 0 0, .slice none 0 0] 30 (0, 0)) (by (with_reducible repeat (first | apply bd1 | apply bd2 | apply bd3)); exact BK149.out)) : gb149 ≠ gb210)); have n11_ := Aside0.mk ((by rw [hg]; exact Nat.ne_of_gt (blk_lt (g := gb149) (o := .cells #[.int .i64 x150000_3, .int .u32 x150001_3, .int .u32 x150002_3, .int .u64 x150003_3, .int .u64 x150004_3, .int .u32 x150005_3, .int .i64 x150006_3, .bool x150007_3, .int .i64 x150008_3, .slice none 0 0, .slice none 0 0] 30 (0, 0)) (by (with_reducible repeat (first | apply bd1 | apply bd2 | apply bd3)); exact BK149.out)) : gb210 ≠ gb149)); have n12_ := Aside0.mk ((by rw [hg]; exact Nat.ne_of_lt (IsS71.lt (show IsS71 w0 _ g t202 t203 t204 t205 t206 t207 t208 t209 from by repeat (first | (with_reducible first | exact HI0.out | apply IsS71.alloc | apply IsS71.drewN | apply IsS71.drew | apply IsS71.set_0 | apply IsS71.set_1 | apply IsS71.set_2 | apply IsS71.set_3 | apply IsS71.set_4 | apply IsS71.set_5 | apply IsS71.set_6 | apply IsS71.set_7 | refine IsS71.far ?_ NB0_148.out _ | refine IsS71.far ?_ NB0_149.out _) | refine IsS71.far ?_ NB0_148.out _ | refine IsS71.far ?_ NB0_149.out _ | exact HI0.out))) : g ≠ gb210)); have n13_ := Aside0.mk ((by rw [hg]; exact Nat.ne_of_gt (IsS71.lt (show IsS71 w0 _ g t202 t203 t204 t205 t206 t207 t208 t209 from by repeat (first | (with_reducible first | exact HI0.out | apply IsS71.alloc | apply IsS71.drewN | apply IsS71.drew | apply IsS71.set_0 | apply IsS71.set_1 | apply IsS71.set_2 | apply IsS71.set_3 | apply IsS71.set_4 | apply IsS71.set_5 | apply IsS71.set_6 | apply IsS71.set_7 | refine IsS71.far ?_ NB0_148.out _ | refine IsS71.far ?_ NB0_149.out _) | refine IsS71.far ?_ NB0_148.out _ | refine IsS71.far ?_ NB0_149.out _ | exact HI0.out))) : gb210 ≠ g)); clear BK148; clear BK149; clear HI0; clear HK; clear HB; have BK148 := n0_; have BK149 := n1_; have HI0 := n2_; have HK := n3_; have HB := n4_; have BK210 := n5_; have GW210 := n6_; have GE210 := n7_; have NB148_210 := n8_; have NB210_148 := n9_; have NB149_210 := n10_; have NB210_149 := n11_; have NB0_210 := n12_; have NB210_0 := n13_; clear n0_ n1_ n2_ n3_ n4_ n5_ n6_ n7_ n8_ n9_ n10_ n11_ n12_ n13_; clear hb hbox hg; have hnb76 := NB210_148.out; have hnc76 := NB148_210.out; have hnb77 := NB210_149.out; have hnc77 := NB149_210.out; have hnb78 := NB210_0.out; have hnc78 := NB0_210.out; obtain ⟨hcz79_0, hcz79_1, hcz79_2, hcz79_3, hfz79_0, hfz79_1, hfz79_2, hfz79_3⟩ := blk_all4 BK210.out; obtain ⟨HGz80, hgz80⟩ := HI0.out; have hcz80_0 := cellS71_0 HGz80; have hcz80_1 := cellS71_1 HGz80; have hcz80_2 := cellS71_2 HGz80; have hcz80_3 := cellS71_3 HGz80; have hcz80_4 := cellS71_4 HGz80; have hcz80_5 := cellS71_5 HGz80; have hcz80_6 := cellS71_6 HGz80; have hcz80_7 := cellS71_7 HGz80; have hfz80_0 := blk_frozen HGz80 0; have hfz80_1 := blk_frozen HGz80 1; have hfz80_2 := blk_frozen HGz80 2; have hfz80_3 := blk_frozen HGz80 3; have hfz80_4 := blk_frozen HGz80 4; have hfz80_5 := blk_frozen HGz80 5; have hfz80_6 := blk_frozen HGz80 6; have hfz80_7 := blk_frozen HGz80 7; clear HGz80 hgz80; have hnb81 := NB149_0.out; have hnc81 := NB0_149.out; obtain ⟨hcz82_0, hcz82_1, hcz82_2, hcz82_3, hcz82_4, hcz82_5, hcz82_6, hcz82_7, hcz82_8, hcz82_9, hcz82_10, hfz82_0, hfz82_1, hfz82_2, hfz82_3, hfz82_4, hfz82_5, hfz82_6, hfz82_7, hfz82_8, hfz82_9, hfz82_10⟩ := blk_all11 BK149.out))
        try (go_region; go_wp2)
        refine bodyPost_ret (results_cell_row rfl _ _ gb149 30 #[.int .i64 5, .int .u32 t197, .int .u32 0, .int .u64 0, .int .u64 (IntKind.u64.wrap (t199 - t204)), .int .u32 0, .int .i64 0, .bool false, .int .i64 t200, .slice none 0 0, .slice none 0 0] (0, 0) _ rfl (by (with_reducible repeat (first | apply bd1 | apply bd2 | apply bd3)); refine blk_put (cs := #[.int .i64 5, .int .u32 t197, .int .u32 0, .int .u64 0, .int .u64 (IntKind.u64.wrap (t199 - t204)), .int .u32 0, .int .i64 0, .bool false, .int .i64 t200, .slice none 0 0, .slice none 0 0]) ?_ 10 _ rfl; (with_reducible repeat (first | apply bd1 | apply bd2 | apply bd3)); refine blk_put (cs := #[.int .i64 5, .int .u32 t197, .int .u32 0, .int .u64 0, .int .u64 (IntKind.u64.wrap (t199 - t204)), .int .u32 0, .int .i64 0, .bool false, .int .i64 t200, .slice none 0 0, .slice none 0 0]) ?_ 9 _ rfl; (with_reducible repeat (first | apply bd1 | apply bd2 | apply bd3)); refine blk_put (cs := #[.int .i64 5, .int .u32 t197, .int .u32 0, .int .u64 0, .int .u64 (IntKind.u64.wrap (t199 - t204)), .int .u32 0, .int .i64 0, .bool false, .int .i64 x150008_3, .slice none 0 0, .slice none 0 0]) ?_ 8 _ rfl; (with_reducible repeat (first | apply bd1 | apply bd2 | apply bd3)); refine blk_put (cs := #[.int .i64 5, .int .u32 t197, .int .u32 0, .int .u64 0, .int .u64 (IntKind.u64.wrap (t199 - t204)), .int .u32 0, .int .i64 0, .bool x150007_3, .int .i64 x150008_3, .slice none 0 0, .slice none 0 0]) ?_ 7 _ rfl; (with_reducible repeat (first | apply bd1 | apply bd2 | apply bd3)); refine blk_put (cs := #[.int .i64 5, .int .u32 t197, .int .u32 0, .int .u64 0, .int .u64 (IntKind.u64.wrap (t199 - t204)), .int .u32 0, .int .i64 x150006_3, .bool x150007_3, .int .i64 x150008_3, .slice none 0 0, .slice none 0 0]) ?_ 6 _ rfl; (with_reducible repeat (first | apply bd1 | apply bd2 | apply bd3)); refine blk_put (cs := #[.int .i64 5, .int .u32 t197, .int .u32 0, .int .u64 0, .int .u64 (IntKind.u64.wrap (t199 - t204)), .int .u32 x150005_3, .int .i64 x150006_3, .bool x150007_3, .int .i64 x150008_3, .slice none 0 0, .slice none 0 0]) ?_ 5 _ rfl; (with_reducible repeat (first | apply bd1 | apply bd2 | apply bd3)); refine blk_put (cs := #[.int .i64 5, .int .u32 t197, .int .u32 0, .int .u64 0, .int .u64 x150004_3, .int .u32 x150005_3, .int .i64 x150006_3, .bool x150007_3, .int .i64 x150008_3, .slice none 0 0, .slice none 0 0]) ?_ 4 _ rfl; (with_reducible repeat (first | apply bd1 | apply bd2 | apply bd3)); refine blk_put (cs := #[.int .i64 5, .int .u32 t197, .int .u32 0, .int .u64 x150003_3, .int .u64 x150004_3, .int .u32 x150005_3, .int .i64 x150006_3, .bool x150007_3, .int .i64 x150008_3, .slice none 0 0, .slice none 0 0]) ?_ 3 _ rfl; (with_reducible repeat (first | apply bd1 | apply bd2 | apply bd3)); refine blk_put (cs := #[.int .i64 5, .int .u32 t197, .int .u32 x150002_3, .int .u64 x150003_3, .int .u64 x150004_3, .int .u32 x150005_3, .int .i64 x150006_3, .bool x150007_3, .int .i64 x150008_3, .slice none 0 0, .slice none 0 0]) ?_ 2 _ rfl; (with_reducible repeat (first | apply bd1 | apply bd2 | apply bd3)); refine blk_put (cs := #[.int .i64 5, .int .u32 x150001_3, .int .u32 x150002_3, .int .u64 x150003_3, .int .u64 x150004_3, .int .u32 x150005_3, .int .i64 x150006_3, .bool x150007_3, .int .i64 x150008_3, .slice none 0 0, .slice none 0 0]) ?_ 1 _ rfl; (with_reducible repeat (first | apply bd1 | apply bd2 | apply bd3)); refine blk_put (cs := #[.int .i64 x150000_3, .int .u32 x150001_3, .int .u32 x150002_3, .int .u64 x150003_3, .int .u64 x150004_3, .int .u32 x150005_3, .int .i64 x150006_3, .bool x150007_3, .int .i64 x150008_3, .slice none 0 0, .slice none 0 0]) ?_ 0 _ rfl; (with_reducible repeat (first | apply bd1 | apply bd2 | apply bd3)); refine blk_far ?_ NB149_0.out _; (with_reducible repeat (first | apply bd1 | apply bd2 | apply bd3)); refine blk_far ?_ NB149_0.out _; (with_reducible repeat (first | apply bd1 | apply bd2 | apply bd3)); refine blk_far ?_ NB149_0.out _; (with_reducible repeat (first | apply bd1 | apply bd2 | apply bd3)); refine blk_far ?_ NB149_0.out _; (with_reducible repeat (first | apply bd1 | apply bd2 | apply bd3)); refine blk_far ?_ NB149_0.out _; (with_reducible repeat (first | apply bd1 | apply bd2 | apply bd3)); refine blk_far ?_ NB149_210.out _; (with_reducible repeat (first | apply bd1 | apply bd2 | apply bd3)); refine blk_far ?_ NB149_210.out _; (with_reducible repeat (first | apply bd1 | apply bd2 | apply bd3)); refine blk_far ?_ NB149_210.out _; (with_reducible repeat (first | apply bd1 | apply bd2 | apply bd3)); refine blk_far ?_ NB149_210.out _; (with_reducible repeat (first | apply bd1 | apply bd2 | apply bd3)); exact BK149.out) Try.underlying30 rfl (by kernel_rfl)) rfl ?_
        exact ⟨_, _, by first | rfl | (simp [errW_none, errW_some] <;> rfl) | (simp [*, errW_none, errW_some] <;> rfl), by first | exact Kd.R_nil _ _ _ _ _ | exact Kd.N_nil _ _ _ _ _ | exact Kd.V_nil _ _ _ _ _ | exact Kd.Q_nil _ _ _ _ _ | exact Kd.S_nil _ _ _ _ _, by first | exact Kd.R_nil _ _ _ _ _ | exact Kd.N_nil _ _ _ _ _ | exact Kd.V_nil _ _ _ _ _ | exact Kd.Q_nil _ _ _ _ _ | exact Kd.S_nil _ _ _ _ _, by ((repeat (with_reducible first | refine IsS71.far ?_ NB0_149.out _ | refine IsS71.set_7 (f7 := t209) ?_ _ | refine IsS71.set_6 (f6 := t208) ?_ _ | refine IsS71.set_5 (f5 := t207) ?_ _ | refine IsS71.set_4 (f4 := t206) ?_ _ | refine IsS71.set_3 (f3 := t205) ?_ _ | refine IsS71.far ?_ NB0_210.out _ | apply IsS71.drewN | apply IsS71.drew)); with_reducible exact HI0.out), by repeat (first | (with_reducible first | exact HB.out | apply below_alloc | apply pw_below_drewN | apply below_drew1 | refine below_set ?_ (IsS71.ge HI0.out) | refine below_set ?_ GE148.out | refine below_set ?_ GE149.out | refine below_set ?_ GE210.out) | exact HB.out), by repeat (first | (with_reducible first | exact HK.out | apply KeepBut.set_ | apply keep_drewN | apply keep_drew | apply keep_alloc | refine keep_far ?_ GW148.out _ | refine keep_far ?_ GW149.out _ | refine keep_far ?_ GW210.out _) | exact HK.out)⟩
      · rw [if_neg c70] at H
        have c70b0 : (t201 == 0) = false := beq_eq_false_iff_ne.mpr c70
        have c70b1 : (t201 != 0) = true := bne_iff_ne.mpr c70
        replace H := Option.bind_eq_some_iff.mp H
        obtain ⟨t211, A830, H⟩ := H
        replace H : ((arbiter_Arbiter_no.f t202 t203 t204 t205 t206 t207 t208 t209 t211).bind fun bt212 => (some (bt212.1, bt212.2.1, bt212.2.2.1, bt212.2.2.2.1, bt212.2.2.2.2.1, bt212.2.2.2.2.2.1, bt212.2.2.2.2.2.2.1, bt212.2.2.2.2.2.2.2.1, bt212.2.2.2.2.2.2.2.2.1, bt212.2.2.2.2.2.2.2.2.2.1, bt212.2.2.2.2.2.2.2.2.2.2.1, bt212.2.2.2.2.2.2.2.2.2.2.2.1, bt212.2.2.2.2.2.2.2.2.2.2.2.2.1, bt212.2.2.2.2.2.2.2.2.2.2.2.2.2.1, bt212.2.2.2.2.2.2.2.2.2.2.2.2.2.2.1, bt212.2.2.2.2.2.2.2.2.2.2.2.2.2.2.2.1, bt212.2.2.2.2.2.2.2.2.2.2.2.2.2.2.2.2.1, bt212.2.2.2.2.2.2.2.2.2.2.2.2.2.2.2.2.2.1, bt212.2.2.2.2.2.2.2.2.2.2.2.2.2.2.2.2.2.2))) = some (r1, r2, r3, r4, r5, r6, r7, r8, r9, r10, r11, r12, r13, r14, r15, r16, r17, r18, r19) := H
        have A83 := Aside0.mk A830
        clear A830
        replace H := Option.bind_eq_some_iff.mp H
        obtain ⟨⟨t212, t213, t214, t215, t216, t217, t218, t219, t220, t221, t224, t227, t228, t229, t230, t231, t232, t233, t234⟩, A840, H⟩ := H
        replace H : (some (t212, t213, t214, t215, t216, t217, t218, t219, t220, t221, t224, t227, t228, t229, t230, t231, t232, t233, t234)) = some (r1, r2, r3, r4, r5, r6, r7, r8, r9, r10, r11, r12, r13, r14, r15, r16, r17, r18, r19) := H
        have A84 := Aside0.mk A840
        clear A840
        simp only [Option.some.injEq, Prod.mk.injEq] at H
        obtain ⟨rfl, rfl, rfl, rfl, rfl, rfl, rfl, rfl, rfl, rfl, rfl, rfl, rfl, rfl, rfl, rfl, rfl, rfl, rfl⟩ := H
        have hnb85 := NB148_149.out
        have hnc85 := NB149_148.out
        have hnb86 := NB148_0.out
        have hnc86 := NB0_148.out
        obtain ⟨hcz87_0, hcz87_1, hcz87_2, hcz87_3, hcz87_4, hcz87_5, hcz87_6, hcz87_7, hcz87_8, hcz87_9, hcz87_10, hfz87_0, hfz87_1, hfz87_2, hfz87_3, hfz87_4, hfz87_5, hfz87_6, hfz87_7, hfz87_8, hfz87_9, hfz87_10⟩ := blk_all11 BK148.out
        go_wp2_with (first | ((with_reducible refine gate_callee (f := 33) rfl ?_); refine goesL_ (some 73) rfl rfl Try.func33 (by kernel_rfl) rfl #[.pointer (some ⟨g, 0, none⟩), .int .i64 a1, .agg #[.int .i64 a2_0, .int .u32 a2_1, .int .u32 a2_2, .int .u64 a2_3, .int .u64 a2_4, .int .u32 a2_5, .int .i64 a2_6, .bool a2_7, .int .i64 a2_8, .slice A2_9 l2_9.length c2_9, .slice A2_10 l2_10.length c2_10]] rfl (by (try simp only [List.map_toArray, List.map_cons, List.map_nil]); first | done | rfl | (simp only [List.length_drop, List.length_take]; rfl)) ?_; (with_reducible refine (arbiter_Arbiter_next.calls kj3 g x1000_3 x1001_3 x1002_3 x1003_3 x1004_3 x1005_3 x1006_3 x1007_3 a1 a2_0 a2_1 a2_2 a2_3 a2_4 a2_5 a2_6 a2_7 a2_8 _ _ l2_9 _ _ l2_10 t197 t198 t199 t200 t201 t202 t203 t204 t205 t206 t207 t208 t209 w0 _ ?side1 ?side2 ?side3 ?side4 ?side5 ?side6 ?side7 ?side8 A69.out).mono ?_); (case side1 => repeat (first | (with_reducible first | exact HI0.out | apply IsS71.alloc | apply IsS71.drewN | apply IsS71.drew | apply IsS71.set_0 | apply IsS71.set_1 | apply IsS71.set_2 | apply IsS71.set_3 | apply IsS71.set_4 | apply IsS71.set_5 | apply IsS71.set_6 | apply IsS71.set_7 | refine IsS71.far ?_ NB0_148.out _ | refine IsS71.far ?_ NB0_149.out _) | refine IsS71.far ?_ NB0_148.out _ | refine IsS71.far ?_ NB0_149.out _ | exact HI0.out)); (case side2 => repeat (first | (with_reducible first | exact HB.out | apply below_alloc | apply pw_below_drewN | apply below_drew1 | refine below_set ?_ (IsS71.ge HI0.out) | refine below_set ?_ GE148.out | refine below_set ?_ GE149.out) | exact HB.out)); (case side3 => exact Kd.C_keep 0 HR2_9.out (by repeat (first | (with_reducible first | exact HK.out | apply KeepBut.set_ | apply keep_drewN | apply keep_drew | apply keep_alloc | refine keep_far ?_ GW148.out _ | refine keep_far ?_ GW149.out _) | exact HK.out)) hf2_9); (case side4 => exact HC2_9.out); (case side5 => exact hf2_9); (case side6 => exact Kd.C_keep 0 HR2_10.out (by repeat (first | (with_reducible first | exact HK.out | apply KeepBut.set_ | apply keep_drewN | apply keep_drew | apply keep_alloc | refine keep_far ?_ GW148.out _ | refine keep_far ?_ GW149.out _) | exact HK.out)) hf2_10); (case side7 => exact HC2_10.out); (case side8 => exact hf2_10); rintro e w88 ⟨rfl, hi, hb, hk⟩; refine ⟨_, rfl, ?_⟩; have n0_ := Aside0.mk (KeepBut.blk hk (g' := gb148) (o := .cells #[.int .i64 a2_0, .int .u32 a2_1, .int .u32 a2_2, .int .u64 a2_3, .int .u64 a2_4, .int .u32 a2_5, .int .i64 a2_6, .bool a2_7, .int .i64 a2_8, .slice A2_9 l2_9.length c2_9, .slice A2_10 l2_10.length c2_10] 30 (0, 0)) (by (with_reducible repeat (first | apply bd1 | apply bd2 | apply bd3)); exact BK148.out) NB148_0.out (by simp)); have n1_ := Aside0.mk (KeepBut.blk hk (g' := gb149) (o := .cells #[.int .i64 x150000_3, .int .u32 x150001_3, .int .u32 x150002_3, .int .u64 x150003_3, .int .u64 x150004_3, .int .u32 x150005_3, .int .i64 x150006_3, .bool x150007_3, .int .i64 x150008_3, .slice none 0 0, .slice none 0 0] 30 (0, 0)) (by (with_reducible repeat (first | apply bd1 | apply bd2 | apply bd3)); exact BK149.out) NB149_0.out (by simp)); have n2_ := Aside0.mk (KeepBut.trans (by repeat (first | (with_reducible first | exact HK.out | apply KeepBut.set_ | apply keep_drewN | apply keep_drew | apply keep_alloc | refine keep_far ?_ GW148.out _ | refine keep_far ?_ GW149.out _) | exact HK.out)) hk (.inl rfl)); have n3_ := Aside0.mk (hb); have n4_ := Aside0.mk (hi); clear BK148; clear BK149; clear HK; clear HB; clear HI0; have BK148 := n0_; have BK149 := n1_; have HK := n2_; have HB := n3_; have HI0 := n4_; clear n0_ n1_ n2_ n3_ n4_; (try clear hb); (try clear hb2); (try clear hk); (try clear hi)) | ((with_reducible refine gate_dst (N := 7) rfl ?_); refine box_event ?hg (N := 7) ?hd (cs := #[.int .u32 0, .int .i64 0, .int .u64 0, .int .i64 0]) (t := 42) ?hr ?_; (case hd => rfl); (case hg => rfl); (case hr => first | (go_simp; done) | (go_simp; rfl)); intro gb210 hg w89 hbox hb; have n0_ := Aside0.mk (blk_below (g := gb148) (o := .cells #[.int .i64 a2_0, .int .u32 a2_1, .int .u32 a2_2, .int .u64 a2_3, .int .u64 a2_4, .int .u32 a2_5, .int .i64 a2_6, .bool a2_7, .int .i64 a2_8, .slice A2_9 l2_9.length c2_9, .slice A2_10 l2_10.length c2_10] 30 (0, 0)) (by (with_reducible repeat (first | apply bd1 | apply bd2 | apply bd3)); exact BK148.out) hb); have n1_ := Aside0.mk (blk_below (g := gb149) (o := .cells #[.int .i64 x150000_3, .int .u32 x150001_3, .int .u32 x150002_3, .int .u64 x150003_3, .int .u64 x150004_3, .int .u32 x150005_3, .int .i64 x150006_3, .bool x150007_3, .int .i64 x150008_3, .slice none 0 0, .slice none 0 0] 30 (0, 0)) (by (with_reducible repeat (first | apply bd1 | apply bd2 | apply bd3)); exact BK149.out) hb); have n2_ := Aside0.mk (IsS71.below (by repeat (first | (with_reducible first | exact HI0.out | apply IsS71.alloc | apply IsS71.drewN | apply IsS71.drew | apply IsS71.set_0 | apply IsS71.set_1 | apply IsS71.set_2 | apply IsS71.set_3 | apply IsS71.set_4 | apply IsS71.set_5 | apply IsS71.set_6 | apply IsS71.set_7 | refine IsS71.far ?_ NB0_148.out _ | refine IsS71.far ?_ NB0_149.out _) | refine IsS71.far ?_ NB0_148.out _ | refine IsS71.far ?_ NB0_149.out _ | exact HI0.out)) hb); have n3_ := Aside0.mk (KeepBut.trans (by repeat (first | (with_reducible first | exact HK.out | apply KeepBut.set_ | apply keep_drewN | apply keep_drew | apply keep_alloc | refine keep_far ?_ GW148.out _ | refine keep_far ?_ GW149.out _) | exact HK.out)) (KeepBut.of_below hb g none) (.inl rfl)); have n4_ := Aside0.mk (below_step (by repeat (first | (with_reducible first | exact HB.out | apply below_alloc | apply pw_below_drewN | apply below_drew1 | refine below_set ?_ (IsS71.ge HI0.out) | refine below_set ?_ GE148.out | refine below_set ?_ GE149.out) | exact HB.out)) hb); have n5_ := Aside0.mk (hbox); have n6_ := Aside0.mk ((by rw [hg]; exact (keep_size (w := w) (g := g) (row := none) (by repeat (first | (with_reducible first | exact HK.out | apply KeepBut.set_ | apply keep_drewN | apply keep_drew | apply keep_alloc | refine keep_far ?_ GW148.out _ | refine keep_far ?_ GW149.out _) | exact HK.out))) : w.heap.size ≤ gb210)); have n7_ := Aside0.mk ((Nat.le_trans HW0.out (by rw [hg]; exact (keep_size (w := w) (g := g) (row := none) (by repeat (first | (with_reducible first | exact HK.out | apply KeepBut.set_ | apply keep_drewN | apply keep_drew | apply keep_alloc | refine keep_far ?_ GW148.out _ | refine keep_far ?_ GW149.out _) | exact HK.out))) : w.heap.size ≤ gb210) : w0.heap.size ≤ gb210)); have n8_ := Aside0.mk ((by rw [hg]; exact Nat.ne_of_lt (blk_lt (g := gb148) (o := .cells #[.int .i64 a2_0, .int .u32 a2_1, .int .u32 a2_2, .int .u64 a2_3, .int .u64 a2_4, .int .u32 a2_5, .int .i64 a2_6, .bool a2_7, .int .i64 a2_8, .slice A2_9 l2_9.length c2_9, .slice A2_10 l2_10.length c2_10] 30 (0, 0)) (by (with_reducible repeat (first | apply bd1 | apply bd2 | apply bd3)); exact BK148.out)) : gb148 ≠ gb210)); have n9_ := Aside0.mk ((by rw [hg]; exact Nat.ne_of_gt (blk_lt (g := gb148) (o := .cells #[.int .i64 a2_0, .int .u32 a2_1, .int .u32 a2_2, .int .u64 a2_3, .int .u64 a2_4, .int .u32 a2_5, .int .i64 a2_6, .bool a2_7, .int .i64 a2_8, .slice A2_9 l2_9.length c2_9, .slice A2_10 l2_10.length c2_10] 30 (0, 0)) (by (with_reducible repeat (first | apply bd1 | apply bd2 | apply bd3)); exact BK148.out)) : gb210 ≠ gb148)); have n10_ := Aside0.mk ((by rw [hg]; exact Nat.ne_of_lt (blk_lt (g := gb149) (o := .cells #[.int .i64 x150000_3, .int .u32 x150001_3, .int .u32 x150002_3, .int .u64 x150003_3, .int .u64 x150004_3, .int .u32 x150005_3, .int .i64 x150006_3, .bool x150007_3, .int .i64 x150008_3, .slice none 0 0, .slice none 0 0] 30 (0, 0)) (by (with_reducible repeat (first | apply bd1 | apply bd2 | apply bd3)); exact BK149.out)) : gb149 ≠ gb210)); have n11_ := Aside0.mk ((by rw [hg]; exact Nat.ne_of_gt (blk_lt (g := gb149) (o := .cells #[.int .i64 x150000_3, .int .u32 x150001_3, .int .u32 x150002_3, .int .u64 x150003_3, .int .u64 x150004_3, .int .u32 x150005_3, .int .i64 x150006_3, .bool x150007_3, .int .i64 x150008_3, .slice none 0 0, .slice none 0 0] 30 (0, 0)) (by (with_reducible repeat (first | apply bd1 | apply bd2 | apply bd3)); exact BK149.out)) : gb210 ≠ gb149)); have n12_ := Aside0.mk ((by rw [hg]; exact Nat.ne_of_lt (IsS71.lt (show IsS71 w0 _ g t202 t203 t204 t205 t206 t207 t208 t209 from by repeat (first | (with_reducible first | exact HI0.out | apply IsS71.alloc | apply IsS71.drewN | apply IsS71.drew | apply IsS71.set_0 | apply IsS71.set_1 | apply IsS71.set_2 | apply IsS71.set_3 | apply IsS71.set_4 | apply IsS71.set_5 | apply IsS71.set_6 | apply IsS71.set_7 | refine IsS71.far ?_ NB0_148.out _ | refine IsS71.far ?_ NB0_149.out _) | refine IsS71.far ?_ NB0_148.out _ | refine IsS71.far ?_ NB0_149.out _ | exact HI0.out))) : g ≠ gb210)); have n13_ := Aside0.mk ((by rw [hg]; exact Nat.ne_of_gt (IsS71.lt (show IsS71 w0 _ g t202 t203 t204 t205 t206 t207 t208 t209 from by repeat (first | (with_reducible first | exact HI0.out | apply IsS71.alloc | apply IsS71.drewN | apply IsS71.drew | apply IsS71.set_0 | apply IsS71.set_1 | apply IsS71.set_2 | apply IsS71.set_3 | apply IsS71.set_4 | apply IsS71.set_5 | apply IsS71.set_6 | apply IsS71.set_7 | refine IsS71.far ?_ NB0_148.out _ | refine IsS71.far ?_ NB0_149.out _) | refine IsS71.far ?_ NB0_148.out _ | refine IsS71.far ?_ NB0_149.out _ | exact HI0.out))) : gb210 ≠ g)); clear BK148; clear BK149; clear HI0; clear HK; clear HB; have BK148 := n0_; have BK149 := n1_; have HI0 := n2_; have HK := n3_; have HB := n4_; have BK210 := n5_; have GW210 := n6_; have GE210 := n7_; have NB148_210 := n8_; have NB210_148 := n9_; have NB149_210 := n10_; have NB210_149 := n11_; have NB0_210 := n12_; have NB210_0 := n13_; clear n0_ n1_ n2_ n3_ n4_ n5_ n6_ n7_ n8_ n9_ n10_ n11_ n12_ n13_; clear hb hbox hg; have hnb90 := NB210_148.out; have hnc90 := NB148_210.out; have hnb91 := NB210_149.out; have hnc91 := NB149_210.out; have hnb92 := NB210_0.out; have hnc92 := NB0_210.out; obtain ⟨hcz93_0, hcz93_1, hcz93_2, hcz93_3, hfz93_0, hfz93_1, hfz93_2, hfz93_3⟩ := blk_all4 BK210.out) | ((with_reducible refine gate_callee (f := 34) rfl ?_); refine goesL_ (some 80) rfl rfl Try.func34 (by kernel_rfl) rfl #[.int .i64 t201] rfl (by (try simp only [List.map_toArray, List.map_cons, List.map_nil]); first | done | rfl | (simp only [List.length_drop, List.length_take]; rfl)) ?_; (with_reducible refine (arbiter_code.calls t201 t211 _ A83.out).mono ?_); rintro e w94 ⟨rfl, hb⟩; refine ⟨_, rfl, ?_⟩; have n0_ := Aside0.mk (blk_below (g := gb148) (o := .cells #[.int .i64 a2_0, .int .u32 a2_1, .int .u32 a2_2, .int .u64 a2_3, .int .u64 a2_4, .int .u32 a2_5, .int .i64 a2_6, .bool a2_7, .int .i64 a2_8, .slice A2_9 l2_9.length c2_9, .slice A2_10 l2_10.length c2_10] 30 (0, 0)) (by (with_reducible repeat (first | apply bd1 | apply bd2 | apply bd3)); refine blk_far ?_ NB148_210.out _; (with_reducible repeat (first | apply bd1 | apply bd2 | apply bd3)); refine blk_far ?_ NB148_210.out _; (with_reducible repeat (first | apply bd1 | apply bd2 | apply bd3)); refine blk_far ?_ NB148_210.out _; (with_reducible repeat (first | apply bd1 | apply bd2 | apply bd3)); refine blk_far ?_ NB148_210.out _; (with_reducible repeat (first | apply bd1 | apply bd2 | apply bd3)); exact BK148.out) hb); have n1_ := Aside0.mk (blk_below (g := gb149) (o := .cells #[.int .i64 x150000_3, .int .u32 x150001_3, .int .u32 x150002_3, .int .u64 x150003_3, .int .u64 x150004_3, .int .u32 x150005_3, .int .i64 x150006_3, .bool x150007_3, .int .i64 x150008_3, .slice none 0 0, .slice none 0 0] 30 (0, 0)) (by (with_reducible repeat (first | apply bd1 | apply bd2 | apply bd3)); refine blk_far ?_ NB149_210.out _; (with_reducible repeat (first | apply bd1 | apply bd2 | apply bd3)); refine blk_far ?_ NB149_210.out _; (with_reducible repeat (first | apply bd1 | apply bd2 | apply bd3)); refine blk_far ?_ NB149_210.out _; (with_reducible repeat (first | apply bd1 | apply bd2 | apply bd3)); refine blk_far ?_ NB149_210.out _; (with_reducible repeat (first | apply bd1 | apply bd2 | apply bd3)); exact BK149.out) hb); have n2_ := Aside0.mk (IsS71.below (show IsS71 w0 ((((w89.setCell ⟨gb210, 0, none⟩ (.int .u32 t197)).setCell ⟨gb210, 1, none⟩ (.int .i64 t198)).setCell ⟨gb210, 2, none⟩ (.int .u64 t199)).setCell ⟨gb210, 3, none⟩ (.int .i64 t200)) g t202 t203 t204 t205 t206 t207 t208 t209 from by repeat (first | (with_reducible first | exact HI0.out | apply IsS71.alloc | apply IsS71.drewN | apply IsS71.drew | apply IsS71.set_0 | apply IsS71.set_1 | apply IsS71.set_2 | apply IsS71.set_3 | apply IsS71.set_4 | apply IsS71.set_5 | apply IsS71.set_6 | apply IsS71.set_7 | refine IsS71.far ?_ NB0_148.out _ | refine IsS71.far ?_ NB0_149.out _ | refine IsS71.far ?_ NB0_210.out _) | refine IsS71.far ?_ NB0_148.out _ | refine IsS71.far ?_ NB0_149.out _ | refine IsS71.far ?_ NB0_210.out _ | exact HI0.out)) hb); have n3_ := Aside0.mk (blk_below (g := gb210) (o := .cells #[.int .u32 t197, .int .i64 t198, .int .u64 t199, .int .i64 t200] 42 (0, 0)) (by (with_reducible repeat (first | apply bd1 | apply bd2 | apply bd3)); refine blk_put (cs := #[.int .u32 t197, .int .i64 t198, .int .u64 t199, .int .i64 0]) ?_ 3 _ rfl; (with_reducible repeat (first | apply bd1 | apply bd2 | apply bd3)); refine blk_put (cs := #[.int .u32 t197, .int .i64 t198, .int .u64 0, .int .i64 0]) ?_ 2 _ rfl; (with_reducible repeat (first | apply bd1 | apply bd2 | apply bd3)); refine blk_put (cs := #[.int .u32 t197, .int .i64 0, .int .u64 0, .int .i64 0]) ?_ 1 _ rfl; (with_reducible repeat (first | apply bd1 | apply bd2 | apply bd3)); refine blk_put (cs := #[.int .u32 0, .int .i64 0, .int .u64 0, .int .i64 0]) ?_ 0 _ rfl; (with_reducible repeat (first | apply bd1 | apply bd2 | apply bd3)); exact BK210.out) hb); have n4_ := Aside0.mk (KeepBut.trans (by repeat (first | (with_reducible first | exact HK.out | apply KeepBut.set_ | apply keep_drewN | apply keep_drew | apply keep_alloc | refine keep_far ?_ GW148.out _ | refine keep_far ?_ GW149.out _ | refine keep_far ?_ GW210.out _) | exact HK.out)) (KeepBut.of_below hb g none) (.inl rfl)); have n5_ := Aside0.mk (below_step (by repeat (first | (with_reducible first | exact HB.out | apply below_alloc | apply pw_below_drewN | apply below_drew1 | refine below_set ?_ (IsS71.ge HI0.out) | refine below_set ?_ GE148.out | refine below_set ?_ GE149.out | refine below_set ?_ GE210.out) | exact HB.out)) hb); clear BK148; clear BK149; clear HI0; clear BK210; clear HK; clear HB; have BK148 := n0_; have BK149 := n1_; have HI0 := n2_; have BK210 := n3_; have HK := n4_; have HB := n5_; clear n0_ n1_ n2_ n3_ n4_ n5_; (try clear hb); (try clear hb2); (try clear hk); (try clear hi)) | ((with_reducible refine gate_callee (f := 32) rfl ?_); refine goesL_ (some 81) rfl rfl Try.func32 (by kernel_rfl) rfl #[.pointer (some ⟨g, 0, none⟩), .int .i64 t211] rfl (by (try simp only [List.map_toArray, List.map_cons, List.map_nil]); first | done | rfl | (simp only [List.length_drop, List.length_take]; rfl)) ?_; (with_reducible refine (arbiter_Arbiter_no.calls g t202 t203 t204 t205 t206 t207 t208 t209 t211 t212 t213 t214 t215 t216 t217 t218 t219 t220 t221 t224 t227 t228 t229 t230 t231 t232 t233 t234 w0 _ ?side1 ?side2 A84.out).mono ?_); (case side1 => repeat (first | (with_reducible first | exact HI0.out | apply IsS71.alloc | apply IsS71.drewN | apply IsS71.drew | apply IsS71.set_0 | apply IsS71.set_1 | apply IsS71.set_2 | apply IsS71.set_3 | apply IsS71.set_4 | apply IsS71.set_5 | apply IsS71.set_6 | apply IsS71.set_7 | refine IsS71.far ?_ NB0_148.out _ | refine IsS71.far ?_ NB0_149.out _ | refine IsS71.far ?_ NB0_210.out _) | refine IsS71.far ?_ NB0_148.out _ | refine IsS71.far ?_ NB0_149.out _ | refine IsS71.far ?_ NB0_210.out _ | exact HI0.out)); (case side2 => repeat (first | (with_reducible first | exact HB.out | apply below_alloc | apply pw_below_drewN | apply below_drew1 | refine below_set ?_ (IsS71.ge HI0.out) | refine below_set ?_ GE148.out | refine below_set ?_ GE149.out | refine below_set ?_ GE210.out) | exact HB.out)); rintro e w95 ⟨v222, v225, rfl, ho0, ho1, hi, hb, hk⟩; refine ⟨_, rfl, ?_⟩; have n0_ := Aside0.mk (KeepBut.blk hk (g' := gb148) (o := .cells #[.int .i64 a2_0, .int .u32 a2_1, .int .u32 a2_2, .int .u64 a2_3, .int .u64 a2_4, .int .u32 a2_5, .int .i64 a2_6, .bool a2_7, .int .i64 a2_8, .slice A2_9 l2_9.length c2_9, .slice A2_10 l2_10.length c2_10] 30 (0, 0)) (by (with_reducible repeat (first | apply bd1 | apply bd2 | apply bd3)); exact BK148.out) NB148_0.out (by simp)); have n1_ := Aside0.mk (KeepBut.blk hk (g' := gb149) (o := .cells #[.int .i64 x150000_3, .int .u32 x150001_3, .int .u32 x150002_3, .int .u64 x150003_3, .int .u64 x150004_3, .int .u32 x150005_3, .int .i64 x150006_3, .bool x150007_3, .int .i64 x150008_3, .slice none 0 0, .slice none 0 0] 30 (0, 0)) (by (with_reducible repeat (first | apply bd1 | apply bd2 | apply bd3)); exact BK149.out) NB149_0.out (by simp)); have n2_ := Aside0.mk (KeepBut.blk hk (g' := gb210) (o := .cells #[.int .u32 t197, .int .i64 t198, .int .u64 t199, .int .i64 t200] 42 (0, 0)) (by (with_reducible repeat (first | apply bd1 | apply bd2 | apply bd3)); exact BK210.out) NB210_0.out (by simp)); have n3_ := Aside0.mk (Kd.R_lower ho0 (keep_size (w := w) (g := g) (row := none) (by repeat (first | (with_reducible first | exact HK.out | apply KeepBut.set_ | apply keep_drewN | apply keep_drew | apply keep_alloc | refine keep_far ?_ GW148.out _ | refine keep_far ?_ GW149.out _ | refine keep_far ?_ GW210.out _) | exact HK.out)))); have n4_ := Aside0.mk (Kd.R_lower ho1 (keep_size (w := w) (g := g) (row := none) (by repeat (first | (with_reducible first | exact HK.out | apply KeepBut.set_ | apply keep_drewN | apply keep_drew | apply keep_alloc | refine keep_far ?_ GW148.out _ | refine keep_far ?_ GW149.out _ | refine keep_far ?_ GW210.out _) | exact HK.out)))); have n5_ := Aside0.mk (KeepBut.trans (by repeat (first | (with_reducible first | exact HK.out | apply KeepBut.set_ | apply keep_drewN | apply keep_drew | apply keep_alloc | refine keep_far ?_ GW148.out _ | refine keep_far ?_ GW149.out _ | refine keep_far ?_ GW210.out _) | exact HK.out)) hk (.inl rfl)); have n6_ := Aside0.mk (hb); have n7_ := Aside0.mk (hi); clear BK148; clear BK149; clear BK210; clear HK; clear HB; clear HI0; have BK148 := n0_; have BK149 := n1_; have BK210 := n2_; have HO223 := n3_; have HO226 := n4_; have HK := n5_; have HB := n6_; have HI0 := n7_; clear n0_ n1_ n2_ n3_ n4_ n5_ n6_ n7_; (try clear hb); (try clear hb2); (try clear hk); (try clear hi); (try clear ho0); (try clear ho1); have hnb96 := NB149_0.out; have hnc96 := NB0_149.out; obtain ⟨hcz97_0, hcz97_1, hcz97_2, hcz97_3, hcz97_4, hcz97_5, hcz97_6, hcz97_7, hcz97_8, hcz97_9, hcz97_10, hfz97_0, hfz97_1, hfz97_2, hfz97_3, hfz97_4, hfz97_5, hfz97_6, hfz97_7, hfz97_8, hfz97_9, hfz97_10⟩ := blk_all11 BK149.out; obtain ⟨Ao98, co98, eo98⟩ := Kd.R_slice HO223.out; subst eo98; obtain ⟨Ao99, co99, eo99⟩ := Kd.R_slice HO226.out; subst eo99))
        try (go_region; go_wp2)
        refine bodyPost_ret (results_cell_row rfl _ _ gb149 30 #[.int .i64 t212, .int .u32 t213, .int .u32 t214, .int .u64 t215, .int .u64 t216, .int .u32 t217, .int .i64 t218, .bool t219, .int .i64 t220, .slice Ao98 t221.length co98, .slice Ao99 t224.length co99] (0, 0) _ rfl (by (with_reducible repeat (first | apply bd1 | apply bd2 | apply bd3)); refine blk_put (cs := #[.int .i64 t212, .int .u32 t213, .int .u32 t214, .int .u64 t215, .int .u64 t216, .int .u32 t217, .int .i64 t218, .bool t219, .int .i64 t220, .slice Ao98 t221.length co98, .slice none 0 0]) ?_ 10 _ rfl; (with_reducible repeat (first | apply bd1 | apply bd2 | apply bd3)); refine blk_put (cs := #[.int .i64 t212, .int .u32 t213, .int .u32 t214, .int .u64 t215, .int .u64 t216, .int .u32 t217, .int .i64 t218, .bool t219, .int .i64 t220, .slice none 0 0, .slice none 0 0]) ?_ 9 _ rfl; (with_reducible repeat (first | apply bd1 | apply bd2 | apply bd3)); refine blk_put (cs := #[.int .i64 t212, .int .u32 t213, .int .u32 t214, .int .u64 t215, .int .u64 t216, .int .u32 t217, .int .i64 t218, .bool t219, .int .i64 x150008_3, .slice none 0 0, .slice none 0 0]) ?_ 8 _ rfl; (with_reducible repeat (first | apply bd1 | apply bd2 | apply bd3)); refine blk_put (cs := #[.int .i64 t212, .int .u32 t213, .int .u32 t214, .int .u64 t215, .int .u64 t216, .int .u32 t217, .int .i64 t218, .bool x150007_3, .int .i64 x150008_3, .slice none 0 0, .slice none 0 0]) ?_ 7 _ rfl; (with_reducible repeat (first | apply bd1 | apply bd2 | apply bd3)); refine blk_put (cs := #[.int .i64 t212, .int .u32 t213, .int .u32 t214, .int .u64 t215, .int .u64 t216, .int .u32 t217, .int .i64 x150006_3, .bool x150007_3, .int .i64 x150008_3, .slice none 0 0, .slice none 0 0]) ?_ 6 _ rfl; (with_reducible repeat (first | apply bd1 | apply bd2 | apply bd3)); refine blk_put (cs := #[.int .i64 t212, .int .u32 t213, .int .u32 t214, .int .u64 t215, .int .u64 t216, .int .u32 x150005_3, .int .i64 x150006_3, .bool x150007_3, .int .i64 x150008_3, .slice none 0 0, .slice none 0 0]) ?_ 5 _ rfl; (with_reducible repeat (first | apply bd1 | apply bd2 | apply bd3)); refine blk_put (cs := #[.int .i64 t212, .int .u32 t213, .int .u32 t214, .int .u64 t215, .int .u64 x150004_3, .int .u32 x150005_3, .int .i64 x150006_3, .bool x150007_3, .int .i64 x150008_3, .slice none 0 0, .slice none 0 0]) ?_ 4 _ rfl; (with_reducible repeat (first | apply bd1 | apply bd2 | apply bd3)); refine blk_put (cs := #[.int .i64 t212, .int .u32 t213, .int .u32 t214, .int .u64 x150003_3, .int .u64 x150004_3, .int .u32 x150005_3, .int .i64 x150006_3, .bool x150007_3, .int .i64 x150008_3, .slice none 0 0, .slice none 0 0]) ?_ 3 _ rfl; (with_reducible repeat (first | apply bd1 | apply bd2 | apply bd3)); refine blk_put (cs := #[.int .i64 t212, .int .u32 t213, .int .u32 x150002_3, .int .u64 x150003_3, .int .u64 x150004_3, .int .u32 x150005_3, .int .i64 x150006_3, .bool x150007_3, .int .i64 x150008_3, .slice none 0 0, .slice none 0 0]) ?_ 2 _ rfl; (with_reducible repeat (first | apply bd1 | apply bd2 | apply bd3)); refine blk_put (cs := #[.int .i64 t212, .int .u32 x150001_3, .int .u32 x150002_3, .int .u64 x150003_3, .int .u64 x150004_3, .int .u32 x150005_3, .int .i64 x150006_3, .bool x150007_3, .int .i64 x150008_3, .slice none 0 0, .slice none 0 0]) ?_ 1 _ rfl; (with_reducible repeat (first | apply bd1 | apply bd2 | apply bd3)); refine blk_put (cs := #[.int .i64 x150000_3, .int .u32 x150001_3, .int .u32 x150002_3, .int .u64 x150003_3, .int .u64 x150004_3, .int .u32 x150005_3, .int .i64 x150006_3, .bool x150007_3, .int .i64 x150008_3, .slice none 0 0, .slice none 0 0]) ?_ 0 _ rfl; (with_reducible repeat (first | apply bd1 | apply bd2 | apply bd3)); exact BK149.out) Try.underlying30 rfl (by kernel_rfl)) rfl ?_
        exact ⟨_, _, by first | rfl | (simp [errW_none, errW_some] <;> rfl) | (simp [*, errW_none, errW_some] <;> rfl), by (with_reducible repeat (first | apply Kd.R_alloc | apply Kd.R_drewN | apply Kd.R_drew)); exact Kd.R_mono (Kd.R_far (p := ⟨gb149, 10, none⟩) (Kd.R_far (p := ⟨gb149, 9, none⟩) (Kd.R_far (p := ⟨gb149, 8, none⟩) (Kd.R_far (p := ⟨gb149, 7, none⟩) (Kd.R_far (p := ⟨gb149, 6, none⟩) (Kd.R_far (p := ⟨gb149, 5, none⟩) (Kd.R_far (p := ⟨gb149, 4, none⟩) (Kd.R_far (p := ⟨gb149, 3, none⟩) (Kd.R_far (p := ⟨gb149, 2, none⟩) (Kd.R_far (p := ⟨gb149, 1, none⟩) (Kd.R_far (p := ⟨gb149, 0, none⟩) (Kd.R_types HO223.out BK149.out (by decide)) (fun _ hk => hk.2) (.int .i64 t212)) (fun _ hk => hk.2) (.int .u32 t213)) (fun _ hk => hk.2) (.int .u32 t214)) (fun _ hk => hk.2) (.int .u64 t215)) (fun _ hk => hk.2) (.int .u64 t216)) (fun _ hk => hk.2) (.int .u32 t217)) (fun _ hk => hk.2) (.int .i64 t218)) (fun _ hk => hk.2) (.bool t219)) (fun _ hk => hk.2) (.int .i64 t220)) (fun _ hk => hk.2) (.slice Ao98 t221.length co98)) (fun _ hk => hk.2) (.slice Ao99 t224.length co99)) (fun _ hk => hk.1), by (with_reducible repeat (first | apply Kd.R_alloc | apply Kd.R_drewN | apply Kd.R_drew)); exact Kd.R_mono (Kd.R_far (p := ⟨gb149, 10, none⟩) (Kd.R_far (p := ⟨gb149, 9, none⟩) (Kd.R_far (p := ⟨gb149, 8, none⟩) (Kd.R_far (p := ⟨gb149, 7, none⟩) (Kd.R_far (p := ⟨gb149, 6, none⟩) (Kd.R_far (p := ⟨gb149, 5, none⟩) (Kd.R_far (p := ⟨gb149, 4, none⟩) (Kd.R_far (p := ⟨gb149, 3, none⟩) (Kd.R_far (p := ⟨gb149, 2, none⟩) (Kd.R_far (p := ⟨gb149, 1, none⟩) (Kd.R_far (p := ⟨gb149, 0, none⟩) (Kd.R_types HO226.out BK149.out (by decide)) (fun _ hk => hk.2) (.int .i64 t212)) (fun _ hk => hk.2) (.int .u32 t213)) (fun _ hk => hk.2) (.int .u32 t214)) (fun _ hk => hk.2) (.int .u64 t215)) (fun _ hk => hk.2) (.int .u64 t216)) (fun _ hk => hk.2) (.int .u32 t217)) (fun _ hk => hk.2) (.int .i64 t218)) (fun _ hk => hk.2) (.bool t219)) (fun _ hk => hk.2) (.int .i64 t220)) (fun _ hk => hk.2) (.slice Ao98 t221.length co98)) (fun _ hk => hk.2) (.slice Ao99 t224.length co99)) (fun _ hk => hk.1), by repeat (first | (with_reducible first | exact HI0.out | apply IsS71.alloc | apply IsS71.drewN | apply IsS71.drew | apply IsS71.set_0 | apply IsS71.set_1 | apply IsS71.set_2 | apply IsS71.set_3 | apply IsS71.set_4 | apply IsS71.set_5 | apply IsS71.set_6 | apply IsS71.set_7 | refine IsS71.far ?_ NB0_148.out _ | refine IsS71.far ?_ NB0_149.out _ | refine IsS71.far ?_ NB0_210.out _) | refine IsS71.far ?_ NB0_148.out _ | refine IsS71.far ?_ NB0_149.out _ | refine IsS71.far ?_ NB0_210.out _ | exact HI0.out), by repeat (first | (with_reducible first | exact HB.out | apply below_alloc | apply pw_below_drewN | apply below_drew1 | refine below_set ?_ (IsS71.ge HI0.out) | refine below_set ?_ GE148.out | refine below_set ?_ GE149.out | refine below_set ?_ GE210.out) | exact HB.out), by repeat (first | (with_reducible first | exact HK.out | apply KeepBut.set_ | apply keep_drewN | apply keep_drew | apply keep_alloc | refine keep_far ?_ GW148.out _ | refine keep_far ?_ GW149.out _ | refine keep_far ?_ GW210.out _) | exact HK.out)⟩

end Go.Proofs.Ytgghljienippgaa.PA
