/- What arbiter.code answers, as a contract. -/
import Derived.Test.YtgghljienippgaaVturn
import Derived.Test.YtgghljienippgaaVchk
import Derived.Test.YtgghljienippgaaWWords
import Derived.Test.YtgghljienippgaaWLast
import Derived.MapKept
import Derived.WalkKit
import Derived.Below
namespace Go.VX
open Go.Proofs Go.RowKit Go.VX.M17 Go.Proofs.YtgghljienippgaaW.PrintWords Go.Proofs.YtgghljienippgaaW.PrintLast
set_option linter.unusedVariables false
set_option linter.unusedSimpArgs false
/-! ### arbiter_code: function 34 -/
theorem code_last (w : World) (o : Obj) : (w.alloc o).heap[w.heap.size]? = some o := (MapKept.heap_alloc w o).1
theorem code_set (w : World) (o o' : Obj) : { w.alloc o with heap := (w.alloc o).heap.setIfInBounds w.heap.size o' } = w.alloc o' := by
  simp only [World.alloc]
  congr 1
  apply Array.ext'
  simp [Array.setIfInBounds, Array.toList_push]
theorem code_put {t kt et : TypeId} {P : Program} (hu : P.underlying t = some (.map kt et)) (hk : P.underlying kt = some (.int .i64)) (W : World) (es : Array MapEntry) (cl : Nat) (k v : Int) (hn : Instr.findNow (.int .i64) (.int .i64 k) es.toList 0 = some none) :
    (Instr.mapUpdate t (.map (some W.heap.size)) (.int .i64 k) (.int .i64 v)).run P (W.alloc (.map es cl)) = .ok () (W.alloc (.map (es.push ⟨.int .i64 k, .int .i64 v, cl⟩) (cl + 1))) := by
  have h := code_last W (.map es cl)
  simp only [Instr.mapUpdate, Sem.run_bind, run_underlying hu, Result.andThen, getObj, Sem.run, h]
  rw [MapKept.run_checkKey hk (by simp [MapKept.IsKey])]
  simp only [Result.andThen]
  rw [MapKept.run_findKey hk hn]
  simp only [Result.andThen]
  rw [MapKept.run_setObj_map _ h, code_set]
theorem code_get {t kt et : TypeId} {P : Program} (hu : P.underlying t = some (.map kt et)) (hk : P.underlying kt = some (.int .i64)) (W : World) (es : Array MapEntry) (cl : Nat) (k : Int) (v : Int) (i : Nat) (hn : Instr.findNow (.int .i64) (.int .i64 k) es.toList 0 = some (some (i, .int .i64 v))) :
    (Instr.lookup t (.map (some W.heap.size)) (.int .i64 k) true).run P (W.alloc (.map es cl)) = .ok (.tuple #[.int .i64 v, .bool true]) (W.alloc (.map es cl)) := by
  have h := code_last W (.map es cl)
  simp only [Instr.lookup, Sem.run_bind, run_underlying hu, Result.andThen, getObj, Sem.run, Sem.run_pure, h]
  rw [MapKept.run_checkKey hk (by simp [MapKept.IsKey])]
  simp only [Result.andThen]
  rw [MapKept.run_findKey hk hn]
  simp [Result.andThen, Sem.run]
theorem code_get_no {t kt et : TypeId} {P : Program} (hu : P.underlying t = some (.map kt et)) (hk : P.underlying kt = some (.int .i64)) (W : World) (he : ∀ W, (zeroValue et).run P W = .ok (.int .i64 0) W) (es : Array MapEntry) (cl : Nat) (k : Int) (hn : Instr.findNow (.int .i64) (.int .i64 k) es.toList 0 = some none) :
    (Instr.lookup t (.map (some W.heap.size)) (.int .i64 k) true).run P (W.alloc (.map es cl)) = .ok (.tuple #[.int .i64 0, .bool false]) (W.alloc (.map es cl)) := by
  have h := code_last W (.map es cl)
  simp only [Instr.lookup, Sem.run_bind, run_underlying hu, Result.andThen, getObj, Sem.run, Sem.run_pure, h]
  rw [MapKept.run_checkKey hk (by simp [MapKept.IsKey])]
  simp only [Result.andThen]
  rw [MapKept.run_findKey hk hn]
  simp [Result.andThen, Sem.run, he]
abbrev codeMap : Obj := .map #[⟨.int .i64 70, .int .i64 2, 0⟩, ⟨.int .i64 72, .int .i64 3, 1⟩, ⟨.int .i64 73, .int .i64 4, 2⟩, ⟨.int .i64 71, .int .i64 6, 3⟩] 4
set_option maxHeartbeats 8000000 in
set_option maxRecDepth 100000 in
theorem code_go (k v : Int) (b : Bool) (w : World) (M : ∀ W : World, (Instr.lookup 107 (.map (some W.heap.size)) (.int .i64 k) true).run Try.prog (W.alloc codeMap) = .ok (.tuple #[.int .i64 (if b then v else 0), .bool b]) (W.alloc codeMap)) :
    Calls Try.prog 34 #[.int .i64 k] w fun e w' => e = .returned (.int .i64 (if b then v else 1)) ∧ Below w.heap.size w w' := by
  have mk : ∀ W : World, (Instr.makeMap 107 none).run Try.prog W = .ok (.map (some W.heap.size)) (W.alloc (.map #[] 0)) := fun W => rfl
  have p1 : ∀ W : World, (Instr.mapUpdate 107 (.map (some W.heap.size)) (.int .i64 70) (.int .i64 2)).run Try.prog (W.alloc (.map #[] 0)) = _ := fun W => code_put Try.underlying107 Try.underlying24 W #[] 0 70 2 rfl
  have p2 : ∀ W : World, (Instr.mapUpdate 107 (.map (some W.heap.size)) (.int .i64 72) (.int .i64 3)).run Try.prog (W.alloc (.map #[⟨.int .i64 70, .int .i64 2, 0⟩] 1)) = _ := fun W => code_put Try.underlying107 Try.underlying24 W _ 1 72 3 rfl
  have p3 : ∀ W : World, (Instr.mapUpdate 107 (.map (some W.heap.size)) (.int .i64 73) (.int .i64 4)).run Try.prog (W.alloc (.map #[⟨.int .i64 70, .int .i64 2, 0⟩, ⟨.int .i64 72, .int .i64 3, 1⟩] 2)) = _ := fun W => code_put Try.underlying107 Try.underlying24 W _ 2 73 4 rfl
  have p4 : ∀ W : World, (Instr.mapUpdate 107 (.map (some W.heap.size)) (.int .i64 71) (.int .i64 6)).run Try.prog (W.alloc (.map #[⟨.int .i64 70, .int .i64 2, 0⟩, ⟨.int .i64 72, .int .i64 3, 1⟩, ⟨.int .i64 73, .int .i64 4, 2⟩] 3)) = _ := fun W => code_put Try.underlying107 Try.underlying24 W _ 3 71 6 rfl
  simp only [List.push_toArray, List.cons_append, List.nil_append, Nat.reduceAdd] at p1 p2 p3 p4
  go_enter Try.func34, Try.ntmps34
  cases b with
  | true =>
    simp only [if_pos] at M ⊢
    go_wp2
    refine bodyPost_ret ?_ rfl ⟨rfl, ?_⟩
    · simp [results, Try.results34, go_sem]
    · repeat (first | exact Below.refl _ _ | apply below_alloc)
  | false =>
    simp only [Bool.false_eq_true, if_false] at M ⊢
    go_wp2
    refine bodyPost_ret ?_ rfl ⟨rfl, ?_⟩
    · simp [results, Try.results34, go_sem]
    · repeat (first | exact Below.refl _ _ | apply below_alloc)
theorem code_calls (a0 : Int) (w : World) :
    Calls Try.prog 34 #[.int .i64 a0] w fun e w' => e = .returned (.int .i64 (mCode a0)) ∧ Below w.heap.size w w' := by
  unfold mCode
  by_cases h1 : a0 = 70
  · subst h1; exact code_go 70 2 true w fun W => code_get Try.underlying107 Try.underlying24 W _ 4 70 2 0 rfl
  rw [if_neg h1]
  by_cases h2 : a0 = 72
  · subst h2; exact code_go 72 3 true w fun W => code_get Try.underlying107 Try.underlying24 W _ 4 72 3 1 rfl
  rw [if_neg h2]
  by_cases h3 : a0 = 73
  · subst h3; exact code_go 73 4 true w fun W => code_get Try.underlying107 Try.underlying24 W _ 4 73 4 2 rfl
  rw [if_neg h3]
  by_cases h4 : a0 = 71
  · subst h4; exact code_go 71 6 true w fun W => code_get Try.underlying107 Try.underlying24 W _ 4 71 6 3 rfl
  rw [if_neg h4]
  exact code_go a0 0 false w fun W => code_get_no Try.underlying107 Try.underlying24 W (fun W => by kernel_rfl) _ 4 a0 (by simp [Instr.findNow, Instr.sameNow, beq_eq_false_iff_ne.mpr h1, beq_eq_false_iff_ne.mpr h2, beq_eq_false_iff_ne.mpr h3, beq_eq_false_iff_ne.mpr h4])

def pvcode : PV := addPV 34 (fun | [.int .i64 e] => some (none, .int .i64 (mCode e)) | _ => none) pvturn
theorem pvcode_ok (P : Program) (hP : P = Try.prog) : PVok P pvcode := by
  subst hP
  refine addPV_ok (fun args p v w h hp => ?_) (pvturn_ok _ rfl)
  split at h
  · cases h; exact code_calls _ w
  · cases h
def pvchk : PV := addPV 31 (fun | [.agg c] => (match c.toList with | [.int .i64 nk, .int .u32 e, .int .u32 old, .int .u64 lsn, .int .u64 tick, .int .u32 ord, .int .i64 st, .bool un, .int .i64 co, .slice K kl kc, .slice D dl dc] => some (some (nk = 4), .int .i64 (mChk old lsn tick ord st un co kl dl)) | _ => none) | _ => none) pvcode
theorem pvchk_ok (P : Program) (hP : P = Try.prog) : PVok P pvchk := by
  subst hP
  refine addPV_ok (fun args p v w h hp => ?_) (pvcode_ok _ rfl)
  split at h
  · split at h
    · rename_i hc; cases h; obtain rfl := arr_of hc; have := hp _ rfl; subst this; exact chk_calls _ _ _ _ _ _ _ _ _ _ _ _ _ _ w
    · cases h
  · cases h
end Go.VX
