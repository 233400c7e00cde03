/- The sizes' functions: the table that signs makes. -/
import Derived.Test.YtfjjipkieecpcaaAluFl
import Derived.Laws.EntriesVeiled
import Derived.WideMake
import Derived.MapKept
namespace Go.Proofs.Ytfjjipkieecpcaa
open Go.RowKit Pl
set_option linter.unusedVariables false

theorem set_last (w : World) (o o' : Obj) : ({ w.alloc o with heap := (w.alloc o).heap.setIfInBounds w.heap.size o' } : World) = w.alloc o' := by
  show ({ w with heap := (w.heap.push o).setIfInBounds w.heap.size o' } : World) = { w with heap := w.heap.push o' }
  congr 1
  apply Array.ext_getElem?
  intro i
  rw [Array.getElem?_setIfInBounds, Array.getElem?_push, Array.getElem?_push]
  by_cases h : w.heap.size = i
  · subst h
    simp
  · simp [h, Ne.symm h]
/-- a new key into the map that was made last -/
theorem upd_new (w : World) (mty kt et : TypeId) (es : Array MapEntry) (clock : Nat) (n : Int) (val : Value) (hm : Try.prog.underlying mty = some (.map kt et)) (hk : Try.prog.underlying kt = some (.int .i64))
    (hf : Instr.findNow (.int .i64) (.int .i64 n) es.toList 0 = some none) :
    (Instr.mapUpdate mty (.map (some w.heap.size)) (.int .i64 n) val).run Try.prog (w.alloc (.map es clock)) = .ok () (w.alloc (.map (es.push { key := .int .i64 n, val := val, born := clock }) (clock + 1))) := by
  have hb : (w.alloc (.map es clock)).heap[w.heap.size]? = some (.map es clock) := by
    show (w.heap.push _)[w.heap.size]? = _
    simp
  have hc : (Instr.checkKey false 10000 kt (.int .i64 n)).run Try.prog (w.alloc (.map es clock)) = .ok () (w.alloc (.map es clock)) := MapKept.run_checkKey (k := .int .i64 n) hk (by simp [MapKept.IsKey]) false 9999
  rw [← set_last w (.map es clock) (.map (es.push { key := .int .i64 n, val := val, born := clock }) (clock + 1))]
  simp [Instr.mapUpdate, run_underlying hm, MapKept.run_getObj_map hb, hc, MapKept.run_findKey hk hf, MapKept.run_setObj_map _ hb, Result.andThen]
theorem find_new (w : World) (mty kt et : TypeId) (es : Array MapEntry) (clock : Nat) (n : Int) (z : Value) (r : Option (Nat × Value)) (hm : Try.prog.underlying mty = some (.map kt et)) (hk : Try.prog.underlying kt = some (.int .i64))
    (hz : ∀ w, (zeroValue et).run Try.prog w = .ok z w) (hf : Instr.findNow (.int .i64) (.int .i64 n) es.toList 0 = some r) :
    (Instr.lookup mty (.map (some w.heap.size)) (.int .i64 n) true).run Try.prog (w.alloc (.map es clock)) = .ok (.tuple #[(r.map (·.2)).getD z, .bool r.isSome]) (w.alloc (.map es clock)) := by
  have hb : (w.alloc (.map es clock)).heap[w.heap.size]? = some (.map es clock) := by
    show (w.heap.push _)[w.heap.size]? = _
    simp
  have hc : ∀ e, (Instr.checkKey e 10000 kt (.int .i64 n)).run Try.prog (w.alloc (.map es clock)) = .ok () (w.alloc (.map es clock)) := fun e => MapKept.run_checkKey (k := .int .i64 n) hk (by simp [MapKept.IsKey]) e 9999
  cases r with
  | none => simp [Instr.lookup, run_underlying hm, MapKept.run_getObj_map hb, hc, MapKept.run_findKey hk hf, hz, Result.andThen]
  | some p => simp [Instr.lookup, run_underlying hm, MapKept.run_getObj_map hb, hc, MapKept.run_findKey hk hf, Result.andThen]

/-- the table: three functions, by the sizes -/
def sg : Array MapEntry := #[{ key := .int .i64 1, val := .func (.func 32) #[] #[], born := 0 }, { key := .int .i64 2, val := .func (.func 33) #[] #[], born := 1 }, { key := .int .i64 4, val := .func (.func 34) #[] #[], born := 2 }]

theorem sg_under : Try.prog.underlying 40 = some (.map 3 38) := by kernel_rfl
theorem int_under : Try.prog.underlying 3 = some (.int .i64) := by kernel_rfl
theorem sg_zero : ∀ w, (zeroValue 38).run Try.prog w = .ok .nilFunc w := by
  intro w
  kernel_rfl

theorem signs_ok (w : World) :
    Calls Try.prog 18 #[] w fun e w' => e = .returned (.map (some w.heap.size)) ∧ w' = w.alloc (.map sg 3) := by
  have u0 : (Instr.mapUpdate 40 (.map (some w.heap.size)) (.int .i64 1) (.func (.func 32) #[] #[])).run Try.prog (w.alloc (.map #[] 0)) = .ok () (w.alloc (.map #[{ key := .int .i64 1, val := .func (.func 32) #[] #[], born := 0 }] 1)) := upd_new w 40 3 38 #[] 0 1 (.func (.func 32) #[] #[]) sg_under int_under rfl
  have u1 : (Instr.mapUpdate 40 (.map (some w.heap.size)) (.int .i64 2) (.func (.func 33) #[] #[])).run Try.prog (w.alloc (.map #[{ key := .int .i64 1, val := .func (.func 32) #[] #[], born := 0 }] 1)) = .ok () (w.alloc (.map #[{ key := .int .i64 1, val := .func (.func 32) #[] #[], born := 0 }, { key := .int .i64 2, val := .func (.func 33) #[] #[], born := 1 }] 2)) := upd_new w 40 3 38 #[{ key := .int .i64 1, val := .func (.func 32) #[] #[], born := 0 }] 1 2 (.func (.func 33) #[] #[]) sg_under int_under rfl
  have u2 : (Instr.mapUpdate 40 (.map (some w.heap.size)) (.int .i64 4) (.func (.func 34) #[] #[])).run Try.prog (w.alloc (.map #[{ key := .int .i64 1, val := .func (.func 32) #[] #[], born := 0 }, { key := .int .i64 2, val := .func (.func 33) #[] #[], born := 1 }] 2)) = .ok () (w.alloc (.map #[{ key := .int .i64 1, val := .func (.func 32) #[] #[], born := 0 }, { key := .int .i64 2, val := .func (.func 33) #[] #[], born := 1 }, { key := .int .i64 4, val := .func (.func 34) #[] #[], born := 2 }] 3)) := upd_new w 40 3 38 #[{ key := .int .i64 1, val := .func (.func 32) #[] #[], born := 0 }, { key := .int .i64 2, val := .func (.func 33) #[] #[], born := 1 }] 2 4 (.func (.func 34) #[] #[]) sg_under int_under rfl
  have U0 := hide u0
  have U1 := hide u1
  have U2 := hide u2
  clear u0 u1 u2
  go_enter Try.func18, Try.ntmps18
  go_wp2_with fail
  rw [run_makeMap_plain]
  go_wp2_with fail
  rw [U0.out]
  go_wp2_with fail
  rw [U1.out]
  go_wp2_with fail
  rw [U2.out]
  go_wp2
  go_ret
  exact ⟨rfl, rfl⟩

/-- what the table holds for a size -/
theorem sign_at (w : World) : (Instr.lookup 40 (.map (some w.heap.size)) (.int .i64 1) true).run Try.prog (w.alloc (.map sg 3)) = .ok (.tuple #[.func (.func 32) #[] #[], .bool true]) (w.alloc (.map sg 3)) ∧
    (Instr.lookup 40 (.map (some w.heap.size)) (.int .i64 2) true).run Try.prog (w.alloc (.map sg 3)) = .ok (.tuple #[.func (.func 33) #[] #[], .bool true]) (w.alloc (.map sg 3)) ∧
    (Instr.lookup 40 (.map (some w.heap.size)) (.int .i64 4) true).run Try.prog (w.alloc (.map sg 3)) = .ok (.tuple #[.func (.func 34) #[] #[], .bool true]) (w.alloc (.map sg 3)) := by
  refine ⟨?_, ?_, ?_⟩
  · exact find_new w _ _ _ sg 3 1 .nilFunc (some (0, .func (.func 32) #[] #[])) sg_under int_under sg_zero rfl
  · exact find_new w _ _ _ sg 3 2 .nilFunc (some (1, .func (.func 33) #[] #[])) sg_under int_under sg_zero rfl
  · exact find_new w _ _ _ sg 3 4 .nilFunc (some (2, .func (.func 34) #[] #[])) sg_under int_under sg_zero rfl
theorem sign_no (w : World) (s : Int) (h1 : ¬ s = 1) (h2 : ¬ s = 2) (h4 : ¬ s = 4) : (Instr.lookup 40 (.map (some w.heap.size)) (.int .i64 s) true).run Try.prog (w.alloc (.map sg 3)) = .ok (.tuple #[.nilFunc, .bool false]) (w.alloc (.map sg 3)) := by
  refine find_new w _ _ _ sg 3 s .nilFunc none sg_under int_under sg_zero ?_
  have k1 : (s == 1) = false := by simpa using h1
  have k2 : (s == 2) = false := by simpa using h2
  have k4 : (s == 4) = false := by simpa using h4
  simp [sg, Instr.findNow, Instr.sameNow, k1, k2, k4]
end Go.Proofs.Ytfjjipkieecpcaa
