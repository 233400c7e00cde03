/- The table of adjustments. -/
import Derived.Test.YtfjjipkieecpcaaMdMulB
import Derived.Deep.QuietTactic
import Derived.BigQuiet
namespace Go.Proofs.Ytfjjipkieecpcaa
open Go.RowKit Pl
set_option linter.unusedVariables false

/-- blocks laid on top -/
def onTop (W : World) : List Obj → World
  | [] => W
  | o :: l => onTop (W.alloc o) l
theorem onTop_size (l : List Obj) : ∀ W : World, W.heap.size ≤ (onTop W l).heap.size := by
  induction l with
  | nil => intro W; exact Nat.le_refl _
  | cons o l ih =>
    intro W
    refine Nat.le_trans ?_ (ih (W.alloc o))
    simp
theorem onTop_at (l : List Obj) : ∀ (W : World) (r : Nat), r < W.heap.size → (onTop W l).heap[r]? = W.heap[r]? := by
  induction l with
  | nil => intro W r h; rfl
  | cons o l ih =>
    intro W r h
    show (onTop (W.alloc o) l).heap[r]? = _
    rw [ih (W.alloc o) r (by simp; omega)]
    exact Below.heap_alloc W o r h
theorem onTop_set (l : List Obj) : ∀ (W : World) (r : Nat) (o' : Obj), r < W.heap.size → ({ onTop W l with heap := (onTop W l).heap.setIfInBounds r o' } : World) = onTop { W with heap := W.heap.setIfInBounds r o' } l := by
  induction l with
  | nil => intro W r o' h; rfl
  | cons o l ih =>
    intro W r o' h
    show ({ onTop (W.alloc o) l with heap := (onTop (W.alloc o) l).heap.setIfInBounds r o' } : World) = onTop (({ W with heap := W.heap.setIfInBounds r o' } : World).alloc o) l
    rw [ih (W.alloc o) r o' (by simp; omega)]
    congr 1
    show ({ W with heap := (W.heap.push o).setIfInBounds r o' } : World) = { W with heap := (W.heap.setIfInBounds r o').push o }
    congr 1
    apply Array.ext_getElem?
    intro i
    rw [Array.getElem?_setIfInBounds, Array.getElem?_push, Array.getElem?_push, Array.getElem?_setIfInBounds]
    simp only [Array.size_push, Array.size_setIfInBounds]
    by_cases h1 : r = i
    · subst h1
      rw [if_pos rfl, if_pos (by omega), if_neg (by omega), if_pos rfl, if_pos h]
    · rw [if_neg h1, if_neg h1]
/-- a new key into a map with blocks on top of it -/
theorem upd_top (w : World) (l : List Obj) (mty kt et : TypeId) (es : Array MapEntry) (clock : Nat) (n : Int) (val : Value) (hm : Try.prog.underlying mty = some (.map kt et)) (hk : Try.prog.underlying kt = some (.int .i64))
    (hf : Instr.findNow (.int .i64) (.int .i64 n) es.toList 0 = some none) :
    (Instr.mapUpdate mty (.map (some w.heap.size)) (.int .i64 n) val).run Try.prog (onTop (w.alloc (.map es clock)) l) = .ok () (onTop (w.alloc (.map (es.push { key := .int .i64 n, val := val, born := clock }) (clock + 1))) l) := by
  have hs : w.heap.size < (w.alloc (.map es clock)).heap.size := by simp
  have hb : (onTop (w.alloc (.map es clock)) l).heap[w.heap.size]? = some (.map es clock) := by
    rw [onTop_at l _ _ hs]
    show (w.heap.push _)[w.heap.size]? = _
    simp
  have hc : (Instr.checkKey false 10000 kt (.int .i64 n)).run Try.prog (onTop (w.alloc (.map es clock)) l) = .ok () (onTop (w.alloc (.map es clock)) l) := MapKept.run_checkKey (k := .int .i64 n) hk (by simp [MapKept.IsKey]) false 9999
  rw [← set_last w (.map es clock) (.map (es.push { key := .int .i64 n, val := val, born := clock }) (clock + 1)), ← onTop_set l _ _ _ hs]
  simp [Instr.mapUpdate, run_underlying hm, MapKept.run_getObj_map hb, hc, MapKept.run_findKey hk hf, MapKept.run_setObj_map _ hb, Result.andThen]
theorem find_top (w : World) (l : List Obj) (mty kt et : TypeId) (es : Array MapEntry) (clock : Nat) (n : Int) (z : Value) (r : Option (Nat × Value)) (hm : Try.prog.underlying mty = some (.map kt et)) (hk : Try.prog.underlying kt = some (.int .i64))
    (hz : ∀ w, (zeroValue et).run Try.prog w = .ok z w) (hf : Instr.findNow (.int .i64) (.int .i64 n) es.toList 0 = some r) :
    (Instr.lookup mty (.map (some w.heap.size)) (.int .i64 n) true).run Try.prog (onTop (w.alloc (.map es clock)) l) = .ok (.tuple #[(r.map (·.2)).getD z, .bool r.isSome]) (onTop (w.alloc (.map es clock)) l) := by
  have hs : w.heap.size < (w.alloc (.map es clock)).heap.size := by simp
  have hb : (onTop (w.alloc (.map es clock)) l).heap[w.heap.size]? = some (.map es clock) := by
    rw [onTop_at l _ _ hs]
    show (w.heap.push _)[w.heap.size]? = _
    simp
  have hc : ∀ e, (Instr.checkKey e 10000 kt (.int .i64 n)).run Try.prog (onTop (w.alloc (.map es clock)) l) = .ok () (onTop (w.alloc (.map es clock)) l) := fun e => MapKept.run_checkKey (k := .int .i64 n) hk (by simp [MapKept.IsKey]) e 9999
  cases r with
  | none => simp [Instr.lookup, run_underlying hm, MapKept.run_getObj_map hb, hc, MapKept.run_findKey hk hf, hz, Result.andThen]
  | some p => simp [Instr.lookup, run_underlying hm, MapKept.run_getObj_map hb, hc, MapKept.run_findKey hk hf, Result.andThen]

theorem ad_under : Try.prog.underlying 56 = some (.map 3 54) := by kernel_rfl
theorem ad_zero : ∀ w, (zeroValue 54).run Try.prog w = .ok .nilFunc w := by
  intro w
  kernel_rfl
theorem packed_ok (s : Int) (w : World) : Calls Try.prog 38 #[.int .u8 s] w fun e w' => e = .returned (.func (.func 39) #[] #[.pointer (some ⟨w.heap.size, 0, none⟩)]) ∧ w' = w.alloc (.cells #[.int .u8 s] 5) := by
  go_enter Try.func38, Try.ntmps38
  go_wp2
  go_ret
  exact ⟨rfl, rfl⟩
theorem apart_ok (s : Int) (w : World) : Calls Try.prog 41 #[.int .u8 s] w fun e w' => e = .returned (.func (.func 42) #[] #[.pointer (some ⟨w.heap.size, 0, none⟩)]) ∧ w' = w.alloc (.cells #[.int .u8 s] 5) := by
  go_enter Try.func41, Try.ntmps41
  go_wp2
  go_ret
  exact ⟨rfl, rfl⟩

/-- what the table holds, made in the world w -/
def adE (w : World) : Array MapEntry := #[{ key := .int .i64 0, val := .func (.func 39) #[] #[.pointer (some ⟨w.heap.size + 1, 0, none⟩)], born := 0 }, { key := .int .i64 1, val := .func (.func 39) #[] #[.pointer (some ⟨w.heap.size + 1 + 1, 0, none⟩)], born := 1 }, { key := .int .i64 2, val := .func (.func 42) #[] #[.pointer (some ⟨w.heap.size + 1 + 1 + 1, 0, none⟩)], born := 2 }, { key := .int .i64 3, val := .func (.func 42) #[] #[.pointer (some ⟨w.heap.size + 1 + 1 + 1 + 1, 0, none⟩)], born := 3 }, { key := .int .i64 4, val := .func (.func 43) #[] #[], born := 4 }, { key := .int .i64 5, val := .func (.func 44) #[] #[], born := 5 }]
/-- the world behind the table -/
def adW (w : World) : World := onTop (w.alloc (.map (adE w) 6)) [.cells #[.int .u8 1] 5, .cells #[.int .u8 255] 5, .cells #[.int .u8 1] 5, .cells #[.int .u8 255] 5]
set_option maxRecDepth 20000 in
set_option maxHeartbeats 1000000 in
theorem adjustments_ok (w : World) : Calls Try.prog 29 #[] w fun e w' => e = .returned (.map (some w.heap.size)) ∧ w' = adW w := by
  have u0 : (Instr.mapUpdate 56 (.map (some w.heap.size)) (.int .i64 0) (.func (.func 39) #[] #[.pointer (some ⟨w.heap.size + 1, 0, none⟩)])).run Try.prog ((w.alloc (.map #[] 0)).alloc (.cells #[.int .u8 1] 5)) = .ok () ((w.alloc (.map #[{ key := .int .i64 0, val := .func (.func 39) #[] #[.pointer (some ⟨w.heap.size + 1, 0, none⟩)], born := 0 }] 1)).alloc (.cells #[.int .u8 1] 5)) := upd_top w [.cells #[.int .u8 1] 5] 56 3 54 #[] 0 0 (.func (.func 39) #[] #[.pointer (some ⟨w.heap.size + 1, 0, none⟩)]) ad_under int_under rfl
  have u1 : (Instr.mapUpdate 56 (.map (some w.heap.size)) (.int .i64 1) (.func (.func 39) #[] #[.pointer (some ⟨w.heap.size + 1 + 1, 0, none⟩)])).run Try.prog (((w.alloc (.map #[{ key := .int .i64 0, val := .func (.func 39) #[] #[.pointer (some ⟨w.heap.size + 1, 0, none⟩)], born := 0 }] 1)).alloc (.cells #[.int .u8 1] 5)).alloc (.cells #[.int .u8 255] 5)) = .ok () (((w.alloc (.map #[{ key := .int .i64 0, val := .func (.func 39) #[] #[.pointer (some ⟨w.heap.size + 1, 0, none⟩)], born := 0 }, { key := .int .i64 1, val := .func (.func 39) #[] #[.pointer (some ⟨w.heap.size + 1 + 1, 0, none⟩)], born := 1 }] 2)).alloc (.cells #[.int .u8 1] 5)).alloc (.cells #[.int .u8 255] 5)) := upd_top w [.cells #[.int .u8 1] 5, .cells #[.int .u8 255] 5] 56 3 54 #[{ key := .int .i64 0, val := .func (.func 39) #[] #[.pointer (some ⟨w.heap.size + 1, 0, none⟩)], born := 0 }] 1 1 (.func (.func 39) #[] #[.pointer (some ⟨w.heap.size + 1 + 1, 0, none⟩)]) ad_under int_under rfl
  have u2 : (Instr.mapUpdate 56 (.map (some w.heap.size)) (.int .i64 2) (.func (.func 42) #[] #[.pointer (some ⟨w.heap.size + 1 + 1 + 1, 0, none⟩)])).run Try.prog ((((w.alloc (.map #[{ key := .int .i64 0, val := .func (.func 39) #[] #[.pointer (some ⟨w.heap.size + 1, 0, none⟩)], born := 0 }, { key := .int .i64 1, val := .func (.func 39) #[] #[.pointer (some ⟨w.heap.size + 1 + 1, 0, none⟩)], born := 1 }] 2)).alloc (.cells #[.int .u8 1] 5)).alloc (.cells #[.int .u8 255] 5)).alloc (.cells #[.int .u8 1] 5)) = .ok () ((((w.alloc (.map #[{ key := .int .i64 0, val := .func (.func 39) #[] #[.pointer (some ⟨w.heap.size + 1, 0, none⟩)], born := 0 }, { key := .int .i64 1, val := .func (.func 39) #[] #[.pointer (some ⟨w.heap.size + 1 + 1, 0, none⟩)], born := 1 }, { key := .int .i64 2, val := .func (.func 42) #[] #[.pointer (some ⟨w.heap.size + 1 + 1 + 1, 0, none⟩)], born := 2 }] 3)).alloc (.cells #[.int .u8 1] 5)).alloc (.cells #[.int .u8 255] 5)).alloc (.cells #[.int .u8 1] 5)) := upd_top w [.cells #[.int .u8 1] 5, .cells #[.int .u8 255] 5, .cells #[.int .u8 1] 5] 56 3 54 #[{ key := .int .i64 0, val := .func (.func 39) #[] #[.pointer (some ⟨w.heap.size + 1, 0, none⟩)], born := 0 }, { key := .int .i64 1, val := .func (.func 39) #[] #[.pointer (some ⟨w.heap.size + 1 + 1, 0, none⟩)], born := 1 }] 2 2 (.func (.func 42) #[] #[.pointer (some ⟨w.heap.size + 1 + 1 + 1, 0, none⟩)]) ad_under int_under rfl
  have u3 : (Instr.mapUpdate 56 (.map (some w.heap.size)) (.int .i64 3) (.func (.func 42) #[] #[.pointer (some ⟨w.heap.size + 1 + 1 + 1 + 1, 0, none⟩)])).run Try.prog (((((w.alloc (.map #[{ key := .int .i64 0, val := .func (.func 39) #[] #[.pointer (some ⟨w.heap.size + 1, 0, none⟩)], born := 0 }, { key := .int .i64 1, val := .func (.func 39) #[] #[.pointer (some ⟨w.heap.size + 1 + 1, 0, none⟩)], born := 1 }, { key := .int .i64 2, val := .func (.func 42) #[] #[.pointer (some ⟨w.heap.size + 1 + 1 + 1, 0, none⟩)], born := 2 }] 3)).alloc (.cells #[.int .u8 1] 5)).alloc (.cells #[.int .u8 255] 5)).alloc (.cells #[.int .u8 1] 5)).alloc (.cells #[.int .u8 255] 5)) = .ok () (((((w.alloc (.map #[{ key := .int .i64 0, val := .func (.func 39) #[] #[.pointer (some ⟨w.heap.size + 1, 0, none⟩)], born := 0 }, { key := .int .i64 1, val := .func (.func 39) #[] #[.pointer (some ⟨w.heap.size + 1 + 1, 0, none⟩)], born := 1 }, { key := .int .i64 2, val := .func (.func 42) #[] #[.pointer (some ⟨w.heap.size + 1 + 1 + 1, 0, none⟩)], born := 2 }, { key := .int .i64 3, val := .func (.func 42) #[] #[.pointer (some ⟨w.heap.size + 1 + 1 + 1 + 1, 0, none⟩)], born := 3 }] 4)).alloc (.cells #[.int .u8 1] 5)).alloc (.cells #[.int .u8 255] 5)).alloc (.cells #[.int .u8 1] 5)).alloc (.cells #[.int .u8 255] 5)) := upd_top w [.cells #[.int .u8 1] 5, .cells #[.int .u8 255] 5, .cells #[.int .u8 1] 5, .cells #[.int .u8 255] 5] 56 3 54 #[{ key := .int .i64 0, val := .func (.func 39) #[] #[.pointer (some ⟨w.heap.size + 1, 0, none⟩)], born := 0 }, { key := .int .i64 1, val := .func (.func 39) #[] #[.pointer (some ⟨w.heap.size + 1 + 1, 0, none⟩)], born := 1 }, { key := .int .i64 2, val := .func (.func 42) #[] #[.pointer (some ⟨w.heap.size + 1 + 1 + 1, 0, none⟩)], born := 2 }] 3 3 (.func (.func 42) #[] #[.pointer (some ⟨w.heap.size + 1 + 1 + 1 + 1, 0, none⟩)]) ad_under int_under rfl
  have u4 : (Instr.mapUpdate 56 (.map (some w.heap.size)) (.int .i64 4) (.func (.func 43) #[] #[])).run Try.prog (((((w.alloc (.map #[{ key := .int .i64 0, val := .func (.func 39) #[] #[.pointer (some ⟨w.heap.size + 1, 0, none⟩)], born := 0 }, { key := .int .i64 1, val := .func (.func 39) #[] #[.pointer (some ⟨w.heap.size + 1 + 1, 0, none⟩)], born := 1 }, { key := .int .i64 2, val := .func (.func 42) #[] #[.pointer (some ⟨w.heap.size + 1 + 1 + 1, 0, none⟩)], born := 2 }, { key := .int .i64 3, val := .func (.func 42) #[] #[.pointer (some ⟨w.heap.size + 1 + 1 + 1 + 1, 0, none⟩)], born := 3 }] 4)).alloc (.cells #[.int .u8 1] 5)).alloc (.cells #[.int .u8 255] 5)).alloc (.cells #[.int .u8 1] 5)).alloc (.cells #[.int .u8 255] 5)) = .ok () (((((w.alloc (.map #[{ key := .int .i64 0, val := .func (.func 39) #[] #[.pointer (some ⟨w.heap.size + 1, 0, none⟩)], born := 0 }, { key := .int .i64 1, val := .func (.func 39) #[] #[.pointer (some ⟨w.heap.size + 1 + 1, 0, none⟩)], born := 1 }, { key := .int .i64 2, val := .func (.func 42) #[] #[.pointer (some ⟨w.heap.size + 1 + 1 + 1, 0, none⟩)], born := 2 }, { key := .int .i64 3, val := .func (.func 42) #[] #[.pointer (some ⟨w.heap.size + 1 + 1 + 1 + 1, 0, none⟩)], born := 3 }, { key := .int .i64 4, val := .func (.func 43) #[] #[], born := 4 }] 5)).alloc (.cells #[.int .u8 1] 5)).alloc (.cells #[.int .u8 255] 5)).alloc (.cells #[.int .u8 1] 5)).alloc (.cells #[.int .u8 255] 5)) := upd_top w [.cells #[.int .u8 1] 5, .cells #[.int .u8 255] 5, .cells #[.int .u8 1] 5, .cells #[.int .u8 255] 5] 56 3 54 #[{ key := .int .i64 0, val := .func (.func 39) #[] #[.pointer (some ⟨w.heap.size + 1, 0, none⟩)], born := 0 }, { key := .int .i64 1, val := .func (.func 39) #[] #[.pointer (some ⟨w.heap.size + 1 + 1, 0, none⟩)], born := 1 }, { key := .int .i64 2, val := .func (.func 42) #[] #[.pointer (some ⟨w.heap.size + 1 + 1 + 1, 0, none⟩)], born := 2 }, { key := .int .i64 3, val := .func (.func 42) #[] #[.pointer (some ⟨w.heap.size + 1 + 1 + 1 + 1, 0, none⟩)], born := 3 }] 4 4 (.func (.func 43) #[] #[]) ad_under int_under rfl
  have u5 : (Instr.mapUpdate 56 (.map (some w.heap.size)) (.int .i64 5) (.func (.func 44) #[] #[])).run Try.prog (((((w.alloc (.map #[{ key := .int .i64 0, val := .func (.func 39) #[] #[.pointer (some ⟨w.heap.size + 1, 0, none⟩)], born := 0 }, { key := .int .i64 1, val := .func (.func 39) #[] #[.pointer (some ⟨w.heap.size + 1 + 1, 0, none⟩)], born := 1 }, { key := .int .i64 2, val := .func (.func 42) #[] #[.pointer (some ⟨w.heap.size + 1 + 1 + 1, 0, none⟩)], born := 2 }, { key := .int .i64 3, val := .func (.func 42) #[] #[.pointer (some ⟨w.heap.size + 1 + 1 + 1 + 1, 0, none⟩)], born := 3 }, { key := .int .i64 4, val := .func (.func 43) #[] #[], born := 4 }] 5)).alloc (.cells #[.int .u8 1] 5)).alloc (.cells #[.int .u8 255] 5)).alloc (.cells #[.int .u8 1] 5)).alloc (.cells #[.int .u8 255] 5)) = .ok () (((((w.alloc (.map #[{ key := .int .i64 0, val := .func (.func 39) #[] #[.pointer (some ⟨w.heap.size + 1, 0, none⟩)], born := 0 }, { key := .int .i64 1, val := .func (.func 39) #[] #[.pointer (some ⟨w.heap.size + 1 + 1, 0, none⟩)], born := 1 }, { key := .int .i64 2, val := .func (.func 42) #[] #[.pointer (some ⟨w.heap.size + 1 + 1 + 1, 0, none⟩)], born := 2 }, { key := .int .i64 3, val := .func (.func 42) #[] #[.pointer (some ⟨w.heap.size + 1 + 1 + 1 + 1, 0, none⟩)], born := 3 }, { key := .int .i64 4, val := .func (.func 43) #[] #[], born := 4 }, { key := .int .i64 5, val := .func (.func 44) #[] #[], born := 5 }] 6)).alloc (.cells #[.int .u8 1] 5)).alloc (.cells #[.int .u8 255] 5)).alloc (.cells #[.int .u8 1] 5)).alloc (.cells #[.int .u8 255] 5)) := upd_top w [.cells #[.int .u8 1] 5, .cells #[.int .u8 255] 5, .cells #[.int .u8 1] 5, .cells #[.int .u8 255] 5] 56 3 54 #[{ key := .int .i64 0, val := .func (.func 39) #[] #[.pointer (some ⟨w.heap.size + 1, 0, none⟩)], born := 0 }, { key := .int .i64 1, val := .func (.func 39) #[] #[.pointer (some ⟨w.heap.size + 1 + 1, 0, none⟩)], born := 1 }, { key := .int .i64 2, val := .func (.func 42) #[] #[.pointer (some ⟨w.heap.size + 1 + 1 + 1, 0, none⟩)], born := 2 }, { key := .int .i64 3, val := .func (.func 42) #[] #[.pointer (some ⟨w.heap.size + 1 + 1 + 1 + 1, 0, none⟩)], born := 3 }, { key := .int .i64 4, val := .func (.func 43) #[] #[], born := 4 }] 5 5 (.func (.func 44) #[] #[]) ad_under int_under rfl
  have U0 := hide u0
  have U1 := hide u1
  have U2 := hide u2
  have U3 := hide u3
  have U4 := hide u4
  have U5 := hide u5
  clear u0 u1 u2 u3 u4 u5
  go_enter Try.func29, Try.ntmps29
  go_wp2_with fail
  rw [run_makeMap_plain]
  go_wp2_with fail
  refine (packed_ok _ _).mono ?_
  rintro e w1 ⟨rfl, rfl⟩
  go_wp2_with fail
  rw [U0.out]
  go_wp2_with fail
  refine (packed_ok _ _).mono ?_
  rintro e w1 ⟨rfl, rfl⟩
  go_wp2_with fail
  rw [U1.out]
  go_wp2_with fail
  refine (apart_ok _ _).mono ?_
  rintro e w1 ⟨rfl, rfl⟩
  go_wp2_with fail
  rw [U2.out]
  go_wp2_with fail
  refine (apart_ok _ _).mono ?_
  rintro e w1 ⟨rfl, rfl⟩
  go_wp2_with fail
  rw [U3.out]
  go_wp2_with fail
  rw [U4.out]
  go_wp2_with fail
  rw [U5.out]
  go_wp2
  go_ret
  exact ⟨rfl, rfl⟩
end Go.Proofs.Ytfjjipkieecpcaa
