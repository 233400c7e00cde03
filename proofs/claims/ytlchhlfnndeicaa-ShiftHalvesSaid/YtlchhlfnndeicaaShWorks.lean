/- The program's table of shifts. -/
import Derived.Test.YtlchhlfnndeicaaShClos
import Derived.Laws.EntriesVeiled
import Derived.Laws.Rows
namespace Go.Proofs.Ytlchhlfnndeicaa
open Go.RowKit Pl

/-- the table: eight functions, by their numbers -/
def tab : Array Value := #[.func (.func 29) #[] #[], .func (.func 31) #[] #[], .func (.func 32) #[] #[], .func (.func 33) #[] #[],
  .func (.func 28) #[] #[], .func (.func 34) #[] #[], .func (.func 28) #[] #[], .func (.func 35) #[] #[]]

theorem works_ok (w : World) :
    Calls Try.prog 17 #[] w fun e w' => e = .returned (.agg tab) ∧ Below w.heap.size w w' := by
  go_enter Try.func17, Try.ntmps17
  go_wp2
  refine bodyPost_ret (v := .agg tab) ?_ rfl ⟨rfl, (Below.refl _ _).alloc (Nat.le_refl _) _⟩
  refine results_cell_row (P := Try.prog) (fn := Try.f17) (p := 0) (ty := 40) rfl _ _ w.heap.size 40 tab (0, 0) (.array 8 39) rfl (heap_alloc_new _ _) (by kernel_rfl) rfl (by kernel_rfl)

theorem tab0 : ∀ w, (Instr.index 40 (.agg tab) (.int .i64 0)).run Try.prog w = .ok (.func (.func 29) #[] #[]) w := by
  intro w
  kernel_rfl
end Go.Proofs.Ytlchhlfnndeicaa
