/- A row of truth values in the block that was made last. -/
import Derived.Test.YtlchhlfnndeicaaShMov2
namespace Go.Proofs.Ytlchhlfnndeicaa
open Go.RowKit Pl
set_option linter.unusedVariables false

/-- a row of n truth values -/
def row (f : Nat → Bool) (n : Nat) : Array Value := Array.ofFn (n := n) fun j => .bool (f j.val)
theorem row_size (f : Nat → Bool) (n : Nat) : (row f n).size = n := by simp [row]
theorem row_get (f : Nat → Bool) (n i : Nat) (h : i < n) : (row f n)[i]? = some (.bool (f i)) := by
  unfold row
  rw [Array.getElem?_ofFn]
  simp [h]
theorem row_set (f : Nat → Bool) (n i : Nat) (v : Bool) : (row f n).setIfInBounds i (.bool v) = row (fun j => if j = i then v else f j) n := by
  apply Array.ext_getElem?
  intro j
  rw [Array.getElem?_setIfInBounds]
  by_cases hj : j < n
  · by_cases h : i = j
    · subst h
      rw [if_pos rfl, if_pos (by rw [row_size]; exact hj), row_get _ _ _ hj, if_pos rfl]
    · rw [if_neg h, row_get _ _ _ hj, row_get _ _ _ hj, if_neg (fun e => h e.symm)]
  · have e1 : ∀ g, (row g n)[j]? = none := fun g => by
      rw [Array.getElem?_eq_none_iff, row_size]; omega
    by_cases h : i = j
    · subst h
      rw [if_pos rfl, if_neg (by rw [row_size]; exact hj), e1]
    · rw [if_neg h, e1, e1]
theorem row_cell (w : World) (f : Nat → Bool) (n i : Nat) (t : TypeId) (h : i < n) : (w.alloc (.cells (row f n) t)).cell? ⟨w.heap.size, i, none⟩ = some (.bool (f i)) := by
  rw [World.cell?_alloc_at _ _ _ _ rfl]
  exact row_get f n i h
theorem row_store (w : World) (f : Nat → Bool) (n i : Nat) (t : TypeId) (v : Bool) : (w.alloc (.cells (row f n) t)).setCell ⟨w.heap.size, i, none⟩ (.bool v) = w.alloc (.cells (row (fun j => if j = i then v else f j) n) t) := by
  rw [World.setCell_alloc_at _ _ _ _ _ rfl, row_set]
end Go.Proofs.Ytlchhlfnndeicaa
