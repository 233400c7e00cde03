/- Rows of truth values: when they are one; what the document's Double lays there. -/
import Derived.Test.YtlchhlfnndeicaaShRow
import Derived.Test.YtlchhlfnndeicaaShDblA
namespace Go.Proofs.Ytlchhlfnndeicaa
open Go.RowKit Pl

theorem row_ext (f g : Nat → Bool) (n : Nat) (h : ∀ j, j < n → f j = g j) : row f n = row g n := by
  apply Array.ext_getElem?
  intro j
  by_cases hj : j < n
  · rw [row_get _ _ _ hj, row_get _ _ _ hj, h j hj]
  · rw [Array.getElem?_eq_none (by rw [row_size]; omega), Array.getElem?_eq_none (by rw [row_size]; omega)]
theorem rep_row (n : Nat) : Array.replicate n (Value.bool false) = row (fun _ => false) n := by
  apply Array.ext_getElem?
  intro j
  by_cases hj : j < n
  · rw [row_get _ _ _ hj]
    simp [hj]
  · rw [Array.getElem?_eq_none (by simp; omega), Array.getElem?_eq_none (by rw [row_size]; omega)]
/-- what is laid behind m rounds -/
def lay (to : Bool) (b x y m : Nat) : Nat → Bool := fun j => decide (j % b < m) && bit3 to b x y j
end Go.Proofs.Ytlchhlfnndeicaa
