/- Products and quotients in plain numbers. -/
import Derived.Test.YtfjjipkieecpcaaShLaws
namespace Go.Proofs.Ytfjjipkieecpcaa.Pl

/-- a product, of two sizes -/
def mulN (sg : Bool) (b x y : Nat) : Nat := if sg then (sZ x b * sZ y b % 2 ^ (2 * b)).toNat else x * y
def mulO (sg : Bool) (b x y : Nat) : Bool := mulN sg b x y / 2 ^ b != (if sg && sgn (mulN sg b x y % 2 ^ b) b then 2 ^ b - 1 else 0)
def mulF (sg : Bool) (b x y fl : Nat) : Nat := byF (mulN sg b x y % 2 ^ b) b (setF (setF (setF fl 1 (mulO sg b x y)) 2048 (mulO sg b x y)) 16 false)

theorem prod_range (p q A : Int) (hA : 0 ≤ A) (h1 : -A ≤ p) (h2 : p ≤ A) (h3 : -A ≤ q) (h4 : q ≤ A) : -(A * A) ≤ p * q ∧ p * q ≤ A * A := by
  have e : (p * q).natAbs ≤ A.natAbs * A.natAbs := by
    rw [Int.natAbs_mul]
    exact Nat.mul_le_mul (by omega) (by omega)
  have e2 : ((A.natAbs * A.natAbs : Nat) : Int) = A * A := by
    rw [Int.natCast_mul]
    have : (A.natAbs : Int) = A := by omega
    rw [this]
  omega
theorem smul_range (x y b : Nat) (hb : wB b) (hx : x < 2 ^ b) (hy : y < 2 ^ b) : -(2 ^ (2 * b - 2) : Int) ≤ sZ x b * sZ y b ∧ sZ x b * sZ y b ≤ 2 ^ (2 * b - 2) := by
  have h1 := sZ_range x b hb hx
  have h2 := sZ_range y b hb hy
  have hp : (0 : Int) ≤ 2 ^ (b - 1) := Int.le_of_lt (Int.pow_pos (by decide))
  have h := prod_range (sZ x b) (sZ y b) (2 ^ (b - 1)) hp h1.1 (Int.le_of_lt h1.2) h2.1 (Int.le_of_lt h2.2)
  have e : (2 : Int) ^ (b - 1) * 2 ^ (b - 1) = 2 ^ (2 * b - 2) := by rw [← Int.pow_add]; congr 1; rcases hb with rfl | rfl | rfl <;> decide
  rw [e] at h
  exact h
theorem umul_lt (x y b : Nat) (hx : x < 2 ^ b) (hy : y < 2 ^ b) : x * y < 2 ^ (2 * b) := by
  have : 2 ^ (2 * b) = 2 ^ b * 2 ^ b := by rw [← Nat.pow_add]; congr 1; omega
  rw [this]
  exact Nat.mul_lt_mul'' hx hy
theorem mulN_lt (sg : Bool) (b x y : Nat) (hx : x < 2 ^ b) (hy : y < 2 ^ b) : mulN sg b x y < 2 ^ (2 * b) := by
  unfold mulN
  cases sg
  · exact umul_lt x y b hx hy
  · have h1 : (0 : Int) < 2 ^ (2 * b) := Int.pow_pos (by decide)
    have h2 := Int.emod_nonneg (sZ x b * sZ y b) (Int.ne_of_gt h1)
    have h3 := Int.emod_lt_of_pos (sZ x b * sZ y b) h1
    have h4 : ((2 ^ (2 * b) : Nat) : Int) = (2 : Int) ^ (2 * b) := by simp
    rw [if_pos rfl]
    omega
/-- how the program tells a signed product's halves, and whether it has room -/
theorem smul_prog (b : Nat) (p : Int) (M : Nat) (hb : wB b) (h1 : -(2 ^ (2 * b - 2) : Int) ≤ p) (h2 : p ≤ 2 ^ (2 * b - 2)) (hM : (M : Int) = p % 18446744073709551616) :
    M % 2 ^ b = (p % 2 ^ (2 * b)).toNat % 2 ^ b ∧ M / 2 ^ b % 2 ^ b = (p % 2 ^ (2 * b)).toNat / 2 ^ b ∧
    (p != sZ (M % 2 ^ b) b) = ((p % 2 ^ (2 * b)).toNat / 2 ^ b != (if sgn ((p % 2 ^ (2 * b)).toNat % 2 ^ b) b then 2 ^ b - 1 else 0)) := by
  unfold sZ sgn
  rcases hb with rfl | rfl | rfl
  all_goals
    simp only [Nat.reducePow, Nat.reduceSub, Int.reducePow, Nat.reduceMul] at h1 h2 ⊢
    refine ⟨by omega, by omega, ?_⟩
    rw [Bool.eq_iff_iff]
    simp only [bne_iff_ne, beq_iff_eq]
    split <;> split <;> omega
theorem asmM (fl : Nat) (o : Bool) (hf : fl < 4294967296) : (if o then (fl &&& (4294967295 - 2065)) ||| 2049 else fl &&& (4294967295 - 2065)) = setF (setF (setF fl 1 o) 2048 o) 16 false := by
  have h := asm2a fl o o hf
  have e : setF (setF (setF fl 1 o) 2048 o) 16 false = setF (setF (setF fl 16 false) 1 o) 2048 o := set_turn fl o o
  rw [e, ← h]
  cases o
  · simp [put]
  · rw [if_pos rfl, Nat.or_assoc]
    rfl
end Go.Proofs.Ytfjjipkieecpcaa.Pl
