/- A double shift is a shift with what comes in, in plain numbers. -/
import Derived.Test.YtlchhlfnndeicaaShLaws
import Derived.Test.YtlchhlfnndeicaaShSpec2
namespace Go.Proofs.Ytlchhlfnndeicaa.Pl

theorem half_left (b x y n : Nat) (hb : b = 16 ∨ b = 32) (hx : x < 2 ^ b) (hy : y < 2 ^ b) (h0 : 0 < n) (hn : n < b) :
    dblR true b x y n = (x * 2 ^ n % 2 ^ b ||| y / 2 ^ (b - n)) := by
  apply Nat.eq_of_testBit_eq
  intro i
  unfold dblR
  rw [ofB_bit, Nat.testBit_or, Nat.testBit_mod_two_pow, Nat.testBit_mul_two_pow, Nat.testBit_div_two_pow]
  by_cases hi : i < b
  · rw [if_pos hi, decide_eq_true hi, Bool.true_and]
    unfold bit3 dblS
    by_cases h : i < n
    · have e1 : (2 * b - n + i) / b = 1 := by rcases hb with rfl | rfl <;> omega
      have e2 : (2 * b - n + i) % b = b - n + i := by rcases hb with rfl | rfl <;> omega
      rw [if_pos rfl, e1, e2, decide_eq_false (by omega), Bool.false_and, Bool.false_or, Nat.add_comm]
      rfl
    · have e1 : (2 * b - n + i) / b = 2 := by rcases hb with rfl | rfl <;> omega
      have e2 : (2 * b - n + i) % b = i - n := by rcases hb with rfl | rfl <;> omega
      rw [if_pos rfl, e1, e2, decide_eq_true (by omega), Bool.true_and, top_false hy (by omega : b ≤ i + (b - n)), Bool.or_false]
      rfl
  · rw [if_neg hi, decide_eq_false hi, Bool.false_and, Bool.false_or, top_false hy (by omega : b ≤ i + (b - n))]
theorem half_right (b x y n : Nat) (hb : b = 16 ∨ b = 32) (hx : x < 2 ^ b) (hy : y < 2 ^ b) (h0 : 0 < n) (hn : n < b) :
    dblR false b x y n = (x / 2 ^ n ||| y * 2 ^ (b - n) % 2 ^ b) := by
  apply Nat.eq_of_testBit_eq
  intro i
  unfold dblR
  rw [ofB_bit, Nat.testBit_or, Nat.testBit_mod_two_pow, Nat.testBit_mul_two_pow, Nat.testBit_div_two_pow]
  by_cases hi : i < b
  · rw [if_pos hi, decide_eq_true hi, Bool.true_and]
    unfold bit3 dblS
    by_cases h : n + i < b
    · have e1 : (n + i) / b = 0 := by rcases hb with rfl | rfl <;> omega
      have e2 : (n + i) % b = i + n := by rcases hb with rfl | rfl <;> omega
      rw [if_neg (by decide), e1, e2, decide_eq_false (by omega), Bool.false_and, Bool.or_false]
      rfl
    · have e1 : (n + i) / b = 1 := by rcases hb with rfl | rfl <;> omega
      have e2 : (n + i) % b = i - (b - n) := by rcases hb with rfl | rfl <;> omega
      rw [if_neg (by decide), e1, e2, decide_eq_true (by omega), Bool.true_and, top_false hx (by omega : b ≤ i + n), Bool.false_or]
      rfl
  · rw [if_neg hi, decide_eq_false hi, Bool.false_and, Bool.or_false, top_false hx (by omega : b ≤ i + n)]
theorem half_leftC (b x y n : Nat) (hb : b = 16 ∨ b = 32) (h0 : 0 < n) (hn : n < b) : dblC true b x y n = (x * 2 ^ n).testBit b := by
  rw [shl_bit2, if_pos (by omega)]
  unfold dblC bit3
  have e1 : (3 * b - n) / b = 2 := by rcases hb with rfl | rfl <;> omega
  have e2 : (3 * b - n) % b = b - n := by rcases hb with rfl | rfl <;> omega
  rw [if_pos rfl, e1, e2]
  rfl
theorem half_rightC (b x y n : Nat) (hb : b = 16 ∨ b = 32) (h0 : 0 < n) (hn : n < b) : dblC false b x y n = x.testBit (n - 1) := by
  unfold dblC bit3
  have e1 : (n - 1) / b = 0 := by rcases hb with rfl | rfl <;> omega
  have e2 : (n - 1) % b = n - 1 := by rcases hb with rfl | rfl <;> omega
  rw [if_neg (by decide), e1, e2]
  rfl
theorem dblF_low (to : Bool) (b x y k fl : Nat) : (dblF to b x y k fl) % 2 = (dblC to b x y k).toNat := by
  have h : (dblF to b x y k fl).testBit 0 = dblC to b x y k := by
    unfold dblF byF
    rw [setF4, if_neg (by decide), setF128, if_neg (by decide), setF64, if_neg (by decide), setF2048, if_neg (by decide), setF1, if_pos rfl]
  rw [← h, ← bit_eq, Nat.pow_zero, Nat.div_one]
  rcases Nat.mod_two_eq_zero_or_one (dblF to b x y k fl) with e | e <;> simp [e]
end Go.Proofs.Ytlchhlfnndeicaa.Pl
