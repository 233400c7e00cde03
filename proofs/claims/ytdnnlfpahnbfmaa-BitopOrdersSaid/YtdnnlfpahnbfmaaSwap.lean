/- Bytes turned round: what the program's Swap and the document's answer. -/
import Derived.Test.YtdnnlfpahnbfmaaBase
namespace Go.Proofs.Ytdnnlfpahnbfmaa
open Go.RowKit Pl

def swapN (a : Nat) : Nat := a % 256 * 16777216 + a / 256 % 256 * 65536 + a / 65536 % 256 * 256 + a / 16777216

theorem and_mask (y : Nat) : y &&& 16711935 = 2 ^ 16 * (y / 65536 % 256) + y % 256 := by
  apply Nat.eq_of_testBit_eq
  intro i
  rw [Nat.testBit_and, show 16711935 = 2 ^ 16 * (2 ^ 8 - 1) + (2 ^ 8 - 1) from rfl, Nat.testBit_two_pow_mul_add _ (by decide), Nat.testBit_two_pow_mul_add _ (by omega), show 65536 = 2 ^ 16 from rfl, show 256 = 2 ^ 8 from rfl]
  by_cases h : i < 16
  · rw [if_pos h, if_pos h, Nat.testBit_two_pow_sub_one, Nat.testBit_mod_two_pow, Bool.and_comm]
  · rw [if_neg h, if_neg h, Nat.testBit_two_pow_sub_one, Nat.testBit_mod_two_pow, Nat.testBit_div_two_pow, Bool.and_comm]
    congr 2
    omega

theorem or_pair (A B C D : Nat) (hB : B < 2 ^ 16) (hD : D < 2 ^ 16) : (2 ^ 16 * A + B) ||| (2 ^ 16 * C + D) = 2 ^ 16 * (A ||| C) + (B ||| D) := by
  apply Nat.eq_of_testBit_eq
  intro i
  rw [Nat.testBit_or, Nat.testBit_two_pow_mul_add _ hB, Nat.testBit_two_pow_mul_add _ hD, Nat.testBit_two_pow_mul_add _ (Nat.or_lt_two_pow hB hD), Nat.testBit_or, Nat.testBit_or]
  by_cases h : i < 16 <;> simp [h]

theorem or_byte (p q : Nat) (hp : p < 256) : p ||| q * 256 = q * 256 + p := by
  rw [Nat.or_comm, Nat.mul_comm, show 256 = 2 ^ 8 from rfl, Nat.two_pow_add_eq_or_of_lt hp]

theorem or_half (p q : Nat) (hp : p < 65536) : p ||| q * 65536 = q * 65536 + p := by
  rw [Nat.or_comm, Nat.mul_comm, show 65536 = 2 ^ 16 from rfl, Nat.two_pow_add_eq_or_of_lt hp]

theorem swap_plain (a : Nat) (ha : a < 4294967296) :
    ((((a / 256 &&& 16711935) ||| (a &&& 16711935) * 256 % 4294967296) / 65536) ||| (((a / 256 &&& 16711935) ||| (a &&& 16711935) * 256 % 4294967296) * 65536 % 4294967296)) = swapN a := by
  have g3 : a / 256 / 65536 % 256 = a / 16777216 := by omega
  have e1 : (a &&& 16711935) * 256 % 4294967296 = 2 ^ 16 * (a / 65536 % 256 * 256) + a % 256 * 256 := by
    rw [and_mask]
    have h2 : a / 65536 % 256 < 256 := by omega
    have h0 : a % 256 < 256 := by omega
    generalize a / 65536 % 256 = b2 at *
    generalize a % 256 = b0 at *
    omega
  have h0 : a % 256 < 256 := by omega
  have h1 : a / 256 % 256 < 256 := by omega
  have h2 : a / 65536 % 256 < 256 := by omega
  have h3 : a / 16777216 < 256 := by omega
  rw [e1, and_mask, g3]
  unfold swapN
  clear e1 g3 ha
  generalize a % 256 = b0 at *
  generalize a / 256 % 256 = b1 at *
  generalize a / 65536 % 256 = b2 at *
  generalize a / 16777216 = b3 at *
  rw [or_pair _ _ _ _ (by omega) (by omega), or_byte _ _ h3, or_byte _ _ h1]
  have u1 : (2 ^ 16 * (b2 * 256 + b3) + (b0 * 256 + b1)) / 65536 = b2 * 256 + b3 := by omega
  have u2 : (2 ^ 16 * (b2 * 256 + b3) + (b0 * 256 + b1)) * 65536 % 4294967296 = (b0 * 256 + b1) * 65536 := by omega
  rw [u1, u2, or_half _ _ (by omega)]
  omega

set_option maxHeartbeats 1000000 in
theorem swap_ok (a : Nat) (ha : a < 4294967296) (w : World) :
    Calls Try.prog 19 #[.int .u32 a] w fun e w' => e = .returned (.int .u32 ((swapN a : Nat) : Int)) ∧ w = w' := by
  go_enter Try.func19, Try.ntmps19
  go_wp2
  go_ret
  refine ⟨ret_int ?_, rfl⟩
  have e := swap_plain a ha
  have hd : a / 256 < 4294967296 := Nat.lt_of_le_of_lt (Nat.div_le_self _ _) ha
  have h1 : a / 256 &&& 16711935 < 2 ^ 32 := Nat.and_lt_two_pow _ (by decide)
  have h2 : (a &&& 16711935) * 256 % 4294967296 < 2 ^ 32 := Nat.mod_lt _ (by decide)
  have h3 : (a / 256 &&& 16711935) ||| (a &&& 16711935) * 256 % 4294967296 < 2 ^ 32 := Nat.or_lt_two_pow h1 h2
  rw [show (a : Int) / 256 = ((a / 256 : Nat) : Int) by simp, show (16711935 : Int) = ((16711935 : Nat) : Int) from rfl, u32_and_nat _ _ hd (by decide), u32_and_nat _ _ ha (by decide),
    show ((a &&& 16711935 : Nat) : Int) * 256 % 4294967296 = (((a &&& 16711935) * 256 % 4294967296 : Nat) : Int) by simp, u32_or_nat _ _ h1 h2]
  generalize (a / 256 &&& 16711935) ||| (a &&& 16711935) * 256 % 4294967296 = v at *
  rw [show (v : Int) / 65536 = ((v / 65536 : Nat) : Int) by simp, show (v : Int) * 65536 % 4294967296 = ((v * 65536 % 4294967296 : Nat) : Int) by simp,
    u32_or_nat _ _ (Nat.lt_of_le_of_lt (Nat.div_le_self _ _) h3) (Nat.mod_lt _ (by decide)), e]

set_option maxHeartbeats 1000000 in
theorem refswap_ok (a : Nat) (ha : a < 4294967296) (w : World) :
    Calls Try.prog 20 #[.int .u32 a] w fun e w' => e = .returned (.int .u32 ((swapN a : Nat) : Int)) ∧ w = w' := by
  go_enter Try.func20, Try.ntmps20
  go_wp2
  go_ret
  refine ⟨ret_int ?_, rfl⟩
  unfold swapN
  omega

end Go.Proofs.Ytdnnlfpahnbfmaa
