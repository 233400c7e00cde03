/- One bit looked at, and changed: what the program's Bit and the document's Bit answer. -/
import Derived.Test.YtdnnlfpahnbfmaaRef
namespace Go.Proofs.Ytdnnlfpahnbfmaa
open Go.RowKit Pl

/-- the value, and the flags, behind the operation op on bit n of a value of b bits -/
def bitR (op b a n : Nat) : Nat :=
  setF (a % 2 ^ b) (2 ^ (n % b)) (match op with
    | 0 => hasF (a % 2 ^ b) (2 ^ (n % b))
    | 1 => true
    | 2 => false
    | _ => !hasF (a % 2 ^ b) (2 ^ (n % b)))
def bitF (b a n fl : Nat) : Nat := setF fl 1 (hasF (a % 2 ^ b) (2 ^ (n % b)))

theorem and_lit (a k : Nat) (hk : k ≤ 32) (ha : a < 4294967296) : bits .and .u32 (a : Int) (((2 ^ k - 1 : Nat) : Int)) = ((a % 2 ^ k : Nat) : Int) := by
  have hp : 0 < 2 ^ k := Nat.two_pow_pos k
  have hb : 2 ^ k ≤ 4294967296 := Nat.pow_le_pow_right (n := 2) (by decide) hk
  rw [u32_and_nat _ _ ha (by omega), Nat.and_two_pow_sub_one_eq_mod]

theorem pow_int (k : Nat) (hk : k < 32) : (2 : Int) ^ k % 4294967296 = 2 ^ k ∧ (0 : Int) < 2 ^ k := by
  have h : 2 ^ k < 4294967296 := Nat.pow_lt_pow_right (by decide) hk
  have hp : 0 < 2 ^ k := Nat.two_pow_pos k
  have e : (2 : Int) ^ k = ((2 ^ k : Nat) : Int) := by simp
  rw [e]
  omega

theorem set_self (x k : Nat) : setF x (2 ^ k) (hasF x (2 ^ k)) = x := by
  apply Nat.eq_of_testBit_eq
  intro i
  rw [setF_bit, hasF_bit]
  by_cases h : i = k
  · subst h; simp
  · simp [h]

theorem r_or (x k : Nat) (hx : x < 4294967296) (hk : k < 32) : bits .or .u32 (x : Int) (2 ^ k) = ((setF x (2 ^ k) true : Nat) : Int) := by
  have h : 2 ^ k < 4294967296 := Nat.pow_lt_pow_right (by decide) hk
  rw [show (2 : Int) ^ k = ((2 ^ k : Nat) : Int) by simp, u32_or_nat _ _ hx h, or_pow]
theorem r_andn (x k : Nat) (hx : x < 4294967296) (hk : k < 32) : bits .andNot .u32 (x : Int) (2 ^ k) = ((setF x (2 ^ k) false : Nat) : Int) := by
  have h : 2 ^ k < 4294967296 := Nat.pow_lt_pow_right (by decide) hk
  rw [show (2 : Int) ^ k = ((2 ^ k : Nat) : Int) by simp, u32_andNot_nat _ _ hx h, andn_pow _ _ hx hk]
theorem r_xor (x k : Nat) (hx : x < 4294967296) (hk : k < 32) : bits .xor .u32 (x : Int) (2 ^ k) = ((setF x (2 ^ k) (!hasF x (2 ^ k)) : Nat) : Int) := by
  have h : 2 ^ k < 4294967296 := Nat.pow_lt_pow_right (by decide) hk
  rw [show (2 : Int) ^ k = ((2 ^ k : Nat) : Int) by simp, u32_xor_nat _ _ hx h, xor_pow]
theorem r_flag (fl x k : Nat) (hf : fl < 4294967296) (hx : x < 4294967296) : bits .or .u32 (bits .andNot .u32 (fl : Int) 1) (bits .and .u32 ((x : Int) / 2 ^ k) 1) = ((setF fl 1 (hasF x (2 ^ k)) : Nat) : Int) := by
  have hd : x / 2 ^ k < 4294967296 := Nat.lt_of_le_of_lt (Nat.div_le_self _ _) hx
  have h1 : fl &&& 4294967294 < 2 ^ 32 := Nat.and_lt_two_pow _ (by decide)
  have h2 : x / 2 ^ k &&& 1 < 2 ^ 32 := Nat.and_lt_two_pow _ (by decide)
  rw [show (x : Int) / 2 ^ k = ((x / 2 ^ k : Nat) : Int) by simp, show (1 : Int) = ((1 : Nat) : Int) from rfl, u32_andNot_nat _ _ hf (by decide), u32_and_nat _ _ hd (by decide),
    u32_or_nat _ _ h1 h2]
  rw [put_low _ _ hf]
  rfl

set_option maxRecDepth 20000 in
set_option maxHeartbeats 4000000 in
theorem bit_ok (op size : Int) (ho : op = 0 ∨ op = 1 ∨ op = 2 ∨ op = 3) (hs : size = 2 ∨ size = 4) (a n fl : Nat) (ha : a < 4294967296) (hn : n < 4294967296) (hf : fl < 4294967296) (w : World) :
    Calls Try.prog 13 #[.int .i64 op, .int .i64 size, .int .u32 a, .int .u32 n, .int .u32 fl] w fun e w' => e = .returned (.tuple #[.int .u32 ((bitR op.toNat (8 * size.toNat) a n : Nat) : Int), .int .u32 ((bitF (8 * size.toNat) a n fl : Nat) : Int), .int .i64 0]) ∧ w = w' := by
  have i0 : ∀ w x0 x1 x2 x3, (Instr.index 44 (.agg #[x0, x1, x2, x3]) (.int .i64 0)).run Try.prog w = .ok x0 w := fun _ _ _ _ _ => by kernel_rfl
  have i1 : ∀ w x0 x1 x2 x3, (Instr.index 44 (.agg #[x0, x1, x2, x3]) (.int .i64 1)).run Try.prog w = .ok x1 w := fun _ _ _ _ _ => by kernel_rfl
  have i2 : ∀ w x0 x1 x2 x3, (Instr.index 44 (.agg #[x0, x1, x2, x3]) (.int .i64 2)).run Try.prog w = .ok x2 w := fun _ _ _ _ _ => by kernel_rfl
  have i3 : ∀ w x0 x1 x2 x3, (Instr.index 44 (.agg #[x0, x1, x2, x3]) (.int .i64 3)).run Try.prog w = .ok x3 w := fun _ _ _ _ _ => by kernel_rfl
  have HA := hide ha
  have HN := hide hn
  have HF := hide hf
  clear ha hn hf
  rcases hs with rfl | rfl
  · have e1 : bits .and .u32 (a : Int) 65535 = ((a % 65536 : Nat) : Int) := and_lit a 16 (by decide) HA.out
    have e2 : bits .and .u32 (n : Int) 15 = ((n % 16 : Nat) : Int) := and_lit n 4 (by decide) HN.out
    have hP := (pow_int (n % 16) (by omega)).1
    have hP0 := (pow_int (n % 16) (by omega)).2
    rcases ho with rfl | rfl | rfl | rfl
    all_goals
      go_enter Try.func13, Try.ntmps13
      go_wp2
      go_ret3
      have ea : ((a : Int) % 65536) = ((a % 65536 : Nat) : Int) := by simp
      have hx : a % 65536 < 4294967296 := by omega
      have hk : n % 16 < 32 := by omega
      simp only [bitR, bitF, Int.reduceToNat, Nat.reduceMul, Nat.reducePow, ea]
      refine ⟨ret_iii ?_ (r_flag fl _ _ HF.out hx) rfl, trivial⟩
      first
        | exact r_or _ _ hx hk
        | exact r_andn _ _ hx hk
        | exact r_xor _ _ hx hk
        | rw [set_self]
  · have e1 : bits .and .u32 (a : Int) 4294967295 = ((a % 4294967296 : Nat) : Int) := and_lit a 32 (by decide) HA.out
    have e2 : bits .and .u32 (n : Int) 31 = ((n % 32 : Nat) : Int) := and_lit n 5 (by decide) HN.out
    have hP := (pow_int (n % 32) (by omega)).1
    have hP0 := (pow_int (n % 32) (by omega)).2
    rcases ho with rfl | rfl | rfl | rfl
    all_goals
      go_enter Try.func13, Try.ntmps13
      go_wp2
      go_ret3
      have ea : ((a : Int) % 4294967296) = ((a % 4294967296 : Nat) : Int) := by simp
      have hx : a % 4294967296 < 4294967296 := by omega
      have hk : n % 32 < 32 := by omega
      simp only [bitR, bitF, Int.reduceToNat, Nat.reduceMul, Nat.reducePow, ea]
      refine ⟨ret_iii ?_ (r_flag fl _ _ HF.out hx) rfl, trivial⟩
      first
        | exact r_or _ _ hx hk
        | exact r_andn _ _ hx hk
        | exact r_xor _ _ hx hk
        | rw [set_self]
end Go.Proofs.Ytdnnlfpahnbfmaa
