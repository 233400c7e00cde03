/- The program's small functions of layer 2: value, flag, turn. -/
import Derived.Test.YtlchhlfnndeicaaShSpec
import Derived.Test.YtlchhlfnndeicaaAluFl
namespace Go.Proofs.Ytlchhlfnndeicaa
open Go.RowKit Pl

theorem andm64 (z : Int) (k : Nat) (hk : k ≤ 64) (h0 : 0 ≤ z) (h1 : z < 18446744073709551616) : bits .and .u64 z (((2 ^ k - 1 : Nat) : Int)) = ((z.toNat % 2 ^ k : Nat) : Int) := by
  obtain ⟨n, rfl⟩ := Int.eq_ofNat_of_zero_le h0
  have hp : 0 < 2 ^ k := Nat.two_pow_pos k
  have hb : 2 ^ k ≤ 2 ^ 64 := Nat.pow_le_pow_right (by decide) hk
  rw [u64_and_nat _ _ (by omega) (by omega), Nat.and_two_pow_sub_one_eq_mod]
  rfl

theorem shvalue_ok (b z : Int) (hb : b = 8 ∨ b = 16 ∨ b = 32 ∨ b = 9 ∨ b = 17 ∨ b = 33) (h0 : 0 ≤ z) (h1 : z < 18446744073709551616) (w : World) :
    Calls Try.prog 16 #[.int .u64 b, .int .u64 z] w fun e w' => e = .returned (.int .u64 ((z.toNat % 2 ^ b.toNat : Nat) : Int)) ∧ w = w' := by
  have e8 := hide (andm64 z 8 (by decide) h0 h1)
  have e16 := hide (andm64 z 16 (by decide) h0 h1)
  have e32 := hide (andm64 z 32 (by decide) h0 h1)
  have e9 := hide (andm64 z 9 (by decide) h0 h1)
  have e17 := hide (andm64 z 17 (by decide) h0 h1)
  have e33 := hide (andm64 z 33 (by decide) h0 h1)
  clear h0 h1
  rcases hb with rfl | rfl | rfl | rfl | rfl | rfl
  all_goals
    go_enter Try.func16, Try.ntmps16
    go_wp2
    go_ret
    first
      | exact ⟨ret_int e8.out, rfl⟩
      | exact ⟨ret_int e16.out, rfl⟩
      | exact ⟨ret_int e32.out, rfl⟩
      | exact ⟨ret_int e9.out, rfl⟩
      | exact ⟨ret_int e17.out, rfl⟩
      | exact ⟨ret_int e33.out, rfl⟩

theorem and1 (n : Nat) (h : n < 18446744073709551616) : bits .and .u64 (n : Int) 1 = ((n % 2 : Nat) : Int) := by
  rw [show (1 : Int) = ((1 : Nat) : Int) from rfl, u64_and_nat _ _ h (by decide), Nat.and_one_is_mod]

theorem flag_ok (f : Int) (hf : f = 1 ∨ f = 2048) (n : Nat) (h : n < 18446744073709551616) (w : World) :
    Calls Try.prog 18 #[.int .u32 f, .int .u64 n] w fun e w' => e = .returned (.int .u32 ((put f.toNat (n % 2 == 1) : Nat) : Int)) ∧ w = w' := by
  have e := and1 n h
  have p1 := bit_put n 1
  have p2 := bit_put n 2048
  have hl : n % 2 < 2 := Nat.mod_lt _ (by decide)
  generalize n % 2 = m at *
  have P1 := hide p1
  have P2 := hide p2
  clear p1 p2 h
  rcases hf with rfl | rfl
  all_goals
    go_enter Try.func18, Try.ntmps18
    go_wp2
    go_ret
    refine ⟨ret_int ?_, rfl⟩
    simp only [Int.reduceToNat]
    first
      | (rw [← P1.out]; omega)
      | (rw [← P2.out]; omega)

theorem turn_arg (n b c : Nat) (hn : n < 2 ^ b) (hc : c < b) (hb : b ≤ 64) :
    ∃ z : Nat, bits .or .u64 (IntKind.u64.wrap ((n : Int) * 2 ^ c)) ((n : Int) / 2 ^ (b - c)) = (z : Int) ∧ z < 18446744073709551616 ∧ z % 2 ^ b = rotN n b c := by
  have h1 : n * 2 ^ c % 18446744073709551616 < 2 ^ 64 := Nat.mod_lt _ (by decide)
  have h2 : n / 2 ^ (b - c) < 2 ^ 64 := Nat.lt_of_le_of_lt (Nat.div_le_self _ _) (Nat.lt_of_lt_of_le hn (Nat.pow_le_pow_right (by decide) hb))
  refine ⟨n * 2 ^ c % 2 ^ 64 ||| n / 2 ^ (b - c), ?_, Nat.or_lt_two_pow h1 h2, turn_prog n b c hn hc hb⟩
  have e1 : IntKind.u64.wrap ((n : Int) * 2 ^ c) = ((n * 2 ^ c % 18446744073709551616 : Nat) : Int) := by
    have : (n : Int) * 2 ^ c = ((n * 2 ^ c : Nat) : Int) := by simp
    rw [this]
    rfl
  have e2 : (n : Int) / 2 ^ (b - c) = ((n / 2 ^ (b - c) : Nat) : Int) := by simp
  rw [e1, e2, u64_or_nat _ _ h1 h2]

set_option maxHeartbeats 1000000 in
theorem turn_ok (b : Int) (n k : Nat) (hb : b = 8 ∨ b = 16 ∨ b = 32 ∨ b = 9 ∨ b = 17 ∨ b = 33) (hn : n < 2 ^ b.toNat) (hk : k < 64) (w : World) :
    Calls Try.prog 30 #[.int .u64 b, .int .u64 k, .int .u64 n] w fun e w' => e = .returned (.int .u64 ((rotN n b.toNat (k % b.toNat) : Nat) : Int)) ∧ w = w' := by
  have V := hide fun z h0 h1 w => shvalue_ok b z hb h0 h1 w
  have hb0 : 0 < b.toNat ∧ b.toNat ≤ 64 := by omega
  have T := hide (turn_arg n b.toNat (k % b.toNat) hn (Nat.mod_lt _ hb0.1) hb0.2)
  clear hn hb0
  rcases hb with rfl | rfl | rfl | rfl | rfl | rfl
  all_goals
    simp only [Int.reduceToNat] at T
    go_enter Try.func30, Try.ntmps30
    go_wp2_with fail
    obtain ⟨z, hz, hl, ez⟩ := T.out
    rw [hz]
    refine (V.out _ (by omega) (by omega) _).mono ?_
    rintro e w' ⟨rfl, rfl⟩
    go_wp2
    go_ret
    exact ⟨ret_int rfl, rfl⟩
end Go.Proofs.Ytlchhlfnndeicaa
