/- The document's small functions of layer 2: bit, left, turned. -/
import Derived.Test.YtlchhlfnndeicaaShSpec
import Derived.Test.YtlchhlfnndeicaaRef1
namespace Go.Proofs.Ytlchhlfnndeicaa
open Go.RowKit Pl

theorem cut6_ok (z b : Int) (hz : 0 ≤ z) (hb : b = 8 ∨ b = 16 ∨ b = 32 ∨ b = 9 ∨ b = 17 ∨ b = 33) (w : World) : Calls Try.prog 21 #[.int .u64 z, .int .i64 b] w fun e w' => e = .returned (.int .u64 ((z.toNat % 2 ^ b.toNat : Nat) : Int)) ∧ w = w' := by
  rcases hb with rfl | rfl | rfl | rfl | rfl | rfl
  all_goals
    go_enter Try.func21, Try.ntmps21
    go_wp2
    go_ret
    refine ⟨ret_int ?_, rfl⟩
    simp only [Int.reduceToNat, Nat.reducePow]
    omega

theorem bit_nat (n i : Nat) : ((n : Int) / 2 ^ i % 2 == 1) = n.testBit i := by
  rw [← bit_eq]
  exact (bit_tst n i _ rfl).2

theorem bit_ok (n i : Nat) (hi : i < 64) (w : World) : Calls Try.prog 25 #[.int .u64 n, .int .i64 i] w fun e w' => e = .returned (.bool (n.testBit i)) ∧ w = w' := by
  have h1 := hide ((bit_tst n i _ rfl).1.trans (bit_eq n i))
  go_enter Try.func25, Try.ntmps25
  go_wp2
  go_ret
  exact ⟨ret_bool h1.out, rfl⟩
theorem bit_neg (n i : Int) (hi : i < 0) (w : World) : Calls Try.prog 25 #[.int .u64 n, .int .i64 i] w fun e w' => e = .returned (.bool false) ∧ w = w' := by
  go_enter Try.func25, Try.ntmps25
  go_wp2
  go_ret
  exact ⟨rfl, rfl⟩

theorem left_ok (n : Nat) (b : Int) (hb : b = 8 ∨ b = 16 ∨ b = 32 ∨ b = 9 ∨ b = 17 ∨ b = 33) (hn : n < 2 ^ b.toNat) (w : World) :
    Calls Try.prog 44 #[.int .u64 n, .int .i64 b] w fun e w' => e = .returned (.int .u64 ((leftN n b.toNat : Nat) : Int)) ∧ w = w' := by
  have V := hide fun z h0 w => cut6_ok z b h0 hb w
  rcases hb with rfl | rfl | rfl | rfl | rfl | rfl
  all_goals
    simp only [Int.reduceToNat, Nat.reducePow] at hn
    go_enter Try.func44, Try.ntmps44
    go_wp2_with fail
    refine (V.out _ (by omega) _).mono ?_
    rintro e w' ⟨rfl, rfl⟩
    go_wp2
    go_ret
    refine ⟨ret_int ?_, rfl⟩
    unfold leftN
    simp only [Int.reduceToNat, Nat.reducePow, Nat.reduceSub]
    omega

theorem turned_lt (n b k : Nat) (hn : n < 2 ^ b) (hb : 0 < b) : turnedN n b k < 2 ^ b := by
  rw [turned_rot n b k hn hb]
  exact rot_lt _ _ _ hn (Nat.le_of_lt (Nat.mod_lt _ hb))

set_option maxHeartbeats 1000000 in
theorem turned_ok (n k : Nat) (b : Int) (hb : b = 8 ∨ b = 16 ∨ b = 32 ∨ b = 9 ∨ b = 17 ∨ b = 33) (hn : n < 2 ^ b.toNat) (hk : k < 1000) (w : World) :
    Calls Try.prog 38 #[.int .u64 n, .int .i64 b, .int .i64 k] w fun e w' => e = .returned (.int .u64 ((rotN n b.toNat (k % b.toNat) : Nat) : Int)) ∧ w = w' := by
  have hb0 : 0 < b.toNat := by omega
  have L := hide fun j w => left_ok (turnedN n b.toNat j) b hb (turned_lt n b.toNat j hn hb0) w
  have T := hide (turned_rot n b.toNat k hn hb0)
  clear hn hb hb0
  generalize b.toNat = B at *
  go_enter Try.func38, Try.ntmps38
  go_wp2
  go_loop [0, 7] (fun o i => ∃ j : Nat, j ≤ k ∧ o = .int .u64 (turnedN n B j : Nat) ∧ i = .int .i64 j) (fun _ i => k - (intOf i).toNat)
  case atStart => exact ⟨0, Nat.zero_le _, rfl, rfl⟩
  case round =>
    obtain ⟨j, hj, rfl, rfl⟩ := hrel
    by_cases hlt : j < k
    · have HS : Hid (turnedN n B (j + 1) = leftN (turnedN n B j) B) := rfl
      go_wp2_with fail
      refine (L.out _ _).mono ?_
      rintro e w' ⟨rfl, rfl⟩
      go_wp2
      go_round
      case rel => exact ⟨j + 1, by omega, by rw [HS.out], by go_num⟩
      case measure => simp [intOf]; omega
    · obtain rfl : j = k := by omega
      go_wp2
      go_ret
      have T' := T.out
      exact ⟨ret_int (by rw [T']), rfl⟩
end Go.Proofs.Ytlchhlfnndeicaa
