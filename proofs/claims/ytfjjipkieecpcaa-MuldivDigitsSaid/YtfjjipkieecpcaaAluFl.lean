/- The flags of a result: what the program's Flags answers. -/
import Derived.Test.YtfjjipkieecpcaaAluBy
namespace Go.Proofs.Ytfjjipkieecpcaa
open Go.RowKit Pl

theorem flags3_int (fl n b : Nat) (hf : fl < 4294967296) : bits .or .u32 (bits .andNot .u32 (fl : Int) 196) ((byB n b : Nat) : Int) = ((byF n b fl : Nat) : Int) := by
  have l4 : fl &&& (4294967295 - 196) < 2 ^ 32 := Nat.and_lt_two_pow _ (by decide)
  rw [show (196 : Int) = ((196 : Nat) : Int) from rfl, u32_andNot_nat _ _ hf (by decide), u32_or_nat _ _ l4 (byB_lt _ _), asm3 _ _ _ hf]

set_option maxHeartbeats 1000000 in
theorem flags_ok (s : Int) (hs : s = 1 ∨ s = 2 ∨ s = 4) (r fl : Nat) (hr : r < 4294967296) (hf : fl < 4294967296) (w : World) :
    Calls Try.prog 20 #[.int .i64 s, .int .u32 r, .int .u32 fl] w fun e w' => e = .returned (.tuple #[.int .u32 ((byF (r % 2 ^ (8 * s.toNat)) (8 * s.toNat) fl : Nat) : Int), .int .i64 0]) ∧ w = w' := by
  have V1 : ∀ w, Calls Try.prog 36 #[.int .i64 s, .int .u32 r] w fun e w' => e = .returned (.int .u32 ((r % 2 ^ (8 * s.toNat) : Nat) : Int)) ∧ w = w' := fun w => aluvalue_ok s r hs (by omega) (by omega) w
  have V2 := fun w => aluby_ok s (r % 2 ^ (8 * s.toNat)) hs (Nat.mod_lt _ (Nat.two_pow_pos _)) w
  have KK := hide (flags3_int fl (r % 2 ^ (8 * s.toNat)) (8 * s.toNat) hf)
  generalize byF (r % 2 ^ (8 * s.toNat)) (8 * s.toNat) fl = rf at *
  generalize byB (r % 2 ^ (8 * s.toNat)) (8 * s.toNat) = v at *
  generalize r % 2 ^ (8 * s.toNat) = x at *
  have W1 := hide V1
  have W2 := hide V2
  clear V1 V2 hr hf
  rcases hs with rfl | rfl | rfl
  all_goals
    go_enter Try.func20, Try.ntmps20
    go_wp2_with fail
    refine (W1.out _).mono ?_
    rintro e w' ⟨rfl, rfl⟩
    go_wp2_with fail
    refine (W2.out _).mono ?_
    rintro e w' ⟨rfl, rfl⟩
    go_wp2
    go_ret2
    exact ⟨ret_ii KK.out rfl, rfl⟩
theorem flags_no (s : Int) (h1 : ¬ s = 1) (h2 : ¬ s = 2) (h4 : ¬ s = 4) (r fl : Int) (w : World) :
    Calls Try.prog 20 #[.int .i64 s, .int .u32 r, .int .u32 fl] w fun e w' => e = .returned (.tuple #[.int .u32 0, .int .i64 2]) ∧ w = w' := by
  have k1 : (s != 1) = true := by simpa using h1
  have k2 : (s != 2) = true := by simpa using h2
  have k4 : (s != 4) = true := by simpa using h4
  clear h1 h2 h4
  go_enter Try.func20, Try.ntmps20
  go_wp2
  go_ret2
  exact ⟨rfl, rfl⟩
end Go.Proofs.Ytfjjipkieecpcaa
