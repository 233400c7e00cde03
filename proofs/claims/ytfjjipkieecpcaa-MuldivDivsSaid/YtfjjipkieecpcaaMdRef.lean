/- The document's magnitude, negated, halves. -/
import Derived.Test.YtfjjipkieecpcaaRef1
import Derived.Test.YtfjjipkieecpcaaMdPlain2
namespace Go.Proofs.Ytfjjipkieecpcaa
open Go.RowKit Pl
set_option linter.unusedVariables false

theorem neg64 (n : Nat) (h0 : 0 < n) (h1 : n < 18446744073709551616) : IntKind.u64.wrap (-(n : Int)) = ((18446744073709551616 - n : Nat) : Int) := by
  show (-(n : Int)) % 18446744073709551616 = _
  omega
theorem neg64' (n : Nat) (h1 : n < 18446744073709551616) : IntKind.u64.wrap (-(n : Int)) = (((18446744073709551616 - n) % 18446744073709551616 : Nat) : Int) := by
  show (-(n : Int)) % 18446744073709551616 = _
  omega
set_option maxHeartbeats 1000000 in
theorem mag_ok (n : Nat) (b : Int) (hb : b = 8 ∨ b = 16 ∨ b = 32 ∨ b = 64) (hn : n < 2 ^ b.toNat) (w : World) :
    Calls Try.prog 23 #[.int .u64 n, .int .i64 b] w fun e w' => e = .returned (.tuple #[.int .u64 ((magN n b.toNat : Nat) : Int), .bool (sgn n b.toNat)]) ∧ w = w' := by
  have hB : wB2 b.toNat := by unfold wB2; omega
  have S := fun w => sign_ok n b hb w
  have hs := sgn_ge n b.toNat hB hn
  have h0 : sgn n b.toNat = true → 0 < n := by
    intro h
    rw [hs, decide_eq_true_eq] at h
    exact Nat.lt_of_lt_of_le (Nat.two_pow_pos _) h
  clear hs
  unfold magN
  generalize hg : sgn n b.toNat = t at *
  have S' := hide S
  clear S hg
  cases t
  · clear h0
    rcases hb with rfl | rfl | rfl | rfl
    all_goals
      clear hn
      go_enter Try.func23, Try.ntmps23
      go_wp2_with fail
      refine (S'.out _).mono ?_
      rintro e w' ⟨rfl, rfl⟩
      go_wp2
      go_ret2
      exact ⟨rfl, rfl⟩
  · have hp := h0 rfl
    clear h0
    rcases hb with rfl | rfl | rfl | rfl
    all_goals
      simp only [Int.reduceToNat, Nat.reducePow] at hn
      have g := neg64 n hp (by omega)
      go_enter Try.func23, Try.ntmps23
      go_wp2_with fail
      refine (S'.out _).mono ?_
      rintro e w' ⟨rfl, rfl⟩
      go_wp2
      go_ret2
      refine ⟨?_, rfl⟩
      have e1 : ∀ (p q : Int), p = q → Ending.returned (.tuple #[.int .u64 p, .bool true]) = Ending.returned (.tuple #[.int .u64 q, .bool true]) := fun p q h => by rw [h]
      refine e1 _ _ ?_
      omega
set_option maxHeartbeats 1000000 in
theorem neg_ok (n : Nat) (b : Int) (hb : b = 8 ∨ b = 16 ∨ b = 32 ∨ b = 64) (hn : n ≤ 2 ^ b.toNat) (hl : n < 18446744073709551616) (w : World) :
    Calls Try.prog 24 #[.int .u64 n, .int .i64 b] w fun e w' => e = .returned (.int .u64 ((negN n b.toNat : Nat) : Int)) ∧ w = w' := by
  have C : ∀ (z : Int), z = ((2 ^ b.toNat - n : Nat) : Int) → b ≠ 64 → ∀ w, Calls Try.prog 22 #[.int .u64 z, .int .i64 b] w fun e w' => e = .returned (.int .u64 (((2 ^ b.toNat - n) % 2 ^ b.toNat : Nat) : Int)) ∧ w = w' := by
    intro z hz h w
    subst hz
    exact cut_ok ((2 ^ b.toNat - n : Nat) : Int) b (Int.natCast_nonneg _) (by omega) w
  have C' := hide C
  have g := neg64' n hl
  clear C
  unfold negN
  rcases (by omega : (b = 8 ∨ b = 16 ∨ b = 32) ∨ b = 64) with hb3 | rfl
  · clear g hb
    rcases hb3 with rfl | rfl | rfl
    all_goals
      simp only [Int.reduceToNat, Nat.reducePow] at hn C'
      go_enter Try.func24, Try.ntmps24
      go_wp2_with fail
      refine (C'.out _ (by omega) (by decide) _).mono ?_
      rintro e w' ⟨rfl, rfl⟩
      go_wp2
      go_ret
      exact ⟨rfl, rfl⟩
  · clear hn
    go_enter Try.func24, Try.ntmps24
    go_wp2
    go_ret
    first
      | exact ⟨ret_int g, rfl⟩
      | exact ⟨rfl, rfl⟩
set_option maxHeartbeats 1000000 in
theorem halves_ok (n : Nat) (b : Int) (hb : b = 8 ∨ b = 16 ∨ b = 32) (w : World) :
    Calls Try.prog 25 #[.int .u64 n, .int .i64 b] w fun e w' => e = .returned (.tuple #[.int .u64 ((n % 2 ^ b.toNat : Nat) : Int), .int .u64 ((n / 2 ^ b.toNat % 2 ^ b.toNat : Nat) : Int)]) ∧ w = w' := by
  have C1 : ∀ w, Calls Try.prog 22 #[.int .u64 (n : Int), .int .i64 b] w fun e w' => e = .returned (.int .u64 ((n % 2 ^ b.toNat : Nat) : Int)) ∧ w = w' := fun w => cut_ok (n : Int) b (by omega) hb w
  have C2 : ∀ (z : Int), z = ((n / 2 ^ b.toNat : Nat) : Int) → ∀ w, Calls Try.prog 22 #[.int .u64 z, .int .i64 b] w fun e w' => e = .returned (.int .u64 ((n / 2 ^ b.toNat % 2 ^ b.toNat : Nat) : Int)) ∧ w = w' := by
    intro z hz w
    subst hz
    exact cut_ok ((n / 2 ^ b.toNat : Nat) : Int) b (Int.natCast_nonneg _) hb w
  have H1 := hide C1
  have H2 := hide C2
  clear C1 C2
  rcases hb with rfl | rfl | rfl
  all_goals
    simp only [Int.reduceToNat, Nat.reducePow] at H1 H2
    simp only [Int.reduceToNat, Nat.reducePow]
    go_enter Try.func25, Try.ntmps25
    go_wp2_with fail
    refine (H1.out _).mono ?_
    rintro e w' ⟨rfl, rfl⟩
    go_wp2_with fail
    refine (H2.out _ (by omega) _).mono ?_
    rintro e w' ⟨rfl, rfl⟩
    go_wp2
    go_ret2
    exact ⟨rfl, rfl⟩
end Go.Proofs.Ytfjjipkieecpcaa
