/- What the document's moved answers. -/
import Derived.Test.YtlchhlfnndeicaaShMoved
namespace Go.Proofs.Ytlchhlfnndeicaa
open Go.RowKit Pl

namespace Pl
theorem shl_bit (x b k : Nat) : (x * 2 ^ k).testBit b = if k ≤ b then x.testBit (b - k) else false := by
  rw [Nat.testBit_mul_two_pow]
  by_cases h : k ≤ b
  · rw [if_pos h, decide_eq_true h, Bool.true_and]
  · rw [if_neg h, decide_eq_false h, Bool.false_and]
theorem div_shift (Z : Int) (s k : Nat) (hk : k ≤ 64) : (Z + s * 2 ^ 64) / 2 ^ k = Z / 2 ^ k + s * 2 ^ (64 - k) := by
  have e : (2 : Int) ^ 64 = 2 ^ (64 - k) * 2 ^ k := by rw [← Int.pow_add]; congr 1; omega
  rw [e, ← Int.mul_assoc, Int.add_mul_ediv_right _ _ (Int.ne_of_gt (Int.pow_pos (by decide)))]
theorem sar_val (Z : Int) (wu s b k : Nat) (h : (wu : Int) = Z + s * 2 ^ 64) (hk : k + b ≤ 64) : wu / 2 ^ k % 2 ^ b = (Z / 2 ^ k % 2 ^ b).toNat := by
  have e : ((wu / 2 ^ k % 2 ^ b : Nat) : Int) = Z / 2 ^ k % 2 ^ b := by
    have e1 : ((wu / 2 ^ k % 2 ^ b : Nat) : Int) = (wu : Int) / 2 ^ k % 2 ^ b := by simp
    rw [e1, h, div_shift Z s k (by omega)]
    have e2 : (2 : Int) ^ (64 - k) = 2 ^ (64 - k - b) * 2 ^ b := by rw [← Int.pow_add]; congr 1; omega
    rw [e2, ← Int.mul_assoc, Int.add_mul_emod_self_right]
  omega
theorem grown (x b : Nat) (hx : x < 2 ^ b) : ∃ T : Nat → Nat, T b = x ∧ T 64 = x + 18446744073709551616 - 2 ^ b ∧ ∀ j, b ≤ j → j < 64 → T (j + 1) = T j + 2 ^ j ∧ T (j + 1) < 18446744073709551616 := by
  refine ⟨fun j => x + 2 ^ j - 2 ^ b, by simp, rfl, fun j h1 h2 => ?_⟩
  have h3 : 2 ^ b ≤ 2 ^ j := Nat.pow_le_pow_right (by decide) h1
  have h4 : 2 ^ (j + 1) ≤ 2 ^ 64 := Nat.pow_le_pow_right (by decide) h2
  have h5 : 2 ^ (j + 1) = 2 * 2 ^ j := by rw [Nat.pow_succ, Nat.mul_comm]
  simp only []
  omega
theorem sar_bit (Z : Int) (wu s k : Nat) (h : (wu : Int) = Z + s * 2 ^ 64) (hk : k < 64) : wu.testBit k = (Z / 2 ^ k % 2 == 1) := by
  have e := sar_val Z wu s 1 k h (by omega)
  rw [← bit_eq, Bool.eq_iff_iff]
  simp only [Nat.pow_one, Int.pow_one, beq_iff_eq] at e ⊢
  omega
end Pl
theorem grow_step (t u j : Nat) (h : u = t + 2 ^ j) (l : u < 18446744073709551616) : IntKind.u64.wrap ((t : Int) + IntKind.u64.wrap (2 ^ j)) = (u : Int) := by
  have e : (2 : Int) ^ j = ((2 ^ j : Nat) : Int) := by simp
  rw [e]
  generalize 2 ^ j = p at *
  show ((t : Int) + (p : Int) % 18446744073709551616) % 18446744073709551616 = _
  omega

set_option maxRecDepth 20000 in
set_option maxHeartbeats 2000000 in
theorem moved5_ok (b : Int) (x k fl : Nat) (hb : b = 8 ∨ b = 16 ∨ b = 32) (hk : k < 32) (hk0 : 0 < k) (hf : fl < 4294967296) (w : World) :
    Calls Try.prog 23 #[.int .i64 5, .int .u64 x, .int .i64 b, .int .i64 k, .int .u32 fl] w fun e w' => e = .returned (.tuple #[.int .u64 ((shR 5 b.toNat x k (fl % 2) : Nat) : Int), .int .u32 ((shF 5 b.toNat x k fl : Nat) : Int)]) ∧ w = w' := by
  have e1 : shR 5 b.toNat x k (fl % 2) = x / 2 ^ k := rfl
  have e2 : shF 5 b.toNat x k fl = byF (x / 2 ^ k) b.toNat (setF (setF (setF fl 16 false) 1 (x.testBit (k - 1))) 2048 (x.testBit (b.toNat - 1))) := rfl
  rw [e1, e2]
  clear e1 e2
  have B0 := hide fun i h w => bit_okI x i (k - 1) h (by omega) w
  have B1 := hide fun i h w => bit_okI x i (b.toNat - 1) h (by omega) w
  have S0 := hide fun w => set_ok fl 16 false (by decide) hf w
  have S1 := hide fun w => set_ok (setF fl 16 false) 1 (x.testBit (k - 1)) (by decide) (lt16 _ hf) w
  have S2 := hide fun w => set_ok (setF (setF fl 16 false) 1 (x.testBit (k - 1))) 2048 (x.testBit (b.toNat - 1)) (by decide) (lt1 _ (lt16 _ hf)) w
  have BY := hide fun (z : Int) (hz : z = ((x / 2 ^ k : Nat) : Int)) w => (show Calls Try.prog 27 #[.int .u64 z, .int .i64 b, .int .u32 (setF (setF (setF fl 16 false) 1 (x.testBit (k - 1))) 2048 (x.testBit (b.toNat - 1)) : Nat)] w fun e w' => e = .returned (.int .u32 ((byF (x / 2 ^ k) b.toNat (setF (setF (setF fl 16 false) 1 (x.testBit (k - 1))) 2048 (x.testBit (b.toNat - 1))) : Nat) : Int)) ∧ w = w' from hz ▸ by_ok (x / 2 ^ k) (setF (setF (setF fl 16 false) 1 (x.testBit (k - 1))) 2048 (x.testBit (b.toNat - 1))) b hb (lt2048 _ (lt1 _ (lt16 _ hf))) w)
  simp only [Int.reduceToNat] at S0 S1 S2
  generalize x.testBit (k - 1) = t0 at *
  generalize x.testBit (b.toNat - 1) = t1 at *
  generalize setF (setF (setF fl 16 false) 1 t0) 2048 t1 = f2 at *
  generalize setF (setF fl 16 false) 1 t0 = f1 at *
  generalize setF fl 16 false = f0 at *
  generalize byF (x / 2 ^ k) b.toNat f2 = f3 at *
  clear hf
  rcases hb with rfl | rfl | rfl
  all_goals
    go_enter Try.func23, Try.ntmps23
    go_wp2_with fail
    refine (S0.out _).mono ?_
    rintro e w' ⟨rfl, rfl⟩
    go_wp2_with fail
    refine (B0.out _ (by omega) _).mono ?_
    rintro e w' ⟨rfl, rfl⟩
    go_wp2_with fail
    refine (S1.out _).mono ?_
    rintro e w' ⟨rfl, rfl⟩
    go_wp2_with fail
    refine (B1.out _ (by omega) _).mono ?_
    rintro e w' ⟨rfl, rfl⟩
    go_wp2_with fail
    refine (S2.out _).mono ?_
    rintro e w' ⟨rfl, rfl⟩
    go_wp2_with fail
    refine (BY.out _ (by simp) _).mono ?_
    rintro e w' ⟨rfl, rfl⟩
    go_wp2
    go_ret2
    exact ⟨ret_ii (by simp) rfl, rfl⟩

set_option maxRecDepth 20000 in
set_option maxHeartbeats 2000000 in
theorem moved4_ok (op b : Int) (x k fl : Nat) (ho : op = 4 ∨ op = 6) (hb : b = 8 ∨ b = 16 ∨ b = 32) (hx : x < 2 ^ b.toNat) (hk : k < 32) (hf : fl < 4294967296) (w : World) :
    Calls Try.prog 23 #[.int .i64 op, .int .u64 x, .int .i64 b, .int .i64 k, .int .u32 fl] w fun e w' => e = .returned (.tuple #[.int .u64 ((shR 4 b.toNat x k (fl % 2) : Nat) : Int), .int .u32 ((shF 4 b.toNat x k fl : Nat) : Int)]) ∧ w = w' := by
  have hl : x * 2 ^ k < 18446744073709551616 := by
    have h1 : x < 2 ^ 32 := Nat.lt_of_lt_of_le hx (Nat.pow_le_pow_right (by decide) (by omega))
    have h2 : 2 ^ k ≤ 2 ^ 31 := Nat.pow_le_pow_right (by decide) (by omega)
    have h3 : x * 2 ^ k ≤ x * 2 ^ 31 := Nat.mul_le_mul_left _ h2
    omega
  have e0 : IntKind.u64.wrap ((x : Int) * 2 ^ k) = ((x * 2 ^ k : Nat) : Int) := by
    have h : (x : Int) * 2 ^ k = ((x * 2 ^ k : Nat) : Int) := by simp
    rw [h]
    have : ((x * 2 ^ k % 18446744073709551616 : Nat) : Int) = ((x * 2 ^ k : Nat) : Int) := by rw [Nat.mod_eq_of_lt hl]
    exact this
  have C : ∀ w, Calls Try.prog 21 #[.int .u64 (x * 2 ^ k : Nat), .int .i64 b] w fun e w' => e = .returned (.int .u64 ((x * 2 ^ k % 2 ^ b.toNat : Nat) : Int)) ∧ w = w' := fun w => cut6_ok ((x * 2 ^ k : Nat) : Int) b (by omega) (by omega) w
  have e1 : shR 4 b.toNat x k (fl % 2) = x * 2 ^ k % 2 ^ b.toNat := rfl
  have e2 : shF 4 b.toNat x k fl = byF (x * 2 ^ k % 2 ^ b.toNat) b.toNat (setF (setF (setF fl 16 false) 1 ((x * 2 ^ k).testBit b.toNat)) 2048 ((x * 2 ^ k).testBit b.toNat != (x * 2 ^ k % 2 ^ b.toNat).testBit (b.toNat - 1))) := rfl
  rw [e1, e2]
  clear e1 e2
  have B0 : ∀ i, i = b - (k : Int) → ∀ w, Calls Try.prog 25 #[.int .u64 x, .int .i64 i] w fun e w' => e = .returned (.bool ((x * 2 ^ k).testBit b.toNat)) ∧ w = w' := by
    intro i hi w
    rw [shl_bit]
    by_cases h : k ≤ b.toNat
    · rw [if_pos h]
      exact bit_okI x i (b.toNat - k) (by omega) (by omega) w
    · rw [if_neg h]
      exact bit_neg x i (by omega) w
  generalize x * 2 ^ k = wd at *
  generalize wd % 2 ^ b.toNat = r at *
  have B1 := hide fun i h w => bit_okI r i (b.toNat - 1) h (by omega) w
  generalize wd.testBit b.toNat = t0 at *
  generalize r.testBit (b.toNat - 1) = t1 at *
  have S0 := hide fun w => set_ok fl 16 false (by decide) hf w
  have S1 := hide fun w => set_ok (setF fl 16 false) 1 t0 (by decide) (lt16 _ hf) w
  have S2 := hide fun w => set_ok (setF (setF fl 16 false) 1 t0) 2048 (t0 != t1) (by decide) (lt1 _ (lt16 _ hf)) w
  have BY := hide fun w => by_ok r (setF (setF (setF fl 16 false) 1 t0) 2048 (t0 != t1)) b hb (lt2048 _ (lt1 _ (lt16 _ hf))) w
  simp only [Int.reduceToNat] at S0 S1 S2
  generalize setF (setF (setF fl 16 false) 1 t0) 2048 (t0 != t1) = f2 at *
  generalize setF (setF fl 16 false) 1 t0 = f1 at *
  generalize setF fl 16 false = f0 at *
  generalize byF r b.toNat f2 = f3 at *
  have E0 := hide e0
  have C' := hide C
  have B0' := hide B0
  clear hx hf hl C B0 e0
  rcases ho with rfl | rfl
  all_goals
    rcases hb with rfl | rfl | rfl
    all_goals
      go_enter Try.func23, Try.ntmps23
      go_wp2_with fail
      refine (S0.out _).mono ?_
      rintro e w' ⟨rfl, rfl⟩
      go_wp2_with fail
      have e0 := E0.out
      rw [e0]
      refine (C'.out _).mono ?_
      rintro e w' ⟨rfl, rfl⟩
      go_wp2_with fail
      refine (B0'.out _ (by omega) _).mono ?_
      rintro e w' ⟨rfl, rfl⟩
      go_wp2_with fail
      refine (S1.out _).mono ?_
      rintro e w' ⟨rfl, rfl⟩
      go_wp2_with fail
      refine (B1.out _ (by omega) _).mono ?_
      rintro e w' ⟨rfl, rfl⟩
      go_wp2_with fail
      refine (S2.out _).mono ?_
      rintro e w' ⟨rfl, rfl⟩
      go_wp2_with fail
      refine (BY.out _).mono ?_
      rintro e w' ⟨rfl, rfl⟩
      go_wp2
      go_ret2
      exact ⟨ret_ii rfl rfl, rfl⟩

set_option maxRecDepth 20000 in
set_option maxHeartbeats 2000000 in
theorem moved7_ok (b : Int) (x k fl : Nat) (hb : b = 8 ∨ b = 16 ∨ b = 32) (hx : x < 2 ^ b.toNat) (hk : k < 32) (hk0 : 0 < k) (hf : fl < 4294967296) (w : World) :
    Calls Try.prog 23 #[.int .i64 7, .int .u64 x, .int .i64 b, .int .i64 k, .int .u32 fl] w fun e w' => e = .returned (.tuple #[.int .u64 ((shR 7 b.toNat x k (fl % 2) : Nat) : Int), .int .u32 ((shF 7 b.toNat x k fl : Nat) : Int)]) ∧ w = w' := by
  have e1 : shR 7 b.toNat x k (fl % 2) = (sZ x b.toNat / 2 ^ k % 2 ^ b.toNat).toNat := rfl
  have e2 : shF 7 b.toNat x k fl = byF (sZ x b.toNat / 2 ^ k % 2 ^ b.toNat).toNat b.toNat (setF (setF (setF fl 16 false) 1 (sZ x b.toNat / 2 ^ (k - 1) % 2 == 1)) 2048 false) := rfl
  rw [e1, e2]
  clear e1 e2
  have hZ : (x.testBit (b.toNat - 1) = false ∧ (x : Int) = sZ x b.toNat + (0 : Nat) * 2 ^ 64) ∨ (x.testBit (b.toNat - 1) = true ∧ ((x + 18446744073709551616 - 2 ^ b.toNat : Nat) : Int) = sZ x b.toNat + (1 : Nat) * 2 ^ 64) := by
    unfold sZ
    rw [sgn_bit]
    have h2 : ((2 ^ b.toNat : Nat) : Int) = 2 ^ b.toNat := by simp
    have h3 : 2 ^ b.toNat ≤ 2 ^ 32 := Nat.pow_le_pow_right (by decide) (by omega)
    cases x.testBit (b.toNat - 1)
    · left; simp
    · right
      refine ⟨rfl, ?_⟩
      rw [if_pos rfl]
      omega
  generalize sZ x b.toNat = Z at *
  have B0 := hide fun i h w => bit_okI x i (b.toNat - 1) h (by omega) w
  have S0 := hide fun w => set_ok fl 16 false (by decide) hf w
  have S1 := hide fun t0 w => set_ok (setF fl 16 false) 1 t0 (by decide) (lt16 _ hf) w
  have S2 := hide fun t0 w => set_ok (setF (setF fl 16 false) 1 t0) 2048 false (by decide) (lt1 _ (lt16 _ hf)) w
  have BY := hide fun (r : Nat) t0 w => by_ok r (setF (setF (setF fl 16 false) 1 t0) 2048 false) b hb (lt2048 _ (lt1 _ (lt16 _ hf))) w
  simp only [Int.reduceToNat] at S0 S1 S2
  rcases hZ with ⟨ht, hZ⟩ | ⟨ht, hZ⟩
  · have V1 := sar_val Z x 0 b.toNat k hZ (by omega)
    have V2 := sar_bit Z x 0 (k - 1) hZ (by omega)
    rw [← V1, ← V2]
    rw [ht] at B0
    have C : ∀ z, z = ((x / 2 ^ k : Nat) : Int) → ∀ w, Calls Try.prog 21 #[.int .u64 z, .int .i64 b] w fun e w' => e = .returned (.int .u64 ((x / 2 ^ k % 2 ^ b.toNat : Nat) : Int)) ∧ w = w' := fun z hz w => hz ▸ cut6_ok ((x / 2 ^ k : Nat) : Int) b (Int.natCast_nonneg _) (by omega) w
    generalize x / 2 ^ k % 2 ^ b.toNat = r at *
    have B1 := hide fun i h w => bit_okI x i (k - 1) h (by omega) w
    generalize x.testBit (k - 1) = t0 at *
    have C' := hide C
    clear C V1 V2 hZ hx
    rcases hb with rfl | rfl | rfl
    all_goals
      go_enter Try.func23, Try.ntmps23
      go_wp2_with fail
      refine (S0.out _).mono ?_
      rintro e w' ⟨rfl, rfl⟩
      go_wp2_with fail
      refine (B0.out _ (by omega) _).mono ?_
      rintro e w' ⟨rfl, rfl⟩
      go_wp2_with fail
      refine (C'.out _ (by simp) _).mono ?_
      rintro e w' ⟨rfl, rfl⟩
      go_wp2_with fail
      refine (B1.out _ (by omega) _).mono ?_
      rintro e w' ⟨rfl, rfl⟩
      go_wp2_with fail
      refine (S1.out _ _).mono ?_
      rintro e w' ⟨rfl, rfl⟩
      go_wp2_with fail
      refine (S2.out _ _).mono ?_
      rintro e w' ⟨rfl, rfl⟩
      go_wp2_with fail
      refine (BY.out _ _ _).mono ?_
      rintro e w' ⟨rfl, rfl⟩
      go_wp2
      go_ret2
      exact ⟨ret_ii rfl rfl, rfl⟩
  · have V1 := sar_val Z _ 1 b.toNat k hZ (by omega)
    have V2 := sar_bit Z _ 1 (k - 1) hZ (by omega)
    rw [← V1, ← V2]
    rw [ht] at B0
    obtain ⟨T, T0, T1, TS⟩ := grown x b.toNat hx
    rw [← T1]
    have C : ∀ z, z = ((T 64 / 2 ^ k : Nat) : Int) → ∀ w, Calls Try.prog 21 #[.int .u64 z, .int .i64 b] w fun e w' => e = .returned (.int .u64 ((T 64 / 2 ^ k % 2 ^ b.toNat : Nat) : Int)) ∧ w = w' := fun z hz w => hz ▸ cut6_ok ((T 64 / 2 ^ k : Nat) : Int) b (Int.natCast_nonneg _) (by omega) w
    generalize T 64 / 2 ^ k % 2 ^ b.toNat = r at *
    have B1 := hide fun i h w => bit_okI (T 64) i (k - 1) h (by omega) w
    generalize (T 64).testBit (k - 1) = t0 at *
    have C' := hide C
    have TT0 := hide T0
    have TTS := hide TS
    clear C V1 V2 hZ T1 T0 TS hf
    rcases hb with rfl | rfl | rfl
    · simp only [Int.reduceToNat] at TT0 TTS
      go_enter Try.func23, Try.ntmps23
      go_wp2_with fail
      refine (S0.out _).mono ?_
      rintro e w' ⟨rfl, rfl⟩
      go_wp2_with fail
      refine (B0.out _ (by omega) _).mono ?_
      rintro e w' ⟨rfl, rfl⟩
      go_wp2_with fail
      go_loop [13, 14] (fun o i => ∃ j : Nat, 8 ≤ j ∧ j ≤ 64 ∧ o = .int .u64 (T j : Nat) ∧ i = .int .i64 j) (fun _ i => 64 - (intOf i).toNat)
      case atStart => exact ⟨_, Nat.le_refl _, by omega, by rw [TT0.out], rfl⟩
      case round =>
        obtain ⟨j, hj0, hj, rfl, rfl⟩ := hrel
        by_cases hlt : j < 64
        · go_wp2
          go_round
          case rel =>
            have hs := TTS.out j hj0 hlt
            exact ⟨j + 1, by omega, by omega, by rw [grow_step _ _ _ hs.1 hs.2], by go_num⟩
          case measure => simp [intOf]; omega
        · obtain rfl : j = 64 := by omega
          go_wp2_with fail
          refine (C'.out _ (by simp) _).mono ?_
          rintro e w' ⟨rfl, rfl⟩
          go_wp2_with fail
          refine (B1.out _ (by omega) _).mono ?_
          rintro e w' ⟨rfl, rfl⟩
          go_wp2_with fail
          refine (S1.out _ _).mono ?_
          rintro e w' ⟨rfl, rfl⟩
          go_wp2_with fail
          refine (S2.out _ _).mono ?_
          rintro e w' ⟨rfl, rfl⟩
          go_wp2_with fail
          refine (BY.out _ _ _).mono ?_
          rintro e w' ⟨rfl, rfl⟩
          go_wp2
          go_ret2
          exact ⟨ret_ii rfl rfl, rfl⟩
    · simp only [Int.reduceToNat] at TT0 TTS
      go_enter Try.func23, Try.ntmps23
      go_wp2_with fail
      refine (S0.out _).mono ?_
      rintro e w' ⟨rfl, rfl⟩
      go_wp2_with fail
      refine (B0.out _ (by omega) _).mono ?_
      rintro e w' ⟨rfl, rfl⟩
      go_wp2_with fail
      go_loop [13, 14] (fun o i => ∃ j : Nat, 16 ≤ j ∧ j ≤ 64 ∧ o = .int .u64 (T j : Nat) ∧ i = .int .i64 j) (fun _ i => 64 - (intOf i).toNat)
      case atStart => exact ⟨_, Nat.le_refl _, by omega, by rw [TT0.out], rfl⟩
      case round =>
        obtain ⟨j, hj0, hj, rfl, rfl⟩ := hrel
        by_cases hlt : j < 64
        · go_wp2
          go_round
          case rel =>
            have hs := TTS.out j hj0 hlt
            exact ⟨j + 1, by omega, by omega, by rw [grow_step _ _ _ hs.1 hs.2], by go_num⟩
          case measure => simp [intOf]; omega
        · obtain rfl : j = 64 := by omega
          go_wp2_with fail
          refine (C'.out _ (by simp) _).mono ?_
          rintro e w' ⟨rfl, rfl⟩
          go_wp2_with fail
          refine (B1.out _ (by omega) _).mono ?_
          rintro e w' ⟨rfl, rfl⟩
          go_wp2_with fail
          refine (S1.out _ _).mono ?_
          rintro e w' ⟨rfl, rfl⟩
          go_wp2_with fail
          refine (S2.out _ _).mono ?_
          rintro e w' ⟨rfl, rfl⟩
          go_wp2_with fail
          refine (BY.out _ _ _).mono ?_
          rintro e w' ⟨rfl, rfl⟩
          go_wp2
          go_ret2
          exact ⟨ret_ii rfl rfl, rfl⟩
    · simp only [Int.reduceToNat] at TT0 TTS
      go_enter Try.func23, Try.ntmps23
      go_wp2_with fail
      refine (S0.out _).mono ?_
      rintro e w' ⟨rfl, rfl⟩
      go_wp2_with fail
      refine (B0.out _ (by omega) _).mono ?_
      rintro e w' ⟨rfl, rfl⟩
      go_wp2_with fail
      go_loop [13, 14] (fun o i => ∃ j : Nat, 32 ≤ j ∧ j ≤ 64 ∧ o = .int .u64 (T j : Nat) ∧ i = .int .i64 j) (fun _ i => 64 - (intOf i).toNat)
      case atStart => exact ⟨_, Nat.le_refl _, by omega, by rw [TT0.out], rfl⟩
      case round =>
        obtain ⟨j, hj0, hj, rfl, rfl⟩ := hrel
        by_cases hlt : j < 64
        · go_wp2
          go_round
          case rel =>
            have hs := TTS.out j hj0 hlt
            exact ⟨j + 1, by omega, by omega, by rw [grow_step _ _ _ hs.1 hs.2], by go_num⟩
          case measure => simp [intOf]; omega
        · obtain rfl : j = 64 := by omega
          go_wp2_with fail
          refine (C'.out _ (by simp) _).mono ?_
          rintro e w' ⟨rfl, rfl⟩
          go_wp2_with fail
          refine (B1.out _ (by omega) _).mono ?_
          rintro e w' ⟨rfl, rfl⟩
          go_wp2_with fail
          refine (S1.out _ _).mono ?_
          rintro e w' ⟨rfl, rfl⟩
          go_wp2_with fail
          refine (S2.out _ _).mono ?_
          rintro e w' ⟨rfl, rfl⟩
          go_wp2_with fail
          refine (BY.out _ _ _).mono ?_
          rintro e w' ⟨rfl, rfl⟩
          go_wp2
          go_ret2
          exact ⟨ret_ii rfl rfl, rfl⟩
end Go.Proofs.Ytlchhlfnndeicaa
