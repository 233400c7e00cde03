/- The document's Cut, Sign, even and By. -/
import Derived.Test.YtfjjipkieecpcaaRef
namespace Go.Proofs.Ytfjjipkieecpcaa
open Go.RowKit Pl

theorem cut_ok (z b : Int) (hz : 0 ≤ z) (hb : b = 8 ∨ b = 16 ∨ b = 32) (w : World) : Calls Try.prog 22 #[.int .u64 z, .int .i64 b] w fun e w' => e = .returned (.int .u64 ((z.toNat % 2 ^ b.toNat : Nat) : Int)) ∧ w = w' := by
  rcases hb with rfl | rfl | rfl
  all_goals
    go_enter Try.func22, Try.ntmps22
    go_wp2
    go_ret
    refine ⟨ret_int ?_, rfl⟩
    simp only [Int.reduceToNat, Nat.reducePow]
    omega

theorem sgn_int (n : Nat) (p : Nat) (q : Int) (hq : q = (p : Int)) : ((n : Int) / q % 2 == 1) = (n / p % 2 == 1) := by
  subst hq
  rw [Bool.eq_iff_iff]
  simp only [beq_iff_eq]
  rw [show (n : Int) / (p : Int) = ((n / p : Nat) : Int) by simp]
  omega

theorem sign_ok (n : Nat) (b : Int) (hb : b = 8 ∨ b = 16 ∨ b = 32 ∨ b = 64) (w : World) : Calls Try.prog 26 #[.int .u64 n, .int .i64 b] w fun e w' => e = .returned (.bool (sgn n b.toNat)) ∧ w = w' := by
  rcases hb with rfl | rfl | rfl | rfl
  all_goals
    go_enter Try.func26, Try.ntmps26
    go_wp2
    go_ret
    refine ⟨ret_bool ?_, rfl⟩
    unfold sgn
    simp only [Int.reduceToNat, Nat.reduceSub, Nat.reducePow]
    exact sgn_int n _ _ rfl

/-- how many of the lowest k bits are set -/
def cnt (n : Nat) : Nat → Nat
  | 0 => 0
  | k + 1 => cnt n k + n / 2 ^ k % 2
theorem cnt_le (n k : Nat) : cnt n k ≤ k := by
  induction k with
  | zero => exact Nat.le_refl _
  | succ k ih => unfold cnt; omega
theorem cnt_eight (n : Nat) : cnt n 8 = ones8 n := by
  simp [cnt, ones8]

theorem bit_tst (n k b : Nat) (h : n / 2 ^ k % 2 = b) : (((n : Int) / 2 ^ k).tmod 2 == 1) = (b == 1) ∧ (((n : Int) / 2 ^ k) % 2 == 1) = (b == 1) := by
  have e : (n : Int) / 2 ^ k = ((n / 2 ^ k : Nat) : Int) := by simp
  rw [e]
  generalize n / 2 ^ k = q at *
  have e2 : ((q : Int).tmod 2) = (q : Int) % 2 := Int.tmod_eq_emod_of_nonneg (by omega)
  rw [e2]
  have e3 : (q : Int) % 2 = (b : Int) := by omega
  rw [e3]
  have : ((b : Int) == 1) = (b == 1) := by rw [Bool.eq_iff_iff]; simp; omega
  exact ⟨this, this⟩

set_option maxHeartbeats 1000000 in
theorem even_ok (n : Nat) (w : World) : Calls Try.prog 37 #[.int .u64 n] w fun e w' => e = .returned (.bool (evenB n)) ∧ w = w' := by
  have H8 := hide (cnt_eight n)
  go_enter Try.func37, Try.ntmps37
  go_wp2
  go_loop [3, 4] (fun o i => ∃ k : Nat, k ≤ 8 ∧ o = .int .i64 (cnt n k : Nat) ∧ i = .int .i64 k) (fun _ i => 8 - (intOf i).toNat)
  case atStart => exact ⟨0, Nat.zero_le _, rfl, rfl⟩
  case round =>
    obtain ⟨k, hk, rfl, rfl⟩ := hrel
    have hc := cnt_le n k
    by_cases hlt : k < 8
    · have HS : Hid (cnt n (k + 1) = cnt n k + n / 2 ^ k % 2) := rfl
      rcases Nat.mod_two_eq_zero_or_one (n / 2 ^ k) with hb | hb
      all_goals
        have hb1 := (bit_tst n k _ hb).1
        have hb2 := (bit_tst n k _ hb).2
        have HB := hide hb
        clear hb
        simp only [Nat.reduceBEq] at hb1 hb2
        go_wp2
        go_round
        case rel => exact ⟨k + 1, by omega, by rw [HS.out, HB.out]; first | rfl | go_num, by go_num⟩
        case measure => simp [intOf]; omega
    · obtain rfl : k = 8 := by omega
      go_wp2
      go_ret
      refine ⟨ret_bool ?_, rfl⟩
      unfold evenB
      rw [← H8.out, Bool.eq_iff_iff]
      simp only [beq_iff_eq]
      omega

set_option maxHeartbeats 1000000 in
theorem by_ok (n fl : Nat) (b : Int) (hb : b = 8 ∨ b = 16 ∨ b = 32) (hf : fl < 4294967296) (w : World) :
    Calls Try.prog 28 #[.int .u64 n, .int .i64 b, .int .u32 fl] w fun e w' => e = .returned (.int .u32 ((byF n b.toNat fl : Nat) : Int)) ∧ w = w' := by
  have b1 : setF fl 64 (n == 0) < 4294967296 := setF_lt fl 6 _ (by decide) hf
  have b2 : setF (setF fl 64 (n == 0)) 128 (sgn n b.toNat) < 4294967296 := setF_lt _ 7 _ (by decide) b1
  have e0 : ((n : Int) == 0) = (n == 0) := by rw [Bool.eq_iff_iff]; simp
  have H1 := hide fun w => set_ok fl 64 (n == 0) (by decide) hf w
  have H2 := hide fun w => sign_ok n b (by omega) w
  have H3 := hide fun w => set_ok (setF fl 64 (n == 0)) 128 (sgn n b.toNat) (by decide) b1 w
  have H4 := hide (even_ok n)
  have H5 := hide fun w => set_ok (setF (setF fl 64 (n == 0)) 128 (sgn n b.toNat)) 4 (evenB n) (by decide) b2 w
  simp only [Int.reduceToNat] at H1 H3 H5
  clear b1 b2 hf hb
  unfold byF
  generalize setF (setF (setF fl 64 (n == 0)) 128 (sgn n b.toNat)) 4 (evenB n) = v3 at *
  generalize setF (setF fl 64 (n == 0)) 128 (sgn n b.toNat) = v2 at *
  generalize setF fl 64 (n == 0) = v1 at *
  generalize sgn n b.toNat = s at *
  generalize evenB n = ev at *
  generalize (n == 0) = z at *
  go_enter Try.func28, Try.ntmps28
  go_wp2_with fail
  refine (H1.out _).mono ?_
  rintro e w' ⟨rfl, rfl⟩
  go_wp2_with fail
  refine (H2.out _).mono ?_
  rintro e w' ⟨rfl, rfl⟩
  go_wp2_with fail
  refine (H3.out _).mono ?_
  rintro e w' ⟨rfl, rfl⟩
  go_wp2_with fail
  refine (H4.out _).mono ?_
  rintro e w' ⟨rfl, rfl⟩
  go_wp2_with fail
  refine (H5.out _).mono ?_
  rintro e w' ⟨rfl, rfl⟩
  go_wp2
  go_ret
  exact ⟨rfl, rfl⟩
end Go.Proofs.Ytfjjipkieecpcaa
