/- What the program's inner functions of layer 1 answer: value, top, bit, by, and the flags of a result. -/
import Derived.Test.YtfjjipkieecpcaaRef
import Derived.Test.YtfjjipkieecpcaaAluPlain
import Derived.Lib.BitFns
namespace Go.Proofs.Ytfjjipkieecpcaa
open Go.RowKit Pl

theorem andm (z : Int) (k : Nat) (hk : k ≤ 32) (h0 : 0 ≤ z) (h1 : z < 4294967296) : bits .and .u32 z (((2 ^ k - 1 : Nat) : Int)) = ((z.toNat % 2 ^ k : Nat) : Int) := by
  obtain ⟨n, rfl⟩ := Int.eq_ofNat_of_zero_le h0
  have hp : 0 < 2 ^ k := Nat.two_pow_pos k
  have hb : 2 ^ k ≤ 4294967296 := Nat.pow_le_pow_right (n := 2) (by decide) hk
  rw [u32_and_nat _ _ (by omega) (by omega), Nat.and_two_pow_sub_one_eq_mod]
  rfl

theorem aluvalue_ok (s z : Int) (hs : s = 1 ∨ s = 2 ∨ s = 4) (h0 : 0 ≤ z) (h1 : z < 4294967296) (w : World) :
    Calls Try.prog 36 #[.int .i64 s, .int .u32 z] w fun e w' => e = .returned (.int .u32 ((z.toNat % 2 ^ (8 * s.toNat) : Nat) : Int)) ∧ w = w' := by
  have e8 := hide (andm z 8 (by decide) h0 h1)
  have e16 := hide (andm z 16 (by decide) h0 h1)
  have e32 := hide (andm z 32 (by decide) h0 h1)
  clear h0 h1
  rcases hs with rfl | rfl | rfl
  all_goals
    go_enter Try.func36, Try.ntmps36
    go_wp2
    go_ret
    first
      | exact ⟨ret_int e8.out, rfl⟩
      | exact ⟨ret_int e16.out, rfl⟩
      | exact ⟨ret_int e32.out, rfl⟩

theorem low_and (n : Nat) (q : Int) (p : Nat) (hq : q = (p : Int)) (hn : n < 4294967296) : bits .and .u32 ((n : Int) / q) 1 = ((n / p % 2 : Nat) : Int) := by
  subst hq
  have hd : n / p < 4294967296 := Nat.lt_of_le_of_lt (Nat.div_le_self _ _) hn
  rw [show (n : Int) / (p : Int) = ((n / p : Nat) : Int) by simp, show (1 : Int) = ((1 : Nat) : Int) from rfl, u32_and_nat _ _ hd (by decide), Nat.and_one_is_mod]

theorem alutop_ok (s : Int) (n : Nat) (hs : s = 1 ∨ s = 2 ∨ s = 4) (hn : n < 4294967296) (w : World) :
    Calls Try.prog 46 #[.int .i64 s, .int .u32 n] w fun e w' => e = .returned (.int .u32 ((n / 2 ^ (8 * s.toNat - 1) % 2 : Nat) : Int)) ∧ w = w' := by
  have e8 := hide (low_and n 128 128 rfl hn)
  have e16 := hide (low_and n 32768 32768 rfl hn)
  have e32 := hide (low_and n 2147483648 2147483648 rfl hn)
  clear hn
  rcases hs with rfl | rfl | rfl
  all_goals
    go_enter Try.func46, Try.ntmps46
    go_wp2
    go_ret
    first
      | exact ⟨ret_int e8.out, rfl⟩
      | exact ⟨ret_int e16.out, rfl⟩
      | exact ⟨ret_int e32.out, rfl⟩

theorem alubit_ok (k : Nat) (is : Bool) (w : World) : Calls Try.prog 45 #[.int .u32 k, .bool is] w fun e w' => e = .returned (.int .u32 ((put k is : Nat) : Int)) ∧ w = w' := by
  cases is
  all_goals
    go_enter Try.func45, Try.ntmps45
    go_wp2
    go_ret
    exact ⟨rfl, rfl⟩

set_option maxRecDepth 100000 in
theorem pop8tab_size : (Lib.pop8tab.size : Int) = 256 := by
  have : Lib.pop8tab.size = 256 := by decide
  omega
theorem pop8_ones : ∀ n : Fin 256, Lib.pop8 (n.val : Int) = (ones8 n.val : Int) := by decide +kernel
theorem ones8_le (n : Nat) : ones8 n ≤ 8 := by unfold ones8; omega
theorem ones8_mod (n : Nat) : ones8 (n % 256) = ones8 n := by
  unfold ones8
  omega

set_option maxRecDepth 100000 in
set_option maxHeartbeats 4000000 in
theorem ones_ok (x : Int) (h0 : 0 ≤ x) (h1 : x ≤ 255) (w : World) : Calls Try.prog 47 #[.int .u8 x] w fun e w' => e = .returned (.int .i64 ((ones8 x.toNat : Nat) : Int)) ∧ w = w' := by
  go_enter Try.func47, Try.ntmps47
  go_wp2
  all_goals first
    | (go_ret; refine ⟨ret_int ?_, rfl⟩)
    | (exfalso
       have hs := pop8tab_size
       omega)
  obtain ⟨n, rfl⟩ := Int.eq_ofNat_of_zero_le h0
  have e := pop8_ones ⟨n, by omega⟩
  have l := ones8_le n
  rw [show Lib.pop8 (n : Int) = ((ones8 n : Nat) : Int) from e]
  unfold wrap64
  show _ = ((ones8 n : Nat) : Int)
  omega

theorem byB_int (z1 t p : Nat) (h1 : z1 < 4294967296) (ht : t ≤ 1) (hp : p < 4294967296) (n b : Nat) (e1 : z1 = put 64 (n == 0)) (e2 : t * 128 = put 128 (sgn n b)) (e3 : p = put 4 (evenB n)) :
    bits .or .u32 (bits .or .u32 (z1 : Int) ((t : Int) * 128)) (p : Int) = ((byB n b : Nat) : Int) := by
  have h2 : t * 128 < 4294967296 := by omega
  rw [show (t : Int) * 128 = ((t * 128 : Nat) : Int) by simp, u32_or_nat _ _ h1 h2, u32_or_nat _ _ (Nat.or_lt_two_pow (n := 32) h1 h2) hp, e2, e1, e3]
  rfl

set_option maxHeartbeats 1000000 in
theorem aluby_ok (s : Int) (n : Nat) (hs : s = 1 ∨ s = 2 ∨ s = 4) (hn : n < 2 ^ (8 * s.toNat)) (w : World) :
    Calls Try.prog 35 #[.int .i64 s, .int .u32 n] w fun e w' => e = .returned (.int .u32 ((byB n (8 * s.toNat) : Nat) : Int)) ∧ w = w' := by
  have hn' : n < 4294967296 := Nat.lt_of_lt_of_le hn (by rcases hs with rfl | rfl | rfl <;> decide)
  have q1 : ((n : Int) == 0) = (n == 0) := by rw [Bool.eq_iff_iff]; simp
  have H1 := hide fun w => alubit_ok 64 (n == 0) w
  have H2 := hide fun w => alutop_ok s n hs hn' w
  have q2 : (((ones8 n : Nat) : Int) % 2 == 0) = evenB n := by
    unfold evenB
    rw [Bool.eq_iff_iff]
    simp only [beq_iff_eq]
    omega
  have H3 := hide fun w => ones_ok ((n : Int) % 256) (by omega) (by omega) w
  have H3' := hide fun (h : n < 256) w => ones_ok (n : Int) (by omega) (by omega) w
  rw [show ((n : Int) % 256).toNat = n % 256 by omega, ones8_mod] at H3
  rw [show ((n : Int)).toNat = n by omega] at H3'
  have H4 := hide fun w => alubit_ok 4 (evenB n) w
  have hz1 : put 64 (n == 0) < 4294967296 := by unfold put; split <;> decide
  have hp4 : put 4 (evenB n) < 4294967296 := by unfold put; split <;> decide
  have ht : n / 2 ^ (8 * s.toNat - 1) % 2 ≤ 1 := by omega
  have e2 : n / 2 ^ (8 * s.toNat - 1) % 2 * 128 = put 128 (sgn n (8 * s.toNat)) := bit_put _ _
  have KB := hide (byB_int _ _ _ hz1 ht hp4 n (8 * s.toNat) rfl e2 rfl)
  have hl := ones8_le n
  generalize n / 2 ^ (8 * s.toNat - 1) % 2 = t at *
  generalize put 4 (evenB n) = p4 at *
  generalize put 64 (n == 0) = z1 at *
  generalize byB n (8 * s.toNat) = r at *
  clear hz1 hp4 e2
  rcases hs with rfl | rfl | rfl
  · simp only [Int.reduceToNat, Nat.reduceMul, Nat.reducePow] at hn
    have H5 := hide (H3'.out hn)
    clear H3 H3'
    generalize ones8 n = o at *
    go_enter Try.func35, Try.ntmps35
    go_wp2_with fail
    refine (H1.out _).mono ?_
    rintro e w' ⟨rfl, rfl⟩
    go_wp2_with fail
    refine (H2.out _).mono ?_
    rintro e w' ⟨rfl, rfl⟩
    go_wp2_with fail
    refine (H5.out _).mono ?_
    rintro e w' ⟨rfl, rfl⟩
    go_wp2_with fail
    refine (H4.out _).mono ?_
    rintro e w' ⟨rfl, rfl⟩
    go_wp2
    go_ret
    exact ⟨ret_int KB.out, rfl⟩
  all_goals
    clear H3' hn
    generalize ones8 n = o at *
    go_enter Try.func35, Try.ntmps35
    go_wp2_with fail
    refine (H1.out _).mono ?_
    rintro e w' ⟨rfl, rfl⟩
    go_wp2_with fail
    refine (H2.out _).mono ?_
    rintro e w' ⟨rfl, rfl⟩
    go_wp2_with fail
    refine (H3.out _).mono ?_
    rintro e w' ⟨rfl, rfl⟩
    go_wp2_with fail
    refine (H4.out _).mono ?_
    rintro e w' ⟨rfl, rfl⟩
    go_wp2
    go_ret
    exact ⟨ret_int KB.out, rfl⟩
end Go.Proofs.Ytfjjipkieecpcaa
