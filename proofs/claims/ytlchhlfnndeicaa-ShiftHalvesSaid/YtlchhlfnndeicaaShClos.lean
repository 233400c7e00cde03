/- The program's shifts, one by one: the functions that works puts into its table. -/
import Derived.Test.YtlchhlfnndeicaaShFns
namespace Go.Proofs.Ytlchhlfnndeicaa
open Go.RowKit Pl

/-- how a shift ends: the result, and two numbers whose lowest bits are CF and OF -/
def Wk (op b x k c : Nat) (e : Ending) : Prop :=
  ∃ p q : Nat, e = .returned (.tuple #[.int .u64 ((shR op b x k c : Nat) : Int), .int .u64 (p : Int), .int .u64 (q : Int)]) ∧ p < 18446744073709551616 ∧ q < 18446744073709551616 ∧ (p % 2 == 1) = shC op b x k c ∧ (q % 2 == 1) = shO op b x k c

theorem low_xor (p q : Nat) (hp : p < 18446744073709551616) (hq : q < 18446744073709551616) : ∃ z : Nat, bits .xor .u64 (p : Int) (q : Int) = (z : Int) ∧ z < 18446744073709551616 ∧ (z % 2 == 1) = ((p % 2 == 1) != (q % 2 == 1)) := by
  refine ⟨p ^^^ q, u64_xor_nat _ _ hp hq, Nat.xor_lt_two_pow (n := 64) hp hq, ?_⟩
  have h := xor_div p q 0
  simp only [Nat.pow_zero, Nat.div_one] at h
  rw [h, xor_b]

theorem wk_xor {op b x k c : Nat} (R P Q S : Nat) {r p q s : Int} (hr : r = (R : Int)) (hp : p = (P : Int)) (hq : q = (Q : Int)) (hs : s = (S : Int)) (lp : P < 18446744073709551616) (lq : Q < 18446744073709551616) (ls : S < 18446744073709551616)
    (e1 : shR op b x k c = R) (eC : shC op b x k c = (P % 2 == 1)) (eO : shO op b x k c = ((Q % 2 == 1) != (S % 2 == 1))) : Wk op b x k c (.returned (.tuple #[.int .u64 r, .int .u64 p, .int .u64 (bits .xor .u64 q s)])) := by
  subst hr hp hq hs e1
  obtain ⟨z, hz, lz, ez⟩ := low_xor Q S lq ls
  exact ⟨P, z, by rw [hz], lp, lz, eC.symm, by rw [ez, eO]⟩
theorem wk_mk {op b x k c : Nat} (R P Q : Nat) {r p q : Int} (hr : r = (R : Int)) (hp : p = (P : Int)) (hq : q = (Q : Int)) (lp : P < 18446744073709551616) (lq : Q < 18446744073709551616)
    (e1 : shR op b x k c = R) (eC : shC op b x k c = (P % 2 == 1)) (eO : shO op b x k c = (Q % 2 == 1)) : Wk op b x k c (.returned (.tuple #[.int .u64 r, .int .u64 p, .int .u64 q])) := by
  subst hr hp hq e1
  exact ⟨P, Q, rfl, lp, lq, eC.symm, eO.symm⟩
theorem bit0_eq (n : Nat) : n.testBit 0 = (n % 2 == 1) := by
  rw [← bit_eq, Nat.pow_zero, Nat.div_one]

set_option maxHeartbeats 1000000 in
theorem rol_ok (b : Int) (x k c : Nat) (hb : b = 8 ∨ b = 16 ∨ b = 32) (hx : x < 2 ^ b.toNat) (hk : k < 32) (w : World) :
    Calls Try.prog 29 #[.int .u64 b, .int .u64 k, .int .u64 x, .int .u64 c] w fun e w' => Wk 0 b.toNat x k c e ∧ w = w' := by
  have V := fun w => turn_ok b x k (by omega) hx (by omega) w
  have hl : rotN x b.toNat (k % b.toNat) < 2 ^ b.toNat := rot_lt _ _ _ hx (Nat.le_of_lt (Nat.mod_lt _ (by omega)))
  have e1 : shR 0 b.toNat x k c = rotN x b.toNat (k % b.toNat) := rfl
  have e2 : shC 0 b.toNat x k c = (rotN x b.toNat (k % b.toNat)).testBit 0 := rfl
  have e3 : shO 0 b.toNat x k c = ((rotN x b.toNat (k % b.toNat)).testBit 0 != (rotN x b.toNat (k % b.toNat)).testBit (b.toNat - 1)) := rfl
  generalize rotN x b.toNat (k % b.toNat) = r at *
  rw [bit0_eq] at e2 e3
  rw [← bit_eq r (b.toNat - 1)] at e3
  obtain ⟨S, hS⟩ : ∃ S, S = r / 2 ^ (b.toNat - 1) := ⟨_, rfl⟩
  rw [← hS] at e3
  have V' := hide V
  have E1 := hide e1
  have E2 := hide e2
  have E3 := hide e3
  have ES := hide hS
  clear V e1 e2 e3 hx hk hS
  rcases hb with rfl | rfl | rfl
  all_goals
    simp only [Int.reduceToNat, Nat.reducePow, Nat.reduceSub] at hl ES
    go_enter Try.func29, Try.ntmps29
    go_wp2_with fail
    refine (V'.out _).mono ?_
    rintro e w' ⟨rfl, rfl⟩
    go_wp2
    go_ret3
    have hS := ES.out
    exact ⟨wk_xor r r r S rfl rfl rfl (by omega) (by omega) (by omega) (by omega) E1.out E2.out E3.out, rfl⟩

set_option maxHeartbeats 1000000 in
theorem ror_ok (b : Int) (x k c : Nat) (hb : b = 8 ∨ b = 16 ∨ b = 32) (hx : x < 2 ^ b.toNat) (w : World) :
    Calls Try.prog 31 #[.int .u64 b, .int .u64 k, .int .u64 x, .int .u64 c] w fun e w' => Wk 1 b.toNat x k c e ∧ w = w' := by
  have V : ∀ w, Calls Try.prog 30 #[.int .u64 b, .int .u64 (b - (k : Int) % b), .int .u64 x] w fun e w' => e = .returned (.int .u64 ((rotN x b.toNat ((b.toNat - k % b.toNat) % b.toNat) : Nat) : Int)) ∧ w = w' := by
    intro w
    have e : b - (k : Int) % b = ((b.toNat - k % b.toNat : Nat) : Int) := by
      rcases hb with rfl | rfl | rfl <;> (simp only [Int.reduceToNat]; omega)
    rw [e]
    exact turn_ok b x (b.toNat - k % b.toNat) (by omega) hx (by omega) w
  have hl : rotN x b.toNat ((b.toNat - k % b.toNat) % b.toNat) < 2 ^ b.toNat := rot_lt _ _ _ hx (Nat.le_of_lt (Nat.mod_lt _ (by omega)))
  have e1 : shR 1 b.toNat x k c = rotN x b.toNat ((b.toNat - k % b.toNat) % b.toNat) := rfl
  have e2 : shC 1 b.toNat x k c = (rotN x b.toNat ((b.toNat - k % b.toNat) % b.toNat)).testBit (b.toNat - 1) := rfl
  have e3 : shO 1 b.toNat x k c = ((rotN x b.toNat ((b.toNat - k % b.toNat) % b.toNat)).testBit (b.toNat - 1) != (rotN x b.toNat ((b.toNat - k % b.toNat) % b.toNat)).testBit (b.toNat - 2)) := rfl
  generalize rotN x b.toNat ((b.toNat - k % b.toNat) % b.toNat) = r at *
  rw [← bit_eq r (b.toNat - 1)] at e2 e3
  rw [← bit_eq r (b.toNat - 2)] at e3
  obtain ⟨P, hP⟩ : ∃ S, S = r / 2 ^ (b.toNat - 1) := ⟨_, rfl⟩
  obtain ⟨S, hS⟩ : ∃ S, S = r / 2 ^ (b.toNat - 2) := ⟨_, rfl⟩
  rw [← hP] at e2 e3
  rw [← hS] at e3
  have V' := hide V
  have E1 := hide e1
  have E2 := hide e2
  have E3 := hide e3
  have ES := hide hS
  have EP := hide hP
  clear V e1 e2 e3 hx hS hP
  rcases hb with rfl | rfl | rfl
  all_goals
    simp only [Int.reduceToNat, Nat.reducePow, Nat.reduceSub] at hl ES EP
    go_enter Try.func31, Try.ntmps31
    go_wp2_with fail
    refine (V'.out _).mono ?_
    rintro e w' ⟨rfl, rfl⟩
    go_wp2
    go_ret3
    have hS := ES.out
    have hP := EP.out
    exact ⟨wk_xor r P P S rfl (by omega) (by omega) (by omega) (by omega) (by omega) (by omega) E1.out E2.out E3.out, rfl⟩

theorem shr_ok (b : Int) (x k c : Nat) (hb : b = 8 ∨ b = 16 ∨ b = 32) (hx : x < 2 ^ b.toNat) (hk : k < 32) (hk0 : 0 < k) (w : World) :
    Calls Try.prog 34 #[.int .u64 b, .int .u64 k, .int .u64 x, .int .u64 c] w fun e w' => Wk 5 b.toNat x k c e ∧ w = w' := by
  have e1 : shR 5 b.toNat x k c = x / 2 ^ k := rfl
  have e2 : shC 5 b.toNat x k c = (x / 2 ^ (k - 1) % 2 == 1) := (bit_eq _ _).symm
  have e3 : shO 5 b.toNat x k c = (x / 2 ^ (b.toNat - 1) % 2 == 1) := (bit_eq _ _).symm
  have f1 := Nat.div_le_self x (2 ^ k)
  have f2 := Nat.div_le_self x (2 ^ (k - 1))
  have f3 := Nat.div_le_self x (2 ^ (b.toNat - 1))
  have E1 := hide e1
  have E2 := hide e2
  have E3 := hide e3
  have F2 := hide f2
  have F3 := hide f3
  clear e1 e2 e3 f1 f2 f3
  rcases hb with rfl | rfl | rfl
  all_goals
    simp only [Int.reduceToNat, Nat.reducePow, Nat.reduceSub] at hx E3 F3
    go_enter Try.func34, Try.ntmps34
    go_wp2
    go_ret3
    have h2 := F2.out
    have h3 := F3.out
    refine ⟨wk_mk _ _ _ ?_ ?_ ?_ (by omega) (by omega) E1.out E2.out E3.out, rfl⟩
    all_goals simp

set_option maxHeartbeats 1000000 in
theorem shl_ok (b : Int) (x k c : Nat) (hb : b = 8 ∨ b = 16 ∨ b = 32) (hx : x < 2 ^ b.toNat) (hk : k < 32) (w : World) :
    Calls Try.prog 28 #[.int .u64 b, .int .u64 k, .int .u64 x, .int .u64 c] w fun e w' => Wk 4 b.toNat x k c e ∧ w = w' := by
  have hl : x * 2 ^ k < 18446744073709551616 := by
    have h1 : x < 2 ^ 32 := Nat.lt_of_lt_of_le hx (Nat.pow_le_pow_right (by decide) (by omega))
    have h2 : 2 ^ k ≤ 2 ^ 31 := Nat.pow_le_pow_right (by decide) (by omega)
    have h3 : x * 2 ^ k ≤ x * 2 ^ 31 := Nat.mul_le_mul_left _ h2
    omega
  have V := fun w => shvalue_ok b ((x * 2 ^ k : Nat) : Int) (by omega) (by omega) (by omega) w
  have e0 : IntKind.u64.wrap ((x : Int) * 2 ^ k) = ((x * 2 ^ k : Nat) : Int) := by
    have h : (x : Int) * 2 ^ k = ((x * 2 ^ k : Nat) : Int) := by simp
    rw [h]
    have : ((x * 2 ^ k % 18446744073709551616 : Nat) : Int) = ((x * 2 ^ k : Nat) : Int) := by rw [Nat.mod_eq_of_lt hl]
    exact this
  have e1 : shR 4 b.toNat x k c = x * 2 ^ k % 2 ^ b.toNat := rfl
  have e2 : shC 4 b.toNat x k c = (x * 2 ^ k / 2 ^ b.toNat % 2 % 2 == 1) := by rw [Nat.mod_mod]; exact (bit_eq _ _).symm
  have e3 : shO 4 b.toNat x k c = ((x * 2 ^ k / 2 ^ b.toNat % 2 % 2 == 1) != (x * 2 ^ k % 2 ^ b.toNat / 2 ^ (b.toNat - 1) % 2 == 1)) := by
    rw [Nat.mod_mod, bit_eq, bit_eq]; rfl
  have hq : x * 2 ^ k / 2 ^ b.toNat < 18446744073709551616 := Nat.lt_of_le_of_lt (Nat.div_le_self _ _) hl
  have e4 := and1 (x * 2 ^ k / 2 ^ b.toNat) hq
  generalize x * 2 ^ k = wd at *
  have V' := hide V
  have E0 := hide e0
  have E1 := hide e1
  have E2 := hide e2
  have E3 := hide e3
  have E4 := hide e4
  clear V e0 e1 e2 e3 e4 hx hl hq
  rcases hb with rfl | rfl | rfl
  all_goals
    simp only [Int.reduceToNat, Nat.reducePow, Nat.reduceSub] at E1 E2 E3 E4
    go_enter Try.func28, Try.ntmps28
    go_wp2_with fail
    have e0 := E0.out
    rw [e0]
    refine (V'.out _).mono ?_
    rintro e w' ⟨rfl, rfl⟩
    go_wp2
    go_ret3
    have e4 := E4.out
    refine ⟨wk_xor _ _ _ _ ?_ ?_ ?_ ?_ ?_ ?_ ?_ E1.out E2.out E3.out, rfl⟩
    all_goals first | exact e4 | omega

theorem or_wide (x b c : Nat) (hx : x < 2 ^ b) (hb : b ≤ 32) (hc : c ≤ 1) (z : Int) (hz : z = ((c * 2 ^ b : Nat) : Int)) : bits .or .u64 (x : Int) z = ((wideN x b c : Nat) : Int) := by
  subst hz
  have h1 : 2 ^ b ≤ 2 ^ 32 := Nat.pow_le_pow_right (by decide) hb
  have h2 : c * 2 ^ b ≤ 2 ^ b := by
    rcases (by omega : c = 0 ∨ c = 1) with rfl | rfl <;> omega
  rw [u64_or_nat _ _ (by omega) (by omega), Nat.or_comm, Nat.mul_comm, ← Nat.two_pow_add_eq_or_of_lt hx]
  unfold wideN
  rw [Nat.add_comm, Nat.mul_comm]

theorem turn1_ok (b : Int) (x k c : Nat) (hb : b = 8 ∨ b = 16 ∨ b = 32) (hx : x < 2 ^ b.toNat) (hk : k < 64) (hc : c ≤ 1) (b1 q z y : Int) (h1 : b1 = b + 1) (hq : q = (k : Int)) (hy : y = ((c * 2 ^ b.toNat : Nat) : Int)) (hz : z = bits .or .u64 (x : Int) y) (w : World) :
    Calls Try.prog 30 #[.int .u64 b1, .int .u64 q, .int .u64 z] w fun e w' => e = .returned (.int .u64 ((rotN (wideN x b.toNat c) (b.toNat + 1) (k % (b.toNat + 1)) : Nat) : Int)) ∧ w = w' := by
  subst h1 hq hz
  rw [or_wide x b.toNat c hx (by omega) hc y hy]
  have e : (b + 1).toNat = b.toNat + 1 := by omega
  rw [← e]
  exact turn_ok (b + 1) (wideN x b.toNat c) k (by omega) (by rw [e]; exact wide_lt hx hc) hk w

set_option maxHeartbeats 1000000 in
theorem rcl_ok (b : Int) (x k c : Nat) (hb : b = 8 ∨ b = 16 ∨ b = 32) (hx : x < 2 ^ b.toNat) (hk : k < 32) (hc : c ≤ 1) (w : World) :
    Calls Try.prog 32 #[.int .u64 b, .int .u64 k, .int .u64 x, .int .u64 c] w fun e w' => Wk 2 b.toNat x k c e ∧ w = w' := by
  have V := hide fun b1 q z y h1 hq hy hz w => turn1_ok b x k c hb hx (by omega) hc b1 q z y h1 hq hy hz w
  have hl : rotN (wideN x b.toNat c) (b.toNat + 1) (k % (b.toNat + 1)) < 2 ^ (b.toNat + 1) := rot_lt _ _ _ (wide_lt hx hc) (Nat.le_of_lt (Nat.mod_lt _ (by omega)))
  have e1 : shR 2 b.toNat x k c = rotN (wideN x b.toNat c) (b.toNat + 1) (k % (b.toNat + 1)) % 2 ^ b.toNat := rfl
  have e2 : shC 2 b.toNat x k c = (rotN (wideN x b.toNat c) (b.toNat + 1) (k % (b.toNat + 1)) / 2 ^ b.toNat % 2 == 1) := (bit_eq _ _).symm
  have e3 : shO 2 b.toNat x k c = ((rotN (wideN x b.toNat c) (b.toNat + 1) (k % (b.toNat + 1)) / 2 ^ b.toNat % 2 == 1) != (rotN (wideN x b.toNat c) (b.toNat + 1) (k % (b.toNat + 1)) % 2 ^ b.toNat / 2 ^ (b.toNat - 1) % 2 == 1)) := by
    rw [bit_eq, bit_eq]; rfl
  generalize rotN (wideN x b.toNat c) (b.toNat + 1) (k % (b.toNat + 1)) = r at *
  have W := hide fun z h0 h1 w => shvalue_ok b z (by omega) h0 h1 w
  have E1 := hide e1
  have E2 := hide e2
  have E3 := hide e3
  clear e1 e2 e3 hx
  rcases hb with rfl | rfl | rfl
  all_goals
    simp only [Int.reduceToNat, Nat.reduceAdd, Nat.reducePow, Nat.reduceSub] at hl E1 E2 E3 V
    go_enter Try.func32, Try.ntmps32
    go_wp2_with fail
    refine (V.out _ _ _ _ (by omega) rfl (by omega) rfl _).mono ?_
    rintro e w' ⟨rfl, rfl⟩
    go_wp2_with fail
    refine (W.out _ (by omega) (by omega) _).mono ?_
    rintro e w' ⟨rfl, rfl⟩
    go_wp2
    go_ret3
    refine ⟨wk_xor _ _ _ _ ?_ ?_ ?_ ?_ ?_ ?_ ?_ E1.out E2.out E3.out, rfl⟩
    all_goals omega

set_option maxHeartbeats 1000000 in
theorem rcr_ok (b : Int) (x k c : Nat) (hb : b = 8 ∨ b = 16 ∨ b = 32) (hx : x < 2 ^ b.toNat) (hk : k < 32) (hc : c ≤ 1) (w : World) :
    Calls Try.prog 33 #[.int .u64 b, .int .u64 k, .int .u64 x, .int .u64 c] w fun e w' => Wk 3 b.toNat x k c e ∧ w = w' := by
  have V := hide fun b1 q z y h1 hq hy hz w => turn1_ok b x (b.toNat + 1 - k % (b.toNat + 1)) c hb hx (by omega) hc b1 q z y h1 hq hy hz w
  have hl : rotN (wideN x b.toNat c) (b.toNat + 1) ((b.toNat + 1 - k % (b.toNat + 1)) % (b.toNat + 1)) < 2 ^ (b.toNat + 1) := rot_lt _ _ _ (wide_lt hx hc) (Nat.le_of_lt (Nat.mod_lt _ (by omega)))
  have e1 : shR 3 b.toNat x k c = rotN (wideN x b.toNat c) (b.toNat + 1) ((b.toNat + 1 - k % (b.toNat + 1)) % (b.toNat + 1)) % 2 ^ b.toNat := rfl
  have e2 : shC 3 b.toNat x k c = (rotN (wideN x b.toNat c) (b.toNat + 1) ((b.toNat + 1 - k % (b.toNat + 1)) % (b.toNat + 1)) / 2 ^ b.toNat % 2 == 1) := (bit_eq _ _).symm
  have e3 : shO 3 b.toNat x k c = ((rotN (wideN x b.toNat c) (b.toNat + 1) ((b.toNat + 1 - k % (b.toNat + 1)) % (b.toNat + 1)) % 2 ^ b.toNat / 2 ^ (b.toNat - 1) % 2 == 1) != (rotN (wideN x b.toNat c) (b.toNat + 1) ((b.toNat + 1 - k % (b.toNat + 1)) % (b.toNat + 1)) % 2 ^ b.toNat / 2 ^ (b.toNat - 2) % 2 == 1)) := by
    rw [bit_eq, bit_eq]; rfl
  generalize rotN (wideN x b.toNat c) (b.toNat + 1) ((b.toNat + 1 - k % (b.toNat + 1)) % (b.toNat + 1)) = r at *
  have W := hide fun z h0 h1 w => shvalue_ok b z (by omega) h0 h1 w
  have E1 := hide e1
  have E2 := hide e2
  have E3 := hide e3
  clear e1 e2 e3 hx
  rcases hb with rfl | rfl | rfl
  all_goals
    simp only [Int.reduceToNat, Nat.reduceAdd, Nat.reducePow, Nat.reduceSub] at hl E1 E2 E3 V
    go_enter Try.func33, Try.ntmps33
    go_wp2_with fail
    refine (V.out _ _ _ _ (by omega) (by omega) (by omega) rfl _).mono ?_
    rintro e w' ⟨rfl, rfl⟩
    go_wp2_with fail
    refine (W.out _ (by omega) (by omega) _).mono ?_
    rintro e w' ⟨rfl, rfl⟩
    go_wp2
    go_ret3
    refine ⟨wk_xor _ _ _ _ ?_ ?_ ?_ ?_ ?_ ?_ ?_ E1.out E2.out E3.out, rfl⟩
    all_goals omega

theorem wide8 (x : Nat) (hx : x < 256) : wrap64 ((x : Int) * 72057594037927936) / 72057594037927936 = sZ x 8 := by
  unfold wrap64 sZ sgn
  simp only [Nat.reduceSub, Nat.reducePow, Int.reducePow]
  rcases (by omega : x / 128 % 2 = 0 ∨ x / 128 % 2 = 1) with h | h
  · rw [h]; simp; omega
  · rw [h]; simp; omega
theorem wide16 (x : Nat) (hx : x < 65536) : wrap64 ((x : Int) * 281474976710656) / 281474976710656 = sZ x 16 := by
  unfold wrap64 sZ sgn
  simp only [Nat.reduceSub, Nat.reducePow, Int.reducePow]
  rcases (by omega : x / 32768 % 2 = 0 ∨ x / 32768 % 2 = 1) with h | h
  · rw [h]; simp; omega
  · rw [h]; simp; omega
theorem wide32 (x : Nat) (hx : x < 4294967296) : wrap64 ((x : Int) * 4294967296) / 4294967296 = sZ x 32 := by
  unfold wrap64 sZ sgn
  simp only [Nat.reduceSub, Nat.reducePow, Int.reducePow]
  rcases (by omega : x / 2147483648 % 2 = 0 ∨ x / 2147483648 % 2 = 1) with h | h
  · rw [h]; simp; omega
  · rw [h]; simp; omega
theorem wrap_u64 (z : Int) : ∃ n : Nat, IntKind.u64.wrap z = (n : Int) ∧ n < 18446744073709551616 ∧ (n : Int) = z % 18446744073709551616 := by
  refine ⟨(z % 18446744073709551616).toNat, ?_, by omega, by omega⟩
  show z % 18446744073709551616 = _
  omega

set_option maxHeartbeats 1000000 in
theorem sar_ok (b : Int) (x k c : Nat) (hb : b = 8 ∨ b = 16 ∨ b = 32) (hx : x < 2 ^ b.toNat) (hk : k < 32) (hk0 : 0 < k) (w : World) :
    Calls Try.prog 35 #[.int .u64 b, .int .u64 k, .int .u64 x, .int .u64 c] w fun e w' => Wk 7 b.toNat x k c e ∧ w = w' := by
  have e1 : shR 7 b.toNat x k c = (sZ x b.toNat / 2 ^ k % 2 ^ b.toNat).toNat := rfl
  have e2 : shC 7 b.toNat x k c = (sZ x b.toNat / 2 ^ (k - 1) % 2 == 1) := rfl
  have e3 : shO 7 b.toNat x k c = false := rfl
  have w8 := wide8 x
  have w16 := wide16 x
  have w32 := wide32 x
  have W := hide fun z h0 h1 w => shvalue_ok b z (by omega) h0 h1 w
  have E1 := hide e1
  have E2 := hide e2
  have E3 := hide e3
  have W8 := hide w8
  have W16 := hide w16
  have W32 := hide w32
  clear e1 e2 e3 w8 w16 w32
  rcases hb with rfl | rfl | rfl
  all_goals
    simp only [Int.reduceToNat, Nat.reducePow, Int.reducePow] at hx E1 E2
    go_enter Try.func35, Try.ntmps35
    go_wp2_with fail
    first
      | (rw [W8.out (by omega)]
         generalize sZ x 8 = Z at *)
      | (rw [W16.out (by omega)]
         generalize sZ x 16 = Z at *)
      | (rw [W32.out (by omega)]
         generalize sZ x 32 = Z at *)
    obtain ⟨z1, hz1, l1, d1⟩ := wrap_u64 (Z / 2 ^ k)
    obtain ⟨z2, hz2, l2, d2⟩ := wrap_u64 (Z / 2 ^ (k - 1))
    rw [hz1]
    refine (W.out _ (by omega) (by omega) _).mono ?_
    rintro e w' ⟨rfl, rfl⟩
    go_wp2
    go_ret3
    refine ⟨wk_mk _ z2 0 ?_ (by first | exact hz2 | exact d2.symm | omega) rfl (by omega) (by omega) E1.out ?_ E3.out, rfl⟩
    · omega
    · refine E2.out.trans ?_
      rw [Bool.eq_iff_iff]
      simp only [beq_iff_eq]
      omega
end Go.Proofs.Ytlchhlfnndeicaa
