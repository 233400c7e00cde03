/- Values turned round and moved: plain numbers, told bit by bit. -/
import Derived.Test.YtfjjipkieecpcaaAluPlain
namespace Go.Proofs.Ytfjjipkieecpcaa.Pl

/-- a value of b bits, turned round to the left by c, at most b -/
def rotN (n b c : Nat) : Nat := 2 ^ c * (n % 2 ^ (b - c)) + n / 2 ^ (b - c)
/-- a value of b bits, turned round to the left by one -/
def leftN (n b : Nat) : Nat := n * 2 % 2 ^ b + n / 2 ^ (b - 1) % 2
def turnedN (n b : Nat) : Nat → Nat
  | 0 => n
  | k + 1 => leftN (turnedN n b k) b

theorem top_false {n b i : Nat} (hn : n < 2 ^ b) (hi : b ≤ i) : n.testBit i = false :=
  Nat.testBit_lt_two_pow (Nat.lt_of_lt_of_le hn (Nat.pow_le_pow_right (by decide) hi))

theorem div_lt_pow {n b c : Nat} (hn : n < 2 ^ b) (hc : c ≤ b) : n / 2 ^ (b - c) < 2 ^ c := by
  rw [Nat.div_lt_iff_lt_mul (Nat.two_pow_pos _), ← Nat.pow_add, show c + (b - c) = b by omega]
  exact hn

theorem rot_bit (n b c i : Nat) (hn : n < 2 ^ b) (hc : c ≤ b) :
    (rotN n b c).testBit i = if i < c then n.testBit (i + (b - c)) else if i < b then n.testBit (i - c) else false := by
  unfold rotN
  rw [Nat.testBit_two_pow_mul_add _ (div_lt_pow hn hc)]
  by_cases h : i < c
  · rw [if_pos h, if_pos h, Nat.testBit_div_two_pow, Nat.add_comm]
  · rw [if_neg h, if_neg h, Nat.testBit_mod_two_pow]
    by_cases h2 : i < b
    · rw [if_pos h2, decide_eq_true (by omega), Bool.true_and]
    · rw [if_neg h2, decide_eq_false (by omega), Bool.false_and]

theorem rot_lt (n b c : Nat) (hn : n < 2 ^ b) (hc : c ≤ b) : rotN n b c < 2 ^ b := by
  apply Nat.lt_pow_two_of_testBit
  intro i hi
  rw [rot_bit n b c i hn hc]
  by_cases h : i < c
  · omega
  · rw [if_neg h, if_neg (by omega)]

theorem rot_zero (n b : Nat) (hn : n < 2 ^ b) : rotN n b 0 = n := by
  apply Nat.eq_of_testBit_eq
  intro i
  rw [rot_bit n b 0 i hn (Nat.zero_le _), if_neg (by omega)]
  by_cases h : i < b
  · rw [if_pos h, Nat.sub_zero]
  · rw [if_neg h, top_false hn (by omega)]
theorem rot_all (n b : Nat) (hn : n < 2 ^ b) : rotN n b b = n := by
  apply Nat.eq_of_testBit_eq
  intro i
  rw [rot_bit n b b i hn (Nat.le_refl _)]
  by_cases h : i < b
  · rw [if_pos h, Nat.sub_self, Nat.add_zero]
  · rw [if_neg h, if_neg h, top_false hn (by omega)]

theorem left_bit (n b i : Nat) (hb : 0 < b) : (leftN n b).testBit i = if i = 0 then n.testBit (b - 1) else if i < b then n.testBit (i - 1) else false := by
  have e : leftN n b = 2 * (n % 2 ^ (b - 1)) + (n / 2 ^ (b - 1) % 2 == 1).toNat := by
    unfold leftN
    obtain ⟨d, rfl⟩ : ∃ d, b = d + 1 := ⟨b - 1, by omega⟩
    rw [show d + 1 - 1 = d by omega, Nat.pow_succ, Nat.mul_mod_mul_right, Nat.mul_comm 2]
    rcases Nat.mod_two_eq_zero_or_one (n / 2 ^ d) with h | h <;> simp [h]
  rw [e, testBit_two_mul_add]
  by_cases h : i = 0
  · rw [if_pos h, if_pos h, Nat.testBit_eq_decide_div_mod_eq, Bool.eq_iff_iff]
    simp
  · rw [if_neg h, if_neg h, Nat.testBit_mod_two_pow]
    by_cases h2 : i < b
    · rw [if_pos h2, decide_eq_true (by omega), Bool.true_and]
    · rw [if_neg h2, decide_eq_false (by omega), Bool.false_and]

theorem left_rot (n b c : Nat) (hn : n < 2 ^ b) (hc : c < b) : leftN (rotN n b c) b = rotN n b (c + 1) := by
  apply Nat.eq_of_testBit_eq
  intro i
  rw [left_bit _ _ _ (by omega), rot_bit n b (c + 1) i hn (by omega)]
  by_cases h0 : i = 0
  · subst h0
    rw [if_pos rfl, if_pos (by omega), rot_bit n b c _ hn (by omega), if_neg (by omega), if_pos (by omega)]
    congr 1; omega
  · rw [if_neg h0]
    by_cases h1 : i < b
    · rw [if_pos h1, rot_bit n b c _ hn (by omega)]
      by_cases h2 : i < c + 1
      · rw [if_pos h2, if_pos (by omega)]; congr 1; omega
      · rw [if_neg h2, if_neg (by omega), if_pos (by omega), if_pos h1]; congr 1; omega
    · rw [if_neg h1, if_neg (by omega), if_neg h1]

theorem turned_rot (n b k : Nat) (hn : n < 2 ^ b) (hb : 0 < b) : turnedN n b k = rotN n b (k % b) := by
  induction k with
  | zero => rw [Nat.zero_mod, rot_zero n b hn]; rfl
  | succ k ih =>
    show leftN (turnedN n b k) b = _
    have hk : k % b < b := Nat.mod_lt _ hb
    rw [ih, left_rot n b _ hn hk]
    by_cases h : k % b + 1 = b
    · rw [h, rot_all n b hn]
      have : (k + 1) % b = 0 := by rw [Nat.add_mod, ← Nat.mod_add_mod, Nat.mod_mod, ← Nat.add_mod]; rw [show (k + 1) % b = (k % b + 1) % b by rw [Nat.mod_add_mod], h, Nat.mod_self]
      rw [this, rot_zero n b hn]
    · have : (k + 1) % b = k % b + 1 := by rw [← Nat.mod_add_mod, Nat.mod_eq_of_lt (by omega)]
      rw [this]

/-- two turns are one -/
theorem rot_rot (n b c d : Nat) (hn : n < 2 ^ b) (hc : c < b) (hd : d < b) : rotN (rotN n b c) b d = rotN n b ((c + d) % b) := by
  have hr := rot_lt n b c hn (by omega)
  apply Nat.eq_of_testBit_eq
  intro i
  have hm : (c + d) % b < b := Nat.mod_lt _ (by omega)
  rw [rot_bit _ b d i hr (by omega), rot_bit n b _ i hn (by omega)]
  rcases Nat.lt_or_ge (c + d) b with h | h
  · rw [Nat.mod_eq_of_lt h]
    by_cases h1 : i < d
    · rw [if_pos h1, if_pos (by omega), rot_bit n b c _ hn (by omega), if_neg (by omega), if_pos (by omega)]; congr 1; omega
    · rw [if_neg h1]
      by_cases h2 : i < b
      · rw [if_pos h2, rot_bit n b c _ hn (by omega)]
        by_cases h3 : i - d < c
        · rw [if_pos h3, if_pos (by omega)]; congr 1; omega
        · rw [if_neg h3, if_pos (by omega), if_neg (by omega), if_pos h2]; congr 1; omega
      · rw [if_neg h2, if_neg (by omega), if_neg h2]
  · have e : (c + d) % b = c + d - b := by
      rw [Nat.mod_eq_sub_mod h, Nat.mod_eq_of_lt (by omega)]
    rw [e]
    by_cases h1 : i < d
    · rw [if_pos h1, rot_bit n b c _ hn (by omega)]
      by_cases h3 : i + (b - d) < c
      · rw [if_pos h3, if_pos (by omega)]; congr 1; omega
      · rw [if_neg h3, if_pos (by omega), if_neg (by omega), if_pos (by omega)]; congr 1; omega
    · rw [if_neg h1]
      by_cases h2 : i < b
      · rw [if_pos h2, rot_bit n b c _ hn (by omega), if_pos (by omega), if_neg (by omega), if_pos h2]; congr 1; omega
      · rw [if_neg h2, if_neg (by omega), if_neg h2]

/-- how the program turns -/
theorem turn_prog (n b c : Nat) (hn : n < 2 ^ b) (hc : c < b) (hb : b ≤ 64) : ((n * 2 ^ c % 2 ^ 64) ||| n / 2 ^ (b - c)) % 2 ^ b = rotN n b c := by
  apply Nat.eq_of_testBit_eq
  intro i
  rw [Nat.testBit_mod_two_pow, Nat.testBit_or, Nat.testBit_mod_two_pow, Nat.testBit_mul_two_pow, Nat.testBit_div_two_pow, rot_bit n b c i hn (by omega)]
  by_cases h1 : i < c
  · rw [if_pos h1, decide_eq_true (by omega : i < b)]
    simp [show ¬ c ≤ i by omega]
    try (congr 1; omega)
  · rw [if_neg h1]
    by_cases h2 : i < b
    · rw [if_pos h2]
      have e : n.testBit (i + (b - c)) = false := top_false hn (by omega)
      simp [show c ≤ i by omega, show i < 64 by omega, h2, e]
    · rw [if_neg h2]
      simp [h2]
end Go.Proofs.Ytfjjipkieecpcaa.Pl
