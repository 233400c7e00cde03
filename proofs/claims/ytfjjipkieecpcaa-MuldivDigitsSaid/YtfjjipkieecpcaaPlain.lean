/- Plain numbers, with no program in sight: the lowest bits of a number, its sign, flags set one by one, and how they show bit by bit. -/
import Derived.Laws.BitsAllLaws
namespace Go.Proofs.Ytfjjipkieecpcaa.Pl

theorem lt_top {x i : Nat} (hx : x < 4294967296) (hi : 32 ≤ i) : x.testBit i = false :=
  Nat.testBit_lt_two_pow (Nat.lt_of_lt_of_le hx (Nat.pow_le_pow_right (n := 2) (i := 32) (by decide) hi))

def cut (n b : Nat) : Nat := n % 2 ^ b
def sgn (n b : Nat) : Bool := n / 2 ^ (b - 1) % 2 == 1
def setF (fl k : Nat) (is : Bool) : Nat := fl - fl / k % 2 * k + (if is then k else 0)
def hasF (fl k : Nat) : Bool := fl / k % 2 == 1
def ones8 (n : Nat) : Nat := n % 2 + n / 2 % 2 + n / 4 % 2 + n / 8 % 2 + n / 16 % 2 + n / 32 % 2 + n / 64 % 2 + n / 128 % 2
def evenB (n : Nat) : Bool := ones8 n % 2 == 0
def byF (n b fl : Nat) : Nat := setF (setF (setF fl 64 (n == 0)) 128 (sgn n b)) 4 (evenB n)

theorem setF_eq (fl k : Nat) (is : Bool) : setF fl (2 ^ k) is = 2 ^ k * (2 * (fl / 2 ^ k / 2) + is.toNat) + fl % 2 ^ k := by
  unfold setF
  have h1 := Nat.div_add_mod fl (2 ^ k)
  have h2 := Nat.div_add_mod (fl / 2 ^ k) 2
  generalize 2 ^ k = P at *
  generalize fl / P = q at *
  generalize fl % P = m at *
  generalize q / 2 = h at *
  generalize q % 2 = b at *
  subst h2
  rw [Nat.mul_add] at h1
  have e : b * P = P * b := Nat.mul_comm _ _
  cases is
  · simp [e]; omega
  · simp [Nat.mul_add, e]; omega

theorem testBit_two_mul_add (h : Nat) (b : Bool) (j : Nat) : (2 * h + b.toNat).testBit j = if j = 0 then b else h.testBit (j - 1) := by
  cases j with
  | zero => cases b <;> simp [Nat.testBit_zero]
  | succ j =>
    rw [Nat.testBit_succ]
    have : (2 * h + b.toNat) / 2 = h := by cases b <;> simp <;> omega
    simp [this]

theorem setF_bit (fl k : Nat) (is : Bool) (i : Nat) : (setF fl (2 ^ k) is).testBit i = if i = k then is else fl.testBit i := by
  rw [setF_eq, Nat.testBit_two_pow_mul_add _ (Nat.mod_lt _ (Nat.two_pow_pos k)), testBit_two_mul_add]
  by_cases h1 : i < k
  · rw [if_pos h1, if_neg (by omega), Nat.testBit_mod_two_pow]; simp [h1]
  · rw [if_neg h1]
    by_cases h2 : i = k
    · subst h2; simp
    · rw [if_neg (by omega), if_neg h2, Nat.testBit_div_two, Nat.testBit_div_two_pow]
      congr 1; omega

theorem setF_lt (fl k : Nat) (is : Bool) (hk : k < 32) (h : fl < 4294967296) : setF fl (2 ^ k) is < 4294967296 := by
  rw [show 4294967296 = 2 ^ 32 from rfl] at *
  apply Nat.lt_pow_two_of_testBit
  intro i hi
  rw [setF_bit, if_neg (by omega)]
  exact Nat.testBit_lt_two_pow (Nat.lt_of_lt_of_le h (Nat.pow_le_pow_right (by decide) hi))

theorem hasF_bit (x k : Nat) : hasF x (2 ^ k) = x.testBit k := by
  unfold hasF
  rw [Nat.testBit_eq_decide_div_mod_eq, Bool.eq_iff_iff]
  simp

theorem andNot_bit (x m i : Nat) (hx : x < 4294967296) (hm : m < 4294967296) : (x &&& (4294967295 - m)).testBit i = (x.testBit i && !m.testBit i) := by
  rw [Nat.testBit_and, show 4294967295 - m = 2 ^ 32 - (m + 1) by omega, Nat.testBit_two_pow_sub_succ hm]
  by_cases h : i < 32
  · simp [h]
  · have : x.testBit i = false := Nat.testBit_lt_two_pow (Nat.lt_of_lt_of_le hx (Nat.pow_le_pow_right (n := 2) (i := 32) (by decide) (by omega)))
    simp [this]

theorem or_pow (x k : Nat) : x ||| 2 ^ k = setF x (2 ^ k) true := by
  apply Nat.eq_of_testBit_eq
  intro i
  rw [Nat.testBit_or, Nat.testBit_two_pow, setF_bit]
  by_cases h : i = k
  · subst h; simp
  · simp [h, Ne.symm h]

theorem xor_pow (x k : Nat) : x ^^^ 2 ^ k = setF x (2 ^ k) (!hasF x (2 ^ k)) := by
  apply Nat.eq_of_testBit_eq
  intro i
  rw [Nat.testBit_xor, Nat.testBit_two_pow, setF_bit, hasF_bit]
  by_cases h : i = k
  · subst h; simp
  · simp [h, Ne.symm h]

theorem andn_pow (x k : Nat) (hx : x < 4294967296) (hk : k < 32) : x &&& (4294967295 - 2 ^ k) = setF x (2 ^ k) false := by
  apply Nat.eq_of_testBit_eq
  intro i
  rw [andNot_bit _ _ _ hx (Nat.pow_lt_pow_right (by decide) hk), Nat.testBit_two_pow, setF_bit]
  by_cases h : i = k
  · subst h; simp
  · simp [h, Ne.symm h]

/-- one flag taken away, another put in its place -/
theorem put_bit (fl k : Nat) (b : Bool) (hf : fl < 4294967296) (hk : k < 32) : (fl &&& (4294967295 - 2 ^ k)) ||| (if b then 2 ^ k else 0) = setF fl (2 ^ k) b := by
  apply Nat.eq_of_testBit_eq
  intro i
  rw [Nat.testBit_or, andNot_bit _ _ _ hf (Nat.pow_lt_pow_right (by decide) hk), Nat.testBit_two_pow, setF_bit]
  by_cases h : i = k
  · subst h; cases b <;> simp
  · cases b <;> simp [h, Ne.symm h]

theorem put_low (fl y : Nat) (hf : fl < 4294967296) : (fl &&& 4294967294) ||| (y &&& 1) = setF fl 1 (y % 2 == 1) := by
  have h := put_bit fl 0 (y % 2 == 1) hf (by decide)
  rw [← h, Nat.and_one_is_mod]
  congr 1
  rcases (by omega : y % 2 = 0 ∨ y % 2 = 1) with e | e <;> simp [e]

end Go.Proofs.Ytfjjipkieecpcaa.Pl
