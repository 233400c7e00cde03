/- The first bit of a number that is set, from below and from above: plain numbers alone. -/
import Derived.Test.YtdnnlfpahnbfmaaPlain
import Derived.Lib.BitFns
namespace Go.Proofs.Ytdnnlfpahnbfmaa.Pl

def lowF : Nat → Nat → Nat
  | 0, _ => 0
  | f + 1, x => if x % 2 = 1 then 0 else 1 + lowF f (x / 2)
def low (x : Nat) : Nat := lowF 32 x

theorem lowF_spec : ∀ (f x : Nat), x < 2 ^ f → x ≠ 0 → x / 2 ^ lowF f x % 2 = 1 ∧ x % 2 ^ lowF f x = 0 ∧ lowF f x < f
  | 0, x, h, h0 => by simp at h; omega
  | f + 1, x, h, h0 => by
    unfold lowF
    by_cases hb : x % 2 = 1
    · simp [hb]; omega
    · rw [if_neg hb]
      have h2 : x < 2 * 2 ^ f := by rw [Nat.pow_succ] at h; omega
      obtain ⟨i1, i2, i3⟩ := lowF_spec f (x / 2) (by omega) (by omega)
      refine ⟨?_, ?_, by omega⟩
      · rw [Nat.add_comm, Nat.pow_succ, Nat.mul_comm, ← Nat.div_div_eq_div_mul]; exact i1
      · rw [Nat.add_comm, Nat.pow_succ, Nat.mul_comm, Nat.mod_mul]
        simp [i2]; omega

theorem low_spec (x : Nat) (h : x < 4294967296) (h0 : x ≠ 0) : x / 2 ^ low x % 2 = 1 ∧ x % 2 ^ low x = 0 := by
  have := lowF_spec 32 x h h0
  exact ⟨this.1, this.2.1⟩
theorem low_lt (x b : Nat) (h : x < 4294967296) (h0 : x ≠ 0) (hb : x < 2 ^ b) : low x < b := by
  have h1 := (low_spec x h h0).1
  have h2 : 2 ^ low x ≤ x := by
    rcases Nat.lt_or_ge x (2 ^ low x) with hl | hl
    · rw [Nat.div_eq_of_lt hl] at h1; simp at h1
    · exact hl
  exact (Nat.pow_lt_pow_iff_right (a := 2) (by decide)).mp (Nat.lt_of_le_of_lt h2 hb)
theorem below_low (x k : Nat) (h : x < 4294967296) (h0 : x ≠ 0) (hk : k < low x) : x / 2 ^ k % 2 = 0 := by
  have h2 := (low_spec x h h0).2
  have h3 : (x % 2 ^ low x).testBit k = x.testBit k := by rw [Nat.testBit_mod_two_pow]; simp [hk]
  rw [h2, Nat.testBit_eq_decide_div_mod_eq, Nat.testBit_eq_decide_div_mod_eq] at h3
  simp at h3
  omega
theorem low_unique (x k : Nat) (h : x < 4294967296) (h0 : x ≠ 0) (h1 : x / 2 ^ k % 2 = 1) (h2 : x % 2 ^ k = 0) : k = low x := by
  rcases Nat.lt_trichotomy k (low x) with g | g | g
  · have := below_low x k h h0 g; omega
  · exact g
  · have h3 : (x % 2 ^ k).testBit (low x) = x.testBit (low x) := by rw [Nat.testBit_mod_two_pow]; simp [g]
    rw [h2, Nat.testBit_eq_decide_div_mod_eq, Nat.testBit_eq_decide_div_mod_eq, (low_spec x h h0).1] at h3
    simp at h3

theorem high_spec (x : Nat) (h0 : x ≠ 0) : 2 ^ Nat.log2 x ≤ x ∧ x < 2 ^ (Nat.log2 x + 1) := (Nat.log2_eq_iff h0).mp rfl
theorem high_lt (x b : Nat) (h0 : x ≠ 0) (h : x < 2 ^ b) : Nat.log2 x < b := (Nat.log2_lt h0).mpr h
theorem high_div (x : Nat) (h0 : x ≠ 0) : x / 2 ^ Nat.log2 x = 1 := by
  obtain ⟨h1, h2⟩ := high_spec x h0
  rw [Nat.pow_succ] at h2
  have hp : 0 < 2 ^ Nat.log2 x := Nat.two_pow_pos _
  exact Nat.div_eq_of_lt_le (by omega) (by omega)
theorem bitLen_high (x : Nat) (h0 : x ≠ 0) (h : x < 4294967296) : Lib.bitLen x = Nat.log2 x + 1 := by
  have h1 := Lib.bitLen_shift (Nat.log2 x) x (high_spec x h0).1 (Nat.lt_trans h (by decide))
  rw [high_div x h0] at h1
  have : Lib.bitLen 1 = 1 := by decide
  omega

/-- the highest of the lowest k bits that is set; 0 where there is none -/
def hiB (x k : Nat) : Nat := if x % 2 ^ k = 0 then 0 else Nat.log2 (x % 2 ^ k)
theorem hiB_zero (x : Nat) : hiB x 0 = 0 := by simp [hiB, Nat.mod_one]
theorem hiB_le (x k : Nat) : hiB x k ≤ k := by
  unfold hiB
  split
  · omega
  · exact Nat.le_of_lt (high_lt _ _ (by assumption) (Nat.mod_lt _ (Nat.two_pow_pos k)))
theorem hiB_succ (x k : Nat) : hiB x (k + 1) = if x / 2 ^ k % 2 = 1 then k else hiB x k := by
  have e : x % 2 ^ (k + 1) = x % 2 ^ k + 2 ^ k * (x / 2 ^ k % 2) := by rw [Nat.pow_succ, Nat.mod_mul]
  have hl : x % 2 ^ k < 2 ^ k := Nat.mod_lt _ (Nat.two_pow_pos k)
  by_cases h : x / 2 ^ k % 2 = 1
  · rw [if_pos h]
    unfold hiB
    rw [e, h, if_neg (by omega)]
    refine (Nat.log2_eq_iff (by omega)).mpr ⟨by omega, ?_⟩
    rw [Nat.pow_succ]; omega
  · rw [if_neg h]
    have h' : x / 2 ^ k % 2 = 0 := by omega
    unfold hiB
    rw [e, h', Nat.mul_zero, Nat.add_zero]
theorem hiB_all (x b : Nat) (h0 : x ≠ 0) (h : x < 2 ^ b) : hiB x b = Nat.log2 x := by
  unfold hiB
  rw [Nat.mod_eq_of_lt h, if_neg h0]

end Go.Proofs.Ytdnnlfpahnbfmaa.Pl
