/- Magnitudes, in plain numbers. -/
import Derived.Test.YtfjjipkieecpcaaMdPlain
namespace Go.Proofs.Ytfjjipkieecpcaa.Pl
def magN (n b : Nat) : Nat := if sgn n b then 2 ^ b - n else n
def negN (n b : Nat) : Nat := (2 ^ b - n) % 2 ^ b
def wB2 (b : Nat) : Prop := b = 8 ∨ b = 16 ∨ b = 32 ∨ b = 64
theorem sgn_ge (n b : Nat) (hb : wB2 b) (hn : n < 2 ^ b) : sgn n b = decide (2 ^ (b - 1) ≤ n) := by
  unfold sgn
  rw [Bool.eq_iff_iff]
  rcases hb with rfl | rfl | rfl | rfl
  all_goals
    simp only [Nat.reducePow, Nat.reduceSub, beq_iff_eq, decide_eq_true_eq] at hn ⊢
    omega
theorem magN_le (n b : Nat) (hb : wB2 b) (hn : n < 2 ^ b) : magN n b ≤ 2 ^ (b - 1) := by
  unfold magN
  rw [sgn_ge n b hb hn]
  rcases hb with rfl | rfl | rfl | rfl
  all_goals
    simp only [Nat.reducePow, Nat.reduceSub, decide_eq_true_eq] at hn ⊢
    split <;> omega
theorem sZ_mag (n b : Nat) (hn : n < 2 ^ b) : sZ n b = if sgn n b then -(magN n b : Int) else (magN n b : Int) := by
  unfold sZ magN
  have e : ((2 ^ b : Nat) : Int) = 2 ^ b := by simp
  cases sgn n b
  · rfl
  · simp only [if_pos]
    omega
theorem smul_ref (b x y : Nat) (hb : wB b) (hx : x < 2 ^ b) (hy : y < 2 ^ b) :
    magN x b * magN y b ≤ 2 ^ (2 * b - 2) ∧ mulN true b x y = if sgn x b != sgn y b then negN (magN x b * magN y b) (2 * b) else magN x b * magN y b := by
  have hb2 : wB2 b := by unfold wB2; rcases hb with h | h | h <;> simp [h]
  have h1 := magN_le x b hb2 hx
  have h2 := magN_le y b hb2 hy
  have hR : magN x b * magN y b ≤ 2 ^ (2 * b - 2) := by
    have h := Nat.mul_le_mul h1 h2
    have e : 2 ^ (b - 1) * 2 ^ (b - 1) = 2 ^ (2 * b - 2) := by rw [← Nat.pow_add]; congr 1; omega
    rw [e] at h
    exact h
  refine ⟨hR, ?_⟩
  unfold mulN negN
  rw [if_pos rfl, sZ_mag x b hx, sZ_mag y b hy]
  have e1 : (magN x b : Int) * (magN y b : Int) = ((magN x b * magN y b : Nat) : Int) := by simp
  generalize magN x b * magN y b = R at *
  generalize (magN x b : Int) = P at *
  generalize (magN y b : Int) = Q at *
  cases sgn x b <;> cases sgn y b <;> simp only [Bool.false_eq_true, if_false, if_pos, bne_self_eq_false, Bool.true_bne, Bool.false_bne, Bool.not_false, Int.neg_mul, Int.mul_neg, e1]
  all_goals
    rcases hb with rfl | rfl | rfl
    all_goals
      simp only [Nat.reducePow, Nat.reduceMul, Nat.reduceSub, Int.reducePow] at hR ⊢
      omega
end Go.Proofs.Ytfjjipkieecpcaa.Pl
