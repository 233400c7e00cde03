/- Laws of turns and shifts, in plain numbers. -/
import Derived.Test.YtfjjipkieecpcaaShSpec
namespace Go.Proofs.Ytfjjipkieecpcaa.Pl

theorem rot_back (n b k : Nat) (hn : n < 2 ^ b) (hb : 0 < b) : rotN (rotN n b (k % b)) b ((b - k % b) % b) = n := by
  have hk : k % b < b := Nat.mod_lt _ hb
  rw [rot_rot n b _ _ hn hk (Nat.mod_lt _ hb)]
  have e : (k % b + (b - k % b) % b) % b = 0 := by
    rw [Nat.add_mod_mod]
    have : k % b + (b - k % b) = b := by omega
    rw [this, Nat.mod_self]
  rw [e, rot_zero n b hn]
theorem rot_back' (n b k : Nat) (hn : n < 2 ^ b) (hb : 0 < b) : rotN (rotN n b ((b - k % b) % b)) b (k % b) = n := by
  have hk : k % b < b := Nat.mod_lt _ hb
  rw [rot_rot n b _ _ hn (Nat.mod_lt _ hb) hk]
  have e : ((b - k % b) % b + k % b) % b = 0 := by
    rw [Nat.mod_add_mod]
    have : b - k % b + k % b = b := by omega
    rw [this, Nat.mod_self]
  rw [e, rot_zero n b hn]

/-- CF and a value taken apart, and put together again -/
theorem wide_again (w b c : Nat) (hw : w < 2 ^ (b + 1)) (hc : c = (w.testBit b).toNat) : wideN (w % 2 ^ b) b c = w := by
  unfold wideN
  rw [hc, ← bit_eq]
  have h1 : w / 2 ^ b < 2 := by
    rw [Nat.div_lt_iff_lt_mul (Nat.two_pow_pos _), ← Nat.pow_succ', Nat.succ_eq_add_one]
    exact hw
  have h2 := Nat.div_add_mod w (2 ^ b)
  generalize w / 2 ^ b = q at *
  rcases (by omega : q = 0 ∨ q = 1) with rfl | rfl <;> simp at h2 ⊢ <;> omega

theorem wide_low {x b c : Nat} (hx : x < 2 ^ b) : wideN x b c % 2 ^ b = x := by
  unfold wideN
  rw [Nat.add_mul_mod_self_right, Nat.mod_eq_of_lt hx]
theorem wide_high {x b c : Nat} (hx : x < 2 ^ b) (hc : c ≤ 1) : ((wideN x b c).testBit b).toNat = c := by
  rw [wide_bit hx, if_neg (by omega), Nat.sub_self]
  rcases (by omega : c = 0 ∨ c = 1) with rfl | rfl <;> rfl
theorem shF_low (op b x k fl : Nat) (_hf : fl < 4294967296) : (shF op b x k fl) % 2 = (shC op b x k (fl % 2)).toNat := by
  have h : (shF op b x k fl).testBit 0 = shC op b x k (fl % 2) := by
    unfold shF
    split
    · rw [setF2048, if_neg (by decide), setF1, if_pos rfl]
    · unfold byF
      rw [setF4, if_neg (by decide), setF128, if_neg (by decide), setF64, if_neg (by decide), setF2048, if_neg (by decide), setF1, if_pos rfl]
  rw [← h, ← bit_eq, Nat.pow_zero, Nat.div_one]
  rcases Nat.mod_two_eq_zero_or_one (shF op b x k fl) with e | e <;> simp [e]

/-- turned one way and back again, CF with it: result and CF as they were -/
theorem back_rcl (b x k fl : Nat) (hx : x < 2 ^ b) (hf : fl < 4294967296) :
    shDoR 3 b (shDoR 2 b x k fl) k (shDoF 2 b x k fl) = x ∧ (shDoF 3 b (shDoR 2 b x k fl) k (shDoF 2 b x k fl)) % 2 = fl % 2 := by
  unfold shDoR shDoF
  by_cases hk : k = 0
  · simp only [if_pos hk]; exact ⟨trivial, trivial⟩
  · simp only [if_neg hk]
    have hc : fl % 2 ≤ 1 := by omega
    have hw := wide_lt hx hc
    have e := shF_low 2 b x k fl hf
    have hr := rot_lt (wideN x b (fl % 2)) (b + 1) (k % (b + 1)) hw (Nat.le_of_lt (Nat.mod_lt _ (by omega)))
    have eW : wideN (shR 2 b x k (fl % 2)) b (shF 2 b x k fl % 2) = rotN (wideN x b (fl % 2)) (b + 1) (k % (b + 1)) := wide_again _ b _ hr e
    have eB : rotN (rotN (wideN x b (fl % 2)) (b + 1) (k % (b + 1))) (b + 1) ((b + 1 - k % (b + 1)) % (b + 1)) = wideN x b (fl % 2) := rot_back _ _ _ hw (by omega)
    have e1 : shR 3 b (shR 2 b x k (fl % 2)) k (shF 2 b x k fl % 2) = wideN x b (fl % 2) % 2 ^ b := by
      show rotN (wideN (shR 2 b x k (fl % 2)) b (shF 2 b x k fl % 2)) (b + 1) ((b + 1 - k % (b + 1)) % (b + 1)) % 2 ^ b = _
      rw [eW, eB]
    have e2 : shC 3 b (shR 2 b x k (fl % 2)) k (shF 2 b x k fl % 2) = (wideN x b (fl % 2)).testBit b := by
      show (rotN (wideN (shR 2 b x k (fl % 2)) b (shF 2 b x k fl % 2)) (b + 1) ((b + 1 - k % (b + 1)) % (b + 1))).testBit b = _
      rw [eW, eB]
    exact ⟨by rw [e1]; exact wide_low hx, by rw [shF_low 3 b _ k _ (shF_lt _ _ _ _ _ hf), e2]; exact wide_high hx hc⟩
theorem back_rcr (b x k fl : Nat) (hx : x < 2 ^ b) (hf : fl < 4294967296) :
    shDoR 2 b (shDoR 3 b x k fl) k (shDoF 3 b x k fl) = x ∧ (shDoF 2 b (shDoR 3 b x k fl) k (shDoF 3 b x k fl)) % 2 = fl % 2 := by
  unfold shDoR shDoF
  by_cases hk : k = 0
  · simp only [if_pos hk]; exact ⟨trivial, trivial⟩
  · simp only [if_neg hk]
    have hc : fl % 2 ≤ 1 := by omega
    have hw := wide_lt hx hc
    have e := shF_low 3 b x k fl hf
    have hr := rot_lt (wideN x b (fl % 2)) (b + 1) ((b + 1 - k % (b + 1)) % (b + 1)) hw (Nat.le_of_lt (Nat.mod_lt _ (by omega)))
    have eW : wideN (shR 3 b x k (fl % 2)) b (shF 3 b x k fl % 2) = rotN (wideN x b (fl % 2)) (b + 1) ((b + 1 - k % (b + 1)) % (b + 1)) := wide_again _ b _ hr e
    have eB : rotN (rotN (wideN x b (fl % 2)) (b + 1) ((b + 1 - k % (b + 1)) % (b + 1))) (b + 1) (k % (b + 1)) = wideN x b (fl % 2) := rot_back' _ _ _ hw (by omega)
    have e1 : shR 2 b (shR 3 b x k (fl % 2)) k (shF 3 b x k fl % 2) = wideN x b (fl % 2) % 2 ^ b := by
      show rotN (wideN (shR 3 b x k (fl % 2)) b (shF 3 b x k fl % 2)) (b + 1) (k % (b + 1)) % 2 ^ b = _
      rw [eW, eB]
    have e2 : shC 2 b (shR 3 b x k (fl % 2)) k (shF 3 b x k fl % 2) = (wideN x b (fl % 2)).testBit b := by
      show (rotN (wideN (shR 3 b x k (fl % 2)) b (shF 3 b x k fl % 2)) (b + 1) (k % (b + 1))).testBit b = _
      rw [eW, eB]
    exact ⟨by rw [e1]; exact wide_low hx, by rw [shF_low 2 b _ k _ (shF_lt _ _ _ _ _ hf), e2]; exact wide_high hx hc⟩
theorem back_rol (b x k fl fm : Nat) (hx : x < 2 ^ b) (hb : 0 < b) : shDoR 1 b (shDoR 0 b x k fl) k fm = x := by
  unfold shDoR
  by_cases hk : k = 0
  · simp only [if_pos hk]
  · simp only [if_neg hk]
    exact rot_back x b k hx hb
theorem back_ror (b x k fl fm : Nat) (hx : x < 2 ^ b) (hb : 0 < b) : shDoR 0 b (shDoR 1 b x k fl) k fm = x := by
  unfold shDoR
  by_cases hk : k = 0
  · simp only [if_pos hk]
  · simp only [if_neg hk]
    exact rot_back' x b k hx hb

def wB (b : Nat) : Prop := b = 8 ∨ b = 16 ∨ b = 32
theorem neg_add (b m n : Nat) (hb : wB b) : ((b - m % b) % b + (b - n % b) % b) % b = (b - (m + n) % b) % b := by
  rcases hb with rfl | rfl | rfl <;> omega
theorem neg_add1 (b m n : Nat) (hb : wB b) : ((b + 1 - m % (b + 1)) % (b + 1) + (b + 1 - n % (b + 1)) % (b + 1)) % (b + 1) = (b + 1 - (m + n) % (b + 1)) % (b + 1) := by
  rcases hb with rfl | rfl | rfl <;> omega
theorem shl_bit2 (x b k : Nat) : (x * 2 ^ k).testBit b = if k ≤ b then x.testBit (b - k) else false := by
  rw [Nat.testBit_mul_two_pow]
  by_cases h : k ≤ b
  · rw [if_pos h, decide_eq_true h, Bool.true_and]
  · rw [if_neg h, decide_eq_false h, Bool.false_and]
theorem sZ_range (x b : Nat) (hb : wB b) (hx : x < 2 ^ b) : -(2 ^ (b - 1) : Int) ≤ sZ x b ∧ sZ x b < 2 ^ (b - 1) := by
  unfold sZ sgn
  rcases hb with rfl | rfl | rfl
  all_goals
    simp only [Nat.reducePow, Nat.reduceSub, Int.reducePow] at hx ⊢
    split
    · rename_i h
      simp only [beq_iff_eq] at h
      omega
    · rename_i h
      simp only [beq_iff_eq] at h
      omega
theorem sZ_of (b : Nat) (V : Int) (hb : wB b) (h1 : -(2 ^ (b - 1) : Int) ≤ V) (h2 : V < 2 ^ (b - 1)) : sZ (V % 2 ^ b).toNat b = V := by
  unfold sZ sgn
  rcases hb with rfl | rfl | rfl
  all_goals
    simp only [Nat.reducePow, Nat.reduceSub, Int.reducePow] at h1 h2 ⊢
    split
    · rename_i h
      simp only [beq_iff_eq] at h
      omega
    · rename_i h
      simp only [beq_iff_eq] at h
      omega
theorem sZ_mod (x b : Nat) (hb : wB b) (hx : x < 2 ^ b) : (sZ x b % 2 ^ b).toNat = x := by
  unfold sZ
  rcases hb with rfl | rfl | rfl
  all_goals
    simp only [Nat.reducePow, Int.reducePow] at hx ⊢
    split <;> omega
theorem ediv_range (Z A : Int) (k : Nat) (h1 : -A ≤ Z) (h2 : Z < A) : -A ≤ Z / 2 ^ k ∧ Z / 2 ^ k < A := by
  have hp : (0 : Int) < 2 ^ k := Int.pow_pos (by decide)
  have h3 := Int.emod_nonneg Z (Int.ne_of_gt hp)
  have h4 := Int.emod_lt_of_pos Z hp
  have h5 := Int.mul_ediv_add_emod Z (2 ^ k)
  generalize Z / 2 ^ k = q at *
  generalize Z % 2 ^ k = r at *
  generalize (2 : Int) ^ k = P at *
  rcases (by omega : 0 ≤ q ∨ q < 0) with hq | hq
  · have : q ≤ P * q := by
      have := Int.mul_le_mul_of_nonneg_right (show (1 : Int) ≤ P by omega) hq
      omega
    omega
  · have : P * q ≤ q := by
      have := Int.mul_le_mul_of_nonpos_right (show (1 : Int) ≤ P by omega) (show q ≤ 0 by omega)
      omega
    have h6 : P * (q + 1) ≤ q + 1 := by
      have := Int.mul_le_mul_of_nonpos_right (show (1 : Int) ≤ P by omega) (show q + 1 ≤ 0 by omega)
      omega
    rw [Int.mul_add] at h6
    omega
theorem sar_sar (x b m : Nat) (hb : wB b) (hx : x < 2 ^ b) : sZ (sZ x b / 2 ^ m % 2 ^ b).toNat b = sZ x b / 2 ^ m := by
  have h := sZ_range x b hb hx
  have h2 := ediv_range (sZ x b) (2 ^ (b - 1)) m h.1 h.2
  exact sZ_of b _ hb h2.1 h2.2

/-- two shifts of one kind are one -/
theorem sums (op b x m n c : Nat) (hb : wB b) (hx : x < 2 ^ b) (hc : c ≤ 1) (hm : 0 < m) (hn : 0 < n) :
    shR op b (shR op b x m c) n (shC op b x m c).toNat = shR op b x (m + n) c ∧ shC op b (shR op b x m c) n (shC op b x m c).toNat = shC op b x (m + n) c := by
  have hb0 : 0 < b := by rcases hb with rfl | rfl | rfl <;> decide
  have hw := wide_lt hx hc
  rcases (by omega : op = 0 ∨ op = 1 ∨ op = 2 ∨ op = 3 ∨ op = 5 ∨ op = 7 ∨ (op ≠ 0 ∧ op ≠ 1 ∧ op ≠ 2 ∧ op ≠ 3 ∧ op ≠ 5 ∧ op ≠ 7)) with rfl | rfl | rfl | rfl | rfl | rfl | ho
  · have e : rotN (rotN x b (m % b)) b (n % b) = rotN x b ((m + n) % b) := by
      rw [rot_rot x b _ _ hx (Nat.mod_lt _ hb0) (Nat.mod_lt _ hb0), ← Nat.add_mod]
    exact ⟨e, by show (rotN (rotN x b (m % b)) b (n % b)).testBit 0 = (rotN x b ((m + n) % b)).testBit 0; rw [e]⟩
  · have e : rotN (rotN x b ((b - m % b) % b)) b ((b - n % b) % b) = rotN x b ((b - (m + n) % b) % b) := by
      rw [rot_rot x b _ _ hx (Nat.mod_lt _ hb0) (Nat.mod_lt _ hb0), neg_add b m n hb]
    exact ⟨e, by show (rotN (rotN x b ((b - m % b) % b)) b ((b - n % b) % b)).testBit (b - 1) = (rotN x b ((b - (m + n) % b) % b)).testBit (b - 1); rw [e]⟩
  · have hr := rot_lt (wideN x b c) (b + 1) (m % (b + 1)) hw (Nat.le_of_lt (Nat.mod_lt _ (by omega)))
    have eW : wideN (shR 2 b x m c) b (shC 2 b x m c).toNat = rotN (wideN x b c) (b + 1) (m % (b + 1)) := wide_again _ b _ hr rfl
    have e : rotN (wideN (shR 2 b x m c) b (shC 2 b x m c).toNat) (b + 1) (n % (b + 1)) = rotN (wideN x b c) (b + 1) ((m + n) % (b + 1)) := by
      rw [eW, rot_rot _ (b + 1) _ _ hw (Nat.mod_lt _ (by omega)) (Nat.mod_lt _ (by omega)), ← Nat.add_mod]
    exact ⟨by show rotN (wideN (shR 2 b x m c) b (shC 2 b x m c).toNat) (b + 1) (n % (b + 1)) % 2 ^ b = rotN (wideN x b c) (b + 1) ((m + n) % (b + 1)) % 2 ^ b; rw [e], by show (rotN (wideN (shR 2 b x m c) b (shC 2 b x m c).toNat) (b + 1) (n % (b + 1))).testBit b = (rotN (wideN x b c) (b + 1) ((m + n) % (b + 1))).testBit b; rw [e]⟩
  · have hr := rot_lt (wideN x b c) (b + 1) ((b + 1 - m % (b + 1)) % (b + 1)) hw (Nat.le_of_lt (Nat.mod_lt _ (by omega)))
    have eW : wideN (shR 3 b x m c) b (shC 3 b x m c).toNat = rotN (wideN x b c) (b + 1) ((b + 1 - m % (b + 1)) % (b + 1)) := wide_again _ b _ hr rfl
    have e : rotN (wideN (shR 3 b x m c) b (shC 3 b x m c).toNat) (b + 1) ((b + 1 - n % (b + 1)) % (b + 1)) = rotN (wideN x b c) (b + 1) ((b + 1 - (m + n) % (b + 1)) % (b + 1)) := by
      rw [eW, rot_rot _ (b + 1) _ _ hw (Nat.mod_lt _ (by omega)) (Nat.mod_lt _ (by omega)), neg_add1 b m n hb]
    exact ⟨by show rotN (wideN (shR 3 b x m c) b (shC 3 b x m c).toNat) (b + 1) ((b + 1 - n % (b + 1)) % (b + 1)) % 2 ^ b = rotN (wideN x b c) (b + 1) ((b + 1 - (m + n) % (b + 1)) % (b + 1)) % 2 ^ b; rw [e], by show (rotN (wideN (shR 3 b x m c) b (shC 3 b x m c).toNat) (b + 1) ((b + 1 - n % (b + 1)) % (b + 1))).testBit b = (rotN (wideN x b c) (b + 1) ((b + 1 - (m + n) % (b + 1)) % (b + 1))).testBit b; rw [e]⟩
  · refine ⟨?_, ?_⟩
    · show x / 2 ^ m / 2 ^ n = x / 2 ^ (m + n)
      rw [Nat.div_div_eq_div_mul, Nat.pow_add]
    · show (x / 2 ^ m).testBit (n - 1) = x.testBit (m + n - 1)
      rw [Nat.testBit_div_two_pow]
      congr 1; omega
  · have e := sar_sar x b m hb hx
    have hp : (2 : Int) ^ m * 2 ^ n = 2 ^ (m + n) := by rw [← Int.pow_add]
    have hp2 : (2 : Int) ^ m * 2 ^ (n - 1) = 2 ^ (m + n - 1) := by rw [← Int.pow_add]; congr 1; omega
    refine ⟨?_, ?_⟩
    · show (sZ (sZ x b / 2 ^ m % 2 ^ b).toNat b / 2 ^ n % 2 ^ b).toNat = (sZ x b / 2 ^ (m + n) % 2 ^ b).toNat
      rw [e, Int.ediv_ediv_of_nonneg (Int.le_of_lt (Int.pow_pos (by decide))), hp]
    · show (sZ (sZ x b / 2 ^ m % 2 ^ b).toNat b / 2 ^ (n - 1) % 2 == 1) = (sZ x b / 2 ^ (m + n - 1) % 2 == 1)
      rw [e, Int.ediv_ediv_of_nonneg (Int.le_of_lt (Int.pow_pos (by decide))), hp2]
  · have r1 : ∀ x k c, shR op b x k c = x * 2 ^ k % 2 ^ b := by
      intro x k c
      unfold shR
      split <;> first | rfl | omega
    have c1 : ∀ x k c, shC op b x k c = (x * 2 ^ k).testBit b := by
      intro x k c
      unfold shC
      split <;> first | rfl | omega
    rw [r1, r1, r1, c1, c1]
    refine ⟨?_, ?_⟩
    · rw [Nat.mod_mul_mod, Nat.mul_assoc, ← Nat.pow_add]
    · rw [shl_bit2, shl_bit2]
      by_cases h : n ≤ b
      · rw [if_pos h, Nat.testBit_mod_two_pow, decide_eq_true (by omega), Bool.true_and, shl_bit2]
        by_cases h2 : m ≤ b - n
        · rw [if_pos h2, if_pos (by omega)]; congr 1; omega
        · rw [if_neg h2, if_neg (by omega)]
      · rw [if_neg h, if_neg (by omega)]
theorem sums_do (op b x m n fl : Nat) (hb : wB b) (hx : x < 2 ^ b) (hf : fl < 4294967296) (hn : 0 < n) :
    shDoR op b (shDoR op b x m fl) n (shDoF op b x m fl) = shDoR op b x (m + n) fl ∧ (shDoF op b (shDoR op b x m fl) n (shDoF op b x m fl)) % 2 = shDoF op b x (m + n) fl % 2 := by
  unfold shDoR shDoF
  by_cases hm : m = 0
  · subst hm
    simp only [if_pos, Nat.zero_add]
    exact ⟨trivial, trivial⟩
  · have h := sums op b x m n (fl % 2) hb hx (by omega) (by omega) hn
    simp only [if_neg hm, if_neg (show ¬ n = 0 by omega), if_neg (show ¬ m + n = 0 by omega)]
    rw [shF_low op b x (m + n) fl hf, shF_low op b _ n _ (shF_lt _ _ _ _ _ hf), shF_low op b x m fl hf, h.1, h.2]
    exact ⟨rfl, rfl⟩
end Go.Proofs.Ytfjjipkieecpcaa.Pl
