/- Sums of decimal digits, put right: in plain numbers. -/
import Derived.Test.YtfjjipkieecpcaaMdAdjP
namespace Go.Proofs.Ytfjjipkieecpcaa.Pl
set_option linter.unusedVariables false

theorem byF_low (n b fl : Nat) : byF n b fl % 2 = fl % 2 := by
  have h : (byF n b fl).testBit 0 = fl.testBit 0 := by
    unfold byF
    simp only [setF4, setF64, setF128]
    simp
  rw [Nat.testBit_zero, Nat.testBit_zero] at h
  have h2 := decide_eq_decide.mp h
  omega
theorem adjF_low (fl X : Nat) (c a : Bool) : (adjF fl X c a % 2 == 1) = c := by
  unfold adjF
  rw [byF_low]
  have h : (setF (setF (setF fl 1 c) 16 a) 2048 false).testBit 0 = c := by
    simp only [setF1, setF16, setF2048]
    simp
  rw [Nat.testBit_zero] at h
  generalize setF (setF (setF fl 1 c) 16 a) 2048 false = z at *
  refine Eq.trans ?_ h
  rw [Bool.eq_iff_iff]
  simp
theorem adjF_lt (fl X : Nat) (c a : Bool) (hf : fl < 4294967296) : adjF fl X c a < 4294967296 := byF_lt _ _ _ (lt2048 _ (lt16 _ (lt1 _ hf)))
theorem bcd_lo (a0 b0 a1 b1 r : Nat) (t1 : Bool) (h1 : a0 ≤ 9) (h2 : b0 ≤ 9) (h3 : a1 ≤ 9) (h4 : b1 ≤ 9) (hr : r = (a1 * 16 + a0 + (b1 * 16 + b0)) % 256) (ht : t1 = decide (15 < (a1 * 16 + a0) % 16 + (b1 * 16 + b0) % 16)) :
    loB r t1 = decide (9 < a0 + b0) := by
  unfold loB
  rw [ht, Bool.eq_iff_iff]
  simp only [Bool.or_eq_true, decide_eq_true_eq]
  omega
theorem bcd_hi (a0 b0 a1 b1 r : Nat) (t2 : Bool) (h1 : a0 ≤ 9) (h2 : b0 ≤ 9) (h3 : a1 ≤ 9) (h4 : b1 ≤ 9) (hr : r = (a1 * 16 + a0 + (b1 * 16 + b0)) % 256) (ht : t2 = decide (255 < a1 * 16 + a0 + (b1 * 16 + b0))) :
    hiB r t2 = decide (99 < a1 * 10 + a0 + (b1 * 10 + b0)) := by
  unfold hiB
  rw [ht, Bool.eq_iff_iff]
  simp only [Bool.or_eq_true, decide_eq_true_eq]
  omega
/-- the sum of two numbers of two decimal digits, put right, has the digits of their sum -/
theorem bcd (m n p q r : Nat) (t1 t2 : Bool) (hm : m < 100) (hn : n < 100) (hp : p = m / 10 * 16 + m % 10) (hq : q = n / 10 * 16 + n % 10) (hr : r = (p + q) % 256)
    (h1 : t1 = decide (15 < p % 16 + q % 16)) (h2 : t2 = decide (255 < p + q)) :
    pkA false r t2 t1 = (m + n) % 100 / 10 * 16 + (m + n) % 10 ∧ pkC false r t2 t1 = decide (99 < m + n) := by
  obtain ⟨a1, a0, em, l1, l0, ep⟩ : ∃ a1 a0, m = a1 * 10 + a0 ∧ a1 ≤ 9 ∧ a0 ≤ 9 ∧ p = a1 * 16 + a0 := ⟨m / 10, m % 10, by omega, by omega, by omega, hp⟩
  obtain ⟨b1, b0, en, k1, k0, eq⟩ : ∃ b1 b0, n = b1 * 10 + b0 ∧ b1 ≤ 9 ∧ b0 ≤ 9 ∧ q = b1 * 16 + b0 := ⟨n / 10, n % 10, by omega, by omega, by omega, hq⟩
  clear hp hq hm hn
  subst em en ep eq
  have el := bcd_lo a0 b0 a1 b1 r t1 l0 k0 l1 k1 hr h1
  have eh := bcd_hi a0 b0 a1 b1 r t2 l0 k0 l1 k1 hr h2
  clear h1 h2
  refine ⟨?_, ?_⟩
  · obtain ⟨c0, d0, t0, m0, n0⟩ : ∃ c0 d0, a0 + b0 = 10 * c0 + d0 ∧ d0 ≤ 9 ∧ (c0 = 0 ∨ c0 = 1) := ⟨(a0 + b0) / 10, (a0 + b0) % 10, by omega, by omega, by omega⟩
    obtain ⟨c1, d1, t1, m1, n1⟩ : ∃ c1 d1, a1 + b1 + c0 = 10 * c1 + d1 ∧ d1 ≤ 9 ∧ (c1 = 0 ∨ c1 = 1) := ⟨(a1 + b1 + c0) / 10, (a1 + b1 + c0) % 10, by omega, by omega, by omega⟩
    have es : a1 * 10 + a0 + (b1 * 10 + b0) = 100 * c1 + 10 * d1 + d0 := by omega
    have er : a1 * 16 + a0 + (b1 * 16 + b0) + 6 * c0 = 160 * c1 + 16 * d1 + d0 := by omega
    have e0 : decide (9 < a0 + b0) = decide (c0 = 1) := by
      rw [Bool.eq_iff_iff]
      simp only [decide_eq_true_eq]
      omega
    have e1 : decide (99 < a1 * 10 + a0 + (b1 * 10 + b0)) = decide (c1 = 1) := by
      rw [Bool.eq_iff_iff]
      simp only [decide_eq_true_eq]
      omega
    have f1 : (100 * c1 + 10 * d1 + d0) % 100 = 10 * d1 + d0 := by omega
    have f2 : (10 * d1 + d0) / 10 = d1 := by omega
    have f3 : (100 * c1 + 10 * d1 + d0) % 10 = d0 := by omega
    unfold pkA pkL
    rw [el, eh, e0, e1, es, f1, f2, f3]
    clear el eh e0 e1 es f1 f2 f3 l1 l0 k1 k0 t0 t1
    generalize a1 * 16 + a0 + (b1 * 16 + b0) = z at *
    rcases n0 with rfl | rfl <;> rcases n1 with rfl | rfl
    all_goals
      simp only [decide_true, if_true, if_false, Bool.false_eq_true, show decide ((0 : Nat) = 1) = false from rfl]
      omega
  · unfold pkC
    rw [eh]
    simp
/-- a number parted into two digits of a base, and put together again -/
theorem parted (v b : Nat) (hb : 0 < b) (hb2 : b < 256) (hv : v < 256) : (v % b % 256 + v / b % 256 * b) % 256 = v := by
  have h1 := Nat.mod_lt v hb
  have h2 := Nat.div_le_self v b
  rw [Nat.mod_eq_of_lt (show v % b < 256 by omega), Nat.mod_eq_of_lt (show v / b < 256 by omega), Nat.mul_comm, Nat.mod_add_div]
  exact Nat.mod_eq_of_lt hv
end Go.Proofs.Ytfjjipkieecpcaa.Pl
