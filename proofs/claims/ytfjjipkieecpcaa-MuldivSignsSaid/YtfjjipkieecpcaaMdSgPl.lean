/- Signed numbers of 32 bits: their products and quotients, in plain numbers. -/
import Derived.Test.YtfjjipkieecpcaaMdDivPlain
import Derived.RowKit
namespace Go.Proofs.Ytfjjipkieecpcaa.Pl
open Go.RowKit
set_option linter.unusedVariables false

theorem sZ_i32 {a : Int} {A : Nat} (ha : -2147483648 ≤ a ∧ a ≤ 2147483647) (e : (A : Int) = a % 4294967296) : sZ A 32 = a := by
  unfold sZ sgn
  simp only [Nat.reduceSub, Nat.reducePow, Int.reducePow, beq_iff_eq]
  split <;> omega
theorem sg_of {a : Int} {A : Nat} (ha : -2147483648 ≤ a ∧ a ≤ 2147483647) (e : (A : Int) = a % 4294967296) : sgn A 32 = decide (a < 0) ∧ magN A 32 = a.natAbs := by
  have h1 : sgn A 32 = decide (a < 0) := by
    unfold sgn
    simp only [Nat.reduceSub, Nat.reducePow]
    rw [Bool.eq_iff_iff]
    simp only [beq_iff_eq, decide_eq_true_eq]
    omega
  refine ⟨h1, ?_⟩
  unfold magN
  rw [h1]
  simp only [Nat.reducePow, decide_eq_true_eq]
  split <;> omega
theorem sg_of2 {a : Int} {A : Nat} (ha : -2147483648 ≤ a ∧ a ≤ 2147483647) (e : (A : Int) = a % 18446744073709551616) : sgn A 64 = decide (a < 0) ∧ magN A 64 = a.natAbs := by
  have h1 : sgn A 64 = decide (a < 0) := by
    unfold sgn
    simp only [Nat.reduceSub, Nat.reducePow]
    rw [Bool.eq_iff_iff]
    simp only [beq_iff_eq, decide_eq_true_eq]
    omega
  refine ⟨h1, ?_⟩
  unfold magN
  rw [h1]
  simp only [Nat.reducePow, decide_eq_true_eq]
  split <;> omega
theorem wide_of {a : Int} {A W : Nat} (ha : -2147483648 ≤ a ∧ a ≤ 2147483647) (e : (A : Int) = a % 4294967296) (eW : (W : Int) = a % 18446744073709551616 / 4294967296 % 4294967296) :
    ((W * 4294967296 + A : Nat) : Int) = a % 18446744073709551616 := by
  omega
/-- the product's halves, put together -/
theorem sprod (a b : Int) (A B N : Nat) (ha : -2147483648 ≤ a ∧ a ≤ 2147483647) (hb : -2147483648 ≤ b ∧ b ≤ 2147483647) (eA : (A : Int) = a % 4294967296) (eB : (B : Int) = b % 4294967296)
    (hN : N = mulN true 32 A B) : -4611686018427387904 ≤ a * b ∧ a * b ≤ 4611686018427387904 ∧ (N : Int) = a * b % 18446744073709551616 := by
  have h := prod_range a b 2147483648 (by decide) ha.1 (by omega) hb.1 (by omega)
  rw [show (2147483648 : Int) * 2147483648 = 4611686018427387904 by decide] at h
  refine ⟨h.1, h.2, ?_⟩
  subst hN
  have e : mulN true 32 A B = (sZ A 32 * sZ B 32 % 2 ^ (2 * 32)).toNat := rfl
  rw [e, sZ_i32 ha eA, sZ_i32 hb eB]
  generalize a * b = p at *
  simp only [Nat.reduceMul, Int.reducePow]
  omega
theorem halves_of (N M L H : Nat) (hM : 0 < M) (hL : L = N % M) (hH : H = N / M) : H * M + L = N := by
  subst hL hH
  rw [Nat.mul_comm]
  exact Nat.div_add_mod N M
theorem sg_arm (a b V W : Int) (s t : Bool) (P Q q r L : Nat) (hL : L = 2147483648) (hs : s = decide (a < 0)) (ht : t = decide (b < 0)) (hP : P = a.natAbs) (hQ : Q = b.natAbs) (hb0 : b ≠ 0)
    (ha : -2147483648 ≤ a ∧ a ≤ 2147483647) (hb : -2147483648 ≤ b ∧ b ≤ 2147483647)
    (hq : q ≤ P) (hq2 : q = L → Q = 1) (hq3 : Q = 1 → q = P) (hr : r < Q) (hV : V = if s == t then (q : Int) else -(q : Int)) (hW : W = if s then -(r : Int) else (r : Int)) :
    (b = -1 ∧ a = -2147483648) ∧ (!(if s == t then decide (L - 1 < q) else decide (L < q))) = false ∨
    (b ≠ -1 ∨ a ≠ -2147483648) ∧ (!(if s == t then decide (L - 1 < q) else decide (L < q))) = true ∧ wrap32 ((if s == t then q else negN q 32 : Nat) : Int) = V ∧ wrap32 ((if s then negN r 32 else r : Nat) : Int) = W := by
  have e1 : (s = true ∧ a < 0) ∨ (s = false ∧ 0 ≤ a) := by
    rcases (by omega : a < 0 ∨ 0 ≤ a) with h | h
    · exact .inl ⟨by rw [hs, decide_eq_true h], h⟩
    · exact .inr ⟨by rw [hs, decide_eq_false (by omega)], h⟩
  have e2 : (t = true ∧ b < 0) ∨ (t = false ∧ 0 ≤ b) := by
    rcases (by omega : b < 0 ∨ 0 ≤ b) with h | h
    · exact .inl ⟨by rw [ht, decide_eq_true h], h⟩
    · exact .inr ⟨by rw [ht, decide_eq_false (by omega)], h⟩
  clear hs ht
  by_cases hm : b = -1 ∧ a = -2147483648
  · left
    refine ⟨hm, ?_⟩
    rcases e1 with ⟨rfl, h1⟩ | ⟨rfl, h1⟩ <;> rcases e2 with ⟨rfl, h2⟩ | ⟨rfl, h2⟩
    · have : L - 1 < q := by omega
      simp [this]
    all_goals omega
  · right
    refine ⟨by omega, ?_, ?_, ?_⟩
    · rcases e1 with ⟨rfl, h1⟩ | ⟨rfl, h1⟩ <;> rcases e2 with ⟨rfl, h2⟩ | ⟨rfl, h2⟩
      · have : ¬ L - 1 < q := by omega
        simp [this]
      · have : ¬ L < q := by omega
        simp [this]
      · have : ¬ L < q := by omega
        simp [this]
      · have : ¬ L - 1 < q := by omega
        simp [this]
    · rw [hV]
      unfold negN wrap32
      rcases e1 with ⟨rfl, h1⟩ | ⟨rfl, h1⟩ <;> rcases e2 with ⟨rfl, h2⟩ | ⟨rfl, h2⟩ <;> simp only [beq_self_eq_true, if_true, Bool.true_beq, Bool.false_beq, Bool.not_true, Bool.false_eq_true, if_false, Nat.reducePow] <;> omega
    · rw [hW]
      unfold negN wrap32
      rcases e1 with ⟨rfl, h1⟩ | ⟨rfl, h1⟩ <;> simp only [if_true, Bool.false_eq_true, if_false, Nat.reducePow] <;> omega
/-- a signed quotient of a widened value -/
theorem sg_quo (a b : Int) (N D : Nat) (ha : -2147483648 ≤ a ∧ a ≤ 2147483647) (hb : -2147483648 ≤ b ∧ b ≤ 2147483647) (eN : (N : Int) = a % 18446744073709551616) (eD : (D : Int) = b % 4294967296) :
    (b = 0 ∨ b = -1 ∧ a = -2147483648) ∧ divOk true 32 N D = false ∨
    b ≠ 0 ∧ (b ≠ -1 ∨ a ≠ -2147483648) ∧ divOk true 32 N D = true ∧ wrap32 ((divQ true 32 N D : Nat) : Int) = a.tdiv b ∧ wrap32 ((divR true 32 N D : Nat) : Int) = a.tmod b := by
  by_cases hb0 : b = 0
  · left
    have hD : D = 0 := by omega
    subst hD
    exact ⟨.inl hb0, by simp [divOk]⟩
  · have hD : D ≠ 0 := by omega
    obtain ⟨s1, p1⟩ := sg_of2 ha eN
    obtain ⟨s2, p2⟩ := sg_of hb eD
    have tm := tdiv_mag a b (magN N 64) (magN D 32) (sgn N 64) (sgn D 32) (by rw [s1, p1]; simp only [decide_eq_true_eq]; split <;> omega) (by rw [s2, p2]; simp only [decide_eq_true_eq]; split <;> omega)
    have hQ0 : 0 < magN D 32 := by rw [p2]; omega
    have hP0 : magN N 64 ≤ 2147483648 := by rw [p1]; omega
    obtain ⟨L, hL, hLL⟩ : ∃ L : Nat, L = 2147483648 ∧ 2 ^ (32 - 1) = L := ⟨2147483648, rfl, by decide⟩
    have arm := sg_arm a b _ _ (sgn N 64) (sgn D 32) (magN N 64) (magN D 32) (magN N 64 / magN D 32) (magN N 64 % magN D 32) L hL s1 s2 p1 p2 hb0 ha hb (Nat.div_le_self _ _) (by
      intro h
      rcases (by omega : magN D 32 = 1 ∨ 2 ≤ magN D 32) with h2 | h2
      · exact h2
      · have h3 : magN N 64 / magN D 32 ≤ magN N 64 / 2 := Nat.div_le_div_left h2 (by decide)
        omega) (by
      intro h
      rw [h, Nat.div_one]) (Nat.mod_lt _ hQ0) tm.1 tm.2
    rw [divOk_sg 32 64 N D (by decide) hD, divQ_sg 32 64 N D (by decide), divR_sg 32 64 N D (by decide), hLL]
    rcases arm with ⟨h1, h2⟩ | ⟨h1, h2, h3, h4⟩
    · exact .inl ⟨.inr h1, h2⟩
    · exact .inr ⟨hb0, h1, h2, h3, h4⟩
theorem hi_lt {N : Nat} {p : Int} (e : (N : Int) = p % 18446744073709551616) : N / 4294967296 < 4294967296 := by omega
theorem wrap_prod {p : Int} {N L H : Nat} (h1 : -4611686018427387904 ≤ p) (h2 : p ≤ 4611686018427387904) (e : (N : Int) = p % 18446744073709551616) (hl : H * 4294967296 + L = N) :
    wrap64 ((H : Int) * 4294967296 + (L : Int)) = p ∧ wrap64 p = p ∧ wrap64 (-p) = -p := by
  unfold wrap64
  omega
theorem wrap32_again {z y : Int} (h : wrap32 z = y) : wrap32 y = y := by
  subst h
  unfold wrap32
  omega
end Go.Proofs.Ytfjjipkieecpcaa.Pl
