/- Quotients, in plain numbers. -/
import Derived.Test.YtfjjipkieecpcaaMdPlain2
namespace Go.Proofs.Ytfjjipkieecpcaa.Pl
/-- is there a quotient of n, of two sizes, by d, and which; what is left -/
def divOk (sg : Bool) (b n d : Nat) : Bool :=
  if d = 0 then false
  else if sg then !(if sgn n (2 * b) == sgn d b then decide (2 ^ (b - 1) - 1 < magN n (2 * b) / magN d b) else decide (2 ^ (b - 1) < magN n (2 * b) / magN d b))
  else decide (n / d < 2 ^ b)
def divQ (sg : Bool) (b n d : Nat) : Nat :=
  if sg then (if sgn n (2 * b) == sgn d b then magN n (2 * b) / magN d b else negN (magN n (2 * b) / magN d b) b) else n / d
def divR (sg : Bool) (b n d : Nat) : Nat :=
  if sg then (if sgn n (2 * b) then negN (magN n (2 * b) % magN d b) b else magN n (2 * b) % magN d b) else n % d

theorem divOk_un (b n d M : Nat) (hM : M = 2 ^ b) (hd : d ≠ 0) : divOk false b n d = decide (n / d < M) := by
  subst hM
  unfold divOk
  rw [if_neg hd, if_neg (by decide)]
theorem divQ_un (b n d : Nat) : divQ false b n d = n / d := rfl
theorem divR_un (b n d : Nat) : divR false b n d = n % d := rfl
theorem divOk_sg (b c n d : Nat) (hc : c = 2 * b) (hd : d ≠ 0) : divOk true b n d = !(if sgn n c == sgn d b then decide (2 ^ (b - 1) - 1 < magN n c / magN d b) else decide (2 ^ (b - 1) < magN n c / magN d b)) := by
  subst hc
  unfold divOk
  rw [if_neg hd, if_pos rfl]
theorem divQ_sg (b c n d : Nat) (hc : c = 2 * b) : divQ true b n d = (if sgn n c == sgn d b then magN n c / magN d b else negN (magN n c / magN d b) b) := by
  subst hc
  rfl
theorem divR_sg (b c n d : Nat) (hc : c = 2 * b) : divR true b n d = (if sgn n c then negN (magN n c % magN d b) b else magN n c % magN d b) := by
  subst hc
  rfl
theorem mag_pos (d b : Nat) (hd : d < 2 ^ b) (h : d ≠ 0) : 0 < magN d b := by
  unfold magN
  split
  · omega
  · omega
theorem tdiv_mag (X Y : Int) (P Q : Nat) (s t : Bool) (hX : X = if s then -(P : Int) else (P : Int)) (hY : Y = if t then -(Q : Int) else (Q : Int)) :
    X.tdiv Y = (if s == t then ((P / Q : Nat) : Int) else -((P / Q : Nat) : Int)) ∧ X.tmod Y = (if s then -((P % Q : Nat) : Int) else ((P % Q : Nat) : Int)) := by
  have e1 : (P : Int).tdiv (Q : Int) = ((P / Q : Nat) : Int) := by rw [Int.ofNat_tdiv]
  have e2 : (P : Int).tmod (Q : Int) = ((P % Q : Nat) : Int) := by rw [Int.ofNat_tmod]
  subst hX hY
  cases s <;> cases t <;> simp [Int.neg_tdiv, Int.tdiv_neg, Int.neg_tmod, Int.tmod_neg, e1, e2]
theorem min_over (P Q b : Nat) (s t : Bool) (hb : b ≤ 32) (hP : P ≤ 2 ^ (2 * b - 1)) (h1 : (if t then -(Q : Int) else (Q : Int)) = -1) (h2 : (if s then -(P : Int) else (P : Int)) = -9223372036854775808) :
    (!(if s == t then decide (2 ^ (b - 1) - 1 < P / Q) else decide (2 ^ (b - 1) < P / Q))) = false := by
  have hs : s = true := by
    cases s
    · simp at h2
    · rfl
  have ht : t = true := by
    cases t
    · simp at h1
    · rfl
  subst hs ht
  simp only [if_true] at h1 h2
  have hQ : Q = 1 := by omega
  have hP2 : P = 9223372036854775808 := by omega
  subst hQ hP2
  have h3 : 2 ^ (b - 1) ≤ 2 ^ 31 := Nat.pow_le_pow_right (by decide) (by omega)
  simp
  omega
theorem sZ_top (N b : Nat) (hb : wB2 b) (h : N < 2 ^ b) : sZ N b ≤ 2 ^ (b - 1) - 1 ∧ -(2 ^ (b - 1) : Int) ≤ sZ N b := by
  unfold sZ sgn
  rcases hb with rfl | rfl | rfl | rfl
  all_goals
    simp only [Nat.reducePow, Nat.reduceSub, Int.reducePow, beq_iff_eq] at h ⊢
    split <;> omega
theorem div_wrap (P Q : Nat) (s t : Bool) (X Y V : Int) (hP : P ≤ 9223372036854775808) (hX : X = if s then -(P : Int) else (P : Int)) (hY : Y = if t then -(Q : Int) else (Q : Int))
    (hX2 : X ≤ 9223372036854775807) (hQ : 0 < Q) (hV : V = if s == t then ((P / Q : Nat) : Int) else -((P / Q : Nat) : Int)) (hn : ¬ (Y = -1 ∧ X = -9223372036854775808)) :
    -9223372036854775808 ≤ V ∧ V ≤ 9223372036854775807 := by
  have h1 : P / Q ≤ P := Nat.div_le_self _ _
  rcases Nat.lt_or_ge (P / Q) 9223372036854775808 with h | h
  · subst hV
    generalize P / Q = q at *
    split <;> omega
  · have hP2 : P = 9223372036854775808 := by omega
    have hQ2 : Q = 1 := by
      rcases (by omega : Q = 1 ∨ 2 ≤ Q) with h2 | h2
      · exact h2
      · have h3 : P / Q ≤ P / 2 := Nat.div_le_div_left h2 (by decide)
        omega
    subst hP2 hQ2
    cases s
    · simp at hX
      omega
    · cases t
      · subst hV
        decide
      · exact absurd ⟨hY, hX⟩ hn
/-- how the program tells a signed quotient -/
theorem sdiv_prog (b : Nat) (q r : Nat) (s t : Bool) (V W : Int) (M1 M2 : Nat) (hb : wB b) (hq : q ≤ 2 ^ (2 * b - 1)) (hr : r ≤ 2 ^ (b - 1))
    (hV : V = if s == t then (q : Int) else -(q : Int)) (hW : W = if s then -(r : Int) else (r : Int)) (h1 : (M1 : Int) = V % 18446744073709551616) (h2 : (M2 : Int) = W % 18446744073709551616) :
    (V != sZ (M1 % 4294967296 % 2 ^ b) b) = (if s == t then decide (2 ^ (b - 1) - 1 < q) else decide (2 ^ (b - 1) < q)) ∧
    ((V != sZ (M1 % 4294967296 % 2 ^ b) b) = false → M1 % 2 ^ b = (if s == t then q else negN q b)) ∧ M2 % 2 ^ b = (if s then negN r b else r) := by
  unfold sZ sgn negN
  cases hst : (s == t) <;> rw [hst] at hV <;> cases s <;> simp only [Bool.false_eq_true, if_false, if_true] at hV hW ⊢ <;> subst hV hW
  all_goals
    rcases hb with rfl | rfl | rfl
    all_goals
      simp only [Nat.reducePow, Nat.reduceSub, Nat.reduceMul, Int.reducePow] at hq hr ⊢
      refine ⟨?_, ?_, by omega⟩
      · rw [Bool.eq_iff_iff]
        simp only [bne_iff_ne, beq_iff_eq, decide_eq_true_eq]
        split <;> omega
      · simp only [bne_eq_false_iff_eq, beq_iff_eq]
        split <;> omega
end Go.Proofs.Ytfjjipkieecpcaa.Pl
