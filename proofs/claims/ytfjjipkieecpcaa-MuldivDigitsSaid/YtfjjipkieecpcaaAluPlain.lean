/- Sums, differences and logic in plain numbers; flags put together out of their bits. -/
import Derived.Test.YtfjjipkieecpcaaPlain
namespace Go.Proofs.Ytfjjipkieecpcaa.Pl

theorem setF1 (fl : Nat) (c : Bool) (i : Nat) : (setF fl 1 c).testBit i = if i = 0 then c else fl.testBit i := setF_bit fl 0 c i
theorem setF4 (fl : Nat) (c : Bool) (i : Nat) : (setF fl 4 c).testBit i = if i = 2 then c else fl.testBit i := setF_bit fl 2 c i
theorem setF16 (fl : Nat) (c : Bool) (i : Nat) : (setF fl 16 c).testBit i = if i = 4 then c else fl.testBit i := setF_bit fl 4 c i
theorem setF64 (fl : Nat) (c : Bool) (i : Nat) : (setF fl 64 c).testBit i = if i = 6 then c else fl.testBit i := setF_bit fl 6 c i
theorem setF128 (fl : Nat) (c : Bool) (i : Nat) : (setF fl 128 c).testBit i = if i = 7 then c else fl.testBit i := setF_bit fl 7 c i
theorem setF2048 (fl : Nat) (c : Bool) (i : Nat) : (setF fl 2048 c).testBit i = if i = 11 then c else fl.testBit i := setF_bit fl 11 c i
theorem lt1 {fl : Nat} (c : Bool) (h : fl < 4294967296) : setF fl 1 c < 4294967296 := setF_lt fl 0 c (by decide) h
theorem lt4 {fl : Nat} (c : Bool) (h : fl < 4294967296) : setF fl 4 c < 4294967296 := setF_lt fl 2 c (by decide) h
theorem lt16 {fl : Nat} (c : Bool) (h : fl < 4294967296) : setF fl 16 c < 4294967296 := setF_lt fl 4 c (by decide) h
theorem lt64 {fl : Nat} (c : Bool) (h : fl < 4294967296) : setF fl 64 c < 4294967296 := setF_lt fl 6 c (by decide) h
theorem lt128 {fl : Nat} (c : Bool) (h : fl < 4294967296) : setF fl 128 c < 4294967296 := setF_lt fl 7 c (by decide) h
theorem lt2048 {fl : Nat} (c : Bool) (h : fl < 4294967296) : setF fl 2048 c < 4294967296 := setF_lt fl 11 c (by decide) h

/-- a flag, if something is so -/
def put (k : Nat) (c : Bool) : Nat := if c then k else 0
theorem put_bit0 (k : Nat) (c : Bool) (i : Nat) : (put (2 ^ k) c).testBit i = (c && decide (i = k)) := by
  unfold put
  cases c
  · simp
  · simp [Nat.testBit_two_pow, eq_comm]
theorem put1 (c : Bool) (i : Nat) : (put 1 c).testBit i = (c && decide (i = 0)) := put_bit0 0 c i
theorem put4 (c : Bool) (i : Nat) : (put 4 c).testBit i = (c && decide (i = 2)) := put_bit0 2 c i
theorem put16 (c : Bool) (i : Nat) : (put 16 c).testBit i = (c && decide (i = 4)) := put_bit0 4 c i
theorem put64 (c : Bool) (i : Nat) : (put 64 c).testBit i = (c && decide (i = 6)) := put_bit0 6 c i
theorem put128 (c : Bool) (i : Nat) : (put 128 c).testBit i = (c && decide (i = 7)) := put_bit0 7 c i
theorem put2048 (c : Bool) (i : Nat) : (put 2048 c).testBit i = (c && decide (i = 11)) := put_bit0 11 c i

theorem mask6 (i : Nat) : (2261 : Nat).testBit i = (decide (i = 0) || decide (i = 2) || decide (i = 4) || decide (i = 6) || decide (i = 7) || decide (i = 11)) := by
  rw [show (2261 : Nat) = put 1 true ||| put 4 true ||| put 16 true ||| put 64 true ||| put 128 true ||| put 2048 true from rfl]
  simp only [Nat.testBit_or, put1, put4, put16, put64, put128, put2048, Bool.true_and]
theorem mask3 (i : Nat) : (196 : Nat).testBit i = (decide (i = 2) || decide (i = 6) || decide (i = 7)) := by
  rw [show (196 : Nat) = put 4 true ||| put 64 true ||| put 128 true from rfl]
  simp only [Nat.testBit_or, put4, put64, put128, Bool.true_and]

/-- ZF, SF and PF by a value of b bits -/
def byB (n b : Nat) : Nat := (put 64 (n == 0) ||| put 128 (sgn n b)) ||| put 4 (evenB n)
theorem byB_lt (n b : Nat) : byB n b < 4294967296 := by
  unfold byB put
  have h1 : (if (n == 0) = true then 64 else 0) < 2 ^ 32 := by split <;> decide
  have h2 : (if sgn n b = true then 128 else 0) < 2 ^ 32 := by split <;> decide
  have h3 : (if evenB n = true then 4 else 0) < 2 ^ 32 := by split <;> decide
  exact Nat.or_lt_two_pow (Nat.or_lt_two_pow h1 h2) h3

theorem asm6 (fl n b : Nat) (c a o : Bool) (hf : fl < 4294967296) :
    ((fl &&& (4294967295 - 2261)) ||| ((put 1 c ||| put 2048 o) ||| put 16 a)) ||| byB n b = byF n b (setF (setF (setF fl 1 c) 16 a) 2048 o) := by
  apply Nat.eq_of_testBit_eq
  intro i
  unfold byB byF
  simp only [Nat.testBit_or, andNot_bit _ _ _ hf (by decide : (2261 : Nat) < 4294967296), mask6, put1, put4, put16, put64, put128, put2048, setF1, setF4, setF16, setF64, setF128, setF2048]
  by_cases h0 : i = 0
  · subst h0; simp
  by_cases h2 : i = 2
  · subst h2; simp
  by_cases h4 : i = 4
  · subst h4; simp
  by_cases h6 : i = 6
  · subst h6; simp
  by_cases h7 : i = 7
  · subst h7; simp
  by_cases h11 : i = 11
  · subst h11; simp
  simp [h0, h2, h4, h6, h7, h11]
theorem asm0 (fl n b : Nat) (hf : fl < 4294967296) :
    (fl &&& (4294967295 - 2261)) ||| byB n b = byF n b (setF (setF (setF fl 1 false) 2048 false) 16 false) := by
  have h := asm6 fl n b false false false hf
  have e : setF (setF (setF fl 1 false) 16 false) 2048 false = setF (setF (setF fl 1 false) 2048 false) 16 false := by
    apply Nat.eq_of_testBit_eq
    intro i
    simp only [setF1, setF16, setF2048]
    by_cases h4 : i = 4
    · subst h4; simp
    · simp [h4]
  rw [e] at h
  rw [← h]
  congr 1
  unfold put
  simp
theorem asm3 (fl n b : Nat) (hf : fl < 4294967296) : (fl &&& (4294967295 - 196)) ||| byB n b = byF n b fl := by
  apply Nat.eq_of_testBit_eq
  intro i
  unfold byB byF
  simp only [Nat.testBit_or, andNot_bit _ _ _ hf (by decide : (196 : Nat) < 4294967296), mask3, put4, put64, put128, setF4, setF64, setF128]
  by_cases h2 : i = 2
  · subst h2; simp
  by_cases h6 : i = 6
  · subst h6; simp
  by_cases h7 : i = 7
  · subst h7; simp
  simp [h2, h6, h7]

theorem byF_lt (n b fl : Nat) (h : fl < 4294967296) : byF n b fl < 4294967296 := lt4 _ (lt128 _ (lt64 _ h))

def addR (b x y c : Nat) : Nat := (x + y + c) % 2 ^ b
def addF (b x y c fl : Nat) : Nat :=
  byF (addR b x y c) b (setF (setF (setF fl 1 (x + y + c != addR b x y c)) 16 (decide (15 < x % 16 + y % 16 + c))) 2048 (sgn x b == sgn y b && sgn (addR b x y c) b != sgn x b))
def subR (b x y c : Nat) : Nat := (x + 2 ^ (b + 1) - y - c) % 2 ^ b
def subF (b x y c fl : Nat) : Nat :=
  byF (subR b x y c) b (setF (setF (setF fl 1 (decide (x < y + c))) 16 (decide (x % 16 < y % 16 + c))) 2048 (sgn x b != sgn y b && sgn (subR b x y c) b == sgn y b))
def logF (b r fl : Nat) : Nat := byF r b (setF (setF (setF fl 1 false) 2048 false) 16 false)
def keepF (fl was : Nat) : Nat := setF fl 1 (hasF was 1)

theorem addF_lt (b x y c fl : Nat) (h : fl < 4294967296) : addF b x y c fl < 4294967296 := byF_lt _ _ _ (lt2048 _ (lt16 _ (lt1 _ h)))
theorem subF_lt (b x y c fl : Nat) (h : fl < 4294967296) : subF b x y c fl < 4294967296 := byF_lt _ _ _ (lt2048 _ (lt16 _ (lt1 _ h)))
theorem logF_lt (b r fl : Nat) (h : fl < 4294967296) : logF b r fl < 4294967296 := byF_lt _ _ _ (lt16 _ (lt2048 _ (lt1 _ h)))

/-- the result of the operation op, of values x and y of b bits -/
def doR (op b x y fl : Nat) : Nat :=
  match op with
  | 0 => addR b x y 0
  | 1 => x ||| y
  | 2 => addR b x y (fl % 2)
  | 3 => subR b x y (fl % 2)
  | 4 => x &&& y
  | 5 => subR b x y 0
  | 6 => x ^^^ y
  | 7 => x
  | 8 => x
  | 9 => addR b x 1 0
  | 10 => subR b x 1 0
  | 11 => subR b 0 x 0
  | _ => 2 ^ b - 1 - x
/-- the flags behind it -/
def doF (op b x y fl : Nat) : Nat :=
  match op with
  | 0 => addF b x y 0 fl
  | 1 => logF b (x ||| y) fl
  | 2 => addF b x y (fl % 2) fl
  | 3 => subF b x y (fl % 2) fl
  | 4 => logF b (x &&& y) fl
  | 5 => subF b x y 0 fl
  | 6 => logF b (x ^^^ y) fl
  | 7 => subF b x y 0 fl
  | 8 => logF b (x &&& y) fl
  | 9 => keepF (addF b x 1 0 fl) fl
  | 10 => keepF (subF b x 1 0 fl) fl
  | 11 => subF b 0 x 0 fl
  | _ => fl

theorem xor_div (x y k : Nat) : (x ^^^ y) / 2 ^ k % 2 = (x / 2 ^ k + y / 2 ^ k) % 2 := by
  have h := Nat.testBit_xor x y k
  rw [Nat.testBit_eq_decide_div_mod_eq, Nat.testBit_eq_decide_div_mod_eq, Nat.testBit_eq_decide_div_mod_eq] at h
  generalize (x ^^^ y) / 2 ^ k = p at *
  generalize x / 2 ^ k = q at *
  generalize y / 2 ^ k = r at *
  rcases Nat.mod_two_eq_zero_or_one p with hp | hp <;> rcases Nat.mod_two_eq_zero_or_one q with hq | hq <;> rcases Nat.mod_two_eq_zero_or_one r with hr | hr <;> simp [hp, hq, hr] at h <;> omega
theorem and_div (x y k : Nat) : ((x &&& y) / 2 ^ k % 2 == 1) = ((x / 2 ^ k % 2 == 1) && (y / 2 ^ k % 2 == 1)) := by
  have h := Nat.testBit_and x y k
  rw [Nat.testBit_eq_decide_div_mod_eq, Nat.testBit_eq_decide_div_mod_eq, Nat.testBit_eq_decide_div_mod_eq] at h
  exact h
theorem xor_b (p q : Nat) : ((p + q) % 2 == 1) = ((p % 2 == 1) != (q % 2 == 1)) := by
  rcases Nat.mod_two_eq_zero_or_one p with hp | hp <;> rcases Nat.mod_two_eq_zero_or_one q with hq | hq <;> simp [hp, hq, Nat.add_mod]

/-- a bit times a flag -/
theorem bit_put (q k : Nat) : q % 2 * k = put k (q % 2 == 1) := by
  unfold put
  rcases Nat.mod_two_eq_zero_or_one q with h | h <;> simp [h]

theorem of_add (x y r b : Nat) : (((x ^^^ r) &&& (y ^^^ r)) / 2 ^ (b - 1) % 2 == 1) = (sgn x b == sgn y b && sgn r b != sgn x b) := by
  rw [and_div, xor_div, xor_div, xor_b, xor_b]
  unfold sgn
  generalize (x / 2 ^ (b - 1) % 2 == 1) = s
  generalize (y / 2 ^ (b - 1) % 2 == 1) = t
  generalize (r / 2 ^ (b - 1) % 2 == 1) = u
  revert s t u
  decide
theorem of_sub (x y r b : Nat) : (((x ^^^ y) &&& (x ^^^ r)) / 2 ^ (b - 1) % 2 == 1) = (sgn x b != sgn y b && sgn r b == sgn y b) := by
  rw [and_div, xor_div, xor_div, xor_b, xor_b]
  unfold sgn
  generalize (x / 2 ^ (b - 1) % 2 == 1) = s
  generalize (y / 2 ^ (b - 1) % 2 == 1) = t
  generalize (r / 2 ^ (b - 1) % 2 == 1) = u
  revert s t u
  decide
theorem af_any (x y r : Nat) : ((x ^^^ y) ^^^ r) &&& 16 = put 16 ((x / 16 + y / 16 + r / 16) % 2 == 1) := by
  have h := nat_bit 4 ((x ^^^ y) ^^^ r)
  rw [show (2 : Nat) ^ 4 = 16 from rfl] at h
  rw [h, bit_put]
  have h1 := xor_div (x ^^^ y) r 4
  have h2 := xor_div x y 4
  simp only [Nat.reducePow] at h1 h2
  congr 2
  omega
theorem af_add (x y c r : Nat) (h : r % 32 = (x + y + c) % 32) (hc : c ≤ 1) : ((x / 16 + y / 16 + r / 16) % 2 == 1) = decide (15 < x % 16 + y % 16 + c) := by
  rw [Bool.eq_iff_iff]
  simp only [beq_iff_eq, decide_eq_true_eq]
  omega
theorem af_sub (x y c r : Nat) (h : (r + y + c) % 32 = x % 32) (hc : c ≤ 1) : ((x / 16 + y / 16 + r / 16) % 2 == 1) = decide (x % 16 < y % 16 + c) := by
  rw [Bool.eq_iff_iff]
  simp only [beq_iff_eq, decide_eq_true_eq]
  omega
end Go.Proofs.Ytfjjipkieecpcaa.Pl
