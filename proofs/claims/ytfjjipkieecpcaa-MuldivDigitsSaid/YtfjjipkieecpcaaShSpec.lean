/- What a shift or a rotation answers, in plain numbers; how its flags are put together. -/
import Derived.Test.YtfjjipkieecpcaaShPlain
namespace Go.Proofs.Ytfjjipkieecpcaa.Pl

/-- a value of b bits with the carry in front -/
def wideN (x b c : Nat) : Nat := x + c * 2 ^ b
theorem wide_lt {x b c : Nat} (hx : x < 2 ^ b) (hc : c ≤ 1) : wideN x b c < 2 ^ (b + 1) := by
  unfold wideN
  rw [Nat.pow_succ]
  rcases (by omega : c = 0 ∨ c = 1) with rfl | rfl <;> omega
theorem wide_bit {x b c : Nat} (hx : x < 2 ^ b) (i : Nat) : (wideN x b c).testBit i = if i < b then x.testBit i else c.testBit (i - b) := by
  unfold wideN
  rw [Nat.add_comm, Nat.mul_comm, Nat.testBit_two_pow_mul_add _ hx]

/-- a value of b bits, signed -/
def sZ (x b : Nat) : Int := if sgn x b then (x : Int) - 2 ^ b else x

def shR (op b x k c : Nat) : Nat :=
  match op with
  | 0 => rotN x b (k % b)
  | 1 => rotN x b ((b - k % b) % b)
  | 2 => rotN (wideN x b c) (b + 1) (k % (b + 1)) % 2 ^ b
  | 3 => rotN (wideN x b c) (b + 1) ((b + 1 - k % (b + 1)) % (b + 1)) % 2 ^ b
  | 5 => x / 2 ^ k
  | 7 => (sZ x b / 2 ^ k % 2 ^ b).toNat
  | _ => x * 2 ^ k % 2 ^ b
def shC (op b x k c : Nat) : Bool :=
  match op with
  | 0 => (rotN x b (k % b)).testBit 0
  | 1 => (rotN x b ((b - k % b) % b)).testBit (b - 1)
  | 2 => (rotN (wideN x b c) (b + 1) (k % (b + 1))).testBit b
  | 3 => (rotN (wideN x b c) (b + 1) ((b + 1 - k % (b + 1)) % (b + 1))).testBit b
  | 5 => x.testBit (k - 1)
  | 7 => sZ x b / 2 ^ (k - 1) % 2 == 1
  | _ => (x * 2 ^ k).testBit b
def shO (op b x k c : Nat) : Bool :=
  match op with
  | 0 => shC 0 b x k c != (shR 0 b x k c).testBit (b - 1)
  | 1 => (shR 1 b x k c).testBit (b - 1) != (shR 1 b x k c).testBit (b - 2)
  | 2 => shC 2 b x k c != (shR 2 b x k c).testBit (b - 1)
  | 3 => (shR 3 b x k c).testBit (b - 1) != (shR 3 b x k c).testBit (b - 2)
  | 5 => x.testBit (b - 1)
  | 7 => false
  | _ => (x * 2 ^ k).testBit b != (x * 2 ^ k % 2 ^ b).testBit (b - 1)
def shF (op b x k fl : Nat) : Nat :=
  if op < 4 then setF (setF fl 1 (shC op b x k (fl % 2))) 2048 (shO op b x k (fl % 2))
  else byF (shR op b x k (fl % 2)) b (setF (setF (setF fl 16 false) 1 (shC op b x k (fl % 2))) 2048 (shO op b x k (fl % 2)))

theorem shR_lt (op b x k c : Nat) (hx : x < 2 ^ b) (hb : 0 < b) : shR op b x k c < 2 ^ b := by
  unfold shR
  split
  · exact rot_lt _ _ _ hx (Nat.le_of_lt (Nat.mod_lt _ hb))
  · exact rot_lt _ _ _ hx (Nat.le_of_lt (Nat.mod_lt _ hb))
  · exact Nat.mod_lt _ (Nat.two_pow_pos _)
  · exact Nat.mod_lt _ (Nat.two_pow_pos _)
  · exact Nat.lt_of_le_of_lt (Nat.div_le_self _ _) hx
  · have h1 : (0 : Int) < 2 ^ b := Int.pow_pos (by decide)
    have h2 := Int.emod_nonneg (sZ x b / 2 ^ k) (Int.ne_of_gt h1)
    have h3 := Int.emod_lt_of_pos (sZ x b / 2 ^ k) h1
    have h4 : ((2 ^ b : Nat) : Int) = (2 : Int) ^ b := by simp
    omega
  · exact Nat.mod_lt _ (Nat.two_pow_pos _)
theorem shF_lt (op b x k fl : Nat) (hf : fl < 4294967296) : shF op b x k fl < 4294967296 := by
  unfold shF
  split
  · exact lt2048 _ (lt1 _ hf)
  · exact byF_lt _ _ _ (lt2048 _ (lt1 _ (lt16 _ hf)))

theorem bit_eq (n i : Nat) : (n / 2 ^ i % 2 == 1) = n.testBit i := by
  rw [Nat.testBit_eq_decide_div_mod_eq, Bool.eq_iff_iff]
  simp
theorem sgn_bit (n b : Nat) : sgn n b = n.testBit (b - 1) := bit_eq n (b - 1)

theorem mask2 (i : Nat) : (2049 : Nat).testBit i = (decide (i = 0) || decide (i = 11)) := by
  rw [show (2049 : Nat) = put 1 true ||| put 2048 true from rfl]
  simp only [Nat.testBit_or, put1, put2048, Bool.true_and]
theorem mask2a (i : Nat) : (2065 : Nat).testBit i = (decide (i = 0) || decide (i = 4) || decide (i = 11)) := by
  rw [show (2065 : Nat) = put 1 true ||| put 16 true ||| put 2048 true from rfl]
  simp only [Nat.testBit_or, put1, put16, put2048, Bool.true_and]

theorem asm2 (fl : Nat) (c o : Bool) (hf : fl < 4294967296) :
    ((fl &&& (4294967295 - 2049)) ||| put 1 c) ||| put 2048 o = setF (setF fl 1 c) 2048 o := by
  apply Nat.eq_of_testBit_eq
  intro i
  simp only [Nat.testBit_or, andNot_bit _ _ _ hf (by decide : (2049 : Nat) < 4294967296), mask2, put1, put2048, setF1, setF2048]
  by_cases h0 : i = 0
  · subst h0; simp
  by_cases h11 : i = 11
  · subst h11; simp
  simp [h0, h11]
theorem asm2a (fl : Nat) (c o : Bool) (hf : fl < 4294967296) :
    ((fl &&& (4294967295 - 2065)) ||| put 1 c) ||| put 2048 o = setF (setF (setF fl 16 false) 1 c) 2048 o := by
  apply Nat.eq_of_testBit_eq
  intro i
  simp only [Nat.testBit_or, andNot_bit _ _ _ hf (by decide : (2065 : Nat) < 4294967296), mask2a, put1, put2048, setF1, setF16, setF2048]
  by_cases h0 : i = 0
  · subst h0; simp
  by_cases h4 : i = 4
  · subst h4; simp
  by_cases h11 : i = 11
  · subst h11; simp
  simp [h0, h4, h11]
theorem set_turn (fl : Nat) (c o : Bool) : setF (setF (setF fl 1 c) 2048 o) 16 false = setF (setF (setF fl 16 false) 1 c) 2048 o := by
  apply Nat.eq_of_testBit_eq
  intro i
  simp only [setF1, setF16, setF2048]
  by_cases h4 : i = 4
  · subst h4; simp
  · simp [h4]
theorem clr16 (fl : Nat) (hf : fl < 4294967296) : fl &&& (4294967295 - 16) = setF fl 16 false := andn_pow fl 4 hf (by decide)
/-- the result of a shift of a value x of b bits by k, below 32, and the flags behind it -/
def shDoR (op b x k fl : Nat) : Nat := if k = 0 then x else shR op b x k (fl % 2)
def shDoF (op b x k fl : Nat) : Nat := if k = 0 then fl else shF op b x k fl
theorem shDoR_lt (op b x k fl : Nat) (hx : x < 2 ^ b) (hb : 0 < b) : shDoR op b x k fl < 2 ^ b := by
  unfold shDoR
  split
  · exact hx
  · exact shR_lt _ _ _ _ _ hx hb
theorem shDoF_lt (op b x k fl : Nat) (hf : fl < 4294967296) : shDoF op b x k fl < 4294967296 := by
  unfold shDoF
  split
  · exact hf
  · exact shF_lt _ _ _ _ _ hf
end Go.Proofs.Ytfjjipkieecpcaa.Pl
