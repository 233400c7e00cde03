/- Adjust's answers, in plain numbers. -/
import Derived.Test.YtfjjipkieecpcaaMdPkPl
namespace Go.Proofs.Ytfjjipkieecpcaa.Pl

/-- Adjust's answers -/
def adjX (op x y b : Nat) (cf af : Bool) : Nat :=
  match op with
  | 0 => pkA false x cf af
  | 1 => pkA true x cf af
  | 2 => apA false x af
  | 3 => apA true x af
  | 4 => x % b
  | _ => (x + y * b) % 256
def adjY (op x y b : Nat) (af : Bool) : Nat :=
  match op with
  | 0 => y
  | 1 => y
  | 2 => apH false x y af
  | 3 => apH true x y af
  | 4 => x / b
  | _ => 0
def adjC (op x : Nat) (cf af : Bool) : Bool :=
  match op with
  | 0 => pkC false x cf af
  | 1 => pkC true x cf af
  | 2 => loB x af
  | 3 => loB x af
  | _ => false
def adjA (op x : Nat) (af : Bool) : Bool :=
  match op with
  | 0 => loB x af
  | 1 => loB x af
  | 2 => loB x af
  | 3 => loB x af
  | _ => false
def adjF (fl X : Nat) (c a : Bool) : Nat := byF X 8 (setF (setF (setF fl 1 c) 16 a) 2048 false)
theorem pkL_lt (less : Bool) (al : Nat) (af : Bool) (h : al < 256) : pkL less al af < 256 := by
  unfold pkL
  split
  · split <;> omega
  · exact h
theorem pkA_lt (less : Bool) (al : Nat) (cf af : Bool) (h : al < 256) : pkA less al cf af < 256 := by
  have := pkL_lt less al af h
  unfold pkA
  split
  · split <;> omega
  · exact this
theorem apA_lt (less : Bool) (al : Nat) (af : Bool) : apA less al af < 256 := by
  unfold apA
  omega
theorem apH_lt (less : Bool) (al ah : Nat) (af : Bool) (h : ah < 256) : apH less al ah af < 256 := by
  unfold apH
  split
  · split <;> omega
  · exact h
theorem asmA (fl : Nat) (c a : Bool) (hf : fl < 4294967296) :
    ((fl &&& (4294967295 - 2065)) ||| put 1 c) ||| put 16 a = setF (setF (setF fl 1 c) 16 a) 2048 false := by
  apply Nat.eq_of_testBit_eq
  intro i
  simp only [Nat.testBit_or, andNot_bit _ _ _ hf (by decide : (2065 : Nat) < 4294967296), mask2a, put1, put16, setF1, setF16, setF2048]
  by_cases h0 : i = 0
  · subst h0; simp
  by_cases h4 : i = 4
  · subst h4; simp
  by_cases h11 : i = 11
  · subst h11; simp
  simp [h0, h4, h11]
theorem asm_ff (fl : Nat) (hf : fl < 4294967296) : fl &&& (4294967295 - 2065) = setF (setF (setF fl 1 false) 16 false) 2048 false := by
  rw [← asmA fl false false hf]
  exact ((Nat.or_zero _).trans (Nat.or_zero _)).symm
theorem asm_tf (fl : Nat) (hf : fl < 4294967296) : fl &&& (4294967295 - 2065) ||| 1 = setF (setF (setF fl 1 true) 16 false) 2048 false := by
  rw [← asmA fl true false hf]
  exact (Nat.or_zero _).symm
theorem asm_ft (fl : Nat) (hf : fl < 4294967296) : fl &&& (4294967295 - 2065) ||| 16 = setF (setF (setF fl 1 false) 16 true) 2048 false := by
  rw [← asmA fl false true hf]
  exact congrArg (· ||| 16) (Nat.or_zero _).symm
theorem asm_tt (fl : Nat) (hf : fl < 4294967296) : (fl &&& (4294967295 - 2065) ||| 1) ||| 16 = setF (setF (setF fl 1 true) 16 true) 2048 false := by
  rw [← asmA fl true true hf]
  rfl
end Go.Proofs.Ytfjjipkieecpcaa.Pl
