/- Plain laws of sums, differences and logic. -/
import Derived.Test.YtdnnlfpahnbfmaaAluPlain
namespace Go.Proofs.Ytdnnlfpahnbfmaa.Pl

def wb (b : Nat) : Prop := b = 8 ∨ b = 16 ∨ b = 32

theorem back_add (b X Y c : Nat) (hb : wb b) (hx : X < 2 ^ b) (hy : Y < 2 ^ b) (hc : c ≤ 1) : subR b (addR b X Y c) Y c = X := by
  unfold subR addR
  rcases hb with rfl | rfl | rfl <;> simp only [Nat.reducePow, Nat.reduceAdd] at * <;> omega
theorem back_neg (b X : Nat) (hb : wb b) (hx : X < 2 ^ b) : subR b 0 (subR b 0 X 0) 0 = X := by
  unfold subR
  rcases hb with rfl | rfl | rfl <;> simp only [Nat.reducePow, Nat.reduceAdd] at * <;> omega
theorem back_not (b X : Nat) (hx : X < 2 ^ b) : 2 ^ b - 1 - (2 ^ b - 1 - X) = X := by omega
theorem back_xor (X Y : Nat) : (X ^^^ Y) ^^^ Y = X := by rw [Nat.xor_assoc, Nat.xor_self, Nat.xor_zero]

theorem doR_lt (op b X Y fl : Nat) (hx : X < 2 ^ b) (hy : Y < 2 ^ b) : doR op b X Y fl < 2 ^ b := by
  have hp : 0 < 2 ^ b := Nat.two_pow_pos b
  unfold doR
  split
  · exact Nat.mod_lt _ hp
  · exact Nat.or_lt_two_pow hx hy
  · exact Nat.mod_lt _ hp
  · exact Nat.mod_lt _ hp
  · exact Nat.and_lt_two_pow _ hy
  · exact Nat.mod_lt _ hp
  · exact Nat.xor_lt_two_pow hx hy
  · exact hx
  · exact hx
  · exact Nat.mod_lt _ hp
  · exact Nat.mod_lt _ hp
  · exact Nat.mod_lt _ hp
  · omega

/-- the flags, one by one -/
theorem has1 (fl : Nat) (c : Bool) : hasF (setF fl 1 c) 1 = c := by
  rw [show (1 : Nat) = 2 ^ 0 from rfl, hasF_bit, setF_bit, if_pos rfl]
theorem by_bit (n b fl i : Nat) : (byF n b fl).testBit i = if i = 2 then evenB n else if i = 7 then sgn n b else if i = 6 then (n == 0) else fl.testBit i := by
  unfold byF
  rw [setF4, setF128, setF64]
theorem by1 (n b fl : Nat) : hasF (byF n b fl) 1 = hasF fl 1 := by
  rw [show (1 : Nat) = 2 ^ 0 from rfl, hasF_bit, hasF_bit, by_bit]; simp
theorem by64 (n b fl : Nat) : hasF (byF n b fl) 64 = (n == 0) := by
  rw [show (64 : Nat) = 2 ^ 6 from rfl, hasF_bit, by_bit]; simp
theorem by128 (n b fl : Nat) : hasF (byF n b fl) 128 = sgn n b := by
  rw [show (128 : Nat) = 2 ^ 7 from rfl, hasF_bit, by_bit]; simp
theorem by2048 (n b fl : Nat) : hasF (byF n b fl) 2048 = hasF fl 2048 := by
  rw [show (2048 : Nat) = 2 ^ 11 from rfl, hasF_bit, hasF_bit, by_bit]; simp
theorem three1 (fl : Nat) (c a o : Bool) : hasF (setF (setF (setF fl 1 c) 16 a) 2048 o) 1 = c := by
  rw [show hasF (setF (setF (setF fl 1 c) 16 a) 2048 o) 1 = (setF (setF (setF fl 1 c) 16 a) 2048 o).testBit 0 from hasF_bit _ 0, setF2048, setF16, setF1]; simp
theorem three2048 (fl : Nat) (c a o : Bool) : hasF (setF (setF (setF fl 1 c) 16 a) 2048 o) 2048 = o := by
  rw [show hasF (setF (setF (setF fl 1 c) 16 a) 2048 o) 2048 = (setF (setF (setF fl 1 c) 16 a) 2048 o).testBit 11 from hasF_bit _ 11, setF2048]; simp
theorem add_cf (b x y c fl : Nat) : hasF (addF b x y c fl) 1 = (x + y + c != addR b x y c) := by unfold addF; rw [by1, three1]
theorem add_of (b x y c fl : Nat) : hasF (addF b x y c fl) 2048 = (sgn x b == sgn y b && sgn (addR b x y c) b != sgn x b) := by unfold addF; rw [by2048, three2048]
theorem sub_cf (b x y c fl : Nat) : hasF (subF b x y c fl) 1 = decide (x < y + c) := by unfold subF; rw [by1, three1]
theorem sub_of (b x y c fl : Nat) : hasF (subF b x y c fl) 2048 = (sgn x b != sgn y b && sgn (subR b x y c) b == sgn y b) := by unfold subF; rw [by2048, three2048]
theorem sub_zf (b x y c fl : Nat) : hasF (subF b x y c fl) 64 = (subR b x y c == 0) := by unfold subF; rw [by64]
theorem sub_sf (b x y c fl : Nat) : hasF (subF b x y c fl) 128 = sgn (subR b x y c) b := by unfold subF; rw [by128]

/-- a value of b bits as a number with a sign -/
def sg (b x : Nat) : Int := if sgn x b then (x : Int) - 2 ^ b else x

theorem eq_zf (b x y : Nat) (hb : wb b) (hx : x < 2 ^ b) (hy : y < 2 ^ b) : (subR b x y 0 == 0) = (x == y) := by
  rw [Bool.eq_iff_iff]
  simp only [beq_iff_eq]
  unfold subR
  rcases hb with rfl | rfl | rfl <;> simp only [Nat.reducePow, Nat.reduceAdd] at * <;> omega
theorem sgn_ge (b x : Nat) (hb : wb b) (hx : x < 2 ^ b) : sgn x b = decide (2 ^ (b - 1) ≤ x) := by
  unfold sgn
  rw [Bool.eq_iff_iff]
  simp only [beq_iff_eq, decide_eq_true_eq]
  rcases hb with rfl | rfl | rfl <;> simp only [Nat.reducePow, Nat.reduceSub] at * <;> omega
theorem lt_sf (b x y : Nat) (hb : wb b) (hx : x < 2 ^ b) (hy : y < 2 ^ b) :
    (sgn (subR b x y 0) b != (sgn x b != sgn y b && sgn (subR b x y 0) b == sgn y b)) = decide (sg b x < sg b y) := by
  have hr : subR b x y 0 < 2 ^ b := Nat.mod_lt _ (Nat.two_pow_pos b)
  have er : subR b x y 0 = if y ≤ x then x - y else x + 2 ^ b - y := by
    unfold subR
    rcases hb with rfl | rfl | rfl <;> simp only [Nat.reducePow, Nat.reduceAdd] at * <;> split <;> omega
  unfold sg
  rw [sgn_ge b _ hb hr, sgn_ge b _ hb hx, sgn_ge b _ hb hy]
  generalize subR b x y 0 = r at *
  by_cases h1 : 2 ^ (b - 1) ≤ x <;> by_cases h2 : 2 ^ (b - 1) ≤ y <;> by_cases h3 : y ≤ x <;> simp only [h1, h2, h3, if_true, if_false] at er ⊢ <;> by_cases h4 : 2 ^ (b - 1) ≤ r <;> simp only [h4] <;>
    rcases hb with rfl | rfl | rfl <;> simp only [Nat.reducePow, Nat.reduceSub, Int.reducePow] at * <;> simp <;> omega

theorem and_add_xor : ∀ (n x y : Nat), x < 2 ^ n → y < 2 ^ n → (x &&& y) + (x ^^^ y) = x ||| y
  | 0, x, y, hx, hy => by
    have : x = 0 := by simp at hx; omega
    have : y = 0 := by simp at hy; omega
    subst x y
    rfl
  | n + 1, x, y, hx, hy => by
    have ih := and_add_xor n (x / 2) (y / 2) (by rw [Nat.pow_succ] at hx; omega) (by rw [Nat.pow_succ] at hy; omega)
    have d1 := Nat.and_div_two (a := x) (b := y)
    have d2 := Nat.xor_div_two (a := x) (b := y)
    have d3 := Nat.or_div_two (a := x) (b := y)
    have m1 := Nat.testBit_and x y 0
    have m2 := Nat.testBit_xor x y 0
    have m3 := Nat.testBit_or x y 0
    rw [Nat.testBit_zero, Nat.testBit_zero, Nat.testBit_zero] at m1 m2 m3
    rw [← d1, ← d2, ← d3] at ih
    generalize x &&& y = p at *
    generalize x ^^^ y = q at *
    generalize x ||| y = r at *
    rcases Nat.mod_two_eq_zero_or_one x with hx2 | hx2 <;> rcases Nat.mod_two_eq_zero_or_one y with hy2 | hy2 <;> rw [hx2, hy2] at m1 m2 m3
    all_goals
      clear d1 d2 d3
      first
        | have n1 := of_decide_eq_true m1
        | have n1 := of_decide_eq_false m1
      first
        | have n2 := of_decide_eq_true m2
        | have n2 := of_decide_eq_false m2
      first
        | have n3 := of_decide_eq_true m3
        | have n3 := of_decide_eq_false m3
      omega

theorem not_or_not (b X Y : Nat) (hx : X < 2 ^ b) (hy : Y < 2 ^ b) : 2 ^ b - 1 - ((2 ^ b - 1 - X) ||| (2 ^ b - 1 - Y)) = X &&& Y := by
  have h1 : 2 ^ b - 1 - X < 2 ^ b := by omega
  have h2 : 2 ^ b - 1 - Y < 2 ^ b := by omega
  have h3 : (2 ^ b - 1 - X) ||| (2 ^ b - 1 - Y) < 2 ^ b := Nat.or_lt_two_pow h1 h2
  apply Nat.eq_of_testBit_eq
  intro i
  rw [show 2 ^ b - 1 - ((2 ^ b - 1 - X) ||| (2 ^ b - 1 - Y)) = 2 ^ b - (((2 ^ b - 1 - X) ||| (2 ^ b - 1 - Y)) + 1) by omega, Nat.testBit_two_pow_sub_succ h3, Nat.testBit_or,
    show 2 ^ b - 1 - X = 2 ^ b - (X + 1) by omega, show 2 ^ b - 1 - Y = 2 ^ b - (Y + 1) by omega, Nat.testBit_two_pow_sub_succ hx, Nat.testBit_two_pow_sub_succ hy, Nat.testBit_and]
  by_cases h : i < b
  · simp [h]
  · have e : X.testBit i = false := Nat.testBit_lt_two_pow (Nat.lt_of_lt_of_le hx (Nat.pow_le_pow_right (by decide) (by omega)))
    simp [h, e]

theorem mask2065 (i : Nat) : (2065 : Nat).testBit i = (decide (i = 0) || decide (i = 4) || decide (i = 11)) := by
  rw [show (2065 : Nat) = put 1 true ||| put 16 true ||| put 2048 true from rfl]
  simp only [Nat.testBit_or, put1, put16, put2048, Bool.true_and]
theorem log_by (b r fl : Nat) (hf : fl < 4294967296) : byF r b (fl &&& (4294967295 - 2065)) = logF b r fl := by
  unfold logF
  apply Nat.eq_of_testBit_eq
  intro i
  rw [by_bit, by_bit, andNot_bit _ _ _ hf (by decide : (2065 : Nat) < 4294967296), mask2065, setF16, setF2048, setF1]
  by_cases h0 : i = 0
  · subst h0; simp
  by_cases h4 : i = 4
  · subst h4; simp
  by_cases h11 : i = 11
  · subst h11; simp
  simp [h0, h4, h11]
end Go.Proofs.Ytdnnlfpahnbfmaa.Pl
