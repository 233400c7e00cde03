/- The program's Adjust, whatever its arguments. -/
import Derived.Test.YtfjjipkieecpcaaMdAdjP
import Derived.Test.YtfjjipkieecpcaaMdAdjO0
import Derived.Test.YtfjjipkieecpcaaMdAdjO1
import Derived.Test.YtfjjipkieecpcaaMdAdjO2
import Derived.Test.YtfjjipkieecpcaaMdAdjO3
import Derived.Test.YtfjjipkieecpcaaMdAdjO4
import Derived.Test.YtfjjipkieecpcaaMdAdjO5
namespace Go.Proofs.Ytfjjipkieecpcaa
open Go.RowKit Pl
set_option linter.unusedVariables false

theorem fl_of (X g : Nat) (hX : X < 256) (hg : g < 4294967296) : ∀ w, Calls Try.prog 20 #[.int .i64 1, .int .u32 X, .int .u32 g] w fun e w' => e = .returned (.tuple #[.int .u32 ((byF X 8 g : Nat) : Int), .int .i64 0]) ∧ w = w' := by
  intro w
  have h := flags_ok 1 (by decide) X g (by omega) hg w
  simp only [Int.reduceToNat, Nat.reduceMul] at h
  rw [Nat.mod_eq_of_lt (show X < 2 ^ 8 from hX)] at h
  exact h
theorem or_int (g k : Nat) (hg : g < 4294967296) (hk : k < 4294967296) : bits .or .u32 (g : Int) (k : Int) = ((g ||| k : Nat) : Int) := u32_or_nat _ _ hg hk
theorem or_lt (g k : Nat) (hg : g < 4294967296) (hk : k < 4294967296) : g ||| k < 4294967296 := Nat.or_lt_two_pow (n := 32) hg hk
theorem adj_ok (op : Nat) (ho : op ≤ 5) (al ah base fl : Nat) (hal : al < 4294967296) (hah : ah < 4294967296) (hba : base < 4294967296) (hfl : fl < 4294967296) (hz : ¬ (op = 4 ∧ base % 256 = 0)) (w : World) :
    Calls Try.prog 16 #[.int .i64 op, .int .u32 al, .int .u32 ah, .int .u32 base, .int .u32 fl] w fun e w' => e = .returned (.tuple #[.int .u32 ((adjX op (al % 256) (ah % 256) (base % 256) (hasF fl 1) (hasF fl 16) : Nat) : Int), .int .u32 ((adjY op (al % 256) (ah % 256) (base % 256) (hasF fl 16) : Nat) : Int),
      .int .u32 ((adjF fl (adjX op (al % 256) (ah % 256) (base % 256) (hasF fl 1) (hasF fl 16)) (adjC op (al % 256) (hasF fl 1) (hasF fl 16)) (adjA op (al % 256) (hasF fl 16)) : Nat) : Int), .bool true, .int .i64 0]) ∧ Below w.heap.size w w' := by
  have t1 := tst1 fl hfl
  have t2 := tst16 fl hfl
  have b3 := mask_int fl hfl
  have g0l : fl &&& (4294967295 - 2065) < 4294967296 := Nat.and_lt_two_pow (n := 32) _ (by decide)
  have b4 := or_int _ 1 g0l (by decide)
  have b5 := or_int _ 16 g0l (by decide)
  have g1l := or_lt _ 1 g0l (by decide)
  have b6 := or_int _ 16 g1l (by decide)
  have x1 : (al : Int) % 256 = ((al % 256 : Nat) : Int) := by simp
  have x2 : (ah : Int) % 256 = ((ah % 256 : Nat) : Int) := by simp
  have x3 : (base : Int) % 256 = ((base % 256 : Nat) : Int) := by simp
  have l1 : al % 256 < 256 := Nat.mod_lt _ (by decide)
  have l2 : ah % 256 < 256 := Nat.mod_lt _ (by decide)
  have l3 : base % 256 < 256 := Nat.mod_lt _ (by decide)
  generalize al % 256 = x at *
  generalize ah % 256 = y at *
  generalize base % 256 = b at *
  have f0 := asm_ff fl hfl
  have f1 := asm_tf fl hfl
  have f2 := asm_ft fl hfl
  have f3 := asm_tt fl hfl
  generalize hcf : hasF fl 1 = cf at *
  generalize haf : hasF fl 16 = af at *
  clear hcf haf
  generalize hk1 : bits .and .u32 (fl : Int) 1 = k1 at *
  generalize hk2 : bits .and .u32 (fl : Int) 16 = k2 at *
  unfold adjF
  rcases (by omega : op = 0 ∨ op = 1 ∨ op = 2 ∨ op = 3 ∨ op = 4 ∨ op = 5) with rfl | rfl | rfl | rfl | rfl | rfl
  · show Calls _ _ _ _ fun e w' => e = .returned (.tuple #[.int .u32 ((pkA false x cf af : Nat) : Int), .int .u32 (y : Int), .int .u32 ((byF (pkA false x cf af) 8 (setF (setF (setF fl 1 (pkC false x cf af)) 16 (loB x af)) 2048 false) : Nat) : Int), .bool true, .int .i64 0]) ∧ _
    cases qc : pkC false x cf af
    · cases qa : loB x af
      · rw [← f0]
        exact adj0_ff al ah base fl x y b _ 0 _ 0 0 _ _ _ cf af hal hah hba hfl x1 x2 x3 l1 l2 l3 (pkA_lt false x cf af l1) (by decide : (0 : Nat) < 256) hk1 t1 hk2 t2 b3 rfl qc qa (fl_of _ _ (pkA_lt false x cf af l1) g0l) w
      · rw [← f2]
        exact adj0_ft al ah base fl x y b _ 0 _ 0 _ _ _ _ cf af hal hah hba hfl x1 x2 x3 l1 l2 l3 (pkA_lt false x cf af l1) (by decide : (0 : Nat) < 256) hk1 t1 hk2 t2 b3 b5 rfl qc qa (fl_of _ _ (pkA_lt false x cf af l1) (or_lt _ 16 g0l (by decide))) w
    · cases qa : loB x af
      · rw [← f1]
        exact adj0_tf al ah base fl x y b _ 0 _ _ 0 _ _ _ cf af hal hah hba hfl x1 x2 x3 l1 l2 l3 (pkA_lt false x cf af l1) (by decide : (0 : Nat) < 256) hk1 t1 hk2 t2 b3 b4 rfl qc qa (fl_of _ _ (pkA_lt false x cf af l1) g1l) w
      · rw [← f3]
        exact adj0_tt al ah base fl x y b _ 0 _ _ _ _ _ _ cf af hal hah hba hfl x1 x2 x3 l1 l2 l3 (pkA_lt false x cf af l1) (by decide : (0 : Nat) < 256) hk1 t1 hk2 t2 b3 b4 b6 rfl qc qa (fl_of _ _ (pkA_lt false x cf af l1) (or_lt _ 16 g1l (by decide))) w
  · show Calls _ _ _ _ fun e w' => e = .returned (.tuple #[.int .u32 ((pkA true x cf af : Nat) : Int), .int .u32 (y : Int), .int .u32 ((byF (pkA true x cf af) 8 (setF (setF (setF fl 1 (pkC true x cf af)) 16 (loB x af)) 2048 false) : Nat) : Int), .bool true, .int .i64 0]) ∧ _
    cases qc : pkC true x cf af
    · cases qa : loB x af
      · rw [← f0]
        exact adj1_ff al ah base fl x y b _ 0 _ 0 0 _ _ _ cf af hal hah hba hfl x1 x2 x3 l1 l2 l3 (pkA_lt true x cf af l1) (by decide : (0 : Nat) < 256) hk1 t1 hk2 t2 b3 rfl qc qa (fl_of _ _ (pkA_lt true x cf af l1) g0l) w
      · rw [← f2]
        exact adj1_ft al ah base fl x y b _ 0 _ 0 _ _ _ _ cf af hal hah hba hfl x1 x2 x3 l1 l2 l3 (pkA_lt true x cf af l1) (by decide : (0 : Nat) < 256) hk1 t1 hk2 t2 b3 b5 rfl qc qa (fl_of _ _ (pkA_lt true x cf af l1) (or_lt _ 16 g0l (by decide))) w
    · cases qa : loB x af
      · rw [← f1]
        exact adj1_tf al ah base fl x y b _ 0 _ _ 0 _ _ _ cf af hal hah hba hfl x1 x2 x3 l1 l2 l3 (pkA_lt true x cf af l1) (by decide : (0 : Nat) < 256) hk1 t1 hk2 t2 b3 b4 rfl qc qa (fl_of _ _ (pkA_lt true x cf af l1) g1l) w
      · rw [← f3]
        exact adj1_tt al ah base fl x y b _ 0 _ _ _ _ _ _ cf af hal hah hba hfl x1 x2 x3 l1 l2 l3 (pkA_lt true x cf af l1) (by decide : (0 : Nat) < 256) hk1 t1 hk2 t2 b3 b4 b6 rfl qc qa (fl_of _ _ (pkA_lt true x cf af l1) (or_lt _ 16 g1l (by decide))) w
  · show Calls _ _ _ _ fun e w' => e = .returned (.tuple #[.int .u32 ((apA false x af : Nat) : Int), .int .u32 ((apH false x y af : Nat) : Int), .int .u32 ((byF (apA false x af) 8 (setF (setF (setF fl 1 (loB x af)) 16 (loB x af)) 2048 false) : Nat) : Int), .bool true, .int .i64 0]) ∧ _
    cases qa : loB x af
    · rw [← f0]
      exact adj2_ff al ah base fl x y b _ _ _ 0 0 _ _ _ cf af hal hah hba hfl x1 x2 x3 l1 l2 l3 (apA_lt false x af) (apH_lt false x y af l2) hk1 t1 hk2 t2 b3 rfl rfl qa (fl_of _ _ (apA_lt false x af) g0l) w
    · rw [← f3]
      exact adj2_tt al ah base fl x y b _ _ _ _ _ _ _ _ cf af hal hah hba hfl x1 x2 x3 l1 l2 l3 (apA_lt false x af) (apH_lt false x y af l2) hk1 t1 hk2 t2 b3 b4 b6 rfl rfl qa (fl_of _ _ (apA_lt false x af) (or_lt _ 16 g1l (by decide))) w
  · show Calls _ _ _ _ fun e w' => e = .returned (.tuple #[.int .u32 ((apA true x af : Nat) : Int), .int .u32 ((apH true x y af : Nat) : Int), .int .u32 ((byF (apA true x af) 8 (setF (setF (setF fl 1 (loB x af)) 16 (loB x af)) 2048 false) : Nat) : Int), .bool true, .int .i64 0]) ∧ _
    cases qa : loB x af
    · rw [← f0]
      exact adj3_ff al ah base fl x y b _ _ _ 0 0 _ _ _ cf af hal hah hba hfl x1 x2 x3 l1 l2 l3 (apA_lt true x af) (apH_lt true x y af l2) hk1 t1 hk2 t2 b3 rfl rfl qa (fl_of _ _ (apA_lt true x af) g0l) w
    · rw [← f3]
      exact adj3_tt al ah base fl x y b _ _ _ _ _ _ _ _ cf af hal hah hba hfl x1 x2 x3 l1 l2 l3 (apA_lt true x af) (apH_lt true x y af l2) hk1 t1 hk2 t2 b3 b4 b6 rfl rfl qa (fl_of _ _ (apA_lt true x af) (or_lt _ 16 g1l (by decide))) w
  · show Calls _ _ _ _ fun e w' => e = .returned (.tuple #[.int .u32 ((x % b : Nat) : Int), .int .u32 ((x / b : Nat) : Int), .int .u32 ((byF (x % b) 8 (setF (setF (setF fl 1 false) 16 false) 2048 false) : Nat) : Int), .bool true, .int .i64 0]) ∧ _
    rw [← f0]
    exact adj4_ff al ah base fl x y b _ _ _ 0 0 _ _ _ cf af hal hah hba hfl x1 x2 x3 l1 l2 l3 (Nat.lt_of_le_of_lt (Nat.mod_le _ _) l1) (Nat.lt_of_le_of_lt (Nat.div_le_self _ _) l1) hk1 t1 hk2 t2 b3 rfl rfl (by omega) (by simp; omega) (fl_of _ _ (Nat.lt_of_le_of_lt (Nat.mod_le _ _) l1) g0l) w
  · show Calls _ _ _ _ fun e w' => e = .returned (.tuple #[.int .u32 (((x + y * b) % 256 : Nat) : Int), .int .u32 0, .int .u32 ((byF ((x + y * b) % 256) 8 (setF (setF (setF fl 1 false) 16 false) 2048 false) : Nat) : Int), .bool true, .int .i64 0]) ∧ _
    rw [← f0]
    exact adj5_ff al ah base fl x y b _ 0 _ 0 0 _ _ _ cf af hal hah hba hfl x1 x2 x3 l1 l2 l3 (Nat.mod_lt _ (by decide)) (by decide : (0 : Nat) < 256) hk1 t1 hk2 t2 b3 rfl (fl_of _ _ (Nat.mod_lt _ (by decide)) g0l) w
end Go.Proofs.Ytfjjipkieecpcaa
