/- The document's Mul, whatever its arguments. -/
import Derived.Test.YtfjjipkieecpcaaMdRefMul1
import Derived.Test.YtfjjipkieecpcaaMdRefMul2
import Derived.Test.YtfjjipkieecpcaaMdRefMul4
namespace Go.Proofs.Ytfjjipkieecpcaa
open Go.RowKit Pl
set_option linter.unusedVariables false
theorem refmul_ok (sg : Bool) (s : Int) (hs : s = 1 ∨ s = 2 ∨ s = 4) (a b fl : Nat) (ha : a < 4294967296) (hb : b < 4294967296) (hf : fl < 4294967296) (w : World) :
    Calls Try.prog 13 #[.bool sg, .int .i64 s, .int .u32 a, .int .u32 b, .int .u32 fl] w fun e w' => e = .returned (.tuple #[.int .u32 ((mulN sg (8 * s.toNat) (a % 2 ^ (8 * s.toNat)) (b % 2 ^ (8 * s.toNat)) % 2 ^ (8 * s.toNat) : Nat) : Int), .int .u32 ((mulN sg (8 * s.toNat) (a % 2 ^ (8 * s.toNat)) (b % 2 ^ (8 * s.toNat)) / 2 ^ (8 * s.toNat) : Nat) : Int), .int .u32 ((mulF sg (8 * s.toNat) (a % 2 ^ (8 * s.toNat)) (b % 2 ^ (8 * s.toNat)) fl : Nat) : Int), .int .i64 0]) ∧ w = w' := by
  rcases hs with rfl | rfl | rfl
  · rw [show 2 ^ (8 * Int.toNat 1) = 256 by decide, show 8 * Int.toNat 1 = 8 by decide]
    cases sg
    · exact refmul1_false a b fl ha hb hf w
    · exact refmul1_true a b fl ha hb hf w
  · rw [show 2 ^ (8 * Int.toNat 2) = 65536 by decide, show 8 * Int.toNat 2 = 16 by decide]
    cases sg
    · exact refmul2_false a b fl ha hb hf w
    · exact refmul2_true a b fl ha hb hf w
  · rw [show 2 ^ (8 * Int.toNat 4) = 4294967296 by decide, show 8 * Int.toNat 4 = 32 by decide]
    cases sg
    · exact refmul4_false a b fl ha hb hf w
    · exact refmul4_true a b fl ha hb hf w
set_option maxRecDepth 20000 in
theorem refmul_size (sg : Bool) (s : Int) (h1 : ¬ s = 1) (h2 : ¬ s = 2) (h4 : ¬ s = 4) (a b fl : Int) (w : World) :
    Calls Try.prog 13 #[.bool sg, .int .i64 s, .int .u32 a, .int .u32 b, .int .u32 fl] w fun e w' => e = .returned (.tuple #[.int .u32 0, .int .u32 0, .int .u32 0, .int .i64 2]) ∧ w = w' := by
  have k1 : (s == 1) = false := by simpa using h1
  have k2 : (s == 2) = false := by simpa using h2
  have k4 : (s == 4) = false := by simpa using h4
  clear h1 h2 h4
  go_enter Try.func13, Try.ntmps13
  go_wp2
  refine bodyPost_ret (results_tmp4 rfl _ _ _) rfl ?_
  exact ⟨rfl, rfl⟩
end Go.Proofs.Ytfjjipkieecpcaa
