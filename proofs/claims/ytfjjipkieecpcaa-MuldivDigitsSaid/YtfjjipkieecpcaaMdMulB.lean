/- The program's Mul: what its walks lean on. -/
import Derived.Test.YtfjjipkieecpcaaMdFns
import Derived.Test.YtfjjipkieecpcaaMdPlain
namespace Go.Proofs.Ytfjjipkieecpcaa
open Go.RowKit Pl
set_option linter.unusedVariables false

theorem ret_iiii {a b c d p q r s : Int} {i j k l : IntKind} (h : a = p) (g : b = q) (f : c = r) (e : d = s) : Ending.returned (.tuple #[.int i a, .int j b, .int k c, .int l d]) = .returned (.tuple #[.int i p, .int j q, .int k r, .int l s]) := by rw [h, g, f, e]
theorem mask_int (fl : Nat) (hf : fl < 4294967296) : bits .andNot .u32 (fl : Int) 2065 = ((fl &&& (4294967295 - 2065) : Nat) : Int) := u32_andNot_nat fl 2065 hf (by decide)
theorem over_int (fl : Nat) (hf : fl < 4294967296) : bits .or .u32 ((fl &&& (4294967295 - 2065) : Nat) : Int) 2049 = (((fl &&& (4294967295 - 2065)) ||| 2049 : Nat) : Int) := by
  have l0 : fl &&& (4294967295 - 2065) < 2 ^ 32 := Nat.and_lt_two_pow _ (by decide)
  rw [show (2049 : Int) = ((2049 : Nat) : Int) from rfl, u32_or_nat _ _ l0 (by decide)]
theorem wrap_lt (N : Nat) (h : N < 18446744073709551616) : IntKind.u64.wrap (N : Int) = (N : Int) := by
  show (N : Int) % 18446744073709551616 = _
  omega
theorem wrap_low (N : Nat) : IntKind.u32.wrap (N : Int) = ((N % 4294967296 : Nat) : Int) := by
  show (N : Int) % 4294967296 = _
  omega
theorem wrap_u64 (z : Int) : ∃ n : Nat, IntKind.u64.wrap z = (n : Int) ∧ n < 18446744073709551616 ∧ (n : Int) = z % 18446744073709551616 := by
  refine ⟨(z % 18446744073709551616).toNat, ?_, by omega, by omega⟩
  show z % 18446744073709551616 = _
  omega
theorem wrap64_in (p : Int) (h1 : -4611686018427387904 ≤ p) (h2 : p ≤ 4611686018427387904) : wrap64 p = p := by
  unfold wrap64
  omega

set_option maxRecDepth 20000 in
theorem mul_size (sg : Bool) (s : Int) (h1 : ¬ s = 1) (h2 : ¬ s = 2) (h4 : ¬ s = 4) (a b fl : Int) (w : World) :
    Calls Try.prog 12 #[.bool sg, .int .i64 s, .int .u32 a, .int .u32 b, .int .u32 fl] w fun e w' => e = .returned (.tuple #[.int .u32 0, .int .u32 0, .int .u32 0, .int .i64 2]) ∧ Below w.heap.size w w' := by
  have LK := hide (sign_no w s h1 h2 h4)
  clear h1 h2 h4
  go_enter Try.func12, Try.ntmps12
  go_wp2_with fail
  refine (signs_ok _).mono ?_
  rintro e w' ⟨rfl, rfl⟩
  go_wp2_with fail
  rw [LK.out]
  go_wp2
  refine bodyPost_ret (results_tmp4 rfl _ _ _) rfl ?_
  exact ⟨rfl, (Below.refl _ _).alloc (Nat.le_refl _) _⟩
end Go.Proofs.Ytfjjipkieecpcaa
