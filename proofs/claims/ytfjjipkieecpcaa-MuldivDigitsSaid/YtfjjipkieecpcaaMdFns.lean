/- The program's small functions of layer 3: value, and the sizes' signed numbers. -/
import Derived.Test.YtfjjipkieecpcaaMdSigns
import Derived.Test.YtfjjipkieecpcaaShLaws
namespace Go.Proofs.Ytfjjipkieecpcaa
open Go.RowKit Pl
set_option linter.unusedVariables false

theorem andm64 (z : Int) (k : Nat) (hk : k ≤ 64) (h0 : 0 ≤ z) (h1 : z < 18446744073709551616) : bits .and .u64 z (((2 ^ k - 1 : Nat) : Int)) = ((z.toNat % 2 ^ k : Nat) : Int) := by
  obtain ⟨n, rfl⟩ := Int.eq_ofNat_of_zero_le h0
  have hp : 0 < 2 ^ k := Nat.two_pow_pos k
  have hb : 2 ^ k ≤ 2 ^ 64 := Nat.pow_le_pow_right (by decide) hk
  rw [u64_and_nat _ _ (by omega) (by omega), Nat.and_two_pow_sub_one_eq_mod]
  rfl
theorem mdvalue_ok (b z : Int) (hb : b = 8 ∨ b = 16 ∨ b = 32) (h0 : 0 ≤ z) (h1 : z < 18446744073709551616) (w : World) :
    Calls Try.prog 19 #[.int .u64 b, .int .u64 z] w fun e w' => e = .returned (.int .u64 ((z.toNat % 2 ^ b.toNat : Nat) : Int)) ∧ w = w' := by
  have e8 := hide (andm64 z 8 (by decide) h0 h1)
  have e16 := hide (andm64 z 16 (by decide) h0 h1)
  have e32 := hide (andm64 z 32 (by decide) h0 h1)
  clear h0 h1
  rcases hb with rfl | rfl | rfl
  all_goals
    go_enter Try.func19, Try.ntmps19
    go_wp2
    go_ret
    first
      | exact ⟨ret_int e8.out, rfl⟩
      | exact ⟨ret_int e16.out, rfl⟩
      | exact ⟨ret_int e32.out, rfl⟩

theorem w8 (z : Int) (h0 : 0 ≤ z) : wrap64 (IntKind.i8.wrap z) = sZ (z.toNat % 256) 8 := by
  have e : IntKind.i8.wrap z = if 128 ≤ z % 256 then z % 256 - 256 else z % 256 := by
    unfold IntKind.wrap
    simp [IntKind.bits, IntKind.signed]
  rw [e]
  unfold wrap64 sZ sgn
  simp only [Nat.reduceSub, Nat.reducePow, Int.reducePow, beq_iff_eq]
  split <;> split <;> omega
theorem w16 (z : Int) (h0 : 0 ≤ z) : wrap64 (IntKind.i16.wrap z) = sZ (z.toNat % 65536) 16 := by
  have e : IntKind.i16.wrap z = if 32768 ≤ z % 65536 then z % 65536 - 65536 else z % 65536 := by
    unfold IntKind.wrap
    simp [IntKind.bits, IntKind.signed]
  rw [e]
  unfold wrap64 sZ sgn
  simp only [Nat.reduceSub, Nat.reducePow, Int.reducePow, beq_iff_eq]
  split <;> split <;> omega
theorem w32 (z : Int) (h0 : 0 ≤ z) : wrap64 (wrap32 z) = sZ (z.toNat % 4294967296) 32 := by
  unfold wrap64 wrap32 sZ sgn
  simp only [Nat.reduceSub, Nat.reducePow, Int.reducePow, beq_iff_eq]
  split <;> omega
theorem wide8_ok (z : Int) (h0 : 0 ≤ z) (w : World) : Calls Try.prog 32 #[.int .u32 z] w fun e w' => e = .returned (.int .i64 (sZ (z.toNat % 256) 8)) ∧ w = w' := by
  have e := w8 z h0
  clear h0
  go_enter Try.func32, Try.ntmps32
  go_wp2
  go_ret
  exact ⟨ret_int e, rfl⟩
theorem wide16_ok (z : Int) (h0 : 0 ≤ z) (w : World) : Calls Try.prog 33 #[.int .u32 z] w fun e w' => e = .returned (.int .i64 (sZ (z.toNat % 65536) 16)) ∧ w = w' := by
  have e := w16 z h0
  clear h0
  go_enter Try.func33, Try.ntmps33
  go_wp2
  go_ret
  exact ⟨ret_int e, rfl⟩
theorem wide32_ok (z : Int) (h0 : 0 ≤ z) (w : World) : Calls Try.prog 34 #[.int .u32 z] w fun e w' => e = .returned (.int .i64 (sZ (z.toNat % 4294967296) 32)) ∧ w = w' := by
  have e := w32 z h0
  clear h0
  go_enter Try.func34, Try.ntmps34
  go_wp2
  go_ret
  exact ⟨ret_int e, rfl⟩
end Go.Proofs.Ytfjjipkieecpcaa
