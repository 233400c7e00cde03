/- Small steps of the program's Do. -/
import Derived.Test.YtdnnlfpahnbfmaaAluSum
namespace Go.Proofs.Ytdnnlfpahnbfmaa
open Go.RowKit Pl

theorem cells2 (w : World) (v1 v2 : Value) (t1 t2 : TypeId) (n : Nat) :
    (((w.alloc (.cells #[v1] t1)).drewN n).alloc (.cells #[v2] t2)).cell? ⟨w.heap.size, 0, none⟩ = some v1 ∧
    (((w.alloc (.cells #[v1] t1)).drewN n).alloc (.cells #[v2] t2)).cell? ⟨w.heap.size + 1, 0, none⟩ = some v2 := by
  have e : ((w.alloc (.cells #[v1] t1)).drewN n).heap.size = w.heap.size + 1 := by simp
  constructor
  · rw [World.cell?_alloc_past _ _ _ (by omega), World.cell?_drewN, World.cell?_alloc_at _ _ _ _ rfl]
    rfl
  · rw [World.cell?_alloc_at _ _ _ _ e.symm]
    rfl
theorem low1 (fl : Nat) (hf : fl < 4294967296) : bits .and .u32 (fl : Int) 1 = ((fl % 2 : Nat) : Int) := by
  rw [show (1 : Int) = ((1 : Nat) : Int) from rfl, u32_and_nat _ _ hf (by decide), Nat.and_one_is_mod]
theorem keep_int (rf fl : Nat) (hf : rf < 4294967296) : bits .or .u32 (bits .andNot .u32 (rf : Int) 1) ((fl % 2 : Nat) : Int) = ((keepF rf fl : Nat) : Int) := by
  have h1 : rf &&& 4294967294 < 2 ^ 32 := Nat.and_lt_two_pow _ (by decide)
  have h2 : fl % 2 < 2 ^ 32 := by omega
  rw [show (1 : Int) = ((1 : Nat) : Int) from rfl, u32_andNot_nat _ _ hf (by decide), u32_or_nat _ _ h1 h2]
  have h := put_low rf fl hf
  rw [Nat.and_one_is_mod] at h
  have e : keepF rf fl = setF rf 1 (fl % 2 == 1) := by
    unfold keepF hasF
    rw [Nat.div_one]
  rw [e, ← h]
theorem log_int (fl r b : Nat) (hf : fl < 4294967296) : bits .or .u32 ((fl &&& (4294967295 - 2261) : Nat) : Int) ((byB r b : Nat) : Int) = ((logF b r fl : Nat) : Int) := by
  have l4 : fl &&& (4294967295 - 2261) < 2 ^ 32 := Nat.and_lt_two_pow _ (by decide)
  rw [u32_or_nat _ _ l4 (byB_lt _ _), asm0 _ _ _ hf]
  rfl
theorem not_nat (x : Nat) (hx : x < 4294967296) : 4294967295 ^^^ x = 4294967295 - x := by
  apply Nat.eq_of_testBit_eq
  intro i
  rw [Nat.testBit_xor, show (4294967295 : Nat) = 2 ^ 32 - 1 from rfl, Nat.testBit_two_pow_sub_one, show 2 ^ 32 - 1 - x = 2 ^ 32 - (x + 1) by omega, Nat.testBit_two_pow_sub_succ hx]
  by_cases h : i < 32
  · simp [h]
  · simp [h, lt_top hx (by omega : 32 ≤ i)]
theorem not_int (x : Nat) (hx : x < 4294967296) : bits .xor .u32 4294967295 (x : Int) = ((4294967295 - x : Nat) : Int) := by
  rw [show (4294967295 : Int) = ((4294967295 : Nat) : Int) from rfl, u32_xor_nat _ _ (by decide) hx, not_nat x hx]
theorem not_int' (x : Nat) (hx : x < 4294967296) : bits .xor .u32 (x : Int) 4294967295 = ((4294967295 - x : Nat) : Int) := by
  rw [show (4294967295 : Int) = ((4294967295 : Nat) : Int) from rfl, u32_xor_nat _ _ hx (by decide), Nat.xor_comm, not_nat x hx]
end Go.Proofs.Ytdnnlfpahnbfmaa
