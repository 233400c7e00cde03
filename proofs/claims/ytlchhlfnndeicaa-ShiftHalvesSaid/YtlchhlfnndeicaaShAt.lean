/- The program's bit of three values: the function inside Double. -/
import Derived.Test.YtlchhlfnndeicaaShFns
import Derived.Deep.QuietTactic
import Derived.BigQuiet
namespace Go.Proofs.Ytlchhlfnndeicaa
open Go.RowKit Pl
set_option linter.unusedVariables false

namespace Pl
/-- the bit at a place of three values of b bits, one behind the other -/
def pick (to : Bool) (q x y : Nat) : Nat :=
  match to, q with
  | true, 2 => x
  | false, 0 => x
  | _, _ => y
def bit3 (to : Bool) (b x y j : Nat) : Bool := (pick to (j / b) x y).testBit (j % b)
end Pl
theorem and1_bit (x k : Nat) (hx : x < 18446744073709551616) : bits .and .u64 ((x : Int) / 2 ^ k) 1 = (((x.testBit k).toNat : Nat) : Int) := by
  have e : (x : Int) / 2 ^ k = ((x / 2 ^ k : Nat) : Int) := by simp
  rw [e, and1 _ (Nat.lt_of_le_of_lt (Nat.div_le_self _ _) hx), ← bit_eq]
  congr 1
  rcases Nat.mod_two_eq_zero_or_one (x / 2 ^ k) with h | h <;> simp [h]

set_option maxRecDepth 20000 in
set_option maxHeartbeats 1000000 in
theorem at_ok (B : Int) (x y j : Nat) (to : Bool) (hb : B = 16 ∨ B = 32) (hj : j < 3 * B.toNat) (hx : x < 18446744073709551616) (hy : y < 18446744073709551616) (px py pt pb : Addr) (w : World)
    (g1 : px.block < w.heap.size) (g2 : py.block < w.heap.size) (g3 : pt.block < w.heap.size) (g4 : pb.block < w.heap.size)
    (h1 : w.cell? px = some (.int .u64 x)) (h2 : w.cell? py = some (.int .u64 y)) (h3 : w.cell? pt = some (.bool to)) (h4 : w.cell? pb = some (.int .u64 B)) :
    Calls Try.prog 24 #[.int .u64 j, .pointer (some px), .pointer (some py), .pointer (some pt), .pointer (some pb)] w fun e w' => e = .returned (.int .u64 (((bit3 to B.toNat x y j).toNat : Nat) : Int)) ∧ Below w.heap.size w w' := by
  have X := hide fun k => and1_bit x k hx
  have Y := hide fun k => and1_bit y k hy
  have eb : bit3 to B.toNat x y j = (pick to (j / B.toNat) x y).testBit (j % B.toNat) := rfl
  rw [eb]
  clear eb
  rcases hb with rfl | rfl
  all_goals
    simp only [Int.reduceToNat] at hj ⊢
    first
      | have q3 : (j / 16 = 0 ∧ (j : Int) / 16 = 0) ∨ (j / 16 = 1 ∧ (j : Int) / 16 = 1) ∨ (j / 16 = 2 ∧ (j : Int) / 16 = 2) := by omega
      | have q3 : (j / 32 = 0 ∧ (j : Int) / 32 = 0) ∨ (j / 32 = 1 ∧ (j : Int) / 32 = 1) ∨ (j / 32 = 2 ∧ (j : Int) / 32 = 2) := by omega
    rcases q3 with ⟨q, hq⟩ | ⟨q, hq⟩ | ⟨q, hq⟩
    all_goals
      rw [q]
      clear q hj
      cases to
      all_goals
        go_enter Try.func24, Try.ntmps24
        go_wp2_with fail
        go_quiet (fail)
        go_wp2
        go_ret
        refine ⟨ret_int ?_, below_drewN ((Below.refl _ _).alloc (Nat.le_refl _) _) _⟩
        dsimp only [pick]
        try simp only []
        first
          | with_reducible exact X.out _
          | with_reducible exact Y.out _
          | (trace_state; sorry)
end Go.Proofs.Ytlchhlfnndeicaa
