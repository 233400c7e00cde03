/- The program's Do, whatever the operation; and the calls at the head of the laws of layer 1. -/
import Derived.Test.YthejbdjmhallhaaAluDoA
import Derived.Test.YthejbdjmhallhaaAluDoB
import Derived.Test.YthejbdjmhallhaaAluDoC
import Derived.Test.YthejbdjmhallhaaAluDoD
import Derived.Test.YthejbdjmhallhaaAluDoE
import Derived.Test.YthejbdjmhallhaaAluCmp
import Derived.Test.YthejbdjmhallhaaAluFl
namespace Go.Proofs.Ythejbdjmhallhaa
open Go.RowKit Pl

theorem do_ok (op : Int) (ho : 0 ≤ op ∧ op ≤ 12) (s : Int) (hs : s = 1 ∨ s = 2 ∨ s = 4) (a b fl : Nat) (ha : a < 4294967296) (hb : b < 4294967296) (hf : fl < 4294967296) (w : World) :
    Calls Try.prog 11 #[.int .i64 op, .int .i64 s, .int .u32 a, .int .u32 b, .int .u32 fl] w fun e w' => e = .returned (.tuple #[.int .u32 ((doR op.toNat (8 * s.toNat) (a % 2 ^ (8 * s.toNat)) (b % 2 ^ (8 * s.toNat)) fl : Nat) : Int), .int .u32 ((doF op.toNat (8 * s.toNat) (a % 2 ^ (8 * s.toNat)) (b % 2 ^ (8 * s.toNat)) fl : Nat) : Int), .int .i64 0]) ∧ Below w.heap.size w w' := by
  rcases (by omega : op = 0 ∨ op = 1 ∨ op = 2 ∨ op = 3 ∨ op = 4 ∨ op = 5 ∨ op = 6 ∨ op = 7 ∨ op = 8 ∨ op = 9 ∨ op = 10 ∨ op = 11 ∨ op = 12) with rfl | rfl | rfl | rfl | rfl | rfl | rfl | rfl | rfl | rfl | rfl | rfl | rfl
  · exact do0_ok s hs a b fl ha hb hf w
  · exact do1_ok s hs a b fl ha hb hf w
  · exact do2_ok s hs a b fl ha hb hf w
  · exact do3_ok s hs a b fl ha hb hf w
  · exact do4_ok s hs a b fl ha hb hf w
  · exact do5_ok s hs a b fl ha hb hf w
  · exact do6_ok s hs a b fl ha hb hf w
  · exact do7_ok s hs a b fl ha hb hf w
  · exact do8_ok s hs a b fl ha hb hf w
  · exact do9_ok s hs a b fl ha hb hf w
  · exact do10_ok s hs a b fl ha hb hf w
  · exact do11_ok s hs a b fl ha hb hf w
  · exact do12_ok s hs a b fl ha hb hf w

set_option maxHeartbeats 1000000 in
theorem awake_ok (w : World) : Calls Try.prog 10 #[] w fun e w' => e = .returned (.bool true) ∧ Below w.heap.size w w' := by
  have c1 : ∀ w, Calls Try.prog 11 #[.int .i64 0, .int .i64 1, .int .u32 127, .int .u32 1, .int .u32 0] w fun e w' => e = .returned (.tuple #[.int .u32 128, .int .u32 2192, .int .i64 0]) ∧ Below w.heap.size w w' := by
    intro w
    have h := do0_ok 1 (.inl rfl) 127 1 0 (by decide) (by decide) (by decide) w
    have e1 : doR 0 (8 * Int.toNat 1) (127 % 2 ^ (8 * Int.toNat 1)) (1 % 2 ^ (8 * Int.toNat 1)) 0 = 128 := by decide
    have e2 : doF 0 (8 * Int.toNat 1) (127 % 2 ^ (8 * Int.toNat 1)) (1 % 2 ^ (8 * Int.toNat 1)) 0 = 2192 := by decide
    rw [e1, e2] at h
    exact h
  have c2 : ∀ w, Calls Try.prog 11 #[.int .i64 5, .int .i64 4, .int .u32 3, .int .u32 5, .int .u32 0] w fun e w' => e = .returned (.tuple #[.int .u32 4294967294, .int .u32 145, .int .i64 0]) ∧ Below w.heap.size w w' := by
    intro w
    have h := do5_ok 4 (.inr (.inr rfl)) 3 5 0 (by decide) (by decide) (by decide) w
    have e1 : doR 5 (8 * Int.toNat 4) (3 % 2 ^ (8 * Int.toNat 4)) (5 % 2 ^ (8 * Int.toNat 4)) 0 = 4294967294 := by decide
    have e2 : doF 5 (8 * Int.toNat 4) (3 % 2 ^ (8 * Int.toNat 4)) (5 % 2 ^ (8 * Int.toNat 4)) 0 = 145 := by decide
    rw [e1, e2] at h
    exact h
  have c3 : ∀ w, Calls Try.prog 13 #[.int .i64 1, .int .u32 0, .int .u32 1] w fun e w' => e = .returned (.tuple #[.int .u32 69, .int .i64 0]) ∧ w = w' := by
    intro w
    have h := flags_ok 1 (.inl rfl) 0 1 (by decide) (by decide) w
    have e1 : byF (0 % 2 ^ (8 * Int.toNat 1)) (8 * Int.toNat 1) 1 = 69 := by decide
    rw [e1] at h
    exact h
  have C1 := hide c1
  have C2 := hide c2
  have C3 := hide c3
  clear c1 c2 c3
  go_enter Try.func10, Try.ntmps10
  go_wp2_with fail
  refine (C1.out _).mono ?_
  rintro e w1 ⟨rfl, hb1⟩
  go_wp2_with fail
  refine (C2.out _).mono ?_
  rintro e w2 ⟨rfl, hb2⟩
  go_wp2_with fail
  refine (C3.out _).mono ?_
  rintro e w3 ⟨rfl, rfl⟩
  go_wp2
  go_ret
  exact ⟨rfl, hb1.trans (hb2.mono hb1.size)⟩
end Go.Proofs.Ythejbdjmhallhaa
