/- The calls at the head of the laws of layer 3; the program's Mul, whatever its arguments. -/
import Derived.Test.YtfjjipkieecpcaaMdAdj0
import Derived.Test.YtfjjipkieecpcaaMdMul1
import Derived.Test.YtfjjipkieecpcaaMdMul2
import Derived.Test.YtfjjipkieecpcaaMdMul4
import Derived.Test.YtfjjipkieecpcaaMdDiv1
namespace Go.Proofs.Ytfjjipkieecpcaa
open Go.RowKit Pl
set_option linter.unusedVariables false

theorem awake_ok (w : World) : Calls Try.prog 11 #[] w fun e w' => e = .returned (.bool true) ∧ Below w.heap.size w w' := by
  have c1 : ∀ w, Calls Try.prog 12 #[.bool false, .int .i64 1, .int .u32 16, .int .u32 16, .int .u32 0] w fun e w' => e = .returned (.tuple #[.int .u32 0, .int .u32 1, .int .u32 2117, .int .i64 0]) ∧ Below w.heap.size w w' := by
    intro w
    have h := mul1_false 16 16 0 (by decide) (by decide) (by decide) w
    have e1 : mulN false 8 (16 % 256) (16 % 256) % 256 = 0 := by decide
    have e2 : mulN false 8 (16 % 256) (16 % 256) / 256 = 1 := by decide
    have e3 : mulF false 8 (16 % 256) (16 % 256) 0 = 2117 := by decide
    rw [e1, e2, e3] at h
    exact h
  have c2 : ∀ w, Calls Try.prog 14 #[.bool true, .int .i64 1, .int .u32 249, .int .u32 255, .int .u32 2] w fun e w' => e = .returned (.tuple #[.int .u32 253, .int .u32 255, .bool true, .int .i64 0]) ∧ Below w.heap.size w w' := by
    intro w
    refine (div1_true 249 255 2 (by decide) (by decide) (by decide) w).mono ?_
    rintro e w' ⟨he, hb⟩
    have e1 : divOk true 8 (255 % 256 * 256 + 249 % 256) (2 % 256) = true := by decide
    have e2 : divQ true 8 (255 % 256 * 256 + 249 % 256) (2 % 256) = 253 := by decide
    have e3 : divR true 8 (255 % 256 * 256 + 249 % 256) (2 % 256) = 255 := by decide
    rw [divE_of e1 e2 e3] at he
    rcases he with ⟨_, he⟩ | ⟨h, _⟩
    · exact ⟨he, hb⟩
    · exact absurd h (by decide)
  have C1 := hide c1
  have C2 := hide c2
  have C3 := hide adj_awake
  clear c1 c2
  go_enter Try.func11, Try.ntmps11
  go_wp2_with fail
  refine (C1.out _).mono ?_
  rintro e w1 ⟨rfl, hb1⟩
  go_wp2_with fail
  refine (C2.out _).mono ?_
  rintro e w2 ⟨rfl, hb2⟩
  go_wp2_with fail
  refine (C3.out _).mono ?_
  rintro e w3 ⟨rfl, hb3⟩
  go_wp2
  go_ret
  exact ⟨rfl, (hb1.trans (hb2.mono hb1.size)).trans (hb3.mono (hb1.trans (hb2.mono hb1.size)).size)⟩

theorem mul_ok (sg : Bool) (s : Int) (hs : s = 1 ∨ s = 2 ∨ s = 4) (a b fl : Nat) (ha : a < 4294967296) (hb : b < 4294967296) (hf : fl < 4294967296) (w : World) :
    Calls Try.prog 12 #[.bool sg, .int .i64 s, .int .u32 a, .int .u32 b, .int .u32 fl] w fun e w' => e = .returned (.tuple #[.int .u32 ((mulN sg (8 * s.toNat) (a % 2 ^ (8 * s.toNat)) (b % 2 ^ (8 * s.toNat)) % 2 ^ (8 * s.toNat) : Nat) : Int), .int .u32 ((mulN sg (8 * s.toNat) (a % 2 ^ (8 * s.toNat)) (b % 2 ^ (8 * s.toNat)) / 2 ^ (8 * s.toNat) : Nat) : Int), .int .u32 ((mulF sg (8 * s.toNat) (a % 2 ^ (8 * s.toNat)) (b % 2 ^ (8 * s.toNat)) fl : Nat) : Int), .int .i64 0]) ∧ Below w.heap.size w w' := by
  rcases hs with rfl | rfl | rfl
  · rw [show 2 ^ (8 * Int.toNat 1) = 256 by decide, show 8 * Int.toNat 1 = 8 by decide]
    cases sg
    · exact mul1_false a b fl ha hb hf w
    · exact mul1_true a b fl ha hb hf w
  · rw [show 2 ^ (8 * Int.toNat 2) = 65536 by decide, show 8 * Int.toNat 2 = 16 by decide]
    cases sg
    · exact mul2_false a b fl ha hb hf w
    · exact mul2_true a b fl ha hb hf w
  · rw [show 2 ^ (8 * Int.toNat 4) = 4294967296 by decide, show 8 * Int.toNat 4 = 32 by decide]
    cases sg
    · exact mul4_false a b fl ha hb hf w
    · exact mul4_true a b fl ha hb hf w
end Go.Proofs.Ytfjjipkieecpcaa
