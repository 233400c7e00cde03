/- What the program's Do answers, operation by operation. -/
import Derived.Test.YtdnnlfpahnbfmaaAluSmall
namespace Go.Proofs.Ytdnnlfpahnbfmaa
open Go.RowKit Pl

set_option maxRecDepth 20000 in
set_option maxHeartbeats 4000000 in
theorem do7_ok (s : Int) (hs : s = 1 ∨ s = 2 ∨ s = 4) (a b fl : Nat) (ha : a < 4294967296) (hb : b < 4294967296) (hf : fl < 4294967296) (w : World) :
    Calls Try.prog 21 #[.int .i64 7, .int .i64 s, .int .u32 a, .int .u32 b, .int .u32 fl] w fun e w' => e = .returned (.tuple #[.int .u32 ((doR 7 (8 * s.toNat) (a % 2 ^ (8 * s.toNat)) (b % 2 ^ (8 * s.toNat)) fl : Nat) : Int), .int .u32 ((doF 7 (8 * s.toNat) (a % 2 ^ (8 * s.toNat)) (b % 2 ^ (8 * s.toNat)) fl : Nat) : Int), .int .i64 0]) ∧ Below w.heap.size w w' := by
  have V1 : ∀ w, Calls Try.prog 31 #[.int .i64 s, .int .u32 a] w fun e w' => e = .returned (.int .u32 ((a % 2 ^ (8 * s.toNat) : Nat) : Int)) ∧ w = w' := fun w => aluvalue_ok s a hs (by omega) (by omega) w
  have V2 : ∀ w, Calls Try.prog 31 #[.int .i64 s, .int .u32 b] w fun e w' => e = .returned (.int .u32 ((b % 2 ^ (8 * s.toNat) : Nat) : Int)) ∧ w = w' := fun w => aluvalue_ok s b hs (by omega) (by omega) w
  have hx : a % 2 ^ (8 * s.toNat) < 2 ^ (8 * s.toNat) := Nat.mod_lt _ (Nat.two_pow_pos _)
  have hy : b % 2 ^ (8 * s.toNat) < 2 ^ (8 * s.toNat) := Nat.mod_lt _ (Nat.two_pow_pos _)
  have h32 : 2 ^ (8 * s.toNat) ≤ 4294967296 := by rcases hs with rfl | rfl | rfl <;> decide
  have h1 : 1 < 2 ^ (8 * s.toNat) := by rcases hs with rfl | rfl | rfl <;> decide
  have e1 : bits .andNot .u32 (fl : Int) 2261 = ((fl &&& (4294967295 - 2261) : Nat) : Int) := u32_andNot_nat fl 2261 hf (by decide)
  have e2 : bits .and .u32 (fl : Int) 1 = ((fl % 2 : Nat) : Int) := low1 fl hf
  have hc : fl % 2 ≤ 1 := by omega
  generalize a % 2 ^ (8 * s.toNat) = x at *
  generalize b % 2 ^ (8 * s.toNat) = y at *
  have S : ∀ (p q : Addr) (w : World), w.cell? p = some (.int .i64 s) → w.cell? q = some (.int .u32 ((fl &&& (4294967295 - 2261) : Nat) : Int)) → Calls Try.prog 35 #[.int .u32 (x : Int), .int .u32 (y : Int), .int .u32 0, .pointer (some p), .pointer (some q)] w fun e w' => e = .returned (.tuple #[.int .u32 ((subR (8 * s.toNat) x y 0 : Nat) : Int), .int .u32 ((subF (8 * s.toNat) x y 0 fl : Nat) : Int)]) ∧ ∃ n, w' = w.drewN n := fun p q w hp hq => less_ok s x y 0 fl hs hx hy (by decide) hf p q w hp hq
  show Calls Try.prog 21 #[.int .i64 7, .int .i64 s, .int .u32 a, .int .u32 b, .int .u32 fl] w fun e w' => e = .returned (.tuple #[.int .u32 ((x : Nat) : Int), .int .u32 ((subF (8 * s.toNat) x y 0 fl : Nat) : Int), .int .i64 0]) ∧ Below w.heap.size w w'
  generalize subF (8 * s.toNat) x y 0 fl = rf at *
  generalize subR (8 * s.toNat) x y 0 = rr at *
  generalize fl % 2 = cN at *
  generalize fl &&& (4294967295 - 2261) = rest at *
  have W1 := hide V1
  have W2 := hide V2
  have S' := hide S
  clear S V1 V2 hx hy h32 h1 hc ha hb hf
  rcases hs with rfl | rfl | rfl
  all_goals
    go_enter Try.func21, Try.ntmps21
    go_wp2_with fail
    go_quiet ((go_at_call 31; first | (with_reducible exact quiet_left (W1.out _)) | (with_reducible exact quiet_left (W2.out _))))
    go_wp2_with fail
    refine (S'.out _ _ _ (cells2 _ _ _ _ _ _).1 (cells2 _ _ _ _ _ _).2).mono ?_
    rintro e w1 ⟨rfl, n1, rfl⟩
    go_wp2
    go_ret3
    refine ⟨ret_iii rfl rfl rfl, ?_⟩
    repeat (first | exact Below.refl _ _ | apply below_drewN | apply Below.drew | refine Below.alloc ?_ (by simp) _)

end Go.Proofs.Ytdnnlfpahnbfmaa
