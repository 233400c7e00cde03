/- What the program's Do answers, operation by operation. -/
import Derived.Test.YthejbdjmhallhaaAluSmall
namespace Go.Proofs.Ythejbdjmhallhaa
open Go.RowKit Pl

set_option maxRecDepth 20000 in
set_option maxHeartbeats 4000000 in
theorem do1_ok (s : Int) (hs : s = 1 ∨ s = 2 ∨ s = 4) (a b fl : Nat) (ha : a < 4294967296) (hb : b < 4294967296) (hf : fl < 4294967296) (w : World) :
    Calls Try.prog 11 #[.int .i64 1, .int .i64 s, .int .u32 a, .int .u32 b, .int .u32 fl] w fun e w' => e = .returned (.tuple #[.int .u32 ((doR 1 (8 * s.toNat) (a % 2 ^ (8 * s.toNat)) (b % 2 ^ (8 * s.toNat)) fl : Nat) : Int), .int .u32 ((doF 1 (8 * s.toNat) (a % 2 ^ (8 * s.toNat)) (b % 2 ^ (8 * s.toNat)) fl : Nat) : Int), .int .i64 0]) ∧ Below w.heap.size w w' := by
  have V1 : ∀ w, Calls Try.prog 17 #[.int .i64 s, .int .u32 a] w fun e w' => e = .returned (.int .u32 ((a % 2 ^ (8 * s.toNat) : Nat) : Int)) ∧ w = w' := fun w => aluvalue_ok s a hs (by omega) (by omega) w
  have V2 : ∀ w, Calls Try.prog 17 #[.int .i64 s, .int .u32 b] w fun e w' => e = .returned (.int .u32 ((b % 2 ^ (8 * s.toNat) : Nat) : Int)) ∧ w = w' := fun w => aluvalue_ok s b hs (by omega) (by omega) w
  have hx : a % 2 ^ (8 * s.toNat) < 2 ^ (8 * s.toNat) := Nat.mod_lt _ (Nat.two_pow_pos _)
  have hy : b % 2 ^ (8 * s.toNat) < 2 ^ (8 * s.toNat) := Nat.mod_lt _ (Nat.two_pow_pos _)
  have h32 : 2 ^ (8 * s.toNat) ≤ 4294967296 := by rcases hs with rfl | rfl | rfl <;> decide
  have h1 : 1 < 2 ^ (8 * s.toNat) := by rcases hs with rfl | rfl | rfl <;> decide
  have e1 : bits .andNot .u32 (fl : Int) 2261 = ((fl &&& (4294967295 - 2261) : Nat) : Int) := u32_andNot_nat fl 2261 hf (by decide)
  have e2 : bits .and .u32 (fl : Int) 1 = ((fl % 2 : Nat) : Int) := low1 fl hf
  have hc : fl % 2 ≤ 1 := by omega
  generalize a % 2 ^ (8 * s.toNat) = x at *
  generalize b % 2 ^ (8 * s.toNat) = y at *
  have z1 : bits .or .u32 (x : Int) (y : Int) = ((x ||| y : Nat) : Int) := u32_or_nat x y (by omega) (by omega)
  have hr : x ||| y < 2 ^ (8 * s.toNat) := Nat.or_lt_two_pow hx hy
  have H3 : ∀ w, Calls Try.prog 20 #[.int .i64 s, .int .u32 ((x ||| y : Nat) : Int)] w fun e w' => e = .returned (.int .u32 ((byB (x ||| y) (8 * s.toNat) : Nat) : Int)) ∧ w = w' := fun w => aluby_ok s _ hs hr w
  have KK := hide (log_int fl (x ||| y) (8 * s.toNat) hf)
  show Calls Try.prog 11 #[.int .i64 1, .int .i64 s, .int .u32 a, .int .u32 b, .int .u32 fl] w fun e w' => e = .returned (.tuple #[.int .u32 (((x ||| y) : Nat) : Int), .int .u32 ((logF (8 * s.toNat) (x ||| y) fl : Nat) : Int), .int .i64 0]) ∧ Below w.heap.size w w'
  generalize logF (8 * s.toNat) (x ||| y) fl = lf at *
  generalize byB (x ||| y) (8 * s.toNat) = v at *
  generalize x ||| y = r at *
  generalize fl % 2 = cN at *
  generalize fl &&& (4294967295 - 2261) = rest at *
  have W1 := hide V1
  have W2 := hide V2
  have W3 := hide H3
  clear H3 V1 V2 hx hy h32 h1 hc ha hb hf hr
  rcases hs with rfl | rfl | rfl
  all_goals
    go_enter Try.func11, Try.ntmps11
    go_wp2_with fail
    go_quiet ((go_at_call 17; first | (with_reducible exact quiet_left (W1.out _)) | (with_reducible exact quiet_left (W2.out _))))
    go_wp2_with fail
    go_quiet ((go_at_call 20; first | (with_reducible exact quiet_left (W3.out _)) | (with_reducible exact quiet_add_left (W3.out _))))
    go_wp2
    go_ret3
    refine ⟨ret_iii rfl KK.out rfl, ?_⟩
    repeat (first | exact Below.refl _ _ | apply below_drewN | apply Below.drew | refine Below.alloc ?_ (by simp) _)

set_option maxRecDepth 20000 in
set_option maxHeartbeats 4000000 in
theorem do4_ok (s : Int) (hs : s = 1 ∨ s = 2 ∨ s = 4) (a b fl : Nat) (ha : a < 4294967296) (hb : b < 4294967296) (hf : fl < 4294967296) (w : World) :
    Calls Try.prog 11 #[.int .i64 4, .int .i64 s, .int .u32 a, .int .u32 b, .int .u32 fl] w fun e w' => e = .returned (.tuple #[.int .u32 ((doR 4 (8 * s.toNat) (a % 2 ^ (8 * s.toNat)) (b % 2 ^ (8 * s.toNat)) fl : Nat) : Int), .int .u32 ((doF 4 (8 * s.toNat) (a % 2 ^ (8 * s.toNat)) (b % 2 ^ (8 * s.toNat)) fl : Nat) : Int), .int .i64 0]) ∧ Below w.heap.size w w' := by
  have V1 : ∀ w, Calls Try.prog 17 #[.int .i64 s, .int .u32 a] w fun e w' => e = .returned (.int .u32 ((a % 2 ^ (8 * s.toNat) : Nat) : Int)) ∧ w = w' := fun w => aluvalue_ok s a hs (by omega) (by omega) w
  have V2 : ∀ w, Calls Try.prog 17 #[.int .i64 s, .int .u32 b] w fun e w' => e = .returned (.int .u32 ((b % 2 ^ (8 * s.toNat) : Nat) : Int)) ∧ w = w' := fun w => aluvalue_ok s b hs (by omega) (by omega) w
  have hx : a % 2 ^ (8 * s.toNat) < 2 ^ (8 * s.toNat) := Nat.mod_lt _ (Nat.two_pow_pos _)
  have hy : b % 2 ^ (8 * s.toNat) < 2 ^ (8 * s.toNat) := Nat.mod_lt _ (Nat.two_pow_pos _)
  have h32 : 2 ^ (8 * s.toNat) ≤ 4294967296 := by rcases hs with rfl | rfl | rfl <;> decide
  have h1 : 1 < 2 ^ (8 * s.toNat) := by rcases hs with rfl | rfl | rfl <;> decide
  have e1 : bits .andNot .u32 (fl : Int) 2261 = ((fl &&& (4294967295 - 2261) : Nat) : Int) := u32_andNot_nat fl 2261 hf (by decide)
  have e2 : bits .and .u32 (fl : Int) 1 = ((fl % 2 : Nat) : Int) := low1 fl hf
  have hc : fl % 2 ≤ 1 := by omega
  generalize a % 2 ^ (8 * s.toNat) = x at *
  generalize b % 2 ^ (8 * s.toNat) = y at *
  have z1 : bits .and .u32 (x : Int) (y : Int) = ((x &&& y : Nat) : Int) := u32_and_nat x y (by omega) (by omega)
  have hr : x &&& y < 2 ^ (8 * s.toNat) := Nat.and_lt_two_pow _ hy
  have H3 : ∀ w, Calls Try.prog 20 #[.int .i64 s, .int .u32 ((x &&& y : Nat) : Int)] w fun e w' => e = .returned (.int .u32 ((byB (x &&& y) (8 * s.toNat) : Nat) : Int)) ∧ w = w' := fun w => aluby_ok s _ hs hr w
  have KK := hide (log_int fl (x &&& y) (8 * s.toNat) hf)
  show Calls Try.prog 11 #[.int .i64 4, .int .i64 s, .int .u32 a, .int .u32 b, .int .u32 fl] w fun e w' => e = .returned (.tuple #[.int .u32 (((x &&& y) : Nat) : Int), .int .u32 ((logF (8 * s.toNat) (x &&& y) fl : Nat) : Int), .int .i64 0]) ∧ Below w.heap.size w w'
  generalize logF (8 * s.toNat) (x &&& y) fl = lf at *
  generalize byB (x &&& y) (8 * s.toNat) = v at *
  generalize x &&& y = r at *
  generalize fl % 2 = cN at *
  generalize fl &&& (4294967295 - 2261) = rest at *
  have W1 := hide V1
  have W2 := hide V2
  have W3 := hide H3
  clear H3 V1 V2 hx hy h32 h1 hc ha hb hf hr
  rcases hs with rfl | rfl | rfl
  all_goals
    go_enter Try.func11, Try.ntmps11
    go_wp2_with fail
    go_quiet ((go_at_call 17; first | (with_reducible exact quiet_left (W1.out _)) | (with_reducible exact quiet_left (W2.out _))))
    go_wp2_with fail
    go_quiet ((go_at_call 20; first | (with_reducible exact quiet_left (W3.out _)) | (with_reducible exact quiet_add_left (W3.out _))))
    go_wp2
    go_ret3
    refine ⟨ret_iii rfl KK.out rfl, ?_⟩
    repeat (first | exact Below.refl _ _ | apply below_drewN | apply Below.drew | refine Below.alloc ?_ (by simp) _)

set_option maxRecDepth 20000 in
set_option maxHeartbeats 4000000 in
theorem do6_ok (s : Int) (hs : s = 1 ∨ s = 2 ∨ s = 4) (a b fl : Nat) (ha : a < 4294967296) (hb : b < 4294967296) (hf : fl < 4294967296) (w : World) :
    Calls Try.prog 11 #[.int .i64 6, .int .i64 s, .int .u32 a, .int .u32 b, .int .u32 fl] w fun e w' => e = .returned (.tuple #[.int .u32 ((doR 6 (8 * s.toNat) (a % 2 ^ (8 * s.toNat)) (b % 2 ^ (8 * s.toNat)) fl : Nat) : Int), .int .u32 ((doF 6 (8 * s.toNat) (a % 2 ^ (8 * s.toNat)) (b % 2 ^ (8 * s.toNat)) fl : Nat) : Int), .int .i64 0]) ∧ Below w.heap.size w w' := by
  have V1 : ∀ w, Calls Try.prog 17 #[.int .i64 s, .int .u32 a] w fun e w' => e = .returned (.int .u32 ((a % 2 ^ (8 * s.toNat) : Nat) : Int)) ∧ w = w' := fun w => aluvalue_ok s a hs (by omega) (by omega) w
  have V2 : ∀ w, Calls Try.prog 17 #[.int .i64 s, .int .u32 b] w fun e w' => e = .returned (.int .u32 ((b % 2 ^ (8 * s.toNat) : Nat) : Int)) ∧ w = w' := fun w => aluvalue_ok s b hs (by omega) (by omega) w
  have hx : a % 2 ^ (8 * s.toNat) < 2 ^ (8 * s.toNat) := Nat.mod_lt _ (Nat.two_pow_pos _)
  have hy : b % 2 ^ (8 * s.toNat) < 2 ^ (8 * s.toNat) := Nat.mod_lt _ (Nat.two_pow_pos _)
  have h32 : 2 ^ (8 * s.toNat) ≤ 4294967296 := by rcases hs with rfl | rfl | rfl <;> decide
  have h1 : 1 < 2 ^ (8 * s.toNat) := by rcases hs with rfl | rfl | rfl <;> decide
  have e1 : bits .andNot .u32 (fl : Int) 2261 = ((fl &&& (4294967295 - 2261) : Nat) : Int) := u32_andNot_nat fl 2261 hf (by decide)
  have e2 : bits .and .u32 (fl : Int) 1 = ((fl % 2 : Nat) : Int) := low1 fl hf
  have hc : fl % 2 ≤ 1 := by omega
  generalize a % 2 ^ (8 * s.toNat) = x at *
  generalize b % 2 ^ (8 * s.toNat) = y at *
  have z1 : bits .xor .u32 (x : Int) (y : Int) = ((x ^^^ y : Nat) : Int) := u32_xor_nat x y (by omega) (by omega)
  have hr : x ^^^ y < 2 ^ (8 * s.toNat) := Nat.xor_lt_two_pow hx hy
  have H3 : ∀ w, Calls Try.prog 20 #[.int .i64 s, .int .u32 ((x ^^^ y : Nat) : Int)] w fun e w' => e = .returned (.int .u32 ((byB (x ^^^ y) (8 * s.toNat) : Nat) : Int)) ∧ w = w' := fun w => aluby_ok s _ hs hr w
  have KK := hide (log_int fl (x ^^^ y) (8 * s.toNat) hf)
  show Calls Try.prog 11 #[.int .i64 6, .int .i64 s, .int .u32 a, .int .u32 b, .int .u32 fl] w fun e w' => e = .returned (.tuple #[.int .u32 (((x ^^^ y) : Nat) : Int), .int .u32 ((logF (8 * s.toNat) (x ^^^ y) fl : Nat) : Int), .int .i64 0]) ∧ Below w.heap.size w w'
  generalize logF (8 * s.toNat) (x ^^^ y) fl = lf at *
  generalize byB (x ^^^ y) (8 * s.toNat) = v at *
  generalize x ^^^ y = r at *
  generalize fl % 2 = cN at *
  generalize fl &&& (4294967295 - 2261) = rest at *
  have W1 := hide V1
  have W2 := hide V2
  have W3 := hide H3
  clear H3 V1 V2 hx hy h32 h1 hc ha hb hf hr
  rcases hs with rfl | rfl | rfl
  all_goals
    go_enter Try.func11, Try.ntmps11
    go_wp2_with fail
    go_quiet ((go_at_call 17; first | (with_reducible exact quiet_left (W1.out _)) | (with_reducible exact quiet_left (W2.out _))))
    go_wp2_with fail
    go_quiet ((go_at_call 20; first | (with_reducible exact quiet_left (W3.out _)) | (with_reducible exact quiet_add_left (W3.out _))))
    go_wp2
    go_ret3
    refine ⟨ret_iii rfl KK.out rfl, ?_⟩
    repeat (first | exact Below.refl _ _ | apply below_drewN | apply Below.drew | refine Below.alloc ?_ (by simp) _)

end Go.Proofs.Ythejbdjmhallhaa
