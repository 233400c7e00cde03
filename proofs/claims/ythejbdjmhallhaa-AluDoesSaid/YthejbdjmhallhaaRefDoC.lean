/- What the document's Do answers, operation by operation. -/
import Derived.Test.YthejbdjmhallhaaRefAlu
namespace Go.Proofs.Ythejbdjmhallhaa
open Go.RowKit Pl

set_option maxRecDepth 20000 in
set_option maxHeartbeats 4000000 in
theorem refdo1_ok (s : Int) (hs : s = 1 ∨ s = 2 ∨ s = 4) (a b fl : Nat) (ha : a < 4294967296) (hb : b < 4294967296) (hf : fl < 4294967296) (w : World) :
    Calls Try.prog 12 #[.int .i64 1, .int .i64 s, .int .u32 a, .int .u32 b, .int .u32 fl] w fun e w' => e = .returned (.tuple #[.int .u32 ((doR 1 (8 * s.toNat) (a % 2 ^ (8 * s.toNat)) (b % 2 ^ (8 * s.toNat)) fl : Nat) : Int), .int .u32 ((doF 1 (8 * s.toNat) (a % 2 ^ (8 * s.toNat)) (b % 2 ^ (8 * s.toNat)) fl : Nat) : Int), .int .i64 0]) ∧ w = w' := by
  obtain ⟨B, hsb, eB⟩ : ∃ B : Int, (s = 1 ∧ B = 8 ∨ s = 2 ∧ B = 16 ∨ s = 4 ∧ B = 32) ∧ B.toNat = 8 * s.toNat := by
    rcases hs with rfl | rfl | rfl
    · exact ⟨8, by decide, by decide⟩
    · exact ⟨16, by decide, by decide⟩
    · exact ⟨32, by decide, by decide⟩
  rw [← eB]
  have hB : B = 8 ∨ B = 16 ∨ B = 32 := by omega
  have V1 : ∀ w, Calls Try.prog 24 #[.int .u64 (a : Int), .int .i64 B] w fun e w' => e = .returned (.int .u64 ((a % 2 ^ B.toNat : Nat) : Int)) ∧ w = w' := fun w => cut_ok a B (by omega) hB w
  have V2 : ∀ w, Calls Try.prog 24 #[.int .u64 (b : Int), .int .i64 B] w fun e w' => e = .returned (.int .u64 ((b % 2 ^ B.toNat : Nat) : Int)) ∧ w = w' := fun w => cut_ok b B (by omega) hB w
  have hx : a % 2 ^ B.toNat < 2 ^ B.toNat := Nat.mod_lt _ (Nat.two_pow_pos _)
  have hy : b % 2 ^ B.toNat < 2 ^ B.toNat := Nat.mod_lt _ (Nat.two_pow_pos _)
  have h32 : 2 ^ B.toNat ≤ 4294967296 := by rcases hB with rfl | rfl | rfl <;> decide
  have h1 : 1 < 2 ^ B.toNat := by rcases hB with rfl | rfl | rfl <;> decide
  have e2 : (fl : Int) % 2 = ((fl % 2 : Nat) : Int) := by simp
  have hc : fl % 2 ≤ 1 := by omega
  generalize a % 2 ^ B.toNat = x at *
  generalize b % 2 ^ B.toNat = y at *
  have hx' : x < 4294967296 := by omega
  have hy' : y < 4294967296 := by omega
  have z1 : bits .or .u64 (x : Int) (y : Int) = ((x ||| y : Nat) : Int) := u64_or_nat x y (by omega) (by omega)
  have hr : x ||| y < 4294967296 := Nat.or_lt_two_pow (n := 32) hx' hy'
  have S : ∀ w, Calls Try.prog 27 #[.int .u64 ((x ||| y : Nat) : Int), .int .i64 B, .int .u32 (fl : Int)] w fun e w' => e = .returned (.tuple #[.int .u64 ((x ||| y : Nat) : Int), .int .u32 ((logF B.toNat (x ||| y) fl : Nat) : Int)]) ∧ w = w' := fun w => reflogic_ok _ fl B hB hf w
  show Calls Try.prog 12 #[.int .i64 1, .int .i64 s, .int .u32 a, .int .u32 b, .int .u32 fl] w fun e w' => e = .returned (.tuple #[.int .u32 ((x ||| y : Nat) : Int), .int .u32 ((logF B.toNat (x ||| y) fl : Nat) : Int), .int .i64 0]) ∧ w = w'
  generalize logF B.toNat (x ||| y) fl = lf at *
  generalize x ||| y = r at *
  generalize fl % 2 = cN at *
  have W1 := hide V1
  have W2 := hide V2
  have S' := hide S
  clear S V1 V2 eB hB h1 h32 hs
  rcases hsb with ⟨rfl, rfl⟩ | ⟨rfl, rfl⟩ | ⟨rfl, rfl⟩
  all_goals
    simp only [Int.reduceToNat, Nat.reducePow] at hx hy
    go_enter Try.func12, Try.ntmps12
    go_wp2_with (go_at_call 23; go_in)
    refine (W1.out _).mono ?_
    rintro e w' ⟨rfl, rfl⟩
    go_wp2_with fail
    refine (W2.out _).mono ?_
    rintro e w' ⟨rfl, rfl⟩
    go_wp2_with fail
    refine (S'.out _).mono ?_
    rintro e w' ⟨rfl, rfl⟩
    go_wp2
    go_ret3
    exact ⟨ret_iii rfl rfl rfl, rfl⟩

set_option maxRecDepth 20000 in
set_option maxHeartbeats 4000000 in
theorem refdo4_ok (s : Int) (hs : s = 1 ∨ s = 2 ∨ s = 4) (a b fl : Nat) (ha : a < 4294967296) (hb : b < 4294967296) (hf : fl < 4294967296) (w : World) :
    Calls Try.prog 12 #[.int .i64 4, .int .i64 s, .int .u32 a, .int .u32 b, .int .u32 fl] w fun e w' => e = .returned (.tuple #[.int .u32 ((doR 4 (8 * s.toNat) (a % 2 ^ (8 * s.toNat)) (b % 2 ^ (8 * s.toNat)) fl : Nat) : Int), .int .u32 ((doF 4 (8 * s.toNat) (a % 2 ^ (8 * s.toNat)) (b % 2 ^ (8 * s.toNat)) fl : Nat) : Int), .int .i64 0]) ∧ w = w' := by
  obtain ⟨B, hsb, eB⟩ : ∃ B : Int, (s = 1 ∧ B = 8 ∨ s = 2 ∧ B = 16 ∨ s = 4 ∧ B = 32) ∧ B.toNat = 8 * s.toNat := by
    rcases hs with rfl | rfl | rfl
    · exact ⟨8, by decide, by decide⟩
    · exact ⟨16, by decide, by decide⟩
    · exact ⟨32, by decide, by decide⟩
  rw [← eB]
  have hB : B = 8 ∨ B = 16 ∨ B = 32 := by omega
  have V1 : ∀ w, Calls Try.prog 24 #[.int .u64 (a : Int), .int .i64 B] w fun e w' => e = .returned (.int .u64 ((a % 2 ^ B.toNat : Nat) : Int)) ∧ w = w' := fun w => cut_ok a B (by omega) hB w
  have V2 : ∀ w, Calls Try.prog 24 #[.int .u64 (b : Int), .int .i64 B] w fun e w' => e = .returned (.int .u64 ((b % 2 ^ B.toNat : Nat) : Int)) ∧ w = w' := fun w => cut_ok b B (by omega) hB w
  have hx : a % 2 ^ B.toNat < 2 ^ B.toNat := Nat.mod_lt _ (Nat.two_pow_pos _)
  have hy : b % 2 ^ B.toNat < 2 ^ B.toNat := Nat.mod_lt _ (Nat.two_pow_pos _)
  have h32 : 2 ^ B.toNat ≤ 4294967296 := by rcases hB with rfl | rfl | rfl <;> decide
  have h1 : 1 < 2 ^ B.toNat := by rcases hB with rfl | rfl | rfl <;> decide
  have e2 : (fl : Int) % 2 = ((fl % 2 : Nat) : Int) := by simp
  have hc : fl % 2 ≤ 1 := by omega
  generalize a % 2 ^ B.toNat = x at *
  generalize b % 2 ^ B.toNat = y at *
  have hx' : x < 4294967296 := by omega
  have hy' : y < 4294967296 := by omega
  have z1 : bits .and .u64 (x : Int) (y : Int) = ((x &&& y : Nat) : Int) := u64_and_nat x y (by omega) (by omega)
  have hr : x &&& y < 4294967296 := Nat.and_lt_two_pow (n := 32) _ hy'
  have S : ∀ w, Calls Try.prog 27 #[.int .u64 ((x &&& y : Nat) : Int), .int .i64 B, .int .u32 (fl : Int)] w fun e w' => e = .returned (.tuple #[.int .u64 ((x &&& y : Nat) : Int), .int .u32 ((logF B.toNat (x &&& y) fl : Nat) : Int)]) ∧ w = w' := fun w => reflogic_ok _ fl B hB hf w
  show Calls Try.prog 12 #[.int .i64 4, .int .i64 s, .int .u32 a, .int .u32 b, .int .u32 fl] w fun e w' => e = .returned (.tuple #[.int .u32 ((x &&& y : Nat) : Int), .int .u32 ((logF B.toNat (x &&& y) fl : Nat) : Int), .int .i64 0]) ∧ w = w'
  generalize logF B.toNat (x &&& y) fl = lf at *
  generalize x &&& y = r at *
  generalize fl % 2 = cN at *
  have W1 := hide V1
  have W2 := hide V2
  have S' := hide S
  clear S V1 V2 eB hB h1 h32 hs
  rcases hsb with ⟨rfl, rfl⟩ | ⟨rfl, rfl⟩ | ⟨rfl, rfl⟩
  all_goals
    simp only [Int.reduceToNat, Nat.reducePow] at hx hy
    go_enter Try.func12, Try.ntmps12
    go_wp2_with (go_at_call 23; go_in)
    refine (W1.out _).mono ?_
    rintro e w' ⟨rfl, rfl⟩
    go_wp2_with fail
    refine (W2.out _).mono ?_
    rintro e w' ⟨rfl, rfl⟩
    go_wp2_with fail
    refine (S'.out _).mono ?_
    rintro e w' ⟨rfl, rfl⟩
    go_wp2
    go_ret3
    exact ⟨ret_iii rfl rfl rfl, rfl⟩

set_option maxRecDepth 20000 in
set_option maxHeartbeats 4000000 in
theorem refdo6_ok (s : Int) (hs : s = 1 ∨ s = 2 ∨ s = 4) (a b fl : Nat) (ha : a < 4294967296) (hb : b < 4294967296) (hf : fl < 4294967296) (w : World) :
    Calls Try.prog 12 #[.int .i64 6, .int .i64 s, .int .u32 a, .int .u32 b, .int .u32 fl] w fun e w' => e = .returned (.tuple #[.int .u32 ((doR 6 (8 * s.toNat) (a % 2 ^ (8 * s.toNat)) (b % 2 ^ (8 * s.toNat)) fl : Nat) : Int), .int .u32 ((doF 6 (8 * s.toNat) (a % 2 ^ (8 * s.toNat)) (b % 2 ^ (8 * s.toNat)) fl : Nat) : Int), .int .i64 0]) ∧ w = w' := by
  obtain ⟨B, hsb, eB⟩ : ∃ B : Int, (s = 1 ∧ B = 8 ∨ s = 2 ∧ B = 16 ∨ s = 4 ∧ B = 32) ∧ B.toNat = 8 * s.toNat := by
    rcases hs with rfl | rfl | rfl
    · exact ⟨8, by decide, by decide⟩
    · exact ⟨16, by decide, by decide⟩
    · exact ⟨32, by decide, by decide⟩
  rw [← eB]
  have hB : B = 8 ∨ B = 16 ∨ B = 32 := by omega
  have V1 : ∀ w, Calls Try.prog 24 #[.int .u64 (a : Int), .int .i64 B] w fun e w' => e = .returned (.int .u64 ((a % 2 ^ B.toNat : Nat) : Int)) ∧ w = w' := fun w => cut_ok a B (by omega) hB w
  have V2 : ∀ w, Calls Try.prog 24 #[.int .u64 (b : Int), .int .i64 B] w fun e w' => e = .returned (.int .u64 ((b % 2 ^ B.toNat : Nat) : Int)) ∧ w = w' := fun w => cut_ok b B (by omega) hB w
  have hx : a % 2 ^ B.toNat < 2 ^ B.toNat := Nat.mod_lt _ (Nat.two_pow_pos _)
  have hy : b % 2 ^ B.toNat < 2 ^ B.toNat := Nat.mod_lt _ (Nat.two_pow_pos _)
  have h32 : 2 ^ B.toNat ≤ 4294967296 := by rcases hB with rfl | rfl | rfl <;> decide
  have h1 : 1 < 2 ^ B.toNat := by rcases hB with rfl | rfl | rfl <;> decide
  have e2 : (fl : Int) % 2 = ((fl % 2 : Nat) : Int) := by simp
  have hc : fl % 2 ≤ 1 := by omega
  generalize a % 2 ^ B.toNat = x at *
  generalize b % 2 ^ B.toNat = y at *
  have hx' : x < 4294967296 := by omega
  have hy' : y < 4294967296 := by omega
  have z1 : bits .xor .u64 (x : Int) (y : Int) = ((x ^^^ y : Nat) : Int) := u64_xor_nat x y (by omega) (by omega)
  have hr : x ^^^ y < 4294967296 := Nat.xor_lt_two_pow (n := 32) hx' hy'
  have S : ∀ w, Calls Try.prog 27 #[.int .u64 ((x ^^^ y : Nat) : Int), .int .i64 B, .int .u32 (fl : Int)] w fun e w' => e = .returned (.tuple #[.int .u64 ((x ^^^ y : Nat) : Int), .int .u32 ((logF B.toNat (x ^^^ y) fl : Nat) : Int)]) ∧ w = w' := fun w => reflogic_ok _ fl B hB hf w
  show Calls Try.prog 12 #[.int .i64 6, .int .i64 s, .int .u32 a, .int .u32 b, .int .u32 fl] w fun e w' => e = .returned (.tuple #[.int .u32 ((x ^^^ y : Nat) : Int), .int .u32 ((logF B.toNat (x ^^^ y) fl : Nat) : Int), .int .i64 0]) ∧ w = w'
  generalize logF B.toNat (x ^^^ y) fl = lf at *
  generalize x ^^^ y = r at *
  generalize fl % 2 = cN at *
  have W1 := hide V1
  have W2 := hide V2
  have S' := hide S
  clear S V1 V2 eB hB h1 h32 hs
  rcases hsb with ⟨rfl, rfl⟩ | ⟨rfl, rfl⟩ | ⟨rfl, rfl⟩
  all_goals
    simp only [Int.reduceToNat, Nat.reducePow] at hx hy
    go_enter Try.func12, Try.ntmps12
    go_wp2_with (go_at_call 23; go_in)
    refine (W1.out _).mono ?_
    rintro e w' ⟨rfl, rfl⟩
    go_wp2_with fail
    refine (W2.out _).mono ?_
    rintro e w' ⟨rfl, rfl⟩
    go_wp2_with fail
    refine (S'.out _).mono ?_
    rintro e w' ⟨rfl, rfl⟩
    go_wp2
    go_ret3
    exact ⟨ret_iii rfl rfl rfl, rfl⟩

set_option maxRecDepth 20000 in
set_option maxHeartbeats 4000000 in
theorem refdo8_ok (s : Int) (hs : s = 1 ∨ s = 2 ∨ s = 4) (a b fl : Nat) (ha : a < 4294967296) (hb : b < 4294967296) (hf : fl < 4294967296) (w : World) :
    Calls Try.prog 12 #[.int .i64 8, .int .i64 s, .int .u32 a, .int .u32 b, .int .u32 fl] w fun e w' => e = .returned (.tuple #[.int .u32 ((doR 8 (8 * s.toNat) (a % 2 ^ (8 * s.toNat)) (b % 2 ^ (8 * s.toNat)) fl : Nat) : Int), .int .u32 ((doF 8 (8 * s.toNat) (a % 2 ^ (8 * s.toNat)) (b % 2 ^ (8 * s.toNat)) fl : Nat) : Int), .int .i64 0]) ∧ w = w' := by
  obtain ⟨B, hsb, eB⟩ : ∃ B : Int, (s = 1 ∧ B = 8 ∨ s = 2 ∧ B = 16 ∨ s = 4 ∧ B = 32) ∧ B.toNat = 8 * s.toNat := by
    rcases hs with rfl | rfl | rfl
    · exact ⟨8, by decide, by decide⟩
    · exact ⟨16, by decide, by decide⟩
    · exact ⟨32, by decide, by decide⟩
  rw [← eB]
  have hB : B = 8 ∨ B = 16 ∨ B = 32 := by omega
  have V1 : ∀ w, Calls Try.prog 24 #[.int .u64 (a : Int), .int .i64 B] w fun e w' => e = .returned (.int .u64 ((a % 2 ^ B.toNat : Nat) : Int)) ∧ w = w' := fun w => cut_ok a B (by omega) hB w
  have V2 : ∀ w, Calls Try.prog 24 #[.int .u64 (b : Int), .int .i64 B] w fun e w' => e = .returned (.int .u64 ((b % 2 ^ B.toNat : Nat) : Int)) ∧ w = w' := fun w => cut_ok b B (by omega) hB w
  have hx : a % 2 ^ B.toNat < 2 ^ B.toNat := Nat.mod_lt _ (Nat.two_pow_pos _)
  have hy : b % 2 ^ B.toNat < 2 ^ B.toNat := Nat.mod_lt _ (Nat.two_pow_pos _)
  have h32 : 2 ^ B.toNat ≤ 4294967296 := by rcases hB with rfl | rfl | rfl <;> decide
  have h1 : 1 < 2 ^ B.toNat := by rcases hB with rfl | rfl | rfl <;> decide
  have e2 : (fl : Int) % 2 = ((fl % 2 : Nat) : Int) := by simp
  have hc : fl % 2 ≤ 1 := by omega
  generalize a % 2 ^ B.toNat = x at *
  generalize b % 2 ^ B.toNat = y at *
  have hx' : x < 4294967296 := by omega
  have hy' : y < 4294967296 := by omega
  have z1 : bits .and .u64 (x : Int) (y : Int) = ((x &&& y : Nat) : Int) := u64_and_nat x y (by omega) (by omega)
  have hr : x &&& y < 4294967296 := Nat.and_lt_two_pow (n := 32) _ hy'
  have S : ∀ w, Calls Try.prog 27 #[.int .u64 ((x &&& y : Nat) : Int), .int .i64 B, .int .u32 (fl : Int)] w fun e w' => e = .returned (.tuple #[.int .u64 ((x &&& y : Nat) : Int), .int .u32 ((logF B.toNat (x &&& y) fl : Nat) : Int)]) ∧ w = w' := fun w => reflogic_ok _ fl B hB hf w
  show Calls Try.prog 12 #[.int .i64 8, .int .i64 s, .int .u32 a, .int .u32 b, .int .u32 fl] w fun e w' => e = .returned (.tuple #[.int .u32 ((x : Nat) : Int), .int .u32 ((logF B.toNat (x &&& y) fl : Nat) : Int), .int .i64 0]) ∧ w = w'
  generalize logF B.toNat (x &&& y) fl = lf at *
  generalize x &&& y = r at *
  generalize fl % 2 = cN at *
  have W1 := hide V1
  have W2 := hide V2
  have S' := hide S
  clear S V1 V2 eB hB h1 h32 hs
  rcases hsb with ⟨rfl, rfl⟩ | ⟨rfl, rfl⟩ | ⟨rfl, rfl⟩
  all_goals
    simp only [Int.reduceToNat, Nat.reducePow] at hx hy
    go_enter Try.func12, Try.ntmps12
    go_wp2_with (go_at_call 23; go_in)
    refine (W1.out _).mono ?_
    rintro e w' ⟨rfl, rfl⟩
    go_wp2_with fail
    refine (W2.out _).mono ?_
    rintro e w' ⟨rfl, rfl⟩
    go_wp2_with fail
    refine (S'.out _).mono ?_
    rintro e w' ⟨rfl, rfl⟩
    go_wp2
    go_ret3
    exact ⟨ret_iii rfl rfl rfl, rfl⟩

end Go.Proofs.Ythejbdjmhallhaa
