/- What the document's Do answers, operation by operation. -/
import Derived.Test.YthejbdjmhallhaaRefAlu
namespace Go.Proofs.Ythejbdjmhallhaa
open Go.RowKit Pl

set_option maxRecDepth 20000 in
set_option maxHeartbeats 4000000 in
theorem refdo7_ok (s : Int) (hs : s = 1 ∨ s = 2 ∨ s = 4) (a b fl : Nat) (ha : a < 4294967296) (hb : b < 4294967296) (hf : fl < 4294967296) (w : World) :
    Calls Try.prog 12 #[.int .i64 7, .int .i64 s, .int .u32 a, .int .u32 b, .int .u32 fl] w fun e w' => e = .returned (.tuple #[.int .u32 ((doR 7 (8 * s.toNat) (a % 2 ^ (8 * s.toNat)) (b % 2 ^ (8 * s.toNat)) fl : Nat) : Int), .int .u32 ((doF 7 (8 * s.toNat) (a % 2 ^ (8 * s.toNat)) (b % 2 ^ (8 * s.toNat)) fl : Nat) : Int), .int .i64 0]) ∧ w = w' := by
  obtain ⟨B, hsb, eB⟩ : ∃ B : Int, (s = 1 ∧ B = 8 ∨ s = 2 ∧ B = 16 ∨ s = 4 ∧ B = 32) ∧ B.toNat = 8 * s.toNat := by
    rcases hs with rfl | rfl | rfl
    · exact ⟨8, by decide, by decide⟩
    · exact ⟨16, by decide, by decide⟩
    · exact ⟨32, by decide, by decide⟩
  rw [← eB]
  have hB : B = 8 ∨ B = 16 ∨ B = 32 := by omega
  have V1 : ∀ w, Calls Try.prog 24 #[.int .u64 (a : Int), .int .i64 B] w fun e w' => e = .returned (.int .u64 ((a % 2 ^ B.toNat : Nat) : Int)) ∧ w = w' := fun w => cut_ok a B (by omega) hB w
  have V2 : ∀ w, Calls Try.prog 24 #[.int .u64 (b : Int), .int .i64 B] w fun e w' => e = .returned (.int .u64 ((b % 2 ^ B.toNat : Nat) : Int)) ∧ w = w' := fun w => cut_ok b B (by omega) hB w
  have hx : a % 2 ^ B.toNat < 2 ^ B.toNat := Nat.mod_lt _ (Nat.two_pow_pos _)
  have hy : b % 2 ^ B.toNat < 2 ^ B.toNat := Nat.mod_lt _ (Nat.two_pow_pos _)
  have h32 : 2 ^ B.toNat ≤ 4294967296 := by rcases hB with rfl | rfl | rfl <;> decide
  have h1 : 1 < 2 ^ B.toNat := by rcases hB with rfl | rfl | rfl <;> decide
  have e2 : (fl : Int) % 2 = ((fl % 2 : Nat) : Int) := by simp
  have hc : fl % 2 ≤ 1 := by omega
  generalize a % 2 ^ B.toNat = x at *
  generalize b % 2 ^ B.toNat = y at *
  have hx' : x < 4294967296 := by omega
  have hy' : y < 4294967296 := by omega
  have S : ∀ w, Calls Try.prog 26 #[.int .u64 (x : Int), .int .u64 (y : Int), .int .u64 0, .int .i64 B, .int .u32 (fl : Int)] w fun e w' => e = .returned (.tuple #[.int .u64 ((subR B.toNat x y 0 : Nat) : Int), .int .u32 ((subF B.toNat x y 0 fl : Nat) : Int)]) ∧ w = w' := fun w => refsub_ok x y 0 fl B hB hx hy (by decide) hf w
  have hr : subR B.toNat x y 0 < 4294967296 := Nat.lt_of_lt_of_le (Nat.mod_lt _ (Nat.two_pow_pos _)) h32
  show Calls Try.prog 12 #[.int .i64 7, .int .i64 s, .int .u32 a, .int .u32 b, .int .u32 fl] w fun e w' => e = .returned (.tuple #[.int .u32 ((x : Nat) : Int), .int .u32 ((subF B.toNat x y 0 fl : Nat) : Int), .int .i64 0]) ∧ w = w'
  generalize subF B.toNat x y 0 fl = rf at *
  generalize subR B.toNat x y 0 = rr at *
  generalize fl % 2 = cN at *
  have W1 := hide V1
  have W2 := hide V2
  have S' := hide S
  clear S V1 V2 eB hB h1 h32 hs
  rcases hsb with ⟨rfl, rfl⟩ | ⟨rfl, rfl⟩ | ⟨rfl, rfl⟩
  all_goals
    simp only [Int.reduceToNat, Nat.reducePow] at hx hy
    go_enter Try.func12, Try.ntmps12
    go_wp2_with (go_at_call 23; go_in)
    refine (W1.out _).mono ?_
    rintro e w' ⟨rfl, rfl⟩
    go_wp2_with fail
    refine (W2.out _).mono ?_
    rintro e w' ⟨rfl, rfl⟩
    go_wp2_with fail
    refine (S'.out _).mono ?_
    rintro e w' ⟨rfl, rfl⟩
    go_wp2_with fail
    go_wp2
    go_ret3
    exact ⟨ret_iii rfl rfl rfl, rfl⟩

set_option maxRecDepth 20000 in
set_option maxHeartbeats 4000000 in
theorem refdo10_ok (s : Int) (hs : s = 1 ∨ s = 2 ∨ s = 4) (a b fl : Nat) (ha : a < 4294967296) (hb : b < 4294967296) (hf : fl < 4294967296) (w : World) :
    Calls Try.prog 12 #[.int .i64 10, .int .i64 s, .int .u32 a, .int .u32 b, .int .u32 fl] w fun e w' => e = .returned (.tuple #[.int .u32 ((doR 10 (8 * s.toNat) (a % 2 ^ (8 * s.toNat)) (b % 2 ^ (8 * s.toNat)) fl : Nat) : Int), .int .u32 ((doF 10 (8 * s.toNat) (a % 2 ^ (8 * s.toNat)) (b % 2 ^ (8 * s.toNat)) fl : Nat) : Int), .int .i64 0]) ∧ w = w' := by
  obtain ⟨B, hsb, eB⟩ : ∃ B : Int, (s = 1 ∧ B = 8 ∨ s = 2 ∧ B = 16 ∨ s = 4 ∧ B = 32) ∧ B.toNat = 8 * s.toNat := by
    rcases hs with rfl | rfl | rfl
    · exact ⟨8, by decide, by decide⟩
    · exact ⟨16, by decide, by decide⟩
    · exact ⟨32, by decide, by decide⟩
  rw [← eB]
  have hB : B = 8 ∨ B = 16 ∨ B = 32 := by omega
  have V1 : ∀ w, Calls Try.prog 24 #[.int .u64 (a : Int), .int .i64 B] w fun e w' => e = .returned (.int .u64 ((a % 2 ^ B.toNat : Nat) : Int)) ∧ w = w' := fun w => cut_ok a B (by omega) hB w
  have V2 : ∀ w, Calls Try.prog 24 #[.int .u64 (b : Int), .int .i64 B] w fun e w' => e = .returned (.int .u64 ((b % 2 ^ B.toNat : Nat) : Int)) ∧ w = w' := fun w => cut_ok b B (by omega) hB w
  have hx : a % 2 ^ B.toNat < 2 ^ B.toNat := Nat.mod_lt _ (Nat.two_pow_pos _)
  have hy : b % 2 ^ B.toNat < 2 ^ B.toNat := Nat.mod_lt _ (Nat.two_pow_pos _)
  have h32 : 2 ^ B.toNat ≤ 4294967296 := by rcases hB with rfl | rfl | rfl <;> decide
  have h1 : 1 < 2 ^ B.toNat := by rcases hB with rfl | rfl | rfl <;> decide
  have e2 : (fl : Int) % 2 = ((fl % 2 : Nat) : Int) := by simp
  have hc : fl % 2 ≤ 1 := by omega
  generalize a % 2 ^ B.toNat = x at *
  generalize b % 2 ^ B.toNat = y at *
  have hx' : x < 4294967296 := by omega
  have hy' : y < 4294967296 := by omega
  have S : ∀ w, Calls Try.prog 26 #[.int .u64 (x : Int), .int .u64 1, .int .u64 0, .int .i64 B, .int .u32 (fl : Int)] w fun e w' => e = .returned (.tuple #[.int .u64 ((subR B.toNat x 1 0 : Nat) : Int), .int .u32 ((subF B.toNat x 1 0 fl : Nat) : Int)]) ∧ w = w' := fun w => refsub_ok x 1 0 fl B hB hx h1 (by decide) hf w
  have hr : subR B.toNat x 1 0 < 4294967296 := Nat.lt_of_lt_of_le (Nat.mod_lt _ (Nat.two_pow_pos _)) h32
  have K := hide fun w => refkeep_ok (subF B.toNat x 1 0 fl) fl (subF_lt _ _ _ _ _ hf) w
  show Calls Try.prog 12 #[.int .i64 10, .int .i64 s, .int .u32 a, .int .u32 b, .int .u32 fl] w fun e w' => e = .returned (.tuple #[.int .u32 ((subR B.toNat x 1 0 : Nat) : Int), .int .u32 ((keepF (subF B.toNat x 1 0 fl) fl : Nat) : Int), .int .i64 0]) ∧ w = w'
  generalize subF B.toNat x 1 0 fl = rf at *
  generalize subR B.toNat x 1 0 = rr at *
  generalize keepF rf fl = kf at *
  generalize fl % 2 = cN at *
  have W1 := hide V1
  have W2 := hide V2
  have S' := hide S
  clear S V1 V2 eB hB h1 h32 hs
  rcases hsb with ⟨rfl, rfl⟩ | ⟨rfl, rfl⟩ | ⟨rfl, rfl⟩
  all_goals
    simp only [Int.reduceToNat, Nat.reducePow] at hx hy
    go_enter Try.func12, Try.ntmps12
    go_wp2_with (go_at_call 23; go_in)
    refine (W1.out _).mono ?_
    rintro e w' ⟨rfl, rfl⟩
    go_wp2_with fail
    refine (W2.out _).mono ?_
    rintro e w' ⟨rfl, rfl⟩
    go_wp2_with fail
    refine (S'.out _).mono ?_
    rintro e w' ⟨rfl, rfl⟩
    go_wp2_with fail
    refine (K.out _).mono ?_
    rintro e w' ⟨rfl, rfl⟩
    go_wp2
    go_ret3
    exact ⟨ret_iii rfl rfl rfl, rfl⟩

set_option maxRecDepth 20000 in
set_option maxHeartbeats 4000000 in
theorem refdo11_ok (s : Int) (hs : s = 1 ∨ s = 2 ∨ s = 4) (a b fl : Nat) (ha : a < 4294967296) (hb : b < 4294967296) (hf : fl < 4294967296) (w : World) :
    Calls Try.prog 12 #[.int .i64 11, .int .i64 s, .int .u32 a, .int .u32 b, .int .u32 fl] w fun e w' => e = .returned (.tuple #[.int .u32 ((doR 11 (8 * s.toNat) (a % 2 ^ (8 * s.toNat)) (b % 2 ^ (8 * s.toNat)) fl : Nat) : Int), .int .u32 ((doF 11 (8 * s.toNat) (a % 2 ^ (8 * s.toNat)) (b % 2 ^ (8 * s.toNat)) fl : Nat) : Int), .int .i64 0]) ∧ w = w' := by
  obtain ⟨B, hsb, eB⟩ : ∃ B : Int, (s = 1 ∧ B = 8 ∨ s = 2 ∧ B = 16 ∨ s = 4 ∧ B = 32) ∧ B.toNat = 8 * s.toNat := by
    rcases hs with rfl | rfl | rfl
    · exact ⟨8, by decide, by decide⟩
    · exact ⟨16, by decide, by decide⟩
    · exact ⟨32, by decide, by decide⟩
  rw [← eB]
  have hB : B = 8 ∨ B = 16 ∨ B = 32 := by omega
  have V1 : ∀ w, Calls Try.prog 24 #[.int .u64 (a : Int), .int .i64 B] w fun e w' => e = .returned (.int .u64 ((a % 2 ^ B.toNat : Nat) : Int)) ∧ w = w' := fun w => cut_ok a B (by omega) hB w
  have V2 : ∀ w, Calls Try.prog 24 #[.int .u64 (b : Int), .int .i64 B] w fun e w' => e = .returned (.int .u64 ((b % 2 ^ B.toNat : Nat) : Int)) ∧ w = w' := fun w => cut_ok b B (by omega) hB w
  have hx : a % 2 ^ B.toNat < 2 ^ B.toNat := Nat.mod_lt _ (Nat.two_pow_pos _)
  have hy : b % 2 ^ B.toNat < 2 ^ B.toNat := Nat.mod_lt _ (Nat.two_pow_pos _)
  have h32 : 2 ^ B.toNat ≤ 4294967296 := by rcases hB with rfl | rfl | rfl <;> decide
  have h1 : 1 < 2 ^ B.toNat := by rcases hB with rfl | rfl | rfl <;> decide
  have e2 : (fl : Int) % 2 = ((fl % 2 : Nat) : Int) := by simp
  have hc : fl % 2 ≤ 1 := by omega
  generalize a % 2 ^ B.toNat = x at *
  generalize b % 2 ^ B.toNat = y at *
  have hx' : x < 4294967296 := by omega
  have hy' : y < 4294967296 := by omega
  have S : ∀ w, Calls Try.prog 26 #[.int .u64 0, .int .u64 (x : Int), .int .u64 0, .int .i64 B, .int .u32 (fl : Int)] w fun e w' => e = .returned (.tuple #[.int .u64 ((subR B.toNat 0 x 0 : Nat) : Int), .int .u32 ((subF B.toNat 0 x 0 fl : Nat) : Int)]) ∧ w = w' := fun w => refsub_ok 0 x 0 fl B hB (by omega) hx (by decide) hf w
  have hr : subR B.toNat 0 x 0 < 4294967296 := Nat.lt_of_lt_of_le (Nat.mod_lt _ (Nat.two_pow_pos _)) h32
  show Calls Try.prog 12 #[.int .i64 11, .int .i64 s, .int .u32 a, .int .u32 b, .int .u32 fl] w fun e w' => e = .returned (.tuple #[.int .u32 ((subR B.toNat 0 x 0 : Nat) : Int), .int .u32 ((subF B.toNat 0 x 0 fl : Nat) : Int), .int .i64 0]) ∧ w = w'
  generalize subF B.toNat 0 x 0 fl = rf at *
  generalize subR B.toNat 0 x 0 = rr at *
  generalize fl % 2 = cN at *
  have W1 := hide V1
  have W2 := hide V2
  have S' := hide S
  clear S V1 V2 eB hB h1 h32 hs
  rcases hsb with ⟨rfl, rfl⟩ | ⟨rfl, rfl⟩ | ⟨rfl, rfl⟩
  all_goals
    simp only [Int.reduceToNat, Nat.reducePow] at hx hy
    go_enter Try.func12, Try.ntmps12
    go_wp2_with (go_at_call 23; go_in)
    refine (W1.out _).mono ?_
    rintro e w' ⟨rfl, rfl⟩
    go_wp2_with fail
    refine (W2.out _).mono ?_
    rintro e w' ⟨rfl, rfl⟩
    go_wp2_with fail
    refine (S'.out _).mono ?_
    rintro e w' ⟨rfl, rfl⟩
    go_wp2_with fail
    go_wp2
    go_ret3
    exact ⟨ret_iii rfl rfl rfl, rfl⟩

set_option maxRecDepth 20000 in
set_option maxHeartbeats 4000000 in
theorem refdo12_ok (s : Int) (hs : s = 1 ∨ s = 2 ∨ s = 4) (a b fl : Nat) (ha : a < 4294967296) (hb : b < 4294967296) (hf : fl < 4294967296) (w : World) :
    Calls Try.prog 12 #[.int .i64 12, .int .i64 s, .int .u32 a, .int .u32 b, .int .u32 fl] w fun e w' => e = .returned (.tuple #[.int .u32 ((doR 12 (8 * s.toNat) (a % 2 ^ (8 * s.toNat)) (b % 2 ^ (8 * s.toNat)) fl : Nat) : Int), .int .u32 ((doF 12 (8 * s.toNat) (a % 2 ^ (8 * s.toNat)) (b % 2 ^ (8 * s.toNat)) fl : Nat) : Int), .int .i64 0]) ∧ w = w' := by
  obtain ⟨B, hsb, eB⟩ : ∃ B : Int, (s = 1 ∧ B = 8 ∨ s = 2 ∧ B = 16 ∨ s = 4 ∧ B = 32) ∧ B.toNat = 8 * s.toNat := by
    rcases hs with rfl | rfl | rfl
    · exact ⟨8, by decide, by decide⟩
    · exact ⟨16, by decide, by decide⟩
    · exact ⟨32, by decide, by decide⟩
  rw [← eB]
  have hB : B = 8 ∨ B = 16 ∨ B = 32 := by omega
  have V1 : ∀ w, Calls Try.prog 24 #[.int .u64 (a : Int), .int .i64 B] w fun e w' => e = .returned (.int .u64 ((a % 2 ^ B.toNat : Nat) : Int)) ∧ w = w' := fun w => cut_ok a B (by omega) hB w
  have V2 : ∀ w, Calls Try.prog 24 #[.int .u64 (b : Int), .int .i64 B] w fun e w' => e = .returned (.int .u64 ((b % 2 ^ B.toNat : Nat) : Int)) ∧ w = w' := fun w => cut_ok b B (by omega) hB w
  have hx : a % 2 ^ B.toNat < 2 ^ B.toNat := Nat.mod_lt _ (Nat.two_pow_pos _)
  have hy : b % 2 ^ B.toNat < 2 ^ B.toNat := Nat.mod_lt _ (Nat.two_pow_pos _)
  have h32 : 2 ^ B.toNat ≤ 4294967296 := by rcases hB with rfl | rfl | rfl <;> decide
  have h1 : 1 < 2 ^ B.toNat := by rcases hB with rfl | rfl | rfl <;> decide
  have e2 : (fl : Int) % 2 = ((fl % 2 : Nat) : Int) := by simp
  have hc : fl % 2 ≤ 1 := by omega
  generalize a % 2 ^ B.toNat = x at *
  generalize b % 2 ^ B.toNat = y at *
  have hx' : x < 4294967296 := by omega
  have hy' : y < 4294967296 := by omega
  have S : ∀ w, Calls Try.prog 24 #[.int .u64 (((2 ^ B.toNat - 1 : Nat) : Int) - (x : Int)), .int .i64 B] w fun e w' => e = .returned (.int .u64 ((2 ^ B.toNat - 1 - x : Nat) : Int)) ∧ w = w' := by
    intro w
    have h := cut_ok (((2 ^ B.toNat - 1 : Nat) : Int) - (x : Int)) B (by omega) hB w
    rw [show (((2 ^ B.toNat - 1 : Nat) : Int) - (x : Int)).toNat = 2 ^ B.toNat - 1 - x by omega, Nat.mod_eq_of_lt (by omega)] at h
    exact h
  have hr : 2 ^ B.toNat - 1 - x < 4294967296 := by omega
  show Calls Try.prog 12 #[.int .i64 12, .int .i64 s, .int .u32 a, .int .u32 b, .int .u32 fl] w fun e w' => e = .returned (.tuple #[.int .u32 ((2 ^ B.toNat - 1 - x : Nat) : Int), .int .u32 ((fl : Nat) : Int), .int .i64 0]) ∧ w = w'
  generalize 2 ^ B.toNat - 1 - x = rr at *
  generalize fl % 2 = cN at *
  have W1 := hide V1
  have W2 := hide V2
  have S' := hide S
  clear S V1 V2 eB hB h1 h32 hs
  rcases hsb with ⟨rfl, rfl⟩ | ⟨rfl, rfl⟩ | ⟨rfl, rfl⟩
  all_goals
    simp only [Int.reduceToNat, Nat.reducePow, Nat.reduceSub] at hx hy S'
    go_enter Try.func12, Try.ntmps12
    go_wp2_with (go_at_call 23; go_in)
    refine (W1.out _).mono ?_
    rintro e w' ⟨rfl, rfl⟩
    go_wp2_with fail
    refine (W2.out _).mono ?_
    rintro e w' ⟨rfl, rfl⟩
    go_wp2_with fail
    refine (S'.out _).mono ?_
    rintro e w' ⟨rfl, rfl⟩
    go_wp2
    go_ret3
    exact ⟨ret_iii rfl rfl rfl, rfl⟩

end Go.Proofs.Ythejbdjmhallhaa
