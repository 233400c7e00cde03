/- The flags of a result: what the document's Flags answers; and both Do's where there is no such operation. -/
import Derived.Test.YthejbdjmhallhaaRefAlu
import Derived.Test.YthejbdjmhallhaaAluSum
namespace Go.Proofs.Ythejbdjmhallhaa
open Go.RowKit Pl

set_option maxRecDepth 20000 in
set_option maxHeartbeats 1000000 in
theorem refflags_ok (s : Int) (hs : s = 1 ∨ s = 2 ∨ s = 4) (r fl : Nat) (hr : r < 4294967296) (hf : fl < 4294967296) (w : World) :
    Calls Try.prog 14 #[.int .i64 s, .int .u32 r, .int .u32 fl] w fun e w' => e = .returned (.tuple #[.int .u32 ((byF (r % 2 ^ (8 * s.toNat)) (8 * s.toNat) fl : Nat) : Int), .int .i64 0]) ∧ w = w' := by
  obtain ⟨B, hsb, eB⟩ : ∃ B : Int, (s = 1 ∧ B = 8 ∨ s = 2 ∧ B = 16 ∨ s = 4 ∧ B = 32) ∧ B.toNat = 8 * s.toNat := by
    rcases hs with rfl | rfl | rfl
    · exact ⟨8, by decide, by decide⟩
    · exact ⟨16, by decide, by decide⟩
    · exact ⟨32, by decide, by decide⟩
  rw [← eB]
  have hB : B = 8 ∨ B = 16 ∨ B = 32 := by omega
  have V1 : ∀ w, Calls Try.prog 24 #[.int .u64 (r : Int), .int .i64 B] w fun e w' => e = .returned (.int .u64 ((r % 2 ^ B.toNat : Nat) : Int)) ∧ w = w' := fun w => cut_ok r B (by omega) hB w
  have V2 := fun w => by_ok (r % 2 ^ B.toNat) fl B hB hf w
  generalize byF (r % 2 ^ B.toNat) B.toNat fl = rf at *
  generalize r % 2 ^ B.toNat = x at *
  have W1 := hide V1
  have W2 := hide V2
  clear V1 V2 hf eB hB hs
  rcases hsb with ⟨rfl, rfl⟩ | ⟨rfl, rfl⟩ | ⟨rfl, rfl⟩
  all_goals
    go_enter Try.func14, Try.ntmps14
    go_wp2_with (go_at_call 23; go_in)
    refine (W1.out _).mono ?_
    rintro e w' ⟨rfl, rfl⟩
    go_wp2_with fail
    refine (W2.out _).mono ?_
    rintro e w' ⟨rfl, rfl⟩
    go_wp2
    go_ret2
    exact ⟨rfl, rfl⟩
theorem refflags_no (s : Int) (h1 : ¬ s = 1) (h2 : ¬ s = 2) (h4 : ¬ s = 4) (r fl : Int) (w : World) :
    Calls Try.prog 14 #[.int .i64 s, .int .u32 r, .int .u32 fl] w fun e w' => e = .returned (.tuple #[.int .u32 0, .int .i64 2]) ∧ w = w' := by
  have k1 : (s == 1) = false := by simpa using h1
  have k2 : (s == 2) = false := by simpa using h2
  have k4 : (s == 4) = false := by simpa using h4
  clear h1 h2 h4
  go_enter Try.func14, Try.ntmps14
  go_wp2
  go_ret2
  exact ⟨rfl, rfl⟩

set_option maxRecDepth 20000 in
theorem do_size (op s : Int) (h1 : ¬ s = 1) (h2 : ¬ s = 2) (h4 : ¬ s = 4) (a b fl : Int) (w : World) :
    Calls Try.prog 11 #[.int .i64 op, .int .i64 s, .int .u32 a, .int .u32 b, .int .u32 fl] w fun e w' => e = .returned (.tuple #[.int .u32 0, .int .u32 0, .int .i64 2]) ∧ Below w.heap.size w w' := by
  have k1 : (s != 1) = true := by simpa using h1
  have k2 : (s != 2) = true := by simpa using h2
  have k4 : (s != 4) = true := by simpa using h4
  clear h1 h2 h4
  go_enter Try.func11, Try.ntmps11
  go_wp2
  go_ret3
  exact ⟨rfl, (Below.refl _ _).alloc (Nat.le_refl _) _⟩
set_option maxRecDepth 20000 in
theorem refdo_size (op s : Int) (h1 : ¬ s = 1) (h2 : ¬ s = 2) (h4 : ¬ s = 4) (a b fl : Int) (w : World) :
    Calls Try.prog 12 #[.int .i64 op, .int .i64 s, .int .u32 a, .int .u32 b, .int .u32 fl] w fun e w' => e = .returned (.tuple #[.int .u32 0, .int .u32 0, .int .i64 2]) ∧ w = w' := by
  have k1 : (s == 1) = false := by simpa using h1
  have k2 : (s == 2) = false := by simpa using h2
  have k4 : (s == 4) = false := by simpa using h4
  clear h1 h2 h4
  go_enter Try.func12, Try.ntmps12
  go_wp2
  go_ret3
  exact ⟨rfl, rfl⟩
set_option maxRecDepth 20000 in
set_option maxHeartbeats 1000000 in
theorem do_op (op s : Int) (hs : s = 1 ∨ s = 2 ∨ s = 4) (ho : op < 0 ∨ 12 < op) (a b fl : Int) (w : World) :
    Calls Try.prog 11 #[.int .i64 op, .int .i64 s, .int .u32 a, .int .u32 b, .int .u32 fl] w fun e w' => e = .returned (.tuple #[.int .u32 0, .int .u32 0, .int .i64 3]) ∧ Below w.heap.size w w' := by
  rcases hs with rfl | rfl | rfl
  all_goals
    by_cases ho0 : op < 0
    all_goals
      first
        | (have ho3 : 12 < op := by omega)
        | skip
      clear ho
      go_enter Try.func11, Try.ntmps11
      go_wp2
      go_ret3
      exact ⟨rfl, (Below.refl _ _).alloc (Nat.le_refl _) _⟩
set_option maxRecDepth 20000 in
set_option maxHeartbeats 1000000 in
theorem refdo_op (op s : Int) (hs : s = 1 ∨ s = 2 ∨ s = 4) (ho : op < 0 ∨ 12 < op) (a b fl : Int) (w : World) :
    Calls Try.prog 12 #[.int .i64 op, .int .i64 s, .int .u32 a, .int .u32 b, .int .u32 fl] w fun e w' => e = .returned (.tuple #[.int .u32 0, .int .u32 0, .int .i64 3]) ∧ w = w' := by
  rcases hs with rfl | rfl | rfl
  all_goals
    by_cases ho0 : op < 0
    all_goals
      first
        | (have ho3 : 12 < op := by omega)
        | skip
      clear ho
      go_enter Try.func12, Try.ntmps12
      go_wp2
      go_ret3
      exact ⟨rfl, rfl⟩
end Go.Proofs.Ythejbdjmhallhaa
