/- The document's Double, whatever its arguments. -/
import Derived.Test.YtlchhlfnndeicaaShRefDo
import Derived.Test.YtlchhlfnndeicaaShRefDbl2
import Derived.Test.YtlchhlfnndeicaaShRefDbl4
import Derived.Test.YtlchhlfnndeicaaShSpec2
namespace Go.Proofs.Ytlchhlfnndeicaa
open Go.RowKit Pl
set_option linter.unusedVariables false

set_option maxRecDepth 20000 in
theorem refdb_size (to : Bool) (s : Int) (h2 : ¬ s = 2) (h4 : ¬ s = 4) (a b c fl : Int) (w : World) :
    Calls Try.prog 14 #[.bool to, .int .i64 s, .int .u32 a, .int .u32 b, .int .u32 c, .int .u32 fl] w fun e w' => e = .returned (.tuple #[.int .u32 0, .int .u32 0, .int .i64 2]) ∧ Below w.heap.size w w' := by
  have k2 : (s != 2) = true := by simpa using h2
  have k4 : (s != 4) = true := by simpa using h4
  clear h2 h4
  go_enter Try.func14, Try.ntmps14
  go_wp2
  go_ret3
  exact ⟨rfl, Below.refl _ _⟩

set_option maxRecDepth 20000 in
set_option maxHeartbeats 1000000 in
theorem refdb_zero (to : Bool) (s : Int) (hs : s = 2 ∨ s = 4) (a b c fl : Nat) (ha : a < 4294967296) (hb : b < 4294967296) (hk : c % 32 = 0) (w : World) :
    Calls Try.prog 14 #[.bool to, .int .i64 s, .int .u32 a, .int .u32 b, .int .u32 c, .int .u32 fl] w fun e w' => e = .returned (.tuple #[.int .u32 ((a % 2 ^ (8 * s.toNat) : Nat) : Int), .int .u32 fl, .int .i64 0]) ∧ Below w.heap.size w w' := by
  have e3 : (c : Int) % 32 = 0 := by omega
  obtain ⟨B, hsb, eB⟩ : ∃ B : Int, (s = 2 ∧ B = 16 ∨ s = 4 ∧ B = 32) ∧ B.toNat = 8 * s.toNat := by
    rcases hs with rfl | rfl
    · exact ⟨16, by decide, by decide⟩
    · exact ⟨32, by decide, by decide⟩
  rw [← eB]
  have V1 : ∀ w, Calls Try.prog 21 #[.int .u64 (a : Int), .int .i64 B] w fun e w' => e = .returned (.int .u64 ((a % 2 ^ B.toNat : Nat) : Int)) ∧ w = w' := fun w => cut_ok a B (by omega) (by omega) w
  have V2 : ∀ w, Calls Try.prog 21 #[.int .u64 (b : Int), .int .i64 B] w fun e w' => e = .returned (.int .u64 ((b % 2 ^ B.toNat : Nat) : Int)) ∧ w = w' := fun w => cut_ok b B (by omega) (by omega) w
  have hx : a % 2 ^ B.toNat < 4294967296 := Nat.lt_of_le_of_lt (Nat.mod_le _ _) ha
  generalize a % 2 ^ B.toNat = x at *
  generalize b % 2 ^ B.toNat = y at *
  have W1 := hide V1
  have W2 := hide V2
  clear V1 V2 eB hs hk
  rcases hsb with ⟨rfl, rfl⟩ | ⟨rfl, rfl⟩
  all_goals
    go_enter Try.func14, Try.ntmps14
    go_wp2_with fail
    refine (W1.out _).mono ?_
    rintro e w' ⟨rfl, rfl⟩
    go_wp2_with fail
    refine (W2.out _).mono ?_
    rintro e w' ⟨rfl, rfl⟩
    go_wp2
    go_ret3
    exact ⟨ret_iii rfl rfl rfl, Below.refl _ _⟩

theorem refdb_ok (to : Bool) (s : Int) (hs : s = 2 ∨ s = 4) (a b c fl : Nat) (ha : a < 4294967296) (hb : b < 4294967296) (hf : fl < 4294967296) (w : World) :
    Calls Try.prog 14 #[.bool to, .int .i64 s, .int .u32 a, .int .u32 b, .int .u32 c, .int .u32 fl] w fun e w' => e = .returned (.tuple #[.int .u32 ((dDoR to (8 * s.toNat) (a % 2 ^ (8 * s.toNat)) (b % 2 ^ (8 * s.toNat)) (c % 32) : Nat) : Int), .int .u32 ((dDoF to (8 * s.toNat) (a % 2 ^ (8 * s.toNat)) (b % 2 ^ (8 * s.toNat)) (c % 32) fl : Nat) : Int), .int .i64 0]) ∧ Below w.heap.size w w' := by
  unfold dDoR dDoF
  rcases Nat.eq_zero_or_pos (c % 32) with hk | hk
  · rw [if_pos hk, if_pos hk]
    exact refdb_zero to s hs a b c fl ha hb hk w
  · rw [if_neg (by omega), if_neg (by omega)]
    rcases hs with rfl | rfl
    · rw [show 2 ^ (8 * Int.toNat 2) = 65536 by decide, show 8 * Int.toNat 2 = 16 by decide]
      cases to
      · exact refdbl2_false a b c fl ha hb hf hk w
      · exact refdbl2_true a b c fl ha hb hf hk w
    · rw [show 2 ^ (8 * Int.toNat 4) = 4294967296 by decide, show 8 * Int.toNat 4 = 32 by decide]
      cases to
      · exact refdbl4_false a b c fl ha hb hf hk w
      · exact refdbl4_true a b c fl ha hb hf hk w
end Go.Proofs.Ytlchhlfnndeicaa
