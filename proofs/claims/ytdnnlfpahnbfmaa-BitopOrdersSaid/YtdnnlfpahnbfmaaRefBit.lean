/- One bit looked at, and changed: what the document's Bit answers; and both where there is none. -/
import Derived.Test.YtdnnlfpahnbfmaaBit
namespace Go.Proofs.Ytdnnlfpahnbfmaa
open Go.RowKit Pl

theorem was_int (x k : Nat) (b : Bool) (h : hasF x (2 ^ k) = b) : (((x : Int) / 2 ^ k).tmod 2 == 1) = b ∧ ((x : Int) / ((2 ^ k : Nat) : Int) % 2 == 1) = b := by
  have e : (x : Int) / 2 ^ k = ((x / 2 ^ k : Nat) : Int) := by simp
  have e' : (x : Int) / ((2 ^ k : Nat) : Int) = ((x / 2 ^ k : Nat) : Int) := by simp
  rw [e, e', ← h]
  unfold hasF
  generalize x / 2 ^ k = q
  have : ((q : Int).tmod 2) = ((q % 2 : Nat) : Int) := by rw [Int.tmod_eq_emod_of_nonneg (by omega)]; simp
  rw [this]
  constructor
  · rcases (by omega : q % 2 = 0 ∨ q % 2 = 1) with h | h <;> simp [h]
  · have : ((q : Int) % 2) = ((q % 2 : Nat) : Int) := by simp
    rw [this]
    rcases (by omega : q % 2 = 0 ∨ q % 2 = 1) with h | h <;> simp [h]

set_option maxRecDepth 20000 in
set_option maxHeartbeats 4000000 in
theorem refbit_ok (op size : Int) (ho : op = 0 ∨ op = 1 ∨ op = 2 ∨ op = 3) (hs : size = 2 ∨ size = 4) (a n fl : Nat) (ha : a < 4294967296) (hn : n < 4294967296) (hf : fl < 4294967296) (w : World) :
    Calls Try.prog 14 #[.int .i64 op, .int .i64 size, .int .u32 a, .int .u32 n, .int .u32 fl] w fun e w' => e = .returned (.tuple #[.int .u32 ((bitR op.toNat (8 * size.toNat) a n : Nat) : Int), .int .u32 ((bitF (8 * size.toNat) a n fl : Nat) : Int), .int .i64 0]) ∧ w = w' := by
  have HF := hide hf
  clear hf
  rcases hs with rfl | rfl
  · have hP := (pow_int (n % 16) (by omega)).1
    have hP0 := (pow_int (n % 16) (by omega)).2
    have hx : a % 65536 < 4294967296 := by omega
    rcases hb : hasF (a % 65536) (2 ^ (n % 16))
    all_goals
      have hT := (was_int _ _ _ hb).1
      have HK := hide fun is => set_plain (a % 65536) (2 ^ (n % 16)) is (Nat.two_pow_pos _) hx (setF_lt _ _ _ (by omega) hx) _ (was_int _ _ _ hb).2
      have HB := hide hb
      rw [show ((a % 65536 : Nat) : Int) = (a : Int) % 65536 by simp] at hT
      clear hb hx
      rcases ho with rfl | rfl | rfl | rfl
      all_goals
        go_enter Try.func14, Try.ntmps14
        go_wp2_with (first | (go_at_call 25; refine (set_ok _ _ _ (by decide) HF.out _).mono ?_; rintro e w' ⟨rfl, rfl⟩) | go_in)
        go_ret3
        refine ⟨ret_iii ?_ ?_ rfl, rfl⟩
        · simp only [bitR, Int.reduceToNat, Nat.reduceMul, Nat.reducePow, HB.out]
          first
            | simpa [hP] using HK.out true
            | simpa [hP] using HK.out false
        · simp only [bitF, Int.reduceToNat, Nat.reduceMul, Nat.reducePow, HB.out]
  · have hP := (pow_int (n % 32) (by omega)).1
    have hP0 := (pow_int (n % 32) (by omega)).2
    have hx : a % 4294967296 < 4294967296 := by omega
    rcases hb : hasF (a % 4294967296) (2 ^ (n % 32))
    all_goals
      have hT := (was_int _ _ _ hb).1
      have HK := hide fun is => set_plain (a % 4294967296) (2 ^ (n % 32)) is (Nat.two_pow_pos _) hx (setF_lt _ _ _ (by omega) hx) _ (was_int _ _ _ hb).2
      have HB := hide hb
      rw [show ((a % 4294967296 : Nat) : Int) = (a : Int) % 4294967296 by simp] at hT
      clear hb hx
      rcases ho with rfl | rfl | rfl | rfl
      all_goals
        go_enter Try.func14, Try.ntmps14
        go_wp2_with (first | (go_at_call 25; refine (set_ok _ _ _ (by decide) HF.out _).mono ?_; rintro e w' ⟨rfl, rfl⟩) | go_in)
        go_ret3
        refine ⟨ret_iii ?_ ?_ rfl, rfl⟩
        · simp only [bitR, Int.reduceToNat, Nat.reduceMul, Nat.reducePow, HB.out]
          first
            | simpa [hP] using HK.out true
            | simpa [hP] using HK.out false
        · simp only [bitF, Int.reduceToNat, Nat.reduceMul, Nat.reducePow, HB.out]

theorem bit_size (op size : Int) (h2 : ¬ size = 2) (h4 : ¬ size = 4) (a n fl : Int) (w : World) :
    Calls Try.prog 13 #[.int .i64 op, .int .i64 size, .int .u32 a, .int .u32 n, .int .u32 fl] w fun e w' => e = .returned (.tuple #[.int .u32 0, .int .u32 0, .int .i64 2]) ∧ w = w' := by
  have k2 : (size != 2) = true := by simpa using h2
  have k4 : (size != 4) = true := by simpa using h4
  clear h2 h4
  go_enter Try.func13, Try.ntmps13
  go_wp2
  go_ret3
  exact ⟨rfl, rfl⟩
theorem refbit_size (op size : Int) (h2 : ¬ size = 2) (h4 : ¬ size = 4) (a n fl : Int) (w : World) :
    Calls Try.prog 14 #[.int .i64 op, .int .i64 size, .int .u32 a, .int .u32 n, .int .u32 fl] w fun e w' => e = .returned (.tuple #[.int .u32 0, .int .u32 0, .int .i64 2]) ∧ w = w' := by
  have k2 : (size != 2) = true := by simpa using h2
  have k4 : (size != 4) = true := by simpa using h4
  clear h2 h4
  go_enter Try.func14, Try.ntmps14
  go_wp2
  go_ret3
  exact ⟨rfl, rfl⟩
theorem bit_op (op size : Int) (hs : size = 2 ∨ size = 4) (ho : op < 0 ∨ 3 < op) (a n fl : Int) (w : World) :
    Calls Try.prog 13 #[.int .i64 op, .int .i64 size, .int .u32 a, .int .u32 n, .int .u32 fl] w fun e w' => e = .returned (.tuple #[.int .u32 0, .int .u32 0, .int .i64 3]) ∧ w = w' := by
  rcases hs with rfl | rfl
  all_goals
    by_cases ho0 : op < 0
    all_goals
      first
        | (have ho3 : 3 < op := by omega)
        | skip
      clear ho
      go_enter Try.func13, Try.ntmps13
      go_wp2
      go_ret3
      exact ⟨rfl, rfl⟩
theorem refbit_op (op size : Int) (hs : size = 2 ∨ size = 4) (ho : op < 0 ∨ 3 < op) (a n fl : Int) (w : World) :
    Calls Try.prog 14 #[.int .i64 op, .int .i64 size, .int .u32 a, .int .u32 n, .int .u32 fl] w fun e w' => e = .returned (.tuple #[.int .u32 0, .int .u32 0, .int .i64 3]) ∧ w = w' := by
  rcases hs with rfl | rfl
  all_goals
    by_cases ho0 : op < 0
    all_goals
      first
        | (have ho3 : 3 < op := by omega)
        | skip
      clear ho
      go_enter Try.func14, Try.ntmps14
      go_wp2
      go_ret3
      exact ⟨rfl, rfl⟩
end Go.Proofs.Ytdnnlfpahnbfmaa
