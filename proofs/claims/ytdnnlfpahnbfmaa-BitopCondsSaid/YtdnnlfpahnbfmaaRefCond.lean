/- Conditions: what the document's Cond answers; and both where there is no such condition. -/
import Derived.Test.YtdnnlfpahnbfmaaCond
namespace Go.Proofs.Ytdnnlfpahnbfmaa
open Go.RowKit Pl

theorem rt (fl k : Nat) : ((fl : Int) / (k : Int) % 2 == 1) = hasF fl k := by
  unfold hasF
  have e : ((fl : Int) / (k : Int) % 2) = ((fl / k % 2 : Nat) : Int) := by simp
  rw [e, Bool.eq_iff_iff]
  simp only [beq_iff_eq]
  omega
theorem rt1 (fl : Nat) : ((fl : Int) % 2 == 1) = hasF fl 1 := by rw [← rt fl 1]; simp
theorem rt4 (fl : Nat) : ((fl : Int) / 4 % 2 == 1) = hasF fl 4 := rt fl 4
theorem rt16 (fl : Nat) : ((fl : Int) / 16 % 2 == 1) = hasF fl 16 := rt fl 16
theorem rt64 (fl : Nat) : ((fl : Int) / 64 % 2 == 1) = hasF fl 64 := rt fl 64
theorem rt128 (fl : Nat) : ((fl : Int) / 128 % 2 == 1) = hasF fl 128 := rt fl 128
theorem rt2048 (fl : Nat) : ((fl : Int) / 2048 % 2 == 1) = hasF fl 2048 := rt fl 2048
theorem rt1p (fl : Nat) : ((fl : Int) % 2 = 1) = (hasF fl 1 = true) := by rw [← rt1 fl]; simp
theorem rt64p (fl : Nat) : ((fl : Int) / 64 % 2 = 1) = (hasF fl 64 = true) := by rw [← rt64 fl]; simp

set_option maxHeartbeats 4000000 in
theorem refcond_ok (k : Int) (h0 : 0 ≤ k) (h1 : k < 16) (fl : Nat) (w : World) :
    Calls Try.prog 12 #[.int .i64 k, .int .u32 fl] w fun e w' => e = .returned (.tuple #[.bool (condS k.toNat fl), .int .i64 0]) ∧ w = w' := by
  rcases (by omega : k = 0 ∨ k = 1 ∨ k = 2 ∨ k = 3 ∨ k = 4 ∨ k = 5 ∨ k = 6 ∨ k = 7 ∨ k = 8 ∨ k = 9 ∨ k = 10 ∨ k = 11 ∨ k = 12 ∨ k = 13 ∨ k = 14 ∨ k = 15) with rfl | rfl | rfl | rfl | rfl | rfl | rfl | rfl | rfl | rfl | rfl | rfl | rfl | rfl | rfl | rfl
  all_goals
    clear h0 h1
    go_enter Try.func12, Try.ntmps12
    go_wp2
    all_goals
      go_ret2
      refine ⟨ret_bi (a := _) (c := 0) ?_ rfl, rfl⟩
      simp only [rt1, rt4, rt64, rt128, rt2048, rt1p, rt64p, condS] at *
      generalize hasF fl 1 = c at *
      generalize hasF fl 4 = p at *
      generalize hasF fl 64 = z at *
      generalize hasF fl 128 = s at *
      generalize hasF fl 2048 = o at *
      revert c p z s o
      decide

theorem cond_no (k : Int) (h : k < 0 ∨ 15 < k) (fl : Int) (w : World) :
    Calls Try.prog 11 #[.int .i64 k, .int .u32 fl] w fun e w' => e = .returned (.tuple #[.bool false, .int .i64 3]) ∧ w = w' := by
  by_cases h0 : k < 0
  · clear h
    go_enter Try.func11, Try.ntmps11
    go_wp2
    go_ret2
    exact ⟨rfl, rfl⟩
  · have h1 : 15 < k := by omega
    clear h
    go_enter Try.func11, Try.ntmps11
    go_wp2
    go_ret2
    exact ⟨rfl, rfl⟩
theorem refcond_no (k : Int) (h : k < 0 ∨ 15 < k) (fl : Int) (w : World) :
    Calls Try.prog 12 #[.int .i64 k, .int .u32 fl] w fun e w' => e = .returned (.tuple #[.bool false, .int .i64 3]) ∧ w = w' := by
  by_cases h0 : k < 0
  · clear h
    go_enter Try.func12, Try.ntmps12
    go_wp2
    go_ret2
    exact ⟨rfl, rfl⟩
  · have h1 : 15 < k := by omega
    clear h
    go_enter Try.func12, Try.ntmps12
    go_wp2
    go_ret2
    exact ⟨rfl, rfl⟩
end Go.Proofs.Ytdnnlfpahnbfmaa
