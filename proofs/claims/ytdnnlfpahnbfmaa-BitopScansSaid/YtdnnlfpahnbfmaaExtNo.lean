/- Where there is no such size: what Extend and Scan answer. -/
import Derived.Test.YtdnnlfpahnbfmaaScan
namespace Go.Proofs.Ytdnnlfpahnbfmaa
open Go.RowKit Pl

set_option maxHeartbeats 4000000 in
theorem ext_no (signed : Bool) (f t : Int) (h : ¬ (f = 1 ∧ t = 1 ∨ f = 1 ∧ t = 2 ∨ f = 1 ∧ t = 4 ∨ f = 2 ∧ t = 2 ∨ f = 2 ∧ t = 4 ∨ f = 4 ∧ t = 4)) (a : Int) (w : World) :
    Calls Try.prog 17 #[.bool signed, .int .i64 f, .int .i64 t, .int .u32 a] w fun e w' => e = .returned (.tuple #[.int .u32 0, .int .i64 2]) ∧ w = w' := by
  by_cases hf : f = 1 ∨ f = 2 ∨ f = 4
  · by_cases ht : t = 1 ∨ t = 2 ∨ t = 4
    · rcases hf with rfl | rfl | rfl <;> rcases ht with rfl | rfl | rfl
      all_goals first
        | (exfalso; omega)
        | (clear h
           go_enter Try.func17, Try.ntmps17
           go_wp2
           go_ret2
           exact ⟨rfl, rfl⟩)
    · have t1 : (t == 1) = false := by simp; omega
      have t2 : (t == 2) = false := by simp; omega
      have t4 : (t == 4) = false := by simp; omega
      clear h ht
      rcases hf with rfl | rfl | rfl
      all_goals
        go_enter Try.func17, Try.ntmps17
        go_wp2
        go_ret2
        exact ⟨rfl, rfl⟩
  · have t1 : (f == 1) = false := by simp; omega
    have t2 : (f == 2) = false := by simp; omega
    have t4 : (f == 4) = false := by simp; omega
    clear h hf
    go_enter Try.func17, Try.ntmps17
    go_wp2
    go_ret2
    exact ⟨rfl, rfl⟩
set_option maxHeartbeats 4000000 in
theorem refext_no (signed : Bool) (f t : Int) (h : ¬ (f = 1 ∧ t = 1 ∨ f = 1 ∧ t = 2 ∨ f = 1 ∧ t = 4 ∨ f = 2 ∧ t = 2 ∨ f = 2 ∧ t = 4 ∨ f = 4 ∧ t = 4)) (a : Int) (w : World) :
    Calls Try.prog 18 #[.bool signed, .int .i64 f, .int .i64 t, .int .u32 a] w fun e w' => e = .returned (.tuple #[.int .u32 0, .int .i64 2]) ∧ w = w' := by
  by_cases hf : f = 1 ∨ f = 2 ∨ f = 4
  · by_cases ht : t = 1 ∨ t = 2 ∨ t = 4
    · rcases hf with rfl | rfl | rfl <;> rcases ht with rfl | rfl | rfl
      all_goals first
        | (exfalso; omega)
        | (clear h
           go_enter Try.func18, Try.ntmps18
           go_wp2
           go_ret2
           exact ⟨rfl, rfl⟩)
    · have t1 : (t == 1) = false := by simp; omega
      have t2 : (t == 2) = false := by simp; omega
      have t4 : (t == 4) = false := by simp; omega
      clear h ht
      rcases hf with rfl | rfl | rfl
      all_goals
        go_enter Try.func18, Try.ntmps18
        go_wp2
        go_ret2
        exact ⟨rfl, rfl⟩
  · have t1 : (f == 1) = false := by simp; omega
    have t2 : (f == 2) = false := by simp; omega
    have t4 : (f == 4) = false := by simp; omega
    clear h hf
    by_cases u1 : t = 1
    · subst u1
      go_enter Try.func18, Try.ntmps18
      go_wp2
      go_ret2
      exact ⟨rfl, rfl⟩
    · by_cases u2 : t = 2
      · subst u2
        go_enter Try.func18, Try.ntmps18
        go_wp2
        go_ret2
        exact ⟨rfl, rfl⟩
      · by_cases u4 : t = 4
        · subst u4
          go_enter Try.func18, Try.ntmps18
          go_wp2
          go_ret2
          exact ⟨rfl, rfl⟩
        · have v1 : (t == 1) = false := by simp; omega
          have v2 : (t == 2) = false := by simp; omega
          have v4 : (t == 4) = false := by simp; omega
          clear u1 u2 u4
          go_enter Try.func18, Try.ntmps18
          go_wp2
          go_ret2
          exact ⟨rfl, rfl⟩

theorem scan_no (up : Bool) (size : Int) (h2 : ¬ size = 2) (h4 : ¬ size = 4) (a fl : Int) (w : World) :
    Calls Try.prog 15 #[.bool up, .int .i64 size, .int .u32 a, .int .u32 fl] w fun e w' => e = .returned (.tuple #[.int .u32 0, .bool false, .int .u32 0, .int .i64 2]) ∧ w = w' := by
  have k2 : (size != 2) = true := by simpa using h2
  have k4 : (size != 4) = true := by simpa using h4
  clear h2 h4
  go_enter Try.func15, Try.ntmps15
  go_wp2
  go_step3
  go_wp2
  try rw [Exit.noGoto_ret]
  refine bodyPost_ret (results_tmp4 rfl _ _ _) rfl ?_
  exact ⟨rfl, rfl⟩
theorem refscan_no (up : Bool) (size : Int) (h2 : ¬ size = 2) (h4 : ¬ size = 4) (a fl : Int) (w : World) :
    Calls Try.prog 16 #[.bool up, .int .i64 size, .int .u32 a, .int .u32 fl] w fun e w' => e = .returned (.tuple #[.int .u32 0, .bool false, .int .u32 0, .int .i64 2]) ∧ w = w' := by
  have k2 : (size != 2) = true := by simpa using h2
  have k4 : (size != 4) = true := by simpa using h4
  clear h2 h4
  go_enter Try.func16, Try.ntmps16
  go_wp2
  refine bodyPost_ret (results_tmp4 rfl _ _ _) rfl ?_
  exact ⟨rfl, rfl⟩
end Go.Proofs.Ytdnnlfpahnbfmaa
