/- The calls at the head of the laws of layer 4: they answer true. -/
import Derived.Test.YtdnnlfpahnbfmaaCond
import Derived.Test.YtdnnlfpahnbfmaaExt
import Derived.Test.YtdnnlfpahnbfmaaSwap
namespace Go.Proofs.Ytdnnlfpahnbfmaa
open Go.RowKit Pl

set_option maxHeartbeats 1000000 in
theorem awake_ok (w : World) : Calls Try.prog 10 #[] w fun e w' => e = .returned (.bool true) ∧ Below w.heap.size w w' := by
  have c1 : ∀ w, Calls Try.prog 11 #[.int .i64 12, .int .u32 128] w fun e w' => e = .returned (.tuple #[.bool true, .int .i64 0]) ∧ Below w.heap.size w w' := fun w => cond_ok 12 (by decide) (by decide) 128 (by decide) w
  have c2 : ∀ w, Calls Try.prog 13 #[.int .i64 3, .int .i64 2, .int .u32 1, .int .u32 17, .int .u32 0] w fun e w' => e = .returned (.tuple #[.int .u32 3, .int .u32 0, .int .i64 0]) ∧ w = w' := fun w => bit_ok 3 2 (by decide) (by decide) 1 17 0 (by decide) (by decide) (by decide) w
  have c3 : ∀ w, Calls Try.prog 15 #[.bool true, .int .i64 4, .int .u32 40, .int .u32 0] w fun e w' => e = .returned (.tuple #[.int .u32 3, .bool true, .int .u32 0, .int .i64 0]) ∧ w = w' := fun w => scan_up 4 (by decide) 40 0 40 (by decide) (by decide) (by decide) (fun w => value32 40 (by decide) w) w
  have c4 : ∀ w, Calls Try.prog 17 #[.bool true, .int .i64 1, .int .i64 4, .int .u32 128] w fun e w' => e = .returned (.tuple #[.int .u32 4294967168, .int .i64 0]) ∧ w = w' := fun w => ext_ok true 1 4 (by decide) 128 (by decide) w
  have c5 : ∀ w, Calls Try.prog 19 #[.int .u32 16909060] w fun e w' => e = .returned (.int .u32 67305985) ∧ w = w' := fun w => swap_ok 16909060 (by decide) w
  have C1 := hide c1
  have C2 := hide c2
  have C3 := hide c3
  have C4 := hide c4
  have C5 := hide c5
  clear c1 c2 c3 c4 c5
  go_enter Try.func10, Try.ntmps10
  go_wp2_with (first
    | (go_at_call 11; refine (C1.out _).mono ?_; rintro e w1 ⟨rfl, hb⟩)
    | (go_at_call 13; refine (C2.out _).mono ?_; rintro e w' ⟨rfl, rfl⟩)
    | (go_at_call 15; refine (C3.out _).mono ?_; rintro e w' ⟨rfl, rfl⟩)
    | (go_at_call 17; refine (C4.out _).mono ?_; rintro e w' ⟨rfl, rfl⟩)
    | (go_at_call 19; refine (C5.out _).mono ?_; rintro e w' ⟨rfl, rfl⟩))
  go_ret
  exact ⟨rfl, hb⟩
end Go.Proofs.Ytdnnlfpahnbfmaa
