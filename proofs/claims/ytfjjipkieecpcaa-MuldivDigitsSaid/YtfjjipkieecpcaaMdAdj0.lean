/- The program's Adjust at the values of the laws' heads. -/
import Derived.Test.YtfjjipkieecpcaaMdClos
namespace Go.Proofs.Ytfjjipkieecpcaa
open Go.RowKit Pl
set_option linter.unusedVariables false

theorem adW_cell1 (w : World) : (adW w).cell? ⟨w.heap.size + 1, 0, none⟩ = some (.int .u8 1) := by
  unfold adW onTop onTop onTop onTop onTop
  rw [World.cell?_alloc_past _ _ _ (by simp), World.cell?_alloc_past _ _ _ (by simp), World.cell?_alloc_past _ _ _ (by simp), World.cell?_alloc_at _ _ _ _ (by simp)]
  rfl
theorem adW_size (w : World) : (adW w).heap.size = w.heap.size + 5 := by
  unfold adW onTop onTop onTop onTop onTop
  simp
theorem adW_below (w : World) : Below w.heap.size w (adW w) := by
  unfold adW onTop onTop onTop onTop onTop
  repeat (first | exact Below.refl _ _ | refine Below.alloc ?_ (by simp <;> omega) _)
theorem ad_look0 (w : World) : (Instr.lookup 56 (.map (some w.heap.size)) (.int .i64 0) true).run Try.prog (adW w) = .ok (.tuple #[.func (.func 39) #[] #[.pointer (some ⟨w.heap.size + 1, 0, none⟩)], .bool true]) (adW w) :=
  find_top w _ _ _ _ (adE w) 6 0 .nilFunc (some (0, .func (.func 39) #[] #[.pointer (some ⟨w.heap.size + 1, 0, none⟩)])) ad_under int_under ad_zero rfl

set_option maxRecDepth 20000 in
set_option maxHeartbeats 400000 in
theorem adj_awake (w : World) : Calls Try.prog 16 #[.int .i64 0, .int .u32 154, .int .u32 0, .int .u32 0, .int .u32 0] w fun e w' => e = .returned (.tuple #[.int .u32 0, .int .u32 0, .int .u32 85, .bool true, .int .i64 0]) ∧ Below w.heap.size w w' := by
  have LK := hide (ad_look0 w)
  have hc := adW_cell1 w
  have hs := adW_size w
  have hb := adW_below w
  have A := hide (adjustments_ok w)
  generalize adW w = Wx at *
  have C := hide (c39 Wx (w.heap.size + 1) (by omega) hc)
  have FL : ∀ w, Calls Try.prog 20 #[.int .i64 1, .int .u32 0, .int .u32 17] w fun e w' => e = .returned (.tuple #[.int .u32 85, .int .i64 0]) ∧ w = w' := by
    intro w
    have h := flags_ok 1 (.inl rfl) 0 17 (by decide) (by decide) w
    have e1 : byF (0 % 2 ^ (8 * Int.toNat 1)) (8 * Int.toNat 1) 17 = 85 := by decide
    rw [e1] at h
    exact h
  have HF := hide FL
  have b1 : bits .and .u32 0 1 = 0 := by decide
  have b2 : bits .and .u32 0 16 = 0 := by decide
  have b3 : bits .andNot .u32 0 2065 = 0 := by decide
  have b4 : bits .or .u32 0 1 = 1 := by decide
  have b5 : bits .or .u32 1 16 = 17 := by decide
  unfold dg at C
  clear FL hc hs
  go_enter Try.func16, Try.ntmps16
  go_wp2_with fail
  refine A.out.mono ?_
  rintro e w' ⟨rfl, rfl⟩
  go_wp2_with fail
  rw [LK.out]
  go_wp2_with fail
  refine C.out.mono ?_
  rintro e w' ⟨rfl, n, rfl⟩
  go_wp2_with fail
  refine (HF.out _).mono ?_
  rintro e w2 ⟨rfl, rfl⟩
  go_wp2_with fail
  go_quiet (fail)
  go_wp2
  refine bodyPost_ret (results_tmp5 rfl _ _ _) rfl ?_
  refine ⟨rfl, ?_⟩
  repeat (first | exact hb | apply below_drewN | refine Below.alloc ?_ hb.size _)
end Go.Proofs.Ytfjjipkieecpcaa
