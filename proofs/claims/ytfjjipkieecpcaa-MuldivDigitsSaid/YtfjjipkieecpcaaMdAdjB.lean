/- What the table of adjustments holds. -/
import Derived.Test.YtfjjipkieecpcaaMdAdj0
import Derived.Test.YtfjjipkieecpcaaMdPk
namespace Go.Proofs.Ytfjjipkieecpcaa
open Go.RowKit Pl
set_option linter.unusedVariables false

theorem ad_lk0 (w : World) : (Instr.lookup 56 (.map (some w.heap.size)) (.int .i64 0) true).run Try.prog (adW w) = .ok (.tuple #[.func (.func 39) #[] #[.pointer (some ⟨w.heap.size + 1, 0, none⟩)], .bool true]) (adW w) :=
  find_top w _ _ _ _ (adE w) 6 0 .nilFunc (some (0, .func (.func 39) #[] #[.pointer (some ⟨w.heap.size + 1, 0, none⟩)])) ad_under int_under ad_zero rfl
theorem ad_cl0 (w : World) : (adW w).cell? ⟨w.heap.size + 1, 0, none⟩ = some (.int .u8 1) := by
  unfold adW onTop onTop onTop onTop onTop
  rw [World.cell?_alloc_past _ _ _ (by simp), World.cell?_alloc_past _ _ _ (by simp), World.cell?_alloc_past _ _ _ (by simp), World.cell?_alloc_at _ _ _ _ (by simp)]
  rfl
theorem ad_lk1 (w : World) : (Instr.lookup 56 (.map (some w.heap.size)) (.int .i64 1) true).run Try.prog (adW w) = .ok (.tuple #[.func (.func 39) #[] #[.pointer (some ⟨w.heap.size + 1 + 1, 0, none⟩)], .bool true]) (adW w) :=
  find_top w _ _ _ _ (adE w) 6 1 .nilFunc (some (1, .func (.func 39) #[] #[.pointer (some ⟨w.heap.size + 1 + 1, 0, none⟩)])) ad_under int_under ad_zero rfl
theorem ad_cl1 (w : World) : (adW w).cell? ⟨w.heap.size + 1 + 1, 0, none⟩ = some (.int .u8 255) := by
  unfold adW onTop onTop onTop onTop onTop
  rw [World.cell?_alloc_past _ _ _ (by simp), World.cell?_alloc_past _ _ _ (by simp), World.cell?_alloc_at _ _ _ _ (by simp)]
  rfl
theorem ad_lk2 (w : World) : (Instr.lookup 56 (.map (some w.heap.size)) (.int .i64 2) true).run Try.prog (adW w) = .ok (.tuple #[.func (.func 42) #[] #[.pointer (some ⟨w.heap.size + 1 + 1 + 1, 0, none⟩)], .bool true]) (adW w) :=
  find_top w _ _ _ _ (adE w) 6 2 .nilFunc (some (2, .func (.func 42) #[] #[.pointer (some ⟨w.heap.size + 1 + 1 + 1, 0, none⟩)])) ad_under int_under ad_zero rfl
theorem ad_cl2 (w : World) : (adW w).cell? ⟨w.heap.size + 1 + 1 + 1, 0, none⟩ = some (.int .u8 1) := by
  unfold adW onTop onTop onTop onTop onTop
  rw [World.cell?_alloc_past _ _ _ (by simp), World.cell?_alloc_at _ _ _ _ (by simp)]
  rfl
theorem ad_lk3 (w : World) : (Instr.lookup 56 (.map (some w.heap.size)) (.int .i64 3) true).run Try.prog (adW w) = .ok (.tuple #[.func (.func 42) #[] #[.pointer (some ⟨w.heap.size + 1 + 1 + 1 + 1, 0, none⟩)], .bool true]) (adW w) :=
  find_top w _ _ _ _ (adE w) 6 3 .nilFunc (some (3, .func (.func 42) #[] #[.pointer (some ⟨w.heap.size + 1 + 1 + 1 + 1, 0, none⟩)])) ad_under int_under ad_zero rfl
theorem ad_cl3 (w : World) : (adW w).cell? ⟨w.heap.size + 1 + 1 + 1 + 1, 0, none⟩ = some (.int .u8 255) := by
  unfold adW onTop onTop onTop onTop onTop
  rw [World.cell?_alloc_at _ _ _ _ (by simp)]
  rfl
theorem ad_lk4 (w : World) : (Instr.lookup 56 (.map (some w.heap.size)) (.int .i64 4) true).run Try.prog (adW w) = .ok (.tuple #[.func (.func 43) #[] #[], .bool true]) (adW w) :=
  find_top w _ _ _ _ (adE w) 6 4 .nilFunc (some (4, .func (.func 43) #[] #[])) ad_under int_under ad_zero rfl
theorem ad_lk5 (w : World) : (Instr.lookup 56 (.map (some w.heap.size)) (.int .i64 5) true).run Try.prog (adW w) = .ok (.tuple #[.func (.func 44) #[] #[], .bool true]) (adW w) :=
  find_top w _ _ _ _ (adE w) 6 5 .nilFunc (some (5, .func (.func 44) #[] #[])) ad_under int_under ad_zero rfl
theorem ad_lkno (w : World) (n : Int) (h : n < 0 ∨ 5 < n) : (Instr.lookup 56 (.map (some w.heap.size)) (.int .i64 n) true).run Try.prog (adW w) = .ok (.tuple #[.nilFunc, .bool false]) (adW w) := by
  refine find_top w _ _ _ _ (adE w) 6 n .nilFunc none ad_under int_under ad_zero ?_
  have k0 : (n == 0) = false := by simp; omega
  have k1 : (n == 1) = false := by simp; omega
  have k2 : (n == 2) = false := by simp; omega
  have k3 : (n == 3) = false := by simp; omega
  have k4 : (n == 4) = false := by simp; omega
  have k5 : (n == 5) = false := by simp; omega
  simp [adE, Instr.findNow, Instr.sameNow, k0, k1, k2, k3, k4, k5]
set_option maxRecDepth 20000 in
set_option maxHeartbeats 1000000 in
theorem adj_no (n : Int) (h : n < 0 ∨ 5 < n) (a b c d : Int) (w : World) :
    Calls Try.prog 16 #[.int .i64 n, .int .u32 a, .int .u32 b, .int .u32 c, .int .u32 d] w fun e w' => e = .returned (.tuple #[.int .u32 0, .int .u32 0, .int .u32 0, .bool false, .int .i64 3]) ∧ Below w.heap.size w w' := by
  have LK := hide (ad_lkno w n h)
  have hbw := adW_below w
  have A := hide (adjustments_ok w)
  generalize adW w = Wx at *
  clear h
  go_enter Try.func16, Try.ntmps16
  go_wp2_with fail
  refine A.out.mono ?_
  rintro e w' ⟨rfl, rfl⟩
  go_wp2_with fail
  rw [LK.out]
  go_wp2
  refine bodyPost_ret (results_tmp5 rfl _ _ _) rfl ?_
  exact ⟨rfl, hbw⟩
set_option maxRecDepth 20000 in
set_option maxHeartbeats 1000000 in
theorem adj4_z (al ah base fl x y : Nat) (k1 k2 : Int) (cf af : Bool) (hal : al < 4294967296) (hah : ah < 4294967296) (hba : base < 4294967296) (hfl : fl < 4294967296)
    (ex : (al : Int) % 256 = (x : Int)) (ey : (ah : Int) % 256 = (y : Int)) (eb : (base : Int) % 256 = 0) (hx : x < 256) (hy : y < 256)
    (b1 : bits .and .u32 (fl : Int) 1 = k1) (t1 : (k1 != 0) = cf) (b2 : bits .and .u32 (fl : Int) 16 = k2) (t2 : (k2 != 0) = af) (w : World) :
    Calls Try.prog 16 #[.int .i64 4, .int .u32 al, .int .u32 ah, .int .u32 base, .int .u32 fl] w fun e w' => e = .returned (.tuple #[.int .u32 0, .int .u32 0, .int .u32 0, .bool false, .int .i64 0]) ∧ Below w.heap.size w w' := by
  have LK := hide (ad_lk4 w)
  have hbw := adW_below w
  have A := hide (adjustments_ok w)
  generalize adW w = Wx at *
  have C := hide (aam_z Wx x y cf af hx)
  unfold dg at C
  go_enter Try.func16, Try.ntmps16
  go_wp2_with fail
  refine A.out.mono ?_
  rintro e w' ⟨rfl, rfl⟩
  go_wp2_with fail
  rw [LK.out]
  go_wp2_with fail
  refine C.out.mono ?_
  rintro e w' ⟨rfl, n, rfl⟩
  go_wp2
  refine bodyPost_ret (results_tmp5 rfl _ _ _) rfl ?_
  refine ⟨rfl, ?_⟩
  repeat (first | exact hbw | apply below_drewN | refine Below.alloc ?_ hbw.size _)
end Go.Proofs.Ytfjjipkieecpcaa
