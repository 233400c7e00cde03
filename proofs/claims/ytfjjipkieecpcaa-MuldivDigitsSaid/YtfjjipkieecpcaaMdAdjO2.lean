/- The program's Adjust, operation 2. -/
import Derived.Test.YtfjjipkieecpcaaMdAdjB
namespace Go.Proofs.Ytfjjipkieecpcaa
open Go.RowKit Pl
set_option linter.unusedVariables false

set_option maxRecDepth 20000 in
set_option maxHeartbeats 1000000 in
theorem adj2_ff (al ah base fl x y b X Y g0 g1 g2 G : Nat) (k1 k2 : Int) (cf af : Bool) (hal : al < 4294967296) (hah : ah < 4294967296) (hba : base < 4294967296) (hfl : fl < 4294967296)
    (ex : (al : Int) % 256 = (x : Int)) (ey : (ah : Int) % 256 = (y : Int)) (eb : (base : Int) % 256 = (b : Int)) (hx : x < 256) (hy : y < 256) (hb : b < 256) (hX : X < 256) (hY : Y < 256)
    (b1 : bits .and .u32 (fl : Int) 1 = k1) (t1 : (k1 != 0) = cf) (b2 : bits .and .u32 (fl : Int) 16 = k2) (t2 : (k2 != 0) = af)
    (b3 : bits .andNot .u32 (fl : Int) 2065 = (g0 : Int))
    (qX : apA false x af = X) (qY : apH false x y af = Y) (qc : loB x af = false)
    (FL : ∀ w, Calls Try.prog 20 #[.int .i64 1, .int .u32 X, .int .u32 g0] w fun e w' => e = .returned (.tuple #[.int .u32 (G : Int), .int .i64 0]) ∧ w = w') (w : World) :
    Calls Try.prog 16 #[.int .i64 2, .int .u32 al, .int .u32 ah, .int .u32 base, .int .u32 fl] w fun e w' => e = .returned (.tuple #[.int .u32 (X : Int), .int .u32 (Y : Int), .int .u32 (G : Int), .bool true, .int .i64 0]) ∧ Below w.heap.size w w' := by
  have LK := hide (ad_lk2 w)
  have hc := ad_cl2 w
  have hs := adW_size w
  have hbw := adW_below w
  have A := hide (adjustments_ok w)
  generalize adW w = Wx at *
  have c0 := apart_a Wx (w.heap.size + 1 + 1 + 1) (by omega) hc x y b cf af hx hy

  rw [qX, qY, qc] at c0
  have C := hide c0
  have HF := hide FL
  unfold dg at C
  clear c0 FL hs hc qX qY qc
  go_enter Try.func16, Try.ntmps16
  go_wp2_with fail
  refine A.out.mono ?_
  rintro e w' ⟨rfl, rfl⟩
  go_wp2_with fail
  rw [LK.out]
  go_wp2_with fail
  refine C.out.mono ?_
  rintro e w' ⟨rfl, n, rfl⟩
  go_wp2_with fail
  refine (HF.out _).mono ?_
  rintro e w2 ⟨rfl, rfl⟩
  go_wp2_with fail
  go_quiet (fail)
  go_wp2
  refine bodyPost_ret (results_tmp5 rfl _ _ _) rfl ?_
  refine ⟨rfl, ?_⟩
  repeat (first | exact hbw | apply below_drewN | refine Below.alloc ?_ hbw.size _)
set_option maxRecDepth 20000 in
set_option maxHeartbeats 1000000 in
theorem adj2_tt (al ah base fl x y b X Y g0 g1 g2 G : Nat) (k1 k2 : Int) (cf af : Bool) (hal : al < 4294967296) (hah : ah < 4294967296) (hba : base < 4294967296) (hfl : fl < 4294967296)
    (ex : (al : Int) % 256 = (x : Int)) (ey : (ah : Int) % 256 = (y : Int)) (eb : (base : Int) % 256 = (b : Int)) (hx : x < 256) (hy : y < 256) (hb : b < 256) (hX : X < 256) (hY : Y < 256)
    (b1 : bits .and .u32 (fl : Int) 1 = k1) (t1 : (k1 != 0) = cf) (b2 : bits .and .u32 (fl : Int) 16 = k2) (t2 : (k2 != 0) = af)
    (b3 : bits .andNot .u32 (fl : Int) 2065 = (g0 : Int)) (b4 : bits .or .u32 (g0 : Int) 1 = (g1 : Int)) (b5 : bits .or .u32 (g1 : Int) 16 = (g2 : Int))
    (qX : apA false x af = X) (qY : apH false x y af = Y) (qc : loB x af = true)
    (FL : ∀ w, Calls Try.prog 20 #[.int .i64 1, .int .u32 X, .int .u32 g2] w fun e w' => e = .returned (.tuple #[.int .u32 (G : Int), .int .i64 0]) ∧ w = w') (w : World) :
    Calls Try.prog 16 #[.int .i64 2, .int .u32 al, .int .u32 ah, .int .u32 base, .int .u32 fl] w fun e w' => e = .returned (.tuple #[.int .u32 (X : Int), .int .u32 (Y : Int), .int .u32 (G : Int), .bool true, .int .i64 0]) ∧ Below w.heap.size w w' := by
  have LK := hide (ad_lk2 w)
  have hc := ad_cl2 w
  have hs := adW_size w
  have hbw := adW_below w
  have A := hide (adjustments_ok w)
  generalize adW w = Wx at *
  have c0 := apart_a Wx (w.heap.size + 1 + 1 + 1) (by omega) hc x y b cf af hx hy

  rw [qX, qY, qc] at c0
  have C := hide c0
  have HF := hide FL
  unfold dg at C
  clear c0 FL hs hc qX qY qc
  go_enter Try.func16, Try.ntmps16
  go_wp2_with fail
  refine A.out.mono ?_
  rintro e w' ⟨rfl, rfl⟩
  go_wp2_with fail
  rw [LK.out]
  go_wp2_with fail
  refine C.out.mono ?_
  rintro e w' ⟨rfl, n, rfl⟩
  go_wp2_with fail
  refine (HF.out _).mono ?_
  rintro e w2 ⟨rfl, rfl⟩
  go_wp2_with fail
  go_quiet (fail)
  go_wp2
  refine bodyPost_ret (results_tmp5 rfl _ _ _) rfl ?_
  refine ⟨rfl, ?_⟩
  repeat (first | exact hbw | apply below_drewN | refine Below.alloc ?_ hbw.size _)
end Go.Proofs.Ytfjjipkieecpcaa
